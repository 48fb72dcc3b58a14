/- A function of the program as a pure function, and that the program computes it. -/
import Derived.Test.YtjhbobacbaikoaaGreatDoorM4
import Derived.Test.YtjhbobacbaikoaaGreatDoorM5
namespace Go.Proofs.YtjhbobacbaikoaaGreatDoor
open Go
set_option linter.unusedVariables false
set_option linter.unusedSimpArgs false
set_option maxRecDepth 100000
def p_shape_Serve (n : Nat) (x0 : TServe) (x1 : Int) : Option Int :=
(bif x0.gVariation != 0 then
(p_shape_when n ((decide (x0.gVariation < 1)) || (decide (x0.gVariation > x1))) 3).bind fun v2 =>
(p_shape_when n ((((!(seq' x0.gKind ByteArray.empty)) || (!(seq' x0.gBy ByteArray.empty))) || (!(seq' x0.gSalt ByteArray.empty))) || (decide ((lI x0.gSplit) > 0))) 15).bind fun v3 =>
(p_shape_first n ([v2, v3])).bind fun v4 =>
 some (v4)
 else
(p_text_Key n x0.gKind).bind fun v5 =>
(bif !(!v5) then p_text_Key n x0.gBy else some (false)).bind fun v6 =>
(p_shape_when n ((!v5) || (!v6)) 6).bind fun v7 =>
(p_text_Valid n x0.gSalt).bind fun v8 =>
(p_shape_when n (!v8) 2).bind fun v9 =>
(p_shape_Split n x0.gSplit x1).bind fun v10 =>
(p_shape_first n ([v7, v9, v10])).bind fun v11 =>
 some (v11))
variable {E : Env}
theorem s_shape_Serve {n : Nat} (hG : GlobT E) {x0 : TServe} {x1 : Int} {r : Int} (H : p_shape_Serve n x0 x1 = some r) :
    Sp Tryz.prog E 32 [.agg (TServe.cs x0), iA x1] [] (isA (iA r) []) := by
  unfold p_shape_Serve at H
  refine Sp_fn Tryz.func32 rfl (fun hc hs => ?_)
  refine AWP_reg (R 2 62 [(1, iA x1), (2, .ptr 0 0)] [.cells 56 (TServe.cs x0)] (AOps_done (AWP_seq (AWP_reg (Rh 3 62 [(1, iA x1), (2, .ptr 0 0), (7, bA (x0.gVariation != 0))] (AOps_done (CD H (fun hb1 H => ?_) (fun hb1 H => ?_))))))))
  · obtain ⟨v2, hv2, H⟩ := bind_some H
    obtain ⟨v3, hv3, H⟩ := bind_some H
    obtain ⟨v4, hv4, H⟩ := bind_some H
    refine AWP_regD1 [0, 1, 2, 3, 4, 5, 6, 7, 8, 10, 11, 12, 9, 13, 14, 15, 16, 17, 18, 19, 20, 21, 22, 23, 24, 25, 26, 27, 28, 29, 30, 31, 32] (N := 62) (f := [(1, iA x1), (2, .ptr 0 0)]) (leL_of [1, 2] (by kernel_rfl)) mixed (by kernel_rfl) (by kernel_rfl) (st' := fr 62 [(4, iA v4)]) (h' := [.cells 56 (TServe.cs x0)]) ?_ ?_
    rotate_left
    · refine RD 4 62 [(1, 0), (0, 0)] [(1, iA x1), (2, .ptr 0 0), (8, .ptr 0 0), (9, iA x0.gVariation), (10, bA (decide (x0.gVariation < 1))), (11, bA (decide (x0.gVariation < 1)))] ?_
      cases c1 : (decide (x0.gVariation < 1) : Bool) with
      | true =>
        refine RD 8 62 [(11, 0), (10, 0), (1, 0), (0, 0)] [(1, iA x1), (2, .ptr 0 0), (8, .ptr 0 0), (9, iA x0.gVariation), (10, bA true), (11, bA true), (12, undefA), (13, undefA), (14, undefA), (15, undefA), (16, bA (true || (decide (x0.gVariation > x1)))), (18, .ptr 0 1), (19, sA x0.gKind), (20, bA (!(seq' x0.gKind ByteArray.empty)))] ?_
        try rw [c1] at hv2
        refine AD_callp (d := (some 17)) (al := [bA (true || (decide (x0.gVariation > x1))), iA 3]) (r := iA v2) (by kernel_rfl) (s_shape_when hv2) ⟨trivial, trivial, trivial⟩ trivial ?_
        refine RD 1 62 [(11, 0), (10, 0), (1, 0), (0, 0)] [(1, iA x1), (2, .ptr 0 0), (8, .ptr 0 0), (9, iA x0.gVariation), (10, bA true), (11, bA true), (12, undefA), (13, undefA), (14, undefA), (15, undefA), (16, bA (true || (decide (x0.gVariation > x1)))), (17, iA v2), (18, .ptr 0 1), (19, sA x0.gKind), (20, bA (!(seq' x0.gKind ByteArray.empty))), (21, bA (!(seq' x0.gKind ByteArray.empty)))] ?_
        cases c2 : (seq' x0.gKind ByteArray.empty : Bool) with
        | true =>
          refine RD 5 62 [(15, 0), (14, 0), (11, 0), (10, 0), (1, 0), (0, 0)] [(1, iA x1), (2, .ptr 0 0), (8, .ptr 0 0), (9, iA x0.gVariation), (10, bA true), (11, bA true), (12, undefA), (13, undefA), (14, undefA), (15, undefA), (16, bA (true || (decide (x0.gVariation > x1)))), (17, iA v2), (18, .ptr 0 1), (19, sA x0.gKind), (20, bA (!true)), (21, bA (!true)), (22, .ptr 0 2), (23, sA x0.gBy), (24, bA (!(seq' x0.gBy ByteArray.empty))), (25, bA ((!true) || (!(seq' x0.gBy ByteArray.empty)))), (26, bA ((!true) || (!(seq' x0.gBy ByteArray.empty))))] ?_
          cases c3 : (seq' x0.gBy ByteArray.empty : Bool) with
          | true =>
            refine RD 5 62 [(20, 0), (19, 0), (15, 0), (14, 0), (11, 0), (10, 0), (1, 0), (0, 0)] [(1, iA x1), (2, .ptr 0 0), (8, .ptr 0 0), (9, iA x0.gVariation), (10, bA true), (11, bA true), (12, undefA), (13, undefA), (14, undefA), (15, undefA), (16, bA (true || (decide (x0.gVariation > x1)))), (17, iA v2), (18, .ptr 0 1), (19, sA x0.gKind), (20, bA (!true)), (21, bA (!true)), (22, .ptr 0 2), (23, sA x0.gBy), (24, bA (!true)), (25, bA ((!true) || (!true))), (26, bA ((!true) || (!true))), (27, .ptr 0 3), (28, sA x0.gSalt), (29, bA (!(seq' x0.gSalt ByteArray.empty))), (30, bA (((!true) || (!true)) || (!(seq' x0.gSalt ByteArray.empty)))), (31, bA (((!true) || (!true)) || (!(seq' x0.gSalt ByteArray.empty))))] ?_
            cases c4 : (seq' x0.gSalt ByteArray.empty : Bool) with
            | true =>
              refine RD 5 62 [(25, 0), (24, 0), (20, 0), (19, 0), (15, 0), (14, 0), (11, 0), (10, 0), (1, 0), (0, 0)] [(1, iA x1), (2, .ptr 0 0), (8, .ptr 0 0), (9, iA x0.gVariation), (10, bA true), (11, bA true), (12, undefA), (13, undefA), (14, undefA), (15, undefA), (16, bA (true || (decide (x0.gVariation > x1)))), (17, iA v2), (18, .ptr 0 1), (19, sA x0.gKind), (20, bA (!true)), (21, bA (!true)), (22, .ptr 0 2), (23, sA x0.gBy), (24, bA (!true)), (25, bA ((!true) || (!true))), (26, bA ((!true) || (!true))), (27, .ptr 0 3), (28, sA x0.gSalt), (29, bA (!true)), (30, bA (((!true) || (!true)) || (!true))), (31, bA (((!true) || (!true)) || (!true))), (32, .ptr 0 4), (33, .ro .unk x0.gSplit.length (TRange.cl x0.gSplit)), (34, iA (lI x0.gSplit)), (35, bA (decide ((lI x0.gSplit) > 0))), (36, bA ((((!true) || (!true)) || (!true)) || (decide ((lI x0.gSplit) > 0))))] ?_
              try rw [c1] at hv3
              try rw [c2] at hv3
              try rw [c3] at hv3
              try rw [c4] at hv3
              refine AD_callp (d := (some 37)) (al := [bA ((((!true) || (!true)) || (!true)) || (decide ((lI x0.gSplit) > 0))), iA 15]) (r := iA v3) (by kernel_rfl) (s_shape_when hv3) ⟨trivial, trivial, trivial⟩ trivial ?_
              refine AD_bsl (d := (some 38)) (m := 2) (cs := [iA v2, iA v3]) (by kernel_rfl) ⟨trivial, trivial, trivial⟩ ?_
              refine AD_callp (d := (some 39)) (al := [.ro .unk ([v2, v3]).length (cl_i64 ([v2, v3]))]) (r := iA v4) (by kernel_rfl) (s_shape_first hv4) ⟨(scl_cl_i64 _ _), trivial⟩ trivial ?_
              refine RD 1 62 [(25, 0), (24, 0), (20, 0), (19, 0), (15, 0), (14, 0), (11, 0), (10, 0), (1, 0), (0, 0)] [(1, iA x1), (2, .ptr 0 0), (4, iA v4), (8, .ptr 0 0), (9, iA x0.gVariation), (10, bA true), (11, bA true), (12, undefA), (13, undefA), (14, undefA), (15, undefA), (16, bA (true || (decide (x0.gVariation > x1)))), (17, iA v2), (18, .ptr 0 1), (19, sA x0.gKind), (20, bA (!true)), (21, bA (!true)), (22, .ptr 0 2), (23, sA x0.gBy), (24, bA (!true)), (25, bA ((!true) || (!true))), (26, bA ((!true) || (!true))), (27, .ptr 0 3), (28, sA x0.gSalt), (29, bA (!true)), (30, bA (((!true) || (!true)) || (!true))), (31, bA (((!true) || (!true)) || (!true))), (32, .ptr 0 4), (33, .ro .unk x0.gSplit.length (TRange.cl x0.gSplit)), (34, iA (lI x0.gSplit)), (35, bA (decide ((lI x0.gSplit) > 0))), (36, bA ((((!true) || (!true)) || (!true)) || (decide ((lI x0.gSplit) > 0)))), (37, iA v3), (38, .ro .unk ([v2, v3]).length (cl_i64 ([v2, v3]))), (39, iA v4)] ?_
              exact AD_here [4] (by kernel_rfl) rfl
            | false =>
              refine RD 5 62 [(20, 0), (19, 0), (15, 0), (14, 0), (11, 0), (10, 0), (1, 0), (0, 0)] [(1, iA x1), (2, .ptr 0 0), (8, .ptr 0 0), (9, iA x0.gVariation), (10, bA true), (11, bA true), (12, undefA), (13, undefA), (14, undefA), (15, undefA), (16, bA (true || (decide (x0.gVariation > x1)))), (17, iA v2), (18, .ptr 0 1), (19, sA x0.gKind), (20, bA (!true)), (21, bA (!true)), (22, .ptr 0 2), (23, sA x0.gBy), (24, bA (!true)), (25, bA ((!true) || (!true))), (26, bA ((!true) || (!true))), (27, .ptr 0 3), (28, sA x0.gSalt), (29, bA (!false)), (30, bA (((!true) || (!true)) || (!false))), (31, bA (((!true) || (!true)) || (!false))), (32, undefA), (33, undefA), (34, undefA), (35, undefA), (36, bA ((((!true) || (!true)) || (!false)) || (decide ((lI x0.gSplit) > 0))))] ?_
              try rw [c1] at hv3
              try rw [c2] at hv3
              try rw [c3] at hv3
              try rw [c4] at hv3
              refine AD_callp (d := (some 37)) (al := [bA ((((!true) || (!true)) || (!false)) || (decide ((lI x0.gSplit) > 0))), iA 15]) (r := iA v3) (by kernel_rfl) (s_shape_when hv3) ⟨trivial, trivial, trivial⟩ trivial ?_
              refine AD_bsl (d := (some 38)) (m := 2) (cs := [iA v2, iA v3]) (by kernel_rfl) ⟨trivial, trivial, trivial⟩ ?_
              refine AD_callp (d := (some 39)) (al := [.ro .unk ([v2, v3]).length (cl_i64 ([v2, v3]))]) (r := iA v4) (by kernel_rfl) (s_shape_first hv4) ⟨(scl_cl_i64 _ _), trivial⟩ trivial ?_
              refine RD 1 62 [(20, 0), (19, 0), (15, 0), (14, 0), (11, 0), (10, 0), (1, 0), (0, 0)] [(1, iA x1), (2, .ptr 0 0), (4, iA v4), (8, .ptr 0 0), (9, iA x0.gVariation), (10, bA true), (11, bA true), (12, undefA), (13, undefA), (14, undefA), (15, undefA), (16, bA (true || (decide (x0.gVariation > x1)))), (17, iA v2), (18, .ptr 0 1), (19, sA x0.gKind), (20, bA (!true)), (21, bA (!true)), (22, .ptr 0 2), (23, sA x0.gBy), (24, bA (!true)), (25, bA ((!true) || (!true))), (26, bA ((!true) || (!true))), (27, .ptr 0 3), (28, sA x0.gSalt), (29, bA (!false)), (30, bA (((!true) || (!true)) || (!false))), (31, bA (((!true) || (!true)) || (!false))), (32, undefA), (33, undefA), (34, undefA), (35, undefA), (36, bA ((((!true) || (!true)) || (!false)) || (decide ((lI x0.gSplit) > 0)))), (37, iA v3), (38, .ro .unk ([v2, v3]).length (cl_i64 ([v2, v3]))), (39, iA v4)] ?_
              exact AD_here [4] (by kernel_rfl) rfl
          | false =>
            refine RD 10 62 [(15, 0), (14, 0), (11, 0), (10, 0), (1, 0), (0, 0)] [(1, iA x1), (2, .ptr 0 0), (8, .ptr 0 0), (9, iA x0.gVariation), (10, bA true), (11, bA true), (12, undefA), (13, undefA), (14, undefA), (15, undefA), (16, bA (true || (decide (x0.gVariation > x1)))), (17, iA v2), (18, .ptr 0 1), (19, sA x0.gKind), (20, bA (!true)), (21, bA (!true)), (22, .ptr 0 2), (23, sA x0.gBy), (24, bA (!false)), (25, bA ((!true) || (!false))), (26, bA ((!true) || (!false))), (27, undefA), (28, undefA), (29, undefA), (30, bA (((!true) || (!false)) || (!(seq' x0.gSalt ByteArray.empty)))), (31, bA (((!true) || (!false)) || (!(seq' x0.gSalt ByteArray.empty)))), (32, undefA), (33, undefA), (34, undefA), (35, undefA), (36, bA ((((!true) || (!false)) || (!(seq' x0.gSalt ByteArray.empty))) || (decide ((lI x0.gSplit) > 0))))] ?_
            try rw [c1] at hv3
            try rw [c2] at hv3
            try rw [c3] at hv3
            refine AD_callp (d := (some 37)) (al := [bA ((((!true) || (!false)) || (!(seq' x0.gSalt ByteArray.empty))) || (decide ((lI x0.gSplit) > 0))), iA 15]) (r := iA v3) (by kernel_rfl) (s_shape_when hv3) ⟨trivial, trivial, trivial⟩ trivial ?_
            refine AD_bsl (d := (some 38)) (m := 2) (cs := [iA v2, iA v3]) (by kernel_rfl) ⟨trivial, trivial, trivial⟩ ?_
            refine AD_callp (d := (some 39)) (al := [.ro .unk ([v2, v3]).length (cl_i64 ([v2, v3]))]) (r := iA v4) (by kernel_rfl) (s_shape_first hv4) ⟨(scl_cl_i64 _ _), trivial⟩ trivial ?_
            refine RD 1 62 [(15, 0), (14, 0), (11, 0), (10, 0), (1, 0), (0, 0)] [(1, iA x1), (2, .ptr 0 0), (4, iA v4), (8, .ptr 0 0), (9, iA x0.gVariation), (10, bA true), (11, bA true), (12, undefA), (13, undefA), (14, undefA), (15, undefA), (16, bA (true || (decide (x0.gVariation > x1)))), (17, iA v2), (18, .ptr 0 1), (19, sA x0.gKind), (20, bA (!true)), (21, bA (!true)), (22, .ptr 0 2), (23, sA x0.gBy), (24, bA (!false)), (25, bA ((!true) || (!false))), (26, bA ((!true) || (!false))), (27, undefA), (28, undefA), (29, undefA), (30, bA (((!true) || (!false)) || (!(seq' x0.gSalt ByteArray.empty)))), (31, bA (((!true) || (!false)) || (!(seq' x0.gSalt ByteArray.empty)))), (32, undefA), (33, undefA), (34, undefA), (35, undefA), (36, bA ((((!true) || (!false)) || (!(seq' x0.gSalt ByteArray.empty))) || (decide ((lI x0.gSplit) > 0)))), (37, iA v3), (38, .ro .unk ([v2, v3]).length (cl_i64 ([v2, v3]))), (39, iA v4)] ?_
            exact AD_here [4] (by kernel_rfl) rfl
        | false =>
          refine RD 15 62 [(11, 0), (10, 0), (1, 0), (0, 0)] [(1, iA x1), (2, .ptr 0 0), (8, .ptr 0 0), (9, iA x0.gVariation), (10, bA true), (11, bA true), (12, undefA), (13, undefA), (14, undefA), (15, undefA), (16, bA (true || (decide (x0.gVariation > x1)))), (17, iA v2), (18, .ptr 0 1), (19, sA x0.gKind), (20, bA (!false)), (21, bA (!false)), (22, undefA), (23, undefA), (24, undefA), (25, bA ((!false) || (!(seq' x0.gBy ByteArray.empty)))), (26, bA ((!false) || (!(seq' x0.gBy ByteArray.empty)))), (27, undefA), (28, undefA), (29, undefA), (30, bA (((!false) || (!(seq' x0.gBy ByteArray.empty))) || (!(seq' x0.gSalt ByteArray.empty)))), (31, bA (((!false) || (!(seq' x0.gBy ByteArray.empty))) || (!(seq' x0.gSalt ByteArray.empty)))), (32, undefA), (33, undefA), (34, undefA), (35, undefA), (36, bA ((((!false) || (!(seq' x0.gBy ByteArray.empty))) || (!(seq' x0.gSalt ByteArray.empty))) || (decide ((lI x0.gSplit) > 0))))] ?_
          try rw [c1] at hv3
          try rw [c2] at hv3
          refine AD_callp (d := (some 37)) (al := [bA ((((!false) || (!(seq' x0.gBy ByteArray.empty))) || (!(seq' x0.gSalt ByteArray.empty))) || (decide ((lI x0.gSplit) > 0))), iA 15]) (r := iA v3) (by kernel_rfl) (s_shape_when hv3) ⟨trivial, trivial, trivial⟩ trivial ?_
          refine AD_bsl (d := (some 38)) (m := 2) (cs := [iA v2, iA v3]) (by kernel_rfl) ⟨trivial, trivial, trivial⟩ ?_
          refine AD_callp (d := (some 39)) (al := [.ro .unk ([v2, v3]).length (cl_i64 ([v2, v3]))]) (r := iA v4) (by kernel_rfl) (s_shape_first hv4) ⟨(scl_cl_i64 _ _), trivial⟩ trivial ?_
          refine RD 1 62 [(11, 0), (10, 0), (1, 0), (0, 0)] [(1, iA x1), (2, .ptr 0 0), (4, iA v4), (8, .ptr 0 0), (9, iA x0.gVariation), (10, bA true), (11, bA true), (12, undefA), (13, undefA), (14, undefA), (15, undefA), (16, bA (true || (decide (x0.gVariation > x1)))), (17, iA v2), (18, .ptr 0 1), (19, sA x0.gKind), (20, bA (!false)), (21, bA (!false)), (22, undefA), (23, undefA), (24, undefA), (25, bA ((!false) || (!(seq' x0.gBy ByteArray.empty)))), (26, bA ((!false) || (!(seq' x0.gBy ByteArray.empty)))), (27, undefA), (28, undefA), (29, undefA), (30, bA (((!false) || (!(seq' x0.gBy ByteArray.empty))) || (!(seq' x0.gSalt ByteArray.empty)))), (31, bA (((!false) || (!(seq' x0.gBy ByteArray.empty))) || (!(seq' x0.gSalt ByteArray.empty)))), (32, undefA), (33, undefA), (34, undefA), (35, undefA), (36, bA ((((!false) || (!(seq' x0.gBy ByteArray.empty))) || (!(seq' x0.gSalt ByteArray.empty))) || (decide ((lI x0.gSplit) > 0)))), (37, iA v3), (38, .ro .unk ([v2, v3]).length (cl_i64 ([v2, v3]))), (39, iA v4)] ?_
          exact AD_here [4] (by kernel_rfl) rfl
      | false =>
        refine RD 8 62 [(11, 0), (10, 0), (5, 0), (4, 0), (1, 0), (0, 0)] [(1, iA x1), (2, .ptr 0 0), (8, .ptr 0 0), (9, iA x0.gVariation), (10, bA false), (11, bA false), (12, .ptr 0 0), (13, iA x0.gVariation), (14, iA x1), (15, bA (decide (x0.gVariation > x1))), (16, bA (false || (decide (x0.gVariation > x1)))), (18, .ptr 0 1), (19, sA x0.gKind), (20, bA (!(seq' x0.gKind ByteArray.empty)))] ?_
        try rw [c1] at hv2
        refine AD_callp (d := (some 17)) (al := [bA (false || (decide (x0.gVariation > x1))), iA 3]) (r := iA v2) (by kernel_rfl) (s_shape_when hv2) ⟨trivial, trivial, trivial⟩ trivial ?_
        refine RD 1 62 [(11, 0), (10, 0), (5, 0), (4, 0), (1, 0), (0, 0)] [(1, iA x1), (2, .ptr 0 0), (8, .ptr 0 0), (9, iA x0.gVariation), (10, bA false), (11, bA false), (12, .ptr 0 0), (13, iA x0.gVariation), (14, iA x1), (15, bA (decide (x0.gVariation > x1))), (16, bA (false || (decide (x0.gVariation > x1)))), (17, iA v2), (18, .ptr 0 1), (19, sA x0.gKind), (20, bA (!(seq' x0.gKind ByteArray.empty))), (21, bA (!(seq' x0.gKind ByteArray.empty)))] ?_
        cases c2 : (seq' x0.gKind ByteArray.empty : Bool) with
        | true =>
          refine RD 5 62 [(15, 0), (14, 0), (11, 0), (10, 0), (5, 0), (4, 0), (1, 0), (0, 0)] [(1, iA x1), (2, .ptr 0 0), (8, .ptr 0 0), (9, iA x0.gVariation), (10, bA false), (11, bA false), (12, .ptr 0 0), (13, iA x0.gVariation), (14, iA x1), (15, bA (decide (x0.gVariation > x1))), (16, bA (false || (decide (x0.gVariation > x1)))), (17, iA v2), (18, .ptr 0 1), (19, sA x0.gKind), (20, bA (!true)), (21, bA (!true)), (22, .ptr 0 2), (23, sA x0.gBy), (24, bA (!(seq' x0.gBy ByteArray.empty))), (25, bA ((!true) || (!(seq' x0.gBy ByteArray.empty)))), (26, bA ((!true) || (!(seq' x0.gBy ByteArray.empty))))] ?_
          cases c3 : (seq' x0.gBy ByteArray.empty : Bool) with
          | true =>
            refine RD 5 62 [(20, 0), (19, 0), (15, 0), (14, 0), (11, 0), (10, 0), (5, 0), (4, 0), (1, 0), (0, 0)] [(1, iA x1), (2, .ptr 0 0), (8, .ptr 0 0), (9, iA x0.gVariation), (10, bA false), (11, bA false), (12, .ptr 0 0), (13, iA x0.gVariation), (14, iA x1), (15, bA (decide (x0.gVariation > x1))), (16, bA (false || (decide (x0.gVariation > x1)))), (17, iA v2), (18, .ptr 0 1), (19, sA x0.gKind), (20, bA (!true)), (21, bA (!true)), (22, .ptr 0 2), (23, sA x0.gBy), (24, bA (!true)), (25, bA ((!true) || (!true))), (26, bA ((!true) || (!true))), (27, .ptr 0 3), (28, sA x0.gSalt), (29, bA (!(seq' x0.gSalt ByteArray.empty))), (30, bA (((!true) || (!true)) || (!(seq' x0.gSalt ByteArray.empty)))), (31, bA (((!true) || (!true)) || (!(seq' x0.gSalt ByteArray.empty))))] ?_
            cases c4 : (seq' x0.gSalt ByteArray.empty : Bool) with
            | true =>
              refine RD 5 62 [(25, 0), (24, 0), (20, 0), (19, 0), (15, 0), (14, 0), (11, 0), (10, 0), (5, 0), (4, 0), (1, 0), (0, 0)] [(1, iA x1), (2, .ptr 0 0), (8, .ptr 0 0), (9, iA x0.gVariation), (10, bA false), (11, bA false), (12, .ptr 0 0), (13, iA x0.gVariation), (14, iA x1), (15, bA (decide (x0.gVariation > x1))), (16, bA (false || (decide (x0.gVariation > x1)))), (17, iA v2), (18, .ptr 0 1), (19, sA x0.gKind), (20, bA (!true)), (21, bA (!true)), (22, .ptr 0 2), (23, sA x0.gBy), (24, bA (!true)), (25, bA ((!true) || (!true))), (26, bA ((!true) || (!true))), (27, .ptr 0 3), (28, sA x0.gSalt), (29, bA (!true)), (30, bA (((!true) || (!true)) || (!true))), (31, bA (((!true) || (!true)) || (!true))), (32, .ptr 0 4), (33, .ro .unk x0.gSplit.length (TRange.cl x0.gSplit)), (34, iA (lI x0.gSplit)), (35, bA (decide ((lI x0.gSplit) > 0))), (36, bA ((((!true) || (!true)) || (!true)) || (decide ((lI x0.gSplit) > 0))))] ?_
              try rw [c1] at hv3
              try rw [c2] at hv3
              try rw [c3] at hv3
              try rw [c4] at hv3
              refine AD_callp (d := (some 37)) (al := [bA ((((!true) || (!true)) || (!true)) || (decide ((lI x0.gSplit) > 0))), iA 15]) (r := iA v3) (by kernel_rfl) (s_shape_when hv3) ⟨trivial, trivial, trivial⟩ trivial ?_
              refine AD_bsl (d := (some 38)) (m := 2) (cs := [iA v2, iA v3]) (by kernel_rfl) ⟨trivial, trivial, trivial⟩ ?_
              refine AD_callp (d := (some 39)) (al := [.ro .unk ([v2, v3]).length (cl_i64 ([v2, v3]))]) (r := iA v4) (by kernel_rfl) (s_shape_first hv4) ⟨(scl_cl_i64 _ _), trivial⟩ trivial ?_
              refine RD 1 62 [(25, 0), (24, 0), (20, 0), (19, 0), (15, 0), (14, 0), (11, 0), (10, 0), (5, 0), (4, 0), (1, 0), (0, 0)] [(1, iA x1), (2, .ptr 0 0), (4, iA v4), (8, .ptr 0 0), (9, iA x0.gVariation), (10, bA false), (11, bA false), (12, .ptr 0 0), (13, iA x0.gVariation), (14, iA x1), (15, bA (decide (x0.gVariation > x1))), (16, bA (false || (decide (x0.gVariation > x1)))), (17, iA v2), (18, .ptr 0 1), (19, sA x0.gKind), (20, bA (!true)), (21, bA (!true)), (22, .ptr 0 2), (23, sA x0.gBy), (24, bA (!true)), (25, bA ((!true) || (!true))), (26, bA ((!true) || (!true))), (27, .ptr 0 3), (28, sA x0.gSalt), (29, bA (!true)), (30, bA (((!true) || (!true)) || (!true))), (31, bA (((!true) || (!true)) || (!true))), (32, .ptr 0 4), (33, .ro .unk x0.gSplit.length (TRange.cl x0.gSplit)), (34, iA (lI x0.gSplit)), (35, bA (decide ((lI x0.gSplit) > 0))), (36, bA ((((!true) || (!true)) || (!true)) || (decide ((lI x0.gSplit) > 0)))), (37, iA v3), (38, .ro .unk ([v2, v3]).length (cl_i64 ([v2, v3]))), (39, iA v4)] ?_
              exact AD_here [4] (by kernel_rfl) rfl
            | false =>
              refine RD 5 62 [(20, 0), (19, 0), (15, 0), (14, 0), (11, 0), (10, 0), (5, 0), (4, 0), (1, 0), (0, 0)] [(1, iA x1), (2, .ptr 0 0), (8, .ptr 0 0), (9, iA x0.gVariation), (10, bA false), (11, bA false), (12, .ptr 0 0), (13, iA x0.gVariation), (14, iA x1), (15, bA (decide (x0.gVariation > x1))), (16, bA (false || (decide (x0.gVariation > x1)))), (17, iA v2), (18, .ptr 0 1), (19, sA x0.gKind), (20, bA (!true)), (21, bA (!true)), (22, .ptr 0 2), (23, sA x0.gBy), (24, bA (!true)), (25, bA ((!true) || (!true))), (26, bA ((!true) || (!true))), (27, .ptr 0 3), (28, sA x0.gSalt), (29, bA (!false)), (30, bA (((!true) || (!true)) || (!false))), (31, bA (((!true) || (!true)) || (!false))), (32, undefA), (33, undefA), (34, undefA), (35, undefA), (36, bA ((((!true) || (!true)) || (!false)) || (decide ((lI x0.gSplit) > 0))))] ?_
              try rw [c1] at hv3
              try rw [c2] at hv3
              try rw [c3] at hv3
              try rw [c4] at hv3
              refine AD_callp (d := (some 37)) (al := [bA ((((!true) || (!true)) || (!false)) || (decide ((lI x0.gSplit) > 0))), iA 15]) (r := iA v3) (by kernel_rfl) (s_shape_when hv3) ⟨trivial, trivial, trivial⟩ trivial ?_
              refine AD_bsl (d := (some 38)) (m := 2) (cs := [iA v2, iA v3]) (by kernel_rfl) ⟨trivial, trivial, trivial⟩ ?_
              refine AD_callp (d := (some 39)) (al := [.ro .unk ([v2, v3]).length (cl_i64 ([v2, v3]))]) (r := iA v4) (by kernel_rfl) (s_shape_first hv4) ⟨(scl_cl_i64 _ _), trivial⟩ trivial ?_
              refine RD 1 62 [(20, 0), (19, 0), (15, 0), (14, 0), (11, 0), (10, 0), (5, 0), (4, 0), (1, 0), (0, 0)] [(1, iA x1), (2, .ptr 0 0), (4, iA v4), (8, .ptr 0 0), (9, iA x0.gVariation), (10, bA false), (11, bA false), (12, .ptr 0 0), (13, iA x0.gVariation), (14, iA x1), (15, bA (decide (x0.gVariation > x1))), (16, bA (false || (decide (x0.gVariation > x1)))), (17, iA v2), (18, .ptr 0 1), (19, sA x0.gKind), (20, bA (!true)), (21, bA (!true)), (22, .ptr 0 2), (23, sA x0.gBy), (24, bA (!true)), (25, bA ((!true) || (!true))), (26, bA ((!true) || (!true))), (27, .ptr 0 3), (28, sA x0.gSalt), (29, bA (!false)), (30, bA (((!true) || (!true)) || (!false))), (31, bA (((!true) || (!true)) || (!false))), (32, undefA), (33, undefA), (34, undefA), (35, undefA), (36, bA ((((!true) || (!true)) || (!false)) || (decide ((lI x0.gSplit) > 0)))), (37, iA v3), (38, .ro .unk ([v2, v3]).length (cl_i64 ([v2, v3]))), (39, iA v4)] ?_
              exact AD_here [4] (by kernel_rfl) rfl
          | false =>
            refine RD 10 62 [(15, 0), (14, 0), (11, 0), (10, 0), (5, 0), (4, 0), (1, 0), (0, 0)] [(1, iA x1), (2, .ptr 0 0), (8, .ptr 0 0), (9, iA x0.gVariation), (10, bA false), (11, bA false), (12, .ptr 0 0), (13, iA x0.gVariation), (14, iA x1), (15, bA (decide (x0.gVariation > x1))), (16, bA (false || (decide (x0.gVariation > x1)))), (17, iA v2), (18, .ptr 0 1), (19, sA x0.gKind), (20, bA (!true)), (21, bA (!true)), (22, .ptr 0 2), (23, sA x0.gBy), (24, bA (!false)), (25, bA ((!true) || (!false))), (26, bA ((!true) || (!false))), (27, undefA), (28, undefA), (29, undefA), (30, bA (((!true) || (!false)) || (!(seq' x0.gSalt ByteArray.empty)))), (31, bA (((!true) || (!false)) || (!(seq' x0.gSalt ByteArray.empty)))), (32, undefA), (33, undefA), (34, undefA), (35, undefA), (36, bA ((((!true) || (!false)) || (!(seq' x0.gSalt ByteArray.empty))) || (decide ((lI x0.gSplit) > 0))))] ?_
            try rw [c1] at hv3
            try rw [c2] at hv3
            try rw [c3] at hv3
            refine AD_callp (d := (some 37)) (al := [bA ((((!true) || (!false)) || (!(seq' x0.gSalt ByteArray.empty))) || (decide ((lI x0.gSplit) > 0))), iA 15]) (r := iA v3) (by kernel_rfl) (s_shape_when hv3) ⟨trivial, trivial, trivial⟩ trivial ?_
            refine AD_bsl (d := (some 38)) (m := 2) (cs := [iA v2, iA v3]) (by kernel_rfl) ⟨trivial, trivial, trivial⟩ ?_
            refine AD_callp (d := (some 39)) (al := [.ro .unk ([v2, v3]).length (cl_i64 ([v2, v3]))]) (r := iA v4) (by kernel_rfl) (s_shape_first hv4) ⟨(scl_cl_i64 _ _), trivial⟩ trivial ?_
            refine RD 1 62 [(15, 0), (14, 0), (11, 0), (10, 0), (5, 0), (4, 0), (1, 0), (0, 0)] [(1, iA x1), (2, .ptr 0 0), (4, iA v4), (8, .ptr 0 0), (9, iA x0.gVariation), (10, bA false), (11, bA false), (12, .ptr 0 0), (13, iA x0.gVariation), (14, iA x1), (15, bA (decide (x0.gVariation > x1))), (16, bA (false || (decide (x0.gVariation > x1)))), (17, iA v2), (18, .ptr 0 1), (19, sA x0.gKind), (20, bA (!true)), (21, bA (!true)), (22, .ptr 0 2), (23, sA x0.gBy), (24, bA (!false)), (25, bA ((!true) || (!false))), (26, bA ((!true) || (!false))), (27, undefA), (28, undefA), (29, undefA), (30, bA (((!true) || (!false)) || (!(seq' x0.gSalt ByteArray.empty)))), (31, bA (((!true) || (!false)) || (!(seq' x0.gSalt ByteArray.empty)))), (32, undefA), (33, undefA), (34, undefA), (35, undefA), (36, bA ((((!true) || (!false)) || (!(seq' x0.gSalt ByteArray.empty))) || (decide ((lI x0.gSplit) > 0)))), (37, iA v3), (38, .ro .unk ([v2, v3]).length (cl_i64 ([v2, v3]))), (39, iA v4)] ?_
            exact AD_here [4] (by kernel_rfl) rfl
        | false =>
          refine RD 15 62 [(11, 0), (10, 0), (5, 0), (4, 0), (1, 0), (0, 0)] [(1, iA x1), (2, .ptr 0 0), (8, .ptr 0 0), (9, iA x0.gVariation), (10, bA false), (11, bA false), (12, .ptr 0 0), (13, iA x0.gVariation), (14, iA x1), (15, bA (decide (x0.gVariation > x1))), (16, bA (false || (decide (x0.gVariation > x1)))), (17, iA v2), (18, .ptr 0 1), (19, sA x0.gKind), (20, bA (!false)), (21, bA (!false)), (22, undefA), (23, undefA), (24, undefA), (25, bA ((!false) || (!(seq' x0.gBy ByteArray.empty)))), (26, bA ((!false) || (!(seq' x0.gBy ByteArray.empty)))), (27, undefA), (28, undefA), (29, undefA), (30, bA (((!false) || (!(seq' x0.gBy ByteArray.empty))) || (!(seq' x0.gSalt ByteArray.empty)))), (31, bA (((!false) || (!(seq' x0.gBy ByteArray.empty))) || (!(seq' x0.gSalt ByteArray.empty)))), (32, undefA), (33, undefA), (34, undefA), (35, undefA), (36, bA ((((!false) || (!(seq' x0.gBy ByteArray.empty))) || (!(seq' x0.gSalt ByteArray.empty))) || (decide ((lI x0.gSplit) > 0))))] ?_
          try rw [c1] at hv3
          try rw [c2] at hv3
          refine AD_callp (d := (some 37)) (al := [bA ((((!false) || (!(seq' x0.gBy ByteArray.empty))) || (!(seq' x0.gSalt ByteArray.empty))) || (decide ((lI x0.gSplit) > 0))), iA 15]) (r := iA v3) (by kernel_rfl) (s_shape_when hv3) ⟨trivial, trivial, trivial⟩ trivial ?_
          refine AD_bsl (d := (some 38)) (m := 2) (cs := [iA v2, iA v3]) (by kernel_rfl) ⟨trivial, trivial, trivial⟩ ?_
          refine AD_callp (d := (some 39)) (al := [.ro .unk ([v2, v3]).length (cl_i64 ([v2, v3]))]) (r := iA v4) (by kernel_rfl) (s_shape_first hv4) ⟨(scl_cl_i64 _ _), trivial⟩ trivial ?_
          refine RD 1 62 [(11, 0), (10, 0), (5, 0), (4, 0), (1, 0), (0, 0)] [(1, iA x1), (2, .ptr 0 0), (4, iA v4), (8, .ptr 0 0), (9, iA x0.gVariation), (10, bA false), (11, bA false), (12, .ptr 0 0), (13, iA x0.gVariation), (14, iA x1), (15, bA (decide (x0.gVariation > x1))), (16, bA (false || (decide (x0.gVariation > x1)))), (17, iA v2), (18, .ptr 0 1), (19, sA x0.gKind), (20, bA (!false)), (21, bA (!false)), (22, undefA), (23, undefA), (24, undefA), (25, bA ((!false) || (!(seq' x0.gBy ByteArray.empty)))), (26, bA ((!false) || (!(seq' x0.gBy ByteArray.empty)))), (27, undefA), (28, undefA), (29, undefA), (30, bA (((!false) || (!(seq' x0.gBy ByteArray.empty))) || (!(seq' x0.gSalt ByteArray.empty)))), (31, bA (((!false) || (!(seq' x0.gBy ByteArray.empty))) || (!(seq' x0.gSalt ByteArray.empty)))), (32, undefA), (33, undefA), (34, undefA), (35, undefA), (36, bA ((((!false) || (!(seq' x0.gBy ByteArray.empty))) || (!(seq' x0.gSalt ByteArray.empty))) || (decide ((lI x0.gSplit) > 0)))), (37, iA v3), (38, .ro .unk ([v2, v3]).length (cl_i64 ([v2, v3]))), (39, iA v4)] ?_
          exact AD_here [4] (by kernel_rfl) rfl
    exact AWP_ret (FR H)
  · refine AWP_skip ?_
    show AWP _ _ _ _ _ _ _
    obtain ⟨v5, hv5, H⟩ := bind_some H
    obtain ⟨v6, hv6, H⟩ := bind_some H
    obtain ⟨v7, hv7, H⟩ := bind_some H
    obtain ⟨v8, hv8, H⟩ := bind_some H
    obtain ⟨v9, hv9, H⟩ := bind_some H
    obtain ⟨v10, hv10, H⟩ := bind_some H
    obtain ⟨v11, hv11, H⟩ := bind_some H
    refine AWP_regD1 [0, 1, 11, 12, 16, 17, 18, 2, 3, 4, 5, 6, 7, 8, 9, 10, 13, 14, 15, 19, 20, 21, 22] (N := 62) (f := [(1, iA x1), (2, .ptr 0 0)]) (leL_of [1, 2] (by kernel_rfl)) mixed (by kernel_rfl) (by kernel_rfl) (st' := fr 62 [(4, iA v11)]) (h' := [.cells 56 (TServe.cs x0)]) ?_ ?_
    rotate_left
    · refine RD 7 62 [(17, 0), (16, 0), (12, 0), (11, 0), (1, 0), (0, 0)] [(1, iA x1), (2, .ptr 0 0), (40, .ptr 0 1), (41, sA x0.gKind), (51, .ptr 0 3), (52, sA x0.gSalt), (56, .ptr 0 4), (57, .ro .unk x0.gSplit.length (TRange.cl x0.gSplit)), (58, iA x1)] (AD_callp (d := (some 42)) (al := [sA x0.gKind]) (r := bA v5) (by kernel_rfl) (s_text_Key hG hv5) ⟨trivial, trivial⟩ trivial ?_)
      refine RD 2 62 [(17, 0), (16, 0), (12, 0), (11, 0), (1, 0), (0, 0)] [(1, iA x1), (2, .ptr 0 0), (40, .ptr 0 1), (41, sA x0.gKind), (42, bA v5), (43, bA (!v5)), (44, bA (!v5)), (51, .ptr 0 3), (52, sA x0.gSalt), (56, .ptr 0 4), (57, .ro .unk x0.gSplit.length (TRange.cl x0.gSplit)), (58, iA x1)] ?_
      cases c1 : (v5 : Bool) with
      | true =>
        refine RD 2 62 [(6, 0), (5, 0), (17, 0), (16, 0), (12, 0), (11, 0), (1, 0), (0, 0)] [(1, iA x1), (2, .ptr 0 0), (40, .ptr 0 1), (41, sA x0.gKind), (42, bA true), (43, bA (!true)), (44, bA (!true)), (45, .ptr 0 2), (46, sA x0.gBy), (51, .ptr 0 3), (52, sA x0.gSalt), (56, .ptr 0 4), (57, .ro .unk x0.gSplit.length (TRange.cl x0.gSplit)), (58, iA x1)] ?_
        have hv6_ := cond_t hv6 (by simp only [c1] <;> rfl)
        refine AD_callp (d := (some 47)) (al := [sA x0.gBy]) (r := bA v6) (by kernel_rfl) (s_text_Key hG hv6_) ⟨trivial, trivial⟩ trivial ?_
        refine RD 2 62 [(6, 0), (5, 0), (17, 0), (16, 0), (12, 0), (11, 0), (1, 0), (0, 0)] [(1, iA x1), (2, .ptr 0 0), (40, .ptr 0 1), (41, sA x0.gKind), (42, bA true), (43, bA (!true)), (44, bA (!true)), (45, .ptr 0 2), (46, sA x0.gBy), (47, bA v6), (48, bA (!v6)), (49, bA ((!true) || (!v6))), (51, .ptr 0 3), (52, sA x0.gSalt), (56, .ptr 0 4), (57, .ro .unk x0.gSplit.length (TRange.cl x0.gSplit)), (58, iA x1)] ?_
        try rw [c1] at hv7
        refine AD_callp (d := (some 50)) (al := [bA ((!true) || (!v6)), iA 6]) (r := iA v7) (by kernel_rfl) (s_shape_when hv7) ⟨trivial, trivial, trivial⟩ trivial ?_
        refine AD_callp (d := (some 53)) (al := [sA x0.gSalt]) (r := bA v8) (by kernel_rfl) (s_text_Valid hG hv8) ⟨trivial, trivial⟩ trivial ?_
        refine RD 1 62 [(6, 0), (5, 0), (17, 0), (16, 0), (12, 0), (11, 0), (1, 0), (0, 0)] [(1, iA x1), (2, .ptr 0 0), (40, .ptr 0 1), (41, sA x0.gKind), (42, bA true), (43, bA (!true)), (44, bA (!true)), (45, .ptr 0 2), (46, sA x0.gBy), (47, bA v6), (48, bA (!v6)), (49, bA ((!true) || (!v6))), (50, iA v7), (51, .ptr 0 3), (52, sA x0.gSalt), (53, bA v8), (54, bA (!v8)), (56, .ptr 0 4), (57, .ro .unk x0.gSplit.length (TRange.cl x0.gSplit)), (58, iA x1)] (AD_callp (d := (some 55)) (al := [bA (!v8), iA 2]) (r := iA v9) (by kernel_rfl) (s_shape_when hv9) ⟨trivial, trivial, trivial⟩ trivial ?_)
        refine AD_callp (d := (some 59)) (al := [.ro .unk x0.gSplit.length (TRange.cl x0.gSplit), iA x1]) (r := iA v10) (by kernel_rfl) (s_shape_Split hv10) ⟨(scl_TRange_cl _ _), trivial, trivial⟩ trivial ?_
        refine AD_bsl (d := (some 60)) (m := 3) (cs := [iA v7, iA v9, iA v10]) (by kernel_rfl) ⟨trivial, trivial, trivial, trivial⟩ ?_
        refine AD_callp (d := (some 61)) (al := [.ro .unk ([v7, v9, v10]).length (cl_i64 ([v7, v9, v10]))]) (r := iA v11) (by kernel_rfl) (s_shape_first hv11) ⟨(scl_cl_i64 _ _), trivial⟩ trivial ?_
        refine RD 1 62 [(6, 0), (5, 0), (17, 0), (16, 0), (12, 0), (11, 0), (1, 0), (0, 0)] [(1, iA x1), (2, .ptr 0 0), (4, iA v11), (40, .ptr 0 1), (41, sA x0.gKind), (42, bA true), (43, bA (!true)), (44, bA (!true)), (45, .ptr 0 2), (46, sA x0.gBy), (47, bA v6), (48, bA (!v6)), (49, bA ((!true) || (!v6))), (50, iA v7), (51, .ptr 0 3), (52, sA x0.gSalt), (53, bA v8), (54, bA (!v8)), (55, iA v9), (56, .ptr 0 4), (57, .ro .unk x0.gSplit.length (TRange.cl x0.gSplit)), (58, iA x1), (59, iA v10), (60, .ro .unk ([v7, v9, v10]).length (cl_i64 ([v7, v9, v10]))), (61, iA v11)] ?_
        exact AD_here [4] (by kernel_rfl) rfl
      | false =>
        refine RD 2 62 [(17, 0), (16, 0), (12, 0), (11, 0), (1, 0), (0, 0)] [(1, iA x1), (2, .ptr 0 0), (40, .ptr 0 1), (41, sA x0.gKind), (42, bA false), (43, bA (!false)), (44, bA (!false)), (45, undefA), (46, undefA), (51, .ptr 0 3), (52, sA x0.gSalt), (56, .ptr 0 4), (57, .ro .unk x0.gSplit.length (TRange.cl x0.gSplit)), (58, iA x1)] (AD_offB (d := some 47) (by kernel_rfl) ?_)
        refine RD 2 62 [(17, 0), (16, 0), (12, 0), (11, 0), (1, 0), (0, 0)] [(1, iA x1), (2, .ptr 0 0), (40, .ptr 0 1), (41, sA x0.gKind), (42, bA false), (43, bA (!false)), (44, bA (!false)), (45, undefA), (46, undefA), (47, undefA), (48, undefA), (49, bA ((!false) || (!v6))), (51, .ptr 0 3), (52, sA x0.gSalt), (56, .ptr 0 4), (57, .ro .unk x0.gSplit.length (TRange.cl x0.gSplit)), (58, iA x1)] ?_
        try rw [c1] at hv7
        refine AD_callp (d := (some 50)) (al := [bA ((!false) || (!v6)), iA 6]) (r := iA v7) (by kernel_rfl) (s_shape_when hv7) ⟨trivial, trivial, trivial⟩ trivial ?_
        refine AD_callp (d := (some 53)) (al := [sA x0.gSalt]) (r := bA v8) (by kernel_rfl) (s_text_Valid hG hv8) ⟨trivial, trivial⟩ trivial ?_
        refine RD 1 62 [(17, 0), (16, 0), (12, 0), (11, 0), (1, 0), (0, 0)] [(1, iA x1), (2, .ptr 0 0), (40, .ptr 0 1), (41, sA x0.gKind), (42, bA false), (43, bA (!false)), (44, bA (!false)), (45, undefA), (46, undefA), (47, undefA), (48, undefA), (49, bA ((!false) || (!v6))), (50, iA v7), (51, .ptr 0 3), (52, sA x0.gSalt), (53, bA v8), (54, bA (!v8)), (56, .ptr 0 4), (57, .ro .unk x0.gSplit.length (TRange.cl x0.gSplit)), (58, iA x1)] (AD_callp (d := (some 55)) (al := [bA (!v8), iA 2]) (r := iA v9) (by kernel_rfl) (s_shape_when hv9) ⟨trivial, trivial, trivial⟩ trivial ?_)
        refine AD_callp (d := (some 59)) (al := [.ro .unk x0.gSplit.length (TRange.cl x0.gSplit), iA x1]) (r := iA v10) (by kernel_rfl) (s_shape_Split hv10) ⟨(scl_TRange_cl _ _), trivial, trivial⟩ trivial ?_
        refine AD_bsl (d := (some 60)) (m := 3) (cs := [iA v7, iA v9, iA v10]) (by kernel_rfl) ⟨trivial, trivial, trivial, trivial⟩ ?_
        refine AD_callp (d := (some 61)) (al := [.ro .unk ([v7, v9, v10]).length (cl_i64 ([v7, v9, v10]))]) (r := iA v11) (by kernel_rfl) (s_shape_first hv11) ⟨(scl_cl_i64 _ _), trivial⟩ trivial ?_
        refine RD 1 62 [(17, 0), (16, 0), (12, 0), (11, 0), (1, 0), (0, 0)] [(1, iA x1), (2, .ptr 0 0), (4, iA v11), (40, .ptr 0 1), (41, sA x0.gKind), (42, bA false), (43, bA (!false)), (44, bA (!false)), (45, undefA), (46, undefA), (47, undefA), (48, undefA), (49, bA ((!false) || (!v6))), (50, iA v7), (51, .ptr 0 3), (52, sA x0.gSalt), (53, bA v8), (54, bA (!v8)), (55, iA v9), (56, .ptr 0 4), (57, .ro .unk x0.gSplit.length (TRange.cl x0.gSplit)), (58, iA x1), (59, iA v10), (60, .ro .unk ([v7, v9, v10]).length (cl_i64 ([v7, v9, v10]))), (61, iA v11)] ?_
        exact AD_here [4] (by kernel_rfl) rfl
    exact AWP_ret (FR H)
end Go.Proofs.YtjhbobacbaikoaaGreatDoor
/- Serves: the program and the reference agree. -/
namespace Go.Proofs.YtjhbobacbaikoaaGreatDoor
open Go
set_option linter.unusedVariables false
set_option linter.unusedSimpArgs false
def TServe.sm (x : TServe) : Prop := x.gKind.size < 4294967281 ∧ x.gBy.size < 4294967281
theorem serve_bi (x : TServe) (m : Int) (hx : x.sm) : ∃ v, Al fun n => p_shape_Serve n x m = some v ∧ p_ref6_Serve n x m = some v := by
  by_cases h0 : x.gVariation = 0
  · obtain ⟨k1, h1⟩ := key_bi x.gKind (by have := hx.1; omega)
    obtain ⟨k2, h2⟩ := key_bi x.gBy (by have := hx.2; omega)
    obtain ⟨b, h3⟩ := valid_bi x.gSalt
    obtain ⟨s, h4⟩ := split_bi x.gSplit m
    have hf := first_al [if (!k1 || !k2) = true then 6 else 0, if (!b) = true then 2 else 0, s] (by simp)
    refine ⟨fst0 [if (!k1 || !k2) = true then 6 else 0, if (!b) = true then 2 else 0, s], (h1.and (h2.and (h3.and (h4.and hf)))).mono fun n ⟨⟨a1, b1⟩, ⟨a2, b2⟩, ⟨a3, b3⟩, ⟨a4, b4⟩, a5⟩ => ?_⟩
    unfold p_shape_Serve p_ref6_Serve
    have e0 : (x.gVariation != 0) = false := by rw [h0]; rfl
    rw [e0, a1, b1, a2, b2, a3, b3, a4, b4]
    cases k1 <;> cases k2 <;> cases b <;> simp_all [when_eq, fst0, bneT]
  · have e0 : (x.gVariation != 0) = true := by rw [bne_iff_ne]; exact h0
    generalize hc1 : (decide (x.gVariation < 1) || decide (x.gVariation > m)) = c1
    generalize hc2 : (((!seq' x.gKind ByteArray.empty || !seq' x.gBy ByteArray.empty) || !seq' x.gSalt ByteArray.empty) || decide (lI x.gSplit > 0)) = c2
    have hf := first_al [if c1 = true then 3 else 0, if c2 = true then 15 else 0] (by simp)
    refine ⟨fst0 [if c1 = true then 3 else 0, if c2 = true then 15 else 0], hf.mono fun n a => ?_⟩
    unfold p_shape_Serve p_ref6_Serve
    rw [e0, hc1, hc2]
    cases c1 <;> cases c2 <;> simp_all [when_eq, fst0, bneT]
end Go.Proofs.YtjhbobacbaikoaaGreatDoor
/- Sizes of Serves. -/
namespace Go.Proofs.YtjhbobacbaikoaaGreatDoor
open Go Go.ChangeShapes Go.WideShapes Go.RowKit
set_option linter.unusedVariables false
set_option maxRecDepth 100000
theorem TServe.ok_sm {B : Nat} (hB : B < 4294967281) {x : TServe} (h : x.ok B) : x.sm := ⟨by have := h.1; omega, by have := h.2.1; omega⟩
end Go.Proofs.YtjhbobacbaikoaaGreatDoor
/- A function of the program as a pure function, and that the program computes it. -/
namespace Go.Proofs.YtjhbobacbaikoaaGreatDoor
open Go
set_option linter.unusedVariables false
set_option linter.unusedSimpArgs false
set_option maxRecDepth 100000
def p_draw_Codes_Left (n : Nat) (x0 : TCodes) : Option (Bool × TCodes) :=
 some (decide (x0.gat < (lI x0.glist)), x0)
variable {E : Env}
theorem s_draw_Codes_Left {n : Nat} {x0 : TCodes} {r : Bool × TCodes} (H : p_draw_Codes_Left n x0 = some r) :
    Sp Tryz.prog E 54 [.ptr 0 0] [.cells 101 (TCodes.cs x0)] (isA (bA r.1) [.cells 101 (TCodes.cs r.2)]) := by
  unfold p_draw_Codes_Left at H
  refine Sp_fn Tryz.func54 rfl (fun hc hs => ?_)
  refine AWP_reg (Rh 1 13 [(0, .ptr 0 0)] (AOps_done (AWP_regD1 [0, 1, 2, 3, 4, 5, 6, 7, 8, 9, 10] (N := 13) (f := [(0, .ptr 0 0)]) (leL_of [0] (by kernel_rfl)) mixed (by kernel_rfl) (by kernel_rfl) (st' := fr 13 [(2, bA (decide (x0.gat < (lI x0.glist))))]) (h' := [.cells 101 (TCodes.cs x0)]) ?_ ?_)))
  rotate_left
  · refine RD 11 13 [(7, 0), (6, 0), (5, 0), (3, 0), (2, 0), (1, 0)] [(0, .ptr 0 0), (2, bA (decide (x0.gat < (lI x0.glist)))), (3, .ptr 0 0), (4, .ptr 0 0), (5, .ptr 0 1), (6, iA x0.gat), (7, .ptr 0 0), (8, .ptr 0 0), (9, .ptr 0 0), (10, .ro .unk x0.glist.length (cl_u8 x0.glist)), (11, iA (lI x0.glist)), (12, bA (decide (x0.gat < (lI x0.glist))))] ?_
    exact AD_here [2] (by kernel_rfl) rfl
  refine AWP_ret ?_
  have hr := Option.some.inj H
  subst hr
  exact Fin_retn 0 (l := [bA (decide (x0.gat < (lI x0.glist)))]) (h' := [.cells 101 (TCodes.cs x0)]) (by kernel_rfl) rfl (Nat.le_of_ble_eq_true rfl) ((by refine Closed_of ?_; exact ⟨⟨(scl_cl_u8 _ _), trivial, trivial⟩, trivial⟩)) (Frz_sc trivial) ⟨rfl, rfl⟩
end Go.Proofs.YtjhbobacbaikoaaGreatDoor
/- A function of the program as a pure function, and that the program computes it. -/
namespace Go.Proofs.YtjhbobacbaikoaaGreatDoor
open Go
set_option linter.unusedVariables false
set_option linter.unusedSimpArgs false
set_option maxRecDepth 100000
def p_draw_Codes_Next (n : Nat) (x0 : TCodes) (x1 : Int) : Option (Int × TCodes) :=
(p_draw_Codes_Left n x0).bind fun v1 =>
(bif !v1.1 then
 some (0, v1.2)
 else
(rdO v1.2.glist (w64 ((w64 (v1.2.gat + 1)) - 1))).bind fun v3 =>
(remO (w64 v3) x1).bind fun v4 =>
 some (v4, ({ glist := v1.2.glist, gat := w64 (v1.2.gat + 1) } : TCodes)))
variable {E : Env}
theorem s_draw_Codes_Next {n : Nat} {x0 : TCodes} {x1 : Int} {r : Int × TCodes} (H : p_draw_Codes_Next n x0 x1 = some r) :
    Sp Tryz.prog E 19 [.ptr 0 0, iA x1] [.cells 101 (TCodes.cs x0)] (isA (iA r.1) [.cells 101 (TCodes.cs r.2)]) := by
  unfold p_draw_Codes_Next at H
  refine Sp_fn Tryz.func19 rfl (fun hc hs => ?_)
  refine AWP_reg (Rh 1 29 [(0, .ptr 0 0), (1, iA x1)] (AOps_done (AWP_seq (AWP_reg (Rh 1 29 [(0, .ptr 0 0), (1, iA x1), (5, .ptr 0 0)] ?_)))))
  obtain ⟨v1, hv1, H⟩ := bind_some H
  refine AOps_call1 (d := (some 6)) (al := [.ptr 0 0]) ([.ptr 0 0]) (r := bA v1.1) (j := 0) (b' := .cells 101 (TCodes.cs v1.2)) (by kernel_rfl) rfl (s_draw_Codes_Left hv1) (⟨(scl_cl_u8 _ _), trivial, trivial⟩) (⟨(scl_cl_u8 _ _), trivial, trivial⟩) ⟨Nat.zero_lt_one, trivial⟩ trivial rfl (h' := [.cells 101 (TCodes.cs v1.2)]) rfl ?_
  refine Rh 1 29 [(0, .ptr 0 0), (1, iA x1), (7, bA (!v1.1))] (AOps_done (CD H (fun hb2 H => ?_) (fun hb2 H => ?_)))
  · refine AWP_reg (Rh 1 29 [(4, iA 0)] (AOps_done (AWP_ret ?_)))
    have hr := Option.some.inj H
    subst hr
    exact Fin_retn 0 (l := [iA 0]) (h' := [.cells 101 (TCodes.cs v1.2)]) (by kernel_rfl) rfl (Nat.le_of_ble_eq_true rfl) ((by refine Closed_of ?_; exact ⟨⟨(scl_cl_u8 _ _), trivial, trivial⟩, trivial⟩)) (Frz_sc trivial) ⟨rfl, rfl⟩
  · refine AWP_skip ?_
    show AWP _ _ _ _ _ _ _
    refine AWP_reg (R 8 29 [(0, .ptr 0 0), (1, iA x1)] [.cells 101 [.ro .unk v1.2.glist.length (cl_u8 v1.2.glist), iA (w64 (v1.2.gat + 1))]] (AOps_done ?_))
    obtain ⟨v3, hv3, H⟩ := bind_some H
    obtain ⟨v4, hv4, H⟩ := bind_some H
    refine AWP_regD1 [0, 1, 2, 3, 4, 5, 6, 7, 8, 9, 10, 11, 12, 13, 14] (N := 29) (f := [(0, .ptr 0 0), (1, iA x1)]) (leL_of [0, 1] (by kernel_rfl)) mixed (by kernel_rfl) (by kernel_rfl) (st' := fr 29 [(4, iA v4)]) (h' := [.cells 101 [.ro .unk v1.2.glist.length (cl_u8 v1.2.glist), iA (w64 (v1.2.gat + 1))]]) ?_ ?_
    rotate_left
    · refine RD 9 29 [(7, 0), (6, 0), (5, 0), (3, 0), (2, 0), (1, 0)] [(0, .ptr 0 0), (1, iA x1), (15, .ptr 0 0), (16, .ptr 0 0), (17, .ptr 0 0), (18, .ro .unk v1.2.glist.length (cl_u8 v1.2.glist)), (19, .ptr 0 0), (20, .ptr 0 0), (21, .ptr 0 1), (22, iA (w64 (v1.2.gat + 1))), (23, iA (w64 ((w64 (v1.2.gat + 1)) - 1)))] (AD_index (d := (some 24)) (sz := 1) (c := cs_u8) (by kernel_rfl) rfl (eq_cl_u8 _) (fun _ => rfl) (by decide) hv3 (fun tl3 => ?_))
      refine RD 3 29 [(7, 0), (6, 0), (5, 0), (3, 0), (2, 0), (1, 0)] [(0, .ptr 0 0), (1, iA x1), (15, .ptr 0 0), (16, .ptr 0 0), (17, .ptr 0 0), (18, .ro .unk v1.2.glist.length (cl_u8 v1.2.glist)), (19, .ptr 0 0), (20, .ptr 0 0), (21, .ptr 0 1), (22, iA (w64 (v1.2.gat + 1))), (23, iA (w64 ((w64 (v1.2.gat + 1)) - 1))), (24, .rop ([iK .u8 v3] ++ tl3)), (25, iK .u8 v3), (26, iA (w64 v3)), (27, iA x1)] (AD_rem (kk := .i64) (d := (some 28)) (by kernel_rfl) hv4 ?_)
      refine RD 1 29 [(7, 0), (6, 0), (5, 0), (3, 0), (2, 0), (1, 0)] [(0, .ptr 0 0), (1, iA x1), (4, iA v4), (15, .ptr 0 0), (16, .ptr 0 0), (17, .ptr 0 0), (18, .ro .unk v1.2.glist.length (cl_u8 v1.2.glist)), (19, .ptr 0 0), (20, .ptr 0 0), (21, .ptr 0 1), (22, iA (w64 (v1.2.gat + 1))), (23, iA (w64 ((w64 (v1.2.gat + 1)) - 1))), (24, .rop ([iK .u8 v3] ++ tl3)), (25, iK .u8 v3), (26, iA (w64 v3)), (27, iA x1), (28, iA v4)] ?_
      exact AD_here [4] (by kernel_rfl) rfl
    refine AWP_ret ?_
    have hr := Option.some.inj H
    subst hr
    exact Fin_retn 0 (l := [iA v4]) (h' := [.cells 101 [.ro .unk v1.2.glist.length (cl_u8 v1.2.glist), iA (w64 (v1.2.gat + 1))]]) (by kernel_rfl) rfl (Nat.le_of_ble_eq_true rfl) ((by refine Closed_of ?_; exact ⟨⟨(scl_cl_u8 _ _), trivial, trivial⟩, trivial⟩)) (Frz_sc trivial) ⟨rfl, rfl⟩
end Go.Proofs.YtjhbobacbaikoaaGreatDoor
/- A function of the program as a pure function, and that the program computes it. -/
namespace Go.Proofs.YtjhbobacbaikoaaGreatDoor
open Go
set_option linter.unusedVariables false
set_option linter.unusedSimpArgs false
set_option maxRecDepth 100000
def p_draw_New_K1 (n : Nat) (v3 : List Int) : Option TCodes :=
 some ({ glist := v3, gat := 0 } : TCodes)
def p_draw_New (n : Nat) (x0 : List Int) (x1 : Int) : Option TCodes :=
(bif decide ((lI x0) > x1) then
(cutL x0 0 x1).bind fun v5 =>
 p_draw_New_K1 n  v5
 else
 p_draw_New_K1 n  x0)
variable {E : Env}
theorem s_draw_New {n : Nat} {x0 : List Int} {x1 : Int} {r : TCodes} (H : p_draw_New n x0 x1 = some r) :
    Sp Tryz.prog E 12 [.ro .unk x0.length (cl_u8 x0), iA x1] [] (isA (.ptr 0 0) [.cells 101 (TCodes.cs r)]) := by
  unfold p_draw_New at H
  refine Sp_fn Tryz.func12 rfl (fun hc hs => ?_)
  refine AWP_reg (Rh 1 15 [(0, .ro .unk x0.length (cl_u8 x0)), (1, iA x1)] (AOps_done (AWP_joinN (α := (List Int)) (fun v3 => fr 15 [(0, .ro .unk v3.length (cl_u8 v3))]) (fun v3 => []) (fun v3 => ∃ q, q ≤ q ∧ p_draw_New_K1 q  v3 = some r) (fun v3 hC => ?_) ?_)))
  · show AWP _ _ _ _ _ (fr 15 [(0, .ro .unk v3.length (cl_u8 v3))]) []
    obtain ⟨n, hn_, hC⟩ := hC
    replace H : p_draw_New_K1 n  v3 = some r := hC
    unfold p_draw_New_K1 at H
    refine AWP_reg (R 4 15 [(4, .ptr 0 0)] [.cells 101 [.ro .unk v3.length (cl_u8 v3), iA 0]] (AOps_done (AWP_ret ?_)))
    have hr := Option.some.inj H
    subst hr
    exact Fin_retn 0 (l := [.ptr 0 0]) (h' := [.cells 101 [.ro .unk v3.length (cl_u8 v3), iA 0]]) (by kernel_rfl) rfl (Nat.le_of_ble_eq_true rfl) ((by refine Closed_of ?_; exact ⟨⟨(scl_cl_u8 _ _), trivial, trivial⟩, trivial⟩)) (Frz_sc (sc_ptr rfl)) ⟨rfl, rfl⟩
  · refine AWP_reg (Rh 4 15 [(0, .ro .unk x0.length (cl_u8 x0)), (1, iA x1), (8, bA (decide ((lI x0) > x1)))] (AOps_done (CD H (fun hb4 H => ?_) (fun hb4 H => ?_))))
    · refine AWP_region ?_
      refine Rh 2 15 [(9, .ro .unk x0.length (cl_u8 x0)), (10, iA x1)] ?_
      obtain ⟨v5, hv5, H⟩ := bind_some H
      refine AOps_lcut (d := (some 11)) (sz := 1) (c := cs_u8) (by kernel_rfl) rfl (eq_cl_u8 _) (eq_cl_u8 _) (fun _ => rfl) (by decide) hv5 ?_
      refine Rh 1 15 [(0, .ro .unk v5.length (cl_u8 v5))] (AOps_done ?_)
      exact Exists.intro v5 ⟨⟨n, by omega, H⟩, Norm_fd [0] 0 (by kernel_rfl) rfl rfl trivial (by refine scL_fr ?_; exact ⟨(scl_cl_u8 _ _), trivial⟩)⟩
    · refine AWP_skip ?_
      exact Exists.intro x0 ⟨⟨n, by omega, H⟩, Norm_fd [0] 0 (by kernel_rfl) rfl rfl trivial (by refine scL_fr ?_; exact ⟨(scl_cl_u8 _ _), trivial⟩)⟩
end Go.Proofs.YtjhbobacbaikoaaGreatDoor
/- What a function gives from some fuel on, and a property of it; the choices of a drawn input. -/
namespace Go.Proofs.YtjhbobacbaikoaaGreatDoor
open Go
set_option linter.unusedVariables false
set_option linter.unusedSimpArgs false
/-- From some fuel on it gives one value, and that has the property. -/
def Gv {α : Type} (m : Nat → Option α) (Q : α → Prop) : Prop := ∃ r, Q r ∧ Al fun n => m n = some r
section
variable {α β : Type} {m : Nat → Option α} {Q R : α → Prop}
theorem Gv.mono (h : Gv m Q) (k : ∀ r, Q r → R r) : Gv m R := by obtain ⟨r, q, a⟩ := h; exact ⟨r, k r q, a⟩
theorem Gv.pure {r : α} (h : Q r) : Gv (fun _ => some r) Q := ⟨r, h, .of fun _ => rfl⟩
theorem Gv.congr {m' : Nat → Option α} (h : Gv m Q) (e : ∀ n, m' n = m n) : Gv m' Q := by
  obtain ⟨r, q, a⟩ := h; exact ⟨r, q, a.mono fun n h => (e n).trans h⟩
theorem Gv.bind {k : Nat → α → Option β} {S : β → Prop} (h : Gv m Q) (g : ∀ r, Q r → Gv (fun n => k n r) S) : Gv (fun n => (m n).bind (k n)) S := by
  obtain ⟨r, q, a⟩ := h
  obtain ⟨s, q2, b⟩ := g r q
  exact ⟨s, q2, (a.and b).mono fun n ⟨h1, h2⟩ => by show (m n).bind (k n) = some s; rw [h1]; exact h2⟩
theorem Gv.opt {o : Option α} {r : α} (e : o = some r) (h : Q r) : Gv (fun _ => o) Q := ⟨r, h, .of fun _ => e⟩
theorem Gv.cond {b : Bool} {f g : Nat → Option α} (h1 : b = true → Gv f Q) (h2 : b = false → Gv g Q) : Gv (fun n => bif b then f n else g n) Q := by
  cases b with
  | true => exact (h1 rfl).congr fun n => rfl
  | false => exact (h2 rfl).congr fun n => rfl
theorem Gv.succ (h : Gv (fun n => m (n + 1)) Q) : Gv m Q := by obtain ⟨r, q, a⟩ := h; exact ⟨r, q, a.succ⟩
theorem Gv.shift (h : Gv m Q) : Gv (fun n => m (n + 1)) Q := by obtain ⟨r, q, a⟩ := h; exact ⟨r, q, a.shift⟩
theorem Gv.and {S : α → Prop} (h : Gv m Q) (g : Gv m S) : Gv m fun r => Q r ∧ S r := by
  obtain ⟨r, q, a⟩ := h
  obtain ⟨s, q2, b⟩ := g
  obtain ⟨n, h1, h2⟩ := (a.and b).get
  rw [h1] at h2; cases h2
  exact ⟨r, ⟨q, q2⟩, a⟩
theorem Gv.al {r : α} (h : Al fun n => m n = some r) (q : Q r) : Gv m Q := ⟨r, q, h⟩
theorem Gv.add {r : α} (k : Nat) (h : ∀ n, m (n + k) = some r) (q : Q r) : Gv m Q := ⟨r, q, ⟨k, fun n hn => by
  have := h (n - k)
  rwa [Nat.sub_add_cancel hn] at this⟩⟩
end
theorem rdO_at {α : Type} {xs : List α} {j : Int} (h0 : 0 ≤ j) (h1 : j < xs.length) : ∃ x, rdO xs j = some x ∧ x ∈ xs := by
  obtain ⟨k, rfl⟩ : ∃ k : Nat, j = (k : Int) := ⟨j.toNat, by omega⟩
  have hk : k < xs.length := by omega
  exact ⟨xs[k], rdO_nat hk, List.getElem_mem hk⟩
theorem Gv.rd {α : Type} {xs : List α} {j : Int} {Q : α → Prop} (h0 : 0 ≤ j) (h1 : j < xs.length) (q : ∀ x ∈ xs, Q x) : Gv (fun _ => rdO xs j) Q := by
  obtain ⟨x, e, hx⟩ := rdO_at h0 h1
  exact Gv.opt e (q x hx)
theorem appO_some {α : Type} {bs : Nat} {xs ys : List α} (h : (xs.length + ys.length) * bs ≤ 140737488355328) (h2 : xs.length + ys.length ≤ 4611686018427387904) : appO bs xs ys = some (xs ++ ys) := by
  unfold appO
  rw [decide_eq_true h, decide_eq_true h2]; rfl
theorem Gv.app {α : Type} {bs : Nat} {xs ys : List α} {Q : List α → Prop} (h : xs.length + ys.length ≤ 1000000) (hb : bs ≤ 1000) (q : Q (xs ++ ys)) : Gv (fun _ => appO bs xs ys) Q := by
  refine Gv.opt (appO_some ?_ (by omega)) q
  exact Nat.le_trans (Nat.mul_le_mul h hb) (by decide)
/-! ## choices -/
def TCodes.cok (c : TCodes) : Prop := 0 ≤ c.gat ∧ c.gat ≤ c.glist.length ∧ c.glist.length ≤ 100000 ∧ ∀ b ∈ c.glist, 0 ≤ b ∧ b ≤ 255
theorem TCodes.mk_eta (c : TCodes) : ({ glist := c.glist, gat := c.gat } : TCodes) = c := rfl
theorem new_gv (l : List Int) (hl : ∀ b ∈ l, 0 ≤ b ∧ b ≤ 255) (hs : l.length < 4294967281) (k : Int) (h0 : 0 ≤ k) (h1 : k ≤ 100000) : Gv (fun n => p_draw_New n l k) TCodes.cok := by
  unfold p_draw_New p_draw_New_K1
  refine Gv.cond (fun h => ?_) (fun h => ?_)
  · have h := of_decide_eq_true h
    unfold lI at h
    obtain ⟨j, rfl⟩ : ∃ j : Nat, k = (j : Int) := ⟨k.toNat, by omega⟩
    have e : cutL l 0 (j : Int) = some (l.take j) := by
      unfold cutL
      rw [decide_eq_true (show (0 : Int) ≤ 0 by omega), decide_eq_true (show (0 : Int) ≤ (j : Int) by omega), decide_eq_true (show (j : Int) ≤ l.length by omega)]
      simp
    refine Gv.bind (Gv.opt (Q := fun r => r = l.take j) e rfl) ?_
    rintro r rfl
    refine Gv.pure ⟨Int.le_refl _, by show (0 : Int) ≤ ((l.take j).length : Int); omega, by show (l.take j).length ≤ 100000; rw [List.length_take]; omega, fun b hb => hl b (List.mem_of_mem_take hb)⟩
  · have h := of_decide_eq_false h
    unfold lI at h
    exact Gv.pure ⟨Int.le_refl _, by show (0 : Int) ≤ (l.length : Int); omega, by show l.length ≤ 100000; omega, hl⟩
theorem next_gv {c : TCodes} (hc : c.cok) {k : Int} (h0 : 0 < k) (h1 : k < 4611686018427387904) : Gv (fun n => p_draw_Codes_Next n c k) fun r => 0 ≤ r.1 ∧ r.1 < k ∧ r.2.cok := by
  obtain ⟨c0, c1, c2, c3⟩ := hc
  unfold p_draw_Codes_Next p_draw_Codes_Left
  simp only [Option.bind_some]
  refine Gv.cond (fun h => Gv.pure ⟨Int.le_refl _, h0, c0, c1, c2, c3⟩) (fun h => ?_)
  have h : c.gat < c.glist.length := by
    have h : decide (c.gat < lI c.glist) = true := by simpa using h
    exact of_decide_eq_true h
  have w1 : w64 (c.gat + 1) = c.gat + 1 := w64_of (by omega) (by omega)
  have w2 : w64 (c.gat + 1 - 1) = c.gat := by rw [w64_of (by omega) (by omega)]; omega
  rw [w1, w2]
  refine Gv.bind (Gv.rd c0 h c3) fun b hb => ?_
  have w3 : w64 b = b := w64_of (by omega) (by omega)
  have e : remO (w64 b) k = some (b.tmod k) := by
    rw [w3]; unfold remO
    rw [beq_eq_false_iff_ne.2 (show k ≠ 0 by omega)]; rfl
  refine Gv.bind (Gv.opt (Q := fun r => 0 ≤ r ∧ r < k) e ⟨Int.tmod_nonneg _ (by omega), Int.tmod_lt_of_pos _ h0⟩) fun r hr => ?_
  exact Gv.pure ⟨hr.1, hr.2, by show 0 ≤ c.gat + 1; omega, by show c.gat + 1 ≤ c.glist.length; omega, c2, c3⟩
end Go.Proofs.YtjhbobacbaikoaaGreatDoor
/- A function of the program as a pure function, and that the program computes it. -/
namespace Go.Proofs.YtjhbobacbaikoaaGreatDoor
open Go
set_option linter.unusedVariables false
set_option linter.unusedSimpArgs false
set_option maxRecDepth 100000
def p_draw_Codes_Text (n : Nat) (x0 : TCodes) : Option (ByteArray × TCodes) :=
(p_draw_Codes_Next n x0 11).bind fun v1 =>
(rdO gl_texts v1.1).bind fun v2 =>
 some (v2, v1.2)
variable {E : Env}
theorem s_draw_Codes_Text {n : Nat} (hG : GlobD E) {x0 : TCodes} {r : ByteArray × TCodes} (H : p_draw_Codes_Text n x0 = some r) :
    Sp Tryz.prog E 59 [.ptr 0 0] [.cells 101 (TCodes.cs x0)] (isA (sA r.1) [.cells 101 (TCodes.cs r.2)]) := by
  unfold p_draw_Codes_Text at H
  refine Sp_fn Tryz.func59 rfl (fun hc hs => ?_)
  refine AWP_reg (Rh 1 7 [(0, .ptr 0 0)] (AOps_done (AWP_reg (Rh 1 7 [(3, .ptr 0 0)] ?_))))
  obtain ⟨v1, hv1, H⟩ := bind_some H
  refine AOps_call1 (d := (some 4)) (al := [.ptr 0 0, iA 11]) ([.ptr 0 0, iA 11]) (r := iA v1.1) (j := 0) (b' := .cells 101 (TCodes.cs v1.2)) (by kernel_rfl) rfl (s_draw_Codes_Next hv1) (⟨(scl_cl_u8 _ _), trivial, trivial⟩) (⟨(scl_cl_u8 _ _), trivial, trivial⟩) ⟨Nat.zero_lt_one, trivial, trivial⟩ trivial rfl (h' := [.cells 101 (TCodes.cs v1.2)]) rfl ?_
  obtain ⟨v2, hv2, H⟩ := bind_some H
  refine AOps_gindex (d := (some 5)) (g := 2) (c := cs_str) (sz := 1) (xs := gl_texts) (by kernel_rfl) hG.g2 (eq_cl_str _) rfl (fun _ => rfl) hv2 (fun tl2 => ?_)
  refine Rh 2 7 [(2, sA v2)] (AOps_done (AWP_ret ?_))
  have hr := Option.some.inj H
  subst hr
  exact Fin_retn 0 (l := [sA v2]) (h' := [.cells 101 (TCodes.cs v1.2)]) (by kernel_rfl) rfl (Nat.le_of_ble_eq_true rfl) ((by refine Closed_of ?_; exact ⟨⟨(scl_cl_u8 _ _), trivial, trivial⟩, trivial⟩)) (Frz_sc trivial) ⟨rfl, rfl⟩
end Go.Proofs.YtjhbobacbaikoaaGreatDoor
/- A function of the program as a pure function, and that the program computes it. -/
namespace Go.Proofs.YtjhbobacbaikoaaGreatDoor
open Go
set_option linter.unusedVariables false
set_option linter.unusedSimpArgs false
set_option maxRecDepth 100000
def p_draw_Codes_Value (n : Nat) (x0 : TCodes) (x1 : Int) : Option (TValue × TCodes) :=
(bif x1 == 1 then
(p_draw_Codes_Next n x0 2).bind fun v2 =>
 some (({ gKind := x1, gNumber := v2.1, gText := ByteArray.empty, gList := [] } : TValue), v2.2)
 else
(bif x1 == 2 then
(p_draw_Codes_Next n x0 (lI ([0, 1, 17, 18, 19, (-5), 64, 1099511627776, (-1099511627776)]))).bind fun v4 =>
(rdO ([0, 1, 17, 18, 19, (-5), 64, 1099511627776, (-1099511627776)]) v4.1).bind fun v5 =>
 some (({ gKind := x1, gNumber := v5, gText := ByteArray.empty, gList := [] } : TValue), v4.2)
 else
(bif x1 == 3 then
(p_draw_Codes_Text n x0).bind fun v7 =>
 some (({ gKind := x1, gNumber := 0, gText := v7.1, gList := [] } : TValue), v7.2)
 else
(bif x1 == 4 then
(p_draw_Codes_Next n x0 6).bind fun v9 =>
(rdO gl_versions v9.1).bind fun v10 =>
 some (({ gKind := x1, gNumber := 0, gText := v10, gList := [] } : TValue), v9.2)
 else
(p_draw_Codes_Next n x0 5).bind fun v11 =>
(rdO gl_lists v11.1).bind fun v12 =>
(appO 16 ([] : List ByteArray) v12).bind fun v13 =>
 some (({ gKind := 5, gNumber := 0, gText := ByteArray.empty, gList := v13 } : TValue), v11.2)))))
variable {E : Env}
theorem s_draw_Codes_Value {n : Nat} (hG : GlobD E) {x0 : TCodes} {x1 : Int} {r : TValue × TCodes} (H : p_draw_Codes_Value n x0 x1 = some r) :
    Sp Tryz.prog E 58 [.ptr 0 0, iA x1] [.cells 101 (TCodes.cs x0)] (isA (.agg (TValue.cs r.1)) [.cells 101 (TCodes.cs r.2)]) := by
  unfold p_draw_Codes_Value at H
  refine Sp_fn Tryz.func58 rfl (fun hc hs => ?_)
  refine AWP_reg (R 1 45 [(0, .ptr 0 0), (1, iA x1), (4, .ptr 1 0)] [.cells 58 [iA 0, iA 0, sA ByteArray.empty, .ro .full 0 []], .cells 101 (TCodes.cs x0)] (AOps_done (AWP_seq (AWP_reg (Rh 1 45 [(0, .ptr 0 0), (1, iA x1), (4, .ptr 1 0), (6, iA x1)] (AOps_done (AWP_block ?_)))))))
  refine AWP_reg (Rh 2 45 [(0, .ptr 0 0), (1, iA x1), (4, .ptr 1 0), (6, iA x1), (7, bA (x1 == 1))] (AOps_done (CD H (fun hb1 H => ?_) (fun hb1 H => ?_))))
  · refine AWP_reg (Rh 2 45 [(4, .ptr 1 0), (9, iA x1), (10, .ptr 0 0)] ?_)
    obtain ⟨v2, hv2, H⟩ := bind_some H
    refine AOps_call1 (d := (some 11)) (al := [.ptr 0 0, iA 2]) ([.ptr 0 0, iA 2]) (r := iA v2.1) (j := 0) (b' := .cells 101 (TCodes.cs v2.2)) (by kernel_rfl) rfl (s_draw_Codes_Next hv2) (⟨(scl_cl_u8 _ _), trivial, trivial⟩) (⟨(scl_cl_u8 _ _), trivial, trivial⟩) ⟨Nat.zero_lt_one, trivial, trivial⟩ trivial rfl (h' := [.cells 58 [iA 0, iA 0, sA ByteArray.empty, .ro .full 0 []], .cells 101 (TCodes.cs v2.2)]) rfl ?_
    refine R 2 45 [(4, .ptr 1 0)] [.cells 58 [iA x1, iA v2.1, sA ByteArray.empty, .ro .full 0 []], .cells 101 (TCodes.cs v2.2)] (AOps_done (AWP_ret ?_))
    have hr := Option.some.inj H
    subst hr
    exact Fin_retn 1 (l := [.agg [iA x1, iA v2.1, sA ByteArray.empty, .ro .full 0 []]]) (h' := [.cells 101 (TCodes.cs v2.2)]) (by kernel_rfl) rfl (Nat.le_of_ble_eq_true rfl) ((by refine Closed_of ?_; exact ⟨⟨(scl_cl_u8 _ _), trivial, trivial⟩, trivial⟩)) (Frz_agg (FrzL_cons (Frz_sc trivial) (FrzL_cons (Frz_sc trivial) (FrzL_cons (Frz_sc trivial) (FrzL_cons (Frz_le (Frz_sc trivial) (AV.le_ro _ _ _)) (FrzL_nil))))) rfl) ⟨rfl, rfl⟩
  · refine AWP_reg (Rh 2 45 [(0, .ptr 0 0), (1, iA x1), (4, .ptr 1 0), (6, iA x1), (13, bA (x1 == 2))] (AOps_done (CD H (fun hb3 H => ?_) (fun hb3 H => ?_))))
    · refine AWP_reg (AOps_bsl (d := (some 15)) (m := 9) (cs := [iA 0, iA 1, iA 17, iA 18, iA 19, iA (-5), iA 64, iA 1099511627776, iA (-1099511627776)]) (by kernel_rfl) ⟨trivial, trivial, trivial, trivial, trivial, trivial, trivial, trivial, trivial, trivial⟩ ?_)
      refine Rh 1 45 [(0, .ptr 0 0), (1, iA x1), (4, .ptr 1 0), (5, .ro .unk ([0, 1, 17, 18, 19, (-5), 64, 1099511627776, (-1099511627776)]).length (cl_i64 ([0, 1, 17, 18, 19, (-5), 64, 1099511627776, (-1099511627776)])))] (AOps_done (AWP_reg (Rh 5 45 [(4, .ptr 1 0), (16, iA x1), (17, .ro .unk ([0, 1, 17, 18, 19, (-5), 64, 1099511627776, (-1099511627776)]).length (cl_i64 ([0, 1, 17, 18, 19, (-5), 64, 1099511627776, (-1099511627776)]))), (18, .ptr 0 0), (20, iA (lI ([0, 1, 17, 18, 19, (-5), 64, 1099511627776, (-1099511627776)])))] ?_)))
      obtain ⟨v4, hv4, H⟩ := bind_some H
      refine AOps_call1 (d := (some 21)) (al := [.ptr 0 0, iA (lI ([0, 1, 17, 18, 19, (-5), 64, 1099511627776, (-1099511627776)]))]) ([.ptr 0 0, iA (lI ([0, 1, 17, 18, 19, (-5), 64, 1099511627776, (-1099511627776)]))]) (r := iA v4.1) (j := 0) (b' := .cells 101 (TCodes.cs v4.2)) (by kernel_rfl) rfl (s_draw_Codes_Next hv4) (⟨(scl_cl_u8 _ _), trivial, trivial⟩) (⟨(scl_cl_u8 _ _), trivial, trivial⟩) ⟨Nat.zero_lt_one, trivial, trivial⟩ trivial rfl (h' := [.cells 58 [iA 0, iA 0, sA ByteArray.empty, .ro .full 0 []], .cells 101 (TCodes.cs v4.2)]) rfl ?_
      obtain ⟨v5, hv5, H⟩ := bind_some H
      refine AOps_index (d := (some 22)) (sz := 1) (c := cs_i64) (by kernel_rfl) rfl (eq_cl_i64 _) (fun _ => rfl) (by decide) hv5 (fun tl5 => ?_)
      refine R 3 45 [(4, .ptr 1 0)] [.cells 58 [iA x1, iA v5, sA ByteArray.empty, .ro .full 0 []], .cells 101 (TCodes.cs v4.2)] (AOps_done (AWP_ret ?_))
      have hr := Option.some.inj H
      subst hr
      exact Fin_retn 1 (l := [.agg [iA x1, iA v5, sA ByteArray.empty, .ro .full 0 []]]) (h' := [.cells 101 (TCodes.cs v4.2)]) (by kernel_rfl) rfl (Nat.le_of_ble_eq_true rfl) ((by refine Closed_of ?_; exact ⟨⟨(scl_cl_u8 _ _), trivial, trivial⟩, trivial⟩)) (Frz_agg (FrzL_cons (Frz_sc trivial) (FrzL_cons (Frz_sc trivial) (FrzL_cons (Frz_sc trivial) (FrzL_cons (Frz_le (Frz_sc trivial) (AV.le_ro _ _ _)) (FrzL_nil))))) rfl) ⟨rfl, rfl⟩
    · refine AWP_reg (Rh 2 45 [(0, .ptr 0 0), (1, iA x1), (4, .ptr 1 0), (6, iA x1), (25, bA (x1 == 3))] (AOps_done (CD H (fun hb6 H => ?_) (fun hb6 H => ?_))))
      · refine AWP_reg (Rh 2 45 [(4, .ptr 1 0), (27, iA x1), (28, .ptr 0 0)] ?_)
        obtain ⟨v7, hv7, H⟩ := bind_some H
        refine AOps_call1 (d := (some 29)) (al := [.ptr 0 0]) ([.ptr 0 0]) (r := sA v7.1) (j := 0) (b' := .cells 101 (TCodes.cs v7.2)) (by kernel_rfl) rfl (s_draw_Codes_Text hG hv7) (⟨(scl_cl_u8 _ _), trivial, trivial⟩) (⟨(scl_cl_u8 _ _), trivial, trivial⟩) ⟨Nat.zero_lt_one, trivial⟩ trivial rfl (h' := [.cells 58 [iA 0, iA 0, sA ByteArray.empty, .ro .full 0 []], .cells 101 (TCodes.cs v7.2)]) rfl ?_
        refine R 2 45 [(4, .ptr 1 0)] [.cells 58 [iA x1, iA 0, sA v7.1, .ro .full 0 []], .cells 101 (TCodes.cs v7.2)] (AOps_done (AWP_ret ?_))
        have hr := Option.some.inj H
        subst hr
        exact Fin_retn 1 (l := [.agg [iA x1, iA 0, sA v7.1, .ro .full 0 []]]) (h' := [.cells 101 (TCodes.cs v7.2)]) (by kernel_rfl) rfl (Nat.le_of_ble_eq_true rfl) ((by refine Closed_of ?_; exact ⟨⟨(scl_cl_u8 _ _), trivial, trivial⟩, trivial⟩)) (Frz_agg (FrzL_cons (Frz_sc trivial) (FrzL_cons (Frz_sc trivial) (FrzL_cons (Frz_sc trivial) (FrzL_cons (Frz_le (Frz_sc trivial) (AV.le_ro _ _ _)) (FrzL_nil))))) rfl) ⟨rfl, rfl⟩
      · refine AWP_reg (Rh 2 45 [(0, .ptr 0 0), (1, iA x1), (4, .ptr 1 0), (31, bA (x1 == 4))] (AOps_done (CD H (fun hb8 H => ?_) (fun hb8 H => ?_))))
        · refine AWP_reg (Rh 2 45 [(4, .ptr 1 0), (33, iA x1), (34, .ptr 0 0)] ?_)
          obtain ⟨v9, hv9, H⟩ := bind_some H
          refine AOps_call1 (d := (some 35)) (al := [.ptr 0 0, iA 6]) ([.ptr 0 0, iA 6]) (r := iA v9.1) (j := 0) (b' := .cells 101 (TCodes.cs v9.2)) (by kernel_rfl) rfl (s_draw_Codes_Next hv9) (⟨(scl_cl_u8 _ _), trivial, trivial⟩) (⟨(scl_cl_u8 _ _), trivial, trivial⟩) ⟨Nat.zero_lt_one, trivial, trivial⟩ trivial rfl (h' := [.cells 58 [iA 0, iA 0, sA ByteArray.empty, .ro .full 0 []], .cells 101 (TCodes.cs v9.2)]) rfl ?_
          obtain ⟨v10, hv10, H⟩ := bind_some H
          refine AOps_gindex (d := (some 36)) (g := 0) (c := cs_str) (sz := 1) (xs := gl_versions) (by kernel_rfl) hG.g0 (eq_cl_str _) rfl (fun _ => rfl) hv10 (fun tl10 => ?_)
          refine R 3 45 [(4, .ptr 1 0)] [.cells 58 [iA x1, iA 0, sA v10, .ro .full 0 []], .cells 101 (TCodes.cs v9.2)] (AOps_done (AWP_ret ?_))
          have hr := Option.some.inj H
          subst hr
          exact Fin_retn 1 (l := [.agg [iA x1, iA 0, sA v10, .ro .full 0 []]]) (h' := [.cells 101 (TCodes.cs v9.2)]) (by kernel_rfl) rfl (Nat.le_of_ble_eq_true rfl) ((by refine Closed_of ?_; exact ⟨⟨(scl_cl_u8 _ _), trivial, trivial⟩, trivial⟩)) (Frz_agg (FrzL_cons (Frz_sc trivial) (FrzL_cons (Frz_sc trivial) (FrzL_cons (Frz_sc trivial) (FrzL_cons (Frz_le (Frz_sc trivial) (AV.le_ro _ _ _)) (FrzL_nil))))) rfl) ⟨rfl, rfl⟩
        · refine AWP_skip ?_
          show AWP _ _ _ _ _ _ _
          refine AWP_reg (Rh 1 45 [(4, .ptr 1 0), (39, .ptr 0 0)] ?_)
          obtain ⟨v11, hv11, H⟩ := bind_some H
          refine AOps_call1 (d := (some 40)) (al := [.ptr 0 0, iA 5]) ([.ptr 0 0, iA 5]) (r := iA v11.1) (j := 0) (b' := .cells 101 (TCodes.cs v11.2)) (by kernel_rfl) rfl (s_draw_Codes_Next hv11) (⟨(scl_cl_u8 _ _), trivial, trivial⟩) (⟨(scl_cl_u8 _ _), trivial, trivial⟩) ⟨Nat.zero_lt_one, trivial, trivial⟩ trivial rfl (h' := [.cells 58 [iA 0, iA 0, sA ByteArray.empty, .ro .full 0 []], .cells 101 (TCodes.cs v11.2)]) rfl ?_
          obtain ⟨v12, hv12, H⟩ := bind_some H
          refine AOps_gindex (d := (some 41)) (g := 1) (c := cs_l_cs_str) (sz := 1) (xs := gl_lists) (by kernel_rfl) hG.g1 (eq_cl_l_cl_str _) rfl (fun _ => rfl) hv12 (fun tl12 => ?_)
          refine Rh 1 45 [(4, .ptr 1 0), (42, .ro .unk v12.length (cl_str v12))] ?_
          obtain ⟨v13, hv13, H⟩ := bind_some H
          refine AOps_append_nil (d := (some 43)) (c := cs_str) (sz := 1) (bs := 16) (e := 9) (ys := v12) (by kernel_rfl) rfl (eq_cl_str _) (fun _ => rfl) (by kernel_rfl) (by kernel_rfl) hv13 (eq_cl_str _) ?_
          refine R 2 45 [(4, .ptr 1 0)] [.row 9 (cl_str v13), .cells 58 [iA 5, iA 0, sA ByteArray.empty, .sl 2 0 v13.length (.whole 1)], .cells 101 (TCodes.cs v11.2)] (AOps_done (AWP_ret ?_))
          have hr := Option.some.inj H
          subst hr
          exact Fin_retn 2 (l := [.agg [iA 5, iA 0, sA ByteArray.empty, .sl 2 0 v13.length (.whole 1)]]) (h' := [.cells 101 (TCodes.cs v11.2)]) (by kernel_rfl) rfl (Nat.le_of_ble_eq_true rfl) ((by refine Closed_of ?_; exact ⟨⟨(scl_cl_u8 _ _), trivial, trivial⟩, trivial⟩)) (Frz_agg (FrzL_cons (Frz_sc trivial) (FrzL_cons (Frz_sc trivial) (FrzL_cons (Frz_sc trivial) (FrzL_cons (Frz_row (t := 9) (cs := cl_str v13) rfl (scl_cl_str _ _)) (FrzL_nil))))) rfl) ⟨rfl, rfl⟩
end Go.Proofs.YtjhbobacbaikoaaGreatDoor
/- A function of the program as a pure function, and that the program computes it. -/
namespace Go.Proofs.YtjhbobacbaikoaaGreatDoor
open Go
set_option linter.unusedVariables false
set_option linter.unusedSimpArgs false
set_option maxRecDepth 100000
def p_draw_Codes_Any (n : Nat) (x0 : TCodes) : Option (TValue × TCodes) :=
(p_draw_Codes_Next n x0 5).bind fun v1 =>
(p_draw_Codes_Value n v1.2 (w64 (1 + v1.1))).bind fun v2 =>
 some (v2.1, v2.2)
variable {E : Env}
theorem s_draw_Codes_Any {n : Nat} (hG : GlobD E) {x0 : TCodes} {r : TValue × TCodes} (H : p_draw_Codes_Any n x0 = some r) :
    Sp Tryz.prog E 29 [.ptr 0 0] [.cells 101 (TCodes.cs x0)] (isA (.agg (TValue.cs r.1)) [.cells 101 (TCodes.cs r.2)]) := by
  unfold p_draw_Codes_Any at H
  refine Sp_fn Tryz.func29 rfl (fun hc hs => ?_)
  refine AWP_reg (R 1 8 [(0, .ptr 0 0), (2, .ptr 1 0)] [.cells 58 [iA 0, iA 0, sA ByteArray.empty, .ro .full 0 []], .cells 101 (TCodes.cs x0)] (AOps_done (AWP_reg (Rh 2 8 [(2, .ptr 1 0), (3, .ptr 0 0), (4, .ptr 0 0)] ?_))))
  obtain ⟨v1, hv1, H⟩ := bind_some H
  refine AOps_call1 (d := (some 5)) (al := [.ptr 0 0, iA 5]) ([.ptr 0 0, iA 5]) (r := iA v1.1) (j := 0) (b' := .cells 101 (TCodes.cs v1.2)) (by kernel_rfl) rfl (s_draw_Codes_Next hv1) (⟨(scl_cl_u8 _ _), trivial, trivial⟩) (⟨(scl_cl_u8 _ _), trivial, trivial⟩) ⟨Nat.zero_lt_one, trivial, trivial⟩ trivial rfl (h' := [.cells 58 [iA 0, iA 0, sA ByteArray.empty, .ro .full 0 []], .cells 101 (TCodes.cs v1.2)]) rfl ?_
  refine Rh 1 8 [(2, .ptr 1 0), (3, .ptr 0 0), (6, iA (w64 (1 + v1.1)))] ?_
  obtain ⟨v2, hv2, H⟩ := bind_some H
  refine AOps_call1 (d := (some 7)) (al := [.ptr 0 0, iA (w64 (1 + v1.1))]) ([.ptr 0 0, iA (w64 (1 + v1.1))]) (r := .agg (TValue.cs v2.1)) (j := 0) (b' := .cells 101 (TCodes.cs v2.2)) (by kernel_rfl) rfl (s_draw_Codes_Value hG hv2) (⟨(scl_cl_u8 _ _), trivial, trivial⟩) (⟨(scl_cl_u8 _ _), trivial, trivial⟩) ⟨Nat.zero_lt_one, trivial, trivial⟩ (sc_TValue_cs _ _) rfl (h' := [.cells 58 [iA 0, iA 0, sA ByteArray.empty, .ro .full 0 []], .cells 101 (TCodes.cs v2.2)]) rfl ?_
  refine R 1 8 [(2, .ptr 1 0)] [.cells 58 (TValue.cs v2.1), .cells 101 (TCodes.cs v2.2)] (AOps_done (AWP_ret ?_))
  have hr := Option.some.inj H
  subst hr
  exact Fin_retn 1 (l := [.agg (TValue.cs v2.1)]) (h' := [.cells 101 (TCodes.cs v2.2)]) (by kernel_rfl) rfl (Nat.le_of_ble_eq_true rfl) ((by refine Closed_of ?_; exact ⟨⟨(scl_cl_u8 _ _), trivial, trivial⟩, trivial⟩)) (Frz_sc (sc_TValue_cs _ _)) ⟨rfl, rfl⟩
end Go.Proofs.YtjhbobacbaikoaaGreatDoor
/- A function of the program as a pure function, and that the program computes it. -/
namespace Go.Proofs.YtjhbobacbaikoaaGreatDoor
open Go
set_option linter.unusedVariables false
set_option linter.unusedSimpArgs false
set_option maxRecDepth 100000
def p_draw_Codes_Key (n : Nat) (x0 : TCodes) : Option (ByteArray × TCodes) :=
(p_draw_Codes_Next n x0 10).bind fun v1 =>
(catO (⟨#[107]⟩ : ByteArray) (Utf8.encode (IntKind.i32.wrap (w64 (48 + v1.1))))).bind fun v2 =>
 some (v2, v1.2)
variable {E : Env}
theorem s_draw_Codes_Key {n : Nat} {x0 : TCodes} {r : ByteArray × TCodes} (H : p_draw_Codes_Key n x0 = some r) :
    Sp Tryz.prog E 104 [.ptr 0 0] [.cells 101 (TCodes.cs x0)] (isA (sA r.1) [.cells 101 (TCodes.cs r.2)]) := by
  unfold p_draw_Codes_Key at H
  refine Sp_fn Tryz.func104 rfl (fun hc hs => ?_)
  refine AWP_reg (Rh 1 9 [(0, .ptr 0 0)] (AOps_done (AWP_reg (Rh 1 9 [(3, .ptr 0 0)] ?_))))
  obtain ⟨v1, hv1, H⟩ := bind_some H
  refine AOps_call1 (d := (some 4)) (al := [.ptr 0 0, iA 10]) ([.ptr 0 0, iA 10]) (r := iA v1.1) (j := 0) (b' := .cells 101 (TCodes.cs v1.2)) (by kernel_rfl) rfl (s_draw_Codes_Next hv1) (⟨(scl_cl_u8 _ _), trivial, trivial⟩) (⟨(scl_cl_u8 _ _), trivial, trivial⟩) ⟨Nat.zero_lt_one, trivial, trivial⟩ trivial rfl (h' := [.cells 101 (TCodes.cs v1.2)]) rfl ?_
  refine Rh 3 9 [(7, sA (Utf8.encode (IntKind.i32.wrap (w64 (48 + v1.1)))))] ?_
  obtain ⟨v2, hv2, H⟩ := bind_some H
  refine AOps_cat (d := (some 8)) (by kernel_rfl) hv2 ?_
  refine Rh 1 9 [(2, sA v2)] (AOps_done (AWP_ret ?_))
  have hr := Option.some.inj H
  subst hr
  exact Fin_retn 0 (l := [sA v2]) (h' := [.cells 101 (TCodes.cs v1.2)]) (by kernel_rfl) rfl (Nat.le_of_ble_eq_true rfl) ((by refine Closed_of ?_; exact ⟨⟨(scl_cl_u8 _ _), trivial, trivial⟩, trivial⟩)) (Frz_sc trivial) ⟨rfl, rfl⟩
end Go.Proofs.YtjhbobacbaikoaaGreatDoor
/- A function of the program as a pure function, and that the program computes it. -/
namespace Go.Proofs.YtjhbobacbaikoaaGreatDoor
open Go
set_option linter.unusedVariables false
set_option linter.unusedSimpArgs false
set_option maxRecDepth 100000
def p_draw_Codes_Name (n : Nat) (x0 : TCodes) : Option (ByteArray × TCodes) :=
(p_draw_Codes_Next n x0 (lI ([ByteArray.empty, (⟨#[66, 97, 100]⟩ : ByteArray), (⟨#[57, 97]⟩ : ByteArray), (⟨#[111, 110]⟩ : ByteArray), (⟨#[107, 101, 121]⟩ : ByteArray), (⟨#[122, 122]⟩ : ByteArray), (⟨#[97]⟩ : ByteArray), (⟨#[97, 108, 112, 104, 97]⟩ : ByteArray), (⟨#[102, 97]⟩ : ByteArray), (⟨#[102, 98]⟩ : ByteArray), (⟨#[108, 97]⟩ : ByteArray), (⟨#[120, 97]⟩ : ByteArray), (⟨#[97, 98, 99, 100, 101, 102, 103, 104, 105, 106, 107, 108, 109, 110, 111, 112, 113, 114, 115, 116, 117, 118, 119, 120, 121, 122, 48, 49, 50, 51, 52, 53, 54]⟩ : ByteArray), (⟨#[117, 115, 101, 114]⟩ : ByteArray), (⟨#[97, 46, 98]⟩ : ByteArray)]))).bind fun v1 =>
(rdO ([ByteArray.empty, (⟨#[66, 97, 100]⟩ : ByteArray), (⟨#[57, 97]⟩ : ByteArray), (⟨#[111, 110]⟩ : ByteArray), (⟨#[107, 101, 121]⟩ : ByteArray), (⟨#[122, 122]⟩ : ByteArray), (⟨#[97]⟩ : ByteArray), (⟨#[97, 108, 112, 104, 97]⟩ : ByteArray), (⟨#[102, 97]⟩ : ByteArray), (⟨#[102, 98]⟩ : ByteArray), (⟨#[108, 97]⟩ : ByteArray), (⟨#[120, 97]⟩ : ByteArray), (⟨#[97, 98, 99, 100, 101, 102, 103, 104, 105, 106, 107, 108, 109, 110, 111, 112, 113, 114, 115, 116, 117, 118, 119, 120, 121, 122, 48, 49, 50, 51, 52, 53, 54]⟩ : ByteArray), (⟨#[117, 115, 101, 114]⟩ : ByteArray), (⟨#[97, 46, 98]⟩ : ByteArray)]) v1.1).bind fun v2 =>
 some (v2, v1.2)
variable {E : Env}
theorem s_draw_Codes_Name {n : Nat} {x0 : TCodes} {r : ByteArray × TCodes} (H : p_draw_Codes_Name n x0 = some r) :
    Sp Tryz.prog E 50 [.ptr 0 0] [.cells 101 (TCodes.cs x0)] (isA (sA r.1) [.cells 101 (TCodes.cs r.2)]) := by
  unfold p_draw_Codes_Name at H
  refine Sp_fn Tryz.func50 rfl (fun hc hs => ?_)
  refine AWP_reg (Rh 1 12 [(0, .ptr 0 0)] (AOps_done (AWP_reg (AOps_bsl (d := (some 4)) (m := 15) (cs := [sA ByteArray.empty, sA (⟨#[66, 97, 100]⟩ : ByteArray), sA (⟨#[57, 97]⟩ : ByteArray), sA (⟨#[111, 110]⟩ : ByteArray), sA (⟨#[107, 101, 121]⟩ : ByteArray), sA (⟨#[122, 122]⟩ : ByteArray), sA (⟨#[97]⟩ : ByteArray), sA (⟨#[97, 108, 112, 104, 97]⟩ : ByteArray), sA (⟨#[102, 97]⟩ : ByteArray), sA (⟨#[102, 98]⟩ : ByteArray), sA (⟨#[108, 97]⟩ : ByteArray), sA (⟨#[120, 97]⟩ : ByteArray), sA (⟨#[97, 98, 99, 100, 101, 102, 103, 104, 105, 106, 107, 108, 109, 110, 111, 112, 113, 114, 115, 116, 117, 118, 119, 120, 121, 122, 48, 49, 50, 51, 52, 53, 54]⟩ : ByteArray), sA (⟨#[117, 115, 101, 114]⟩ : ByteArray), sA (⟨#[97, 46, 98]⟩ : ByteArray)]) (by kernel_rfl) ⟨trivial, trivial, trivial, trivial, trivial, trivial, trivial, trivial, trivial, trivial, trivial, trivial, trivial, trivial, trivial, trivial⟩ ?_))))
  refine Rh 1 12 [(0, .ptr 0 0), (3, .ro .unk ([ByteArray.empty, (⟨#[66, 97, 100]⟩ : ByteArray), (⟨#[57, 97]⟩ : ByteArray), (⟨#[111, 110]⟩ : ByteArray), (⟨#[107, 101, 121]⟩ : ByteArray), (⟨#[122, 122]⟩ : ByteArray), (⟨#[97]⟩ : ByteArray), (⟨#[97, 108, 112, 104, 97]⟩ : ByteArray), (⟨#[102, 97]⟩ : ByteArray), (⟨#[102, 98]⟩ : ByteArray), (⟨#[108, 97]⟩ : ByteArray), (⟨#[120, 97]⟩ : ByteArray), (⟨#[97, 98, 99, 100, 101, 102, 103, 104, 105, 106, 107, 108, 109, 110, 111, 112, 113, 114, 115, 116, 117, 118, 119, 120, 121, 122, 48, 49, 50, 51, 52, 53, 54]⟩ : ByteArray), (⟨#[117, 115, 101, 114]⟩ : ByteArray), (⟨#[97, 46, 98]⟩ : ByteArray)]).length (cl_str ([ByteArray.empty, (⟨#[66, 97, 100]⟩ : ByteArray), (⟨#[57, 97]⟩ : ByteArray), (⟨#[111, 110]⟩ : ByteArray), (⟨#[107, 101, 121]⟩ : ByteArray), (⟨#[122, 122]⟩ : ByteArray), (⟨#[97]⟩ : ByteArray), (⟨#[97, 108, 112, 104, 97]⟩ : ByteArray), (⟨#[102, 97]⟩ : ByteArray), (⟨#[102, 98]⟩ : ByteArray), (⟨#[108, 97]⟩ : ByteArray), (⟨#[120, 97]⟩ : ByteArray), (⟨#[97, 98, 99, 100, 101, 102, 103, 104, 105, 106, 107, 108, 109, 110, 111, 112, 113, 114, 115, 116, 117, 118, 119, 120, 121, 122, 48, 49, 50, 51, 52, 53, 54]⟩ : ByteArray), (⟨#[117, 115, 101, 114]⟩ : ByteArray), (⟨#[97, 46, 98]⟩ : ByteArray)])))] (AOps_done (AWP_reg (Rh 4 12 [(5, .ro .unk ([ByteArray.empty, (⟨#[66, 97, 100]⟩ : ByteArray), (⟨#[57, 97]⟩ : ByteArray), (⟨#[111, 110]⟩ : ByteArray), (⟨#[107, 101, 121]⟩ : ByteArray), (⟨#[122, 122]⟩ : ByteArray), (⟨#[97]⟩ : ByteArray), (⟨#[97, 108, 112, 104, 97]⟩ : ByteArray), (⟨#[102, 97]⟩ : ByteArray), (⟨#[102, 98]⟩ : ByteArray), (⟨#[108, 97]⟩ : ByteArray), (⟨#[120, 97]⟩ : ByteArray), (⟨#[97, 98, 99, 100, 101, 102, 103, 104, 105, 106, 107, 108, 109, 110, 111, 112, 113, 114, 115, 116, 117, 118, 119, 120, 121, 122, 48, 49, 50, 51, 52, 53, 54]⟩ : ByteArray), (⟨#[117, 115, 101, 114]⟩ : ByteArray), (⟨#[97, 46, 98]⟩ : ByteArray)]).length (cl_str ([ByteArray.empty, (⟨#[66, 97, 100]⟩ : ByteArray), (⟨#[57, 97]⟩ : ByteArray), (⟨#[111, 110]⟩ : ByteArray), (⟨#[107, 101, 121]⟩ : ByteArray), (⟨#[122, 122]⟩ : ByteArray), (⟨#[97]⟩ : ByteArray), (⟨#[97, 108, 112, 104, 97]⟩ : ByteArray), (⟨#[102, 97]⟩ : ByteArray), (⟨#[102, 98]⟩ : ByteArray), (⟨#[108, 97]⟩ : ByteArray), (⟨#[120, 97]⟩ : ByteArray), (⟨#[97, 98, 99, 100, 101, 102, 103, 104, 105, 106, 107, 108, 109, 110, 111, 112, 113, 114, 115, 116, 117, 118, 119, 120, 121, 122, 48, 49, 50, 51, 52, 53, 54]⟩ : ByteArray), (⟨#[117, 115, 101, 114]⟩ : ByteArray), (⟨#[97, 46, 98]⟩ : ByteArray)]))), (6, .ptr 0 0), (8, iA (lI ([ByteArray.empty, (⟨#[66, 97, 100]⟩ : ByteArray), (⟨#[57, 97]⟩ : ByteArray), (⟨#[111, 110]⟩ : ByteArray), (⟨#[107, 101, 121]⟩ : ByteArray), (⟨#[122, 122]⟩ : ByteArray), (⟨#[97]⟩ : ByteArray), (⟨#[97, 108, 112, 104, 97]⟩ : ByteArray), (⟨#[102, 97]⟩ : ByteArray), (⟨#[102, 98]⟩ : ByteArray), (⟨#[108, 97]⟩ : ByteArray), (⟨#[120, 97]⟩ : ByteArray), (⟨#[97, 98, 99, 100, 101, 102, 103, 104, 105, 106, 107, 108, 109, 110, 111, 112, 113, 114, 115, 116, 117, 118, 119, 120, 121, 122, 48, 49, 50, 51, 52, 53, 54]⟩ : ByteArray), (⟨#[117, 115, 101, 114]⟩ : ByteArray), (⟨#[97, 46, 98]⟩ : ByteArray)])))] ?_)))
  obtain ⟨v1, hv1, H⟩ := bind_some H
  refine AOps_call1 (d := (some 9)) (al := [.ptr 0 0, iA (lI ([ByteArray.empty, (⟨#[66, 97, 100]⟩ : ByteArray), (⟨#[57, 97]⟩ : ByteArray), (⟨#[111, 110]⟩ : ByteArray), (⟨#[107, 101, 121]⟩ : ByteArray), (⟨#[122, 122]⟩ : ByteArray), (⟨#[97]⟩ : ByteArray), (⟨#[97, 108, 112, 104, 97]⟩ : ByteArray), (⟨#[102, 97]⟩ : ByteArray), (⟨#[102, 98]⟩ : ByteArray), (⟨#[108, 97]⟩ : ByteArray), (⟨#[120, 97]⟩ : ByteArray), (⟨#[97, 98, 99, 100, 101, 102, 103, 104, 105, 106, 107, 108, 109, 110, 111, 112, 113, 114, 115, 116, 117, 118, 119, 120, 121, 122, 48, 49, 50, 51, 52, 53, 54]⟩ : ByteArray), (⟨#[117, 115, 101, 114]⟩ : ByteArray), (⟨#[97, 46, 98]⟩ : ByteArray)]))]) ([.ptr 0 0, iA (lI ([ByteArray.empty, (⟨#[66, 97, 100]⟩ : ByteArray), (⟨#[57, 97]⟩ : ByteArray), (⟨#[111, 110]⟩ : ByteArray), (⟨#[107, 101, 121]⟩ : ByteArray), (⟨#[122, 122]⟩ : ByteArray), (⟨#[97]⟩ : ByteArray), (⟨#[97, 108, 112, 104, 97]⟩ : ByteArray), (⟨#[102, 97]⟩ : ByteArray), (⟨#[102, 98]⟩ : ByteArray), (⟨#[108, 97]⟩ : ByteArray), (⟨#[120, 97]⟩ : ByteArray), (⟨#[97, 98, 99, 100, 101, 102, 103, 104, 105, 106, 107, 108, 109, 110, 111, 112, 113, 114, 115, 116, 117, 118, 119, 120, 121, 122, 48, 49, 50, 51, 52, 53, 54]⟩ : ByteArray), (⟨#[117, 115, 101, 114]⟩ : ByteArray), (⟨#[97, 46, 98]⟩ : ByteArray)]))]) (r := iA v1.1) (j := 0) (b' := .cells 101 (TCodes.cs v1.2)) (by kernel_rfl) rfl (s_draw_Codes_Next hv1) (⟨(scl_cl_u8 _ _), trivial, trivial⟩) (⟨(scl_cl_u8 _ _), trivial, trivial⟩) ⟨Nat.zero_lt_one, trivial, trivial⟩ trivial rfl (h' := [.cells 101 (TCodes.cs v1.2)]) rfl ?_
  obtain ⟨v2, hv2, H⟩ := bind_some H
  refine AOps_index (d := (some 10)) (sz := 1) (c := cs_str) (by kernel_rfl) rfl (eq_cl_str _) (fun _ => rfl) (by decide) hv2 (fun tl2 => ?_)
  refine Rh 2 12 [(2, sA v2)] (AOps_done (AWP_ret ?_))
  have hr := Option.some.inj H
  subst hr
  exact Fin_retn 0 (l := [sA v2]) (h' := [.cells 101 (TCodes.cs v1.2)]) (by kernel_rfl) rfl (Nat.le_of_ble_eq_true rfl) ((by refine Closed_of ?_; exact ⟨⟨(scl_cl_u8 _ _), trivial, trivial⟩, trivial⟩)) (Frz_sc trivial) ⟨rfl, rfl⟩
end Go.Proofs.YtjhbobacbaikoaaGreatDoor
/- A function of the program as a pure function, and that the program computes it. -/
namespace Go.Proofs.YtjhbobacbaikoaaGreatDoor
open Go
set_option linter.unusedVariables false
set_option linter.unusedSimpArgs false
set_option maxRecDepth 100000
def p_draw_Codes_Number (n : Nat) (x0 : TCodes) : Option (Int × TCodes) :=
(p_draw_Codes_Next n x0 (lI ([0, (-1), 1, 2, 8, 9, 10000, 10001, 1099511627776, 1099511627777, (-1099511627777), 1099511627777, 4, 5, 6]))).bind fun v1 =>
(rdO ([0, (-1), 1, 2, 8, 9, 10000, 10001, 1099511627776, 1099511627777, (-1099511627777), 1099511627777, 4, 5, 6]) v1.1).bind fun v2 =>
 some (v2, v1.2)
variable {E : Env}
theorem s_draw_Codes_Number {n : Nat} {x0 : TCodes} {r : Int × TCodes} (H : p_draw_Codes_Number n x0 = some r) :
    Sp Tryz.prog E 51 [.ptr 0 0] [.cells 101 (TCodes.cs x0)] (isA (iA r.1) [.cells 101 (TCodes.cs r.2)]) := by
  unfold p_draw_Codes_Number at H
  refine Sp_fn Tryz.func51 rfl (fun hc hs => ?_)
  refine AWP_reg (Rh 1 12 [(0, .ptr 0 0)] (AOps_done (AWP_reg (AOps_bsl (d := (some 4)) (m := 15) (cs := [iA 0, iA (-1), iA 1, iA 2, iA 8, iA 9, iA 10000, iA 10001, iA 1099511627776, iA 1099511627777, iA (-1099511627777), iA 1099511627777, iA 4, iA 5, iA 6]) (by kernel_rfl) ⟨trivial, trivial, trivial, trivial, trivial, trivial, trivial, trivial, trivial, trivial, trivial, trivial, trivial, trivial, trivial, trivial⟩ ?_))))
  refine Rh 1 12 [(0, .ptr 0 0), (3, .ro .unk ([0, (-1), 1, 2, 8, 9, 10000, 10001, 1099511627776, 1099511627777, (-1099511627777), 1099511627777, 4, 5, 6]).length (cl_i64 ([0, (-1), 1, 2, 8, 9, 10000, 10001, 1099511627776, 1099511627777, (-1099511627777), 1099511627777, 4, 5, 6])))] (AOps_done (AWP_reg (Rh 4 12 [(5, .ro .unk ([0, (-1), 1, 2, 8, 9, 10000, 10001, 1099511627776, 1099511627777, (-1099511627777), 1099511627777, 4, 5, 6]).length (cl_i64 ([0, (-1), 1, 2, 8, 9, 10000, 10001, 1099511627776, 1099511627777, (-1099511627777), 1099511627777, 4, 5, 6]))), (6, .ptr 0 0), (8, iA (lI ([0, (-1), 1, 2, 8, 9, 10000, 10001, 1099511627776, 1099511627777, (-1099511627777), 1099511627777, 4, 5, 6])))] ?_)))
  obtain ⟨v1, hv1, H⟩ := bind_some H
  refine AOps_call1 (d := (some 9)) (al := [.ptr 0 0, iA (lI ([0, (-1), 1, 2, 8, 9, 10000, 10001, 1099511627776, 1099511627777, (-1099511627777), 1099511627777, 4, 5, 6]))]) ([.ptr 0 0, iA (lI ([0, (-1), 1, 2, 8, 9, 10000, 10001, 1099511627776, 1099511627777, (-1099511627777), 1099511627777, 4, 5, 6]))]) (r := iA v1.1) (j := 0) (b' := .cells 101 (TCodes.cs v1.2)) (by kernel_rfl) rfl (s_draw_Codes_Next hv1) (⟨(scl_cl_u8 _ _), trivial, trivial⟩) (⟨(scl_cl_u8 _ _), trivial, trivial⟩) ⟨Nat.zero_lt_one, trivial, trivial⟩ trivial rfl (h' := [.cells 101 (TCodes.cs v1.2)]) rfl ?_
  obtain ⟨v2, hv2, H⟩ := bind_some H
  refine AOps_index (d := (some 10)) (sz := 1) (c := cs_i64) (by kernel_rfl) rfl (eq_cl_i64 _) (fun _ => rfl) (by decide) hv2 (fun tl2 => ?_)
  refine Rh 2 12 [(2, iA v2)] (AOps_done (AWP_ret ?_))
  have hr := Option.some.inj H
  subst hr
  exact Fin_retn 0 (l := [iA v2]) (h' := [.cells 101 (TCodes.cs v1.2)]) (by kernel_rfl) rfl (Nat.le_of_ble_eq_true rfl) ((by refine Closed_of ?_; exact ⟨⟨(scl_cl_u8 _ _), trivial, trivial⟩, trivial⟩)) (Frz_sc trivial) ⟨rfl, rfl⟩
end Go.Proofs.YtjhbobacbaikoaaGreatDoor
/- Drawn values and tests: what they are, and that they are well-formed. -/
namespace Go.Proofs.YtjhbobacbaikoaaGreatDoor
open Go
set_option linter.unusedVariables false
set_option linter.unusedSimpArgs false
set_option maxRecDepth 100000
theorem Al.all {α : Type} {P : Nat → α → Prop} : ∀ {l : List α}, (∀ x ∈ l, Al fun n => P n x) → Al fun n => ∀ x ∈ l, P n x
  | [], _ => .of fun n x h => by cases h
  | a :: l, h => ((h a (by simp)).and (Al.all (l := l) (P := P) fun x hx => h x (by simp [hx]))).mono fun n ⟨h1, h2⟩ x hx => by
    rcases List.mem_cons.1 hx with rfl | hx
    · exact h1
    · exact h2 x hx
theorem Al.addk {P : Nat → Prop} (k : Nat) (h : ∀ n, P (n + k)) : Al P := ⟨k, fun n hn => by
  have := h (n - k)
  rwa [Nat.sub_add_cancel hn] at this⟩
/-! ## values -/
def vI (k x : Int) : TValue := { gKind := k, gNumber := x, gText := ByteArray.empty, gList := [] }
def vT (k : Int) (t : ByteArray) : TValue := { gKind := k, gNumber := 0, gText := t, gList := [] }
def vL (l : List ByteArray) : TValue := { gKind := 5, gNumber := 0, gText := ByteArray.empty, gList := l }
def drawnV : List TValue := [vI 1 0, vI 1 1] ++ ([0, 1, 17, 18, 19, (-5), 64, 1099511627776, (-1099511627776)] : List Int).map (vI 2) ++ gl_texts.map (vT 3) ++ gl_versions.map (vT 4) ++ gl_lists.map vL
def keys10 : List ByteArray := [48, 49, 50, 51, 52, 53, 54, 55, 56, 57].map fun b => ⟨#[107, b]⟩
def goodV : List TValue := drawnV ++ keys10.map (vT 3)
def TValue.bd (x : TValue) : Prop := x.gText.size ≤ 100 ∧ x.gList.length ≤ 100 ∧ ∀ s ∈ x.gList, s.size ≤ 100
theorem good_bd : ∀ v ∈ goodV, v.bd := by
  have h : (goodV.all fun v => decide (v.gText.size ≤ 100) && (decide (v.gList.length ≤ 100) && v.gList.all fun s => decide (s.size ≤ 100))) = true := by kernel_rfl
  intro v hv
  have h := List.all_eq_true.1 h v hv
  simp only [Bool.and_eq_true, decide_eq_true_eq, List.all_eq_true] at h
  exact ⟨h.1, h.2.1, h.2.2⟩
theorem drawn_kind : ∀ v ∈ drawnV, 1 ≤ v.gKind ∧ v.gKind ≤ 5 := by
  have h : (drawnV.all fun v => decide (1 ≤ v.gKind) && decide (v.gKind ≤ 5)) = true := by kernel_rfl
  intro v hv
  have h := List.all_eq_true.1 h v hv
  simp only [Bool.and_eq_true, decide_eq_true_eq] at h
  exact h
section
variable {c : TCodes} (hc : c.cok)
 include hc
theorem text_gv : Gv (fun n => p_draw_Codes_Text n c) fun r => r.1 ∈ gl_texts ∧ r.2.cok := by
  unfold p_draw_Codes_Text
  refine Gv.bind (next_gv hc (k := 11) (by decide) (by decide)) fun r hr => ?_
  refine Gv.bind (Gv.rd (Q := fun t => t ∈ gl_texts) hr.1 (by have : gl_texts.length = 11 := rfl; omega) fun x hx => hx) fun t ht => Gv.pure ⟨ht, hr.2.2⟩
theorem name_gv : Gv (fun n => p_draw_Codes_Name n c) fun r => r.1.size ≤ 40 ∧ r.2.cok := by
  unfold p_draw_Codes_Name
  refine Gv.bind (next_gv hc (k := 15) (by decide) (by decide)) fun r hr => ?_
  refine Gv.bind (Gv.rd (Q := fun t => t.size ≤ 40) hr.1 (by have := hr.2.1; simpa using this) ?_) fun t ht => Gv.pure ⟨ht, hr.2.2⟩
  decide
theorem number_gv : Gv (fun n => p_draw_Codes_Number n c) fun r => r.2.cok := by
  unfold p_draw_Codes_Number
  refine Gv.bind (next_gv hc (k := 15) (by decide) (by decide)) fun r hr => ?_
  exact Gv.bind (Gv.rd (Q := fun _ => True) hr.1 (by have := hr.2.1; simpa using this) fun _ _ => trivial) fun t ht => Gv.pure hr.2.2
theorem value_gv (k : Int) (hk : 1 ≤ k ∧ k ≤ 5) : Gv (fun n => p_draw_Codes_Value n c k) fun r => (r.1 ∈ drawnV ∧ r.1.gKind = k) ∧ r.2.cok := by
  unfold p_draw_Codes_Value
  refine Gv.cond (fun h => ?_) (fun h1 => Gv.cond (fun h => ?_) (fun h2 => Gv.cond (fun h => ?_) (fun h3 => Gv.cond (fun h => ?_) (fun h4 => ?_))))
  · obtain rfl := beq_iff_eq.1 h
    refine Gv.bind (next_gv hc (k := 2) (by decide) (by decide)) fun r hr => Gv.pure ⟨⟨?_, rfl⟩, hr.2.2⟩
    have : r.1 = 0 ∨ r.1 = 1 := by omega
    rcases this with e | e <;> rw [e] <;> simp [drawnV, vI]
  · obtain rfl := beq_iff_eq.1 h
    refine Gv.bind (next_gv hc (k := 9) (by decide) (by decide)) fun r hr => ?_
    refine Gv.bind (Gv.rd (Q := fun x => x ∈ ([0, 1, 17, 18, 19, (-5), 64, 1099511627776, (-1099511627776)] : List Int)) hr.1 (by have := hr.2.1; simpa using this) fun x hx => hx) fun x hx => Gv.pure ⟨⟨?_, rfl⟩, hr.2.2⟩
    have : vI 2 x ∈ drawnV := by
      unfold drawnV
      exact List.mem_append_left _ (List.mem_append_left _ (List.mem_append_left _ (List.mem_append_right _ (List.mem_map_of_mem hx))))
    exact this
  · obtain rfl := beq_iff_eq.1 h
    refine Gv.bind (text_gv hc) fun r hr => Gv.pure ⟨⟨?_, rfl⟩, hr.2⟩
    have : vT 3 r.1 ∈ drawnV := by
      unfold drawnV
      exact List.mem_append_left _ (List.mem_append_left _ (List.mem_append_right _ (List.mem_map_of_mem hr.1)))
    exact this
  · obtain rfl := beq_iff_eq.1 h
    refine Gv.bind (next_gv hc (k := 6) (by decide) (by decide)) fun r hr => ?_
    refine Gv.bind (Gv.rd (Q := fun x => x ∈ gl_versions) hr.1 (by have : gl_versions.length = 6 := rfl; omega) fun x hx => hx) fun x hx => Gv.pure ⟨⟨?_, rfl⟩, hr.2.2⟩
    have : vT 4 x ∈ drawnV := by
      unfold drawnV
      exact List.mem_append_left _ (List.mem_append_right _ (List.mem_map_of_mem hx))
    exact this
  · refine Gv.bind (next_gv hc (k := 5) (by decide) (by decide)) fun r hr => ?_
    refine Gv.bind (Gv.rd (Q := fun x => x ∈ gl_lists ∧ x.length ≤ 100) hr.1 (by have : gl_lists.length = 5 := rfl; omega) ?_) fun x hx => ?_
    · intro x hx
      exact ⟨hx, by have h : (gl_lists.all fun l => decide (l.length ≤ 100)) = true := by decide
                    simpa using List.all_eq_true.1 h x hx⟩
    · refine Gv.bind (Gv.app (Q := fun l => l = x) (by have := hx.2; simp; omega) (by decide) (by simp)) ?_
      rintro l rfl
      refine Gv.pure ⟨⟨?_, ?_⟩, hr.2.2⟩
      · have : vL l ∈ drawnV := by
          unfold drawnV
          exact List.mem_append_right _ (List.mem_map_of_mem hx.1)
        exact this
      · have h1 := beq_eq_false_iff_ne.1 h1
        have h2 := beq_eq_false_iff_ne.1 h2
        have h3 := beq_eq_false_iff_ne.1 h3
        have h4 := beq_eq_false_iff_ne.1 h4
        show (5 : Int) = k
        omega
theorem any_gv : Gv (fun n => p_draw_Codes_Any n c) fun r => r.1 ∈ drawnV ∧ r.2.cok := by
  unfold p_draw_Codes_Any
  refine Gv.bind (next_gv hc (k := 5) (by decide) (by decide)) fun r hr => ?_
  rw [w64_of (show -9223372036854775808 ≤ 1 + r.1 by omega) (by omega)]
  exact Gv.bind (value_gv hr.2.2 _ ⟨by omega, by omega⟩) fun v hv => Gv.pure ⟨hv.1.1, hv.2⟩
 omit hc in
theorem key_cat {d : Int} (h0 : 0 ≤ d) (h1 : d < 10) : ∃ s, catO (⟨#[107]⟩ : ByteArray) (Utf8.encode (IntKind.i32.wrap (w64 (48 + d)))) = some s ∧ s ∈ keys10 := by
  have : d = 0 ∨ d = 1 ∨ d = 2 ∨ d = 3 ∨ d = 4 ∨ d = 5 ∨ d = 6 ∨ d = 7 ∨ d = 8 ∨ d = 9 := by omega
  have hd : (keys10.map fun s => s.data.toList) = [48, 49, 50, 51, 52, 53, 54, 55, 56, 57].map fun b => [107, b] := rfl
  rcases this with e | e | e | e | e | e | e | e | e | e <;> rw [e]
  · exact ⟨⟨#[107, 48]⟩, by kernel_rfl, by simp [keys10]⟩
  · exact ⟨⟨#[107, 49]⟩, by kernel_rfl, by simp [keys10]⟩
  · exact ⟨⟨#[107, 50]⟩, by kernel_rfl, by simp [keys10]⟩
  · exact ⟨⟨#[107, 51]⟩, by kernel_rfl, by simp [keys10]⟩
  · exact ⟨⟨#[107, 52]⟩, by kernel_rfl, by simp [keys10]⟩
  · exact ⟨⟨#[107, 53]⟩, by kernel_rfl, by simp [keys10]⟩
  · exact ⟨⟨#[107, 54]⟩, by kernel_rfl, by simp [keys10]⟩
  · exact ⟨⟨#[107, 55]⟩, by kernel_rfl, by simp [keys10]⟩
  · exact ⟨⟨#[107, 56]⟩, by kernel_rfl, by simp [keys10]⟩
  · exact ⟨⟨#[107, 57]⟩, by kernel_rfl, by simp [keys10]⟩
theorem key_gv : Gv (fun n => p_draw_Codes_Key n c) fun r => r.1 ∈ keys10 ∧ r.2.cok := by
  unfold p_draw_Codes_Key
  refine Gv.bind (next_gv hc (k := 10) (by decide) (by decide)) fun r hr => ?_
  obtain ⟨s, e, hs⟩ := key_cat hr.1 hr.2.1
  exact Gv.bind (Gv.opt (Q := fun x => x ∈ keys10) e hs) fun x hx => Gv.pure ⟨hx, hr.2.2⟩
end
end Go.Proofs.YtjhbobacbaikoaaGreatDoor
/- A function of the program as a pure function, and that the program computes it. -/
namespace Go.Proofs.YtjhbobacbaikoaaGreatDoor
open Go
set_option linter.unusedVariables false
set_option linter.unusedSimpArgs false
set_option maxRecDepth 100000
def p_draw_Declared (n : Nat)  : Option (List TDeclared) :=
 some ([({ gKind := (⟨#[100, 101, 118, 105, 99, 101]⟩ : ByteArray), gName := (⟨#[99, 111, 114, 101, 115]⟩ : ByteArray), gType := 2 } : TDeclared), ({ gKind := (⟨#[100, 101, 118, 105, 99, 101]⟩ : ByteArray), gName := (⟨#[111, 115]⟩ : ByteArray), gType := 3 } : TDeclared), ({ gKind := (⟨#[117, 115, 101, 114]⟩ : ByteArray), gName := (⟨#[97, 103, 101]⟩ : ByteArray), gType := 2 } : TDeclared), ({ gKind := (⟨#[117, 115, 101, 114]⟩ : ByteArray), gName := (⟨#[97, 112, 112]⟩ : ByteArray), gType := 4 } : TDeclared), ({ gKind := (⟨#[117, 115, 101, 114]⟩ : ByteArray), gName := (⟨#[98, 101, 116, 97]⟩ : ByteArray), gType := 1 } : TDeclared), ({ gKind := (⟨#[117, 115, 101, 114]⟩ : ByteArray), gName := (⟨#[99, 111, 117, 110, 116, 114, 121]⟩ : ByteArray), gType := 3 } : TDeclared), ({ gKind := (⟨#[117, 115, 101, 114]⟩ : ByteArray), gName := (⟨#[112, 108, 97, 110]⟩ : ByteArray), gType := 3 } : TDeclared), ({ gKind := (⟨#[117, 115, 101, 114]⟩ : ByteArray), gName := (⟨#[116, 97, 103, 115]⟩ : ByteArray), gType := 5 } : TDeclared)])
variable {E : Env}
theorem s_draw_Declared {n : Nat}  {r : (List TDeclared)} (H : p_draw_Declared n  = some r) :
    Sp Tryz.prog E 60 [] [] (isA (.ro .unk r.length (TDeclared.cl r)) []) := by
  unfold p_draw_Declared at H
  refine Sp_fn Tryz.func60 rfl (fun hc hs => ?_)
  refine AWP_reg (Rh 1 10 [] (AOps_done (AWP_reg (Rh 8 10 [(1, .agg [sA (⟨#[100, 101, 118, 105, 99, 101]⟩ : ByteArray), sA (⟨#[99, 111, 114, 101, 115]⟩ : ByteArray), iA 2]), (2, .agg [sA (⟨#[100, 101, 118, 105, 99, 101]⟩ : ByteArray), sA (⟨#[111, 115]⟩ : ByteArray), iA 3]), (3, .agg [sA (⟨#[117, 115, 101, 114]⟩ : ByteArray), sA (⟨#[97, 103, 101]⟩ : ByteArray), iA 2]), (4, .agg [sA (⟨#[117, 115, 101, 114]⟩ : ByteArray), sA (⟨#[97, 112, 112]⟩ : ByteArray), iA 4]), (5, .agg [sA (⟨#[117, 115, 101, 114]⟩ : ByteArray), sA (⟨#[98, 101, 116, 97]⟩ : ByteArray), iA 1]), (6, .agg [sA (⟨#[117, 115, 101, 114]⟩ : ByteArray), sA (⟨#[99, 111, 117, 110, 116, 114, 121]⟩ : ByteArray), iA 3]), (7, .agg [sA (⟨#[117, 115, 101, 114]⟩ : ByteArray), sA (⟨#[112, 108, 97, 110]⟩ : ByteArray), iA 3]), (8, .agg [sA (⟨#[117, 115, 101, 114]⟩ : ByteArray), sA (⟨#[116, 97, 103, 115]⟩ : ByteArray), iA 5])] (AOps_bsl (d := (some 9)) (m := 8) (cs := [sA (⟨#[100, 101, 118, 105, 99, 101]⟩ : ByteArray), sA (⟨#[99, 111, 114, 101, 115]⟩ : ByteArray), iA 2, sA (⟨#[100, 101, 118, 105, 99, 101]⟩ : ByteArray), sA (⟨#[111, 115]⟩ : ByteArray), iA 3, sA (⟨#[117, 115, 101, 114]⟩ : ByteArray), sA (⟨#[97, 103, 101]⟩ : ByteArray), iA 2, sA (⟨#[117, 115, 101, 114]⟩ : ByteArray), sA (⟨#[97, 112, 112]⟩ : ByteArray), iA 4, sA (⟨#[117, 115, 101, 114]⟩ : ByteArray), sA (⟨#[98, 101, 116, 97]⟩ : ByteArray), iA 1, sA (⟨#[117, 115, 101, 114]⟩ : ByteArray), sA (⟨#[99, 111, 117, 110, 116, 114, 121]⟩ : ByteArray), iA 3, sA (⟨#[117, 115, 101, 114]⟩ : ByteArray), sA (⟨#[112, 108, 97, 110]⟩ : ByteArray), iA 3, sA (⟨#[117, 115, 101, 114]⟩ : ByteArray), sA (⟨#[116, 97, 103, 115]⟩ : ByteArray), iA 5]) (by kernel_rfl) ⟨trivial, trivial, trivial, trivial, trivial, trivial, trivial, trivial, trivial, trivial, trivial, trivial, trivial, trivial, trivial, trivial, trivial, trivial, trivial, trivial, trivial, trivial, trivial, trivial, trivial⟩ ?_)))))
  refine Rh 1 10 [(0, .ro .unk ([({ gKind := (⟨#[100, 101, 118, 105, 99, 101]⟩ : ByteArray), gName := (⟨#[99, 111, 114, 101, 115]⟩ : ByteArray), gType := 2 } : TDeclared), ({ gKind := (⟨#[100, 101, 118, 105, 99, 101]⟩ : ByteArray), gName := (⟨#[111, 115]⟩ : ByteArray), gType := 3 } : TDeclared), ({ gKind := (⟨#[117, 115, 101, 114]⟩ : ByteArray), gName := (⟨#[97, 103, 101]⟩ : ByteArray), gType := 2 } : TDeclared), ({ gKind := (⟨#[117, 115, 101, 114]⟩ : ByteArray), gName := (⟨#[97, 112, 112]⟩ : ByteArray), gType := 4 } : TDeclared), ({ gKind := (⟨#[117, 115, 101, 114]⟩ : ByteArray), gName := (⟨#[98, 101, 116, 97]⟩ : ByteArray), gType := 1 } : TDeclared), ({ gKind := (⟨#[117, 115, 101, 114]⟩ : ByteArray), gName := (⟨#[99, 111, 117, 110, 116, 114, 121]⟩ : ByteArray), gType := 3 } : TDeclared), ({ gKind := (⟨#[117, 115, 101, 114]⟩ : ByteArray), gName := (⟨#[112, 108, 97, 110]⟩ : ByteArray), gType := 3 } : TDeclared), ({ gKind := (⟨#[117, 115, 101, 114]⟩ : ByteArray), gName := (⟨#[116, 97, 103, 115]⟩ : ByteArray), gType := 5 } : TDeclared)]).length (TDeclared.cl ([({ gKind := (⟨#[100, 101, 118, 105, 99, 101]⟩ : ByteArray), gName := (⟨#[99, 111, 114, 101, 115]⟩ : ByteArray), gType := 2 } : TDeclared), ({ gKind := (⟨#[100, 101, 118, 105, 99, 101]⟩ : ByteArray), gName := (⟨#[111, 115]⟩ : ByteArray), gType := 3 } : TDeclared), ({ gKind := (⟨#[117, 115, 101, 114]⟩ : ByteArray), gName := (⟨#[97, 103, 101]⟩ : ByteArray), gType := 2 } : TDeclared), ({ gKind := (⟨#[117, 115, 101, 114]⟩ : ByteArray), gName := (⟨#[97, 112, 112]⟩ : ByteArray), gType := 4 } : TDeclared), ({ gKind := (⟨#[117, 115, 101, 114]⟩ : ByteArray), gName := (⟨#[98, 101, 116, 97]⟩ : ByteArray), gType := 1 } : TDeclared), ({ gKind := (⟨#[117, 115, 101, 114]⟩ : ByteArray), gName := (⟨#[99, 111, 117, 110, 116, 114, 121]⟩ : ByteArray), gType := 3 } : TDeclared), ({ gKind := (⟨#[117, 115, 101, 114]⟩ : ByteArray), gName := (⟨#[112, 108, 97, 110]⟩ : ByteArray), gType := 3 } : TDeclared), ({ gKind := (⟨#[117, 115, 101, 114]⟩ : ByteArray), gName := (⟨#[116, 97, 103, 115]⟩ : ByteArray), gType := 5 } : TDeclared)])))] (AOps_done (AWP_ret ?_))
  have hr := Option.some.inj H
  subst hr
  exact Fin_retn 0 (l := [.ro .unk ([({ gKind := (⟨#[100, 101, 118, 105, 99, 101]⟩ : ByteArray), gName := (⟨#[99, 111, 114, 101, 115]⟩ : ByteArray), gType := 2 } : TDeclared), ({ gKind := (⟨#[100, 101, 118, 105, 99, 101]⟩ : ByteArray), gName := (⟨#[111, 115]⟩ : ByteArray), gType := 3 } : TDeclared), ({ gKind := (⟨#[117, 115, 101, 114]⟩ : ByteArray), gName := (⟨#[97, 103, 101]⟩ : ByteArray), gType := 2 } : TDeclared), ({ gKind := (⟨#[117, 115, 101, 114]⟩ : ByteArray), gName := (⟨#[97, 112, 112]⟩ : ByteArray), gType := 4 } : TDeclared), ({ gKind := (⟨#[117, 115, 101, 114]⟩ : ByteArray), gName := (⟨#[98, 101, 116, 97]⟩ : ByteArray), gType := 1 } : TDeclared), ({ gKind := (⟨#[117, 115, 101, 114]⟩ : ByteArray), gName := (⟨#[99, 111, 117, 110, 116, 114, 121]⟩ : ByteArray), gType := 3 } : TDeclared), ({ gKind := (⟨#[117, 115, 101, 114]⟩ : ByteArray), gName := (⟨#[112, 108, 97, 110]⟩ : ByteArray), gType := 3 } : TDeclared), ({ gKind := (⟨#[117, 115, 101, 114]⟩ : ByteArray), gName := (⟨#[116, 97, 103, 115]⟩ : ByteArray), gType := 5 } : TDeclared)]).length (TDeclared.cl ([({ gKind := (⟨#[100, 101, 118, 105, 99, 101]⟩ : ByteArray), gName := (⟨#[99, 111, 114, 101, 115]⟩ : ByteArray), gType := 2 } : TDeclared), ({ gKind := (⟨#[100, 101, 118, 105, 99, 101]⟩ : ByteArray), gName := (⟨#[111, 115]⟩ : ByteArray), gType := 3 } : TDeclared), ({ gKind := (⟨#[117, 115, 101, 114]⟩ : ByteArray), gName := (⟨#[97, 103, 101]⟩ : ByteArray), gType := 2 } : TDeclared), ({ gKind := (⟨#[117, 115, 101, 114]⟩ : ByteArray), gName := (⟨#[97, 112, 112]⟩ : ByteArray), gType := 4 } : TDeclared), ({ gKind := (⟨#[117, 115, 101, 114]⟩ : ByteArray), gName := (⟨#[98, 101, 116, 97]⟩ : ByteArray), gType := 1 } : TDeclared), ({ gKind := (⟨#[117, 115, 101, 114]⟩ : ByteArray), gName := (⟨#[99, 111, 117, 110, 116, 114, 121]⟩ : ByteArray), gType := 3 } : TDeclared), ({ gKind := (⟨#[117, 115, 101, 114]⟩ : ByteArray), gName := (⟨#[112, 108, 97, 110]⟩ : ByteArray), gType := 3 } : TDeclared), ({ gKind := (⟨#[117, 115, 101, 114]⟩ : ByteArray), gName := (⟨#[116, 97, 103, 115]⟩ : ByteArray), gType := 5 } : TDeclared)]))]) (h' := []) (by kernel_rfl) rfl (Nat.le_of_ble_eq_true rfl) ((by refine Closed_of ?_; exact trivial)) (Frz_sc (scl_TDeclared_cl _ _)) ⟨rfl, rfl⟩
end Go.Proofs.YtjhbobacbaikoaaGreatDoor
/- A function of the program as a pure function, and that the program computes it. -/
namespace Go.Proofs.YtjhbobacbaikoaaGreatDoor
open Go
set_option linter.unusedVariables false
set_option linter.unusedSimpArgs false
set_option maxRecDepth 100000
def p_draw_Codes_Test_K1 (n : Nat) (v5 : TDeclared) (v72 : List Int) (v73 : Int) : Option (TExpr × TCodes) :=
(p_draw_Codes_Value n ({ glist := v72, gat := v73 } : TCodes) v5.gType).bind fun v74 =>
 some ((TExpr.mk 7 v5.gKind v5.gName ([v74.1]) ([])), v74.2)
def p_draw_Codes_Test_K2 (n : Nat) (v5 : TDeclared) (v75 : Int × TCodes) : Option (TExpr × TCodes) :=
(bif ((v5.gType == 2) || (v5.gType == 3)) || (v5.gType == 4) then
(p_draw_Codes_Next n v75.2 4).bind fun v108 =>
(p_draw_Codes_Value n v108.2 v5.gType).bind fun v109 =>
 some ((TExpr.mk (w64 (12 + v108.1)) v5.gKind v5.gName ([v109.1]) ([])), v109.2)
 else
 p_draw_Codes_Test_K1 n v5 v75.2.glist v75.2.gat)
def p_draw_Codes_Test_L1 (n : Nat) (v5 : TDeclared) (v125 : Int) (v126 : List Int) (v127 : Int) (v128 : List TValue) : Option (TExpr × TCodes) := match n with
| 0 => none
| n + 1 =>
(p_draw_Codes_Next n ({ glist := v126, gat := v127 } : TCodes) 3).bind fun v129 =>
(bif decide (v125 ≤ v129.1) then
(p_draw_Codes_Value n v129.2 v5.gType).bind fun v131 =>
(appO 56 v128 ([v131.1])).bind fun v132 =>
 p_draw_Codes_Test_L1 n v5 (w64 (v125 + 1)) v131.2.glist v131.2.gat v132
 else
 some ((TExpr.mk 8 v5.gKind v5.gName v128 ([])), v129.2))
def p_draw_Codes_Test (n : Nat) (x0 : TCodes) : Option (TExpr × TCodes) :=
(p_draw_Declared n ).bind fun v1 =>
(p_draw_Codes_Next n x0 (w64 ((lI v1) + 1))).bind fun v2 =>
(bif v2.1 == (lI v1) then
(p_draw_Codes_Key n v2.2).bind fun v4 =>
 some ((TExpr.mk 7 (⟨#[117, 115, 101, 114]⟩ : ByteArray) (⟨#[107, 101, 121]⟩ : ByteArray) ([({ gKind := 3, gNumber := 0, gText := v4.1, gList := [] } : TValue)]) ([])), v4.2)
 else
(rdO v1 v2.1).bind fun v5 =>
(p_draw_Codes_Next n v2.2 5).bind fun v75 =>
(bif v75.1 == 0 then
 some ((TExpr.mk 6 v5.gKind v5.gName ([]) ([])), v75.2)
 else
(bif v75.1 == 1 then
(bif v5.gType != 5 then
 p_draw_Codes_Test_L1 n v5 0 v75.2.glist v75.2.gat ([])
 else
 p_draw_Codes_Test_K1 n v5 v75.2.glist v75.2.gat)
 else
(bif v75.1 == 2 then
(bif (v5.gType == 3) || (v5.gType == 5) then
(p_draw_Codes_Value n v75.2 3).bind fun v135 =>
 some ((TExpr.mk 11 v5.gKind v5.gName ([v135.1]) ([])), v135.2)
 else
 p_draw_Codes_Test_K1 n v5 v75.2.glist v75.2.gat)
 else
(bif v75.1 == 3 then
(bif v5.gType == 3 then
(p_draw_Codes_Next n v75.2 2).bind fun v138 =>
(p_draw_Codes_Value n v138.2 3).bind fun v139 =>
 some ((TExpr.mk (w64 (9 + v138.1)) v5.gKind v5.gName ([v139.1]) ([])), v139.2)
 else
 p_draw_Codes_Test_K2 n v5 v75 )
 else
(bif v75.1 == 4 then
 p_draw_Codes_Test_K2 n v5 v75 
 else
 p_draw_Codes_Test_K1 n v5 v75.2.glist v75.2.gat))))))
variable {E : Env}
theorem s_draw_Codes_Test {n : Nat} (hG : GlobD E) {x0 : TCodes} {r : TExpr × TCodes} (H : p_draw_Codes_Test n x0 = some r) :
    Sp Tryz.prog E 47 [.ptr 0 0] [.cells 101 (TCodes.cs x0)] (isA (.agg (TExpr.cs r.1)) [.cells 101 (TCodes.cs r.2)]) := by
  unfold p_draw_Codes_Test at H
  refine Sp_fn Tryz.func47 rfl (fun hc hs => ?_)
  refine AWP_reg (R 1 124 [(0, .ptr 0 0), (2, .ptr 1 0)] [.cells 25 [iA 0, sA ByteArray.empty, sA ByteArray.empty, .ro .full 0 [], .ro .full 0 []], .cells 101 (TCodes.cs x0)] (AOps_done (AWP_reg ?_)))
  obtain ⟨v1, hv1, H⟩ := bind_some H
  refine AOps_callp (d := (some 8)) (al := []) (r := .ro .unk v1.length (TDeclared.cl v1)) (by kernel_rfl) (s_draw_Declared hv1) trivial (scl_TDeclared_cl _ _) ?_
  refine Rh 1 124 [(0, .ptr 0 0), (2, .ptr 1 0), (3, .ro .unk v1.length (TDeclared.cl v1))] (AOps_done (AWP_reg (Rh 4 124 [(0, .ptr 0 0), (2, .ptr 1 0), (3, .ro .unk v1.length (TDeclared.cl v1)), (9, .ptr 0 0), (12, iA (w64 ((lI v1) + 1)))] ?_)))
  obtain ⟨v2, hv2, H⟩ := bind_some H
  refine AOps_call1 (d := (some 13)) (al := [.ptr 0 0, iA (w64 ((lI v1) + 1))]) ([.ptr 0 0, iA (w64 ((lI v1) + 1))]) (r := iA v2.1) (j := 0) (b' := .cells 101 (TCodes.cs v2.2)) (by kernel_rfl) rfl (s_draw_Codes_Next hv2) (⟨(scl_cl_u8 _ _), trivial, trivial⟩) (⟨(scl_cl_u8 _ _), trivial, trivial⟩) ⟨Nat.zero_lt_one, trivial, trivial⟩ trivial rfl (h' := [.cells 25 [iA 0, sA ByteArray.empty, sA ByteArray.empty, .ro .full 0 [], .ro .full 0 []], .cells 101 (TCodes.cs v2.2)]) rfl ?_
  refine Rh 1 124 [(0, .ptr 0 0), (2, .ptr 1 0), (3, .ro .unk v1.length (TDeclared.cl v1)), (4, iA v2.1)] (AOps_done (AWP_seq (AWP_reg (Rh 4 124 [(0, .ptr 0 0), (2, .ptr 1 0), (3, .ro .unk v1.length (TDeclared.cl v1)), (4, iA v2.1), (17, bA (v2.1 == (lI v1)))] (AOps_done (CD H (fun hb3 H => ?_) (fun hb3 H => ?_)))))))
  · refine AWP_reg (Rh 1 124 [(2, .ptr 1 0), (18, .ptr 0 0)] ?_)
    obtain ⟨v4, hv4, H⟩ := bind_some H
    refine AOps_call1 (d := (some 19)) (al := [.ptr 0 0]) ([.ptr 0 0]) (r := sA v4.1) (j := 0) (b' := .cells 101 (TCodes.cs v4.2)) (by kernel_rfl) rfl (s_draw_Codes_Key hv4) (⟨(scl_cl_u8 _ _), trivial, trivial⟩) (⟨(scl_cl_u8 _ _), trivial, trivial⟩) ⟨Nat.zero_lt_one, trivial⟩ trivial rfl (h' := [.cells 25 [iA 0, sA ByteArray.empty, sA ByteArray.empty, .ro .full 0 [], .ro .full 0 []], .cells 101 (TCodes.cs v4.2)]) rfl ?_
    refine Rh 1 124 [(2, .ptr 1 0), (20, .agg [iA 3, iA 0, sA v4.1, .ro .full 0 []])] (AOps_bsl2 (d := (some 21)) (m := 1) (cs := [iA 3, iA 0, sA v4.1, .ro .full 0 []]) [iA 3, iA 0, sA v4.1, .ro .unk ([] : List ByteArray).length (cl_str ([] : List ByteArray))] (by kernel_rfl) ⟨trivial, trivial, trivial, trivial, trivial⟩ (leL_cons (AV.le_refl _) (leL_cons (AV.le_refl _) (leL_cons (AV.le_refl _) (leL_cons (AV.le_ro _ _ _) (leL_refl _))))) rfl ?_)
    refine R 2 124 [(2, .ptr 1 0)] [.cells 25 [iA 7, sA (⟨#[117, 115, 101, 114]⟩ : ByteArray), sA (⟨#[107, 101, 121]⟩ : ByteArray), .ro .unk ([({ gKind := 3, gNumber := 0, gText := v4.1, gList := [] } : TValue)]).length (TValue.cl ([({ gKind := 3, gNumber := 0, gText := v4.1, gList := [] } : TValue)])), .ro .full 0 []], .cells 101 (TCodes.cs v4.2)] (AOps_done (AWP_ret ?_))
    have hr := Option.some.inj H
    subst hr
    exact Fin_retn 1 (l := [.agg [iA 7, sA (⟨#[117, 115, 101, 114]⟩ : ByteArray), sA (⟨#[107, 101, 121]⟩ : ByteArray), .ro .unk ([({ gKind := 3, gNumber := 0, gText := v4.1, gList := [] } : TValue)]).length (TValue.cl ([({ gKind := 3, gNumber := 0, gText := v4.1, gList := [] } : TValue)])), .ro .full 0 []]]) (h' := [.cells 101 (TCodes.cs v4.2)]) (by kernel_rfl) rfl (Nat.le_of_ble_eq_true rfl) ((by refine Closed_of ?_; exact ⟨⟨(scl_cl_u8 _ _), trivial, trivial⟩, trivial⟩)) (Frz_agg (FrzL_cons (Frz_sc trivial) (FrzL_cons (Frz_sc trivial) (FrzL_cons (Frz_sc trivial) (FrzL_cons (Frz_sc (scl_TValue_cl _ _)) (FrzL_cons (Frz_le (Frz_sc trivial) (AV.le_ro _ _ _)) (FrzL_nil)))))) rfl) ⟨rfl, rfl⟩
  · refine AWP_skip ?_
    show AWP _ _ _ _ _ _ _
    refine AWP_reg (Rh 2 124 [(0, .ptr 0 0), (2, .ptr 1 0), (23, .ro .unk v1.length (TDeclared.cl v1)), (24, iA v2.1)] ?_)
    obtain ⟨v5, hv5, H⟩ := bind_some H
    refine AOps_index (d := (some 25)) (sz := 3) (c := TDeclared.cs) (by kernel_rfl) rfl (eq_TDeclared_cl _) (fun _ => rfl) (by decide) hv5 (fun tl5 => ?_)
    refine R 3 124 [(0, .ptr 0 0), (2, .ptr 1 0), (5, .ptr 2 0)] [.cells 112 (TDeclared.cs v5), .cells 25 [iA 0, sA ByteArray.empty, sA ByteArray.empty, .ro .full 0 [], .ro .full 0 []], .cells 101 (TCodes.cs v2.2)] (AOps_done (AWP_reg (R 7 124 [(0, .ptr 0 0), (2, .ptr 1 0), (5, .ptr 2 0), (6, .ptr 3 0)] [.cells 25 [iA 0, sA v5.gKind, sA v5.gName, .ro .full 0 [], .ro .full 0 []], .cells 112 (TDeclared.cs v5), .cells 25 [iA 0, sA ByteArray.empty, sA ByteArray.empty, .ro .full 0 [], .ro .full 0 []], .cells 101 (TCodes.cs v2.2)] (AOps_done (AWP_joinN (α := (List Int) × Int) (fun ⟨v72, v73⟩ => fr 124 [(0, .ptr 0 0), (2, .ptr 1 0), (5, .ptr 2 0), (6, .ptr 3 0)]) (fun ⟨v72, v73⟩ => [.cells 25 [iA 0, sA v5.gKind, sA v5.gName, .ro .full 0 [], .ro .full 0 []], .cells 112 (TDeclared.cs v5), .cells 25 [iA 0, sA ByteArray.empty, sA ByteArray.empty, .ro .full 0 [], .ro .full 0 []], .cells 101 [.ro .unk v72.length (cl_u8 v72), iA v73]]) (fun ⟨v72, v73⟩ => ∃ q, q ≤ q ∧ p_draw_Codes_Test_K1 q v5 v72 v73 = some r) (fun a hC => ?_) ?_)))))
    · obtain ⟨v72, v73⟩ := a
      show AWP _ _ _ _ _ (fr 124 [(0, .ptr 0 0), (2, .ptr 1 0), (5, .ptr 2 0), (6, .ptr 3 0)]) [.cells 25 [iA 0, sA v5.gKind, sA v5.gName, .ro .full 0 [], .ro .full 0 []], .cells 112 (TDeclared.cs v5), .cells 25 [iA 0, sA ByteArray.empty, sA ByteArray.empty, .ro .full 0 [], .ro .full 0 []], .cells 101 [.ro .unk v72.length (cl_u8 v72), iA v73]]
      obtain ⟨n, hn_, hC⟩ := hC
      replace H : p_draw_Codes_Test_K1 n v5 v72 v73 = some r := hC
      unfold p_draw_Codes_Test_K1 at H
      refine AWP_reg (R 2 124 [(0, .ptr 0 0), (2, .ptr 1 0), (5, .ptr 2 0), (6, .ptr 3 0)] [.cells 25 [iA 7, sA v5.gKind, sA v5.gName, .ro .full 0 [], .ro .full 0 []], .cells 112 (TDeclared.cs v5), .cells 25 [iA 0, sA ByteArray.empty, sA ByteArray.empty, .ro .full 0 [], .ro .full 0 []], .cells 101 [.ro .unk v72.length (cl_u8 v72), iA v73]] (AOps_done (AWP_reg (Rh 3 124 [(2, .ptr 1 0), (6, .ptr 3 0), (117, .ptr 0 0), (119, iA v5.gType)] ?_))))
      obtain ⟨v74, hv74, H⟩ := bind_some H
      refine AOps_call1 (d := (some 120)) (al := [.ptr 0 0, iA v5.gType]) ([.ptr 0 0, iA v5.gType]) (r := .agg (TValue.cs v74.1)) (j := 0) (b' := .cells 101 (TCodes.cs v74.2)) (by kernel_rfl) rfl (s_draw_Codes_Value hG hv74) (⟨(scl_cl_u8 _ _), trivial, trivial⟩) (⟨(scl_cl_u8 _ _), trivial, trivial⟩) ⟨Nat.zero_lt_one, trivial, trivial⟩ (sc_TValue_cs _ _) rfl (h' := [.cells 25 [iA 7, sA v5.gKind, sA v5.gName, .ro .full 0 [], .ro .full 0 []], .cells 112 (TDeclared.cs v5), .cells 25 [iA 0, sA ByteArray.empty, sA ByteArray.empty, .ro .full 0 [], .ro .full 0 []], .cells 101 (TCodes.cs v74.2)]) rfl ?_
      refine AOps_bsl (d := (some 121)) (m := 1) (cs := [iA v74.1.gKind, iA v74.1.gNumber, sA v74.1.gText, .ro .unk v74.1.gList.length (cl_str v74.1.gList)]) (by kernel_rfl) ⟨trivial, trivial, trivial, (scl_cl_str _ _), trivial⟩ ?_
      refine R 2 124 [(2, .ptr 1 0), (6, .ptr 3 0)] [.cells 25 [iA 7, sA v5.gKind, sA v5.gName, .ro .unk ([v74.1]).length (TValue.cl ([v74.1])), .ro .full 0 []], .cells 112 (TDeclared.cs v5), .cells 25 [iA 0, sA ByteArray.empty, sA ByteArray.empty, .ro .full 0 [], .ro .full 0 []], .cells 101 (TCodes.cs v74.2)] (AOps_done (AWP_reg (R 2 124 [(2, .ptr 1 0)] [.cells 25 [iA 7, sA v5.gKind, sA v5.gName, .ro .unk ([v74.1]).length (TValue.cl ([v74.1])), .ro .full 0 []], .cells 112 (TDeclared.cs v5), .cells 25 [iA 7, sA v5.gKind, sA v5.gName, .ro .unk ([v74.1]).length (TValue.cl ([v74.1])), .ro .full 0 []], .cells 101 (TCodes.cs v74.2)] (AOps_done (AWP_ret ?_)))))
      have hr := Option.some.inj H
      subst hr
      exact Fin_retn 3 (l := [.agg [iA 7, sA v5.gKind, sA v5.gName, .ro .unk ([v74.1]).length (TValue.cl ([v74.1])), .ro .full 0 []]]) (h' := [.cells 101 (TCodes.cs v74.2)]) (by kernel_rfl) rfl (Nat.le_of_ble_eq_true rfl) ((by refine Closed_of ?_; exact ⟨⟨(scl_cl_u8 _ _), trivial, trivial⟩, trivial⟩)) (Frz_agg (FrzL_cons (Frz_sc trivial) (FrzL_cons (Frz_sc trivial) (FrzL_cons (Frz_sc trivial) (FrzL_cons (Frz_sc (scl_TValue_cl _ _)) (FrzL_cons (Frz_le (Frz_sc trivial) (AV.le_ro _ _ _)) (FrzL_nil)))))) rfl) ⟨rfl, rfl⟩
    · refine AWP_reg (Rh 1 124 [(0, .ptr 0 0), (2, .ptr 1 0), (5, .ptr 2 0), (6, .ptr 3 0), (32, .ptr 0 0)] ?_)
      obtain ⟨v75, hv75, H⟩ := bind_some H
      refine AOps_call1 (d := (some 33)) (al := [.ptr 0 0, iA 5]) ([.ptr 0 0, iA 5]) (r := iA v75.1) (j := 0) (b' := .cells 101 (TCodes.cs v75.2)) (by kernel_rfl) rfl (s_draw_Codes_Next hv75) (⟨(scl_cl_u8 _ _), trivial, trivial⟩) (⟨(scl_cl_u8 _ _), trivial, trivial⟩) ⟨Nat.zero_lt_one, trivial, trivial⟩ trivial rfl (h' := [.cells 25 [iA 0, sA v5.gKind, sA v5.gName, .ro .full 0 [], .ro .full 0 []], .cells 112 (TDeclared.cs v5), .cells 25 [iA 0, sA ByteArray.empty, sA ByteArray.empty, .ro .full 0 [], .ro .full 0 []], .cells 101 (TCodes.cs v75.2)]) rfl ?_
      refine AOps_done (AWP_block ?_)
      refine AWP_joinN (α := Unit) (fun _ => fr 124 [(0, .ptr 0 0), (2, .ptr 1 0), (5, .ptr 2 0), (6, .ptr 3 0)]) (fun _ => [.cells 25 [iA 0, sA v5.gKind, sA v5.gName, .ro .full 0 [], .ro .full 0 []], .cells 112 (TDeclared.cs v5), .cells 25 [iA 0, sA ByteArray.empty, sA ByteArray.empty, .ro .full 0 [], .ro .full 0 []], .cells 101 (TCodes.cs v75.2)]) (fun _ => ∃ q, q ≤ q ∧ p_draw_Codes_Test_K2 q v5 v75  = some r) (fun a hC => ?_) ?_
      · show AWP _ _ _ _ _ (fr 124 [(0, .ptr 0 0), (2, .ptr 1 0), (5, .ptr 2 0), (6, .ptr 3 0)]) [.cells 25 [iA 0, sA v5.gKind, sA v5.gName, .ro .full 0 [], .ro .full 0 []], .cells 112 (TDeclared.cs v5), .cells 25 [iA 0, sA ByteArray.empty, sA ByteArray.empty, .ro .full 0 [], .ro .full 0 []], .cells 101 (TCodes.cs v75.2)]
        obtain ⟨n, hn_, hC⟩ := hC
        replace H : p_draw_Codes_Test_K2 n v5 v75  = some r := hC
        unfold p_draw_Codes_Test_K2 at H
        refine AWP_seq (AWP_reg (Rh 4 124 [(0, .ptr 0 0), (2, .ptr 1 0), (5, .ptr 2 0), (6, .ptr 3 0), (95, bA (v5.gType == 2))] (AOps_run 4 [0, 2, 5, 6, 99] (st' := fr 124 [(0, .ptr 0 0), (2, .ptr 1 0), (5, .ptr 2 0), (6, .ptr 3 0), (99, bA ((v5.gType == 2) || (v5.gType == 3)))]) (h' := [.cells 25 [iA 0, sA v5.gKind, sA v5.gName, .ro .full 0 [], .ro .full 0 []], .cells 112 (TDeclared.cs v5), .cells 25 [iA 0, sA ByteArray.empty, sA ByteArray.empty, .ro .full 0 [], .ro .full 0 []], .cells 101 (TCodes.cs v75.2)]) (by (generalize (v5.gType == 2) = t0; cases t0 <;> kernel_rfl)) ?_)))
        refine Rh 1 124 [(0, .ptr 0 0), (2, .ptr 1 0), (5, .ptr 2 0), (6, .ptr 3 0), (100, bA ((v5.gType == 2) || (v5.gType == 3)))] (AOps_run 4 [0, 2, 5, 6, 104] (st' := fr 124 [(0, .ptr 0 0), (2, .ptr 1 0), (5, .ptr 2 0), (6, .ptr 3 0), (104, bA (((v5.gType == 2) || (v5.gType == 3)) || (v5.gType == 4)))]) (h' := [.cells 25 [iA 0, sA v5.gKind, sA v5.gName, .ro .full 0 [], .ro .full 0 []], .cells 112 (TDeclared.cs v5), .cells 25 [iA 0, sA ByteArray.empty, sA ByteArray.empty, .ro .full 0 [], .ro .full 0 []], .cells 101 (TCodes.cs v75.2)]) (by (generalize (v5.gType == 2) = t0; generalize (v5.gType == 3) = t1; cases t0 <;> cases t1 <;> kernel_rfl)) ?_)
        refine AOps_done (CD H (fun hb107 H => ?_) (fun hb107 H => ?_))
        · refine AWP_reg (Rh 1 124 [(0, .ptr 0 0), (2, .ptr 1 0), (5, .ptr 2 0), (6, .ptr 3 0), (105, .ptr 0 0)] ?_)
          obtain ⟨v108, hv108, H⟩ := bind_some H
          refine AOps_call1 (d := (some 106)) (al := [.ptr 0 0, iA 4]) ([.ptr 0 0, iA 4]) (r := iA v108.1) (j := 0) (b' := .cells 101 (TCodes.cs v108.2)) (by kernel_rfl) rfl (s_draw_Codes_Next hv108) (⟨(scl_cl_u8 _ _), trivial, trivial⟩) (⟨(scl_cl_u8 _ _), trivial, trivial⟩) ⟨Nat.zero_lt_one, trivial, trivial⟩ trivial rfl (h' := [.cells 25 [iA 0, sA v5.gKind, sA v5.gName, .ro .full 0 [], .ro .full 0 []], .cells 112 (TDeclared.cs v5), .cells 25 [iA 0, sA ByteArray.empty, sA ByteArray.empty, .ro .full 0 [], .ro .full 0 []], .cells 101 (TCodes.cs v108.2)]) rfl ?_
          refine R 3 124 [(0, .ptr 0 0), (2, .ptr 1 0), (5, .ptr 2 0), (6, .ptr 3 0)] [.cells 25 [iA (w64 (12 + v108.1)), sA v5.gKind, sA v5.gName, .ro .full 0 [], .ro .full 0 []], .cells 112 (TDeclared.cs v5), .cells 25 [iA 0, sA ByteArray.empty, sA ByteArray.empty, .ro .full 0 [], .ro .full 0 []], .cells 101 (TCodes.cs v108.2)] (AOps_done (AWP_reg (Rh 3 124 [(2, .ptr 1 0), (6, .ptr 3 0), (109, .ptr 0 0), (111, iA v5.gType)] ?_)))
          obtain ⟨v109, hv109, H⟩ := bind_some H
          refine AOps_call1 (d := (some 112)) (al := [.ptr 0 0, iA v5.gType]) ([.ptr 0 0, iA v5.gType]) (r := .agg (TValue.cs v109.1)) (j := 0) (b' := .cells 101 (TCodes.cs v109.2)) (by kernel_rfl) rfl (s_draw_Codes_Value hG hv109) (⟨(scl_cl_u8 _ _), trivial, trivial⟩) (⟨(scl_cl_u8 _ _), trivial, trivial⟩) ⟨Nat.zero_lt_one, trivial, trivial⟩ (sc_TValue_cs _ _) rfl (h' := [.cells 25 [iA (w64 (12 + v108.1)), sA v5.gKind, sA v5.gName, .ro .full 0 [], .ro .full 0 []], .cells 112 (TDeclared.cs v5), .cells 25 [iA 0, sA ByteArray.empty, sA ByteArray.empty, .ro .full 0 [], .ro .full 0 []], .cells 101 (TCodes.cs v109.2)]) rfl ?_
          refine AOps_bsl (d := (some 113)) (m := 1) (cs := [iA v109.1.gKind, iA v109.1.gNumber, sA v109.1.gText, .ro .unk v109.1.gList.length (cl_str v109.1.gList)]) (by kernel_rfl) ⟨trivial, trivial, trivial, (scl_cl_str _ _), trivial⟩ ?_
          refine R 2 124 [(2, .ptr 1 0), (6, .ptr 3 0)] [.cells 25 [iA (w64 (12 + v108.1)), sA v5.gKind, sA v5.gName, .ro .unk ([v109.1]).length (TValue.cl ([v109.1])), .ro .full 0 []], .cells 112 (TDeclared.cs v5), .cells 25 [iA 0, sA ByteArray.empty, sA ByteArray.empty, .ro .full 0 [], .ro .full 0 []], .cells 101 (TCodes.cs v109.2)] (AOps_done (AWP_reg (R 2 124 [(2, .ptr 1 0)] [.cells 25 [iA (w64 (12 + v108.1)), sA v5.gKind, sA v5.gName, .ro .unk ([v109.1]).length (TValue.cl ([v109.1])), .ro .full 0 []], .cells 112 (TDeclared.cs v5), .cells 25 [iA (w64 (12 + v108.1)), sA v5.gKind, sA v5.gName, .ro .unk ([v109.1]).length (TValue.cl ([v109.1])), .ro .full 0 []], .cells 101 (TCodes.cs v109.2)] (AOps_done (AWP_ret ?_)))))
          have hr := Option.some.inj H
          subst hr
          exact Fin_retn 3 (l := [.agg [iA (w64 (12 + v108.1)), sA v5.gKind, sA v5.gName, .ro .unk ([v109.1]).length (TValue.cl ([v109.1])), .ro .full 0 []]]) (h' := [.cells 101 (TCodes.cs v109.2)]) (by kernel_rfl) rfl (Nat.le_of_ble_eq_true rfl) ((by refine Closed_of ?_; exact ⟨⟨(scl_cl_u8 _ _), trivial, trivial⟩, trivial⟩)) (Frz_agg (FrzL_cons (Frz_sc trivial) (FrzL_cons (Frz_sc trivial) (FrzL_cons (Frz_sc trivial) (FrzL_cons (Frz_sc (scl_TValue_cl _ _)) (FrzL_cons (Frz_le (Frz_sc trivial) (AV.le_ro _ _ _)) (FrzL_nil)))))) rfl) ⟨rfl, rfl⟩
        · refine AWP_skip ?_
          show AWP _ _ _ _ _ _ _
          refine AWP_exit ?_
          exact Exists.intro (v75.2.glist, v75.2.gat) ⟨⟨n, by omega, H⟩, Norm_fd [0, 2, 5, 6] 0 (by kernel_rfl) rfl rfl ⟨⟨trivial, trivial, trivial, trivial, trivial, trivial⟩, (sc_TDeclared_cs _ _), ⟨trivial, trivial, trivial, trivial, trivial, trivial⟩, ⟨(scl_cl_u8 _ _), trivial, trivial⟩, trivial⟩ (by refine scL_fr ?_; exact ⟨(sc_ptr rfl), (sc_ptr rfl), (sc_ptr rfl), (sc_ptr rfl), trivial⟩)⟩
      · refine AWP_block ?_
        refine AWP_seq (AWP_block ?_)
        refine AWP_seq (AWP_block ?_)
        refine AWP_seq (AWP_block ?_)
        refine AWP_seq (AWP_block ?_)
        refine AWP_seq (AWP_seq (AWP_reg (Rh 2 124 [(0, .ptr 0 0), (2, .ptr 1 0), (5, .ptr 2 0), (6, .ptr 3 0), (33, iA v75.1), (34, bA (v75.1 == 0))] (AOps_done (CD H (fun hb110 H => ?_) (fun hb110 H => ?_))))))
        · refine AWP_exit ?_
          show AWP _ _ _ _ _ _ _
          refine AWP_seq (AWP_reg (R 2 124 [(2, .ptr 1 0), (6, .ptr 3 0)] [.cells 25 [iA 6, sA v5.gKind, sA v5.gName, .ro .full 0 [], .ro .full 0 []], .cells 112 (TDeclared.cs v5), .cells 25 [iA 0, sA ByteArray.empty, sA ByteArray.empty, .ro .full 0 [], .ro .full 0 []], .cells 101 (TCodes.cs v75.2)] (AOps_done (AWP_reg (R 2 124 [(2, .ptr 1 0)] [.cells 25 [iA 6, sA v5.gKind, sA v5.gName, .ro .full 0 [], .ro .full 0 []], .cells 112 (TDeclared.cs v5), .cells 25 [iA 6, sA v5.gKind, sA v5.gName, .ro .full 0 [], .ro .full 0 []], .cells 101 (TCodes.cs v75.2)] (AOps_done (AWP_ret ?_)))))))
          have hr := Option.some.inj H
          subst hr
          exact Fin_retn 3 (l := [.agg [iA 6, sA v5.gKind, sA v5.gName, .ro .full 0 [], .ro .full 0 []]]) (h' := [.cells 101 (TCodes.cs v75.2)]) (by kernel_rfl) rfl (Nat.le_of_ble_eq_true rfl) ((by refine Closed_of ?_; exact ⟨⟨(scl_cl_u8 _ _), trivial, trivial⟩, trivial⟩)) (Frz_agg (FrzL_cons (Frz_sc trivial) (FrzL_cons (Frz_sc trivial) (FrzL_cons (Frz_sc trivial) (FrzL_cons (Frz_le (Frz_sc trivial) (AV.le_ro _ _ _)) (FrzL_cons (Frz_le (Frz_sc trivial) (AV.le_ro _ _ _)) (FrzL_nil)))))) rfl) ⟨rfl, rfl⟩
        · refine AWP_skip ?_
          show AWP _ _ _ _ _ _ _
          refine AWP_seq (AWP_reg (Rh 2 124 [(0, .ptr 0 0), (2, .ptr 1 0), (5, .ptr 2 0), (6, .ptr 3 0), (33, iA v75.1), (36, bA (v75.1 == 1))] (AOps_done (CD H (fun hb111 H => ?_) (fun hb111 H => ?_)))))
          · refine AWP_exit ?_
            show AWP _ _ _ _ _ _ _
            refine AWP_seq (AWP_reg (Rh 3 124 [(0, .ptr 0 0), (2, .ptr 1 0), (5, .ptr 2 0), (6, .ptr 3 0), (48, bA (v5.gType != 5))] (AOps_done (CD H (fun hb112 H => ?_) (fun hb112 H => ?_)))))
            · refine AWP_reg (R 2 124 [(0, .ptr 0 0), (2, .ptr 1 0), (5, .ptr 2 0), (6, .ptr 3 0)] [.cells 25 [iA 8, sA v5.gKind, sA v5.gName, .ro .full 0 [], .ro .full 0 []], .cells 112 (TDeclared.cs v5), .cells 25 [iA 0, sA ByteArray.empty, sA ByteArray.empty, .ro .full 0 [], .ro .full 0 []], .cells 101 (TCodes.cs v75.2)] (AOps_done (AWP_seq (AWP_reg (Rh 1 124 [(0, .ptr 0 0), (2, .ptr 1 0), (5, .ptr 2 0), (6, .ptr 3 0), (7, iA 0)] (AOps_done (AWP_block ?_)))))))
              refine AWP_loopN (α := Int × (List Int) × Int × (List TValue)) (fun ⟨v125, v126, v127, v128⟩ => fr 124 [(0, .ptr 0 0), (2, .ptr 1 0), (5, .ptr 2 0), (6, .ptr 3 0), (7, iA v125)]) (fun ⟨v125, v126, v127, v128⟩ => [.row 58 (TValue.cl v128), .cells 25 [iA 8, sA v5.gKind, sA v5.gName, .sl 4 0 v128.length (.whole 4), .ro .full 0 []], .cells 112 (TDeclared.cs v5), .cells 25 [iA 0, sA ByteArray.empty, sA ByteArray.empty, .ro .full 0 [], .ro .full 0 []], .cells 101 [.ro .unk v126.length (cl_u8 v126), iA v127]]) (fun k_ ⟨v125, v126, v127, v128⟩ => k_ ≤ n ∧ p_draw_Codes_Test_L1 k_ v5 v125 v126 v127 v128 = some r) (fun n a H => ?_) (k := n) (0, v75.2.glist, v75.2.gat, []) ⟨Nat.le_refl _, H⟩ (Norm_trans (Norm_fd (st' := fr 124 [(0, .ptr 0 0), (2, .ptr 1 0), (5, .ptr 2 0), (6, .ptr 3 0), (7, iA 0)]) (h' := [.cells 25 [iA 8, sA v5.gKind, sA v5.gName, .ro .full 0 [], .ro .full 0 []], .cells 112 (TDeclared.cs v5), .cells 25 [iA 0, sA ByteArray.empty, sA ByteArray.empty, .ro .full 0 [], .ro .full 0 []], .cells 101 (TCodes.cs v75.2)]) [0, 2, 5, 6, 7] 0 (by kernel_rfl) rfl rfl ⟨⟨trivial, trivial, trivial, trivial, trivial, trivial⟩, (sc_TDeclared_cs _ _), ⟨trivial, trivial, trivial, trivial, trivial, trivial⟩, ⟨(scl_cl_u8 _ _), trivial, trivial⟩, trivial⟩ (by refine scL_fr ?_; exact ⟨(sc_ptr rfl), (sc_ptr rfl), (sc_ptr rfl), (sc_ptr rfl), trivial, trivial⟩)) (Norm_trans (Norm_nilc' (st := fr 124 [(0, .ptr 0 0), (2, .ptr 1 0), (5, .ptr 2 0), (6, .ptr 3 0), (7, iA 0)]) (ty := 25) (cs := [iA 8, sA v5.gKind, sA v5.gName, .ro .full 0 [], .ro .full 0 []]) (h' := [.row 58 (TValue.cl ([])), .cells 25 [iA 8, sA v5.gKind, sA v5.gName, .sl 4 0 ([] : List TValue).length (.whole 4), .ro .full 0 []], .cells 112 (TDeclared.cs v5), .cells 25 [iA 0, sA ByteArray.empty, sA ByteArray.empty, .ro .full 0 [], .ro .full 0 []], .cells 101 (TCodes.cs v75.2)]) 3 3 4 58 4 rfl rfl (by kernel_rfl) (by kernel_rfl)) (Norm_fd [0, 2, 5, 6, 7] 0 (by kernel_rfl) rfl rfl ⟨(scl_TValue_cl _ _), ⟨trivial, trivial, trivial, (sc_sl rfl), trivial, trivial⟩, (sc_TDeclared_cs _ _), ⟨trivial, trivial, trivial, trivial, trivial, trivial⟩, ⟨(scl_cl_u8 _ _), trivial, trivial⟩, trivial⟩ (by refine scL_fr ?_; exact ⟨(sc_ptr rfl), (sc_ptr rfl), (sc_ptr rfl), (sc_ptr rfl), trivial, trivial⟩))))
              obtain ⟨v125, v126, v127, v128⟩ := a
              show AWP _ _ _ _ _ (fr 124 [(0, .ptr 0 0), (2, .ptr 1 0), (5, .ptr 2 0), (6, .ptr 3 0), (7, iA v125)]) [.row 58 (TValue.cl v128), .cells 25 [iA 8, sA v5.gKind, sA v5.gName, .sl 4 0 v128.length (.whole 4), .ro .full 0 []], .cells 112 (TDeclared.cs v5), .cells 25 [iA 0, sA ByteArray.empty, sA ByteArray.empty, .ro .full 0 [], .ro .full 0 []], .cells 101 [.ro .unk v126.length (cl_u8 v126), iA v127]]
              obtain ⟨hb_, H⟩ := H
              replace H : p_draw_Codes_Test_L1 n v5 v125 v126 v127 v128 = some r := H
              cases n with
              | zero => exact not_none (by simpa only [p_draw_Codes_Test_L1] using H)
              | succ n =>
                unfold p_draw_Codes_Test_L1 at H
                refine AWP_seq (AWP_reg (Rh 2 124 [(0, .ptr 0 0), (2, .ptr 1 0), (5, .ptr 2 0), (6, .ptr 3 0), (7, iA v125), (50, iA v125), (51, .ptr 0 0)] ?_))
                obtain ⟨v129, hv129, H⟩ := bind_some H
                refine AOps_call1 (d := (some 52)) (al := [.ptr 0 0, iA 3]) ([.ptr 0 0, iA 3]) (r := iA v129.1) (j := 0) (b' := .cells 101 (TCodes.cs v129.2)) (by kernel_rfl) rfl (s_draw_Codes_Next hv129) (⟨(scl_cl_u8 _ _), trivial, trivial⟩) (⟨(scl_cl_u8 _ _), trivial, trivial⟩) ⟨Nat.zero_lt_one, trivial, trivial⟩ trivial rfl (h' := [.row 58 (TValue.cl v128), .cells 25 [iA 8, sA v5.gKind, sA v5.gName, .sl 4 0 v128.length (.whole 4), .ro .full 0 []], .cells 112 (TDeclared.cs v5), .cells 25 [iA 0, sA ByteArray.empty, sA ByteArray.empty, .ro .full 0 [], .ro .full 0 []], .cells 101 (TCodes.cs v129.2)]) rfl ?_
                refine Rh 1 124 [(0, .ptr 0 0), (2, .ptr 1 0), (5, .ptr 2 0), (6, .ptr 3 0), (7, iA v125), (53, bA (decide (v125 ≤ v129.1)))] (AOps_done (CD H (fun hb130 H => ?_) (fun hb130 H => ?_)))
                · refine AWP_skip ?_
                  show AWP _ _ _ _ _ _ _
                  refine AWP_seq (AWP_block ?_)
                  obtain ⟨v131, hv131, H⟩ := bind_some H
                  obtain ⟨v132, hv132, H⟩ := bind_some H
                  refine AWP_regE1 [0, 1, 2, 3, 4, 5, 6, 7, 8, 9] (N := 124) (f := [(0, .ptr 0 0), (2, .ptr 1 0), (5, .ptr 2 0), (6, .ptr 3 0), (7, iA v125)]) (leL_of [0, 2, 5, 6, 7] (by kernel_rfl)) mixed (by kernel_rfl) (by kernel_rfl) (st' := fr 124 [(0, .ptr 0 0), (2, .ptr 1 0), (5, .ptr 2 0), (6, .ptr 3 0), (7, iA v125)]) (h' := [.row 58 (TValue.cl v132), .dead, .cells 25 [iA 8, sA v5.gKind, sA v5.gName, .sl 5 0 v132.length (.whole 4), .ro .full 0 []], .cells 112 (TDeclared.cs v5), .cells 25 [iA 0, sA ByteArray.empty, sA ByteArray.empty, .ro .full 0 [], .ro .full 0 []], .cells 101 (TCodes.cs v131.2)]) ?_ ?_
                  rotate_left
                  · refine RD 5 124 [(4, 2), (3, 2), (1, 3), (0, 3)] [(0, .ptr 0 0), (2, .ptr 1 0), (5, .ptr 2 0), (6, .ptr 3 0), (7, iA v125), (56, .ptr 3 3), (57, .sl 4 0 v128.length (.whole 4)), (58, .ptr 0 0), (59, .ptr 2 2), (60, iA v5.gType)] (AD_call1 (d := (some 61)) (al := [.ptr 0 0, iA v5.gType]) ([.ptr 0 0, iA v5.gType]) (r := .agg (TValue.cs v131.1)) (j := 0) (b' := .cells 101 (TCodes.cs v131.2)) (by kernel_rfl) rfl (s_draw_Codes_Value hG hv131) (⟨(scl_cl_u8 _ _), trivial, trivial⟩) (⟨(scl_cl_u8 _ _), trivial, trivial⟩) ⟨Nat.zero_lt_one, trivial, trivial⟩ (sc_TValue_cs _ _) rfl (h' := [.row 58 (TValue.cl v128), .cells 25 [iA 8, sA v5.gKind, sA v5.gName, .sl 4 0 v128.length (.whole 4), .ro .full 0 []], .cells 112 (TDeclared.cs v5), .cells 25 [iA 0, sA ByteArray.empty, sA ByteArray.empty, .ro .full 0 [], .ro .full 0 []], .cells 101 (TCodes.cs v131.2)]) rfl ?_)
                    refine AD_bsl (d := (some 62)) (m := 1) (cs := [iA v131.1.gKind, iA v131.1.gNumber, sA v131.1.gText, .ro .unk v131.1.gList.length (cl_str v131.1.gList)]) (by kernel_rfl) ⟨trivial, trivial, trivial, (scl_cl_str _ _), trivial⟩ ?_
                    refine AD_append (d := (some 63)) (c := TValue.cs) (sz := 4) (bs := 56) (e := 58) (id := 4) (xs := v128) (ys := [v131.1]) (by kernel_rfl) rfl (eq_TValue_cl _) rfl (eq_TValue_cl _) (fun _ => rfl) (by kernel_rfl) (by kernel_rfl) hv132 (eq_TValue_cl _) (by kernel_rfl) (h' := [.row 58 (TValue.cl v132), .dead, .cells 25 [iA 8, sA v5.gKind, sA v5.gName, .sl 4 0 v128.length (.whole 4), .ro .full 0 []], .cells 112 (TDeclared.cs v5), .cells 25 [iA 0, sA ByteArray.empty, sA ByteArray.empty, .ro .full 0 [], .ro .full 0 []], .cells 101 (TCodes.cs v131.2)]) rfl ?_
                    refine RD 1 124 [(8, 3), (4, 2), (3, 2), (1, 3), (0, 3)] [(0, .ptr 0 0), (2, .ptr 1 0), (5, .ptr 2 0), (6, .ptr 3 0), (7, iA v125), (56, .ptr 3 3), (57, .sl 4 0 v128.length (.whole 4)), (58, .ptr 0 0), (59, .ptr 2 2), (60, iA v5.gType), (61, .agg (TValue.cs v131.1)), (62, .ro .unk ([v131.1]).length (TValue.cl ([v131.1]))), (63, .sl 5 0 v132.length (.whole 4)), (64, .ptr 3 3)] (AD_store (d := none) (id := 3) (h' := [.row 58 (TValue.cl v132), .dead, .cells 25 [iA 8, sA v5.gKind, sA v5.gName, .sl 5 0 v132.length (.whole 4), .ro .full 0 []], .cells 112 (TDeclared.cs v5), .cells 25 [iA 0, sA ByteArray.empty, sA ByteArray.empty, .ro .full 0 [], .ro .full 0 []], .cells 101 (TCodes.cs v131.2)]) (by kernel_rfl) (by kernel_rfl) ?_)
                    exact AD_here [0, 2, 5, 6, 7] (by kernel_rfl) rfl
                  show AWP _ _ _ _ _ _ _
                  refine AWP_region ?_
                  refine Rh 3 124 [(0, .ptr 0 0), (2, .ptr 1 0), (5, .ptr 2 0), (6, .ptr 3 0), (7, iA (w64 (v125 + 1)))] (AOps_done ?_)
                  exact Exists.intro (w64 (v125 + 1), v131.2.glist, v131.2.gat, v132) (Exists.intro n ⟨by omega, ⟨by omega, H⟩, Norm_trans (Norm_fd (st' := fr 124 [(0, .ptr 0 0), (2, .ptr 1 0), (5, .ptr 2 0), (6, .ptr 3 0), (7, iA (w64 (v125 + 1)))]) (h' := [.row 58 (TValue.cl v132), .dead, .cells 25 [iA 8, sA v5.gKind, sA v5.gName, .sl 5 0 v132.length (.whole 4), .ro .full 0 []], .cells 112 (TDeclared.cs v5), .cells 25 [iA 0, sA ByteArray.empty, sA ByteArray.empty, .ro .full 0 [], .ro .full 0 []], .cells 101 (TCodes.cs v131.2)]) [0, 2, 5, 6, 7] 0 (by kernel_rfl) rfl rfl ⟨(scl_TValue_cl _ _), trivial, ⟨trivial, trivial, trivial, (sc_sl rfl), trivial, trivial⟩, (sc_TDeclared_cs _ _), ⟨trivial, trivial, trivial, trivial, trivial, trivial⟩, ⟨(scl_cl_u8 _ _), trivial, trivial⟩, trivial⟩ (by refine scL_fr ?_; exact ⟨(sc_ptr rfl), (sc_ptr rfl), (sc_ptr rfl), (sc_ptr rfl), trivial, trivial⟩)) (Norm_trans (Norm_move' (st' := fr 124 [(0, .ptr 0 0), (2, .ptr 1 0), (5, .ptr 2 0), (6, .ptr 3 0), (7, iA (w64 (v125 + 1)))]) (h' := [.row 58 (TValue.cl v132), .cells 25 [iA 8, sA v5.gKind, sA v5.gName, .sl 4 0 v132.length (.whole 4), .ro .full 0 []], .cells 112 (TDeclared.cs v5), .cells 25 [iA 0, sA ByteArray.empty, sA ByteArray.empty, .ro .full 0 [], .ro .full 0 []], .cells 101 (TCodes.cs v131.2)]) 4 5 rfl rfl rfl (fun h => by cases h) (by refine toOkL_fr ?_; exact ⟨(toOk_ptr rfl), (toOk_ptr rfl), (toOk_ptr rfl), (toOk_ptr rfl), trivial, trivial⟩) ⟨(on0 (scl_TValue_cl _ _)), trivial, ⟨trivial, trivial, trivial, (toOk_sl rfl), trivial, trivial⟩, ⟨trivial, trivial, trivial, trivial⟩, ⟨trivial, trivial, trivial, trivial, trivial, trivial⟩, ⟨(on0 (scl_cl_u8 _ _)), trivial, trivial⟩, trivial⟩ (by kernel_rfl) (by kernel_rfl)) (Norm_fd [0, 2, 5, 6, 7] 0 (by kernel_rfl) rfl rfl ⟨(scl_TValue_cl _ _), ⟨trivial, trivial, trivial, (sc_sl rfl), trivial, trivial⟩, (sc_TDeclared_cs _ _), ⟨trivial, trivial, trivial, trivial, trivial, trivial⟩, ⟨(scl_cl_u8 _ _), trivial, trivial⟩, trivial⟩ (by refine scL_fr ?_; exact ⟨(sc_ptr rfl), (sc_ptr rfl), (sc_ptr rfl), (sc_ptr rfl), trivial, trivial⟩)))⟩)
                · refine AWP_exit ?_
                  show AWP _ _ _ _ _ _ _
                  refine AWP_reg (R 2 124 [(2, .ptr 1 0)] [.row 58 (TValue.cl v128), .cells 25 [iA 8, sA v5.gKind, sA v5.gName, .sl 4 0 v128.length (.whole 4), .ro .full 0 []], .cells 112 (TDeclared.cs v5), .cells 25 [iA 8, sA v5.gKind, sA v5.gName, .sl 4 0 v128.length (.whole 4), .ro .full 0 []], .cells 101 (TCodes.cs v129.2)] (AOps_done (AWP_ret ?_)))
                  have hr := Option.some.inj H
                  subst hr
                  exact Fin_retn 4 (l := [.agg [iA 8, sA v5.gKind, sA v5.gName, .sl 4 0 v128.length (.whole 4), .ro .full 0 []]]) (h' := [.cells 101 (TCodes.cs v129.2)]) (by kernel_rfl) rfl (Nat.le_of_ble_eq_true rfl) ((by refine Closed_of ?_; exact ⟨⟨(scl_cl_u8 _ _), trivial, trivial⟩, trivial⟩)) (Frz_agg (FrzL_cons (Frz_sc trivial) (FrzL_cons (Frz_sc trivial) (FrzL_cons (Frz_sc trivial) (FrzL_cons (Frz_row (t := 58) (cs := TValue.cl v128) rfl (scl_TValue_cl _ _)) (FrzL_cons (Frz_le (Frz_sc trivial) (AV.le_ro _ _ _)) (FrzL_nil)))))) rfl) ⟨rfl, rfl⟩
            · refine AWP_skip ?_
              show AWP _ _ _ _ _ _ _
              refine AWP_exit ?_
              exact Exists.intro (v75.2.glist, v75.2.gat) ⟨⟨n, by omega, H⟩, Norm_fd [0, 2, 5, 6] 0 (by kernel_rfl) rfl rfl ⟨⟨trivial, trivial, trivial, trivial, trivial, trivial⟩, (sc_TDeclared_cs _ _), ⟨trivial, trivial, trivial, trivial, trivial, trivial⟩, ⟨(scl_cl_u8 _ _), trivial, trivial⟩, trivial⟩ (by refine scL_fr ?_; exact ⟨(sc_ptr rfl), (sc_ptr rfl), (sc_ptr rfl), (sc_ptr rfl), trivial⟩)⟩
          · refine AWP_skip ?_
            show AWP _ _ _ _ _ _ _
            refine AWP_seq (AWP_reg (Rh 2 124 [(0, .ptr 0 0), (2, .ptr 1 0), (5, .ptr 2 0), (6, .ptr 3 0), (33, iA v75.1), (38, bA (v75.1 == 2))] (AOps_done (CD H (fun hb133 H => ?_) (fun hb133 H => ?_)))))
            · refine AWP_exit ?_
              show AWP _ _ _ _ _ _ _
              refine AWP_seq (AWP_reg (Rh 4 124 [(0, .ptr 0 0), (2, .ptr 1 0), (5, .ptr 2 0), (6, .ptr 3 0), (69, bA (v5.gType == 3))] (AOps_run 4 [0, 2, 5, 6, 73] (st' := fr 124 [(0, .ptr 0 0), (2, .ptr 1 0), (5, .ptr 2 0), (6, .ptr 3 0), (73, bA ((v5.gType == 3) || (v5.gType == 5)))]) (h' := [.cells 25 [iA 0, sA v5.gKind, sA v5.gName, .ro .full 0 [], .ro .full 0 []], .cells 112 (TDeclared.cs v5), .cells 25 [iA 0, sA ByteArray.empty, sA ByteArray.empty, .ro .full 0 [], .ro .full 0 []], .cells 101 (TCodes.cs v75.2)]) (by (generalize (v5.gType == 3) = t0; cases t0 <;> kernel_rfl)) ?_)))
              refine AOps_done (CD H (fun hb134 H => ?_) (fun hb134 H => ?_))
              · refine AWP_reg (R 2 124 [(0, .ptr 0 0), (2, .ptr 1 0), (6, .ptr 3 0)] [.cells 25 [iA 11, sA v5.gKind, sA v5.gName, .ro .full 0 [], .ro .full 0 []], .cells 112 (TDeclared.cs v5), .cells 25 [iA 0, sA ByteArray.empty, sA ByteArray.empty, .ro .full 0 [], .ro .full 0 []], .cells 101 (TCodes.cs v75.2)] (AOps_done (AWP_reg (Rh 1 124 [(2, .ptr 1 0), (6, .ptr 3 0), (75, .ptr 0 0)] ?_))))
                obtain ⟨v135, hv135, H⟩ := bind_some H
                refine AOps_call1 (d := (some 76)) (al := [.ptr 0 0, iA 3]) ([.ptr 0 0, iA 3]) (r := .agg (TValue.cs v135.1)) (j := 0) (b' := .cells 101 (TCodes.cs v135.2)) (by kernel_rfl) rfl (s_draw_Codes_Value hG hv135) (⟨(scl_cl_u8 _ _), trivial, trivial⟩) (⟨(scl_cl_u8 _ _), trivial, trivial⟩) ⟨Nat.zero_lt_one, trivial, trivial⟩ (sc_TValue_cs _ _) rfl (h' := [.cells 25 [iA 11, sA v5.gKind, sA v5.gName, .ro .full 0 [], .ro .full 0 []], .cells 112 (TDeclared.cs v5), .cells 25 [iA 0, sA ByteArray.empty, sA ByteArray.empty, .ro .full 0 [], .ro .full 0 []], .cells 101 (TCodes.cs v135.2)]) rfl ?_
                refine AOps_bsl (d := (some 77)) (m := 1) (cs := [iA v135.1.gKind, iA v135.1.gNumber, sA v135.1.gText, .ro .unk v135.1.gList.length (cl_str v135.1.gList)]) (by kernel_rfl) ⟨trivial, trivial, trivial, (scl_cl_str _ _), trivial⟩ ?_
                refine R 2 124 [(2, .ptr 1 0), (6, .ptr 3 0)] [.cells 25 [iA 11, sA v5.gKind, sA v5.gName, .ro .unk ([v135.1]).length (TValue.cl ([v135.1])), .ro .full 0 []], .cells 112 (TDeclared.cs v5), .cells 25 [iA 0, sA ByteArray.empty, sA ByteArray.empty, .ro .full 0 [], .ro .full 0 []], .cells 101 (TCodes.cs v135.2)] (AOps_done (AWP_reg (R 2 124 [(2, .ptr 1 0)] [.cells 25 [iA 11, sA v5.gKind, sA v5.gName, .ro .unk ([v135.1]).length (TValue.cl ([v135.1])), .ro .full 0 []], .cells 112 (TDeclared.cs v5), .cells 25 [iA 11, sA v5.gKind, sA v5.gName, .ro .unk ([v135.1]).length (TValue.cl ([v135.1])), .ro .full 0 []], .cells 101 (TCodes.cs v135.2)] (AOps_done (AWP_ret ?_)))))
                have hr := Option.some.inj H
                subst hr
                exact Fin_retn 3 (l := [.agg [iA 11, sA v5.gKind, sA v5.gName, .ro .unk ([v135.1]).length (TValue.cl ([v135.1])), .ro .full 0 []]]) (h' := [.cells 101 (TCodes.cs v135.2)]) (by kernel_rfl) rfl (Nat.le_of_ble_eq_true rfl) ((by refine Closed_of ?_; exact ⟨⟨(scl_cl_u8 _ _), trivial, trivial⟩, trivial⟩)) (Frz_agg (FrzL_cons (Frz_sc trivial) (FrzL_cons (Frz_sc trivial) (FrzL_cons (Frz_sc trivial) (FrzL_cons (Frz_sc (scl_TValue_cl _ _)) (FrzL_cons (Frz_le (Frz_sc trivial) (AV.le_ro _ _ _)) (FrzL_nil)))))) rfl) ⟨rfl, rfl⟩
              · refine AWP_skip ?_
                show AWP _ _ _ _ _ _ _
                refine AWP_exit ?_
                exact Exists.intro (v75.2.glist, v75.2.gat) ⟨⟨n, by omega, H⟩, Norm_fd [0, 2, 5, 6] 0 (by kernel_rfl) rfl rfl ⟨⟨trivial, trivial, trivial, trivial, trivial, trivial⟩, (sc_TDeclared_cs _ _), ⟨trivial, trivial, trivial, trivial, trivial, trivial⟩, ⟨(scl_cl_u8 _ _), trivial, trivial⟩, trivial⟩ (by refine scL_fr ?_; exact ⟨(sc_ptr rfl), (sc_ptr rfl), (sc_ptr rfl), (sc_ptr rfl), trivial⟩)⟩
            · refine AWP_skip ?_
              show AWP _ _ _ _ _ _ _
              refine AWP_seq (AWP_reg (Rh 2 124 [(0, .ptr 0 0), (2, .ptr 1 0), (5, .ptr 2 0), (6, .ptr 3 0), (33, iA v75.1), (40, bA (v75.1 == 3))] (AOps_done (CD H (fun hb136 H => ?_) (fun hb136 H => ?_)))))
              · refine AWP_exit ?_
                show AWP _ _ _ _ _ _ _
                refine AWP_reg (Rh 3 124 [(0, .ptr 0 0), (2, .ptr 1 0), (5, .ptr 2 0), (6, .ptr 3 0), (82, bA (v5.gType == 3))] (AOps_done (CD H (fun hb137 H => ?_) (fun hb137 H => ?_))))
                · refine AWP_reg (Rh 1 124 [(0, .ptr 0 0), (2, .ptr 1 0), (6, .ptr 3 0), (83, .ptr 0 0)] ?_)
                  obtain ⟨v138, hv138, H⟩ := bind_some H
                  refine AOps_call1 (d := (some 84)) (al := [.ptr 0 0, iA 2]) ([.ptr 0 0, iA 2]) (r := iA v138.1) (j := 0) (b' := .cells 101 (TCodes.cs v138.2)) (by kernel_rfl) rfl (s_draw_Codes_Next hv138) (⟨(scl_cl_u8 _ _), trivial, trivial⟩) (⟨(scl_cl_u8 _ _), trivial, trivial⟩) ⟨Nat.zero_lt_one, trivial, trivial⟩ trivial rfl (h' := [.cells 25 [iA 0, sA v5.gKind, sA v5.gName, .ro .full 0 [], .ro .full 0 []], .cells 112 (TDeclared.cs v5), .cells 25 [iA 0, sA ByteArray.empty, sA ByteArray.empty, .ro .full 0 [], .ro .full 0 []], .cells 101 (TCodes.cs v138.2)]) rfl ?_
                  refine R 3 124 [(0, .ptr 0 0), (2, .ptr 1 0), (6, .ptr 3 0)] [.cells 25 [iA (w64 (9 + v138.1)), sA v5.gKind, sA v5.gName, .ro .full 0 [], .ro .full 0 []], .cells 112 (TDeclared.cs v5), .cells 25 [iA 0, sA ByteArray.empty, sA ByteArray.empty, .ro .full 0 [], .ro .full 0 []], .cells 101 (TCodes.cs v138.2)] (AOps_done (AWP_reg (Rh 1 124 [(2, .ptr 1 0), (6, .ptr 3 0), (87, .ptr 0 0)] ?_)))
                  obtain ⟨v139, hv139, H⟩ := bind_some H
                  refine AOps_call1 (d := (some 88)) (al := [.ptr 0 0, iA 3]) ([.ptr 0 0, iA 3]) (r := .agg (TValue.cs v139.1)) (j := 0) (b' := .cells 101 (TCodes.cs v139.2)) (by kernel_rfl) rfl (s_draw_Codes_Value hG hv139) (⟨(scl_cl_u8 _ _), trivial, trivial⟩) (⟨(scl_cl_u8 _ _), trivial, trivial⟩) ⟨Nat.zero_lt_one, trivial, trivial⟩ (sc_TValue_cs _ _) rfl (h' := [.cells 25 [iA (w64 (9 + v138.1)), sA v5.gKind, sA v5.gName, .ro .full 0 [], .ro .full 0 []], .cells 112 (TDeclared.cs v5), .cells 25 [iA 0, sA ByteArray.empty, sA ByteArray.empty, .ro .full 0 [], .ro .full 0 []], .cells 101 (TCodes.cs v139.2)]) rfl ?_
                  refine AOps_bsl (d := (some 89)) (m := 1) (cs := [iA v139.1.gKind, iA v139.1.gNumber, sA v139.1.gText, .ro .unk v139.1.gList.length (cl_str v139.1.gList)]) (by kernel_rfl) ⟨trivial, trivial, trivial, (scl_cl_str _ _), trivial⟩ ?_
                  refine R 2 124 [(2, .ptr 1 0), (6, .ptr 3 0)] [.cells 25 [iA (w64 (9 + v138.1)), sA v5.gKind, sA v5.gName, .ro .unk ([v139.1]).length (TValue.cl ([v139.1])), .ro .full 0 []], .cells 112 (TDeclared.cs v5), .cells 25 [iA 0, sA ByteArray.empty, sA ByteArray.empty, .ro .full 0 [], .ro .full 0 []], .cells 101 (TCodes.cs v139.2)] (AOps_done (AWP_reg (R 2 124 [(2, .ptr 1 0)] [.cells 25 [iA (w64 (9 + v138.1)), sA v5.gKind, sA v5.gName, .ro .unk ([v139.1]).length (TValue.cl ([v139.1])), .ro .full 0 []], .cells 112 (TDeclared.cs v5), .cells 25 [iA (w64 (9 + v138.1)), sA v5.gKind, sA v5.gName, .ro .unk ([v139.1]).length (TValue.cl ([v139.1])), .ro .full 0 []], .cells 101 (TCodes.cs v139.2)] (AOps_done (AWP_ret ?_)))))
                  have hr := Option.some.inj H
                  subst hr
                  exact Fin_retn 3 (l := [.agg [iA (w64 (9 + v138.1)), sA v5.gKind, sA v5.gName, .ro .unk ([v139.1]).length (TValue.cl ([v139.1])), .ro .full 0 []]]) (h' := [.cells 101 (TCodes.cs v139.2)]) (by kernel_rfl) rfl (Nat.le_of_ble_eq_true rfl) ((by refine Closed_of ?_; exact ⟨⟨(scl_cl_u8 _ _), trivial, trivial⟩, trivial⟩)) (Frz_agg (FrzL_cons (Frz_sc trivial) (FrzL_cons (Frz_sc trivial) (FrzL_cons (Frz_sc trivial) (FrzL_cons (Frz_sc (scl_TValue_cl _ _)) (FrzL_cons (Frz_le (Frz_sc trivial) (AV.le_ro _ _ _)) (FrzL_nil)))))) rfl) ⟨rfl, rfl⟩
                · refine AWP_skip ?_
                  exact Exists.intro () ⟨⟨n, by omega, H⟩, Norm_fd [0, 2, 5, 6] 0 (by kernel_rfl) rfl rfl ⟨⟨trivial, trivial, trivial, trivial, trivial, trivial⟩, (sc_TDeclared_cs _ _), ⟨trivial, trivial, trivial, trivial, trivial, trivial⟩, ⟨(scl_cl_u8 _ _), trivial, trivial⟩, trivial⟩ (by refine scL_fr ?_; exact ⟨(sc_ptr rfl), (sc_ptr rfl), (sc_ptr rfl), (sc_ptr rfl), trivial⟩)⟩
              · refine AWP_skip ?_
                show AWP _ _ _ _ _ _ _
                refine AWP_reg (Rh 2 124 [(0, .ptr 0 0), (2, .ptr 1 0), (5, .ptr 2 0), (6, .ptr 3 0), (42, bA (v75.1 == 4))] (AOps_done (CD H (fun hb140 H => ?_) (fun hb140 H => ?_))))
                · refine AWP_exit ?_
                  exact Exists.intro () ⟨⟨n, by omega, H⟩, Norm_fd [0, 2, 5, 6] 0 (by kernel_rfl) rfl rfl ⟨⟨trivial, trivial, trivial, trivial, trivial, trivial⟩, (sc_TDeclared_cs _ _), ⟨trivial, trivial, trivial, trivial, trivial, trivial⟩, ⟨(scl_cl_u8 _ _), trivial, trivial⟩, trivial⟩ (by refine scL_fr ?_; exact ⟨(sc_ptr rfl), (sc_ptr rfl), (sc_ptr rfl), (sc_ptr rfl), trivial⟩)⟩
                · refine AWP_skip ?_
                  show AWP _ _ _ _ _ _ _
                  refine AWP_exit ?_
                  exact Exists.intro (v75.2.glist, v75.2.gat) ⟨⟨n, by omega, H⟩, Norm_fd [0, 2, 5, 6] 0 (by kernel_rfl) rfl rfl ⟨⟨trivial, trivial, trivial, trivial, trivial, trivial⟩, (sc_TDeclared_cs _ _), ⟨trivial, trivial, trivial, trivial, trivial, trivial⟩, ⟨(scl_cl_u8 _ _), trivial, trivial⟩, trivial⟩ (by refine scL_fr ?_; exact ⟨(sc_ptr rfl), (sc_ptr rfl), (sc_ptr rfl), (sc_ptr rfl), trivial⟩)⟩
end Go.Proofs.YtjhbobacbaikoaaGreatDoor
/- Drawn tests are well-formed parts. -/
namespace Go.Proofs.YtjhbobacbaikoaaGreatDoor
open Go
set_option linter.unusedVariables false
set_option linter.unusedSimpArgs false
set_option maxRecDepth 100000
/-! ## tests -/
def dkinds : List ByteArray := [⟨#[100, 101, 118, 105, 99, 101]⟩, ⟨#[117, 115, 101, 114]⟩]
def dnames : List ByteArray := [⟨#[99, 111, 114, 101, 115]⟩, ⟨#[111, 115]⟩, ⟨#[97, 103, 101]⟩, ⟨#[97, 112, 112]⟩, ⟨#[98, 101, 116, 97]⟩, ⟨#[99, 111, 117, 110, 116, 114, 121]⟩, ⟨#[112, 108, 97, 110]⟩, ⟨#[116, 97, 103, 115]⟩, ⟨#[107, 101, 121]⟩]
theorem words_size : ∀ w ∈ dkinds ++ dnames, w.size ≤ 40 := by decide
structure TestG (x : TExpr) : Prop where
  kids : x.gKids = []
  op6 : 6 ≤ x.gOp
  op15 : x.gOp ≤ 15
  kind : x.gKind ∈ dkinds
  name : x.gName ∈ dnames
  vals : ∀ v ∈ x.gValues, v ∈ goodV
  len : x.gValues.length ≤ 10
  len6 : x.gOp = 6 → x.gValues = []
  len8 : x.gOp = 8 → 0 < x.gValues.length
  len1 : x.gOp ≠ 6 → x.gOp ≠ 8 → x.gValues.length = 1
  text : x.gOp = 9 ∨ x.gOp = 10 ∨ x.gOp = 11 → ∃ v, x.gValues[0]? = some v ∧ v.gKind = 3
section
variable {c : TCodes} (hc : c.cok)
 include hc
def decl8 : List TDeclared := [⟨⟨#[100, 101, 118, 105, 99, 101]⟩, ⟨#[99, 111, 114, 101, 115]⟩, 2⟩, ⟨⟨#[100, 101, 118, 105, 99, 101]⟩, ⟨#[111, 115]⟩, 3⟩, ⟨⟨#[117, 115, 101, 114]⟩, ⟨#[97, 103, 101]⟩, 2⟩, ⟨⟨#[117, 115, 101, 114]⟩, ⟨#[97, 112, 112]⟩, 4⟩, ⟨⟨#[117, 115, 101, 114]⟩, ⟨#[98, 101, 116, 97]⟩, 1⟩, ⟨⟨#[117, 115, 101, 114]⟩, ⟨#[99, 111, 117, 110, 116, 114, 121]⟩, 3⟩, ⟨⟨#[117, 115, 101, 114]⟩, ⟨#[112, 108, 97, 110]⟩, 3⟩, ⟨⟨#[117, 115, 101, 114]⟩, ⟨#[116, 97, 103, 115]⟩, 5⟩]
 omit hc in
theorem declared_eq (n : Nat) : p_draw_Declared n = some decl8 := rfl
def DeclG (d : TDeclared) : Prop := d.gKind ∈ dkinds ∧ d.gName ∈ dnames ∧ 1 ≤ d.gType ∧ d.gType ≤ 5
 omit hc in
theorem decl8_good : ∀ d ∈ decl8, DeclG d := by
  intro d hd
  simp only [decl8, List.mem_cons, List.not_mem_nil, or_false] at hd
  rcases hd with rfl | rfl | rfl | rfl | rfl | rfl | rfl | rfl <;> exact ⟨by simp [dkinds], by simp [dnames], by decide, by decide⟩
 omit hc in
theorem good_of {v : TValue} (h : v ∈ drawnV) : v ∈ goodV := List.mem_append_left _ h
theorem test1_gv {d : TDeclared} (hd : DeclG d) (op : Int) (h6 : 6 < op) (h15 : op ≤ 15) (h8 : op ≠ 8) (h9 : op < 9 ∨ 11 < op) : Gv (fun n => (p_draw_Codes_Value n c d.gType).bind fun v => some ((TExpr.mk op d.gKind d.gName ([v.1]) ([])), v.2)) fun r => TestG r.1 ∧ r.2.cok := by
  refine Gv.bind (value_gv hc _ hd.2.2) fun v hv => Gv.pure ⟨⟨rfl, by show 6 ≤ op; omega, h15, hd.1, hd.2.1, ?_, by show 1 ≤ 10; omega, fun h => ?_, fun h => absurd h h8, fun _ _ => rfl, fun h => ?_⟩, hv.2⟩
  · intro w hw
    obtain rfl : w = v.1 := by simpa [TExpr.gValues] using hw
    exact good_of hv.1.1
  · have h : op = 6 := h
    omega
  · have h : op = 9 ∨ op = 10 ∨ op = 11 := h
    omega
theorem test3_gv {d : TDeclared} (hd : DeclG d) (op : Int) (h6 : 9 ≤ op) (h15 : op ≤ 11) : Gv (fun n => (p_draw_Codes_Value n c 3).bind fun v => some ((TExpr.mk op d.gKind d.gName ([v.1]) ([])), v.2)) fun r => TestG r.1 ∧ r.2.cok := by
  refine Gv.bind (value_gv hc 3 (by decide)) fun v hv => Gv.pure ⟨⟨rfl, by show 6 ≤ op; omega, by show op ≤ 15; omega, hd.1, hd.2.1, ?_, by show 1 ≤ 10; omega, fun h => ?_, fun h => ?_, fun _ _ => rfl, fun h => ⟨v.1, rfl, hv.1.2⟩⟩, hv.2⟩
  · intro w hw
    obtain rfl : w = v.1 := by simpa [TExpr.gValues] using hw
    exact good_of hv.1.1
  · have h : op = 6 := h
    omega
  · have h : op = 8 := h
    omega
theorem test_K1 {d : TDeclared} (hd : DeclG d) : Gv (fun n => p_draw_Codes_Test_K1 n d c.glist c.gat) fun r => TestG r.1 ∧ r.2.cok := by
  unfold p_draw_Codes_Test_K1
  exact test1_gv hc hd 7 (by decide) (by decide) (by decide) (by decide)
 omit hc in
theorem test_L1 {d : TDeclared} (hd : DeclG d) : ∀ (q i : Nat) (c : TCodes) (l : List TValue), i + q = 3 → c.cok → l.length = i → (∀ v ∈ l, v ∈ goodV) → Gv (fun n => p_draw_Codes_Test_L1 n d i c.glist c.gat l) fun r => TestG r.1 ∧ r.2.cok := by
  intro q
  induction q with
  | zero =>
    intro i c l hi hc hl hv
    refine Gv.succ ?_
    simp only [p_draw_Codes_Test_L1]
    refine Gv.bind (next_gv hc (k := 3) (by decide) (by decide)) fun r hr => Gv.cond (fun h => ?_) fun h => ?_
    · have h := of_decide_eq_true h
      omega
    · exact Gv.pure ⟨⟨rfl, by show (6 : Int) ≤ 8; omega, by show (8 : Int) ≤ 15; omega, hd.1, hd.2.1, hv, by show l.length ≤ 10; omega, fun h => (by cases h), fun _ => by show 0 < l.length; omega, fun _ h => absurd rfl h, fun h => (by rcases h with h | h | h <;> cases h)⟩, hr.2.2⟩
  | succ q ih =>
    intro i c l hi hc hl hv
    refine Gv.succ ?_
    simp only [p_draw_Codes_Test_L1]
    refine Gv.bind (next_gv hc (k := 3) (by decide) (by decide)) fun r hr => Gv.cond (fun h => ?_) fun h => ?_
    · refine Gv.bind (value_gv hr.2.2 _ hd.2.2) fun v hvv => ?_
      refine Gv.bind (Gv.app (Q := fun m => m = l ++ [v.1]) (by simp; omega) (by decide) rfl) ?_
      rintro m rfl
      rw [w64_add (by omega)]
      refine ih (i + 1) v.2 (l ++ [v.1]) (by omega) hvv.2 (by simp; omega) fun w hw => ?_
      rcases List.mem_append.1 hw with hw | hw
      · exact hv w hw
      · obtain rfl : w = v.1 := by simpa using hw
        exact good_of hvv.1.1
    · have h := of_decide_eq_false h
      exact Gv.pure ⟨⟨rfl, by show (6 : Int) ≤ 8; omega, by show (8 : Int) ≤ 15; omega, hd.1, hd.2.1, hv, by show l.length ≤ 10; omega, fun h => (by cases h), fun _ => by show 0 < l.length; omega, fun _ h => absurd rfl h, fun h => (by rcases h with h | h | h <;> cases h)⟩, hr.2.2⟩
theorem test_K2 {d : TDeclared} (hd : DeclG d) (x : Int) : Gv (fun n => p_draw_Codes_Test_K2 n d (x, c)) fun r => TestG r.1 ∧ r.2.cok := by
  unfold p_draw_Codes_Test_K2
  refine Gv.cond (fun _ => ?_) fun _ => test_K1 hc hd
  refine Gv.bind (next_gv hc (k := 4) (by decide) (by decide)) fun r hr => ?_
  rw [w64_of (by omega) (by omega)]
  exact test1_gv hr.2.2 hd _ (by omega) (by omega) (by omega) (by omega)
theorem test_gv : Gv (fun n => p_draw_Codes_Test n c) fun r => TestG r.1 ∧ r.2.cok := by
  unfold p_draw_Codes_Test
  simp only [declared_eq, Option.bind_some]
  have hl : lI decl8 = 8 := rfl
  rw [hl]
  refine Gv.bind (next_gv hc (k := 9) (by decide) (by decide)) fun r hr => Gv.cond (fun h => ?_) fun h => ?_
  · refine Gv.bind (key_gv hr.2.2) fun k hk => Gv.pure ⟨⟨rfl, (by show (6 : Int) ≤ 7; decide), (by show (7 : Int) ≤ 15; decide), by simp [dkinds, TExpr.gKind], by simp [dnames, TExpr.gName], ?_, (by show 1 ≤ 10; decide), fun h => (by cases h), fun h => (by cases h), fun _ _ => rfl, fun h => (by rcases h with h | h | h <;> cases h)⟩, hk.2⟩
    intro w hw
    obtain rfl : w = vT 3 k.1 := by simpa [TExpr.gValues, vT] using hw
    exact List.mem_append_right _ (List.mem_map_of_mem hk.1)
  · have hne := beq_eq_false_iff_ne.1 h
    refine Gv.bind (Gv.rd (Q := DeclG) hr.1 (by have : decl8.length = 8 := rfl; omega) decl8_good) fun d hd => ?_
    refine Gv.bind (next_gv hr.2.2 (k := 5) (by decide) (by decide)) fun s hs => ?_
    have hK1 := test_K1 hs.2.2 hd
    have hK2 := test_K2 hs.2.2 hd s.1
    refine Gv.cond (fun _ => ?_) fun _ => Gv.cond (fun _ => Gv.cond (fun _ => ?_) fun _ => hK1) fun _ => Gv.cond (fun _ => Gv.cond (fun _ => ?_) fun _ => hK1) fun _ => Gv.cond (fun _ => Gv.cond (fun _ => ?_) fun _ => hK2) fun _ => Gv.cond (fun _ => hK2) fun _ => hK1
    · exact Gv.pure ⟨⟨rfl, (by show (6 : Int) ≤ 6; decide), (by show (6 : Int) ≤ 15; decide), hd.1, hd.2.1, fun v hv => (by cases hv), (by show 0 ≤ 10; decide), fun _ => rfl, fun h => (by cases h), fun h => absurd rfl h, fun h => (by rcases h with h | h | h <;> cases h)⟩, hs.2.2⟩
    · exact test_L1 hd 3 0 s.2 [] rfl hs.2.2 rfl (fun v hv => by cases hv)
    · exact test3_gv hs.2.2 hd 11 (by decide) (by decide)
    · refine Gv.bind (next_gv hs.2.2 (k := 2) (by decide) (by decide)) fun q hq => ?_
      rw [w64_of (by omega) (by omega)]
      exact test3_gv hq.2.2 hd _ (by omega) (by omega)
end
end Go.Proofs.YtjhbobacbaikoaaGreatDoor
