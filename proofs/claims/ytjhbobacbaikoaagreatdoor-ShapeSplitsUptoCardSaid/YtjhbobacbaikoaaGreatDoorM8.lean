/- A function of the program as a pure function, and that the program computes it. -/
import Derived.Test.YtjhbobacbaikoaaGreatDoorM4
import Derived.Test.YtjhbobacbaikoaaGreatDoorM6
import Derived.Test.YtjhbobacbaikoaaGreatDoorM7
import Derived.Test.YtjhbobacbaikoaaGreatDoorM5
import Derived.Test.YtjhbobacbaikoaaGreatDoorCards
import Derived.Test.YtjhbobacbaikoaaGreatDoorTie
import Derived.Deep.DeepHandedRow
import Derived.Deep.DeepWitnessRowRef
import Derived.OpenShut
namespace Go.Proofs.YtjhbobacbaikoaaGreatDoor
open Go
set_option linter.unusedVariables false
set_option linter.unusedSimpArgs false
set_option maxRecDepth 100000
def p_shape_Environment (n : Nat) (x0 : TEnvironment) : Option Int :=
(p_text_Valid n x0.gSettings.gSalt).bind fun v1 =>
(p_shape_when n (!v1) 2).bind fun v2 =>
(p_shape_when n ((decide (x0.gSettings.gHoldout < 0)) || (decide (x0.gSettings.gHoldout > 10000))) 3).bind fun v3 =>
(p_text_Key n x0.gSettings.gHoldoutKind).bind fun v4 =>
(p_shape_when n ((!v4) && ((!(seq' x0.gSettings.gHoldoutKind ByteArray.empty)) || (x0.gSettings.gHoldout != 0))) 6).bind fun v5 =>
(p_shape_attributes n x0.gAttributes).bind fun v6 =>
(p_shape_first n ([v2, v3, v5, v6])).bind fun v7 =>
(bif v7 != 0 then
 some (v7)
 else
(p_shape_list_api_Segment n x0.gSegments 20).bind fun v9 =>
(bif v9 != 0 then
 some (v9)
 else
(p_shape_list_api_Flag n x0.gFlags 30).bind fun v11 =>
(bif v11 != 0 then
 some (v11)
 else
(p_shape_list_api_Layer n x0.gLayers 6).bind fun v13 =>
(bif v13 != 0 then
 some (v13)
 else
(p_shape_list_api_Experiment n x0.gExperiments 16).bind fun v15 =>
 some (v15)))))
variable {E : Env}
theorem s_shape_Environment {n : Nat} (hG : GlobT E) {x0 : TEnvironment} {r : Int} (H : p_shape_Environment n x0 = some r) :
    Sp Tryz.prog E 44 [.agg (TEnvironment.cs x0)] [] (isA (iA r) []) := by
  unfold p_shape_Environment at H
  refine Sp_fn Tryz.func44 rfl (fun hc hs => ?_)
  refine AWP_reg (R 2 68 [(1, .ptr 0 0)] [.cells 90 (TEnvironment.cs x0)] (AOps_done (AWP_reg (R 4 68 [(1, .ptr 0 0), (3, .ptr 1 0)] [.cells 83 (TSettings.cs x0.gSettings), .cells 90 (TEnvironment.cs x0)] (AOps_done (AWP_seq ?_))))))
  obtain ⟨v1, hv1, H⟩ := bind_some H
  obtain ⟨v2, hv2, H⟩ := bind_some H
  obtain ⟨v3, hv3, H⟩ := bind_some H
  obtain ⟨v4, hv4, H⟩ := bind_some H
  obtain ⟨v5, hv5, H⟩ := bind_some H
  obtain ⟨v6, hv6, H⟩ := bind_some H
  obtain ⟨v7, hv7, H⟩ := bind_some H
  refine AWP_regD1 [0, 1, 5, 6, 7, 14, 15, 29, 30, 2, 3, 4, 8, 9, 10, 11, 12, 13, 16, 17, 18, 19, 20, 21, 22, 23, 24, 25, 26, 27, 28, 31, 32, 33, 34] (N := 68) (f := [(1, .ptr 0 0), (3, .ptr 1 0)]) (leL_of [1, 3] (by kernel_rfl)) mixed (by kernel_rfl) (by kernel_rfl) (st' := fr 68 [(1, .ptr 0 0), (4, iA v7)]) (h' := [.cells 83 (TSettings.cs x0.gSettings), .cells 90 (TEnvironment.cs x0)]) ?_ ?_
  rotate_left
  · refine RD 9 68 [(30, 0), (29, 0), (15, 1), (14, 1), (6, 1), (5, 1), (1, 1), (0, 1)] [(1, .ptr 0 0), (3, .ptr 1 0), (10, .ptr 1 0), (11, sA x0.gSettings.gSalt), (15, .ptr 1 2), (16, iA x0.gSettings.gHoldout), (17, bA (decide (x0.gSettings.gHoldout < 0))), (24, .ptr 1 1), (25, sA x0.gSettings.gHoldoutKind), (39, .ptr 0 3), (40, .ro .unk x0.gAttributes.length (TDeclared.cl x0.gAttributes))] (AD_callp (d := (some 12)) (al := [sA x0.gSettings.gSalt]) (r := bA v1) (by kernel_rfl) (s_text_Valid hG hv1) ⟨trivial, trivial⟩ trivial ?_)
    refine RD 1 68 [(30, 0), (29, 0), (15, 1), (14, 1), (6, 1), (5, 1), (1, 1), (0, 1)] [(1, .ptr 0 0), (3, .ptr 1 0), (10, .ptr 1 0), (11, sA x0.gSettings.gSalt), (12, bA v1), (13, bA (!v1)), (15, .ptr 1 2), (16, iA x0.gSettings.gHoldout), (17, bA (decide (x0.gSettings.gHoldout < 0))), (24, .ptr 1 1), (25, sA x0.gSettings.gHoldoutKind), (39, .ptr 0 3), (40, .ro .unk x0.gAttributes.length (TDeclared.cl x0.gAttributes))] (AD_callp (d := (some 14)) (al := [bA (!v1), iA 2]) (r := iA v2) (by kernel_rfl) (s_shape_when hv2) ⟨trivial, trivial, trivial⟩ trivial ?_)
    refine RD 1 68 [(30, 0), (29, 0), (15, 1), (14, 1), (6, 1), (5, 1), (1, 1), (0, 1)] [(1, .ptr 0 0), (3, .ptr 1 0), (10, .ptr 1 0), (11, sA x0.gSettings.gSalt), (12, bA v1), (13, bA (!v1)), (14, iA v2), (15, .ptr 1 2), (16, iA x0.gSettings.gHoldout), (17, bA (decide (x0.gSettings.gHoldout < 0))), (18, bA (decide (x0.gSettings.gHoldout < 0))), (24, .ptr 1 1), (25, sA x0.gSettings.gHoldoutKind), (39, .ptr 0 3), (40, .ro .unk x0.gAttributes.length (TDeclared.cl x0.gAttributes))] ?_
    cases c1 : (decide (x0.gSettings.gHoldout < 0) : Bool) with
    | true =>
      refine RD 4 68 [(30, 0), (29, 0), (15, 1), (14, 1), (6, 1), (5, 1), (1, 1), (0, 1)] [(1, .ptr 0 0), (3, .ptr 1 0), (10, .ptr 1 0), (11, sA x0.gSettings.gSalt), (12, bA v1), (13, bA (!v1)), (14, iA v2), (15, .ptr 1 2), (16, iA x0.gSettings.gHoldout), (17, bA true), (18, bA true), (19, undefA), (20, undefA), (21, undefA), (22, bA (true || (decide (x0.gSettings.gHoldout > 10000)))), (24, .ptr 1 1), (25, sA x0.gSettings.gHoldoutKind), (39, .ptr 0 3), (40, .ro .unk x0.gAttributes.length (TDeclared.cl x0.gAttributes))] ?_
      try rw [c1] at hv3
      refine AD_callp (d := (some 23)) (al := [bA (true || (decide (x0.gSettings.gHoldout > 10000))), iA 3]) (r := iA v3) (by kernel_rfl) (s_shape_when hv3) ⟨trivial, trivial, trivial⟩ trivial ?_
      refine AD_callp (d := (some 26)) (al := [sA x0.gSettings.gHoldoutKind]) (r := bA v4) (by kernel_rfl) (s_text_Key hG hv4) ⟨trivial, trivial⟩ trivial ?_
      refine RD 2 68 [(30, 0), (29, 0), (15, 1), (14, 1), (6, 1), (5, 1), (1, 1), (0, 1)] [(1, .ptr 0 0), (3, .ptr 1 0), (10, .ptr 1 0), (11, sA x0.gSettings.gSalt), (12, bA v1), (13, bA (!v1)), (14, iA v2), (15, .ptr 1 2), (16, iA x0.gSettings.gHoldout), (17, bA true), (18, bA true), (19, undefA), (20, undefA), (21, undefA), (22, bA (true || (decide (x0.gSettings.gHoldout > 10000)))), (23, iA v3), (24, .ptr 1 1), (25, sA x0.gSettings.gHoldoutKind), (26, bA v4), (27, bA (!v4)), (28, bA (!v4)), (39, .ptr 0 3), (40, .ro .unk x0.gAttributes.length (TDeclared.cl x0.gAttributes))] ?_
      cases c2 : (v4 : Bool) with
      | true =>
        refine RD 9 68 [(30, 0), (29, 0), (15, 1), (14, 1), (6, 1), (5, 1), (1, 1), (0, 1)] [(1, .ptr 0 0), (3, .ptr 1 0), (10, .ptr 1 0), (11, sA x0.gSettings.gSalt), (12, bA v1), (13, bA (!v1)), (14, iA v2), (15, .ptr 1 2), (16, iA x0.gSettings.gHoldout), (17, bA true), (18, bA true), (19, undefA), (20, undefA), (21, undefA), (22, bA (true || (decide (x0.gSettings.gHoldout > 10000)))), (23, iA v3), (24, .ptr 1 1), (25, sA x0.gSettings.gHoldoutKind), (26, bA true), (27, bA (!true)), (28, bA (!true)), (29, undefA), (30, undefA), (31, undefA), (32, undefA), (33, undefA), (34, undefA), (35, undefA), (36, undefA), (37, bA ((!true) && ((!(seq' x0.gSettings.gHoldoutKind ByteArray.empty)) || (x0.gSettings.gHoldout != 0)))), (39, .ptr 0 3), (40, .ro .unk x0.gAttributes.length (TDeclared.cl x0.gAttributes))] ?_
        try rw [c1] at hv5
        try rw [c2] at hv5
        refine AD_callp (d := (some 38)) (al := [bA ((!true) && ((!(seq' x0.gSettings.gHoldoutKind ByteArray.empty)) || (x0.gSettings.gHoldout != 0))), iA 6]) (r := iA v5) (by kernel_rfl) (s_shape_when hv5) ⟨trivial, trivial, trivial⟩ trivial ?_
        refine AD_callp (d := (some 41)) (al := [.ro .unk x0.gAttributes.length (TDeclared.cl x0.gAttributes)]) (r := iA v6) (by kernel_rfl) (s_shape_attributes hG hv6) ⟨(scl_TDeclared_cl _ _), trivial⟩ trivial ?_
        refine AD_bsl (d := (some 42)) (m := 4) (cs := [iA v2, iA v3, iA v5, iA v6]) (by kernel_rfl) ⟨trivial, trivial, trivial, trivial, trivial⟩ ?_
        refine AD_callp (d := (some 43)) (al := [.ro .unk ([v2, v3, v5, v6]).length (cl_i64 ([v2, v3, v5, v6]))]) (r := iA v7) (by kernel_rfl) (s_shape_first hv7) ⟨(scl_cl_i64 _ _), trivial⟩ trivial ?_
        refine RD 1 68 [(30, 0), (29, 0), (15, 1), (14, 1), (6, 1), (5, 1), (1, 1), (0, 1)] [(1, .ptr 0 0), (3, .ptr 1 0), (4, iA v7), (10, .ptr 1 0), (11, sA x0.gSettings.gSalt), (12, bA v1), (13, bA (!v1)), (14, iA v2), (15, .ptr 1 2), (16, iA x0.gSettings.gHoldout), (17, bA true), (18, bA true), (19, undefA), (20, undefA), (21, undefA), (22, bA (true || (decide (x0.gSettings.gHoldout > 10000)))), (23, iA v3), (24, .ptr 1 1), (25, sA x0.gSettings.gHoldoutKind), (26, bA true), (27, bA (!true)), (28, bA (!true)), (29, undefA), (30, undefA), (31, undefA), (32, undefA), (33, undefA), (34, undefA), (35, undefA), (36, undefA), (37, bA ((!true) && ((!(seq' x0.gSettings.gHoldoutKind ByteArray.empty)) || (x0.gSettings.gHoldout != 0)))), (38, iA v5), (39, .ptr 0 3), (40, .ro .unk x0.gAttributes.length (TDeclared.cl x0.gAttributes)), (41, iA v6), (42, .ro .unk ([v2, v3, v5, v6]).length (cl_i64 ([v2, v3, v5, v6]))), (43, iA v7)] ?_
        exact AD_here [1, 4] (by kernel_rfl) rfl
      | false =>
        refine RD 4 68 [(20, 1), (19, 1), (30, 0), (29, 0), (15, 1), (14, 1), (6, 1), (5, 1), (1, 1), (0, 1)] [(1, .ptr 0 0), (3, .ptr 1 0), (10, .ptr 1 0), (11, sA x0.gSettings.gSalt), (12, bA v1), (13, bA (!v1)), (14, iA v2), (15, .ptr 1 2), (16, iA x0.gSettings.gHoldout), (17, bA true), (18, bA true), (19, undefA), (20, undefA), (21, undefA), (22, bA (true || (decide (x0.gSettings.gHoldout > 10000)))), (23, iA v3), (24, .ptr 1 1), (25, sA x0.gSettings.gHoldoutKind), (26, bA false), (27, bA (!false)), (28, bA (!false)), (29, .ptr 1 1), (30, sA x0.gSettings.gHoldoutKind), (31, bA (!(seq' x0.gSettings.gHoldoutKind ByteArray.empty))), (32, bA (!(seq' x0.gSettings.gHoldoutKind ByteArray.empty))), (39, .ptr 0 3), (40, .ro .unk x0.gAttributes.length (TDeclared.cl x0.gAttributes))] ?_
        cases c3 : (seq' x0.gSettings.gHoldoutKind ByteArray.empty : Bool) with
        | true =>
          refine RD 5 68 [(24, 1), (23, 1), (20, 1), (19, 1), (30, 0), (29, 0), (15, 1), (14, 1), (6, 1), (5, 1), (1, 1), (0, 1)] [(1, .ptr 0 0), (3, .ptr 1 0), (10, .ptr 1 0), (11, sA x0.gSettings.gSalt), (12, bA v1), (13, bA (!v1)), (14, iA v2), (15, .ptr 1 2), (16, iA x0.gSettings.gHoldout), (17, bA true), (18, bA true), (19, undefA), (20, undefA), (21, undefA), (22, bA (true || (decide (x0.gSettings.gHoldout > 10000)))), (23, iA v3), (24, .ptr 1 1), (25, sA x0.gSettings.gHoldoutKind), (26, bA false), (27, bA (!false)), (28, bA (!false)), (29, .ptr 1 1), (30, sA x0.gSettings.gHoldoutKind), (31, bA (!true)), (32, bA (!true)), (33, .ptr 1 2), (34, iA x0.gSettings.gHoldout), (35, bA (x0.gSettings.gHoldout != 0)), (36, bA ((!true) || (x0.gSettings.gHoldout != 0))), (37, bA ((!false) && ((!true) || (x0.gSettings.gHoldout != 0)))), (39, .ptr 0 3), (40, .ro .unk x0.gAttributes.length (TDeclared.cl x0.gAttributes))] ?_
          try rw [c1] at hv5
          try rw [c2] at hv5
          try rw [c3] at hv5
          refine AD_callp (d := (some 38)) (al := [bA ((!false) && ((!true) || (x0.gSettings.gHoldout != 0))), iA 6]) (r := iA v5) (by kernel_rfl) (s_shape_when hv5) ⟨trivial, trivial, trivial⟩ trivial ?_
          refine AD_callp (d := (some 41)) (al := [.ro .unk x0.gAttributes.length (TDeclared.cl x0.gAttributes)]) (r := iA v6) (by kernel_rfl) (s_shape_attributes hG hv6) ⟨(scl_TDeclared_cl _ _), trivial⟩ trivial ?_
          refine AD_bsl (d := (some 42)) (m := 4) (cs := [iA v2, iA v3, iA v5, iA v6]) (by kernel_rfl) ⟨trivial, trivial, trivial, trivial, trivial⟩ ?_
          refine AD_callp (d := (some 43)) (al := [.ro .unk ([v2, v3, v5, v6]).length (cl_i64 ([v2, v3, v5, v6]))]) (r := iA v7) (by kernel_rfl) (s_shape_first hv7) ⟨(scl_cl_i64 _ _), trivial⟩ trivial ?_
          refine RD 1 68 [(24, 1), (23, 1), (20, 1), (19, 1), (30, 0), (29, 0), (15, 1), (14, 1), (6, 1), (5, 1), (1, 1), (0, 1)] [(1, .ptr 0 0), (3, .ptr 1 0), (4, iA v7), (10, .ptr 1 0), (11, sA x0.gSettings.gSalt), (12, bA v1), (13, bA (!v1)), (14, iA v2), (15, .ptr 1 2), (16, iA x0.gSettings.gHoldout), (17, bA true), (18, bA true), (19, undefA), (20, undefA), (21, undefA), (22, bA (true || (decide (x0.gSettings.gHoldout > 10000)))), (23, iA v3), (24, .ptr 1 1), (25, sA x0.gSettings.gHoldoutKind), (26, bA false), (27, bA (!false)), (28, bA (!false)), (29, .ptr 1 1), (30, sA x0.gSettings.gHoldoutKind), (31, bA (!true)), (32, bA (!true)), (33, .ptr 1 2), (34, iA x0.gSettings.gHoldout), (35, bA (x0.gSettings.gHoldout != 0)), (36, bA ((!true) || (x0.gSettings.gHoldout != 0))), (37, bA ((!false) && ((!true) || (x0.gSettings.gHoldout != 0)))), (38, iA v5), (39, .ptr 0 3), (40, .ro .unk x0.gAttributes.length (TDeclared.cl x0.gAttributes)), (41, iA v6), (42, .ro .unk ([v2, v3, v5, v6]).length (cl_i64 ([v2, v3, v5, v6]))), (43, iA v7)] ?_
          exact AD_here [1, 4] (by kernel_rfl) rfl
        | false =>
          refine RD 5 68 [(20, 1), (19, 1), (30, 0), (29, 0), (15, 1), (14, 1), (6, 1), (5, 1), (1, 1), (0, 1)] [(1, .ptr 0 0), (3, .ptr 1 0), (10, .ptr 1 0), (11, sA x0.gSettings.gSalt), (12, bA v1), (13, bA (!v1)), (14, iA v2), (15, .ptr 1 2), (16, iA x0.gSettings.gHoldout), (17, bA true), (18, bA true), (19, undefA), (20, undefA), (21, undefA), (22, bA (true || (decide (x0.gSettings.gHoldout > 10000)))), (23, iA v3), (24, .ptr 1 1), (25, sA x0.gSettings.gHoldoutKind), (26, bA false), (27, bA (!false)), (28, bA (!false)), (29, .ptr 1 1), (30, sA x0.gSettings.gHoldoutKind), (31, bA (!false)), (32, bA (!false)), (33, undefA), (34, undefA), (35, undefA), (36, bA ((!false) || (x0.gSettings.gHoldout != 0))), (37, bA ((!false) && ((!false) || (x0.gSettings.gHoldout != 0)))), (39, .ptr 0 3), (40, .ro .unk x0.gAttributes.length (TDeclared.cl x0.gAttributes))] ?_
          try rw [c1] at hv5
          try rw [c2] at hv5
          try rw [c3] at hv5
          refine AD_callp (d := (some 38)) (al := [bA ((!false) && ((!false) || (x0.gSettings.gHoldout != 0))), iA 6]) (r := iA v5) (by kernel_rfl) (s_shape_when hv5) ⟨trivial, trivial, trivial⟩ trivial ?_
          refine AD_callp (d := (some 41)) (al := [.ro .unk x0.gAttributes.length (TDeclared.cl x0.gAttributes)]) (r := iA v6) (by kernel_rfl) (s_shape_attributes hG hv6) ⟨(scl_TDeclared_cl _ _), trivial⟩ trivial ?_
          refine AD_bsl (d := (some 42)) (m := 4) (cs := [iA v2, iA v3, iA v5, iA v6]) (by kernel_rfl) ⟨trivial, trivial, trivial, trivial, trivial⟩ ?_
          refine AD_callp (d := (some 43)) (al := [.ro .unk ([v2, v3, v5, v6]).length (cl_i64 ([v2, v3, v5, v6]))]) (r := iA v7) (by kernel_rfl) (s_shape_first hv7) ⟨(scl_cl_i64 _ _), trivial⟩ trivial ?_
          refine RD 1 68 [(20, 1), (19, 1), (30, 0), (29, 0), (15, 1), (14, 1), (6, 1), (5, 1), (1, 1), (0, 1)] [(1, .ptr 0 0), (3, .ptr 1 0), (4, iA v7), (10, .ptr 1 0), (11, sA x0.gSettings.gSalt), (12, bA v1), (13, bA (!v1)), (14, iA v2), (15, .ptr 1 2), (16, iA x0.gSettings.gHoldout), (17, bA true), (18, bA true), (19, undefA), (20, undefA), (21, undefA), (22, bA (true || (decide (x0.gSettings.gHoldout > 10000)))), (23, iA v3), (24, .ptr 1 1), (25, sA x0.gSettings.gHoldoutKind), (26, bA false), (27, bA (!false)), (28, bA (!false)), (29, .ptr 1 1), (30, sA x0.gSettings.gHoldoutKind), (31, bA (!false)), (32, bA (!false)), (33, undefA), (34, undefA), (35, undefA), (36, bA ((!false) || (x0.gSettings.gHoldout != 0))), (37, bA ((!false) && ((!false) || (x0.gSettings.gHoldout != 0)))), (38, iA v5), (39, .ptr 0 3), (40, .ro .unk x0.gAttributes.length (TDeclared.cl x0.gAttributes)), (41, iA v6), (42, .ro .unk ([v2, v3, v5, v6]).length (cl_i64 ([v2, v3, v5, v6]))), (43, iA v7)] ?_
          exact AD_here [1, 4] (by kernel_rfl) rfl
    | false =>
      refine RD 4 68 [(10, 1), (9, 1), (30, 0), (29, 0), (15, 1), (14, 1), (6, 1), (5, 1), (1, 1), (0, 1)] [(1, .ptr 0 0), (3, .ptr 1 0), (10, .ptr 1 0), (11, sA x0.gSettings.gSalt), (12, bA v1), (13, bA (!v1)), (14, iA v2), (15, .ptr 1 2), (16, iA x0.gSettings.gHoldout), (17, bA false), (18, bA false), (19, .ptr 1 2), (20, iA x0.gSettings.gHoldout), (21, bA (decide (x0.gSettings.gHoldout > 10000))), (22, bA (false || (decide (x0.gSettings.gHoldout > 10000)))), (24, .ptr 1 1), (25, sA x0.gSettings.gHoldoutKind), (39, .ptr 0 3), (40, .ro .unk x0.gAttributes.length (TDeclared.cl x0.gAttributes))] ?_
      try rw [c1] at hv3
      refine AD_callp (d := (some 23)) (al := [bA (false || (decide (x0.gSettings.gHoldout > 10000))), iA 3]) (r := iA v3) (by kernel_rfl) (s_shape_when hv3) ⟨trivial, trivial, trivial⟩ trivial ?_
      refine AD_callp (d := (some 26)) (al := [sA x0.gSettings.gHoldoutKind]) (r := bA v4) (by kernel_rfl) (s_text_Key hG hv4) ⟨trivial, trivial⟩ trivial ?_
      refine RD 2 68 [(10, 1), (9, 1), (30, 0), (29, 0), (15, 1), (14, 1), (6, 1), (5, 1), (1, 1), (0, 1)] [(1, .ptr 0 0), (3, .ptr 1 0), (10, .ptr 1 0), (11, sA x0.gSettings.gSalt), (12, bA v1), (13, bA (!v1)), (14, iA v2), (15, .ptr 1 2), (16, iA x0.gSettings.gHoldout), (17, bA false), (18, bA false), (19, .ptr 1 2), (20, iA x0.gSettings.gHoldout), (21, bA (decide (x0.gSettings.gHoldout > 10000))), (22, bA (false || (decide (x0.gSettings.gHoldout > 10000)))), (23, iA v3), (24, .ptr 1 1), (25, sA x0.gSettings.gHoldoutKind), (26, bA v4), (27, bA (!v4)), (28, bA (!v4)), (39, .ptr 0 3), (40, .ro .unk x0.gAttributes.length (TDeclared.cl x0.gAttributes))] ?_
      cases c2 : (v4 : Bool) with
      | true =>
        refine RD 9 68 [(10, 1), (9, 1), (30, 0), (29, 0), (15, 1), (14, 1), (6, 1), (5, 1), (1, 1), (0, 1)] [(1, .ptr 0 0), (3, .ptr 1 0), (10, .ptr 1 0), (11, sA x0.gSettings.gSalt), (12, bA v1), (13, bA (!v1)), (14, iA v2), (15, .ptr 1 2), (16, iA x0.gSettings.gHoldout), (17, bA false), (18, bA false), (19, .ptr 1 2), (20, iA x0.gSettings.gHoldout), (21, bA (decide (x0.gSettings.gHoldout > 10000))), (22, bA (false || (decide (x0.gSettings.gHoldout > 10000)))), (23, iA v3), (24, .ptr 1 1), (25, sA x0.gSettings.gHoldoutKind), (26, bA true), (27, bA (!true)), (28, bA (!true)), (29, undefA), (30, undefA), (31, undefA), (32, undefA), (33, undefA), (34, undefA), (35, undefA), (36, undefA), (37, bA ((!true) && ((!(seq' x0.gSettings.gHoldoutKind ByteArray.empty)) || (x0.gSettings.gHoldout != 0)))), (39, .ptr 0 3), (40, .ro .unk x0.gAttributes.length (TDeclared.cl x0.gAttributes))] ?_
        try rw [c1] at hv5
        try rw [c2] at hv5
        refine AD_callp (d := (some 38)) (al := [bA ((!true) && ((!(seq' x0.gSettings.gHoldoutKind ByteArray.empty)) || (x0.gSettings.gHoldout != 0))), iA 6]) (r := iA v5) (by kernel_rfl) (s_shape_when hv5) ⟨trivial, trivial, trivial⟩ trivial ?_
        refine AD_callp (d := (some 41)) (al := [.ro .unk x0.gAttributes.length (TDeclared.cl x0.gAttributes)]) (r := iA v6) (by kernel_rfl) (s_shape_attributes hG hv6) ⟨(scl_TDeclared_cl _ _), trivial⟩ trivial ?_
        refine AD_bsl (d := (some 42)) (m := 4) (cs := [iA v2, iA v3, iA v5, iA v6]) (by kernel_rfl) ⟨trivial, trivial, trivial, trivial, trivial⟩ ?_
        refine AD_callp (d := (some 43)) (al := [.ro .unk ([v2, v3, v5, v6]).length (cl_i64 ([v2, v3, v5, v6]))]) (r := iA v7) (by kernel_rfl) (s_shape_first hv7) ⟨(scl_cl_i64 _ _), trivial⟩ trivial ?_
        refine RD 1 68 [(10, 1), (9, 1), (30, 0), (29, 0), (15, 1), (14, 1), (6, 1), (5, 1), (1, 1), (0, 1)] [(1, .ptr 0 0), (3, .ptr 1 0), (4, iA v7), (10, .ptr 1 0), (11, sA x0.gSettings.gSalt), (12, bA v1), (13, bA (!v1)), (14, iA v2), (15, .ptr 1 2), (16, iA x0.gSettings.gHoldout), (17, bA false), (18, bA false), (19, .ptr 1 2), (20, iA x0.gSettings.gHoldout), (21, bA (decide (x0.gSettings.gHoldout > 10000))), (22, bA (false || (decide (x0.gSettings.gHoldout > 10000)))), (23, iA v3), (24, .ptr 1 1), (25, sA x0.gSettings.gHoldoutKind), (26, bA true), (27, bA (!true)), (28, bA (!true)), (29, undefA), (30, undefA), (31, undefA), (32, undefA), (33, undefA), (34, undefA), (35, undefA), (36, undefA), (37, bA ((!true) && ((!(seq' x0.gSettings.gHoldoutKind ByteArray.empty)) || (x0.gSettings.gHoldout != 0)))), (38, iA v5), (39, .ptr 0 3), (40, .ro .unk x0.gAttributes.length (TDeclared.cl x0.gAttributes)), (41, iA v6), (42, .ro .unk ([v2, v3, v5, v6]).length (cl_i64 ([v2, v3, v5, v6]))), (43, iA v7)] ?_
        exact AD_here [1, 4] (by kernel_rfl) rfl
      | false =>
        refine RD 4 68 [(20, 1), (19, 1), (10, 1), (9, 1), (30, 0), (29, 0), (15, 1), (14, 1), (6, 1), (5, 1), (1, 1), (0, 1)] [(1, .ptr 0 0), (3, .ptr 1 0), (10, .ptr 1 0), (11, sA x0.gSettings.gSalt), (12, bA v1), (13, bA (!v1)), (14, iA v2), (15, .ptr 1 2), (16, iA x0.gSettings.gHoldout), (17, bA false), (18, bA false), (19, .ptr 1 2), (20, iA x0.gSettings.gHoldout), (21, bA (decide (x0.gSettings.gHoldout > 10000))), (22, bA (false || (decide (x0.gSettings.gHoldout > 10000)))), (23, iA v3), (24, .ptr 1 1), (25, sA x0.gSettings.gHoldoutKind), (26, bA false), (27, bA (!false)), (28, bA (!false)), (29, .ptr 1 1), (30, sA x0.gSettings.gHoldoutKind), (31, bA (!(seq' x0.gSettings.gHoldoutKind ByteArray.empty))), (32, bA (!(seq' x0.gSettings.gHoldoutKind ByteArray.empty))), (39, .ptr 0 3), (40, .ro .unk x0.gAttributes.length (TDeclared.cl x0.gAttributes))] ?_
        cases c3 : (seq' x0.gSettings.gHoldoutKind ByteArray.empty : Bool) with
        | true =>
          refine RD 5 68 [(24, 1), (23, 1), (20, 1), (19, 1), (10, 1), (9, 1), (30, 0), (29, 0), (15, 1), (14, 1), (6, 1), (5, 1), (1, 1), (0, 1)] [(1, .ptr 0 0), (3, .ptr 1 0), (10, .ptr 1 0), (11, sA x0.gSettings.gSalt), (12, bA v1), (13, bA (!v1)), (14, iA v2), (15, .ptr 1 2), (16, iA x0.gSettings.gHoldout), (17, bA false), (18, bA false), (19, .ptr 1 2), (20, iA x0.gSettings.gHoldout), (21, bA (decide (x0.gSettings.gHoldout > 10000))), (22, bA (false || (decide (x0.gSettings.gHoldout > 10000)))), (23, iA v3), (24, .ptr 1 1), (25, sA x0.gSettings.gHoldoutKind), (26, bA false), (27, bA (!false)), (28, bA (!false)), (29, .ptr 1 1), (30, sA x0.gSettings.gHoldoutKind), (31, bA (!true)), (32, bA (!true)), (33, .ptr 1 2), (34, iA x0.gSettings.gHoldout), (35, bA (x0.gSettings.gHoldout != 0)), (36, bA ((!true) || (x0.gSettings.gHoldout != 0))), (37, bA ((!false) && ((!true) || (x0.gSettings.gHoldout != 0)))), (39, .ptr 0 3), (40, .ro .unk x0.gAttributes.length (TDeclared.cl x0.gAttributes))] ?_
          try rw [c1] at hv5
          try rw [c2] at hv5
          try rw [c3] at hv5
          refine AD_callp (d := (some 38)) (al := [bA ((!false) && ((!true) || (x0.gSettings.gHoldout != 0))), iA 6]) (r := iA v5) (by kernel_rfl) (s_shape_when hv5) ⟨trivial, trivial, trivial⟩ trivial ?_
          refine AD_callp (d := (some 41)) (al := [.ro .unk x0.gAttributes.length (TDeclared.cl x0.gAttributes)]) (r := iA v6) (by kernel_rfl) (s_shape_attributes hG hv6) ⟨(scl_TDeclared_cl _ _), trivial⟩ trivial ?_
          refine AD_bsl (d := (some 42)) (m := 4) (cs := [iA v2, iA v3, iA v5, iA v6]) (by kernel_rfl) ⟨trivial, trivial, trivial, trivial, trivial⟩ ?_
          refine AD_callp (d := (some 43)) (al := [.ro .unk ([v2, v3, v5, v6]).length (cl_i64 ([v2, v3, v5, v6]))]) (r := iA v7) (by kernel_rfl) (s_shape_first hv7) ⟨(scl_cl_i64 _ _), trivial⟩ trivial ?_
          refine RD 1 68 [(24, 1), (23, 1), (20, 1), (19, 1), (10, 1), (9, 1), (30, 0), (29, 0), (15, 1), (14, 1), (6, 1), (5, 1), (1, 1), (0, 1)] [(1, .ptr 0 0), (3, .ptr 1 0), (4, iA v7), (10, .ptr 1 0), (11, sA x0.gSettings.gSalt), (12, bA v1), (13, bA (!v1)), (14, iA v2), (15, .ptr 1 2), (16, iA x0.gSettings.gHoldout), (17, bA false), (18, bA false), (19, .ptr 1 2), (20, iA x0.gSettings.gHoldout), (21, bA (decide (x0.gSettings.gHoldout > 10000))), (22, bA (false || (decide (x0.gSettings.gHoldout > 10000)))), (23, iA v3), (24, .ptr 1 1), (25, sA x0.gSettings.gHoldoutKind), (26, bA false), (27, bA (!false)), (28, bA (!false)), (29, .ptr 1 1), (30, sA x0.gSettings.gHoldoutKind), (31, bA (!true)), (32, bA (!true)), (33, .ptr 1 2), (34, iA x0.gSettings.gHoldout), (35, bA (x0.gSettings.gHoldout != 0)), (36, bA ((!true) || (x0.gSettings.gHoldout != 0))), (37, bA ((!false) && ((!true) || (x0.gSettings.gHoldout != 0)))), (38, iA v5), (39, .ptr 0 3), (40, .ro .unk x0.gAttributes.length (TDeclared.cl x0.gAttributes)), (41, iA v6), (42, .ro .unk ([v2, v3, v5, v6]).length (cl_i64 ([v2, v3, v5, v6]))), (43, iA v7)] ?_
          exact AD_here [1, 4] (by kernel_rfl) rfl
        | false =>
          refine RD 5 68 [(20, 1), (19, 1), (10, 1), (9, 1), (30, 0), (29, 0), (15, 1), (14, 1), (6, 1), (5, 1), (1, 1), (0, 1)] [(1, .ptr 0 0), (3, .ptr 1 0), (10, .ptr 1 0), (11, sA x0.gSettings.gSalt), (12, bA v1), (13, bA (!v1)), (14, iA v2), (15, .ptr 1 2), (16, iA x0.gSettings.gHoldout), (17, bA false), (18, bA false), (19, .ptr 1 2), (20, iA x0.gSettings.gHoldout), (21, bA (decide (x0.gSettings.gHoldout > 10000))), (22, bA (false || (decide (x0.gSettings.gHoldout > 10000)))), (23, iA v3), (24, .ptr 1 1), (25, sA x0.gSettings.gHoldoutKind), (26, bA false), (27, bA (!false)), (28, bA (!false)), (29, .ptr 1 1), (30, sA x0.gSettings.gHoldoutKind), (31, bA (!false)), (32, bA (!false)), (33, undefA), (34, undefA), (35, undefA), (36, bA ((!false) || (x0.gSettings.gHoldout != 0))), (37, bA ((!false) && ((!false) || (x0.gSettings.gHoldout != 0)))), (39, .ptr 0 3), (40, .ro .unk x0.gAttributes.length (TDeclared.cl x0.gAttributes))] ?_
          try rw [c1] at hv5
          try rw [c2] at hv5
          try rw [c3] at hv5
          refine AD_callp (d := (some 38)) (al := [bA ((!false) && ((!false) || (x0.gSettings.gHoldout != 0))), iA 6]) (r := iA v5) (by kernel_rfl) (s_shape_when hv5) ⟨trivial, trivial, trivial⟩ trivial ?_
          refine AD_callp (d := (some 41)) (al := [.ro .unk x0.gAttributes.length (TDeclared.cl x0.gAttributes)]) (r := iA v6) (by kernel_rfl) (s_shape_attributes hG hv6) ⟨(scl_TDeclared_cl _ _), trivial⟩ trivial ?_
          refine AD_bsl (d := (some 42)) (m := 4) (cs := [iA v2, iA v3, iA v5, iA v6]) (by kernel_rfl) ⟨trivial, trivial, trivial, trivial, trivial⟩ ?_
          refine AD_callp (d := (some 43)) (al := [.ro .unk ([v2, v3, v5, v6]).length (cl_i64 ([v2, v3, v5, v6]))]) (r := iA v7) (by kernel_rfl) (s_shape_first hv7) ⟨(scl_cl_i64 _ _), trivial⟩ trivial ?_
          refine RD 1 68 [(20, 1), (19, 1), (10, 1), (9, 1), (30, 0), (29, 0), (15, 1), (14, 1), (6, 1), (5, 1), (1, 1), (0, 1)] [(1, .ptr 0 0), (3, .ptr 1 0), (4, iA v7), (10, .ptr 1 0), (11, sA x0.gSettings.gSalt), (12, bA v1), (13, bA (!v1)), (14, iA v2), (15, .ptr 1 2), (16, iA x0.gSettings.gHoldout), (17, bA false), (18, bA false), (19, .ptr 1 2), (20, iA x0.gSettings.gHoldout), (21, bA (decide (x0.gSettings.gHoldout > 10000))), (22, bA (false || (decide (x0.gSettings.gHoldout > 10000)))), (23, iA v3), (24, .ptr 1 1), (25, sA x0.gSettings.gHoldoutKind), (26, bA false), (27, bA (!false)), (28, bA (!false)), (29, .ptr 1 1), (30, sA x0.gSettings.gHoldoutKind), (31, bA (!false)), (32, bA (!false)), (33, undefA), (34, undefA), (35, undefA), (36, bA ((!false) || (x0.gSettings.gHoldout != 0))), (37, bA ((!false) && ((!false) || (x0.gSettings.gHoldout != 0)))), (38, iA v5), (39, .ptr 0 3), (40, .ro .unk x0.gAttributes.length (TDeclared.cl x0.gAttributes)), (41, iA v6), (42, .ro .unk ([v2, v3, v5, v6]).length (cl_i64 ([v2, v3, v5, v6]))), (43, iA v7)] ?_
          exact AD_here [1, 4] (by kernel_rfl) rfl
  refine AWP_reg (Rh 2 68 [(1, .ptr 0 0), (4, iA v7), (45, bA (v7 != 0))] (AOps_done (CD H (fun hb8 H => ?_) (fun hb8 H => ?_))))
  · refine AWP_reg (Rh 2 68 [(2, iA v7)] (AOps_done ?_))
    exact AWP_ret (FR H)
  · refine AWP_skip ?_
    show AWP _ _ _ _ _ _ _
    refine AWP_seq (AWP_reg (Rh 2 68 [(1, .ptr 0 0), (48, .ro .unk x0.gSegments.length (TSegment.cl x0.gSegments))] ?_))
    obtain ⟨v9, hv9, H⟩ := bind_some H
    refine AOps_callp (d := (some 49)) (al := [.ro .unk x0.gSegments.length (TSegment.cl x0.gSegments), iA 20, .val (.func (.func 36) #[] #[]), .val (.func (.func 90) #[] #[])]) (r := iA v9) (by kernel_rfl) (s_shape_list_api_Segment hG hv9) ⟨(scl_TSegment_cl _ _), trivial, trivial, trivial, trivial⟩ trivial ?_
    refine Rh 1 68 [(1, .ptr 0 0), (5, iA v9)] (AOps_done (AWP_reg (Rh 2 68 [(1, .ptr 0 0), (5, iA v9), (51, bA (v9 != 0))] (AOps_done (CD H (fun hb10 H => ?_) (fun hb10 H => ?_))))))
    · refine AWP_reg (Rh 2 68 [(2, iA v9)] (AOps_done ?_))
      exact AWP_ret (FR H)
    · refine AWP_skip ?_
      show AWP _ _ _ _ _ _ _
      refine AWP_seq (AWP_reg (Rh 2 68 [(1, .ptr 0 0), (54, .ro .unk x0.gFlags.length (TFlag.cl x0.gFlags))] ?_))
      obtain ⟨v11, hv11, H⟩ := bind_some H
      refine AOps_callp (d := (some 55)) (al := [.ro .unk x0.gFlags.length (TFlag.cl x0.gFlags), iA 30, .val (.func (.func 34) #[] #[]), .val (.func (.func 92) #[] #[])]) (r := iA v11) (by kernel_rfl) (s_shape_list_api_Flag hG hv11) ⟨(scl_TFlag_cl _ _), trivial, trivial, trivial, trivial⟩ trivial ?_
      refine Rh 1 68 [(1, .ptr 0 0), (6, iA v11)] (AOps_done (AWP_reg (Rh 2 68 [(1, .ptr 0 0), (6, iA v11), (57, bA (v11 != 0))] (AOps_done (CD H (fun hb12 H => ?_) (fun hb12 H => ?_))))))
      · refine AWP_reg (Rh 2 68 [(2, iA v11)] (AOps_done ?_))
        exact AWP_ret (FR H)
      · refine AWP_skip ?_
        show AWP _ _ _ _ _ _ _
        refine AWP_seq (AWP_reg (Rh 2 68 [(1, .ptr 0 0), (60, .ro .unk x0.gLayers.length (TLayer.cl x0.gLayers))] ?_))
        obtain ⟨v13, hv13, H⟩ := bind_some H
        refine AOps_callp (d := (some 61)) (al := [.ro .unk x0.gLayers.length (TLayer.cl x0.gLayers), iA 6, .val (.func (.func 38) #[] #[]), .val (.func (.func 94) #[] #[])]) (r := iA v13) (by kernel_rfl) (s_shape_list_api_Layer hG hv13) ⟨(scl_TLayer_cl _ _), trivial, trivial, trivial, trivial⟩ trivial ?_
        refine Rh 1 68 [(1, .ptr 0 0), (7, iA v13)] (AOps_done (AWP_reg (Rh 2 68 [(1, .ptr 0 0), (7, iA v13), (63, bA (v13 != 0))] (AOps_done (CD H (fun hb14 H => ?_) (fun hb14 H => ?_))))))
        · refine AWP_reg (Rh 2 68 [(2, iA v13)] (AOps_done ?_))
          exact AWP_ret (FR H)
        · refine AWP_skip ?_
          show AWP _ _ _ _ _ _ _
          refine AWP_reg (Rh 2 68 [(66, .ro .unk x0.gExperiments.length (TExperiment.cl x0.gExperiments))] ?_)
          obtain ⟨v15, hv15, H⟩ := bind_some H
          refine AOps_callp (d := (some 67)) (al := [.ro .unk x0.gExperiments.length (TExperiment.cl x0.gExperiments), iA 16, .val (.func (.func 40) #[] #[]), .val (.func (.func 96) #[] #[])]) (r := iA v15) (by kernel_rfl) (s_shape_list_api_Experiment hG hv15) ⟨(scl_TExperiment_cl _ _), trivial, trivial, trivial, trivial⟩ trivial ?_
          refine Rh 1 68 [(2, iA v15)] (AOps_done ?_)
          exact AWP_ret (FR H)
end Go.Proofs.YtjhbobacbaikoaaGreatDoor
/- A function of the program as a pure function, and that the program computes it. -/
namespace Go.Proofs.YtjhbobacbaikoaaGreatDoor
open Go
set_option linter.unusedVariables false
set_option linter.unusedSimpArgs false
set_option maxRecDepth 100000
def p_law6_awake (n : Nat)  : Option Bool :=
(p_shape_Environment n ({ gSettings := ({ gSalt := ByteArray.empty, gHoldoutKind := ByteArray.empty, gHoldout := 0 } : TSettings), gAttributes := [], gSegments := [], gFlags := [], gLayers := [], gExperiments := [] } : TEnvironment)).bind fun v1 =>
(bif v1 == 0 then p_shape_Split n ([({ gFrom := 0, gTo := 10000, gVariation := 2 } : TRange)]) 2 else some (0)).bind fun v2 =>
(bif (v1 == 0) && (v2 == 0) then p_shape_Split n ([({ gFrom := 0, gTo := 10000, gVariation := 2 } : TRange)]) 1 else some (0)).bind fun v3 =>
 some (((v1 == 0) && (v2 == 0)) && (v3 == 3))
variable {E : Env}
theorem s_law6_awake {n : Nat} (hG : GlobT E)  {r : Bool} (H : p_law6_awake n  = some r) :
    Sp Tryz.prog E 10 [] [] (isA (bA r) []) := by
  unfold p_law6_awake at H
  refine Sp_fn Tryz.func10 rfl (fun hc hs => ?_)
  refine AWP_reg (Rh 1 17 [] (AOps_done (AWP_reg (Rh 1 17 [(2, .agg [iA 0, iA 10000, iA 2])] (AOps_bsl (d := (some 3)) (m := 1) (cs := [iA 0, iA 10000, iA 2]) (by kernel_rfl) ⟨trivial, trivial, trivial, trivial⟩ ?_)))))
  refine Rh 1 17 [(1, .ro .unk ([({ gFrom := 0, gTo := 10000, gVariation := 2 } : TRange)]).length (TRange.cl ([({ gFrom := 0, gTo := 10000, gVariation := 2 } : TRange)])))] (AOps_done (AWP_reg (Rh 1 17 [(1, .ro .unk ([({ gFrom := 0, gTo := 10000, gVariation := 2 } : TRange)]).length (TRange.cl ([({ gFrom := 0, gTo := 10000, gVariation := 2 } : TRange)]))), (4, .agg [sA ByteArray.empty, sA ByteArray.empty, iA 0, .ro .full 0 [], .ro .full 0 [], .ro .full 0 [], .ro .full 0 [], .ro .full 0 []])] ?_)))
  obtain ⟨v1, hv1, H⟩ := bind_some H
  refine AOps_callp (d := (some 5)) (al := [.agg [sA ByteArray.empty, sA ByteArray.empty, iA 0, .ro .full 0 [], .ro .full 0 [], .ro .full 0 [], .ro .full 0 [], .ro .full 0 []]]) (r := iA v1) (by kernel_rfl) (Sp.le (leL_cons (AV.le_agg (leL_cons (AV.le_refl _) (leL_cons (AV.le_refl _) (leL_cons (AV.le_refl _) (leL_cons (AV.le_ro _ _ _) (leL_cons (AV.le_ro _ _ _) (leL_cons (AV.le_ro _ _ _) (leL_cons (AV.le_ro _ _ _) (leL_cons (AV.le_ro _ _ _) (leL_refl _))))))))) rfl) (leL_refl _)) (s_shape_Environment hG hv1)) ⟨⟨trivial, trivial, trivial, trivial, trivial, trivial, trivial, trivial, trivial⟩, trivial⟩ trivial ?_
  refine Rh 2 17 [(1, .ro .unk ([({ gFrom := 0, gTo := 10000, gVariation := 2 } : TRange)]).length (TRange.cl ([({ gFrom := 0, gTo := 10000, gVariation := 2 } : TRange)]))), (7, bA (v1 == 0))] ?_
  obtain ⟨v2, hv2, H⟩ := bind_some H
  refine AOps_cut 4 (st' := fr 17 [(1, .ro .unk ([({ gFrom := 0, gTo := 10000, gVariation := 2 } : TRange)]).length (TRange.cl ([({ gFrom := 0, gTo := 10000, gVariation := 2 } : TRange)]))), (11, bA ((v1 == 0) && (v2 == 0)))]) (h' := []) ?_ ?_
  rotate_left
  · cases c1 : (v1 == 0 : Bool) with
    | true =>
      refine R 1 17 [(1, .ro .unk ([({ gFrom := 0, gTo := 10000, gVariation := 2 } : TRange)]).length (TRange.cl ([({ gFrom := 0, gTo := 10000, gVariation := 2 } : TRange)]))), (7, bA true), (8, .ro .unk ([({ gFrom := 0, gTo := 10000, gVariation := 2 } : TRange)]).length (TRange.cl ([({ gFrom := 0, gTo := 10000, gVariation := 2 } : TRange)])))] [] ?_
      have hv2_ := cond_t hv2 (by simp only [c1] <;> rfl)
      refine AOps_callp (d := (some 9)) (al := [.ro .unk ([({ gFrom := 0, gTo := 10000, gVariation := 2 } : TRange)]).length (TRange.cl ([({ gFrom := 0, gTo := 10000, gVariation := 2 } : TRange)])), iA 2]) (r := iA v2) (by kernel_rfl) (s_shape_Split hv2_) ⟨(scl_TRange_cl _ _), trivial, trivial⟩ trivial ?_
      refine R 2 17 [(1, .ro .unk ([({ gFrom := 0, gTo := 10000, gVariation := 2 } : TRange)]).length (TRange.cl ([({ gFrom := 0, gTo := 10000, gVariation := 2 } : TRange)]))), (11, bA (true && (v2 == 0)))] [] ?_
      exact AOps_here [1, 11] (by kernel_rfl) rfl
    | false =>
      refine R 4 17 [(1, .ro .unk ([({ gFrom := 0, gTo := 10000, gVariation := 2 } : TRange)]).length (TRange.cl ([({ gFrom := 0, gTo := 10000, gVariation := 2 } : TRange)]))), (11, bA (false && (v2 == 0)))] [] ?_
      exact AOps_here [1, 11] (by kernel_rfl) rfl
  refine Rh 1 17 [(1, .ro .unk ([({ gFrom := 0, gTo := 10000, gVariation := 2 } : TRange)]).length (TRange.cl ([({ gFrom := 0, gTo := 10000, gVariation := 2 } : TRange)]))), (12, bA ((v1 == 0) && (v2 == 0)))] ?_
  obtain ⟨v3, hv3, H⟩ := bind_some H
  refine AOps_cut 4 (st' := fr 17 [(16, bA (((v1 == 0) && (v2 == 0)) && (v3 == 3)))]) (h' := []) ?_ ?_
  rotate_left
  · cases c1 : ((v1 == 0) && (v2 == 0) : Bool) with
    | true =>
      refine R 1 17 [(12, bA true), (13, .ro .unk ([({ gFrom := 0, gTo := 10000, gVariation := 2 } : TRange)]).length (TRange.cl ([({ gFrom := 0, gTo := 10000, gVariation := 2 } : TRange)])))] [] ?_
      have hv3_ := cond_t hv3 (by simp only [c1] <;> rfl)
      refine AOps_callp (d := (some 14)) (al := [.ro .unk ([({ gFrom := 0, gTo := 10000, gVariation := 2 } : TRange)]).length (TRange.cl ([({ gFrom := 0, gTo := 10000, gVariation := 2 } : TRange)])), iA 1]) (r := iA v3) (by kernel_rfl) (s_shape_Split hv3_) ⟨(scl_TRange_cl _ _), trivial, trivial⟩ trivial ?_
      refine R 2 17 [(16, bA (true && (v3 == 3)))] [] ?_
      exact AOps_here [16] (by kernel_rfl) rfl
    | false =>
      refine R 4 17 [(16, bA (false && (v3 == 3)))] [] ?_
      exact AOps_here [16] (by kernel_rfl) rfl
  refine Rh 1 17 [(0, bA (((v1 == 0) && (v2 == 0)) && (v3 == 3)))] (AOps_done ?_)
  exact AWP_ret (FR H)
end Go.Proofs.YtjhbobacbaikoaaGreatDoor
/- A function of the program as a pure function, and that the program computes it. -/
namespace Go.Proofs.YtjhbobacbaikoaaGreatDoor
open Go
set_option linter.unusedVariables false
set_option linter.unusedSimpArgs false
set_option maxRecDepth 100000
def p_law6_big_L1 (n : Nat) (self_p_law6_big : TExpr → Option Bool) (x0 : TExpr) (v10 : Int) : Option Bool := match n with
| 0 => none
| n + 1 =>
(bif (decide (v10 < (lI x0.gKids))) && (decide ((w64 ((lI x0.gKids) + (lI x0.gValues))) < 200)) then
(rdO x0.gKids v10).bind fun v12 =>
(self_p_law6_big v12).bind fun v13 =>
(bif v13 then
 some (true)
 else
 p_law6_big_L1 n self_p_law6_big x0 (w64 (v10 + 1)))
 else
 some (decide ((w64 ((lI x0.gKids) + (lI x0.gValues))) ≥ 200)))
def p_law6_big_F (self_p_law6_big : TExpr → Option Bool) (n : Nat) (x0 : TExpr) : Option Bool :=
 p_law6_big_L1 n self_p_law6_big x0 0
def p_law6_big (n : Nat) (x0 : TExpr) : Option Bool := match n with
| 0 => none
| n + 1 => p_law6_big_F (p_law6_big n) n x0
variable {E : Env}
theorem s_law6_big_F {self_p_law6_big : TExpr → Option Bool} (hself_law6_big : ∀ {x0 : TExpr}, ∀ {r : Bool}, self_p_law6_big x0 = some r → Sp Tryz.prog E 11 [.agg (TExpr.cs x0)] [] (isA (bA r) [])) {n : Nat} {x0 : TExpr} {r : Bool} (H : p_law6_big_F self_p_law6_big n x0 = some r) :
    Sp Tryz.prog E 11 [.agg (TExpr.cs x0)] [] (isA (bA r) []) := by
  unfold p_law6_big_F at H
  refine Sp_fn Tryz.func11 rfl (fun hc hs => ?_)
  refine AWP_reg (R 2 31 [(1, .ptr 0 0)] [.cells 25 (TExpr.cs x0)] (AOps_done (AWP_reg (Rh 8 31 [(1, .ptr 0 0), (3, iA (w64 ((lI x0.gKids) + (lI x0.gValues))))] (AOps_done (AWP_seq (AWP_reg (Rh 1 31 [(1, .ptr 0 0), (3, iA (w64 ((lI x0.gKids) + (lI x0.gValues)))), (4, iA 0)] ?_))))))))
  refine AOps_done (AWP_block ?_)
  refine AWP_loopN (α := Int) (fun v10 => fr 31 [(1, .ptr 0 0), (3, iA (w64 ((lI x0.gKids) + (lI x0.gValues)))), (4, iA v10)]) (fun v10 => [.cells 25 (TExpr.cs x0)]) (fun k_ v10 => k_ ≤ n ∧ p_law6_big_L1 k_ self_p_law6_big x0 v10 = some r) (fun n v10 H => ?_) (k := n) 0 ⟨Nat.le_refl _, H⟩ (Norm_fd [1, 3, 4] 0 (by kernel_rfl) rfl rfl ⟨(sc_TExpr_cs _ _), trivial⟩ (by refine scL_fr ?_; exact ⟨(sc_ptr rfl), trivial, trivial, trivial⟩))
  show AWP _ _ _ _ _ (fr 31 [(1, .ptr 0 0), (3, iA (w64 ((lI x0.gKids) + (lI x0.gValues)))), (4, iA v10)]) [.cells 25 (TExpr.cs x0)]
  obtain ⟨hb_, H⟩ := H
  replace H : p_law6_big_L1 n self_p_law6_big x0 v10 = some r := H
  cases n with
  | zero => exact not_none (by simpa only [p_law6_big_L1] using H)
  | succ n =>
    unfold p_law6_big_L1 at H
    refine AWP_seq (AWP_reg (Rh 6 31 [(1, .ptr 0 0), (3, iA (w64 ((lI x0.gKids) + (lI x0.gValues)))), (4, iA v10), (17, bA (decide (v10 < (lI x0.gKids))))] (AOps_run 3 [1, 3, 4, 20] (st' := fr 31 [(1, .ptr 0 0), (3, iA (w64 ((lI x0.gKids) + (lI x0.gValues)))), (4, iA v10), (20, bA ((decide (v10 < (lI x0.gKids))) && (decide ((w64 ((lI x0.gKids) + (lI x0.gValues))) < 200))))]) (h' := [.cells 25 (TExpr.cs x0)]) (by (generalize (decide (v10 < (lI x0.gKids))) = t0; cases t0 <;> kernel_rfl)) ?_)))
    refine AOps_done (CD H (fun hb11 H => ?_) (fun hb11 H => ?_))
    · refine AWP_skip ?_
      show AWP _ _ _ _ _ _ _
      refine AWP_seq (AWP_block ?_)
      refine AWP_reg (Rh 3 31 [(1, .ptr 0 0), (3, iA (w64 ((lI x0.gKids) + (lI x0.gValues)))), (4, iA v10), (24, .ro .unk x0.gKids.length (TExpr.cl x0.gKids)), (25, iA v10)] ?_)
      obtain ⟨v12, hv12, H⟩ := bind_some H
      refine AOps_index (d := (some 26)) (sz := 5) (c := TExpr.cs) (by kernel_rfl) rfl (eq_TExpr_cl _) (fun _ => rfl) (by decide) hv12 (fun tl12 => ?_)
      refine Rh 1 31 [(1, .ptr 0 0), (3, iA (w64 ((lI x0.gKids) + (lI x0.gValues)))), (4, iA v10), (27, .agg (TExpr.cs v12))] ?_
      obtain ⟨v13, hv13, H⟩ := bind_some H
      refine AOps_callp (d := (some 28)) (al := [.agg (TExpr.cs v12)]) (r := bA v13) (by kernel_rfl) (hself_law6_big hv13) ⟨(sc_TExpr_cs _ _), trivial⟩ trivial ?_
      refine AOps_done (CD H (fun hb14 H => ?_) (fun hb14 H => ?_))
      · refine AWP_reg (Rh 1 31 [(2, bA true)] (AOps_done ?_))
        exact AWP_ret (FR H)
      · refine AWP_skip ?_
        show AWP _ _ _ _ _ _ _
        refine AWP_region ?_
        refine Rh 3 31 [(1, .ptr 0 0), (3, iA (w64 ((lI x0.gKids) + (lI x0.gValues)))), (4, iA (w64 (v10 + 1)))] (AOps_done ?_)
        exact Exists.intro (w64 (v10 + 1)) (Exists.intro n ⟨by omega, ⟨by omega, H⟩, Norm_fd [1, 3, 4] 0 (by kernel_rfl) rfl rfl ⟨(sc_TExpr_cs _ _), trivial⟩ (by refine scL_fr ?_; exact ⟨(sc_ptr rfl), trivial, trivial, trivial⟩)⟩)
    · refine AWP_exit ?_
      show AWP _ _ _ _ _ _ _
      refine AWP_reg (Rh 3 31 [(2, bA (decide ((w64 ((lI x0.gKids) + (lI x0.gValues))) ≥ 200)))] (AOps_done ?_))
      exact AWP_ret (FR H)
theorem s_all_law6_big : ∀ n : Nat, (∀ {x0 : TExpr}, ∀ {r : Bool}, p_law6_big n x0 = some r → Sp Tryz.prog E 11 [.agg (TExpr.cs x0)] [] (isA (bA r) [])) := by
  intro n
  induction n with
  | zero => exact fun H => not_none (by simpa only [p_law6_big] using H)
  | succ n ih => exact fun H => s_law6_big_F ih (by simpa only [p_law6_big] using H)
theorem s_law6_big {n : Nat} {x0 : TExpr} {r : Bool} (H : p_law6_big n x0 = some r) :
    Sp Tryz.prog E 11 [.agg (TExpr.cs x0)] [] (isA (bA r) []) := (s_all_law6_big n) H
end Go.Proofs.YtjhbobacbaikoaaGreatDoor
/- The examples of the chapter; how large a condition is. -/
namespace Go.Proofs.YtjhbobacbaikoaaGreatDoor
open Go
set_option linter.unusedVariables false
set_option linter.unusedSimpArgs false
mutual
theorem big_tot : ∀ x : TExpr, x.sm → ∃ v, Al fun n => p_law6_big n x = some v
  | .mk op kd nm vs ks, hx => by
    have hL := big_totL ks (by rw [TExpr.sm] at hx; exact hx.2.2.2.2)
    have hlen : ks.length < 4294967281 := by rw [TExpr.sm] at hx; exact hx.2.2.2.1
    generalize hxx : TExpr.mk op kd nm vs ks = x at *
    have hks : x.gKids = ks := by rw [← hxx]; rfl
    obtain ⟨G, N, hN⟩ := hL
    have key : ∀ (q i : Nat), i + q = ks.length → ∃ v, ∀ n m, N ≤ n → q < m → p_law6_big_L1 m (p_law6_big n) x i = some v := by
      intro q
      induction q with
      | zero =>
        intro i hi
        refine ⟨decide (w64 (lI x.gKids + lI x.gValues) ≥ 200), fun n m hn hm => ?_⟩
        obtain ⟨m, rfl⟩ : ∃ k, m = k + 1 := ⟨m - 1, by omega⟩
        obtain rfl : i = ks.length := by omega
        rw [p_law6_big_L1]
        rw [← hks, lI_out]; rfl
      | succ q ih =>
        intro i hi
        have hil : i < x.gKids.length := by rw [hks]; omega
        obtain ⟨w, hw⟩ := ih (i + 1) (by omega)
        by_cases c : w64 (lI x.gKids + lI x.gValues) < 200
        · refine ⟨if G x.gKids[i] = true then true else w, fun n m hn hm => ?_⟩
          obtain ⟨m, rfl⟩ : ∃ k, m = k + 1 := ⟨m - 1, by omega⟩
          rw [p_law6_big_L1, lI_in hil, decide_eq_true c]
          simp only [Bool.and_self, cond_true, rdO_nat hil, Option.bind_some, hN n hn x.gKids[i] (by rw [← hks]; exact List.getElem_mem hil), w64_add (show i + 1 < 9223372036854775808 by omega), hw n m hn (by omega)]
          cases G x.gKids[i] <;> rfl
        · refine ⟨true, fun n m hn hm => ?_⟩
          obtain ⟨m, rfl⟩ : ∃ k, m = k + 1 := ⟨m - 1, by omega⟩
          rw [p_law6_big_L1, lI_in hil, decide_eq_false c]
          simp only [Bool.true_and, cond_false]
          rw [decide_eq_true (show w64 (lI x.gKids + lI x.gValues) ≥ 200 by omega)]
    obtain ⟨v, hv⟩ := key ks.length 0 (by omega)
    refine ⟨v, Al.succ ⟨N + ks.length + 1, fun n hn => ?_⟩⟩
    show p_law6_big_F (p_law6_big n) n x = some v
    unfold p_law6_big_F
    exact hv n n (by omega) (by omega)
theorem big_totL : ∀ l : List TExpr, TExpr.smL l → ∃ G : TExpr → Bool, Al fun n => ∀ k ∈ l, p_law6_big n k = some (G k)
  | [], _ => ⟨fun _ => false, .of fun n k hk => by cases hk⟩
  | k :: ks, h => by
    rw [TExpr.smL] at h
    obtain ⟨v, hv⟩ := big_tot k h.1
    obtain ⟨G, hG⟩ := big_totL ks h.2
    refine ⟨fun y => open Classical in if y = k then v else G y, (hv.and hG).mono fun n ⟨h1, h2⟩ y hy => ?_⟩
    by_cases e : y = k
    · simp only [e, if_true]; exact h1
    · simp only [e, if_false]
      rcases List.mem_cons.1 hy with h | h
      · exact absurd h e
      · exact h2 y h
end
theorem awake_al : Al fun n => p_law6_awake n = some true := ⟨40, fun n hn => by
  obtain ⟨m, rfl⟩ : ∃ m, n = m + 40 := ⟨n - 40, by omega⟩
  kernel_rfl⟩
end Go.Proofs.YtjhbobacbaikoaaGreatDoor
/- A function of the program as a pure function, and that the program computes it. -/
namespace Go.Proofs.YtjhbobacbaikoaaGreatDoor
open Go
set_option linter.unusedVariables false
set_option linter.unusedSimpArgs false
set_option maxRecDepth 100000
def p_ref6_Spans_L1 (n : Nat) (x0 : List TSpan) (v20 : Int) : Option Int := match n with
| 0 => none
| n + 1 =>
(bif decide (v20 < (lI x0)) then
(rdO x0 v20).bind fun v22 =>
(bif !(decide (v22.gFrom < 0)) then rdO x0 v20 else some ({ gFrom := 0, gTo := 0 } : TSpan)).bind fun v23 =>
(bif !(decide (v22.gFrom < 0)) then rdO x0 v20 else some ({ gFrom := 0, gTo := 0 } : TSpan)).bind fun v24 =>
(bif !((decide (v22.gFrom < 0)) || (decide (v23.gFrom ≥ v24.gTo))) then rdO x0 v20 else some ({ gFrom := 0, gTo := 0 } : TSpan)).bind fun v25 =>
(bif ((decide (v22.gFrom < 0)) || (decide (v23.gFrom ≥ v24.gTo))) || (decide (v25.gTo > 10000)) then
 some (3)
 else
(bif decide (v20 > 0) then rdO x0 v20 else some ({ gFrom := 0, gTo := 0 } : TSpan)).bind fun v27 =>
(bif decide (v20 > 0) then rdO x0 (w64 (v20 - 1)) else some ({ gFrom := 0, gTo := 0 } : TSpan)).bind fun v28 =>
(bif (decide (v20 > 0)) && (decide (v27.gFrom ≤ v28.gTo)) then
 some (9)
 else
 p_ref6_Spans_L1 n x0 (w64 (v20 + 1))))
 else
 some (0))
def p_ref6_Spans (n : Nat) (x0 : List TSpan) : Option Int :=
(bif decide ((lI x0) > 16) then
 some (5)
 else
 p_ref6_Spans_L1 n x0 0)
variable {E : Env}
theorem s_ref6_Spans {n : Nat} {x0 : List TSpan} {r : Int} (H : p_ref6_Spans n x0 = some r) :
    Sp Tryz.prog E 26 [.ro .unk x0.length (TSpan.cl x0)] [] (isA (iA r) []) := by
  unfold p_ref6_Spans at H
  refine Sp_fn Tryz.func26 rfl (fun hc hs => ?_)
  refine AWP_reg (Rh 1 56 [(0, .ro .unk x0.length (TSpan.cl x0))] (AOps_done (AWP_seq (AWP_reg (Rh 3 56 [(0, .ro .unk x0.length (TSpan.cl x0)), (6, bA (decide ((lI x0) > 16)))] (AOps_done (CD H (fun hb1 H => ?_) (fun hb1 H => ?_))))))))
  · refine AWP_reg (Rh 1 56 [(2, iA 5)] (AOps_done ?_))
    exact AWP_ret (FR H)
  · refine AWP_skip ?_
    show AWP _ _ _ _ _ _ _
    refine AWP_seq (AWP_reg (Rh 1 56 [(0, .ro .unk x0.length (TSpan.cl x0)), (3, iA 0)] (AOps_done (AWP_block ?_))))
    refine AWP_loopN (α := Int) (fun v20 => fr 56 [(0, .ro .unk x0.length (TSpan.cl x0)), (3, iA v20)]) (fun v20 => []) (fun k_ v20 => k_ ≤ n ∧ p_ref6_Spans_L1 k_ x0 v20 = some r) (fun n v20 H => ?_) (k := n) 0 ⟨Nat.le_refl _, H⟩ (Norm_fd [0, 3] 0 (by kernel_rfl) rfl rfl trivial (by refine scL_fr ?_; exact ⟨(scl_TSpan_cl _ _), trivial, trivial⟩))
    show AWP _ _ _ _ _ (fr 56 [(0, .ro .unk x0.length (TSpan.cl x0)), (3, iA v20)]) []
    obtain ⟨hb_, H⟩ := H
    replace H : p_ref6_Spans_L1 n x0 v20 = some r := H
    cases n with
    | zero => exact not_none (by simpa only [p_ref6_Spans_L1] using H)
    | succ n =>
      unfold p_ref6_Spans_L1 at H
      refine AWP_seq (AWP_reg (Rh 4 56 [(0, .ro .unk x0.length (TSpan.cl x0)), (3, iA v20), (10, bA (decide (v20 < (lI x0))))] (AOps_done (CD H (fun hb21 H => ?_) (fun hb21 H => ?_)))))
      · refine AWP_skip ?_
        show AWP _ _ _ _ _ _ _
        refine AWP_seq (AWP_block ?_)
        refine AWP_seq ?_
        obtain ⟨v22, hv22, H⟩ := bind_some H
        obtain ⟨v23, hv23, H⟩ := bind_some H
        obtain ⟨v24, hv24, H⟩ := bind_some H
        obtain ⟨v25, hv25, H⟩ := bind_some H
        refine AWP_regD1 [0, 1, 2, 3, 4, 5, 6, 7, 8, 9, 10, 11, 12, 13, 14, 15, 16, 17, 18, 19, 20, 21, 22, 23, 24, 25, 26] (N := 56) (f := [(0, .ro .unk x0.length (TSpan.cl x0)), (3, iA v20)]) (leL_of [0, 3] (by kernel_rfl)) mixed (by kernel_rfl) (by kernel_rfl) (st' := fr 56 [(0, .ro .unk x0.length (TSpan.cl x0)), (3, iA v20), (39, bA (((decide (v22.gFrom < 0)) || (decide (v23.gFrom ≥ v24.gTo))) || (decide (v25.gTo > 10000))))]) (h' := []) ?_ ?_
        rotate_left
        · refine RD 2 56 [] [(0, .ro .unk x0.length (TSpan.cl x0)), (3, iA v20), (13, .ro .unk x0.length (TSpan.cl x0)), (14, iA v20)] (AD_index (d := (some 15)) (sz := 2) (c := TSpan.cs) (by kernel_rfl) rfl (eq_TSpan_cl _) (fun _ => rfl) (by decide) hv22 (fun tl22 => ?_))
          refine RD 4 56 [] [(0, .ro .unk x0.length (TSpan.cl x0)), (3, iA v20), (13, .ro .unk x0.length (TSpan.cl x0)), (14, iA v20), (15, .rop ([iA v22.gFrom, iA v22.gTo] ++ tl22)), (16, .rop ([iA v22.gFrom, iA v22.gTo] ++ tl22)), (17, iA v22.gFrom), (18, bA (decide (v22.gFrom < 0))), (19, bA (decide (v22.gFrom < 0)))] ?_
          cases c1 : (decide (v22.gFrom < 0) : Bool) with
          | true =>
            refine RD 20 56 [] [(0, .ro .unk x0.length (TSpan.cl x0)), (3, iA v20), (13, .ro .unk x0.length (TSpan.cl x0)), (14, iA v20), (15, .rop ([iA v22.gFrom, iA v22.gTo] ++ tl22)), (16, .rop ([iA v22.gFrom, iA v22.gTo] ++ tl22)), (17, iA v22.gFrom), (18, bA true), (19, bA true), (20, undefA), (21, undefA), (22, undefA), (23, undefA), (24, undefA), (25, undefA), (26, undefA), (27, undefA), (28, undefA), (29, undefA), (30, undefA), (31, bA (true || (decide (v23.gFrom ≥ v24.gTo)))), (32, bA (true || (decide (v23.gFrom ≥ v24.gTo)))), (33, undefA), (34, undefA), (35, undefA), (36, undefA), (37, undefA), (38, undefA), (39, bA ((true || (decide (v23.gFrom ≥ v24.gTo))) || (decide (v25.gTo > 10000))))] ?_
            exact AD_here [0, 3, 39] (by kernel_rfl) rfl
          | false =>
            refine RD 2 56 [] [(0, .ro .unk x0.length (TSpan.cl x0)), (3, iA v20), (13, .ro .unk x0.length (TSpan.cl x0)), (14, iA v20), (15, .rop ([iA v22.gFrom, iA v22.gTo] ++ tl22)), (16, .rop ([iA v22.gFrom, iA v22.gTo] ++ tl22)), (17, iA v22.gFrom), (18, bA false), (19, bA false), (20, .ro .unk x0.length (TSpan.cl x0)), (21, iA v20)] ?_
            have hv23_ := cond_t hv23 (by simp only [c1] <;> rfl)
            refine AD_index (d := (some 22)) (sz := 2) (c := TSpan.cs) (by kernel_rfl) rfl (eq_TSpan_cl _) (fun _ => rfl) (by decide) hv23_ (fun tl23 => ?_)
            refine RD 4 56 [] [(0, .ro .unk x0.length (TSpan.cl x0)), (3, iA v20), (13, .ro .unk x0.length (TSpan.cl x0)), (14, iA v20), (15, .rop ([iA v22.gFrom, iA v22.gTo] ++ tl22)), (16, .rop ([iA v22.gFrom, iA v22.gTo] ++ tl22)), (17, iA v22.gFrom), (18, bA false), (19, bA false), (20, .ro .unk x0.length (TSpan.cl x0)), (21, iA v20), (22, .rop ([iA v23.gFrom, iA v23.gTo] ++ tl23)), (23, .rop ([iA v23.gFrom, iA v23.gTo] ++ tl23)), (24, iA v23.gFrom), (25, .ro .unk x0.length (TSpan.cl x0)), (26, iA v20)] ?_
            have hv24_ := cond_t hv24 (by simp only [c1] <;> rfl)
            refine AD_index (d := (some 27)) (sz := 2) (c := TSpan.cs) (by kernel_rfl) rfl (eq_TSpan_cl _) (fun _ => rfl) (by decide) hv24_ (fun tl24 => ?_)
            refine RD 5 56 [] [(0, .ro .unk x0.length (TSpan.cl x0)), (3, iA v20), (13, .ro .unk x0.length (TSpan.cl x0)), (14, iA v20), (15, .rop ([iA v22.gFrom, iA v22.gTo] ++ tl22)), (16, .rop ([iA v22.gFrom, iA v22.gTo] ++ tl22)), (17, iA v22.gFrom), (18, bA false), (19, bA false), (20, .ro .unk x0.length (TSpan.cl x0)), (21, iA v20), (22, .rop ([iA v23.gFrom, iA v23.gTo] ++ tl23)), (23, .rop ([iA v23.gFrom, iA v23.gTo] ++ tl23)), (24, iA v23.gFrom), (25, .ro .unk x0.length (TSpan.cl x0)), (26, iA v20), (27, .rop ([iA v24.gFrom, iA v24.gTo] ++ tl24)), (28, .rop ([iA v24.gTo] ++ tl24)), (29, iA v24.gTo), (30, bA (decide (v23.gFrom ≥ v24.gTo))), (31, bA (false || (decide (v23.gFrom ≥ v24.gTo)))), (32, bA (false || (decide (v23.gFrom ≥ v24.gTo))))] ?_
            cases c2 : (decide (v23.gFrom ≥ v24.gTo) : Bool) with
            | true =>
              refine RD 7 56 [] [(0, .ro .unk x0.length (TSpan.cl x0)), (3, iA v20), (13, .ro .unk x0.length (TSpan.cl x0)), (14, iA v20), (15, .rop ([iA v22.gFrom, iA v22.gTo] ++ tl22)), (16, .rop ([iA v22.gFrom, iA v22.gTo] ++ tl22)), (17, iA v22.gFrom), (18, bA false), (19, bA false), (20, .ro .unk x0.length (TSpan.cl x0)), (21, iA v20), (22, .rop ([iA v23.gFrom, iA v23.gTo] ++ tl23)), (23, .rop ([iA v23.gFrom, iA v23.gTo] ++ tl23)), (24, iA v23.gFrom), (25, .ro .unk x0.length (TSpan.cl x0)), (26, iA v20), (27, .rop ([iA v24.gFrom, iA v24.gTo] ++ tl24)), (28, .rop ([iA v24.gTo] ++ tl24)), (29, iA v24.gTo), (30, bA true), (31, bA (false || true)), (32, bA (false || true)), (33, undefA), (34, undefA), (35, undefA), (36, undefA), (37, undefA), (38, undefA), (39, bA ((false || true) || (decide (v25.gTo > 10000))))] ?_
              exact AD_here [0, 3, 39] (by kernel_rfl) rfl
            | false =>
              refine RD 2 56 [] [(0, .ro .unk x0.length (TSpan.cl x0)), (3, iA v20), (13, .ro .unk x0.length (TSpan.cl x0)), (14, iA v20), (15, .rop ([iA v22.gFrom, iA v22.gTo] ++ tl22)), (16, .rop ([iA v22.gFrom, iA v22.gTo] ++ tl22)), (17, iA v22.gFrom), (18, bA false), (19, bA false), (20, .ro .unk x0.length (TSpan.cl x0)), (21, iA v20), (22, .rop ([iA v23.gFrom, iA v23.gTo] ++ tl23)), (23, .rop ([iA v23.gFrom, iA v23.gTo] ++ tl23)), (24, iA v23.gFrom), (25, .ro .unk x0.length (TSpan.cl x0)), (26, iA v20), (27, .rop ([iA v24.gFrom, iA v24.gTo] ++ tl24)), (28, .rop ([iA v24.gTo] ++ tl24)), (29, iA v24.gTo), (30, bA false), (31, bA (false || false)), (32, bA (false || false)), (33, .ro .unk x0.length (TSpan.cl x0)), (34, iA v20)] ?_
              have hv25_ := cond_t hv25 (by simp only [c1, c2] <;> rfl)
              refine AD_index (d := (some 35)) (sz := 2) (c := TSpan.cs) (by kernel_rfl) rfl (eq_TSpan_cl _) (fun _ => rfl) (by decide) hv25_ (fun tl25 => ?_)
              refine RD 4 56 [] [(0, .ro .unk x0.length (TSpan.cl x0)), (3, iA v20), (13, .ro .unk x0.length (TSpan.cl x0)), (14, iA v20), (15, .rop ([iA v22.gFrom, iA v22.gTo] ++ tl22)), (16, .rop ([iA v22.gFrom, iA v22.gTo] ++ tl22)), (17, iA v22.gFrom), (18, bA false), (19, bA false), (20, .ro .unk x0.length (TSpan.cl x0)), (21, iA v20), (22, .rop ([iA v23.gFrom, iA v23.gTo] ++ tl23)), (23, .rop ([iA v23.gFrom, iA v23.gTo] ++ tl23)), (24, iA v23.gFrom), (25, .ro .unk x0.length (TSpan.cl x0)), (26, iA v20), (27, .rop ([iA v24.gFrom, iA v24.gTo] ++ tl24)), (28, .rop ([iA v24.gTo] ++ tl24)), (29, iA v24.gTo), (30, bA false), (31, bA (false || false)), (32, bA (false || false)), (33, .ro .unk x0.length (TSpan.cl x0)), (34, iA v20), (35, .rop ([iA v25.gFrom, iA v25.gTo] ++ tl25)), (36, .rop ([iA v25.gTo] ++ tl25)), (37, iA v25.gTo), (38, bA (decide (v25.gTo > 10000))), (39, bA ((false || false) || (decide (v25.gTo > 10000))))] ?_
              exact AD_here [0, 3, 39] (by kernel_rfl) rfl
        refine CD H (fun hb26 H => ?_) (fun hb26 H => ?_)
        · refine AWP_reg (Rh 1 56 [(2, iA 3)] (AOps_done ?_))
          exact AWP_ret (FR H)
        · refine AWP_skip ?_
          show AWP _ _ _ _ _ _ _
          obtain ⟨v27, hv27, H⟩ := bind_some H
          obtain ⟨v28, hv28, H⟩ := bind_some H
          refine AWP_regD1 [0, 1, 2, 3, 4, 5, 6, 7, 8, 9, 10, 11, 12, 13, 14, 15] (N := 56) (f := [(0, .ro .unk x0.length (TSpan.cl x0)), (3, iA v20)]) (leL_of [0, 3] (by kernel_rfl)) mixed (by kernel_rfl) (by kernel_rfl) (st' := fr 56 [(0, .ro .unk x0.length (TSpan.cl x0)), (3, iA v20), (55, bA ((decide (v20 > 0)) && (decide (v27.gFrom ≤ v28.gTo))))]) (h' := []) ?_ ?_
          rotate_left
          · refine RD 3 56 [] [(0, .ro .unk x0.length (TSpan.cl x0)), (3, iA v20), (40, iA v20), (41, bA (decide (v20 > 0))), (42, bA (decide (v20 > 0)))] ?_
            cases c1 : (decide (v20 > 0) : Bool) with
            | true =>
              refine RD 2 56 [] [(0, .ro .unk x0.length (TSpan.cl x0)), (3, iA v20), (40, iA v20), (41, bA true), (42, bA true), (43, .ro .unk x0.length (TSpan.cl x0)), (44, iA v20)] ?_
              have hv27_ := cond_t hv27 (by simp only [c1] <;> rfl)
              refine AD_index (d := (some 45)) (sz := 2) (c := TSpan.cs) (by kernel_rfl) rfl (eq_TSpan_cl _) (fun _ => rfl) (by decide) hv27_ (fun tl27 => ?_)
              refine RD 5 56 [] [(0, .ro .unk x0.length (TSpan.cl x0)), (3, iA v20), (40, iA v20), (41, bA true), (42, bA true), (43, .ro .unk x0.length (TSpan.cl x0)), (44, iA v20), (45, .rop ([iA v27.gFrom, iA v27.gTo] ++ tl27)), (46, .rop ([iA v27.gFrom, iA v27.gTo] ++ tl27)), (47, iA v27.gFrom), (48, .ro .unk x0.length (TSpan.cl x0)), (49, iA v20), (50, iA (w64 (v20 - 1)))] ?_
              have hv28_ := cond_t hv28 (by simp only [c1] <;> rfl)
              refine AD_index (d := (some 51)) (sz := 2) (c := TSpan.cs) (by kernel_rfl) rfl (eq_TSpan_cl _) (fun _ => rfl) (by decide) hv28_ (fun tl28 => ?_)
              refine RD 4 56 [] [(0, .ro .unk x0.length (TSpan.cl x0)), (3, iA v20), (40, iA v20), (41, bA true), (42, bA true), (43, .ro .unk x0.length (TSpan.cl x0)), (44, iA v20), (45, .rop ([iA v27.gFrom, iA v27.gTo] ++ tl27)), (46, .rop ([iA v27.gFrom, iA v27.gTo] ++ tl27)), (47, iA v27.gFrom), (48, .ro .unk x0.length (TSpan.cl x0)), (49, iA v20), (50, iA (w64 (v20 - 1))), (51, .rop ([iA v28.gFrom, iA v28.gTo] ++ tl28)), (52, .rop ([iA v28.gTo] ++ tl28)), (53, iA v28.gTo), (54, bA (decide (v27.gFrom ≤ v28.gTo))), (55, bA (true && (decide (v27.gFrom ≤ v28.gTo))))] ?_
              exact AD_here [0, 3, 55] (by kernel_rfl) rfl
            | false =>
              refine RD 13 56 [] [(0, .ro .unk x0.length (TSpan.cl x0)), (3, iA v20), (40, iA v20), (41, bA false), (42, bA false), (43, undefA), (44, undefA), (45, undefA), (46, undefA), (47, undefA), (48, undefA), (49, undefA), (50, undefA), (51, undefA), (52, undefA), (53, undefA), (54, undefA), (55, bA (false && (decide (v27.gFrom ≤ v28.gTo))))] ?_
              exact AD_here [0, 3, 55] (by kernel_rfl) rfl
          refine CD H (fun hb29 H => ?_) (fun hb29 H => ?_)
          · refine AWP_reg (Rh 1 56 [(2, iA 9)] (AOps_done ?_))
            exact AWP_ret (FR H)
          · refine AWP_skip ?_
            show AWP _ _ _ _ _ _ _
            refine AWP_region ?_
            refine Rh 3 56 [(0, .ro .unk x0.length (TSpan.cl x0)), (3, iA (w64 (v20 + 1)))] (AOps_done ?_)
            exact Exists.intro (w64 (v20 + 1)) (Exists.intro n ⟨by omega, ⟨by omega, H⟩, Norm_fd [0, 3] 0 (by kernel_rfl) rfl rfl trivial (by refine scL_fr ?_; exact ⟨(scl_TSpan_cl _ _), trivial, trivial⟩)⟩)
      · refine AWP_exit ?_
        show AWP _ _ _ _ _ _ _
        refine AWP_reg (Rh 1 56 [(2, iA 0)] (AOps_done ?_))
        exact AWP_ret (FR H)
end Go.Proofs.YtjhbobacbaikoaaGreatDoor
/- A function of the program as a pure function, and that the program computes it. -/
namespace Go.Proofs.YtjhbobacbaikoaaGreatDoor
open Go
set_option linter.unusedVariables false
set_option linter.unusedSimpArgs false
set_option maxRecDepth 100000
def p_shape_inside (n : Nat) (x0 : Int) (x1 : Int) : Option Bool :=
 some (((decide (0 ≤ x0)) && (decide (x0 < x1))) && (decide (x1 ≤ 10000)))
variable {E : Env}
theorem s_shape_inside {n : Nat} {x0 : Int} {x1 : Int} {r : Bool} (H : p_shape_inside n x0 x1 = some r) :
    Sp Tryz.prog E 57 [iA x0, iA x1] [] (isA (bA r) []) := by
  unfold p_shape_inside at H
  refine Sp_fn Tryz.func57 rfl (fun hc hs => ?_)
  refine AWP_reg (Rh 1 16 [(0, iA x0), (1, iA x1)] (AOps_done (AWP_reg (Rh 3 16 [(0, iA x0), (1, iA x1), (7, bA (decide (0 ≤ x0)))] (AOps_run 4 [1, 11] (st' := fr 16 [(1, iA x1), (11, bA ((decide (0 ≤ x0)) && (decide (x0 < x1))))]) (h' := []) (by (generalize (decide (0 ≤ x0)) = t0; cases t0 <;> kernel_rfl)) ?_)))))
  refine Rh 1 16 [(1, iA x1), (12, bA ((decide (0 ≤ x0)) && (decide (x0 < x1))))] (AOps_run 3 [15] (st' := fr 16 [(15, bA (((decide (0 ≤ x0)) && (decide (x0 < x1))) && (decide (x1 ≤ 10000))))]) (h' := []) (by (generalize (decide (0 ≤ x0)) = t0; generalize (decide (x0 < x1)) = t1; cases t0 <;> cases t1 <;> kernel_rfl)) ?_)
  refine Rh 1 16 [(4, bA (((decide (0 ≤ x0)) && (decide (x0 < x1))) && (decide (x1 ≤ 10000))))] (AOps_done ?_)
  exact AWP_ret (FR H)
end Go.Proofs.YtjhbobacbaikoaaGreatDoor
/- A function of the program as a pure function, and that the program computes it. -/
namespace Go.Proofs.YtjhbobacbaikoaaGreatDoor
open Go
set_option linter.unusedVariables false
set_option linter.unusedSimpArgs false
set_option maxRecDepth 100000
def p_shape_Spans_L1 (n : Nat) (x0 : List TSpan) (v14 : Int) : Option Int := match n with
| 0 => none
| n + 1 =>
(bif decide (v14 < (lI x0)) then
(rdO x0 v14).bind fun v16 =>
(p_shape_inside n v16.gFrom v16.gTo).bind fun v17 =>
(bif !v17 then
 some (3)
 else
(bif decide (v14 > 0) then rdO x0 (w64 (v14 - 1)) else some ({ gFrom := 0, gTo := 0 } : TSpan)).bind fun v19 =>
(bif (decide (v14 > 0)) && (decide (v16.gFrom ≤ v19.gTo)) then
 some (9)
 else
 p_shape_Spans_L1 n x0 (w64 (v14 + 1))))
 else
 some (0))
def p_shape_Spans (n : Nat) (x0 : List TSpan) : Option Int :=
(bif decide ((lI x0) > 16) then
 some (5)
 else
 p_shape_Spans_L1 n x0 0)
variable {E : Env}
theorem s_shape_Spans {n : Nat} {x0 : List TSpan} {r : Int} (H : p_shape_Spans n x0 = some r) :
    Sp Tryz.prog E 25 [.ro .unk x0.length (TSpan.cl x0)] [] (isA (iA r) []) := by
  unfold p_shape_Spans at H
  refine Sp_fn Tryz.func25 rfl (fun hc hs => ?_)
  refine AWP_reg (Rh 1 35 [(0, .ro .unk x0.length (TSpan.cl x0))] (AOps_done (AWP_seq (AWP_reg (Rh 3 35 [(0, .ro .unk x0.length (TSpan.cl x0)), (7, bA (decide ((lI x0) > 16)))] (AOps_done (CD H (fun hb1 H => ?_) (fun hb1 H => ?_))))))))
  · refine AWP_reg (Rh 1 35 [(2, iA 5)] (AOps_done ?_))
    exact AWP_ret (FR H)
  · refine AWP_skip ?_
    show AWP _ _ _ _ _ _ _
    refine AWP_seq (AWP_reg (Rh 3 35 [(0, .ro .unk x0.length (TSpan.cl x0)), (8, .ro .unk x0.length (TSpan.cl x0)), (9, iA (lI x0)), (10, iA 0)] (AOps_done (AWP_block ?_))))
    refine AWP_loopN (α := Int) (fun v14 => fr 35 [(0, .ro .unk x0.length (TSpan.cl x0)), (8, .ro .unk x0.length (TSpan.cl x0)), (9, iA (lI x0)), (10, iA v14)]) (fun v14 => []) (fun k_ v14 => k_ ≤ n ∧ p_shape_Spans_L1 k_ x0 v14 = some r) (fun n v14 H => ?_) (k := n) 0 ⟨Nat.le_refl _, H⟩ (Norm_fd [0, 8, 9, 10] 0 (by kernel_rfl) rfl rfl trivial (by refine scL_fr ?_; exact ⟨(scl_TSpan_cl _ _), (scl_TSpan_cl _ _), trivial, trivial, trivial⟩))
    show AWP _ _ _ _ _ (fr 35 [(0, .ro .unk x0.length (TSpan.cl x0)), (8, .ro .unk x0.length (TSpan.cl x0)), (9, iA (lI x0)), (10, iA v14)]) []
    obtain ⟨hb_, H⟩ := H
    replace H : p_shape_Spans_L1 n x0 v14 = some r := H
    cases n with
    | zero => exact not_none (by simpa only [p_shape_Spans_L1] using H)
    | succ n =>
      unfold p_shape_Spans_L1 at H
      refine AWP_reg (Rh 1 35 [(0, .ro .unk x0.length (TSpan.cl x0)), (8, .ro .unk x0.length (TSpan.cl x0)), (9, iA (lI x0)), (10, iA v14), (11, bA (decide (v14 < (lI x0))))] (AOps_done (AWP_seq (CD H (fun hb15 H => ?_) (fun hb15 H => ?_)))))
      · refine AWP_skip ?_
        show AWP _ _ _ _ _ _ _
        refine AWP_seq (AWP_block ?_)
        refine AWP_reg (Rh 1 35 [(0, .ro .unk x0.length (TSpan.cl x0)), (8, .ro .unk x0.length (TSpan.cl x0)), (9, iA (lI x0)), (10, iA v14), (12, iA v14)] ?_)
        obtain ⟨v16, hv16, H⟩ := bind_some H
        refine AOps_index (d := (some 13)) (sz := 2) (c := TSpan.cs) (by kernel_rfl) rfl (eq_TSpan_cl _) (fun _ => rfl) (by decide) hv16 (fun tl16 => ?_)
        refine R 4 35 [(0, .ro .unk x0.length (TSpan.cl x0)), (3, iA v14), (4, .ptr 0 0), (8, .ro .unk x0.length (TSpan.cl x0)), (9, iA (lI x0)), (10, iA v14)] [.cells 45 (TSpan.cs v16)] (AOps_done (AWP_seq (AWP_reg (Rh 4 35 [(0, .ro .unk x0.length (TSpan.cl x0)), (3, iA v14), (4, .ptr 0 0), (8, .ro .unk x0.length (TSpan.cl x0)), (9, iA (lI x0)), (10, iA v14), (16, iA v16.gFrom), (18, iA v16.gTo)] ?_))))
        obtain ⟨v17, hv17, H⟩ := bind_some H
        refine AOps_callp (d := (some 19)) (al := [iA v16.gFrom, iA v16.gTo]) (r := bA v17) (by kernel_rfl) (s_shape_inside hv17) ⟨trivial, trivial, trivial⟩ trivial ?_
        refine Rh 1 35 [(0, .ro .unk x0.length (TSpan.cl x0)), (3, iA v14), (4, .ptr 0 0), (8, .ro .unk x0.length (TSpan.cl x0)), (9, iA (lI x0)), (10, iA v14), (20, bA (!v17))] (AOps_done (CD H (fun hb18 H => ?_) (fun hb18 H => ?_)))
        · refine AWP_reg (Rh 1 35 [(2, iA 3)] (AOps_done ?_))
          exact AWP_ret (FR H)
        · refine AWP_skip ?_
          show AWP _ _ _ _ _ _ _
          obtain ⟨v19, hv19, H⟩ := bind_some H
          refine AWP_regD1 [0, 1, 2, 3, 4, 5, 6, 7, 8, 9, 10, 11, 12] (N := 35) (f := [(0, .ro .unk x0.length (TSpan.cl x0)), (3, iA v14), (4, .ptr 0 0), (8, .ro .unk x0.length (TSpan.cl x0)), (9, iA (lI x0)), (10, iA v14)]) (leL_of [0, 3, 4, 8, 9, 10] (by kernel_rfl)) mixed (by kernel_rfl) (by kernel_rfl) (st' := fr 35 [(0, .ro .unk x0.length (TSpan.cl x0)), (8, .ro .unk x0.length (TSpan.cl x0)), (9, iA (lI x0)), (10, iA v14), (33, bA ((decide (v14 > 0)) && (decide (v16.gFrom ≤ v19.gTo))))]) (h' := [.cells 45 (TSpan.cs v16)]) ?_ ?_
          rotate_left
          · refine RD 3 35 [] [(0, .ro .unk x0.length (TSpan.cl x0)), (3, iA v14), (4, .ptr 0 0), (8, .ro .unk x0.length (TSpan.cl x0)), (9, iA (lI x0)), (10, iA v14), (21, iA v14), (22, bA (decide (v14 > 0))), (23, bA (decide (v14 > 0)))] ?_
            cases c1 : (decide (v14 > 0) : Bool) with
            | true =>
              refine RD 5 35 [(4, 0), (3, 0)] [(0, .ro .unk x0.length (TSpan.cl x0)), (3, iA v14), (4, .ptr 0 0), (8, .ro .unk x0.length (TSpan.cl x0)), (9, iA (lI x0)), (10, iA v14), (21, iA v14), (22, bA true), (23, bA true), (24, .ptr 0 0), (25, iA v16.gFrom), (26, .ro .unk x0.length (TSpan.cl x0)), (27, iA v14), (28, iA (w64 (v14 - 1)))] ?_
              have hv19_ := cond_t hv19 (by simp only [c1] <;> rfl)
              refine AD_index (d := (some 29)) (sz := 2) (c := TSpan.cs) (by kernel_rfl) rfl (eq_TSpan_cl _) (fun _ => rfl) (by decide) hv19_ (fun tl19 => ?_)
              refine RD 4 35 [(4, 0), (3, 0)] [(0, .ro .unk x0.length (TSpan.cl x0)), (3, iA v14), (4, .ptr 0 0), (8, .ro .unk x0.length (TSpan.cl x0)), (9, iA (lI x0)), (10, iA v14), (21, iA v14), (22, bA true), (23, bA true), (24, .ptr 0 0), (25, iA v16.gFrom), (26, .ro .unk x0.length (TSpan.cl x0)), (27, iA v14), (28, iA (w64 (v14 - 1))), (29, .rop ([iA v19.gFrom, iA v19.gTo] ++ tl19)), (30, .rop ([iA v19.gTo] ++ tl19)), (31, iA v19.gTo), (32, bA (decide (v16.gFrom ≤ v19.gTo))), (33, bA (true && (decide (v16.gFrom ≤ v19.gTo))))] ?_
              exact AD_here [0, 8, 9, 10, 33] (by kernel_rfl) rfl
            | false =>
              refine RD 10 35 [] [(0, .ro .unk x0.length (TSpan.cl x0)), (3, iA v14), (4, .ptr 0 0), (8, .ro .unk x0.length (TSpan.cl x0)), (9, iA (lI x0)), (10, iA v14), (21, iA v14), (22, bA false), (23, bA false), (24, undefA), (25, undefA), (26, undefA), (27, undefA), (28, undefA), (29, undefA), (30, undefA), (31, undefA), (32, undefA), (33, bA (false && (decide (v16.gFrom ≤ v19.gTo))))] ?_
              exact AD_here [0, 8, 9, 10, 33] (by kernel_rfl) rfl
          refine CD H (fun hb20 H => ?_) (fun hb20 H => ?_)
          · refine AWP_reg (Rh 1 35 [(2, iA 9)] (AOps_done ?_))
            exact AWP_ret (FR H)
          · refine AWP_skip ?_
            show AWP _ _ _ _ _ _ _
            refine AWP_region ?_
            refine Rh 2 35 [(0, .ro .unk x0.length (TSpan.cl x0)), (8, .ro .unk x0.length (TSpan.cl x0)), (9, iA (lI x0)), (10, iA (w64 (v14 + 1)))] (AOps_done ?_)
            exact Exists.intro (w64 (v14 + 1)) (Exists.intro n ⟨by omega, ⟨by omega, H⟩, Norm_fd [0, 8, 9, 10] 1 (by kernel_rfl) rfl rfl trivial (by refine scL_fr ?_; exact ⟨(scl_TSpan_cl _ _), (scl_TSpan_cl _ _), trivial, trivial, trivial⟩)⟩)
      · refine AWP_exit ?_
        show AWP _ _ _ _ _ _ _
        refine AWP_reg (Rh 1 35 [(2, iA 0)] (AOps_done ?_))
        exact AWP_ret (FR H)
end Go.Proofs.YtjhbobacbaikoaaGreatDoor
/- Spans: the program and the reference agree. -/
namespace Go.Proofs.YtjhbobacbaikoaaGreatDoor
open Go
set_option linter.unusedVariables false
set_option linter.unusedSimpArgs false
theorem spans_bi (l : List TSpan) : ∃ v, Al fun n => p_shape_Spans n l = some v ∧ p_ref6_Spans n l = some v := by
  unfold p_shape_Spans p_ref6_Spans
  by_cases hl : lI l > 16
  · exact ⟨5, .of fun n => by rw [decide_eq_true hl]; exact ⟨rfl, rfl⟩⟩
  · rw [decide_eq_false hl]
    have hlen : l.length ≤ 16 := long_no (k := 16) hl
    simp only [cond_false]
    refine loop2 (fun n i => p_shape_Spans_L1 n l i) (fun n i => p_ref6_Spans_L1 n l i) l.length (fun i hi => ?_) ⟨0, .of fun n => ?_⟩ 0 (by omega)
    · have hd := lI_in hi
      have hr := rdO_nat hi
      by_cases c1 : l[i].gFrom < 0
      · refine .inl ⟨3, .of fun n => ?_⟩
        have : ¬ 0 ≤ l[i].gFrom := by omega
        rw [p_shape_Spans_L1, p_ref6_Spans_L1, hd]
        simp [hr, c1, p_shape_inside, this]
      · have c1' : 0 ≤ l[i].gFrom := by omega
        by_cases c2 : l[i].gFrom ≥ l[i].gTo
        · refine .inl ⟨3, .of fun n => ?_⟩
          have c2' : ¬ l[i].gFrom < l[i].gTo := by omega
          rw [p_shape_Spans_L1, p_ref6_Spans_L1, hd]
          simp [hr, c1, c1', p_shape_inside, c2, c2']
        · have c2' : l[i].gFrom < l[i].gTo := by omega
          by_cases c3 : l[i].gTo > 10000
          · refine .inl ⟨3, .of fun n => ?_⟩
            have c3' : ¬ l[i].gTo ≤ 10000 := by omega
            rw [p_shape_Spans_L1, p_ref6_Spans_L1, hd]
            simp [hr, c1, c1', p_shape_inside, c2, c2', c3, c3']
          · have c3' : l[i].gTo ≤ 10000 := by omega
            have c2'' : ¬ l[i].gTo ≤ l[i].gFrom := by omega
            by_cases hz : 0 < i
            · have hz' : (i : Int) > 0 := by omega
              have hp := rdO_pred hz hi (by omega)
              by_cases c4 : l[i].gFrom ≤ l[i - 1].gTo
              · refine .inl ⟨9, .of fun n => ?_⟩
                rw [p_shape_Spans_L1, p_ref6_Spans_L1, hd, hp, decide_eq_true hz']
                simp [hr, c1, c1', p_shape_inside, c2'', c2', c3, c3', c4]
              · refine .inr (.of fun n => ?_)
                rw [p_shape_Spans_L1, p_ref6_Spans_L1, hd, hp, decide_eq_true hz', w64_add (by omega)]
                simp [hr, c1, c1', p_shape_inside, c2'', c2', c3, c3', c4]
            · have hz' : ¬ (i : Int) > 0 := by omega
              refine .inr (.of fun n => ?_)
              rw [p_shape_Spans_L1, p_ref6_Spans_L1, hd, decide_eq_false hz', w64_add (by omega)]
              simp [hr, c1, c1', p_shape_inside, c2'', c2', c3, c3']
    · rw [p_shape_Spans_L1, p_ref6_Spans_L1, lI_out]
      exact ⟨rfl, rfl⟩
end Go.Proofs.YtjhbobacbaikoaaGreatDoor
/- A function of the program as a pure function, and that the program computes it. -/
namespace Go.Proofs.YtjhbobacbaikoaaGreatDoor
open Go
set_option linter.unusedVariables false
set_option linter.unusedSimpArgs false
set_option maxRecDepth 100000
def p_draw_Mod_K1 (n : Nat) (v3 : Int) : Option Int :=
 some (v3)
def p_draw_Mod (n : Nat) (x0 : Int) (x1 : Int) : Option Int :=
(remO x0 x1).bind fun v1 =>
(bif decide (v1 < 0) then
 p_draw_Mod_K1 n  (w64 (v1 + x1))
 else
 p_draw_Mod_K1 n  v1)
variable {E : Env}
theorem s_draw_Mod {n : Nat} {x0 : Int} {x1 : Int} {r : Int} (H : p_draw_Mod n x0 x1 = some r) :
    Sp Tryz.prog E 27 [iA x0, iA x1] [] (isA (iA r) []) := by
  unfold p_draw_Mod at H
  refine Sp_fn Tryz.func27 rfl (fun hc hs => ?_)
  refine AWP_reg (Rh 1 14 [(0, iA x0), (1, iA x1)] (AOps_done (AWP_reg (Rh 2 14 [(1, iA x1), (5, iA x0), (6, iA x1)] ?_))))
  obtain ⟨v1, hv1, H⟩ := bind_some H
  refine AOps_rem (kk := .i64) (d := (some 7)) (by kernel_rfl) hv1 ?_
  refine Rh 1 14 [(0, iA v1), (1, iA x1)] (AOps_done (AWP_joinN (α := Int) (fun v3 => fr 14 [(0, iA v3)]) (fun v3 => []) (fun v3 => ∃ q, q ≤ q ∧ p_draw_Mod_K1 q  v3 = some r) (fun v3 hC => ?_) ?_))
  · show AWP _ _ _ _ _ (fr 14 [(0, iA v3)]) []
    obtain ⟨n, hn_, hC⟩ := hC
    replace H : p_draw_Mod_K1 n  v3 = some r := hC
    unfold p_draw_Mod_K1 at H
    refine AWP_reg (Rh 2 14 [(4, iA v3)] (AOps_done ?_))
    exact AWP_ret (FR H)
  · refine AWP_reg (Rh 2 14 [(0, iA v1), (1, iA x1), (9, bA (decide (v1 < 0)))] (AOps_done (CD H (fun hb4 H => ?_) (fun hb4 H => ?_))))
    · refine AWP_region ?_
      refine Rh 4 14 [(0, iA (w64 (v1 + x1)))] (AOps_done ?_)
      exact Exists.intro (w64 (v1 + x1)) ⟨⟨n, by omega, H⟩, Norm_fd [0] 0 (by kernel_rfl) rfl rfl trivial (by refine scL_fr ?_; exact ⟨trivial, trivial⟩)⟩
    · refine AWP_skip ?_
      exact Exists.intro v1 ⟨⟨n, by omega, H⟩, Norm_fd [0] 0 (by kernel_rfl) rfl rfl trivial (by refine scL_fr ?_; exact ⟨trivial, trivial⟩)⟩
end Go.Proofs.YtjhbobacbaikoaaGreatDoor
/- The remainder that is never negative. -/
namespace Go.Proofs.YtjhbobacbaikoaaGreatDoor
open Go
set_option linter.unusedVariables false
theorem mod_gv (x : Int) {k : Int} (h0 : 0 < k) (h1 : k < 4611686018427387904) : Gv (fun n => p_draw_Mod n x k) fun r => 0 ≤ r ∧ r < k := by
  unfold p_draw_Mod p_draw_Mod_K1
  have e : remO x k = some (x.tmod k) := by
    unfold remO
    rw [beq_eq_false_iff_ne.2 (show k ≠ 0 by omega)]; rfl
  have h2 : -k < x.tmod k := by
    by_cases hx : 0 ≤ x
    · have := Int.tmod_nonneg k hx
      omega
    · have h : (-x).tmod k < k := Int.tmod_lt_of_pos _ h0
      rw [Int.neg_tmod] at h
      omega
  have h3 : x.tmod k < k := Int.tmod_lt_of_pos _ h0
  refine Gv.bind (Gv.opt (Q := fun r => -k < r ∧ r < k) e ⟨h2, h3⟩) fun r hr => Gv.cond (fun h => ?_) fun h => ?_
  · have h := of_decide_eq_true h
    rw [w64_of (by omega) (by omega)]
    exact Gv.pure ⟨by omega, by omega⟩
  · have h := of_decide_eq_false h
    exact Gv.pure ⟨by omega, by omega⟩
end Go.Proofs.YtjhbobacbaikoaaGreatDoor
/- A function of the program as a pure function, and that the program computes it. -/
namespace Go.Proofs.YtjhbobacbaikoaaGreatDoor
open Go
set_option linter.unusedVariables false
set_option linter.unusedSimpArgs false
set_option maxRecDepth 100000
mutual
def p_law6_ShapeSplits_K1 (n : Nat) (v6 : (List TRange) × TCodes) (v52 : Int) (v72 : Int) (v77 : Int) : Option Bool := match n with
| 0 => none
| n + 1 =>
 p_law6_ShapeSplits_L3 n v6 v52 v77 (w64 (v72 + 1))
def p_law6_ShapeSplits_L3 (n : Nat) (v6 : (List TRange) × TCodes) (v52 : Int) (v71 : Int) (v72 : Int) : Option Bool := match n with
| 0 => none
| n + 1 =>
(bif decide (v72 < (lI v6.1)) then
(rdO v6.1 v72).bind fun v78 =>
(bif decide (v78.gFrom ≤ v52) then rdO v6.1 v72 else some ({ gFrom := 0, gTo := 0, gVariation := 0 } : TRange)).bind fun v79 =>
(bif (decide (v78.gFrom ≤ v52)) && (decide (v52 < v79.gTo)) then
 p_law6_ShapeSplits_K1 n v6 v52 v72 (w64 (v71 + 1))
 else
 p_law6_ShapeSplits_K1 n v6 v52 v72 v71)
 else
(bif v71 == 1 then p_ref13_Pick n v6.1 v52 else some (0)).bind fun v81 =>
 some ((v71 == 1) && (decide (v81 ≥ 1))))
end
def p_law6_ShapeSplits_L2 (n : Nat) (x1 : List TSpan) (x4 : Int) (v5 : Int × TCodes) (v6 : (List TRange) × TCodes) (v9 : TExperiment × TCodes) (v44 : Int) : Option Bool := match n with
| 0 => none
| n + 1 =>
(bif decide (v44 < (lI ([x1, v9.1.gClaims]))) then
(rdO ([x1, v9.1.gClaims]) v44).bind fun v46 =>
(p_shape_Spans n v46).bind fun v47 =>
(p_ref6_Spans n v46).bind fun v48 =>
(bif v47 != v48 then
 some (false)
 else
 p_law6_ShapeSplits_L2 n x1 x4 v5 v6 v9 (w64 (v44 + 1)))
 else
(p_shape_Split n v6.1 (w64 (1 + v5.1))).bind fun v50 =>
(bif v50 != 0 then
 some (false)
 else
(p_draw_Mod n x4 10000).bind fun v52 =>
 p_law6_ShapeSplits_L3 n v6 v52 0 0))
def p_law6_ShapeSplits_L1 (n : Nat) (x0 : List TRange) (x1 : List TSpan) (x3 : Int) (x4 : Int) (v5 : Int × TCodes) (v6 : (List TRange) × TCodes) (v9 : TExperiment × TCodes) (v25 : Int) : Option Bool := match n with
| 0 => none
| n + 1 =>
(bif decide (v25 < (lI ([x0, v6.1, v9.1.gArms]))) then
(rdO ([x0, v6.1, v9.1.gArms]) v25).bind fun v27 =>
(p_shape_Split n v27 x3).bind fun v28 =>
(p_ref6_Split n v27 x3).bind fun v29 =>
(bif !(v28 != v29) then p_shape_Split n v27 (w64 (1 + v5.1)) else some (0)).bind fun v30 =>
(bif !(v28 != v29) then p_ref6_Split n v27 (w64 (1 + v5.1)) else some (0)).bind fun v31 =>
(bif (v28 != v29) || (v30 != v31) then
 some (false)
 else
 p_law6_ShapeSplits_L1 n x0 x1 x3 x4 v5 v6 v9 (w64 (v25 + 1)))
 else
 p_law6_ShapeSplits_L2 n x1 x4 v5 v6 v9 0)
def p_law6_ShapeSplits (n : Nat) (x0 : List TRange) (x1 : List TSpan) (x2 : List Int) (x3 : Int) (x4 : Int) : Option Bool :=
(p_law6_awake n ).bind fun v1 =>
(bif !v1 then
 some (false)
 else
(bif (decide ((lI x0) > 40)) || (decide ((lI x1) > 40)) then
 some (true)
 else
(p_draw_New n x2 60).bind fun v4 =>
(p_draw_Codes_Next n v4 8).bind fun v5 =>
(p_draw_Codes_Split n v5.2 (w64 (1 + v5.1))).bind fun v6 =>
(p_draw_Codes_Wide n v6.2 4000).bind fun v7 =>
(p_draw_Codes_Wide n v7.2 3000).bind fun v8 =>
(p_draw_Codes_Experiment n v8.2 ({ gKey := ByteArray.empty, gLayer := ByteArray.empty, gFlag := ByteArray.empty, gSalt := ByteArray.empty, gStatus := 0, gClaims := [({ gFrom := v7.1, gTo := w64 (4001 + v8.1) } : TSpan)], gArms := v6.1, gWhen := (TExpr.mk 0 ByteArray.empty ByteArray.empty ([]) ([])) } : TExperiment)).bind fun v9 =>
 p_law6_ShapeSplits_L1 n x0 x1 x3 x4 v5 v6 v9 0))
variable {E : Env}
theorem s_law6_ShapeSplits {n : Nat} (hG : GlobD E) {x0 : List TRange} {x1 : List TSpan} {x2 : List Int} {x3 : Int} {x4 : Int} {r : Bool} (H : p_law6_ShapeSplits n x0 x1 x2 x3 x4 = some r) :
    Sp Tryz.prog E 4 [.ro .unk x0.length (TRange.cl x0), .ro .unk x1.length (TSpan.cl x1), .ro .unk x2.length (cl_u8 x2), iA x3, iA x4] [] (isA (bA r) []) := by
  unfold p_law6_ShapeSplits at H
  refine Sp_fn Tryz.func4 rfl (fun hc hs => ?_)
  refine AWP_reg (Rh 1 131 [(0, .ro .unk x0.length (TRange.cl x0)), (1, .ro .unk x1.length (TSpan.cl x1)), (2, .ro .unk x2.length (cl_u8 x2)), (3, iA x3), (4, iA x4)] (AOps_done (AWP_seq (AWP_reg ?_))))
  obtain ⟨v1, hv1, H⟩ := bind_some H
  refine AOps_callp (d := (some 22)) (al := []) (r := bA v1) (by kernel_rfl) (s_law6_awake hG.toGlobT hv1) trivial trivial ?_
  refine Rh 1 131 [(0, .ro .unk x0.length (TRange.cl x0)), (1, .ro .unk x1.length (TSpan.cl x1)), (2, .ro .unk x2.length (cl_u8 x2)), (3, iA x3), (4, iA x4), (23, bA (!v1))] (AOps_done (CD H (fun hb2 H => ?_) (fun hb2 H => ?_)))
  · refine AWP_reg (Rh 1 131 [(10, bA false)] (AOps_done ?_))
    exact AWP_ret (FR H)
  · refine AWP_skip ?_
    show AWP _ _ _ _ _ _ _
    refine AWP_seq (AWP_reg (Rh 4 131 [(0, .ro .unk x0.length (TRange.cl x0)), (1, .ro .unk x1.length (TSpan.cl x1)), (2, .ro .unk x2.length (cl_u8 x2)), (3, iA x3), (4, iA x4), (27, bA (decide ((lI x0) > 40)))] (AOps_run 4 [0, 1, 2, 3, 4, 31] (st' := fr 131 [(0, .ro .unk x0.length (TRange.cl x0)), (1, .ro .unk x1.length (TSpan.cl x1)), (2, .ro .unk x2.length (cl_u8 x2)), (3, iA x3), (4, iA x4), (31, bA ((decide ((lI x0) > 40)) || (decide ((lI x1) > 40))))]) (h' := []) (by (generalize (decide ((lI x0) > 40)) = t0; cases t0 <;> kernel_rfl)) ?_)))
    refine AOps_done (CD H (fun hb3 H => ?_) (fun hb3 H => ?_))
    · refine AWP_reg (Rh 1 131 [(10, bA true)] (AOps_done ?_))
      exact AWP_ret (FR H)
    · refine AWP_skip ?_
      show AWP _ _ _ _ _ _ _
      refine AWP_reg (Rh 1 131 [(0, .ro .unk x0.length (TRange.cl x0)), (1, .ro .unk x1.length (TSpan.cl x1)), (3, iA x3), (4, iA x4), (32, .ro .unk x2.length (cl_u8 x2))] ?_)
      obtain ⟨v4, hv4, H⟩ := bind_some H
      refine AOps_callnew (d := (some 33)) (al := [.ro .unk x2.length (cl_u8 x2), iA 60]) (b := .cells 101 (TCodes.cs v4)) (m := 0) (by kernel_rfl) (s_draw_New hv4) ⟨(scl_cl_u8 _ _), trivial, trivial⟩ (⟨(scl_cl_u8 _ _), trivial, trivial⟩) rfl ?_
      refine Rh 1 131 [(0, .ro .unk x0.length (TRange.cl x0)), (1, .ro .unk x1.length (TSpan.cl x1)), (3, iA x3), (4, iA x4), (11, .ptr 0 0)] (AOps_done (AWP_reg (Rh 1 131 [(0, .ro .unk x0.length (TRange.cl x0)), (1, .ro .unk x1.length (TSpan.cl x1)), (3, iA x3), (4, iA x4), (11, .ptr 0 0), (34, .ptr 0 0)] ?_)))
      obtain ⟨v5, hv5, H⟩ := bind_some H
      refine AOps_call1 (d := (some 35)) (al := [.ptr 0 0, iA 8]) ([.ptr 0 0, iA 8]) (r := iA v5.1) (j := 0) (b' := .cells 101 (TCodes.cs v5.2)) (by kernel_rfl) rfl (s_draw_Codes_Next hv5) (⟨(scl_cl_u8 _ _), trivial, trivial⟩) (⟨(scl_cl_u8 _ _), trivial, trivial⟩) ⟨Nat.zero_lt_one, trivial, trivial⟩ trivial rfl (h' := [.cells 101 (TCodes.cs v5.2)]) rfl ?_
      refine Rh 2 131 [(0, .ro .unk x0.length (TRange.cl x0)), (1, .ro .unk x1.length (TSpan.cl x1)), (3, iA x3), (4, iA x4), (11, .ptr 0 0), (12, iA (w64 (1 + v5.1)))] (AOps_done (AWP_reg (Rh 2 131 [(0, .ro .unk x0.length (TRange.cl x0)), (1, .ro .unk x1.length (TSpan.cl x1)), (3, iA x3), (4, iA x4), (11, .ptr 0 0), (12, iA (w64 (1 + v5.1))), (37, .ptr 0 0), (38, iA (w64 (1 + v5.1)))] ?_)))
      obtain ⟨v6, hv6, H⟩ := bind_some H
      refine AOps_call1 (d := (some 39)) (al := [.ptr 0 0, iA (w64 (1 + v5.1))]) ([.ptr 0 0, iA (w64 (1 + v5.1))]) (r := .ro .unk v6.1.length (TRange.cl v6.1)) (j := 0) (b' := .cells 101 (TCodes.cs v6.2)) (by kernel_rfl) rfl (s_draw_Codes_Split hv6) (⟨(scl_cl_u8 _ _), trivial, trivial⟩) (⟨(scl_cl_u8 _ _), trivial, trivial⟩) ⟨Nat.zero_lt_one, trivial, trivial⟩ (scl_TRange_cl _ _) rfl (h' := [.cells 101 (TCodes.cs v6.2)]) rfl ?_
      refine Rh 1 131 [(0, .ro .unk x0.length (TRange.cl x0)), (1, .ro .unk x1.length (TSpan.cl x1)), (3, iA x3), (4, iA x4), (11, .ptr 0 0), (12, iA (w64 (1 + v5.1))), (13, .ro .unk v6.1.length (TRange.cl v6.1))] (AOps_done (AWP_reg (Rh 3 131 [(0, .ro .unk x0.length (TRange.cl x0)), (1, .ro .unk x1.length (TSpan.cl x1)), (3, iA x3), (4, iA x4), (11, .ptr 0 0), (12, iA (w64 (1 + v5.1))), (13, .ro .unk v6.1.length (TRange.cl v6.1)), (40, .ptr 0 0), (41, .ro .unk v6.1.length (TRange.cl v6.1)), (42, .ptr 0 0)] ?_)))
      obtain ⟨v7, hv7, H⟩ := bind_some H
      refine AOps_call1 (d := (some 43)) (al := [.ptr 0 0, iA 4000]) ([.ptr 0 0, iA 4000]) (r := iA v7.1) (j := 0) (b' := .cells 101 (TCodes.cs v7.2)) (by kernel_rfl) rfl (s_draw_Codes_Wide hv7) (⟨(scl_cl_u8 _ _), trivial, trivial⟩) (⟨(scl_cl_u8 _ _), trivial, trivial⟩) ⟨Nat.zero_lt_one, trivial, trivial⟩ trivial rfl (h' := [.cells 101 (TCodes.cs v7.2)]) rfl ?_
      refine Rh 1 131 [(0, .ro .unk x0.length (TRange.cl x0)), (1, .ro .unk x1.length (TSpan.cl x1)), (3, iA x3), (4, iA x4), (12, iA (w64 (1 + v5.1))), (13, .ro .unk v6.1.length (TRange.cl v6.1)), (40, .ptr 0 0), (41, .ro .unk v6.1.length (TRange.cl v6.1)), (43, iA v7.1), (44, .ptr 0 0)] ?_
      obtain ⟨v8, hv8, H⟩ := bind_some H
      refine AOps_call1 (d := (some 45)) (al := [.ptr 0 0, iA 3000]) ([.ptr 0 0, iA 3000]) (r := iA v8.1) (j := 0) (b' := .cells 101 (TCodes.cs v8.2)) (by kernel_rfl) rfl (s_draw_Codes_Wide hv8) (⟨(scl_cl_u8 _ _), trivial, trivial⟩) (⟨(scl_cl_u8 _ _), trivial, trivial⟩) ⟨Nat.zero_lt_one, trivial, trivial⟩ trivial rfl (h' := [.cells 101 (TCodes.cs v8.2)]) rfl ?_
      refine Rh 2 131 [(0, .ro .unk x0.length (TRange.cl x0)), (1, .ro .unk x1.length (TSpan.cl x1)), (3, iA x3), (4, iA x4), (12, iA (w64 (1 + v5.1))), (13, .ro .unk v6.1.length (TRange.cl v6.1)), (40, .ptr 0 0), (41, .ro .unk v6.1.length (TRange.cl v6.1)), (47, .agg [iA v7.1, iA (w64 (4001 + v8.1))])] (AOps_bsl (d := (some 48)) (m := 1) (cs := [iA v7.1, iA (w64 (4001 + v8.1))]) (by kernel_rfl) ⟨trivial, trivial, trivial⟩ ?_)
      refine Rh 1 131 [(0, .ro .unk x0.length (TRange.cl x0)), (1, .ro .unk x1.length (TSpan.cl x1)), (3, iA x3), (4, iA x4), (12, iA (w64 (1 + v5.1))), (13, .ro .unk v6.1.length (TRange.cl v6.1)), (40, .ptr 0 0), (49, .agg [sA ByteArray.empty, sA ByteArray.empty, sA ByteArray.empty, sA ByteArray.empty, iA 0, .ro .unk ([({ gFrom := v7.1, gTo := w64 (4001 + v8.1) } : TSpan)]).length (TSpan.cl ([({ gFrom := v7.1, gTo := w64 (4001 + v8.1) } : TSpan)])), .ro .unk v6.1.length (TRange.cl v6.1), iA 0, sA ByteArray.empty, sA ByteArray.empty, .ro .full 0 [], .ro .full 0 []])] ?_
      obtain ⟨v9, hv9, H⟩ := bind_some H
      refine AOps_call1 (d := (some 50)) (al := [.ptr 0 0, .agg [sA ByteArray.empty, sA ByteArray.empty, sA ByteArray.empty, sA ByteArray.empty, iA 0, .ro .unk ([({ gFrom := v7.1, gTo := w64 (4001 + v8.1) } : TSpan)]).length (TSpan.cl ([({ gFrom := v7.1, gTo := w64 (4001 + v8.1) } : TSpan)])), .ro .unk v6.1.length (TRange.cl v6.1), iA 0, sA ByteArray.empty, sA ByteArray.empty, .ro .full 0 [], .ro .full 0 []]]) ([.ptr 0 0, .agg [sA ByteArray.empty, sA ByteArray.empty, sA ByteArray.empty, sA ByteArray.empty, iA 0, .ro .unk ([({ gFrom := v7.1, gTo := w64 (4001 + v8.1) } : TSpan)]).length (TSpan.cl ([({ gFrom := v7.1, gTo := w64 (4001 + v8.1) } : TSpan)])), .ro .unk v6.1.length (TRange.cl v6.1), iA 0, sA ByteArray.empty, sA ByteArray.empty, .ro .full 0 [], .ro .full 0 []]]) (r := .agg (TExperiment.cs v9.1)) (j := 0) (b' := .cells 101 (TCodes.cs v9.2)) (by kernel_rfl) rfl (Sp.le (leL_cons (AV.le_refl _) (leL_cons (AV.le_agg (leL_cons (AV.le_refl _) (leL_cons (AV.le_refl _) (leL_cons (AV.le_refl _) (leL_cons (AV.le_refl _) (leL_cons (AV.le_refl _) (leL_cons (AV.le_refl _) (leL_cons (AV.le_refl _) (leL_cons (AV.le_refl _) (leL_cons (AV.le_refl _) (leL_cons (AV.le_refl _) (leL_cons (AV.le_ro _ _ _) (leL_cons (AV.le_ro _ _ _) (leL_refl _))))))))))))) rfl) (leL_refl _))) (s_draw_Codes_Experiment hG hv9)) (⟨(scl_cl_u8 _ _), trivial, trivial⟩) (⟨(scl_cl_u8 _ _), trivial, trivial⟩) ⟨Nat.zero_lt_one, ⟨trivial, trivial, trivial, trivial, trivial, (scl_TSpan_cl _ _), (scl_TRange_cl _ _), trivial, trivial, trivial, trivial, trivial, trivial⟩, trivial⟩ (sc_TExperiment_cs _ _) rfl (h' := [.cells 101 (TCodes.cs v9.2)]) rfl ?_
      refine R 2 131 [(0, .ro .unk x0.length (TRange.cl x0)), (1, .ro .unk x1.length (TSpan.cl x1)), (3, iA x3), (4, iA x4), (12, iA (w64 (1 + v5.1))), (13, .ro .unk v6.1.length (TRange.cl v6.1)), (14, .ptr 1 0)] [.cells 42 (TExperiment.cs v9.1), .cells 101 (TCodes.cs v9.2)] (AOps_done (AWP_seq (AWP_reg (Rh 4 131 [(1, .ro .unk x1.length (TSpan.cl x1)), (3, iA x3), (4, iA x4), (12, iA (w64 (1 + v5.1))), (13, .ro .unk v6.1.length (TRange.cl v6.1)), (14, .ptr 1 0), (51, .ro .unk x0.length (TRange.cl x0)), (52, .ro .unk v6.1.length (TRange.cl v6.1)), (54, .ro .unk v9.1.gArms.length (TRange.cl v9.1.gArms))] (AOps_bsl (d := (some 55)) (m := 3) (cs := [.ro .unk x0.length (TRange.cl x0), .ro .unk v6.1.length (TRange.cl v6.1), .ro .unk v9.1.gArms.length (TRange.cl v9.1.gArms)]) (by kernel_rfl) ⟨(scl_TRange_cl _ _), (scl_TRange_cl _ _), (scl_TRange_cl _ _), trivial⟩ ?_)))))
      refine Rh 2 131 [(1, .ro .unk x1.length (TSpan.cl x1)), (3, iA x3), (4, iA x4), (12, iA (w64 (1 + v5.1))), (13, .ro .unk v6.1.length (TRange.cl v6.1)), (14, .ptr 1 0), (55, .ro .unk ([x0, v6.1, v9.1.gArms]).length (cl_l_TRange_cl ([x0, v6.1, v9.1.gArms]))), (56, iA (lI ([x0, v6.1, v9.1.gArms]))), (57, iA 0)] (AOps_done (AWP_block ?_))
      refine AWP_loopN (α := Int) (fun v25 => fr 131 [(1, .ro .unk x1.length (TSpan.cl x1)), (3, iA x3), (4, iA x4), (12, iA (w64 (1 + v5.1))), (13, .ro .unk v6.1.length (TRange.cl v6.1)), (14, .ptr 1 0), (55, .ro .unk ([x0, v6.1, v9.1.gArms]).length (cl_l_TRange_cl ([x0, v6.1, v9.1.gArms]))), (56, iA (lI ([x0, v6.1, v9.1.gArms]))), (57, iA v25)]) (fun v25 => [.cells 42 (TExperiment.cs v9.1), .cells 101 (TCodes.cs v9.2)]) (fun k_ v25 => k_ ≤ n ∧ p_law6_ShapeSplits_L1 k_ x0 x1 x3 x4 v5 v6 v9 v25 = some r) (fun n v25 H => ?_) (k := n) 0 ⟨Nat.le_refl _, H⟩ (Norm_fd [1, 3, 4, 12, 13, 14, 55, 56, 57] 0 (by kernel_rfl) rfl rfl ⟨(sc_TExperiment_cs _ _), ⟨(scl_cl_u8 _ _), trivial, trivial⟩, trivial⟩ (by refine scL_fr ?_; exact ⟨(scl_TSpan_cl _ _), trivial, trivial, trivial, (scl_TRange_cl _ _), (sc_ptr rfl), (scl_cl_l_TRange_cl _ _), trivial, trivial, trivial⟩))
      show AWP _ _ _ _ _ (fr 131 [(1, .ro .unk x1.length (TSpan.cl x1)), (3, iA x3), (4, iA x4), (12, iA (w64 (1 + v5.1))), (13, .ro .unk v6.1.length (TRange.cl v6.1)), (14, .ptr 1 0), (55, .ro .unk ([x0, v6.1, v9.1.gArms]).length (cl_l_TRange_cl ([x0, v6.1, v9.1.gArms]))), (56, iA (lI ([x0, v6.1, v9.1.gArms]))), (57, iA v25)]) [.cells 42 (TExperiment.cs v9.1), .cells 101 (TCodes.cs v9.2)]
      obtain ⟨hb_, H⟩ := H
      replace H : p_law6_ShapeSplits_L1 n x0 x1 x3 x4 v5 v6 v9 v25 = some r := H
      cases n with
      | zero => exact not_none (by simpa only [p_law6_ShapeSplits_L1] using H)
      | succ n =>
        unfold p_law6_ShapeSplits_L1 at H
        refine AWP_reg (Rh 1 131 [(1, .ro .unk x1.length (TSpan.cl x1)), (3, iA x3), (4, iA x4), (12, iA (w64 (1 + v5.1))), (13, .ro .unk v6.1.length (TRange.cl v6.1)), (14, .ptr 1 0), (55, .ro .unk ([x0, v6.1, v9.1.gArms]).length (cl_l_TRange_cl ([x0, v6.1, v9.1.gArms]))), (56, iA (lI ([x0, v6.1, v9.1.gArms]))), (57, iA v25), (58, bA (decide (v25 < (lI ([x0, v6.1, v9.1.gArms])))))] (AOps_done (AWP_seq (CD H (fun hb26 H => ?_) (fun hb26 H => ?_)))))
        · refine AWP_skip ?_
          show AWP _ _ _ _ _ _ _
          refine AWP_seq (AWP_block ?_)
          refine AWP_reg ?_
          obtain ⟨v27, hv27, H⟩ := bind_some H
          refine AOps_index (d := (some 59)) (sz := 1) (c := cs_l_TRange_cl) (by kernel_rfl) rfl (eq_cl_l_TRange_cl _) (fun _ => rfl) (by decide) hv27 (fun tl27 => ?_)
          refine Rh 2 131 [(1, .ro .unk x1.length (TSpan.cl x1)), (3, iA x3), (4, iA x4), (12, iA (w64 (1 + v5.1))), (13, .ro .unk v6.1.length (TRange.cl v6.1)), (14, .ptr 1 0), (16, .ro .unk v27.length (TRange.cl v27)), (55, .ro .unk ([x0, v6.1, v9.1.gArms]).length (cl_l_TRange_cl ([x0, v6.1, v9.1.gArms]))), (56, iA (lI ([x0, v6.1, v9.1.gArms]))), (57, iA v25)] (AOps_done (AWP_reg (Rh 2 131 [(1, .ro .unk x1.length (TSpan.cl x1)), (3, iA x3), (4, iA x4), (12, iA (w64 (1 + v5.1))), (13, .ro .unk v6.1.length (TRange.cl v6.1)), (14, .ptr 1 0), (16, .ro .unk v27.length (TRange.cl v27)), (55, .ro .unk ([x0, v6.1, v9.1.gArms]).length (cl_l_TRange_cl ([x0, v6.1, v9.1.gArms]))), (56, iA (lI ([x0, v6.1, v9.1.gArms]))), (57, iA v25), (61, .ro .unk v27.length (TRange.cl v27)), (62, iA x3)] ?_)))
          obtain ⟨v28, hv28, H⟩ := bind_some H
          refine AOps_callp (d := (some 63)) (al := [.ro .unk v27.length (TRange.cl v27), iA x3]) (r := iA v28) (by kernel_rfl) (s_shape_Split hv28) ⟨(scl_TRange_cl _ _), trivial, trivial⟩ trivial ?_
          refine Rh 2 131 [(1, .ro .unk x1.length (TSpan.cl x1)), (3, iA x3), (4, iA x4), (12, iA (w64 (1 + v5.1))), (13, .ro .unk v6.1.length (TRange.cl v6.1)), (14, .ptr 1 0), (16, .ro .unk v27.length (TRange.cl v27)), (55, .ro .unk ([x0, v6.1, v9.1.gArms]).length (cl_l_TRange_cl ([x0, v6.1, v9.1.gArms]))), (56, iA (lI ([x0, v6.1, v9.1.gArms]))), (57, iA v25), (63, iA v28), (64, .ro .unk v27.length (TRange.cl v27)), (65, iA x3)] ?_
          obtain ⟨v29, hv29, H⟩ := bind_some H
          refine AOps_callp (d := (some 66)) (al := [.ro .unk v27.length (TRange.cl v27), iA x3]) (r := iA v29) (by kernel_rfl) (s_ref6_Split hv29) ⟨(scl_TRange_cl _ _), trivial, trivial⟩ trivial ?_
          refine Rh 2 131 [(1, .ro .unk x1.length (TSpan.cl x1)), (3, iA x3), (4, iA x4), (12, iA (w64 (1 + v5.1))), (13, .ro .unk v6.1.length (TRange.cl v6.1)), (14, .ptr 1 0), (16, .ro .unk v27.length (TRange.cl v27)), (55, .ro .unk ([x0, v6.1, v9.1.gArms]).length (cl_l_TRange_cl ([x0, v6.1, v9.1.gArms]))), (56, iA (lI ([x0, v6.1, v9.1.gArms]))), (57, iA v25), (68, bA (v28 != v29))] ?_
          obtain ⟨v30, hv30, H⟩ := bind_some H
          obtain ⟨v31, hv31, H⟩ := bind_some H
          refine AOps_cut 8 (st' := fr 131 [(1, .ro .unk x1.length (TSpan.cl x1)), (3, iA x3), (4, iA x4), (12, iA (w64 (1 + v5.1))), (13, .ro .unk v6.1.length (TRange.cl v6.1)), (14, .ptr 1 0), (55, .ro .unk ([x0, v6.1, v9.1.gArms]).length (cl_l_TRange_cl ([x0, v6.1, v9.1.gArms]))), (56, iA (lI ([x0, v6.1, v9.1.gArms]))), (57, iA v25), (76, bA ((v28 != v29) || (v30 != v31)))]) (h' := [.cells 42 (TExperiment.cs v9.1), .cells 101 (TCodes.cs v9.2)]) ?_ ?_
          rotate_left
          · cases c1 : (v28 != v29 : Bool) with
            | true =>
              refine R 8 131 [(1, .ro .unk x1.length (TSpan.cl x1)), (3, iA x3), (4, iA x4), (12, iA (w64 (1 + v5.1))), (13, .ro .unk v6.1.length (TRange.cl v6.1)), (14, .ptr 1 0), (55, .ro .unk ([x0, v6.1, v9.1.gArms]).length (cl_l_TRange_cl ([x0, v6.1, v9.1.gArms]))), (56, iA (lI ([x0, v6.1, v9.1.gArms]))), (57, iA v25), (76, bA (true || (v30 != v31)))] [.cells 42 (TExperiment.cs v9.1), .cells 101 (TCodes.cs v9.2)] ?_
              exact AOps_here [1, 3, 4, 12, 13, 14, 55, 56, 57, 76] (by kernel_rfl) rfl
            | false =>
              refine R 2 131 [(1, .ro .unk x1.length (TSpan.cl x1)), (3, iA x3), (4, iA x4), (12, iA (w64 (1 + v5.1))), (13, .ro .unk v6.1.length (TRange.cl v6.1)), (14, .ptr 1 0), (16, .ro .unk v27.length (TRange.cl v27)), (55, .ro .unk ([x0, v6.1, v9.1.gArms]).length (cl_l_TRange_cl ([x0, v6.1, v9.1.gArms]))), (56, iA (lI ([x0, v6.1, v9.1.gArms]))), (57, iA v25), (68, bA false), (69, .ro .unk v27.length (TRange.cl v27)), (70, iA (w64 (1 + v5.1)))] [.cells 42 (TExperiment.cs v9.1), .cells 101 (TCodes.cs v9.2)] ?_
              have hv30_ := cond_t hv30 (by simp only [c1] <;> rfl)
              refine AOps_callp (d := (some 71)) (al := [.ro .unk v27.length (TRange.cl v27), iA (w64 (1 + v5.1))]) (r := iA v30) (by kernel_rfl) (s_shape_Split hv30_) ⟨(scl_TRange_cl _ _), trivial, trivial⟩ trivial ?_
              refine R 2 131 [(1, .ro .unk x1.length (TSpan.cl x1)), (3, iA x3), (4, iA x4), (12, iA (w64 (1 + v5.1))), (13, .ro .unk v6.1.length (TRange.cl v6.1)), (14, .ptr 1 0), (55, .ro .unk ([x0, v6.1, v9.1.gArms]).length (cl_l_TRange_cl ([x0, v6.1, v9.1.gArms]))), (56, iA (lI ([x0, v6.1, v9.1.gArms]))), (57, iA v25), (68, bA false), (71, iA v30), (72, .ro .unk v27.length (TRange.cl v27)), (73, iA (w64 (1 + v5.1)))] [.cells 42 (TExperiment.cs v9.1), .cells 101 (TCodes.cs v9.2)] ?_
              have hv31_ := cond_t hv31 (by simp only [c1] <;> rfl)
              refine AOps_callp (d := (some 74)) (al := [.ro .unk v27.length (TRange.cl v27), iA (w64 (1 + v5.1))]) (r := iA v31) (by kernel_rfl) (s_ref6_Split hv31_) ⟨(scl_TRange_cl _ _), trivial, trivial⟩ trivial ?_
              refine R 2 131 [(1, .ro .unk x1.length (TSpan.cl x1)), (3, iA x3), (4, iA x4), (12, iA (w64 (1 + v5.1))), (13, .ro .unk v6.1.length (TRange.cl v6.1)), (14, .ptr 1 0), (55, .ro .unk ([x0, v6.1, v9.1.gArms]).length (cl_l_TRange_cl ([x0, v6.1, v9.1.gArms]))), (56, iA (lI ([x0, v6.1, v9.1.gArms]))), (57, iA v25), (76, bA (false || (v30 != v31)))] [.cells 42 (TExperiment.cs v9.1), .cells 101 (TCodes.cs v9.2)] ?_
              exact AOps_here [1, 3, 4, 12, 13, 14, 55, 56, 57, 76] (by kernel_rfl) rfl
          refine AOps_done (CD H (fun hb32 H => ?_) (fun hb32 H => ?_))
          · refine AWP_reg (Rh 1 131 [(10, bA false)] (AOps_done ?_))
            exact AWP_ret (FR H)
          · refine AWP_skip ?_
            show AWP _ _ _ _ _ _ _
            refine AWP_region ?_
            refine Rh 2 131 [(1, .ro .unk x1.length (TSpan.cl x1)), (3, iA x3), (4, iA x4), (12, iA (w64 (1 + v5.1))), (13, .ro .unk v6.1.length (TRange.cl v6.1)), (14, .ptr 1 0), (55, .ro .unk ([x0, v6.1, v9.1.gArms]).length (cl_l_TRange_cl ([x0, v6.1, v9.1.gArms]))), (56, iA (lI ([x0, v6.1, v9.1.gArms]))), (57, iA (w64 (v25 + 1)))] (AOps_done ?_)
            exact Exists.intro (w64 (v25 + 1)) (Exists.intro n ⟨by omega, ⟨by omega, H⟩, Norm_fd [1, 3, 4, 12, 13, 14, 55, 56, 57] 0 (by kernel_rfl) rfl rfl ⟨(sc_TExperiment_cs _ _), ⟨(scl_cl_u8 _ _), trivial, trivial⟩, trivial⟩ (by refine scL_fr ?_; exact ⟨(scl_TSpan_cl _ _), trivial, trivial, trivial, (scl_TRange_cl _ _), (sc_ptr rfl), (scl_cl_l_TRange_cl _ _), trivial, trivial, trivial⟩)⟩)
        · refine AWP_exit ?_
          show AWP _ _ _ _ _ _ _
          refine AWP_seq (AWP_reg (Rh 3 131 [(4, iA x4), (12, iA (w64 (1 + v5.1))), (13, .ro .unk v6.1.length (TRange.cl v6.1)), (78, .ro .unk x1.length (TSpan.cl x1)), (80, .ro .unk v9.1.gClaims.length (TSpan.cl v9.1.gClaims))] (AOps_bsl (d := (some 81)) (m := 2) (cs := [.ro .unk x1.length (TSpan.cl x1), .ro .unk v9.1.gClaims.length (TSpan.cl v9.1.gClaims)]) (by kernel_rfl) ⟨(scl_TSpan_cl _ _), (scl_TSpan_cl _ _), trivial⟩ ?_)))
          refine Rh 2 131 [(4, iA x4), (12, iA (w64 (1 + v5.1))), (13, .ro .unk v6.1.length (TRange.cl v6.1)), (81, .ro .unk ([x1, v9.1.gClaims]).length (cl_l_TSpan_cl ([x1, v9.1.gClaims]))), (82, iA (lI ([x1, v9.1.gClaims]))), (83, iA 0)] (AOps_done (AWP_block ?_))
          refine AWP_loopN (α := Int) (fun v44 => fr 131 [(4, iA x4), (12, iA (w64 (1 + v5.1))), (13, .ro .unk v6.1.length (TRange.cl v6.1)), (81, .ro .unk ([x1, v9.1.gClaims]).length (cl_l_TSpan_cl ([x1, v9.1.gClaims]))), (82, iA (lI ([x1, v9.1.gClaims]))), (83, iA v44)]) (fun v44 => [.cells 42 (TExperiment.cs v9.1), .cells 101 (TCodes.cs v9.2)]) (fun k_ v44 => k_ ≤ n ∧ p_law6_ShapeSplits_L2 k_ x1 x4 v5 v6 v9 v44 = some r) (fun n v44 H => ?_) (k := n) 0 ⟨Nat.le_refl _, H⟩ (Norm_fd [4, 12, 13, 81, 82, 83] 0 (by kernel_rfl) rfl rfl ⟨(sc_TExperiment_cs _ _), ⟨(scl_cl_u8 _ _), trivial, trivial⟩, trivial⟩ (by refine scL_fr ?_; exact ⟨trivial, trivial, (scl_TRange_cl _ _), (scl_cl_l_TSpan_cl _ _), trivial, trivial, trivial⟩))
          show AWP _ _ _ _ _ (fr 131 [(4, iA x4), (12, iA (w64 (1 + v5.1))), (13, .ro .unk v6.1.length (TRange.cl v6.1)), (81, .ro .unk ([x1, v9.1.gClaims]).length (cl_l_TSpan_cl ([x1, v9.1.gClaims]))), (82, iA (lI ([x1, v9.1.gClaims]))), (83, iA v44)]) [.cells 42 (TExperiment.cs v9.1), .cells 101 (TCodes.cs v9.2)]
          obtain ⟨hb_, H⟩ := H
          replace H : p_law6_ShapeSplits_L2 n x1 x4 v5 v6 v9 v44 = some r := H
          cases n with
          | zero => exact not_none (by simpa only [p_law6_ShapeSplits_L2] using H)
          | succ n =>
            unfold p_law6_ShapeSplits_L2 at H
            refine AWP_reg (Rh 1 131 [(4, iA x4), (12, iA (w64 (1 + v5.1))), (13, .ro .unk v6.1.length (TRange.cl v6.1)), (81, .ro .unk ([x1, v9.1.gClaims]).length (cl_l_TSpan_cl ([x1, v9.1.gClaims]))), (82, iA (lI ([x1, v9.1.gClaims]))), (83, iA v44), (84, bA (decide (v44 < (lI ([x1, v9.1.gClaims])))))] (AOps_done (AWP_seq (CD H (fun hb45 H => ?_) (fun hb45 H => ?_)))))
            · refine AWP_skip ?_
              show AWP _ _ _ _ _ _ _
              refine AWP_seq (AWP_block ?_)
              refine AWP_reg ?_
              obtain ⟨v46, hv46, H⟩ := bind_some H
              refine AOps_index (d := (some 85)) (sz := 1) (c := cs_l_TSpan_cl) (by kernel_rfl) rfl (eq_cl_l_TSpan_cl _) (fun _ => rfl) (by decide) hv46 (fun tl46 => ?_)
              refine Rh 2 131 [(4, iA x4), (12, iA (w64 (1 + v5.1))), (13, .ro .unk v6.1.length (TRange.cl v6.1)), (18, .ro .unk v46.length (TSpan.cl v46)), (81, .ro .unk ([x1, v9.1.gClaims]).length (cl_l_TSpan_cl ([x1, v9.1.gClaims]))), (82, iA (lI ([x1, v9.1.gClaims]))), (83, iA v44)] (AOps_done (AWP_reg (Rh 1 131 [(4, iA x4), (12, iA (w64 (1 + v5.1))), (13, .ro .unk v6.1.length (TRange.cl v6.1)), (18, .ro .unk v46.length (TSpan.cl v46)), (81, .ro .unk ([x1, v9.1.gClaims]).length (cl_l_TSpan_cl ([x1, v9.1.gClaims]))), (82, iA (lI ([x1, v9.1.gClaims]))), (83, iA v44), (87, .ro .unk v46.length (TSpan.cl v46))] ?_)))
              obtain ⟨v47, hv47, H⟩ := bind_some H
              refine AOps_callp (d := (some 88)) (al := [.ro .unk v46.length (TSpan.cl v46)]) (r := iA v47) (by kernel_rfl) (s_shape_Spans hv47) ⟨(scl_TSpan_cl _ _), trivial⟩ trivial ?_
              refine Rh 1 131 [(4, iA x4), (12, iA (w64 (1 + v5.1))), (13, .ro .unk v6.1.length (TRange.cl v6.1)), (81, .ro .unk ([x1, v9.1.gClaims]).length (cl_l_TSpan_cl ([x1, v9.1.gClaims]))), (82, iA (lI ([x1, v9.1.gClaims]))), (83, iA v44), (88, iA v47), (89, .ro .unk v46.length (TSpan.cl v46))] ?_
              obtain ⟨v48, hv48, H⟩ := bind_some H
              refine AOps_callp (d := (some 90)) (al := [.ro .unk v46.length (TSpan.cl v46)]) (r := iA v48) (by kernel_rfl) (s_ref6_Spans hv48) ⟨(scl_TSpan_cl _ _), trivial⟩ trivial ?_
              refine Rh 1 131 [(4, iA x4), (12, iA (w64 (1 + v5.1))), (13, .ro .unk v6.1.length (TRange.cl v6.1)), (81, .ro .unk ([x1, v9.1.gClaims]).length (cl_l_TSpan_cl ([x1, v9.1.gClaims]))), (82, iA (lI ([x1, v9.1.gClaims]))), (83, iA v44), (91, bA (v47 != v48))] (AOps_done (CD H (fun hb49 H => ?_) (fun hb49 H => ?_)))
              · refine AWP_reg (Rh 1 131 [(10, bA false)] (AOps_done ?_))
                exact AWP_ret (FR H)
              · refine AWP_skip ?_
                show AWP _ _ _ _ _ _ _
                refine AWP_region ?_
                refine Rh 2 131 [(4, iA x4), (12, iA (w64 (1 + v5.1))), (13, .ro .unk v6.1.length (TRange.cl v6.1)), (81, .ro .unk ([x1, v9.1.gClaims]).length (cl_l_TSpan_cl ([x1, v9.1.gClaims]))), (82, iA (lI ([x1, v9.1.gClaims]))), (83, iA (w64 (v44 + 1)))] (AOps_done ?_)
                exact Exists.intro (w64 (v44 + 1)) (Exists.intro n ⟨by omega, ⟨by omega, H⟩, Norm_fd [4, 12, 13, 81, 82, 83] 0 (by kernel_rfl) rfl rfl ⟨(sc_TExperiment_cs _ _), ⟨(scl_cl_u8 _ _), trivial, trivial⟩, trivial⟩ (by refine scL_fr ?_; exact ⟨trivial, trivial, (scl_TRange_cl _ _), (scl_cl_l_TSpan_cl _ _), trivial, trivial, trivial⟩)⟩)
            · refine AWP_exit ?_
              show AWP _ _ _ _ _ _ _
              refine AWP_seq (AWP_reg (Rh 2 131 [(4, iA x4), (13, .ro .unk v6.1.length (TRange.cl v6.1)), (93, .ro .unk v6.1.length (TRange.cl v6.1)), (94, iA (w64 (1 + v5.1)))] ?_))
              obtain ⟨v50, hv50, H⟩ := bind_some H
              refine AOps_callp (d := (some 95)) (al := [.ro .unk v6.1.length (TRange.cl v6.1), iA (w64 (1 + v5.1))]) (r := iA v50) (by kernel_rfl) (s_shape_Split hv50) ⟨(scl_TRange_cl _ _), trivial, trivial⟩ trivial ?_
              refine Rh 1 131 [(4, iA x4), (13, .ro .unk v6.1.length (TRange.cl v6.1)), (96, bA (v50 != 0))] (AOps_done (CD H (fun hb51 H => ?_) (fun hb51 H => ?_)))
              · refine AWP_reg (Rh 1 131 [(10, bA false)] (AOps_done ?_))
                exact AWP_ret (FR H)
              · refine AWP_skip ?_
                show AWP _ _ _ _ _ _ _
                refine AWP_reg (Rh 1 131 [(13, .ro .unk v6.1.length (TRange.cl v6.1)), (97, iA x4)] ?_)
                obtain ⟨v52, hv52, H⟩ := bind_some H
                refine AOps_callp (d := (some 98)) (al := [iA x4, iA 10000]) (r := iA v52) (by kernel_rfl) (s_draw_Mod hv52) ⟨trivial, trivial, trivial⟩ trivial ?_
                refine Rh 2 131 [(13, .ro .unk v6.1.length (TRange.cl v6.1)), (19, iA v52), (20, iA 0)] (AOps_done (AWP_seq (AWP_reg (Rh 1 131 [(13, .ro .unk v6.1.length (TRange.cl v6.1)), (19, iA v52), (20, iA 0), (21, iA 0)] (AOps_done (AWP_block ?_))))))
                refine AWP_loopN (α := Int × Int) (fun ⟨v71, v72⟩ => fr 131 [(13, .ro .unk v6.1.length (TRange.cl v6.1)), (19, iA v52), (20, iA v71), (21, iA v72)]) (fun ⟨v71, v72⟩ => [.cells 42 (TExperiment.cs v9.1), .cells 101 (TCodes.cs v9.2)]) (fun k_ ⟨v71, v72⟩ => k_ ≤ n ∧ p_law6_ShapeSplits_L3 k_ v6 v52 v71 v72 = some r) (fun n a H => ?_) (k := n) (0, 0) ⟨Nat.le_refl _, H⟩ (Norm_fd [13, 19, 20, 21] 0 (by kernel_rfl) rfl rfl ⟨(sc_TExperiment_cs _ _), ⟨(scl_cl_u8 _ _), trivial, trivial⟩, trivial⟩ (by refine scL_fr ?_; exact ⟨(scl_TRange_cl _ _), trivial, trivial, trivial, trivial⟩))
                obtain ⟨v71, v72⟩ := a
                show AWP _ _ _ _ _ (fr 131 [(13, .ro .unk v6.1.length (TRange.cl v6.1)), (19, iA v52), (20, iA v71), (21, iA v72)]) [.cells 42 (TExperiment.cs v9.1), .cells 101 (TCodes.cs v9.2)]
                obtain ⟨hb_, H⟩ := H
                replace H : p_law6_ShapeSplits_L3 n v6 v52 v71 v72 = some r := H
                cases n with
                | zero => exact not_none (by simpa only [p_law6_ShapeSplits_L3] using H)
                | succ n =>
                  unfold p_law6_ShapeSplits_L3 at H
                  refine AWP_seq (AWP_reg (Rh 4 131 [(13, .ro .unk v6.1.length (TRange.cl v6.1)), (19, iA v52), (20, iA v71), (21, iA v72), (102, bA (decide (v72 < (lI v6.1))))] (AOps_done (CD H (fun hb73 H => ?_) (fun hb73 H => ?_)))))
                  · refine AWP_skip ?_
                    show AWP _ _ _ _ _ _ _
                    refine AWP_joinN (α := Int) (fun v77 => fr 131 [(13, .ro .unk v6.1.length (TRange.cl v6.1)), (19, iA v52), (20, iA v77), (21, iA v72)]) (fun v77 => [.cells 42 (TExperiment.cs v9.1), .cells 101 (TCodes.cs v9.2)]) (fun v77 => ∃ q, q ≤ n ∧ p_law6_ShapeSplits_K1 q v6 v52 v72 v77 = some r) (fun v77 hC => ?_) ?_
                    · show AWP _ _ _ _ _ (fr 131 [(13, .ro .unk v6.1.length (TRange.cl v6.1)), (19, iA v52), (20, iA v77), (21, iA v72)]) [.cells 42 (TExperiment.cs v9.1), .cells 101 (TCodes.cs v9.2)]
                      obtain ⟨n, hn_, hC⟩ := hC
                      replace H : p_law6_ShapeSplits_K1 n v6 v52 v72 v77 = some r := hC
                      cases n with
                      | zero => exact not_none (by simpa only [p_law6_ShapeSplits_K1] using H)
                      | succ n =>
                        unfold p_law6_ShapeSplits_K1 at H
                        refine AWP_region ?_
                        refine Rh 3 131 [(13, .ro .unk v6.1.length (TRange.cl v6.1)), (19, iA v52), (20, iA v77), (21, iA (w64 (v72 + 1)))] (AOps_done ?_)
                        exact Exists.intro (v77, w64 (v72 + 1)) (Exists.intro n ⟨by omega, ⟨by omega, H⟩, Norm_fd [13, 19, 20, 21] 0 (by kernel_rfl) rfl rfl ⟨(sc_TExperiment_cs _ _), ⟨(scl_cl_u8 _ _), trivial, trivial⟩, trivial⟩ (by refine scL_fr ?_; exact ⟨(scl_TRange_cl _ _), trivial, trivial, trivial, trivial⟩)⟩)
                    · refine AWP_block ?_
                      refine AWP_reg (Rh 2 131 [(13, .ro .unk v6.1.length (TRange.cl v6.1)), (19, iA v52), (20, iA v71), (21, iA v72), (105, .ro .unk v6.1.length (TRange.cl v6.1)), (106, iA v72)] ?_)
                      obtain ⟨v78, hv78, H⟩ := bind_some H
                      refine AOps_index (d := (some 107)) (sz := 3) (c := TRange.cs) (by kernel_rfl) rfl (eq_TRange_cl _) (fun _ => rfl) (by decide) hv78 (fun tl78 => ?_)
                      refine Rh 5 131 [(13, .ro .unk v6.1.length (TRange.cl v6.1)), (19, iA v52), (20, iA v71), (21, iA v72), (112, bA (decide (v78.gFrom ≤ v52)))] ?_
                      obtain ⟨v79, hv79, H⟩ := bind_some H
                      refine AOps_cut 8 (st' := fr 131 [(13, .ro .unk v6.1.length (TRange.cl v6.1)), (19, iA v52), (20, iA v71), (21, iA v72), (120, bA ((decide (v78.gFrom ≤ v52)) && (decide (v52 < v79.gTo))))]) (h' := [.cells 42 (TExperiment.cs v9.1), .cells 101 (TCodes.cs v9.2)]) ?_ ?_
                      rotate_left
                      · cases c1 : (decide (v78.gFrom ≤ v52) : Bool) with
                        | true =>
                          refine R 3 131 [(13, .ro .unk v6.1.length (TRange.cl v6.1)), (19, iA v52), (20, iA v71), (21, iA v72), (112, bA true), (113, iA v52), (114, .ro .unk v6.1.length (TRange.cl v6.1)), (115, iA v72)] [.cells 42 (TExperiment.cs v9.1), .cells 101 (TCodes.cs v9.2)] ?_
                          have hv79_ := cond_t hv79 (by simp only [c1] <;> rfl)
                          refine AOps_index (d := (some 116)) (sz := 3) (c := TRange.cs) (by kernel_rfl) rfl (eq_TRange_cl _) (fun _ => rfl) (by decide) hv79_ (fun tl79 => ?_)
                          refine R 4 131 [(13, .ro .unk v6.1.length (TRange.cl v6.1)), (19, iA v52), (20, iA v71), (21, iA v72), (120, bA (true && (decide (v52 < v79.gTo))))] [.cells 42 (TExperiment.cs v9.1), .cells 101 (TCodes.cs v9.2)] ?_
                          exact AOps_here [13, 19, 20, 21, 120] (by kernel_rfl) rfl
                        | false =>
                          refine R 8 131 [(13, .ro .unk v6.1.length (TRange.cl v6.1)), (19, iA v52), (20, iA v71), (21, iA v72), (120, bA (false && (decide (v52 < v79.gTo))))] [.cells 42 (TExperiment.cs v9.1), .cells 101 (TCodes.cs v9.2)] ?_
                          exact AOps_here [13, 19, 20, 21, 120] (by kernel_rfl) rfl
                      refine AOps_done (CD H (fun hb80 H => ?_) (fun hb80 H => ?_))
                      · refine AWP_region ?_
                        refine Rh 3 131 [(13, .ro .unk v6.1.length (TRange.cl v6.1)), (19, iA v52), (20, iA (w64 (v71 + 1))), (21, iA v72)] (AOps_done ?_)
                        exact Exists.intro (w64 (v71 + 1)) ⟨⟨n, by omega, H⟩, Norm_fd [13, 19, 20, 21] 0 (by kernel_rfl) rfl rfl ⟨(sc_TExperiment_cs _ _), ⟨(scl_cl_u8 _ _), trivial, trivial⟩, trivial⟩ (by refine scL_fr ?_; exact ⟨(scl_TRange_cl _ _), trivial, trivial, trivial, trivial⟩)⟩
                      · refine AWP_skip ?_
                        exact Exists.intro v71 ⟨⟨n, by omega, H⟩, Norm_fd [13, 19, 20, 21] 0 (by kernel_rfl) rfl rfl ⟨(sc_TExperiment_cs _ _), ⟨(scl_cl_u8 _ _), trivial, trivial⟩, trivial⟩ (by refine scL_fr ?_; exact ⟨(scl_TRange_cl _ _), trivial, trivial, trivial, trivial⟩)⟩
                  · refine AWP_exit ?_
                    show AWP _ _ _ _ _ _ _
                    refine AWP_reg (Rh 3 131 [(13, .ro .unk v6.1.length (TRange.cl v6.1)), (19, iA v52), (125, bA (v71 == 1))] ?_)
                    obtain ⟨v81, hv81, H⟩ := bind_some H
                    refine AOps_cut 5 (st' := fr 131 [(130, bA ((v71 == 1) && (decide (v81 ≥ 1))))]) (h' := [.cells 42 (TExperiment.cs v9.1), .cells 101 (TCodes.cs v9.2)]) ?_ ?_
                    rotate_left
                    · cases c1 : (v71 == 1 : Bool) with
                      | true =>
                        refine R 2 131 [(125, bA true), (126, .ro .unk v6.1.length (TRange.cl v6.1)), (127, iA v52)] [.cells 42 (TExperiment.cs v9.1), .cells 101 (TCodes.cs v9.2)] ?_
                        have hv81_ := cond_t hv81 (by simp only [c1] <;> rfl)
                        refine AOps_callp (d := (some 128)) (al := [.ro .unk v6.1.length (TRange.cl v6.1), iA v52]) (r := iA v81) (by kernel_rfl) (s_ref13_Pick hv81_) ⟨(scl_TRange_cl _ _), trivial, trivial⟩ trivial ?_
                        refine R 2 131 [(130, bA (true && (decide (v81 ≥ 1))))] [.cells 42 (TExperiment.cs v9.1), .cells 101 (TCodes.cs v9.2)] ?_
                        exact AOps_here [130] (by kernel_rfl) rfl
                      | false =>
                        refine R 5 131 [(130, bA (false && (decide (v81 ≥ 1))))] [.cells 42 (TExperiment.cs v9.1), .cells 101 (TCodes.cs v9.2)] ?_
                        exact AOps_here [130] (by kernel_rfl) rfl
                    refine Rh 1 131 [(10, bA ((v71 == 1) && (decide (v81 ≥ 1))))] (AOps_done ?_)
                    exact AWP_ret (FR H)
end Go.Proofs.YtjhbobacbaikoaaGreatDoor
/- The law on splits and spans: it gives true. -/
namespace Go.Proofs.YtjhbobacbaikoaaGreatDoor
open Go
set_option linter.unusedVariables false
set_option linter.unusedSimpArgs false
set_option maxRecDepth 100000
theorem found_al (v6 : (List TRange) × TCodes) (b : Int) (hb : b < 10000) (hl : v6.1.length ≤ 100) {p : Int} (hp : 1 ≤ p) (hpick : Al fun n => p_ref13_Pick n v6.1 b = some p) :
    ∀ (rest : List TRange) (i : Nat) (f : Int), v6.1.drop i = rest → i ≤ v6.1.length → 0 ≤ f → f ≤ i → f + hits b rest = 1 → Al fun n => p_law6_ShapeSplits_L3 n v6 b f i = some true := by
  intro rest
  induction rest with
  | nil =>
    intro i f hd hi h0 h1 hf
    obtain rfl := drop_nil hd hi
    rw [hits] at hf
    obtain rfl : f = 1 := by omega
    refine Al.succ (hpick.mono fun n a => ?_)
    rw [p_law6_ShapeSplits_L3, lI_out]
    simp only [cond_false, BEq.rfl, cond_true, a, Option.bind_some, decide_eq_true (show p ≥ 1 by omega), Bool.and_self]
  | cons r rs ih =>
    intro i f hd hi h0 h1 hf
    obtain ⟨hi, e1, e2⟩ := drop_cons hd
    rw [hits] at hf
    have step : ∀ g : Int, 0 ≤ g → g ≤ ((i + 1 : Nat) : Int) → g + hits b rs = 1 → Al fun n => p_law6_ShapeSplits_K1 n v6 b i g = some true := by
      intro g g0 g1 g2
      refine Al.succ ((ih (i + 1) g e2 (by omega) g0 g1 g2).mono fun n a => ?_)
      rw [p_law6_ShapeSplits_K1, w64_add (by omega)]
      exact a
    by_cases c1 : r.gFrom ≤ b
    · by_cases c2 : b < r.gTo
      · rw [if_pos ⟨c1, c2⟩] at hf
        refine Al.succ ((step (f + 1) (by omega) (by omega) (by omega)).mono fun n a => ?_)
        rw [p_law6_ShapeSplits_L3, lI_in hi]
        simp only [cond_true, rdO_nat hi, Option.bind_some, e1, decide_eq_true c1, decide_eq_true c2, Bool.and_self, w64_of (show -9223372036854775808 ≤ f + 1 by omega) (by omega)]
        exact a
      · rw [if_neg (fun h => c2 h.2)] at hf
        refine Al.succ ((step f (by omega) (by omega) (by omega)).mono fun n a => ?_)
        rw [p_law6_ShapeSplits_L3, lI_in hi]
        simp only [cond_true, rdO_nat hi, Option.bind_some, e1, decide_eq_true c1, decide_eq_false c2, Bool.and_false, cond_false]
        exact a
    · rw [if_neg (fun h => c1 h.1)] at hf
      refine Al.succ ((step f (by omega) (by omega) (by omega)).mono fun n a => ?_)
      rw [p_law6_ShapeSplits_L3, lI_in hi]
      simp only [cond_true, rdO_nat hi, Option.bind_some, e1, decide_eq_false c1, Bool.false_and, cond_false]
      exact a
theorem splits_law (x0 : List TRange) (x1 : List TSpan) (codes : List Int) (m bucket : Int) (hc : ∀ b ∈ codes, 0 ≤ b ∧ b ≤ 255) (hl : codes.length < 4294967281) : Al fun n => p_law6_ShapeSplits n x0 x1 codes m bucket = some true := by
  have key : Gv (fun n => p_law6_ShapeSplits n x0 x1 codes m bucket) fun r => r = true := by
    unfold p_law6_ShapeSplits
    refine Gv.bind (Gv.al (Q := fun r => r = true) awake_al rfl) ?_
    rintro r rfl
    simp only [Bool.not_true, cond_false]
    refine Gv.cond (fun _ => Gv.pure rfl) fun _ => ?_
    refine Gv.bind (new_gv codes hc hl 60 (by decide) (by decide)) fun c hc => ?_
    refine Gv.bind (next_gv hc (k := 8) (by decide) (by decide)) fun v5 h5 => ?_
    have hk : w64 (1 + v5.1) = 1 + v5.1 := w64_of (by omega) (by omega)
    rw [hk]
    refine Gv.bind (split_gv (k := 1 + v5.1) (by omega) (by omega) h5.2.2) fun v6 h6 => ?_
    obtain ⟨⟨w, hch⟩, hlen, hc6⟩ := h6
    refine Gv.bind (wide_gv hc6 (k := 4000) (by decide) (by decide)) fun v7 h7 => ?_
    refine Gv.bind (wide_gv h7.2.2 (k := 3000) (by decide) (by decide)) fun v8 h8 => ?_
    refine Gv.bind (exp_gv (B := 20) (by decide) (by decide) ⟨(by show 0 ≤ 100; decide), (by show 0 ≤ 100; decide), (by show 0 ≤ 100; decide), (by show 0 ≤ 100; decide), (by show 1 ≤ 20; decide), (by show v6.1.length ≤ 20; omega),
      TExpr.bd_iff.2 ⟨(by show 0 ≤ 100; decide), (by show 0 ≤ 100; decide), (by show 0 ≤ 20; decide), fun v hv => (by cases hv), (by show 0 ≤ 20; decide), fun v hv => (by cases hv)⟩⟩ h8.2.2) fun v9 h9 => ?_
    have hok := split_ok (k := 1 + v5.1) (by omega) hch
    have L2 : Gv (fun n => p_law6_ShapeSplits_L2 n x1 bucket v5 v6 v9 ((0 : Nat) : Int)) fun r => r = true := by
      have fin : Gv (fun n => (p_shape_Split n v6.1 (w64 (1 + v5.1))).bind fun v50 => bif v50 != 0 then some false else (p_draw_Mod n bucket 10000).bind fun v52 => p_law6_ShapeSplits_L3 n v6 v52 0 0) fun r => r = true := by
        rw [hk]
        refine Gv.bind (Gv.al (Q := fun r => r = 0) hok rfl) ?_
        rintro r rfl
        simp only [bne_self_eq_false, cond_false]
        refine Gv.bind (mod_gv bucket (k := 10000) (by decide) (by decide)) fun b hb => ?_
        obtain ⟨p, hp, hpick⟩ := pick_chain (b := b) v6.1 hb.2 (by omega) v6.1 0 0 0 rfl (by omega) hch hb.1
        have hpick' : Al fun n => p_ref13_Pick n v6.1 b = some p := hpick
        have := found_al v6 b hb.2 (by omega) hp hpick' v6.1 0 0 rfl (by omega) (by omega) (by omega) (by rw [hits_chain hch hb.2, if_pos hb.1]; rfl)
        exact Gv.al this rfl
      obtain ⟨r, rfl, fin⟩ := fin
      have : Al fun n => p_law6_ShapeSplits_L2 n x1 bucket v5 v6 v9 ((0 : Nat) : Int) = some true := by
        refine loop1 (fun n i => p_law6_ShapeSplits_L2 n x1 bucket v5 v6 v9 i) 2 (fun _ => true) (fun i hi => ?_) ?_ 0 (by omega)
        · have hil : i < [x1, v9.1.gClaims].length := hi
          obtain ⟨v, hv⟩ := spans_bi [x1, v9.1.gClaims][i]
          refine hv.mono fun n ⟨a1, a2⟩ => .inr ⟨?_, rfl⟩
          rw [p_law6_ShapeSplits_L2, lI_in hil]
          simp only [cond_true, rdO_nat hil, Option.bind_some, a1, a2, bne_self_eq_false, cond_false, w64_add (show i + 1 < 9223372036854775808 by omega)]
        · refine fin.mono fun n a => ?_
          have h3 : decide (((2 : Nat) : Int) < lI [x1, v9.1.gClaims]) = false := rfl
          rw [p_law6_ShapeSplits_L2, h3]
          exact a
      exact Gv.al this rfl
    obtain ⟨r, rfl, L2⟩ := L2
    have L1 : Al fun n => p_law6_ShapeSplits_L1 n x0 x1 m bucket v5 v6 v9 ((0 : Nat) : Int) = some true := by
      refine loop1 (fun n i => p_law6_ShapeSplits_L1 n x0 x1 m bucket v5 v6 v9 i) 3 (fun _ => true) (fun i hi => ?_) ?_ 0 (by omega)
      · have hil : i < [x0, v6.1, v9.1.gArms].length := hi
        obtain ⟨v, hv⟩ := split_bi [x0, v6.1, v9.1.gArms][i] m
        obtain ⟨u, hu⟩ := split_bi [x0, v6.1, v9.1.gArms][i] (1 + v5.1)
        refine (hv.and hu).mono fun n ⟨⟨a1, a2⟩, a3, a4⟩ => .inr ⟨?_, rfl⟩
        rw [p_law6_ShapeSplits_L1, lI_in hil]
        simp only [cond_true, rdO_nat hil, Option.bind_some, a1, a2, hk, a3, a4, bne_self_eq_false, Bool.not_false, Bool.or_self, cond_false, w64_add (show i + 1 < 9223372036854775808 by omega)]
      · refine L2.mono fun n a => ?_
        have h3 : decide (((3 : Nat) : Int) < lI [x0, v6.1, v9.1.gArms]) = false := rfl
        rw [p_law6_ShapeSplits_L1, h3]
        exact a
    exact Gv.al L1 rfl
  obtain ⟨r, rfl, h⟩ := key
  exact h
end Go.Proofs.YtjhbobacbaikoaaGreatDoor
/- Flagstone's law ShapeSplits holds for every input of bulk at most 1048576: the call returns true, and its arguments read behind it as before. The condition: the listed package variables hold what their initialisers lay. -/
namespace Go.Proofs.YtjhbobacbaikoaaGreatDoor
open Go Go.ChangeShapes Go.WideShapes Go.RowKit
set_option linter.unusedVariables false
set_option maxRecDepth 100000
theorem ownNone : ownKnob Tryz.prog.godebug = none := by kernel_rfl
theorem laidOutT : laidOutB Tryz.prog = true := by kernel_rfl
theorem shapeSplits_contract (H : Type) (enc : TypeId × Value → H) (W : World) (base : Nat) (args : Array Value) (ds gs : List (DataW H)) (before : List MemPlace)
    (hval : ∀ (j : Nat) t v, Tryz.f4.params[j]? = some t → args[j]? = some v → Value.okWide Tryz.prog W .any base t v)
    (hW : DataW.Whole enc Tryz.prog Tryz.f4.params.toList Rows.shapeSplitsSpec.vars false W args.toList ds gs before) (hfit : ∀ d ∈ ds, fitU d) (hL : laidMetH Tryz.prog Rows.shapeSplitsUptoRow.laid W) :
    Calls Tryz.prog 4 args W fun e W' => ∃ v, e = .returned v ∧ Rows.shapeSplitsSpec.post enc Tryz.prog Tryz.f4 false true false false W args v W' := by
  have hW' := hW
  obtain ⟨p, q, hA, hV, rfl, hfz, hnd⟩ := hW
  obtain ⟨rfl, rfl⟩ := trodVars_none hV
  have hA0 : DataW.TrodAll enc Tryz.prog W 0 (fun _ => true) true [37, 38, 26, 3, 3] args.toList ds p := hA
  obtain ⟨v0, w0, d0, e0, p0, q0, a0_, rfl, pp0, ⟨n0, h0⟩, r0_⟩ := trodAll_cons hA0
  obtain ⟨v1, w1, d1, e1, p1, q1, a1_, rfl, pp1, ⟨n1, h1⟩, r1_⟩ := trodAll_cons r0_
  obtain ⟨v2, w2, d2, e2, p2, q2, a2_, rfl, pp2, ⟨n2, h2⟩, r2_⟩ := trodAll_cons r1_
  obtain ⟨v3, w3, d3, e3, p3, q3, a3_, rfl, pp3, ⟨n3, h3⟩, r3_⟩ := trodAll_cons r2_
  obtain ⟨v4, w4, d4, e4, p4, q4, a4_, rfl, pp4, ⟨n4, h4⟩, r4_⟩ := trodAll_cons r3_
  obtain ⟨b0_, rfl, _⟩ := trodAll_nil r4_
  obtain rfl : args = #[v0, v1, v2, v3, v4] := by
    cases args; simp_all
  obtain ⟨x0, r0, o0⟩ := (Rd_slice (sz := 3) eq_TRange_cl fitU_ok Tryz.underlying37 (by kernel_rfl) (by decide) (fun _ => rfl) (fun m _ => (rd_TRange fitU_ok _))) _ _ h0 (hfit _ (by simp))
  obtain ⟨x1, r1, o1⟩ := (Rd_slice (sz := 2) eq_TSpan_cl fitU_ok Tryz.underlying38 (by kernel_rfl) (by decide) (fun _ => rfl) (fun m _ => (rd_TSpan fitU_ok _))) _ _ h1 (hfit _ (by simp))
  obtain ⟨x2, r2, o2⟩ := (Rd_slice (sz := 1) eq_cl_u8 fitU_ok Tryz.underlying26 (by kernel_rfl) (by decide) (fun _ => rfl) (fun m _ => (Rd_u8 Tryz.underlying5))) _ _ h2 (hfit _ (by simp))
  obtain ⟨x3, r3, o3⟩ := (Rd_intR Tryz.underlying3) _ _ h3 (hfit _ (by simp))
  obtain ⟨x4, r4, o4⟩ := (Rd_intR Tryz.underlying3) _ _ h4 (hfit _ (by simp))
  have hB : 1048576 < 4294967281 := by decide
  obtain ⟨n, law⟩ := Al.get (splits_law x0 x1 x2 x3 x4 o2.2 (by have := o2.1; omega))
  obtain ⟨E, hE, hG⟩ := laid_envD (i0 := 5) (i1 := 6) (i2 := 4) (i3 := 10) (i4 := 11) (i5 := 3) (i8 := 8) (i9 := 7) (i10 := 2) hL (by kernel_rfl) rfl rfl rfl rfl rfl rfl rfl rfl rfl
  have a0 := slice_rel Tryz.underlying37 (hval 0 37 v0 rfl rfl) r0
  have a1 := slice_rel Tryz.underlying38 (hval 1 38 v1 rfl rfl) r1
  have a2 := slice_rel Tryz.underlying26 (hval 2 26 v2 rfl rfl) r2
  have a3 := int_rel Tryz.underlying3 (hval 3 3 v3 rfl rfl) r3
  have a4 := int_rel Tryz.underlying3 (hval 4 3 v4 rfl rfl) r4
  refine (s_law6_ShapeSplits hG law _ W #[v0, v1, v2, v3, v4] hE (ok0 W) ⟨_, _, rfl, a0, ⟨_, _, rfl, a1, ⟨_, _, rfl, a2, ⟨_, _, rfl, a3, ⟨_, _, rfl, a4, rfl⟩⟩⟩⟩⟩).mono fun e W' h => ?_
  obtain ⟨r, h', μ', u, rfl, ⟨rfl, rfl⟩, _, hu, tt⟩ := h
  have hu : u = .bool true := hu
  subst hu
  have bel := to_below tt
  simp only [List.append_nil] at hW'
  have hlt : ∀ x ∈ p, x.block < W.heap.size := fun x hx => by simpa using hW'.lt x hx
  exact ⟨_, rfl, ⟨_, _, _, [], p, [], hW', trodAll_mk1 (shut_bool Tryz.underlying4 _), trodAll_stays laidOutT bel (by kernel_rfl) hA hlt (fun x hx => decide_eq_true (hlt x hx)), rfl, bel.frame _, fun h => by cases h⟩⟩
end Go.Proofs.YtjhbobacbaikoaaGreatDoor
