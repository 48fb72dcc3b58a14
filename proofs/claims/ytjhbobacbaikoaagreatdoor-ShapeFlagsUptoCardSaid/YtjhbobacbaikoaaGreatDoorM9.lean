/- Functions of the program as pure functions, and that the program computes these. -/
import Derived.Test.YtjhbobacbaikoaaGreatDoorM3
import Derived.Test.YtjhbobacbaikoaaGreatDoorM4
import Derived.Test.YtjhbobacbaikoaaGreatDoorM5
import Derived.Test.YtjhbobacbaikoaaGreatDoorM6
import Derived.Test.YtjhbobacbaikoaaGreatDoorM8
import Derived.Test.YtjhbobacbaikoaaGreatDoorM7
namespace Go.Proofs.YtjhbobacbaikoaaGreatDoor
open Go
set_option linter.unusedVariables false
set_option linter.unusedSimpArgs false
set_option maxRecDepth 100000
def p_shape_Spans_L1 (n : Nat) (x0 : List TSpan) (v14 : Int) : Option Int := match n with
| 0 => none
| n + 1 =>
(bif decide (v14 < (lI x0)) then
(rdO x0 v14).bind fun v16 =>
(p_shape_inside n v16.gFrom v16.gTo).bind fun v17 =>
(bif !v17 then
 some (3)
 else
(bif decide (v14 > 0) then rdO x0 (w64 (v14 - 1)) else some ({ gFrom := 0, gTo := 0 } : TSpan)).bind fun v19 =>
(bif (decide (v14 > 0)) && (decide (v16.gFrom ≤ v19.gTo)) then
 some (9)
 else
 p_shape_Spans_L1 n x0 (w64 (v14 + 1))))
 else
 some (0))
def p_shape_Spans (n : Nat) (x0 : List TSpan) : Option Int :=
(bif decide ((lI x0) > 16) then
 some (5)
 else
 p_shape_Spans_L1 n x0 0)
def p_shape_Experiment (n : Nat) (x0 : TExperiment) : Option Int :=
(p_text_Key n x0.gKey).bind fun v1 =>
(bif !(!v1) then p_text_Key n x0.gLayer else some (false)).bind fun v2 =>
(bif !((!v1) || (!v2)) then p_text_Key n x0.gFlag else some (false)).bind fun v3 =>
(p_shape_when n (((!v1) || (!v2)) || (!v3)) 6).bind fun v4 =>
(p_text_Valid n x0.gSalt).bind fun v5 =>
(p_shape_when n (!v5) 2).bind fun v6 =>
(p_shape_when n ((decide (x0.gStatus < 1)) || (decide (x0.gStatus > 3))) 7).bind fun v7 =>
(p_shape_Spans n x0.gClaims).bind fun v8 =>
(p_shape_Split n x0.gArms 8).bind fun v9 =>
(p_shape_Expr n x0.gWhen).bind fun v10 =>
(p_shape_first n ([v4, v6, v7, v8, v9, v10])).bind fun v11 =>
 some (v11)
def p_ref6_Spans_L1 (n : Nat) (x0 : List TSpan) (v20 : Int) : Option Int := match n with
| 0 => none
| n + 1 =>
(bif decide (v20 < (lI x0)) then
(rdO x0 v20).bind fun v22 =>
(bif !(decide (v22.gFrom < 0)) then rdO x0 v20 else some ({ gFrom := 0, gTo := 0 } : TSpan)).bind fun v23 =>
(bif !(decide (v22.gFrom < 0)) then rdO x0 v20 else some ({ gFrom := 0, gTo := 0 } : TSpan)).bind fun v24 =>
(bif !((decide (v22.gFrom < 0)) || (decide (v23.gFrom ≥ v24.gTo))) then rdO x0 v20 else some ({ gFrom := 0, gTo := 0 } : TSpan)).bind fun v25 =>
(bif ((decide (v22.gFrom < 0)) || (decide (v23.gFrom ≥ v24.gTo))) || (decide (v25.gTo > 10000)) then
 some (3)
 else
(bif decide (v20 > 0) then rdO x0 v20 else some ({ gFrom := 0, gTo := 0 } : TSpan)).bind fun v27 =>
(bif decide (v20 > 0) then rdO x0 (w64 (v20 - 1)) else some ({ gFrom := 0, gTo := 0 } : TSpan)).bind fun v28 =>
(bif (decide (v20 > 0)) && (decide (v27.gFrom ≤ v28.gTo)) then
 some (9)
 else
 p_ref6_Spans_L1 n x0 (w64 (v20 + 1))))
 else
 some (0))
def p_ref6_Spans (n : Nat) (x0 : List TSpan) : Option Int :=
(bif decide ((lI x0) > 16) then
 some (5)
 else
 p_ref6_Spans_L1 n x0 0)
variable {E : Env}
theorem s_shape_Spans {n : Nat} {x0 : List TSpan} {r : Int} (H : p_shape_Spans n x0 = some r) :
    Sp Tryz.prog E 25 [.ro .unk x0.length (TSpan.cl x0)] [] (isA (iA r) []) := by
  unfold p_shape_Spans at H
  refine Sp_fn Tryz.func25 rfl (fun hc hs => ?_)
  refine AWP_reg (Rh 1 35 [(0, .ro .unk x0.length (TSpan.cl x0))] (AOps_done (AWP_seq (AWP_reg (Rh 3 35 [(0, .ro .unk x0.length (TSpan.cl x0)), (7, bA (decide ((lI x0) > 16)))] (AOps_done (CD H (fun hb1 H => ?_) (fun hb1 H => ?_))))))))
  · refine AWP_reg (Rh 1 35 [(2, iA 5)] (AOps_done ?_))
    exact AWP_ret (FR H)
  · refine AWP_skip ?_
    show AWP _ _ _ _ _ _ _
    refine AWP_seq (AWP_reg (Rh 3 35 [(0, .ro .unk x0.length (TSpan.cl x0)), (8, .ro .unk x0.length (TSpan.cl x0)), (9, iA (lI x0)), (10, iA 0)] (AOps_done (AWP_block ?_))))
    refine AWP_loopN (α := Int) (fun v14 => fr 35 [(0, .ro .unk x0.length (TSpan.cl x0)), (8, .ro .unk x0.length (TSpan.cl x0)), (9, iA (lI x0)), (10, iA v14)]) (fun v14 => []) (fun k_ v14 => k_ ≤ n ∧ p_shape_Spans_L1 k_ x0 v14 = some r) (fun n v14 H => ?_) (k := n) 0 ⟨Nat.le_refl _, H⟩ (Norm_fd [0, 8, 9, 10] 0 (by kernel_rfl) rfl rfl trivial (by refine scL_fr ?_; exact ⟨(scl_TSpan_cl _ _), (scl_TSpan_cl _ _), trivial, trivial, trivial⟩))
    show AWP _ _ _ _ _ (fr 35 [(0, .ro .unk x0.length (TSpan.cl x0)), (8, .ro .unk x0.length (TSpan.cl x0)), (9, iA (lI x0)), (10, iA v14)]) []
    obtain ⟨hb_, H⟩ := H
    replace H : p_shape_Spans_L1 n x0 v14 = some r := H
    cases n with
    | zero => exact not_none (by simpa only [p_shape_Spans_L1] using H)
    | succ n =>
      unfold p_shape_Spans_L1 at H
      refine AWP_reg (Rh 1 35 [(0, .ro .unk x0.length (TSpan.cl x0)), (8, .ro .unk x0.length (TSpan.cl x0)), (9, iA (lI x0)), (10, iA v14), (11, bA (decide (v14 < (lI x0))))] (AOps_done (AWP_seq (CD H (fun hb15 H => ?_) (fun hb15 H => ?_)))))
      · refine AWP_skip ?_
        show AWP _ _ _ _ _ _ _
        refine AWP_seq (AWP_block ?_)
        refine AWP_reg (Rh 1 35 [(0, .ro .unk x0.length (TSpan.cl x0)), (8, .ro .unk x0.length (TSpan.cl x0)), (9, iA (lI x0)), (10, iA v14), (12, iA v14)] ?_)
        obtain ⟨v16, hv16, H⟩ := bind_some H
        refine AOps_index (d := (some 13)) (sz := 2) (c := TSpan.cs) (by kernel_rfl) rfl (eq_TSpan_cl _) (fun _ => rfl) (by decide) hv16 (fun tl16 => ?_)
        refine R 4 35 [(0, .ro .unk x0.length (TSpan.cl x0)), (3, iA v14), (4, .ptr 0 0), (8, .ro .unk x0.length (TSpan.cl x0)), (9, iA (lI x0)), (10, iA v14)] [.cells 45 (TSpan.cs v16)] (AOps_done (AWP_seq (AWP_reg (Rh 4 35 [(0, .ro .unk x0.length (TSpan.cl x0)), (3, iA v14), (4, .ptr 0 0), (8, .ro .unk x0.length (TSpan.cl x0)), (9, iA (lI x0)), (10, iA v14), (16, iA v16.gFrom), (18, iA v16.gTo)] ?_))))
        obtain ⟨v17, hv17, H⟩ := bind_some H
        refine AOps_callp (d := (some 19)) (al := [iA v16.gFrom, iA v16.gTo]) (r := bA v17) (by kernel_rfl) (s_shape_inside hv17) ⟨trivial, trivial, trivial⟩ trivial ?_
        refine Rh 1 35 [(0, .ro .unk x0.length (TSpan.cl x0)), (3, iA v14), (4, .ptr 0 0), (8, .ro .unk x0.length (TSpan.cl x0)), (9, iA (lI x0)), (10, iA v14), (20, bA (!v17))] (AOps_done (CD H (fun hb18 H => ?_) (fun hb18 H => ?_)))
        · refine AWP_reg (Rh 1 35 [(2, iA 3)] (AOps_done ?_))
          exact AWP_ret (FR H)
        · refine AWP_skip ?_
          show AWP _ _ _ _ _ _ _
          obtain ⟨v19, hv19, H⟩ := bind_some H
          refine AWP_regD1 [0, 1, 2, 3, 4, 5, 6, 7, 8, 9, 10, 11, 12] (N := 35) (f := [(0, .ro .unk x0.length (TSpan.cl x0)), (3, iA v14), (4, .ptr 0 0), (8, .ro .unk x0.length (TSpan.cl x0)), (9, iA (lI x0)), (10, iA v14)]) (leL_of [0, 3, 4, 8, 9, 10] (by kernel_rfl)) mixed (by kernel_rfl) (by kernel_rfl) (st' := fr 35 [(0, .ro .unk x0.length (TSpan.cl x0)), (8, .ro .unk x0.length (TSpan.cl x0)), (9, iA (lI x0)), (10, iA v14), (33, bA ((decide (v14 > 0)) && (decide (v16.gFrom ≤ v19.gTo))))]) (h' := [.cells 45 (TSpan.cs v16)]) ?_ ?_
          rotate_left
          · refine RD 3 35 [] [(0, .ro .unk x0.length (TSpan.cl x0)), (3, iA v14), (4, .ptr 0 0), (8, .ro .unk x0.length (TSpan.cl x0)), (9, iA (lI x0)), (10, iA v14), (21, iA v14), (22, bA (decide (v14 > 0))), (23, bA (decide (v14 > 0)))] ?_
            cases c1 : (decide (v14 > 0) : Bool) with
            | true =>
              refine RD 5 35 [(4, 0), (3, 0)] [(0, .ro .unk x0.length (TSpan.cl x0)), (3, iA v14), (4, .ptr 0 0), (8, .ro .unk x0.length (TSpan.cl x0)), (9, iA (lI x0)), (10, iA v14), (21, iA v14), (22, bA true), (23, bA true), (24, .ptr 0 0), (25, iA v16.gFrom), (26, .ro .unk x0.length (TSpan.cl x0)), (27, iA v14), (28, iA (w64 (v14 - 1)))] ?_
              have hv19_ := cond_t hv19 (by simp only [c1] <;> rfl)
              refine AD_index (d := (some 29)) (sz := 2) (c := TSpan.cs) (by kernel_rfl) rfl (eq_TSpan_cl _) (fun _ => rfl) (by decide) hv19_ (fun tl19 => ?_)
              refine RD 4 35 [(4, 0), (3, 0)] [(0, .ro .unk x0.length (TSpan.cl x0)), (3, iA v14), (4, .ptr 0 0), (8, .ro .unk x0.length (TSpan.cl x0)), (9, iA (lI x0)), (10, iA v14), (21, iA v14), (22, bA true), (23, bA true), (24, .ptr 0 0), (25, iA v16.gFrom), (26, .ro .unk x0.length (TSpan.cl x0)), (27, iA v14), (28, iA (w64 (v14 - 1))), (29, .rop ([iA v19.gFrom, iA v19.gTo] ++ tl19)), (30, .rop ([iA v19.gTo] ++ tl19)), (31, iA v19.gTo), (32, bA (decide (v16.gFrom ≤ v19.gTo))), (33, bA (true && (decide (v16.gFrom ≤ v19.gTo))))] ?_
              exact AD_here [0, 8, 9, 10, 33] (by kernel_rfl) rfl
            | false =>
              refine RD 10 35 [] [(0, .ro .unk x0.length (TSpan.cl x0)), (3, iA v14), (4, .ptr 0 0), (8, .ro .unk x0.length (TSpan.cl x0)), (9, iA (lI x0)), (10, iA v14), (21, iA v14), (22, bA false), (23, bA false), (24, undefA), (25, undefA), (26, undefA), (27, undefA), (28, undefA), (29, undefA), (30, undefA), (31, undefA), (32, undefA), (33, bA (false && (decide (v16.gFrom ≤ v19.gTo))))] ?_
              exact AD_here [0, 8, 9, 10, 33] (by kernel_rfl) rfl
          refine CD H (fun hb20 H => ?_) (fun hb20 H => ?_)
          · refine AWP_reg (Rh 1 35 [(2, iA 9)] (AOps_done ?_))
            exact AWP_ret (FR H)
          · refine AWP_skip ?_
            show AWP _ _ _ _ _ _ _
            refine AWP_region ?_
            refine Rh 2 35 [(0, .ro .unk x0.length (TSpan.cl x0)), (8, .ro .unk x0.length (TSpan.cl x0)), (9, iA (lI x0)), (10, iA (w64 (v14 + 1)))] (AOps_done ?_)
            exact Exists.intro (w64 (v14 + 1)) (Exists.intro n ⟨by omega, ⟨by omega, H⟩, Norm_fd [0, 8, 9, 10] 1 (by kernel_rfl) rfl rfl trivial (by refine scL_fr ?_; exact ⟨(scl_TSpan_cl _ _), (scl_TSpan_cl _ _), trivial, trivial, trivial⟩)⟩)
      · refine AWP_exit ?_
        show AWP _ _ _ _ _ _ _
        refine AWP_reg (Rh 1 35 [(2, iA 0)] (AOps_done ?_))
        exact AWP_ret (FR H)
theorem s_shape_Experiment {n : Nat} (hG : GlobT E) {x0 : TExperiment} {r : Int} (H : p_shape_Experiment n x0 = some r) :
    Sp Tryz.prog E 40 [.agg (TExperiment.cs x0)] [] (isA (iA r) []) := by
  unfold p_shape_Experiment at H
  refine Sp_fn Tryz.func40 rfl (fun hc hs => ?_)
  refine AWP_reg (R 2 45 [(1, .ptr 0 0)] [.cells 42 (TExperiment.cs x0)] (AOps_done ?_))
  obtain ⟨v1, hv1, H⟩ := bind_some H
  obtain ⟨v2, hv2, H⟩ := bind_some H
  obtain ⟨v3, hv3, H⟩ := bind_some H
  obtain ⟨v4, hv4, H⟩ := bind_some H
  obtain ⟨v5, hv5, H⟩ := bind_some H
  obtain ⟨v6, hv6, H⟩ := bind_some H
  obtain ⟨v7, hv7, H⟩ := bind_some H
  obtain ⟨v8, hv8, H⟩ := bind_some H
  obtain ⟨v9, hv9, H⟩ := bind_some H
  obtain ⟨v10, hv10, H⟩ := bind_some H
  obtain ⟨v11, hv11, H⟩ := bind_some H
  refine AWP_regD1 [0, 1, 17, 18, 22, 23, 24, 31, 32, 34, 35, 37, 38, 2, 3, 4, 5, 6, 7, 8, 9, 10, 11, 12, 13, 14, 15, 16, 19, 20, 21, 25, 26, 27, 28, 29, 30, 33, 36, 39, 40, 41, 42] (N := 45) (f := [(1, .ptr 0 0)]) (leL_of [1] (by kernel_rfl)) mixed (by kernel_rfl) (by kernel_rfl) (st' := fr 45 [(2, iA v11)]) (h' := [.cells 42 (TExperiment.cs x0)]) ?_ ?_
  rotate_left
  · refine RD 13 45 [(38, 0), (37, 0), (35, 0), (34, 0), (32, 0), (31, 0), (23, 0), (22, 0), (18, 0), (17, 0), (1, 0), (0, 0)] [(1, .ptr 0 0), (3, .ptr 0 0), (4, sA x0.gKey), (20, .ptr 0 3), (21, sA x0.gSalt), (25, .ptr 0 4), (26, iA x0.gStatus), (27, bA (decide (x0.gStatus < 1))), (34, .ptr 0 5), (35, .ro .unk x0.gClaims.length (TSpan.cl x0.gClaims)), (37, .ptr 0 6), (38, .ro .unk x0.gArms.length (TRange.cl x0.gArms)), (40, .ptr 0 7), (41, .agg (TExpr.cs x0.gWhen))] (AD_callp (d := (some 5)) (al := [sA x0.gKey]) (r := bA v1) (by kernel_rfl) (s_text_Key hG hv1) ⟨trivial, trivial⟩ trivial ?_)
    refine RD 2 45 [(38, 0), (37, 0), (35, 0), (34, 0), (32, 0), (31, 0), (23, 0), (22, 0), (18, 0), (17, 0), (1, 0), (0, 0)] [(1, .ptr 0 0), (3, .ptr 0 0), (4, sA x0.gKey), (5, bA v1), (6, bA (!v1)), (7, bA (!v1)), (20, .ptr 0 3), (21, sA x0.gSalt), (25, .ptr 0 4), (26, iA x0.gStatus), (27, bA (decide (x0.gStatus < 1))), (34, .ptr 0 5), (35, .ro .unk x0.gClaims.length (TSpan.cl x0.gClaims)), (37, .ptr 0 6), (38, .ro .unk x0.gArms.length (TRange.cl x0.gArms)), (40, .ptr 0 7), (41, .agg (TExpr.cs x0.gWhen))] ?_
    cases c1 : (v1 : Bool) with
    | true =>
      refine RD 2 45 [(6, 0), (5, 0), (38, 0), (37, 0), (35, 0), (34, 0), (32, 0), (31, 0), (23, 0), (22, 0), (18, 0), (17, 0), (1, 0), (0, 0)] [(1, .ptr 0 0), (3, .ptr 0 0), (4, sA x0.gKey), (5, bA true), (6, bA (!true)), (7, bA (!true)), (8, .ptr 0 1), (9, sA x0.gLayer), (20, .ptr 0 3), (21, sA x0.gSalt), (25, .ptr 0 4), (26, iA x0.gStatus), (27, bA (decide (x0.gStatus < 1))), (34, .ptr 0 5), (35, .ro .unk x0.gClaims.length (TSpan.cl x0.gClaims)), (37, .ptr 0 6), (38, .ro .unk x0.gArms.length (TRange.cl x0.gArms)), (40, .ptr 0 7), (41, .agg (TExpr.cs x0.gWhen))] ?_
      have hv2_ := cond_t hv2 (by simp only [c1] <;> rfl)
      refine AD_callp (d := (some 10)) (al := [sA x0.gLayer]) (r := bA v2) (by kernel_rfl) (s_text_Key hG hv2_) ⟨trivial, trivial⟩ trivial ?_
      refine RD 3 45 [(6, 0), (5, 0), (38, 0), (37, 0), (35, 0), (34, 0), (32, 0), (31, 0), (23, 0), (22, 0), (18, 0), (17, 0), (1, 0), (0, 0)] [(1, .ptr 0 0), (3, .ptr 0 0), (4, sA x0.gKey), (5, bA true), (6, bA (!true)), (7, bA (!true)), (8, .ptr 0 1), (9, sA x0.gLayer), (10, bA v2), (11, bA (!v2)), (12, bA ((!true) || (!v2))), (13, bA ((!true) || (!v2))), (20, .ptr 0 3), (21, sA x0.gSalt), (25, .ptr 0 4), (26, iA x0.gStatus), (27, bA (decide (x0.gStatus < 1))), (34, .ptr 0 5), (35, .ro .unk x0.gClaims.length (TSpan.cl x0.gClaims)), (37, .ptr 0 6), (38, .ro .unk x0.gArms.length (TRange.cl x0.gArms)), (40, .ptr 0 7), (41, .agg (TExpr.cs x0.gWhen))] ?_
      cases c2 : (v2 : Bool) with
      | true =>
        refine RD 2 45 [(12, 0), (11, 0), (6, 0), (5, 0), (38, 0), (37, 0), (35, 0), (34, 0), (32, 0), (31, 0), (23, 0), (22, 0), (18, 0), (17, 0), (1, 0), (0, 0)] [(1, .ptr 0 0), (3, .ptr 0 0), (4, sA x0.gKey), (5, bA true), (6, bA (!true)), (7, bA (!true)), (8, .ptr 0 1), (9, sA x0.gLayer), (10, bA true), (11, bA (!true)), (12, bA ((!true) || (!true))), (13, bA ((!true) || (!true))), (14, .ptr 0 2), (15, sA x0.gFlag), (20, .ptr 0 3), (21, sA x0.gSalt), (25, .ptr 0 4), (26, iA x0.gStatus), (27, bA (decide (x0.gStatus < 1))), (34, .ptr 0 5), (35, .ro .unk x0.gClaims.length (TSpan.cl x0.gClaims)), (37, .ptr 0 6), (38, .ro .unk x0.gArms.length (TRange.cl x0.gArms)), (40, .ptr 0 7), (41, .agg (TExpr.cs x0.gWhen))] ?_
        have hv3_ := cond_t hv3 (by simp only [c1, c2] <;> rfl)
        refine AD_callp (d := (some 16)) (al := [sA x0.gFlag]) (r := bA v3) (by kernel_rfl) (s_text_Key hG hv3_) ⟨trivial, trivial⟩ trivial ?_
        refine RD 2 45 [(12, 0), (11, 0), (6, 0), (5, 0), (38, 0), (37, 0), (35, 0), (34, 0), (32, 0), (31, 0), (23, 0), (22, 0), (18, 0), (17, 0), (1, 0), (0, 0)] [(1, .ptr 0 0), (3, .ptr 0 0), (4, sA x0.gKey), (5, bA true), (6, bA (!true)), (7, bA (!true)), (8, .ptr 0 1), (9, sA x0.gLayer), (10, bA true), (11, bA (!true)), (12, bA ((!true) || (!true))), (13, bA ((!true) || (!true))), (14, .ptr 0 2), (15, sA x0.gFlag), (16, bA v3), (17, bA (!v3)), (18, bA (((!true) || (!true)) || (!v3))), (20, .ptr 0 3), (21, sA x0.gSalt), (25, .ptr 0 4), (26, iA x0.gStatus), (27, bA (decide (x0.gStatus < 1))), (34, .ptr 0 5), (35, .ro .unk x0.gClaims.length (TSpan.cl x0.gClaims)), (37, .ptr 0 6), (38, .ro .unk x0.gArms.length (TRange.cl x0.gArms)), (40, .ptr 0 7), (41, .agg (TExpr.cs x0.gWhen))] ?_
        try rw [c1] at hv4
        try rw [c2] at hv4
        refine AD_callp (d := (some 19)) (al := [bA (((!true) || (!true)) || (!v3)), iA 6]) (r := iA v4) (by kernel_rfl) (s_shape_when hv4) ⟨trivial, trivial, trivial⟩ trivial ?_
        refine AD_callp (d := (some 22)) (al := [sA x0.gSalt]) (r := bA v5) (by kernel_rfl) (s_text_Valid hG hv5) ⟨trivial, trivial⟩ trivial ?_
        refine RD 1 45 [(12, 0), (11, 0), (6, 0), (5, 0), (38, 0), (37, 0), (35, 0), (34, 0), (32, 0), (31, 0), (23, 0), (22, 0), (18, 0), (17, 0), (1, 0), (0, 0)] [(1, .ptr 0 0), (3, .ptr 0 0), (4, sA x0.gKey), (5, bA true), (6, bA (!true)), (7, bA (!true)), (8, .ptr 0 1), (9, sA x0.gLayer), (10, bA true), (11, bA (!true)), (12, bA ((!true) || (!true))), (13, bA ((!true) || (!true))), (14, .ptr 0 2), (15, sA x0.gFlag), (16, bA v3), (17, bA (!v3)), (18, bA (((!true) || (!true)) || (!v3))), (19, iA v4), (20, .ptr 0 3), (21, sA x0.gSalt), (22, bA v5), (23, bA (!v5)), (25, .ptr 0 4), (26, iA x0.gStatus), (27, bA (decide (x0.gStatus < 1))), (34, .ptr 0 5), (35, .ro .unk x0.gClaims.length (TSpan.cl x0.gClaims)), (37, .ptr 0 6), (38, .ro .unk x0.gArms.length (TRange.cl x0.gArms)), (40, .ptr 0 7), (41, .agg (TExpr.cs x0.gWhen))] (AD_callp (d := (some 24)) (al := [bA (!v5), iA 2]) (r := iA v6) (by kernel_rfl) (s_shape_when hv6) ⟨trivial, trivial, trivial⟩ trivial ?_)
        refine RD 1 45 [(12, 0), (11, 0), (6, 0), (5, 0), (38, 0), (37, 0), (35, 0), (34, 0), (32, 0), (31, 0), (23, 0), (22, 0), (18, 0), (17, 0), (1, 0), (0, 0)] [(1, .ptr 0 0), (3, .ptr 0 0), (4, sA x0.gKey), (5, bA true), (6, bA (!true)), (7, bA (!true)), (8, .ptr 0 1), (9, sA x0.gLayer), (10, bA true), (11, bA (!true)), (12, bA ((!true) || (!true))), (13, bA ((!true) || (!true))), (14, .ptr 0 2), (15, sA x0.gFlag), (16, bA v3), (17, bA (!v3)), (18, bA (((!true) || (!true)) || (!v3))), (19, iA v4), (20, .ptr 0 3), (21, sA x0.gSalt), (22, bA v5), (23, bA (!v5)), (24, iA v6), (25, .ptr 0 4), (26, iA x0.gStatus), (27, bA (decide (x0.gStatus < 1))), (28, bA (decide (x0.gStatus < 1))), (34, .ptr 0 5), (35, .ro .unk x0.gClaims.length (TSpan.cl x0.gClaims)), (37, .ptr 0 6), (38, .ro .unk x0.gArms.length (TRange.cl x0.gArms)), (40, .ptr 0 7), (41, .agg (TExpr.cs x0.gWhen))] ?_
        cases c3 : (decide (x0.gStatus < 1) : Bool) with
        | true =>
          refine RD 4 45 [(12, 0), (11, 0), (6, 0), (5, 0), (38, 0), (37, 0), (35, 0), (34, 0), (32, 0), (31, 0), (23, 0), (22, 0), (18, 0), (17, 0), (1, 0), (0, 0)] [(1, .ptr 0 0), (3, .ptr 0 0), (4, sA x0.gKey), (5, bA true), (6, bA (!true)), (7, bA (!true)), (8, .ptr 0 1), (9, sA x0.gLayer), (10, bA true), (11, bA (!true)), (12, bA ((!true) || (!true))), (13, bA ((!true) || (!true))), (14, .ptr 0 2), (15, sA x0.gFlag), (16, bA v3), (17, bA (!v3)), (18, bA (((!true) || (!true)) || (!v3))), (19, iA v4), (20, .ptr 0 3), (21, sA x0.gSalt), (22, bA v5), (23, bA (!v5)), (24, iA v6), (25, .ptr 0 4), (26, iA x0.gStatus), (27, bA true), (28, bA true), (29, undefA), (30, undefA), (31, undefA), (32, bA (true || (decide (x0.gStatus > 3)))), (34, .ptr 0 5), (35, .ro .unk x0.gClaims.length (TSpan.cl x0.gClaims)), (37, .ptr 0 6), (38, .ro .unk x0.gArms.length (TRange.cl x0.gArms)), (40, .ptr 0 7), (41, .agg (TExpr.cs x0.gWhen))] ?_
          try rw [c1] at hv7
          try rw [c2] at hv7
          try rw [c3] at hv7
          refine AD_callp (d := (some 33)) (al := [bA (true || (decide (x0.gStatus > 3))), iA 7]) (r := iA v7) (by kernel_rfl) (s_shape_when hv7) ⟨trivial, trivial, trivial⟩ trivial ?_
          refine AD_callp (d := (some 36)) (al := [.ro .unk x0.gClaims.length (TSpan.cl x0.gClaims)]) (r := iA v8) (by kernel_rfl) (s_shape_Spans hv8) ⟨(scl_TSpan_cl _ _), trivial⟩ trivial ?_
          refine AD_callp (d := (some 39)) (al := [.ro .unk x0.gArms.length (TRange.cl x0.gArms), iA 8]) (r := iA v9) (by kernel_rfl) (s_shape_Split hv9) ⟨(scl_TRange_cl _ _), trivial, trivial⟩ trivial ?_
          refine AD_callp (d := (some 42)) (al := [.agg (TExpr.cs x0.gWhen)]) (r := iA v10) (by kernel_rfl) (s_shape_Expr hG hv10) ⟨(sc_TExpr_cs _ _), trivial⟩ trivial ?_
          refine AD_bsl (d := (some 43)) (m := 6) (cs := [iA v4, iA v6, iA v7, iA v8, iA v9, iA v10]) (by kernel_rfl) ⟨trivial, trivial, trivial, trivial, trivial, trivial, trivial⟩ ?_
          refine AD_callp (d := (some 44)) (al := [.ro .unk ([v4, v6, v7, v8, v9, v10]).length (cl_i64 ([v4, v6, v7, v8, v9, v10]))]) (r := iA v11) (by kernel_rfl) (s_shape_first hv11) ⟨(scl_cl_i64 _ _), trivial⟩ trivial ?_
          refine RD 1 45 [(12, 0), (11, 0), (6, 0), (5, 0), (38, 0), (37, 0), (35, 0), (34, 0), (32, 0), (31, 0), (23, 0), (22, 0), (18, 0), (17, 0), (1, 0), (0, 0)] [(1, .ptr 0 0), (2, iA v11), (3, .ptr 0 0), (4, sA x0.gKey), (5, bA true), (6, bA (!true)), (7, bA (!true)), (8, .ptr 0 1), (9, sA x0.gLayer), (10, bA true), (11, bA (!true)), (12, bA ((!true) || (!true))), (13, bA ((!true) || (!true))), (14, .ptr 0 2), (15, sA x0.gFlag), (16, bA v3), (17, bA (!v3)), (18, bA (((!true) || (!true)) || (!v3))), (19, iA v4), (20, .ptr 0 3), (21, sA x0.gSalt), (22, bA v5), (23, bA (!v5)), (24, iA v6), (25, .ptr 0 4), (26, iA x0.gStatus), (27, bA true), (28, bA true), (29, undefA), (30, undefA), (31, undefA), (32, bA (true || (decide (x0.gStatus > 3)))), (33, iA v7), (34, .ptr 0 5), (35, .ro .unk x0.gClaims.length (TSpan.cl x0.gClaims)), (36, iA v8), (37, .ptr 0 6), (38, .ro .unk x0.gArms.length (TRange.cl x0.gArms)), (39, iA v9), (40, .ptr 0 7), (41, .agg (TExpr.cs x0.gWhen)), (42, iA v10), (43, .ro .unk ([v4, v6, v7, v8, v9, v10]).length (cl_i64 ([v4, v6, v7, v8, v9, v10]))), (44, iA v11)] ?_
          exact AD_here [2] (by kernel_rfl) rfl
        | false =>
          refine RD 4 45 [(27, 0), (26, 0), (12, 0), (11, 0), (6, 0), (5, 0), (38, 0), (37, 0), (35, 0), (34, 0), (32, 0), (31, 0), (23, 0), (22, 0), (18, 0), (17, 0), (1, 0), (0, 0)] [(1, .ptr 0 0), (3, .ptr 0 0), (4, sA x0.gKey), (5, bA true), (6, bA (!true)), (7, bA (!true)), (8, .ptr 0 1), (9, sA x0.gLayer), (10, bA true), (11, bA (!true)), (12, bA ((!true) || (!true))), (13, bA ((!true) || (!true))), (14, .ptr 0 2), (15, sA x0.gFlag), (16, bA v3), (17, bA (!v3)), (18, bA (((!true) || (!true)) || (!v3))), (19, iA v4), (20, .ptr 0 3), (21, sA x0.gSalt), (22, bA v5), (23, bA (!v5)), (24, iA v6), (25, .ptr 0 4), (26, iA x0.gStatus), (27, bA false), (28, bA false), (29, .ptr 0 4), (30, iA x0.gStatus), (31, bA (decide (x0.gStatus > 3))), (32, bA (false || (decide (x0.gStatus > 3)))), (34, .ptr 0 5), (35, .ro .unk x0.gClaims.length (TSpan.cl x0.gClaims)), (37, .ptr 0 6), (38, .ro .unk x0.gArms.length (TRange.cl x0.gArms)), (40, .ptr 0 7), (41, .agg (TExpr.cs x0.gWhen))] ?_
          try rw [c1] at hv7
          try rw [c2] at hv7
          try rw [c3] at hv7
          refine AD_callp (d := (some 33)) (al := [bA (false || (decide (x0.gStatus > 3))), iA 7]) (r := iA v7) (by kernel_rfl) (s_shape_when hv7) ⟨trivial, trivial, trivial⟩ trivial ?_
          refine AD_callp (d := (some 36)) (al := [.ro .unk x0.gClaims.length (TSpan.cl x0.gClaims)]) (r := iA v8) (by kernel_rfl) (s_shape_Spans hv8) ⟨(scl_TSpan_cl _ _), trivial⟩ trivial ?_
          refine AD_callp (d := (some 39)) (al := [.ro .unk x0.gArms.length (TRange.cl x0.gArms), iA 8]) (r := iA v9) (by kernel_rfl) (s_shape_Split hv9) ⟨(scl_TRange_cl _ _), trivial, trivial⟩ trivial ?_
          refine AD_callp (d := (some 42)) (al := [.agg (TExpr.cs x0.gWhen)]) (r := iA v10) (by kernel_rfl) (s_shape_Expr hG hv10) ⟨(sc_TExpr_cs _ _), trivial⟩ trivial ?_
          refine AD_bsl (d := (some 43)) (m := 6) (cs := [iA v4, iA v6, iA v7, iA v8, iA v9, iA v10]) (by kernel_rfl) ⟨trivial, trivial, trivial, trivial, trivial, trivial, trivial⟩ ?_
          refine AD_callp (d := (some 44)) (al := [.ro .unk ([v4, v6, v7, v8, v9, v10]).length (cl_i64 ([v4, v6, v7, v8, v9, v10]))]) (r := iA v11) (by kernel_rfl) (s_shape_first hv11) ⟨(scl_cl_i64 _ _), trivial⟩ trivial ?_
          refine RD 1 45 [(27, 0), (26, 0), (12, 0), (11, 0), (6, 0), (5, 0), (38, 0), (37, 0), (35, 0), (34, 0), (32, 0), (31, 0), (23, 0), (22, 0), (18, 0), (17, 0), (1, 0), (0, 0)] [(1, .ptr 0 0), (2, iA v11), (3, .ptr 0 0), (4, sA x0.gKey), (5, bA true), (6, bA (!true)), (7, bA (!true)), (8, .ptr 0 1), (9, sA x0.gLayer), (10, bA true), (11, bA (!true)), (12, bA ((!true) || (!true))), (13, bA ((!true) || (!true))), (14, .ptr 0 2), (15, sA x0.gFlag), (16, bA v3), (17, bA (!v3)), (18, bA (((!true) || (!true)) || (!v3))), (19, iA v4), (20, .ptr 0 3), (21, sA x0.gSalt), (22, bA v5), (23, bA (!v5)), (24, iA v6), (25, .ptr 0 4), (26, iA x0.gStatus), (27, bA false), (28, bA false), (29, .ptr 0 4), (30, iA x0.gStatus), (31, bA (decide (x0.gStatus > 3))), (32, bA (false || (decide (x0.gStatus > 3)))), (33, iA v7), (34, .ptr 0 5), (35, .ro .unk x0.gClaims.length (TSpan.cl x0.gClaims)), (36, iA v8), (37, .ptr 0 6), (38, .ro .unk x0.gArms.length (TRange.cl x0.gArms)), (39, iA v9), (40, .ptr 0 7), (41, .agg (TExpr.cs x0.gWhen)), (42, iA v10), (43, .ro .unk ([v4, v6, v7, v8, v9, v10]).length (cl_i64 ([v4, v6, v7, v8, v9, v10]))), (44, iA v11)] ?_
          exact AD_here [2] (by kernel_rfl) rfl
      | false =>
        refine RD 2 45 [(6, 0), (5, 0), (38, 0), (37, 0), (35, 0), (34, 0), (32, 0), (31, 0), (23, 0), (22, 0), (18, 0), (17, 0), (1, 0), (0, 0)] [(1, .ptr 0 0), (3, .ptr 0 0), (4, sA x0.gKey), (5, bA true), (6, bA (!true)), (7, bA (!true)), (8, .ptr 0 1), (9, sA x0.gLayer), (10, bA false), (11, bA (!false)), (12, bA ((!true) || (!false))), (13, bA ((!true) || (!false))), (14, undefA), (15, undefA), (20, .ptr 0 3), (21, sA x0.gSalt), (25, .ptr 0 4), (26, iA x0.gStatus), (27, bA (decide (x0.gStatus < 1))), (34, .ptr 0 5), (35, .ro .unk x0.gClaims.length (TSpan.cl x0.gClaims)), (37, .ptr 0 6), (38, .ro .unk x0.gArms.length (TRange.cl x0.gArms)), (40, .ptr 0 7), (41, .agg (TExpr.cs x0.gWhen))] (AD_offB (d := some 16) (by kernel_rfl) ?_)
        refine RD 2 45 [(6, 0), (5, 0), (38, 0), (37, 0), (35, 0), (34, 0), (32, 0), (31, 0), (23, 0), (22, 0), (18, 0), (17, 0), (1, 0), (0, 0)] [(1, .ptr 0 0), (3, .ptr 0 0), (4, sA x0.gKey), (5, bA true), (6, bA (!true)), (7, bA (!true)), (8, .ptr 0 1), (9, sA x0.gLayer), (10, bA false), (11, bA (!false)), (12, bA ((!true) || (!false))), (13, bA ((!true) || (!false))), (14, undefA), (15, undefA), (16, undefA), (17, undefA), (18, bA (((!true) || (!false)) || (!v3))), (20, .ptr 0 3), (21, sA x0.gSalt), (25, .ptr 0 4), (26, iA x0.gStatus), (27, bA (decide (x0.gStatus < 1))), (34, .ptr 0 5), (35, .ro .unk x0.gClaims.length (TSpan.cl x0.gClaims)), (37, .ptr 0 6), (38, .ro .unk x0.gArms.length (TRange.cl x0.gArms)), (40, .ptr 0 7), (41, .agg (TExpr.cs x0.gWhen))] ?_
        try rw [c1] at hv4
        try rw [c2] at hv4
        refine AD_callp (d := (some 19)) (al := [bA (((!true) || (!false)) || (!v3)), iA 6]) (r := iA v4) (by kernel_rfl) (s_shape_when hv4) ⟨trivial, trivial, trivial⟩ trivial ?_
        refine AD_callp (d := (some 22)) (al := [sA x0.gSalt]) (r := bA v5) (by kernel_rfl) (s_text_Valid hG hv5) ⟨trivial, trivial⟩ trivial ?_
        refine RD 1 45 [(6, 0), (5, 0), (38, 0), (37, 0), (35, 0), (34, 0), (32, 0), (31, 0), (23, 0), (22, 0), (18, 0), (17, 0), (1, 0), (0, 0)] [(1, .ptr 0 0), (3, .ptr 0 0), (4, sA x0.gKey), (5, bA true), (6, bA (!true)), (7, bA (!true)), (8, .ptr 0 1), (9, sA x0.gLayer), (10, bA false), (11, bA (!false)), (12, bA ((!true) || (!false))), (13, bA ((!true) || (!false))), (14, undefA), (15, undefA), (16, undefA), (17, undefA), (18, bA (((!true) || (!false)) || (!v3))), (19, iA v4), (20, .ptr 0 3), (21, sA x0.gSalt), (22, bA v5), (23, bA (!v5)), (25, .ptr 0 4), (26, iA x0.gStatus), (27, bA (decide (x0.gStatus < 1))), (34, .ptr 0 5), (35, .ro .unk x0.gClaims.length (TSpan.cl x0.gClaims)), (37, .ptr 0 6), (38, .ro .unk x0.gArms.length (TRange.cl x0.gArms)), (40, .ptr 0 7), (41, .agg (TExpr.cs x0.gWhen))] (AD_callp (d := (some 24)) (al := [bA (!v5), iA 2]) (r := iA v6) (by kernel_rfl) (s_shape_when hv6) ⟨trivial, trivial, trivial⟩ trivial ?_)
        refine RD 1 45 [(6, 0), (5, 0), (38, 0), (37, 0), (35, 0), (34, 0), (32, 0), (31, 0), (23, 0), (22, 0), (18, 0), (17, 0), (1, 0), (0, 0)] [(1, .ptr 0 0), (3, .ptr 0 0), (4, sA x0.gKey), (5, bA true), (6, bA (!true)), (7, bA (!true)), (8, .ptr 0 1), (9, sA x0.gLayer), (10, bA false), (11, bA (!false)), (12, bA ((!true) || (!false))), (13, bA ((!true) || (!false))), (14, undefA), (15, undefA), (16, undefA), (17, undefA), (18, bA (((!true) || (!false)) || (!v3))), (19, iA v4), (20, .ptr 0 3), (21, sA x0.gSalt), (22, bA v5), (23, bA (!v5)), (24, iA v6), (25, .ptr 0 4), (26, iA x0.gStatus), (27, bA (decide (x0.gStatus < 1))), (28, bA (decide (x0.gStatus < 1))), (34, .ptr 0 5), (35, .ro .unk x0.gClaims.length (TSpan.cl x0.gClaims)), (37, .ptr 0 6), (38, .ro .unk x0.gArms.length (TRange.cl x0.gArms)), (40, .ptr 0 7), (41, .agg (TExpr.cs x0.gWhen))] ?_
        cases c3 : (decide (x0.gStatus < 1) : Bool) with
        | true =>
          refine RD 4 45 [(6, 0), (5, 0), (38, 0), (37, 0), (35, 0), (34, 0), (32, 0), (31, 0), (23, 0), (22, 0), (18, 0), (17, 0), (1, 0), (0, 0)] [(1, .ptr 0 0), (3, .ptr 0 0), (4, sA x0.gKey), (5, bA true), (6, bA (!true)), (7, bA (!true)), (8, .ptr 0 1), (9, sA x0.gLayer), (10, bA false), (11, bA (!false)), (12, bA ((!true) || (!false))), (13, bA ((!true) || (!false))), (14, undefA), (15, undefA), (16, undefA), (17, undefA), (18, bA (((!true) || (!false)) || (!v3))), (19, iA v4), (20, .ptr 0 3), (21, sA x0.gSalt), (22, bA v5), (23, bA (!v5)), (24, iA v6), (25, .ptr 0 4), (26, iA x0.gStatus), (27, bA true), (28, bA true), (29, undefA), (30, undefA), (31, undefA), (32, bA (true || (decide (x0.gStatus > 3)))), (34, .ptr 0 5), (35, .ro .unk x0.gClaims.length (TSpan.cl x0.gClaims)), (37, .ptr 0 6), (38, .ro .unk x0.gArms.length (TRange.cl x0.gArms)), (40, .ptr 0 7), (41, .agg (TExpr.cs x0.gWhen))] ?_
          try rw [c1] at hv7
          try rw [c2] at hv7
          try rw [c3] at hv7
          refine AD_callp (d := (some 33)) (al := [bA (true || (decide (x0.gStatus > 3))), iA 7]) (r := iA v7) (by kernel_rfl) (s_shape_when hv7) ⟨trivial, trivial, trivial⟩ trivial ?_
          refine AD_callp (d := (some 36)) (al := [.ro .unk x0.gClaims.length (TSpan.cl x0.gClaims)]) (r := iA v8) (by kernel_rfl) (s_shape_Spans hv8) ⟨(scl_TSpan_cl _ _), trivial⟩ trivial ?_
          refine AD_callp (d := (some 39)) (al := [.ro .unk x0.gArms.length (TRange.cl x0.gArms), iA 8]) (r := iA v9) (by kernel_rfl) (s_shape_Split hv9) ⟨(scl_TRange_cl _ _), trivial, trivial⟩ trivial ?_
          refine AD_callp (d := (some 42)) (al := [.agg (TExpr.cs x0.gWhen)]) (r := iA v10) (by kernel_rfl) (s_shape_Expr hG hv10) ⟨(sc_TExpr_cs _ _), trivial⟩ trivial ?_
          refine AD_bsl (d := (some 43)) (m := 6) (cs := [iA v4, iA v6, iA v7, iA v8, iA v9, iA v10]) (by kernel_rfl) ⟨trivial, trivial, trivial, trivial, trivial, trivial, trivial⟩ ?_
          refine AD_callp (d := (some 44)) (al := [.ro .unk ([v4, v6, v7, v8, v9, v10]).length (cl_i64 ([v4, v6, v7, v8, v9, v10]))]) (r := iA v11) (by kernel_rfl) (s_shape_first hv11) ⟨(scl_cl_i64 _ _), trivial⟩ trivial ?_
          refine RD 1 45 [(6, 0), (5, 0), (38, 0), (37, 0), (35, 0), (34, 0), (32, 0), (31, 0), (23, 0), (22, 0), (18, 0), (17, 0), (1, 0), (0, 0)] [(1, .ptr 0 0), (2, iA v11), (3, .ptr 0 0), (4, sA x0.gKey), (5, bA true), (6, bA (!true)), (7, bA (!true)), (8, .ptr 0 1), (9, sA x0.gLayer), (10, bA false), (11, bA (!false)), (12, bA ((!true) || (!false))), (13, bA ((!true) || (!false))), (14, undefA), (15, undefA), (16, undefA), (17, undefA), (18, bA (((!true) || (!false)) || (!v3))), (19, iA v4), (20, .ptr 0 3), (21, sA x0.gSalt), (22, bA v5), (23, bA (!v5)), (24, iA v6), (25, .ptr 0 4), (26, iA x0.gStatus), (27, bA true), (28, bA true), (29, undefA), (30, undefA), (31, undefA), (32, bA (true || (decide (x0.gStatus > 3)))), (33, iA v7), (34, .ptr 0 5), (35, .ro .unk x0.gClaims.length (TSpan.cl x0.gClaims)), (36, iA v8), (37, .ptr 0 6), (38, .ro .unk x0.gArms.length (TRange.cl x0.gArms)), (39, iA v9), (40, .ptr 0 7), (41, .agg (TExpr.cs x0.gWhen)), (42, iA v10), (43, .ro .unk ([v4, v6, v7, v8, v9, v10]).length (cl_i64 ([v4, v6, v7, v8, v9, v10]))), (44, iA v11)] ?_
          exact AD_here [2] (by kernel_rfl) rfl
        | false =>
          refine RD 4 45 [(27, 0), (26, 0), (6, 0), (5, 0), (38, 0), (37, 0), (35, 0), (34, 0), (32, 0), (31, 0), (23, 0), (22, 0), (18, 0), (17, 0), (1, 0), (0, 0)] [(1, .ptr 0 0), (3, .ptr 0 0), (4, sA x0.gKey), (5, bA true), (6, bA (!true)), (7, bA (!true)), (8, .ptr 0 1), (9, sA x0.gLayer), (10, bA false), (11, bA (!false)), (12, bA ((!true) || (!false))), (13, bA ((!true) || (!false))), (14, undefA), (15, undefA), (16, undefA), (17, undefA), (18, bA (((!true) || (!false)) || (!v3))), (19, iA v4), (20, .ptr 0 3), (21, sA x0.gSalt), (22, bA v5), (23, bA (!v5)), (24, iA v6), (25, .ptr 0 4), (26, iA x0.gStatus), (27, bA false), (28, bA false), (29, .ptr 0 4), (30, iA x0.gStatus), (31, bA (decide (x0.gStatus > 3))), (32, bA (false || (decide (x0.gStatus > 3)))), (34, .ptr 0 5), (35, .ro .unk x0.gClaims.length (TSpan.cl x0.gClaims)), (37, .ptr 0 6), (38, .ro .unk x0.gArms.length (TRange.cl x0.gArms)), (40, .ptr 0 7), (41, .agg (TExpr.cs x0.gWhen))] ?_
          try rw [c1] at hv7
          try rw [c2] at hv7
          try rw [c3] at hv7
          refine AD_callp (d := (some 33)) (al := [bA (false || (decide (x0.gStatus > 3))), iA 7]) (r := iA v7) (by kernel_rfl) (s_shape_when hv7) ⟨trivial, trivial, trivial⟩ trivial ?_
          refine AD_callp (d := (some 36)) (al := [.ro .unk x0.gClaims.length (TSpan.cl x0.gClaims)]) (r := iA v8) (by kernel_rfl) (s_shape_Spans hv8) ⟨(scl_TSpan_cl _ _), trivial⟩ trivial ?_
          refine AD_callp (d := (some 39)) (al := [.ro .unk x0.gArms.length (TRange.cl x0.gArms), iA 8]) (r := iA v9) (by kernel_rfl) (s_shape_Split hv9) ⟨(scl_TRange_cl _ _), trivial, trivial⟩ trivial ?_
          refine AD_callp (d := (some 42)) (al := [.agg (TExpr.cs x0.gWhen)]) (r := iA v10) (by kernel_rfl) (s_shape_Expr hG hv10) ⟨(sc_TExpr_cs _ _), trivial⟩ trivial ?_
          refine AD_bsl (d := (some 43)) (m := 6) (cs := [iA v4, iA v6, iA v7, iA v8, iA v9, iA v10]) (by kernel_rfl) ⟨trivial, trivial, trivial, trivial, trivial, trivial, trivial⟩ ?_
          refine AD_callp (d := (some 44)) (al := [.ro .unk ([v4, v6, v7, v8, v9, v10]).length (cl_i64 ([v4, v6, v7, v8, v9, v10]))]) (r := iA v11) (by kernel_rfl) (s_shape_first hv11) ⟨(scl_cl_i64 _ _), trivial⟩ trivial ?_
          refine RD 1 45 [(27, 0), (26, 0), (6, 0), (5, 0), (38, 0), (37, 0), (35, 0), (34, 0), (32, 0), (31, 0), (23, 0), (22, 0), (18, 0), (17, 0), (1, 0), (0, 0)] [(1, .ptr 0 0), (2, iA v11), (3, .ptr 0 0), (4, sA x0.gKey), (5, bA true), (6, bA (!true)), (7, bA (!true)), (8, .ptr 0 1), (9, sA x0.gLayer), (10, bA false), (11, bA (!false)), (12, bA ((!true) || (!false))), (13, bA ((!true) || (!false))), (14, undefA), (15, undefA), (16, undefA), (17, undefA), (18, bA (((!true) || (!false)) || (!v3))), (19, iA v4), (20, .ptr 0 3), (21, sA x0.gSalt), (22, bA v5), (23, bA (!v5)), (24, iA v6), (25, .ptr 0 4), (26, iA x0.gStatus), (27, bA false), (28, bA false), (29, .ptr 0 4), (30, iA x0.gStatus), (31, bA (decide (x0.gStatus > 3))), (32, bA (false || (decide (x0.gStatus > 3)))), (33, iA v7), (34, .ptr 0 5), (35, .ro .unk x0.gClaims.length (TSpan.cl x0.gClaims)), (36, iA v8), (37, .ptr 0 6), (38, .ro .unk x0.gArms.length (TRange.cl x0.gArms)), (39, iA v9), (40, .ptr 0 7), (41, .agg (TExpr.cs x0.gWhen)), (42, iA v10), (43, .ro .unk ([v4, v6, v7, v8, v9, v10]).length (cl_i64 ([v4, v6, v7, v8, v9, v10]))), (44, iA v11)] ?_
          exact AD_here [2] (by kernel_rfl) rfl
    | false =>
      refine RD 2 45 [(38, 0), (37, 0), (35, 0), (34, 0), (32, 0), (31, 0), (23, 0), (22, 0), (18, 0), (17, 0), (1, 0), (0, 0)] [(1, .ptr 0 0), (3, .ptr 0 0), (4, sA x0.gKey), (5, bA false), (6, bA (!false)), (7, bA (!false)), (8, undefA), (9, undefA), (20, .ptr 0 3), (21, sA x0.gSalt), (25, .ptr 0 4), (26, iA x0.gStatus), (27, bA (decide (x0.gStatus < 1))), (34, .ptr 0 5), (35, .ro .unk x0.gClaims.length (TSpan.cl x0.gClaims)), (37, .ptr 0 6), (38, .ro .unk x0.gArms.length (TRange.cl x0.gArms)), (40, .ptr 0 7), (41, .agg (TExpr.cs x0.gWhen))] (AD_offB (d := some 10) (by kernel_rfl) ?_)
      refine RD 5 45 [(38, 0), (37, 0), (35, 0), (34, 0), (32, 0), (31, 0), (23, 0), (22, 0), (18, 0), (17, 0), (1, 0), (0, 0)] [(1, .ptr 0 0), (3, .ptr 0 0), (4, sA x0.gKey), (5, bA false), (6, bA (!false)), (7, bA (!false)), (8, undefA), (9, undefA), (10, undefA), (11, undefA), (12, bA ((!false) || (!v2))), (13, bA ((!false) || (!v2))), (14, undefA), (15, undefA), (20, .ptr 0 3), (21, sA x0.gSalt), (25, .ptr 0 4), (26, iA x0.gStatus), (27, bA (decide (x0.gStatus < 1))), (34, .ptr 0 5), (35, .ro .unk x0.gClaims.length (TSpan.cl x0.gClaims)), (37, .ptr 0 6), (38, .ro .unk x0.gArms.length (TRange.cl x0.gArms)), (40, .ptr 0 7), (41, .agg (TExpr.cs x0.gWhen))] (AD_offB (d := some 16) (by kernel_rfl) ?_)
      refine RD 2 45 [(38, 0), (37, 0), (35, 0), (34, 0), (32, 0), (31, 0), (23, 0), (22, 0), (18, 0), (17, 0), (1, 0), (0, 0)] [(1, .ptr 0 0), (3, .ptr 0 0), (4, sA x0.gKey), (5, bA false), (6, bA (!false)), (7, bA (!false)), (8, undefA), (9, undefA), (10, undefA), (11, undefA), (12, bA ((!false) || (!v2))), (13, bA ((!false) || (!v2))), (14, undefA), (15, undefA), (16, undefA), (17, undefA), (18, bA (((!false) || (!v2)) || (!v3))), (20, .ptr 0 3), (21, sA x0.gSalt), (25, .ptr 0 4), (26, iA x0.gStatus), (27, bA (decide (x0.gStatus < 1))), (34, .ptr 0 5), (35, .ro .unk x0.gClaims.length (TSpan.cl x0.gClaims)), (37, .ptr 0 6), (38, .ro .unk x0.gArms.length (TRange.cl x0.gArms)), (40, .ptr 0 7), (41, .agg (TExpr.cs x0.gWhen))] ?_
      try rw [c1] at hv4
      refine AD_callp (d := (some 19)) (al := [bA (((!false) || (!v2)) || (!v3)), iA 6]) (r := iA v4) (by kernel_rfl) (s_shape_when hv4) ⟨trivial, trivial, trivial⟩ trivial ?_
      refine AD_callp (d := (some 22)) (al := [sA x0.gSalt]) (r := bA v5) (by kernel_rfl) (s_text_Valid hG hv5) ⟨trivial, trivial⟩ trivial ?_
      refine RD 1 45 [(38, 0), (37, 0), (35, 0), (34, 0), (32, 0), (31, 0), (23, 0), (22, 0), (18, 0), (17, 0), (1, 0), (0, 0)] [(1, .ptr 0 0), (3, .ptr 0 0), (4, sA x0.gKey), (5, bA false), (6, bA (!false)), (7, bA (!false)), (8, undefA), (9, undefA), (10, undefA), (11, undefA), (12, bA ((!false) || (!v2))), (13, bA ((!false) || (!v2))), (14, undefA), (15, undefA), (16, undefA), (17, undefA), (18, bA (((!false) || (!v2)) || (!v3))), (19, iA v4), (20, .ptr 0 3), (21, sA x0.gSalt), (22, bA v5), (23, bA (!v5)), (25, .ptr 0 4), (26, iA x0.gStatus), (27, bA (decide (x0.gStatus < 1))), (34, .ptr 0 5), (35, .ro .unk x0.gClaims.length (TSpan.cl x0.gClaims)), (37, .ptr 0 6), (38, .ro .unk x0.gArms.length (TRange.cl x0.gArms)), (40, .ptr 0 7), (41, .agg (TExpr.cs x0.gWhen))] (AD_callp (d := (some 24)) (al := [bA (!v5), iA 2]) (r := iA v6) (by kernel_rfl) (s_shape_when hv6) ⟨trivial, trivial, trivial⟩ trivial ?_)
      refine RD 1 45 [(38, 0), (37, 0), (35, 0), (34, 0), (32, 0), (31, 0), (23, 0), (22, 0), (18, 0), (17, 0), (1, 0), (0, 0)] [(1, .ptr 0 0), (3, .ptr 0 0), (4, sA x0.gKey), (5, bA false), (6, bA (!false)), (7, bA (!false)), (8, undefA), (9, undefA), (10, undefA), (11, undefA), (12, bA ((!false) || (!v2))), (13, bA ((!false) || (!v2))), (14, undefA), (15, undefA), (16, undefA), (17, undefA), (18, bA (((!false) || (!v2)) || (!v3))), (19, iA v4), (20, .ptr 0 3), (21, sA x0.gSalt), (22, bA v5), (23, bA (!v5)), (24, iA v6), (25, .ptr 0 4), (26, iA x0.gStatus), (27, bA (decide (x0.gStatus < 1))), (28, bA (decide (x0.gStatus < 1))), (34, .ptr 0 5), (35, .ro .unk x0.gClaims.length (TSpan.cl x0.gClaims)), (37, .ptr 0 6), (38, .ro .unk x0.gArms.length (TRange.cl x0.gArms)), (40, .ptr 0 7), (41, .agg (TExpr.cs x0.gWhen))] ?_
      cases c2 : (decide (x0.gStatus < 1) : Bool) with
      | true =>
        refine RD 4 45 [(38, 0), (37, 0), (35, 0), (34, 0), (32, 0), (31, 0), (23, 0), (22, 0), (18, 0), (17, 0), (1, 0), (0, 0)] [(1, .ptr 0 0), (3, .ptr 0 0), (4, sA x0.gKey), (5, bA false), (6, bA (!false)), (7, bA (!false)), (8, undefA), (9, undefA), (10, undefA), (11, undefA), (12, bA ((!false) || (!v2))), (13, bA ((!false) || (!v2))), (14, undefA), (15, undefA), (16, undefA), (17, undefA), (18, bA (((!false) || (!v2)) || (!v3))), (19, iA v4), (20, .ptr 0 3), (21, sA x0.gSalt), (22, bA v5), (23, bA (!v5)), (24, iA v6), (25, .ptr 0 4), (26, iA x0.gStatus), (27, bA true), (28, bA true), (29, undefA), (30, undefA), (31, undefA), (32, bA (true || (decide (x0.gStatus > 3)))), (34, .ptr 0 5), (35, .ro .unk x0.gClaims.length (TSpan.cl x0.gClaims)), (37, .ptr 0 6), (38, .ro .unk x0.gArms.length (TRange.cl x0.gArms)), (40, .ptr 0 7), (41, .agg (TExpr.cs x0.gWhen))] ?_
        try rw [c1] at hv7
        try rw [c2] at hv7
        refine AD_callp (d := (some 33)) (al := [bA (true || (decide (x0.gStatus > 3))), iA 7]) (r := iA v7) (by kernel_rfl) (s_shape_when hv7) ⟨trivial, trivial, trivial⟩ trivial ?_
        refine AD_callp (d := (some 36)) (al := [.ro .unk x0.gClaims.length (TSpan.cl x0.gClaims)]) (r := iA v8) (by kernel_rfl) (s_shape_Spans hv8) ⟨(scl_TSpan_cl _ _), trivial⟩ trivial ?_
        refine AD_callp (d := (some 39)) (al := [.ro .unk x0.gArms.length (TRange.cl x0.gArms), iA 8]) (r := iA v9) (by kernel_rfl) (s_shape_Split hv9) ⟨(scl_TRange_cl _ _), trivial, trivial⟩ trivial ?_
        refine AD_callp (d := (some 42)) (al := [.agg (TExpr.cs x0.gWhen)]) (r := iA v10) (by kernel_rfl) (s_shape_Expr hG hv10) ⟨(sc_TExpr_cs _ _), trivial⟩ trivial ?_
        refine AD_bsl (d := (some 43)) (m := 6) (cs := [iA v4, iA v6, iA v7, iA v8, iA v9, iA v10]) (by kernel_rfl) ⟨trivial, trivial, trivial, trivial, trivial, trivial, trivial⟩ ?_
        refine AD_callp (d := (some 44)) (al := [.ro .unk ([v4, v6, v7, v8, v9, v10]).length (cl_i64 ([v4, v6, v7, v8, v9, v10]))]) (r := iA v11) (by kernel_rfl) (s_shape_first hv11) ⟨(scl_cl_i64 _ _), trivial⟩ trivial ?_
        refine RD 1 45 [(38, 0), (37, 0), (35, 0), (34, 0), (32, 0), (31, 0), (23, 0), (22, 0), (18, 0), (17, 0), (1, 0), (0, 0)] [(1, .ptr 0 0), (2, iA v11), (3, .ptr 0 0), (4, sA x0.gKey), (5, bA false), (6, bA (!false)), (7, bA (!false)), (8, undefA), (9, undefA), (10, undefA), (11, undefA), (12, bA ((!false) || (!v2))), (13, bA ((!false) || (!v2))), (14, undefA), (15, undefA), (16, undefA), (17, undefA), (18, bA (((!false) || (!v2)) || (!v3))), (19, iA v4), (20, .ptr 0 3), (21, sA x0.gSalt), (22, bA v5), (23, bA (!v5)), (24, iA v6), (25, .ptr 0 4), (26, iA x0.gStatus), (27, bA true), (28, bA true), (29, undefA), (30, undefA), (31, undefA), (32, bA (true || (decide (x0.gStatus > 3)))), (33, iA v7), (34, .ptr 0 5), (35, .ro .unk x0.gClaims.length (TSpan.cl x0.gClaims)), (36, iA v8), (37, .ptr 0 6), (38, .ro .unk x0.gArms.length (TRange.cl x0.gArms)), (39, iA v9), (40, .ptr 0 7), (41, .agg (TExpr.cs x0.gWhen)), (42, iA v10), (43, .ro .unk ([v4, v6, v7, v8, v9, v10]).length (cl_i64 ([v4, v6, v7, v8, v9, v10]))), (44, iA v11)] ?_
        exact AD_here [2] (by kernel_rfl) rfl
      | false =>
        refine RD 4 45 [(27, 0), (26, 0), (38, 0), (37, 0), (35, 0), (34, 0), (32, 0), (31, 0), (23, 0), (22, 0), (18, 0), (17, 0), (1, 0), (0, 0)] [(1, .ptr 0 0), (3, .ptr 0 0), (4, sA x0.gKey), (5, bA false), (6, bA (!false)), (7, bA (!false)), (8, undefA), (9, undefA), (10, undefA), (11, undefA), (12, bA ((!false) || (!v2))), (13, bA ((!false) || (!v2))), (14, undefA), (15, undefA), (16, undefA), (17, undefA), (18, bA (((!false) || (!v2)) || (!v3))), (19, iA v4), (20, .ptr 0 3), (21, sA x0.gSalt), (22, bA v5), (23, bA (!v5)), (24, iA v6), (25, .ptr 0 4), (26, iA x0.gStatus), (27, bA false), (28, bA false), (29, .ptr 0 4), (30, iA x0.gStatus), (31, bA (decide (x0.gStatus > 3))), (32, bA (false || (decide (x0.gStatus > 3)))), (34, .ptr 0 5), (35, .ro .unk x0.gClaims.length (TSpan.cl x0.gClaims)), (37, .ptr 0 6), (38, .ro .unk x0.gArms.length (TRange.cl x0.gArms)), (40, .ptr 0 7), (41, .agg (TExpr.cs x0.gWhen))] ?_
        try rw [c1] at hv7
        try rw [c2] at hv7
        refine AD_callp (d := (some 33)) (al := [bA (false || (decide (x0.gStatus > 3))), iA 7]) (r := iA v7) (by kernel_rfl) (s_shape_when hv7) ⟨trivial, trivial, trivial⟩ trivial ?_
        refine AD_callp (d := (some 36)) (al := [.ro .unk x0.gClaims.length (TSpan.cl x0.gClaims)]) (r := iA v8) (by kernel_rfl) (s_shape_Spans hv8) ⟨(scl_TSpan_cl _ _), trivial⟩ trivial ?_
        refine AD_callp (d := (some 39)) (al := [.ro .unk x0.gArms.length (TRange.cl x0.gArms), iA 8]) (r := iA v9) (by kernel_rfl) (s_shape_Split hv9) ⟨(scl_TRange_cl _ _), trivial, trivial⟩ trivial ?_
        refine AD_callp (d := (some 42)) (al := [.agg (TExpr.cs x0.gWhen)]) (r := iA v10) (by kernel_rfl) (s_shape_Expr hG hv10) ⟨(sc_TExpr_cs _ _), trivial⟩ trivial ?_
        refine AD_bsl (d := (some 43)) (m := 6) (cs := [iA v4, iA v6, iA v7, iA v8, iA v9, iA v10]) (by kernel_rfl) ⟨trivial, trivial, trivial, trivial, trivial, trivial, trivial⟩ ?_
        refine AD_callp (d := (some 44)) (al := [.ro .unk ([v4, v6, v7, v8, v9, v10]).length (cl_i64 ([v4, v6, v7, v8, v9, v10]))]) (r := iA v11) (by kernel_rfl) (s_shape_first hv11) ⟨(scl_cl_i64 _ _), trivial⟩ trivial ?_
        refine RD 1 45 [(27, 0), (26, 0), (38, 0), (37, 0), (35, 0), (34, 0), (32, 0), (31, 0), (23, 0), (22, 0), (18, 0), (17, 0), (1, 0), (0, 0)] [(1, .ptr 0 0), (2, iA v11), (3, .ptr 0 0), (4, sA x0.gKey), (5, bA false), (6, bA (!false)), (7, bA (!false)), (8, undefA), (9, undefA), (10, undefA), (11, undefA), (12, bA ((!false) || (!v2))), (13, bA ((!false) || (!v2))), (14, undefA), (15, undefA), (16, undefA), (17, undefA), (18, bA (((!false) || (!v2)) || (!v3))), (19, iA v4), (20, .ptr 0 3), (21, sA x0.gSalt), (22, bA v5), (23, bA (!v5)), (24, iA v6), (25, .ptr 0 4), (26, iA x0.gStatus), (27, bA false), (28, bA false), (29, .ptr 0 4), (30, iA x0.gStatus), (31, bA (decide (x0.gStatus > 3))), (32, bA (false || (decide (x0.gStatus > 3)))), (33, iA v7), (34, .ptr 0 5), (35, .ro .unk x0.gClaims.length (TSpan.cl x0.gClaims)), (36, iA v8), (37, .ptr 0 6), (38, .ro .unk x0.gArms.length (TRange.cl x0.gArms)), (39, iA v9), (40, .ptr 0 7), (41, .agg (TExpr.cs x0.gWhen)), (42, iA v10), (43, .ro .unk ([v4, v6, v7, v8, v9, v10]).length (cl_i64 ([v4, v6, v7, v8, v9, v10]))), (44, iA v11)] ?_
        exact AD_here [2] (by kernel_rfl) rfl
  exact AWP_ret (FR H)
theorem s_ref6_Spans {n : Nat} {x0 : List TSpan} {r : Int} (H : p_ref6_Spans n x0 = some r) :
    Sp Tryz.prog E 26 [.ro .unk x0.length (TSpan.cl x0)] [] (isA (iA r) []) := by
  unfold p_ref6_Spans at H
  refine Sp_fn Tryz.func26 rfl (fun hc hs => ?_)
  refine AWP_reg (Rh 1 56 [(0, .ro .unk x0.length (TSpan.cl x0))] (AOps_done (AWP_seq (AWP_reg (Rh 3 56 [(0, .ro .unk x0.length (TSpan.cl x0)), (6, bA (decide ((lI x0) > 16)))] (AOps_done (CD H (fun hb1 H => ?_) (fun hb1 H => ?_))))))))
  · refine AWP_reg (Rh 1 56 [(2, iA 5)] (AOps_done ?_))
    exact AWP_ret (FR H)
  · refine AWP_skip ?_
    show AWP _ _ _ _ _ _ _
    refine AWP_seq (AWP_reg (Rh 1 56 [(0, .ro .unk x0.length (TSpan.cl x0)), (3, iA 0)] (AOps_done (AWP_block ?_))))
    refine AWP_loopN (α := Int) (fun v20 => fr 56 [(0, .ro .unk x0.length (TSpan.cl x0)), (3, iA v20)]) (fun v20 => []) (fun k_ v20 => k_ ≤ n ∧ p_ref6_Spans_L1 k_ x0 v20 = some r) (fun n v20 H => ?_) (k := n) 0 ⟨Nat.le_refl _, H⟩ (Norm_fd [0, 3] 0 (by kernel_rfl) rfl rfl trivial (by refine scL_fr ?_; exact ⟨(scl_TSpan_cl _ _), trivial, trivial⟩))
    show AWP _ _ _ _ _ (fr 56 [(0, .ro .unk x0.length (TSpan.cl x0)), (3, iA v20)]) []
    obtain ⟨hb_, H⟩ := H
    replace H : p_ref6_Spans_L1 n x0 v20 = some r := H
    cases n with
    | zero => exact not_none (by simpa only [p_ref6_Spans_L1] using H)
    | succ n =>
      unfold p_ref6_Spans_L1 at H
      refine AWP_seq (AWP_reg (Rh 4 56 [(0, .ro .unk x0.length (TSpan.cl x0)), (3, iA v20), (10, bA (decide (v20 < (lI x0))))] (AOps_done (CD H (fun hb21 H => ?_) (fun hb21 H => ?_)))))
      · refine AWP_skip ?_
        show AWP _ _ _ _ _ _ _
        refine AWP_seq (AWP_block ?_)
        refine AWP_seq ?_
        obtain ⟨v22, hv22, H⟩ := bind_some H
        obtain ⟨v23, hv23, H⟩ := bind_some H
        obtain ⟨v24, hv24, H⟩ := bind_some H
        obtain ⟨v25, hv25, H⟩ := bind_some H
        refine AWP_regD1 [0, 1, 2, 3, 4, 5, 6, 7, 8, 9, 10, 11, 12, 13, 14, 15, 16, 17, 18, 19, 20, 21, 22, 23, 24, 25, 26] (N := 56) (f := [(0, .ro .unk x0.length (TSpan.cl x0)), (3, iA v20)]) (leL_of [0, 3] (by kernel_rfl)) mixed (by kernel_rfl) (by kernel_rfl) (st' := fr 56 [(0, .ro .unk x0.length (TSpan.cl x0)), (3, iA v20), (39, bA (((decide (v22.gFrom < 0)) || (decide (v23.gFrom ≥ v24.gTo))) || (decide (v25.gTo > 10000))))]) (h' := []) ?_ ?_
        rotate_left
        · refine RD 2 56 [] [(0, .ro .unk x0.length (TSpan.cl x0)), (3, iA v20), (13, .ro .unk x0.length (TSpan.cl x0)), (14, iA v20)] (AD_index (d := (some 15)) (sz := 2) (c := TSpan.cs) (by kernel_rfl) rfl (eq_TSpan_cl _) (fun _ => rfl) (by decide) hv22 (fun tl22 => ?_))
          refine RD 4 56 [] [(0, .ro .unk x0.length (TSpan.cl x0)), (3, iA v20), (13, .ro .unk x0.length (TSpan.cl x0)), (14, iA v20), (15, .rop ([iA v22.gFrom, iA v22.gTo] ++ tl22)), (16, .rop ([iA v22.gFrom, iA v22.gTo] ++ tl22)), (17, iA v22.gFrom), (18, bA (decide (v22.gFrom < 0))), (19, bA (decide (v22.gFrom < 0)))] ?_
          cases c1 : (decide (v22.gFrom < 0) : Bool) with
          | true =>
            refine RD 20 56 [] [(0, .ro .unk x0.length (TSpan.cl x0)), (3, iA v20), (13, .ro .unk x0.length (TSpan.cl x0)), (14, iA v20), (15, .rop ([iA v22.gFrom, iA v22.gTo] ++ tl22)), (16, .rop ([iA v22.gFrom, iA v22.gTo] ++ tl22)), (17, iA v22.gFrom), (18, bA true), (19, bA true), (20, undefA), (21, undefA), (22, undefA), (23, undefA), (24, undefA), (25, undefA), (26, undefA), (27, undefA), (28, undefA), (29, undefA), (30, undefA), (31, bA (true || (decide (v23.gFrom ≥ v24.gTo)))), (32, bA (true || (decide (v23.gFrom ≥ v24.gTo)))), (33, undefA), (34, undefA), (35, undefA), (36, undefA), (37, undefA), (38, undefA), (39, bA ((true || (decide (v23.gFrom ≥ v24.gTo))) || (decide (v25.gTo > 10000))))] ?_
            exact AD_here [0, 3, 39] (by kernel_rfl) rfl
          | false =>
            refine RD 2 56 [] [(0, .ro .unk x0.length (TSpan.cl x0)), (3, iA v20), (13, .ro .unk x0.length (TSpan.cl x0)), (14, iA v20), (15, .rop ([iA v22.gFrom, iA v22.gTo] ++ tl22)), (16, .rop ([iA v22.gFrom, iA v22.gTo] ++ tl22)), (17, iA v22.gFrom), (18, bA false), (19, bA false), (20, .ro .unk x0.length (TSpan.cl x0)), (21, iA v20)] ?_
            have hv23_ := cond_t hv23 (by simp only [c1] <;> rfl)
            refine AD_index (d := (some 22)) (sz := 2) (c := TSpan.cs) (by kernel_rfl) rfl (eq_TSpan_cl _) (fun _ => rfl) (by decide) hv23_ (fun tl23 => ?_)
            refine RD 4 56 [] [(0, .ro .unk x0.length (TSpan.cl x0)), (3, iA v20), (13, .ro .unk x0.length (TSpan.cl x0)), (14, iA v20), (15, .rop ([iA v22.gFrom, iA v22.gTo] ++ tl22)), (16, .rop ([iA v22.gFrom, iA v22.gTo] ++ tl22)), (17, iA v22.gFrom), (18, bA false), (19, bA false), (20, .ro .unk x0.length (TSpan.cl x0)), (21, iA v20), (22, .rop ([iA v23.gFrom, iA v23.gTo] ++ tl23)), (23, .rop ([iA v23.gFrom, iA v23.gTo] ++ tl23)), (24, iA v23.gFrom), (25, .ro .unk x0.length (TSpan.cl x0)), (26, iA v20)] ?_
            have hv24_ := cond_t hv24 (by simp only [c1] <;> rfl)
            refine AD_index (d := (some 27)) (sz := 2) (c := TSpan.cs) (by kernel_rfl) rfl (eq_TSpan_cl _) (fun _ => rfl) (by decide) hv24_ (fun tl24 => ?_)
            refine RD 5 56 [] [(0, .ro .unk x0.length (TSpan.cl x0)), (3, iA v20), (13, .ro .unk x0.length (TSpan.cl x0)), (14, iA v20), (15, .rop ([iA v22.gFrom, iA v22.gTo] ++ tl22)), (16, .rop ([iA v22.gFrom, iA v22.gTo] ++ tl22)), (17, iA v22.gFrom), (18, bA false), (19, bA false), (20, .ro .unk x0.length (TSpan.cl x0)), (21, iA v20), (22, .rop ([iA v23.gFrom, iA v23.gTo] ++ tl23)), (23, .rop ([iA v23.gFrom, iA v23.gTo] ++ tl23)), (24, iA v23.gFrom), (25, .ro .unk x0.length (TSpan.cl x0)), (26, iA v20), (27, .rop ([iA v24.gFrom, iA v24.gTo] ++ tl24)), (28, .rop ([iA v24.gTo] ++ tl24)), (29, iA v24.gTo), (30, bA (decide (v23.gFrom ≥ v24.gTo))), (31, bA (false || (decide (v23.gFrom ≥ v24.gTo)))), (32, bA (false || (decide (v23.gFrom ≥ v24.gTo))))] ?_
            cases c2 : (decide (v23.gFrom ≥ v24.gTo) : Bool) with
            | true =>
              refine RD 7 56 [] [(0, .ro .unk x0.length (TSpan.cl x0)), (3, iA v20), (13, .ro .unk x0.length (TSpan.cl x0)), (14, iA v20), (15, .rop ([iA v22.gFrom, iA v22.gTo] ++ tl22)), (16, .rop ([iA v22.gFrom, iA v22.gTo] ++ tl22)), (17, iA v22.gFrom), (18, bA false), (19, bA false), (20, .ro .unk x0.length (TSpan.cl x0)), (21, iA v20), (22, .rop ([iA v23.gFrom, iA v23.gTo] ++ tl23)), (23, .rop ([iA v23.gFrom, iA v23.gTo] ++ tl23)), (24, iA v23.gFrom), (25, .ro .unk x0.length (TSpan.cl x0)), (26, iA v20), (27, .rop ([iA v24.gFrom, iA v24.gTo] ++ tl24)), (28, .rop ([iA v24.gTo] ++ tl24)), (29, iA v24.gTo), (30, bA true), (31, bA (false || true)), (32, bA (false || true)), (33, undefA), (34, undefA), (35, undefA), (36, undefA), (37, undefA), (38, undefA), (39, bA ((false || true) || (decide (v25.gTo > 10000))))] ?_
              exact AD_here [0, 3, 39] (by kernel_rfl) rfl
            | false =>
              refine RD 2 56 [] [(0, .ro .unk x0.length (TSpan.cl x0)), (3, iA v20), (13, .ro .unk x0.length (TSpan.cl x0)), (14, iA v20), (15, .rop ([iA v22.gFrom, iA v22.gTo] ++ tl22)), (16, .rop ([iA v22.gFrom, iA v22.gTo] ++ tl22)), (17, iA v22.gFrom), (18, bA false), (19, bA false), (20, .ro .unk x0.length (TSpan.cl x0)), (21, iA v20), (22, .rop ([iA v23.gFrom, iA v23.gTo] ++ tl23)), (23, .rop ([iA v23.gFrom, iA v23.gTo] ++ tl23)), (24, iA v23.gFrom), (25, .ro .unk x0.length (TSpan.cl x0)), (26, iA v20), (27, .rop ([iA v24.gFrom, iA v24.gTo] ++ tl24)), (28, .rop ([iA v24.gTo] ++ tl24)), (29, iA v24.gTo), (30, bA false), (31, bA (false || false)), (32, bA (false || false)), (33, .ro .unk x0.length (TSpan.cl x0)), (34, iA v20)] ?_
              have hv25_ := cond_t hv25 (by simp only [c1, c2] <;> rfl)
              refine AD_index (d := (some 35)) (sz := 2) (c := TSpan.cs) (by kernel_rfl) rfl (eq_TSpan_cl _) (fun _ => rfl) (by decide) hv25_ (fun tl25 => ?_)
              refine RD 4 56 [] [(0, .ro .unk x0.length (TSpan.cl x0)), (3, iA v20), (13, .ro .unk x0.length (TSpan.cl x0)), (14, iA v20), (15, .rop ([iA v22.gFrom, iA v22.gTo] ++ tl22)), (16, .rop ([iA v22.gFrom, iA v22.gTo] ++ tl22)), (17, iA v22.gFrom), (18, bA false), (19, bA false), (20, .ro .unk x0.length (TSpan.cl x0)), (21, iA v20), (22, .rop ([iA v23.gFrom, iA v23.gTo] ++ tl23)), (23, .rop ([iA v23.gFrom, iA v23.gTo] ++ tl23)), (24, iA v23.gFrom), (25, .ro .unk x0.length (TSpan.cl x0)), (26, iA v20), (27, .rop ([iA v24.gFrom, iA v24.gTo] ++ tl24)), (28, .rop ([iA v24.gTo] ++ tl24)), (29, iA v24.gTo), (30, bA false), (31, bA (false || false)), (32, bA (false || false)), (33, .ro .unk x0.length (TSpan.cl x0)), (34, iA v20), (35, .rop ([iA v25.gFrom, iA v25.gTo] ++ tl25)), (36, .rop ([iA v25.gTo] ++ tl25)), (37, iA v25.gTo), (38, bA (decide (v25.gTo > 10000))), (39, bA ((false || false) || (decide (v25.gTo > 10000))))] ?_
              exact AD_here [0, 3, 39] (by kernel_rfl) rfl
        refine CD H (fun hb26 H => ?_) (fun hb26 H => ?_)
        · refine AWP_reg (Rh 1 56 [(2, iA 3)] (AOps_done ?_))
          exact AWP_ret (FR H)
        · refine AWP_skip ?_
          show AWP _ _ _ _ _ _ _
          obtain ⟨v27, hv27, H⟩ := bind_some H
          obtain ⟨v28, hv28, H⟩ := bind_some H
          refine AWP_regD1 [0, 1, 2, 3, 4, 5, 6, 7, 8, 9, 10, 11, 12, 13, 14, 15] (N := 56) (f := [(0, .ro .unk x0.length (TSpan.cl x0)), (3, iA v20)]) (leL_of [0, 3] (by kernel_rfl)) mixed (by kernel_rfl) (by kernel_rfl) (st' := fr 56 [(0, .ro .unk x0.length (TSpan.cl x0)), (3, iA v20), (55, bA ((decide (v20 > 0)) && (decide (v27.gFrom ≤ v28.gTo))))]) (h' := []) ?_ ?_
          rotate_left
          · refine RD 3 56 [] [(0, .ro .unk x0.length (TSpan.cl x0)), (3, iA v20), (40, iA v20), (41, bA (decide (v20 > 0))), (42, bA (decide (v20 > 0)))] ?_
            cases c1 : (decide (v20 > 0) : Bool) with
            | true =>
              refine RD 2 56 [] [(0, .ro .unk x0.length (TSpan.cl x0)), (3, iA v20), (40, iA v20), (41, bA true), (42, bA true), (43, .ro .unk x0.length (TSpan.cl x0)), (44, iA v20)] ?_
              have hv27_ := cond_t hv27 (by simp only [c1] <;> rfl)
              refine AD_index (d := (some 45)) (sz := 2) (c := TSpan.cs) (by kernel_rfl) rfl (eq_TSpan_cl _) (fun _ => rfl) (by decide) hv27_ (fun tl27 => ?_)
              refine RD 5 56 [] [(0, .ro .unk x0.length (TSpan.cl x0)), (3, iA v20), (40, iA v20), (41, bA true), (42, bA true), (43, .ro .unk x0.length (TSpan.cl x0)), (44, iA v20), (45, .rop ([iA v27.gFrom, iA v27.gTo] ++ tl27)), (46, .rop ([iA v27.gFrom, iA v27.gTo] ++ tl27)), (47, iA v27.gFrom), (48, .ro .unk x0.length (TSpan.cl x0)), (49, iA v20), (50, iA (w64 (v20 - 1)))] ?_
              have hv28_ := cond_t hv28 (by simp only [c1] <;> rfl)
              refine AD_index (d := (some 51)) (sz := 2) (c := TSpan.cs) (by kernel_rfl) rfl (eq_TSpan_cl _) (fun _ => rfl) (by decide) hv28_ (fun tl28 => ?_)
              refine RD 4 56 [] [(0, .ro .unk x0.length (TSpan.cl x0)), (3, iA v20), (40, iA v20), (41, bA true), (42, bA true), (43, .ro .unk x0.length (TSpan.cl x0)), (44, iA v20), (45, .rop ([iA v27.gFrom, iA v27.gTo] ++ tl27)), (46, .rop ([iA v27.gFrom, iA v27.gTo] ++ tl27)), (47, iA v27.gFrom), (48, .ro .unk x0.length (TSpan.cl x0)), (49, iA v20), (50, iA (w64 (v20 - 1))), (51, .rop ([iA v28.gFrom, iA v28.gTo] ++ tl28)), (52, .rop ([iA v28.gTo] ++ tl28)), (53, iA v28.gTo), (54, bA (decide (v27.gFrom ≤ v28.gTo))), (55, bA (true && (decide (v27.gFrom ≤ v28.gTo))))] ?_
              exact AD_here [0, 3, 55] (by kernel_rfl) rfl
            | false =>
              refine RD 13 56 [] [(0, .ro .unk x0.length (TSpan.cl x0)), (3, iA v20), (40, iA v20), (41, bA false), (42, bA false), (43, undefA), (44, undefA), (45, undefA), (46, undefA), (47, undefA), (48, undefA), (49, undefA), (50, undefA), (51, undefA), (52, undefA), (53, undefA), (54, undefA), (55, bA (false && (decide (v27.gFrom ≤ v28.gTo))))] ?_
              exact AD_here [0, 3, 55] (by kernel_rfl) rfl
          refine CD H (fun hb29 H => ?_) (fun hb29 H => ?_)
          · refine AWP_reg (Rh 1 56 [(2, iA 9)] (AOps_done ?_))
            exact AWP_ret (FR H)
          · refine AWP_skip ?_
            show AWP _ _ _ _ _ _ _
            refine AWP_region ?_
            refine Rh 3 56 [(0, .ro .unk x0.length (TSpan.cl x0)), (3, iA (w64 (v20 + 1)))] (AOps_done ?_)
            exact Exists.intro (w64 (v20 + 1)) (Exists.intro n ⟨by omega, ⟨by omega, H⟩, Norm_fd [0, 3] 0 (by kernel_rfl) rfl rfl trivial (by refine scL_fr ?_; exact ⟨(scl_TSpan_cl _ _), trivial, trivial⟩)⟩)
      · refine AWP_exit ?_
        show AWP _ _ _ _ _ _ _
        refine AWP_reg (Rh 1 56 [(2, iA 0)] (AOps_done ?_))
        exact AWP_ret (FR H)
end Go.Proofs.YtjhbobacbaikoaaGreatDoor
/- Splits, spans, Serves, keys of contexts, segments, prerequisites, targets: the program and the reference agree. -/
namespace Go.Proofs.YtjhbobacbaikoaaGreatDoor
open Go
set_option linter.unusedVariables false
set_option linter.unusedSimpArgs false
theorem dec_ge (a b : Int) : decide (a ≥ b) = !decide (a < b) := by
  by_cases h : a < b
  · rw [decide_eq_true h, decide_eq_false (by omega)]; rfl
  · rw [decide_eq_false h, decide_eq_true (by omega)]; rfl
theorem bneT {e : Int} (h : ¬ e = 0) : (e != 0) = true := by rw [bne_iff_ne]; exact h
theorem lI_in {α : Type} {l : List α} {i : Nat} (h : i < l.length) : decide ((i : Int) < lI l) = true := decide_eq_true (by unfold lI; omega)
theorem lI_out {α : Type} {l : List α} : decide (((l.length : Nat) : Int) < lI l) = false := decide_eq_false (by unfold lI; omega)
theorem long_no {α : Type} {l : List α} {k : Nat} (h : ¬ lI l > (k : Int)) : l.length ≤ k := by unfold lI at h; omega
theorem split_bi (l : List TRange) (m : Int) : ∃ v, Al fun n => p_shape_Split n l m = some v ∧ p_ref6_Split n l m = some v := by
  unfold p_shape_Split p_ref6_Split
  by_cases hl : lI l > 16
  · exact ⟨5, .of fun n => by rw [decide_eq_true hl]; exact ⟨rfl, rfl⟩⟩
  · rw [decide_eq_false hl]
    have hlen : l.length ≤ 16 := long_no (k := 16) hl
    have key : ∀ (q i : Nat) (f a u : Int), i + q = l.length → (∀ (h : 0 < i) (hi : i - 1 < l.length), u = l[i - 1].gVariation) → (i = 0 → u = 0) → ∃ v, Al fun n => p_shape_Split_L1 n l m i f a u = some v ∧ p_ref6_Split_L1 n l m a i = some v := by
      intro q
      induction q with
      | zero =>
        intro i f a u hi _ _
        obtain rfl : i = l.length := by omega
        refine ⟨if (a != 10000) = true then 3 else 0, Al.succ (.of fun n => ?_)⟩
        rw [p_shape_Split_L1, p_ref6_Split_L1, lI_out]
        simp only [cond_false, when_eq, Option.bind_some]
        cases (a != 10000) <;> simp
      | succ q ih =>
        intro i f a u hi h0 h1
        have hil : i < l.length := by omega
        have hd := lI_in hil
        have hr := rdO_nat hil
        have hprev : ∀ h : 0 < i, rdO l (w64 ((i : Int) - 1)) = some (l[i - 1]'(by omega)) := fun h => rdO_pred h hil (by omega)
        by_cases c1 : l[i].gVariation < 1
        · refine ⟨3, Al.succ (.of fun n => ?_)⟩
          rw [p_shape_Split_L1, p_ref6_Split_L1, hd]
          simp [hr, c1]
        · by_cases c2 : l[i].gVariation > m
          · refine ⟨3, Al.succ (.of fun n => ?_)⟩
            rw [p_shape_Split_L1, p_ref6_Split_L1, hd]
            simp [hr, c1, c2]
          · have hvar : (l[i].gVariation == u) = (decide ((i : Int) > 0) && (l[i].gVariation == (if h : 0 < i then (l[i - 1]'(by omega)).gVariation else 0))) := by
              by_cases hz : 0 < i
              · rw [decide_eq_true (show (i : Int) > 0 by omega), dif_pos hz, ← h0 hz (by omega)]; rfl
              · rw [decide_eq_false (show ¬ (i : Int) > 0 by omega), h1 (by omega)]
                rw [beq_eq_false_iff_ne.2 (by omega)]; rfl
            by_cases c3 : l[i].gFrom = a
            · by_cases c4 : l[i].gTo ≤ a
              · refine ⟨9, Al.succ (.of fun n => ?_)⟩
                rw [p_shape_Split_L1, p_ref6_Split_L1, hd]
                simp [hr, c1, c2, c3, c4]
              · by_cases hz : 0 < i
                · have hz' : (i : Int) > 0 := by omega
                  have hu := h0 hz (by omega)
                  by_cases c5 : l[i].gVariation = u
                  · refine ⟨9, Al.succ (.of fun n => ?_)⟩
                    rw [p_shape_Split_L1, p_ref6_Split_L1, hd]
                    have c6 : l[i].gVariation = l[i - 1].gVariation := by rw [c5, hu]
                    rw [hprev hz, decide_eq_true hz']
                    rw [c5] at c1 c2
                    simp [hr, c1, c2, c3, c4, c5, ← hu]
                  · obtain ⟨v, hv⟩ := ih (i + 1) l[i].gFrom l[i].gTo l[i].gVariation (by omega) (fun _ _ => rfl) (fun h => by omega)
                    refine ⟨v, Al.succ (hv.mono fun n ⟨a1, a2⟩ => ?_)⟩
                    rw [p_shape_Split_L1, p_ref6_Split_L1, hd]
                    have c6 : ¬ l[i].gVariation = l[i - 1].gVariation := by rw [← hu]; exact c5
                    rw [hprev hz, decide_eq_true hz', w64_add (by omega)]
                    rw [c3] at a1
                    generalize ((i + 1 : Nat) : Int) = J at a1 a2 ⊢
                    simp [hr, c1, c2, c3, c4, beq_eq_false_iff_ne.2 c5, beq_eq_false_iff_ne.2 c6, a1, a2]
                · have hz' : ¬ (i : Int) > 0 := by omega
                  have hu := h1 (by omega)
                  have c5 : ¬ l[i].gVariation = u := by omega
                  obtain ⟨v, hv⟩ := ih (i + 1) l[i].gFrom l[i].gTo l[i].gVariation (by omega) (fun _ _ => rfl) (fun h => by omega)
                  refine ⟨v, Al.succ (hv.mono fun n ⟨a1, a2⟩ => ?_)⟩
                  rw [p_shape_Split_L1, p_ref6_Split_L1, hd]
                  rw [decide_eq_false hz', w64_add (by omega)]
                  rw [c3] at a1
                  generalize ((i + 1 : Nat) : Int) = J at a1 a2 ⊢
                  simp [hr, c1, c2, c3, c4, beq_eq_false_iff_ne.2 c5, a1, a2]
            · refine ⟨9, Al.succ (.of fun n => ?_)⟩
              have c3' : (l[i].gFrom != a) = true := by rw [bne_iff_ne]; exact c3
              rw [p_shape_Split_L1, p_ref6_Split_L1, hd]
              simp [hr, c1, c2, c3']
    simp only [cond_false]
    exact key l.length 0 0 0 0 (by omega) (fun h => absurd h (Nat.lt_irrefl _)) (fun _ => rfl)
theorem spans_bi (l : List TSpan) : ∃ v, Al fun n => p_shape_Spans n l = some v ∧ p_ref6_Spans n l = some v := by
  unfold p_shape_Spans p_ref6_Spans
  by_cases hl : lI l > 16
  · exact ⟨5, .of fun n => by rw [decide_eq_true hl]; exact ⟨rfl, rfl⟩⟩
  · rw [decide_eq_false hl]
    have hlen : l.length ≤ 16 := long_no (k := 16) hl
    simp only [cond_false]
    refine loop2 (fun n i => p_shape_Spans_L1 n l i) (fun n i => p_ref6_Spans_L1 n l i) l.length (fun i hi => ?_) ⟨0, .of fun n => ?_⟩ 0 (by omega)
    · have hd := lI_in hi
      have hr := rdO_nat hi
      by_cases c1 : l[i].gFrom < 0
      · refine .inl ⟨3, .of fun n => ?_⟩
        have : ¬ 0 ≤ l[i].gFrom := by omega
        rw [p_shape_Spans_L1, p_ref6_Spans_L1, hd]
        simp [hr, c1, p_shape_inside, this]
      · have c1' : 0 ≤ l[i].gFrom := by omega
        by_cases c2 : l[i].gFrom ≥ l[i].gTo
        · refine .inl ⟨3, .of fun n => ?_⟩
          have c2' : ¬ l[i].gFrom < l[i].gTo := by omega
          rw [p_shape_Spans_L1, p_ref6_Spans_L1, hd]
          simp [hr, c1, c1', p_shape_inside, c2, c2']
        · have c2' : l[i].gFrom < l[i].gTo := by omega
          by_cases c3 : l[i].gTo > 10000
          · refine .inl ⟨3, .of fun n => ?_⟩
            have c3' : ¬ l[i].gTo ≤ 10000 := by omega
            rw [p_shape_Spans_L1, p_ref6_Spans_L1, hd]
            simp [hr, c1, c1', p_shape_inside, c2, c2', c3, c3']
          · have c3' : l[i].gTo ≤ 10000 := by omega
            have c2'' : ¬ l[i].gTo ≤ l[i].gFrom := by omega
            by_cases hz : 0 < i
            · have hz' : (i : Int) > 0 := by omega
              have hp := rdO_pred hz hi (by omega)
              by_cases c4 : l[i].gFrom ≤ l[i - 1].gTo
              · refine .inl ⟨9, .of fun n => ?_⟩
                rw [p_shape_Spans_L1, p_ref6_Spans_L1, hd, hp, decide_eq_true hz']
                simp [hr, c1, c1', p_shape_inside, c2'', c2', c3, c3', c4]
              · refine .inr (.of fun n => ?_)
                rw [p_shape_Spans_L1, p_ref6_Spans_L1, hd, hp, decide_eq_true hz', w64_add (by omega)]
                simp [hr, c1, c1', p_shape_inside, c2'', c2', c3, c3', c4]
            · have hz' : ¬ (i : Int) > 0 := by omega
              refine .inr (.of fun n => ?_)
              rw [p_shape_Spans_L1, p_ref6_Spans_L1, hd, decide_eq_false hz', w64_add (by omega)]
              simp [hr, c1, c1', p_shape_inside, c2'', c2', c3, c3']
    · rw [p_shape_Spans_L1, p_ref6_Spans_L1, lI_out]
      exact ⟨rfl, rfl⟩
def TServe.sm (x : TServe) : Prop := x.gKind.size < 4294967281 ∧ x.gBy.size < 4294967281
theorem serve_bi (x : TServe) (m : Int) (hx : x.sm) : ∃ v, Al fun n => p_shape_Serve n x m = some v ∧ p_ref6_Serve n x m = some v := by
  by_cases h0 : x.gVariation = 0
  · obtain ⟨k1, h1⟩ := key_bi x.gKind (by have := hx.1; omega)
    obtain ⟨k2, h2⟩ := key_bi x.gBy (by have := hx.2; omega)
    obtain ⟨b, h3⟩ := valid_bi x.gSalt
    obtain ⟨s, h4⟩ := split_bi x.gSplit m
    have hf := first_al [if (!k1 || !k2) = true then 6 else 0, if (!b) = true then 2 else 0, s] (by simp)
    refine ⟨fst0 [if (!k1 || !k2) = true then 6 else 0, if (!b) = true then 2 else 0, s], (h1.and (h2.and (h3.and (h4.and hf)))).mono fun n ⟨⟨a1, b1⟩, ⟨a2, b2⟩, ⟨a3, b3⟩, ⟨a4, b4⟩, a5⟩ => ?_⟩
    unfold p_shape_Serve p_ref6_Serve
    have e0 : (x.gVariation != 0) = false := by rw [h0]; rfl
    rw [e0, a1, b1, a2, b2, a3, b3, a4, b4]
    cases k1 <;> cases k2 <;> cases b <;> simp_all [when_eq, fst0, bneT]
  · have e0 : (x.gVariation != 0) = true := by rw [bne_iff_ne]; exact h0
    generalize hc1 : (decide (x.gVariation < 1) || decide (x.gVariation > m)) = c1
    generalize hc2 : (((!seq' x.gKind ByteArray.empty || !seq' x.gBy ByteArray.empty) || !seq' x.gSalt ByteArray.empty) || decide (lI x.gSplit > 0)) = c2
    have hf := first_al [if c1 = true then 3 else 0, if c2 = true then 15 else 0] (by simp)
    refine ⟨fst0 [if c1 = true then 3 else 0, if c2 = true then 15 else 0], hf.mono fun n a => ?_⟩
    unfold p_shape_Serve p_ref6_Serve
    rw [e0, hc1, hc2]
    cases c1 <;> cases c2 <;> simp_all [when_eq, fst0, bneT]
/-- Sizes of keys. -/
theorem keys_bi (l : List ByteArray) : ∃ v, Al fun n => p_shape_keys n l = some v ∧ p_ref6_members n l = some v := by
  unfold p_shape_keys p_ref6_members
  by_cases hl : lI l > 40
  · exact ⟨5, .of fun n => by rw [decide_eq_true hl]; exact ⟨rfl, rfl⟩⟩
  · rw [decide_eq_false hl]
    have hlen : l.length ≤ 40 := long_no (k := 40) hl
    simp only [cond_false]
    refine loop2 (fun n i => p_shape_keys_L1 n l i) (fun n i => p_ref6_members_L1 n l i) l.length (fun i hi => ?_) ⟨0, .of fun n => ?_⟩ 0 (by omega)
    · have hd := lI_in hi
      have hr := rdO_nat hi
      obtain ⟨b, hb⟩ := valid_bi l[i]
      cases c1 : seq' l[i] ByteArray.empty with
      | true =>
        refine .inl ⟨2, .of fun n => ?_⟩
        rw [p_shape_keys_L1, p_ref6_members_L1, hd]
        simp [hr, c1]
      | false =>
        cases b with
        | false =>
          refine .inl ⟨2, hb.mono fun n ⟨a1, a2⟩ => ?_⟩
          rw [p_shape_keys_L1, p_ref6_members_L1, hd]
          simp [hr, c1, a1, a2]
        | true =>
          by_cases hz : 0 < i
          · have hz' : (i : Int) > 0 := by omega
            have hp := rdO_pred hz hi (by omega)
            cases c4 : sle' l[i] l[i - 1] with
            | true =>
              refine .inl ⟨9, hb.mono fun n ⟨a1, a2⟩ => ?_⟩
              rw [p_shape_keys_L1, p_ref6_members_L1, hd, hp, decide_eq_true hz']
              simp [hr, c1, a1, a2, c4]
            | false =>
              refine .inr (hb.mono fun n ⟨a1, a2⟩ => ?_)
              rw [p_shape_keys_L1, p_ref6_members_L1, hd, hp, decide_eq_true hz', w64_add (by omega)]
              simp [hr, c1, a1, a2, c4]
          · have hz' : ¬ (i : Int) > 0 := by omega
            refine .inr (hb.mono fun n ⟨a1, a2⟩ => ?_)
            rw [p_shape_keys_L1, p_ref6_members_L1, hd, decide_eq_false hz', w64_add (by omega)]
            simp [hr, c1, a1, a2]
    · rw [p_shape_keys_L1, p_ref6_members_L1, lI_out]
      exact ⟨rfl, rfl⟩
def TSegment.sm (x : TSegment) : Prop := x.gKey.size < 4294967281 ∧ x.gKind.size < 4294967281 ∧ x.gWhen.sm
theorem segment_bi (x : TSegment) (hx : x.sm) : ∃ v, Al fun n => p_shape_Segment n x = some v ∧ p_ref6_Segment n x = some v := by
  obtain ⟨k1, h1⟩ := key_bi x.gKey (by have := hx.1; omega)
  obtain ⟨k2, h2⟩ := key_bi x.gKind (by have := hx.2.1; omega)
  obtain ⟨e1, h3⟩ := keys_bi x.gInclude
  obtain ⟨e2, h4⟩ := keys_bi x.gExclude
  obtain ⟨e3, h5⟩ := expr_bi x.gWhen hx.2.2
  obtain ⟨b, hb⟩ : ∃ b, ∀ n, p_shape_None n x.gWhen = some b := ⟨_, fun n => rfl⟩
  have hb' : ∀ n, p_ref6_None n x.gWhen = some b := fun n => by rw [← none_eq]; exact hb n
  have hf := first_al [if (!k1 || !k2) = true then 6 else 0, e1, e2] (by simp)
  refine ⟨if fst0 [if (!k1 || !k2) = true then 6 else 0, e1, e2] = 0 then (if b = true then 0 else e3) else fst0 [if (!k1 || !k2) = true then 6 else 0, e1, e2],
    (h1.and (h2.and (h3.and (h4.and (h5.and hf))))).mono fun n ⟨⟨a1, b1⟩, ⟨a2, b2⟩, ⟨a3, b3⟩, ⟨a4, b4⟩, ⟨a5, b5⟩, a6⟩ => ?_⟩
  unfold p_shape_Segment p_ref6_Segment
  rw [a1, b1, a3, b3, a4, b4, a5, b5, hb, hb']
  by_cases z1 : e1 = 0 <;> by_cases z2 : e2 = 0 <;> cases k1 <;> cases k2 <;> cases b <;> simp_all [when_eq, fst0, bneT]
theorem prereq_bi (l : List TPrerequisite) (hs : ∀ x ∈ l, x.gFlag.size < 4294967281) : ∃ v, Al fun n => p_shape_prerequisites n l = some v ∧ p_ref6_prerequisites n l = some v := by
  unfold p_shape_prerequisites p_ref6_prerequisites
  by_cases hl : lI l > 4
  · exact ⟨5, .of fun n => by rw [decide_eq_true hl]; exact ⟨rfl, rfl⟩⟩
  · rw [decide_eq_false hl]
    have hlen : l.length ≤ 4 := long_no (k := 4) hl
    simp only [cond_false]
    refine loop2 (fun n i => p_shape_prerequisites_L1 n l i) (fun n i => p_ref6_prerequisites_L1 n l i) l.length (fun i hi => ?_) ⟨0, .of fun n => ?_⟩ 0 (by omega)
    · have hd := lI_in hi
      have hr := rdO_nat hi
      obtain ⟨k, hk⟩ := key_bi l[i].gFlag (by have := hs _ (List.getElem_mem hi); omega)
      have hprev : ∀ h : 0 < i, (if 0 > w64 ((i : Int) - 1) then 0 else w64 ((i : Int) - 1)) = w64 ((i : Int) - 1) := by
        intro h; rw [w64_pred h (by omega)]; exact if_neg (by omega)
      generalize hq1 : decide (l[i].gVariation < 1) = q1
      generalize hq2 : decide (l[i].gVariation > 8) = q2
      by_cases hz : 0 < i
      · have hz' := decide_eq_true (show (i : Int) > 0 by omega)
        have hp := rdO_pred hz hi (by omega)
        generalize hc : sle' l[i].gFlag l[i - 1].gFlag = c
        have hf := first_al [if (!k) = true then 6 else 0, if c = true then 9 else 0, if (q1 || q2) = true then 3 else 0] (by simp)
        by_cases hv : fst0 [if (!k) = true then 6 else 0, if c = true then 9 else 0, if (q1 || q2) = true then 3 else 0] = 0
        · refine .inr ((hk.and hf).mono fun n ⟨⟨a1, a2⟩, a3⟩ => ?_)
          rw [p_shape_prerequisites_L1, p_ref6_prerequisites_L1, hd, hprev hz, hp, hz', w64_add (by omega)]
          simp only [cond_true, hr, Option.bind_some, a1, a2, when_eq, hq1, Bool.true_and, hc, hq2, a3]
          clear a1 a2 a3 hf hk
          revert hv
          cases k <;> cases c <;> cases q1 <;> simp only [Bool.not_false, Bool.not_true, cond_true, cond_false, Option.bind_some, hq2] <;> cases q2 <;> simp [fst0, hq2]
        · refine .inl ⟨fst0 [if (!k) = true then 6 else 0, if c = true then 9 else 0, if (q1 || q2) = true then 3 else 0], (hk.and hf).mono fun n ⟨⟨a1, a2⟩, a3⟩ => ?_⟩
          rw [p_shape_prerequisites_L1, p_ref6_prerequisites_L1, hd, hprev hz, hp, hz', w64_add (by omega)]
          simp only [cond_true, hr, Option.bind_some, a1, a2, when_eq, hq1, Bool.true_and, hc, hq2, a3]
          clear a1 a2 a3 hf hk
          revert hv
          cases k <;> cases c <;> cases q1 <;> simp only [Bool.not_false, Bool.not_true, cond_true, cond_false, Option.bind_some, hq2] <;> cases q2 <;> simp [fst0, hq2]
      · have hz' := decide_eq_false (show ¬ (i : Int) > 0 by omega)
        have hf := first_al [if (!k) = true then 6 else 0, if false = true then 9 else 0, if (q1 || q2) = true then 3 else 0] (by simp)
        by_cases hv : fst0 [if (!k) = true then 6 else 0, if false = true then 9 else 0, if (q1 || q2) = true then 3 else 0] = 0
        · refine .inr ((hk.and hf).mono fun n ⟨⟨a1, a2⟩, a3⟩ => ?_)
          rw [p_shape_prerequisites_L1, p_ref6_prerequisites_L1, hd, hz', w64_add (by omega)]
          simp only [cond_true, cond_false, hr, Option.bind_some, a1, a2, when_eq, hq1, Bool.false_and, hq2, a3]
          clear a1 a2 a3 hf hk
          revert hv
          cases k <;> cases q1 <;> simp only [Bool.not_false, Bool.not_true, cond_true, cond_false, Option.bind_some, hq2] <;> cases q2 <;> simp [fst0, hq2]
        · refine .inl ⟨fst0 [if (!k) = true then 6 else 0, if false = true then 9 else 0, if (q1 || q2) = true then 3 else 0], (hk.and hf).mono fun n ⟨⟨a1, a2⟩, a3⟩ => ?_⟩
          rw [p_shape_prerequisites_L1, p_ref6_prerequisites_L1, hd, hz', w64_add (by omega)]
          simp only [cond_true, cond_false, hr, Option.bind_some, a1, a2, when_eq, hq1, Bool.false_and, hq2, a3]
          clear a1 a2 a3 hf hk
          revert hv
          cases k <;> cases q1 <;> simp only [Bool.not_false, Bool.not_true, cond_true, cond_false, Option.bind_some, hq2] <;> cases q2 <;> simp [fst0, hq2]
    · rw [p_shape_prerequisites_L1, p_ref6_prerequisites_L1, lI_out]
      exact ⟨rfl, rfl⟩
theorem targets_bi (l : List TTarget) (m : Int) (hs : ∀ x ∈ l, x.gKind.size < 4294967281) : ∃ v, Al fun n => p_shape_targets n l m = some v ∧ p_ref6_targets n l m = some v := by
  unfold p_shape_targets p_ref6_targets
  by_cases hl : lI l > 8
  · exact ⟨5, .of fun n => by rw [decide_eq_true hl]; exact ⟨rfl, rfl⟩⟩
  · rw [decide_eq_false hl]
    have hlen : l.length ≤ 8 := long_no (k := 8) hl
    simp only [cond_false]
    refine loop2 (fun n i => p_shape_targets_L1 n l m i) (fun n i => p_ref6_targets_L1 n l m i) l.length (fun i hi => ?_) ⟨0, .of fun n => ?_⟩ 0 (by omega)
    · have hd := lI_in hi
      have hr := rdO_nat hi
      obtain ⟨k, hk⟩ := key_bi l[i].gKind (by have := hs _ (List.getElem_mem hi); omega)
      obtain ⟨e, he⟩ := keys_bi l[i].gKeys
      generalize hq1 : decide (l[i].gVariation < 1) = q1
      generalize hq2 : decide (l[i].gVariation > m) = q2
      generalize hq3 : (lI l[i].gKeys == 0) = q3
      have hf := first_al [if (!k) = true then 6 else 0, if (q1 || q2) = true then 3 else 0, if q3 = true then 3 else 0, e] (by simp)
      by_cases hv : fst0 [if (!k) = true then 6 else 0, if (q1 || q2) = true then 3 else 0, if q3 = true then 3 else 0, e] = 0
      · refine .inr ((hk.and (he.and hf)).mono fun n ⟨⟨a1, a2⟩, ⟨a4, a5⟩, a3⟩ => ?_)
        rw [p_shape_targets_L1, p_ref6_targets_L1, hd, w64_add (by omega)]
        simp only [cond_true, hr, Option.bind_some, a1, a2, when_eq, hq1, hq2, hq3, a3, a4, a5]
        clear a1 a2 a3 a4 a5 hf hk he
        revert hv
        by_cases z : e = 0 <;> cases k <;> cases q1 <;> simp only [Bool.not_false, Bool.not_true, cond_true, cond_false, Option.bind_some, hq2] <;> cases q2 <;> simp only [Bool.not_false, Bool.not_true, Bool.or_true, Bool.or_false, Bool.false_or, Bool.true_or, cond_true, cond_false, Option.bind_some, hq3] <;> cases q3 <;> simp [fst0, bneT, z]
      · refine .inl ⟨fst0 [if (!k) = true then 6 else 0, if (q1 || q2) = true then 3 else 0, if q3 = true then 3 else 0, e], (hk.and (he.and hf)).mono fun n ⟨⟨a1, a2⟩, ⟨a4, a5⟩, a3⟩ => ?_⟩
        rw [p_shape_targets_L1, p_ref6_targets_L1, hd, w64_add (by omega)]
        simp only [cond_true, hr, Option.bind_some, a1, a2, when_eq, hq1, hq2, hq3, a3, a4, a5]
        clear a1 a2 a3 a4 a5 hf hk he
        revert hv
        by_cases z : e = 0 <;> cases k <;> cases q1 <;> simp only [Bool.not_false, Bool.not_true, cond_true, cond_false, Option.bind_some, hq2] <;> cases q2 <;> simp only [Bool.not_false, Bool.not_true, Bool.or_true, Bool.or_false, Bool.false_or, Bool.true_or, cond_true, cond_false, Option.bind_some, hq3] <;> cases q3 <;> simp [fst0, bneT, z]
    · rw [p_shape_targets_L1, p_ref6_targets_L1, lI_out]
      exact ⟨rfl, rfl⟩
end Go.Proofs.YtjhbobacbaikoaaGreatDoor
/- Functions of the program as pure functions, and that the program computes these. -/
namespace Go.Proofs.YtjhbobacbaikoaaGreatDoor
open Go
set_option linter.unusedVariables false
set_option linter.unusedSimpArgs false
set_option maxRecDepth 100000
def p_shape_Layer_L1 (n : Nat) (x0 : TLayer) (v22 : Int) : Option Int := match n with
| 0 => none
| n + 1 =>
(bif decide (v22 < (lI x0.gCooling)) then
(rdO x0.gCooling v22).bind fun v24 =>
(p_shape_inside n v24.gFrom v24.gTo).bind fun v25 =>
(bif ((!v25) || (decide (v24.gUntil < 0))) || (decide (v24.gUntil > 1099511627776)) then
 some (3)
 else
(bif decide (v22 > 0) then rdO x0.gCooling (w64 (v22 - 1)) else some ({ gFrom := 0, gTo := 0, gUntil := 0 } : TCool)).bind fun v27 =>
(bif (decide (v22 > 0)) && (decide (v24.gFrom < v27.gTo)) then
 some (9)
 else
 p_shape_Layer_L1 n x0 (w64 (v22 + 1))))
 else
 some (0))
def p_shape_Layer (n : Nat) (x0 : TLayer) : Option Int :=
(p_text_Key n x0.gKey).bind fun v1 =>
(bif !(!v1) then p_text_Key n x0.gKind else some (false)).bind fun v2 =>
(p_shape_when n ((!v1) || (!v2)) 6).bind fun v3 =>
(p_text_Valid n x0.gSalt).bind fun v4 =>
(p_shape_when n (!v4) 2).bind fun v5 =>
(p_shape_when n ((((decide (x0.gHoldout < 0)) || (decide (x0.gHoldout > 10000))) || (decide (x0.gCool < 0))) || (decide (x0.gCool > 1099511627776))) 3).bind fun v6 =>
(p_shape_when n (decide ((lI x0.gCooling) > 32)) 5).bind fun v7 =>
(p_shape_first n ([v3, v5, v6, v7])).bind fun v8 =>
(bif v8 != 0 then
 some (v8)
 else
 p_shape_Layer_L1 n x0 0)
def p_ref6_Layer_L1 (n : Nat) (x0 : TLayer) (v18 : Int) : Option Int := match n with
| 0 => none
| n + 1 =>
(bif decide (v18 < (lI x0.gCooling)) then
(rdO x0.gCooling v18).bind fun v20 =>
(bif ((((decide (v20.gFrom < 0)) || (decide (v20.gFrom ≥ v20.gTo))) || (decide (v20.gTo > 10000))) || (decide (v20.gUntil < 0))) || (decide (v20.gUntil > 1099511627776)) then
 some (3)
 else
(bif decide (v18 > 0) then rdO x0.gCooling (w64 (v18 - 1)) else some ({ gFrom := 0, gTo := 0, gUntil := 0 } : TCool)).bind fun v22 =>
(bif (decide (v18 > 0)) && (decide (v20.gFrom < v22.gTo)) then
 some (9)
 else
 p_ref6_Layer_L1 n x0 (w64 (v18 + 1))))
 else
 some (0))
def p_ref6_Layer (n : Nat) (x0 : TLayer) : Option Int :=
(p_ref1_Key n x0.gKey).bind fun v1 =>
(bif !(!v1) then p_ref1_Key n x0.gKind else some (false)).bind fun v2 =>
(bif (!v1) || (!v2) then
 some (6)
 else
(p_ref1_Valid n x0.gSalt).bind fun v4 =>
(bif !v4 then
 some (2)
 else
(bif (((decide (x0.gHoldout < 0)) || (decide (x0.gHoldout > 10000))) || (decide (x0.gCool < 0))) || (decide (x0.gCool > 1099511627776)) then
 some (3)
 else
(bif decide ((lI x0.gCooling) > 32) then
 some (5)
 else
 p_ref6_Layer_L1 n x0 0))))
variable {E : Env}
theorem s_shape_Layer {n : Nat} (hG : GlobT E) {x0 : TLayer} {r : Int} (H : p_shape_Layer n x0 = some r) :
    Sp Tryz.prog E 38 [.agg (TLayer.cs x0)] [] (isA (iA r) []) := by
  unfold p_shape_Layer at H
  refine Sp_fn Tryz.func38 rfl (fun hc hs => ?_)
  refine AWP_reg (R 2 90 [(1, .ptr 0 0)] [.cells 74 (TLayer.cs x0)] (AOps_done (AWP_seq ?_)))
  obtain ⟨v1, hv1, H⟩ := bind_some H
  obtain ⟨v2, hv2, H⟩ := bind_some H
  obtain ⟨v3, hv3, H⟩ := bind_some H
  obtain ⟨v4, hv4, H⟩ := bind_some H
  obtain ⟨v5, hv5, H⟩ := bind_some H
  obtain ⟨v6, hv6, H⟩ := bind_some H
  obtain ⟨v7, hv7, H⟩ := bind_some H
  obtain ⟨v8, hv8, H⟩ := bind_some H
  refine AWP_regD1 [0, 1, 11, 12, 16, 17, 18, 35, 36, 37, 38, 2, 3, 4, 5, 6, 7, 8, 9, 10, 13, 14, 15, 19, 20, 21, 22, 23, 24, 25, 26, 27, 28, 29, 30, 31, 32, 33, 34, 39, 40, 41, 42] (N := 90) (f := [(1, .ptr 0 0)]) (leL_of [1] (by kernel_rfl)) mixed (by kernel_rfl) (by kernel_rfl) (st' := fr 90 [(1, .ptr 0 0), (3, iA v8)]) (h' := [.cells 74 (TLayer.cs x0)]) ?_ ?_
  rotate_left
  · refine RD 11 90 [(36, 0), (35, 0), (17, 0), (16, 0), (12, 0), (11, 0), (1, 0), (0, 0)] [(1, .ptr 0 0), (6, .ptr 0 0), (7, sA x0.gKey), (17, .ptr 0 2), (18, sA x0.gSalt), (22, .ptr 0 3), (23, iA x0.gHoldout), (24, bA (decide (x0.gHoldout < 0))), (41, .ptr 0 5), (42, .ro .unk x0.gCooling.length (TCool.cl x0.gCooling)), (43, iA (lI x0.gCooling)), (44, bA (decide ((lI x0.gCooling) > 32)))] (AD_callp (d := (some 8)) (al := [sA x0.gKey]) (r := bA v1) (by kernel_rfl) (s_text_Key hG hv1) ⟨trivial, trivial⟩ trivial ?_)
    refine RD 2 90 [(36, 0), (35, 0), (17, 0), (16, 0), (12, 0), (11, 0), (1, 0), (0, 0)] [(1, .ptr 0 0), (6, .ptr 0 0), (7, sA x0.gKey), (8, bA v1), (9, bA (!v1)), (10, bA (!v1)), (17, .ptr 0 2), (18, sA x0.gSalt), (22, .ptr 0 3), (23, iA x0.gHoldout), (24, bA (decide (x0.gHoldout < 0))), (41, .ptr 0 5), (42, .ro .unk x0.gCooling.length (TCool.cl x0.gCooling)), (43, iA (lI x0.gCooling)), (44, bA (decide ((lI x0.gCooling) > 32)))] ?_
    cases c1 : (v1 : Bool) with
    | true =>
      refine RD 2 90 [(6, 0), (5, 0), (36, 0), (35, 0), (17, 0), (16, 0), (12, 0), (11, 0), (1, 0), (0, 0)] [(1, .ptr 0 0), (6, .ptr 0 0), (7, sA x0.gKey), (8, bA true), (9, bA (!true)), (10, bA (!true)), (11, .ptr 0 1), (12, sA x0.gKind), (17, .ptr 0 2), (18, sA x0.gSalt), (22, .ptr 0 3), (23, iA x0.gHoldout), (24, bA (decide (x0.gHoldout < 0))), (41, .ptr 0 5), (42, .ro .unk x0.gCooling.length (TCool.cl x0.gCooling)), (43, iA (lI x0.gCooling)), (44, bA (decide ((lI x0.gCooling) > 32)))] ?_
      have hv2_ := cond_t hv2 (by simp only [c1] <;> rfl)
      refine AD_callp (d := (some 13)) (al := [sA x0.gKind]) (r := bA v2) (by kernel_rfl) (s_text_Key hG hv2_) ⟨trivial, trivial⟩ trivial ?_
      refine RD 2 90 [(6, 0), (5, 0), (36, 0), (35, 0), (17, 0), (16, 0), (12, 0), (11, 0), (1, 0), (0, 0)] [(1, .ptr 0 0), (6, .ptr 0 0), (7, sA x0.gKey), (8, bA true), (9, bA (!true)), (10, bA (!true)), (11, .ptr 0 1), (12, sA x0.gKind), (13, bA v2), (14, bA (!v2)), (15, bA ((!true) || (!v2))), (17, .ptr 0 2), (18, sA x0.gSalt), (22, .ptr 0 3), (23, iA x0.gHoldout), (24, bA (decide (x0.gHoldout < 0))), (41, .ptr 0 5), (42, .ro .unk x0.gCooling.length (TCool.cl x0.gCooling)), (43, iA (lI x0.gCooling)), (44, bA (decide ((lI x0.gCooling) > 32)))] ?_
      try rw [c1] at hv3
      refine AD_callp (d := (some 16)) (al := [bA ((!true) || (!v2)), iA 6]) (r := iA v3) (by kernel_rfl) (s_shape_when hv3) ⟨trivial, trivial, trivial⟩ trivial ?_
      refine AD_callp (d := (some 19)) (al := [sA x0.gSalt]) (r := bA v4) (by kernel_rfl) (s_text_Valid hG hv4) ⟨trivial, trivial⟩ trivial ?_
      refine RD 1 90 [(6, 0), (5, 0), (36, 0), (35, 0), (17, 0), (16, 0), (12, 0), (11, 0), (1, 0), (0, 0)] [(1, .ptr 0 0), (6, .ptr 0 0), (7, sA x0.gKey), (8, bA true), (9, bA (!true)), (10, bA (!true)), (11, .ptr 0 1), (12, sA x0.gKind), (13, bA v2), (14, bA (!v2)), (15, bA ((!true) || (!v2))), (16, iA v3), (17, .ptr 0 2), (18, sA x0.gSalt), (19, bA v4), (20, bA (!v4)), (22, .ptr 0 3), (23, iA x0.gHoldout), (24, bA (decide (x0.gHoldout < 0))), (41, .ptr 0 5), (42, .ro .unk x0.gCooling.length (TCool.cl x0.gCooling)), (43, iA (lI x0.gCooling)), (44, bA (decide ((lI x0.gCooling) > 32)))] (AD_callp (d := (some 21)) (al := [bA (!v4), iA 2]) (r := iA v5) (by kernel_rfl) (s_shape_when hv5) ⟨trivial, trivial, trivial⟩ trivial ?_)
      refine RD 1 90 [(6, 0), (5, 0), (36, 0), (35, 0), (17, 0), (16, 0), (12, 0), (11, 0), (1, 0), (0, 0)] [(1, .ptr 0 0), (6, .ptr 0 0), (7, sA x0.gKey), (8, bA true), (9, bA (!true)), (10, bA (!true)), (11, .ptr 0 1), (12, sA x0.gKind), (13, bA v2), (14, bA (!v2)), (15, bA ((!true) || (!v2))), (16, iA v3), (17, .ptr 0 2), (18, sA x0.gSalt), (19, bA v4), (20, bA (!v4)), (21, iA v5), (22, .ptr 0 3), (23, iA x0.gHoldout), (24, bA (decide (x0.gHoldout < 0))), (25, bA (decide (x0.gHoldout < 0))), (41, .ptr 0 5), (42, .ro .unk x0.gCooling.length (TCool.cl x0.gCooling)), (43, iA (lI x0.gCooling)), (44, bA (decide ((lI x0.gCooling) > 32)))] ?_
      cases c2 : (decide (x0.gHoldout < 0) : Bool) with
      | true =>
        refine RD 14 90 [(6, 0), (5, 0), (36, 0), (35, 0), (17, 0), (16, 0), (12, 0), (11, 0), (1, 0), (0, 0)] [(1, .ptr 0 0), (6, .ptr 0 0), (7, sA x0.gKey), (8, bA true), (9, bA (!true)), (10, bA (!true)), (11, .ptr 0 1), (12, sA x0.gKind), (13, bA v2), (14, bA (!v2)), (15, bA ((!true) || (!v2))), (16, iA v3), (17, .ptr 0 2), (18, sA x0.gSalt), (19, bA v4), (20, bA (!v4)), (21, iA v5), (22, .ptr 0 3), (23, iA x0.gHoldout), (24, bA true), (25, bA true), (26, undefA), (27, undefA), (28, undefA), (29, bA (true || (decide (x0.gHoldout > 10000)))), (30, bA (true || (decide (x0.gHoldout > 10000)))), (31, undefA), (32, undefA), (33, undefA), (34, bA ((true || (decide (x0.gHoldout > 10000))) || (decide (x0.gCool < 0)))), (35, bA ((true || (decide (x0.gHoldout > 10000))) || (decide (x0.gCool < 0)))), (36, undefA), (37, undefA), (38, undefA), (39, bA (((true || (decide (x0.gHoldout > 10000))) || (decide (x0.gCool < 0))) || (decide (x0.gCool > 1099511627776)))), (41, .ptr 0 5), (42, .ro .unk x0.gCooling.length (TCool.cl x0.gCooling)), (43, iA (lI x0.gCooling)), (44, bA (decide ((lI x0.gCooling) > 32)))] ?_
        try rw [c1] at hv6
        try rw [c2] at hv6
        refine AD_callp (d := (some 40)) (al := [bA (((true || (decide (x0.gHoldout > 10000))) || (decide (x0.gCool < 0))) || (decide (x0.gCool > 1099511627776))), iA 3]) (r := iA v6) (by kernel_rfl) (s_shape_when hv6) ⟨trivial, trivial, trivial⟩ trivial ?_
        refine AD_callp (d := (some 45)) (al := [bA (decide ((lI x0.gCooling) > 32)), iA 5]) (r := iA v7) (by kernel_rfl) (s_shape_when hv7) ⟨trivial, trivial, trivial⟩ trivial ?_
        refine AD_bsl (d := (some 46)) (m := 4) (cs := [iA v3, iA v5, iA v6, iA v7]) (by kernel_rfl) ⟨trivial, trivial, trivial, trivial, trivial⟩ ?_
        refine AD_callp (d := (some 47)) (al := [.ro .unk ([v3, v5, v6, v7]).length (cl_i64 ([v3, v5, v6, v7]))]) (r := iA v8) (by kernel_rfl) (s_shape_first hv8) ⟨(scl_cl_i64 _ _), trivial⟩ trivial ?_
        refine RD 1 90 [(6, 0), (5, 0), (36, 0), (35, 0), (17, 0), (16, 0), (12, 0), (11, 0), (1, 0), (0, 0)] [(1, .ptr 0 0), (3, iA v8), (6, .ptr 0 0), (7, sA x0.gKey), (8, bA true), (9, bA (!true)), (10, bA (!true)), (11, .ptr 0 1), (12, sA x0.gKind), (13, bA v2), (14, bA (!v2)), (15, bA ((!true) || (!v2))), (16, iA v3), (17, .ptr 0 2), (18, sA x0.gSalt), (19, bA v4), (20, bA (!v4)), (21, iA v5), (22, .ptr 0 3), (23, iA x0.gHoldout), (24, bA true), (25, bA true), (26, undefA), (27, undefA), (28, undefA), (29, bA (true || (decide (x0.gHoldout > 10000)))), (30, bA (true || (decide (x0.gHoldout > 10000)))), (31, undefA), (32, undefA), (33, undefA), (34, bA ((true || (decide (x0.gHoldout > 10000))) || (decide (x0.gCool < 0)))), (35, bA ((true || (decide (x0.gHoldout > 10000))) || (decide (x0.gCool < 0)))), (36, undefA), (37, undefA), (38, undefA), (39, bA (((true || (decide (x0.gHoldout > 10000))) || (decide (x0.gCool < 0))) || (decide (x0.gCool > 1099511627776)))), (40, iA v6), (41, .ptr 0 5), (42, .ro .unk x0.gCooling.length (TCool.cl x0.gCooling)), (43, iA (lI x0.gCooling)), (44, bA (decide ((lI x0.gCooling) > 32))), (45, iA v7), (46, .ro .unk ([v3, v5, v6, v7]).length (cl_i64 ([v3, v5, v6, v7]))), (47, iA v8)] ?_
        exact AD_here [1, 3] (by kernel_rfl) rfl
      | false =>
        refine RD 5 90 [(21, 0), (20, 0), (6, 0), (5, 0), (36, 0), (35, 0), (17, 0), (16, 0), (12, 0), (11, 0), (1, 0), (0, 0)] [(1, .ptr 0 0), (6, .ptr 0 0), (7, sA x0.gKey), (8, bA true), (9, bA (!true)), (10, bA (!true)), (11, .ptr 0 1), (12, sA x0.gKind), (13, bA v2), (14, bA (!v2)), (15, bA ((!true) || (!v2))), (16, iA v3), (17, .ptr 0 2), (18, sA x0.gSalt), (19, bA v4), (20, bA (!v4)), (21, iA v5), (22, .ptr 0 3), (23, iA x0.gHoldout), (24, bA false), (25, bA false), (26, .ptr 0 3), (27, iA x0.gHoldout), (28, bA (decide (x0.gHoldout > 10000))), (29, bA (false || (decide (x0.gHoldout > 10000)))), (30, bA (false || (decide (x0.gHoldout > 10000)))), (41, .ptr 0 5), (42, .ro .unk x0.gCooling.length (TCool.cl x0.gCooling)), (43, iA (lI x0.gCooling)), (44, bA (decide ((lI x0.gCooling) > 32)))] ?_
        cases c3 : (decide (x0.gHoldout > 10000) : Bool) with
        | true =>
          refine RD 9 90 [(21, 0), (20, 0), (6, 0), (5, 0), (36, 0), (35, 0), (17, 0), (16, 0), (12, 0), (11, 0), (1, 0), (0, 0)] [(1, .ptr 0 0), (6, .ptr 0 0), (7, sA x0.gKey), (8, bA true), (9, bA (!true)), (10, bA (!true)), (11, .ptr 0 1), (12, sA x0.gKind), (13, bA v2), (14, bA (!v2)), (15, bA ((!true) || (!v2))), (16, iA v3), (17, .ptr 0 2), (18, sA x0.gSalt), (19, bA v4), (20, bA (!v4)), (21, iA v5), (22, .ptr 0 3), (23, iA x0.gHoldout), (24, bA false), (25, bA false), (26, .ptr 0 3), (27, iA x0.gHoldout), (28, bA true), (29, bA (false || true)), (30, bA (false || true)), (31, undefA), (32, undefA), (33, undefA), (34, bA ((false || true) || (decide (x0.gCool < 0)))), (35, bA ((false || true) || (decide (x0.gCool < 0)))), (36, undefA), (37, undefA), (38, undefA), (39, bA (((false || true) || (decide (x0.gCool < 0))) || (decide (x0.gCool > 1099511627776)))), (41, .ptr 0 5), (42, .ro .unk x0.gCooling.length (TCool.cl x0.gCooling)), (43, iA (lI x0.gCooling)), (44, bA (decide ((lI x0.gCooling) > 32)))] ?_
          try rw [c1] at hv6
          try rw [c2] at hv6
          try rw [c3] at hv6
          refine AD_callp (d := (some 40)) (al := [bA (((false || true) || (decide (x0.gCool < 0))) || (decide (x0.gCool > 1099511627776))), iA 3]) (r := iA v6) (by kernel_rfl) (s_shape_when hv6) ⟨trivial, trivial, trivial⟩ trivial ?_
          refine AD_callp (d := (some 45)) (al := [bA (decide ((lI x0.gCooling) > 32)), iA 5]) (r := iA v7) (by kernel_rfl) (s_shape_when hv7) ⟨trivial, trivial, trivial⟩ trivial ?_
          refine AD_bsl (d := (some 46)) (m := 4) (cs := [iA v3, iA v5, iA v6, iA v7]) (by kernel_rfl) ⟨trivial, trivial, trivial, trivial, trivial⟩ ?_
          refine AD_callp (d := (some 47)) (al := [.ro .unk ([v3, v5, v6, v7]).length (cl_i64 ([v3, v5, v6, v7]))]) (r := iA v8) (by kernel_rfl) (s_shape_first hv8) ⟨(scl_cl_i64 _ _), trivial⟩ trivial ?_
          refine RD 1 90 [(21, 0), (20, 0), (6, 0), (5, 0), (36, 0), (35, 0), (17, 0), (16, 0), (12, 0), (11, 0), (1, 0), (0, 0)] [(1, .ptr 0 0), (3, iA v8), (6, .ptr 0 0), (7, sA x0.gKey), (8, bA true), (9, bA (!true)), (10, bA (!true)), (11, .ptr 0 1), (12, sA x0.gKind), (13, bA v2), (14, bA (!v2)), (15, bA ((!true) || (!v2))), (16, iA v3), (17, .ptr 0 2), (18, sA x0.gSalt), (19, bA v4), (20, bA (!v4)), (21, iA v5), (22, .ptr 0 3), (23, iA x0.gHoldout), (24, bA false), (25, bA false), (26, .ptr 0 3), (27, iA x0.gHoldout), (28, bA true), (29, bA (false || true)), (30, bA (false || true)), (31, undefA), (32, undefA), (33, undefA), (34, bA ((false || true) || (decide (x0.gCool < 0)))), (35, bA ((false || true) || (decide (x0.gCool < 0)))), (36, undefA), (37, undefA), (38, undefA), (39, bA (((false || true) || (decide (x0.gCool < 0))) || (decide (x0.gCool > 1099511627776)))), (40, iA v6), (41, .ptr 0 5), (42, .ro .unk x0.gCooling.length (TCool.cl x0.gCooling)), (43, iA (lI x0.gCooling)), (44, bA (decide ((lI x0.gCooling) > 32))), (45, iA v7), (46, .ro .unk ([v3, v5, v6, v7]).length (cl_i64 ([v3, v5, v6, v7]))), (47, iA v8)] ?_
          exact AD_here [1, 3] (by kernel_rfl) rfl
        | false =>
          refine RD 5 90 [(26, 0), (25, 0), (21, 0), (20, 0), (6, 0), (5, 0), (36, 0), (35, 0), (17, 0), (16, 0), (12, 0), (11, 0), (1, 0), (0, 0)] [(1, .ptr 0 0), (6, .ptr 0 0), (7, sA x0.gKey), (8, bA true), (9, bA (!true)), (10, bA (!true)), (11, .ptr 0 1), (12, sA x0.gKind), (13, bA v2), (14, bA (!v2)), (15, bA ((!true) || (!v2))), (16, iA v3), (17, .ptr 0 2), (18, sA x0.gSalt), (19, bA v4), (20, bA (!v4)), (21, iA v5), (22, .ptr 0 3), (23, iA x0.gHoldout), (24, bA false), (25, bA false), (26, .ptr 0 3), (27, iA x0.gHoldout), (28, bA false), (29, bA (false || false)), (30, bA (false || false)), (31, .ptr 0 4), (32, iA x0.gCool), (33, bA (decide (x0.gCool < 0))), (34, bA ((false || false) || (decide (x0.gCool < 0)))), (35, bA ((false || false) || (decide (x0.gCool < 0)))), (41, .ptr 0 5), (42, .ro .unk x0.gCooling.length (TCool.cl x0.gCooling)), (43, iA (lI x0.gCooling)), (44, bA (decide ((lI x0.gCooling) > 32)))] ?_
          cases c4 : (decide (x0.gCool < 0) : Bool) with
          | true =>
            refine RD 4 90 [(26, 0), (25, 0), (21, 0), (20, 0), (6, 0), (5, 0), (36, 0), (35, 0), (17, 0), (16, 0), (12, 0), (11, 0), (1, 0), (0, 0)] [(1, .ptr 0 0), (6, .ptr 0 0), (7, sA x0.gKey), (8, bA true), (9, bA (!true)), (10, bA (!true)), (11, .ptr 0 1), (12, sA x0.gKind), (13, bA v2), (14, bA (!v2)), (15, bA ((!true) || (!v2))), (16, iA v3), (17, .ptr 0 2), (18, sA x0.gSalt), (19, bA v4), (20, bA (!v4)), (21, iA v5), (22, .ptr 0 3), (23, iA x0.gHoldout), (24, bA false), (25, bA false), (26, .ptr 0 3), (27, iA x0.gHoldout), (28, bA false), (29, bA (false || false)), (30, bA (false || false)), (31, .ptr 0 4), (32, iA x0.gCool), (33, bA true), (34, bA ((false || false) || true)), (35, bA ((false || false) || true)), (36, undefA), (37, undefA), (38, undefA), (39, bA (((false || false) || true) || (decide (x0.gCool > 1099511627776)))), (41, .ptr 0 5), (42, .ro .unk x0.gCooling.length (TCool.cl x0.gCooling)), (43, iA (lI x0.gCooling)), (44, bA (decide ((lI x0.gCooling) > 32)))] ?_
            try rw [c1] at hv6
            try rw [c2] at hv6
            try rw [c3] at hv6
            try rw [c4] at hv6
            refine AD_callp (d := (some 40)) (al := [bA (((false || false) || true) || (decide (x0.gCool > 1099511627776))), iA 3]) (r := iA v6) (by kernel_rfl) (s_shape_when hv6) ⟨trivial, trivial, trivial⟩ trivial ?_
            refine AD_callp (d := (some 45)) (al := [bA (decide ((lI x0.gCooling) > 32)), iA 5]) (r := iA v7) (by kernel_rfl) (s_shape_when hv7) ⟨trivial, trivial, trivial⟩ trivial ?_
            refine AD_bsl (d := (some 46)) (m := 4) (cs := [iA v3, iA v5, iA v6, iA v7]) (by kernel_rfl) ⟨trivial, trivial, trivial, trivial, trivial⟩ ?_
            refine AD_callp (d := (some 47)) (al := [.ro .unk ([v3, v5, v6, v7]).length (cl_i64 ([v3, v5, v6, v7]))]) (r := iA v8) (by kernel_rfl) (s_shape_first hv8) ⟨(scl_cl_i64 _ _), trivial⟩ trivial ?_
            refine RD 1 90 [(26, 0), (25, 0), (21, 0), (20, 0), (6, 0), (5, 0), (36, 0), (35, 0), (17, 0), (16, 0), (12, 0), (11, 0), (1, 0), (0, 0)] [(1, .ptr 0 0), (3, iA v8), (6, .ptr 0 0), (7, sA x0.gKey), (8, bA true), (9, bA (!true)), (10, bA (!true)), (11, .ptr 0 1), (12, sA x0.gKind), (13, bA v2), (14, bA (!v2)), (15, bA ((!true) || (!v2))), (16, iA v3), (17, .ptr 0 2), (18, sA x0.gSalt), (19, bA v4), (20, bA (!v4)), (21, iA v5), (22, .ptr 0 3), (23, iA x0.gHoldout), (24, bA false), (25, bA false), (26, .ptr 0 3), (27, iA x0.gHoldout), (28, bA false), (29, bA (false || false)), (30, bA (false || false)), (31, .ptr 0 4), (32, iA x0.gCool), (33, bA true), (34, bA ((false || false) || true)), (35, bA ((false || false) || true)), (36, undefA), (37, undefA), (38, undefA), (39, bA (((false || false) || true) || (decide (x0.gCool > 1099511627776)))), (40, iA v6), (41, .ptr 0 5), (42, .ro .unk x0.gCooling.length (TCool.cl x0.gCooling)), (43, iA (lI x0.gCooling)), (44, bA (decide ((lI x0.gCooling) > 32))), (45, iA v7), (46, .ro .unk ([v3, v5, v6, v7]).length (cl_i64 ([v3, v5, v6, v7]))), (47, iA v8)] ?_
            exact AD_here [1, 3] (by kernel_rfl) rfl
          | false =>
            refine RD 4 90 [(31, 0), (30, 0), (26, 0), (25, 0), (21, 0), (20, 0), (6, 0), (5, 0), (36, 0), (35, 0), (17, 0), (16, 0), (12, 0), (11, 0), (1, 0), (0, 0)] [(1, .ptr 0 0), (6, .ptr 0 0), (7, sA x0.gKey), (8, bA true), (9, bA (!true)), (10, bA (!true)), (11, .ptr 0 1), (12, sA x0.gKind), (13, bA v2), (14, bA (!v2)), (15, bA ((!true) || (!v2))), (16, iA v3), (17, .ptr 0 2), (18, sA x0.gSalt), (19, bA v4), (20, bA (!v4)), (21, iA v5), (22, .ptr 0 3), (23, iA x0.gHoldout), (24, bA false), (25, bA false), (26, .ptr 0 3), (27, iA x0.gHoldout), (28, bA false), (29, bA (false || false)), (30, bA (false || false)), (31, .ptr 0 4), (32, iA x0.gCool), (33, bA false), (34, bA ((false || false) || false)), (35, bA ((false || false) || false)), (36, .ptr 0 4), (37, iA x0.gCool), (38, bA (decide (x0.gCool > 1099511627776))), (39, bA (((false || false) || false) || (decide (x0.gCool > 1099511627776)))), (41, .ptr 0 5), (42, .ro .unk x0.gCooling.length (TCool.cl x0.gCooling)), (43, iA (lI x0.gCooling)), (44, bA (decide ((lI x0.gCooling) > 32)))] ?_
            try rw [c1] at hv6
            try rw [c2] at hv6
            try rw [c3] at hv6
            try rw [c4] at hv6
            refine AD_callp (d := (some 40)) (al := [bA (((false || false) || false) || (decide (x0.gCool > 1099511627776))), iA 3]) (r := iA v6) (by kernel_rfl) (s_shape_when hv6) ⟨trivial, trivial, trivial⟩ trivial ?_
            refine AD_callp (d := (some 45)) (al := [bA (decide ((lI x0.gCooling) > 32)), iA 5]) (r := iA v7) (by kernel_rfl) (s_shape_when hv7) ⟨trivial, trivial, trivial⟩ trivial ?_
            refine AD_bsl (d := (some 46)) (m := 4) (cs := [iA v3, iA v5, iA v6, iA v7]) (by kernel_rfl) ⟨trivial, trivial, trivial, trivial, trivial⟩ ?_
            refine AD_callp (d := (some 47)) (al := [.ro .unk ([v3, v5, v6, v7]).length (cl_i64 ([v3, v5, v6, v7]))]) (r := iA v8) (by kernel_rfl) (s_shape_first hv8) ⟨(scl_cl_i64 _ _), trivial⟩ trivial ?_
            refine RD 1 90 [(31, 0), (30, 0), (26, 0), (25, 0), (21, 0), (20, 0), (6, 0), (5, 0), (36, 0), (35, 0), (17, 0), (16, 0), (12, 0), (11, 0), (1, 0), (0, 0)] [(1, .ptr 0 0), (3, iA v8), (6, .ptr 0 0), (7, sA x0.gKey), (8, bA true), (9, bA (!true)), (10, bA (!true)), (11, .ptr 0 1), (12, sA x0.gKind), (13, bA v2), (14, bA (!v2)), (15, bA ((!true) || (!v2))), (16, iA v3), (17, .ptr 0 2), (18, sA x0.gSalt), (19, bA v4), (20, bA (!v4)), (21, iA v5), (22, .ptr 0 3), (23, iA x0.gHoldout), (24, bA false), (25, bA false), (26, .ptr 0 3), (27, iA x0.gHoldout), (28, bA false), (29, bA (false || false)), (30, bA (false || false)), (31, .ptr 0 4), (32, iA x0.gCool), (33, bA false), (34, bA ((false || false) || false)), (35, bA ((false || false) || false)), (36, .ptr 0 4), (37, iA x0.gCool), (38, bA (decide (x0.gCool > 1099511627776))), (39, bA (((false || false) || false) || (decide (x0.gCool > 1099511627776)))), (40, iA v6), (41, .ptr 0 5), (42, .ro .unk x0.gCooling.length (TCool.cl x0.gCooling)), (43, iA (lI x0.gCooling)), (44, bA (decide ((lI x0.gCooling) > 32))), (45, iA v7), (46, .ro .unk ([v3, v5, v6, v7]).length (cl_i64 ([v3, v5, v6, v7]))), (47, iA v8)] ?_
            exact AD_here [1, 3] (by kernel_rfl) rfl
    | false =>
      refine RD 2 90 [(36, 0), (35, 0), (17, 0), (16, 0), (12, 0), (11, 0), (1, 0), (0, 0)] [(1, .ptr 0 0), (6, .ptr 0 0), (7, sA x0.gKey), (8, bA false), (9, bA (!false)), (10, bA (!false)), (11, undefA), (12, undefA), (17, .ptr 0 2), (18, sA x0.gSalt), (22, .ptr 0 3), (23, iA x0.gHoldout), (24, bA (decide (x0.gHoldout < 0))), (41, .ptr 0 5), (42, .ro .unk x0.gCooling.length (TCool.cl x0.gCooling)), (43, iA (lI x0.gCooling)), (44, bA (decide ((lI x0.gCooling) > 32)))] (AD_offB (d := some 13) (by kernel_rfl) ?_)
      refine RD 2 90 [(36, 0), (35, 0), (17, 0), (16, 0), (12, 0), (11, 0), (1, 0), (0, 0)] [(1, .ptr 0 0), (6, .ptr 0 0), (7, sA x0.gKey), (8, bA false), (9, bA (!false)), (10, bA (!false)), (11, undefA), (12, undefA), (13, undefA), (14, undefA), (15, bA ((!false) || (!v2))), (17, .ptr 0 2), (18, sA x0.gSalt), (22, .ptr 0 3), (23, iA x0.gHoldout), (24, bA (decide (x0.gHoldout < 0))), (41, .ptr 0 5), (42, .ro .unk x0.gCooling.length (TCool.cl x0.gCooling)), (43, iA (lI x0.gCooling)), (44, bA (decide ((lI x0.gCooling) > 32)))] ?_
      try rw [c1] at hv3
      refine AD_callp (d := (some 16)) (al := [bA ((!false) || (!v2)), iA 6]) (r := iA v3) (by kernel_rfl) (s_shape_when hv3) ⟨trivial, trivial, trivial⟩ trivial ?_
      refine AD_callp (d := (some 19)) (al := [sA x0.gSalt]) (r := bA v4) (by kernel_rfl) (s_text_Valid hG hv4) ⟨trivial, trivial⟩ trivial ?_
      refine RD 1 90 [(36, 0), (35, 0), (17, 0), (16, 0), (12, 0), (11, 0), (1, 0), (0, 0)] [(1, .ptr 0 0), (6, .ptr 0 0), (7, sA x0.gKey), (8, bA false), (9, bA (!false)), (10, bA (!false)), (11, undefA), (12, undefA), (13, undefA), (14, undefA), (15, bA ((!false) || (!v2))), (16, iA v3), (17, .ptr 0 2), (18, sA x0.gSalt), (19, bA v4), (20, bA (!v4)), (22, .ptr 0 3), (23, iA x0.gHoldout), (24, bA (decide (x0.gHoldout < 0))), (41, .ptr 0 5), (42, .ro .unk x0.gCooling.length (TCool.cl x0.gCooling)), (43, iA (lI x0.gCooling)), (44, bA (decide ((lI x0.gCooling) > 32)))] (AD_callp (d := (some 21)) (al := [bA (!v4), iA 2]) (r := iA v5) (by kernel_rfl) (s_shape_when hv5) ⟨trivial, trivial, trivial⟩ trivial ?_)
      refine RD 1 90 [(36, 0), (35, 0), (17, 0), (16, 0), (12, 0), (11, 0), (1, 0), (0, 0)] [(1, .ptr 0 0), (6, .ptr 0 0), (7, sA x0.gKey), (8, bA false), (9, bA (!false)), (10, bA (!false)), (11, undefA), (12, undefA), (13, undefA), (14, undefA), (15, bA ((!false) || (!v2))), (16, iA v3), (17, .ptr 0 2), (18, sA x0.gSalt), (19, bA v4), (20, bA (!v4)), (21, iA v5), (22, .ptr 0 3), (23, iA x0.gHoldout), (24, bA (decide (x0.gHoldout < 0))), (25, bA (decide (x0.gHoldout < 0))), (41, .ptr 0 5), (42, .ro .unk x0.gCooling.length (TCool.cl x0.gCooling)), (43, iA (lI x0.gCooling)), (44, bA (decide ((lI x0.gCooling) > 32)))] ?_
      cases c2 : (decide (x0.gHoldout < 0) : Bool) with
      | true =>
        refine RD 14 90 [(36, 0), (35, 0), (17, 0), (16, 0), (12, 0), (11, 0), (1, 0), (0, 0)] [(1, .ptr 0 0), (6, .ptr 0 0), (7, sA x0.gKey), (8, bA false), (9, bA (!false)), (10, bA (!false)), (11, undefA), (12, undefA), (13, undefA), (14, undefA), (15, bA ((!false) || (!v2))), (16, iA v3), (17, .ptr 0 2), (18, sA x0.gSalt), (19, bA v4), (20, bA (!v4)), (21, iA v5), (22, .ptr 0 3), (23, iA x0.gHoldout), (24, bA true), (25, bA true), (26, undefA), (27, undefA), (28, undefA), (29, bA (true || (decide (x0.gHoldout > 10000)))), (30, bA (true || (decide (x0.gHoldout > 10000)))), (31, undefA), (32, undefA), (33, undefA), (34, bA ((true || (decide (x0.gHoldout > 10000))) || (decide (x0.gCool < 0)))), (35, bA ((true || (decide (x0.gHoldout > 10000))) || (decide (x0.gCool < 0)))), (36, undefA), (37, undefA), (38, undefA), (39, bA (((true || (decide (x0.gHoldout > 10000))) || (decide (x0.gCool < 0))) || (decide (x0.gCool > 1099511627776)))), (41, .ptr 0 5), (42, .ro .unk x0.gCooling.length (TCool.cl x0.gCooling)), (43, iA (lI x0.gCooling)), (44, bA (decide ((lI x0.gCooling) > 32)))] ?_
        try rw [c1] at hv6
        try rw [c2] at hv6
        refine AD_callp (d := (some 40)) (al := [bA (((true || (decide (x0.gHoldout > 10000))) || (decide (x0.gCool < 0))) || (decide (x0.gCool > 1099511627776))), iA 3]) (r := iA v6) (by kernel_rfl) (s_shape_when hv6) ⟨trivial, trivial, trivial⟩ trivial ?_
        refine AD_callp (d := (some 45)) (al := [bA (decide ((lI x0.gCooling) > 32)), iA 5]) (r := iA v7) (by kernel_rfl) (s_shape_when hv7) ⟨trivial, trivial, trivial⟩ trivial ?_
        refine AD_bsl (d := (some 46)) (m := 4) (cs := [iA v3, iA v5, iA v6, iA v7]) (by kernel_rfl) ⟨trivial, trivial, trivial, trivial, trivial⟩ ?_
        refine AD_callp (d := (some 47)) (al := [.ro .unk ([v3, v5, v6, v7]).length (cl_i64 ([v3, v5, v6, v7]))]) (r := iA v8) (by kernel_rfl) (s_shape_first hv8) ⟨(scl_cl_i64 _ _), trivial⟩ trivial ?_
        refine RD 1 90 [(36, 0), (35, 0), (17, 0), (16, 0), (12, 0), (11, 0), (1, 0), (0, 0)] [(1, .ptr 0 0), (3, iA v8), (6, .ptr 0 0), (7, sA x0.gKey), (8, bA false), (9, bA (!false)), (10, bA (!false)), (11, undefA), (12, undefA), (13, undefA), (14, undefA), (15, bA ((!false) || (!v2))), (16, iA v3), (17, .ptr 0 2), (18, sA x0.gSalt), (19, bA v4), (20, bA (!v4)), (21, iA v5), (22, .ptr 0 3), (23, iA x0.gHoldout), (24, bA true), (25, bA true), (26, undefA), (27, undefA), (28, undefA), (29, bA (true || (decide (x0.gHoldout > 10000)))), (30, bA (true || (decide (x0.gHoldout > 10000)))), (31, undefA), (32, undefA), (33, undefA), (34, bA ((true || (decide (x0.gHoldout > 10000))) || (decide (x0.gCool < 0)))), (35, bA ((true || (decide (x0.gHoldout > 10000))) || (decide (x0.gCool < 0)))), (36, undefA), (37, undefA), (38, undefA), (39, bA (((true || (decide (x0.gHoldout > 10000))) || (decide (x0.gCool < 0))) || (decide (x0.gCool > 1099511627776)))), (40, iA v6), (41, .ptr 0 5), (42, .ro .unk x0.gCooling.length (TCool.cl x0.gCooling)), (43, iA (lI x0.gCooling)), (44, bA (decide ((lI x0.gCooling) > 32))), (45, iA v7), (46, .ro .unk ([v3, v5, v6, v7]).length (cl_i64 ([v3, v5, v6, v7]))), (47, iA v8)] ?_
        exact AD_here [1, 3] (by kernel_rfl) rfl
      | false =>
        refine RD 5 90 [(21, 0), (20, 0), (36, 0), (35, 0), (17, 0), (16, 0), (12, 0), (11, 0), (1, 0), (0, 0)] [(1, .ptr 0 0), (6, .ptr 0 0), (7, sA x0.gKey), (8, bA false), (9, bA (!false)), (10, bA (!false)), (11, undefA), (12, undefA), (13, undefA), (14, undefA), (15, bA ((!false) || (!v2))), (16, iA v3), (17, .ptr 0 2), (18, sA x0.gSalt), (19, bA v4), (20, bA (!v4)), (21, iA v5), (22, .ptr 0 3), (23, iA x0.gHoldout), (24, bA false), (25, bA false), (26, .ptr 0 3), (27, iA x0.gHoldout), (28, bA (decide (x0.gHoldout > 10000))), (29, bA (false || (decide (x0.gHoldout > 10000)))), (30, bA (false || (decide (x0.gHoldout > 10000)))), (41, .ptr 0 5), (42, .ro .unk x0.gCooling.length (TCool.cl x0.gCooling)), (43, iA (lI x0.gCooling)), (44, bA (decide ((lI x0.gCooling) > 32)))] ?_
        cases c3 : (decide (x0.gHoldout > 10000) : Bool) with
        | true =>
          refine RD 9 90 [(21, 0), (20, 0), (36, 0), (35, 0), (17, 0), (16, 0), (12, 0), (11, 0), (1, 0), (0, 0)] [(1, .ptr 0 0), (6, .ptr 0 0), (7, sA x0.gKey), (8, bA false), (9, bA (!false)), (10, bA (!false)), (11, undefA), (12, undefA), (13, undefA), (14, undefA), (15, bA ((!false) || (!v2))), (16, iA v3), (17, .ptr 0 2), (18, sA x0.gSalt), (19, bA v4), (20, bA (!v4)), (21, iA v5), (22, .ptr 0 3), (23, iA x0.gHoldout), (24, bA false), (25, bA false), (26, .ptr 0 3), (27, iA x0.gHoldout), (28, bA true), (29, bA (false || true)), (30, bA (false || true)), (31, undefA), (32, undefA), (33, undefA), (34, bA ((false || true) || (decide (x0.gCool < 0)))), (35, bA ((false || true) || (decide (x0.gCool < 0)))), (36, undefA), (37, undefA), (38, undefA), (39, bA (((false || true) || (decide (x0.gCool < 0))) || (decide (x0.gCool > 1099511627776)))), (41, .ptr 0 5), (42, .ro .unk x0.gCooling.length (TCool.cl x0.gCooling)), (43, iA (lI x0.gCooling)), (44, bA (decide ((lI x0.gCooling) > 32)))] ?_
          try rw [c1] at hv6
          try rw [c2] at hv6
          try rw [c3] at hv6
          refine AD_callp (d := (some 40)) (al := [bA (((false || true) || (decide (x0.gCool < 0))) || (decide (x0.gCool > 1099511627776))), iA 3]) (r := iA v6) (by kernel_rfl) (s_shape_when hv6) ⟨trivial, trivial, trivial⟩ trivial ?_
          refine AD_callp (d := (some 45)) (al := [bA (decide ((lI x0.gCooling) > 32)), iA 5]) (r := iA v7) (by kernel_rfl) (s_shape_when hv7) ⟨trivial, trivial, trivial⟩ trivial ?_
          refine AD_bsl (d := (some 46)) (m := 4) (cs := [iA v3, iA v5, iA v6, iA v7]) (by kernel_rfl) ⟨trivial, trivial, trivial, trivial, trivial⟩ ?_
          refine AD_callp (d := (some 47)) (al := [.ro .unk ([v3, v5, v6, v7]).length (cl_i64 ([v3, v5, v6, v7]))]) (r := iA v8) (by kernel_rfl) (s_shape_first hv8) ⟨(scl_cl_i64 _ _), trivial⟩ trivial ?_
          refine RD 1 90 [(21, 0), (20, 0), (36, 0), (35, 0), (17, 0), (16, 0), (12, 0), (11, 0), (1, 0), (0, 0)] [(1, .ptr 0 0), (3, iA v8), (6, .ptr 0 0), (7, sA x0.gKey), (8, bA false), (9, bA (!false)), (10, bA (!false)), (11, undefA), (12, undefA), (13, undefA), (14, undefA), (15, bA ((!false) || (!v2))), (16, iA v3), (17, .ptr 0 2), (18, sA x0.gSalt), (19, bA v4), (20, bA (!v4)), (21, iA v5), (22, .ptr 0 3), (23, iA x0.gHoldout), (24, bA false), (25, bA false), (26, .ptr 0 3), (27, iA x0.gHoldout), (28, bA true), (29, bA (false || true)), (30, bA (false || true)), (31, undefA), (32, undefA), (33, undefA), (34, bA ((false || true) || (decide (x0.gCool < 0)))), (35, bA ((false || true) || (decide (x0.gCool < 0)))), (36, undefA), (37, undefA), (38, undefA), (39, bA (((false || true) || (decide (x0.gCool < 0))) || (decide (x0.gCool > 1099511627776)))), (40, iA v6), (41, .ptr 0 5), (42, .ro .unk x0.gCooling.length (TCool.cl x0.gCooling)), (43, iA (lI x0.gCooling)), (44, bA (decide ((lI x0.gCooling) > 32))), (45, iA v7), (46, .ro .unk ([v3, v5, v6, v7]).length (cl_i64 ([v3, v5, v6, v7]))), (47, iA v8)] ?_
          exact AD_here [1, 3] (by kernel_rfl) rfl
        | false =>
          refine RD 5 90 [(26, 0), (25, 0), (21, 0), (20, 0), (36, 0), (35, 0), (17, 0), (16, 0), (12, 0), (11, 0), (1, 0), (0, 0)] [(1, .ptr 0 0), (6, .ptr 0 0), (7, sA x0.gKey), (8, bA false), (9, bA (!false)), (10, bA (!false)), (11, undefA), (12, undefA), (13, undefA), (14, undefA), (15, bA ((!false) || (!v2))), (16, iA v3), (17, .ptr 0 2), (18, sA x0.gSalt), (19, bA v4), (20, bA (!v4)), (21, iA v5), (22, .ptr 0 3), (23, iA x0.gHoldout), (24, bA false), (25, bA false), (26, .ptr 0 3), (27, iA x0.gHoldout), (28, bA false), (29, bA (false || false)), (30, bA (false || false)), (31, .ptr 0 4), (32, iA x0.gCool), (33, bA (decide (x0.gCool < 0))), (34, bA ((false || false) || (decide (x0.gCool < 0)))), (35, bA ((false || false) || (decide (x0.gCool < 0)))), (41, .ptr 0 5), (42, .ro .unk x0.gCooling.length (TCool.cl x0.gCooling)), (43, iA (lI x0.gCooling)), (44, bA (decide ((lI x0.gCooling) > 32)))] ?_
          cases c4 : (decide (x0.gCool < 0) : Bool) with
          | true =>
            refine RD 4 90 [(26, 0), (25, 0), (21, 0), (20, 0), (36, 0), (35, 0), (17, 0), (16, 0), (12, 0), (11, 0), (1, 0), (0, 0)] [(1, .ptr 0 0), (6, .ptr 0 0), (7, sA x0.gKey), (8, bA false), (9, bA (!false)), (10, bA (!false)), (11, undefA), (12, undefA), (13, undefA), (14, undefA), (15, bA ((!false) || (!v2))), (16, iA v3), (17, .ptr 0 2), (18, sA x0.gSalt), (19, bA v4), (20, bA (!v4)), (21, iA v5), (22, .ptr 0 3), (23, iA x0.gHoldout), (24, bA false), (25, bA false), (26, .ptr 0 3), (27, iA x0.gHoldout), (28, bA false), (29, bA (false || false)), (30, bA (false || false)), (31, .ptr 0 4), (32, iA x0.gCool), (33, bA true), (34, bA ((false || false) || true)), (35, bA ((false || false) || true)), (36, undefA), (37, undefA), (38, undefA), (39, bA (((false || false) || true) || (decide (x0.gCool > 1099511627776)))), (41, .ptr 0 5), (42, .ro .unk x0.gCooling.length (TCool.cl x0.gCooling)), (43, iA (lI x0.gCooling)), (44, bA (decide ((lI x0.gCooling) > 32)))] ?_
            try rw [c1] at hv6
            try rw [c2] at hv6
            try rw [c3] at hv6
            try rw [c4] at hv6
            refine AD_callp (d := (some 40)) (al := [bA (((false || false) || true) || (decide (x0.gCool > 1099511627776))), iA 3]) (r := iA v6) (by kernel_rfl) (s_shape_when hv6) ⟨trivial, trivial, trivial⟩ trivial ?_
            refine AD_callp (d := (some 45)) (al := [bA (decide ((lI x0.gCooling) > 32)), iA 5]) (r := iA v7) (by kernel_rfl) (s_shape_when hv7) ⟨trivial, trivial, trivial⟩ trivial ?_
            refine AD_bsl (d := (some 46)) (m := 4) (cs := [iA v3, iA v5, iA v6, iA v7]) (by kernel_rfl) ⟨trivial, trivial, trivial, trivial, trivial⟩ ?_
            refine AD_callp (d := (some 47)) (al := [.ro .unk ([v3, v5, v6, v7]).length (cl_i64 ([v3, v5, v6, v7]))]) (r := iA v8) (by kernel_rfl) (s_shape_first hv8) ⟨(scl_cl_i64 _ _), trivial⟩ trivial ?_
            refine RD 1 90 [(26, 0), (25, 0), (21, 0), (20, 0), (36, 0), (35, 0), (17, 0), (16, 0), (12, 0), (11, 0), (1, 0), (0, 0)] [(1, .ptr 0 0), (3, iA v8), (6, .ptr 0 0), (7, sA x0.gKey), (8, bA false), (9, bA (!false)), (10, bA (!false)), (11, undefA), (12, undefA), (13, undefA), (14, undefA), (15, bA ((!false) || (!v2))), (16, iA v3), (17, .ptr 0 2), (18, sA x0.gSalt), (19, bA v4), (20, bA (!v4)), (21, iA v5), (22, .ptr 0 3), (23, iA x0.gHoldout), (24, bA false), (25, bA false), (26, .ptr 0 3), (27, iA x0.gHoldout), (28, bA false), (29, bA (false || false)), (30, bA (false || false)), (31, .ptr 0 4), (32, iA x0.gCool), (33, bA true), (34, bA ((false || false) || true)), (35, bA ((false || false) || true)), (36, undefA), (37, undefA), (38, undefA), (39, bA (((false || false) || true) || (decide (x0.gCool > 1099511627776)))), (40, iA v6), (41, .ptr 0 5), (42, .ro .unk x0.gCooling.length (TCool.cl x0.gCooling)), (43, iA (lI x0.gCooling)), (44, bA (decide ((lI x0.gCooling) > 32))), (45, iA v7), (46, .ro .unk ([v3, v5, v6, v7]).length (cl_i64 ([v3, v5, v6, v7]))), (47, iA v8)] ?_
            exact AD_here [1, 3] (by kernel_rfl) rfl
          | false =>
            refine RD 4 90 [(31, 0), (30, 0), (26, 0), (25, 0), (21, 0), (20, 0), (36, 0), (35, 0), (17, 0), (16, 0), (12, 0), (11, 0), (1, 0), (0, 0)] [(1, .ptr 0 0), (6, .ptr 0 0), (7, sA x0.gKey), (8, bA false), (9, bA (!false)), (10, bA (!false)), (11, undefA), (12, undefA), (13, undefA), (14, undefA), (15, bA ((!false) || (!v2))), (16, iA v3), (17, .ptr 0 2), (18, sA x0.gSalt), (19, bA v4), (20, bA (!v4)), (21, iA v5), (22, .ptr 0 3), (23, iA x0.gHoldout), (24, bA false), (25, bA false), (26, .ptr 0 3), (27, iA x0.gHoldout), (28, bA false), (29, bA (false || false)), (30, bA (false || false)), (31, .ptr 0 4), (32, iA x0.gCool), (33, bA false), (34, bA ((false || false) || false)), (35, bA ((false || false) || false)), (36, .ptr 0 4), (37, iA x0.gCool), (38, bA (decide (x0.gCool > 1099511627776))), (39, bA (((false || false) || false) || (decide (x0.gCool > 1099511627776)))), (41, .ptr 0 5), (42, .ro .unk x0.gCooling.length (TCool.cl x0.gCooling)), (43, iA (lI x0.gCooling)), (44, bA (decide ((lI x0.gCooling) > 32)))] ?_
            try rw [c1] at hv6
            try rw [c2] at hv6
            try rw [c3] at hv6
            try rw [c4] at hv6
            refine AD_callp (d := (some 40)) (al := [bA (((false || false) || false) || (decide (x0.gCool > 1099511627776))), iA 3]) (r := iA v6) (by kernel_rfl) (s_shape_when hv6) ⟨trivial, trivial, trivial⟩ trivial ?_
            refine AD_callp (d := (some 45)) (al := [bA (decide ((lI x0.gCooling) > 32)), iA 5]) (r := iA v7) (by kernel_rfl) (s_shape_when hv7) ⟨trivial, trivial, trivial⟩ trivial ?_
            refine AD_bsl (d := (some 46)) (m := 4) (cs := [iA v3, iA v5, iA v6, iA v7]) (by kernel_rfl) ⟨trivial, trivial, trivial, trivial, trivial⟩ ?_
            refine AD_callp (d := (some 47)) (al := [.ro .unk ([v3, v5, v6, v7]).length (cl_i64 ([v3, v5, v6, v7]))]) (r := iA v8) (by kernel_rfl) (s_shape_first hv8) ⟨(scl_cl_i64 _ _), trivial⟩ trivial ?_
            refine RD 1 90 [(31, 0), (30, 0), (26, 0), (25, 0), (21, 0), (20, 0), (36, 0), (35, 0), (17, 0), (16, 0), (12, 0), (11, 0), (1, 0), (0, 0)] [(1, .ptr 0 0), (3, iA v8), (6, .ptr 0 0), (7, sA x0.gKey), (8, bA false), (9, bA (!false)), (10, bA (!false)), (11, undefA), (12, undefA), (13, undefA), (14, undefA), (15, bA ((!false) || (!v2))), (16, iA v3), (17, .ptr 0 2), (18, sA x0.gSalt), (19, bA v4), (20, bA (!v4)), (21, iA v5), (22, .ptr 0 3), (23, iA x0.gHoldout), (24, bA false), (25, bA false), (26, .ptr 0 3), (27, iA x0.gHoldout), (28, bA false), (29, bA (false || false)), (30, bA (false || false)), (31, .ptr 0 4), (32, iA x0.gCool), (33, bA false), (34, bA ((false || false) || false)), (35, bA ((false || false) || false)), (36, .ptr 0 4), (37, iA x0.gCool), (38, bA (decide (x0.gCool > 1099511627776))), (39, bA (((false || false) || false) || (decide (x0.gCool > 1099511627776)))), (40, iA v6), (41, .ptr 0 5), (42, .ro .unk x0.gCooling.length (TCool.cl x0.gCooling)), (43, iA (lI x0.gCooling)), (44, bA (decide ((lI x0.gCooling) > 32))), (45, iA v7), (46, .ro .unk ([v3, v5, v6, v7]).length (cl_i64 ([v3, v5, v6, v7]))), (47, iA v8)] ?_
            exact AD_here [1, 3] (by kernel_rfl) rfl
  refine AWP_reg (Rh 2 90 [(1, .ptr 0 0), (3, iA v8), (49, bA (v8 != 0))] (AOps_done (CD H (fun hb9 H => ?_) (fun hb9 H => ?_))))
  · refine AWP_reg (Rh 2 90 [(2, iA v8)] (AOps_done ?_))
    exact AWP_ret (FR H)
  · refine AWP_skip ?_
    show AWP _ _ _ _ _ _ _
    refine AWP_seq (AWP_reg (Rh 4 90 [(1, .ptr 0 0), (52, .ro .unk x0.gCooling.length (TCool.cl x0.gCooling)), (53, iA (lI x0.gCooling)), (54, iA 0)] (AOps_done (AWP_block ?_))))
    refine AWP_loopN (α := Int) (fun v22 => fr 90 [(1, .ptr 0 0), (52, .ro .unk x0.gCooling.length (TCool.cl x0.gCooling)), (53, iA (lI x0.gCooling)), (54, iA v22)]) (fun v22 => [.cells 74 (TLayer.cs x0)]) (fun k_ v22 => k_ ≤ n ∧ p_shape_Layer_L1 k_ x0 v22 = some r) (fun n v22 H => ?_) (k := n) 0 ⟨Nat.le_refl _, H⟩ (Norm_fd [1, 52, 53, 54] 0 (by kernel_rfl) rfl rfl ⟨(sc_TLayer_cs _ _), trivial⟩ (by refine scL_fr ?_; exact ⟨(sc_ptr rfl), (scl_TCool_cl _ _), trivial, trivial, trivial⟩))
    show AWP _ _ _ _ _ (fr 90 [(1, .ptr 0 0), (52, .ro .unk x0.gCooling.length (TCool.cl x0.gCooling)), (53, iA (lI x0.gCooling)), (54, iA v22)]) [.cells 74 (TLayer.cs x0)]
    obtain ⟨hb_, H⟩ := H
    replace H : p_shape_Layer_L1 n x0 v22 = some r := H
    cases n with
    | zero => exact not_none (by simpa only [p_shape_Layer_L1] using H)
    | succ n =>
      unfold p_shape_Layer_L1 at H
      refine AWP_reg (Rh 1 90 [(1, .ptr 0 0), (52, .ro .unk x0.gCooling.length (TCool.cl x0.gCooling)), (53, iA (lI x0.gCooling)), (54, iA v22), (55, bA (decide (v22 < (lI x0.gCooling))))] (AOps_done (AWP_seq (CD H (fun hb23 H => ?_) (fun hb23 H => ?_)))))
      · refine AWP_skip ?_
        show AWP _ _ _ _ _ _ _
        refine AWP_seq (AWP_block ?_)
        refine AWP_reg (Rh 1 90 [(1, .ptr 0 0), (52, .ro .unk x0.gCooling.length (TCool.cl x0.gCooling)), (53, iA (lI x0.gCooling)), (54, iA v22), (56, iA v22)] ?_)
        obtain ⟨v24, hv24, H⟩ := bind_some H
        refine AOps_index (d := (some 57)) (sz := 3) (c := TCool.cs) (by kernel_rfl) rfl (eq_TCool_cl _) (fun _ => rfl) (by decide) hv24 (fun tl24 => ?_)
        refine R 4 90 [(1, .ptr 0 0), (4, iA v22), (5, .ptr 1 0), (52, .ro .unk x0.gCooling.length (TCool.cl x0.gCooling)), (53, iA (lI x0.gCooling)), (54, iA v22)] [.cells 128 (TCool.cs v24), .cells 74 (TLayer.cs x0)] (AOps_done (AWP_seq (AWP_reg (Rh 4 90 [(1, .ptr 0 0), (4, iA v22), (5, .ptr 1 0), (52, .ro .unk x0.gCooling.length (TCool.cl x0.gCooling)), (53, iA (lI x0.gCooling)), (54, iA v22), (60, iA v24.gFrom), (62, iA v24.gTo)] ?_))))
        obtain ⟨v25, hv25, H⟩ := bind_some H
        refine AOps_callp (d := (some 63)) (al := [iA v24.gFrom, iA v24.gTo]) (r := bA v25) (by kernel_rfl) (s_shape_inside hv25) ⟨trivial, trivial, trivial⟩ trivial ?_
        refine Rh 2 90 [(1, .ptr 0 0), (4, iA v22), (5, .ptr 1 0), (52, .ro .unk x0.gCooling.length (TCool.cl x0.gCooling)), (53, iA (lI x0.gCooling)), (54, iA v22), (65, bA (!v25))] (AOps_run 4 [1, 4, 5, 52, 53, 54, 69] (st' := fr 90 [(1, .ptr 0 0), (4, iA v22), (5, .ptr 1 0), (52, .ro .unk x0.gCooling.length (TCool.cl x0.gCooling)), (53, iA (lI x0.gCooling)), (54, iA v22), (69, bA ((!v25) || (decide (v24.gUntil < 0))))]) (h' := [.cells 128 (TCool.cs v24), .cells 74 (TLayer.cs x0)]) (by (generalize v25 = t0; cases t0 <;> kernel_rfl)) ?_)
        refine Rh 1 90 [(1, .ptr 0 0), (4, iA v22), (5, .ptr 1 0), (52, .ro .unk x0.gCooling.length (TCool.cl x0.gCooling)), (53, iA (lI x0.gCooling)), (54, iA v22), (70, bA ((!v25) || (decide (v24.gUntil < 0))))] (AOps_run 4 [1, 4, 5, 52, 53, 54, 74] (st' := fr 90 [(1, .ptr 0 0), (4, iA v22), (5, .ptr 1 0), (52, .ro .unk x0.gCooling.length (TCool.cl x0.gCooling)), (53, iA (lI x0.gCooling)), (54, iA v22), (74, bA (((!v25) || (decide (v24.gUntil < 0))) || (decide (v24.gUntil > 1099511627776))))]) (h' := [.cells 128 (TCool.cs v24), .cells 74 (TLayer.cs x0)]) (by (generalize v25 = t0; generalize (decide (v24.gUntil < 0)) = t1; cases t0 <;> cases t1 <;> kernel_rfl)) ?_)
        refine AOps_done (CD H (fun hb26 H => ?_) (fun hb26 H => ?_))
        · refine AWP_reg (Rh 1 90 [(2, iA 3)] (AOps_done ?_))
          exact AWP_ret (FR H)
        · refine AWP_skip ?_
          show AWP _ _ _ _ _ _ _
          obtain ⟨v27, hv27, H⟩ := bind_some H
          refine AWP_regD1 [0, 1, 2, 3, 4, 5, 6, 7, 8, 9, 10, 11, 12, 13] (N := 90) (f := [(1, .ptr 0 0), (4, iA v22), (5, .ptr 1 0), (52, .ro .unk x0.gCooling.length (TCool.cl x0.gCooling)), (53, iA (lI x0.gCooling)), (54, iA v22)]) (leL_of [1, 4, 5, 52, 53, 54] (by kernel_rfl)) mixed (by kernel_rfl) (by kernel_rfl) (st' := fr 90 [(1, .ptr 0 0), (52, .ro .unk x0.gCooling.length (TCool.cl x0.gCooling)), (53, iA (lI x0.gCooling)), (54, iA v22), (88, bA ((decide (v22 > 0)) && (decide (v24.gFrom < v27.gTo))))]) (h' := [.cells 128 (TCool.cs v24), .cells 74 (TLayer.cs x0)]) ?_ ?_
          rotate_left
          · refine RD 3 90 [] [(1, .ptr 0 0), (4, iA v22), (5, .ptr 1 0), (52, .ro .unk x0.gCooling.length (TCool.cl x0.gCooling)), (53, iA (lI x0.gCooling)), (54, iA v22), (75, iA v22), (76, bA (decide (v22 > 0))), (77, bA (decide (v22 > 0)))] ?_
            cases c1 : (decide (v22 > 0) : Bool) with
            | true =>
              refine RD 6 90 [(6, 0), (5, 0), (4, 1), (3, 1)] [(1, .ptr 0 0), (4, iA v22), (5, .ptr 1 0), (52, .ro .unk x0.gCooling.length (TCool.cl x0.gCooling)), (53, iA (lI x0.gCooling)), (54, iA v22), (75, iA v22), (76, bA true), (77, bA true), (78, .ptr 1 0), (79, iA v24.gFrom), (80, .ptr 0 5), (81, .ro .unk x0.gCooling.length (TCool.cl x0.gCooling)), (82, iA v22), (83, iA (w64 (v22 - 1)))] ?_
              have hv27_ := cond_t hv27 (by simp only [c1] <;> rfl)
              refine AD_index (d := (some 84)) (sz := 3) (c := TCool.cs) (by kernel_rfl) rfl (eq_TCool_cl _) (fun _ => rfl) (by decide) hv27_ (fun tl27 => ?_)
              refine RD 4 90 [(6, 0), (5, 0), (4, 1), (3, 1)] [(1, .ptr 0 0), (4, iA v22), (5, .ptr 1 0), (52, .ro .unk x0.gCooling.length (TCool.cl x0.gCooling)), (53, iA (lI x0.gCooling)), (54, iA v22), (75, iA v22), (76, bA true), (77, bA true), (78, .ptr 1 0), (79, iA v24.gFrom), (80, .ptr 0 5), (81, .ro .unk x0.gCooling.length (TCool.cl x0.gCooling)), (82, iA v22), (83, iA (w64 (v22 - 1))), (84, .rop ([iA v27.gFrom, iA v27.gTo, iA v27.gUntil] ++ tl27)), (85, .rop ([iA v27.gTo, iA v27.gUntil] ++ tl27)), (86, iA v27.gTo), (87, bA (decide (v24.gFrom < v27.gTo))), (88, bA (true && (decide (v24.gFrom < v27.gTo))))] ?_
              exact AD_here [1, 52, 53, 54, 88] (by kernel_rfl) rfl
            | false =>
              refine RD 11 90 [] [(1, .ptr 0 0), (4, iA v22), (5, .ptr 1 0), (52, .ro .unk x0.gCooling.length (TCool.cl x0.gCooling)), (53, iA (lI x0.gCooling)), (54, iA v22), (75, iA v22), (76, bA false), (77, bA false), (78, undefA), (79, undefA), (80, undefA), (81, undefA), (82, undefA), (83, undefA), (84, undefA), (85, undefA), (86, undefA), (87, undefA), (88, bA (false && (decide (v24.gFrom < v27.gTo))))] ?_
              exact AD_here [1, 52, 53, 54, 88] (by kernel_rfl) rfl
          refine CD H (fun hb28 H => ?_) (fun hb28 H => ?_)
          · refine AWP_reg (Rh 1 90 [(2, iA 9)] (AOps_done ?_))
            exact AWP_ret (FR H)
          · refine AWP_skip ?_
            show AWP _ _ _ _ _ _ _
            refine AWP_region ?_
            refine Rh 2 90 [(1, .ptr 0 0), (52, .ro .unk x0.gCooling.length (TCool.cl x0.gCooling)), (53, iA (lI x0.gCooling)), (54, iA (w64 (v22 + 1)))] (AOps_done ?_)
            exact Exists.intro (w64 (v22 + 1)) (Exists.intro n ⟨by omega, ⟨by omega, H⟩, Norm_fd [1, 52, 53, 54] 1 (by kernel_rfl) rfl rfl ⟨(sc_TLayer_cs _ _), trivial⟩ (by refine scL_fr ?_; exact ⟨(sc_ptr rfl), (scl_TCool_cl _ _), trivial, trivial, trivial⟩)⟩)
      · refine AWP_exit ?_
        show AWP _ _ _ _ _ _ _
        refine AWP_reg (Rh 1 90 [(2, iA 0)] (AOps_done ?_))
        exact AWP_ret (FR H)
theorem s_ref6_Layer {n : Nat} (hG : GlobT E) {x0 : TLayer} {r : Int} (H : p_ref6_Layer n x0 = some r) :
    Sp Tryz.prog E 39 [.agg (TLayer.cs x0)] [] (isA (iA r) []) := by
  unfold p_ref6_Layer at H
  refine Sp_fn Tryz.func39 rfl (fun hc hs => ?_)
  refine AWP_reg (R 2 92 [(1, .ptr 0 0)] [.cells 74 (TLayer.cs x0)] (AOps_done (AWP_seq (AWP_reg (Rh 2 92 [(1, .ptr 0 0), (6, sA x0.gKey)] ?_)))))
  obtain ⟨v1, hv1, H⟩ := bind_some H
  refine AOps_callp (d := (some 7)) (al := [sA x0.gKey]) (r := bA v1) (by kernel_rfl) (s_ref1_Key hv1) ⟨trivial, trivial⟩ trivial ?_
  refine Rh 2 92 [(1, .ptr 0 0), (9, bA (!v1))] ?_
  obtain ⟨v2, hv2, H⟩ := bind_some H
  refine AOps_cut 5 (st' := fr 92 [(1, .ptr 0 0), (14, bA ((!v1) || (!v2)))]) (h' := [.cells 74 (TLayer.cs x0)]) ?_ ?_
  rotate_left
  · cases c1 : (v1 : Bool) with
    | true =>
      refine R 2 92 [(1, .ptr 0 0), (9, bA (!true)), (11, sA x0.gKind)] [.cells 74 (TLayer.cs x0)] ?_
      have hv2_ := cond_t hv2 (by simp only [c1] <;> rfl)
      refine AOps_callp (d := (some 12)) (al := [sA x0.gKind]) (r := bA v2) (by kernel_rfl) (s_ref1_Key hv2_) ⟨trivial, trivial⟩ trivial ?_
      refine R 2 92 [(1, .ptr 0 0), (14, bA ((!true) || (!v2)))] [.cells 74 (TLayer.cs x0)] ?_
      exact AOps_here [1, 14] (by kernel_rfl) rfl
    | false =>
      refine R 5 92 [(1, .ptr 0 0), (14, bA ((!false) || (!v2)))] [.cells 74 (TLayer.cs x0)] ?_
      exact AOps_here [1, 14] (by kernel_rfl) rfl
  refine AOps_done (CD H (fun hb3 H => ?_) (fun hb3 H => ?_))
  · refine AWP_reg (Rh 1 92 [(2, iA 6)] (AOps_done ?_))
    exact AWP_ret (FR H)
  · refine AWP_skip ?_
    show AWP _ _ _ _ _ _ _
    refine AWP_seq (AWP_reg (Rh 2 92 [(1, .ptr 0 0), (16, sA x0.gSalt)] ?_))
    obtain ⟨v4, hv4, H⟩ := bind_some H
    refine AOps_callp (d := (some 17)) (al := [sA x0.gSalt]) (r := bA v4) (by kernel_rfl) (s_ref1_Valid hG hv4) ⟨trivial, trivial⟩ trivial ?_
    refine Rh 1 92 [(1, .ptr 0 0), (18, bA (!v4))] (AOps_done (CD H (fun hb5 H => ?_) (fun hb5 H => ?_)))
    · refine AWP_reg (Rh 1 92 [(2, iA 2)] (AOps_done ?_))
      exact AWP_ret (FR H)
    · refine AWP_skip ?_
      show AWP _ _ _ _ _ _ _
      refine AWP_seq (AWP_reg (Rh 4 92 [(1, .ptr 0 0), (22, bA (decide (x0.gHoldout < 0)))] (AOps_run 4 [1, 26] (st' := fr 92 [(1, .ptr 0 0), (26, bA ((decide (x0.gHoldout < 0)) || (decide (x0.gHoldout > 10000))))]) (h' := [.cells 74 (TLayer.cs x0)]) (by (generalize (decide (x0.gHoldout < 0)) = t0; cases t0 <;> kernel_rfl)) ?_)))
      refine Rh 1 92 [(1, .ptr 0 0), (27, bA ((decide (x0.gHoldout < 0)) || (decide (x0.gHoldout > 10000))))] (AOps_run 4 [1, 31] (st' := fr 92 [(1, .ptr 0 0), (31, bA (((decide (x0.gHoldout < 0)) || (decide (x0.gHoldout > 10000))) || (decide (x0.gCool < 0))))]) (h' := [.cells 74 (TLayer.cs x0)]) (by (generalize (decide (x0.gHoldout < 0)) = t0; generalize (decide (x0.gHoldout > 10000)) = t1; cases t0 <;> cases t1 <;> kernel_rfl)) ?_)
      refine Rh 1 92 [(1, .ptr 0 0), (32, bA (((decide (x0.gHoldout < 0)) || (decide (x0.gHoldout > 10000))) || (decide (x0.gCool < 0))))] (AOps_run 4 [1, 36] (st' := fr 92 [(1, .ptr 0 0), (36, bA ((((decide (x0.gHoldout < 0)) || (decide (x0.gHoldout > 10000))) || (decide (x0.gCool < 0))) || (decide (x0.gCool > 1099511627776))))]) (h' := [.cells 74 (TLayer.cs x0)]) (by (generalize (decide (x0.gHoldout < 0)) = t0; generalize (decide (x0.gHoldout > 10000)) = t1; generalize (decide (x0.gCool < 0)) = t2; cases t0 <;> cases t1 <;> cases t2 <;> kernel_rfl)) ?_)
      refine AOps_done (CD H (fun hb6 H => ?_) (fun hb6 H => ?_))
      · refine AWP_reg (Rh 1 92 [(2, iA 3)] (AOps_done ?_))
        exact AWP_ret (FR H)
      · refine AWP_skip ?_
        show AWP _ _ _ _ _ _ _
        refine AWP_seq (AWP_reg (Rh 4 92 [(1, .ptr 0 0), (40, bA (decide ((lI x0.gCooling) > 32)))] (AOps_done (CD H (fun hb7 H => ?_) (fun hb7 H => ?_)))))
        · refine AWP_reg (Rh 1 92 [(2, iA 5)] (AOps_done ?_))
          exact AWP_ret (FR H)
        · refine AWP_skip ?_
          show AWP _ _ _ _ _ _ _
          refine AWP_seq (AWP_reg (Rh 1 92 [(1, .ptr 0 0), (3, iA 0)] (AOps_done (AWP_block ?_))))
          refine AWP_loopN (α := Int) (fun v18 => fr 92 [(1, .ptr 0 0), (3, iA v18)]) (fun v18 => [.cells 74 (TLayer.cs x0)]) (fun k_ v18 => k_ ≤ n ∧ p_ref6_Layer_L1 k_ x0 v18 = some r) (fun n v18 H => ?_) (k := n) 0 ⟨Nat.le_refl _, H⟩ (Norm_fd [1, 3] 0 (by kernel_rfl) rfl rfl ⟨(sc_TLayer_cs _ _), trivial⟩ (by refine scL_fr ?_; exact ⟨(sc_ptr rfl), trivial, trivial⟩))
          show AWP _ _ _ _ _ (fr 92 [(1, .ptr 0 0), (3, iA v18)]) [.cells 74 (TLayer.cs x0)]
          obtain ⟨hb_, H⟩ := H
          replace H : p_ref6_Layer_L1 n x0 v18 = some r := H
          cases n with
          | zero => exact not_none (by simpa only [p_ref6_Layer_L1] using H)
          | succ n =>
            unfold p_ref6_Layer_L1 at H
            refine AWP_seq (AWP_reg (Rh 5 92 [(1, .ptr 0 0), (3, iA v18), (45, bA (decide (v18 < (lI x0.gCooling))))] (AOps_done (CD H (fun hb19 H => ?_) (fun hb19 H => ?_)))))
            · refine AWP_skip ?_
              show AWP _ _ _ _ _ _ _
              refine AWP_seq (AWP_block ?_)
              refine AWP_reg (Rh 3 92 [(1, .ptr 0 0), (3, iA v18), (49, .ro .unk x0.gCooling.length (TCool.cl x0.gCooling)), (50, iA v18)] ?_)
              obtain ⟨v20, hv20, H⟩ := bind_some H
              refine AOps_index (d := (some 51)) (sz := 3) (c := TCool.cs) (by kernel_rfl) rfl (eq_TCool_cl _) (fun _ => rfl) (by decide) hv20 (fun tl20 => ?_)
              refine R 3 92 [(1, .ptr 0 0), (3, iA v18), (4, .ptr 1 0)] [.cells 128 (TCool.cs v20), .cells 74 (TLayer.cs x0)] (AOps_done (AWP_seq (AWP_reg (Rh 4 92 [(1, .ptr 0 0), (3, iA v18), (4, .ptr 1 0), (56, bA (decide (v20.gFrom < 0)))] (AOps_run 6 [1, 3, 4, 62] (st' := fr 92 [(1, .ptr 0 0), (3, iA v18), (4, .ptr 1 0), (62, bA ((decide (v20.gFrom < 0)) || (decide (v20.gFrom ≥ v20.gTo))))]) (h' := [.cells 128 (TCool.cs v20), .cells 74 (TLayer.cs x0)]) (by (generalize (decide (v20.gFrom < 0)) = t0; cases t0 <;> kernel_rfl)) ?_)))))
              refine Rh 1 92 [(1, .ptr 0 0), (3, iA v18), (4, .ptr 1 0), (63, bA ((decide (v20.gFrom < 0)) || (decide (v20.gFrom ≥ v20.gTo))))] (AOps_run 4 [1, 3, 4, 67] (st' := fr 92 [(1, .ptr 0 0), (3, iA v18), (4, .ptr 1 0), (67, bA (((decide (v20.gFrom < 0)) || (decide (v20.gFrom ≥ v20.gTo))) || (decide (v20.gTo > 10000))))]) (h' := [.cells 128 (TCool.cs v20), .cells 74 (TLayer.cs x0)]) (by (generalize (decide (v20.gFrom < 0)) = t0; generalize (decide (v20.gFrom ≥ v20.gTo)) = t1; cases t0 <;> cases t1 <;> kernel_rfl)) ?_)
              refine Rh 1 92 [(1, .ptr 0 0), (3, iA v18), (4, .ptr 1 0), (68, bA (((decide (v20.gFrom < 0)) || (decide (v20.gFrom ≥ v20.gTo))) || (decide (v20.gTo > 10000))))] (AOps_run 4 [1, 3, 4, 72] (st' := fr 92 [(1, .ptr 0 0), (3, iA v18), (4, .ptr 1 0), (72, bA ((((decide (v20.gFrom < 0)) || (decide (v20.gFrom ≥ v20.gTo))) || (decide (v20.gTo > 10000))) || (decide (v20.gUntil < 0))))]) (h' := [.cells 128 (TCool.cs v20), .cells 74 (TLayer.cs x0)]) (by (generalize (decide (v20.gFrom < 0)) = t0; generalize (decide (v20.gFrom ≥ v20.gTo)) = t1; generalize (decide (v20.gTo > 10000)) = t2; cases t0 <;> cases t1 <;> cases t2 <;> kernel_rfl)) ?_)
              refine Rh 1 92 [(1, .ptr 0 0), (3, iA v18), (4, .ptr 1 0), (73, bA ((((decide (v20.gFrom < 0)) || (decide (v20.gFrom ≥ v20.gTo))) || (decide (v20.gTo > 10000))) || (decide (v20.gUntil < 0))))] (AOps_run 4 [1, 3, 4, 77] (st' := fr 92 [(1, .ptr 0 0), (3, iA v18), (4, .ptr 1 0), (77, bA (((((decide (v20.gFrom < 0)) || (decide (v20.gFrom ≥ v20.gTo))) || (decide (v20.gTo > 10000))) || (decide (v20.gUntil < 0))) || (decide (v20.gUntil > 1099511627776))))]) (h' := [.cells 128 (TCool.cs v20), .cells 74 (TLayer.cs x0)]) (by (generalize (decide (v20.gFrom < 0)) = t0; generalize (decide (v20.gFrom ≥ v20.gTo)) = t1; generalize (decide (v20.gTo > 10000)) = t2; generalize (decide (v20.gUntil < 0)) = t3; cases t0 <;> cases t1 <;> cases t2 <;> cases t3 <;> kernel_rfl)) ?_)
              refine AOps_done (CD H (fun hb21 H => ?_) (fun hb21 H => ?_))
              · refine AWP_reg (Rh 1 92 [(2, iA 3)] (AOps_done ?_))
                exact AWP_ret (FR H)
              · refine AWP_skip ?_
                show AWP _ _ _ _ _ _ _
                obtain ⟨v22, hv22, H⟩ := bind_some H
                refine AWP_regD1 [0, 1, 2, 3, 4, 5, 6, 7, 8, 9, 10, 11, 12, 13] (N := 92) (f := [(1, .ptr 0 0), (3, iA v18), (4, .ptr 1 0)]) (leL_of [1, 3, 4] (by kernel_rfl)) mixed (by kernel_rfl) (by kernel_rfl) (st' := fr 92 [(1, .ptr 0 0), (3, iA v18), (91, bA ((decide (v18 > 0)) && (decide (v20.gFrom < v22.gTo))))]) (h' := [.cells 128 (TCool.cs v20), .cells 74 (TLayer.cs x0)]) ?_ ?_
                rotate_left
                · refine RD 3 92 [] [(1, .ptr 0 0), (3, iA v18), (4, .ptr 1 0), (78, iA v18), (79, bA (decide (v18 > 0))), (80, bA (decide (v18 > 0)))] ?_
                  cases c1 : (decide (v18 > 0) : Bool) with
                  | true =>
                    refine RD 6 92 [(6, 0), (5, 0), (4, 1), (3, 1)] [(1, .ptr 0 0), (3, iA v18), (4, .ptr 1 0), (78, iA v18), (79, bA true), (80, bA true), (81, .ptr 1 0), (82, iA v20.gFrom), (83, .ptr 0 5), (84, .ro .unk x0.gCooling.length (TCool.cl x0.gCooling)), (85, iA v18), (86, iA (w64 (v18 - 1)))] ?_
                    have hv22_ := cond_t hv22 (by simp only [c1] <;> rfl)
                    refine AD_index (d := (some 87)) (sz := 3) (c := TCool.cs) (by kernel_rfl) rfl (eq_TCool_cl _) (fun _ => rfl) (by decide) hv22_ (fun tl22 => ?_)
                    refine RD 4 92 [(6, 0), (5, 0), (4, 1), (3, 1)] [(1, .ptr 0 0), (3, iA v18), (4, .ptr 1 0), (78, iA v18), (79, bA true), (80, bA true), (81, .ptr 1 0), (82, iA v20.gFrom), (83, .ptr 0 5), (84, .ro .unk x0.gCooling.length (TCool.cl x0.gCooling)), (85, iA v18), (86, iA (w64 (v18 - 1))), (87, .rop ([iA v22.gFrom, iA v22.gTo, iA v22.gUntil] ++ tl22)), (88, .rop ([iA v22.gTo, iA v22.gUntil] ++ tl22)), (89, iA v22.gTo), (90, bA (decide (v20.gFrom < v22.gTo))), (91, bA (true && (decide (v20.gFrom < v22.gTo))))] ?_
                    exact AD_here [1, 3, 91] (by kernel_rfl) rfl
                  | false =>
                    refine RD 11 92 [] [(1, .ptr 0 0), (3, iA v18), (4, .ptr 1 0), (78, iA v18), (79, bA false), (80, bA false), (81, undefA), (82, undefA), (83, undefA), (84, undefA), (85, undefA), (86, undefA), (87, undefA), (88, undefA), (89, undefA), (90, undefA), (91, bA (false && (decide (v20.gFrom < v22.gTo))))] ?_
                    exact AD_here [1, 3, 91] (by kernel_rfl) rfl
                refine CD H (fun hb23 H => ?_) (fun hb23 H => ?_)
                · refine AWP_reg (Rh 1 92 [(2, iA 9)] (AOps_done ?_))
                  exact AWP_ret (FR H)
                · refine AWP_skip ?_
                  show AWP _ _ _ _ _ _ _
                  refine AWP_region ?_
                  refine Rh 3 92 [(1, .ptr 0 0), (3, iA (w64 (v18 + 1)))] (AOps_done ?_)
                  exact Exists.intro (w64 (v18 + 1)) (Exists.intro n ⟨by omega, ⟨by omega, H⟩, Norm_fd [1, 3] 1 (by kernel_rfl) rfl rfl ⟨(sc_TLayer_cs _ _), trivial⟩ (by refine scL_fr ?_; exact ⟨(sc_ptr rfl), trivial, trivial⟩)⟩)
            · refine AWP_exit ?_
              show AWP _ _ _ _ _ _ _
              refine AWP_reg (Rh 1 92 [(2, iA 0)] (AOps_done ?_))
              exact AWP_ret (FR H)
end Go.Proofs.YtjhbobacbaikoaaGreatDoor
