/- Functions of the program as pure functions, and that the program computes these. -/
import Derived.Test.YtjhbobacbaikoaaGreatDoorM3
import Derived.Test.YtjhbobacbaikoaaGreatDoorM4
import Derived.Test.YtjhbobacbaikoaaGreatDoorM5
namespace Go.Proofs.YtjhbobacbaikoaaGreatDoor
open Go
set_option linter.unusedVariables false
set_option linter.unusedSimpArgs false
set_option maxRecDepth 100000
def p_shape_keys_L1 (n : Nat) (x0 : List ByteArray) (v14 : Int) : Option Int := match n with
| 0 => none
| n + 1 =>
(bif decide (v14 < (lI x0)) then
(rdO x0 v14).bind fun v16 =>
(bif !(seq' v16 ByteArray.empty) then p_text_Valid n v16 else some (false)).bind fun v17 =>
(bif (seq' v16 ByteArray.empty) || (!v17) then
 some (2)
 else
(bif decide (v14 > 0) then rdO x0 (w64 (v14 - 1)) else some ByteArray.empty).bind fun v19 =>
(bif (decide (v14 > 0)) && (sle' v16 v19) then
 some (9)
 else
 p_shape_keys_L1 n x0 (w64 (v14 + 1))))
 else
 some (0))
def p_shape_keys (n : Nat) (x0 : List ByteArray) : Option Int :=
(bif decide ((lI x0) > 40) then
 some (5)
 else
 p_shape_keys_L1 n x0 0)
def p_shape_targets_L1 (n : Nat) (x0 : List TTarget) (x1 : Int) (v21 : Int) : Option Int := match n with
| 0 => none
| n + 1 =>
(bif decide (v21 < (lI x0)) then
(rdO x0 v21).bind fun v23 =>
(p_text_Key n v23.gKind).bind fun v24 =>
(p_shape_when n (!v24) 6).bind fun v25 =>
(p_shape_when n ((decide (v23.gVariation < 1)) || (decide (v23.gVariation > x1))) 3).bind fun v26 =>
(p_shape_when n ((lI v23.gKeys) == 0) 3).bind fun v27 =>
(p_shape_keys n v23.gKeys).bind fun v28 =>
(p_shape_first n ([v25, v26, v27, v28])).bind fun v29 =>
(bif v29 != 0 then
 some (v29)
 else
 p_shape_targets_L1 n x0 x1 (w64 (v21 + 1)))
 else
 some (0))
def p_shape_targets (n : Nat) (x0 : List TTarget) (x1 : Int) : Option Int :=
(bif decide ((lI x0) > 8) then
 some (5)
 else
 p_shape_targets_L1 n x0 x1 0)
def p_shape_test (n : Nat) (x0 : Int) : Option Bool :=
 some ((decide (x0 ≥ 6)) && (decide (x0 ≤ 15)))
def p_shape_shape_K1 (n : Nat) (x0 : TExpr) : Option Bool :=
(p_shape_test n x0.gOp).bind fun v6 =>
(bif (!v6) && ((!(seq' x0.gKind ByteArray.empty)) || ((!(seq' x0.gName ByteArray.empty)) && (x0.gOp != 5))) then
 some (false)
 else
(bif x0.gOp == 8 then
 some (decide ((lI x0.gValues) > 0))
 else
(p_shape_test n x0.gOp).bind fun v9 =>
(bif v9 && (x0.gOp != 6) then
 some ((lI x0.gValues) == 1)
 else
 some ((lI x0.gValues) == 0))))
def p_shape_shape (n : Nat) (x0 : TExpr) : Option Bool :=
(bif (x0.gOp == 2) || (x0.gOp == 3) then
(bif decide ((lI x0.gKids) < 2) then
 some (false)
 else
 p_shape_shape_K1 n x0 )
 else
(bif x0.gOp == 4 then
(bif (lI x0.gKids) != 1 then
 some (false)
 else
 p_shape_shape_K1 n x0 )
 else
(bif decide ((lI x0.gKids) > 0) then
 some (false)
 else
 p_shape_shape_K1 n x0 )))
def p_shape_part_L2 (n : Nat) (x0 : TExpr) (v31 : Int) : Option Int := match n with
| 0 => none
| n + 1 =>
(bif decide (v31 < (lI x0.gValues)) then
(rdO x0.gValues v31).bind fun v33 =>
(p_value_Check n v33).bind fun v34 =>
(bif v34 != 0 then
 some (v34)
 else
 p_shape_part_L2 n x0 (w64 (v31 + 1)))
 else
(bif ((x0.gOp == 9) || (x0.gOp == 10)) || (x0.gOp == 11) then rdO x0.gValues 0 else some ({ gKind := 0, gNumber := 0, gText := ByteArray.empty, gList := [] } : TValue)).bind fun v36 =>
(p_shape_when n ((((x0.gOp == 9) || (x0.gOp == 10)) || (x0.gOp == 11)) && (v36.gKind != 3)) 8).bind fun v37 =>
 some (v37))
def p_shape_part_L1 (n : Nat) (x0 : TExpr) (v13 : Int) : Option Int := match n with
| 0 => none
| n + 1 =>
(bif decide (v13 < (lI x0.gKids)) then
(rdO x0.gKids v13).bind fun v15 =>
(bif (v15.gOp == x0.gOp) && ((x0.gOp == 2) || (x0.gOp == 3)) then
 some (15)
 else
 p_shape_part_L1 n x0 (w64 (v13 + 1)))
 else
(p_shape_test n x0.gOp).bind fun v17 =>
(bif v17 then p_text_Key n x0.gKind else some (false)).bind fun v18 =>
(bif !(v17 && (!v18)) then p_shape_test n x0.gOp else some (false)).bind fun v19 =>
(bif (!(v17 && (!v18))) && (v19 || (x0.gOp == 5)) then p_text_Key n x0.gName else some (false)).bind fun v20 =>
(bif (v17 && (!v18)) || ((v19 || (x0.gOp == 5)) && (!v20)) then
 some (6)
 else
 p_shape_part_L2 n x0 0))
def p_shape_part (n : Nat) (x0 : TExpr) (x1 : Int) : Option Int :=
(bif decide (x1 ≥ 10) then
 some (18)
 else
(bif (decide (x0.gOp < 1)) || (decide (x0.gOp > 15)) then
 some (7)
 else
(p_shape_shape n x0).bind fun v3 =>
(bif !v3 then
 some (15)
 else
(bif (decide ((lI x0.gKids) > 12)) || (decide ((lI x0.gValues) > 20)) then
 some (5)
 else
 p_shape_part_L1 n x0 0))))
def p_shape_expr_L1 (n : Nat) (self_p_shape_expr : TExpr → Int → Int → Option (Int × Int)) (x0 : TExpr) (x1 : Int) (v14 : Int) (v15 : Int) : Option (Int × Int) := match n with
| 0 => none
| n + 1 =>
(bif decide (v14 < (lI x0.gKids)) then
(rdO x0.gKids v14).bind fun v17 =>
(self_p_shape_expr v17 (w64 (x1 + 1)) v15).bind fun v18 =>
(bif v18.1 != 0 then
 some (v18.1, v18.2)
 else
 p_shape_expr_L1 n self_p_shape_expr x0 x1 (w64 (v14 + 1)) v18.2)
 else
 some (0, v15))
def p_shape_expr_F (self_p_shape_expr : TExpr → Int → Int → Option (Int × Int)) (n : Nat) (x0 : TExpr) (x1 : Int) (x2 : Int) : Option (Int × Int) :=
(bif decide (x2 ≥ 60) then
 some (5, x2)
 else
(p_shape_part n x0 x1).bind fun v2 =>
(bif v2 != 0 then
 some (v2, w64 (x2 + 1))
 else
 p_shape_expr_L1 n self_p_shape_expr x0 x1 0 (w64 (x2 + 1))))
def p_shape_expr (n : Nat) (x0 : TExpr) (x1 : Int) (x2 : Int) : Option (Int × Int) := match n with
| 0 => none
| n + 1 => p_shape_expr_F (p_shape_expr n) n x0 x1 x2
def p_shape_Expr (n : Nat) (x0 : TExpr) : Option Int :=
(p_shape_expr n x0 0 0).bind fun v1 =>
 some (v1.1)
variable {E : Env}
theorem s_shape_keys {n : Nat} (hG : GlobT E) {x0 : List ByteArray} {r : Int} (H : p_shape_keys n x0 = some r) :
    Sp Tryz.prog E 77 [.ro .unk x0.length (cl_str x0)] [] (isA (iA r) []) := by
  unfold p_shape_keys at H
  refine Sp_fn Tryz.func77 rfl (fun hc hs => ?_)
  refine AWP_reg (Rh 1 34 [(0, .ro .unk x0.length (cl_str x0))] (AOps_done (AWP_seq (AWP_reg (Rh 3 34 [(0, .ro .unk x0.length (cl_str x0)), (7, bA (decide ((lI x0) > 40)))] (AOps_done (CD H (fun hb1 H => ?_) (fun hb1 H => ?_))))))))
  · refine AWP_reg (Rh 1 34 [(2, iA 5)] (AOps_done ?_))
    exact AWP_ret (FR H)
  · refine AWP_skip ?_
    show AWP _ _ _ _ _ _ _
    refine AWP_seq (AWP_reg (Rh 3 34 [(0, .ro .unk x0.length (cl_str x0)), (8, .ro .unk x0.length (cl_str x0)), (9, iA (lI x0)), (10, iA 0)] (AOps_done (AWP_block ?_))))
    refine AWP_loopN (α := Int) (fun v14 => fr 34 [(0, .ro .unk x0.length (cl_str x0)), (8, .ro .unk x0.length (cl_str x0)), (9, iA (lI x0)), (10, iA v14)]) (fun v14 => []) (fun k_ v14 => k_ ≤ n ∧ p_shape_keys_L1 k_ x0 v14 = some r) (fun n v14 H => ?_) (k := n) 0 ⟨Nat.le_refl _, H⟩ (Norm_fd [0, 8, 9, 10] 0 (by kernel_rfl) rfl rfl trivial (by refine scL_fr ?_; exact ⟨(scl_cl_str _ _), (scl_cl_str _ _), trivial, trivial, trivial⟩))
    show AWP _ _ _ _ _ (fr 34 [(0, .ro .unk x0.length (cl_str x0)), (8, .ro .unk x0.length (cl_str x0)), (9, iA (lI x0)), (10, iA v14)]) []
    obtain ⟨hb_, H⟩ := H
    replace H : p_shape_keys_L1 n x0 v14 = some r := H
    cases n with
    | zero => exact not_none (by simpa only [p_shape_keys_L1] using H)
    | succ n =>
      unfold p_shape_keys_L1 at H
      refine AWP_reg (Rh 1 34 [(0, .ro .unk x0.length (cl_str x0)), (8, .ro .unk x0.length (cl_str x0)), (9, iA (lI x0)), (10, iA v14), (11, bA (decide (v14 < (lI x0))))] (AOps_done (AWP_seq (CD H (fun hb15 H => ?_) (fun hb15 H => ?_)))))
      · refine AWP_skip ?_
        show AWP _ _ _ _ _ _ _
        refine AWP_seq (AWP_block ?_)
        refine AWP_reg (Rh 1 34 [(0, .ro .unk x0.length (cl_str x0)), (8, .ro .unk x0.length (cl_str x0)), (9, iA (lI x0)), (10, iA v14), (12, iA v14)] ?_)
        obtain ⟨v16, hv16, H⟩ := bind_some H
        refine AOps_index (d := (some 13)) (sz := 1) (c := cs_str) (by kernel_rfl) rfl (eq_cl_str _) (fun _ => rfl) (by decide) hv16 (fun tl16 => ?_)
        refine Rh 3 34 [(0, .ro .unk x0.length (cl_str x0)), (3, iA v14), (4, sA v16), (8, .ro .unk x0.length (cl_str x0)), (9, iA (lI x0)), (10, iA v14)] (AOps_done (AWP_seq (AWP_reg (Rh 3 34 [(0, .ro .unk x0.length (cl_str x0)), (3, iA v14), (4, sA v16), (8, .ro .unk x0.length (cl_str x0)), (9, iA (lI x0)), (10, iA v14), (17, bA (seq' v16 ByteArray.empty))] ?_))))
        obtain ⟨v17, hv17, H⟩ := bind_some H
        refine AOps_cut 4 (st' := fr 34 [(0, .ro .unk x0.length (cl_str x0)), (3, iA v14), (4, sA v16), (8, .ro .unk x0.length (cl_str x0)), (9, iA (lI x0)), (10, iA v14), (21, bA ((seq' v16 ByteArray.empty) || (!v17)))]) (h' := []) ?_ ?_
        rotate_left
        · cases c1 : (seq' v16 ByteArray.empty : Bool) with
          | true =>
            refine R 4 34 [(0, .ro .unk x0.length (cl_str x0)), (3, iA v14), (4, sA v16), (8, .ro .unk x0.length (cl_str x0)), (9, iA (lI x0)), (10, iA v14), (21, bA (true || (!v17)))] [] ?_
            exact AOps_here [0, 3, 4, 8, 9, 10, 21] (by kernel_rfl) rfl
          | false =>
            refine R 1 34 [(0, .ro .unk x0.length (cl_str x0)), (3, iA v14), (4, sA v16), (8, .ro .unk x0.length (cl_str x0)), (9, iA (lI x0)), (10, iA v14), (17, bA false), (18, sA v16)] [] ?_
            have hv17_ := cond_t hv17 (by simp only [c1] <;> rfl)
            refine AOps_callp (d := (some 19)) (al := [sA v16]) (r := bA v17) (by kernel_rfl) (s_text_Valid hG hv17_) ⟨trivial, trivial⟩ trivial ?_
            refine R 2 34 [(0, .ro .unk x0.length (cl_str x0)), (3, iA v14), (4, sA v16), (8, .ro .unk x0.length (cl_str x0)), (9, iA (lI x0)), (10, iA v14), (21, bA (false || (!v17)))] [] ?_
            exact AOps_here [0, 3, 4, 8, 9, 10, 21] (by kernel_rfl) rfl
        refine AOps_done (CD H (fun hb18 H => ?_) (fun hb18 H => ?_))
        · refine AWP_reg (Rh 1 34 [(2, iA 2)] (AOps_done ?_))
          exact AWP_ret (FR H)
        · refine AWP_skip ?_
          show AWP _ _ _ _ _ _ _
          refine AWP_reg (Rh 3 34 [(0, .ro .unk x0.length (cl_str x0)), (3, iA v14), (4, sA v16), (8, .ro .unk x0.length (cl_str x0)), (9, iA (lI x0)), (10, iA v14), (24, bA (decide (v14 > 0)))] ?_)
          obtain ⟨v19, hv19, H⟩ := bind_some H
          refine AOps_cut 8 (st' := fr 34 [(0, .ro .unk x0.length (cl_str x0)), (8, .ro .unk x0.length (cl_str x0)), (9, iA (lI x0)), (10, iA v14), (32, bA ((decide (v14 > 0)) && (sle' v16 v19)))]) (h' := []) ?_ ?_
          rotate_left
          · cases c1 : (decide (v14 > 0) : Bool) with
            | true =>
              refine R 4 34 [(0, .ro .unk x0.length (cl_str x0)), (8, .ro .unk x0.length (cl_str x0)), (9, iA (lI x0)), (10, iA v14), (24, bA true), (25, sA v16), (26, .ro .unk x0.length (cl_str x0)), (28, iA (w64 (v14 - 1)))] [] ?_
              have hv19_ := cond_t hv19 (by simp only [c1] <;> rfl)
              refine AOps_index (d := (some 29)) (sz := 1) (c := cs_str) (by kernel_rfl) rfl (eq_cl_str _) (fun _ => rfl) (by decide) hv19_ (fun tl19 => ?_)
              refine R 3 34 [(0, .ro .unk x0.length (cl_str x0)), (8, .ro .unk x0.length (cl_str x0)), (9, iA (lI x0)), (10, iA v14), (32, bA (true && (sle' v16 v19)))] [] ?_
              exact AOps_here [0, 8, 9, 10, 32] (by kernel_rfl) rfl
            | false =>
              refine R 8 34 [(0, .ro .unk x0.length (cl_str x0)), (8, .ro .unk x0.length (cl_str x0)), (9, iA (lI x0)), (10, iA v14), (32, bA (false && (sle' v16 v19)))] [] ?_
              exact AOps_here [0, 8, 9, 10, 32] (by kernel_rfl) rfl
          refine AOps_done (CD H (fun hb20 H => ?_) (fun hb20 H => ?_))
          · refine AWP_reg (Rh 1 34 [(2, iA 9)] (AOps_done ?_))
            exact AWP_ret (FR H)
          · refine AWP_skip ?_
            show AWP _ _ _ _ _ _ _
            refine AWP_region ?_
            refine Rh 2 34 [(0, .ro .unk x0.length (cl_str x0)), (8, .ro .unk x0.length (cl_str x0)), (9, iA (lI x0)), (10, iA (w64 (v14 + 1)))] (AOps_done ?_)
            exact Exists.intro (w64 (v14 + 1)) (Exists.intro n ⟨by omega, ⟨by omega, H⟩, Norm_fd [0, 8, 9, 10] 0 (by kernel_rfl) rfl rfl trivial (by refine scL_fr ?_; exact ⟨(scl_cl_str _ _), (scl_cl_str _ _), trivial, trivial, trivial⟩)⟩)
      · refine AWP_exit ?_
        show AWP _ _ _ _ _ _ _
        refine AWP_reg (Rh 1 34 [(2, iA 0)] (AOps_done ?_))
        exact AWP_ret (FR H)
theorem s_shape_targets {n : Nat} (hG : GlobT E) {x0 : List TTarget} {x1 : Int} {r : Int} (H : p_shape_targets n x0 x1 = some r) :
    Sp Tryz.prog E 71 [.ro .unk x0.length (TTarget.cl x0), iA x1] [] (isA (iA r) []) := by
  unfold p_shape_targets at H
  refine Sp_fn Tryz.func71 rfl (fun hc hs => ?_)
  refine AWP_reg (Rh 1 46 [(0, .ro .unk x0.length (TTarget.cl x0)), (1, iA x1)] (AOps_done (AWP_seq (AWP_reg (Rh 3 46 [(0, .ro .unk x0.length (TTarget.cl x0)), (1, iA x1), (10, bA (decide ((lI x0) > 8)))] (AOps_done (CD H (fun hb1 H => ?_) (fun hb1 H => ?_))))))))
  · refine AWP_reg (Rh 1 46 [(4, iA 5)] (AOps_done ?_))
    exact AWP_ret (FR H)
  · refine AWP_skip ?_
    show AWP _ _ _ _ _ _ _
    refine AWP_seq (AWP_reg (Rh 3 46 [(1, iA x1), (11, .ro .unk x0.length (TTarget.cl x0)), (12, iA (lI x0)), (13, iA 0)] (AOps_done (AWP_block ?_))))
    refine AWP_loopN (α := Int) (fun v21 => fr 46 [(1, iA x1), (11, .ro .unk x0.length (TTarget.cl x0)), (12, iA (lI x0)), (13, iA v21)]) (fun v21 => []) (fun k_ v21 => k_ ≤ n ∧ p_shape_targets_L1 k_ x0 x1 v21 = some r) (fun n v21 H => ?_) (k := n) 0 ⟨Nat.le_refl _, H⟩ (Norm_fd [1, 11, 12, 13] 0 (by kernel_rfl) rfl rfl trivial (by refine scL_fr ?_; exact ⟨trivial, (scl_TTarget_cl _ _), trivial, trivial, trivial⟩))
    show AWP _ _ _ _ _ (fr 46 [(1, iA x1), (11, .ro .unk x0.length (TTarget.cl x0)), (12, iA (lI x0)), (13, iA v21)]) []
    obtain ⟨hb_, H⟩ := H
    replace H : p_shape_targets_L1 n x0 x1 v21 = some r := H
    cases n with
    | zero => exact not_none (by simpa only [p_shape_targets_L1] using H)
    | succ n =>
      unfold p_shape_targets_L1 at H
      refine AWP_reg (Rh 1 46 [(1, iA x1), (11, .ro .unk x0.length (TTarget.cl x0)), (12, iA (lI x0)), (13, iA v21), (14, bA (decide (v21 < (lI x0))))] (AOps_done (AWP_seq (CD H (fun hb22 H => ?_) (fun hb22 H => ?_)))))
      · refine AWP_skip ?_
        show AWP _ _ _ _ _ _ _
        refine AWP_seq (AWP_block ?_)
        refine AWP_reg ?_
        obtain ⟨v23, hv23, H⟩ := bind_some H
        refine AOps_index (d := (some 15)) (sz := 3) (c := TTarget.cs) (by kernel_rfl) rfl (eq_TTarget_cl _) (fun _ => rfl) (by decide) hv23 (fun tl23 => ?_)
        refine R 3 46 [(1, iA x1), (6, .ptr 0 0), (11, .ro .unk x0.length (TTarget.cl x0)), (12, iA (lI x0)), (13, iA v21)] [.cells 117 (TTarget.cs v23)] (AOps_done ?_)
        obtain ⟨v24, hv24, H⟩ := bind_some H
        obtain ⟨v25, hv25, H⟩ := bind_some H
        obtain ⟨v26, hv26, H⟩ := bind_some H
        obtain ⟨v27, hv27, H⟩ := bind_some H
        obtain ⟨v28, hv28, H⟩ := bind_some H
        obtain ⟨v29, hv29, H⟩ := bind_some H
        refine AWP_regD1 [0, 1, 5, 6, 7, 15, 16, 17, 18, 20, 21, 2, 3, 4, 8, 9, 10, 11, 12, 13, 14, 19, 22, 23, 24, 25] (N := 46) (f := [(1, iA x1), (6, .ptr 0 0), (11, .ro .unk x0.length (TTarget.cl x0)), (12, iA (lI x0)), (13, iA v21)]) (leL_of [1, 6, 11, 12, 13] (by kernel_rfl)) mixed (by kernel_rfl) (by kernel_rfl) (st' := fr 46 [(1, iA x1), (7, iA v29), (11, .ro .unk x0.length (TTarget.cl x0)), (12, iA (lI x0)), (13, iA v21)]) (h' := [.cells 117 (TTarget.cs v23)]) ?_ ?_
        rotate_left
        · refine RD 11 46 [(21, 0), (20, 0), (16, 0), (15, 0), (6, 0), (5, 0), (1, 0), (0, 0)] [(1, iA x1), (6, .ptr 0 0), (11, .ro .unk x0.length (TTarget.cl x0)), (12, iA (lI x0)), (13, iA v21), (17, .ptr 0 0), (18, sA v23.gKind), (22, .ptr 0 1), (23, iA v23.gVariation), (24, bA (decide (v23.gVariation < 1))), (32, .ptr 0 2), (33, .ro .unk v23.gKeys.length (cl_str v23.gKeys)), (34, iA (lI v23.gKeys)), (35, bA ((lI v23.gKeys) == 0)), (37, .ptr 0 2), (38, .ro .unk v23.gKeys.length (cl_str v23.gKeys))] (AD_callp (d := (some 19)) (al := [sA v23.gKind]) (r := bA v24) (by kernel_rfl) (s_text_Key hG hv24) ⟨trivial, trivial⟩ trivial ?_)
          refine RD 1 46 [(21, 0), (20, 0), (16, 0), (15, 0), (6, 0), (5, 0), (1, 0), (0, 0)] [(1, iA x1), (6, .ptr 0 0), (11, .ro .unk x0.length (TTarget.cl x0)), (12, iA (lI x0)), (13, iA v21), (17, .ptr 0 0), (18, sA v23.gKind), (19, bA v24), (20, bA (!v24)), (22, .ptr 0 1), (23, iA v23.gVariation), (24, bA (decide (v23.gVariation < 1))), (32, .ptr 0 2), (33, .ro .unk v23.gKeys.length (cl_str v23.gKeys)), (34, iA (lI v23.gKeys)), (35, bA ((lI v23.gKeys) == 0)), (37, .ptr 0 2), (38, .ro .unk v23.gKeys.length (cl_str v23.gKeys))] (AD_callp (d := (some 21)) (al := [bA (!v24), iA 6]) (r := iA v25) (by kernel_rfl) (s_shape_when hv25) ⟨trivial, trivial, trivial⟩ trivial ?_)
          refine RD 1 46 [(21, 0), (20, 0), (16, 0), (15, 0), (6, 0), (5, 0), (1, 0), (0, 0)] [(1, iA x1), (6, .ptr 0 0), (11, .ro .unk x0.length (TTarget.cl x0)), (12, iA (lI x0)), (13, iA v21), (17, .ptr 0 0), (18, sA v23.gKind), (19, bA v24), (20, bA (!v24)), (21, iA v25), (22, .ptr 0 1), (23, iA v23.gVariation), (24, bA (decide (v23.gVariation < 1))), (25, bA (decide (v23.gVariation < 1))), (32, .ptr 0 2), (33, .ro .unk v23.gKeys.length (cl_str v23.gKeys)), (34, iA (lI v23.gKeys)), (35, bA ((lI v23.gKeys) == 0)), (37, .ptr 0 2), (38, .ro .unk v23.gKeys.length (cl_str v23.gKeys))] ?_
          cases c1 : (decide (v23.gVariation < 1) : Bool) with
          | true =>
            refine RD 5 46 [(21, 0), (20, 0), (16, 0), (15, 0), (6, 0), (5, 0), (1, 0), (0, 0)] [(1, iA x1), (6, .ptr 0 0), (11, .ro .unk x0.length (TTarget.cl x0)), (12, iA (lI x0)), (13, iA v21), (17, .ptr 0 0), (18, sA v23.gKind), (19, bA v24), (20, bA (!v24)), (21, iA v25), (22, .ptr 0 1), (23, iA v23.gVariation), (24, bA true), (25, bA true), (26, undefA), (27, undefA), (28, undefA), (29, undefA), (30, bA (true || (decide (v23.gVariation > x1)))), (32, .ptr 0 2), (33, .ro .unk v23.gKeys.length (cl_str v23.gKeys)), (34, iA (lI v23.gKeys)), (35, bA ((lI v23.gKeys) == 0)), (37, .ptr 0 2), (38, .ro .unk v23.gKeys.length (cl_str v23.gKeys))] ?_
            try rw [c1] at hv26
            refine AD_callp (d := (some 31)) (al := [bA (true || (decide (v23.gVariation > x1))), iA 3]) (r := iA v26) (by kernel_rfl) (s_shape_when hv26) ⟨trivial, trivial, trivial⟩ trivial ?_
            refine AD_callp (d := (some 36)) (al := [bA ((lI v23.gKeys) == 0), iA 3]) (r := iA v27) (by kernel_rfl) (s_shape_when hv27) ⟨trivial, trivial, trivial⟩ trivial ?_
            refine AD_callp (d := (some 39)) (al := [.ro .unk v23.gKeys.length (cl_str v23.gKeys)]) (r := iA v28) (by kernel_rfl) (s_shape_keys hG hv28) ⟨(scl_cl_str _ _), trivial⟩ trivial ?_
            refine AD_bsl (d := (some 40)) (m := 4) (cs := [iA v25, iA v26, iA v27, iA v28]) (by kernel_rfl) ⟨trivial, trivial, trivial, trivial, trivial⟩ ?_
            refine AD_callp (d := (some 41)) (al := [.ro .unk ([v25, v26, v27, v28]).length (cl_i64 ([v25, v26, v27, v28]))]) (r := iA v29) (by kernel_rfl) (s_shape_first hv29) ⟨(scl_cl_i64 _ _), trivial⟩ trivial ?_
            refine RD 1 46 [(21, 0), (20, 0), (16, 0), (15, 0), (6, 0), (5, 0), (1, 0), (0, 0)] [(1, iA x1), (6, .ptr 0 0), (7, iA v29), (11, .ro .unk x0.length (TTarget.cl x0)), (12, iA (lI x0)), (13, iA v21), (17, .ptr 0 0), (18, sA v23.gKind), (19, bA v24), (20, bA (!v24)), (21, iA v25), (22, .ptr 0 1), (23, iA v23.gVariation), (24, bA true), (25, bA true), (26, undefA), (27, undefA), (28, undefA), (29, undefA), (30, bA (true || (decide (v23.gVariation > x1)))), (31, iA v26), (32, .ptr 0 2), (33, .ro .unk v23.gKeys.length (cl_str v23.gKeys)), (34, iA (lI v23.gKeys)), (35, bA ((lI v23.gKeys) == 0)), (36, iA v27), (37, .ptr 0 2), (38, .ro .unk v23.gKeys.length (cl_str v23.gKeys)), (39, iA v28), (40, .ro .unk ([v25, v26, v27, v28]).length (cl_i64 ([v25, v26, v27, v28]))), (41, iA v29)] ?_
            exact AD_here [1, 7, 11, 12, 13] (by kernel_rfl) rfl
          | false =>
            refine RD 5 46 [(10, 0), (9, 0), (21, 0), (20, 0), (16, 0), (15, 0), (6, 0), (5, 0), (1, 0), (0, 0)] [(1, iA x1), (6, .ptr 0 0), (11, .ro .unk x0.length (TTarget.cl x0)), (12, iA (lI x0)), (13, iA v21), (17, .ptr 0 0), (18, sA v23.gKind), (19, bA v24), (20, bA (!v24)), (21, iA v25), (22, .ptr 0 1), (23, iA v23.gVariation), (24, bA false), (25, bA false), (26, .ptr 0 1), (27, iA v23.gVariation), (28, iA x1), (29, bA (decide (v23.gVariation > x1))), (30, bA (false || (decide (v23.gVariation > x1)))), (32, .ptr 0 2), (33, .ro .unk v23.gKeys.length (cl_str v23.gKeys)), (34, iA (lI v23.gKeys)), (35, bA ((lI v23.gKeys) == 0)), (37, .ptr 0 2), (38, .ro .unk v23.gKeys.length (cl_str v23.gKeys))] ?_
            try rw [c1] at hv26
            refine AD_callp (d := (some 31)) (al := [bA (false || (decide (v23.gVariation > x1))), iA 3]) (r := iA v26) (by kernel_rfl) (s_shape_when hv26) ⟨trivial, trivial, trivial⟩ trivial ?_
            refine AD_callp (d := (some 36)) (al := [bA ((lI v23.gKeys) == 0), iA 3]) (r := iA v27) (by kernel_rfl) (s_shape_when hv27) ⟨trivial, trivial, trivial⟩ trivial ?_
            refine AD_callp (d := (some 39)) (al := [.ro .unk v23.gKeys.length (cl_str v23.gKeys)]) (r := iA v28) (by kernel_rfl) (s_shape_keys hG hv28) ⟨(scl_cl_str _ _), trivial⟩ trivial ?_
            refine AD_bsl (d := (some 40)) (m := 4) (cs := [iA v25, iA v26, iA v27, iA v28]) (by kernel_rfl) ⟨trivial, trivial, trivial, trivial, trivial⟩ ?_
            refine AD_callp (d := (some 41)) (al := [.ro .unk ([v25, v26, v27, v28]).length (cl_i64 ([v25, v26, v27, v28]))]) (r := iA v29) (by kernel_rfl) (s_shape_first hv29) ⟨(scl_cl_i64 _ _), trivial⟩ trivial ?_
            refine RD 1 46 [(10, 0), (9, 0), (21, 0), (20, 0), (16, 0), (15, 0), (6, 0), (5, 0), (1, 0), (0, 0)] [(1, iA x1), (6, .ptr 0 0), (7, iA v29), (11, .ro .unk x0.length (TTarget.cl x0)), (12, iA (lI x0)), (13, iA v21), (17, .ptr 0 0), (18, sA v23.gKind), (19, bA v24), (20, bA (!v24)), (21, iA v25), (22, .ptr 0 1), (23, iA v23.gVariation), (24, bA false), (25, bA false), (26, .ptr 0 1), (27, iA v23.gVariation), (28, iA x1), (29, bA (decide (v23.gVariation > x1))), (30, bA (false || (decide (v23.gVariation > x1)))), (31, iA v26), (32, .ptr 0 2), (33, .ro .unk v23.gKeys.length (cl_str v23.gKeys)), (34, iA (lI v23.gKeys)), (35, bA ((lI v23.gKeys) == 0)), (36, iA v27), (37, .ptr 0 2), (38, .ro .unk v23.gKeys.length (cl_str v23.gKeys)), (39, iA v28), (40, .ro .unk ([v25, v26, v27, v28]).length (cl_i64 ([v25, v26, v27, v28]))), (41, iA v29)] ?_
            exact AD_here [1, 7, 11, 12, 13] (by kernel_rfl) rfl
        refine AWP_reg (Rh 2 46 [(1, iA x1), (7, iA v29), (11, .ro .unk x0.length (TTarget.cl x0)), (12, iA (lI x0)), (13, iA v21), (43, bA (v29 != 0))] (AOps_done (CD H (fun hb30 H => ?_) (fun hb30 H => ?_))))
        · refine AWP_reg (Rh 2 46 [(4, iA v29)] (AOps_done ?_))
          exact AWP_ret (FR H)
        · refine AWP_skip ?_
          show AWP _ _ _ _ _ _ _
          refine AWP_region ?_
          refine Rh 2 46 [(1, iA x1), (11, .ro .unk x0.length (TTarget.cl x0)), (12, iA (lI x0)), (13, iA (w64 (v21 + 1)))] (AOps_done ?_)
          exact Exists.intro (w64 (v21 + 1)) (Exists.intro n ⟨by omega, ⟨by omega, H⟩, Norm_fd [1, 11, 12, 13] 1 (by kernel_rfl) rfl rfl trivial (by refine scL_fr ?_; exact ⟨trivial, (scl_TTarget_cl _ _), trivial, trivial, trivial⟩)⟩)
      · refine AWP_exit ?_
        show AWP _ _ _ _ _ _ _
        refine AWP_reg (Rh 1 46 [(4, iA 0)] (AOps_done ?_))
        exact AWP_ret (FR H)
theorem s_shape_test {n : Nat} {x0 : Int} {r : Bool} (H : p_shape_test n x0 = some r) :
    Sp Tryz.prog E 126 [iA x0] [] (isA (bA r) []) := by
  unfold p_shape_test at H
  refine Sp_fn Tryz.func126 rfl (fun hc hs => ?_)
  refine AWP_reg (Rh 1 9 [(0, iA x0)] (AOps_done (AWP_reg (Rh 3 9 [(0, iA x0), (5, bA (decide (x0 ≥ 6)))] (AOps_run 3 [8] (st' := fr 9 [(8, bA ((decide (x0 ≥ 6)) && (decide (x0 ≤ 15))))]) (h' := []) (by (generalize (decide (x0 ≥ 6)) = t0; cases t0 <;> kernel_rfl)) ?_)))))
  refine Rh 1 9 [(2, bA ((decide (x0 ≥ 6)) && (decide (x0 ≤ 15))))] (AOps_done ?_)
  exact AWP_ret (FR H)
theorem s_shape_shape {n : Nat} {x0 : TExpr} {r : Bool} (H : p_shape_shape n x0 = some r) :
    Sp Tryz.prog E 125 [.agg (TExpr.cs x0)] [] (isA (bA r) []) := by
  unfold p_shape_shape at H
  refine Sp_fn Tryz.func125 rfl (fun hc hs => ?_)
  refine AWP_reg (R 2 69 [(1, .ptr 0 0)] [.cells 25 (TExpr.cs x0)] (AOps_done (AWP_regD1 [0, 1, 2, 3, 4, 5, 6, 7] (N := 69) (f := [(1, .ptr 0 0)]) (leL_of [1] (by kernel_rfl)) mixed (by kernel_rfl) (by kernel_rfl) (st' := fr 69 [(1, .ptr 0 0), (3, iA (lI x0.gKids)), (4, iA (lI x0.gValues))]) (h' := [.cells 25 (TExpr.cs x0)]) ?_ ?_)))
  rotate_left
  · refine RD 8 69 [(4, 0), (3, 0), (1, 0), (0, 0)] [(1, .ptr 0 0), (3, iA (lI x0.gKids)), (4, iA (lI x0.gValues)), (5, .ptr 0 4), (6, .ro .unk x0.gKids.length (TExpr.cl x0.gKids)), (7, iA (lI x0.gKids)), (8, .ptr 0 3), (9, .ro .unk x0.gValues.length (TValue.cl x0.gValues)), (10, iA (lI x0.gValues))] ?_
    exact AD_here [1, 3, 4] (by kernel_rfl) rfl
  refine AWP_joinN (α := Unit) (fun _ => fr 69 [(1, .ptr 0 0), (4, iA (lI x0.gValues))]) (fun _ => [.cells 25 (TExpr.cs x0)]) (fun _ => ∃ q, q ≤ q ∧ p_shape_shape_K1 q x0  = some r) (fun a hC => ?_) ?_
  · show AWP _ _ _ _ _ (fr 69 [(1, .ptr 0 0), (4, iA (lI x0.gValues))]) [.cells 25 (TExpr.cs x0)]
    obtain ⟨n, hn_, hC⟩ := hC
    replace H : p_shape_shape_K1 n x0  = some r := hC
    unfold p_shape_shape_K1 at H
    refine AWP_seq (AWP_reg (Rh 2 69 [(1, .ptr 0 0), (4, iA (lI x0.gValues)), (32, iA x0.gOp)] ?_))
    obtain ⟨v6, hv6, H⟩ := bind_some H
    refine AOps_callp (d := (some 33)) (al := [iA x0.gOp]) (r := bA v6) (by kernel_rfl) (s_shape_test hv6) ⟨trivial, trivial⟩ trivial ?_
    refine Rh 2 69 [(1, .ptr 0 0), (4, iA (lI x0.gValues)), (35, bA (!v6))] (AOps_cut 14 (st' := fr 69 [(1, .ptr 0 0), (4, iA (lI x0.gValues)), (49, bA ((!v6) && ((!(seq' x0.gKind ByteArray.empty)) || ((!(seq' x0.gName ByteArray.empty)) && (x0.gOp != 5)))))]) (h' := [.cells 25 (TExpr.cs x0)]) ?_ ?_)
    rotate_left
    · cases c1 : (v6 : Bool) with
      | true =>
        refine R 14 69 [(1, .ptr 0 0), (4, iA (lI x0.gValues)), (49, bA ((!true) && ((!(seq' x0.gKind ByteArray.empty)) || ((!(seq' x0.gName ByteArray.empty)) && (x0.gOp != 5)))))] [.cells 25 (TExpr.cs x0)] ?_
        exact AOps_here [1, 4, 49] (by kernel_rfl) rfl
      | false =>
        refine R 4 69 [(1, .ptr 0 0), (4, iA (lI x0.gValues)), (35, bA (!false)), (39, bA (!(seq' x0.gKind ByteArray.empty)))] [.cells 25 (TExpr.cs x0)] ?_
        cases c2 : (seq' x0.gKind ByteArray.empty : Bool) with
        | true =>
          refine R 4 69 [(1, .ptr 0 0), (4, iA (lI x0.gValues)), (35, bA (!false)), (39, bA (!true)), (43, bA (!(seq' x0.gName ByteArray.empty)))] [.cells 25 (TExpr.cs x0)] ?_
          cases c3 : (seq' x0.gName ByteArray.empty : Bool) with
          | true =>
            refine R 6 69 [(1, .ptr 0 0), (4, iA (lI x0.gValues)), (49, bA ((!false) && ((!true) || ((!true) && (x0.gOp != 5)))))] [.cells 25 (TExpr.cs x0)] ?_
            exact AOps_here [1, 4, 49] (by kernel_rfl) rfl
          | false =>
            refine R 6 69 [(1, .ptr 0 0), (4, iA (lI x0.gValues)), (49, bA ((!false) && ((!true) || ((!false) && (x0.gOp != 5)))))] [.cells 25 (TExpr.cs x0)] ?_
            exact AOps_here [1, 4, 49] (by kernel_rfl) rfl
        | false =>
          refine R 10 69 [(1, .ptr 0 0), (4, iA (lI x0.gValues)), (49, bA ((!false) && ((!false) || ((!(seq' x0.gName ByteArray.empty)) && (x0.gOp != 5)))))] [.cells 25 (TExpr.cs x0)] ?_
          exact AOps_here [1, 4, 49] (by kernel_rfl) rfl
    refine AOps_done (CD H (fun hb7 H => ?_) (fun hb7 H => ?_))
    · refine AWP_reg (Rh 1 69 [(2, bA false)] (AOps_done ?_))
      exact AWP_ret (FR H)
    · refine AWP_skip ?_
      show AWP _ _ _ _ _ _ _
      refine AWP_seq (AWP_block ?_)
      refine AWP_reg (Rh 4 69 [(1, .ptr 0 0), (4, iA (lI x0.gValues)), (50, bA (x0.gOp == 8))] (AOps_done (CD H (fun hb8 H => ?_) (fun hb8 H => ?_))))
      · refine AWP_reg (Rh 3 69 [(2, bA (decide ((lI x0.gValues) > 0)))] (AOps_done ?_))
        exact AWP_ret (FR H)
      · refine AWP_reg (Rh 2 69 [(1, .ptr 0 0), (4, iA (lI x0.gValues)), (58, iA x0.gOp)] ?_)
        obtain ⟨v9, hv9, H⟩ := bind_some H
        refine AOps_callp (d := (some 59)) (al := [iA x0.gOp]) (r := bA v9) (by kernel_rfl) (s_shape_test hv9) ⟨trivial, trivial⟩ trivial ?_
        refine Rh 1 69 [(1, .ptr 0 0), (4, iA (lI x0.gValues)), (60, bA v9)] (AOps_run 4 [4, 64] (st' := fr 69 [(4, iA (lI x0.gValues)), (64, bA (v9 && (x0.gOp != 6)))]) (h' := [.cells 25 (TExpr.cs x0)]) (by (generalize v9 = t0; cases t0 <;> kernel_rfl)) ?_)
        refine Rh 1 69 [(4, iA (lI x0.gValues)), (56, bA (v9 && (x0.gOp != 6)))] (AOps_done (CD H (fun hb10 H => ?_) (fun hb10 H => ?_)))
        · refine AWP_reg (Rh 3 69 [(2, bA ((lI x0.gValues) == 1))] (AOps_done ?_))
          exact AWP_ret (FR H)
        · refine AWP_skip ?_
          show AWP _ _ _ _ _ _ _
          refine AWP_reg (Rh 3 69 [(2, bA ((lI x0.gValues) == 0))] (AOps_done ?_))
          exact AWP_ret (FR H)
  · refine AWP_block ?_
    refine AWP_reg (Rh 4 69 [(1, .ptr 0 0), (3, iA (lI x0.gKids)), (4, iA (lI x0.gValues)), (15, bA (x0.gOp == 2))] (AOps_run 4 [1, 3, 4, 19] (st' := fr 69 [(1, .ptr 0 0), (3, iA (lI x0.gKids)), (4, iA (lI x0.gValues)), (19, bA ((x0.gOp == 2) || (x0.gOp == 3)))]) (h' := [.cells 25 (TExpr.cs x0)]) (by (generalize (x0.gOp == 2) = t0; cases t0 <;> kernel_rfl)) ?_))
    refine Rh 1 69 [(1, .ptr 0 0), (3, iA (lI x0.gKids)), (4, iA (lI x0.gValues)), (11, bA ((x0.gOp == 2) || (x0.gOp == 3)))] (AOps_done (CD H (fun hb11 H => ?_) (fun hb11 H => ?_)))
    · refine AWP_reg (Rh 2 69 [(1, .ptr 0 0), (4, iA (lI x0.gValues)), (21, bA (decide ((lI x0.gKids) < 2)))] (AOps_done (CD H (fun hb12 H => ?_) (fun hb12 H => ?_))))
      · refine AWP_reg (Rh 1 69 [(2, bA false)] (AOps_done ?_))
        exact AWP_ret (FR H)
      · refine AWP_skip ?_
        exact Exists.intro () ⟨⟨n, by omega, H⟩, Norm_fd [1, 4] 0 (by kernel_rfl) rfl rfl ⟨(sc_TExpr_cs _ _), trivial⟩ (by refine scL_fr ?_; exact ⟨(sc_ptr rfl), trivial, trivial⟩)⟩
    · refine AWP_reg (Rh 4 69 [(1, .ptr 0 0), (3, iA (lI x0.gKids)), (4, iA (lI x0.gValues)), (22, bA (x0.gOp == 4))] (AOps_done (CD H (fun hb13 H => ?_) (fun hb13 H => ?_))))
      · refine AWP_reg (Rh 2 69 [(1, .ptr 0 0), (4, iA (lI x0.gValues)), (27, bA ((lI x0.gKids) != 1))] (AOps_done (CD H (fun hb14 H => ?_) (fun hb14 H => ?_))))
        · refine AWP_reg (Rh 1 69 [(2, bA false)] (AOps_done ?_))
          exact AWP_ret (FR H)
        · refine AWP_skip ?_
          exact Exists.intro () ⟨⟨n, by omega, H⟩, Norm_fd [1, 4] 0 (by kernel_rfl) rfl rfl ⟨(sc_TExpr_cs _ _), trivial⟩ (by refine scL_fr ?_; exact ⟨(sc_ptr rfl), trivial, trivial⟩)⟩
      · refine AWP_reg (Rh 3 69 [(1, .ptr 0 0), (4, iA (lI x0.gValues)), (28, bA (decide ((lI x0.gKids) > 0)))] (AOps_done (CD H (fun hb15 H => ?_) (fun hb15 H => ?_))))
        · refine AWP_reg (Rh 1 69 [(2, bA false)] (AOps_done ?_))
          exact AWP_ret (FR H)
        · refine AWP_skip ?_
          exact Exists.intro () ⟨⟨n, by omega, H⟩, Norm_fd [1, 4] 0 (by kernel_rfl) rfl rfl ⟨(sc_TExpr_cs _ _), trivial⟩ (by refine scL_fr ?_; exact ⟨(sc_ptr rfl), trivial, trivial⟩)⟩
theorem s_shape_part {n : Nat} (hG : GlobT E) {x0 : TExpr} {x1 : Int} {r : Int} (H : p_shape_part n x0 x1 = some r) :
    Sp Tryz.prog E 106 [.agg (TExpr.cs x0), iA x1] [] (isA (iA r) []) := by
  unfold p_shape_part at H
  refine Sp_fn Tryz.func106 rfl (fun hc hs => ?_)
  refine AWP_reg (R 2 118 [(1, iA x1), (2, .ptr 0 0)] [.cells 25 (TExpr.cs x0)] (AOps_done (AWP_seq (AWP_reg (Rh 2 118 [(2, .ptr 0 0), (12, bA (decide (x1 ≥ 10)))] (AOps_done (CD H (fun hb1 H => ?_) (fun hb1 H => ?_))))))))
  · refine AWP_reg (Rh 1 118 [(4, iA 18)] (AOps_done ?_))
    exact AWP_ret (FR H)
  · refine AWP_skip ?_
    show AWP _ _ _ _ _ _ _
    refine AWP_seq (AWP_reg (Rh 4 118 [(2, .ptr 0 0), (16, bA (decide (x0.gOp < 1)))] (AOps_run 4 [2, 20] (st' := fr 118 [(2, .ptr 0 0), (20, bA ((decide (x0.gOp < 1)) || (decide (x0.gOp > 15))))]) (h' := [.cells 25 (TExpr.cs x0)]) (by (generalize (decide (x0.gOp < 1)) = t0; cases t0 <;> kernel_rfl)) ?_)))
    refine AOps_done (CD H (fun hb2 H => ?_) (fun hb2 H => ?_))
    · refine AWP_reg (Rh 1 118 [(4, iA 7)] (AOps_done ?_))
      exact AWP_ret (FR H)
    · refine AWP_skip ?_
      show AWP _ _ _ _ _ _ _
      refine AWP_seq (AWP_reg (Rh 1 118 [(2, .ptr 0 0), (21, .agg (TExpr.cs x0))] ?_))
      obtain ⟨v3, hv3, H⟩ := bind_some H
      refine AOps_callp (d := (some 22)) (al := [.agg (TExpr.cs x0)]) (r := bA v3) (by kernel_rfl) (s_shape_shape hv3) ⟨(sc_TExpr_cs _ _), trivial⟩ trivial ?_
      refine Rh 1 118 [(2, .ptr 0 0), (23, bA (!v3))] (AOps_done (CD H (fun hb4 H => ?_) (fun hb4 H => ?_)))
      · refine AWP_reg (Rh 1 118 [(4, iA 15)] (AOps_done ?_))
        exact AWP_ret (FR H)
      · refine AWP_skip ?_
        show AWP _ _ _ _ _ _ _
        refine AWP_seq (AWP_reg (Rh 5 118 [(2, .ptr 0 0), (28, bA (decide ((lI x0.gKids) > 12)))] (AOps_run 5 [2, 33] (st' := fr 118 [(2, .ptr 0 0), (33, bA ((decide ((lI x0.gKids) > 12)) || (decide ((lI x0.gValues) > 20))))]) (h' := [.cells 25 (TExpr.cs x0)]) (by (generalize (decide ((lI x0.gKids) > 12)) = t0; cases t0 <;> kernel_rfl)) ?_)))
        refine AOps_done (CD H (fun hb5 H => ?_) (fun hb5 H => ?_))
        · refine AWP_reg (Rh 1 118 [(4, iA 5)] (AOps_done ?_))
          exact AWP_ret (FR H)
        · refine AWP_skip ?_
          show AWP _ _ _ _ _ _ _
          refine AWP_seq (AWP_reg (Rh 4 118 [(2, .ptr 0 0), (35, .ro .unk x0.gKids.length (TExpr.cl x0.gKids)), (36, iA (lI x0.gKids)), (37, iA 0)] (AOps_done (AWP_block ?_))))
          refine AWP_loopN (α := Int) (fun v13 => fr 118 [(2, .ptr 0 0), (35, .ro .unk x0.gKids.length (TExpr.cl x0.gKids)), (36, iA (lI x0.gKids)), (37, iA v13)]) (fun v13 => [.cells 25 (TExpr.cs x0)]) (fun k_ v13 => k_ ≤ n ∧ p_shape_part_L1 k_ x0 v13 = some r) (fun n v13 H => ?_) (k := n) 0 ⟨Nat.le_refl _, H⟩ (Norm_fd [2, 35, 36, 37] 0 (by kernel_rfl) rfl rfl ⟨(sc_TExpr_cs _ _), trivial⟩ (by refine scL_fr ?_; exact ⟨(sc_ptr rfl), (scl_TExpr_cl _ _), trivial, trivial, trivial⟩))
          show AWP _ _ _ _ _ (fr 118 [(2, .ptr 0 0), (35, .ro .unk x0.gKids.length (TExpr.cl x0.gKids)), (36, iA (lI x0.gKids)), (37, iA v13)]) [.cells 25 (TExpr.cs x0)]
          obtain ⟨hb_, H⟩ := H
          replace H : p_shape_part_L1 n x0 v13 = some r := H
          cases n with
          | zero => exact not_none (by simpa only [p_shape_part_L1] using H)
          | succ n =>
            unfold p_shape_part_L1 at H
            refine AWP_reg (Rh 1 118 [(2, .ptr 0 0), (35, .ro .unk x0.gKids.length (TExpr.cl x0.gKids)), (36, iA (lI x0.gKids)), (37, iA v13), (38, bA (decide (v13 < (lI x0.gKids))))] (AOps_done (AWP_seq (CD H (fun hb14 H => ?_) (fun hb14 H => ?_)))))
            · refine AWP_skip ?_
              show AWP _ _ _ _ _ _ _
              refine AWP_seq (AWP_block ?_)
              refine AWP_reg ?_
              obtain ⟨v15, hv15, H⟩ := bind_some H
              refine AOps_index (d := (some 39)) (sz := 5) (c := TExpr.cs) (by kernel_rfl) rfl (eq_TExpr_cl _) (fun _ => rfl) (by decide) hv15 (fun tl15 => ?_)
              refine R 3 118 [(2, .ptr 0 0), (6, .ptr 1 0), (35, .ro .unk x0.gKids.length (TExpr.cl x0.gKids)), (36, iA (lI x0.gKids)), (37, iA v13)] [.cells 25 (TExpr.cs v15), .cells 25 (TExpr.cs x0)] (AOps_done (AWP_reg (Rh 6 118 [(2, .ptr 0 0), (35, .ro .unk x0.gKids.length (TExpr.cl x0.gKids)), (36, iA (lI x0.gKids)), (37, iA v13), (46, bA (v15.gOp == x0.gOp))] (AOps_cut 9 (st' := fr 118 [(2, .ptr 0 0), (35, .ro .unk x0.gKids.length (TExpr.cl x0.gKids)), (36, iA (lI x0.gKids)), (37, iA v13), (55, bA ((v15.gOp == x0.gOp) && ((x0.gOp == 2) || (x0.gOp == 3))))]) (h' := [.cells 25 (TExpr.cs v15), .cells 25 (TExpr.cs x0)]) ?_ ?_))))
              rotate_left
              · cases c1 : (v15.gOp == x0.gOp : Bool) with
                | true =>
                  refine R 4 118 [(2, .ptr 0 0), (35, .ro .unk x0.gKids.length (TExpr.cl x0.gKids)), (36, iA (lI x0.gKids)), (37, iA v13), (46, bA true), (50, bA (x0.gOp == 2))] [.cells 25 (TExpr.cs v15), .cells 25 (TExpr.cs x0)] ?_
                  cases c2 : (x0.gOp == 2 : Bool) with
                  | true =>
                    refine R 5 118 [(2, .ptr 0 0), (35, .ro .unk x0.gKids.length (TExpr.cl x0.gKids)), (36, iA (lI x0.gKids)), (37, iA v13), (55, bA (true && (true || (x0.gOp == 3))))] [.cells 25 (TExpr.cs v15), .cells 25 (TExpr.cs x0)] ?_
                    exact AOps_here [2, 35, 36, 37, 55] (by kernel_rfl) rfl
                  | false =>
                    refine R 5 118 [(2, .ptr 0 0), (35, .ro .unk x0.gKids.length (TExpr.cl x0.gKids)), (36, iA (lI x0.gKids)), (37, iA v13), (55, bA (true && (false || (x0.gOp == 3))))] [.cells 25 (TExpr.cs v15), .cells 25 (TExpr.cs x0)] ?_
                    exact AOps_here [2, 35, 36, 37, 55] (by kernel_rfl) rfl
                | false =>
                  refine R 9 118 [(2, .ptr 0 0), (35, .ro .unk x0.gKids.length (TExpr.cl x0.gKids)), (36, iA (lI x0.gKids)), (37, iA v13), (55, bA (false && ((x0.gOp == 2) || (x0.gOp == 3))))] [.cells 25 (TExpr.cs v15), .cells 25 (TExpr.cs x0)] ?_
                  exact AOps_here [2, 35, 36, 37, 55] (by kernel_rfl) rfl
              refine AOps_done (CD H (fun hb16 H => ?_) (fun hb16 H => ?_))
              · refine AWP_reg (Rh 1 118 [(4, iA 15)] (AOps_done ?_))
                exact AWP_ret (FR H)
              · refine AWP_skip ?_
                show AWP _ _ _ _ _ _ _
                refine AWP_region ?_
                refine Rh 2 118 [(2, .ptr 0 0), (35, .ro .unk x0.gKids.length (TExpr.cl x0.gKids)), (36, iA (lI x0.gKids)), (37, iA (w64 (v13 + 1)))] (AOps_done ?_)
                exact Exists.intro (w64 (v13 + 1)) (Exists.intro n ⟨by omega, ⟨by omega, H⟩, Norm_fd [2, 35, 36, 37] 1 (by kernel_rfl) rfl rfl ⟨(sc_TExpr_cs _ _), trivial⟩ (by refine scL_fr ?_; exact ⟨(sc_ptr rfl), (scl_TExpr_cl _ _), trivial, trivial, trivial⟩)⟩)
            · refine AWP_exit ?_
              show AWP _ _ _ _ _ _ _
              refine AWP_seq (AWP_reg (Rh 2 118 [(2, .ptr 0 0), (58, iA x0.gOp)] ?_))
              obtain ⟨v17, hv17, H⟩ := bind_some H
              refine AOps_callp (d := (some 59)) (al := [iA x0.gOp]) (r := bA v17) (by kernel_rfl) (s_shape_test hv17) ⟨trivial, trivial⟩ trivial ?_
              refine Rh 1 118 [(2, .ptr 0 0), (60, bA v17)] ?_
              obtain ⟨v18, hv18, H⟩ := bind_some H
              refine AOps_cut 5 (st' := fr 118 [(2, .ptr 0 0), (65, bA (v17 && (!v18)))]) (h' := [.cells 25 (TExpr.cs x0)]) ?_ ?_
              rotate_left
              · cases c1 : (v17 : Bool) with
                | true =>
                  refine R 2 118 [(2, .ptr 0 0), (60, bA true), (62, sA x0.gKind)] [.cells 25 (TExpr.cs x0)] ?_
                  have hv18_ := cond_t hv18 (by simp only [c1] <;> rfl)
                  refine AOps_callp (d := (some 63)) (al := [sA x0.gKind]) (r := bA v18) (by kernel_rfl) (s_text_Key hG hv18_) ⟨trivial, trivial⟩ trivial ?_
                  refine R 2 118 [(2, .ptr 0 0), (65, bA (true && (!v18)))] [.cells 25 (TExpr.cs x0)] ?_
                  exact AOps_here [2, 65] (by kernel_rfl) rfl
                | false =>
                  refine R 5 118 [(2, .ptr 0 0), (65, bA (false && (!v18)))] [.cells 25 (TExpr.cs x0)] ?_
                  exact AOps_here [2, 65] (by kernel_rfl) rfl
              refine Rh 1 118 [(2, .ptr 0 0), (66, bA (v17 && (!v18)))] ?_
              obtain ⟨v19, hv19, H⟩ := bind_some H
              obtain ⟨v20, hv20, H⟩ := bind_some H
              refine AOps_cut 15 (st' := fr 118 [(2, .ptr 0 0), (81, bA ((v17 && (!v18)) || ((v19 || (x0.gOp == 5)) && (!v20))))]) (h' := [.cells 25 (TExpr.cs x0)]) ?_ ?_
              rotate_left
              · cases c1 : (v17 && (!v18) : Bool) with
                | true =>
                  refine R 15 118 [(2, .ptr 0 0), (81, bA (true || ((v19 || (x0.gOp == 5)) && (!v20))))] [.cells 25 (TExpr.cs x0)] ?_
                  exact AOps_here [2, 81] (by kernel_rfl) rfl
                | false =>
                  refine R 2 118 [(2, .ptr 0 0), (66, bA false), (68, iA x0.gOp)] [.cells 25 (TExpr.cs x0)] ?_
                  have hv19_ := cond_t hv19 (by simp only [c1] <;> rfl)
                  refine AOps_callp (d := (some 69)) (al := [iA x0.gOp]) (r := bA v19) (by kernel_rfl) (s_shape_test hv19_) ⟨trivial, trivial⟩ trivial ?_
                  refine R 1 118 [(2, .ptr 0 0), (66, bA false), (70, bA v19)] [.cells 25 (TExpr.cs x0)] ?_
                  cases c2 : (v19 : Bool) with
                  | true =>
                    refine R 7 118 [(2, .ptr 0 0), (66, bA false), (75, bA (true || (x0.gOp == 5))), (77, sA x0.gName)] [.cells 25 (TExpr.cs x0)] ?_
                    have hv20_ := cond_t hv20 (by simp only [c1, c2] <;> rfl)
                    refine AOps_callp (d := (some 78)) (al := [sA x0.gName]) (r := bA v20) (by kernel_rfl) (s_text_Key hG hv20_) ⟨trivial, trivial⟩ trivial ?_
                    refine R 3 118 [(2, .ptr 0 0), (81, bA (false || ((true || (x0.gOp == 5)) && (!v20))))] [.cells 25 (TExpr.cs x0)] ?_
                    exact AOps_here [2, 81] (by kernel_rfl) rfl
                  | false =>
                    refine R 5 118 [(2, .ptr 0 0), (66, bA false), (75, bA (false || (x0.gOp == 5)))] [.cells 25 (TExpr.cs x0)] ?_
                    cases c3 : (x0.gOp == 5 : Bool) with
                    | true =>
                      refine R 2 118 [(2, .ptr 0 0), (66, bA false), (75, bA (false || true)), (77, sA x0.gName)] [.cells 25 (TExpr.cs x0)] ?_
                      have hv20_ := cond_t hv20 (by simp only [c1, c2, c3] <;> rfl)
                      refine AOps_callp (d := (some 78)) (al := [sA x0.gName]) (r := bA v20) (by kernel_rfl) (s_text_Key hG hv20_) ⟨trivial, trivial⟩ trivial ?_
                      refine R 3 118 [(2, .ptr 0 0), (81, bA (false || ((false || true) && (!v20))))] [.cells 25 (TExpr.cs x0)] ?_
                      exact AOps_here [2, 81] (by kernel_rfl) rfl
                    | false =>
                      refine R 6 118 [(2, .ptr 0 0), (81, bA (false || ((false || false) && (!v20))))] [.cells 25 (TExpr.cs x0)] ?_
                      exact AOps_here [2, 81] (by kernel_rfl) rfl
              refine AOps_done (CD H (fun hb21 H => ?_) (fun hb21 H => ?_))
              · refine AWP_reg (Rh 1 118 [(4, iA 6)] (AOps_done ?_))
                exact AWP_ret (FR H)
              · refine AWP_skip ?_
                show AWP _ _ _ _ _ _ _
                refine AWP_seq (AWP_reg (Rh 4 118 [(2, .ptr 0 0), (83, .ro .unk x0.gValues.length (TValue.cl x0.gValues)), (84, iA (lI x0.gValues)), (85, iA 0)] (AOps_done (AWP_block ?_))))
                refine AWP_loopN (α := Int) (fun v31 => fr 118 [(2, .ptr 0 0), (83, .ro .unk x0.gValues.length (TValue.cl x0.gValues)), (84, iA (lI x0.gValues)), (85, iA v31)]) (fun v31 => [.cells 25 (TExpr.cs x0)]) (fun k_ v31 => k_ ≤ n ∧ p_shape_part_L2 k_ x0 v31 = some r) (fun n v31 H => ?_) (k := n) 0 ⟨Nat.le_refl _, H⟩ (Norm_fd [2, 83, 84, 85] 0 (by kernel_rfl) rfl rfl ⟨(sc_TExpr_cs _ _), trivial⟩ (by refine scL_fr ?_; exact ⟨(sc_ptr rfl), (scl_TValue_cl _ _), trivial, trivial, trivial⟩))
                show AWP _ _ _ _ _ (fr 118 [(2, .ptr 0 0), (83, .ro .unk x0.gValues.length (TValue.cl x0.gValues)), (84, iA (lI x0.gValues)), (85, iA v31)]) [.cells 25 (TExpr.cs x0)]
                obtain ⟨hb_, H⟩ := H
                replace H : p_shape_part_L2 n x0 v31 = some r := H
                cases n with
                | zero => exact not_none (by simpa only [p_shape_part_L2] using H)
                | succ n =>
                  unfold p_shape_part_L2 at H
                  refine AWP_reg (Rh 1 118 [(2, .ptr 0 0), (83, .ro .unk x0.gValues.length (TValue.cl x0.gValues)), (84, iA (lI x0.gValues)), (85, iA v31), (86, bA (decide (v31 < (lI x0.gValues))))] (AOps_done (AWP_seq (CD H (fun hb32 H => ?_) (fun hb32 H => ?_)))))
                  · refine AWP_skip ?_
                    show AWP _ _ _ _ _ _ _
                    refine AWP_seq (AWP_block ?_)
                    refine AWP_reg ?_
                    obtain ⟨v33, hv33, H⟩ := bind_some H
                    refine AOps_index (d := (some 87)) (sz := 4) (c := TValue.cs) (by kernel_rfl) rfl (eq_TValue_cl _) (fun _ => rfl) (by decide) hv33 (fun tl33 => ?_)
                    refine R 3 118 [(2, .ptr 0 0), (8, .ptr 1 0), (83, .ro .unk x0.gValues.length (TValue.cl x0.gValues)), (84, iA (lI x0.gValues)), (85, iA v31)] [.cells 58 (TValue.cs v33), .cells 25 (TExpr.cs x0)] (AOps_done (AWP_reg (Rh 1 118 [(2, .ptr 0 0), (83, .ro .unk x0.gValues.length (TValue.cl x0.gValues)), (84, iA (lI x0.gValues)), (85, iA v31), (89, .agg (TValue.cs v33))] ?_)))
                    obtain ⟨v34, hv34, H⟩ := bind_some H
                    refine AOps_callp (d := (some 90)) (al := [.agg (TValue.cs v33)]) (r := iA v34) (by kernel_rfl) (s_value_Check hG hv34) ⟨(sc_TValue_cs _ _), trivial⟩ trivial ?_
                    refine Rh 1 118 [(2, .ptr 0 0), (9, iA v34), (83, .ro .unk x0.gValues.length (TValue.cl x0.gValues)), (84, iA (lI x0.gValues)), (85, iA v31)] (AOps_done (AWP_reg (Rh 2 118 [(2, .ptr 0 0), (9, iA v34), (83, .ro .unk x0.gValues.length (TValue.cl x0.gValues)), (84, iA (lI x0.gValues)), (85, iA v31), (92, bA (v34 != 0))] (AOps_done (CD H (fun hb35 H => ?_) (fun hb35 H => ?_))))))
                    · refine AWP_reg (Rh 2 118 [(4, iA v34)] (AOps_done ?_))
                      exact AWP_ret (FR H)
                    · refine AWP_skip ?_
                      show AWP _ _ _ _ _ _ _
                      refine AWP_region ?_
                      refine Rh 2 118 [(2, .ptr 0 0), (83, .ro .unk x0.gValues.length (TValue.cl x0.gValues)), (84, iA (lI x0.gValues)), (85, iA (w64 (v31 + 1)))] (AOps_done ?_)
                      exact Exists.intro (w64 (v31 + 1)) (Exists.intro n ⟨by omega, ⟨by omega, H⟩, Norm_fd [2, 83, 84, 85] 1 (by kernel_rfl) rfl rfl ⟨(sc_TExpr_cs _ _), trivial⟩ (by refine scL_fr ?_; exact ⟨(sc_ptr rfl), (scl_TValue_cl _ _), trivial, trivial, trivial⟩)⟩)
                  · refine AWP_exit ?_
                    show AWP _ _ _ _ _ _ _
                    refine AWP_reg (Rh 4 118 [(2, .ptr 0 0), (98, bA (x0.gOp == 9))] (AOps_run 4 [2, 102] (st' := fr 118 [(2, .ptr 0 0), (102, bA ((x0.gOp == 9) || (x0.gOp == 10)))]) (h' := [.cells 25 (TExpr.cs x0)]) (by (generalize (x0.gOp == 9) = t0; cases t0 <;> kernel_rfl)) ?_))
                    refine Rh 1 118 [(2, .ptr 0 0), (103, bA ((x0.gOp == 9) || (x0.gOp == 10)))] (AOps_run 4 [2, 107] (st' := fr 118 [(2, .ptr 0 0), (107, bA (((x0.gOp == 9) || (x0.gOp == 10)) || (x0.gOp == 11)))]) (h' := [.cells 25 (TExpr.cs x0)]) (by (generalize (x0.gOp == 9) = t0; generalize (x0.gOp == 10) = t1; cases t0 <;> cases t1 <;> kernel_rfl)) ?_)
                    refine Rh 1 118 [(2, .ptr 0 0), (10, bA (((x0.gOp == 9) || (x0.gOp == 10)) || (x0.gOp == 11)))] (AOps_done (AWP_reg (Rh 2 118 [(2, .ptr 0 0), (109, bA (((x0.gOp == 9) || (x0.gOp == 10)) || (x0.gOp == 11)))] ?_)))
                    obtain ⟨v36, hv36, H⟩ := bind_some H
                    refine AOps_cut 7 (st' := fr 118 [(116, bA ((((x0.gOp == 9) || (x0.gOp == 10)) || (x0.gOp == 11)) && (v36.gKind != 3)))]) (h' := [.cells 25 (TExpr.cs x0)]) ?_ ?_
                    rotate_left
                    · cases c1 : (((x0.gOp == 9) || (x0.gOp == 10)) || (x0.gOp == 11) : Bool) with
                      | true =>
                        refine R 2 118 [(109, bA true), (111, .ro .unk x0.gValues.length (TValue.cl x0.gValues))] [.cells 25 (TExpr.cs x0)] ?_
                        have hv36_ := cond_t hv36 (by simp only [c1] <;> rfl)
                        refine AOps_index (d := (some 112)) (sz := 4) (c := TValue.cs) (by kernel_rfl) rfl (eq_TValue_cl _) (fun _ => rfl) (by decide) hv36_ (fun tl36 => ?_)
                        refine R 4 118 [(116, bA (true && (v36.gKind != 3)))] [.cells 25 (TExpr.cs x0)] ?_
                        exact AOps_here [116] (by kernel_rfl) rfl
                      | false =>
                        refine R 7 118 [(116, bA (false && (v36.gKind != 3)))] [.cells 25 (TExpr.cs x0)] ?_
                        exact AOps_here [116] (by kernel_rfl) rfl
                    obtain ⟨v37, hv37, H⟩ := bind_some H
                    refine AOps_callp (d := (some 117)) (al := [bA ((((x0.gOp == 9) || (x0.gOp == 10)) || (x0.gOp == 11)) && (v36.gKind != 3)), iA 8]) (r := iA v37) (by kernel_rfl) (s_shape_when hv37) ⟨trivial, trivial, trivial⟩ trivial ?_
                    refine Rh 1 118 [(4, iA v37)] (AOps_done ?_)
                    exact AWP_ret (FR H)
theorem s_shape_expr_F (hG : GlobT E) {self_p_shape_expr : TExpr → Int → Int → Option (Int × Int)} (hself_shape_expr : ∀ {x0 : TExpr}, ∀ {x1 : Int}, ∀ {x2 : Int}, ∀ {r : Int × Int}, self_p_shape_expr x0 x1 x2 = some r → Sp Tryz.prog E 52 [.agg (TExpr.cs x0), iA x1, .ptr 0 0] [.cells 3 [iA x2]] (isA (iA r.1) [.cells 3 [iA r.2]])) {n : Nat} {x0 : TExpr} {x1 : Int} {x2 : Int} {r : Int × Int} (H : p_shape_expr_F self_p_shape_expr n x0 x1 x2 = some r) :
    Sp Tryz.prog E 52 [.agg (TExpr.cs x0), iA x1, .ptr 0 0] [.cells 3 [iA x2]] (isA (iA r.1) [.cells 3 [iA r.2]]) := by
  unfold p_shape_expr_F at H
  refine Sp_fn Tryz.func52 rfl (fun hc hs => ?_)
  refine AWP_reg (R 2 42 [(1, iA x1), (2, .ptr 0 0), (3, .ptr 1 0)] [.cells 25 (TExpr.cs x0), .cells 3 [iA x2]] (AOps_done (AWP_seq (AWP_reg (Rh 4 42 [(1, iA x1), (2, .ptr 0 0), (3, .ptr 1 0), (14, bA (decide (x2 ≥ 60)))] (AOps_done (CD H (fun hb1 H => ?_) (fun hb1 H => ?_))))))))
  · refine AWP_reg (Rh 1 42 [(6, iA 5)] (AOps_done (AWP_ret ?_)))
    have hr := Option.some.inj H
    subst hr
    exact Fin_retn 1 (l := [iA 5]) (h' := [.cells 3 [iA x2]]) (by kernel_rfl) rfl (Nat.le_of_ble_eq_true rfl) ((by refine Closed_of ?_; exact ⟨⟨trivial, trivial⟩, trivial⟩)) (Frz_sc trivial) ⟨rfl, rfl⟩
  · refine AWP_skip ?_
    show AWP _ _ _ _ _ _ _
    refine AWP_reg (R 6 42 [(1, iA x1), (2, .ptr 0 0), (3, .ptr 1 0)] [.cells 25 (TExpr.cs x0), .cells 3 [iA (w64 (x2 + 1))]] (AOps_done (AWP_seq (AWP_reg (Rh 2 42 [(1, iA x1), (2, .ptr 0 0), (3, .ptr 1 0), (20, .agg (TExpr.cs x0)), (21, iA x1)] ?_)))))
    obtain ⟨v2, hv2, H⟩ := bind_some H
    refine AOps_callp (d := (some 22)) (al := [.agg (TExpr.cs x0), iA x1]) (r := iA v2) (by kernel_rfl) (s_shape_part hG hv2) ⟨(sc_TExpr_cs _ _), trivial, trivial⟩ trivial ?_
    refine Rh 1 42 [(1, iA x1), (2, .ptr 0 0), (3, .ptr 1 0), (7, iA v2)] (AOps_done (AWP_reg (Rh 2 42 [(1, iA x1), (2, .ptr 0 0), (3, .ptr 1 0), (7, iA v2), (24, bA (v2 != 0))] (AOps_done (CD H (fun hb3 H => ?_) (fun hb3 H => ?_))))))
    · refine AWP_reg (Rh 2 42 [(6, iA v2)] (AOps_done (AWP_ret ?_)))
      have hr := Option.some.inj H
      subst hr
      exact Fin_retn 1 (l := [iA v2]) (h' := [.cells 3 [iA (w64 (x2 + 1))]]) (by kernel_rfl) rfl (Nat.le_of_ble_eq_true rfl) ((by refine Closed_of ?_; exact ⟨⟨trivial, trivial⟩, trivial⟩)) (Frz_sc trivial) ⟨rfl, rfl⟩
    · refine AWP_skip ?_
      show AWP _ _ _ _ _ _ _
      refine AWP_seq (AWP_reg (Rh 4 42 [(1, iA x1), (2, .ptr 0 0), (27, .ro .unk x0.gKids.length (TExpr.cl x0.gKids)), (28, iA (lI x0.gKids)), (29, iA 0)] (AOps_done (AWP_block ?_))))
      refine AWP_loopN (α := Int × Int) (fun ⟨v14, v15⟩ => fr 42 [(1, iA x1), (2, .ptr 0 0), (27, .ro .unk x0.gKids.length (TExpr.cl x0.gKids)), (28, iA (lI x0.gKids)), (29, iA v14)]) (fun ⟨v14, v15⟩ => [.cells 25 (TExpr.cs x0), .cells 3 [iA v15]]) (fun k_ ⟨v14, v15⟩ => k_ ≤ n ∧ p_shape_expr_L1 k_ self_p_shape_expr x0 x1 v14 v15 = some r) (fun n a H => ?_) (k := n) (0, w64 (x2 + 1)) ⟨Nat.le_refl _, H⟩ (Norm_fd [1, 2, 27, 28, 29] 0 (by kernel_rfl) rfl rfl ⟨(sc_TExpr_cs _ _), ⟨trivial, trivial⟩, trivial⟩ (by refine scL_fr ?_; exact ⟨trivial, (sc_ptr rfl), (scl_TExpr_cl _ _), trivial, trivial, trivial⟩))
      obtain ⟨v14, v15⟩ := a
      show AWP _ _ _ _ _ (fr 42 [(1, iA x1), (2, .ptr 0 0), (27, .ro .unk x0.gKids.length (TExpr.cl x0.gKids)), (28, iA (lI x0.gKids)), (29, iA v14)]) [.cells 25 (TExpr.cs x0), .cells 3 [iA v15]]
      obtain ⟨hb_, H⟩ := H
      replace H : p_shape_expr_L1 n self_p_shape_expr x0 x1 v14 v15 = some r := H
      cases n with
      | zero => exact not_none (by simpa only [p_shape_expr_L1] using H)
      | succ n =>
        unfold p_shape_expr_L1 at H
        refine AWP_reg (Rh 1 42 [(1, iA x1), (2, .ptr 0 0), (27, .ro .unk x0.gKids.length (TExpr.cl x0.gKids)), (28, iA (lI x0.gKids)), (29, iA v14), (30, bA (decide (v14 < (lI x0.gKids))))] (AOps_done (AWP_seq (CD H (fun hb16 H => ?_) (fun hb16 H => ?_)))))
        · refine AWP_skip ?_
          show AWP _ _ _ _ _ _ _
          refine AWP_seq (AWP_block ?_)
          refine AWP_reg ?_
          obtain ⟨v17, hv17, H⟩ := bind_some H
          refine AOps_index (d := (some 31)) (sz := 5) (c := TExpr.cs) (by kernel_rfl) rfl (eq_TExpr_cl _) (fun _ => rfl) (by decide) hv17 (fun tl17 => ?_)
          refine R 3 42 [(1, iA x1), (2, .ptr 0 0), (9, .ptr 2 0), (27, .ro .unk x0.gKids.length (TExpr.cl x0.gKids)), (28, iA (lI x0.gKids)), (29, iA v14)] [.cells 25 (TExpr.cs v17), .cells 25 (TExpr.cs x0), .cells 3 [iA v15]] (AOps_done (AWP_reg (Rh 4 42 [(1, iA x1), (2, .ptr 0 0), (27, .ro .unk x0.gKids.length (TExpr.cl x0.gKids)), (28, iA (lI x0.gKids)), (29, iA v14), (33, .agg (TExpr.cs v17)), (35, iA (w64 (x1 + 1))), (36, .ptr 0 0)] ?_)))
          obtain ⟨v18, hv18, H⟩ := bind_some H
          refine AOps_call1 (d := (some 37)) (al := [.agg (TExpr.cs v17), iA (w64 (x1 + 1)), .ptr 0 0]) ([.agg (TExpr.cs v17), iA (w64 (x1 + 1)), .ptr 0 0]) (r := iA v18.1) (j := 0) (b' := .cells 3 [iA v18.2]) (by kernel_rfl) rfl (hself_shape_expr hv18) (⟨trivial, trivial⟩) (⟨trivial, trivial⟩) ⟨(sc_TExpr_cs _ _), trivial, Nat.zero_lt_one, trivial⟩ trivial rfl (h' := [.cells 25 (TExpr.cs v17), .cells 25 (TExpr.cs x0), .cells 3 [iA v18.2]]) rfl ?_
          refine Rh 1 42 [(1, iA x1), (2, .ptr 0 0), (10, iA v18.1), (27, .ro .unk x0.gKids.length (TExpr.cl x0.gKids)), (28, iA (lI x0.gKids)), (29, iA v14)] (AOps_done (AWP_reg (Rh 2 42 [(1, iA x1), (2, .ptr 0 0), (10, iA v18.1), (27, .ro .unk x0.gKids.length (TExpr.cl x0.gKids)), (28, iA (lI x0.gKids)), (29, iA v14), (39, bA (v18.1 != 0))] (AOps_done (CD H (fun hb19 H => ?_) (fun hb19 H => ?_))))))
          · refine AWP_reg (Rh 2 42 [(6, iA v18.1)] (AOps_done (AWP_ret ?_)))
            have hr := Option.some.inj H
            subst hr
            exact Fin_retn 2 (l := [iA v18.1]) (h' := [.cells 3 [iA v18.2]]) (by kernel_rfl) rfl (Nat.le_of_ble_eq_true rfl) ((by refine Closed_of ?_; exact ⟨⟨trivial, trivial⟩, trivial⟩)) (Frz_sc trivial) ⟨rfl, rfl⟩
          · refine AWP_skip ?_
            show AWP _ _ _ _ _ _ _
            refine AWP_region ?_
            refine Rh 2 42 [(1, iA x1), (2, .ptr 0 0), (27, .ro .unk x0.gKids.length (TExpr.cl x0.gKids)), (28, iA (lI x0.gKids)), (29, iA (w64 (v14 + 1)))] (AOps_done ?_)
            exact Exists.intro (w64 (v14 + 1), v18.2) (Exists.intro n ⟨by omega, ⟨by omega, H⟩, Norm_fd [1, 2, 27, 28, 29] 1 (by kernel_rfl) rfl rfl ⟨(sc_TExpr_cs _ _), ⟨trivial, trivial⟩, trivial⟩ (by refine scL_fr ?_; exact ⟨trivial, (sc_ptr rfl), (scl_TExpr_cl _ _), trivial, trivial, trivial⟩)⟩)
        · refine AWP_exit ?_
          show AWP _ _ _ _ _ _ _
          refine AWP_reg (Rh 1 42 [(6, iA 0)] (AOps_done (AWP_ret ?_)))
          have hr := Option.some.inj H
          subst hr
          exact Fin_retn 1 (l := [iA 0]) (h' := [.cells 3 [iA v15]]) (by kernel_rfl) rfl (Nat.le_of_ble_eq_true rfl) ((by refine Closed_of ?_; exact ⟨⟨trivial, trivial⟩, trivial⟩)) (Frz_sc trivial) ⟨rfl, rfl⟩
theorem s_all_shape_expr (hG : GlobT E) : ∀ n : Nat, (∀ {x0 : TExpr}, ∀ {x1 : Int}, ∀ {x2 : Int}, ∀ {r : Int × Int}, p_shape_expr n x0 x1 x2 = some r → Sp Tryz.prog E 52 [.agg (TExpr.cs x0), iA x1, .ptr 0 0] [.cells 3 [iA x2]] (isA (iA r.1) [.cells 3 [iA r.2]])) := by
  intro n
  induction n with
  | zero => exact fun H => not_none (by simpa only [p_shape_expr] using H)
  | succ n ih => exact fun H => s_shape_expr_F hG ih (by simpa only [p_shape_expr] using H)
theorem s_shape_expr {n : Nat} (hG : GlobT E) {x0 : TExpr} {x1 : Int} {x2 : Int} {r : Int × Int} (H : p_shape_expr n x0 x1 x2 = some r) :
    Sp Tryz.prog E 52 [.agg (TExpr.cs x0), iA x1, .ptr 0 0] [.cells 3 [iA x2]] (isA (iA r.1) [.cells 3 [iA r.2]]) := (s_all_shape_expr hG n) H
theorem s_shape_Expr {n : Nat} (hG : GlobT E) {x0 : TExpr} {r : Int} (H : p_shape_Expr n x0 = some r) :
    Sp Tryz.prog E 15 [.agg (TExpr.cs x0)] [] (isA (iA r) []) := by
  unfold p_shape_Expr at H
  refine Sp_fn Tryz.func15 rfl (fun hc hs => ?_)
  refine AWP_reg (R 2 6 [(1, .ptr 0 0)] [.cells 25 (TExpr.cs x0)] (AOps_done (AWP_reg (R 2 6 [(1, .ptr 0 0), (3, .ptr 1 0)] [.cells 3 [iA 0], .cells 25 (TExpr.cs x0)] (AOps_done (AWP_reg (Rh 1 6 [(3, .ptr 1 0), (4, .agg (TExpr.cs x0))] ?_)))))))
  obtain ⟨v1, hv1, H⟩ := bind_some H
  refine AOps_call1 (d := (some 5)) (al := [.agg (TExpr.cs x0), iA 0, .ptr 0 0]) ([.agg (TExpr.cs x0), iA 0, .ptr 1 0]) (r := iA v1.1) (j := 1) (b' := .cells 3 [iA v1.2]) (by kernel_rfl) rfl (s_shape_expr hG hv1) (⟨trivial, trivial⟩) (⟨trivial, trivial⟩) ⟨(sc_TExpr_cs _ _), trivial, Nat.zero_lt_one, trivial⟩ trivial rfl (h' := [.cells 3 [iA v1.2], .cells 25 (TExpr.cs x0)]) rfl ?_
  refine Rh 1 6 [(2, iA v1.1)] (AOps_done ?_)
  exact AWP_ret (FR H)
end Go.Proofs.YtjhbobacbaikoaaGreatDoor
/- Functions of the program as pure functions, and that the program computes these. -/
namespace Go.Proofs.YtjhbobacbaikoaaGreatDoor
open Go
set_option linter.unusedVariables false
set_option linter.unusedSimpArgs false
set_option maxRecDepth 100000
mutual
def p_shape_rules_L2 (n : Nat) (x0 : List TRule) (x1 : Int) (v43 : Int) (v45 : TRule) (v48 : List TRule) (v56 : Int) : Option Int := match n with
| 0 => none
| n + 1 =>
(bif decide (v56 < (lI v48)) then
(rdO v48 v56).bind fun v58 =>
(bif seq' v58.gName v45.gName then
 some (10)
 else
 p_shape_rules_L2 n x0 x1 v43 v45 v48 (w64 (v56 + 1)))
 else
(p_shape_Expr n v45.gWhen).bind fun v60 =>
(p_shape_Serve n v45.gServe x1).bind fun v61 =>
(p_shape_first n ([v60, v61])).bind fun v62 =>
(bif v62 == 0 then
 p_shape_rules_L1 n x0 x1 (w64 (v43 + 1))
 else
 some (v62)))
def p_shape_rules_L1 (n : Nat) (x0 : List TRule) (x1 : Int) (v43 : Int) : Option Int := match n with
| 0 => none
| n + 1 =>
(bif decide (v43 < (lI x0)) then
(rdO x0 v43).bind fun v45 =>
(p_text_Key n v45.gName).bind fun v46 =>
(bif !v46 then
 some (6)
 else
(cutL x0 0 v43).bind fun v48 =>
 p_shape_rules_L2 n x0 x1 v43 v45 v48 0)
 else
 some (0))
end
def p_shape_rules (n : Nat) (x0 : List TRule) (x1 : Int) : Option Int :=
(bif decide ((lI x0) > 12) then
 some (5)
 else
 p_shape_rules_L1 n x0 x1 0)
def p_shape_Flag_L1 (n : Nat) (x0 : TFlag) (v21 : Int) : Option Int := match n with
| 0 => none
| n + 1 =>
(bif decide (v21 < (lI x0.gVariations)) then
(rdO x0.gVariations v21).bind fun v23 =>
(p_value_Check n v23).bind fun v24 =>
(p_shape_when n (v23.gKind != x0.gKind) 8).bind fun v25 =>
(p_shape_first n ([v24, v25])).bind fun v26 =>
(bif v26 != 0 then
 some (v26)
 else
 p_shape_Flag_L1 n x0 (w64 (v21 + 1)))
 else
(p_shape_when n ((decide (x0.gOff < 1)) || (decide (x0.gOff > (lI x0.gVariations)))) 3).bind fun v28 =>
(p_shape_prerequisites n x0.gPrerequisites).bind fun v29 =>
(p_shape_targets n x0.gTargets (lI x0.gVariations)).bind fun v30 =>
(p_shape_rules n x0.gRules (lI x0.gVariations)).bind fun v31 =>
(p_shape_first n ([v28, v29, v30, v31])).bind fun v32 =>
(bif v32 != 0 then
 some (v32)
 else
(p_shape_Serve n x0.gDefault (lI x0.gVariations)).bind fun v34 =>
 some (v34)))
def p_shape_Flag (n : Nat) (x0 : TFlag) : Option Int :=
(p_text_Key n x0.gKey).bind fun v1 =>
(p_shape_when n (!v1) 6).bind fun v2 =>
(p_shape_when n ((decide (x0.gKind < 1)) || (decide (x0.gKind > 5))) 7).bind fun v3 =>
(p_shape_when n (decide ((lI x0.gVariations) > 8)) 5).bind fun v4 =>
(p_shape_when n ((lI x0.gVariations) == 0) 3).bind fun v5 =>
(p_shape_first n ([v2, v3, v4, v5])).bind fun v6 =>
(bif v6 != 0 then
 some (v6)
 else
 p_shape_Flag_L1 n x0 0)
def p_ref6_Split_L1 (n : Nat) (x0 : List TRange) (x1 : Int) (v24 : Int) (v25 : Int) : Option Int := match n with
| 0 => none
| n + 1 =>
(bif decide (v25 < (lI x0)) then
(rdO x0 v25).bind fun v27 =>
(bif !(decide (v27.gVariation < 1)) then rdO x0 v25 else some ({ gFrom := 0, gTo := 0, gVariation := 0 } : TRange)).bind fun v28 =>
(bif (decide (v27.gVariation < 1)) || (decide (v28.gVariation > x1)) then
 some (3)
 else
(rdO x0 v25).bind fun v30 =>
(bif !(v30.gFrom != v24) then rdO x0 v25 else some ({ gFrom := 0, gTo := 0, gVariation := 0 } : TRange)).bind fun v31 =>
(bif (!((v30.gFrom != v24) || (decide (v31.gTo ≤ v24)))) && (decide (v25 > 0)) then rdO x0 v25 else some ({ gFrom := 0, gTo := 0, gVariation := 0 } : TRange)).bind fun v32 =>
(bif (!((v30.gFrom != v24) || (decide (v31.gTo ≤ v24)))) && (decide (v25 > 0)) then rdO x0 (w64 (v25 - 1)) else some ({ gFrom := 0, gTo := 0, gVariation := 0 } : TRange)).bind fun v33 =>
(bif ((v30.gFrom != v24) || (decide (v31.gTo ≤ v24))) || ((decide (v25 > 0)) && (v32.gVariation == v33.gVariation)) then
 some (9)
 else
(rdO x0 v25).bind fun v35 =>
 p_ref6_Split_L1 n x0 x1 v35.gTo (w64 (v25 + 1))))
 else
(bif v24 != 10000 then
 some (3)
 else
 some (0)))
def p_ref6_Split (n : Nat) (x0 : List TRange) (x1 : Int) : Option Int :=
(bif decide ((lI x0) > 16) then
 some (5)
 else
 p_ref6_Split_L1 n x0 x1 0 0)
variable {E : Env}
theorem s_shape_rules {n : Nat} (hG : GlobT E) {x0 : List TRule} {x1 : Int} {r : Int} (H : p_shape_rules n x0 x1 = some r) :
    Sp Tryz.prog E 72 [.ro .unk x0.length (TRule.cl x0), iA x1] [] (isA (iA r) []) := by
  unfold p_shape_rules at H
  refine Sp_fn Tryz.func72 rfl (fun hc hs => ?_)
  refine AWP_reg (Rh 1 52 [(0, .ro .unk x0.length (TRule.cl x0)), (1, iA x1)] (AOps_done (AWP_scope ?_)))
  refine AWP_seq (AWP_reg (Rh 3 52 [(0, .ro .unk x0.length (TRule.cl x0)), (1, iA x1), (12, bA (decide ((lI x0) > 12)))] (AOps_done (CD H (fun hb1 H => ?_) (fun hb1 H => ?_)))))
  · refine AWP_reg (Rh 1 52 [(4, iA 5)] (AOps_done ?_))
    exact AWP_ret (FR H)
  · refine AWP_skip ?_
    show AWP _ _ _ _ _ _ _
    refine AWP_seq (AWP_label ?_)
    show AWP _ _ _ _ _ _ _
    refine AWP_seq (AWP_reg (Rh 3 52 [(0, .ro .unk x0.length (TRule.cl x0)), (1, iA x1), (13, .ro .unk x0.length (TRule.cl x0)), (14, iA (lI x0)), (15, iA 0)] (AOps_done (AWP_block ?_))))
    refine AWP_loopN (α := Int) (fun v43 => fr 52 [(0, .ro .unk x0.length (TRule.cl x0)), (1, iA x1), (13, .ro .unk x0.length (TRule.cl x0)), (14, iA (lI x0)), (15, iA v43)]) (fun v43 => []) (fun k_ v43 => k_ ≤ n ∧ p_shape_rules_L1 k_ x0 x1 v43 = some r) (fun n v43 H => ?_) (k := n) 0 ⟨Nat.le_refl _, H⟩ (Norm_fd [0, 1, 13, 14, 15] 0 (by kernel_rfl) rfl rfl trivial (by refine scL_fr ?_; exact ⟨(scl_TRule_cl _ _), trivial, (scl_TRule_cl _ _), trivial, trivial, trivial⟩))
    show AWP _ _ _ _ _ (fr 52 [(0, .ro .unk x0.length (TRule.cl x0)), (1, iA x1), (13, .ro .unk x0.length (TRule.cl x0)), (14, iA (lI x0)), (15, iA v43)]) []
    obtain ⟨hb_, H⟩ := H
    replace H : p_shape_rules_L1 n x0 x1 v43 = some r := H
    cases n with
    | zero => exact not_none (by simpa only [p_shape_rules_L1] using H)
    | succ n =>
      unfold p_shape_rules_L1 at H
      refine AWP_reg (Rh 1 52 [(0, .ro .unk x0.length (TRule.cl x0)), (1, iA x1), (13, .ro .unk x0.length (TRule.cl x0)), (14, iA (lI x0)), (15, iA v43), (16, bA (decide (v43 < (lI x0))))] (AOps_done (AWP_seq (CD H (fun hb44 H => ?_) (fun hb44 H => ?_)))))
      · refine AWP_skip ?_
        show AWP _ _ _ _ _ _ _
        refine AWP_seq (AWP_block ?_)
        refine AWP_reg (Rh 1 52 [(0, .ro .unk x0.length (TRule.cl x0)), (1, iA x1), (13, .ro .unk x0.length (TRule.cl x0)), (14, iA (lI x0)), (15, iA v43), (17, iA v43)] ?_)
        obtain ⟨v45, hv45, H⟩ := bind_some H
        refine AOps_index (d := (some 18)) (sz := 11) (c := TRule.cs) (by kernel_rfl) rfl (eq_TRule_cl _) (fun _ => rfl) (by decide) hv45 (fun tl45 => ?_)
        refine R 4 52 [(0, .ro .unk x0.length (TRule.cl x0)), (1, iA x1), (5, iA v43), (6, .ptr 0 0), (13, .ro .unk x0.length (TRule.cl x0)), (14, iA (lI x0)), (15, iA v43)] [.cells 76 (TRule.cs v45)] (AOps_done (AWP_seq (AWP_reg (Rh 2 52 [(0, .ro .unk x0.length (TRule.cl x0)), (1, iA x1), (5, iA v43), (6, .ptr 0 0), (13, .ro .unk x0.length (TRule.cl x0)), (14, iA (lI x0)), (15, iA v43), (21, sA v45.gName)] ?_))))
        obtain ⟨v46, hv46, H⟩ := bind_some H
        refine AOps_callp (d := (some 22)) (al := [sA v45.gName]) (r := bA v46) (by kernel_rfl) (s_text_Key hG hv46) ⟨trivial, trivial⟩ trivial ?_
        refine Rh 1 52 [(0, .ro .unk x0.length (TRule.cl x0)), (1, iA x1), (5, iA v43), (6, .ptr 0 0), (13, .ro .unk x0.length (TRule.cl x0)), (14, iA (lI x0)), (15, iA v43), (23, bA (!v46))] (AOps_done (CD H (fun hb47 H => ?_) (fun hb47 H => ?_)))
        · refine AWP_reg (Rh 1 52 [(4, iA 6)] (AOps_done ?_))
          exact AWP_ret (FR H)
        · refine AWP_skip ?_
          show AWP _ _ _ _ _ _ _
          refine AWP_seq (AWP_reg (Rh 2 52 [(0, .ro .unk x0.length (TRule.cl x0)), (1, iA x1), (6, .ptr 0 0), (13, .ro .unk x0.length (TRule.cl x0)), (14, iA (lI x0)), (15, iA v43), (24, .ro .unk x0.length (TRule.cl x0)), (25, iA v43)] ?_))
          obtain ⟨v48, hv48, H⟩ := bind_some H
          refine AOps_lcut (d := (some 26)) (sz := 11) (c := TRule.cs) (by kernel_rfl) rfl (eq_TRule_cl _) (eq_TRule_cl _) (fun _ => rfl) (by decide) hv48 ?_
          refine Rh 2 52 [(0, .ro .unk x0.length (TRule.cl x0)), (1, iA x1), (6, .ptr 0 0), (13, .ro .unk x0.length (TRule.cl x0)), (14, iA (lI x0)), (15, iA v43), (26, .ro .unk v48.length (TRule.cl v48)), (27, iA (lI v48)), (28, iA 0)] (AOps_done (AWP_block ?_))
          refine AWP_loopN (α := Int) (fun v56 => fr 52 [(0, .ro .unk x0.length (TRule.cl x0)), (1, iA x1), (6, .ptr 0 0), (13, .ro .unk x0.length (TRule.cl x0)), (14, iA (lI x0)), (15, iA v43), (26, .ro .unk v48.length (TRule.cl v48)), (27, iA (lI v48)), (28, iA v56)]) (fun v56 => [.cells 76 (TRule.cs v45)]) (fun k_ v56 => k_ ≤ n ∧ p_shape_rules_L2 k_ x0 x1 v43 v45 v48 v56 = some r) (fun n v56 H => ?_) (k := n) 0 ⟨Nat.le_refl _, H⟩ (Norm_fd [0, 1, 6, 13, 14, 15, 26, 27, 28] 0 (by kernel_rfl) rfl rfl ⟨(sc_TRule_cs _ _), trivial⟩ (by refine scL_fr ?_; exact ⟨(scl_TRule_cl _ _), trivial, (sc_ptr rfl), (scl_TRule_cl _ _), trivial, trivial, (scl_TRule_cl _ _), trivial, trivial, trivial⟩))
          show AWP _ _ _ _ _ (fr 52 [(0, .ro .unk x0.length (TRule.cl x0)), (1, iA x1), (6, .ptr 0 0), (13, .ro .unk x0.length (TRule.cl x0)), (14, iA (lI x0)), (15, iA v43), (26, .ro .unk v48.length (TRule.cl v48)), (27, iA (lI v48)), (28, iA v56)]) [.cells 76 (TRule.cs v45)]
          obtain ⟨hb_, H⟩ := H
          replace H : p_shape_rules_L2 n x0 x1 v43 v45 v48 v56 = some r := H
          cases n with
          | zero => exact not_none (by simpa only [p_shape_rules_L2] using H)
          | succ n =>
            unfold p_shape_rules_L2 at H
            refine AWP_reg (Rh 1 52 [(0, .ro .unk x0.length (TRule.cl x0)), (1, iA x1), (6, .ptr 0 0), (13, .ro .unk x0.length (TRule.cl x0)), (14, iA (lI x0)), (15, iA v43), (26, .ro .unk v48.length (TRule.cl v48)), (27, iA (lI v48)), (28, iA v56), (29, bA (decide (v56 < (lI v48))))] (AOps_done (AWP_seq (CD H (fun hb57 H => ?_) (fun hb57 H => ?_)))))
            · refine AWP_skip ?_
              show AWP _ _ _ _ _ _ _
              refine AWP_seq (AWP_block ?_)
              refine AWP_reg ?_
              obtain ⟨v58, hv58, H⟩ := bind_some H
              refine AOps_index (d := (some 30)) (sz := 11) (c := TRule.cs) (by kernel_rfl) rfl (eq_TRule_cl _) (fun _ => rfl) (by decide) hv58 (fun tl58 => ?_)
              refine R 3 52 [(0, .ro .unk x0.length (TRule.cl x0)), (1, iA x1), (6, .ptr 0 0), (8, .ptr 1 0), (13, .ro .unk x0.length (TRule.cl x0)), (14, iA (lI x0)), (15, iA v43), (26, .ro .unk v48.length (TRule.cl v48)), (27, iA (lI v48)), (28, iA v56)] [.cells 76 (TRule.cs v58), .cells 76 (TRule.cs v45)] (AOps_done (AWP_reg (Rh 5 52 [(0, .ro .unk x0.length (TRule.cl x0)), (1, iA x1), (6, .ptr 0 0), (13, .ro .unk x0.length (TRule.cl x0)), (14, iA (lI x0)), (15, iA v43), (26, .ro .unk v48.length (TRule.cl v48)), (27, iA (lI v48)), (28, iA v56), (36, bA (seq' v58.gName v45.gName))] (AOps_done (CD H (fun hb59 H => ?_) (fun hb59 H => ?_))))))
              · refine AWP_reg (Rh 1 52 [(4, iA 10)] (AOps_done ?_))
                exact AWP_ret (FR H)
              · refine AWP_skip ?_
                show AWP _ _ _ _ _ _ _
                refine AWP_region ?_
                refine Rh 2 52 [(0, .ro .unk x0.length (TRule.cl x0)), (1, iA x1), (6, .ptr 0 0), (13, .ro .unk x0.length (TRule.cl x0)), (14, iA (lI x0)), (15, iA v43), (26, .ro .unk v48.length (TRule.cl v48)), (27, iA (lI v48)), (28, iA (w64 (v56 + 1)))] (AOps_done ?_)
                exact Exists.intro (w64 (v56 + 1)) (Exists.intro n ⟨by omega, ⟨by omega, H⟩, Norm_fd [0, 1, 6, 13, 14, 15, 26, 27, 28] 1 (by kernel_rfl) rfl rfl ⟨(sc_TRule_cs _ _), trivial⟩ (by refine scL_fr ?_; exact ⟨(scl_TRule_cl _ _), trivial, (sc_ptr rfl), (scl_TRule_cl _ _), trivial, trivial, (scl_TRule_cl _ _), trivial, trivial, trivial⟩)⟩)
            · refine AWP_exit ?_
              show AWP _ _ _ _ _ _ _
              obtain ⟨v60, hv60, H⟩ := bind_some H
              obtain ⟨v61, hv61, H⟩ := bind_some H
              obtain ⟨v62, hv62, H⟩ := bind_some H
              refine AWP_regD1 [0, 1, 3, 4, 5, 2, 6, 7, 8, 9] (N := 52) (f := [(0, .ro .unk x0.length (TRule.cl x0)), (1, iA x1), (6, .ptr 0 0), (13, .ro .unk x0.length (TRule.cl x0)), (14, iA (lI x0)), (15, iA v43)]) (leL_of [0, 1, 6, 13, 14, 15] (by kernel_rfl)) mixed (by kernel_rfl) (by kernel_rfl) (st' := fr 52 [(0, .ro .unk x0.length (TRule.cl x0)), (1, iA x1), (9, iA v62), (13, .ro .unk x0.length (TRule.cl x0)), (14, iA (lI x0)), (15, iA v43)]) (h' := [.cells 76 (TRule.cs v45)]) ?_ ?_
              rotate_left
              · refine RD 5 52 [(4, 0), (3, 0), (1, 0), (0, 0)] [(0, .ro .unk x0.length (TRule.cl x0)), (1, iA x1), (6, .ptr 0 0), (13, .ro .unk x0.length (TRule.cl x0)), (14, iA (lI x0)), (15, iA v43), (38, .ptr 0 1), (39, .agg (TExpr.cs v45.gWhen)), (41, .ptr 0 6), (42, .agg (TServe.cs v45.gServe)), (43, iA x1)] (AD_callp (d := (some 40)) (al := [.agg (TExpr.cs v45.gWhen)]) (r := iA v60) (by kernel_rfl) (s_shape_Expr hG hv60) ⟨(sc_TExpr_cs _ _), trivial⟩ trivial ?_)
                refine AD_callp (d := (some 44)) (al := [.agg (TServe.cs v45.gServe), iA x1]) (r := iA v61) (by kernel_rfl) (s_shape_Serve hG hv61) ⟨(sc_TServe_cs _ _), trivial, trivial⟩ trivial ?_
                refine AD_bsl (d := (some 45)) (m := 2) (cs := [iA v60, iA v61]) (by kernel_rfl) ⟨trivial, trivial, trivial⟩ ?_
                refine AD_callp (d := (some 46)) (al := [.ro .unk ([v60, v61]).length (cl_i64 ([v60, v61]))]) (r := iA v62) (by kernel_rfl) (s_shape_first hv62) ⟨(scl_cl_i64 _ _), trivial⟩ trivial ?_
                refine RD 1 52 [(4, 0), (3, 0), (1, 0), (0, 0)] [(0, .ro .unk x0.length (TRule.cl x0)), (1, iA x1), (6, .ptr 0 0), (9, iA v62), (13, .ro .unk x0.length (TRule.cl x0)), (14, iA (lI x0)), (15, iA v43), (38, .ptr 0 1), (39, .agg (TExpr.cs v45.gWhen)), (40, iA v60), (41, .ptr 0 6), (42, .agg (TServe.cs v45.gServe)), (43, iA x1), (44, iA v61), (45, .ro .unk ([v60, v61]).length (cl_i64 ([v60, v61]))), (46, iA v62)] ?_
                exact AD_here [0, 1, 9, 13, 14, 15] (by kernel_rfl) rfl
              refine AWP_block ?_
              refine AWP_reg (Rh 3 52 [(0, .ro .unk x0.length (TRule.cl x0)), (1, iA x1), (9, iA v62), (13, .ro .unk x0.length (TRule.cl x0)), (14, iA (lI x0)), (15, iA v43), (48, bA (v62 == 0))] (AOps_done (CD H (fun hb63 H => ?_) (fun hb63 H => ?_))))
              · refine AWP_exit ?_
                show AWP _ _ _ _ _ _ _
                refine AWP_region ?_
                refine Rh 2 52 [(0, .ro .unk x0.length (TRule.cl x0)), (1, iA x1), (13, .ro .unk x0.length (TRule.cl x0)), (14, iA (lI x0)), (15, iA (w64 (v43 + 1)))] (AOps_done ?_)
                exact Exists.intro (w64 (v43 + 1)) (Exists.intro n ⟨by omega, ⟨by omega, H⟩, Norm_fd [0, 1, 13, 14, 15] 1 (by kernel_rfl) rfl rfl trivial (by refine scL_fr ?_; exact ⟨(scl_TRule_cl _ _), trivial, (scl_TRule_cl _ _), trivial, trivial, trivial⟩)⟩)
              · refine AWP_reg (Rh 2 52 [(4, iA v62)] (AOps_done ?_))
                exact AWP_ret (FR H)
      · refine AWP_exit ?_
        show AWP _ _ _ _ _ _ _
        refine AWP_reg (Rh 1 52 [(4, iA 0)] (AOps_done ?_))
        exact AWP_ret (FR H)
theorem s_shape_Flag {n : Nat} (hG : GlobT E) {x0 : TFlag} {r : Int} (H : p_shape_Flag n x0 = some r) :
    Sp Tryz.prog E 34 [.agg (TFlag.cs x0)] [] (isA (iA r) []) := by
  unfold p_shape_Flag at H
  refine Sp_fn Tryz.func34 rfl (fun hc hs => ?_)
  refine AWP_reg (R 2 88 [(1, .ptr 0 0)] [.cells 65 (TFlag.cs x0)] (AOps_done (AWP_reg (Rh 4 88 [(1, .ptr 0 0), (3, iA (lI x0.gVariations))] (AOps_done (AWP_seq ?_))))))
  obtain ⟨v1, hv1, H⟩ := bind_some H
  obtain ⟨v2, hv2, H⟩ := bind_some H
  obtain ⟨v3, hv3, H⟩ := bind_some H
  obtain ⟨v4, hv4, H⟩ := bind_some H
  obtain ⟨v5, hv5, H⟩ := bind_some H
  obtain ⟨v6, hv6, H⟩ := bind_some H
  refine AWP_regD1 [0, 1, 5, 6, 7, 14, 15, 17, 18, 2, 3, 4, 8, 9, 10, 11, 12, 13, 16, 19, 20, 21, 22] (N := 88) (f := [(1, .ptr 0 0), (3, iA (lI x0.gVariations))]) (leL_of [1, 3] (by kernel_rfl)) mixed (by kernel_rfl) (by kernel_rfl) (st' := fr 88 [(1, .ptr 0 0), (3, iA (lI x0.gVariations)), (4, iA v6)]) (h' := [.cells 65 (TFlag.cs x0)]) ?_ ?_
  rotate_left
  · refine RD 9 88 [(6, 0), (5, 0), (1, 0), (0, 0)] [(1, .ptr 0 0), (3, iA (lI x0.gVariations)), (12, .ptr 0 0), (13, sA x0.gKey), (17, .ptr 0 1), (18, iA x0.gKind), (19, bA (decide (x0.gKind < 1))), (26, iA (lI x0.gVariations)), (27, bA (decide ((lI x0.gVariations) > 8))), (29, iA (lI x0.gVariations)), (30, bA ((lI x0.gVariations) == 0))] (AD_callp (d := (some 14)) (al := [sA x0.gKey]) (r := bA v1) (by kernel_rfl) (s_text_Key hG hv1) ⟨trivial, trivial⟩ trivial ?_)
    refine RD 1 88 [(6, 0), (5, 0), (1, 0), (0, 0)] [(1, .ptr 0 0), (3, iA (lI x0.gVariations)), (12, .ptr 0 0), (13, sA x0.gKey), (14, bA v1), (15, bA (!v1)), (17, .ptr 0 1), (18, iA x0.gKind), (19, bA (decide (x0.gKind < 1))), (26, iA (lI x0.gVariations)), (27, bA (decide ((lI x0.gVariations) > 8))), (29, iA (lI x0.gVariations)), (30, bA ((lI x0.gVariations) == 0))] (AD_callp (d := (some 16)) (al := [bA (!v1), iA 6]) (r := iA v2) (by kernel_rfl) (s_shape_when hv2) ⟨trivial, trivial, trivial⟩ trivial ?_)
    refine RD 1 88 [(6, 0), (5, 0), (1, 0), (0, 0)] [(1, .ptr 0 0), (3, iA (lI x0.gVariations)), (12, .ptr 0 0), (13, sA x0.gKey), (14, bA v1), (15, bA (!v1)), (16, iA v2), (17, .ptr 0 1), (18, iA x0.gKind), (19, bA (decide (x0.gKind < 1))), (20, bA (decide (x0.gKind < 1))), (26, iA (lI x0.gVariations)), (27, bA (decide ((lI x0.gVariations) > 8))), (29, iA (lI x0.gVariations)), (30, bA ((lI x0.gVariations) == 0))] ?_
    cases c1 : (decide (x0.gKind < 1) : Bool) with
    | true =>
      refine RD 4 88 [(6, 0), (5, 0), (1, 0), (0, 0)] [(1, .ptr 0 0), (3, iA (lI x0.gVariations)), (12, .ptr 0 0), (13, sA x0.gKey), (14, bA v1), (15, bA (!v1)), (16, iA v2), (17, .ptr 0 1), (18, iA x0.gKind), (19, bA true), (20, bA true), (21, undefA), (22, undefA), (23, undefA), (24, bA (true || (decide (x0.gKind > 5)))), (26, iA (lI x0.gVariations)), (27, bA (decide ((lI x0.gVariations) > 8))), (29, iA (lI x0.gVariations)), (30, bA ((lI x0.gVariations) == 0))] ?_
      try rw [c1] at hv3
      refine AD_callp (d := (some 25)) (al := [bA (true || (decide (x0.gKind > 5))), iA 7]) (r := iA v3) (by kernel_rfl) (s_shape_when hv3) ⟨trivial, trivial, trivial⟩ trivial ?_
      refine AD_callp (d := (some 28)) (al := [bA (decide ((lI x0.gVariations) > 8)), iA 5]) (r := iA v4) (by kernel_rfl) (s_shape_when hv4) ⟨trivial, trivial, trivial⟩ trivial ?_
      refine AD_callp (d := (some 31)) (al := [bA ((lI x0.gVariations) == 0), iA 3]) (r := iA v5) (by kernel_rfl) (s_shape_when hv5) ⟨trivial, trivial, trivial⟩ trivial ?_
      refine AD_bsl (d := (some 32)) (m := 4) (cs := [iA v2, iA v3, iA v4, iA v5]) (by kernel_rfl) ⟨trivial, trivial, trivial, trivial, trivial⟩ ?_
      refine AD_callp (d := (some 33)) (al := [.ro .unk ([v2, v3, v4, v5]).length (cl_i64 ([v2, v3, v4, v5]))]) (r := iA v6) (by kernel_rfl) (s_shape_first hv6) ⟨(scl_cl_i64 _ _), trivial⟩ trivial ?_
      refine RD 1 88 [(6, 0), (5, 0), (1, 0), (0, 0)] [(1, .ptr 0 0), (3, iA (lI x0.gVariations)), (4, iA v6), (12, .ptr 0 0), (13, sA x0.gKey), (14, bA v1), (15, bA (!v1)), (16, iA v2), (17, .ptr 0 1), (18, iA x0.gKind), (19, bA true), (20, bA true), (21, undefA), (22, undefA), (23, undefA), (24, bA (true || (decide (x0.gKind > 5)))), (25, iA v3), (26, iA (lI x0.gVariations)), (27, bA (decide ((lI x0.gVariations) > 8))), (28, iA v4), (29, iA (lI x0.gVariations)), (30, bA ((lI x0.gVariations) == 0)), (31, iA v5), (32, .ro .unk ([v2, v3, v4, v5]).length (cl_i64 ([v2, v3, v4, v5]))), (33, iA v6)] ?_
      exact AD_here [1, 3, 4] (by kernel_rfl) rfl
    | false =>
      refine RD 4 88 [(10, 0), (9, 0), (6, 0), (5, 0), (1, 0), (0, 0)] [(1, .ptr 0 0), (3, iA (lI x0.gVariations)), (12, .ptr 0 0), (13, sA x0.gKey), (14, bA v1), (15, bA (!v1)), (16, iA v2), (17, .ptr 0 1), (18, iA x0.gKind), (19, bA false), (20, bA false), (21, .ptr 0 1), (22, iA x0.gKind), (23, bA (decide (x0.gKind > 5))), (24, bA (false || (decide (x0.gKind > 5)))), (26, iA (lI x0.gVariations)), (27, bA (decide ((lI x0.gVariations) > 8))), (29, iA (lI x0.gVariations)), (30, bA ((lI x0.gVariations) == 0))] ?_
      try rw [c1] at hv3
      refine AD_callp (d := (some 25)) (al := [bA (false || (decide (x0.gKind > 5))), iA 7]) (r := iA v3) (by kernel_rfl) (s_shape_when hv3) ⟨trivial, trivial, trivial⟩ trivial ?_
      refine AD_callp (d := (some 28)) (al := [bA (decide ((lI x0.gVariations) > 8)), iA 5]) (r := iA v4) (by kernel_rfl) (s_shape_when hv4) ⟨trivial, trivial, trivial⟩ trivial ?_
      refine AD_callp (d := (some 31)) (al := [bA ((lI x0.gVariations) == 0), iA 3]) (r := iA v5) (by kernel_rfl) (s_shape_when hv5) ⟨trivial, trivial, trivial⟩ trivial ?_
      refine AD_bsl (d := (some 32)) (m := 4) (cs := [iA v2, iA v3, iA v4, iA v5]) (by kernel_rfl) ⟨trivial, trivial, trivial, trivial, trivial⟩ ?_
      refine AD_callp (d := (some 33)) (al := [.ro .unk ([v2, v3, v4, v5]).length (cl_i64 ([v2, v3, v4, v5]))]) (r := iA v6) (by kernel_rfl) (s_shape_first hv6) ⟨(scl_cl_i64 _ _), trivial⟩ trivial ?_
      refine RD 1 88 [(10, 0), (9, 0), (6, 0), (5, 0), (1, 0), (0, 0)] [(1, .ptr 0 0), (3, iA (lI x0.gVariations)), (4, iA v6), (12, .ptr 0 0), (13, sA x0.gKey), (14, bA v1), (15, bA (!v1)), (16, iA v2), (17, .ptr 0 1), (18, iA x0.gKind), (19, bA false), (20, bA false), (21, .ptr 0 1), (22, iA x0.gKind), (23, bA (decide (x0.gKind > 5))), (24, bA (false || (decide (x0.gKind > 5)))), (25, iA v3), (26, iA (lI x0.gVariations)), (27, bA (decide ((lI x0.gVariations) > 8))), (28, iA v4), (29, iA (lI x0.gVariations)), (30, bA ((lI x0.gVariations) == 0)), (31, iA v5), (32, .ro .unk ([v2, v3, v4, v5]).length (cl_i64 ([v2, v3, v4, v5]))), (33, iA v6)] ?_
      exact AD_here [1, 3, 4] (by kernel_rfl) rfl
  refine AWP_reg (Rh 2 88 [(1, .ptr 0 0), (3, iA (lI x0.gVariations)), (4, iA v6), (35, bA (v6 != 0))] (AOps_done (CD H (fun hb7 H => ?_) (fun hb7 H => ?_))))
  · refine AWP_reg (Rh 2 88 [(2, iA v6)] (AOps_done ?_))
    exact AWP_ret (FR H)
  · refine AWP_skip ?_
    show AWP _ _ _ _ _ _ _
    refine AWP_seq (AWP_reg (Rh 4 88 [(1, .ptr 0 0), (3, iA (lI x0.gVariations)), (38, .ro .unk x0.gVariations.length (TValue.cl x0.gVariations)), (39, iA (lI x0.gVariations)), (40, iA 0)] (AOps_done (AWP_block ?_))))
    refine AWP_loopN (α := Int) (fun v21 => fr 88 [(1, .ptr 0 0), (3, iA (lI x0.gVariations)), (38, .ro .unk x0.gVariations.length (TValue.cl x0.gVariations)), (39, iA (lI x0.gVariations)), (40, iA v21)]) (fun v21 => [.cells 65 (TFlag.cs x0)]) (fun k_ v21 => k_ ≤ n ∧ p_shape_Flag_L1 k_ x0 v21 = some r) (fun n v21 H => ?_) (k := n) 0 ⟨Nat.le_refl _, H⟩ (Norm_fd [1, 3, 38, 39, 40] 0 (by kernel_rfl) rfl rfl ⟨(sc_TFlag_cs _ _), trivial⟩ (by refine scL_fr ?_; exact ⟨(sc_ptr rfl), trivial, (scl_TValue_cl _ _), trivial, trivial, trivial⟩))
    show AWP _ _ _ _ _ (fr 88 [(1, .ptr 0 0), (3, iA (lI x0.gVariations)), (38, .ro .unk x0.gVariations.length (TValue.cl x0.gVariations)), (39, iA (lI x0.gVariations)), (40, iA v21)]) [.cells 65 (TFlag.cs x0)]
    obtain ⟨hb_, H⟩ := H
    replace H : p_shape_Flag_L1 n x0 v21 = some r := H
    cases n with
    | zero => exact not_none (by simpa only [p_shape_Flag_L1] using H)
    | succ n =>
      unfold p_shape_Flag_L1 at H
      refine AWP_reg (Rh 1 88 [(1, .ptr 0 0), (3, iA (lI x0.gVariations)), (38, .ro .unk x0.gVariations.length (TValue.cl x0.gVariations)), (39, iA (lI x0.gVariations)), (40, iA v21), (41, bA (decide (v21 < (lI x0.gVariations))))] (AOps_done (AWP_seq (CD H (fun hb22 H => ?_) (fun hb22 H => ?_)))))
      · refine AWP_skip ?_
        show AWP _ _ _ _ _ _ _
        refine AWP_seq (AWP_block ?_)
        refine AWP_reg ?_
        obtain ⟨v23, hv23, H⟩ := bind_some H
        refine AOps_index (d := (some 42)) (sz := 4) (c := TValue.cs) (by kernel_rfl) rfl (eq_TValue_cl _) (fun _ => rfl) (by decide) hv23 (fun tl23 => ?_)
        refine R 3 88 [(1, .ptr 0 0), (3, iA (lI x0.gVariations)), (6, .ptr 1 0), (38, .ro .unk x0.gVariations.length (TValue.cl x0.gVariations)), (39, iA (lI x0.gVariations)), (40, iA v21)] [.cells 58 (TValue.cs v23), .cells 65 (TFlag.cs x0)] (AOps_done ?_)
        obtain ⟨v24, hv24, H⟩ := bind_some H
        obtain ⟨v25, hv25, H⟩ := bind_some H
        obtain ⟨v26, hv26, H⟩ := bind_some H
        refine AWP_regD1 [0, 2, 3, 4, 5, 6, 1, 7, 8, 9, 10] (N := 88) (f := [(1, .ptr 0 0), (3, iA (lI x0.gVariations)), (6, .ptr 1 0), (38, .ro .unk x0.gVariations.length (TValue.cl x0.gVariations)), (39, iA (lI x0.gVariations)), (40, iA v21)]) (leL_of [1, 3, 6, 38, 39, 40] (by kernel_rfl)) mixed (by kernel_rfl) (by kernel_rfl) (st' := fr 88 [(1, .ptr 0 0), (3, iA (lI x0.gVariations)), (7, iA v26), (38, .ro .unk x0.gVariations.length (TValue.cl x0.gVariations)), (39, iA (lI x0.gVariations)), (40, iA v21)]) (h' := [.cells 58 (TValue.cs v23), .cells 65 (TFlag.cs x0)]) ?_ ?_
        rotate_left
        · refine RD 6 88 [(5, 0), (4, 0), (3, 1), (2, 1), (0, 1)] [(1, .ptr 0 0), (3, iA (lI x0.gVariations)), (6, .ptr 1 0), (38, .ro .unk x0.gVariations.length (TValue.cl x0.gVariations)), (39, iA (lI x0.gVariations)), (40, iA v21), (44, .agg (TValue.cs v23)), (46, .ptr 1 0), (47, iA v23.gKind), (48, .ptr 0 1), (49, iA x0.gKind), (50, bA (v23.gKind != x0.gKind))] (AD_callp (d := (some 45)) (al := [.agg (TValue.cs v23)]) (r := iA v24) (by kernel_rfl) (s_value_Check hG hv24) ⟨(sc_TValue_cs _ _), trivial⟩ trivial ?_)
          refine AD_callp (d := (some 51)) (al := [bA (v23.gKind != x0.gKind), iA 8]) (r := iA v25) (by kernel_rfl) (s_shape_when hv25) ⟨trivial, trivial, trivial⟩ trivial ?_
          refine AD_bsl (d := (some 52)) (m := 2) (cs := [iA v24, iA v25]) (by kernel_rfl) ⟨trivial, trivial, trivial⟩ ?_
          refine AD_callp (d := (some 53)) (al := [.ro .unk ([v24, v25]).length (cl_i64 ([v24, v25]))]) (r := iA v26) (by kernel_rfl) (s_shape_first hv26) ⟨(scl_cl_i64 _ _), trivial⟩ trivial ?_
          refine RD 1 88 [(5, 0), (4, 0), (3, 1), (2, 1), (0, 1)] [(1, .ptr 0 0), (3, iA (lI x0.gVariations)), (6, .ptr 1 0), (7, iA v26), (38, .ro .unk x0.gVariations.length (TValue.cl x0.gVariations)), (39, iA (lI x0.gVariations)), (40, iA v21), (44, .agg (TValue.cs v23)), (45, iA v24), (46, .ptr 1 0), (47, iA v23.gKind), (48, .ptr 0 1), (49, iA x0.gKind), (50, bA (v23.gKind != x0.gKind)), (51, iA v25), (52, .ro .unk ([v24, v25]).length (cl_i64 ([v24, v25]))), (53, iA v26)] ?_
          exact AD_here [1, 3, 7, 38, 39, 40] (by kernel_rfl) rfl
        refine AWP_reg (Rh 2 88 [(1, .ptr 0 0), (3, iA (lI x0.gVariations)), (7, iA v26), (38, .ro .unk x0.gVariations.length (TValue.cl x0.gVariations)), (39, iA (lI x0.gVariations)), (40, iA v21), (55, bA (v26 != 0))] (AOps_done (CD H (fun hb27 H => ?_) (fun hb27 H => ?_))))
        · refine AWP_reg (Rh 2 88 [(2, iA v26)] (AOps_done ?_))
          exact AWP_ret (FR H)
        · refine AWP_skip ?_
          show AWP _ _ _ _ _ _ _
          refine AWP_region ?_
          refine Rh 2 88 [(1, .ptr 0 0), (3, iA (lI x0.gVariations)), (38, .ro .unk x0.gVariations.length (TValue.cl x0.gVariations)), (39, iA (lI x0.gVariations)), (40, iA (w64 (v21 + 1)))] (AOps_done ?_)
          exact Exists.intro (w64 (v21 + 1)) (Exists.intro n ⟨by omega, ⟨by omega, H⟩, Norm_fd [1, 3, 38, 39, 40] 1 (by kernel_rfl) rfl rfl ⟨(sc_TFlag_cs _ _), trivial⟩ (by refine scL_fr ?_; exact ⟨(sc_ptr rfl), trivial, (scl_TValue_cl _ _), trivial, trivial, trivial⟩)⟩)
      · refine AWP_exit ?_
        show AWP _ _ _ _ _ _ _
        refine AWP_seq ?_
        obtain ⟨v28, hv28, H⟩ := bind_some H
        obtain ⟨v29, hv29, H⟩ := bind_some H
        obtain ⟨v30, hv30, H⟩ := bind_some H
        obtain ⟨v31, hv31, H⟩ := bind_some H
        obtain ⟨v32, hv32, H⟩ := bind_some H
        refine AWP_regD1 [0, 1, 2, 3, 4, 5, 6, 7, 8, 10, 11, 13, 14, 15, 17, 18, 19, 9, 12, 16, 20, 21, 22, 23] (N := 88) (f := [(1, .ptr 0 0), (3, iA (lI x0.gVariations))]) (leL_of [1, 3] (by kernel_rfl)) mixed (by kernel_rfl) (by kernel_rfl) (st' := fr 88 [(1, .ptr 0 0), (3, iA (lI x0.gVariations)), (8, iA v32)]) (h' := [.cells 65 (TFlag.cs x0)]) ?_ ?_
        rotate_left
        · refine RD 4 88 [(1, 0), (0, 0)] [(1, .ptr 0 0), (3, iA (lI x0.gVariations)), (58, .ptr 0 4), (59, iA x0.gOff), (60, bA (decide (x0.gOff < 1))), (61, bA (decide (x0.gOff < 1)))] ?_
          cases c1 : (decide (x0.gOff < 1) : Bool) with
          | true =>
            refine RD 13 88 [(18, 0), (17, 0), (14, 0), (13, 0), (11, 0), (10, 0), (1, 0), (0, 0)] [(1, .ptr 0 0), (3, iA (lI x0.gVariations)), (58, .ptr 0 4), (59, iA x0.gOff), (60, bA true), (61, bA true), (62, undefA), (63, undefA), (64, undefA), (65, undefA), (66, bA (true || (decide (x0.gOff > (lI x0.gVariations))))), (68, .ptr 0 5), (69, .ro .unk x0.gPrerequisites.length (TPrerequisite.cl x0.gPrerequisites)), (71, .ptr 0 6), (72, .ro .unk x0.gTargets.length (TTarget.cl x0.gTargets)), (73, iA (lI x0.gVariations)), (75, .ptr 0 7), (76, .ro .unk x0.gRules.length (TRule.cl x0.gRules)), (77, iA (lI x0.gVariations))] ?_
            try rw [c1] at hv28
            refine AD_callp (d := (some 67)) (al := [bA (true || (decide (x0.gOff > (lI x0.gVariations)))), iA 3]) (r := iA v28) (by kernel_rfl) (s_shape_when hv28) ⟨trivial, trivial, trivial⟩ trivial ?_
            refine AD_callp (d := (some 70)) (al := [.ro .unk x0.gPrerequisites.length (TPrerequisite.cl x0.gPrerequisites)]) (r := iA v29) (by kernel_rfl) (s_shape_prerequisites hG hv29) ⟨(scl_TPrerequisite_cl _ _), trivial⟩ trivial ?_
            refine AD_callp (d := (some 74)) (al := [.ro .unk x0.gTargets.length (TTarget.cl x0.gTargets), iA (lI x0.gVariations)]) (r := iA v30) (by kernel_rfl) (s_shape_targets hG hv30) ⟨(scl_TTarget_cl _ _), trivial, trivial⟩ trivial ?_
            refine AD_callp (d := (some 78)) (al := [.ro .unk x0.gRules.length (TRule.cl x0.gRules), iA (lI x0.gVariations)]) (r := iA v31) (by kernel_rfl) (s_shape_rules hG hv31) ⟨(scl_TRule_cl _ _), trivial, trivial⟩ trivial ?_
            refine AD_bsl (d := (some 79)) (m := 4) (cs := [iA v28, iA v29, iA v30, iA v31]) (by kernel_rfl) ⟨trivial, trivial, trivial, trivial, trivial⟩ ?_
            refine AD_callp (d := (some 80)) (al := [.ro .unk ([v28, v29, v30, v31]).length (cl_i64 ([v28, v29, v30, v31]))]) (r := iA v32) (by kernel_rfl) (s_shape_first hv32) ⟨(scl_cl_i64 _ _), trivial⟩ trivial ?_
            refine RD 1 88 [(18, 0), (17, 0), (14, 0), (13, 0), (11, 0), (10, 0), (1, 0), (0, 0)] [(1, .ptr 0 0), (3, iA (lI x0.gVariations)), (8, iA v32), (58, .ptr 0 4), (59, iA x0.gOff), (60, bA true), (61, bA true), (62, undefA), (63, undefA), (64, undefA), (65, undefA), (66, bA (true || (decide (x0.gOff > (lI x0.gVariations))))), (67, iA v28), (68, .ptr 0 5), (69, .ro .unk x0.gPrerequisites.length (TPrerequisite.cl x0.gPrerequisites)), (70, iA v29), (71, .ptr 0 6), (72, .ro .unk x0.gTargets.length (TTarget.cl x0.gTargets)), (73, iA (lI x0.gVariations)), (74, iA v30), (75, .ptr 0 7), (76, .ro .unk x0.gRules.length (TRule.cl x0.gRules)), (77, iA (lI x0.gVariations)), (78, iA v31), (79, .ro .unk ([v28, v29, v30, v31]).length (cl_i64 ([v28, v29, v30, v31]))), (80, iA v32)] ?_
            exact AD_here [1, 3, 8] (by kernel_rfl) rfl
          | false =>
            refine RD 13 88 [(18, 0), (17, 0), (14, 0), (13, 0), (11, 0), (10, 0), (5, 0), (4, 0), (1, 0), (0, 0)] [(1, .ptr 0 0), (3, iA (lI x0.gVariations)), (58, .ptr 0 4), (59, iA x0.gOff), (60, bA false), (61, bA false), (62, .ptr 0 4), (63, iA x0.gOff), (64, iA (lI x0.gVariations)), (65, bA (decide (x0.gOff > (lI x0.gVariations)))), (66, bA (false || (decide (x0.gOff > (lI x0.gVariations))))), (68, .ptr 0 5), (69, .ro .unk x0.gPrerequisites.length (TPrerequisite.cl x0.gPrerequisites)), (71, .ptr 0 6), (72, .ro .unk x0.gTargets.length (TTarget.cl x0.gTargets)), (73, iA (lI x0.gVariations)), (75, .ptr 0 7), (76, .ro .unk x0.gRules.length (TRule.cl x0.gRules)), (77, iA (lI x0.gVariations))] ?_
            try rw [c1] at hv28
            refine AD_callp (d := (some 67)) (al := [bA (false || (decide (x0.gOff > (lI x0.gVariations)))), iA 3]) (r := iA v28) (by kernel_rfl) (s_shape_when hv28) ⟨trivial, trivial, trivial⟩ trivial ?_
            refine AD_callp (d := (some 70)) (al := [.ro .unk x0.gPrerequisites.length (TPrerequisite.cl x0.gPrerequisites)]) (r := iA v29) (by kernel_rfl) (s_shape_prerequisites hG hv29) ⟨(scl_TPrerequisite_cl _ _), trivial⟩ trivial ?_
            refine AD_callp (d := (some 74)) (al := [.ro .unk x0.gTargets.length (TTarget.cl x0.gTargets), iA (lI x0.gVariations)]) (r := iA v30) (by kernel_rfl) (s_shape_targets hG hv30) ⟨(scl_TTarget_cl _ _), trivial, trivial⟩ trivial ?_
            refine AD_callp (d := (some 78)) (al := [.ro .unk x0.gRules.length (TRule.cl x0.gRules), iA (lI x0.gVariations)]) (r := iA v31) (by kernel_rfl) (s_shape_rules hG hv31) ⟨(scl_TRule_cl _ _), trivial, trivial⟩ trivial ?_
            refine AD_bsl (d := (some 79)) (m := 4) (cs := [iA v28, iA v29, iA v30, iA v31]) (by kernel_rfl) ⟨trivial, trivial, trivial, trivial, trivial⟩ ?_
            refine AD_callp (d := (some 80)) (al := [.ro .unk ([v28, v29, v30, v31]).length (cl_i64 ([v28, v29, v30, v31]))]) (r := iA v32) (by kernel_rfl) (s_shape_first hv32) ⟨(scl_cl_i64 _ _), trivial⟩ trivial ?_
            refine RD 1 88 [(18, 0), (17, 0), (14, 0), (13, 0), (11, 0), (10, 0), (5, 0), (4, 0), (1, 0), (0, 0)] [(1, .ptr 0 0), (3, iA (lI x0.gVariations)), (8, iA v32), (58, .ptr 0 4), (59, iA x0.gOff), (60, bA false), (61, bA false), (62, .ptr 0 4), (63, iA x0.gOff), (64, iA (lI x0.gVariations)), (65, bA (decide (x0.gOff > (lI x0.gVariations)))), (66, bA (false || (decide (x0.gOff > (lI x0.gVariations))))), (67, iA v28), (68, .ptr 0 5), (69, .ro .unk x0.gPrerequisites.length (TPrerequisite.cl x0.gPrerequisites)), (70, iA v29), (71, .ptr 0 6), (72, .ro .unk x0.gTargets.length (TTarget.cl x0.gTargets)), (73, iA (lI x0.gVariations)), (74, iA v30), (75, .ptr 0 7), (76, .ro .unk x0.gRules.length (TRule.cl x0.gRules)), (77, iA (lI x0.gVariations)), (78, iA v31), (79, .ro .unk ([v28, v29, v30, v31]).length (cl_i64 ([v28, v29, v30, v31]))), (80, iA v32)] ?_
            exact AD_here [1, 3, 8] (by kernel_rfl) rfl
        refine AWP_reg (Rh 2 88 [(1, .ptr 0 0), (3, iA (lI x0.gVariations)), (8, iA v32), (82, bA (v32 != 0))] (AOps_done (CD H (fun hb33 H => ?_) (fun hb33 H => ?_))))
        · refine AWP_reg (Rh 2 88 [(2, iA v32)] (AOps_done ?_))
          exact AWP_ret (FR H)
        · refine AWP_skip ?_
          show AWP _ _ _ _ _ _ _
          refine AWP_reg (Rh 3 88 [(85, .agg (TServe.cs x0.gDefault)), (86, iA (lI x0.gVariations))] ?_)
          obtain ⟨v34, hv34, H⟩ := bind_some H
          refine AOps_callp (d := (some 87)) (al := [.agg (TServe.cs x0.gDefault), iA (lI x0.gVariations)]) (r := iA v34) (by kernel_rfl) (s_shape_Serve hG hv34) ⟨(sc_TServe_cs _ _), trivial, trivial⟩ trivial ?_
          refine Rh 1 88 [(2, iA v34)] (AOps_done ?_)
          exact AWP_ret (FR H)
theorem s_ref6_Split {n : Nat} {x0 : List TRange} {x1 : Int} {r : Int} (H : p_ref6_Split n x0 x1 = some r) :
    Sp Tryz.prog E 24 [.ro .unk x0.length (TRange.cl x0), iA x1] [] (isA (iA r) []) := by
  unfold p_ref6_Split at H
  refine Sp_fn Tryz.func24 rfl (fun hc hs => ?_)
  refine AWP_reg (Rh 1 72 [(0, .ro .unk x0.length (TRange.cl x0)), (1, iA x1)] (AOps_done (AWP_seq (AWP_reg (Rh 3 72 [(0, .ro .unk x0.length (TRange.cl x0)), (1, iA x1), (9, bA (decide ((lI x0) > 16)))] (AOps_done (CD H (fun hb1 H => ?_) (fun hb1 H => ?_))))))))
  · refine AWP_reg (Rh 1 72 [(4, iA 5)] (AOps_done ?_))
    exact AWP_ret (FR H)
  · refine AWP_skip ?_
    show AWP _ _ _ _ _ _ _
    refine AWP_reg (Rh 1 72 [(0, .ro .unk x0.length (TRange.cl x0)), (1, iA x1), (5, iA 0)] (AOps_done (AWP_seq (AWP_reg (Rh 1 72 [(0, .ro .unk x0.length (TRange.cl x0)), (1, iA x1), (5, iA 0), (6, iA 0)] (AOps_done (AWP_block ?_)))))))
    refine AWP_loopN (α := Int × Int) (fun ⟨v24, v25⟩ => fr 72 [(0, .ro .unk x0.length (TRange.cl x0)), (1, iA x1), (5, iA v24), (6, iA v25)]) (fun ⟨v24, v25⟩ => []) (fun k_ ⟨v24, v25⟩ => k_ ≤ n ∧ p_ref6_Split_L1 k_ x0 x1 v24 v25 = some r) (fun n a H => ?_) (k := n) (0, 0) ⟨Nat.le_refl _, H⟩ (Norm_fd [0, 1, 5, 6] 0 (by kernel_rfl) rfl rfl trivial (by refine scL_fr ?_; exact ⟨(scl_TRange_cl _ _), trivial, trivial, trivial, trivial⟩))
    obtain ⟨v24, v25⟩ := a
    show AWP _ _ _ _ _ (fr 72 [(0, .ro .unk x0.length (TRange.cl x0)), (1, iA x1), (5, iA v24), (6, iA v25)]) []
    obtain ⟨hb_, H⟩ := H
    replace H : p_ref6_Split_L1 n x0 x1 v24 v25 = some r := H
    cases n with
    | zero => exact not_none (by simpa only [p_ref6_Split_L1] using H)
    | succ n =>
      unfold p_ref6_Split_L1 at H
      refine AWP_seq (AWP_reg (Rh 4 72 [(0, .ro .unk x0.length (TRange.cl x0)), (1, iA x1), (5, iA v24), (6, iA v25), (13, bA (decide (v25 < (lI x0))))] (AOps_done (CD H (fun hb26 H => ?_) (fun hb26 H => ?_)))))
      · refine AWP_skip ?_
        show AWP _ _ _ _ _ _ _
        refine AWP_seq (AWP_block ?_)
        refine AWP_seq (AWP_reg (Rh 2 72 [(0, .ro .unk x0.length (TRange.cl x0)), (1, iA x1), (5, iA v24), (6, iA v25), (16, .ro .unk x0.length (TRange.cl x0)), (17, iA v25)] ?_))
        obtain ⟨v27, hv27, H⟩ := bind_some H
        refine AOps_index (d := (some 18)) (sz := 3) (c := TRange.cs) (by kernel_rfl) rfl (eq_TRange_cl _) (fun _ => rfl) (by decide) hv27 (fun tl27 => ?_)
        refine Rh 4 72 [(0, .ro .unk x0.length (TRange.cl x0)), (1, iA x1), (5, iA v24), (6, iA v25), (22, bA (decide (v27.gVariation < 1)))] ?_
        obtain ⟨v28, hv28, H⟩ := bind_some H
        refine AOps_cut 8 (st' := fr 72 [(0, .ro .unk x0.length (TRange.cl x0)), (1, iA x1), (5, iA v24), (6, iA v25), (30, bA ((decide (v27.gVariation < 1)) || (decide (v28.gVariation > x1))))]) (h' := []) ?_ ?_
        rotate_left
        · cases c1 : (decide (v27.gVariation < 1) : Bool) with
          | true =>
            refine R 8 72 [(0, .ro .unk x0.length (TRange.cl x0)), (1, iA x1), (5, iA v24), (6, iA v25), (30, bA (true || (decide (v28.gVariation > x1))))] [] ?_
            exact AOps_here [0, 1, 5, 6, 30] (by kernel_rfl) rfl
          | false =>
            refine R 2 72 [(0, .ro .unk x0.length (TRange.cl x0)), (1, iA x1), (5, iA v24), (6, iA v25), (22, bA false), (23, .ro .unk x0.length (TRange.cl x0)), (24, iA v25)] [] ?_
            have hv28_ := cond_t hv28 (by simp only [c1] <;> rfl)
            refine AOps_index (d := (some 25)) (sz := 3) (c := TRange.cs) (by kernel_rfl) rfl (eq_TRange_cl _) (fun _ => rfl) (by decide) hv28_ (fun tl28 => ?_)
            refine R 5 72 [(0, .ro .unk x0.length (TRange.cl x0)), (1, iA x1), (5, iA v24), (6, iA v25), (30, bA (false || (decide (v28.gVariation > x1))))] [] ?_
            exact AOps_here [0, 1, 5, 6, 30] (by kernel_rfl) rfl
        refine AOps_done (CD H (fun hb29 H => ?_) (fun hb29 H => ?_))
        · refine AWP_reg (Rh 1 72 [(4, iA 3)] (AOps_done ?_))
          exact AWP_ret (FR H)
        · refine AWP_skip ?_
          show AWP _ _ _ _ _ _ _
          refine AWP_seq ?_
          obtain ⟨v30, hv30, H⟩ := bind_some H
          obtain ⟨v31, hv31, H⟩ := bind_some H
          obtain ⟨v32, hv32, H⟩ := bind_some H
          obtain ⟨v33, hv33, H⟩ := bind_some H
          refine AWP_regD1 [0, 1, 2, 3, 4, 5, 6, 7, 8, 9, 10, 11, 12, 13, 14, 15, 16, 17, 18, 19, 20, 21, 22, 23, 24, 25, 26, 27, 28, 29, 30, 31, 32, 33] (N := 72) (f := [(0, .ro .unk x0.length (TRange.cl x0)), (1, iA x1), (5, iA v24), (6, iA v25)]) (leL_of [0, 1, 5, 6] (by kernel_rfl)) mixed (by kernel_rfl) (by kernel_rfl) (st' := fr 72 [(0, .ro .unk x0.length (TRange.cl x0)), (1, iA x1), (6, iA v25), (64, bA (((v30.gFrom != v24) || (decide (v31.gTo ≤ v24))) || ((decide (v25 > 0)) && (v32.gVariation == v33.gVariation))))]) (h' := []) ?_ ?_
          rotate_left
          · refine RD 2 72 [] [(0, .ro .unk x0.length (TRange.cl x0)), (1, iA x1), (5, iA v24), (6, iA v25), (31, .ro .unk x0.length (TRange.cl x0)), (32, iA v25)] (AD_index (d := (some 33)) (sz := 3) (c := TRange.cs) (by kernel_rfl) rfl (eq_TRange_cl _) (fun _ => rfl) (by decide) hv30 (fun tl30 => ?_))
            refine RD 5 72 [] [(0, .ro .unk x0.length (TRange.cl x0)), (1, iA x1), (5, iA v24), (6, iA v25), (31, .ro .unk x0.length (TRange.cl x0)), (32, iA v25), (33, .rop ([iA v30.gFrom, iA v30.gTo, iA v30.gVariation] ++ tl30)), (34, .rop ([iA v30.gFrom, iA v30.gTo, iA v30.gVariation] ++ tl30)), (35, iA v30.gFrom), (36, iA v24), (37, bA (v30.gFrom != v24)), (38, bA (v30.gFrom != v24))] ?_
            cases c1 : (v30.gFrom != v24 : Bool) with
            | true =>
              refine RD 26 72 [] [(0, .ro .unk x0.length (TRange.cl x0)), (1, iA x1), (5, iA v24), (6, iA v25), (31, .ro .unk x0.length (TRange.cl x0)), (32, iA v25), (33, .rop ([iA v30.gFrom, iA v30.gTo, iA v30.gVariation] ++ tl30)), (34, .rop ([iA v30.gFrom, iA v30.gTo, iA v30.gVariation] ++ tl30)), (35, iA v30.gFrom), (36, iA v24), (37, bA true), (38, bA true), (39, undefA), (40, undefA), (41, undefA), (42, undefA), (43, undefA), (44, undefA), (45, undefA), (46, bA (true || (decide (v31.gTo ≤ v24)))), (47, bA (true || (decide (v31.gTo ≤ v24)))), (48, undefA), (49, undefA), (50, undefA), (51, undefA), (52, undefA), (53, undefA), (54, undefA), (55, undefA), (56, undefA), (57, undefA), (58, undefA), (59, undefA), (60, undefA), (61, undefA), (62, undefA), (63, undefA), (64, bA ((true || (decide (v31.gTo ≤ v24))) || ((decide (v25 > 0)) && (v32.gVariation == v33.gVariation))))] ?_
              exact AD_here [0, 1, 6, 64] (by kernel_rfl) rfl
            | false =>
              refine RD 2 72 [] [(0, .ro .unk x0.length (TRange.cl x0)), (1, iA x1), (5, iA v24), (6, iA v25), (31, .ro .unk x0.length (TRange.cl x0)), (32, iA v25), (33, .rop ([iA v30.gFrom, iA v30.gTo, iA v30.gVariation] ++ tl30)), (34, .rop ([iA v30.gFrom, iA v30.gTo, iA v30.gVariation] ++ tl30)), (35, iA v30.gFrom), (36, iA v24), (37, bA false), (38, bA false), (39, .ro .unk x0.length (TRange.cl x0)), (40, iA v25)] ?_
              have hv31_ := cond_t hv31 (by simp only [c1] <;> rfl)
              refine AD_index (d := (some 41)) (sz := 3) (c := TRange.cs) (by kernel_rfl) rfl (eq_TRange_cl _) (fun _ => rfl) (by decide) hv31_ (fun tl31 => ?_)
              refine RD 6 72 [] [(0, .ro .unk x0.length (TRange.cl x0)), (1, iA x1), (5, iA v24), (6, iA v25), (31, .ro .unk x0.length (TRange.cl x0)), (32, iA v25), (33, .rop ([iA v30.gFrom, iA v30.gTo, iA v30.gVariation] ++ tl30)), (34, .rop ([iA v30.gFrom, iA v30.gTo, iA v30.gVariation] ++ tl30)), (35, iA v30.gFrom), (36, iA v24), (37, bA false), (38, bA false), (39, .ro .unk x0.length (TRange.cl x0)), (40, iA v25), (41, .rop ([iA v31.gFrom, iA v31.gTo, iA v31.gVariation] ++ tl31)), (42, .rop ([iA v31.gTo, iA v31.gVariation] ++ tl31)), (43, iA v31.gTo), (44, iA v24), (45, bA (decide (v31.gTo ≤ v24))), (46, bA (false || (decide (v31.gTo ≤ v24)))), (47, bA (false || (decide (v31.gTo ≤ v24))))] ?_
              cases c2 : (decide (v31.gTo ≤ v24) : Bool) with
              | true =>
                refine RD 17 72 [] [(0, .ro .unk x0.length (TRange.cl x0)), (1, iA x1), (5, iA v24), (6, iA v25), (31, .ro .unk x0.length (TRange.cl x0)), (32, iA v25), (33, .rop ([iA v30.gFrom, iA v30.gTo, iA v30.gVariation] ++ tl30)), (34, .rop ([iA v30.gFrom, iA v30.gTo, iA v30.gVariation] ++ tl30)), (35, iA v30.gFrom), (36, iA v24), (37, bA false), (38, bA false), (39, .ro .unk x0.length (TRange.cl x0)), (40, iA v25), (41, .rop ([iA v31.gFrom, iA v31.gTo, iA v31.gVariation] ++ tl31)), (42, .rop ([iA v31.gTo, iA v31.gVariation] ++ tl31)), (43, iA v31.gTo), (44, iA v24), (45, bA true), (46, bA (false || true)), (47, bA (false || true)), (48, undefA), (49, undefA), (50, undefA), (51, undefA), (52, undefA), (53, undefA), (54, undefA), (55, undefA), (56, undefA), (57, undefA), (58, undefA), (59, undefA), (60, undefA), (61, undefA), (62, undefA), (63, undefA), (64, bA ((false || true) || ((decide (v25 > 0)) && (v32.gVariation == v33.gVariation))))] ?_
                exact AD_here [0, 1, 6, 64] (by kernel_rfl) rfl
              | false =>
                refine RD 3 72 [] [(0, .ro .unk x0.length (TRange.cl x0)), (1, iA x1), (5, iA v24), (6, iA v25), (31, .ro .unk x0.length (TRange.cl x0)), (32, iA v25), (33, .rop ([iA v30.gFrom, iA v30.gTo, iA v30.gVariation] ++ tl30)), (34, .rop ([iA v30.gFrom, iA v30.gTo, iA v30.gVariation] ++ tl30)), (35, iA v30.gFrom), (36, iA v24), (37, bA false), (38, bA false), (39, .ro .unk x0.length (TRange.cl x0)), (40, iA v25), (41, .rop ([iA v31.gFrom, iA v31.gTo, iA v31.gVariation] ++ tl31)), (42, .rop ([iA v31.gTo, iA v31.gVariation] ++ tl31)), (43, iA v31.gTo), (44, iA v24), (45, bA false), (46, bA (false || false)), (47, bA (false || false)), (48, iA v25), (49, bA (decide (v25 > 0))), (50, bA (decide (v25 > 0)))] ?_
                cases c3 : (decide (v25 > 0) : Bool) with
                | true =>
                  refine RD 2 72 [] [(0, .ro .unk x0.length (TRange.cl x0)), (1, iA x1), (5, iA v24), (6, iA v25), (31, .ro .unk x0.length (TRange.cl x0)), (32, iA v25), (33, .rop ([iA v30.gFrom, iA v30.gTo, iA v30.gVariation] ++ tl30)), (34, .rop ([iA v30.gFrom, iA v30.gTo, iA v30.gVariation] ++ tl30)), (35, iA v30.gFrom), (36, iA v24), (37, bA false), (38, bA false), (39, .ro .unk x0.length (TRange.cl x0)), (40, iA v25), (41, .rop ([iA v31.gFrom, iA v31.gTo, iA v31.gVariation] ++ tl31)), (42, .rop ([iA v31.gTo, iA v31.gVariation] ++ tl31)), (43, iA v31.gTo), (44, iA v24), (45, bA false), (46, bA (false || false)), (47, bA (false || false)), (48, iA v25), (49, bA true), (50, bA true), (51, .ro .unk x0.length (TRange.cl x0)), (52, iA v25)] ?_
                  have hv32_ := cond_t hv32 (by simp only [c1, c2, c3] <;> rfl)
                  refine AD_index (d := (some 53)) (sz := 3) (c := TRange.cs) (by kernel_rfl) rfl (eq_TRange_cl _) (fun _ => rfl) (by decide) hv32_ (fun tl32 => ?_)
                  refine RD 5 72 [] [(0, .ro .unk x0.length (TRange.cl x0)), (1, iA x1), (5, iA v24), (6, iA v25), (31, .ro .unk x0.length (TRange.cl x0)), (32, iA v25), (33, .rop ([iA v30.gFrom, iA v30.gTo, iA v30.gVariation] ++ tl30)), (34, .rop ([iA v30.gFrom, iA v30.gTo, iA v30.gVariation] ++ tl30)), (35, iA v30.gFrom), (36, iA v24), (37, bA false), (38, bA false), (39, .ro .unk x0.length (TRange.cl x0)), (40, iA v25), (41, .rop ([iA v31.gFrom, iA v31.gTo, iA v31.gVariation] ++ tl31)), (42, .rop ([iA v31.gTo, iA v31.gVariation] ++ tl31)), (43, iA v31.gTo), (44, iA v24), (45, bA false), (46, bA (false || false)), (47, bA (false || false)), (48, iA v25), (49, bA true), (50, bA true), (51, .ro .unk x0.length (TRange.cl x0)), (52, iA v25), (53, .rop ([iA v32.gFrom, iA v32.gTo, iA v32.gVariation] ++ tl32)), (54, .rop ([iA v32.gVariation] ++ tl32)), (55, iA v32.gVariation), (56, .ro .unk x0.length (TRange.cl x0)), (57, iA v25), (58, iA (w64 (v25 - 1)))] ?_
                  have hv33_ := cond_t hv33 (by simp only [c1, c2, c3] <;> rfl)
                  refine AD_index (d := (some 59)) (sz := 3) (c := TRange.cs) (by kernel_rfl) rfl (eq_TRange_cl _) (fun _ => rfl) (by decide) hv33_ (fun tl33 => ?_)
                  refine RD 5 72 [] [(0, .ro .unk x0.length (TRange.cl x0)), (1, iA x1), (5, iA v24), (6, iA v25), (31, .ro .unk x0.length (TRange.cl x0)), (32, iA v25), (33, .rop ([iA v30.gFrom, iA v30.gTo, iA v30.gVariation] ++ tl30)), (34, .rop ([iA v30.gFrom, iA v30.gTo, iA v30.gVariation] ++ tl30)), (35, iA v30.gFrom), (36, iA v24), (37, bA false), (38, bA false), (39, .ro .unk x0.length (TRange.cl x0)), (40, iA v25), (41, .rop ([iA v31.gFrom, iA v31.gTo, iA v31.gVariation] ++ tl31)), (42, .rop ([iA v31.gTo, iA v31.gVariation] ++ tl31)), (43, iA v31.gTo), (44, iA v24), (45, bA false), (46, bA (false || false)), (47, bA (false || false)), (48, iA v25), (49, bA true), (50, bA true), (51, .ro .unk x0.length (TRange.cl x0)), (52, iA v25), (53, .rop ([iA v32.gFrom, iA v32.gTo, iA v32.gVariation] ++ tl32)), (54, .rop ([iA v32.gVariation] ++ tl32)), (55, iA v32.gVariation), (56, .ro .unk x0.length (TRange.cl x0)), (57, iA v25), (58, iA (w64 (v25 - 1))), (59, .rop ([iA v33.gFrom, iA v33.gTo, iA v33.gVariation] ++ tl33)), (60, .rop ([iA v33.gVariation] ++ tl33)), (61, iA v33.gVariation), (62, bA (v32.gVariation == v33.gVariation)), (63, bA (true && (v32.gVariation == v33.gVariation))), (64, bA ((false || false) || (true && (v32.gVariation == v33.gVariation))))] ?_
                  exact AD_here [0, 1, 6, 64] (by kernel_rfl) rfl
                | false =>
                  refine RD 14 72 [] [(0, .ro .unk x0.length (TRange.cl x0)), (1, iA x1), (5, iA v24), (6, iA v25), (31, .ro .unk x0.length (TRange.cl x0)), (32, iA v25), (33, .rop ([iA v30.gFrom, iA v30.gTo, iA v30.gVariation] ++ tl30)), (34, .rop ([iA v30.gFrom, iA v30.gTo, iA v30.gVariation] ++ tl30)), (35, iA v30.gFrom), (36, iA v24), (37, bA false), (38, bA false), (39, .ro .unk x0.length (TRange.cl x0)), (40, iA v25), (41, .rop ([iA v31.gFrom, iA v31.gTo, iA v31.gVariation] ++ tl31)), (42, .rop ([iA v31.gTo, iA v31.gVariation] ++ tl31)), (43, iA v31.gTo), (44, iA v24), (45, bA false), (46, bA (false || false)), (47, bA (false || false)), (48, iA v25), (49, bA false), (50, bA false), (51, undefA), (52, undefA), (53, undefA), (54, undefA), (55, undefA), (56, undefA), (57, undefA), (58, undefA), (59, undefA), (60, undefA), (61, undefA), (62, undefA), (63, bA (false && (v32.gVariation == v33.gVariation))), (64, bA ((false || false) || (false && (v32.gVariation == v33.gVariation))))] ?_
                  exact AD_here [0, 1, 6, 64] (by kernel_rfl) rfl
          refine CD H (fun hb34 H => ?_) (fun hb34 H => ?_)
          · refine AWP_reg (Rh 1 72 [(4, iA 9)] (AOps_done ?_))
            exact AWP_ret (FR H)
          · refine AWP_skip ?_
            show AWP _ _ _ _ _ _ _
            refine AWP_region ?_
            refine Rh 2 72 [(0, .ro .unk x0.length (TRange.cl x0)), (1, iA x1), (6, iA v25), (65, .ro .unk x0.length (TRange.cl x0)), (66, iA v25)] ?_
            obtain ⟨v35, hv35, H⟩ := bind_some H
            refine AOps_index (d := (some 67)) (sz := 3) (c := TRange.cs) (by kernel_rfl) rfl (eq_TRange_cl _) (fun _ => rfl) (by decide) hv35 (fun tl35 => ?_)
            refine Rh 3 72 [(0, .ro .unk x0.length (TRange.cl x0)), (1, iA x1), (5, iA v35.gTo), (6, iA v25)] (AOps_done ?_)
            show AWP _ _ _ _ _ _ _
            refine AWP_region ?_
            refine Rh 3 72 [(0, .ro .unk x0.length (TRange.cl x0)), (1, iA x1), (5, iA v35.gTo), (6, iA (w64 (v25 + 1)))] (AOps_done ?_)
            exact Exists.intro (v35.gTo, w64 (v25 + 1)) (Exists.intro n ⟨by omega, ⟨by omega, H⟩, Norm_fd [0, 1, 5, 6] 0 (by kernel_rfl) rfl rfl trivial (by refine scL_fr ?_; exact ⟨(scl_TRange_cl _ _), trivial, trivial, trivial, trivial⟩)⟩)
      · refine AWP_exit ?_
        show AWP _ _ _ _ _ _ _
        refine AWP_seq (AWP_reg (Rh 2 72 [(71, bA (v24 != 10000))] (AOps_done (CD H (fun hb36 H => ?_) (fun hb36 H => ?_)))))
        · refine AWP_reg (Rh 1 72 [(4, iA 3)] (AOps_done ?_))
          exact AWP_ret (FR H)
        · refine AWP_skip ?_
          show AWP _ _ _ _ _ _ _
          refine AWP_reg (Rh 1 72 [(4, iA 0)] (AOps_done ?_))
          exact AWP_ret (FR H)
end Go.Proofs.YtjhbobacbaikoaaGreatDoor
