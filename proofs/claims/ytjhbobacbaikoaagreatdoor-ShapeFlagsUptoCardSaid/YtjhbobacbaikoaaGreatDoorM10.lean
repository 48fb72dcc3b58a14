/- Functions of the program as pure functions, and that the program computes these. -/
import Derived.Test.YtjhbobacbaikoaaGreatDoorM3
import Derived.Test.YtjhbobacbaikoaaGreatDoorM4
import Derived.Test.YtjhbobacbaikoaaGreatDoorM6
import Derived.Test.YtjhbobacbaikoaaGreatDoorM7
import Derived.Test.YtjhbobacbaikoaaGreatDoorM8
import Derived.Test.YtjhbobacbaikoaaGreatDoorM9
import Derived.Test.YtjhbobacbaikoaaGreatDoorM5
namespace Go.Proofs.YtjhbobacbaikoaaGreatDoor
open Go
set_option linter.unusedVariables false
set_option linter.unusedSimpArgs false
set_option maxRecDepth 100000
def p_ref6_Experiment (n : Nat) (x0 : TExperiment) : Option Int :=
(p_ref1_Key n x0.gKey).bind fun v1 =>
(bif !(!v1) then p_ref1_Key n x0.gLayer else some (false)).bind fun v2 =>
(bif !((!v1) || (!v2)) then p_ref1_Key n x0.gFlag else some (false)).bind fun v3 =>
(bif ((!v1) || (!v2)) || (!v3) then
 some (6)
 else
(p_ref1_Valid n x0.gSalt).bind fun v5 =>
(bif !v5 then
 some (2)
 else
(bif (decide (x0.gStatus < 1)) || (decide (x0.gStatus > 3)) then
 some (7)
 else
(p_ref6_Spans n x0.gClaims).bind fun v8 =>
(bif v8 != 0 then
 some (v8)
 else
(p_ref6_Split n x0.gArms 8).bind fun v10 =>
(bif v10 != 0 then
 some (v10)
 else
(p_ref6_Expr n x0.gWhen).bind fun v12 =>
 some (v12))))))
def p_cmp_Or_int_L1 (n : Nat) (x0 : List Int) (v8 : Int) : Option Int := match n with
| 0 => none
| n + 1 =>
(bif decide (v8 < (lI x0)) then
(rdO x0 v8).bind fun v10 =>
(bif v10 != 0 then
 some (v10)
 else
 p_cmp_Or_int_L1 n x0 (w64 (v8 + 1)))
 else
 some (0))
def p_cmp_Or_int (n : Nat) (x0 : List Int) : Option Int :=
 p_cmp_Or_int_L1 n x0 0
def p_shape_attributes_L1 (n : Nat) (x0 : List TDeclared) (v26 : Int) : Option Int := match n with
| 0 => none
| n + 1 =>
(bif decide (v26 < (lI x0)) then
(rdO x0 v26).bind fun v28 =>
(p_text_Key n v28.gKind).bind fun v29 =>
(bif !(!v29) then p_text_Key n v28.gName else some (false)).bind fun v30 =>
(bif ((!v29) || (!v30)) || (seq' v28.gName (⟨#[107, 101, 121]⟩ : ByteArray)) then
 some (6)
 else
(bif (decide (v28.gType < 1)) || (decide (v28.gType > 5)) then
 some (7)
 else
(bif decide (v26 > 0) then rdO x0 (w64 (v26 - 1)) else some ({ gKind := ByteArray.empty, gName := ByteArray.empty, gType := 0 } : TDeclared)).bind fun v33 =>
(bif decide (v26 > 0) then rdO x0 (w64 (v26 - 1)) else some ({ gKind := ByteArray.empty, gName := ByteArray.empty, gType := 0 } : TDeclared)).bind fun v34 =>
(bif decide (v26 > 0) then p_strings_Compare n v33.gKind v28.gKind else some (0)).bind fun v35 =>
(bif decide (v26 > 0) then p_strings_Compare n v34.gName v28.gName else some (0)).bind fun v36 =>
(bif decide (v26 > 0) then p_cmp_Or_int n ([v35, v36]) else some (0)).bind fun v37 =>
(bif (decide (v26 > 0)) && (decide (v37 ≥ 0)) then
 some (9)
 else
 p_shape_attributes_L1 n x0 (w64 (v26 + 1)))))
 else
 some (0))
def p_shape_attributes (n : Nat) (x0 : List TDeclared) : Option Int :=
(bif decide ((lI x0) > 30) then
 some (5)
 else
 p_shape_attributes_L1 n x0 0)
def p_shape_Environment_1 (n : Nat) (x0 : TSegment) : Option ByteArray :=
 some (x0.gKey)
def p_shape_list_api_Segment_L1 (n : Nat) (x0 : List TSegment) (v18 : Int) : Option Int := match n with
| 0 => none
| n + 1 =>
(bif decide (v18 < (lI x0)) then
(rdO x0 v18).bind fun v20 =>
(p_shape_Segment n v20).bind fun v21 =>
(bif v21 != 0 then
 some (v21)
 else
(bif decide (v18 > 0) then rdO x0 (w64 (v18 - 1)) else some ({ gKey := ByteArray.empty, gKind := ByteArray.empty, gInclude := [], gExclude := [], gWhen := (TExpr.mk 0 ByteArray.empty ByteArray.empty ([]) ([])) } : TSegment)).bind fun v23 =>
(bif decide (v18 > 0) then p_shape_Environment_1 n v20 else some (ByteArray.empty)).bind fun v24 =>
(bif decide (v18 > 0) then p_shape_Environment_1 n v23 else some (ByteArray.empty)).bind fun v25 =>
(bif (decide (v18 > 0)) && (sle' v24 v25) then
 some (9)
 else
 p_shape_list_api_Segment_L1 n x0 (w64 (v18 + 1))))
 else
 some (0))
def p_shape_list_api_Segment (n : Nat) (x0 : List TSegment) (x1 : Int) : Option Int :=
(bif decide ((lI x0) > x1) then
 some (5)
 else
 p_shape_list_api_Segment_L1 n x0 0)
def p_shape_Environment_2 (n : Nat) (x0 : TFlag) : Option ByteArray :=
 some (x0.gKey)
def p_shape_list_api_Flag_L1 (n : Nat) (x0 : List TFlag) (v18 : Int) : Option Int := match n with
| 0 => none
| n + 1 =>
(bif decide (v18 < (lI x0)) then
(rdO x0 v18).bind fun v20 =>
(p_shape_Flag n v20).bind fun v21 =>
(bif v21 != 0 then
 some (v21)
 else
(bif decide (v18 > 0) then rdO x0 (w64 (v18 - 1)) else some ({ gKey := ByteArray.empty, gKind := 0, gVariations := [], gOn := false, gOff := 0, gPrerequisites := [], gTargets := [], gRules := [], gDefault := ({ gVariation := 0, gKind := ByteArray.empty, gBy := ByteArray.empty, gSalt := ByteArray.empty, gSplit := [] } : TServe) } : TFlag)).bind fun v23 =>
(bif decide (v18 > 0) then p_shape_Environment_2 n v20 else some (ByteArray.empty)).bind fun v24 =>
(bif decide (v18 > 0) then p_shape_Environment_2 n v23 else some (ByteArray.empty)).bind fun v25 =>
(bif (decide (v18 > 0)) && (sle' v24 v25) then
 some (9)
 else
 p_shape_list_api_Flag_L1 n x0 (w64 (v18 + 1))))
 else
 some (0))
def p_shape_list_api_Flag (n : Nat) (x0 : List TFlag) (x1 : Int) : Option Int :=
(bif decide ((lI x0) > x1) then
 some (5)
 else
 p_shape_list_api_Flag_L1 n x0 0)
def p_shape_Environment_3 (n : Nat) (x0 : TLayer) : Option ByteArray :=
 some (x0.gKey)
variable {E : Env}
theorem s_ref6_Experiment {n : Nat} (hG : GlobT E) {x0 : TExperiment} {r : Int} (H : p_ref6_Experiment n x0 = some r) :
    Sp Tryz.prog E 41 [.agg (TExperiment.cs x0)] [] (isA (iA r) []) := by
  unfold p_ref6_Experiment at H
  refine Sp_fn Tryz.func41 rfl (fun hc hs => ?_)
  refine AWP_reg (R 2 48 [(1, .ptr 0 0)] [.cells 42 (TExperiment.cs x0)] (AOps_done (AWP_seq (AWP_reg (Rh 2 48 [(1, .ptr 0 0), (6, sA x0.gKey)] ?_)))))
  obtain ⟨v1, hv1, H⟩ := bind_some H
  refine AOps_callp (d := (some 7)) (al := [sA x0.gKey]) (r := bA v1) (by kernel_rfl) (s_ref1_Key hv1) ⟨trivial, trivial⟩ trivial ?_
  refine Rh 2 48 [(1, .ptr 0 0), (9, bA (!v1))] ?_
  obtain ⟨v2, hv2, H⟩ := bind_some H
  refine AOps_cut 5 (st' := fr 48 [(1, .ptr 0 0), (14, bA ((!v1) || (!v2)))]) (h' := [.cells 42 (TExperiment.cs x0)]) ?_ ?_
  rotate_left
  · cases c1 : (v1 : Bool) with
    | true =>
      refine R 2 48 [(1, .ptr 0 0), (9, bA (!true)), (11, sA x0.gLayer)] [.cells 42 (TExperiment.cs x0)] ?_
      have hv2_ := cond_t hv2 (by simp only [c1] <;> rfl)
      refine AOps_callp (d := (some 12)) (al := [sA x0.gLayer]) (r := bA v2) (by kernel_rfl) (s_ref1_Key hv2_) ⟨trivial, trivial⟩ trivial ?_
      refine R 2 48 [(1, .ptr 0 0), (14, bA ((!true) || (!v2)))] [.cells 42 (TExperiment.cs x0)] ?_
      exact AOps_here [1, 14] (by kernel_rfl) rfl
    | false =>
      refine R 5 48 [(1, .ptr 0 0), (14, bA ((!false) || (!v2)))] [.cells 42 (TExperiment.cs x0)] ?_
      exact AOps_here [1, 14] (by kernel_rfl) rfl
  refine Rh 1 48 [(1, .ptr 0 0), (15, bA ((!v1) || (!v2)))] ?_
  obtain ⟨v3, hv3, H⟩ := bind_some H
  refine AOps_cut 5 (st' := fr 48 [(1, .ptr 0 0), (20, bA (((!v1) || (!v2)) || (!v3)))]) (h' := [.cells 42 (TExperiment.cs x0)]) ?_ ?_
  rotate_left
  · cases c1 : ((!v1) || (!v2) : Bool) with
    | true =>
      refine R 5 48 [(1, .ptr 0 0), (20, bA (true || (!v3)))] [.cells 42 (TExperiment.cs x0)] ?_
      exact AOps_here [1, 20] (by kernel_rfl) rfl
    | false =>
      refine R 2 48 [(1, .ptr 0 0), (15, bA false), (17, sA x0.gFlag)] [.cells 42 (TExperiment.cs x0)] ?_
      have hv3_ := cond_t hv3 (by simp only [c1] <;> rfl)
      refine AOps_callp (d := (some 18)) (al := [sA x0.gFlag]) (r := bA v3) (by kernel_rfl) (s_ref1_Key hv3_) ⟨trivial, trivial⟩ trivial ?_
      refine R 2 48 [(1, .ptr 0 0), (20, bA (false || (!v3)))] [.cells 42 (TExperiment.cs x0)] ?_
      exact AOps_here [1, 20] (by kernel_rfl) rfl
  refine AOps_done (CD H (fun hb4 H => ?_) (fun hb4 H => ?_))
  · refine AWP_reg (Rh 1 48 [(2, iA 6)] (AOps_done ?_))
    exact AWP_ret (FR H)
  · refine AWP_skip ?_
    show AWP _ _ _ _ _ _ _
    refine AWP_seq (AWP_reg (Rh 2 48 [(1, .ptr 0 0), (22, sA x0.gSalt)] ?_))
    obtain ⟨v5, hv5, H⟩ := bind_some H
    refine AOps_callp (d := (some 23)) (al := [sA x0.gSalt]) (r := bA v5) (by kernel_rfl) (s_ref1_Valid hG hv5) ⟨trivial, trivial⟩ trivial ?_
    refine Rh 1 48 [(1, .ptr 0 0), (24, bA (!v5))] (AOps_done (CD H (fun hb6 H => ?_) (fun hb6 H => ?_)))
    · refine AWP_reg (Rh 1 48 [(2, iA 2)] (AOps_done ?_))
      exact AWP_ret (FR H)
    · refine AWP_skip ?_
      show AWP _ _ _ _ _ _ _
      refine AWP_seq (AWP_reg (Rh 4 48 [(1, .ptr 0 0), (28, bA (decide (x0.gStatus < 1)))] (AOps_run 4 [1, 32] (st' := fr 48 [(1, .ptr 0 0), (32, bA ((decide (x0.gStatus < 1)) || (decide (x0.gStatus > 3))))]) (h' := [.cells 42 (TExperiment.cs x0)]) (by (generalize (decide (x0.gStatus < 1)) = t0; cases t0 <;> kernel_rfl)) ?_)))
      refine AOps_done (CD H (fun hb7 H => ?_) (fun hb7 H => ?_))
      · refine AWP_reg (Rh 1 48 [(2, iA 7)] (AOps_done ?_))
        exact AWP_ret (FR H)
      · refine AWP_skip ?_
        show AWP _ _ _ _ _ _ _
        refine AWP_seq (AWP_reg (Rh 2 48 [(1, .ptr 0 0), (34, .ro .unk x0.gClaims.length (TSpan.cl x0.gClaims))] ?_))
        obtain ⟨v8, hv8, H⟩ := bind_some H
        refine AOps_callp (d := (some 35)) (al := [.ro .unk x0.gClaims.length (TSpan.cl x0.gClaims)]) (r := iA v8) (by kernel_rfl) (s_ref6_Spans hv8) ⟨(scl_TSpan_cl _ _), trivial⟩ trivial ?_
        refine Rh 1 48 [(1, .ptr 0 0), (3, iA v8)] (AOps_done (AWP_reg (Rh 2 48 [(1, .ptr 0 0), (3, iA v8), (37, bA (v8 != 0))] (AOps_done (CD H (fun hb9 H => ?_) (fun hb9 H => ?_))))))
        · refine AWP_reg (Rh 2 48 [(2, iA v8)] (AOps_done ?_))
          exact AWP_ret (FR H)
        · refine AWP_skip ?_
          show AWP _ _ _ _ _ _ _
          refine AWP_seq (AWP_reg (Rh 2 48 [(1, .ptr 0 0), (40, .ro .unk x0.gArms.length (TRange.cl x0.gArms))] ?_))
          obtain ⟨v10, hv10, H⟩ := bind_some H
          refine AOps_callp (d := (some 41)) (al := [.ro .unk x0.gArms.length (TRange.cl x0.gArms), iA 8]) (r := iA v10) (by kernel_rfl) (s_ref6_Split hv10) ⟨(scl_TRange_cl _ _), trivial, trivial⟩ trivial ?_
          refine Rh 1 48 [(1, .ptr 0 0), (4, iA v10)] (AOps_done (AWP_reg (Rh 2 48 [(1, .ptr 0 0), (4, iA v10), (43, bA (v10 != 0))] (AOps_done (CD H (fun hb11 H => ?_) (fun hb11 H => ?_))))))
          · refine AWP_reg (Rh 2 48 [(2, iA v10)] (AOps_done ?_))
            exact AWP_ret (FR H)
          · refine AWP_skip ?_
            show AWP _ _ _ _ _ _ _
            refine AWP_reg (Rh 2 48 [(46, .agg (TExpr.cs x0.gWhen))] ?_)
            obtain ⟨v12, hv12, H⟩ := bind_some H
            refine AOps_callp (d := (some 47)) (al := [.agg (TExpr.cs x0.gWhen)]) (r := iA v12) (by kernel_rfl) (s_ref6_Expr hG hv12) ⟨(sc_TExpr_cs _ _), trivial⟩ trivial ?_
            refine Rh 1 48 [(2, iA v12)] (AOps_done ?_)
            exact AWP_ret (FR H)
theorem s_cmp_Or_int {n : Nat} {x0 : List Int} {r : Int} (H : p_cmp_Or_int n x0 = some r) :
    Sp Tryz.prog E 121 [.ro .unk x0.length (cl_i64 x0)] [] (isA (iA r) []) := by
  unfold p_cmp_Or_int at H
  refine Sp_fn Tryz.func121 rfl (fun hc hs => ?_)
  refine AWP_reg (Rh 1 18 [(0, .ro .unk x0.length (cl_i64 x0))] (AOps_done (AWP_reg (Rh 1 18 [(0, .ro .unk x0.length (cl_i64 x0)), (3, iA 0)] (AOps_done (AWP_seq (AWP_reg (Rh 3 18 [(3, iA 0), (6, .ro .unk x0.length (cl_i64 x0)), (7, iA (lI x0)), (8, iA 0)] ?_))))))))
  refine AOps_done (AWP_block ?_)
  refine AWP_loopN (α := Int) (fun v8 => fr 18 [(3, iA 0), (6, .ro .unk x0.length (cl_i64 x0)), (7, iA (lI x0)), (8, iA v8)]) (fun v8 => []) (fun k_ v8 => k_ ≤ n ∧ p_cmp_Or_int_L1 k_ x0 v8 = some r) (fun n v8 H => ?_) (k := n) 0 ⟨Nat.le_refl _, H⟩ (Norm_fd [3, 6, 7, 8] 0 (by kernel_rfl) rfl rfl trivial (by refine scL_fr ?_; exact ⟨trivial, (scl_cl_i64 _ _), trivial, trivial, trivial⟩))
  show AWP _ _ _ _ _ (fr 18 [(3, iA 0), (6, .ro .unk x0.length (cl_i64 x0)), (7, iA (lI x0)), (8, iA v8)]) []
  obtain ⟨hb_, H⟩ := H
  replace H : p_cmp_Or_int_L1 n x0 v8 = some r := H
  cases n with
  | zero => exact not_none (by simpa only [p_cmp_Or_int_L1] using H)
  | succ n =>
    unfold p_cmp_Or_int_L1 at H
    refine AWP_reg (Rh 1 18 [(3, iA 0), (6, .ro .unk x0.length (cl_i64 x0)), (7, iA (lI x0)), (8, iA v8), (9, bA (decide (v8 < (lI x0))))] (AOps_done (AWP_seq (CD H (fun hb9 H => ?_) (fun hb9 H => ?_)))))
    · refine AWP_skip ?_
      show AWP _ _ _ _ _ _ _
      refine AWP_seq (AWP_block ?_)
      refine AWP_reg ?_
      obtain ⟨v10, hv10, H⟩ := bind_some H
      refine AOps_index (d := (some 10)) (sz := 1) (c := cs_i64) (by kernel_rfl) rfl (eq_cl_i64 _) (fun _ => rfl) (by decide) hv10 (fun tl10 => ?_)
      refine Rh 2 18 [(3, iA 0), (5, iA v10), (6, .ro .unk x0.length (cl_i64 x0)), (7, iA (lI x0)), (8, iA v8)] (AOps_done (AWP_reg (Rh 3 18 [(3, iA 0), (5, iA v10), (6, .ro .unk x0.length (cl_i64 x0)), (7, iA (lI x0)), (8, iA v8), (14, bA (v10 != 0))] (AOps_done (CD H (fun hb11 H => ?_) (fun hb11 H => ?_))))))
      · refine AWP_reg (Rh 2 18 [(2, iA v10)] (AOps_done ?_))
        exact AWP_ret (FR H)
      · refine AWP_skip ?_
        show AWP _ _ _ _ _ _ _
        refine AWP_region ?_
        refine Rh 2 18 [(3, iA 0), (6, .ro .unk x0.length (cl_i64 x0)), (7, iA (lI x0)), (8, iA (w64 (v8 + 1)))] (AOps_done ?_)
        exact Exists.intro (w64 (v8 + 1)) (Exists.intro n ⟨by omega, ⟨by omega, H⟩, Norm_fd [3, 6, 7, 8] 0 (by kernel_rfl) rfl rfl trivial (by refine scL_fr ?_; exact ⟨trivial, (scl_cl_i64 _ _), trivial, trivial, trivial⟩)⟩)
    · refine AWP_exit ?_
      show AWP _ _ _ _ _ _ _
      refine AWP_reg (Rh 2 18 [(2, iA 0)] (AOps_done ?_))
      exact AWP_ret (FR H)
theorem s_shape_attributes {n : Nat} (hG : GlobT E) {x0 : List TDeclared} {r : Int} (H : p_shape_attributes n x0 = some r) :
    Sp Tryz.prog E 88 [.ro .unk x0.length (TDeclared.cl x0)] [] (isA (iA r) []) := by
  unfold p_shape_attributes at H
  refine Sp_fn Tryz.func88 rfl (fun hc hs => ?_)
  refine AWP_reg (Rh 1 64 [(0, .ro .unk x0.length (TDeclared.cl x0))] (AOps_done (AWP_seq (AWP_reg (Rh 3 64 [(0, .ro .unk x0.length (TDeclared.cl x0)), (7, bA (decide ((lI x0) > 30)))] (AOps_done (CD H (fun hb1 H => ?_) (fun hb1 H => ?_))))))))
  · refine AWP_reg (Rh 1 64 [(2, iA 5)] (AOps_done ?_))
    exact AWP_ret (FR H)
  · refine AWP_skip ?_
    show AWP _ _ _ _ _ _ _
    refine AWP_seq (AWP_reg (Rh 3 64 [(0, .ro .unk x0.length (TDeclared.cl x0)), (8, .ro .unk x0.length (TDeclared.cl x0)), (9, iA (lI x0)), (10, iA 0)] (AOps_done (AWP_block ?_))))
    refine AWP_loopN (α := Int) (fun v26 => fr 64 [(0, .ro .unk x0.length (TDeclared.cl x0)), (8, .ro .unk x0.length (TDeclared.cl x0)), (9, iA (lI x0)), (10, iA v26)]) (fun v26 => []) (fun k_ v26 => k_ ≤ n ∧ p_shape_attributes_L1 k_ x0 v26 = some r) (fun n v26 H => ?_) (k := n) 0 ⟨Nat.le_refl _, H⟩ (Norm_fd [0, 8, 9, 10] 0 (by kernel_rfl) rfl rfl trivial (by refine scL_fr ?_; exact ⟨(scl_TDeclared_cl _ _), (scl_TDeclared_cl _ _), trivial, trivial, trivial⟩))
    show AWP _ _ _ _ _ (fr 64 [(0, .ro .unk x0.length (TDeclared.cl x0)), (8, .ro .unk x0.length (TDeclared.cl x0)), (9, iA (lI x0)), (10, iA v26)]) []
    obtain ⟨hb_, H⟩ := H
    replace H : p_shape_attributes_L1 n x0 v26 = some r := H
    cases n with
    | zero => exact not_none (by simpa only [p_shape_attributes_L1] using H)
    | succ n =>
      unfold p_shape_attributes_L1 at H
      refine AWP_reg (Rh 1 64 [(0, .ro .unk x0.length (TDeclared.cl x0)), (8, .ro .unk x0.length (TDeclared.cl x0)), (9, iA (lI x0)), (10, iA v26), (11, bA (decide (v26 < (lI x0))))] (AOps_done (AWP_seq (CD H (fun hb27 H => ?_) (fun hb27 H => ?_)))))
      · refine AWP_skip ?_
        show AWP _ _ _ _ _ _ _
        refine AWP_seq (AWP_block ?_)
        refine AWP_reg (Rh 1 64 [(0, .ro .unk x0.length (TDeclared.cl x0)), (8, .ro .unk x0.length (TDeclared.cl x0)), (9, iA (lI x0)), (10, iA v26), (12, iA v26)] ?_)
        obtain ⟨v28, hv28, H⟩ := bind_some H
        refine AOps_index (d := (some 13)) (sz := 3) (c := TDeclared.cs) (by kernel_rfl) rfl (eq_TDeclared_cl _) (fun _ => rfl) (by decide) hv28 (fun tl28 => ?_)
        refine R 4 64 [(0, .ro .unk x0.length (TDeclared.cl x0)), (3, iA v26), (4, .ptr 0 0), (8, .ro .unk x0.length (TDeclared.cl x0)), (9, iA (lI x0)), (10, iA v26)] [.cells 112 (TDeclared.cs v28)] (AOps_done (AWP_seq (AWP_reg (Rh 2 64 [(0, .ro .unk x0.length (TDeclared.cl x0)), (3, iA v26), (4, .ptr 0 0), (8, .ro .unk x0.length (TDeclared.cl x0)), (9, iA (lI x0)), (10, iA v26), (16, sA v28.gKind)] ?_))))
        obtain ⟨v29, hv29, H⟩ := bind_some H
        refine AOps_callp (d := (some 17)) (al := [sA v28.gKind]) (r := bA v29) (by kernel_rfl) (s_text_Key hG hv29) ⟨trivial, trivial⟩ trivial ?_
        refine Rh 2 64 [(0, .ro .unk x0.length (TDeclared.cl x0)), (3, iA v26), (4, .ptr 0 0), (8, .ro .unk x0.length (TDeclared.cl x0)), (9, iA (lI x0)), (10, iA v26), (19, bA (!v29))] ?_
        obtain ⟨v30, hv30, H⟩ := bind_some H
        refine AOps_cut 5 (st' := fr 64 [(0, .ro .unk x0.length (TDeclared.cl x0)), (3, iA v26), (4, .ptr 0 0), (8, .ro .unk x0.length (TDeclared.cl x0)), (9, iA (lI x0)), (10, iA v26), (24, bA ((!v29) || (!v30)))]) (h' := [.cells 112 (TDeclared.cs v28)]) ?_ ?_
        rotate_left
        · cases c1 : (v29 : Bool) with
          | true =>
            refine R 2 64 [(0, .ro .unk x0.length (TDeclared.cl x0)), (3, iA v26), (4, .ptr 0 0), (8, .ro .unk x0.length (TDeclared.cl x0)), (9, iA (lI x0)), (10, iA v26), (19, bA (!true)), (21, sA v28.gName)] [.cells 112 (TDeclared.cs v28)] ?_
            have hv30_ := cond_t hv30 (by simp only [c1] <;> rfl)
            refine AOps_callp (d := (some 22)) (al := [sA v28.gName]) (r := bA v30) (by kernel_rfl) (s_text_Key hG hv30_) ⟨trivial, trivial⟩ trivial ?_
            refine R 2 64 [(0, .ro .unk x0.length (TDeclared.cl x0)), (3, iA v26), (4, .ptr 0 0), (8, .ro .unk x0.length (TDeclared.cl x0)), (9, iA (lI x0)), (10, iA v26), (24, bA ((!true) || (!v30)))] [.cells 112 (TDeclared.cs v28)] ?_
            exact AOps_here [0, 3, 4, 8, 9, 10, 24] (by kernel_rfl) rfl
          | false =>
            refine R 5 64 [(0, .ro .unk x0.length (TDeclared.cl x0)), (3, iA v26), (4, .ptr 0 0), (8, .ro .unk x0.length (TDeclared.cl x0)), (9, iA (lI x0)), (10, iA v26), (24, bA ((!false) || (!v30)))] [.cells 112 (TDeclared.cs v28)] ?_
            exact AOps_here [0, 3, 4, 8, 9, 10, 24] (by kernel_rfl) rfl
        refine Rh 1 64 [(0, .ro .unk x0.length (TDeclared.cl x0)), (3, iA v26), (4, .ptr 0 0), (8, .ro .unk x0.length (TDeclared.cl x0)), (9, iA (lI x0)), (10, iA v26), (25, bA ((!v29) || (!v30)))] (AOps_run 4 [0, 3, 4, 8, 9, 10, 29] (st' := fr 64 [(0, .ro .unk x0.length (TDeclared.cl x0)), (3, iA v26), (4, .ptr 0 0), (8, .ro .unk x0.length (TDeclared.cl x0)), (9, iA (lI x0)), (10, iA v26), (29, bA (((!v29) || (!v30)) || (seq' v28.gName (⟨#[107, 101, 121]⟩ : ByteArray))))]) (h' := [.cells 112 (TDeclared.cs v28)]) (by (generalize v29 = t0; generalize v30 = t1; cases t0 <;> cases t1 <;> kernel_rfl)) ?_)
        refine AOps_done (CD H (fun hb31 H => ?_) (fun hb31 H => ?_))
        · refine AWP_reg (Rh 1 64 [(2, iA 6)] (AOps_done ?_))
          exact AWP_ret (FR H)
        · refine AWP_skip ?_
          show AWP _ _ _ _ _ _ _
          refine AWP_seq (AWP_reg (Rh 4 64 [(0, .ro .unk x0.length (TDeclared.cl x0)), (3, iA v26), (4, .ptr 0 0), (8, .ro .unk x0.length (TDeclared.cl x0)), (9, iA (lI x0)), (10, iA v26), (33, bA (decide (v28.gType < 1)))] (AOps_run 4 [0, 3, 4, 8, 9, 10, 37] (st' := fr 64 [(0, .ro .unk x0.length (TDeclared.cl x0)), (3, iA v26), (4, .ptr 0 0), (8, .ro .unk x0.length (TDeclared.cl x0)), (9, iA (lI x0)), (10, iA v26), (37, bA ((decide (v28.gType < 1)) || (decide (v28.gType > 5))))]) (h' := [.cells 112 (TDeclared.cs v28)]) (by (generalize (decide (v28.gType < 1)) = t0; cases t0 <;> kernel_rfl)) ?_)))
          refine AOps_done (CD H (fun hb32 H => ?_) (fun hb32 H => ?_))
          · refine AWP_reg (Rh 1 64 [(2, iA 7)] (AOps_done ?_))
            exact AWP_ret (FR H)
          · refine AWP_skip ?_
            show AWP _ _ _ _ _ _ _
            obtain ⟨v33, hv33, H⟩ := bind_some H
            obtain ⟨v34, hv34, H⟩ := bind_some H
            obtain ⟨v35, hv35, H⟩ := bind_some H
            obtain ⟨v36, hv36, H⟩ := bind_some H
            obtain ⟨v37, hv37, H⟩ := bind_some H
            refine AWP_regD1 [0, 1, 2, 3, 4, 5, 6, 7, 8, 9, 10, 12, 13, 14, 15, 16, 17, 18, 19, 11, 20, 21, 22, 23, 24] (N := 64) (f := [(0, .ro .unk x0.length (TDeclared.cl x0)), (3, iA v26), (4, .ptr 0 0), (8, .ro .unk x0.length (TDeclared.cl x0)), (9, iA (lI x0)), (10, iA v26)]) (leL_of [0, 3, 4, 8, 9, 10] (by kernel_rfl)) mixed (by kernel_rfl) (by kernel_rfl) (st' := fr 64 [(0, .ro .unk x0.length (TDeclared.cl x0)), (8, .ro .unk x0.length (TDeclared.cl x0)), (9, iA (lI x0)), (10, iA v26), (62, bA ((decide (v26 > 0)) && (decide (v37 ≥ 0))))]) (h' := [.cells 112 (TDeclared.cs v28)]) ?_ ?_
            rotate_left
            · refine RD 3 64 [] [(0, .ro .unk x0.length (TDeclared.cl x0)), (3, iA v26), (4, .ptr 0 0), (8, .ro .unk x0.length (TDeclared.cl x0)), (9, iA (lI x0)), (10, iA v26), (38, iA v26), (39, bA (decide (v26 > 0))), (40, bA (decide (v26 > 0)))] ?_
              cases c1 : (decide (v26 > 0) : Bool) with
              | true =>
                refine RD 3 64 [] [(0, .ro .unk x0.length (TDeclared.cl x0)), (3, iA v26), (4, .ptr 0 0), (8, .ro .unk x0.length (TDeclared.cl x0)), (9, iA (lI x0)), (10, iA v26), (38, iA v26), (39, bA true), (40, bA true), (41, .ro .unk x0.length (TDeclared.cl x0)), (42, iA v26), (43, iA (w64 (v26 - 1)))] ?_
                have hv33_ := cond_t hv33 (by simp only [c1] <;> rfl)
                refine AD_index (d := (some 44)) (sz := 3) (c := TDeclared.cs) (by kernel_rfl) rfl (eq_TDeclared_cl _) (fun _ => rfl) (by decide) hv33_ (fun tl33 => ?_)
                refine RD 7 64 [(10, 0), (9, 0)] [(0, .ro .unk x0.length (TDeclared.cl x0)), (3, iA v26), (4, .ptr 0 0), (8, .ro .unk x0.length (TDeclared.cl x0)), (9, iA (lI x0)), (10, iA v26), (38, iA v26), (39, bA true), (40, bA true), (41, .ro .unk x0.length (TDeclared.cl x0)), (42, iA v26), (43, iA (w64 (v26 - 1))), (44, .rop ([sA v33.gKind, sA v33.gName, iA v33.gType] ++ tl33)), (45, .rop ([sA v33.gKind, sA v33.gName, iA v33.gType] ++ tl33)), (46, sA v33.gKind), (47, .ptr 0 0), (48, sA v28.gKind), (50, .ro .unk x0.length (TDeclared.cl x0)), (51, iA v26), (52, iA (w64 (v26 - 1)))] ?_
                have hv34_ := cond_t hv34 (by simp only [c1] <;> rfl)
                refine AD_index (d := (some 53)) (sz := 3) (c := TDeclared.cs) (by kernel_rfl) rfl (eq_TDeclared_cl _) (fun _ => rfl) (by decide) hv34_ (fun tl34 => ?_)
                refine RD 4 64 [(19, 0), (18, 0), (10, 0), (9, 0)] [(0, .ro .unk x0.length (TDeclared.cl x0)), (3, iA v26), (4, .ptr 0 0), (8, .ro .unk x0.length (TDeclared.cl x0)), (9, iA (lI x0)), (10, iA v26), (38, iA v26), (39, bA true), (40, bA true), (41, .ro .unk x0.length (TDeclared.cl x0)), (42, iA v26), (43, iA (w64 (v26 - 1))), (44, .rop ([sA v33.gKind, sA v33.gName, iA v33.gType] ++ tl33)), (45, .rop ([sA v33.gKind, sA v33.gName, iA v33.gType] ++ tl33)), (46, sA v33.gKind), (47, .ptr 0 0), (48, sA v28.gKind), (50, .ro .unk x0.length (TDeclared.cl x0)), (51, iA v26), (52, iA (w64 (v26 - 1))), (53, .rop ([sA v34.gKind, sA v34.gName, iA v34.gType] ++ tl34)), (54, .rop ([sA v34.gName, iA v34.gType] ++ tl34)), (55, sA v34.gName), (56, .ptr 0 1), (57, sA v28.gName)] ?_
                have hv35_ := cond_t hv35 (by simp only [c1] <;> rfl)
                refine AD_callp (d := (some 49)) (al := [sA v33.gKind, sA v28.gKind]) (r := iA v35) (by kernel_rfl) (s_strings_Compare hv35_) ⟨trivial, trivial, trivial⟩ trivial ?_
                have hv36_ := cond_t hv36 (by simp only [c1] <;> rfl)
                refine AD_callp (d := (some 58)) (al := [sA v34.gName, sA v28.gName]) (r := iA v36) (by kernel_rfl) (s_strings_Compare hv36_) ⟨trivial, trivial, trivial⟩ trivial ?_
                refine AD_bsl (d := (some 59)) (m := 2) (cs := [iA v35, iA v36]) (by kernel_rfl) ⟨trivial, trivial, trivial⟩ ?_
                have hv37_ := cond_t hv37 (by simp only [c1] <;> rfl)
                refine AD_callp (d := (some 60)) (al := [.ro .unk ([v35, v36]).length (cl_i64 ([v35, v36]))]) (r := iA v37) (by kernel_rfl) (s_cmp_Or_int hv37_) ⟨(scl_cl_i64 _ _), trivial⟩ trivial ?_
                refine RD 2 64 [(19, 0), (18, 0), (10, 0), (9, 0)] [(0, .ro .unk x0.length (TDeclared.cl x0)), (3, iA v26), (4, .ptr 0 0), (8, .ro .unk x0.length (TDeclared.cl x0)), (9, iA (lI x0)), (10, iA v26), (38, iA v26), (39, bA true), (40, bA true), (41, .ro .unk x0.length (TDeclared.cl x0)), (42, iA v26), (43, iA (w64 (v26 - 1))), (44, .rop ([sA v33.gKind, sA v33.gName, iA v33.gType] ++ tl33)), (45, .rop ([sA v33.gKind, sA v33.gName, iA v33.gType] ++ tl33)), (46, sA v33.gKind), (47, .ptr 0 0), (48, sA v28.gKind), (49, iA v35), (50, .ro .unk x0.length (TDeclared.cl x0)), (51, iA v26), (52, iA (w64 (v26 - 1))), (53, .rop ([sA v34.gKind, sA v34.gName, iA v34.gType] ++ tl34)), (54, .rop ([sA v34.gName, iA v34.gType] ++ tl34)), (55, sA v34.gName), (56, .ptr 0 1), (57, sA v28.gName), (58, iA v36), (59, .ro .unk ([v35, v36]).length (cl_i64 ([v35, v36]))), (60, iA v37), (61, bA (decide (v37 ≥ 0))), (62, bA (true && (decide (v37 ≥ 0))))] ?_
                exact AD_here [0, 8, 9, 10, 62] (by kernel_rfl) rfl
              | false =>
                refine RD 16 64 [] [(0, .ro .unk x0.length (TDeclared.cl x0)), (3, iA v26), (4, .ptr 0 0), (8, .ro .unk x0.length (TDeclared.cl x0)), (9, iA (lI x0)), (10, iA v26), (38, iA v26), (39, bA false), (40, bA false), (41, undefA), (42, undefA), (43, undefA), (44, undefA), (45, undefA), (46, undefA), (47, undefA), (48, undefA), (50, undefA), (51, undefA), (52, undefA), (53, undefA), (54, undefA), (55, undefA), (56, undefA), (57, undefA)] (AD_offB (d := some 49) (by kernel_rfl) ?_)
                refine AD_offB (d := some 58) (by kernel_rfl) ?_
                refine AD_offB (d := some 59) (by kernel_rfl) ?_
                refine AD_offB (d := some 60) (by kernel_rfl) ?_
                refine RD 2 64 [] [(0, .ro .unk x0.length (TDeclared.cl x0)), (3, iA v26), (4, .ptr 0 0), (8, .ro .unk x0.length (TDeclared.cl x0)), (9, iA (lI x0)), (10, iA v26), (38, iA v26), (39, bA false), (40, bA false), (41, undefA), (42, undefA), (43, undefA), (44, undefA), (45, undefA), (46, undefA), (47, undefA), (48, undefA), (49, undefA), (50, undefA), (51, undefA), (52, undefA), (53, undefA), (54, undefA), (55, undefA), (56, undefA), (57, undefA), (58, undefA), (59, undefA), (60, undefA), (61, undefA), (62, bA (false && (decide (v37 ≥ 0))))] ?_
                exact AD_here [0, 8, 9, 10, 62] (by kernel_rfl) rfl
            refine CD H (fun hb38 H => ?_) (fun hb38 H => ?_)
            · refine AWP_reg (Rh 1 64 [(2, iA 9)] (AOps_done ?_))
              exact AWP_ret (FR H)
            · refine AWP_skip ?_
              show AWP _ _ _ _ _ _ _
              refine AWP_region ?_
              refine Rh 2 64 [(0, .ro .unk x0.length (TDeclared.cl x0)), (8, .ro .unk x0.length (TDeclared.cl x0)), (9, iA (lI x0)), (10, iA (w64 (v26 + 1)))] (AOps_done ?_)
              exact Exists.intro (w64 (v26 + 1)) (Exists.intro n ⟨by omega, ⟨by omega, H⟩, Norm_fd [0, 8, 9, 10] 1 (by kernel_rfl) rfl rfl trivial (by refine scL_fr ?_; exact ⟨(scl_TDeclared_cl _ _), (scl_TDeclared_cl _ _), trivial, trivial, trivial⟩)⟩)
      · refine AWP_exit ?_
        show AWP _ _ _ _ _ _ _
        refine AWP_reg (Rh 1 64 [(2, iA 0)] (AOps_done ?_))
        exact AWP_ret (FR H)
theorem s_shape_Environment_1 {n : Nat} {x0 : TSegment} {r : ByteArray} (H : p_shape_Environment_1 n x0 = some r) :
    Sp Tryz.prog E 90 [.agg (TSegment.cs x0)] [] (isA (sA r) []) := by
  unfold p_shape_Environment_1 at H
  refine Sp_fn Tryz.func90 rfl (fun hc hs => ?_)
  refine AWP_reg (R 2 5 [(1, .ptr 0 0)] [.cells 71 (TSegment.cs x0)] (AOps_done (AWP_reg (Rh 3 5 [(2, sA x0.gKey)] (AOps_done ?_)))))
  exact AWP_ret (FR H)
theorem s_shape_list_api_Segment {n : Nat} (hG : GlobT E) {x0 : List TSegment} {x1 : Int} {r : Int} (H : p_shape_list_api_Segment n x0 x1 = some r) :
    Sp Tryz.prog E 89 [.ro .unk x0.length (TSegment.cl x0), iA x1, .val (.func (.func 36) #[] #[]), .val (.func (.func 90) #[] #[])] [] (isA (iA r) []) := by
  unfold p_shape_list_api_Segment at H
  refine Sp_fn Tryz.func89 rfl (fun hc hs => ?_)
  refine AWP_reg (Rh 1 45 [(0, .ro .unk x0.length (TSegment.cl x0)), (1, iA x1), (2, .val (.func (.func 36) #[] #[])), (3, .val (.func (.func 90) #[] #[]))] (AOps_done (AWP_seq (AWP_reg (Rh 4 45 [(0, .ro .unk x0.length (TSegment.cl x0)), (2, .val (.func (.func 36) #[] #[])), (3, .val (.func (.func 90) #[] #[])), (15, bA (decide ((lI x0) > x1)))] (AOps_done (CD H (fun hb1 H => ?_) (fun hb1 H => ?_))))))))
  · refine AWP_reg (Rh 1 45 [(8, iA 5)] (AOps_done ?_))
    exact AWP_ret (FR H)
  · refine AWP_skip ?_
    show AWP _ _ _ _ _ _ _
    refine AWP_seq (AWP_reg (Rh 3 45 [(0, .ro .unk x0.length (TSegment.cl x0)), (2, .val (.func (.func 36) #[] #[])), (3, .val (.func (.func 90) #[] #[])), (16, .ro .unk x0.length (TSegment.cl x0)), (17, iA (lI x0)), (18, iA 0)] (AOps_done (AWP_block ?_))))
    refine AWP_loopN (α := Int) (fun v18 => fr 45 [(0, .ro .unk x0.length (TSegment.cl x0)), (2, .val (.func (.func 36) #[] #[])), (3, .val (.func (.func 90) #[] #[])), (16, .ro .unk x0.length (TSegment.cl x0)), (17, iA (lI x0)), (18, iA v18)]) (fun v18 => []) (fun k_ v18 => k_ ≤ n ∧ p_shape_list_api_Segment_L1 k_ x0 v18 = some r) (fun n v18 H => ?_) (k := n) 0 ⟨Nat.le_refl _, H⟩ (Norm_fd [0, 2, 3, 16, 17, 18] 0 (by kernel_rfl) rfl rfl trivial (by refine scL_fr ?_; exact ⟨(scl_TSegment_cl _ _), trivial, trivial, (scl_TSegment_cl _ _), trivial, trivial, trivial⟩))
    show AWP _ _ _ _ _ (fr 45 [(0, .ro .unk x0.length (TSegment.cl x0)), (2, .val (.func (.func 36) #[] #[])), (3, .val (.func (.func 90) #[] #[])), (16, .ro .unk x0.length (TSegment.cl x0)), (17, iA (lI x0)), (18, iA v18)]) []
    obtain ⟨hb_, H⟩ := H
    replace H : p_shape_list_api_Segment_L1 n x0 v18 = some r := H
    cases n with
    | zero => exact not_none (by simpa only [p_shape_list_api_Segment_L1] using H)
    | succ n =>
      unfold p_shape_list_api_Segment_L1 at H
      refine AWP_reg (Rh 1 45 [(0, .ro .unk x0.length (TSegment.cl x0)), (2, .val (.func (.func 36) #[] #[])), (3, .val (.func (.func 90) #[] #[])), (16, .ro .unk x0.length (TSegment.cl x0)), (17, iA (lI x0)), (18, iA v18), (19, bA (decide (v18 < (lI x0))))] (AOps_done (AWP_seq (CD H (fun hb19 H => ?_) (fun hb19 H => ?_)))))
      · refine AWP_skip ?_
        show AWP _ _ _ _ _ _ _
        refine AWP_seq (AWP_block ?_)
        refine AWP_reg (Rh 1 45 [(0, .ro .unk x0.length (TSegment.cl x0)), (2, .val (.func (.func 36) #[] #[])), (3, .val (.func (.func 90) #[] #[])), (16, .ro .unk x0.length (TSegment.cl x0)), (17, iA (lI x0)), (18, iA v18), (20, iA v18)] ?_)
        obtain ⟨v20, hv20, H⟩ := bind_some H
        refine AOps_index (d := (some 21)) (sz := 9) (c := TSegment.cs) (by kernel_rfl) rfl (eq_TSegment_cl _) (fun _ => rfl) (by decide) hv20 (fun tl20 => ?_)
        refine R 4 45 [(0, .ro .unk x0.length (TSegment.cl x0)), (2, .val (.func (.func 36) #[] #[])), (3, .val (.func (.func 90) #[] #[])), (9, iA v18), (10, .ptr 0 0), (16, .ro .unk x0.length (TSegment.cl x0)), (17, iA (lI x0)), (18, iA v18)] [.cells 71 (TSegment.cs v20)] (AOps_done (AWP_seq (AWP_reg (Rh 2 45 [(0, .ro .unk x0.length (TSegment.cl x0)), (2, .val (.func (.func 36) #[] #[])), (3, .val (.func (.func 90) #[] #[])), (9, iA v18), (10, .ptr 0 0), (16, .ro .unk x0.length (TSegment.cl x0)), (17, iA (lI x0)), (18, iA v18), (23, .val (.func (.func 36) #[] #[])), (24, .agg (TSegment.cs v20))] ?_))))
        obtain ⟨v21, hv21, H⟩ := bind_some H
        refine AOps_callp (d := (some 25)) (al := [.agg (TSegment.cs v20)]) (r := iA v21) (by kernel_rfl) (s_shape_Segment hG hv21) ⟨(sc_TSegment_cs _ _), trivial⟩ trivial ?_
        refine Rh 1 45 [(0, .ro .unk x0.length (TSegment.cl x0)), (2, .val (.func (.func 36) #[] #[])), (3, .val (.func (.func 90) #[] #[])), (9, iA v18), (10, .ptr 0 0), (11, iA v21), (16, .ro .unk x0.length (TSegment.cl x0)), (17, iA (lI x0)), (18, iA v18)] (AOps_done (AWP_reg (Rh 2 45 [(0, .ro .unk x0.length (TSegment.cl x0)), (2, .val (.func (.func 36) #[] #[])), (3, .val (.func (.func 90) #[] #[])), (9, iA v18), (10, .ptr 0 0), (11, iA v21), (16, .ro .unk x0.length (TSegment.cl x0)), (17, iA (lI x0)), (18, iA v18), (27, bA (v21 != 0))] (AOps_done (CD H (fun hb22 H => ?_) (fun hb22 H => ?_))))))
        · refine AWP_reg (Rh 2 45 [(8, iA v21)] (AOps_done ?_))
          exact AWP_ret (FR H)
        · refine AWP_skip ?_
          show AWP _ _ _ _ _ _ _
          obtain ⟨v23, hv23, H⟩ := bind_some H
          obtain ⟨v24, hv24, H⟩ := bind_some H
          obtain ⟨v25, hv25, H⟩ := bind_some H
          refine AWP_regD1 [0, 1, 2, 3, 4, 6, 7, 8, 9, 10, 11, 5, 12, 13, 14] (N := 45) (f := [(0, .ro .unk x0.length (TSegment.cl x0)), (2, .val (.func (.func 36) #[] #[])), (3, .val (.func (.func 90) #[] #[])), (9, iA v18), (10, .ptr 0 0), (16, .ro .unk x0.length (TSegment.cl x0)), (17, iA (lI x0)), (18, iA v18)]) (leL_of [0, 2, 3, 9, 10, 16, 17, 18] (by kernel_rfl)) mixed (by kernel_rfl) (by kernel_rfl) (st' := fr 45 [(0, .ro .unk x0.length (TSegment.cl x0)), (2, .val (.func (.func 36) #[] #[])), (3, .val (.func (.func 90) #[] #[])), (16, .ro .unk x0.length (TSegment.cl x0)), (17, iA (lI x0)), (18, iA v18), (43, bA ((decide (v18 > 0)) && (sle' v24 v25)))]) (h' := [.cells 71 (TSegment.cs v20)]) ?_ ?_
          rotate_left
          · refine RD 3 45 [] [(0, .ro .unk x0.length (TSegment.cl x0)), (2, .val (.func (.func 36) #[] #[])), (3, .val (.func (.func 90) #[] #[])), (9, iA v18), (10, .ptr 0 0), (16, .ro .unk x0.length (TSegment.cl x0)), (17, iA (lI x0)), (18, iA v18), (29, iA v18), (30, bA (decide (v18 > 0))), (31, bA (decide (v18 > 0)))] ?_
            cases c1 : (decide (v18 > 0) : Bool) with
            | true =>
              refine RD 6 45 [(4, 0)] [(0, .ro .unk x0.length (TSegment.cl x0)), (2, .val (.func (.func 36) #[] #[])), (3, .val (.func (.func 90) #[] #[])), (9, iA v18), (10, .ptr 0 0), (16, .ro .unk x0.length (TSegment.cl x0)), (17, iA (lI x0)), (18, iA v18), (29, iA v18), (30, bA true), (31, bA true), (32, .val (.func (.func 90) #[] #[])), (33, .agg (TSegment.cs v20)), (35, .val (.func (.func 90) #[] #[])), (36, .ro .unk x0.length (TSegment.cl x0)), (37, iA v18), (38, iA (w64 (v18 - 1)))] ?_
              have hv23_ := cond_t hv23 (by simp only [c1] <;> rfl)
              refine AD_index (d := (some 39)) (sz := 9) (c := TSegment.cs) (by kernel_rfl) rfl (eq_TSegment_cl _) (fun _ => rfl) (by decide) hv23_ (fun tl23 => ?_)
              refine RD 1 45 [(4, 0)] [(0, .ro .unk x0.length (TSegment.cl x0)), (2, .val (.func (.func 36) #[] #[])), (3, .val (.func (.func 90) #[] #[])), (9, iA v18), (10, .ptr 0 0), (16, .ro .unk x0.length (TSegment.cl x0)), (17, iA (lI x0)), (18, iA v18), (29, iA v18), (30, bA true), (31, bA true), (32, .val (.func (.func 90) #[] #[])), (33, .agg (TSegment.cs v20)), (35, .val (.func (.func 90) #[] #[])), (36, .ro .unk x0.length (TSegment.cl x0)), (37, iA v18), (38, iA (w64 (v18 - 1))), (39, .rop ([sA v23.gKey, sA v23.gKind, .ro .unk v23.gInclude.length (cl_str v23.gInclude), .ro .unk v23.gExclude.length (cl_str v23.gExclude), iA v23.gWhen.gOp, sA v23.gWhen.gKind, sA v23.gWhen.gName, .ro .unk v23.gWhen.gValues.length (TValue.cl v23.gWhen.gValues), .ro .unk v23.gWhen.gKids.length (TExpr.cl v23.gWhen.gKids)] ++ tl23)), (40, .agg (TSegment.cs v23))] ?_
              have hv24_ := cond_t hv24 (by simp only [c1] <;> rfl)
              refine AD_callp (d := (some 34)) (al := [.agg (TSegment.cs v20)]) (r := sA v24) (by kernel_rfl) (s_shape_Environment_1 hv24_) ⟨(sc_TSegment_cs _ _), trivial⟩ trivial ?_
              have hv25_ := cond_t hv25 (by simp only [c1] <;> rfl)
              refine AD_callp (d := (some 41)) (al := [.agg (TSegment.cs v23)]) (r := sA v25) (by kernel_rfl) (s_shape_Environment_1 hv25_) ⟨(sc_TSegment_cs _ _), trivial⟩ trivial ?_
              refine RD 2 45 [(4, 0)] [(0, .ro .unk x0.length (TSegment.cl x0)), (2, .val (.func (.func 36) #[] #[])), (3, .val (.func (.func 90) #[] #[])), (9, iA v18), (10, .ptr 0 0), (16, .ro .unk x0.length (TSegment.cl x0)), (17, iA (lI x0)), (18, iA v18), (29, iA v18), (30, bA true), (31, bA true), (32, .val (.func (.func 90) #[] #[])), (33, .agg (TSegment.cs v20)), (34, sA v24), (35, .val (.func (.func 90) #[] #[])), (36, .ro .unk x0.length (TSegment.cl x0)), (37, iA v18), (38, iA (w64 (v18 - 1))), (39, .rop ([sA v23.gKey, sA v23.gKind, .ro .unk v23.gInclude.length (cl_str v23.gInclude), .ro .unk v23.gExclude.length (cl_str v23.gExclude), iA v23.gWhen.gOp, sA v23.gWhen.gKind, sA v23.gWhen.gName, .ro .unk v23.gWhen.gValues.length (TValue.cl v23.gWhen.gValues), .ro .unk v23.gWhen.gKids.length (TExpr.cl v23.gWhen.gKids)] ++ tl23)), (40, .agg (TSegment.cs v23)), (41, sA v25), (42, bA (sle' v24 v25)), (43, bA (true && (sle' v24 v25)))] ?_
              exact AD_here [0, 2, 3, 16, 17, 18, 43] (by kernel_rfl) rfl
            | false =>
              refine RD 8 45 [] [(0, .ro .unk x0.length (TSegment.cl x0)), (2, .val (.func (.func 36) #[] #[])), (3, .val (.func (.func 90) #[] #[])), (9, iA v18), (10, .ptr 0 0), (16, .ro .unk x0.length (TSegment.cl x0)), (17, iA (lI x0)), (18, iA v18), (29, iA v18), (30, bA false), (31, bA false), (32, undefA), (33, undefA), (35, undefA), (36, undefA), (37, undefA), (38, undefA), (39, undefA), (40, undefA)] (AD_offB (d := some 34) (by kernel_rfl) ?_)
              refine AD_offB (d := some 41) (by kernel_rfl) ?_
              refine RD 2 45 [] [(0, .ro .unk x0.length (TSegment.cl x0)), (2, .val (.func (.func 36) #[] #[])), (3, .val (.func (.func 90) #[] #[])), (9, iA v18), (10, .ptr 0 0), (16, .ro .unk x0.length (TSegment.cl x0)), (17, iA (lI x0)), (18, iA v18), (29, iA v18), (30, bA false), (31, bA false), (32, undefA), (33, undefA), (34, undefA), (35, undefA), (36, undefA), (37, undefA), (38, undefA), (39, undefA), (40, undefA), (41, undefA), (42, undefA), (43, bA (false && (sle' v24 v25)))] ?_
              exact AD_here [0, 2, 3, 16, 17, 18, 43] (by kernel_rfl) rfl
          refine CD H (fun hb26 H => ?_) (fun hb26 H => ?_)
          · refine AWP_reg (Rh 1 45 [(8, iA 9)] (AOps_done ?_))
            exact AWP_ret (FR H)
          · refine AWP_skip ?_
            show AWP _ _ _ _ _ _ _
            refine AWP_region ?_
            refine Rh 2 45 [(0, .ro .unk x0.length (TSegment.cl x0)), (2, .val (.func (.func 36) #[] #[])), (3, .val (.func (.func 90) #[] #[])), (16, .ro .unk x0.length (TSegment.cl x0)), (17, iA (lI x0)), (18, iA (w64 (v18 + 1)))] (AOps_done ?_)
            exact Exists.intro (w64 (v18 + 1)) (Exists.intro n ⟨by omega, ⟨by omega, H⟩, Norm_fd [0, 2, 3, 16, 17, 18] 1 (by kernel_rfl) rfl rfl trivial (by refine scL_fr ?_; exact ⟨(scl_TSegment_cl _ _), trivial, trivial, (scl_TSegment_cl _ _), trivial, trivial, trivial⟩)⟩)
      · refine AWP_exit ?_
        show AWP _ _ _ _ _ _ _
        refine AWP_reg (Rh 1 45 [(8, iA 0)] (AOps_done ?_))
        exact AWP_ret (FR H)
theorem s_shape_Environment_2 {n : Nat} {x0 : TFlag} {r : ByteArray} (H : p_shape_Environment_2 n x0 = some r) :
    Sp Tryz.prog E 92 [.agg (TFlag.cs x0)] [] (isA (sA r) []) := by
  unfold p_shape_Environment_2 at H
  refine Sp_fn Tryz.func92 rfl (fun hc hs => ?_)
  refine AWP_reg (R 2 5 [(1, .ptr 0 0)] [.cells 65 (TFlag.cs x0)] (AOps_done (AWP_reg (Rh 3 5 [(2, sA x0.gKey)] (AOps_done ?_)))))
  exact AWP_ret (FR H)
theorem s_shape_list_api_Flag {n : Nat} (hG : GlobT E) {x0 : List TFlag} {x1 : Int} {r : Int} (H : p_shape_list_api_Flag n x0 x1 = some r) :
    Sp Tryz.prog E 91 [.ro .unk x0.length (TFlag.cl x0), iA x1, .val (.func (.func 34) #[] #[]), .val (.func (.func 92) #[] #[])] [] (isA (iA r) []) := by
  unfold p_shape_list_api_Flag at H
  refine Sp_fn Tryz.func91 rfl (fun hc hs => ?_)
  refine AWP_reg (Rh 1 45 [(0, .ro .unk x0.length (TFlag.cl x0)), (1, iA x1), (2, .val (.func (.func 34) #[] #[])), (3, .val (.func (.func 92) #[] #[]))] (AOps_done (AWP_seq (AWP_reg (Rh 4 45 [(0, .ro .unk x0.length (TFlag.cl x0)), (2, .val (.func (.func 34) #[] #[])), (3, .val (.func (.func 92) #[] #[])), (15, bA (decide ((lI x0) > x1)))] (AOps_done (CD H (fun hb1 H => ?_) (fun hb1 H => ?_))))))))
  · refine AWP_reg (Rh 1 45 [(8, iA 5)] (AOps_done ?_))
    exact AWP_ret (FR H)
  · refine AWP_skip ?_
    show AWP _ _ _ _ _ _ _
    refine AWP_seq (AWP_reg (Rh 3 45 [(0, .ro .unk x0.length (TFlag.cl x0)), (2, .val (.func (.func 34) #[] #[])), (3, .val (.func (.func 92) #[] #[])), (16, .ro .unk x0.length (TFlag.cl x0)), (17, iA (lI x0)), (18, iA 0)] (AOps_done (AWP_block ?_))))
    refine AWP_loopN (α := Int) (fun v18 => fr 45 [(0, .ro .unk x0.length (TFlag.cl x0)), (2, .val (.func (.func 34) #[] #[])), (3, .val (.func (.func 92) #[] #[])), (16, .ro .unk x0.length (TFlag.cl x0)), (17, iA (lI x0)), (18, iA v18)]) (fun v18 => []) (fun k_ v18 => k_ ≤ n ∧ p_shape_list_api_Flag_L1 k_ x0 v18 = some r) (fun n v18 H => ?_) (k := n) 0 ⟨Nat.le_refl _, H⟩ (Norm_fd [0, 2, 3, 16, 17, 18] 0 (by kernel_rfl) rfl rfl trivial (by refine scL_fr ?_; exact ⟨(scl_TFlag_cl _ _), trivial, trivial, (scl_TFlag_cl _ _), trivial, trivial, trivial⟩))
    show AWP _ _ _ _ _ (fr 45 [(0, .ro .unk x0.length (TFlag.cl x0)), (2, .val (.func (.func 34) #[] #[])), (3, .val (.func (.func 92) #[] #[])), (16, .ro .unk x0.length (TFlag.cl x0)), (17, iA (lI x0)), (18, iA v18)]) []
    obtain ⟨hb_, H⟩ := H
    replace H : p_shape_list_api_Flag_L1 n x0 v18 = some r := H
    cases n with
    | zero => exact not_none (by simpa only [p_shape_list_api_Flag_L1] using H)
    | succ n =>
      unfold p_shape_list_api_Flag_L1 at H
      refine AWP_reg (Rh 1 45 [(0, .ro .unk x0.length (TFlag.cl x0)), (2, .val (.func (.func 34) #[] #[])), (3, .val (.func (.func 92) #[] #[])), (16, .ro .unk x0.length (TFlag.cl x0)), (17, iA (lI x0)), (18, iA v18), (19, bA (decide (v18 < (lI x0))))] (AOps_done (AWP_seq (CD H (fun hb19 H => ?_) (fun hb19 H => ?_)))))
      · refine AWP_skip ?_
        show AWP _ _ _ _ _ _ _
        refine AWP_seq (AWP_block ?_)
        refine AWP_reg (Rh 1 45 [(0, .ro .unk x0.length (TFlag.cl x0)), (2, .val (.func (.func 34) #[] #[])), (3, .val (.func (.func 92) #[] #[])), (16, .ro .unk x0.length (TFlag.cl x0)), (17, iA (lI x0)), (18, iA v18), (20, iA v18)] ?_)
        obtain ⟨v20, hv20, H⟩ := bind_some H
        refine AOps_index (d := (some 21)) (sz := 13) (c := TFlag.cs) (by kernel_rfl) rfl (eq_TFlag_cl _) (fun _ => rfl) (by decide) hv20 (fun tl20 => ?_)
        refine R 4 45 [(0, .ro .unk x0.length (TFlag.cl x0)), (2, .val (.func (.func 34) #[] #[])), (3, .val (.func (.func 92) #[] #[])), (9, iA v18), (10, .ptr 0 0), (16, .ro .unk x0.length (TFlag.cl x0)), (17, iA (lI x0)), (18, iA v18)] [.cells 65 (TFlag.cs v20)] (AOps_done (AWP_seq (AWP_reg (Rh 2 45 [(0, .ro .unk x0.length (TFlag.cl x0)), (2, .val (.func (.func 34) #[] #[])), (3, .val (.func (.func 92) #[] #[])), (9, iA v18), (10, .ptr 0 0), (16, .ro .unk x0.length (TFlag.cl x0)), (17, iA (lI x0)), (18, iA v18), (23, .val (.func (.func 34) #[] #[])), (24, .agg (TFlag.cs v20))] ?_))))
        obtain ⟨v21, hv21, H⟩ := bind_some H
        refine AOps_callp (d := (some 25)) (al := [.agg (TFlag.cs v20)]) (r := iA v21) (by kernel_rfl) (s_shape_Flag hG hv21) ⟨(sc_TFlag_cs _ _), trivial⟩ trivial ?_
        refine Rh 1 45 [(0, .ro .unk x0.length (TFlag.cl x0)), (2, .val (.func (.func 34) #[] #[])), (3, .val (.func (.func 92) #[] #[])), (9, iA v18), (10, .ptr 0 0), (11, iA v21), (16, .ro .unk x0.length (TFlag.cl x0)), (17, iA (lI x0)), (18, iA v18)] (AOps_done (AWP_reg (Rh 2 45 [(0, .ro .unk x0.length (TFlag.cl x0)), (2, .val (.func (.func 34) #[] #[])), (3, .val (.func (.func 92) #[] #[])), (9, iA v18), (10, .ptr 0 0), (11, iA v21), (16, .ro .unk x0.length (TFlag.cl x0)), (17, iA (lI x0)), (18, iA v18), (27, bA (v21 != 0))] (AOps_done (CD H (fun hb22 H => ?_) (fun hb22 H => ?_))))))
        · refine AWP_reg (Rh 2 45 [(8, iA v21)] (AOps_done ?_))
          exact AWP_ret (FR H)
        · refine AWP_skip ?_
          show AWP _ _ _ _ _ _ _
          obtain ⟨v23, hv23, H⟩ := bind_some H
          obtain ⟨v24, hv24, H⟩ := bind_some H
          obtain ⟨v25, hv25, H⟩ := bind_some H
          refine AWP_regD1 [0, 1, 2, 3, 4, 6, 7, 8, 9, 10, 11, 5, 12, 13, 14] (N := 45) (f := [(0, .ro .unk x0.length (TFlag.cl x0)), (2, .val (.func (.func 34) #[] #[])), (3, .val (.func (.func 92) #[] #[])), (9, iA v18), (10, .ptr 0 0), (16, .ro .unk x0.length (TFlag.cl x0)), (17, iA (lI x0)), (18, iA v18)]) (leL_of [0, 2, 3, 9, 10, 16, 17, 18] (by kernel_rfl)) mixed (by kernel_rfl) (by kernel_rfl) (st' := fr 45 [(0, .ro .unk x0.length (TFlag.cl x0)), (2, .val (.func (.func 34) #[] #[])), (3, .val (.func (.func 92) #[] #[])), (16, .ro .unk x0.length (TFlag.cl x0)), (17, iA (lI x0)), (18, iA v18), (43, bA ((decide (v18 > 0)) && (sle' v24 v25)))]) (h' := [.cells 65 (TFlag.cs v20)]) ?_ ?_
          rotate_left
          · refine RD 3 45 [] [(0, .ro .unk x0.length (TFlag.cl x0)), (2, .val (.func (.func 34) #[] #[])), (3, .val (.func (.func 92) #[] #[])), (9, iA v18), (10, .ptr 0 0), (16, .ro .unk x0.length (TFlag.cl x0)), (17, iA (lI x0)), (18, iA v18), (29, iA v18), (30, bA (decide (v18 > 0))), (31, bA (decide (v18 > 0)))] ?_
            cases c1 : (decide (v18 > 0) : Bool) with
            | true =>
              refine RD 6 45 [(4, 0)] [(0, .ro .unk x0.length (TFlag.cl x0)), (2, .val (.func (.func 34) #[] #[])), (3, .val (.func (.func 92) #[] #[])), (9, iA v18), (10, .ptr 0 0), (16, .ro .unk x0.length (TFlag.cl x0)), (17, iA (lI x0)), (18, iA v18), (29, iA v18), (30, bA true), (31, bA true), (32, .val (.func (.func 92) #[] #[])), (33, .agg (TFlag.cs v20)), (35, .val (.func (.func 92) #[] #[])), (36, .ro .unk x0.length (TFlag.cl x0)), (37, iA v18), (38, iA (w64 (v18 - 1)))] ?_
              have hv23_ := cond_t hv23 (by simp only [c1] <;> rfl)
              refine AD_index (d := (some 39)) (sz := 13) (c := TFlag.cs) (by kernel_rfl) rfl (eq_TFlag_cl _) (fun _ => rfl) (by decide) hv23_ (fun tl23 => ?_)
              refine RD 1 45 [(4, 0)] [(0, .ro .unk x0.length (TFlag.cl x0)), (2, .val (.func (.func 34) #[] #[])), (3, .val (.func (.func 92) #[] #[])), (9, iA v18), (10, .ptr 0 0), (16, .ro .unk x0.length (TFlag.cl x0)), (17, iA (lI x0)), (18, iA v18), (29, iA v18), (30, bA true), (31, bA true), (32, .val (.func (.func 92) #[] #[])), (33, .agg (TFlag.cs v20)), (35, .val (.func (.func 92) #[] #[])), (36, .ro .unk x0.length (TFlag.cl x0)), (37, iA v18), (38, iA (w64 (v18 - 1))), (39, .rop ([sA v23.gKey, iA v23.gKind, .ro .unk v23.gVariations.length (TValue.cl v23.gVariations), bA v23.gOn, iA v23.gOff, .ro .unk v23.gPrerequisites.length (TPrerequisite.cl v23.gPrerequisites), .ro .unk v23.gTargets.length (TTarget.cl v23.gTargets), .ro .unk v23.gRules.length (TRule.cl v23.gRules), iA v23.gDefault.gVariation, sA v23.gDefault.gKind, sA v23.gDefault.gBy, sA v23.gDefault.gSalt, .ro .unk v23.gDefault.gSplit.length (TRange.cl v23.gDefault.gSplit)] ++ tl23)), (40, .agg (TFlag.cs v23))] ?_
              have hv24_ := cond_t hv24 (by simp only [c1] <;> rfl)
              refine AD_callp (d := (some 34)) (al := [.agg (TFlag.cs v20)]) (r := sA v24) (by kernel_rfl) (s_shape_Environment_2 hv24_) ⟨(sc_TFlag_cs _ _), trivial⟩ trivial ?_
              have hv25_ := cond_t hv25 (by simp only [c1] <;> rfl)
              refine AD_callp (d := (some 41)) (al := [.agg (TFlag.cs v23)]) (r := sA v25) (by kernel_rfl) (s_shape_Environment_2 hv25_) ⟨(sc_TFlag_cs _ _), trivial⟩ trivial ?_
              refine RD 2 45 [(4, 0)] [(0, .ro .unk x0.length (TFlag.cl x0)), (2, .val (.func (.func 34) #[] #[])), (3, .val (.func (.func 92) #[] #[])), (9, iA v18), (10, .ptr 0 0), (16, .ro .unk x0.length (TFlag.cl x0)), (17, iA (lI x0)), (18, iA v18), (29, iA v18), (30, bA true), (31, bA true), (32, .val (.func (.func 92) #[] #[])), (33, .agg (TFlag.cs v20)), (34, sA v24), (35, .val (.func (.func 92) #[] #[])), (36, .ro .unk x0.length (TFlag.cl x0)), (37, iA v18), (38, iA (w64 (v18 - 1))), (39, .rop ([sA v23.gKey, iA v23.gKind, .ro .unk v23.gVariations.length (TValue.cl v23.gVariations), bA v23.gOn, iA v23.gOff, .ro .unk v23.gPrerequisites.length (TPrerequisite.cl v23.gPrerequisites), .ro .unk v23.gTargets.length (TTarget.cl v23.gTargets), .ro .unk v23.gRules.length (TRule.cl v23.gRules), iA v23.gDefault.gVariation, sA v23.gDefault.gKind, sA v23.gDefault.gBy, sA v23.gDefault.gSalt, .ro .unk v23.gDefault.gSplit.length (TRange.cl v23.gDefault.gSplit)] ++ tl23)), (40, .agg (TFlag.cs v23)), (41, sA v25), (42, bA (sle' v24 v25)), (43, bA (true && (sle' v24 v25)))] ?_
              exact AD_here [0, 2, 3, 16, 17, 18, 43] (by kernel_rfl) rfl
            | false =>
              refine RD 8 45 [] [(0, .ro .unk x0.length (TFlag.cl x0)), (2, .val (.func (.func 34) #[] #[])), (3, .val (.func (.func 92) #[] #[])), (9, iA v18), (10, .ptr 0 0), (16, .ro .unk x0.length (TFlag.cl x0)), (17, iA (lI x0)), (18, iA v18), (29, iA v18), (30, bA false), (31, bA false), (32, undefA), (33, undefA), (35, undefA), (36, undefA), (37, undefA), (38, undefA), (39, undefA), (40, undefA)] (AD_offB (d := some 34) (by kernel_rfl) ?_)
              refine AD_offB (d := some 41) (by kernel_rfl) ?_
              refine RD 2 45 [] [(0, .ro .unk x0.length (TFlag.cl x0)), (2, .val (.func (.func 34) #[] #[])), (3, .val (.func (.func 92) #[] #[])), (9, iA v18), (10, .ptr 0 0), (16, .ro .unk x0.length (TFlag.cl x0)), (17, iA (lI x0)), (18, iA v18), (29, iA v18), (30, bA false), (31, bA false), (32, undefA), (33, undefA), (34, undefA), (35, undefA), (36, undefA), (37, undefA), (38, undefA), (39, undefA), (40, undefA), (41, undefA), (42, undefA), (43, bA (false && (sle' v24 v25)))] ?_
              exact AD_here [0, 2, 3, 16, 17, 18, 43] (by kernel_rfl) rfl
          refine CD H (fun hb26 H => ?_) (fun hb26 H => ?_)
          · refine AWP_reg (Rh 1 45 [(8, iA 9)] (AOps_done ?_))
            exact AWP_ret (FR H)
          · refine AWP_skip ?_
            show AWP _ _ _ _ _ _ _
            refine AWP_region ?_
            refine Rh 2 45 [(0, .ro .unk x0.length (TFlag.cl x0)), (2, .val (.func (.func 34) #[] #[])), (3, .val (.func (.func 92) #[] #[])), (16, .ro .unk x0.length (TFlag.cl x0)), (17, iA (lI x0)), (18, iA (w64 (v18 + 1)))] (AOps_done ?_)
            exact Exists.intro (w64 (v18 + 1)) (Exists.intro n ⟨by omega, ⟨by omega, H⟩, Norm_fd [0, 2, 3, 16, 17, 18] 1 (by kernel_rfl) rfl rfl trivial (by refine scL_fr ?_; exact ⟨(scl_TFlag_cl _ _), trivial, trivial, (scl_TFlag_cl _ _), trivial, trivial, trivial⟩)⟩)
      · refine AWP_exit ?_
        show AWP _ _ _ _ _ _ _
        refine AWP_reg (Rh 1 45 [(8, iA 0)] (AOps_done ?_))
        exact AWP_ret (FR H)
theorem s_shape_Environment_3 {n : Nat} {x0 : TLayer} {r : ByteArray} (H : p_shape_Environment_3 n x0 = some r) :
    Sp Tryz.prog E 94 [.agg (TLayer.cs x0)] [] (isA (sA r) []) := by
  unfold p_shape_Environment_3 at H
  refine Sp_fn Tryz.func94 rfl (fun hc hs => ?_)
  refine AWP_reg (R 2 5 [(1, .ptr 0 0)] [.cells 74 (TLayer.cs x0)] (AOps_done (AWP_reg (Rh 3 5 [(2, sA x0.gKey)] (AOps_done ?_)))))
  exact AWP_ret (FR H)
end Go.Proofs.YtjhbobacbaikoaaGreatDoor
/- Functions of the program as pure functions, and that the program computes these. -/
namespace Go.Proofs.YtjhbobacbaikoaaGreatDoor
open Go
set_option linter.unusedVariables false
set_option linter.unusedSimpArgs false
set_option maxRecDepth 100000
def p_shape_list_api_Layer_L1 (n : Nat) (x0 : List TLayer) (v18 : Int) : Option Int := match n with
| 0 => none
| n + 1 =>
(bif decide (v18 < (lI x0)) then
(rdO x0 v18).bind fun v20 =>
(p_shape_Layer n v20).bind fun v21 =>
(bif v21 != 0 then
 some (v21)
 else
(bif decide (v18 > 0) then rdO x0 (w64 (v18 - 1)) else some ({ gKey := ByteArray.empty, gKind := ByteArray.empty, gSalt := ByteArray.empty, gHoldout := 0, gCool := 0, gCooling := [] } : TLayer)).bind fun v23 =>
(bif decide (v18 > 0) then p_shape_Environment_3 n v20 else some (ByteArray.empty)).bind fun v24 =>
(bif decide (v18 > 0) then p_shape_Environment_3 n v23 else some (ByteArray.empty)).bind fun v25 =>
(bif (decide (v18 > 0)) && (sle' v24 v25) then
 some (9)
 else
 p_shape_list_api_Layer_L1 n x0 (w64 (v18 + 1))))
 else
 some (0))
def p_shape_list_api_Layer (n : Nat) (x0 : List TLayer) (x1 : Int) : Option Int :=
(bif decide ((lI x0) > x1) then
 some (5)
 else
 p_shape_list_api_Layer_L1 n x0 0)
def p_shape_Environment_4 (n : Nat) (x0 : TExperiment) : Option ByteArray :=
 some (x0.gKey)
def p_shape_list_api_Experiment_L1 (n : Nat) (x0 : List TExperiment) (v18 : Int) : Option Int := match n with
| 0 => none
| n + 1 =>
(bif decide (v18 < (lI x0)) then
(rdO x0 v18).bind fun v20 =>
(p_shape_Experiment n v20).bind fun v21 =>
(bif v21 != 0 then
 some (v21)
 else
(bif decide (v18 > 0) then rdO x0 (w64 (v18 - 1)) else some ({ gKey := ByteArray.empty, gLayer := ByteArray.empty, gFlag := ByteArray.empty, gSalt := ByteArray.empty, gStatus := 0, gClaims := [], gArms := [], gWhen := (TExpr.mk 0 ByteArray.empty ByteArray.empty ([]) ([])) } : TExperiment)).bind fun v23 =>
(bif decide (v18 > 0) then p_shape_Environment_4 n v20 else some (ByteArray.empty)).bind fun v24 =>
(bif decide (v18 > 0) then p_shape_Environment_4 n v23 else some (ByteArray.empty)).bind fun v25 =>
(bif (decide (v18 > 0)) && (sle' v24 v25) then
 some (9)
 else
 p_shape_list_api_Experiment_L1 n x0 (w64 (v18 + 1))))
 else
 some (0))
def p_shape_list_api_Experiment (n : Nat) (x0 : List TExperiment) (x1 : Int) : Option Int :=
(bif decide ((lI x0) > x1) then
 some (5)
 else
 p_shape_list_api_Experiment_L1 n x0 0)
def p_shape_Environment (n : Nat) (x0 : TEnvironment) : Option Int :=
(p_text_Valid n x0.gSettings.gSalt).bind fun v1 =>
(p_shape_when n (!v1) 2).bind fun v2 =>
(p_shape_when n ((decide (x0.gSettings.gHoldout < 0)) || (decide (x0.gSettings.gHoldout > 10000))) 3).bind fun v3 =>
(p_text_Key n x0.gSettings.gHoldoutKind).bind fun v4 =>
(p_shape_when n ((!v4) && ((!(seq' x0.gSettings.gHoldoutKind ByteArray.empty)) || (x0.gSettings.gHoldout != 0))) 6).bind fun v5 =>
(p_shape_attributes n x0.gAttributes).bind fun v6 =>
(p_shape_first n ([v2, v3, v5, v6])).bind fun v7 =>
(bif v7 != 0 then
 some (v7)
 else
(p_shape_list_api_Segment n x0.gSegments 20).bind fun v9 =>
(bif v9 != 0 then
 some (v9)
 else
(p_shape_list_api_Flag n x0.gFlags 30).bind fun v11 =>
(bif v11 != 0 then
 some (v11)
 else
(p_shape_list_api_Layer n x0.gLayers 6).bind fun v13 =>
(bif v13 != 0 then
 some (v13)
 else
(p_shape_list_api_Experiment n x0.gExperiments 16).bind fun v15 =>
 some (v15)))))
def p_law6_awake (n : Nat)  : Option Bool :=
(p_shape_Environment n ({ gSettings := ({ gSalt := ByteArray.empty, gHoldoutKind := ByteArray.empty, gHoldout := 0 } : TSettings), gAttributes := [], gSegments := [], gFlags := [], gLayers := [], gExperiments := [] } : TEnvironment)).bind fun v1 =>
(bif v1 == 0 then p_shape_Split n ([({ gFrom := 0, gTo := 10000, gVariation := 2 } : TRange)]) 2 else some (0)).bind fun v2 =>
(bif (v1 == 0) && (v2 == 0) then p_shape_Split n ([({ gFrom := 0, gTo := 10000, gVariation := 2 } : TRange)]) 1 else some (0)).bind fun v3 =>
 some (((v1 == 0) && (v2 == 0)) && (v3 == 3))
variable {E : Env}
theorem s_shape_list_api_Layer {n : Nat} (hG : GlobT E) {x0 : List TLayer} {x1 : Int} {r : Int} (H : p_shape_list_api_Layer n x0 x1 = some r) :
    Sp Tryz.prog E 93 [.ro .unk x0.length (TLayer.cl x0), iA x1, .val (.func (.func 38) #[] #[]), .val (.func (.func 94) #[] #[])] [] (isA (iA r) []) := by
  unfold p_shape_list_api_Layer at H
  refine Sp_fn Tryz.func93 rfl (fun hc hs => ?_)
  refine AWP_reg (Rh 1 45 [(0, .ro .unk x0.length (TLayer.cl x0)), (1, iA x1), (2, .val (.func (.func 38) #[] #[])), (3, .val (.func (.func 94) #[] #[]))] (AOps_done (AWP_seq (AWP_reg (Rh 4 45 [(0, .ro .unk x0.length (TLayer.cl x0)), (2, .val (.func (.func 38) #[] #[])), (3, .val (.func (.func 94) #[] #[])), (15, bA (decide ((lI x0) > x1)))] (AOps_done (CD H (fun hb1 H => ?_) (fun hb1 H => ?_))))))))
  · refine AWP_reg (Rh 1 45 [(8, iA 5)] (AOps_done ?_))
    exact AWP_ret (FR H)
  · refine AWP_skip ?_
    show AWP _ _ _ _ _ _ _
    refine AWP_seq (AWP_reg (Rh 3 45 [(0, .ro .unk x0.length (TLayer.cl x0)), (2, .val (.func (.func 38) #[] #[])), (3, .val (.func (.func 94) #[] #[])), (16, .ro .unk x0.length (TLayer.cl x0)), (17, iA (lI x0)), (18, iA 0)] (AOps_done (AWP_block ?_))))
    refine AWP_loopN (α := Int) (fun v18 => fr 45 [(0, .ro .unk x0.length (TLayer.cl x0)), (2, .val (.func (.func 38) #[] #[])), (3, .val (.func (.func 94) #[] #[])), (16, .ro .unk x0.length (TLayer.cl x0)), (17, iA (lI x0)), (18, iA v18)]) (fun v18 => []) (fun k_ v18 => k_ ≤ n ∧ p_shape_list_api_Layer_L1 k_ x0 v18 = some r) (fun n v18 H => ?_) (k := n) 0 ⟨Nat.le_refl _, H⟩ (Norm_fd [0, 2, 3, 16, 17, 18] 0 (by kernel_rfl) rfl rfl trivial (by refine scL_fr ?_; exact ⟨(scl_TLayer_cl _ _), trivial, trivial, (scl_TLayer_cl _ _), trivial, trivial, trivial⟩))
    show AWP _ _ _ _ _ (fr 45 [(0, .ro .unk x0.length (TLayer.cl x0)), (2, .val (.func (.func 38) #[] #[])), (3, .val (.func (.func 94) #[] #[])), (16, .ro .unk x0.length (TLayer.cl x0)), (17, iA (lI x0)), (18, iA v18)]) []
    obtain ⟨hb_, H⟩ := H
    replace H : p_shape_list_api_Layer_L1 n x0 v18 = some r := H
    cases n with
    | zero => exact not_none (by simpa only [p_shape_list_api_Layer_L1] using H)
    | succ n =>
      unfold p_shape_list_api_Layer_L1 at H
      refine AWP_reg (Rh 1 45 [(0, .ro .unk x0.length (TLayer.cl x0)), (2, .val (.func (.func 38) #[] #[])), (3, .val (.func (.func 94) #[] #[])), (16, .ro .unk x0.length (TLayer.cl x0)), (17, iA (lI x0)), (18, iA v18), (19, bA (decide (v18 < (lI x0))))] (AOps_done (AWP_seq (CD H (fun hb19 H => ?_) (fun hb19 H => ?_)))))
      · refine AWP_skip ?_
        show AWP _ _ _ _ _ _ _
        refine AWP_seq (AWP_block ?_)
        refine AWP_reg (Rh 1 45 [(0, .ro .unk x0.length (TLayer.cl x0)), (2, .val (.func (.func 38) #[] #[])), (3, .val (.func (.func 94) #[] #[])), (16, .ro .unk x0.length (TLayer.cl x0)), (17, iA (lI x0)), (18, iA v18), (20, iA v18)] ?_)
        obtain ⟨v20, hv20, H⟩ := bind_some H
        refine AOps_index (d := (some 21)) (sz := 6) (c := TLayer.cs) (by kernel_rfl) rfl (eq_TLayer_cl _) (fun _ => rfl) (by decide) hv20 (fun tl20 => ?_)
        refine R 4 45 [(0, .ro .unk x0.length (TLayer.cl x0)), (2, .val (.func (.func 38) #[] #[])), (3, .val (.func (.func 94) #[] #[])), (9, iA v18), (10, .ptr 0 0), (16, .ro .unk x0.length (TLayer.cl x0)), (17, iA (lI x0)), (18, iA v18)] [.cells 74 (TLayer.cs v20)] (AOps_done (AWP_seq (AWP_reg (Rh 2 45 [(0, .ro .unk x0.length (TLayer.cl x0)), (2, .val (.func (.func 38) #[] #[])), (3, .val (.func (.func 94) #[] #[])), (9, iA v18), (10, .ptr 0 0), (16, .ro .unk x0.length (TLayer.cl x0)), (17, iA (lI x0)), (18, iA v18), (23, .val (.func (.func 38) #[] #[])), (24, .agg (TLayer.cs v20))] ?_))))
        obtain ⟨v21, hv21, H⟩ := bind_some H
        refine AOps_callp (d := (some 25)) (al := [.agg (TLayer.cs v20)]) (r := iA v21) (by kernel_rfl) (s_shape_Layer hG hv21) ⟨(sc_TLayer_cs _ _), trivial⟩ trivial ?_
        refine Rh 1 45 [(0, .ro .unk x0.length (TLayer.cl x0)), (2, .val (.func (.func 38) #[] #[])), (3, .val (.func (.func 94) #[] #[])), (9, iA v18), (10, .ptr 0 0), (11, iA v21), (16, .ro .unk x0.length (TLayer.cl x0)), (17, iA (lI x0)), (18, iA v18)] (AOps_done (AWP_reg (Rh 2 45 [(0, .ro .unk x0.length (TLayer.cl x0)), (2, .val (.func (.func 38) #[] #[])), (3, .val (.func (.func 94) #[] #[])), (9, iA v18), (10, .ptr 0 0), (11, iA v21), (16, .ro .unk x0.length (TLayer.cl x0)), (17, iA (lI x0)), (18, iA v18), (27, bA (v21 != 0))] (AOps_done (CD H (fun hb22 H => ?_) (fun hb22 H => ?_))))))
        · refine AWP_reg (Rh 2 45 [(8, iA v21)] (AOps_done ?_))
          exact AWP_ret (FR H)
        · refine AWP_skip ?_
          show AWP _ _ _ _ _ _ _
          obtain ⟨v23, hv23, H⟩ := bind_some H
          obtain ⟨v24, hv24, H⟩ := bind_some H
          obtain ⟨v25, hv25, H⟩ := bind_some H
          refine AWP_regD1 [0, 1, 2, 3, 4, 6, 7, 8, 9, 10, 11, 5, 12, 13, 14] (N := 45) (f := [(0, .ro .unk x0.length (TLayer.cl x0)), (2, .val (.func (.func 38) #[] #[])), (3, .val (.func (.func 94) #[] #[])), (9, iA v18), (10, .ptr 0 0), (16, .ro .unk x0.length (TLayer.cl x0)), (17, iA (lI x0)), (18, iA v18)]) (leL_of [0, 2, 3, 9, 10, 16, 17, 18] (by kernel_rfl)) mixed (by kernel_rfl) (by kernel_rfl) (st' := fr 45 [(0, .ro .unk x0.length (TLayer.cl x0)), (2, .val (.func (.func 38) #[] #[])), (3, .val (.func (.func 94) #[] #[])), (16, .ro .unk x0.length (TLayer.cl x0)), (17, iA (lI x0)), (18, iA v18), (43, bA ((decide (v18 > 0)) && (sle' v24 v25)))]) (h' := [.cells 74 (TLayer.cs v20)]) ?_ ?_
          rotate_left
          · refine RD 3 45 [] [(0, .ro .unk x0.length (TLayer.cl x0)), (2, .val (.func (.func 38) #[] #[])), (3, .val (.func (.func 94) #[] #[])), (9, iA v18), (10, .ptr 0 0), (16, .ro .unk x0.length (TLayer.cl x0)), (17, iA (lI x0)), (18, iA v18), (29, iA v18), (30, bA (decide (v18 > 0))), (31, bA (decide (v18 > 0)))] ?_
            cases c1 : (decide (v18 > 0) : Bool) with
            | true =>
              refine RD 6 45 [(4, 0)] [(0, .ro .unk x0.length (TLayer.cl x0)), (2, .val (.func (.func 38) #[] #[])), (3, .val (.func (.func 94) #[] #[])), (9, iA v18), (10, .ptr 0 0), (16, .ro .unk x0.length (TLayer.cl x0)), (17, iA (lI x0)), (18, iA v18), (29, iA v18), (30, bA true), (31, bA true), (32, .val (.func (.func 94) #[] #[])), (33, .agg (TLayer.cs v20)), (35, .val (.func (.func 94) #[] #[])), (36, .ro .unk x0.length (TLayer.cl x0)), (37, iA v18), (38, iA (w64 (v18 - 1)))] ?_
              have hv23_ := cond_t hv23 (by simp only [c1] <;> rfl)
              refine AD_index (d := (some 39)) (sz := 6) (c := TLayer.cs) (by kernel_rfl) rfl (eq_TLayer_cl _) (fun _ => rfl) (by decide) hv23_ (fun tl23 => ?_)
              refine RD 1 45 [(4, 0)] [(0, .ro .unk x0.length (TLayer.cl x0)), (2, .val (.func (.func 38) #[] #[])), (3, .val (.func (.func 94) #[] #[])), (9, iA v18), (10, .ptr 0 0), (16, .ro .unk x0.length (TLayer.cl x0)), (17, iA (lI x0)), (18, iA v18), (29, iA v18), (30, bA true), (31, bA true), (32, .val (.func (.func 94) #[] #[])), (33, .agg (TLayer.cs v20)), (35, .val (.func (.func 94) #[] #[])), (36, .ro .unk x0.length (TLayer.cl x0)), (37, iA v18), (38, iA (w64 (v18 - 1))), (39, .rop ([sA v23.gKey, sA v23.gKind, sA v23.gSalt, iA v23.gHoldout, iA v23.gCool, .ro .unk v23.gCooling.length (TCool.cl v23.gCooling)] ++ tl23)), (40, .agg (TLayer.cs v23))] ?_
              have hv24_ := cond_t hv24 (by simp only [c1] <;> rfl)
              refine AD_callp (d := (some 34)) (al := [.agg (TLayer.cs v20)]) (r := sA v24) (by kernel_rfl) (s_shape_Environment_3 hv24_) ⟨(sc_TLayer_cs _ _), trivial⟩ trivial ?_
              have hv25_ := cond_t hv25 (by simp only [c1] <;> rfl)
              refine AD_callp (d := (some 41)) (al := [.agg (TLayer.cs v23)]) (r := sA v25) (by kernel_rfl) (s_shape_Environment_3 hv25_) ⟨(sc_TLayer_cs _ _), trivial⟩ trivial ?_
              refine RD 2 45 [(4, 0)] [(0, .ro .unk x0.length (TLayer.cl x0)), (2, .val (.func (.func 38) #[] #[])), (3, .val (.func (.func 94) #[] #[])), (9, iA v18), (10, .ptr 0 0), (16, .ro .unk x0.length (TLayer.cl x0)), (17, iA (lI x0)), (18, iA v18), (29, iA v18), (30, bA true), (31, bA true), (32, .val (.func (.func 94) #[] #[])), (33, .agg (TLayer.cs v20)), (34, sA v24), (35, .val (.func (.func 94) #[] #[])), (36, .ro .unk x0.length (TLayer.cl x0)), (37, iA v18), (38, iA (w64 (v18 - 1))), (39, .rop ([sA v23.gKey, sA v23.gKind, sA v23.gSalt, iA v23.gHoldout, iA v23.gCool, .ro .unk v23.gCooling.length (TCool.cl v23.gCooling)] ++ tl23)), (40, .agg (TLayer.cs v23)), (41, sA v25), (42, bA (sle' v24 v25)), (43, bA (true && (sle' v24 v25)))] ?_
              exact AD_here [0, 2, 3, 16, 17, 18, 43] (by kernel_rfl) rfl
            | false =>
              refine RD 8 45 [] [(0, .ro .unk x0.length (TLayer.cl x0)), (2, .val (.func (.func 38) #[] #[])), (3, .val (.func (.func 94) #[] #[])), (9, iA v18), (10, .ptr 0 0), (16, .ro .unk x0.length (TLayer.cl x0)), (17, iA (lI x0)), (18, iA v18), (29, iA v18), (30, bA false), (31, bA false), (32, undefA), (33, undefA), (35, undefA), (36, undefA), (37, undefA), (38, undefA), (39, undefA), (40, undefA)] (AD_offB (d := some 34) (by kernel_rfl) ?_)
              refine AD_offB (d := some 41) (by kernel_rfl) ?_
              refine RD 2 45 [] [(0, .ro .unk x0.length (TLayer.cl x0)), (2, .val (.func (.func 38) #[] #[])), (3, .val (.func (.func 94) #[] #[])), (9, iA v18), (10, .ptr 0 0), (16, .ro .unk x0.length (TLayer.cl x0)), (17, iA (lI x0)), (18, iA v18), (29, iA v18), (30, bA false), (31, bA false), (32, undefA), (33, undefA), (34, undefA), (35, undefA), (36, undefA), (37, undefA), (38, undefA), (39, undefA), (40, undefA), (41, undefA), (42, undefA), (43, bA (false && (sle' v24 v25)))] ?_
              exact AD_here [0, 2, 3, 16, 17, 18, 43] (by kernel_rfl) rfl
          refine CD H (fun hb26 H => ?_) (fun hb26 H => ?_)
          · refine AWP_reg (Rh 1 45 [(8, iA 9)] (AOps_done ?_))
            exact AWP_ret (FR H)
          · refine AWP_skip ?_
            show AWP _ _ _ _ _ _ _
            refine AWP_region ?_
            refine Rh 2 45 [(0, .ro .unk x0.length (TLayer.cl x0)), (2, .val (.func (.func 38) #[] #[])), (3, .val (.func (.func 94) #[] #[])), (16, .ro .unk x0.length (TLayer.cl x0)), (17, iA (lI x0)), (18, iA (w64 (v18 + 1)))] (AOps_done ?_)
            exact Exists.intro (w64 (v18 + 1)) (Exists.intro n ⟨by omega, ⟨by omega, H⟩, Norm_fd [0, 2, 3, 16, 17, 18] 1 (by kernel_rfl) rfl rfl trivial (by refine scL_fr ?_; exact ⟨(scl_TLayer_cl _ _), trivial, trivial, (scl_TLayer_cl _ _), trivial, trivial, trivial⟩)⟩)
      · refine AWP_exit ?_
        show AWP _ _ _ _ _ _ _
        refine AWP_reg (Rh 1 45 [(8, iA 0)] (AOps_done ?_))
        exact AWP_ret (FR H)
theorem s_shape_Environment_4 {n : Nat} {x0 : TExperiment} {r : ByteArray} (H : p_shape_Environment_4 n x0 = some r) :
    Sp Tryz.prog E 96 [.agg (TExperiment.cs x0)] [] (isA (sA r) []) := by
  unfold p_shape_Environment_4 at H
  refine Sp_fn Tryz.func96 rfl (fun hc hs => ?_)
  refine AWP_reg (R 2 5 [(1, .ptr 0 0)] [.cells 42 (TExperiment.cs x0)] (AOps_done (AWP_reg (Rh 3 5 [(2, sA x0.gKey)] (AOps_done ?_)))))
  exact AWP_ret (FR H)
theorem s_shape_list_api_Experiment {n : Nat} (hG : GlobT E) {x0 : List TExperiment} {x1 : Int} {r : Int} (H : p_shape_list_api_Experiment n x0 x1 = some r) :
    Sp Tryz.prog E 95 [.ro .unk x0.length (TExperiment.cl x0), iA x1, .val (.func (.func 40) #[] #[]), .val (.func (.func 96) #[] #[])] [] (isA (iA r) []) := by
  unfold p_shape_list_api_Experiment at H
  refine Sp_fn Tryz.func95 rfl (fun hc hs => ?_)
  refine AWP_reg (Rh 1 45 [(0, .ro .unk x0.length (TExperiment.cl x0)), (1, iA x1), (2, .val (.func (.func 40) #[] #[])), (3, .val (.func (.func 96) #[] #[]))] (AOps_done (AWP_seq (AWP_reg (Rh 4 45 [(0, .ro .unk x0.length (TExperiment.cl x0)), (2, .val (.func (.func 40) #[] #[])), (3, .val (.func (.func 96) #[] #[])), (15, bA (decide ((lI x0) > x1)))] (AOps_done (CD H (fun hb1 H => ?_) (fun hb1 H => ?_))))))))
  · refine AWP_reg (Rh 1 45 [(8, iA 5)] (AOps_done ?_))
    exact AWP_ret (FR H)
  · refine AWP_skip ?_
    show AWP _ _ _ _ _ _ _
    refine AWP_seq (AWP_reg (Rh 3 45 [(0, .ro .unk x0.length (TExperiment.cl x0)), (2, .val (.func (.func 40) #[] #[])), (3, .val (.func (.func 96) #[] #[])), (16, .ro .unk x0.length (TExperiment.cl x0)), (17, iA (lI x0)), (18, iA 0)] (AOps_done (AWP_block ?_))))
    refine AWP_loopN (α := Int) (fun v18 => fr 45 [(0, .ro .unk x0.length (TExperiment.cl x0)), (2, .val (.func (.func 40) #[] #[])), (3, .val (.func (.func 96) #[] #[])), (16, .ro .unk x0.length (TExperiment.cl x0)), (17, iA (lI x0)), (18, iA v18)]) (fun v18 => []) (fun k_ v18 => k_ ≤ n ∧ p_shape_list_api_Experiment_L1 k_ x0 v18 = some r) (fun n v18 H => ?_) (k := n) 0 ⟨Nat.le_refl _, H⟩ (Norm_fd [0, 2, 3, 16, 17, 18] 0 (by kernel_rfl) rfl rfl trivial (by refine scL_fr ?_; exact ⟨(scl_TExperiment_cl _ _), trivial, trivial, (scl_TExperiment_cl _ _), trivial, trivial, trivial⟩))
    show AWP _ _ _ _ _ (fr 45 [(0, .ro .unk x0.length (TExperiment.cl x0)), (2, .val (.func (.func 40) #[] #[])), (3, .val (.func (.func 96) #[] #[])), (16, .ro .unk x0.length (TExperiment.cl x0)), (17, iA (lI x0)), (18, iA v18)]) []
    obtain ⟨hb_, H⟩ := H
    replace H : p_shape_list_api_Experiment_L1 n x0 v18 = some r := H
    cases n with
    | zero => exact not_none (by simpa only [p_shape_list_api_Experiment_L1] using H)
    | succ n =>
      unfold p_shape_list_api_Experiment_L1 at H
      refine AWP_reg (Rh 1 45 [(0, .ro .unk x0.length (TExperiment.cl x0)), (2, .val (.func (.func 40) #[] #[])), (3, .val (.func (.func 96) #[] #[])), (16, .ro .unk x0.length (TExperiment.cl x0)), (17, iA (lI x0)), (18, iA v18), (19, bA (decide (v18 < (lI x0))))] (AOps_done (AWP_seq (CD H (fun hb19 H => ?_) (fun hb19 H => ?_)))))
      · refine AWP_skip ?_
        show AWP _ _ _ _ _ _ _
        refine AWP_seq (AWP_block ?_)
        refine AWP_reg (Rh 1 45 [(0, .ro .unk x0.length (TExperiment.cl x0)), (2, .val (.func (.func 40) #[] #[])), (3, .val (.func (.func 96) #[] #[])), (16, .ro .unk x0.length (TExperiment.cl x0)), (17, iA (lI x0)), (18, iA v18), (20, iA v18)] ?_)
        obtain ⟨v20, hv20, H⟩ := bind_some H
        refine AOps_index (d := (some 21)) (sz := 12) (c := TExperiment.cs) (by kernel_rfl) rfl (eq_TExperiment_cl _) (fun _ => rfl) (by decide) hv20 (fun tl20 => ?_)
        refine R 4 45 [(0, .ro .unk x0.length (TExperiment.cl x0)), (2, .val (.func (.func 40) #[] #[])), (3, .val (.func (.func 96) #[] #[])), (9, iA v18), (10, .ptr 0 0), (16, .ro .unk x0.length (TExperiment.cl x0)), (17, iA (lI x0)), (18, iA v18)] [.cells 42 (TExperiment.cs v20)] (AOps_done (AWP_seq (AWP_reg (Rh 2 45 [(0, .ro .unk x0.length (TExperiment.cl x0)), (2, .val (.func (.func 40) #[] #[])), (3, .val (.func (.func 96) #[] #[])), (9, iA v18), (10, .ptr 0 0), (16, .ro .unk x0.length (TExperiment.cl x0)), (17, iA (lI x0)), (18, iA v18), (23, .val (.func (.func 40) #[] #[])), (24, .agg (TExperiment.cs v20))] ?_))))
        obtain ⟨v21, hv21, H⟩ := bind_some H
        refine AOps_callp (d := (some 25)) (al := [.agg (TExperiment.cs v20)]) (r := iA v21) (by kernel_rfl) (s_shape_Experiment hG hv21) ⟨(sc_TExperiment_cs _ _), trivial⟩ trivial ?_
        refine Rh 1 45 [(0, .ro .unk x0.length (TExperiment.cl x0)), (2, .val (.func (.func 40) #[] #[])), (3, .val (.func (.func 96) #[] #[])), (9, iA v18), (10, .ptr 0 0), (11, iA v21), (16, .ro .unk x0.length (TExperiment.cl x0)), (17, iA (lI x0)), (18, iA v18)] (AOps_done (AWP_reg (Rh 2 45 [(0, .ro .unk x0.length (TExperiment.cl x0)), (2, .val (.func (.func 40) #[] #[])), (3, .val (.func (.func 96) #[] #[])), (9, iA v18), (10, .ptr 0 0), (11, iA v21), (16, .ro .unk x0.length (TExperiment.cl x0)), (17, iA (lI x0)), (18, iA v18), (27, bA (v21 != 0))] (AOps_done (CD H (fun hb22 H => ?_) (fun hb22 H => ?_))))))
        · refine AWP_reg (Rh 2 45 [(8, iA v21)] (AOps_done ?_))
          exact AWP_ret (FR H)
        · refine AWP_skip ?_
          show AWP _ _ _ _ _ _ _
          obtain ⟨v23, hv23, H⟩ := bind_some H
          obtain ⟨v24, hv24, H⟩ := bind_some H
          obtain ⟨v25, hv25, H⟩ := bind_some H
          refine AWP_regD1 [0, 1, 2, 3, 4, 6, 7, 8, 9, 10, 11, 5, 12, 13, 14] (N := 45) (f := [(0, .ro .unk x0.length (TExperiment.cl x0)), (2, .val (.func (.func 40) #[] #[])), (3, .val (.func (.func 96) #[] #[])), (9, iA v18), (10, .ptr 0 0), (16, .ro .unk x0.length (TExperiment.cl x0)), (17, iA (lI x0)), (18, iA v18)]) (leL_of [0, 2, 3, 9, 10, 16, 17, 18] (by kernel_rfl)) mixed (by kernel_rfl) (by kernel_rfl) (st' := fr 45 [(0, .ro .unk x0.length (TExperiment.cl x0)), (2, .val (.func (.func 40) #[] #[])), (3, .val (.func (.func 96) #[] #[])), (16, .ro .unk x0.length (TExperiment.cl x0)), (17, iA (lI x0)), (18, iA v18), (43, bA ((decide (v18 > 0)) && (sle' v24 v25)))]) (h' := [.cells 42 (TExperiment.cs v20)]) ?_ ?_
          rotate_left
          · refine RD 3 45 [] [(0, .ro .unk x0.length (TExperiment.cl x0)), (2, .val (.func (.func 40) #[] #[])), (3, .val (.func (.func 96) #[] #[])), (9, iA v18), (10, .ptr 0 0), (16, .ro .unk x0.length (TExperiment.cl x0)), (17, iA (lI x0)), (18, iA v18), (29, iA v18), (30, bA (decide (v18 > 0))), (31, bA (decide (v18 > 0)))] ?_
            cases c1 : (decide (v18 > 0) : Bool) with
            | true =>
              refine RD 6 45 [(4, 0)] [(0, .ro .unk x0.length (TExperiment.cl x0)), (2, .val (.func (.func 40) #[] #[])), (3, .val (.func (.func 96) #[] #[])), (9, iA v18), (10, .ptr 0 0), (16, .ro .unk x0.length (TExperiment.cl x0)), (17, iA (lI x0)), (18, iA v18), (29, iA v18), (30, bA true), (31, bA true), (32, .val (.func (.func 96) #[] #[])), (33, .agg (TExperiment.cs v20)), (35, .val (.func (.func 96) #[] #[])), (36, .ro .unk x0.length (TExperiment.cl x0)), (37, iA v18), (38, iA (w64 (v18 - 1)))] ?_
              have hv23_ := cond_t hv23 (by simp only [c1] <;> rfl)
              refine AD_index (d := (some 39)) (sz := 12) (c := TExperiment.cs) (by kernel_rfl) rfl (eq_TExperiment_cl _) (fun _ => rfl) (by decide) hv23_ (fun tl23 => ?_)
              refine RD 1 45 [(4, 0)] [(0, .ro .unk x0.length (TExperiment.cl x0)), (2, .val (.func (.func 40) #[] #[])), (3, .val (.func (.func 96) #[] #[])), (9, iA v18), (10, .ptr 0 0), (16, .ro .unk x0.length (TExperiment.cl x0)), (17, iA (lI x0)), (18, iA v18), (29, iA v18), (30, bA true), (31, bA true), (32, .val (.func (.func 96) #[] #[])), (33, .agg (TExperiment.cs v20)), (35, .val (.func (.func 96) #[] #[])), (36, .ro .unk x0.length (TExperiment.cl x0)), (37, iA v18), (38, iA (w64 (v18 - 1))), (39, .rop ([sA v23.gKey, sA v23.gLayer, sA v23.gFlag, sA v23.gSalt, iA v23.gStatus, .ro .unk v23.gClaims.length (TSpan.cl v23.gClaims), .ro .unk v23.gArms.length (TRange.cl v23.gArms), iA v23.gWhen.gOp, sA v23.gWhen.gKind, sA v23.gWhen.gName, .ro .unk v23.gWhen.gValues.length (TValue.cl v23.gWhen.gValues), .ro .unk v23.gWhen.gKids.length (TExpr.cl v23.gWhen.gKids)] ++ tl23)), (40, .agg (TExperiment.cs v23))] ?_
              have hv24_ := cond_t hv24 (by simp only [c1] <;> rfl)
              refine AD_callp (d := (some 34)) (al := [.agg (TExperiment.cs v20)]) (r := sA v24) (by kernel_rfl) (s_shape_Environment_4 hv24_) ⟨(sc_TExperiment_cs _ _), trivial⟩ trivial ?_
              have hv25_ := cond_t hv25 (by simp only [c1] <;> rfl)
              refine AD_callp (d := (some 41)) (al := [.agg (TExperiment.cs v23)]) (r := sA v25) (by kernel_rfl) (s_shape_Environment_4 hv25_) ⟨(sc_TExperiment_cs _ _), trivial⟩ trivial ?_
              refine RD 2 45 [(4, 0)] [(0, .ro .unk x0.length (TExperiment.cl x0)), (2, .val (.func (.func 40) #[] #[])), (3, .val (.func (.func 96) #[] #[])), (9, iA v18), (10, .ptr 0 0), (16, .ro .unk x0.length (TExperiment.cl x0)), (17, iA (lI x0)), (18, iA v18), (29, iA v18), (30, bA true), (31, bA true), (32, .val (.func (.func 96) #[] #[])), (33, .agg (TExperiment.cs v20)), (34, sA v24), (35, .val (.func (.func 96) #[] #[])), (36, .ro .unk x0.length (TExperiment.cl x0)), (37, iA v18), (38, iA (w64 (v18 - 1))), (39, .rop ([sA v23.gKey, sA v23.gLayer, sA v23.gFlag, sA v23.gSalt, iA v23.gStatus, .ro .unk v23.gClaims.length (TSpan.cl v23.gClaims), .ro .unk v23.gArms.length (TRange.cl v23.gArms), iA v23.gWhen.gOp, sA v23.gWhen.gKind, sA v23.gWhen.gName, .ro .unk v23.gWhen.gValues.length (TValue.cl v23.gWhen.gValues), .ro .unk v23.gWhen.gKids.length (TExpr.cl v23.gWhen.gKids)] ++ tl23)), (40, .agg (TExperiment.cs v23)), (41, sA v25), (42, bA (sle' v24 v25)), (43, bA (true && (sle' v24 v25)))] ?_
              exact AD_here [0, 2, 3, 16, 17, 18, 43] (by kernel_rfl) rfl
            | false =>
              refine RD 8 45 [] [(0, .ro .unk x0.length (TExperiment.cl x0)), (2, .val (.func (.func 40) #[] #[])), (3, .val (.func (.func 96) #[] #[])), (9, iA v18), (10, .ptr 0 0), (16, .ro .unk x0.length (TExperiment.cl x0)), (17, iA (lI x0)), (18, iA v18), (29, iA v18), (30, bA false), (31, bA false), (32, undefA), (33, undefA), (35, undefA), (36, undefA), (37, undefA), (38, undefA), (39, undefA), (40, undefA)] (AD_offB (d := some 34) (by kernel_rfl) ?_)
              refine AD_offB (d := some 41) (by kernel_rfl) ?_
              refine RD 2 45 [] [(0, .ro .unk x0.length (TExperiment.cl x0)), (2, .val (.func (.func 40) #[] #[])), (3, .val (.func (.func 96) #[] #[])), (9, iA v18), (10, .ptr 0 0), (16, .ro .unk x0.length (TExperiment.cl x0)), (17, iA (lI x0)), (18, iA v18), (29, iA v18), (30, bA false), (31, bA false), (32, undefA), (33, undefA), (34, undefA), (35, undefA), (36, undefA), (37, undefA), (38, undefA), (39, undefA), (40, undefA), (41, undefA), (42, undefA), (43, bA (false && (sle' v24 v25)))] ?_
              exact AD_here [0, 2, 3, 16, 17, 18, 43] (by kernel_rfl) rfl
          refine CD H (fun hb26 H => ?_) (fun hb26 H => ?_)
          · refine AWP_reg (Rh 1 45 [(8, iA 9)] (AOps_done ?_))
            exact AWP_ret (FR H)
          · refine AWP_skip ?_
            show AWP _ _ _ _ _ _ _
            refine AWP_region ?_
            refine Rh 2 45 [(0, .ro .unk x0.length (TExperiment.cl x0)), (2, .val (.func (.func 40) #[] #[])), (3, .val (.func (.func 96) #[] #[])), (16, .ro .unk x0.length (TExperiment.cl x0)), (17, iA (lI x0)), (18, iA (w64 (v18 + 1)))] (AOps_done ?_)
            exact Exists.intro (w64 (v18 + 1)) (Exists.intro n ⟨by omega, ⟨by omega, H⟩, Norm_fd [0, 2, 3, 16, 17, 18] 1 (by kernel_rfl) rfl rfl trivial (by refine scL_fr ?_; exact ⟨(scl_TExperiment_cl _ _), trivial, trivial, (scl_TExperiment_cl _ _), trivial, trivial, trivial⟩)⟩)
      · refine AWP_exit ?_
        show AWP _ _ _ _ _ _ _
        refine AWP_reg (Rh 1 45 [(8, iA 0)] (AOps_done ?_))
        exact AWP_ret (FR H)
theorem s_shape_Environment {n : Nat} (hG : GlobT E) {x0 : TEnvironment} {r : Int} (H : p_shape_Environment n x0 = some r) :
    Sp Tryz.prog E 44 [.agg (TEnvironment.cs x0)] [] (isA (iA r) []) := by
  unfold p_shape_Environment at H
  refine Sp_fn Tryz.func44 rfl (fun hc hs => ?_)
  refine AWP_reg (R 2 68 [(1, .ptr 0 0)] [.cells 90 (TEnvironment.cs x0)] (AOps_done (AWP_reg (R 4 68 [(1, .ptr 0 0), (3, .ptr 1 0)] [.cells 83 (TSettings.cs x0.gSettings), .cells 90 (TEnvironment.cs x0)] (AOps_done (AWP_seq ?_))))))
  obtain ⟨v1, hv1, H⟩ := bind_some H
  obtain ⟨v2, hv2, H⟩ := bind_some H
  obtain ⟨v3, hv3, H⟩ := bind_some H
  obtain ⟨v4, hv4, H⟩ := bind_some H
  obtain ⟨v5, hv5, H⟩ := bind_some H
  obtain ⟨v6, hv6, H⟩ := bind_some H
  obtain ⟨v7, hv7, H⟩ := bind_some H
  refine AWP_regD1 [0, 1, 5, 6, 7, 14, 15, 29, 30, 2, 3, 4, 8, 9, 10, 11, 12, 13, 16, 17, 18, 19, 20, 21, 22, 23, 24, 25, 26, 27, 28, 31, 32, 33, 34] (N := 68) (f := [(1, .ptr 0 0), (3, .ptr 1 0)]) (leL_of [1, 3] (by kernel_rfl)) mixed (by kernel_rfl) (by kernel_rfl) (st' := fr 68 [(1, .ptr 0 0), (4, iA v7)]) (h' := [.cells 83 (TSettings.cs x0.gSettings), .cells 90 (TEnvironment.cs x0)]) ?_ ?_
  rotate_left
  · refine RD 9 68 [(30, 0), (29, 0), (15, 1), (14, 1), (6, 1), (5, 1), (1, 1), (0, 1)] [(1, .ptr 0 0), (3, .ptr 1 0), (10, .ptr 1 0), (11, sA x0.gSettings.gSalt), (15, .ptr 1 2), (16, iA x0.gSettings.gHoldout), (17, bA (decide (x0.gSettings.gHoldout < 0))), (24, .ptr 1 1), (25, sA x0.gSettings.gHoldoutKind), (39, .ptr 0 3), (40, .ro .unk x0.gAttributes.length (TDeclared.cl x0.gAttributes))] (AD_callp (d := (some 12)) (al := [sA x0.gSettings.gSalt]) (r := bA v1) (by kernel_rfl) (s_text_Valid hG hv1) ⟨trivial, trivial⟩ trivial ?_)
    refine RD 1 68 [(30, 0), (29, 0), (15, 1), (14, 1), (6, 1), (5, 1), (1, 1), (0, 1)] [(1, .ptr 0 0), (3, .ptr 1 0), (10, .ptr 1 0), (11, sA x0.gSettings.gSalt), (12, bA v1), (13, bA (!v1)), (15, .ptr 1 2), (16, iA x0.gSettings.gHoldout), (17, bA (decide (x0.gSettings.gHoldout < 0))), (24, .ptr 1 1), (25, sA x0.gSettings.gHoldoutKind), (39, .ptr 0 3), (40, .ro .unk x0.gAttributes.length (TDeclared.cl x0.gAttributes))] (AD_callp (d := (some 14)) (al := [bA (!v1), iA 2]) (r := iA v2) (by kernel_rfl) (s_shape_when hv2) ⟨trivial, trivial, trivial⟩ trivial ?_)
    refine RD 1 68 [(30, 0), (29, 0), (15, 1), (14, 1), (6, 1), (5, 1), (1, 1), (0, 1)] [(1, .ptr 0 0), (3, .ptr 1 0), (10, .ptr 1 0), (11, sA x0.gSettings.gSalt), (12, bA v1), (13, bA (!v1)), (14, iA v2), (15, .ptr 1 2), (16, iA x0.gSettings.gHoldout), (17, bA (decide (x0.gSettings.gHoldout < 0))), (18, bA (decide (x0.gSettings.gHoldout < 0))), (24, .ptr 1 1), (25, sA x0.gSettings.gHoldoutKind), (39, .ptr 0 3), (40, .ro .unk x0.gAttributes.length (TDeclared.cl x0.gAttributes))] ?_
    cases c1 : (decide (x0.gSettings.gHoldout < 0) : Bool) with
    | true =>
      refine RD 4 68 [(30, 0), (29, 0), (15, 1), (14, 1), (6, 1), (5, 1), (1, 1), (0, 1)] [(1, .ptr 0 0), (3, .ptr 1 0), (10, .ptr 1 0), (11, sA x0.gSettings.gSalt), (12, bA v1), (13, bA (!v1)), (14, iA v2), (15, .ptr 1 2), (16, iA x0.gSettings.gHoldout), (17, bA true), (18, bA true), (19, undefA), (20, undefA), (21, undefA), (22, bA (true || (decide (x0.gSettings.gHoldout > 10000)))), (24, .ptr 1 1), (25, sA x0.gSettings.gHoldoutKind), (39, .ptr 0 3), (40, .ro .unk x0.gAttributes.length (TDeclared.cl x0.gAttributes))] ?_
      try rw [c1] at hv3
      refine AD_callp (d := (some 23)) (al := [bA (true || (decide (x0.gSettings.gHoldout > 10000))), iA 3]) (r := iA v3) (by kernel_rfl) (s_shape_when hv3) ⟨trivial, trivial, trivial⟩ trivial ?_
      refine AD_callp (d := (some 26)) (al := [sA x0.gSettings.gHoldoutKind]) (r := bA v4) (by kernel_rfl) (s_text_Key hG hv4) ⟨trivial, trivial⟩ trivial ?_
      refine RD 2 68 [(30, 0), (29, 0), (15, 1), (14, 1), (6, 1), (5, 1), (1, 1), (0, 1)] [(1, .ptr 0 0), (3, .ptr 1 0), (10, .ptr 1 0), (11, sA x0.gSettings.gSalt), (12, bA v1), (13, bA (!v1)), (14, iA v2), (15, .ptr 1 2), (16, iA x0.gSettings.gHoldout), (17, bA true), (18, bA true), (19, undefA), (20, undefA), (21, undefA), (22, bA (true || (decide (x0.gSettings.gHoldout > 10000)))), (23, iA v3), (24, .ptr 1 1), (25, sA x0.gSettings.gHoldoutKind), (26, bA v4), (27, bA (!v4)), (28, bA (!v4)), (39, .ptr 0 3), (40, .ro .unk x0.gAttributes.length (TDeclared.cl x0.gAttributes))] ?_
      cases c2 : (v4 : Bool) with
      | true =>
        refine RD 9 68 [(30, 0), (29, 0), (15, 1), (14, 1), (6, 1), (5, 1), (1, 1), (0, 1)] [(1, .ptr 0 0), (3, .ptr 1 0), (10, .ptr 1 0), (11, sA x0.gSettings.gSalt), (12, bA v1), (13, bA (!v1)), (14, iA v2), (15, .ptr 1 2), (16, iA x0.gSettings.gHoldout), (17, bA true), (18, bA true), (19, undefA), (20, undefA), (21, undefA), (22, bA (true || (decide (x0.gSettings.gHoldout > 10000)))), (23, iA v3), (24, .ptr 1 1), (25, sA x0.gSettings.gHoldoutKind), (26, bA true), (27, bA (!true)), (28, bA (!true)), (29, undefA), (30, undefA), (31, undefA), (32, undefA), (33, undefA), (34, undefA), (35, undefA), (36, undefA), (37, bA ((!true) && ((!(seq' x0.gSettings.gHoldoutKind ByteArray.empty)) || (x0.gSettings.gHoldout != 0)))), (39, .ptr 0 3), (40, .ro .unk x0.gAttributes.length (TDeclared.cl x0.gAttributes))] ?_
        try rw [c1] at hv5
        try rw [c2] at hv5
        refine AD_callp (d := (some 38)) (al := [bA ((!true) && ((!(seq' x0.gSettings.gHoldoutKind ByteArray.empty)) || (x0.gSettings.gHoldout != 0))), iA 6]) (r := iA v5) (by kernel_rfl) (s_shape_when hv5) ⟨trivial, trivial, trivial⟩ trivial ?_
        refine AD_callp (d := (some 41)) (al := [.ro .unk x0.gAttributes.length (TDeclared.cl x0.gAttributes)]) (r := iA v6) (by kernel_rfl) (s_shape_attributes hG hv6) ⟨(scl_TDeclared_cl _ _), trivial⟩ trivial ?_
        refine AD_bsl (d := (some 42)) (m := 4) (cs := [iA v2, iA v3, iA v5, iA v6]) (by kernel_rfl) ⟨trivial, trivial, trivial, trivial, trivial⟩ ?_
        refine AD_callp (d := (some 43)) (al := [.ro .unk ([v2, v3, v5, v6]).length (cl_i64 ([v2, v3, v5, v6]))]) (r := iA v7) (by kernel_rfl) (s_shape_first hv7) ⟨(scl_cl_i64 _ _), trivial⟩ trivial ?_
        refine RD 1 68 [(30, 0), (29, 0), (15, 1), (14, 1), (6, 1), (5, 1), (1, 1), (0, 1)] [(1, .ptr 0 0), (3, .ptr 1 0), (4, iA v7), (10, .ptr 1 0), (11, sA x0.gSettings.gSalt), (12, bA v1), (13, bA (!v1)), (14, iA v2), (15, .ptr 1 2), (16, iA x0.gSettings.gHoldout), (17, bA true), (18, bA true), (19, undefA), (20, undefA), (21, undefA), (22, bA (true || (decide (x0.gSettings.gHoldout > 10000)))), (23, iA v3), (24, .ptr 1 1), (25, sA x0.gSettings.gHoldoutKind), (26, bA true), (27, bA (!true)), (28, bA (!true)), (29, undefA), (30, undefA), (31, undefA), (32, undefA), (33, undefA), (34, undefA), (35, undefA), (36, undefA), (37, bA ((!true) && ((!(seq' x0.gSettings.gHoldoutKind ByteArray.empty)) || (x0.gSettings.gHoldout != 0)))), (38, iA v5), (39, .ptr 0 3), (40, .ro .unk x0.gAttributes.length (TDeclared.cl x0.gAttributes)), (41, iA v6), (42, .ro .unk ([v2, v3, v5, v6]).length (cl_i64 ([v2, v3, v5, v6]))), (43, iA v7)] ?_
        exact AD_here [1, 4] (by kernel_rfl) rfl
      | false =>
        refine RD 4 68 [(20, 1), (19, 1), (30, 0), (29, 0), (15, 1), (14, 1), (6, 1), (5, 1), (1, 1), (0, 1)] [(1, .ptr 0 0), (3, .ptr 1 0), (10, .ptr 1 0), (11, sA x0.gSettings.gSalt), (12, bA v1), (13, bA (!v1)), (14, iA v2), (15, .ptr 1 2), (16, iA x0.gSettings.gHoldout), (17, bA true), (18, bA true), (19, undefA), (20, undefA), (21, undefA), (22, bA (true || (decide (x0.gSettings.gHoldout > 10000)))), (23, iA v3), (24, .ptr 1 1), (25, sA x0.gSettings.gHoldoutKind), (26, bA false), (27, bA (!false)), (28, bA (!false)), (29, .ptr 1 1), (30, sA x0.gSettings.gHoldoutKind), (31, bA (!(seq' x0.gSettings.gHoldoutKind ByteArray.empty))), (32, bA (!(seq' x0.gSettings.gHoldoutKind ByteArray.empty))), (39, .ptr 0 3), (40, .ro .unk x0.gAttributes.length (TDeclared.cl x0.gAttributes))] ?_
        cases c3 : (seq' x0.gSettings.gHoldoutKind ByteArray.empty : Bool) with
        | true =>
          refine RD 5 68 [(24, 1), (23, 1), (20, 1), (19, 1), (30, 0), (29, 0), (15, 1), (14, 1), (6, 1), (5, 1), (1, 1), (0, 1)] [(1, .ptr 0 0), (3, .ptr 1 0), (10, .ptr 1 0), (11, sA x0.gSettings.gSalt), (12, bA v1), (13, bA (!v1)), (14, iA v2), (15, .ptr 1 2), (16, iA x0.gSettings.gHoldout), (17, bA true), (18, bA true), (19, undefA), (20, undefA), (21, undefA), (22, bA (true || (decide (x0.gSettings.gHoldout > 10000)))), (23, iA v3), (24, .ptr 1 1), (25, sA x0.gSettings.gHoldoutKind), (26, bA false), (27, bA (!false)), (28, bA (!false)), (29, .ptr 1 1), (30, sA x0.gSettings.gHoldoutKind), (31, bA (!true)), (32, bA (!true)), (33, .ptr 1 2), (34, iA x0.gSettings.gHoldout), (35, bA (x0.gSettings.gHoldout != 0)), (36, bA ((!true) || (x0.gSettings.gHoldout != 0))), (37, bA ((!false) && ((!true) || (x0.gSettings.gHoldout != 0)))), (39, .ptr 0 3), (40, .ro .unk x0.gAttributes.length (TDeclared.cl x0.gAttributes))] ?_
          try rw [c1] at hv5
          try rw [c2] at hv5
          try rw [c3] at hv5
          refine AD_callp (d := (some 38)) (al := [bA ((!false) && ((!true) || (x0.gSettings.gHoldout != 0))), iA 6]) (r := iA v5) (by kernel_rfl) (s_shape_when hv5) ⟨trivial, trivial, trivial⟩ trivial ?_
          refine AD_callp (d := (some 41)) (al := [.ro .unk x0.gAttributes.length (TDeclared.cl x0.gAttributes)]) (r := iA v6) (by kernel_rfl) (s_shape_attributes hG hv6) ⟨(scl_TDeclared_cl _ _), trivial⟩ trivial ?_
          refine AD_bsl (d := (some 42)) (m := 4) (cs := [iA v2, iA v3, iA v5, iA v6]) (by kernel_rfl) ⟨trivial, trivial, trivial, trivial, trivial⟩ ?_
          refine AD_callp (d := (some 43)) (al := [.ro .unk ([v2, v3, v5, v6]).length (cl_i64 ([v2, v3, v5, v6]))]) (r := iA v7) (by kernel_rfl) (s_shape_first hv7) ⟨(scl_cl_i64 _ _), trivial⟩ trivial ?_
          refine RD 1 68 [(24, 1), (23, 1), (20, 1), (19, 1), (30, 0), (29, 0), (15, 1), (14, 1), (6, 1), (5, 1), (1, 1), (0, 1)] [(1, .ptr 0 0), (3, .ptr 1 0), (4, iA v7), (10, .ptr 1 0), (11, sA x0.gSettings.gSalt), (12, bA v1), (13, bA (!v1)), (14, iA v2), (15, .ptr 1 2), (16, iA x0.gSettings.gHoldout), (17, bA true), (18, bA true), (19, undefA), (20, undefA), (21, undefA), (22, bA (true || (decide (x0.gSettings.gHoldout > 10000)))), (23, iA v3), (24, .ptr 1 1), (25, sA x0.gSettings.gHoldoutKind), (26, bA false), (27, bA (!false)), (28, bA (!false)), (29, .ptr 1 1), (30, sA x0.gSettings.gHoldoutKind), (31, bA (!true)), (32, bA (!true)), (33, .ptr 1 2), (34, iA x0.gSettings.gHoldout), (35, bA (x0.gSettings.gHoldout != 0)), (36, bA ((!true) || (x0.gSettings.gHoldout != 0))), (37, bA ((!false) && ((!true) || (x0.gSettings.gHoldout != 0)))), (38, iA v5), (39, .ptr 0 3), (40, .ro .unk x0.gAttributes.length (TDeclared.cl x0.gAttributes)), (41, iA v6), (42, .ro .unk ([v2, v3, v5, v6]).length (cl_i64 ([v2, v3, v5, v6]))), (43, iA v7)] ?_
          exact AD_here [1, 4] (by kernel_rfl) rfl
        | false =>
          refine RD 5 68 [(20, 1), (19, 1), (30, 0), (29, 0), (15, 1), (14, 1), (6, 1), (5, 1), (1, 1), (0, 1)] [(1, .ptr 0 0), (3, .ptr 1 0), (10, .ptr 1 0), (11, sA x0.gSettings.gSalt), (12, bA v1), (13, bA (!v1)), (14, iA v2), (15, .ptr 1 2), (16, iA x0.gSettings.gHoldout), (17, bA true), (18, bA true), (19, undefA), (20, undefA), (21, undefA), (22, bA (true || (decide (x0.gSettings.gHoldout > 10000)))), (23, iA v3), (24, .ptr 1 1), (25, sA x0.gSettings.gHoldoutKind), (26, bA false), (27, bA (!false)), (28, bA (!false)), (29, .ptr 1 1), (30, sA x0.gSettings.gHoldoutKind), (31, bA (!false)), (32, bA (!false)), (33, undefA), (34, undefA), (35, undefA), (36, bA ((!false) || (x0.gSettings.gHoldout != 0))), (37, bA ((!false) && ((!false) || (x0.gSettings.gHoldout != 0)))), (39, .ptr 0 3), (40, .ro .unk x0.gAttributes.length (TDeclared.cl x0.gAttributes))] ?_
          try rw [c1] at hv5
          try rw [c2] at hv5
          try rw [c3] at hv5
          refine AD_callp (d := (some 38)) (al := [bA ((!false) && ((!false) || (x0.gSettings.gHoldout != 0))), iA 6]) (r := iA v5) (by kernel_rfl) (s_shape_when hv5) ⟨trivial, trivial, trivial⟩ trivial ?_
          refine AD_callp (d := (some 41)) (al := [.ro .unk x0.gAttributes.length (TDeclared.cl x0.gAttributes)]) (r := iA v6) (by kernel_rfl) (s_shape_attributes hG hv6) ⟨(scl_TDeclared_cl _ _), trivial⟩ trivial ?_
          refine AD_bsl (d := (some 42)) (m := 4) (cs := [iA v2, iA v3, iA v5, iA v6]) (by kernel_rfl) ⟨trivial, trivial, trivial, trivial, trivial⟩ ?_
          refine AD_callp (d := (some 43)) (al := [.ro .unk ([v2, v3, v5, v6]).length (cl_i64 ([v2, v3, v5, v6]))]) (r := iA v7) (by kernel_rfl) (s_shape_first hv7) ⟨(scl_cl_i64 _ _), trivial⟩ trivial ?_
          refine RD 1 68 [(20, 1), (19, 1), (30, 0), (29, 0), (15, 1), (14, 1), (6, 1), (5, 1), (1, 1), (0, 1)] [(1, .ptr 0 0), (3, .ptr 1 0), (4, iA v7), (10, .ptr 1 0), (11, sA x0.gSettings.gSalt), (12, bA v1), (13, bA (!v1)), (14, iA v2), (15, .ptr 1 2), (16, iA x0.gSettings.gHoldout), (17, bA true), (18, bA true), (19, undefA), (20, undefA), (21, undefA), (22, bA (true || (decide (x0.gSettings.gHoldout > 10000)))), (23, iA v3), (24, .ptr 1 1), (25, sA x0.gSettings.gHoldoutKind), (26, bA false), (27, bA (!false)), (28, bA (!false)), (29, .ptr 1 1), (30, sA x0.gSettings.gHoldoutKind), (31, bA (!false)), (32, bA (!false)), (33, undefA), (34, undefA), (35, undefA), (36, bA ((!false) || (x0.gSettings.gHoldout != 0))), (37, bA ((!false) && ((!false) || (x0.gSettings.gHoldout != 0)))), (38, iA v5), (39, .ptr 0 3), (40, .ro .unk x0.gAttributes.length (TDeclared.cl x0.gAttributes)), (41, iA v6), (42, .ro .unk ([v2, v3, v5, v6]).length (cl_i64 ([v2, v3, v5, v6]))), (43, iA v7)] ?_
          exact AD_here [1, 4] (by kernel_rfl) rfl
    | false =>
      refine RD 4 68 [(10, 1), (9, 1), (30, 0), (29, 0), (15, 1), (14, 1), (6, 1), (5, 1), (1, 1), (0, 1)] [(1, .ptr 0 0), (3, .ptr 1 0), (10, .ptr 1 0), (11, sA x0.gSettings.gSalt), (12, bA v1), (13, bA (!v1)), (14, iA v2), (15, .ptr 1 2), (16, iA x0.gSettings.gHoldout), (17, bA false), (18, bA false), (19, .ptr 1 2), (20, iA x0.gSettings.gHoldout), (21, bA (decide (x0.gSettings.gHoldout > 10000))), (22, bA (false || (decide (x0.gSettings.gHoldout > 10000)))), (24, .ptr 1 1), (25, sA x0.gSettings.gHoldoutKind), (39, .ptr 0 3), (40, .ro .unk x0.gAttributes.length (TDeclared.cl x0.gAttributes))] ?_
      try rw [c1] at hv3
      refine AD_callp (d := (some 23)) (al := [bA (false || (decide (x0.gSettings.gHoldout > 10000))), iA 3]) (r := iA v3) (by kernel_rfl) (s_shape_when hv3) ⟨trivial, trivial, trivial⟩ trivial ?_
      refine AD_callp (d := (some 26)) (al := [sA x0.gSettings.gHoldoutKind]) (r := bA v4) (by kernel_rfl) (s_text_Key hG hv4) ⟨trivial, trivial⟩ trivial ?_
      refine RD 2 68 [(10, 1), (9, 1), (30, 0), (29, 0), (15, 1), (14, 1), (6, 1), (5, 1), (1, 1), (0, 1)] [(1, .ptr 0 0), (3, .ptr 1 0), (10, .ptr 1 0), (11, sA x0.gSettings.gSalt), (12, bA v1), (13, bA (!v1)), (14, iA v2), (15, .ptr 1 2), (16, iA x0.gSettings.gHoldout), (17, bA false), (18, bA false), (19, .ptr 1 2), (20, iA x0.gSettings.gHoldout), (21, bA (decide (x0.gSettings.gHoldout > 10000))), (22, bA (false || (decide (x0.gSettings.gHoldout > 10000)))), (23, iA v3), (24, .ptr 1 1), (25, sA x0.gSettings.gHoldoutKind), (26, bA v4), (27, bA (!v4)), (28, bA (!v4)), (39, .ptr 0 3), (40, .ro .unk x0.gAttributes.length (TDeclared.cl x0.gAttributes))] ?_
      cases c2 : (v4 : Bool) with
      | true =>
        refine RD 9 68 [(10, 1), (9, 1), (30, 0), (29, 0), (15, 1), (14, 1), (6, 1), (5, 1), (1, 1), (0, 1)] [(1, .ptr 0 0), (3, .ptr 1 0), (10, .ptr 1 0), (11, sA x0.gSettings.gSalt), (12, bA v1), (13, bA (!v1)), (14, iA v2), (15, .ptr 1 2), (16, iA x0.gSettings.gHoldout), (17, bA false), (18, bA false), (19, .ptr 1 2), (20, iA x0.gSettings.gHoldout), (21, bA (decide (x0.gSettings.gHoldout > 10000))), (22, bA (false || (decide (x0.gSettings.gHoldout > 10000)))), (23, iA v3), (24, .ptr 1 1), (25, sA x0.gSettings.gHoldoutKind), (26, bA true), (27, bA (!true)), (28, bA (!true)), (29, undefA), (30, undefA), (31, undefA), (32, undefA), (33, undefA), (34, undefA), (35, undefA), (36, undefA), (37, bA ((!true) && ((!(seq' x0.gSettings.gHoldoutKind ByteArray.empty)) || (x0.gSettings.gHoldout != 0)))), (39, .ptr 0 3), (40, .ro .unk x0.gAttributes.length (TDeclared.cl x0.gAttributes))] ?_
        try rw [c1] at hv5
        try rw [c2] at hv5
        refine AD_callp (d := (some 38)) (al := [bA ((!true) && ((!(seq' x0.gSettings.gHoldoutKind ByteArray.empty)) || (x0.gSettings.gHoldout != 0))), iA 6]) (r := iA v5) (by kernel_rfl) (s_shape_when hv5) ⟨trivial, trivial, trivial⟩ trivial ?_
        refine AD_callp (d := (some 41)) (al := [.ro .unk x0.gAttributes.length (TDeclared.cl x0.gAttributes)]) (r := iA v6) (by kernel_rfl) (s_shape_attributes hG hv6) ⟨(scl_TDeclared_cl _ _), trivial⟩ trivial ?_
        refine AD_bsl (d := (some 42)) (m := 4) (cs := [iA v2, iA v3, iA v5, iA v6]) (by kernel_rfl) ⟨trivial, trivial, trivial, trivial, trivial⟩ ?_
        refine AD_callp (d := (some 43)) (al := [.ro .unk ([v2, v3, v5, v6]).length (cl_i64 ([v2, v3, v5, v6]))]) (r := iA v7) (by kernel_rfl) (s_shape_first hv7) ⟨(scl_cl_i64 _ _), trivial⟩ trivial ?_
        refine RD 1 68 [(10, 1), (9, 1), (30, 0), (29, 0), (15, 1), (14, 1), (6, 1), (5, 1), (1, 1), (0, 1)] [(1, .ptr 0 0), (3, .ptr 1 0), (4, iA v7), (10, .ptr 1 0), (11, sA x0.gSettings.gSalt), (12, bA v1), (13, bA (!v1)), (14, iA v2), (15, .ptr 1 2), (16, iA x0.gSettings.gHoldout), (17, bA false), (18, bA false), (19, .ptr 1 2), (20, iA x0.gSettings.gHoldout), (21, bA (decide (x0.gSettings.gHoldout > 10000))), (22, bA (false || (decide (x0.gSettings.gHoldout > 10000)))), (23, iA v3), (24, .ptr 1 1), (25, sA x0.gSettings.gHoldoutKind), (26, bA true), (27, bA (!true)), (28, bA (!true)), (29, undefA), (30, undefA), (31, undefA), (32, undefA), (33, undefA), (34, undefA), (35, undefA), (36, undefA), (37, bA ((!true) && ((!(seq' x0.gSettings.gHoldoutKind ByteArray.empty)) || (x0.gSettings.gHoldout != 0)))), (38, iA v5), (39, .ptr 0 3), (40, .ro .unk x0.gAttributes.length (TDeclared.cl x0.gAttributes)), (41, iA v6), (42, .ro .unk ([v2, v3, v5, v6]).length (cl_i64 ([v2, v3, v5, v6]))), (43, iA v7)] ?_
        exact AD_here [1, 4] (by kernel_rfl) rfl
      | false =>
        refine RD 4 68 [(20, 1), (19, 1), (10, 1), (9, 1), (30, 0), (29, 0), (15, 1), (14, 1), (6, 1), (5, 1), (1, 1), (0, 1)] [(1, .ptr 0 0), (3, .ptr 1 0), (10, .ptr 1 0), (11, sA x0.gSettings.gSalt), (12, bA v1), (13, bA (!v1)), (14, iA v2), (15, .ptr 1 2), (16, iA x0.gSettings.gHoldout), (17, bA false), (18, bA false), (19, .ptr 1 2), (20, iA x0.gSettings.gHoldout), (21, bA (decide (x0.gSettings.gHoldout > 10000))), (22, bA (false || (decide (x0.gSettings.gHoldout > 10000)))), (23, iA v3), (24, .ptr 1 1), (25, sA x0.gSettings.gHoldoutKind), (26, bA false), (27, bA (!false)), (28, bA (!false)), (29, .ptr 1 1), (30, sA x0.gSettings.gHoldoutKind), (31, bA (!(seq' x0.gSettings.gHoldoutKind ByteArray.empty))), (32, bA (!(seq' x0.gSettings.gHoldoutKind ByteArray.empty))), (39, .ptr 0 3), (40, .ro .unk x0.gAttributes.length (TDeclared.cl x0.gAttributes))] ?_
        cases c3 : (seq' x0.gSettings.gHoldoutKind ByteArray.empty : Bool) with
        | true =>
          refine RD 5 68 [(24, 1), (23, 1), (20, 1), (19, 1), (10, 1), (9, 1), (30, 0), (29, 0), (15, 1), (14, 1), (6, 1), (5, 1), (1, 1), (0, 1)] [(1, .ptr 0 0), (3, .ptr 1 0), (10, .ptr 1 0), (11, sA x0.gSettings.gSalt), (12, bA v1), (13, bA (!v1)), (14, iA v2), (15, .ptr 1 2), (16, iA x0.gSettings.gHoldout), (17, bA false), (18, bA false), (19, .ptr 1 2), (20, iA x0.gSettings.gHoldout), (21, bA (decide (x0.gSettings.gHoldout > 10000))), (22, bA (false || (decide (x0.gSettings.gHoldout > 10000)))), (23, iA v3), (24, .ptr 1 1), (25, sA x0.gSettings.gHoldoutKind), (26, bA false), (27, bA (!false)), (28, bA (!false)), (29, .ptr 1 1), (30, sA x0.gSettings.gHoldoutKind), (31, bA (!true)), (32, bA (!true)), (33, .ptr 1 2), (34, iA x0.gSettings.gHoldout), (35, bA (x0.gSettings.gHoldout != 0)), (36, bA ((!true) || (x0.gSettings.gHoldout != 0))), (37, bA ((!false) && ((!true) || (x0.gSettings.gHoldout != 0)))), (39, .ptr 0 3), (40, .ro .unk x0.gAttributes.length (TDeclared.cl x0.gAttributes))] ?_
          try rw [c1] at hv5
          try rw [c2] at hv5
          try rw [c3] at hv5
          refine AD_callp (d := (some 38)) (al := [bA ((!false) && ((!true) || (x0.gSettings.gHoldout != 0))), iA 6]) (r := iA v5) (by kernel_rfl) (s_shape_when hv5) ⟨trivial, trivial, trivial⟩ trivial ?_
          refine AD_callp (d := (some 41)) (al := [.ro .unk x0.gAttributes.length (TDeclared.cl x0.gAttributes)]) (r := iA v6) (by kernel_rfl) (s_shape_attributes hG hv6) ⟨(scl_TDeclared_cl _ _), trivial⟩ trivial ?_
          refine AD_bsl (d := (some 42)) (m := 4) (cs := [iA v2, iA v3, iA v5, iA v6]) (by kernel_rfl) ⟨trivial, trivial, trivial, trivial, trivial⟩ ?_
          refine AD_callp (d := (some 43)) (al := [.ro .unk ([v2, v3, v5, v6]).length (cl_i64 ([v2, v3, v5, v6]))]) (r := iA v7) (by kernel_rfl) (s_shape_first hv7) ⟨(scl_cl_i64 _ _), trivial⟩ trivial ?_
          refine RD 1 68 [(24, 1), (23, 1), (20, 1), (19, 1), (10, 1), (9, 1), (30, 0), (29, 0), (15, 1), (14, 1), (6, 1), (5, 1), (1, 1), (0, 1)] [(1, .ptr 0 0), (3, .ptr 1 0), (4, iA v7), (10, .ptr 1 0), (11, sA x0.gSettings.gSalt), (12, bA v1), (13, bA (!v1)), (14, iA v2), (15, .ptr 1 2), (16, iA x0.gSettings.gHoldout), (17, bA false), (18, bA false), (19, .ptr 1 2), (20, iA x0.gSettings.gHoldout), (21, bA (decide (x0.gSettings.gHoldout > 10000))), (22, bA (false || (decide (x0.gSettings.gHoldout > 10000)))), (23, iA v3), (24, .ptr 1 1), (25, sA x0.gSettings.gHoldoutKind), (26, bA false), (27, bA (!false)), (28, bA (!false)), (29, .ptr 1 1), (30, sA x0.gSettings.gHoldoutKind), (31, bA (!true)), (32, bA (!true)), (33, .ptr 1 2), (34, iA x0.gSettings.gHoldout), (35, bA (x0.gSettings.gHoldout != 0)), (36, bA ((!true) || (x0.gSettings.gHoldout != 0))), (37, bA ((!false) && ((!true) || (x0.gSettings.gHoldout != 0)))), (38, iA v5), (39, .ptr 0 3), (40, .ro .unk x0.gAttributes.length (TDeclared.cl x0.gAttributes)), (41, iA v6), (42, .ro .unk ([v2, v3, v5, v6]).length (cl_i64 ([v2, v3, v5, v6]))), (43, iA v7)] ?_
          exact AD_here [1, 4] (by kernel_rfl) rfl
        | false =>
          refine RD 5 68 [(20, 1), (19, 1), (10, 1), (9, 1), (30, 0), (29, 0), (15, 1), (14, 1), (6, 1), (5, 1), (1, 1), (0, 1)] [(1, .ptr 0 0), (3, .ptr 1 0), (10, .ptr 1 0), (11, sA x0.gSettings.gSalt), (12, bA v1), (13, bA (!v1)), (14, iA v2), (15, .ptr 1 2), (16, iA x0.gSettings.gHoldout), (17, bA false), (18, bA false), (19, .ptr 1 2), (20, iA x0.gSettings.gHoldout), (21, bA (decide (x0.gSettings.gHoldout > 10000))), (22, bA (false || (decide (x0.gSettings.gHoldout > 10000)))), (23, iA v3), (24, .ptr 1 1), (25, sA x0.gSettings.gHoldoutKind), (26, bA false), (27, bA (!false)), (28, bA (!false)), (29, .ptr 1 1), (30, sA x0.gSettings.gHoldoutKind), (31, bA (!false)), (32, bA (!false)), (33, undefA), (34, undefA), (35, undefA), (36, bA ((!false) || (x0.gSettings.gHoldout != 0))), (37, bA ((!false) && ((!false) || (x0.gSettings.gHoldout != 0)))), (39, .ptr 0 3), (40, .ro .unk x0.gAttributes.length (TDeclared.cl x0.gAttributes))] ?_
          try rw [c1] at hv5
          try rw [c2] at hv5
          try rw [c3] at hv5
          refine AD_callp (d := (some 38)) (al := [bA ((!false) && ((!false) || (x0.gSettings.gHoldout != 0))), iA 6]) (r := iA v5) (by kernel_rfl) (s_shape_when hv5) ⟨trivial, trivial, trivial⟩ trivial ?_
          refine AD_callp (d := (some 41)) (al := [.ro .unk x0.gAttributes.length (TDeclared.cl x0.gAttributes)]) (r := iA v6) (by kernel_rfl) (s_shape_attributes hG hv6) ⟨(scl_TDeclared_cl _ _), trivial⟩ trivial ?_
          refine AD_bsl (d := (some 42)) (m := 4) (cs := [iA v2, iA v3, iA v5, iA v6]) (by kernel_rfl) ⟨trivial, trivial, trivial, trivial, trivial⟩ ?_
          refine AD_callp (d := (some 43)) (al := [.ro .unk ([v2, v3, v5, v6]).length (cl_i64 ([v2, v3, v5, v6]))]) (r := iA v7) (by kernel_rfl) (s_shape_first hv7) ⟨(scl_cl_i64 _ _), trivial⟩ trivial ?_
          refine RD 1 68 [(20, 1), (19, 1), (10, 1), (9, 1), (30, 0), (29, 0), (15, 1), (14, 1), (6, 1), (5, 1), (1, 1), (0, 1)] [(1, .ptr 0 0), (3, .ptr 1 0), (4, iA v7), (10, .ptr 1 0), (11, sA x0.gSettings.gSalt), (12, bA v1), (13, bA (!v1)), (14, iA v2), (15, .ptr 1 2), (16, iA x0.gSettings.gHoldout), (17, bA false), (18, bA false), (19, .ptr 1 2), (20, iA x0.gSettings.gHoldout), (21, bA (decide (x0.gSettings.gHoldout > 10000))), (22, bA (false || (decide (x0.gSettings.gHoldout > 10000)))), (23, iA v3), (24, .ptr 1 1), (25, sA x0.gSettings.gHoldoutKind), (26, bA false), (27, bA (!false)), (28, bA (!false)), (29, .ptr 1 1), (30, sA x0.gSettings.gHoldoutKind), (31, bA (!false)), (32, bA (!false)), (33, undefA), (34, undefA), (35, undefA), (36, bA ((!false) || (x0.gSettings.gHoldout != 0))), (37, bA ((!false) && ((!false) || (x0.gSettings.gHoldout != 0)))), (38, iA v5), (39, .ptr 0 3), (40, .ro .unk x0.gAttributes.length (TDeclared.cl x0.gAttributes)), (41, iA v6), (42, .ro .unk ([v2, v3, v5, v6]).length (cl_i64 ([v2, v3, v5, v6]))), (43, iA v7)] ?_
          exact AD_here [1, 4] (by kernel_rfl) rfl
  refine AWP_reg (Rh 2 68 [(1, .ptr 0 0), (4, iA v7), (45, bA (v7 != 0))] (AOps_done (CD H (fun hb8 H => ?_) (fun hb8 H => ?_))))
  · refine AWP_reg (Rh 2 68 [(2, iA v7)] (AOps_done ?_))
    exact AWP_ret (FR H)
  · refine AWP_skip ?_
    show AWP _ _ _ _ _ _ _
    refine AWP_seq (AWP_reg (Rh 2 68 [(1, .ptr 0 0), (48, .ro .unk x0.gSegments.length (TSegment.cl x0.gSegments))] ?_))
    obtain ⟨v9, hv9, H⟩ := bind_some H
    refine AOps_callp (d := (some 49)) (al := [.ro .unk x0.gSegments.length (TSegment.cl x0.gSegments), iA 20, .val (.func (.func 36) #[] #[]), .val (.func (.func 90) #[] #[])]) (r := iA v9) (by kernel_rfl) (s_shape_list_api_Segment hG hv9) ⟨(scl_TSegment_cl _ _), trivial, trivial, trivial, trivial⟩ trivial ?_
    refine Rh 1 68 [(1, .ptr 0 0), (5, iA v9)] (AOps_done (AWP_reg (Rh 2 68 [(1, .ptr 0 0), (5, iA v9), (51, bA (v9 != 0))] (AOps_done (CD H (fun hb10 H => ?_) (fun hb10 H => ?_))))))
    · refine AWP_reg (Rh 2 68 [(2, iA v9)] (AOps_done ?_))
      exact AWP_ret (FR H)
    · refine AWP_skip ?_
      show AWP _ _ _ _ _ _ _
      refine AWP_seq (AWP_reg (Rh 2 68 [(1, .ptr 0 0), (54, .ro .unk x0.gFlags.length (TFlag.cl x0.gFlags))] ?_))
      obtain ⟨v11, hv11, H⟩ := bind_some H
      refine AOps_callp (d := (some 55)) (al := [.ro .unk x0.gFlags.length (TFlag.cl x0.gFlags), iA 30, .val (.func (.func 34) #[] #[]), .val (.func (.func 92) #[] #[])]) (r := iA v11) (by kernel_rfl) (s_shape_list_api_Flag hG hv11) ⟨(scl_TFlag_cl _ _), trivial, trivial, trivial, trivial⟩ trivial ?_
      refine Rh 1 68 [(1, .ptr 0 0), (6, iA v11)] (AOps_done (AWP_reg (Rh 2 68 [(1, .ptr 0 0), (6, iA v11), (57, bA (v11 != 0))] (AOps_done (CD H (fun hb12 H => ?_) (fun hb12 H => ?_))))))
      · refine AWP_reg (Rh 2 68 [(2, iA v11)] (AOps_done ?_))
        exact AWP_ret (FR H)
      · refine AWP_skip ?_
        show AWP _ _ _ _ _ _ _
        refine AWP_seq (AWP_reg (Rh 2 68 [(1, .ptr 0 0), (60, .ro .unk x0.gLayers.length (TLayer.cl x0.gLayers))] ?_))
        obtain ⟨v13, hv13, H⟩ := bind_some H
        refine AOps_callp (d := (some 61)) (al := [.ro .unk x0.gLayers.length (TLayer.cl x0.gLayers), iA 6, .val (.func (.func 38) #[] #[]), .val (.func (.func 94) #[] #[])]) (r := iA v13) (by kernel_rfl) (s_shape_list_api_Layer hG hv13) ⟨(scl_TLayer_cl _ _), trivial, trivial, trivial, trivial⟩ trivial ?_
        refine Rh 1 68 [(1, .ptr 0 0), (7, iA v13)] (AOps_done (AWP_reg (Rh 2 68 [(1, .ptr 0 0), (7, iA v13), (63, bA (v13 != 0))] (AOps_done (CD H (fun hb14 H => ?_) (fun hb14 H => ?_))))))
        · refine AWP_reg (Rh 2 68 [(2, iA v13)] (AOps_done ?_))
          exact AWP_ret (FR H)
        · refine AWP_skip ?_
          show AWP _ _ _ _ _ _ _
          refine AWP_reg (Rh 2 68 [(66, .ro .unk x0.gExperiments.length (TExperiment.cl x0.gExperiments))] ?_)
          obtain ⟨v15, hv15, H⟩ := bind_some H
          refine AOps_callp (d := (some 67)) (al := [.ro .unk x0.gExperiments.length (TExperiment.cl x0.gExperiments), iA 16, .val (.func (.func 40) #[] #[]), .val (.func (.func 96) #[] #[])]) (r := iA v15) (by kernel_rfl) (s_shape_list_api_Experiment hG hv15) ⟨(scl_TExperiment_cl _ _), trivial, trivial, trivial, trivial⟩ trivial ?_
          refine Rh 1 68 [(2, iA v15)] (AOps_done ?_)
          exact AWP_ret (FR H)
theorem s_law6_awake {n : Nat} (hG : GlobT E)  {r : Bool} (H : p_law6_awake n  = some r) :
    Sp Tryz.prog E 10 [] [] (isA (bA r) []) := by
  unfold p_law6_awake at H
  refine Sp_fn Tryz.func10 rfl (fun hc hs => ?_)
  refine AWP_reg (Rh 1 17 [] (AOps_done (AWP_reg (Rh 1 17 [(2, .agg [iA 0, iA 10000, iA 2])] (AOps_bsl (d := (some 3)) (m := 1) (cs := [iA 0, iA 10000, iA 2]) (by kernel_rfl) ⟨trivial, trivial, trivial, trivial⟩ ?_)))))
  refine Rh 1 17 [(1, .ro .unk ([({ gFrom := 0, gTo := 10000, gVariation := 2 } : TRange)]).length (TRange.cl ([({ gFrom := 0, gTo := 10000, gVariation := 2 } : TRange)])))] (AOps_done (AWP_reg (Rh 1 17 [(1, .ro .unk ([({ gFrom := 0, gTo := 10000, gVariation := 2 } : TRange)]).length (TRange.cl ([({ gFrom := 0, gTo := 10000, gVariation := 2 } : TRange)]))), (4, .agg [sA ByteArray.empty, sA ByteArray.empty, iA 0, .ro .full 0 [], .ro .full 0 [], .ro .full 0 [], .ro .full 0 [], .ro .full 0 []])] ?_)))
  obtain ⟨v1, hv1, H⟩ := bind_some H
  refine AOps_callp (d := (some 5)) (al := [.agg [sA ByteArray.empty, sA ByteArray.empty, iA 0, .ro .full 0 [], .ro .full 0 [], .ro .full 0 [], .ro .full 0 [], .ro .full 0 []]]) (r := iA v1) (by kernel_rfl) (Sp.le (leL_cons (AV.le_agg (leL_cons (AV.le_refl _) (leL_cons (AV.le_refl _) (leL_cons (AV.le_refl _) (leL_cons (AV.le_ro _ _ _) (leL_cons (AV.le_ro _ _ _) (leL_cons (AV.le_ro _ _ _) (leL_cons (AV.le_ro _ _ _) (leL_cons (AV.le_ro _ _ _) (leL_refl _))))))))) rfl) (leL_refl _)) (s_shape_Environment hG hv1)) ⟨⟨trivial, trivial, trivial, trivial, trivial, trivial, trivial, trivial, trivial⟩, trivial⟩ trivial ?_
  refine Rh 2 17 [(1, .ro .unk ([({ gFrom := 0, gTo := 10000, gVariation := 2 } : TRange)]).length (TRange.cl ([({ gFrom := 0, gTo := 10000, gVariation := 2 } : TRange)]))), (7, bA (v1 == 0))] ?_
  obtain ⟨v2, hv2, H⟩ := bind_some H
  refine AOps_cut 4 (st' := fr 17 [(1, .ro .unk ([({ gFrom := 0, gTo := 10000, gVariation := 2 } : TRange)]).length (TRange.cl ([({ gFrom := 0, gTo := 10000, gVariation := 2 } : TRange)]))), (11, bA ((v1 == 0) && (v2 == 0)))]) (h' := []) ?_ ?_
  rotate_left
  · cases c1 : (v1 == 0 : Bool) with
    | true =>
      refine R 1 17 [(1, .ro .unk ([({ gFrom := 0, gTo := 10000, gVariation := 2 } : TRange)]).length (TRange.cl ([({ gFrom := 0, gTo := 10000, gVariation := 2 } : TRange)]))), (7, bA true), (8, .ro .unk ([({ gFrom := 0, gTo := 10000, gVariation := 2 } : TRange)]).length (TRange.cl ([({ gFrom := 0, gTo := 10000, gVariation := 2 } : TRange)])))] [] ?_
      have hv2_ := cond_t hv2 (by simp only [c1] <;> rfl)
      refine AOps_callp (d := (some 9)) (al := [.ro .unk ([({ gFrom := 0, gTo := 10000, gVariation := 2 } : TRange)]).length (TRange.cl ([({ gFrom := 0, gTo := 10000, gVariation := 2 } : TRange)])), iA 2]) (r := iA v2) (by kernel_rfl) (s_shape_Split hv2_) ⟨(scl_TRange_cl _ _), trivial, trivial⟩ trivial ?_
      refine R 2 17 [(1, .ro .unk ([({ gFrom := 0, gTo := 10000, gVariation := 2 } : TRange)]).length (TRange.cl ([({ gFrom := 0, gTo := 10000, gVariation := 2 } : TRange)]))), (11, bA (true && (v2 == 0)))] [] ?_
      exact AOps_here [1, 11] (by kernel_rfl) rfl
    | false =>
      refine R 4 17 [(1, .ro .unk ([({ gFrom := 0, gTo := 10000, gVariation := 2 } : TRange)]).length (TRange.cl ([({ gFrom := 0, gTo := 10000, gVariation := 2 } : TRange)]))), (11, bA (false && (v2 == 0)))] [] ?_
      exact AOps_here [1, 11] (by kernel_rfl) rfl
  refine Rh 1 17 [(1, .ro .unk ([({ gFrom := 0, gTo := 10000, gVariation := 2 } : TRange)]).length (TRange.cl ([({ gFrom := 0, gTo := 10000, gVariation := 2 } : TRange)]))), (12, bA ((v1 == 0) && (v2 == 0)))] ?_
  obtain ⟨v3, hv3, H⟩ := bind_some H
  refine AOps_cut 4 (st' := fr 17 [(16, bA (((v1 == 0) && (v2 == 0)) && (v3 == 3)))]) (h' := []) ?_ ?_
  rotate_left
  · cases c1 : ((v1 == 0) && (v2 == 0) : Bool) with
    | true =>
      refine R 1 17 [(12, bA true), (13, .ro .unk ([({ gFrom := 0, gTo := 10000, gVariation := 2 } : TRange)]).length (TRange.cl ([({ gFrom := 0, gTo := 10000, gVariation := 2 } : TRange)])))] [] ?_
      have hv3_ := cond_t hv3 (by simp only [c1] <;> rfl)
      refine AOps_callp (d := (some 14)) (al := [.ro .unk ([({ gFrom := 0, gTo := 10000, gVariation := 2 } : TRange)]).length (TRange.cl ([({ gFrom := 0, gTo := 10000, gVariation := 2 } : TRange)])), iA 1]) (r := iA v3) (by kernel_rfl) (s_shape_Split hv3_) ⟨(scl_TRange_cl _ _), trivial, trivial⟩ trivial ?_
      refine R 2 17 [(16, bA (true && (v3 == 3)))] [] ?_
      exact AOps_here [16] (by kernel_rfl) rfl
    | false =>
      refine R 4 17 [(16, bA (false && (v3 == 3)))] [] ?_
      exact AOps_here [16] (by kernel_rfl) rfl
  refine Rh 1 17 [(0, bA (((v1 == 0) && (v2 == 0)) && (v3 == 3)))] (AOps_done ?_)
  exact AWP_ret (FR H)
end Go.Proofs.YtjhbobacbaikoaaGreatDoor
/- Functions of the program as pure functions, and that the program computes these. -/
namespace Go.Proofs.YtjhbobacbaikoaaGreatDoor
open Go
set_option linter.unusedVariables false
set_option linter.unusedSimpArgs false
set_option maxRecDepth 100000
def p_law6_big_L1 (n : Nat) (self_p_law6_big : TExpr → Option Bool) (x0 : TExpr) (v10 : Int) : Option Bool := match n with
| 0 => none
| n + 1 =>
(bif (decide (v10 < (lI x0.gKids))) && (decide ((w64 ((lI x0.gKids) + (lI x0.gValues))) < 200)) then
(rdO x0.gKids v10).bind fun v12 =>
(self_p_law6_big v12).bind fun v13 =>
(bif v13 then
 some (true)
 else
 p_law6_big_L1 n self_p_law6_big x0 (w64 (v10 + 1)))
 else
 some (decide ((w64 ((lI x0.gKids) + (lI x0.gValues))) ≥ 200)))
def p_law6_big_F (self_p_law6_big : TExpr → Option Bool) (n : Nat) (x0 : TExpr) : Option Bool :=
 p_law6_big_L1 n self_p_law6_big x0 0
def p_law6_big (n : Nat) (x0 : TExpr) : Option Bool := match n with
| 0 => none
| n + 1 => p_law6_big_F (p_law6_big n) n x0
def p_law6_ShapeFlags_L1 (n : Nat) (x0 : TFlag) (x1 : TSegment) (x2 : TLayer) (x3 : TExperiment) (v15 : Int) : Option Bool := match n with
| 0 => none
| n + 1 =>
(bif decide (v15 < (lI x0.gRules)) then
(rdO x0.gRules v15).bind fun v17 =>
(p_law6_big n v17.gWhen).bind fun v18 =>
(bif v18 then
 some (true)
 else
 p_law6_ShapeFlags_L1 n x0 x1 x2 x3 (w64 (v15 + 1)))
 else
(p_shape_Flag n x0).bind fun v20 =>
(p_ref6_Flag n x0).bind fun v21 =>
(bif v20 == v21 then p_shape_Segment n x1 else some (0)).bind fun v22 =>
(bif v20 == v21 then p_ref6_Segment n x1 else some (0)).bind fun v23 =>
(bif (v20 == v21) && (v22 == v23) then p_shape_Layer n x2 else some (0)).bind fun v24 =>
(bif (v20 == v21) && (v22 == v23) then p_ref6_Layer n x2 else some (0)).bind fun v25 =>
(bif ((v20 == v21) && (v22 == v23)) && (v24 == v25) then p_shape_Experiment n x3 else some (0)).bind fun v26 =>
(bif ((v20 == v21) && (v22 == v23)) && (v24 == v25) then p_ref6_Experiment n x3 else some (0)).bind fun v27 =>
 some ((((v20 == v21) && (v22 == v23)) && (v24 == v25)) && (v26 == v27)))
def p_law6_ShapeFlags (n : Nat) (x0 : TFlag) (x1 : TSegment) (x2 : TLayer) (x3 : TExperiment) : Option Bool :=
(p_law6_awake n ).bind fun v1 =>
(bif !v1 then
 some (false)
 else
(bif !((((((((decide ((lI x0.gRules) > 20)) || (decide ((lI x0.gVariations) > 20))) || (decide ((lI x0.gTargets) > 20))) || (decide ((lI x1.gInclude) > 60))) || (decide ((lI x1.gExclude) > 60))) || (decide ((lI x2.gCooling) > 60))) || (decide ((lI x3.gClaims) > 40))) || (decide ((lI x3.gArms) > 40))) then p_law6_big n x3.gWhen else some (false)).bind fun v3 =>
(bif !(((((((((decide ((lI x0.gRules) > 20)) || (decide ((lI x0.gVariations) > 20))) || (decide ((lI x0.gTargets) > 20))) || (decide ((lI x1.gInclude) > 60))) || (decide ((lI x1.gExclude) > 60))) || (decide ((lI x2.gCooling) > 60))) || (decide ((lI x3.gClaims) > 40))) || (decide ((lI x3.gArms) > 40))) || v3) then p_law6_big n x1.gWhen else some (false)).bind fun v4 =>
(bif (((((((((decide ((lI x0.gRules) > 20)) || (decide ((lI x0.gVariations) > 20))) || (decide ((lI x0.gTargets) > 20))) || (decide ((lI x1.gInclude) > 60))) || (decide ((lI x1.gExclude) > 60))) || (decide ((lI x2.gCooling) > 60))) || (decide ((lI x3.gClaims) > 40))) || (decide ((lI x3.gArms) > 40))) || v3) || v4 then
 some (true)
 else
 p_law6_ShapeFlags_L1 n x0 x1 x2 x3 0))
variable {E : Env}
theorem s_law6_big_F {self_p_law6_big : TExpr → Option Bool} (hself_law6_big : ∀ {x0 : TExpr}, ∀ {r : Bool}, self_p_law6_big x0 = some r → Sp Tryz.prog E 11 [.agg (TExpr.cs x0)] [] (isA (bA r) [])) {n : Nat} {x0 : TExpr} {r : Bool} (H : p_law6_big_F self_p_law6_big n x0 = some r) :
    Sp Tryz.prog E 11 [.agg (TExpr.cs x0)] [] (isA (bA r) []) := by
  unfold p_law6_big_F at H
  refine Sp_fn Tryz.func11 rfl (fun hc hs => ?_)
  refine AWP_reg (R 2 31 [(1, .ptr 0 0)] [.cells 25 (TExpr.cs x0)] (AOps_done (AWP_reg (Rh 8 31 [(1, .ptr 0 0), (3, iA (w64 ((lI x0.gKids) + (lI x0.gValues))))] (AOps_done (AWP_seq (AWP_reg (Rh 1 31 [(1, .ptr 0 0), (3, iA (w64 ((lI x0.gKids) + (lI x0.gValues)))), (4, iA 0)] ?_))))))))
  refine AOps_done (AWP_block ?_)
  refine AWP_loopN (α := Int) (fun v10 => fr 31 [(1, .ptr 0 0), (3, iA (w64 ((lI x0.gKids) + (lI x0.gValues)))), (4, iA v10)]) (fun v10 => [.cells 25 (TExpr.cs x0)]) (fun k_ v10 => k_ ≤ n ∧ p_law6_big_L1 k_ self_p_law6_big x0 v10 = some r) (fun n v10 H => ?_) (k := n) 0 ⟨Nat.le_refl _, H⟩ (Norm_fd [1, 3, 4] 0 (by kernel_rfl) rfl rfl ⟨(sc_TExpr_cs _ _), trivial⟩ (by refine scL_fr ?_; exact ⟨(sc_ptr rfl), trivial, trivial, trivial⟩))
  show AWP _ _ _ _ _ (fr 31 [(1, .ptr 0 0), (3, iA (w64 ((lI x0.gKids) + (lI x0.gValues)))), (4, iA v10)]) [.cells 25 (TExpr.cs x0)]
  obtain ⟨hb_, H⟩ := H
  replace H : p_law6_big_L1 n self_p_law6_big x0 v10 = some r := H
  cases n with
  | zero => exact not_none (by simpa only [p_law6_big_L1] using H)
  | succ n =>
    unfold p_law6_big_L1 at H
    refine AWP_seq (AWP_reg (Rh 6 31 [(1, .ptr 0 0), (3, iA (w64 ((lI x0.gKids) + (lI x0.gValues)))), (4, iA v10), (17, bA (decide (v10 < (lI x0.gKids))))] (AOps_run 3 [1, 3, 4, 20] (st' := fr 31 [(1, .ptr 0 0), (3, iA (w64 ((lI x0.gKids) + (lI x0.gValues)))), (4, iA v10), (20, bA ((decide (v10 < (lI x0.gKids))) && (decide ((w64 ((lI x0.gKids) + (lI x0.gValues))) < 200))))]) (h' := [.cells 25 (TExpr.cs x0)]) (by (generalize (decide (v10 < (lI x0.gKids))) = t0; cases t0 <;> kernel_rfl)) ?_)))
    refine AOps_done (CD H (fun hb11 H => ?_) (fun hb11 H => ?_))
    · refine AWP_skip ?_
      show AWP _ _ _ _ _ _ _
      refine AWP_seq (AWP_block ?_)
      refine AWP_reg (Rh 3 31 [(1, .ptr 0 0), (3, iA (w64 ((lI x0.gKids) + (lI x0.gValues)))), (4, iA v10), (24, .ro .unk x0.gKids.length (TExpr.cl x0.gKids)), (25, iA v10)] ?_)
      obtain ⟨v12, hv12, H⟩ := bind_some H
      refine AOps_index (d := (some 26)) (sz := 5) (c := TExpr.cs) (by kernel_rfl) rfl (eq_TExpr_cl _) (fun _ => rfl) (by decide) hv12 (fun tl12 => ?_)
      refine Rh 1 31 [(1, .ptr 0 0), (3, iA (w64 ((lI x0.gKids) + (lI x0.gValues)))), (4, iA v10), (27, .agg (TExpr.cs v12))] ?_
      obtain ⟨v13, hv13, H⟩ := bind_some H
      refine AOps_callp (d := (some 28)) (al := [.agg (TExpr.cs v12)]) (r := bA v13) (by kernel_rfl) (hself_law6_big hv13) ⟨(sc_TExpr_cs _ _), trivial⟩ trivial ?_
      refine AOps_done (CD H (fun hb14 H => ?_) (fun hb14 H => ?_))
      · refine AWP_reg (Rh 1 31 [(2, bA true)] (AOps_done ?_))
        exact AWP_ret (FR H)
      · refine AWP_skip ?_
        show AWP _ _ _ _ _ _ _
        refine AWP_region ?_
        refine Rh 3 31 [(1, .ptr 0 0), (3, iA (w64 ((lI x0.gKids) + (lI x0.gValues)))), (4, iA (w64 (v10 + 1)))] (AOps_done ?_)
        exact Exists.intro (w64 (v10 + 1)) (Exists.intro n ⟨by omega, ⟨by omega, H⟩, Norm_fd [1, 3, 4] 0 (by kernel_rfl) rfl rfl ⟨(sc_TExpr_cs _ _), trivial⟩ (by refine scL_fr ?_; exact ⟨(sc_ptr rfl), trivial, trivial, trivial⟩)⟩)
    · refine AWP_exit ?_
      show AWP _ _ _ _ _ _ _
      refine AWP_reg (Rh 3 31 [(2, bA (decide ((w64 ((lI x0.gKids) + (lI x0.gValues))) ≥ 200)))] (AOps_done ?_))
      exact AWP_ret (FR H)
theorem s_all_law6_big : ∀ n : Nat, (∀ {x0 : TExpr}, ∀ {r : Bool}, p_law6_big n x0 = some r → Sp Tryz.prog E 11 [.agg (TExpr.cs x0)] [] (isA (bA r) [])) := by
  intro n
  induction n with
  | zero => exact fun H => not_none (by simpa only [p_law6_big] using H)
  | succ n ih => exact fun H => s_law6_big_F ih (by simpa only [p_law6_big] using H)
theorem s_law6_big {n : Nat} {x0 : TExpr} {r : Bool} (H : p_law6_big n x0 = some r) :
    Sp Tryz.prog E 11 [.agg (TExpr.cs x0)] [] (isA (bA r) []) := (s_all_law6_big n) H
theorem s_law6_ShapeFlags {n : Nat} (hG : GlobT E) {x0 : TFlag} {x1 : TSegment} {x2 : TLayer} {x3 : TExperiment} {r : Bool} (H : p_law6_ShapeFlags n x0 x1 x2 x3 = some r) :
    Sp Tryz.prog E 6 [.agg (TFlag.cs x0), .agg (TSegment.cs x1), .agg (TLayer.cs x2), .agg (TExperiment.cs x3)] [] (isA (bA r) []) := by
  unfold p_law6_ShapeFlags at H
  refine Sp_fn Tryz.func6 rfl (fun hc hs => ?_)
  refine AWP_reg (R 5 108 [(4, .ptr 0 0), (5, .ptr 1 0), (6, .ptr 2 0), (7, .ptr 3 0)] [.cells 42 (TExperiment.cs x3), .cells 74 (TLayer.cs x2), .cells 71 (TSegment.cs x1), .cells 65 (TFlag.cs x0)] (AOps_done (AWP_seq (AWP_reg ?_))))
  obtain ⟨v1, hv1, H⟩ := bind_some H
  refine AOps_callp (d := (some 10)) (al := []) (r := bA v1) (by kernel_rfl) (s_law6_awake hG hv1) trivial trivial ?_
  refine Rh 1 108 [(4, .ptr 0 0), (5, .ptr 1 0), (6, .ptr 2 0), (7, .ptr 3 0), (11, bA (!v1))] (AOps_done (CD H (fun hb2 H => ?_) (fun hb2 H => ?_)))
  · refine AWP_reg (Rh 1 108 [(8, bA false)] (AOps_done ?_))
    exact AWP_ret (FR H)
  · refine AWP_skip ?_
    show AWP _ _ _ _ _ _ _
    refine AWP_seq (AWP_reg (Rh 5 108 [(4, .ptr 0 0), (5, .ptr 1 0), (6, .ptr 2 0), (7, .ptr 3 0), (16, bA (decide ((lI x0.gRules) > 20)))] (AOps_run 5 [4, 5, 6, 7, 21] (st' := fr 108 [(4, .ptr 0 0), (5, .ptr 1 0), (6, .ptr 2 0), (7, .ptr 3 0), (21, bA ((decide ((lI x0.gRules) > 20)) || (decide ((lI x0.gVariations) > 20))))]) (h' := [.cells 42 (TExperiment.cs x3), .cells 74 (TLayer.cs x2), .cells 71 (TSegment.cs x1), .cells 65 (TFlag.cs x0)]) (by (generalize (decide ((lI x0.gRules) > 20)) = t0; cases t0 <;> kernel_rfl)) ?_)))
    refine Rh 1 108 [(4, .ptr 0 0), (5, .ptr 1 0), (6, .ptr 2 0), (7, .ptr 3 0), (22, bA ((decide ((lI x0.gRules) > 20)) || (decide ((lI x0.gVariations) > 20))))] (AOps_run 5 [4, 5, 6, 7, 27] (st' := fr 108 [(4, .ptr 0 0), (5, .ptr 1 0), (6, .ptr 2 0), (7, .ptr 3 0), (27, bA (((decide ((lI x0.gRules) > 20)) || (decide ((lI x0.gVariations) > 20))) || (decide ((lI x0.gTargets) > 20))))]) (h' := [.cells 42 (TExperiment.cs x3), .cells 74 (TLayer.cs x2), .cells 71 (TSegment.cs x1), .cells 65 (TFlag.cs x0)]) (by (generalize (decide ((lI x0.gRules) > 20)) = t0; generalize (decide ((lI x0.gVariations) > 20)) = t1; cases t0 <;> cases t1 <;> kernel_rfl)) ?_)
    refine Rh 1 108 [(4, .ptr 0 0), (5, .ptr 1 0), (6, .ptr 2 0), (7, .ptr 3 0), (28, bA (((decide ((lI x0.gRules) > 20)) || (decide ((lI x0.gVariations) > 20))) || (decide ((lI x0.gTargets) > 20))))] (AOps_run 5 [4, 5, 6, 7, 33] (st' := fr 108 [(4, .ptr 0 0), (5, .ptr 1 0), (6, .ptr 2 0), (7, .ptr 3 0), (33, bA ((((decide ((lI x0.gRules) > 20)) || (decide ((lI x0.gVariations) > 20))) || (decide ((lI x0.gTargets) > 20))) || (decide ((lI x1.gInclude) > 60))))]) (h' := [.cells 42 (TExperiment.cs x3), .cells 74 (TLayer.cs x2), .cells 71 (TSegment.cs x1), .cells 65 (TFlag.cs x0)]) (by (generalize (decide ((lI x0.gRules) > 20)) = t0; generalize (decide ((lI x0.gVariations) > 20)) = t1; generalize (decide ((lI x0.gTargets) > 20)) = t2; cases t0 <;> cases t1 <;> cases t2 <;> kernel_rfl)) ?_)
    refine Rh 1 108 [(4, .ptr 0 0), (5, .ptr 1 0), (6, .ptr 2 0), (7, .ptr 3 0), (34, bA ((((decide ((lI x0.gRules) > 20)) || (decide ((lI x0.gVariations) > 20))) || (decide ((lI x0.gTargets) > 20))) || (decide ((lI x1.gInclude) > 60))))] (AOps_run 5 [4, 5, 6, 7, 39] (st' := fr 108 [(4, .ptr 0 0), (5, .ptr 1 0), (6, .ptr 2 0), (7, .ptr 3 0), (39, bA (((((decide ((lI x0.gRules) > 20)) || (decide ((lI x0.gVariations) > 20))) || (decide ((lI x0.gTargets) > 20))) || (decide ((lI x1.gInclude) > 60))) || (decide ((lI x1.gExclude) > 60))))]) (h' := [.cells 42 (TExperiment.cs x3), .cells 74 (TLayer.cs x2), .cells 71 (TSegment.cs x1), .cells 65 (TFlag.cs x0)]) (by (generalize (decide ((lI x0.gRules) > 20)) = t0; generalize (decide ((lI x0.gVariations) > 20)) = t1; generalize (decide ((lI x0.gTargets) > 20)) = t2; generalize (decide ((lI x1.gInclude) > 60)) = t3; cases t0 <;> cases t1 <;> cases t2 <;> cases t3 <;> kernel_rfl)) ?_)
    refine Rh 1 108 [(4, .ptr 0 0), (5, .ptr 1 0), (6, .ptr 2 0), (7, .ptr 3 0), (40, bA (((((decide ((lI x0.gRules) > 20)) || (decide ((lI x0.gVariations) > 20))) || (decide ((lI x0.gTargets) > 20))) || (decide ((lI x1.gInclude) > 60))) || (decide ((lI x1.gExclude) > 60))))] (AOps_run 5 [4, 5, 6, 7, 45] (st' := fr 108 [(4, .ptr 0 0), (5, .ptr 1 0), (6, .ptr 2 0), (7, .ptr 3 0), (45, bA ((((((decide ((lI x0.gRules) > 20)) || (decide ((lI x0.gVariations) > 20))) || (decide ((lI x0.gTargets) > 20))) || (decide ((lI x1.gInclude) > 60))) || (decide ((lI x1.gExclude) > 60))) || (decide ((lI x2.gCooling) > 60))))]) (h' := [.cells 42 (TExperiment.cs x3), .cells 74 (TLayer.cs x2), .cells 71 (TSegment.cs x1), .cells 65 (TFlag.cs x0)]) (by (generalize (decide ((lI x0.gRules) > 20)) = t0; generalize (decide ((lI x0.gVariations) > 20)) = t1; generalize (decide ((lI x0.gTargets) > 20)) = t2; generalize (decide ((lI x1.gInclude) > 60)) = t3; generalize (decide ((lI x1.gExclude) > 60)) = t4; cases t0 <;> cases t1 <;> cases t2 <;> cases t3 <;> cases t4 <;> kernel_rfl)) ?_)
    refine Rh 1 108 [(4, .ptr 0 0), (5, .ptr 1 0), (6, .ptr 2 0), (7, .ptr 3 0), (46, bA ((((((decide ((lI x0.gRules) > 20)) || (decide ((lI x0.gVariations) > 20))) || (decide ((lI x0.gTargets) > 20))) || (decide ((lI x1.gInclude) > 60))) || (decide ((lI x1.gExclude) > 60))) || (decide ((lI x2.gCooling) > 60))))] (AOps_run 5 [4, 5, 6, 7, 51] (st' := fr 108 [(4, .ptr 0 0), (5, .ptr 1 0), (6, .ptr 2 0), (7, .ptr 3 0), (51, bA (((((((decide ((lI x0.gRules) > 20)) || (decide ((lI x0.gVariations) > 20))) || (decide ((lI x0.gTargets) > 20))) || (decide ((lI x1.gInclude) > 60))) || (decide ((lI x1.gExclude) > 60))) || (decide ((lI x2.gCooling) > 60))) || (decide ((lI x3.gClaims) > 40))))]) (h' := [.cells 42 (TExperiment.cs x3), .cells 74 (TLayer.cs x2), .cells 71 (TSegment.cs x1), .cells 65 (TFlag.cs x0)]) (by (generalize (decide ((lI x0.gRules) > 20)) = t0; generalize (decide ((lI x0.gVariations) > 20)) = t1; generalize (decide ((lI x0.gTargets) > 20)) = t2; generalize (decide ((lI x1.gInclude) > 60)) = t3; generalize (decide ((lI x1.gExclude) > 60)) = t4; generalize (decide ((lI x2.gCooling) > 60)) = t5; cases t0 <;> cases t1 <;> cases t2 <;> cases t3 <;> cases t4 <;> cases t5 <;> kernel_rfl)) ?_)
    refine Rh 1 108 [(4, .ptr 0 0), (5, .ptr 1 0), (6, .ptr 2 0), (7, .ptr 3 0), (52, bA (((((((decide ((lI x0.gRules) > 20)) || (decide ((lI x0.gVariations) > 20))) || (decide ((lI x0.gTargets) > 20))) || (decide ((lI x1.gInclude) > 60))) || (decide ((lI x1.gExclude) > 60))) || (decide ((lI x2.gCooling) > 60))) || (decide ((lI x3.gClaims) > 40))))] (AOps_run 5 [4, 5, 6, 7, 57] (st' := fr 108 [(4, .ptr 0 0), (5, .ptr 1 0), (6, .ptr 2 0), (7, .ptr 3 0), (57, bA ((((((((decide ((lI x0.gRules) > 20)) || (decide ((lI x0.gVariations) > 20))) || (decide ((lI x0.gTargets) > 20))) || (decide ((lI x1.gInclude) > 60))) || (decide ((lI x1.gExclude) > 60))) || (decide ((lI x2.gCooling) > 60))) || (decide ((lI x3.gClaims) > 40))) || (decide ((lI x3.gArms) > 40))))]) (h' := [.cells 42 (TExperiment.cs x3), .cells 74 (TLayer.cs x2), .cells 71 (TSegment.cs x1), .cells 65 (TFlag.cs x0)]) (by (generalize (decide ((lI x0.gRules) > 20)) = t0; generalize (decide ((lI x0.gVariations) > 20)) = t1; generalize (decide ((lI x0.gTargets) > 20)) = t2; generalize (decide ((lI x1.gInclude) > 60)) = t3; generalize (decide ((lI x1.gExclude) > 60)) = t4; generalize (decide ((lI x2.gCooling) > 60)) = t5; generalize (decide ((lI x3.gClaims) > 40)) = t6; cases t0 <;> cases t1 <;> cases t2 <;> cases t3 <;> cases t4 <;> cases t5 <;> cases t6 <;> kernel_rfl)) ?_)
    refine Rh 1 108 [(4, .ptr 0 0), (5, .ptr 1 0), (6, .ptr 2 0), (7, .ptr 3 0), (58, bA ((((((((decide ((lI x0.gRules) > 20)) || (decide ((lI x0.gVariations) > 20))) || (decide ((lI x0.gTargets) > 20))) || (decide ((lI x1.gInclude) > 60))) || (decide ((lI x1.gExclude) > 60))) || (decide ((lI x2.gCooling) > 60))) || (decide ((lI x3.gClaims) > 40))) || (decide ((lI x3.gArms) > 40))))] ?_
    obtain ⟨v3, hv3, H⟩ := bind_some H
    refine AOps_cut 4 (st' := fr 108 [(4, .ptr 0 0), (5, .ptr 1 0), (6, .ptr 2 0), (7, .ptr 3 0), (62, bA (((((((((decide ((lI x0.gRules) > 20)) || (decide ((lI x0.gVariations) > 20))) || (decide ((lI x0.gTargets) > 20))) || (decide ((lI x1.gInclude) > 60))) || (decide ((lI x1.gExclude) > 60))) || (decide ((lI x2.gCooling) > 60))) || (decide ((lI x3.gClaims) > 40))) || (decide ((lI x3.gArms) > 40))) || v3))]) (h' := [.cells 42 (TExperiment.cs x3), .cells 74 (TLayer.cs x2), .cells 71 (TSegment.cs x1), .cells 65 (TFlag.cs x0)]) ?_ ?_
    rotate_left
    · cases c1 : ((((((((decide ((lI x0.gRules) > 20)) || (decide ((lI x0.gVariations) > 20))) || (decide ((lI x0.gTargets) > 20))) || (decide ((lI x1.gInclude) > 60))) || (decide ((lI x1.gExclude) > 60))) || (decide ((lI x2.gCooling) > 60))) || (decide ((lI x3.gClaims) > 40))) || (decide ((lI x3.gArms) > 40)) : Bool) with
      | true =>
        refine R 4 108 [(4, .ptr 0 0), (5, .ptr 1 0), (6, .ptr 2 0), (7, .ptr 3 0), (62, bA (true || v3))] [.cells 42 (TExperiment.cs x3), .cells 74 (TLayer.cs x2), .cells 71 (TSegment.cs x1), .cells 65 (TFlag.cs x0)] ?_
        exact AOps_here [4, 5, 6, 7, 62] (by kernel_rfl) rfl
      | false =>
        refine R 2 108 [(4, .ptr 0 0), (5, .ptr 1 0), (6, .ptr 2 0), (7, .ptr 3 0), (58, bA false), (60, .agg (TExpr.cs x3.gWhen))] [.cells 42 (TExperiment.cs x3), .cells 74 (TLayer.cs x2), .cells 71 (TSegment.cs x1), .cells 65 (TFlag.cs x0)] ?_
        have hv3_ := cond_t hv3 (by simp only [c1] <;> rfl)
        refine AOps_callp (d := (some 61)) (al := [.agg (TExpr.cs x3.gWhen)]) (r := bA v3) (by kernel_rfl) (s_law6_big hv3_) ⟨(sc_TExpr_cs _ _), trivial⟩ trivial ?_
        refine R 1 108 [(4, .ptr 0 0), (5, .ptr 1 0), (6, .ptr 2 0), (7, .ptr 3 0), (62, bA (false || v3))] [.cells 42 (TExperiment.cs x3), .cells 74 (TLayer.cs x2), .cells 71 (TSegment.cs x1), .cells 65 (TFlag.cs x0)] ?_
        exact AOps_here [4, 5, 6, 7, 62] (by kernel_rfl) rfl
    refine Rh 1 108 [(4, .ptr 0 0), (5, .ptr 1 0), (6, .ptr 2 0), (7, .ptr 3 0), (63, bA (((((((((decide ((lI x0.gRules) > 20)) || (decide ((lI x0.gVariations) > 20))) || (decide ((lI x0.gTargets) > 20))) || (decide ((lI x1.gInclude) > 60))) || (decide ((lI x1.gExclude) > 60))) || (decide ((lI x2.gCooling) > 60))) || (decide ((lI x3.gClaims) > 40))) || (decide ((lI x3.gArms) > 40))) || v3))] ?_
    obtain ⟨v4, hv4, H⟩ := bind_some H
    refine AOps_cut 4 (st' := fr 108 [(4, .ptr 0 0), (5, .ptr 1 0), (6, .ptr 2 0), (7, .ptr 3 0), (67, bA ((((((((((decide ((lI x0.gRules) > 20)) || (decide ((lI x0.gVariations) > 20))) || (decide ((lI x0.gTargets) > 20))) || (decide ((lI x1.gInclude) > 60))) || (decide ((lI x1.gExclude) > 60))) || (decide ((lI x2.gCooling) > 60))) || (decide ((lI x3.gClaims) > 40))) || (decide ((lI x3.gArms) > 40))) || v3) || v4))]) (h' := [.cells 42 (TExperiment.cs x3), .cells 74 (TLayer.cs x2), .cells 71 (TSegment.cs x1), .cells 65 (TFlag.cs x0)]) ?_ ?_
    rotate_left
    · cases c1 : (((((((((decide ((lI x0.gRules) > 20)) || (decide ((lI x0.gVariations) > 20))) || (decide ((lI x0.gTargets) > 20))) || (decide ((lI x1.gInclude) > 60))) || (decide ((lI x1.gExclude) > 60))) || (decide ((lI x2.gCooling) > 60))) || (decide ((lI x3.gClaims) > 40))) || (decide ((lI x3.gArms) > 40))) || v3 : Bool) with
      | true =>
        refine R 4 108 [(4, .ptr 0 0), (5, .ptr 1 0), (6, .ptr 2 0), (7, .ptr 3 0), (67, bA (true || v4))] [.cells 42 (TExperiment.cs x3), .cells 74 (TLayer.cs x2), .cells 71 (TSegment.cs x1), .cells 65 (TFlag.cs x0)] ?_
        exact AOps_here [4, 5, 6, 7, 67] (by kernel_rfl) rfl
      | false =>
        refine R 2 108 [(4, .ptr 0 0), (5, .ptr 1 0), (6, .ptr 2 0), (7, .ptr 3 0), (63, bA false), (65, .agg (TExpr.cs x1.gWhen))] [.cells 42 (TExperiment.cs x3), .cells 74 (TLayer.cs x2), .cells 71 (TSegment.cs x1), .cells 65 (TFlag.cs x0)] ?_
        have hv4_ := cond_t hv4 (by simp only [c1] <;> rfl)
        refine AOps_callp (d := (some 66)) (al := [.agg (TExpr.cs x1.gWhen)]) (r := bA v4) (by kernel_rfl) (s_law6_big hv4_) ⟨(sc_TExpr_cs _ _), trivial⟩ trivial ?_
        refine R 1 108 [(4, .ptr 0 0), (5, .ptr 1 0), (6, .ptr 2 0), (7, .ptr 3 0), (67, bA (false || v4))] [.cells 42 (TExperiment.cs x3), .cells 74 (TLayer.cs x2), .cells 71 (TSegment.cs x1), .cells 65 (TFlag.cs x0)] ?_
        exact AOps_here [4, 5, 6, 7, 67] (by kernel_rfl) rfl
    refine AOps_done (CD H (fun hb5 H => ?_) (fun hb5 H => ?_))
    · refine AWP_reg (Rh 1 108 [(8, bA true)] (AOps_done ?_))
      exact AWP_ret (FR H)
    · refine AWP_skip ?_
      show AWP _ _ _ _ _ _ _
      refine AWP_seq (AWP_reg (Rh 1 108 [(4, .ptr 0 0), (5, .ptr 1 0), (6, .ptr 2 0), (7, .ptr 3 0), (9, iA 0)] (AOps_done (AWP_block ?_))))
      refine AWP_loopN (α := Int) (fun v15 => fr 108 [(4, .ptr 0 0), (5, .ptr 1 0), (6, .ptr 2 0), (7, .ptr 3 0), (9, iA v15)]) (fun v15 => [.cells 42 (TExperiment.cs x3), .cells 74 (TLayer.cs x2), .cells 71 (TSegment.cs x1), .cells 65 (TFlag.cs x0)]) (fun k_ v15 => k_ ≤ n ∧ p_law6_ShapeFlags_L1 k_ x0 x1 x2 x3 v15 = some r) (fun n v15 H => ?_) (k := n) 0 ⟨Nat.le_refl _, H⟩ (Norm_fd [4, 5, 6, 7, 9] 0 (by kernel_rfl) rfl rfl ⟨(sc_TExperiment_cs _ _), (sc_TLayer_cs _ _), (sc_TSegment_cs _ _), (sc_TFlag_cs _ _), trivial⟩ (by refine scL_fr ?_; exact ⟨(sc_ptr rfl), (sc_ptr rfl), (sc_ptr rfl), (sc_ptr rfl), trivial, trivial⟩))
      show AWP _ _ _ _ _ (fr 108 [(4, .ptr 0 0), (5, .ptr 1 0), (6, .ptr 2 0), (7, .ptr 3 0), (9, iA v15)]) [.cells 42 (TExperiment.cs x3), .cells 74 (TLayer.cs x2), .cells 71 (TSegment.cs x1), .cells 65 (TFlag.cs x0)]
      obtain ⟨hb_, H⟩ := H
      replace H : p_law6_ShapeFlags_L1 n x0 x1 x2 x3 v15 = some r := H
      cases n with
      | zero => exact not_none (by simpa only [p_law6_ShapeFlags_L1] using H)
      | succ n =>
        unfold p_law6_ShapeFlags_L1 at H
        refine AWP_seq (AWP_reg (Rh 5 108 [(4, .ptr 0 0), (5, .ptr 1 0), (6, .ptr 2 0), (7, .ptr 3 0), (9, iA v15), (72, bA (decide (v15 < (lI x0.gRules))))] (AOps_done (CD H (fun hb16 H => ?_) (fun hb16 H => ?_)))))
        · refine AWP_skip ?_
          show AWP _ _ _ _ _ _ _
          refine AWP_seq (AWP_block ?_)
          refine AWP_reg (Rh 3 108 [(4, .ptr 0 0), (5, .ptr 1 0), (6, .ptr 2 0), (7, .ptr 3 0), (9, iA v15), (76, .ro .unk x0.gRules.length (TRule.cl x0.gRules)), (77, iA v15)] ?_)
          obtain ⟨v17, hv17, H⟩ := bind_some H
          refine AOps_index (d := (some 78)) (sz := 11) (c := TRule.cs) (by kernel_rfl) rfl (eq_TRule_cl _) (fun _ => rfl) (by decide) hv17 (fun tl17 => ?_)
          refine Rh 2 108 [(4, .ptr 0 0), (5, .ptr 1 0), (6, .ptr 2 0), (7, .ptr 3 0), (9, iA v15), (80, .agg (TExpr.cs v17.gWhen))] ?_
          obtain ⟨v18, hv18, H⟩ := bind_some H
          refine AOps_callp (d := (some 81)) (al := [.agg (TExpr.cs v17.gWhen)]) (r := bA v18) (by kernel_rfl) (s_law6_big hv18) ⟨(sc_TExpr_cs _ _), trivial⟩ trivial ?_
          refine AOps_done (CD H (fun hb19 H => ?_) (fun hb19 H => ?_))
          · refine AWP_reg (Rh 1 108 [(8, bA true)] (AOps_done ?_))
            exact AWP_ret (FR H)
          · refine AWP_skip ?_
            show AWP _ _ _ _ _ _ _
            refine AWP_region ?_
            refine Rh 3 108 [(4, .ptr 0 0), (5, .ptr 1 0), (6, .ptr 2 0), (7, .ptr 3 0), (9, iA (w64 (v15 + 1)))] (AOps_done ?_)
            exact Exists.intro (w64 (v15 + 1)) (Exists.intro n ⟨by omega, ⟨by omega, H⟩, Norm_fd [4, 5, 6, 7, 9] 0 (by kernel_rfl) rfl rfl ⟨(sc_TExperiment_cs _ _), (sc_TLayer_cs _ _), (sc_TSegment_cs _ _), (sc_TFlag_cs _ _), trivial⟩ (by refine scL_fr ?_; exact ⟨(sc_ptr rfl), (sc_ptr rfl), (sc_ptr rfl), (sc_ptr rfl), trivial, trivial⟩)⟩)
        · refine AWP_exit ?_
          show AWP _ _ _ _ _ _ _
          obtain ⟨v20, hv20, H⟩ := bind_some H
          obtain ⟨v21, hv21, H⟩ := bind_some H
          obtain ⟨v22, hv22, H⟩ := bind_some H
          obtain ⟨v23, hv23, H⟩ := bind_some H
          obtain ⟨v24, hv24, H⟩ := bind_some H
          obtain ⟨v25, hv25, H⟩ := bind_some H
          obtain ⟨v26, hv26, H⟩ := bind_some H
          obtain ⟨v27, hv27, H⟩ := bind_some H
          refine AWP_regD1 [0, 2, 1, 3, 4, 5, 6, 8, 7, 9, 10, 11, 12, 13, 15, 14, 16, 17, 18, 19, 20, 22, 21, 23, 24, 25, 26] (N := 108) (f := [(4, .ptr 0 0), (5, .ptr 1 0), (6, .ptr 2 0), (7, .ptr 3 0)]) (leL_of [4, 5, 6, 7] (by kernel_rfl)) mixed (by kernel_rfl) (by kernel_rfl) (st' := fr 108 [(8, bA ((((v20 == v21) && (v22 == v23)) && (v24 == v25)) && (v26 == v27)))]) (h' := [.cells 42 (TExperiment.cs x3), .cells 74 (TLayer.cs x2), .cells 71 (TSegment.cs x1), .cells 65 (TFlag.cs x0)]) ?_ ?_
          rotate_left
          · refine RD 2 108 [(2, 0), (0, 0)] [(4, .ptr 0 0), (5, .ptr 1 0), (6, .ptr 2 0), (7, .ptr 3 0), (82, .agg (TFlag.cs x0)), (84, .agg (TFlag.cs x0))] (AD_callp (d := (some 83)) (al := [.agg (TFlag.cs x0)]) (r := iA v20) (by kernel_rfl) (s_shape_Flag hG hv20) ⟨(sc_TFlag_cs _ _), trivial⟩ trivial ?_)
            refine AD_callp (d := (some 85)) (al := [.agg (TFlag.cs x0)]) (r := iA v21) (by kernel_rfl) (s_ref6_Flag hG hv21) ⟨(sc_TFlag_cs _ _), trivial⟩ trivial ?_
            refine RD 2 108 [(2, 0), (0, 0)] [(4, .ptr 0 0), (5, .ptr 1 0), (6, .ptr 2 0), (7, .ptr 3 0), (82, .agg (TFlag.cs x0)), (83, iA v20), (84, .agg (TFlag.cs x0)), (85, iA v21), (86, bA (v20 == v21)), (87, bA (v20 == v21))] ?_
            cases c1 : (v20 == v21 : Bool) with
            | true =>
              refine RD 2 108 [(8, 1), (6, 1), (2, 0), (0, 0)] [(4, .ptr 0 0), (5, .ptr 1 0), (6, .ptr 2 0), (7, .ptr 3 0), (82, .agg (TFlag.cs x0)), (83, iA v20), (84, .agg (TFlag.cs x0)), (85, iA v21), (86, bA true), (87, bA true), (88, .agg (TSegment.cs x1)), (90, .agg (TSegment.cs x1))] ?_
              have hv22_ := cond_t hv22 (by simp only [c1] <;> rfl)
              refine AD_callp (d := (some 89)) (al := [.agg (TSegment.cs x1)]) (r := iA v22) (by kernel_rfl) (s_shape_Segment hG hv22_) ⟨(sc_TSegment_cs _ _), trivial⟩ trivial ?_
              have hv23_ := cond_t hv23 (by simp only [c1] <;> rfl)
              refine AD_callp (d := (some 91)) (al := [.agg (TSegment.cs x1)]) (r := iA v23) (by kernel_rfl) (s_ref6_Segment hG hv23_) ⟨(sc_TSegment_cs _ _), trivial⟩ trivial ?_
              refine RD 3 108 [(8, 1), (6, 1), (2, 0), (0, 0)] [(4, .ptr 0 0), (5, .ptr 1 0), (6, .ptr 2 0), (7, .ptr 3 0), (82, .agg (TFlag.cs x0)), (83, iA v20), (84, .agg (TFlag.cs x0)), (85, iA v21), (86, bA true), (87, bA true), (88, .agg (TSegment.cs x1)), (89, iA v22), (90, .agg (TSegment.cs x1)), (91, iA v23), (92, bA (v22 == v23)), (93, bA (true && (v22 == v23))), (94, bA (true && (v22 == v23)))] ?_
              cases c2 : (v22 == v23 : Bool) with
              | true =>
                refine RD 2 108 [(15, 2), (13, 2), (8, 1), (6, 1), (2, 0), (0, 0)] [(4, .ptr 0 0), (5, .ptr 1 0), (6, .ptr 2 0), (7, .ptr 3 0), (82, .agg (TFlag.cs x0)), (83, iA v20), (84, .agg (TFlag.cs x0)), (85, iA v21), (86, bA true), (87, bA true), (88, .agg (TSegment.cs x1)), (89, iA v22), (90, .agg (TSegment.cs x1)), (91, iA v23), (92, bA true), (93, bA (true && true)), (94, bA (true && true)), (95, .agg (TLayer.cs x2)), (97, .agg (TLayer.cs x2))] ?_
                have hv24_ := cond_t hv24 (by simp only [c1, c2] <;> rfl)
                refine AD_callp (d := (some 96)) (al := [.agg (TLayer.cs x2)]) (r := iA v24) (by kernel_rfl) (s_shape_Layer hG hv24_) ⟨(sc_TLayer_cs _ _), trivial⟩ trivial ?_
                have hv25_ := cond_t hv25 (by simp only [c1, c2] <;> rfl)
                refine AD_callp (d := (some 98)) (al := [.agg (TLayer.cs x2)]) (r := iA v25) (by kernel_rfl) (s_ref6_Layer hG hv25_) ⟨(sc_TLayer_cs _ _), trivial⟩ trivial ?_
                refine RD 3 108 [(15, 2), (13, 2), (8, 1), (6, 1), (2, 0), (0, 0)] [(4, .ptr 0 0), (5, .ptr 1 0), (6, .ptr 2 0), (7, .ptr 3 0), (82, .agg (TFlag.cs x0)), (83, iA v20), (84, .agg (TFlag.cs x0)), (85, iA v21), (86, bA true), (87, bA true), (88, .agg (TSegment.cs x1)), (89, iA v22), (90, .agg (TSegment.cs x1)), (91, iA v23), (92, bA true), (93, bA (true && true)), (94, bA (true && true)), (95, .agg (TLayer.cs x2)), (96, iA v24), (97, .agg (TLayer.cs x2)), (98, iA v25), (99, bA (v24 == v25)), (100, bA ((true && true) && (v24 == v25))), (101, bA ((true && true) && (v24 == v25)))] ?_
                cases c3 : (v24 == v25 : Bool) with
                | true =>
                  refine RD 2 108 [(22, 3), (20, 3), (15, 2), (13, 2), (8, 1), (6, 1), (2, 0), (0, 0)] [(4, .ptr 0 0), (5, .ptr 1 0), (6, .ptr 2 0), (7, .ptr 3 0), (82, .agg (TFlag.cs x0)), (83, iA v20), (84, .agg (TFlag.cs x0)), (85, iA v21), (86, bA true), (87, bA true), (88, .agg (TSegment.cs x1)), (89, iA v22), (90, .agg (TSegment.cs x1)), (91, iA v23), (92, bA true), (93, bA (true && true)), (94, bA (true && true)), (95, .agg (TLayer.cs x2)), (96, iA v24), (97, .agg (TLayer.cs x2)), (98, iA v25), (99, bA true), (100, bA ((true && true) && true)), (101, bA ((true && true) && true)), (102, .agg (TExperiment.cs x3)), (104, .agg (TExperiment.cs x3))] ?_
                  have hv26_ := cond_t hv26 (by simp only [c1, c2, c3] <;> rfl)
                  refine AD_callp (d := (some 103)) (al := [.agg (TExperiment.cs x3)]) (r := iA v26) (by kernel_rfl) (s_shape_Experiment hG hv26_) ⟨(sc_TExperiment_cs _ _), trivial⟩ trivial ?_
                  have hv27_ := cond_t hv27 (by simp only [c1, c2, c3] <;> rfl)
                  refine AD_callp (d := (some 105)) (al := [.agg (TExperiment.cs x3)]) (r := iA v27) (by kernel_rfl) (s_ref6_Experiment hG hv27_) ⟨(sc_TExperiment_cs _ _), trivial⟩ trivial ?_
                  refine RD 3 108 [(22, 3), (20, 3), (15, 2), (13, 2), (8, 1), (6, 1), (2, 0), (0, 0)] [(4, .ptr 0 0), (5, .ptr 1 0), (6, .ptr 2 0), (7, .ptr 3 0), (8, bA (((true && true) && true) && (v26 == v27))), (82, .agg (TFlag.cs x0)), (83, iA v20), (84, .agg (TFlag.cs x0)), (85, iA v21), (86, bA true), (87, bA true), (88, .agg (TSegment.cs x1)), (89, iA v22), (90, .agg (TSegment.cs x1)), (91, iA v23), (92, bA true), (93, bA (true && true)), (94, bA (true && true)), (95, .agg (TLayer.cs x2)), (96, iA v24), (97, .agg (TLayer.cs x2)), (98, iA v25), (99, bA true), (100, bA ((true && true) && true)), (101, bA ((true && true) && true)), (102, .agg (TExperiment.cs x3)), (103, iA v26), (104, .agg (TExperiment.cs x3)), (105, iA v27), (106, bA (v26 == v27)), (107, bA (((true && true) && true) && (v26 == v27)))] ?_
                  exact AD_here [8] (by kernel_rfl) rfl
                | false =>
                  refine RD 2 108 [(15, 2), (13, 2), (8, 1), (6, 1), (2, 0), (0, 0)] [(4, .ptr 0 0), (5, .ptr 1 0), (6, .ptr 2 0), (7, .ptr 3 0), (82, .agg (TFlag.cs x0)), (83, iA v20), (84, .agg (TFlag.cs x0)), (85, iA v21), (86, bA true), (87, bA true), (88, .agg (TSegment.cs x1)), (89, iA v22), (90, .agg (TSegment.cs x1)), (91, iA v23), (92, bA true), (93, bA (true && true)), (94, bA (true && true)), (95, .agg (TLayer.cs x2)), (96, iA v24), (97, .agg (TLayer.cs x2)), (98, iA v25), (99, bA false), (100, bA ((true && true) && false)), (101, bA ((true && true) && false)), (102, undefA), (104, undefA)] (AD_offB (d := some 103) (by kernel_rfl) ?_)
                  refine AD_offB (d := some 105) (by kernel_rfl) ?_
                  refine RD 3 108 [(15, 2), (13, 2), (8, 1), (6, 1), (2, 0), (0, 0)] [(4, .ptr 0 0), (5, .ptr 1 0), (6, .ptr 2 0), (7, .ptr 3 0), (8, bA (((true && true) && false) && (v26 == v27))), (82, .agg (TFlag.cs x0)), (83, iA v20), (84, .agg (TFlag.cs x0)), (85, iA v21), (86, bA true), (87, bA true), (88, .agg (TSegment.cs x1)), (89, iA v22), (90, .agg (TSegment.cs x1)), (91, iA v23), (92, bA true), (93, bA (true && true)), (94, bA (true && true)), (95, .agg (TLayer.cs x2)), (96, iA v24), (97, .agg (TLayer.cs x2)), (98, iA v25), (99, bA false), (100, bA ((true && true) && false)), (101, bA ((true && true) && false)), (102, undefA), (103, undefA), (104, undefA), (105, undefA), (106, undefA), (107, bA (((true && true) && false) && (v26 == v27)))] ?_
                  exact AD_here [8] (by kernel_rfl) rfl
              | false =>
                refine RD 2 108 [(8, 1), (6, 1), (2, 0), (0, 0)] [(4, .ptr 0 0), (5, .ptr 1 0), (6, .ptr 2 0), (7, .ptr 3 0), (82, .agg (TFlag.cs x0)), (83, iA v20), (84, .agg (TFlag.cs x0)), (85, iA v21), (86, bA true), (87, bA true), (88, .agg (TSegment.cs x1)), (89, iA v22), (90, .agg (TSegment.cs x1)), (91, iA v23), (92, bA false), (93, bA (true && false)), (94, bA (true && false)), (95, undefA), (97, undefA)] (AD_offB (d := some 96) (by kernel_rfl) ?_)
                refine AD_offB (d := some 98) (by kernel_rfl) ?_
                refine RD 5 108 [(8, 1), (6, 1), (2, 0), (0, 0)] [(4, .ptr 0 0), (5, .ptr 1 0), (6, .ptr 2 0), (7, .ptr 3 0), (82, .agg (TFlag.cs x0)), (83, iA v20), (84, .agg (TFlag.cs x0)), (85, iA v21), (86, bA true), (87, bA true), (88, .agg (TSegment.cs x1)), (89, iA v22), (90, .agg (TSegment.cs x1)), (91, iA v23), (92, bA false), (93, bA (true && false)), (94, bA (true && false)), (95, undefA), (96, undefA), (97, undefA), (98, undefA), (99, undefA), (100, bA ((true && false) && (v24 == v25))), (101, bA ((true && false) && (v24 == v25))), (102, undefA), (104, undefA)] (AD_offB (d := some 103) (by kernel_rfl) ?_)
                refine AD_offB (d := some 105) (by kernel_rfl) ?_
                refine RD 3 108 [(8, 1), (6, 1), (2, 0), (0, 0)] [(4, .ptr 0 0), (5, .ptr 1 0), (6, .ptr 2 0), (7, .ptr 3 0), (8, bA (((true && false) && (v24 == v25)) && (v26 == v27))), (82, .agg (TFlag.cs x0)), (83, iA v20), (84, .agg (TFlag.cs x0)), (85, iA v21), (86, bA true), (87, bA true), (88, .agg (TSegment.cs x1)), (89, iA v22), (90, .agg (TSegment.cs x1)), (91, iA v23), (92, bA false), (93, bA (true && false)), (94, bA (true && false)), (95, undefA), (96, undefA), (97, undefA), (98, undefA), (99, undefA), (100, bA ((true && false) && (v24 == v25))), (101, bA ((true && false) && (v24 == v25))), (102, undefA), (103, undefA), (104, undefA), (105, undefA), (106, undefA), (107, bA (((true && false) && (v24 == v25)) && (v26 == v27)))] ?_
                exact AD_here [8] (by kernel_rfl) rfl
            | false =>
              refine RD 2 108 [(2, 0), (0, 0)] [(4, .ptr 0 0), (5, .ptr 1 0), (6, .ptr 2 0), (7, .ptr 3 0), (82, .agg (TFlag.cs x0)), (83, iA v20), (84, .agg (TFlag.cs x0)), (85, iA v21), (86, bA false), (87, bA false), (88, undefA), (90, undefA)] (AD_offB (d := some 89) (by kernel_rfl) ?_)
              refine AD_offB (d := some 91) (by kernel_rfl) ?_
              refine RD 5 108 [(2, 0), (0, 0)] [(4, .ptr 0 0), (5, .ptr 1 0), (6, .ptr 2 0), (7, .ptr 3 0), (82, .agg (TFlag.cs x0)), (83, iA v20), (84, .agg (TFlag.cs x0)), (85, iA v21), (86, bA false), (87, bA false), (88, undefA), (89, undefA), (90, undefA), (91, undefA), (92, undefA), (93, bA (false && (v22 == v23))), (94, bA (false && (v22 == v23))), (95, undefA), (97, undefA)] (AD_offB (d := some 96) (by kernel_rfl) ?_)
              refine AD_offB (d := some 98) (by kernel_rfl) ?_
              refine RD 5 108 [(2, 0), (0, 0)] [(4, .ptr 0 0), (5, .ptr 1 0), (6, .ptr 2 0), (7, .ptr 3 0), (82, .agg (TFlag.cs x0)), (83, iA v20), (84, .agg (TFlag.cs x0)), (85, iA v21), (86, bA false), (87, bA false), (88, undefA), (89, undefA), (90, undefA), (91, undefA), (92, undefA), (93, bA (false && (v22 == v23))), (94, bA (false && (v22 == v23))), (95, undefA), (96, undefA), (97, undefA), (98, undefA), (99, undefA), (100, bA ((false && (v22 == v23)) && (v24 == v25))), (101, bA ((false && (v22 == v23)) && (v24 == v25))), (102, undefA), (104, undefA)] (AD_offB (d := some 103) (by kernel_rfl) ?_)
              refine AD_offB (d := some 105) (by kernel_rfl) ?_
              refine RD 3 108 [(2, 0), (0, 0)] [(4, .ptr 0 0), (5, .ptr 1 0), (6, .ptr 2 0), (7, .ptr 3 0), (8, bA (((false && (v22 == v23)) && (v24 == v25)) && (v26 == v27))), (82, .agg (TFlag.cs x0)), (83, iA v20), (84, .agg (TFlag.cs x0)), (85, iA v21), (86, bA false), (87, bA false), (88, undefA), (89, undefA), (90, undefA), (91, undefA), (92, undefA), (93, bA (false && (v22 == v23))), (94, bA (false && (v22 == v23))), (95, undefA), (96, undefA), (97, undefA), (98, undefA), (99, undefA), (100, bA ((false && (v22 == v23)) && (v24 == v25))), (101, bA ((false && (v22 == v23)) && (v24 == v25))), (102, undefA), (103, undefA), (104, undefA), (105, undefA), (106, undefA), (107, bA (((false && (v22 == v23)) && (v24 == v25)) && (v26 == v27)))] ?_
              exact AD_here [8] (by kernel_rfl) rfl
          exact AWP_ret (FR H)
end Go.Proofs.YtjhbobacbaikoaaGreatDoor
