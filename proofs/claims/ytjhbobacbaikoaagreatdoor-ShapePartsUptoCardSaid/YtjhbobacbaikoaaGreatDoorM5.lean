/- A function of the program as a pure function, and that the program computes it. -/
import Derived.Test.YtjhbobacbaikoaaGreatDoorM4
namespace Go.Proofs.YtjhbobacbaikoaaGreatDoor
open Go
set_option linter.unusedVariables false
set_option linter.unusedSimpArgs false
set_option maxRecDepth 100000
def p_draw_Codes_Test_K1 (n : Nat) (v5 : TDeclared) (v72 : List Int) (v73 : Int) : Option (TExpr × TCodes) :=
(p_draw_Codes_Value n ({ glist := v72, gat := v73 } : TCodes) v5.gType).bind fun v74 =>
 some ((TExpr.mk 7 v5.gKind v5.gName ([v74.1]) ([])), v74.2)
def p_draw_Codes_Test_K2 (n : Nat) (v5 : TDeclared) (v75 : Int × TCodes) : Option (TExpr × TCodes) :=
(bif ((v5.gType == 2) || (v5.gType == 3)) || (v5.gType == 4) then
(p_draw_Codes_Next n v75.2 4).bind fun v108 =>
(p_draw_Codes_Value n v108.2 v5.gType).bind fun v109 =>
 some ((TExpr.mk (w64 (12 + v108.1)) v5.gKind v5.gName ([v109.1]) ([])), v109.2)
 else
 p_draw_Codes_Test_K1 n v5 v75.2.glist v75.2.gat)
def p_draw_Codes_Test_L1 (n : Nat) (v5 : TDeclared) (v125 : Int) (v126 : List Int) (v127 : Int) (v128 : List TValue) : Option (TExpr × TCodes) := match n with
| 0 => none
| n + 1 =>
(p_draw_Codes_Next n ({ glist := v126, gat := v127 } : TCodes) 3).bind fun v129 =>
(bif decide (v125 ≤ v129.1) then
(p_draw_Codes_Value n v129.2 v5.gType).bind fun v131 =>
(appO 56 v128 ([v131.1])).bind fun v132 =>
 p_draw_Codes_Test_L1 n v5 (w64 (v125 + 1)) v131.2.glist v131.2.gat v132
 else
 some ((TExpr.mk 8 v5.gKind v5.gName v128 ([])), v129.2))
def p_draw_Codes_Test (n : Nat) (x0 : TCodes) : Option (TExpr × TCodes) :=
(p_draw_Declared n ).bind fun v1 =>
(p_draw_Codes_Next n x0 (w64 ((lI v1) + 1))).bind fun v2 =>
(bif v2.1 == (lI v1) then
(p_draw_Codes_Key n v2.2).bind fun v4 =>
 some ((TExpr.mk 7 (⟨#[117, 115, 101, 114]⟩ : ByteArray) (⟨#[107, 101, 121]⟩ : ByteArray) ([({ gKind := 3, gNumber := 0, gText := v4.1, gList := [] } : TValue)]) ([])), v4.2)
 else
(rdO v1 v2.1).bind fun v5 =>
(p_draw_Codes_Next n v2.2 5).bind fun v75 =>
(bif v75.1 == 0 then
 some ((TExpr.mk 6 v5.gKind v5.gName ([]) ([])), v75.2)
 else
(bif v75.1 == 1 then
(bif v5.gType != 5 then
 p_draw_Codes_Test_L1 n v5 0 v75.2.glist v75.2.gat ([])
 else
 p_draw_Codes_Test_K1 n v5 v75.2.glist v75.2.gat)
 else
(bif v75.1 == 2 then
(bif (v5.gType == 3) || (v5.gType == 5) then
(p_draw_Codes_Value n v75.2 3).bind fun v135 =>
 some ((TExpr.mk 11 v5.gKind v5.gName ([v135.1]) ([])), v135.2)
 else
 p_draw_Codes_Test_K1 n v5 v75.2.glist v75.2.gat)
 else
(bif v75.1 == 3 then
(bif v5.gType == 3 then
(p_draw_Codes_Next n v75.2 2).bind fun v138 =>
(p_draw_Codes_Value n v138.2 3).bind fun v139 =>
 some ((TExpr.mk (w64 (9 + v138.1)) v5.gKind v5.gName ([v139.1]) ([])), v139.2)
 else
 p_draw_Codes_Test_K2 n v5 v75 )
 else
(bif v75.1 == 4 then
 p_draw_Codes_Test_K2 n v5 v75 
 else
 p_draw_Codes_Test_K1 n v5 v75.2.glist v75.2.gat))))))
variable {E : Env}
theorem s_draw_Codes_Test {n : Nat} (hG : GlobD E) {x0 : TCodes} {r : TExpr × TCodes} (H : p_draw_Codes_Test n x0 = some r) :
    Sp Tryz.prog E 47 [.ptr 0 0] [.cells 101 (TCodes.cs x0)] (isA (.agg (TExpr.cs r.1)) [.cells 101 (TCodes.cs r.2)]) := by
  unfold p_draw_Codes_Test at H
  refine Sp_fn Tryz.func47 rfl (fun hc hs => ?_)
  refine AWP_reg (R 1 124 [(0, .ptr 0 0), (2, .ptr 1 0)] [.cells 25 [iA 0, sA ByteArray.empty, sA ByteArray.empty, .ro .full 0 [], .ro .full 0 []], .cells 101 (TCodes.cs x0)] (AOps_done (AWP_reg ?_)))
  obtain ⟨v1, hv1, H⟩ := bind_some H
  refine AOps_callp (d := (some 8)) (al := []) (r := .ro .unk v1.length (TDeclared.cl v1)) (by kernel_rfl) (s_draw_Declared hv1) trivial (scl_TDeclared_cl _ _) ?_
  refine Rh 1 124 [(0, .ptr 0 0), (2, .ptr 1 0), (3, .ro .unk v1.length (TDeclared.cl v1))] (AOps_done (AWP_reg (Rh 4 124 [(0, .ptr 0 0), (2, .ptr 1 0), (3, .ro .unk v1.length (TDeclared.cl v1)), (9, .ptr 0 0), (12, iA (w64 ((lI v1) + 1)))] ?_)))
  obtain ⟨v2, hv2, H⟩ := bind_some H
  refine AOps_call1 (d := (some 13)) (al := [.ptr 0 0, iA (w64 ((lI v1) + 1))]) ([.ptr 0 0, iA (w64 ((lI v1) + 1))]) (r := iA v2.1) (j := 0) (b' := .cells 101 (TCodes.cs v2.2)) (by kernel_rfl) rfl (s_draw_Codes_Next hv2) (⟨(scl_cl_u8 _ _), trivial, trivial⟩) (⟨(scl_cl_u8 _ _), trivial, trivial⟩) ⟨Nat.zero_lt_one, trivial, trivial⟩ trivial rfl (h' := [.cells 25 [iA 0, sA ByteArray.empty, sA ByteArray.empty, .ro .full 0 [], .ro .full 0 []], .cells 101 (TCodes.cs v2.2)]) rfl ?_
  refine Rh 1 124 [(0, .ptr 0 0), (2, .ptr 1 0), (3, .ro .unk v1.length (TDeclared.cl v1)), (4, iA v2.1)] (AOps_done (AWP_seq (AWP_reg (Rh 4 124 [(0, .ptr 0 0), (2, .ptr 1 0), (3, .ro .unk v1.length (TDeclared.cl v1)), (4, iA v2.1), (17, bA (v2.1 == (lI v1)))] (AOps_done (CD H (fun hb3 H => ?_) (fun hb3 H => ?_)))))))
  · refine AWP_reg (Rh 1 124 [(2, .ptr 1 0), (18, .ptr 0 0)] ?_)
    obtain ⟨v4, hv4, H⟩ := bind_some H
    refine AOps_call1 (d := (some 19)) (al := [.ptr 0 0]) ([.ptr 0 0]) (r := sA v4.1) (j := 0) (b' := .cells 101 (TCodes.cs v4.2)) (by kernel_rfl) rfl (s_draw_Codes_Key hv4) (⟨(scl_cl_u8 _ _), trivial, trivial⟩) (⟨(scl_cl_u8 _ _), trivial, trivial⟩) ⟨Nat.zero_lt_one, trivial⟩ trivial rfl (h' := [.cells 25 [iA 0, sA ByteArray.empty, sA ByteArray.empty, .ro .full 0 [], .ro .full 0 []], .cells 101 (TCodes.cs v4.2)]) rfl ?_
    refine Rh 1 124 [(2, .ptr 1 0), (20, .agg [iA 3, iA 0, sA v4.1, .ro .full 0 []])] (AOps_bsl2 (d := (some 21)) (m := 1) (cs := [iA 3, iA 0, sA v4.1, .ro .full 0 []]) [iA 3, iA 0, sA v4.1, .ro .unk ([] : List ByteArray).length (cl_str ([] : List ByteArray))] (by kernel_rfl) ⟨trivial, trivial, trivial, trivial, trivial⟩ (leL_cons (AV.le_refl _) (leL_cons (AV.le_refl _) (leL_cons (AV.le_refl _) (leL_cons (AV.le_ro _ _ _) (leL_refl _))))) rfl ?_)
    refine R 2 124 [(2, .ptr 1 0)] [.cells 25 [iA 7, sA (⟨#[117, 115, 101, 114]⟩ : ByteArray), sA (⟨#[107, 101, 121]⟩ : ByteArray), .ro .unk ([({ gKind := 3, gNumber := 0, gText := v4.1, gList := [] } : TValue)]).length (TValue.cl ([({ gKind := 3, gNumber := 0, gText := v4.1, gList := [] } : TValue)])), .ro .full 0 []], .cells 101 (TCodes.cs v4.2)] (AOps_done (AWP_ret ?_))
    have hr := Option.some.inj H
    subst hr
    exact Fin_retn 1 (l := [.agg [iA 7, sA (⟨#[117, 115, 101, 114]⟩ : ByteArray), sA (⟨#[107, 101, 121]⟩ : ByteArray), .ro .unk ([({ gKind := 3, gNumber := 0, gText := v4.1, gList := [] } : TValue)]).length (TValue.cl ([({ gKind := 3, gNumber := 0, gText := v4.1, gList := [] } : TValue)])), .ro .full 0 []]]) (h' := [.cells 101 (TCodes.cs v4.2)]) (by kernel_rfl) rfl (Nat.le_of_ble_eq_true rfl) ((by refine Closed_of ?_; exact ⟨⟨(scl_cl_u8 _ _), trivial, trivial⟩, trivial⟩)) (Frz_agg (FrzL_cons (Frz_sc trivial) (FrzL_cons (Frz_sc trivial) (FrzL_cons (Frz_sc trivial) (FrzL_cons (Frz_sc (scl_TValue_cl _ _)) (FrzL_cons (Frz_le (Frz_sc trivial) (AV.le_ro _ _ _)) (FrzL_nil)))))) rfl) ⟨rfl, rfl⟩
  · refine AWP_skip ?_
    show AWP _ _ _ _ _ _ _
    refine AWP_reg (Rh 2 124 [(0, .ptr 0 0), (2, .ptr 1 0), (23, .ro .unk v1.length (TDeclared.cl v1)), (24, iA v2.1)] ?_)
    obtain ⟨v5, hv5, H⟩ := bind_some H
    refine AOps_index (d := (some 25)) (sz := 3) (c := TDeclared.cs) (by kernel_rfl) rfl (eq_TDeclared_cl _) (fun _ => rfl) (by decide) hv5 (fun tl5 => ?_)
    refine R 3 124 [(0, .ptr 0 0), (2, .ptr 1 0), (5, .ptr 2 0)] [.cells 112 (TDeclared.cs v5), .cells 25 [iA 0, sA ByteArray.empty, sA ByteArray.empty, .ro .full 0 [], .ro .full 0 []], .cells 101 (TCodes.cs v2.2)] (AOps_done (AWP_reg (R 7 124 [(0, .ptr 0 0), (2, .ptr 1 0), (5, .ptr 2 0), (6, .ptr 3 0)] [.cells 25 [iA 0, sA v5.gKind, sA v5.gName, .ro .full 0 [], .ro .full 0 []], .cells 112 (TDeclared.cs v5), .cells 25 [iA 0, sA ByteArray.empty, sA ByteArray.empty, .ro .full 0 [], .ro .full 0 []], .cells 101 (TCodes.cs v2.2)] (AOps_done (AWP_joinN (α := (List Int) × Int) (fun ⟨v72, v73⟩ => fr 124 [(0, .ptr 0 0), (2, .ptr 1 0), (5, .ptr 2 0), (6, .ptr 3 0)]) (fun ⟨v72, v73⟩ => [.cells 25 [iA 0, sA v5.gKind, sA v5.gName, .ro .full 0 [], .ro .full 0 []], .cells 112 (TDeclared.cs v5), .cells 25 [iA 0, sA ByteArray.empty, sA ByteArray.empty, .ro .full 0 [], .ro .full 0 []], .cells 101 [.ro .unk v72.length (cl_u8 v72), iA v73]]) (fun ⟨v72, v73⟩ => ∃ q, q ≤ q ∧ p_draw_Codes_Test_K1 q v5 v72 v73 = some r) (fun a hC => ?_) ?_)))))
    · obtain ⟨v72, v73⟩ := a
      show AWP _ _ _ _ _ (fr 124 [(0, .ptr 0 0), (2, .ptr 1 0), (5, .ptr 2 0), (6, .ptr 3 0)]) [.cells 25 [iA 0, sA v5.gKind, sA v5.gName, .ro .full 0 [], .ro .full 0 []], .cells 112 (TDeclared.cs v5), .cells 25 [iA 0, sA ByteArray.empty, sA ByteArray.empty, .ro .full 0 [], .ro .full 0 []], .cells 101 [.ro .unk v72.length (cl_u8 v72), iA v73]]
      obtain ⟨n, hn_, hC⟩ := hC
      replace H : p_draw_Codes_Test_K1 n v5 v72 v73 = some r := hC
      unfold p_draw_Codes_Test_K1 at H
      refine AWP_reg (R 2 124 [(0, .ptr 0 0), (2, .ptr 1 0), (5, .ptr 2 0), (6, .ptr 3 0)] [.cells 25 [iA 7, sA v5.gKind, sA v5.gName, .ro .full 0 [], .ro .full 0 []], .cells 112 (TDeclared.cs v5), .cells 25 [iA 0, sA ByteArray.empty, sA ByteArray.empty, .ro .full 0 [], .ro .full 0 []], .cells 101 [.ro .unk v72.length (cl_u8 v72), iA v73]] (AOps_done (AWP_reg (Rh 3 124 [(2, .ptr 1 0), (6, .ptr 3 0), (117, .ptr 0 0), (119, iA v5.gType)] ?_))))
      obtain ⟨v74, hv74, H⟩ := bind_some H
      refine AOps_call1 (d := (some 120)) (al := [.ptr 0 0, iA v5.gType]) ([.ptr 0 0, iA v5.gType]) (r := .agg (TValue.cs v74.1)) (j := 0) (b' := .cells 101 (TCodes.cs v74.2)) (by kernel_rfl) rfl (s_draw_Codes_Value hG hv74) (⟨(scl_cl_u8 _ _), trivial, trivial⟩) (⟨(scl_cl_u8 _ _), trivial, trivial⟩) ⟨Nat.zero_lt_one, trivial, trivial⟩ (sc_TValue_cs _ _) rfl (h' := [.cells 25 [iA 7, sA v5.gKind, sA v5.gName, .ro .full 0 [], .ro .full 0 []], .cells 112 (TDeclared.cs v5), .cells 25 [iA 0, sA ByteArray.empty, sA ByteArray.empty, .ro .full 0 [], .ro .full 0 []], .cells 101 (TCodes.cs v74.2)]) rfl ?_
      refine AOps_bsl (d := (some 121)) (m := 1) (cs := [iA v74.1.gKind, iA v74.1.gNumber, sA v74.1.gText, .ro .unk v74.1.gList.length (cl_str v74.1.gList)]) (by kernel_rfl) ⟨trivial, trivial, trivial, (scl_cl_str _ _), trivial⟩ ?_
      refine R 2 124 [(2, .ptr 1 0), (6, .ptr 3 0)] [.cells 25 [iA 7, sA v5.gKind, sA v5.gName, .ro .unk ([v74.1]).length (TValue.cl ([v74.1])), .ro .full 0 []], .cells 112 (TDeclared.cs v5), .cells 25 [iA 0, sA ByteArray.empty, sA ByteArray.empty, .ro .full 0 [], .ro .full 0 []], .cells 101 (TCodes.cs v74.2)] (AOps_done (AWP_reg (R 2 124 [(2, .ptr 1 0)] [.cells 25 [iA 7, sA v5.gKind, sA v5.gName, .ro .unk ([v74.1]).length (TValue.cl ([v74.1])), .ro .full 0 []], .cells 112 (TDeclared.cs v5), .cells 25 [iA 7, sA v5.gKind, sA v5.gName, .ro .unk ([v74.1]).length (TValue.cl ([v74.1])), .ro .full 0 []], .cells 101 (TCodes.cs v74.2)] (AOps_done (AWP_ret ?_)))))
      have hr := Option.some.inj H
      subst hr
      exact Fin_retn 3 (l := [.agg [iA 7, sA v5.gKind, sA v5.gName, .ro .unk ([v74.1]).length (TValue.cl ([v74.1])), .ro .full 0 []]]) (h' := [.cells 101 (TCodes.cs v74.2)]) (by kernel_rfl) rfl (Nat.le_of_ble_eq_true rfl) ((by refine Closed_of ?_; exact ⟨⟨(scl_cl_u8 _ _), trivial, trivial⟩, trivial⟩)) (Frz_agg (FrzL_cons (Frz_sc trivial) (FrzL_cons (Frz_sc trivial) (FrzL_cons (Frz_sc trivial) (FrzL_cons (Frz_sc (scl_TValue_cl _ _)) (FrzL_cons (Frz_le (Frz_sc trivial) (AV.le_ro _ _ _)) (FrzL_nil)))))) rfl) ⟨rfl, rfl⟩
    · refine AWP_reg (Rh 1 124 [(0, .ptr 0 0), (2, .ptr 1 0), (5, .ptr 2 0), (6, .ptr 3 0), (32, .ptr 0 0)] ?_)
      obtain ⟨v75, hv75, H⟩ := bind_some H
      refine AOps_call1 (d := (some 33)) (al := [.ptr 0 0, iA 5]) ([.ptr 0 0, iA 5]) (r := iA v75.1) (j := 0) (b' := .cells 101 (TCodes.cs v75.2)) (by kernel_rfl) rfl (s_draw_Codes_Next hv75) (⟨(scl_cl_u8 _ _), trivial, trivial⟩) (⟨(scl_cl_u8 _ _), trivial, trivial⟩) ⟨Nat.zero_lt_one, trivial, trivial⟩ trivial rfl (h' := [.cells 25 [iA 0, sA v5.gKind, sA v5.gName, .ro .full 0 [], .ro .full 0 []], .cells 112 (TDeclared.cs v5), .cells 25 [iA 0, sA ByteArray.empty, sA ByteArray.empty, .ro .full 0 [], .ro .full 0 []], .cells 101 (TCodes.cs v75.2)]) rfl ?_
      refine AOps_done (AWP_block ?_)
      refine AWP_joinN (α := Unit) (fun _ => fr 124 [(0, .ptr 0 0), (2, .ptr 1 0), (5, .ptr 2 0), (6, .ptr 3 0)]) (fun _ => [.cells 25 [iA 0, sA v5.gKind, sA v5.gName, .ro .full 0 [], .ro .full 0 []], .cells 112 (TDeclared.cs v5), .cells 25 [iA 0, sA ByteArray.empty, sA ByteArray.empty, .ro .full 0 [], .ro .full 0 []], .cells 101 (TCodes.cs v75.2)]) (fun _ => ∃ q, q ≤ q ∧ p_draw_Codes_Test_K2 q v5 v75  = some r) (fun a hC => ?_) ?_
      · show AWP _ _ _ _ _ (fr 124 [(0, .ptr 0 0), (2, .ptr 1 0), (5, .ptr 2 0), (6, .ptr 3 0)]) [.cells 25 [iA 0, sA v5.gKind, sA v5.gName, .ro .full 0 [], .ro .full 0 []], .cells 112 (TDeclared.cs v5), .cells 25 [iA 0, sA ByteArray.empty, sA ByteArray.empty, .ro .full 0 [], .ro .full 0 []], .cells 101 (TCodes.cs v75.2)]
        obtain ⟨n, hn_, hC⟩ := hC
        replace H : p_draw_Codes_Test_K2 n v5 v75  = some r := hC
        unfold p_draw_Codes_Test_K2 at H
        refine AWP_seq (AWP_reg (Rh 4 124 [(0, .ptr 0 0), (2, .ptr 1 0), (5, .ptr 2 0), (6, .ptr 3 0), (95, bA (v5.gType == 2))] (AOps_run 4 [0, 2, 5, 6, 99] (st' := fr 124 [(0, .ptr 0 0), (2, .ptr 1 0), (5, .ptr 2 0), (6, .ptr 3 0), (99, bA ((v5.gType == 2) || (v5.gType == 3)))]) (h' := [.cells 25 [iA 0, sA v5.gKind, sA v5.gName, .ro .full 0 [], .ro .full 0 []], .cells 112 (TDeclared.cs v5), .cells 25 [iA 0, sA ByteArray.empty, sA ByteArray.empty, .ro .full 0 [], .ro .full 0 []], .cells 101 (TCodes.cs v75.2)]) (by (generalize (v5.gType == 2) = t0; cases t0 <;> kernel_rfl)) ?_)))
        refine Rh 1 124 [(0, .ptr 0 0), (2, .ptr 1 0), (5, .ptr 2 0), (6, .ptr 3 0), (100, bA ((v5.gType == 2) || (v5.gType == 3)))] (AOps_run 4 [0, 2, 5, 6, 104] (st' := fr 124 [(0, .ptr 0 0), (2, .ptr 1 0), (5, .ptr 2 0), (6, .ptr 3 0), (104, bA (((v5.gType == 2) || (v5.gType == 3)) || (v5.gType == 4)))]) (h' := [.cells 25 [iA 0, sA v5.gKind, sA v5.gName, .ro .full 0 [], .ro .full 0 []], .cells 112 (TDeclared.cs v5), .cells 25 [iA 0, sA ByteArray.empty, sA ByteArray.empty, .ro .full 0 [], .ro .full 0 []], .cells 101 (TCodes.cs v75.2)]) (by (generalize (v5.gType == 2) = t0; generalize (v5.gType == 3) = t1; cases t0 <;> cases t1 <;> kernel_rfl)) ?_)
        refine AOps_done (CD H (fun hb107 H => ?_) (fun hb107 H => ?_))
        · refine AWP_reg (Rh 1 124 [(0, .ptr 0 0), (2, .ptr 1 0), (5, .ptr 2 0), (6, .ptr 3 0), (105, .ptr 0 0)] ?_)
          obtain ⟨v108, hv108, H⟩ := bind_some H
          refine AOps_call1 (d := (some 106)) (al := [.ptr 0 0, iA 4]) ([.ptr 0 0, iA 4]) (r := iA v108.1) (j := 0) (b' := .cells 101 (TCodes.cs v108.2)) (by kernel_rfl) rfl (s_draw_Codes_Next hv108) (⟨(scl_cl_u8 _ _), trivial, trivial⟩) (⟨(scl_cl_u8 _ _), trivial, trivial⟩) ⟨Nat.zero_lt_one, trivial, trivial⟩ trivial rfl (h' := [.cells 25 [iA 0, sA v5.gKind, sA v5.gName, .ro .full 0 [], .ro .full 0 []], .cells 112 (TDeclared.cs v5), .cells 25 [iA 0, sA ByteArray.empty, sA ByteArray.empty, .ro .full 0 [], .ro .full 0 []], .cells 101 (TCodes.cs v108.2)]) rfl ?_
          refine R 3 124 [(0, .ptr 0 0), (2, .ptr 1 0), (5, .ptr 2 0), (6, .ptr 3 0)] [.cells 25 [iA (w64 (12 + v108.1)), sA v5.gKind, sA v5.gName, .ro .full 0 [], .ro .full 0 []], .cells 112 (TDeclared.cs v5), .cells 25 [iA 0, sA ByteArray.empty, sA ByteArray.empty, .ro .full 0 [], .ro .full 0 []], .cells 101 (TCodes.cs v108.2)] (AOps_done (AWP_reg (Rh 3 124 [(2, .ptr 1 0), (6, .ptr 3 0), (109, .ptr 0 0), (111, iA v5.gType)] ?_)))
          obtain ⟨v109, hv109, H⟩ := bind_some H
          refine AOps_call1 (d := (some 112)) (al := [.ptr 0 0, iA v5.gType]) ([.ptr 0 0, iA v5.gType]) (r := .agg (TValue.cs v109.1)) (j := 0) (b' := .cells 101 (TCodes.cs v109.2)) (by kernel_rfl) rfl (s_draw_Codes_Value hG hv109) (⟨(scl_cl_u8 _ _), trivial, trivial⟩) (⟨(scl_cl_u8 _ _), trivial, trivial⟩) ⟨Nat.zero_lt_one, trivial, trivial⟩ (sc_TValue_cs _ _) rfl (h' := [.cells 25 [iA (w64 (12 + v108.1)), sA v5.gKind, sA v5.gName, .ro .full 0 [], .ro .full 0 []], .cells 112 (TDeclared.cs v5), .cells 25 [iA 0, sA ByteArray.empty, sA ByteArray.empty, .ro .full 0 [], .ro .full 0 []], .cells 101 (TCodes.cs v109.2)]) rfl ?_
          refine AOps_bsl (d := (some 113)) (m := 1) (cs := [iA v109.1.gKind, iA v109.1.gNumber, sA v109.1.gText, .ro .unk v109.1.gList.length (cl_str v109.1.gList)]) (by kernel_rfl) ⟨trivial, trivial, trivial, (scl_cl_str _ _), trivial⟩ ?_
          refine R 2 124 [(2, .ptr 1 0), (6, .ptr 3 0)] [.cells 25 [iA (w64 (12 + v108.1)), sA v5.gKind, sA v5.gName, .ro .unk ([v109.1]).length (TValue.cl ([v109.1])), .ro .full 0 []], .cells 112 (TDeclared.cs v5), .cells 25 [iA 0, sA ByteArray.empty, sA ByteArray.empty, .ro .full 0 [], .ro .full 0 []], .cells 101 (TCodes.cs v109.2)] (AOps_done (AWP_reg (R 2 124 [(2, .ptr 1 0)] [.cells 25 [iA (w64 (12 + v108.1)), sA v5.gKind, sA v5.gName, .ro .unk ([v109.1]).length (TValue.cl ([v109.1])), .ro .full 0 []], .cells 112 (TDeclared.cs v5), .cells 25 [iA (w64 (12 + v108.1)), sA v5.gKind, sA v5.gName, .ro .unk ([v109.1]).length (TValue.cl ([v109.1])), .ro .full 0 []], .cells 101 (TCodes.cs v109.2)] (AOps_done (AWP_ret ?_)))))
          have hr := Option.some.inj H
          subst hr
          exact Fin_retn 3 (l := [.agg [iA (w64 (12 + v108.1)), sA v5.gKind, sA v5.gName, .ro .unk ([v109.1]).length (TValue.cl ([v109.1])), .ro .full 0 []]]) (h' := [.cells 101 (TCodes.cs v109.2)]) (by kernel_rfl) rfl (Nat.le_of_ble_eq_true rfl) ((by refine Closed_of ?_; exact ⟨⟨(scl_cl_u8 _ _), trivial, trivial⟩, trivial⟩)) (Frz_agg (FrzL_cons (Frz_sc trivial) (FrzL_cons (Frz_sc trivial) (FrzL_cons (Frz_sc trivial) (FrzL_cons (Frz_sc (scl_TValue_cl _ _)) (FrzL_cons (Frz_le (Frz_sc trivial) (AV.le_ro _ _ _)) (FrzL_nil)))))) rfl) ⟨rfl, rfl⟩
        · refine AWP_skip ?_
          show AWP _ _ _ _ _ _ _
          refine AWP_exit ?_
          exact Exists.intro (v75.2.glist, v75.2.gat) ⟨⟨n, by omega, H⟩, Norm_fd [0, 2, 5, 6] 0 (by kernel_rfl) rfl rfl ⟨⟨trivial, trivial, trivial, trivial, trivial, trivial⟩, (sc_TDeclared_cs _ _), ⟨trivial, trivial, trivial, trivial, trivial, trivial⟩, ⟨(scl_cl_u8 _ _), trivial, trivial⟩, trivial⟩ (by refine scL_fr ?_; exact ⟨(sc_ptr rfl), (sc_ptr rfl), (sc_ptr rfl), (sc_ptr rfl), trivial⟩)⟩
      · refine AWP_block ?_
        refine AWP_seq (AWP_block ?_)
        refine AWP_seq (AWP_block ?_)
        refine AWP_seq (AWP_block ?_)
        refine AWP_seq (AWP_block ?_)
        refine AWP_seq (AWP_seq (AWP_reg (Rh 2 124 [(0, .ptr 0 0), (2, .ptr 1 0), (5, .ptr 2 0), (6, .ptr 3 0), (33, iA v75.1), (34, bA (v75.1 == 0))] (AOps_done (CD H (fun hb110 H => ?_) (fun hb110 H => ?_))))))
        · refine AWP_exit ?_
          show AWP _ _ _ _ _ _ _
          refine AWP_seq (AWP_reg (R 2 124 [(2, .ptr 1 0), (6, .ptr 3 0)] [.cells 25 [iA 6, sA v5.gKind, sA v5.gName, .ro .full 0 [], .ro .full 0 []], .cells 112 (TDeclared.cs v5), .cells 25 [iA 0, sA ByteArray.empty, sA ByteArray.empty, .ro .full 0 [], .ro .full 0 []], .cells 101 (TCodes.cs v75.2)] (AOps_done (AWP_reg (R 2 124 [(2, .ptr 1 0)] [.cells 25 [iA 6, sA v5.gKind, sA v5.gName, .ro .full 0 [], .ro .full 0 []], .cells 112 (TDeclared.cs v5), .cells 25 [iA 6, sA v5.gKind, sA v5.gName, .ro .full 0 [], .ro .full 0 []], .cells 101 (TCodes.cs v75.2)] (AOps_done (AWP_ret ?_)))))))
          have hr := Option.some.inj H
          subst hr
          exact Fin_retn 3 (l := [.agg [iA 6, sA v5.gKind, sA v5.gName, .ro .full 0 [], .ro .full 0 []]]) (h' := [.cells 101 (TCodes.cs v75.2)]) (by kernel_rfl) rfl (Nat.le_of_ble_eq_true rfl) ((by refine Closed_of ?_; exact ⟨⟨(scl_cl_u8 _ _), trivial, trivial⟩, trivial⟩)) (Frz_agg (FrzL_cons (Frz_sc trivial) (FrzL_cons (Frz_sc trivial) (FrzL_cons (Frz_sc trivial) (FrzL_cons (Frz_le (Frz_sc trivial) (AV.le_ro _ _ _)) (FrzL_cons (Frz_le (Frz_sc trivial) (AV.le_ro _ _ _)) (FrzL_nil)))))) rfl) ⟨rfl, rfl⟩
        · refine AWP_skip ?_
          show AWP _ _ _ _ _ _ _
          refine AWP_seq (AWP_reg (Rh 2 124 [(0, .ptr 0 0), (2, .ptr 1 0), (5, .ptr 2 0), (6, .ptr 3 0), (33, iA v75.1), (36, bA (v75.1 == 1))] (AOps_done (CD H (fun hb111 H => ?_) (fun hb111 H => ?_)))))
          · refine AWP_exit ?_
            show AWP _ _ _ _ _ _ _
            refine AWP_seq (AWP_reg (Rh 3 124 [(0, .ptr 0 0), (2, .ptr 1 0), (5, .ptr 2 0), (6, .ptr 3 0), (48, bA (v5.gType != 5))] (AOps_done (CD H (fun hb112 H => ?_) (fun hb112 H => ?_)))))
            · refine AWP_reg (R 2 124 [(0, .ptr 0 0), (2, .ptr 1 0), (5, .ptr 2 0), (6, .ptr 3 0)] [.cells 25 [iA 8, sA v5.gKind, sA v5.gName, .ro .full 0 [], .ro .full 0 []], .cells 112 (TDeclared.cs v5), .cells 25 [iA 0, sA ByteArray.empty, sA ByteArray.empty, .ro .full 0 [], .ro .full 0 []], .cells 101 (TCodes.cs v75.2)] (AOps_done (AWP_seq (AWP_reg (Rh 1 124 [(0, .ptr 0 0), (2, .ptr 1 0), (5, .ptr 2 0), (6, .ptr 3 0), (7, iA 0)] (AOps_done (AWP_block ?_)))))))
              refine AWP_loopN (α := Int × (List Int) × Int × (List TValue)) (fun ⟨v125, v126, v127, v128⟩ => fr 124 [(0, .ptr 0 0), (2, .ptr 1 0), (5, .ptr 2 0), (6, .ptr 3 0), (7, iA v125)]) (fun ⟨v125, v126, v127, v128⟩ => [.row 58 (TValue.cl v128), .cells 25 [iA 8, sA v5.gKind, sA v5.gName, .sl 4 0 v128.length (.whole 4), .ro .full 0 []], .cells 112 (TDeclared.cs v5), .cells 25 [iA 0, sA ByteArray.empty, sA ByteArray.empty, .ro .full 0 [], .ro .full 0 []], .cells 101 [.ro .unk v126.length (cl_u8 v126), iA v127]]) (fun k_ ⟨v125, v126, v127, v128⟩ => k_ ≤ n ∧ p_draw_Codes_Test_L1 k_ v5 v125 v126 v127 v128 = some r) (fun n a H => ?_) (k := n) (0, v75.2.glist, v75.2.gat, []) ⟨Nat.le_refl _, H⟩ (Norm_trans (Norm_fd (st' := fr 124 [(0, .ptr 0 0), (2, .ptr 1 0), (5, .ptr 2 0), (6, .ptr 3 0), (7, iA 0)]) (h' := [.cells 25 [iA 8, sA v5.gKind, sA v5.gName, .ro .full 0 [], .ro .full 0 []], .cells 112 (TDeclared.cs v5), .cells 25 [iA 0, sA ByteArray.empty, sA ByteArray.empty, .ro .full 0 [], .ro .full 0 []], .cells 101 (TCodes.cs v75.2)]) [0, 2, 5, 6, 7] 0 (by kernel_rfl) rfl rfl ⟨⟨trivial, trivial, trivial, trivial, trivial, trivial⟩, (sc_TDeclared_cs _ _), ⟨trivial, trivial, trivial, trivial, trivial, trivial⟩, ⟨(scl_cl_u8 _ _), trivial, trivial⟩, trivial⟩ (by refine scL_fr ?_; exact ⟨(sc_ptr rfl), (sc_ptr rfl), (sc_ptr rfl), (sc_ptr rfl), trivial, trivial⟩)) (Norm_trans (Norm_nilc' (st := fr 124 [(0, .ptr 0 0), (2, .ptr 1 0), (5, .ptr 2 0), (6, .ptr 3 0), (7, iA 0)]) (ty := 25) (cs := [iA 8, sA v5.gKind, sA v5.gName, .ro .full 0 [], .ro .full 0 []]) (h' := [.row 58 (TValue.cl ([])), .cells 25 [iA 8, sA v5.gKind, sA v5.gName, .sl 4 0 ([] : List TValue).length (.whole 4), .ro .full 0 []], .cells 112 (TDeclared.cs v5), .cells 25 [iA 0, sA ByteArray.empty, sA ByteArray.empty, .ro .full 0 [], .ro .full 0 []], .cells 101 (TCodes.cs v75.2)]) 3 3 4 58 4 rfl rfl (by kernel_rfl) (by kernel_rfl)) (Norm_fd [0, 2, 5, 6, 7] 0 (by kernel_rfl) rfl rfl ⟨(scl_TValue_cl _ _), ⟨trivial, trivial, trivial, (sc_sl rfl), trivial, trivial⟩, (sc_TDeclared_cs _ _), ⟨trivial, trivial, trivial, trivial, trivial, trivial⟩, ⟨(scl_cl_u8 _ _), trivial, trivial⟩, trivial⟩ (by refine scL_fr ?_; exact ⟨(sc_ptr rfl), (sc_ptr rfl), (sc_ptr rfl), (sc_ptr rfl), trivial, trivial⟩))))
              obtain ⟨v125, v126, v127, v128⟩ := a
              show AWP _ _ _ _ _ (fr 124 [(0, .ptr 0 0), (2, .ptr 1 0), (5, .ptr 2 0), (6, .ptr 3 0), (7, iA v125)]) [.row 58 (TValue.cl v128), .cells 25 [iA 8, sA v5.gKind, sA v5.gName, .sl 4 0 v128.length (.whole 4), .ro .full 0 []], .cells 112 (TDeclared.cs v5), .cells 25 [iA 0, sA ByteArray.empty, sA ByteArray.empty, .ro .full 0 [], .ro .full 0 []], .cells 101 [.ro .unk v126.length (cl_u8 v126), iA v127]]
              obtain ⟨hb_, H⟩ := H
              replace H : p_draw_Codes_Test_L1 n v5 v125 v126 v127 v128 = some r := H
              cases n with
              | zero => exact not_none (by simpa only [p_draw_Codes_Test_L1] using H)
              | succ n =>
                unfold p_draw_Codes_Test_L1 at H
                refine AWP_seq (AWP_reg (Rh 2 124 [(0, .ptr 0 0), (2, .ptr 1 0), (5, .ptr 2 0), (6, .ptr 3 0), (7, iA v125), (50, iA v125), (51, .ptr 0 0)] ?_))
                obtain ⟨v129, hv129, H⟩ := bind_some H
                refine AOps_call1 (d := (some 52)) (al := [.ptr 0 0, iA 3]) ([.ptr 0 0, iA 3]) (r := iA v129.1) (j := 0) (b' := .cells 101 (TCodes.cs v129.2)) (by kernel_rfl) rfl (s_draw_Codes_Next hv129) (⟨(scl_cl_u8 _ _), trivial, trivial⟩) (⟨(scl_cl_u8 _ _), trivial, trivial⟩) ⟨Nat.zero_lt_one, trivial, trivial⟩ trivial rfl (h' := [.row 58 (TValue.cl v128), .cells 25 [iA 8, sA v5.gKind, sA v5.gName, .sl 4 0 v128.length (.whole 4), .ro .full 0 []], .cells 112 (TDeclared.cs v5), .cells 25 [iA 0, sA ByteArray.empty, sA ByteArray.empty, .ro .full 0 [], .ro .full 0 []], .cells 101 (TCodes.cs v129.2)]) rfl ?_
                refine Rh 1 124 [(0, .ptr 0 0), (2, .ptr 1 0), (5, .ptr 2 0), (6, .ptr 3 0), (7, iA v125), (53, bA (decide (v125 ≤ v129.1)))] (AOps_done (CD H (fun hb130 H => ?_) (fun hb130 H => ?_)))
                · refine AWP_skip ?_
                  show AWP _ _ _ _ _ _ _
                  refine AWP_seq (AWP_block ?_)
                  obtain ⟨v131, hv131, H⟩ := bind_some H
                  obtain ⟨v132, hv132, H⟩ := bind_some H
                  refine AWP_regE1 [0, 1, 2, 3, 4, 5, 6, 7, 8, 9] (N := 124) (f := [(0, .ptr 0 0), (2, .ptr 1 0), (5, .ptr 2 0), (6, .ptr 3 0), (7, iA v125)]) (leL_of [0, 2, 5, 6, 7] (by kernel_rfl)) mixed (by kernel_rfl) (by kernel_rfl) (st' := fr 124 [(0, .ptr 0 0), (2, .ptr 1 0), (5, .ptr 2 0), (6, .ptr 3 0), (7, iA v125)]) (h' := [.row 58 (TValue.cl v132), .dead, .cells 25 [iA 8, sA v5.gKind, sA v5.gName, .sl 5 0 v132.length (.whole 4), .ro .full 0 []], .cells 112 (TDeclared.cs v5), .cells 25 [iA 0, sA ByteArray.empty, sA ByteArray.empty, .ro .full 0 [], .ro .full 0 []], .cells 101 (TCodes.cs v131.2)]) ?_ ?_
                  rotate_left
                  · refine RD 5 124 [(4, 2), (3, 2), (1, 3), (0, 3)] [(0, .ptr 0 0), (2, .ptr 1 0), (5, .ptr 2 0), (6, .ptr 3 0), (7, iA v125), (56, .ptr 3 3), (57, .sl 4 0 v128.length (.whole 4)), (58, .ptr 0 0), (59, .ptr 2 2), (60, iA v5.gType)] (AD_call1 (d := (some 61)) (al := [.ptr 0 0, iA v5.gType]) ([.ptr 0 0, iA v5.gType]) (r := .agg (TValue.cs v131.1)) (j := 0) (b' := .cells 101 (TCodes.cs v131.2)) (by kernel_rfl) rfl (s_draw_Codes_Value hG hv131) (⟨(scl_cl_u8 _ _), trivial, trivial⟩) (⟨(scl_cl_u8 _ _), trivial, trivial⟩) ⟨Nat.zero_lt_one, trivial, trivial⟩ (sc_TValue_cs _ _) rfl (h' := [.row 58 (TValue.cl v128), .cells 25 [iA 8, sA v5.gKind, sA v5.gName, .sl 4 0 v128.length (.whole 4), .ro .full 0 []], .cells 112 (TDeclared.cs v5), .cells 25 [iA 0, sA ByteArray.empty, sA ByteArray.empty, .ro .full 0 [], .ro .full 0 []], .cells 101 (TCodes.cs v131.2)]) rfl ?_)
                    refine AD_bsl (d := (some 62)) (m := 1) (cs := [iA v131.1.gKind, iA v131.1.gNumber, sA v131.1.gText, .ro .unk v131.1.gList.length (cl_str v131.1.gList)]) (by kernel_rfl) ⟨trivial, trivial, trivial, (scl_cl_str _ _), trivial⟩ ?_
                    refine AD_append (d := (some 63)) (c := TValue.cs) (sz := 4) (bs := 56) (e := 58) (id := 4) (xs := v128) (ys := [v131.1]) (by kernel_rfl) rfl (eq_TValue_cl _) rfl (eq_TValue_cl _) (fun _ => rfl) (by kernel_rfl) (by kernel_rfl) hv132 (eq_TValue_cl _) (by kernel_rfl) (h' := [.row 58 (TValue.cl v132), .dead, .cells 25 [iA 8, sA v5.gKind, sA v5.gName, .sl 4 0 v128.length (.whole 4), .ro .full 0 []], .cells 112 (TDeclared.cs v5), .cells 25 [iA 0, sA ByteArray.empty, sA ByteArray.empty, .ro .full 0 [], .ro .full 0 []], .cells 101 (TCodes.cs v131.2)]) rfl ?_
                    refine RD 1 124 [(8, 3), (4, 2), (3, 2), (1, 3), (0, 3)] [(0, .ptr 0 0), (2, .ptr 1 0), (5, .ptr 2 0), (6, .ptr 3 0), (7, iA v125), (56, .ptr 3 3), (57, .sl 4 0 v128.length (.whole 4)), (58, .ptr 0 0), (59, .ptr 2 2), (60, iA v5.gType), (61, .agg (TValue.cs v131.1)), (62, .ro .unk ([v131.1]).length (TValue.cl ([v131.1]))), (63, .sl 5 0 v132.length (.whole 4)), (64, .ptr 3 3)] (AD_store (d := none) (id := 3) (h' := [.row 58 (TValue.cl v132), .dead, .cells 25 [iA 8, sA v5.gKind, sA v5.gName, .sl 5 0 v132.length (.whole 4), .ro .full 0 []], .cells 112 (TDeclared.cs v5), .cells 25 [iA 0, sA ByteArray.empty, sA ByteArray.empty, .ro .full 0 [], .ro .full 0 []], .cells 101 (TCodes.cs v131.2)]) (by kernel_rfl) (by kernel_rfl) ?_)
                    exact AD_here [0, 2, 5, 6, 7] (by kernel_rfl) rfl
                  show AWP _ _ _ _ _ _ _
                  refine AWP_region ?_
                  refine Rh 3 124 [(0, .ptr 0 0), (2, .ptr 1 0), (5, .ptr 2 0), (6, .ptr 3 0), (7, iA (w64 (v125 + 1)))] (AOps_done ?_)
                  exact Exists.intro (w64 (v125 + 1), v131.2.glist, v131.2.gat, v132) (Exists.intro n ⟨by omega, ⟨by omega, H⟩, Norm_trans (Norm_fd (st' := fr 124 [(0, .ptr 0 0), (2, .ptr 1 0), (5, .ptr 2 0), (6, .ptr 3 0), (7, iA (w64 (v125 + 1)))]) (h' := [.row 58 (TValue.cl v132), .dead, .cells 25 [iA 8, sA v5.gKind, sA v5.gName, .sl 5 0 v132.length (.whole 4), .ro .full 0 []], .cells 112 (TDeclared.cs v5), .cells 25 [iA 0, sA ByteArray.empty, sA ByteArray.empty, .ro .full 0 [], .ro .full 0 []], .cells 101 (TCodes.cs v131.2)]) [0, 2, 5, 6, 7] 0 (by kernel_rfl) rfl rfl ⟨(scl_TValue_cl _ _), trivial, ⟨trivial, trivial, trivial, (sc_sl rfl), trivial, trivial⟩, (sc_TDeclared_cs _ _), ⟨trivial, trivial, trivial, trivial, trivial, trivial⟩, ⟨(scl_cl_u8 _ _), trivial, trivial⟩, trivial⟩ (by refine scL_fr ?_; exact ⟨(sc_ptr rfl), (sc_ptr rfl), (sc_ptr rfl), (sc_ptr rfl), trivial, trivial⟩)) (Norm_trans (Norm_move' (st' := fr 124 [(0, .ptr 0 0), (2, .ptr 1 0), (5, .ptr 2 0), (6, .ptr 3 0), (7, iA (w64 (v125 + 1)))]) (h' := [.row 58 (TValue.cl v132), .cells 25 [iA 8, sA v5.gKind, sA v5.gName, .sl 4 0 v132.length (.whole 4), .ro .full 0 []], .cells 112 (TDeclared.cs v5), .cells 25 [iA 0, sA ByteArray.empty, sA ByteArray.empty, .ro .full 0 [], .ro .full 0 []], .cells 101 (TCodes.cs v131.2)]) 4 5 rfl rfl rfl (fun h => by cases h) (by refine toOkL_fr ?_; exact ⟨(toOk_ptr rfl), (toOk_ptr rfl), (toOk_ptr rfl), (toOk_ptr rfl), trivial, trivial⟩) ⟨(on0 (scl_TValue_cl _ _)), trivial, ⟨trivial, trivial, trivial, (toOk_sl rfl), trivial, trivial⟩, ⟨trivial, trivial, trivial, trivial⟩, ⟨trivial, trivial, trivial, trivial, trivial, trivial⟩, ⟨(on0 (scl_cl_u8 _ _)), trivial, trivial⟩, trivial⟩ (by kernel_rfl) (by kernel_rfl)) (Norm_fd [0, 2, 5, 6, 7] 0 (by kernel_rfl) rfl rfl ⟨(scl_TValue_cl _ _), ⟨trivial, trivial, trivial, (sc_sl rfl), trivial, trivial⟩, (sc_TDeclared_cs _ _), ⟨trivial, trivial, trivial, trivial, trivial, trivial⟩, ⟨(scl_cl_u8 _ _), trivial, trivial⟩, trivial⟩ (by refine scL_fr ?_; exact ⟨(sc_ptr rfl), (sc_ptr rfl), (sc_ptr rfl), (sc_ptr rfl), trivial, trivial⟩)))⟩)
                · refine AWP_exit ?_
                  show AWP _ _ _ _ _ _ _
                  refine AWP_reg (R 2 124 [(2, .ptr 1 0)] [.row 58 (TValue.cl v128), .cells 25 [iA 8, sA v5.gKind, sA v5.gName, .sl 4 0 v128.length (.whole 4), .ro .full 0 []], .cells 112 (TDeclared.cs v5), .cells 25 [iA 8, sA v5.gKind, sA v5.gName, .sl 4 0 v128.length (.whole 4), .ro .full 0 []], .cells 101 (TCodes.cs v129.2)] (AOps_done (AWP_ret ?_)))
                  have hr := Option.some.inj H
                  subst hr
                  exact Fin_retn 4 (l := [.agg [iA 8, sA v5.gKind, sA v5.gName, .sl 4 0 v128.length (.whole 4), .ro .full 0 []]]) (h' := [.cells 101 (TCodes.cs v129.2)]) (by kernel_rfl) rfl (Nat.le_of_ble_eq_true rfl) ((by refine Closed_of ?_; exact ⟨⟨(scl_cl_u8 _ _), trivial, trivial⟩, trivial⟩)) (Frz_agg (FrzL_cons (Frz_sc trivial) (FrzL_cons (Frz_sc trivial) (FrzL_cons (Frz_sc trivial) (FrzL_cons (Frz_row (t := 58) (cs := TValue.cl v128) rfl (scl_TValue_cl _ _)) (FrzL_cons (Frz_le (Frz_sc trivial) (AV.le_ro _ _ _)) (FrzL_nil)))))) rfl) ⟨rfl, rfl⟩
            · refine AWP_skip ?_
              show AWP _ _ _ _ _ _ _
              refine AWP_exit ?_
              exact Exists.intro (v75.2.glist, v75.2.gat) ⟨⟨n, by omega, H⟩, Norm_fd [0, 2, 5, 6] 0 (by kernel_rfl) rfl rfl ⟨⟨trivial, trivial, trivial, trivial, trivial, trivial⟩, (sc_TDeclared_cs _ _), ⟨trivial, trivial, trivial, trivial, trivial, trivial⟩, ⟨(scl_cl_u8 _ _), trivial, trivial⟩, trivial⟩ (by refine scL_fr ?_; exact ⟨(sc_ptr rfl), (sc_ptr rfl), (sc_ptr rfl), (sc_ptr rfl), trivial⟩)⟩
          · refine AWP_skip ?_
            show AWP _ _ _ _ _ _ _
            refine AWP_seq (AWP_reg (Rh 2 124 [(0, .ptr 0 0), (2, .ptr 1 0), (5, .ptr 2 0), (6, .ptr 3 0), (33, iA v75.1), (38, bA (v75.1 == 2))] (AOps_done (CD H (fun hb133 H => ?_) (fun hb133 H => ?_)))))
            · refine AWP_exit ?_
              show AWP _ _ _ _ _ _ _
              refine AWP_seq (AWP_reg (Rh 4 124 [(0, .ptr 0 0), (2, .ptr 1 0), (5, .ptr 2 0), (6, .ptr 3 0), (69, bA (v5.gType == 3))] (AOps_run 4 [0, 2, 5, 6, 73] (st' := fr 124 [(0, .ptr 0 0), (2, .ptr 1 0), (5, .ptr 2 0), (6, .ptr 3 0), (73, bA ((v5.gType == 3) || (v5.gType == 5)))]) (h' := [.cells 25 [iA 0, sA v5.gKind, sA v5.gName, .ro .full 0 [], .ro .full 0 []], .cells 112 (TDeclared.cs v5), .cells 25 [iA 0, sA ByteArray.empty, sA ByteArray.empty, .ro .full 0 [], .ro .full 0 []], .cells 101 (TCodes.cs v75.2)]) (by (generalize (v5.gType == 3) = t0; cases t0 <;> kernel_rfl)) ?_)))
              refine AOps_done (CD H (fun hb134 H => ?_) (fun hb134 H => ?_))
              · refine AWP_reg (R 2 124 [(0, .ptr 0 0), (2, .ptr 1 0), (6, .ptr 3 0)] [.cells 25 [iA 11, sA v5.gKind, sA v5.gName, .ro .full 0 [], .ro .full 0 []], .cells 112 (TDeclared.cs v5), .cells 25 [iA 0, sA ByteArray.empty, sA ByteArray.empty, .ro .full 0 [], .ro .full 0 []], .cells 101 (TCodes.cs v75.2)] (AOps_done (AWP_reg (Rh 1 124 [(2, .ptr 1 0), (6, .ptr 3 0), (75, .ptr 0 0)] ?_))))
                obtain ⟨v135, hv135, H⟩ := bind_some H
                refine AOps_call1 (d := (some 76)) (al := [.ptr 0 0, iA 3]) ([.ptr 0 0, iA 3]) (r := .agg (TValue.cs v135.1)) (j := 0) (b' := .cells 101 (TCodes.cs v135.2)) (by kernel_rfl) rfl (s_draw_Codes_Value hG hv135) (⟨(scl_cl_u8 _ _), trivial, trivial⟩) (⟨(scl_cl_u8 _ _), trivial, trivial⟩) ⟨Nat.zero_lt_one, trivial, trivial⟩ (sc_TValue_cs _ _) rfl (h' := [.cells 25 [iA 11, sA v5.gKind, sA v5.gName, .ro .full 0 [], .ro .full 0 []], .cells 112 (TDeclared.cs v5), .cells 25 [iA 0, sA ByteArray.empty, sA ByteArray.empty, .ro .full 0 [], .ro .full 0 []], .cells 101 (TCodes.cs v135.2)]) rfl ?_
                refine AOps_bsl (d := (some 77)) (m := 1) (cs := [iA v135.1.gKind, iA v135.1.gNumber, sA v135.1.gText, .ro .unk v135.1.gList.length (cl_str v135.1.gList)]) (by kernel_rfl) ⟨trivial, trivial, trivial, (scl_cl_str _ _), trivial⟩ ?_
                refine R 2 124 [(2, .ptr 1 0), (6, .ptr 3 0)] [.cells 25 [iA 11, sA v5.gKind, sA v5.gName, .ro .unk ([v135.1]).length (TValue.cl ([v135.1])), .ro .full 0 []], .cells 112 (TDeclared.cs v5), .cells 25 [iA 0, sA ByteArray.empty, sA ByteArray.empty, .ro .full 0 [], .ro .full 0 []], .cells 101 (TCodes.cs v135.2)] (AOps_done (AWP_reg (R 2 124 [(2, .ptr 1 0)] [.cells 25 [iA 11, sA v5.gKind, sA v5.gName, .ro .unk ([v135.1]).length (TValue.cl ([v135.1])), .ro .full 0 []], .cells 112 (TDeclared.cs v5), .cells 25 [iA 11, sA v5.gKind, sA v5.gName, .ro .unk ([v135.1]).length (TValue.cl ([v135.1])), .ro .full 0 []], .cells 101 (TCodes.cs v135.2)] (AOps_done (AWP_ret ?_)))))
                have hr := Option.some.inj H
                subst hr
                exact Fin_retn 3 (l := [.agg [iA 11, sA v5.gKind, sA v5.gName, .ro .unk ([v135.1]).length (TValue.cl ([v135.1])), .ro .full 0 []]]) (h' := [.cells 101 (TCodes.cs v135.2)]) (by kernel_rfl) rfl (Nat.le_of_ble_eq_true rfl) ((by refine Closed_of ?_; exact ⟨⟨(scl_cl_u8 _ _), trivial, trivial⟩, trivial⟩)) (Frz_agg (FrzL_cons (Frz_sc trivial) (FrzL_cons (Frz_sc trivial) (FrzL_cons (Frz_sc trivial) (FrzL_cons (Frz_sc (scl_TValue_cl _ _)) (FrzL_cons (Frz_le (Frz_sc trivial) (AV.le_ro _ _ _)) (FrzL_nil)))))) rfl) ⟨rfl, rfl⟩
              · refine AWP_skip ?_
                show AWP _ _ _ _ _ _ _
                refine AWP_exit ?_
                exact Exists.intro (v75.2.glist, v75.2.gat) ⟨⟨n, by omega, H⟩, Norm_fd [0, 2, 5, 6] 0 (by kernel_rfl) rfl rfl ⟨⟨trivial, trivial, trivial, trivial, trivial, trivial⟩, (sc_TDeclared_cs _ _), ⟨trivial, trivial, trivial, trivial, trivial, trivial⟩, ⟨(scl_cl_u8 _ _), trivial, trivial⟩, trivial⟩ (by refine scL_fr ?_; exact ⟨(sc_ptr rfl), (sc_ptr rfl), (sc_ptr rfl), (sc_ptr rfl), trivial⟩)⟩
            · refine AWP_skip ?_
              show AWP _ _ _ _ _ _ _
              refine AWP_seq (AWP_reg (Rh 2 124 [(0, .ptr 0 0), (2, .ptr 1 0), (5, .ptr 2 0), (6, .ptr 3 0), (33, iA v75.1), (40, bA (v75.1 == 3))] (AOps_done (CD H (fun hb136 H => ?_) (fun hb136 H => ?_)))))
              · refine AWP_exit ?_
                show AWP _ _ _ _ _ _ _
                refine AWP_reg (Rh 3 124 [(0, .ptr 0 0), (2, .ptr 1 0), (5, .ptr 2 0), (6, .ptr 3 0), (82, bA (v5.gType == 3))] (AOps_done (CD H (fun hb137 H => ?_) (fun hb137 H => ?_))))
                · refine AWP_reg (Rh 1 124 [(0, .ptr 0 0), (2, .ptr 1 0), (6, .ptr 3 0), (83, .ptr 0 0)] ?_)
                  obtain ⟨v138, hv138, H⟩ := bind_some H
                  refine AOps_call1 (d := (some 84)) (al := [.ptr 0 0, iA 2]) ([.ptr 0 0, iA 2]) (r := iA v138.1) (j := 0) (b' := .cells 101 (TCodes.cs v138.2)) (by kernel_rfl) rfl (s_draw_Codes_Next hv138) (⟨(scl_cl_u8 _ _), trivial, trivial⟩) (⟨(scl_cl_u8 _ _), trivial, trivial⟩) ⟨Nat.zero_lt_one, trivial, trivial⟩ trivial rfl (h' := [.cells 25 [iA 0, sA v5.gKind, sA v5.gName, .ro .full 0 [], .ro .full 0 []], .cells 112 (TDeclared.cs v5), .cells 25 [iA 0, sA ByteArray.empty, sA ByteArray.empty, .ro .full 0 [], .ro .full 0 []], .cells 101 (TCodes.cs v138.2)]) rfl ?_
                  refine R 3 124 [(0, .ptr 0 0), (2, .ptr 1 0), (6, .ptr 3 0)] [.cells 25 [iA (w64 (9 + v138.1)), sA v5.gKind, sA v5.gName, .ro .full 0 [], .ro .full 0 []], .cells 112 (TDeclared.cs v5), .cells 25 [iA 0, sA ByteArray.empty, sA ByteArray.empty, .ro .full 0 [], .ro .full 0 []], .cells 101 (TCodes.cs v138.2)] (AOps_done (AWP_reg (Rh 1 124 [(2, .ptr 1 0), (6, .ptr 3 0), (87, .ptr 0 0)] ?_)))
                  obtain ⟨v139, hv139, H⟩ := bind_some H
                  refine AOps_call1 (d := (some 88)) (al := [.ptr 0 0, iA 3]) ([.ptr 0 0, iA 3]) (r := .agg (TValue.cs v139.1)) (j := 0) (b' := .cells 101 (TCodes.cs v139.2)) (by kernel_rfl) rfl (s_draw_Codes_Value hG hv139) (⟨(scl_cl_u8 _ _), trivial, trivial⟩) (⟨(scl_cl_u8 _ _), trivial, trivial⟩) ⟨Nat.zero_lt_one, trivial, trivial⟩ (sc_TValue_cs _ _) rfl (h' := [.cells 25 [iA (w64 (9 + v138.1)), sA v5.gKind, sA v5.gName, .ro .full 0 [], .ro .full 0 []], .cells 112 (TDeclared.cs v5), .cells 25 [iA 0, sA ByteArray.empty, sA ByteArray.empty, .ro .full 0 [], .ro .full 0 []], .cells 101 (TCodes.cs v139.2)]) rfl ?_
                  refine AOps_bsl (d := (some 89)) (m := 1) (cs := [iA v139.1.gKind, iA v139.1.gNumber, sA v139.1.gText, .ro .unk v139.1.gList.length (cl_str v139.1.gList)]) (by kernel_rfl) ⟨trivial, trivial, trivial, (scl_cl_str _ _), trivial⟩ ?_
                  refine R 2 124 [(2, .ptr 1 0), (6, .ptr 3 0)] [.cells 25 [iA (w64 (9 + v138.1)), sA v5.gKind, sA v5.gName, .ro .unk ([v139.1]).length (TValue.cl ([v139.1])), .ro .full 0 []], .cells 112 (TDeclared.cs v5), .cells 25 [iA 0, sA ByteArray.empty, sA ByteArray.empty, .ro .full 0 [], .ro .full 0 []], .cells 101 (TCodes.cs v139.2)] (AOps_done (AWP_reg (R 2 124 [(2, .ptr 1 0)] [.cells 25 [iA (w64 (9 + v138.1)), sA v5.gKind, sA v5.gName, .ro .unk ([v139.1]).length (TValue.cl ([v139.1])), .ro .full 0 []], .cells 112 (TDeclared.cs v5), .cells 25 [iA (w64 (9 + v138.1)), sA v5.gKind, sA v5.gName, .ro .unk ([v139.1]).length (TValue.cl ([v139.1])), .ro .full 0 []], .cells 101 (TCodes.cs v139.2)] (AOps_done (AWP_ret ?_)))))
                  have hr := Option.some.inj H
                  subst hr
                  exact Fin_retn 3 (l := [.agg [iA (w64 (9 + v138.1)), sA v5.gKind, sA v5.gName, .ro .unk ([v139.1]).length (TValue.cl ([v139.1])), .ro .full 0 []]]) (h' := [.cells 101 (TCodes.cs v139.2)]) (by kernel_rfl) rfl (Nat.le_of_ble_eq_true rfl) ((by refine Closed_of ?_; exact ⟨⟨(scl_cl_u8 _ _), trivial, trivial⟩, trivial⟩)) (Frz_agg (FrzL_cons (Frz_sc trivial) (FrzL_cons (Frz_sc trivial) (FrzL_cons (Frz_sc trivial) (FrzL_cons (Frz_sc (scl_TValue_cl _ _)) (FrzL_cons (Frz_le (Frz_sc trivial) (AV.le_ro _ _ _)) (FrzL_nil)))))) rfl) ⟨rfl, rfl⟩
                · refine AWP_skip ?_
                  exact Exists.intro () ⟨⟨n, by omega, H⟩, Norm_fd [0, 2, 5, 6] 0 (by kernel_rfl) rfl rfl ⟨⟨trivial, trivial, trivial, trivial, trivial, trivial⟩, (sc_TDeclared_cs _ _), ⟨trivial, trivial, trivial, trivial, trivial, trivial⟩, ⟨(scl_cl_u8 _ _), trivial, trivial⟩, trivial⟩ (by refine scL_fr ?_; exact ⟨(sc_ptr rfl), (sc_ptr rfl), (sc_ptr rfl), (sc_ptr rfl), trivial⟩)⟩
              · refine AWP_skip ?_
                show AWP _ _ _ _ _ _ _
                refine AWP_reg (Rh 2 124 [(0, .ptr 0 0), (2, .ptr 1 0), (5, .ptr 2 0), (6, .ptr 3 0), (42, bA (v75.1 == 4))] (AOps_done (CD H (fun hb140 H => ?_) (fun hb140 H => ?_))))
                · refine AWP_exit ?_
                  exact Exists.intro () ⟨⟨n, by omega, H⟩, Norm_fd [0, 2, 5, 6] 0 (by kernel_rfl) rfl rfl ⟨⟨trivial, trivial, trivial, trivial, trivial, trivial⟩, (sc_TDeclared_cs _ _), ⟨trivial, trivial, trivial, trivial, trivial, trivial⟩, ⟨(scl_cl_u8 _ _), trivial, trivial⟩, trivial⟩ (by refine scL_fr ?_; exact ⟨(sc_ptr rfl), (sc_ptr rfl), (sc_ptr rfl), (sc_ptr rfl), trivial⟩)⟩
                · refine AWP_skip ?_
                  show AWP _ _ _ _ _ _ _
                  refine AWP_exit ?_
                  exact Exists.intro (v75.2.glist, v75.2.gat) ⟨⟨n, by omega, H⟩, Norm_fd [0, 2, 5, 6] 0 (by kernel_rfl) rfl rfl ⟨⟨trivial, trivial, trivial, trivial, trivial, trivial⟩, (sc_TDeclared_cs _ _), ⟨trivial, trivial, trivial, trivial, trivial, trivial⟩, ⟨(scl_cl_u8 _ _), trivial, trivial⟩, trivial⟩ (by refine scL_fr ?_; exact ⟨(sc_ptr rfl), (sc_ptr rfl), (sc_ptr rfl), (sc_ptr rfl), trivial⟩)⟩
end Go.Proofs.YtjhbobacbaikoaaGreatDoor
/- Drawn tests are well-formed parts. -/
namespace Go.Proofs.YtjhbobacbaikoaaGreatDoor
open Go
set_option linter.unusedVariables false
set_option linter.unusedSimpArgs false
set_option maxRecDepth 100000
/-! ## tests -/
def dkinds : List ByteArray := [⟨#[100, 101, 118, 105, 99, 101]⟩, ⟨#[117, 115, 101, 114]⟩]
def dnames : List ByteArray := [⟨#[99, 111, 114, 101, 115]⟩, ⟨#[111, 115]⟩, ⟨#[97, 103, 101]⟩, ⟨#[97, 112, 112]⟩, ⟨#[98, 101, 116, 97]⟩, ⟨#[99, 111, 117, 110, 116, 114, 121]⟩, ⟨#[112, 108, 97, 110]⟩, ⟨#[116, 97, 103, 115]⟩, ⟨#[107, 101, 121]⟩]
theorem words_size : ∀ w ∈ dkinds ++ dnames, w.size ≤ 40 := by decide
structure TestG (x : TExpr) : Prop where
  kids : x.gKids = []
  op6 : 6 ≤ x.gOp
  op15 : x.gOp ≤ 15
  kind : x.gKind ∈ dkinds
  name : x.gName ∈ dnames
  vals : ∀ v ∈ x.gValues, v ∈ goodV
  len : x.gValues.length ≤ 10
  len6 : x.gOp = 6 → x.gValues = []
  len8 : x.gOp = 8 → 0 < x.gValues.length
  len1 : x.gOp ≠ 6 → x.gOp ≠ 8 → x.gValues.length = 1
  text : x.gOp = 9 ∨ x.gOp = 10 ∨ x.gOp = 11 → ∃ v, x.gValues[0]? = some v ∧ v.gKind = 3
section
variable {c : TCodes} (hc : c.cok)
 include hc
def decl8 : List TDeclared := [⟨⟨#[100, 101, 118, 105, 99, 101]⟩, ⟨#[99, 111, 114, 101, 115]⟩, 2⟩, ⟨⟨#[100, 101, 118, 105, 99, 101]⟩, ⟨#[111, 115]⟩, 3⟩, ⟨⟨#[117, 115, 101, 114]⟩, ⟨#[97, 103, 101]⟩, 2⟩, ⟨⟨#[117, 115, 101, 114]⟩, ⟨#[97, 112, 112]⟩, 4⟩, ⟨⟨#[117, 115, 101, 114]⟩, ⟨#[98, 101, 116, 97]⟩, 1⟩, ⟨⟨#[117, 115, 101, 114]⟩, ⟨#[99, 111, 117, 110, 116, 114, 121]⟩, 3⟩, ⟨⟨#[117, 115, 101, 114]⟩, ⟨#[112, 108, 97, 110]⟩, 3⟩, ⟨⟨#[117, 115, 101, 114]⟩, ⟨#[116, 97, 103, 115]⟩, 5⟩]
 omit hc in
theorem declared_eq (n : Nat) : p_draw_Declared n = some decl8 := rfl
def DeclG (d : TDeclared) : Prop := d.gKind ∈ dkinds ∧ d.gName ∈ dnames ∧ 1 ≤ d.gType ∧ d.gType ≤ 5
 omit hc in
theorem decl8_good : ∀ d ∈ decl8, DeclG d := by
  intro d hd
  simp only [decl8, List.mem_cons, List.not_mem_nil, or_false] at hd
  rcases hd with rfl | rfl | rfl | rfl | rfl | rfl | rfl | rfl <;> exact ⟨by simp [dkinds], by simp [dnames], by decide, by decide⟩
 omit hc in
theorem good_of {v : TValue} (h : v ∈ drawnV) : v ∈ goodV := List.mem_append_left _ h
theorem test1_gv {d : TDeclared} (hd : DeclG d) (op : Int) (h6 : 6 < op) (h15 : op ≤ 15) (h8 : op ≠ 8) (h9 : op < 9 ∨ 11 < op) : Gv (fun n => (p_draw_Codes_Value n c d.gType).bind fun v => some ((TExpr.mk op d.gKind d.gName ([v.1]) ([])), v.2)) fun r => TestG r.1 ∧ r.2.cok := by
  refine Gv.bind (value_gv hc _ hd.2.2) fun v hv => Gv.pure ⟨⟨rfl, by show 6 ≤ op; omega, h15, hd.1, hd.2.1, ?_, by show 1 ≤ 10; omega, fun h => ?_, fun h => absurd h h8, fun _ _ => rfl, fun h => ?_⟩, hv.2⟩
  · intro w hw
    obtain rfl : w = v.1 := by simpa [TExpr.gValues] using hw
    exact good_of hv.1.1
  · have h : op = 6 := h
    omega
  · have h : op = 9 ∨ op = 10 ∨ op = 11 := h
    omega
theorem test3_gv {d : TDeclared} (hd : DeclG d) (op : Int) (h6 : 9 ≤ op) (h15 : op ≤ 11) : Gv (fun n => (p_draw_Codes_Value n c 3).bind fun v => some ((TExpr.mk op d.gKind d.gName ([v.1]) ([])), v.2)) fun r => TestG r.1 ∧ r.2.cok := by
  refine Gv.bind (value_gv hc 3 (by decide)) fun v hv => Gv.pure ⟨⟨rfl, by show 6 ≤ op; omega, by show op ≤ 15; omega, hd.1, hd.2.1, ?_, by show 1 ≤ 10; omega, fun h => ?_, fun h => ?_, fun _ _ => rfl, fun h => ⟨v.1, rfl, hv.1.2⟩⟩, hv.2⟩
  · intro w hw
    obtain rfl : w = v.1 := by simpa [TExpr.gValues] using hw
    exact good_of hv.1.1
  · have h : op = 6 := h
    omega
  · have h : op = 8 := h
    omega
theorem test_K1 {d : TDeclared} (hd : DeclG d) : Gv (fun n => p_draw_Codes_Test_K1 n d c.glist c.gat) fun r => TestG r.1 ∧ r.2.cok := by
  unfold p_draw_Codes_Test_K1
  exact test1_gv hc hd 7 (by decide) (by decide) (by decide) (by decide)
 omit hc in
theorem test_L1 {d : TDeclared} (hd : DeclG d) : ∀ (q i : Nat) (c : TCodes) (l : List TValue), i + q = 3 → c.cok → l.length = i → (∀ v ∈ l, v ∈ goodV) → Gv (fun n => p_draw_Codes_Test_L1 n d i c.glist c.gat l) fun r => TestG r.1 ∧ r.2.cok := by
  intro q
  induction q with
  | zero =>
    intro i c l hi hc hl hv
    refine Gv.succ ?_
    simp only [p_draw_Codes_Test_L1]
    refine Gv.bind (next_gv hc (k := 3) (by decide) (by decide)) fun r hr => Gv.cond (fun h => ?_) fun h => ?_
    · have h := of_decide_eq_true h
      omega
    · exact Gv.pure ⟨⟨rfl, by show (6 : Int) ≤ 8; omega, by show (8 : Int) ≤ 15; omega, hd.1, hd.2.1, hv, by show l.length ≤ 10; omega, fun h => (by cases h), fun _ => by show 0 < l.length; omega, fun _ h => absurd rfl h, fun h => (by rcases h with h | h | h <;> cases h)⟩, hr.2.2⟩
  | succ q ih =>
    intro i c l hi hc hl hv
    refine Gv.succ ?_
    simp only [p_draw_Codes_Test_L1]
    refine Gv.bind (next_gv hc (k := 3) (by decide) (by decide)) fun r hr => Gv.cond (fun h => ?_) fun h => ?_
    · refine Gv.bind (value_gv hr.2.2 _ hd.2.2) fun v hvv => ?_
      refine Gv.bind (Gv.app (Q := fun m => m = l ++ [v.1]) (by simp; omega) (by decide) rfl) ?_
      rintro m rfl
      rw [w64_add (by omega)]
      refine ih (i + 1) v.2 (l ++ [v.1]) (by omega) hvv.2 (by simp; omega) fun w hw => ?_
      rcases List.mem_append.1 hw with hw | hw
      · exact hv w hw
      · obtain rfl : w = v.1 := by simpa using hw
        exact good_of hvv.1.1
    · have h := of_decide_eq_false h
      exact Gv.pure ⟨⟨rfl, by show (6 : Int) ≤ 8; omega, by show (8 : Int) ≤ 15; omega, hd.1, hd.2.1, hv, by show l.length ≤ 10; omega, fun h => (by cases h), fun _ => by show 0 < l.length; omega, fun _ h => absurd rfl h, fun h => (by rcases h with h | h | h <;> cases h)⟩, hr.2.2⟩
theorem test_K2 {d : TDeclared} (hd : DeclG d) (x : Int) : Gv (fun n => p_draw_Codes_Test_K2 n d (x, c)) fun r => TestG r.1 ∧ r.2.cok := by
  unfold p_draw_Codes_Test_K2
  refine Gv.cond (fun _ => ?_) fun _ => test_K1 hc hd
  refine Gv.bind (next_gv hc (k := 4) (by decide) (by decide)) fun r hr => ?_
  rw [w64_of (by omega) (by omega)]
  exact test1_gv hr.2.2 hd _ (by omega) (by omega) (by omega) (by omega)
theorem test_gv : Gv (fun n => p_draw_Codes_Test n c) fun r => TestG r.1 ∧ r.2.cok := by
  unfold p_draw_Codes_Test
  simp only [declared_eq, Option.bind_some]
  have hl : lI decl8 = 8 := rfl
  rw [hl]
  refine Gv.bind (next_gv hc (k := 9) (by decide) (by decide)) fun r hr => Gv.cond (fun h => ?_) fun h => ?_
  · refine Gv.bind (key_gv hr.2.2) fun k hk => Gv.pure ⟨⟨rfl, (by show (6 : Int) ≤ 7; decide), (by show (7 : Int) ≤ 15; decide), by simp [dkinds, TExpr.gKind], by simp [dnames, TExpr.gName], ?_, (by show 1 ≤ 10; decide), fun h => (by cases h), fun h => (by cases h), fun _ _ => rfl, fun h => (by rcases h with h | h | h <;> cases h)⟩, hk.2⟩
    intro w hw
    obtain rfl : w = vT 3 k.1 := by simpa [TExpr.gValues, vT] using hw
    exact List.mem_append_right _ (List.mem_map_of_mem hk.1)
  · have hne := beq_eq_false_iff_ne.1 h
    refine Gv.bind (Gv.rd (Q := DeclG) hr.1 (by have : decl8.length = 8 := rfl; omega) decl8_good) fun d hd => ?_
    refine Gv.bind (next_gv hr.2.2 (k := 5) (by decide) (by decide)) fun s hs => ?_
    have hK1 := test_K1 hs.2.2 hd
    have hK2 := test_K2 hs.2.2 hd s.1
    refine Gv.cond (fun _ => ?_) fun _ => Gv.cond (fun _ => Gv.cond (fun _ => ?_) fun _ => hK1) fun _ => Gv.cond (fun _ => Gv.cond (fun _ => ?_) fun _ => hK1) fun _ => Gv.cond (fun _ => Gv.cond (fun _ => ?_) fun _ => hK2) fun _ => Gv.cond (fun _ => hK2) fun _ => hK1
    · exact Gv.pure ⟨⟨rfl, (by show (6 : Int) ≤ 6; decide), (by show (6 : Int) ≤ 15; decide), hd.1, hd.2.1, fun v hv => (by cases hv), (by show 0 ≤ 10; decide), fun _ => rfl, fun h => (by cases h), fun h => absurd rfl h, fun h => (by rcases h with h | h | h <;> cases h)⟩, hs.2.2⟩
    · exact test_L1 hd 3 0 s.2 [] rfl hs.2.2 rfl (fun v hv => by cases hv)
    · exact test3_gv hs.2.2 hd 11 (by decide) (by decide)
    · refine Gv.bind (next_gv hs.2.2 (k := 2) (by decide) (by decide)) fun q hq => ?_
      rw [w64_of (by omega) (by omega)]
      exact test3_gv hq.2.2 hd _ (by omega) (by omega)
end
end Go.Proofs.YtjhbobacbaikoaaGreatDoor
/- A function of the program as a pure function, and that the program computes it. -/
namespace Go.Proofs.YtjhbobacbaikoaaGreatDoor
open Go
set_option linter.unusedVariables false
set_option linter.unusedSimpArgs false
set_option maxRecDepth 100000
def p_cmp_Or_api_Errno_L1 (n : Nat) (x0 : List Int) (v8 : Int) : Option Int := match n with
| 0 => none
| n + 1 =>
(bif decide (v8 < (lI x0)) then
(rdO x0 v8).bind fun v10 =>
(bif v10 != 0 then
 some (v10)
 else
 p_cmp_Or_api_Errno_L1 n x0 (w64 (v8 + 1)))
 else
 some (0))
def p_cmp_Or_api_Errno (n : Nat) (x0 : List Int) : Option Int :=
 p_cmp_Or_api_Errno_L1 n x0 0
variable {E : Env}
theorem s_cmp_Or_api_Errno {n : Nat} {x0 : List Int} {r : Int} (H : p_cmp_Or_api_Errno n x0 = some r) :
    Sp Tryz.prog E 108 [.ro .unk x0.length (cl_i64 x0)] [] (isA (iA r) []) := by
  unfold p_cmp_Or_api_Errno at H
  refine Sp_fn Tryz.func108 rfl (fun hc hs => ?_)
  refine AWP_reg (Rh 1 18 [(0, .ro .unk x0.length (cl_i64 x0))] (AOps_done (AWP_reg (Rh 1 18 [(0, .ro .unk x0.length (cl_i64 x0)), (3, iA 0)] (AOps_done (AWP_seq (AWP_reg (Rh 3 18 [(3, iA 0), (6, .ro .unk x0.length (cl_i64 x0)), (7, iA (lI x0)), (8, iA 0)] ?_))))))))
  refine AOps_done (AWP_block ?_)
  refine AWP_loopN (α := Int) (fun v8 => fr 18 [(3, iA 0), (6, .ro .unk x0.length (cl_i64 x0)), (7, iA (lI x0)), (8, iA v8)]) (fun v8 => []) (fun k_ v8 => k_ ≤ n ∧ p_cmp_Or_api_Errno_L1 k_ x0 v8 = some r) (fun n v8 H => ?_) (k := n) 0 ⟨Nat.le_refl _, H⟩ (Norm_fd [3, 6, 7, 8] 0 (by kernel_rfl) rfl rfl trivial (by refine scL_fr ?_; exact ⟨trivial, (scl_cl_i64 _ _), trivial, trivial, trivial⟩))
  show AWP _ _ _ _ _ (fr 18 [(3, iA 0), (6, .ro .unk x0.length (cl_i64 x0)), (7, iA (lI x0)), (8, iA v8)]) []
  obtain ⟨hb_, H⟩ := H
  replace H : p_cmp_Or_api_Errno_L1 n x0 v8 = some r := H
  cases n with
  | zero => exact not_none (by simpa only [p_cmp_Or_api_Errno_L1] using H)
  | succ n =>
    unfold p_cmp_Or_api_Errno_L1 at H
    refine AWP_reg (Rh 1 18 [(3, iA 0), (6, .ro .unk x0.length (cl_i64 x0)), (7, iA (lI x0)), (8, iA v8), (9, bA (decide (v8 < (lI x0))))] (AOps_done (AWP_seq (CD H (fun hb9 H => ?_) (fun hb9 H => ?_)))))
    · refine AWP_skip ?_
      show AWP _ _ _ _ _ _ _
      refine AWP_seq (AWP_block ?_)
      refine AWP_reg ?_
      obtain ⟨v10, hv10, H⟩ := bind_some H
      refine AOps_index (d := (some 10)) (sz := 1) (c := cs_i64) (by kernel_rfl) rfl (eq_cl_i64 _) (fun _ => rfl) (by decide) hv10 (fun tl10 => ?_)
      refine Rh 2 18 [(3, iA 0), (5, iA v10), (6, .ro .unk x0.length (cl_i64 x0)), (7, iA (lI x0)), (8, iA v8)] (AOps_done (AWP_reg (Rh 3 18 [(3, iA 0), (5, iA v10), (6, .ro .unk x0.length (cl_i64 x0)), (7, iA (lI x0)), (8, iA v8), (14, bA (v10 != 0))] (AOps_done (CD H (fun hb11 H => ?_) (fun hb11 H => ?_))))))
      · refine AWP_reg (Rh 2 18 [(2, iA v10)] (AOps_done ?_))
        exact AWP_ret (FR H)
      · refine AWP_skip ?_
        show AWP _ _ _ _ _ _ _
        refine AWP_region ?_
        refine Rh 2 18 [(3, iA 0), (6, .ro .unk x0.length (cl_i64 x0)), (7, iA (lI x0)), (8, iA (w64 (v8 + 1)))] (AOps_done ?_)
        exact Exists.intro (w64 (v8 + 1)) (Exists.intro n ⟨by omega, ⟨by omega, H⟩, Norm_fd [3, 6, 7, 8] 0 (by kernel_rfl) rfl rfl trivial (by refine scL_fr ?_; exact ⟨trivial, (scl_cl_i64 _ _), trivial, trivial, trivial⟩)⟩)
    · refine AWP_exit ?_
      show AWP _ _ _ _ _ _ _
      refine AWP_reg (Rh 2 18 [(2, iA 0)] (AOps_done ?_))
      exact AWP_ret (FR H)
end Go.Proofs.YtjhbobacbaikoaaGreatDoor
/- A function of the program as a pure function, and that the program computes it. -/
namespace Go.Proofs.YtjhbobacbaikoaaGreatDoor
open Go
set_option linter.unusedVariables false
set_option linter.unusedSimpArgs false
set_option maxRecDepth 100000
def p_shape_first (n : Nat) (x0 : List Int) : Option Int :=
(p_cmp_Or_api_Errno n x0).bind fun v1 =>
 some (v1)
variable {E : Env}
theorem s_shape_first {n : Nat} {x0 : List Int} {r : Int} (H : p_shape_first n x0 = some r) :
    Sp Tryz.prog E 64 [.ro .unk x0.length (cl_i64 x0)] [] (isA (iA r) []) := by
  unfold p_shape_first at H
  refine Sp_fn Tryz.func64 rfl (fun hc hs => ?_)
  refine AWP_reg (Rh 1 5 [(0, .ro .unk x0.length (cl_i64 x0))] (AOps_done (AWP_reg (Rh 1 5 [(3, .ro .unk x0.length (cl_i64 x0))] ?_))))
  obtain ⟨v1, hv1, H⟩ := bind_some H
  refine AOps_callp (d := (some 4)) (al := [.ro .unk x0.length (cl_i64 x0)]) (r := iA v1) (by kernel_rfl) (s_cmp_Or_api_Errno hv1) ⟨(scl_cl_i64 _ _), trivial⟩ trivial ?_
  refine Rh 1 5 [(2, iA v1)] (AOps_done ?_)
  exact AWP_ret (FR H)
end Go.Proofs.YtjhbobacbaikoaaGreatDoor
/- A function of the program as a pure function, and that the program computes it. -/
namespace Go.Proofs.YtjhbobacbaikoaaGreatDoor
open Go
set_option linter.unusedVariables false
set_option linter.unusedSimpArgs false
set_option maxRecDepth 100000
def p_shape_when (n : Nat) (x0 : Bool) (x1 : Int) : Option Int :=
(bif x0 then
 some (x1)
 else
 some (0))
variable {E : Env}
theorem s_shape_when {n : Nat} {x0 : Bool} {x1 : Int} {r : Int} (H : p_shape_when n x0 x1 = some r) :
    Sp Tryz.prog E 56 [bA x0, iA x1] [] (isA (iA r) []) := by
  unfold p_shape_when at H
  refine Sp_fn Tryz.func56 rfl (fun hc hs => ?_)
  refine AWP_reg (Rh 1 7 [(0, bA x0), (1, iA x1)] (AOps_done (AWP_seq (AWP_reg (Rh 1 7 [(1, iA x1), (5, bA x0)] (AOps_done (CD H (fun hb1 H => ?_) (fun hb1 H => ?_))))))))
  · refine AWP_reg (Rh 2 7 [(4, iA x1)] (AOps_done ?_))
    exact AWP_ret (FR H)
  · refine AWP_skip ?_
    show AWP _ _ _ _ _ _ _
    refine AWP_reg (Rh 1 7 [(4, iA 0)] (AOps_done ?_))
    exact AWP_ret (FR H)
end Go.Proofs.YtjhbobacbaikoaaGreatDoor
/- The first error. -/
namespace Go.Proofs.YtjhbobacbaikoaaGreatDoor
open Go
set_option linter.unusedVariables false
set_option linter.unusedSimpArgs false
set_option maxRecDepth 100000
theorem when_eq (n : Nat) (b : Bool) (e : Int) : p_shape_when n b e = some (if b = true then e else 0) := by
  unfold p_shape_when
  cases b <;> rfl
/-- The first that is not 0. -/
def fst0 : List Int → Int
  | [] => 0
  | a :: l => if a = 0 then fst0 l else a
theorem first_al (l : List Int) (hl : l.length < 4294967281) : Al fun n => p_shape_first n l = some (fst0 l) := by
  have := loop1 (fun n i => p_cmp_Or_api_Errno_L1 n l i) l.length (fun i => fst0 (l.drop i)) (fun i hi => .of fun n => ?_) (.of fun n => ?_) 0 (by omega)
  · refine this.mono fun n h => ?_
    have h : p_cmp_Or_api_Errno_L1 n l 0 = some (fst0 (l.drop 0)) := h
    unfold p_shape_first p_cmp_Or_api_Errno
    rw [h]; rfl
  · have hd : decide ((i : Int) < lI l) = true := decide_eq_true (by unfold lI; omega)
    rw [p_cmp_Or_api_Errno_L1, hd, cond_true, rdO_nat hi, Option.bind_some, List.drop_eq_getElem_cons hi, w64_add (by omega)]
    by_cases h : l[i] = 0
    · right
      rw [h]
      exact ⟨rfl, by rw [fst0, if_pos rfl]⟩
    · left
      have : (l[i] != 0) = true := by rw [bne_iff_ne]; exact h
      rw [this, fst0, if_neg h]; rfl
  · have hd : decide (((l.length : Nat) : Int) < lI l) = false := decide_eq_false (by unfold lI; omega)
    rw [p_cmp_Or_api_Errno_L1, hd, List.drop_length]; rfl
end Go.Proofs.YtjhbobacbaikoaaGreatDoor
/- A function of the program as a pure function, and that the program computes it. -/
namespace Go.Proofs.YtjhbobacbaikoaaGreatDoor
open Go
set_option linter.unusedVariables false
set_option linter.unusedSimpArgs false
set_option maxRecDepth 100000
def p_unicode_utf8_word_string (n : Nat) (x0 : ByteArray) : Option Int :=
(rdS x0 0).bind fun v1 =>
(rdS x0 1).bind fun v2 =>
(rdS x0 2).bind fun v3 =>
(rdS x0 3).bind fun v4 =>
(rdS x0 4).bind fun v5 =>
(rdS x0 5).bind fun v6 =>
(rdS x0 6).bind fun v7 =>
(rdS x0 7).bind fun v8 =>
 some (orI .u64 (orI .u64 (orI .u64 (orI .u64 (orI .u64 (orI .u64 (orI .u64 (IntKind.u64.wrap v1) (shlI .u64 (IntKind.u64.wrap v2) 8)) (shlI .u64 (IntKind.u64.wrap v3) 16)) (shlI .u64 (IntKind.u64.wrap v4) 24)) (shlI .u64 (IntKind.u64.wrap v5) 32)) (shlI .u64 (IntKind.u64.wrap v6) 40)) (shlI .u64 (IntKind.u64.wrap v7) 48)) (shlI .u64 (IntKind.u64.wrap v8) 56))
variable {E : Env}
theorem s_unicode_utf8_word_string {n : Nat} {x0 : ByteArray} {r : Int} (H : p_unicode_utf8_word_string n x0 = some r) :
    Sp Tryz.prog E 131 [sA x0] [] (isA (iK .u64 r) []) := by
  unfold p_unicode_utf8_word_string at H
  refine Sp_fn Tryz.func131 rfl (fun hc hs => ?_)
  refine AWP_reg (Rh 1 59 [(0, sA x0)] (AOps_done (AWP_seq (AWP_cond (t := false) (by kernel_rfl) (fun hb => ?_) (fun hb => ?_)))))
  · cases hb
  · refine AWP_skip ?_
    show AWP _ _ _ _ _ _ _
    obtain ⟨v1, hv1, H⟩ := bind_some H
    obtain ⟨v2, hv2, H⟩ := bind_some H
    obtain ⟨v3, hv3, H⟩ := bind_some H
    obtain ⟨v4, hv4, H⟩ := bind_some H
    obtain ⟨v5, hv5, H⟩ := bind_some H
    obtain ⟨v6, hv6, H⟩ := bind_some H
    obtain ⟨v7, hv7, H⟩ := bind_some H
    obtain ⟨v8, hv8, H⟩ := bind_some H
    refine AWP_regD1 [0, 1, 2, 3, 4, 5, 6, 7, 8, 9, 10, 11, 12, 13, 14, 15, 16, 17, 18, 19, 20, 21, 22, 23, 24, 25, 26, 27, 28, 29, 30, 31, 32, 33, 34, 35, 36, 37, 38] (N := 59) (f := [(0, sA x0)]) (leL_of [0] (by kernel_rfl)) mixed (by kernel_rfl) (by kernel_rfl) (st' := fr 59 [(2, iK .u64 (orI .u64 (orI .u64 (orI .u64 (orI .u64 (orI .u64 (orI .u64 (orI .u64 (IntKind.u64.wrap v1) (shlI .u64 (IntKind.u64.wrap v2) 8)) (shlI .u64 (IntKind.u64.wrap v3) 16)) (shlI .u64 (IntKind.u64.wrap v4) 24)) (shlI .u64 (IntKind.u64.wrap v5) 32)) (shlI .u64 (IntKind.u64.wrap v6) 40)) (shlI .u64 (IntKind.u64.wrap v7) 48)) (shlI .u64 (IntKind.u64.wrap v8) 56)))]) (h' := []) ?_ ?_
    rotate_left
    · refine RD 1 59 [] [(0, sA x0), (21, sA x0)] (AD_sindex (d := (some 22)) (by kernel_rfl) hv1 ?_)
      refine RD 2 59 [] [(0, sA x0), (21, sA x0), (22, iK .u8 v1), (23, iK .u64 (IntKind.u64.wrap v1)), (24, sA x0)] (AD_sindex (d := (some 25)) (by kernel_rfl) hv2 ?_)
      refine RD 4 59 [] [(0, sA x0), (21, sA x0), (22, iK .u8 v1), (23, iK .u64 (IntKind.u64.wrap v1)), (24, sA x0), (25, iK .u8 v2), (26, iK .u64 (IntKind.u64.wrap v2)), (27, iK .u64 (shlI .u64 (IntKind.u64.wrap v2) 8)), (28, iK .u64 (orI .u64 (IntKind.u64.wrap v1) (shlI .u64 (IntKind.u64.wrap v2) 8))), (29, sA x0)] (AD_sindex (d := (some 30)) (by kernel_rfl) hv3 ?_)
      refine RD 4 59 [] [(0, sA x0), (21, sA x0), (22, iK .u8 v1), (23, iK .u64 (IntKind.u64.wrap v1)), (24, sA x0), (25, iK .u8 v2), (26, iK .u64 (IntKind.u64.wrap v2)), (27, iK .u64 (shlI .u64 (IntKind.u64.wrap v2) 8)), (28, iK .u64 (orI .u64 (IntKind.u64.wrap v1) (shlI .u64 (IntKind.u64.wrap v2) 8))), (29, sA x0), (30, iK .u8 v3), (31, iK .u64 (IntKind.u64.wrap v3)), (32, iK .u64 (shlI .u64 (IntKind.u64.wrap v3) 16)), (33, iK .u64 (orI .u64 (orI .u64 (IntKind.u64.wrap v1) (shlI .u64 (IntKind.u64.wrap v2) 8)) (shlI .u64 (IntKind.u64.wrap v3) 16))), (34, sA x0)] (AD_sindex (d := (some 35)) (by kernel_rfl) hv4 ?_)
      refine RD 4 59 [] [(0, sA x0), (21, sA x0), (22, iK .u8 v1), (23, iK .u64 (IntKind.u64.wrap v1)), (24, sA x0), (25, iK .u8 v2), (26, iK .u64 (IntKind.u64.wrap v2)), (27, iK .u64 (shlI .u64 (IntKind.u64.wrap v2) 8)), (28, iK .u64 (orI .u64 (IntKind.u64.wrap v1) (shlI .u64 (IntKind.u64.wrap v2) 8))), (29, sA x0), (30, iK .u8 v3), (31, iK .u64 (IntKind.u64.wrap v3)), (32, iK .u64 (shlI .u64 (IntKind.u64.wrap v3) 16)), (33, iK .u64 (orI .u64 (orI .u64 (IntKind.u64.wrap v1) (shlI .u64 (IntKind.u64.wrap v2) 8)) (shlI .u64 (IntKind.u64.wrap v3) 16))), (34, sA x0), (35, iK .u8 v4), (36, iK .u64 (IntKind.u64.wrap v4)), (37, iK .u64 (shlI .u64 (IntKind.u64.wrap v4) 24)), (38, iK .u64 (orI .u64 (orI .u64 (orI .u64 (IntKind.u64.wrap v1) (shlI .u64 (IntKind.u64.wrap v2) 8)) (shlI .u64 (IntKind.u64.wrap v3) 16)) (shlI .u64 (IntKind.u64.wrap v4) 24))), (39, sA x0)] (AD_sindex (d := (some 40)) (by kernel_rfl) hv5 ?_)
      refine RD 4 59 [] [(0, sA x0), (21, sA x0), (22, iK .u8 v1), (23, iK .u64 (IntKind.u64.wrap v1)), (24, sA x0), (25, iK .u8 v2), (26, iK .u64 (IntKind.u64.wrap v2)), (27, iK .u64 (shlI .u64 (IntKind.u64.wrap v2) 8)), (28, iK .u64 (orI .u64 (IntKind.u64.wrap v1) (shlI .u64 (IntKind.u64.wrap v2) 8))), (29, sA x0), (30, iK .u8 v3), (31, iK .u64 (IntKind.u64.wrap v3)), (32, iK .u64 (shlI .u64 (IntKind.u64.wrap v3) 16)), (33, iK .u64 (orI .u64 (orI .u64 (IntKind.u64.wrap v1) (shlI .u64 (IntKind.u64.wrap v2) 8)) (shlI .u64 (IntKind.u64.wrap v3) 16))), (34, sA x0), (35, iK .u8 v4), (36, iK .u64 (IntKind.u64.wrap v4)), (37, iK .u64 (shlI .u64 (IntKind.u64.wrap v4) 24)), (38, iK .u64 (orI .u64 (orI .u64 (orI .u64 (IntKind.u64.wrap v1) (shlI .u64 (IntKind.u64.wrap v2) 8)) (shlI .u64 (IntKind.u64.wrap v3) 16)) (shlI .u64 (IntKind.u64.wrap v4) 24))), (39, sA x0), (40, iK .u8 v5), (41, iK .u64 (IntKind.u64.wrap v5)), (42, iK .u64 (shlI .u64 (IntKind.u64.wrap v5) 32)), (43, iK .u64 (orI .u64 (orI .u64 (orI .u64 (orI .u64 (IntKind.u64.wrap v1) (shlI .u64 (IntKind.u64.wrap v2) 8)) (shlI .u64 (IntKind.u64.wrap v3) 16)) (shlI .u64 (IntKind.u64.wrap v4) 24)) (shlI .u64 (IntKind.u64.wrap v5) 32))), (44, sA x0)] (AD_sindex (d := (some 45)) (by kernel_rfl) hv6 ?_)
      refine RD 4 59 [] [(0, sA x0), (21, sA x0), (22, iK .u8 v1), (23, iK .u64 (IntKind.u64.wrap v1)), (24, sA x0), (25, iK .u8 v2), (26, iK .u64 (IntKind.u64.wrap v2)), (27, iK .u64 (shlI .u64 (IntKind.u64.wrap v2) 8)), (28, iK .u64 (orI .u64 (IntKind.u64.wrap v1) (shlI .u64 (IntKind.u64.wrap v2) 8))), (29, sA x0), (30, iK .u8 v3), (31, iK .u64 (IntKind.u64.wrap v3)), (32, iK .u64 (shlI .u64 (IntKind.u64.wrap v3) 16)), (33, iK .u64 (orI .u64 (orI .u64 (IntKind.u64.wrap v1) (shlI .u64 (IntKind.u64.wrap v2) 8)) (shlI .u64 (IntKind.u64.wrap v3) 16))), (34, sA x0), (35, iK .u8 v4), (36, iK .u64 (IntKind.u64.wrap v4)), (37, iK .u64 (shlI .u64 (IntKind.u64.wrap v4) 24)), (38, iK .u64 (orI .u64 (orI .u64 (orI .u64 (IntKind.u64.wrap v1) (shlI .u64 (IntKind.u64.wrap v2) 8)) (shlI .u64 (IntKind.u64.wrap v3) 16)) (shlI .u64 (IntKind.u64.wrap v4) 24))), (39, sA x0), (40, iK .u8 v5), (41, iK .u64 (IntKind.u64.wrap v5)), (42, iK .u64 (shlI .u64 (IntKind.u64.wrap v5) 32)), (43, iK .u64 (orI .u64 (orI .u64 (orI .u64 (orI .u64 (IntKind.u64.wrap v1) (shlI .u64 (IntKind.u64.wrap v2) 8)) (shlI .u64 (IntKind.u64.wrap v3) 16)) (shlI .u64 (IntKind.u64.wrap v4) 24)) (shlI .u64 (IntKind.u64.wrap v5) 32))), (44, sA x0), (45, iK .u8 v6), (46, iK .u64 (IntKind.u64.wrap v6)), (47, iK .u64 (shlI .u64 (IntKind.u64.wrap v6) 40)), (48, iK .u64 (orI .u64 (orI .u64 (orI .u64 (orI .u64 (orI .u64 (IntKind.u64.wrap v1) (shlI .u64 (IntKind.u64.wrap v2) 8)) (shlI .u64 (IntKind.u64.wrap v3) 16)) (shlI .u64 (IntKind.u64.wrap v4) 24)) (shlI .u64 (IntKind.u64.wrap v5) 32)) (shlI .u64 (IntKind.u64.wrap v6) 40))), (49, sA x0)] (AD_sindex (d := (some 50)) (by kernel_rfl) hv7 ?_)
      refine RD 4 59 [] [(0, sA x0), (21, sA x0), (22, iK .u8 v1), (23, iK .u64 (IntKind.u64.wrap v1)), (24, sA x0), (25, iK .u8 v2), (26, iK .u64 (IntKind.u64.wrap v2)), (27, iK .u64 (shlI .u64 (IntKind.u64.wrap v2) 8)), (28, iK .u64 (orI .u64 (IntKind.u64.wrap v1) (shlI .u64 (IntKind.u64.wrap v2) 8))), (29, sA x0), (30, iK .u8 v3), (31, iK .u64 (IntKind.u64.wrap v3)), (32, iK .u64 (shlI .u64 (IntKind.u64.wrap v3) 16)), (33, iK .u64 (orI .u64 (orI .u64 (IntKind.u64.wrap v1) (shlI .u64 (IntKind.u64.wrap v2) 8)) (shlI .u64 (IntKind.u64.wrap v3) 16))), (34, sA x0), (35, iK .u8 v4), (36, iK .u64 (IntKind.u64.wrap v4)), (37, iK .u64 (shlI .u64 (IntKind.u64.wrap v4) 24)), (38, iK .u64 (orI .u64 (orI .u64 (orI .u64 (IntKind.u64.wrap v1) (shlI .u64 (IntKind.u64.wrap v2) 8)) (shlI .u64 (IntKind.u64.wrap v3) 16)) (shlI .u64 (IntKind.u64.wrap v4) 24))), (39, sA x0), (40, iK .u8 v5), (41, iK .u64 (IntKind.u64.wrap v5)), (42, iK .u64 (shlI .u64 (IntKind.u64.wrap v5) 32)), (43, iK .u64 (orI .u64 (orI .u64 (orI .u64 (orI .u64 (IntKind.u64.wrap v1) (shlI .u64 (IntKind.u64.wrap v2) 8)) (shlI .u64 (IntKind.u64.wrap v3) 16)) (shlI .u64 (IntKind.u64.wrap v4) 24)) (shlI .u64 (IntKind.u64.wrap v5) 32))), (44, sA x0), (45, iK .u8 v6), (46, iK .u64 (IntKind.u64.wrap v6)), (47, iK .u64 (shlI .u64 (IntKind.u64.wrap v6) 40)), (48, iK .u64 (orI .u64 (orI .u64 (orI .u64 (orI .u64 (orI .u64 (IntKind.u64.wrap v1) (shlI .u64 (IntKind.u64.wrap v2) 8)) (shlI .u64 (IntKind.u64.wrap v3) 16)) (shlI .u64 (IntKind.u64.wrap v4) 24)) (shlI .u64 (IntKind.u64.wrap v5) 32)) (shlI .u64 (IntKind.u64.wrap v6) 40))), (49, sA x0), (50, iK .u8 v7), (51, iK .u64 (IntKind.u64.wrap v7)), (52, iK .u64 (shlI .u64 (IntKind.u64.wrap v7) 48)), (53, iK .u64 (orI .u64 (orI .u64 (orI .u64 (orI .u64 (orI .u64 (orI .u64 (IntKind.u64.wrap v1) (shlI .u64 (IntKind.u64.wrap v2) 8)) (shlI .u64 (IntKind.u64.wrap v3) 16)) (shlI .u64 (IntKind.u64.wrap v4) 24)) (shlI .u64 (IntKind.u64.wrap v5) 32)) (shlI .u64 (IntKind.u64.wrap v6) 40)) (shlI .u64 (IntKind.u64.wrap v7) 48))), (54, sA x0)] (AD_sindex (d := (some 55)) (by kernel_rfl) hv8 ?_)
      refine RD 4 59 [] [(0, sA x0), (2, iK .u64 (orI .u64 (orI .u64 (orI .u64 (orI .u64 (orI .u64 (orI .u64 (orI .u64 (IntKind.u64.wrap v1) (shlI .u64 (IntKind.u64.wrap v2) 8)) (shlI .u64 (IntKind.u64.wrap v3) 16)) (shlI .u64 (IntKind.u64.wrap v4) 24)) (shlI .u64 (IntKind.u64.wrap v5) 32)) (shlI .u64 (IntKind.u64.wrap v6) 40)) (shlI .u64 (IntKind.u64.wrap v7) 48)) (shlI .u64 (IntKind.u64.wrap v8) 56))), (21, sA x0), (22, iK .u8 v1), (23, iK .u64 (IntKind.u64.wrap v1)), (24, sA x0), (25, iK .u8 v2), (26, iK .u64 (IntKind.u64.wrap v2)), (27, iK .u64 (shlI .u64 (IntKind.u64.wrap v2) 8)), (28, iK .u64 (orI .u64 (IntKind.u64.wrap v1) (shlI .u64 (IntKind.u64.wrap v2) 8))), (29, sA x0), (30, iK .u8 v3), (31, iK .u64 (IntKind.u64.wrap v3)), (32, iK .u64 (shlI .u64 (IntKind.u64.wrap v3) 16)), (33, iK .u64 (orI .u64 (orI .u64 (IntKind.u64.wrap v1) (shlI .u64 (IntKind.u64.wrap v2) 8)) (shlI .u64 (IntKind.u64.wrap v3) 16))), (34, sA x0), (35, iK .u8 v4), (36, iK .u64 (IntKind.u64.wrap v4)), (37, iK .u64 (shlI .u64 (IntKind.u64.wrap v4) 24)), (38, iK .u64 (orI .u64 (orI .u64 (orI .u64 (IntKind.u64.wrap v1) (shlI .u64 (IntKind.u64.wrap v2) 8)) (shlI .u64 (IntKind.u64.wrap v3) 16)) (shlI .u64 (IntKind.u64.wrap v4) 24))), (39, sA x0), (40, iK .u8 v5), (41, iK .u64 (IntKind.u64.wrap v5)), (42, iK .u64 (shlI .u64 (IntKind.u64.wrap v5) 32)), (43, iK .u64 (orI .u64 (orI .u64 (orI .u64 (orI .u64 (IntKind.u64.wrap v1) (shlI .u64 (IntKind.u64.wrap v2) 8)) (shlI .u64 (IntKind.u64.wrap v3) 16)) (shlI .u64 (IntKind.u64.wrap v4) 24)) (shlI .u64 (IntKind.u64.wrap v5) 32))), (44, sA x0), (45, iK .u8 v6), (46, iK .u64 (IntKind.u64.wrap v6)), (47, iK .u64 (shlI .u64 (IntKind.u64.wrap v6) 40)), (48, iK .u64 (orI .u64 (orI .u64 (orI .u64 (orI .u64 (orI .u64 (IntKind.u64.wrap v1) (shlI .u64 (IntKind.u64.wrap v2) 8)) (shlI .u64 (IntKind.u64.wrap v3) 16)) (shlI .u64 (IntKind.u64.wrap v4) 24)) (shlI .u64 (IntKind.u64.wrap v5) 32)) (shlI .u64 (IntKind.u64.wrap v6) 40))), (49, sA x0), (50, iK .u8 v7), (51, iK .u64 (IntKind.u64.wrap v7)), (52, iK .u64 (shlI .u64 (IntKind.u64.wrap v7) 48)), (53, iK .u64 (orI .u64 (orI .u64 (orI .u64 (orI .u64 (orI .u64 (orI .u64 (IntKind.u64.wrap v1) (shlI .u64 (IntKind.u64.wrap v2) 8)) (shlI .u64 (IntKind.u64.wrap v3) 16)) (shlI .u64 (IntKind.u64.wrap v4) 24)) (shlI .u64 (IntKind.u64.wrap v5) 32)) (shlI .u64 (IntKind.u64.wrap v6) 40)) (shlI .u64 (IntKind.u64.wrap v7) 48))), (54, sA x0), (55, iK .u8 v8), (56, iK .u64 (IntKind.u64.wrap v8)), (57, iK .u64 (shlI .u64 (IntKind.u64.wrap v8) 56)), (58, iK .u64 (orI .u64 (orI .u64 (orI .u64 (orI .u64 (orI .u64 (orI .u64 (orI .u64 (IntKind.u64.wrap v1) (shlI .u64 (IntKind.u64.wrap v2) 8)) (shlI .u64 (IntKind.u64.wrap v3) 16)) (shlI .u64 (IntKind.u64.wrap v4) 24)) (shlI .u64 (IntKind.u64.wrap v5) 32)) (shlI .u64 (IntKind.u64.wrap v6) 40)) (shlI .u64 (IntKind.u64.wrap v7) 48)) (shlI .u64 (IntKind.u64.wrap v8) 56)))] ?_
      exact AD_here [2] (by kernel_rfl) rfl
    exact AWP_ret (FR H)
end Go.Proofs.YtjhbobacbaikoaaGreatDoor
/- A function of the program as a pure function, and that the program computes it. -/
namespace Go.Proofs.YtjhbobacbaikoaaGreatDoor
open Go
set_option linter.unusedVariables false
set_option linter.unusedSimpArgs false
set_option maxRecDepth 100000
mutual
def p_unicode_utf8_ValidString_K1 (n : Nat) (v248 : ByteArray) : Option Bool := match n with
| 0 => none
| n + 1 =>
 p_unicode_utf8_ValidString_L1 n  v248
def p_unicode_utf8_ValidString_L2 (n : Nat) (v276 : ByteArray) : Option Bool := match n with
| 0 => none
| n + 1 =>
(bif decide ((szI v276) > 32) then cutS v276 8 (szI v276) else some ByteArray.empty).bind fun v277 =>
(bif decide ((szI v276) > 32) then cutS v276 16 (szI v276) else some ByteArray.empty).bind fun v278 =>
(bif decide ((szI v276) > 32) then cutS v276 24 (szI v276) else some ByteArray.empty).bind fun v279 =>
(bif decide ((szI v276) > 32) then p_unicode_utf8_word_string n v276 else some (0)).bind fun v280 =>
(bif decide ((szI v276) > 32) then p_unicode_utf8_word_string n v277 else some (0)).bind fun v281 =>
(bif decide ((szI v276) > 32) then p_unicode_utf8_word_string n v278 else some (0)).bind fun v282 =>
(bif decide ((szI v276) > 32) then p_unicode_utf8_word_string n v279 else some (0)).bind fun v283 =>
(bif (decide ((szI v276) > 32)) && ((andI .u64 (orI .u64 (orI .u64 v280 v281) (orI .u64 v282 v283)) 9259542123273814144) == 0) then
(cutS v276 32 (szI v276)).bind fun v285 =>
 p_unicode_utf8_ValidString_L2 n  v285
 else
 p_unicode_utf8_ValidString_K1 n  v276)
def p_unicode_utf8_ValidString_L1 (n : Nat) (v206 : ByteArray) : Option Bool := match n with
| 0 => none
| n + 1 =>
(bif decide ((szI v206) > 0) then
(rdS v206 0).bind fun v208 =>
(bif decide (v208 < 128) then
(cutS v206 1 (szI v206)).bind fun v210 =>
(bif decide ((szI v210) > 8) then p_unicode_utf8_word_string n v210 else some (0)).bind fun v249 =>
(bif (decide ((szI v210) > 8)) && ((andI .u64 v249 9259542123273814144) == 0) then
(cutS v210 8 (szI v210)).bind fun v251 =>
(bif decide ((szI v251) > 16) then cutS v251 8 (szI v251) else some ByteArray.empty).bind fun v252 =>
(bif decide ((szI v251) > 16) then p_unicode_utf8_word_string n v251 else some (0)).bind fun v253 =>
(bif decide ((szI v251) > 16) then p_unicode_utf8_word_string n v252 else some (0)).bind fun v254 =>
(bif (decide ((szI v251) > 16)) && ((andI .u64 (orI .u64 v253 v254) 9259542123273814144) == 0) then
(cutS v251 16 (szI v251)).bind fun v256 =>
 p_unicode_utf8_ValidString_L2 n  v256
 else
 p_unicode_utf8_ValidString_K1 n  v251)
 else
 p_unicode_utf8_ValidString_K1 n  v210)
 else
(rdO gl_first v208).bind fun v286 =>
(rdO gl_acceptRanges (shrI .u8 v286 4)).bind fun v287 =>
(bif (w64 (andI .u8 v286 7)) == 2 then
(bif !(decide ((szI v206) < 2)) then rdS v206 1 else some 0).bind fun v289 =>
(bif !((decide ((szI v206) < 2)) || (decide (v289 < v287.glo))) then rdS v206 1 else some 0).bind fun v290 =>
(bif ((decide ((szI v206) < 2)) || (decide (v289 < v287.glo))) || (decide (v287.ghi < v290)) then
 some (false)
 else
(cutS v206 2 (szI v206)).bind fun v292 =>
 p_unicode_utf8_ValidString_L1 n  v292)
 else
(bif (w64 (andI .u8 v286 7)) == 3 then
(bif !(decide ((szI v206) < 3)) then rdS v206 1 else some 0).bind fun v294 =>
(bif !((decide ((szI v206) < 3)) || (decide (v294 < v287.glo))) then rdS v206 1 else some 0).bind fun v295 =>
(bif !(((decide ((szI v206) < 3)) || (decide (v294 < v287.glo))) || (decide (v287.ghi < v295))) then rdS v206 2 else some 0).bind fun v296 =>
(bif !((((decide ((szI v206) < 3)) || (decide (v294 < v287.glo))) || (decide (v287.ghi < v295))) || (decide (v296 < 128))) then rdS v206 2 else some 0).bind fun v297 =>
(bif ((((decide ((szI v206) < 3)) || (decide (v294 < v287.glo))) || (decide (v287.ghi < v295))) || (decide (v296 < 128))) || (decide (191 < v297)) then
 some (false)
 else
(cutS v206 3 (szI v206)).bind fun v299 =>
 p_unicode_utf8_ValidString_L1 n  v299)
 else
(bif (w64 (andI .u8 v286 7)) == 4 then
(bif !(decide ((szI v206) < 4)) then rdS v206 1 else some 0).bind fun v301 =>
(bif !((decide ((szI v206) < 4)) || (decide (v301 < v287.glo))) then rdS v206 1 else some 0).bind fun v302 =>
(bif !(((decide ((szI v206) < 4)) || (decide (v301 < v287.glo))) || (decide (v287.ghi < v302))) then rdS v206 2 else some 0).bind fun v303 =>
(bif !((((decide ((szI v206) < 4)) || (decide (v301 < v287.glo))) || (decide (v287.ghi < v302))) || (decide (v303 < 128))) then rdS v206 2 else some 0).bind fun v304 =>
(bif !(((((decide ((szI v206) < 4)) || (decide (v301 < v287.glo))) || (decide (v287.ghi < v302))) || (decide (v303 < 128))) || (decide (191 < v304))) then rdS v206 3 else some 0).bind fun v305 =>
(bif !((((((decide ((szI v206) < 4)) || (decide (v301 < v287.glo))) || (decide (v287.ghi < v302))) || (decide (v303 < 128))) || (decide (191 < v304))) || (decide (v305 < 128))) then rdS v206 3 else some 0).bind fun v306 =>
(bif ((((((decide ((szI v206) < 4)) || (decide (v301 < v287.glo))) || (decide (v287.ghi < v302))) || (decide (v303 < 128))) || (decide (191 < v304))) || (decide (v305 < 128))) || (decide (191 < v306)) then
 some (false)
 else
(cutS v206 4 (szI v206)).bind fun v308 =>
 p_unicode_utf8_ValidString_L1 n  v308)
 else
 some (false)))))
 else
 some (true))
end
def p_unicode_utf8_ValidString (n : Nat) (x0 : ByteArray) : Option Bool :=
 p_unicode_utf8_ValidString_L1 n  x0
variable {E : Env}
theorem s_unicode_utf8_ValidString {n : Nat} (hG : GlobT E) {x0 : ByteArray} {r : Bool} (H : p_unicode_utf8_ValidString n x0 = some r) :
    Sp Tryz.prog E 110 [sA x0] [] (isA (bA r) []) := by
  unfold p_unicode_utf8_ValidString at H
  refine Sp_fn Tryz.func110 rfl (fun hc hs => ?_)
  refine AWP_reg (Rh 1 169 [(0, sA x0)] (AOps_done (AWP_seq (AWP_block ?_))))
  refine AWP_loopN (α := ByteArray) (fun v206 => fr 169 [(0, sA v206)]) (fun v206 => []) (fun k_ v206 => k_ ≤ n ∧ p_unicode_utf8_ValidString_L1 k_  v206 = some r) (fun n v206 H => ?_) (k := n) x0 ⟨Nat.le_refl _, H⟩ (Norm_fd [0] 0 (by kernel_rfl) rfl rfl trivial (by refine scL_fr ?_; exact ⟨trivial, trivial⟩))
  show AWP _ _ _ _ _ (fr 169 [(0, sA v206)]) []
  obtain ⟨hb_, H⟩ := H
  replace H : p_unicode_utf8_ValidString_L1 n  v206 = some r := H
  cases n with
  | zero => exact not_none (by simpa only [p_unicode_utf8_ValidString_L1] using H)
  | succ n =>
    unfold p_unicode_utf8_ValidString_L1 at H
    refine AWP_seq (AWP_reg (Rh 3 169 [(0, sA v206), (9, bA (decide ((szI v206) > 0)))] (AOps_done (CD H (fun hb207 H => ?_) (fun hb207 H => ?_)))))
    · refine AWP_skip ?_
      show AWP _ _ _ _ _ _ _
      refine AWP_block ?_
      refine AWP_reg (Rh 1 169 [(0, sA v206), (10, sA v206)] ?_)
      obtain ⟨v208, hv208, H⟩ := bind_some H
      refine AOps_sindex (d := (some 11)) (by kernel_rfl) hv208 ?_
      refine Rh 1 169 [(0, sA v206), (3, iK .u8 v208)] (AOps_done (AWP_seq (AWP_reg (Rh 2 169 [(0, sA v206), (3, iK .u8 v208), (13, bA (decide (v208 < 128)))] (AOps_done (CD H (fun hb209 H => ?_) (fun hb209 H => ?_)))))))
      · refine AWP_reg (Rh 1 169 [(14, sA v206)] ?_)
        obtain ⟨v210, hv210, H⟩ := bind_some H
        refine AOps_scut (d := (some 15)) (by kernel_rfl) hv210 ?_
        refine Rh 1 169 [(0, sA v210)] (AOps_done (AWP_joinN (α := ByteArray) (fun v248 => fr 169 [(0, sA v248)]) (fun v248 => []) (fun v248 => ∃ q, q ≤ n ∧ p_unicode_utf8_ValidString_K1 q  v248 = some r) (fun v248 hC => ?_) ?_))
        · show AWP _ _ _ _ _ (fr 169 [(0, sA v248)]) []
          obtain ⟨n, hn_, hC⟩ := hC
          replace H : p_unicode_utf8_ValidString_K1 n  v248 = some r := hC
          cases n with
          | zero => exact not_none (by simpa only [p_unicode_utf8_ValidString_K1] using H)
          | succ n =>
            unfold p_unicode_utf8_ValidString_K1 at H
            refine AWP_exit ?_
            exact Exists.intro v248 (Exists.intro n ⟨by omega, ⟨by omega, H⟩, Norm_fd [0] 0 (by kernel_rfl) rfl rfl trivial (by refine scL_fr ?_; exact ⟨trivial, trivial⟩)⟩)
        · refine AWP_reg (Rh 4 169 [(0, sA v210), (19, bA (decide ((szI v210) > 8)))] ?_)
          obtain ⟨v249, hv249, H⟩ := bind_some H
          refine AOps_cut 5 (st' := fr 169 [(0, sA v210), (24, bA ((decide ((szI v210) > 8)) && ((andI .u64 v249 9259542123273814144) == 0)))]) (h' := []) ?_ ?_
          rotate_left
          · cases c1 : (decide ((szI v210) > 8) : Bool) with
            | true =>
              refine R 1 169 [(0, sA v210), (19, bA true), (20, sA v210)] [] ?_
              have hv249_ := cond_t hv249 (by simp only [c1] <;> rfl)
              refine AOps_callp (d := (some 21)) (al := [sA v210]) (r := iK .u64 v249) (by kernel_rfl) (s_unicode_utf8_word_string hv249_) ⟨trivial, trivial⟩ trivial ?_
              refine R 3 169 [(0, sA v210), (24, bA (true && ((andI .u64 v249 9259542123273814144) == 0)))] [] ?_
              exact AOps_here [0, 24] (by kernel_rfl) rfl
            | false =>
              refine R 5 169 [(0, sA v210), (24, bA (false && ((andI .u64 v249 9259542123273814144) == 0)))] [] ?_
              exact AOps_here [0, 24] (by kernel_rfl) rfl
          refine AOps_done (CD H (fun hb250 H => ?_) (fun hb250 H => ?_))
          · refine AWP_reg (Rh 1 169 [(25, sA v210)] ?_)
            obtain ⟨v251, hv251, H⟩ := bind_some H
            refine AOps_scut (d := (some 26)) (by kernel_rfl) hv251 ?_
            refine Rh 1 169 [(0, sA v251)] (AOps_done ?_)
            obtain ⟨v252, hv252, H⟩ := bind_some H
            obtain ⟨v253, hv253, H⟩ := bind_some H
            obtain ⟨v254, hv254, H⟩ := bind_some H
            refine AWP_regD1 [0, 1, 2, 3, 4, 6, 7, 5, 8, 9, 10, 11, 12] (N := 169) (f := [(0, sA v251)]) (leL_of [0] (by kernel_rfl)) mixed (by kernel_rfl) (by kernel_rfl) (st' := fr 169 [(0, sA v251), (39, bA ((decide ((szI v251) > 16)) && ((andI .u64 (orI .u64 v253 v254) 9259542123273814144) == 0)))]) (h' := []) ?_ ?_
            rotate_left
            · refine RD 4 169 [] [(0, sA v251), (27, sA v251), (28, iA (szI v251)), (29, bA (decide ((szI v251) > 16))), (30, bA (decide ((szI v251) > 16)))] ?_
              cases c1 : (decide ((szI v251) > 16) : Bool) with
              | true =>
                refine RD 2 169 [] [(0, sA v251), (27, sA v251), (28, iA (szI v251)), (29, bA true), (30, bA true), (31, sA v251), (33, sA v251)] ?_
                have hv252_ := cond_t hv252 (by simp only [c1] <;> rfl)
                refine AD_scut (d := (some 34)) (by kernel_rfl) hv252_ ?_
                have hv253_ := cond_t hv253 (by simp only [c1] <;> rfl)
                refine AD_callp (d := (some 32)) (al := [sA v251]) (r := iK .u64 v253) (by kernel_rfl) (s_unicode_utf8_word_string hv253_) ⟨trivial, trivial⟩ trivial ?_
                have hv254_ := cond_t hv254 (by simp only [c1] <;> rfl)
                refine AD_callp (d := (some 35)) (al := [sA v252]) (r := iK .u64 v254) (by kernel_rfl) (s_unicode_utf8_word_string hv254_) ⟨trivial, trivial⟩ trivial ?_
                refine RD 4 169 [] [(0, sA v251), (27, sA v251), (28, iA (szI v251)), (29, bA true), (30, bA true), (31, sA v251), (32, iK .u64 v253), (33, sA v251), (34, sA v252), (35, iK .u64 v254), (36, iK .u64 (orI .u64 v253 v254)), (37, iK .u64 (andI .u64 (orI .u64 v253 v254) 9259542123273814144)), (38, bA ((andI .u64 (orI .u64 v253 v254) 9259542123273814144) == 0)), (39, bA (true && ((andI .u64 (orI .u64 v253 v254) 9259542123273814144) == 0)))] ?_
                exact AD_here [0, 39] (by kernel_rfl) rfl
              | false =>
                refine RD 3 169 [] [(0, sA v251), (27, sA v251), (28, iA (szI v251)), (29, bA false), (30, bA false), (31, undefA), (33, undefA), (34, undefA)] (AD_offB (d := some 32) (by kernel_rfl) ?_)
                refine AD_offB (d := some 35) (by kernel_rfl) ?_
                refine RD 4 169 [] [(0, sA v251), (27, sA v251), (28, iA (szI v251)), (29, bA false), (30, bA false), (31, undefA), (32, undefA), (33, undefA), (34, undefA), (35, undefA), (36, undefA), (37, undefA), (38, undefA), (39, bA (false && ((andI .u64 (orI .u64 v253 v254) 9259542123273814144) == 0)))] ?_
                exact AD_here [0, 39] (by kernel_rfl) rfl
            refine CD H (fun hb255 H => ?_) (fun hb255 H => ?_)
            · refine AWP_reg (Rh 1 169 [(40, sA v251)] ?_)
              obtain ⟨v256, hv256, H⟩ := bind_some H
              refine AOps_scut (d := (some 41)) (by kernel_rfl) hv256 ?_
              refine Rh 1 169 [(0, sA v256)] (AOps_done (AWP_block ?_))
              refine AWP_loopN (α := ByteArray) (fun v276 => fr 169 [(0, sA v276)]) (fun v276 => []) (fun k_ v276 => k_ ≤ n ∧ p_unicode_utf8_ValidString_L2 k_  v276 = some r) (fun n v276 H => ?_) (k := n) v256 ⟨Nat.le_refl _, H⟩ (Norm_fd [0] 0 (by kernel_rfl) rfl rfl trivial (by refine scL_fr ?_; exact ⟨trivial, trivial⟩))
              show AWP _ _ _ _ _ (fr 169 [(0, sA v276)]) []
              obtain ⟨hb_, H⟩ := H
              replace H : p_unicode_utf8_ValidString_L2 n  v276 = some r := H
              cases n with
              | zero => exact not_none (by simpa only [p_unicode_utf8_ValidString_L2] using H)
              | succ n =>
                unfold p_unicode_utf8_ValidString_L2 at H
                refine AWP_seq ?_
                obtain ⟨v277, hv277, H⟩ := bind_some H
                obtain ⟨v278, hv278, H⟩ := bind_some H
                obtain ⟨v279, hv279, H⟩ := bind_some H
                obtain ⟨v280, hv280, H⟩ := bind_some H
                obtain ⟨v281, hv281, H⟩ := bind_some H
                obtain ⟨v282, hv282, H⟩ := bind_some H
                obtain ⟨v283, hv283, H⟩ := bind_some H
                refine AWP_regD1 [0, 1, 2, 3, 4, 6, 7, 10, 11, 13, 14, 5, 8, 9, 12, 15, 16, 17, 18, 19, 20] (N := 169) (f := [(0, sA v276)]) (leL_of [0] (by kernel_rfl)) mixed (by kernel_rfl) (by kernel_rfl) (st' := fr 169 [(0, sA v276), (62, bA ((decide ((szI v276) > 32)) && ((andI .u64 (orI .u64 (orI .u64 v280 v281) (orI .u64 v282 v283)) 9259542123273814144) == 0)))]) (h' := []) ?_ ?_
                rotate_left
                · refine RD 4 169 [] [(0, sA v276), (42, sA v276), (43, iA (szI v276)), (44, bA (decide ((szI v276) > 32))), (45, bA (decide ((szI v276) > 32)))] ?_
                  cases c1 : (decide ((szI v276) > 32) : Bool) with
                  | true =>
                    refine RD 2 169 [] [(0, sA v276), (42, sA v276), (43, iA (szI v276)), (44, bA true), (45, bA true), (46, sA v276), (48, sA v276)] ?_
                    have hv277_ := cond_t hv277 (by simp only [c1] <;> rfl)
                    refine AD_scut (d := (some 49)) (by kernel_rfl) hv277_ ?_
                    refine RD 1 169 [] [(0, sA v276), (42, sA v276), (43, iA (szI v276)), (44, bA true), (45, bA true), (46, sA v276), (48, sA v276), (49, sA v277), (52, sA v276)] ?_
                    have hv278_ := cond_t hv278 (by simp only [c1] <;> rfl)
                    refine AD_scut (d := (some 53)) (by kernel_rfl) hv278_ ?_
                    refine RD 1 169 [] [(0, sA v276), (42, sA v276), (43, iA (szI v276)), (44, bA true), (45, bA true), (46, sA v276), (48, sA v276), (49, sA v277), (52, sA v276), (53, sA v278), (55, sA v276)] ?_
                    have hv279_ := cond_t hv279 (by simp only [c1] <;> rfl)
                    refine AD_scut (d := (some 56)) (by kernel_rfl) hv279_ ?_
                    have hv280_ := cond_t hv280 (by simp only [c1] <;> rfl)
                    refine AD_callp (d := (some 47)) (al := [sA v276]) (r := iK .u64 v280) (by kernel_rfl) (s_unicode_utf8_word_string hv280_) ⟨trivial, trivial⟩ trivial ?_
                    have hv281_ := cond_t hv281 (by simp only [c1] <;> rfl)
                    refine AD_callp (d := (some 50)) (al := [sA v277]) (r := iK .u64 v281) (by kernel_rfl) (s_unicode_utf8_word_string hv281_) ⟨trivial, trivial⟩ trivial ?_
                    refine RD 1 169 [] [(0, sA v276), (42, sA v276), (43, iA (szI v276)), (44, bA true), (45, bA true), (46, sA v276), (47, iK .u64 v280), (48, sA v276), (49, sA v277), (50, iK .u64 v281), (51, iK .u64 (orI .u64 v280 v281)), (52, sA v276), (53, sA v278), (55, sA v276), (56, sA v279)] ?_
                    have hv282_ := cond_t hv282 (by simp only [c1] <;> rfl)
                    refine AD_callp (d := (some 54)) (al := [sA v278]) (r := iK .u64 v282) (by kernel_rfl) (s_unicode_utf8_word_string hv282_) ⟨trivial, trivial⟩ trivial ?_
                    have hv283_ := cond_t hv283 (by simp only [c1] <;> rfl)
                    refine AD_callp (d := (some 57)) (al := [sA v279]) (r := iK .u64 v283) (by kernel_rfl) (s_unicode_utf8_word_string hv283_) ⟨trivial, trivial⟩ trivial ?_
                    refine RD 5 169 [] [(0, sA v276), (42, sA v276), (43, iA (szI v276)), (44, bA true), (45, bA true), (46, sA v276), (47, iK .u64 v280), (48, sA v276), (49, sA v277), (50, iK .u64 v281), (51, iK .u64 (orI .u64 v280 v281)), (52, sA v276), (53, sA v278), (54, iK .u64 v282), (55, sA v276), (56, sA v279), (57, iK .u64 v283), (58, iK .u64 (orI .u64 v282 v283)), (59, iK .u64 (orI .u64 (orI .u64 v280 v281) (orI .u64 v282 v283))), (60, iK .u64 (andI .u64 (orI .u64 (orI .u64 v280 v281) (orI .u64 v282 v283)) 9259542123273814144)), (61, bA ((andI .u64 (orI .u64 (orI .u64 v280 v281) (orI .u64 v282 v283)) 9259542123273814144) == 0)), (62, bA (true && ((andI .u64 (orI .u64 (orI .u64 v280 v281) (orI .u64 v282 v283)) 9259542123273814144) == 0)))] ?_
                    exact AD_here [0, 62] (by kernel_rfl) rfl
                  | false =>
                    refine RD 7 169 [] [(0, sA v276), (42, sA v276), (43, iA (szI v276)), (44, bA false), (45, bA false), (46, undefA), (48, undefA), (49, undefA), (52, undefA), (53, undefA), (55, undefA), (56, undefA)] (AD_offB (d := some 47) (by kernel_rfl) ?_)
                    refine AD_offB (d := some 50) (by kernel_rfl) ?_
                    refine RD 1 169 [] [(0, sA v276), (42, sA v276), (43, iA (szI v276)), (44, bA false), (45, bA false), (46, undefA), (47, undefA), (48, undefA), (49, undefA), (50, undefA), (51, undefA), (52, undefA), (53, undefA), (55, undefA), (56, undefA)] (AD_offB (d := some 54) (by kernel_rfl) ?_)
                    refine AD_offB (d := some 57) (by kernel_rfl) ?_
                    refine RD 5 169 [] [(0, sA v276), (42, sA v276), (43, iA (szI v276)), (44, bA false), (45, bA false), (46, undefA), (47, undefA), (48, undefA), (49, undefA), (50, undefA), (51, undefA), (52, undefA), (53, undefA), (54, undefA), (55, undefA), (56, undefA), (57, undefA), (58, undefA), (59, undefA), (60, undefA), (61, undefA), (62, bA (false && ((andI .u64 (orI .u64 (orI .u64 v280 v281) (orI .u64 v282 v283)) 9259542123273814144) == 0)))] ?_
                    exact AD_here [0, 62] (by kernel_rfl) rfl
                refine CD H (fun hb284 H => ?_) (fun hb284 H => ?_)
                · refine AWP_skip ?_
                  show AWP _ _ _ _ _ _ _
                  refine AWP_block ?_
                  refine AWP_region ?_
                  refine Rh 1 169 [(63, sA v276)] ?_
                  obtain ⟨v285, hv285, H⟩ := bind_some H
                  refine AOps_scut (d := (some 64)) (by kernel_rfl) hv285 ?_
                  refine Rh 1 169 [(0, sA v285)] (AOps_done ?_)
                  exact Exists.intro v285 (Exists.intro n ⟨by omega, ⟨by omega, H⟩, Norm_fd [0] 0 (by kernel_rfl) rfl rfl trivial (by refine scL_fr ?_; exact ⟨trivial, trivial⟩)⟩)
                · refine AWP_exit ?_
                  exact Exists.intro v276 ⟨⟨n, by omega, H⟩, Norm_fd [0] 0 (by kernel_rfl) rfl rfl trivial (by refine scL_fr ?_; exact ⟨trivial, trivial⟩)⟩
            · refine AWP_skip ?_
              exact Exists.intro v251 ⟨⟨n, by omega, H⟩, Norm_fd [0] 0 (by kernel_rfl) rfl rfl trivial (by refine scL_fr ?_; exact ⟨trivial, trivial⟩)⟩
          · refine AWP_skip ?_
            exact Exists.intro v210 ⟨⟨n, by omega, H⟩, Norm_fd [0] 0 (by kernel_rfl) rfl rfl trivial (by refine scL_fr ?_; exact ⟨trivial, trivial⟩)⟩
      · refine AWP_skip ?_
        show AWP _ _ _ _ _ _ _
        refine AWP_reg (Rh 1 169 [(0, sA v206), (65, iK .u8 v208)] ?_)
        obtain ⟨v286, hv286, H⟩ := bind_some H
        refine AOps_gindex (d := (some 66)) (g := 4) (c := cs_u8) (sz := 1) (xs := gl_first) (by kernel_rfl) hG.g4 (eq_cl_u8 _) rfl (fun _ => rfl) hv286 (fun tl286 => ?_)
        refine Rh 2 169 [(0, sA v206), (4, iK .u8 v286)] (AOps_done (AWP_reg (Rh 4 169 [(0, sA v206), (4, iK .u8 v286), (5, iA (w64 (andI .u8 v286 7)))] (AOps_done (AWP_reg (Rh 2 169 [(0, sA v206), (5, iA (w64 (andI .u8 v286 7))), (72, iK .u8 (shrI .u8 v286 4))] ?_))))))
        obtain ⟨v287, hv287, H⟩ := bind_some H
        refine AOps_gindex (d := (some 73)) (g := 5) (c := TacceptRange.cs) (sz := 2) (xs := gl_acceptRanges) (by kernel_rfl) hG.g5 (eq_TacceptRange_cl _) rfl (fun _ => rfl) hv287 (fun tl287 => ?_)
        refine R 3 169 [(0, sA v206), (5, iA (w64 (andI .u8 v286 7))), (6, .ptr 0 0)] [.cells 184 (TacceptRange.cs v287)] (AOps_done (AWP_reg (Rh 1 169 [(0, sA v206), (6, .ptr 0 0), (75, iA (w64 (andI .u8 v286 7)))] (AOps_done (AWP_block ?_)))))
        refine AWP_reg (Rh 2 169 [(0, sA v206), (6, .ptr 0 0), (75, iA (w64 (andI .u8 v286 7))), (76, bA ((w64 (andI .u8 v286 7)) == 2))] (AOps_done (CD H (fun hb288 H => ?_) (fun hb288 H => ?_))))
        · refine AWP_seq ?_
          obtain ⟨v289, hv289, H⟩ := bind_some H
          obtain ⟨v290, hv290, H⟩ := bind_some H
          refine AWP_regD1 [0, 1, 2, 3, 4, 5, 6, 7, 8, 9, 10, 11, 12, 13, 14, 15, 16] (N := 169) (f := [(0, sA v206), (6, .ptr 0 0)]) (leL_of [0, 6] (by kernel_rfl)) mixed (by kernel_rfl) (by kernel_rfl) (st' := fr 169 [(0, sA v206), (94, bA (((decide ((szI v206) < 2)) || (decide (v289 < v287.glo))) || (decide (v287.ghi < v290))))]) (h' := [.cells 184 (TacceptRange.cs v287)]) ?_ ?_
          rotate_left
          · refine RD 4 169 [] [(0, sA v206), (6, .ptr 0 0), (78, sA v206), (79, iA (szI v206)), (80, bA (decide ((szI v206) < 2))), (81, bA (decide ((szI v206) < 2)))] ?_
            cases c1 : (decide ((szI v206) < 2) : Bool) with
            | true =>
              refine RD 13 169 [] [(0, sA v206), (6, .ptr 0 0), (78, sA v206), (79, iA (szI v206)), (80, bA true), (81, bA true), (82, undefA), (83, undefA), (84, undefA), (85, undefA), (86, undefA), (87, bA (true || (decide (v289 < v287.glo)))), (88, bA (true || (decide (v289 < v287.glo)))), (89, undefA), (90, undefA), (91, undefA), (92, undefA), (93, undefA), (94, bA ((true || (decide (v289 < v287.glo))) || (decide (v287.ghi < v290))))] ?_
              exact AD_here [0, 94] (by kernel_rfl) rfl
            | false =>
              refine RD 1 169 [] [(0, sA v206), (6, .ptr 0 0), (78, sA v206), (79, iA (szI v206)), (80, bA false), (81, bA false), (82, sA v206)] ?_
              have hv289_ := cond_t hv289 (by simp only [c1] <;> rfl)
              refine AD_sindex (d := (some 83)) (by kernel_rfl) hv289_ ?_
              refine RD 5 169 [(7, 0), (6, 0)] [(0, sA v206), (6, .ptr 0 0), (78, sA v206), (79, iA (szI v206)), (80, bA false), (81, bA false), (82, sA v206), (83, iK .u8 v289), (84, .ptr 0 0), (85, iK .u8 v287.glo), (86, bA (decide (v289 < v287.glo))), (87, bA (false || (decide (v289 < v287.glo)))), (88, bA (false || (decide (v289 < v287.glo))))] ?_
              cases c2 : (decide (v289 < v287.glo) : Bool) with
              | true =>
                refine RD 6 169 [(7, 0), (6, 0)] [(0, sA v206), (6, .ptr 0 0), (78, sA v206), (79, iA (szI v206)), (80, bA false), (81, bA false), (82, sA v206), (83, iK .u8 v289), (84, .ptr 0 0), (85, iK .u8 v287.glo), (86, bA true), (87, bA (false || true)), (88, bA (false || true)), (89, undefA), (90, undefA), (91, undefA), (92, undefA), (93, undefA), (94, bA ((false || true) || (decide (v287.ghi < v290))))] ?_
                exact AD_here [0, 94] (by kernel_rfl) rfl
              | false =>
                refine RD 3 169 [(12, 0), (11, 0), (7, 0), (6, 0)] [(0, sA v206), (6, .ptr 0 0), (78, sA v206), (79, iA (szI v206)), (80, bA false), (81, bA false), (82, sA v206), (83, iK .u8 v289), (84, .ptr 0 0), (85, iK .u8 v287.glo), (86, bA false), (87, bA (false || false)), (88, bA (false || false)), (89, .ptr 0 1), (90, iK .u8 v287.ghi), (91, sA v206)] ?_
                have hv290_ := cond_t hv290 (by simp only [c1, c2] <;> rfl)
                refine AD_sindex (d := (some 92)) (by kernel_rfl) hv290_ ?_
                refine RD 2 169 [(12, 0), (11, 0), (7, 0), (6, 0)] [(0, sA v206), (6, .ptr 0 0), (78, sA v206), (79, iA (szI v206)), (80, bA false), (81, bA false), (82, sA v206), (83, iK .u8 v289), (84, .ptr 0 0), (85, iK .u8 v287.glo), (86, bA false), (87, bA (false || false)), (88, bA (false || false)), (89, .ptr 0 1), (90, iK .u8 v287.ghi), (91, sA v206), (92, iK .u8 v290), (93, bA (decide (v287.ghi < v290))), (94, bA ((false || false) || (decide (v287.ghi < v290))))] ?_
                exact AD_here [0, 94] (by kernel_rfl) rfl
          refine CD H (fun hb291 H => ?_) (fun hb291 H => ?_)
          · refine AWP_reg (Rh 1 169 [(2, bA false)] (AOps_done ?_))
            exact AWP_ret (FR H)
          · refine AWP_skip ?_
            show AWP _ _ _ _ _ _ _
            refine AWP_region ?_
            refine Rh 1 169 [(95, sA v206)] ?_
            obtain ⟨v292, hv292, H⟩ := bind_some H
            refine AOps_scut (d := (some 96)) (by kernel_rfl) hv292 ?_
            refine Rh 1 169 [(0, sA v292)] (AOps_done ?_)
            exact Exists.intro v292 (Exists.intro n ⟨by omega, ⟨by omega, H⟩, Norm_fd [0] 1 (by kernel_rfl) rfl rfl trivial (by refine scL_fr ?_; exact ⟨trivial, trivial⟩)⟩)
        · refine AWP_reg (Rh 2 169 [(0, sA v206), (6, .ptr 0 0), (75, iA (w64 (andI .u8 v286 7))), (97, bA ((w64 (andI .u8 v286 7)) == 3))] (AOps_done (CD H (fun hb293 H => ?_) (fun hb293 H => ?_))))
          · refine AWP_seq ?_
            obtain ⟨v294, hv294, H⟩ := bind_some H
            obtain ⟨v295, hv295, H⟩ := bind_some H
            obtain ⟨v296, hv296, H⟩ := bind_some H
            obtain ⟨v297, hv297, H⟩ := bind_some H
            refine AWP_regD1 [0, 1, 2, 3, 4, 5, 6, 7, 8, 9, 10, 11, 12, 13, 14, 15, 16, 17, 18, 19, 20, 21, 22, 23, 24, 25, 26] (N := 169) (f := [(0, sA v206), (6, .ptr 0 0)]) (leL_of [0, 6] (by kernel_rfl)) mixed (by kernel_rfl) (by kernel_rfl) (st' := fr 169 [(0, sA v206), (125, bA (((((decide ((szI v206) < 3)) || (decide (v294 < v287.glo))) || (decide (v287.ghi < v295))) || (decide (v296 < 128))) || (decide (191 < v297))))]) (h' := [.cells 184 (TacceptRange.cs v287)]) ?_ ?_
            rotate_left
            · refine RD 4 169 [] [(0, sA v206), (6, .ptr 0 0), (99, sA v206), (100, iA (szI v206)), (101, bA (decide ((szI v206) < 3))), (102, bA (decide ((szI v206) < 3)))] ?_
              cases c1 : (decide ((szI v206) < 3) : Bool) with
              | true =>
                refine RD 23 169 [] [(0, sA v206), (6, .ptr 0 0), (99, sA v206), (100, iA (szI v206)), (101, bA true), (102, bA true), (103, undefA), (104, undefA), (105, undefA), (106, undefA), (107, undefA), (108, bA (true || (decide (v294 < v287.glo)))), (109, bA (true || (decide (v294 < v287.glo)))), (110, undefA), (111, undefA), (112, undefA), (113, undefA), (114, undefA), (115, bA ((true || (decide (v294 < v287.glo))) || (decide (v287.ghi < v295)))), (116, bA ((true || (decide (v294 < v287.glo))) || (decide (v287.ghi < v295)))), (117, undefA), (118, undefA), (119, undefA), (120, bA (((true || (decide (v294 < v287.glo))) || (decide (v287.ghi < v295))) || (decide (v296 < 128)))), (121, bA (((true || (decide (v294 < v287.glo))) || (decide (v287.ghi < v295))) || (decide (v296 < 128)))), (122, undefA), (123, undefA), (124, undefA), (125, bA ((((true || (decide (v294 < v287.glo))) || (decide (v287.ghi < v295))) || (decide (v296 < 128))) || (decide (191 < v297))))] ?_
                exact AD_here [0, 125] (by kernel_rfl) rfl
              | false =>
                refine RD 1 169 [] [(0, sA v206), (6, .ptr 0 0), (99, sA v206), (100, iA (szI v206)), (101, bA false), (102, bA false), (103, sA v206)] ?_
                have hv294_ := cond_t hv294 (by simp only [c1] <;> rfl)
                refine AD_sindex (d := (some 104)) (by kernel_rfl) hv294_ ?_
                refine RD 5 169 [(7, 0), (6, 0)] [(0, sA v206), (6, .ptr 0 0), (99, sA v206), (100, iA (szI v206)), (101, bA false), (102, bA false), (103, sA v206), (104, iK .u8 v294), (105, .ptr 0 0), (106, iK .u8 v287.glo), (107, bA (decide (v294 < v287.glo))), (108, bA (false || (decide (v294 < v287.glo)))), (109, bA (false || (decide (v294 < v287.glo))))] ?_
                cases c2 : (decide (v294 < v287.glo) : Bool) with
                | true =>
                  refine RD 16 169 [(7, 0), (6, 0)] [(0, sA v206), (6, .ptr 0 0), (99, sA v206), (100, iA (szI v206)), (101, bA false), (102, bA false), (103, sA v206), (104, iK .u8 v294), (105, .ptr 0 0), (106, iK .u8 v287.glo), (107, bA true), (108, bA (false || true)), (109, bA (false || true)), (110, undefA), (111, undefA), (112, undefA), (113, undefA), (114, undefA), (115, bA ((false || true) || (decide (v287.ghi < v295)))), (116, bA ((false || true) || (decide (v287.ghi < v295)))), (117, undefA), (118, undefA), (119, undefA), (120, bA (((false || true) || (decide (v287.ghi < v295))) || (decide (v296 < 128)))), (121, bA (((false || true) || (decide (v287.ghi < v295))) || (decide (v296 < 128)))), (122, undefA), (123, undefA), (124, undefA), (125, bA ((((false || true) || (decide (v287.ghi < v295))) || (decide (v296 < 128))) || (decide (191 < v297))))] ?_
                  exact AD_here [0, 125] (by kernel_rfl) rfl
                | false =>
                  refine RD 3 169 [(12, 0), (11, 0), (7, 0), (6, 0)] [(0, sA v206), (6, .ptr 0 0), (99, sA v206), (100, iA (szI v206)), (101, bA false), (102, bA false), (103, sA v206), (104, iK .u8 v294), (105, .ptr 0 0), (106, iK .u8 v287.glo), (107, bA false), (108, bA (false || false)), (109, bA (false || false)), (110, .ptr 0 1), (111, iK .u8 v287.ghi), (112, sA v206)] ?_
                  have hv295_ := cond_t hv295 (by simp only [c1, c2] <;> rfl)
                  refine AD_sindex (d := (some 113)) (by kernel_rfl) hv295_ ?_
                  refine RD 3 169 [(12, 0), (11, 0), (7, 0), (6, 0)] [(0, sA v206), (6, .ptr 0 0), (99, sA v206), (100, iA (szI v206)), (101, bA false), (102, bA false), (103, sA v206), (104, iK .u8 v294), (105, .ptr 0 0), (106, iK .u8 v287.glo), (107, bA false), (108, bA (false || false)), (109, bA (false || false)), (110, .ptr 0 1), (111, iK .u8 v287.ghi), (112, sA v206), (113, iK .u8 v295), (114, bA (decide (v287.ghi < v295))), (115, bA ((false || false) || (decide (v287.ghi < v295)))), (116, bA ((false || false) || (decide (v287.ghi < v295))))] ?_
                  cases c3 : (decide (v287.ghi < v295) : Bool) with
                  | true =>
                    refine RD 9 169 [(12, 0), (11, 0), (7, 0), (6, 0)] [(0, sA v206), (6, .ptr 0 0), (99, sA v206), (100, iA (szI v206)), (101, bA false), (102, bA false), (103, sA v206), (104, iK .u8 v294), (105, .ptr 0 0), (106, iK .u8 v287.glo), (107, bA false), (108, bA (false || false)), (109, bA (false || false)), (110, .ptr 0 1), (111, iK .u8 v287.ghi), (112, sA v206), (113, iK .u8 v295), (114, bA true), (115, bA ((false || false) || true)), (116, bA ((false || false) || true)), (117, undefA), (118, undefA), (119, undefA), (120, bA (((false || false) || true) || (decide (v296 < 128)))), (121, bA (((false || false) || true) || (decide (v296 < 128)))), (122, undefA), (123, undefA), (124, undefA), (125, bA ((((false || false) || true) || (decide (v296 < 128))) || (decide (191 < v297))))] ?_
                    exact AD_here [0, 125] (by kernel_rfl) rfl
                  | false =>
                    refine RD 1 169 [(12, 0), (11, 0), (7, 0), (6, 0)] [(0, sA v206), (6, .ptr 0 0), (99, sA v206), (100, iA (szI v206)), (101, bA false), (102, bA false), (103, sA v206), (104, iK .u8 v294), (105, .ptr 0 0), (106, iK .u8 v287.glo), (107, bA false), (108, bA (false || false)), (109, bA (false || false)), (110, .ptr 0 1), (111, iK .u8 v287.ghi), (112, sA v206), (113, iK .u8 v295), (114, bA false), (115, bA ((false || false) || false)), (116, bA ((false || false) || false)), (117, sA v206)] ?_
                    have hv296_ := cond_t hv296 (by simp only [c1, c2, c3] <;> rfl)
                    refine AD_sindex (d := (some 118)) (by kernel_rfl) hv296_ ?_
                    refine RD 3 169 [(12, 0), (11, 0), (7, 0), (6, 0)] [(0, sA v206), (6, .ptr 0 0), (99, sA v206), (100, iA (szI v206)), (101, bA false), (102, bA false), (103, sA v206), (104, iK .u8 v294), (105, .ptr 0 0), (106, iK .u8 v287.glo), (107, bA false), (108, bA (false || false)), (109, bA (false || false)), (110, .ptr 0 1), (111, iK .u8 v287.ghi), (112, sA v206), (113, iK .u8 v295), (114, bA false), (115, bA ((false || false) || false)), (116, bA ((false || false) || false)), (117, sA v206), (118, iK .u8 v296), (119, bA (decide (v296 < 128))), (120, bA (((false || false) || false) || (decide (v296 < 128)))), (121, bA (((false || false) || false) || (decide (v296 < 128))))] ?_
                    cases c4 : (decide (v296 < 128) : Bool) with
                    | true =>
                      refine RD 4 169 [(12, 0), (11, 0), (7, 0), (6, 0)] [(0, sA v206), (6, .ptr 0 0), (99, sA v206), (100, iA (szI v206)), (101, bA false), (102, bA false), (103, sA v206), (104, iK .u8 v294), (105, .ptr 0 0), (106, iK .u8 v287.glo), (107, bA false), (108, bA (false || false)), (109, bA (false || false)), (110, .ptr 0 1), (111, iK .u8 v287.ghi), (112, sA v206), (113, iK .u8 v295), (114, bA false), (115, bA ((false || false) || false)), (116, bA ((false || false) || false)), (117, sA v206), (118, iK .u8 v296), (119, bA true), (120, bA (((false || false) || false) || true)), (121, bA (((false || false) || false) || true)), (122, undefA), (123, undefA), (124, undefA), (125, bA ((((false || false) || false) || true) || (decide (191 < v297))))] ?_
                      exact AD_here [0, 125] (by kernel_rfl) rfl
                    | false =>
                      refine RD 1 169 [(12, 0), (11, 0), (7, 0), (6, 0)] [(0, sA v206), (6, .ptr 0 0), (99, sA v206), (100, iA (szI v206)), (101, bA false), (102, bA false), (103, sA v206), (104, iK .u8 v294), (105, .ptr 0 0), (106, iK .u8 v287.glo), (107, bA false), (108, bA (false || false)), (109, bA (false || false)), (110, .ptr 0 1), (111, iK .u8 v287.ghi), (112, sA v206), (113, iK .u8 v295), (114, bA false), (115, bA ((false || false) || false)), (116, bA ((false || false) || false)), (117, sA v206), (118, iK .u8 v296), (119, bA false), (120, bA (((false || false) || false) || false)), (121, bA (((false || false) || false) || false)), (122, sA v206)] ?_
                      have hv297_ := cond_t hv297 (by simp only [c1, c2, c3, c4] <;> rfl)
                      refine AD_sindex (d := (some 123)) (by kernel_rfl) hv297_ ?_
                      refine RD 2 169 [(12, 0), (11, 0), (7, 0), (6, 0)] [(0, sA v206), (6, .ptr 0 0), (99, sA v206), (100, iA (szI v206)), (101, bA false), (102, bA false), (103, sA v206), (104, iK .u8 v294), (105, .ptr 0 0), (106, iK .u8 v287.glo), (107, bA false), (108, bA (false || false)), (109, bA (false || false)), (110, .ptr 0 1), (111, iK .u8 v287.ghi), (112, sA v206), (113, iK .u8 v295), (114, bA false), (115, bA ((false || false) || false)), (116, bA ((false || false) || false)), (117, sA v206), (118, iK .u8 v296), (119, bA false), (120, bA (((false || false) || false) || false)), (121, bA (((false || false) || false) || false)), (122, sA v206), (123, iK .u8 v297), (124, bA (decide (191 < v297))), (125, bA ((((false || false) || false) || false) || (decide (191 < v297))))] ?_
                      exact AD_here [0, 125] (by kernel_rfl) rfl
            refine CD H (fun hb298 H => ?_) (fun hb298 H => ?_)
            · refine AWP_reg (Rh 1 169 [(2, bA false)] (AOps_done ?_))
              exact AWP_ret (FR H)
            · refine AWP_skip ?_
              show AWP _ _ _ _ _ _ _
              refine AWP_region ?_
              refine Rh 1 169 [(126, sA v206)] ?_
              obtain ⟨v299, hv299, H⟩ := bind_some H
              refine AOps_scut (d := (some 127)) (by kernel_rfl) hv299 ?_
              refine Rh 1 169 [(0, sA v299)] (AOps_done ?_)
              exact Exists.intro v299 (Exists.intro n ⟨by omega, ⟨by omega, H⟩, Norm_fd [0] 1 (by kernel_rfl) rfl rfl trivial (by refine scL_fr ?_; exact ⟨trivial, trivial⟩)⟩)
          · refine AWP_reg (Rh 2 169 [(0, sA v206), (6, .ptr 0 0), (128, bA ((w64 (andI .u8 v286 7)) == 4))] (AOps_done (CD H (fun hb300 H => ?_) (fun hb300 H => ?_))))
            · refine AWP_seq ?_
              obtain ⟨v301, hv301, H⟩ := bind_some H
              obtain ⟨v302, hv302, H⟩ := bind_some H
              obtain ⟨v303, hv303, H⟩ := bind_some H
              obtain ⟨v304, hv304, H⟩ := bind_some H
              obtain ⟨v305, hv305, H⟩ := bind_some H
              obtain ⟨v306, hv306, H⟩ := bind_some H
              refine AWP_regD1 [0, 1, 2, 3, 4, 5, 6, 7, 8, 9, 10, 11, 12, 13, 14, 15, 16, 17, 18, 19, 20, 21, 22, 23, 24, 25, 26, 27, 28, 29, 30, 31, 32, 33, 34, 35, 36] (N := 169) (f := [(0, sA v206), (6, .ptr 0 0)]) (leL_of [0, 6] (by kernel_rfl)) mixed (by kernel_rfl) (by kernel_rfl) (st' := fr 169 [(0, sA v206), (166, bA (((((((decide ((szI v206) < 4)) || (decide (v301 < v287.glo))) || (decide (v287.ghi < v302))) || (decide (v303 < 128))) || (decide (191 < v304))) || (decide (v305 < 128))) || (decide (191 < v306))))]) (h' := [.cells 184 (TacceptRange.cs v287)]) ?_ ?_
              rotate_left
              · refine RD 4 169 [] [(0, sA v206), (6, .ptr 0 0), (130, sA v206), (131, iA (szI v206)), (132, bA (decide ((szI v206) < 4))), (133, bA (decide ((szI v206) < 4)))] ?_
                cases c1 : (decide ((szI v206) < 4) : Bool) with
                | true =>
                  refine RD 33 169 [] [(0, sA v206), (6, .ptr 0 0), (130, sA v206), (131, iA (szI v206)), (132, bA true), (133, bA true), (134, undefA), (135, undefA), (136, undefA), (137, undefA), (138, undefA), (139, bA (true || (decide (v301 < v287.glo)))), (140, bA (true || (decide (v301 < v287.glo)))), (141, undefA), (142, undefA), (143, undefA), (144, undefA), (145, undefA), (146, bA ((true || (decide (v301 < v287.glo))) || (decide (v287.ghi < v302)))), (147, bA ((true || (decide (v301 < v287.glo))) || (decide (v287.ghi < v302)))), (148, undefA), (149, undefA), (150, undefA), (151, bA (((true || (decide (v301 < v287.glo))) || (decide (v287.ghi < v302))) || (decide (v303 < 128)))), (152, bA (((true || (decide (v301 < v287.glo))) || (decide (v287.ghi < v302))) || (decide (v303 < 128)))), (153, undefA), (154, undefA), (155, undefA), (156, bA ((((true || (decide (v301 < v287.glo))) || (decide (v287.ghi < v302))) || (decide (v303 < 128))) || (decide (191 < v304)))), (157, bA ((((true || (decide (v301 < v287.glo))) || (decide (v287.ghi < v302))) || (decide (v303 < 128))) || (decide (191 < v304)))), (158, undefA), (159, undefA), (160, undefA), (161, bA (((((true || (decide (v301 < v287.glo))) || (decide (v287.ghi < v302))) || (decide (v303 < 128))) || (decide (191 < v304))) || (decide (v305 < 128)))), (162, bA (((((true || (decide (v301 < v287.glo))) || (decide (v287.ghi < v302))) || (decide (v303 < 128))) || (decide (191 < v304))) || (decide (v305 < 128)))), (163, undefA), (164, undefA), (165, undefA), (166, bA ((((((true || (decide (v301 < v287.glo))) || (decide (v287.ghi < v302))) || (decide (v303 < 128))) || (decide (191 < v304))) || (decide (v305 < 128))) || (decide (191 < v306))))] ?_
                  exact AD_here [0, 166] (by kernel_rfl) rfl
                | false =>
                  refine RD 1 169 [] [(0, sA v206), (6, .ptr 0 0), (130, sA v206), (131, iA (szI v206)), (132, bA false), (133, bA false), (134, sA v206)] ?_
                  have hv301_ := cond_t hv301 (by simp only [c1] <;> rfl)
                  refine AD_sindex (d := (some 135)) (by kernel_rfl) hv301_ ?_
                  refine RD 5 169 [(7, 0), (6, 0)] [(0, sA v206), (6, .ptr 0 0), (130, sA v206), (131, iA (szI v206)), (132, bA false), (133, bA false), (134, sA v206), (135, iK .u8 v301), (136, .ptr 0 0), (137, iK .u8 v287.glo), (138, bA (decide (v301 < v287.glo))), (139, bA (false || (decide (v301 < v287.glo)))), (140, bA (false || (decide (v301 < v287.glo))))] ?_
                  cases c2 : (decide (v301 < v287.glo) : Bool) with
                  | true =>
                    refine RD 26 169 [(7, 0), (6, 0)] [(0, sA v206), (6, .ptr 0 0), (130, sA v206), (131, iA (szI v206)), (132, bA false), (133, bA false), (134, sA v206), (135, iK .u8 v301), (136, .ptr 0 0), (137, iK .u8 v287.glo), (138, bA true), (139, bA (false || true)), (140, bA (false || true)), (141, undefA), (142, undefA), (143, undefA), (144, undefA), (145, undefA), (146, bA ((false || true) || (decide (v287.ghi < v302)))), (147, bA ((false || true) || (decide (v287.ghi < v302)))), (148, undefA), (149, undefA), (150, undefA), (151, bA (((false || true) || (decide (v287.ghi < v302))) || (decide (v303 < 128)))), (152, bA (((false || true) || (decide (v287.ghi < v302))) || (decide (v303 < 128)))), (153, undefA), (154, undefA), (155, undefA), (156, bA ((((false || true) || (decide (v287.ghi < v302))) || (decide (v303 < 128))) || (decide (191 < v304)))), (157, bA ((((false || true) || (decide (v287.ghi < v302))) || (decide (v303 < 128))) || (decide (191 < v304)))), (158, undefA), (159, undefA), (160, undefA), (161, bA (((((false || true) || (decide (v287.ghi < v302))) || (decide (v303 < 128))) || (decide (191 < v304))) || (decide (v305 < 128)))), (162, bA (((((false || true) || (decide (v287.ghi < v302))) || (decide (v303 < 128))) || (decide (191 < v304))) || (decide (v305 < 128)))), (163, undefA), (164, undefA), (165, undefA), (166, bA ((((((false || true) || (decide (v287.ghi < v302))) || (decide (v303 < 128))) || (decide (191 < v304))) || (decide (v305 < 128))) || (decide (191 < v306))))] ?_
                    exact AD_here [0, 166] (by kernel_rfl) rfl
                  | false =>
                    refine RD 3 169 [(12, 0), (11, 0), (7, 0), (6, 0)] [(0, sA v206), (6, .ptr 0 0), (130, sA v206), (131, iA (szI v206)), (132, bA false), (133, bA false), (134, sA v206), (135, iK .u8 v301), (136, .ptr 0 0), (137, iK .u8 v287.glo), (138, bA false), (139, bA (false || false)), (140, bA (false || false)), (141, .ptr 0 1), (142, iK .u8 v287.ghi), (143, sA v206)] ?_
                    have hv302_ := cond_t hv302 (by simp only [c1, c2] <;> rfl)
                    refine AD_sindex (d := (some 144)) (by kernel_rfl) hv302_ ?_
                    refine RD 3 169 [(12, 0), (11, 0), (7, 0), (6, 0)] [(0, sA v206), (6, .ptr 0 0), (130, sA v206), (131, iA (szI v206)), (132, bA false), (133, bA false), (134, sA v206), (135, iK .u8 v301), (136, .ptr 0 0), (137, iK .u8 v287.glo), (138, bA false), (139, bA (false || false)), (140, bA (false || false)), (141, .ptr 0 1), (142, iK .u8 v287.ghi), (143, sA v206), (144, iK .u8 v302), (145, bA (decide (v287.ghi < v302))), (146, bA ((false || false) || (decide (v287.ghi < v302)))), (147, bA ((false || false) || (decide (v287.ghi < v302))))] ?_
                    cases c3 : (decide (v287.ghi < v302) : Bool) with
                    | true =>
                      refine RD 19 169 [(12, 0), (11, 0), (7, 0), (6, 0)] [(0, sA v206), (6, .ptr 0 0), (130, sA v206), (131, iA (szI v206)), (132, bA false), (133, bA false), (134, sA v206), (135, iK .u8 v301), (136, .ptr 0 0), (137, iK .u8 v287.glo), (138, bA false), (139, bA (false || false)), (140, bA (false || false)), (141, .ptr 0 1), (142, iK .u8 v287.ghi), (143, sA v206), (144, iK .u8 v302), (145, bA true), (146, bA ((false || false) || true)), (147, bA ((false || false) || true)), (148, undefA), (149, undefA), (150, undefA), (151, bA (((false || false) || true) || (decide (v303 < 128)))), (152, bA (((false || false) || true) || (decide (v303 < 128)))), (153, undefA), (154, undefA), (155, undefA), (156, bA ((((false || false) || true) || (decide (v303 < 128))) || (decide (191 < v304)))), (157, bA ((((false || false) || true) || (decide (v303 < 128))) || (decide (191 < v304)))), (158, undefA), (159, undefA), (160, undefA), (161, bA (((((false || false) || true) || (decide (v303 < 128))) || (decide (191 < v304))) || (decide (v305 < 128)))), (162, bA (((((false || false) || true) || (decide (v303 < 128))) || (decide (191 < v304))) || (decide (v305 < 128)))), (163, undefA), (164, undefA), (165, undefA), (166, bA ((((((false || false) || true) || (decide (v303 < 128))) || (decide (191 < v304))) || (decide (v305 < 128))) || (decide (191 < v306))))] ?_
                      exact AD_here [0, 166] (by kernel_rfl) rfl
                    | false =>
                      refine RD 1 169 [(12, 0), (11, 0), (7, 0), (6, 0)] [(0, sA v206), (6, .ptr 0 0), (130, sA v206), (131, iA (szI v206)), (132, bA false), (133, bA false), (134, sA v206), (135, iK .u8 v301), (136, .ptr 0 0), (137, iK .u8 v287.glo), (138, bA false), (139, bA (false || false)), (140, bA (false || false)), (141, .ptr 0 1), (142, iK .u8 v287.ghi), (143, sA v206), (144, iK .u8 v302), (145, bA false), (146, bA ((false || false) || false)), (147, bA ((false || false) || false)), (148, sA v206)] ?_
                      have hv303_ := cond_t hv303 (by simp only [c1, c2, c3] <;> rfl)
                      refine AD_sindex (d := (some 149)) (by kernel_rfl) hv303_ ?_
                      refine RD 3 169 [(12, 0), (11, 0), (7, 0), (6, 0)] [(0, sA v206), (6, .ptr 0 0), (130, sA v206), (131, iA (szI v206)), (132, bA false), (133, bA false), (134, sA v206), (135, iK .u8 v301), (136, .ptr 0 0), (137, iK .u8 v287.glo), (138, bA false), (139, bA (false || false)), (140, bA (false || false)), (141, .ptr 0 1), (142, iK .u8 v287.ghi), (143, sA v206), (144, iK .u8 v302), (145, bA false), (146, bA ((false || false) || false)), (147, bA ((false || false) || false)), (148, sA v206), (149, iK .u8 v303), (150, bA (decide (v303 < 128))), (151, bA (((false || false) || false) || (decide (v303 < 128)))), (152, bA (((false || false) || false) || (decide (v303 < 128))))] ?_
                      cases c4 : (decide (v303 < 128) : Bool) with
                      | true =>
                        refine RD 14 169 [(12, 0), (11, 0), (7, 0), (6, 0)] [(0, sA v206), (6, .ptr 0 0), (130, sA v206), (131, iA (szI v206)), (132, bA false), (133, bA false), (134, sA v206), (135, iK .u8 v301), (136, .ptr 0 0), (137, iK .u8 v287.glo), (138, bA false), (139, bA (false || false)), (140, bA (false || false)), (141, .ptr 0 1), (142, iK .u8 v287.ghi), (143, sA v206), (144, iK .u8 v302), (145, bA false), (146, bA ((false || false) || false)), (147, bA ((false || false) || false)), (148, sA v206), (149, iK .u8 v303), (150, bA true), (151, bA (((false || false) || false) || true)), (152, bA (((false || false) || false) || true)), (153, undefA), (154, undefA), (155, undefA), (156, bA ((((false || false) || false) || true) || (decide (191 < v304)))), (157, bA ((((false || false) || false) || true) || (decide (191 < v304)))), (158, undefA), (159, undefA), (160, undefA), (161, bA (((((false || false) || false) || true) || (decide (191 < v304))) || (decide (v305 < 128)))), (162, bA (((((false || false) || false) || true) || (decide (191 < v304))) || (decide (v305 < 128)))), (163, undefA), (164, undefA), (165, undefA), (166, bA ((((((false || false) || false) || true) || (decide (191 < v304))) || (decide (v305 < 128))) || (decide (191 < v306))))] ?_
                        exact AD_here [0, 166] (by kernel_rfl) rfl
                      | false =>
                        refine RD 1 169 [(12, 0), (11, 0), (7, 0), (6, 0)] [(0, sA v206), (6, .ptr 0 0), (130, sA v206), (131, iA (szI v206)), (132, bA false), (133, bA false), (134, sA v206), (135, iK .u8 v301), (136, .ptr 0 0), (137, iK .u8 v287.glo), (138, bA false), (139, bA (false || false)), (140, bA (false || false)), (141, .ptr 0 1), (142, iK .u8 v287.ghi), (143, sA v206), (144, iK .u8 v302), (145, bA false), (146, bA ((false || false) || false)), (147, bA ((false || false) || false)), (148, sA v206), (149, iK .u8 v303), (150, bA false), (151, bA (((false || false) || false) || false)), (152, bA (((false || false) || false) || false)), (153, sA v206)] ?_
                        have hv304_ := cond_t hv304 (by simp only [c1, c2, c3, c4] <;> rfl)
                        refine AD_sindex (d := (some 154)) (by kernel_rfl) hv304_ ?_
                        refine RD 3 169 [(12, 0), (11, 0), (7, 0), (6, 0)] [(0, sA v206), (6, .ptr 0 0), (130, sA v206), (131, iA (szI v206)), (132, bA false), (133, bA false), (134, sA v206), (135, iK .u8 v301), (136, .ptr 0 0), (137, iK .u8 v287.glo), (138, bA false), (139, bA (false || false)), (140, bA (false || false)), (141, .ptr 0 1), (142, iK .u8 v287.ghi), (143, sA v206), (144, iK .u8 v302), (145, bA false), (146, bA ((false || false) || false)), (147, bA ((false || false) || false)), (148, sA v206), (149, iK .u8 v303), (150, bA false), (151, bA (((false || false) || false) || false)), (152, bA (((false || false) || false) || false)), (153, sA v206), (154, iK .u8 v304), (155, bA (decide (191 < v304))), (156, bA ((((false || false) || false) || false) || (decide (191 < v304)))), (157, bA ((((false || false) || false) || false) || (decide (191 < v304))))] ?_
                        cases c5 : (decide (191 < v304) : Bool) with
                        | true =>
                          refine RD 9 169 [(12, 0), (11, 0), (7, 0), (6, 0)] [(0, sA v206), (6, .ptr 0 0), (130, sA v206), (131, iA (szI v206)), (132, bA false), (133, bA false), (134, sA v206), (135, iK .u8 v301), (136, .ptr 0 0), (137, iK .u8 v287.glo), (138, bA false), (139, bA (false || false)), (140, bA (false || false)), (141, .ptr 0 1), (142, iK .u8 v287.ghi), (143, sA v206), (144, iK .u8 v302), (145, bA false), (146, bA ((false || false) || false)), (147, bA ((false || false) || false)), (148, sA v206), (149, iK .u8 v303), (150, bA false), (151, bA (((false || false) || false) || false)), (152, bA (((false || false) || false) || false)), (153, sA v206), (154, iK .u8 v304), (155, bA true), (156, bA ((((false || false) || false) || false) || true)), (157, bA ((((false || false) || false) || false) || true)), (158, undefA), (159, undefA), (160, undefA), (161, bA (((((false || false) || false) || false) || true) || (decide (v305 < 128)))), (162, bA (((((false || false) || false) || false) || true) || (decide (v305 < 128)))), (163, undefA), (164, undefA), (165, undefA), (166, bA ((((((false || false) || false) || false) || true) || (decide (v305 < 128))) || (decide (191 < v306))))] ?_
                          exact AD_here [0, 166] (by kernel_rfl) rfl
                        | false =>
                          refine RD 1 169 [(12, 0), (11, 0), (7, 0), (6, 0)] [(0, sA v206), (6, .ptr 0 0), (130, sA v206), (131, iA (szI v206)), (132, bA false), (133, bA false), (134, sA v206), (135, iK .u8 v301), (136, .ptr 0 0), (137, iK .u8 v287.glo), (138, bA false), (139, bA (false || false)), (140, bA (false || false)), (141, .ptr 0 1), (142, iK .u8 v287.ghi), (143, sA v206), (144, iK .u8 v302), (145, bA false), (146, bA ((false || false) || false)), (147, bA ((false || false) || false)), (148, sA v206), (149, iK .u8 v303), (150, bA false), (151, bA (((false || false) || false) || false)), (152, bA (((false || false) || false) || false)), (153, sA v206), (154, iK .u8 v304), (155, bA false), (156, bA ((((false || false) || false) || false) || false)), (157, bA ((((false || false) || false) || false) || false)), (158, sA v206)] ?_
                          have hv305_ := cond_t hv305 (by simp only [c1, c2, c3, c4, c5] <;> rfl)
                          refine AD_sindex (d := (some 159)) (by kernel_rfl) hv305_ ?_
                          refine RD 3 169 [(12, 0), (11, 0), (7, 0), (6, 0)] [(0, sA v206), (6, .ptr 0 0), (130, sA v206), (131, iA (szI v206)), (132, bA false), (133, bA false), (134, sA v206), (135, iK .u8 v301), (136, .ptr 0 0), (137, iK .u8 v287.glo), (138, bA false), (139, bA (false || false)), (140, bA (false || false)), (141, .ptr 0 1), (142, iK .u8 v287.ghi), (143, sA v206), (144, iK .u8 v302), (145, bA false), (146, bA ((false || false) || false)), (147, bA ((false || false) || false)), (148, sA v206), (149, iK .u8 v303), (150, bA false), (151, bA (((false || false) || false) || false)), (152, bA (((false || false) || false) || false)), (153, sA v206), (154, iK .u8 v304), (155, bA false), (156, bA ((((false || false) || false) || false) || false)), (157, bA ((((false || false) || false) || false) || false)), (158, sA v206), (159, iK .u8 v305), (160, bA (decide (v305 < 128))), (161, bA (((((false || false) || false) || false) || false) || (decide (v305 < 128)))), (162, bA (((((false || false) || false) || false) || false) || (decide (v305 < 128))))] ?_
                          cases c6 : (decide (v305 < 128) : Bool) with
                          | true =>
                            refine RD 4 169 [(12, 0), (11, 0), (7, 0), (6, 0)] [(0, sA v206), (6, .ptr 0 0), (130, sA v206), (131, iA (szI v206)), (132, bA false), (133, bA false), (134, sA v206), (135, iK .u8 v301), (136, .ptr 0 0), (137, iK .u8 v287.glo), (138, bA false), (139, bA (false || false)), (140, bA (false || false)), (141, .ptr 0 1), (142, iK .u8 v287.ghi), (143, sA v206), (144, iK .u8 v302), (145, bA false), (146, bA ((false || false) || false)), (147, bA ((false || false) || false)), (148, sA v206), (149, iK .u8 v303), (150, bA false), (151, bA (((false || false) || false) || false)), (152, bA (((false || false) || false) || false)), (153, sA v206), (154, iK .u8 v304), (155, bA false), (156, bA ((((false || false) || false) || false) || false)), (157, bA ((((false || false) || false) || false) || false)), (158, sA v206), (159, iK .u8 v305), (160, bA true), (161, bA (((((false || false) || false) || false) || false) || true)), (162, bA (((((false || false) || false) || false) || false) || true)), (163, undefA), (164, undefA), (165, undefA), (166, bA ((((((false || false) || false) || false) || false) || true) || (decide (191 < v306))))] ?_
                            exact AD_here [0, 166] (by kernel_rfl) rfl
                          | false =>
                            refine RD 1 169 [(12, 0), (11, 0), (7, 0), (6, 0)] [(0, sA v206), (6, .ptr 0 0), (130, sA v206), (131, iA (szI v206)), (132, bA false), (133, bA false), (134, sA v206), (135, iK .u8 v301), (136, .ptr 0 0), (137, iK .u8 v287.glo), (138, bA false), (139, bA (false || false)), (140, bA (false || false)), (141, .ptr 0 1), (142, iK .u8 v287.ghi), (143, sA v206), (144, iK .u8 v302), (145, bA false), (146, bA ((false || false) || false)), (147, bA ((false || false) || false)), (148, sA v206), (149, iK .u8 v303), (150, bA false), (151, bA (((false || false) || false) || false)), (152, bA (((false || false) || false) || false)), (153, sA v206), (154, iK .u8 v304), (155, bA false), (156, bA ((((false || false) || false) || false) || false)), (157, bA ((((false || false) || false) || false) || false)), (158, sA v206), (159, iK .u8 v305), (160, bA false), (161, bA (((((false || false) || false) || false) || false) || false)), (162, bA (((((false || false) || false) || false) || false) || false)), (163, sA v206)] ?_
                            have hv306_ := cond_t hv306 (by simp only [c1, c2, c3, c4, c5, c6] <;> rfl)
                            refine AD_sindex (d := (some 164)) (by kernel_rfl) hv306_ ?_
                            refine RD 2 169 [(12, 0), (11, 0), (7, 0), (6, 0)] [(0, sA v206), (6, .ptr 0 0), (130, sA v206), (131, iA (szI v206)), (132, bA false), (133, bA false), (134, sA v206), (135, iK .u8 v301), (136, .ptr 0 0), (137, iK .u8 v287.glo), (138, bA false), (139, bA (false || false)), (140, bA (false || false)), (141, .ptr 0 1), (142, iK .u8 v287.ghi), (143, sA v206), (144, iK .u8 v302), (145, bA false), (146, bA ((false || false) || false)), (147, bA ((false || false) || false)), (148, sA v206), (149, iK .u8 v303), (150, bA false), (151, bA (((false || false) || false) || false)), (152, bA (((false || false) || false) || false)), (153, sA v206), (154, iK .u8 v304), (155, bA false), (156, bA ((((false || false) || false) || false) || false)), (157, bA ((((false || false) || false) || false) || false)), (158, sA v206), (159, iK .u8 v305), (160, bA false), (161, bA (((((false || false) || false) || false) || false) || false)), (162, bA (((((false || false) || false) || false) || false) || false)), (163, sA v206), (164, iK .u8 v306), (165, bA (decide (191 < v306))), (166, bA ((((((false || false) || false) || false) || false) || false) || (decide (191 < v306))))] ?_
                            exact AD_here [0, 166] (by kernel_rfl) rfl
              refine CD H (fun hb307 H => ?_) (fun hb307 H => ?_)
              · refine AWP_reg (Rh 1 169 [(2, bA false)] (AOps_done ?_))
                exact AWP_ret (FR H)
              · refine AWP_skip ?_
                show AWP _ _ _ _ _ _ _
                refine AWP_region ?_
                refine Rh 1 169 [(167, sA v206)] ?_
                obtain ⟨v308, hv308, H⟩ := bind_some H
                refine AOps_scut (d := (some 168)) (by kernel_rfl) hv308 ?_
                refine Rh 1 169 [(0, sA v308)] (AOps_done ?_)
                exact Exists.intro v308 (Exists.intro n ⟨by omega, ⟨by omega, H⟩, Norm_fd [0] 1 (by kernel_rfl) rfl rfl trivial (by refine scL_fr ?_; exact ⟨trivial, trivial⟩)⟩)
            · refine AWP_reg (Rh 1 169 [(2, bA false)] (AOps_done ?_))
              exact AWP_ret (FR H)
    · refine AWP_exit ?_
      show AWP _ _ _ _ _ _ _
      refine AWP_reg (Rh 1 169 [(2, bA true)] (AOps_done ?_))
      exact AWP_ret (FR H)
end Go.Proofs.YtjhbobacbaikoaaGreatDoor
/- Texts: the program's and the reference's answers, whether a string is a text and whether it is a key, are alike. -/
namespace Go.Proofs.YtjhbobacbaikoaaGreatDoor
open Go
set_option linter.unusedVariables false
set_option linter.unusedSimpArgs false
/-! utf8.ValidString comes to an end -/
def Tot {β : Type} (F : Nat → Option β) : Prop := ∃ v, Al fun n => F n = some v
section
variable {β γ : Type}
theorem Tot.some (v : β) : Tot fun _ => some v := ⟨v, .of fun _ => rfl⟩
theorem Tot.cond {c : Bool} {F G : Nat → Option β} (h : c = true → Tot F) (k : c = false → Tot G) : Tot fun n => bif c then F n else G n := by
  cases c with
  | true => exact h rfl
  | false => exact k rfl
theorem Tot.bind {F : Nat → Option β} {G : Nat → β → Option γ} (h : Tot F) (k : ∀ v, Tot fun n => G n v) : Tot fun n => (F n).bind (G n) := by
  obtain ⟨v, h⟩ := h
  obtain ⟨u, k⟩ := k v
  exact ⟨u, (h.and k).mono fun n ⟨a, b⟩ => by show (F n).bind (G n) = _; rw [a]; exact b⟩
theorem Tot.succ {F : Nat → Option β} (h : Tot fun n => F (n + 1)) : Tot F := by obtain ⟨v, h⟩ := h; exact ⟨v, h.succ⟩
theorem btA_lt (s : ByteArray) (j : Int) : 0 ≤ btA s j ∧ btA s j < 256 := by
  unfold btA
  split
  · have := (s[j.toNat]'(by assumption)).toNat_lt; omega
  · omega
theorem rdS_some {s : ByteArray} {j : Int} (h : 0 ≤ j ∧ j < szI s) : rdS s j = .some (btA s j) := by
  unfold szI at h
  simp [rdS, h]
theorem Tot.rdS {s : ByteArray} {j : Int} {G : Nat → Int → Option γ} (h : 0 ≤ j ∧ j < szI s) (k : ∀ v, 0 ≤ v ∧ v < 256 → Tot fun n => G n v) : Tot fun n => (rdS s j).bind (G n) := by
  obtain ⟨u, k⟩ := k (btA s j) (btA_lt s j)
  exact ⟨u, k.mono fun n b => by show Option.bind _ _ = _; rw [rdS_some h]; exact b⟩
theorem Tot.rdSc {c : Bool} {s : ByteArray} {j : Int} {G : Nat → Int → Option γ} (h : c = true → 0 ≤ j ∧ j < szI s) (k : ∀ v, 0 ≤ v ∧ v < 256 → Tot fun n => G n v) : Tot fun n => (bif c then Proofs.YtjhbobacbaikoaaGreatDoor.rdS s j else .some 0).bind (G n) := by
  cases c with
  | true => exact Tot.rdS (h rfl) k
  | false => exact k 0 (by omega)
theorem cutS_some {s : ByteArray} {a : Int} (h : 0 ≤ a ∧ a ≤ szI s) : cutS s a (szI s) = .some (s.extract a.toNat s.size) := by
  unfold szI at h ⊢
  simp [cutS, h]
theorem Tot.cut {s : ByteArray} {a : Int} {G : Nat → ByteArray → Option γ} (h : 0 ≤ a ∧ a ≤ szI s) (k : ∀ r, szI r = szI s - a → Tot fun n => G n r) : Tot fun n => (cutS s a (szI s)).bind (G n) := by
  obtain ⟨u, k⟩ := k (s.extract a.toNat s.size) (by unfold szI at h ⊢; rw [ByteArray.size_extract]; omega)
  exact ⟨u, k.mono fun n b => by show Option.bind _ _ = _; rw [cutS_some h]; exact b⟩
theorem Tot.cutc {c : Bool} {s : ByteArray} {a : Int} {G : Nat → ByteArray → Option γ} (h : c = true → 0 ≤ a ∧ a ≤ szI s) (k : ∀ r, (c = true → szI r = szI s - a) → Tot fun n => G n r) : Tot fun n => (bif c then cutS s a (szI s) else .some ByteArray.empty).bind (G n) := by
  cases c with
  | true => exact Tot.cut (h rfl) fun r e => k r fun _ => e
  | false => exact k _ (fun e => by cases e)
theorem word_some {s : ByteArray} (h : 8 ≤ szI s) : Tot fun n => p_unicode_utf8_word_string n s := by
  unfold p_unicode_utf8_word_string
  repeat (refine Tot.rdS (by omega) fun _ _ => ?_)
  exact Tot.some _
theorem Tot.wordc {c : Bool} {s : ByteArray} {G : Nat → Int → Option γ} (h : c = true → 8 ≤ szI s) (k : ∀ v, Tot fun n => G n v) : Tot fun n => (bif c then p_unicode_utf8_word_string n s else .some 0).bind (G n) := by
  cases c with
  | true => exact Tot.bind (word_some (h rfl)) k
  | false => exact k 0
theorem Tot.first {j : Int} {G : Nat → Int → Option γ} (h : 0 ≤ j ∧ j < 256) (k : ∀ v, 0 ≤ v ∧ v < 256 → Tot fun n => G n v) : Tot fun n => (rdO gl_first j).bind (G n) := by
  have key : ∀ i : _root_.Fin 256, ∃ v, gl_first[i.val]? = .some v ∧ 0 ≤ v ∧ v < 256 := by decide +kernel
  obtain ⟨v, h1, h2⟩ := key ⟨j.toNat, by omega⟩
  obtain ⟨u, k⟩ := k v h2
  exact ⟨u, k.mono fun n b => by show Option.bind _ _ = _; rw [rdO, decide_eq_true h.1, h1]; exact b⟩
theorem Tot.range {j : Int} {G : Nat → TacceptRange → Option γ} (h : 0 ≤ j ∧ j < 256) (k : ∀ v, Tot fun n => G n v) : Tot fun n => (rdO gl_acceptRanges (shrI .u8 j 4)).bind (G n) := by
  have hl : gl_acceptRanges.length = 16 := by decide +kernel
  have hj : shrI .u8 j 4 = j / 16 := by
    unfold shrI
    show j.fdiv (2 ^ min (4 : Int).toNat 8) = j / 16
    rw [Int.fdiv_eq_ediv_of_nonneg _ (by decide)]; rfl
  have hx : (j / 16).toNat < gl_acceptRanges.length := by rw [hl]; omega
  obtain ⟨u, k⟩ := k (gl_acceptRanges[(j / 16).toNat])
  exact ⟨u, k.mono fun n b => by show Option.bind _ _ = _; rw [hj, rdO, decide_eq_true (by omega), List.getElem?_eq_getElem hx]; exact b⟩
end
theorem valid_tot : ∀ (k : Nat) (s : ByteArray), s.size ≤ k → (Tot fun n => p_unicode_utf8_ValidString_L1 n s) ∧ (Tot fun n => p_unicode_utf8_ValidString_K1 n s) ∧ (Tot fun n => p_unicode_utf8_ValidString_L2 n s) := by
  intro k
  induction k using Nat.strongRecOn with
  | _ k ih =>
    intro s hs
    have sm : ∀ r : ByteArray, szI r < szI s → (Tot fun n => p_unicode_utf8_ValidString_L1 n r) ∧ (Tot fun n => p_unicode_utf8_ValidString_K1 n r) ∧ (Tot fun n => p_unicode_utf8_ValidString_L2 n r) := fun r hr => by
      unfold szI at hr
      exact ih r.size (by omega) r (Nat.le_refl _)
    have h1 : Tot fun n => p_unicode_utf8_ValidString_L1 n s := by
      refine Tot.succ ?_
      simp only [p_unicode_utf8_ValidString_L1]
      refine Tot.cond (fun h0 => ?_) fun _ => Tot.some _
      have h0 := of_decide_eq_true h0
      refine Tot.rdS (by omega) fun b hb => ?_
      refine Tot.cond (fun h => ?_) fun h => ?_
      · refine Tot.cut (by omega) fun r hr => ?_
        refine Tot.wordc (fun e => by have := of_decide_eq_true e; omega) fun v => ?_
        refine Tot.cond (fun h => ?_) fun _ => (sm r (by omega)).2.1
        simp only [Bool.and_eq_true, decide_eq_true_eq] at h
        refine Tot.cut (by omega) fun r2 hr2 => ?_
        refine Tot.cutc (fun e => by have := of_decide_eq_true e; omega) fun r3 hr3 => ?_
        refine Tot.wordc (fun e => by have := of_decide_eq_true e; omega) fun v => ?_
        refine Tot.wordc (fun e => by have := of_decide_eq_true e; have := hr3 e; omega) fun v => ?_
        refine Tot.cond (fun h => ?_) fun _ => (sm r2 (by omega)).2.1
        simp only [Bool.and_eq_true, decide_eq_true_eq] at h
        exact Tot.cut (by omega) fun r4 hr4 => (sm r4 (by omega)).2.2
      · refine Tot.first hb fun x hx => ?_
        refine Tot.range hx fun a => ?_
        refine Tot.cond (fun _ => ?_) fun _ => Tot.cond (fun _ => ?_) fun _ => Tot.cond (fun _ => ?_) fun _ => Tot.some _
        all_goals
          repeat (refine Tot.rdSc (fun e => by simp only [Bool.not_eq_true', Bool.or_eq_false_iff, decide_eq_false_iff_not] at e; omega) fun _ _ => ?_)
          refine Tot.cond (fun _ => Tot.some _) fun h => ?_
          simp only [Bool.or_eq_false_iff, decide_eq_false_iff_not] at h
          exact Tot.cut (by omega) fun r hr => (sm r (by omega)).1
    have h2 : Tot fun n => p_unicode_utf8_ValidString_K1 n s := Tot.succ (by simp only [p_unicode_utf8_ValidString_K1]; exact h1)
    refine ⟨h1, h2, Tot.succ ?_⟩
    simp only [p_unicode_utf8_ValidString_L2]
    refine Tot.cutc (fun e => by have := of_decide_eq_true e; omega) fun r1 hr1 => ?_
    refine Tot.cutc (fun e => by have := of_decide_eq_true e; omega) fun r2 hr2 => ?_
    refine Tot.cutc (fun e => by have := of_decide_eq_true e; omega) fun r3 hr3 => ?_
    refine Tot.wordc (fun e => by have := of_decide_eq_true e; omega) fun v => ?_
    refine Tot.wordc (fun e => by have := of_decide_eq_true e; have := hr1 e; omega) fun v => ?_
    refine Tot.wordc (fun e => by have := of_decide_eq_true e; have := hr2 e; omega) fun v => ?_
    refine Tot.wordc (fun e => by have := of_decide_eq_true e; have := hr3 e; omega) fun v => ?_
    refine Tot.cond (fun h => ?_) fun _ => h2
    simp only [Bool.and_eq_true, decide_eq_true_eq] at h
    exact Tot.cut (by omega) fun r4 hr4 => (sm r4 (by omega)).2.2
theorem ValidString_tot (s : ByteArray) : ∃ b, Al fun n => p_unicode_utf8_ValidString n s = some b := (valid_tot _ s (Nat.le_refl _)).1
end Go.Proofs.YtjhbobacbaikoaaGreatDoor
