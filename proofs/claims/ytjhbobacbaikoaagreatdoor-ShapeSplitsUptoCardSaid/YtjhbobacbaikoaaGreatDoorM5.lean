/- A function of the program as a pure function, and that the program computes it. -/
import Derived.Test.YtjhbobacbaikoaaGreatDoorM4
namespace Go.Proofs.YtjhbobacbaikoaaGreatDoor
open Go
set_option linter.unusedVariables false
set_option linter.unusedSimpArgs false
set_option maxRecDepth 100000
def p_draw_Codes_Test_K1 (n : Nat) (v5 : TDeclared) (v72 : List Int) (v73 : Int) : Option (TExpr × TCodes) :=
(p_draw_Codes_Value n ({ glist := v72, gat := v73 } : TCodes) v5.gType).bind fun v74 =>
 some ((TExpr.mk 7 v5.gKind v5.gName ([v74.1]) ([])), v74.2)
def p_draw_Codes_Test_K2 (n : Nat) (v5 : TDeclared) (v75 : Int × TCodes) : Option (TExpr × TCodes) :=
(bif ((v5.gType == 2) || (v5.gType == 3)) || (v5.gType == 4) then
(p_draw_Codes_Next n v75.2 4).bind fun v108 =>
(p_draw_Codes_Value n v108.2 v5.gType).bind fun v109 =>
 some ((TExpr.mk (w64 (12 + v108.1)) v5.gKind v5.gName ([v109.1]) ([])), v109.2)
 else
 p_draw_Codes_Test_K1 n v5 v75.2.glist v75.2.gat)
def p_draw_Codes_Test_L1 (n : Nat) (v5 : TDeclared) (v125 : Int) (v126 : List Int) (v127 : Int) (v128 : List TValue) : Option (TExpr × TCodes) := match n with
| 0 => none
| n + 1 =>
(p_draw_Codes_Next n ({ glist := v126, gat := v127 } : TCodes) 3).bind fun v129 =>
(bif decide (v125 ≤ v129.1) then
(p_draw_Codes_Value n v129.2 v5.gType).bind fun v131 =>
(appO 56 v128 ([v131.1])).bind fun v132 =>
 p_draw_Codes_Test_L1 n v5 (w64 (v125 + 1)) v131.2.glist v131.2.gat v132
 else
 some ((TExpr.mk 8 v5.gKind v5.gName v128 ([])), v129.2))
def p_draw_Codes_Test (n : Nat) (x0 : TCodes) : Option (TExpr × TCodes) :=
(p_draw_Declared n ).bind fun v1 =>
(p_draw_Codes_Next n x0 (w64 ((lI v1) + 1))).bind fun v2 =>
(bif v2.1 == (lI v1) then
(p_draw_Codes_Key n v2.2).bind fun v4 =>
 some ((TExpr.mk 7 (⟨#[117, 115, 101, 114]⟩ : ByteArray) (⟨#[107, 101, 121]⟩ : ByteArray) ([({ gKind := 3, gNumber := 0, gText := v4.1, gList := [] } : TValue)]) ([])), v4.2)
 else
(rdO v1 v2.1).bind fun v5 =>
(p_draw_Codes_Next n v2.2 5).bind fun v75 =>
(bif v75.1 == 0 then
 some ((TExpr.mk 6 v5.gKind v5.gName ([]) ([])), v75.2)
 else
(bif v75.1 == 1 then
(bif v5.gType != 5 then
 p_draw_Codes_Test_L1 n v5 0 v75.2.glist v75.2.gat ([])
 else
 p_draw_Codes_Test_K1 n v5 v75.2.glist v75.2.gat)
 else
(bif v75.1 == 2 then
(bif (v5.gType == 3) || (v5.gType == 5) then
(p_draw_Codes_Value n v75.2 3).bind fun v135 =>
 some ((TExpr.mk 11 v5.gKind v5.gName ([v135.1]) ([])), v135.2)
 else
 p_draw_Codes_Test_K1 n v5 v75.2.glist v75.2.gat)
 else
(bif v75.1 == 3 then
(bif v5.gType == 3 then
(p_draw_Codes_Next n v75.2 2).bind fun v138 =>
(p_draw_Codes_Value n v138.2 3).bind fun v139 =>
 some ((TExpr.mk (w64 (9 + v138.1)) v5.gKind v5.gName ([v139.1]) ([])), v139.2)
 else
 p_draw_Codes_Test_K2 n v5 v75 )
 else
(bif v75.1 == 4 then
 p_draw_Codes_Test_K2 n v5 v75 
 else
 p_draw_Codes_Test_K1 n v5 v75.2.glist v75.2.gat))))))
variable {E : Env}
theorem s_draw_Codes_Test {n : Nat} (hG : GlobD E) {x0 : TCodes} {r : TExpr × TCodes} (H : p_draw_Codes_Test n x0 = some r) :
    Sp Tryz.prog E 47 [.ptr 0 0] [.cells 101 (TCodes.cs x0)] (isA (.agg (TExpr.cs r.1)) [.cells 101 (TCodes.cs r.2)]) := by
  unfold p_draw_Codes_Test at H
  refine Sp_fn Tryz.func47 rfl (fun hc hs => ?_)
  refine AWP_reg (R 1 124 [(0, .ptr 0 0), (2, .ptr 1 0)] [.cells 25 [iA 0, sA ByteArray.empty, sA ByteArray.empty, .ro .full 0 [], .ro .full 0 []], .cells 101 (TCodes.cs x0)] (AOps_done (AWP_reg ?_)))
  obtain ⟨v1, hv1, H⟩ := bind_some H
  refine AOps_callp (d := (some 8)) (al := []) (r := .ro .unk v1.length (TDeclared.cl v1)) (by kernel_rfl) (s_draw_Declared hv1) trivial (scl_TDeclared_cl _ _) ?_
  refine Rh 1 124 [(0, .ptr 0 0), (2, .ptr 1 0), (3, .ro .unk v1.length (TDeclared.cl v1))] (AOps_done (AWP_reg (Rh 4 124 [(0, .ptr 0 0), (2, .ptr 1 0), (3, .ro .unk v1.length (TDeclared.cl v1)), (9, .ptr 0 0), (12, iA (w64 ((lI v1) + 1)))] ?_)))
  obtain ⟨v2, hv2, H⟩ := bind_some H
  refine AOps_call1 (d := (some 13)) (al := [.ptr 0 0, iA (w64 ((lI v1) + 1))]) ([.ptr 0 0, iA (w64 ((lI v1) + 1))]) (r := iA v2.1) (j := 0) (b' := .cells 101 (TCodes.cs v2.2)) (by kernel_rfl) rfl (s_draw_Codes_Next hv2) (⟨(scl_cl_u8 _ _), trivial, trivial⟩) (⟨(scl_cl_u8 _ _), trivial, trivial⟩) ⟨Nat.zero_lt_one, trivial, trivial⟩ trivial rfl (h' := [.cells 25 [iA 0, sA ByteArray.empty, sA ByteArray.empty, .ro .full 0 [], .ro .full 0 []], .cells 101 (TCodes.cs v2.2)]) rfl ?_
  refine Rh 1 124 [(0, .ptr 0 0), (2, .ptr 1 0), (3, .ro .unk v1.length (TDeclared.cl v1)), (4, iA v2.1)] (AOps_done (AWP_seq (AWP_reg (Rh 4 124 [(0, .ptr 0 0), (2, .ptr 1 0), (3, .ro .unk v1.length (TDeclared.cl v1)), (4, iA v2.1), (17, bA (v2.1 == (lI v1)))] (AOps_done (CD H (fun hb3 H => ?_) (fun hb3 H => ?_)))))))
  · refine AWP_reg (Rh 1 124 [(2, .ptr 1 0), (18, .ptr 0 0)] ?_)
    obtain ⟨v4, hv4, H⟩ := bind_some H
    refine AOps_call1 (d := (some 19)) (al := [.ptr 0 0]) ([.ptr 0 0]) (r := sA v4.1) (j := 0) (b' := .cells 101 (TCodes.cs v4.2)) (by kernel_rfl) rfl (s_draw_Codes_Key hv4) (⟨(scl_cl_u8 _ _), trivial, trivial⟩) (⟨(scl_cl_u8 _ _), trivial, trivial⟩) ⟨Nat.zero_lt_one, trivial⟩ trivial rfl (h' := [.cells 25 [iA 0, sA ByteArray.empty, sA ByteArray.empty, .ro .full 0 [], .ro .full 0 []], .cells 101 (TCodes.cs v4.2)]) rfl ?_
    refine Rh 1 124 [(2, .ptr 1 0), (20, .agg [iA 3, iA 0, sA v4.1, .ro .full 0 []])] (AOps_bsl2 (d := (some 21)) (m := 1) (cs := [iA 3, iA 0, sA v4.1, .ro .full 0 []]) [iA 3, iA 0, sA v4.1, .ro .unk ([] : List ByteArray).length (cl_str ([] : List ByteArray))] (by kernel_rfl) ⟨trivial, trivial, trivial, trivial, trivial⟩ (leL_cons (AV.le_refl _) (leL_cons (AV.le_refl _) (leL_cons (AV.le_refl _) (leL_cons (AV.le_ro _ _ _) (leL_refl _))))) rfl ?_)
    refine R 2 124 [(2, .ptr 1 0)] [.cells 25 [iA 7, sA (⟨#[117, 115, 101, 114]⟩ : ByteArray), sA (⟨#[107, 101, 121]⟩ : ByteArray), .ro .unk ([({ gKind := 3, gNumber := 0, gText := v4.1, gList := [] } : TValue)]).length (TValue.cl ([({ gKind := 3, gNumber := 0, gText := v4.1, gList := [] } : TValue)])), .ro .full 0 []], .cells 101 (TCodes.cs v4.2)] (AOps_done (AWP_ret ?_))
    have hr := Option.some.inj H
    subst hr
    exact Fin_retn 1 (l := [.agg [iA 7, sA (⟨#[117, 115, 101, 114]⟩ : ByteArray), sA (⟨#[107, 101, 121]⟩ : ByteArray), .ro .unk ([({ gKind := 3, gNumber := 0, gText := v4.1, gList := [] } : TValue)]).length (TValue.cl ([({ gKind := 3, gNumber := 0, gText := v4.1, gList := [] } : TValue)])), .ro .full 0 []]]) (h' := [.cells 101 (TCodes.cs v4.2)]) (by kernel_rfl) rfl (Nat.le_of_ble_eq_true rfl) ((by refine Closed_of ?_; exact ⟨⟨(scl_cl_u8 _ _), trivial, trivial⟩, trivial⟩)) (Frz_agg (FrzL_cons (Frz_sc trivial) (FrzL_cons (Frz_sc trivial) (FrzL_cons (Frz_sc trivial) (FrzL_cons (Frz_sc (scl_TValue_cl _ _)) (FrzL_cons (Frz_le (Frz_sc trivial) (AV.le_ro _ _ _)) (FrzL_nil)))))) rfl) ⟨rfl, rfl⟩
  · refine AWP_skip ?_
    show AWP _ _ _ _ _ _ _
    refine AWP_reg (Rh 2 124 [(0, .ptr 0 0), (2, .ptr 1 0), (23, .ro .unk v1.length (TDeclared.cl v1)), (24, iA v2.1)] ?_)
    obtain ⟨v5, hv5, H⟩ := bind_some H
    refine AOps_index (d := (some 25)) (sz := 3) (c := TDeclared.cs) (by kernel_rfl) rfl (eq_TDeclared_cl _) (fun _ => rfl) (by decide) hv5 (fun tl5 => ?_)
    refine R 3 124 [(0, .ptr 0 0), (2, .ptr 1 0), (5, .ptr 2 0)] [.cells 112 (TDeclared.cs v5), .cells 25 [iA 0, sA ByteArray.empty, sA ByteArray.empty, .ro .full 0 [], .ro .full 0 []], .cells 101 (TCodes.cs v2.2)] (AOps_done (AWP_reg (R 7 124 [(0, .ptr 0 0), (2, .ptr 1 0), (5, .ptr 2 0), (6, .ptr 3 0)] [.cells 25 [iA 0, sA v5.gKind, sA v5.gName, .ro .full 0 [], .ro .full 0 []], .cells 112 (TDeclared.cs v5), .cells 25 [iA 0, sA ByteArray.empty, sA ByteArray.empty, .ro .full 0 [], .ro .full 0 []], .cells 101 (TCodes.cs v2.2)] (AOps_done (AWP_joinN (α := (List Int) × Int) (fun ⟨v72, v73⟩ => fr 124 [(0, .ptr 0 0), (2, .ptr 1 0), (5, .ptr 2 0), (6, .ptr 3 0)]) (fun ⟨v72, v73⟩ => [.cells 25 [iA 0, sA v5.gKind, sA v5.gName, .ro .full 0 [], .ro .full 0 []], .cells 112 (TDeclared.cs v5), .cells 25 [iA 0, sA ByteArray.empty, sA ByteArray.empty, .ro .full 0 [], .ro .full 0 []], .cells 101 [.ro .unk v72.length (cl_u8 v72), iA v73]]) (fun ⟨v72, v73⟩ => ∃ q, q ≤ q ∧ p_draw_Codes_Test_K1 q v5 v72 v73 = some r) (fun a hC => ?_) ?_)))))
    · obtain ⟨v72, v73⟩ := a
      show AWP _ _ _ _ _ (fr 124 [(0, .ptr 0 0), (2, .ptr 1 0), (5, .ptr 2 0), (6, .ptr 3 0)]) [.cells 25 [iA 0, sA v5.gKind, sA v5.gName, .ro .full 0 [], .ro .full 0 []], .cells 112 (TDeclared.cs v5), .cells 25 [iA 0, sA ByteArray.empty, sA ByteArray.empty, .ro .full 0 [], .ro .full 0 []], .cells 101 [.ro .unk v72.length (cl_u8 v72), iA v73]]
      obtain ⟨n, hn_, hC⟩ := hC
      replace H : p_draw_Codes_Test_K1 n v5 v72 v73 = some r := hC
      unfold p_draw_Codes_Test_K1 at H
      refine AWP_reg (R 2 124 [(0, .ptr 0 0), (2, .ptr 1 0), (5, .ptr 2 0), (6, .ptr 3 0)] [.cells 25 [iA 7, sA v5.gKind, sA v5.gName, .ro .full 0 [], .ro .full 0 []], .cells 112 (TDeclared.cs v5), .cells 25 [iA 0, sA ByteArray.empty, sA ByteArray.empty, .ro .full 0 [], .ro .full 0 []], .cells 101 [.ro .unk v72.length (cl_u8 v72), iA v73]] (AOps_done (AWP_reg (Rh 3 124 [(2, .ptr 1 0), (6, .ptr 3 0), (117, .ptr 0 0), (119, iA v5.gType)] ?_))))
      obtain ⟨v74, hv74, H⟩ := bind_some H
      refine AOps_call1 (d := (some 120)) (al := [.ptr 0 0, iA v5.gType]) ([.ptr 0 0, iA v5.gType]) (r := .agg (TValue.cs v74.1)) (j := 0) (b' := .cells 101 (TCodes.cs v74.2)) (by kernel_rfl) rfl (s_draw_Codes_Value hG hv74) (⟨(scl_cl_u8 _ _), trivial, trivial⟩) (⟨(scl_cl_u8 _ _), trivial, trivial⟩) ⟨Nat.zero_lt_one, trivial, trivial⟩ (sc_TValue_cs _ _) rfl (h' := [.cells 25 [iA 7, sA v5.gKind, sA v5.gName, .ro .full 0 [], .ro .full 0 []], .cells 112 (TDeclared.cs v5), .cells 25 [iA 0, sA ByteArray.empty, sA ByteArray.empty, .ro .full 0 [], .ro .full 0 []], .cells 101 (TCodes.cs v74.2)]) rfl ?_
      refine AOps_bsl (d := (some 121)) (m := 1) (cs := [iA v74.1.gKind, iA v74.1.gNumber, sA v74.1.gText, .ro .unk v74.1.gList.length (cl_str v74.1.gList)]) (by kernel_rfl) ⟨trivial, trivial, trivial, (scl_cl_str _ _), trivial⟩ ?_
      refine R 2 124 [(2, .ptr 1 0), (6, .ptr 3 0)] [.cells 25 [iA 7, sA v5.gKind, sA v5.gName, .ro .unk ([v74.1]).length (TValue.cl ([v74.1])), .ro .full 0 []], .cells 112 (TDeclared.cs v5), .cells 25 [iA 0, sA ByteArray.empty, sA ByteArray.empty, .ro .full 0 [], .ro .full 0 []], .cells 101 (TCodes.cs v74.2)] (AOps_done (AWP_reg (R 2 124 [(2, .ptr 1 0)] [.cells 25 [iA 7, sA v5.gKind, sA v5.gName, .ro .unk ([v74.1]).length (TValue.cl ([v74.1])), .ro .full 0 []], .cells 112 (TDeclared.cs v5), .cells 25 [iA 7, sA v5.gKind, sA v5.gName, .ro .unk ([v74.1]).length (TValue.cl ([v74.1])), .ro .full 0 []], .cells 101 (TCodes.cs v74.2)] (AOps_done (AWP_ret ?_)))))
      have hr := Option.some.inj H
      subst hr
      exact Fin_retn 3 (l := [.agg [iA 7, sA v5.gKind, sA v5.gName, .ro .unk ([v74.1]).length (TValue.cl ([v74.1])), .ro .full 0 []]]) (h' := [.cells 101 (TCodes.cs v74.2)]) (by kernel_rfl) rfl (Nat.le_of_ble_eq_true rfl) ((by refine Closed_of ?_; exact ⟨⟨(scl_cl_u8 _ _), trivial, trivial⟩, trivial⟩)) (Frz_agg (FrzL_cons (Frz_sc trivial) (FrzL_cons (Frz_sc trivial) (FrzL_cons (Frz_sc trivial) (FrzL_cons (Frz_sc (scl_TValue_cl _ _)) (FrzL_cons (Frz_le (Frz_sc trivial) (AV.le_ro _ _ _)) (FrzL_nil)))))) rfl) ⟨rfl, rfl⟩
    · refine AWP_reg (Rh 1 124 [(0, .ptr 0 0), (2, .ptr 1 0), (5, .ptr 2 0), (6, .ptr 3 0), (32, .ptr 0 0)] ?_)
      obtain ⟨v75, hv75, H⟩ := bind_some H
      refine AOps_call1 (d := (some 33)) (al := [.ptr 0 0, iA 5]) ([.ptr 0 0, iA 5]) (r := iA v75.1) (j := 0) (b' := .cells 101 (TCodes.cs v75.2)) (by kernel_rfl) rfl (s_draw_Codes_Next hv75) (⟨(scl_cl_u8 _ _), trivial, trivial⟩) (⟨(scl_cl_u8 _ _), trivial, trivial⟩) ⟨Nat.zero_lt_one, trivial, trivial⟩ trivial rfl (h' := [.cells 25 [iA 0, sA v5.gKind, sA v5.gName, .ro .full 0 [], .ro .full 0 []], .cells 112 (TDeclared.cs v5), .cells 25 [iA 0, sA ByteArray.empty, sA ByteArray.empty, .ro .full 0 [], .ro .full 0 []], .cells 101 (TCodes.cs v75.2)]) rfl ?_
      refine AOps_done (AWP_block ?_)
      refine AWP_joinN (α := Unit) (fun _ => fr 124 [(0, .ptr 0 0), (2, .ptr 1 0), (5, .ptr 2 0), (6, .ptr 3 0)]) (fun _ => [.cells 25 [iA 0, sA v5.gKind, sA v5.gName, .ro .full 0 [], .ro .full 0 []], .cells 112 (TDeclared.cs v5), .cells 25 [iA 0, sA ByteArray.empty, sA ByteArray.empty, .ro .full 0 [], .ro .full 0 []], .cells 101 (TCodes.cs v75.2)]) (fun _ => ∃ q, q ≤ q ∧ p_draw_Codes_Test_K2 q v5 v75  = some r) (fun a hC => ?_) ?_
      · show AWP _ _ _ _ _ (fr 124 [(0, .ptr 0 0), (2, .ptr 1 0), (5, .ptr 2 0), (6, .ptr 3 0)]) [.cells 25 [iA 0, sA v5.gKind, sA v5.gName, .ro .full 0 [], .ro .full 0 []], .cells 112 (TDeclared.cs v5), .cells 25 [iA 0, sA ByteArray.empty, sA ByteArray.empty, .ro .full 0 [], .ro .full 0 []], .cells 101 (TCodes.cs v75.2)]
        obtain ⟨n, hn_, hC⟩ := hC
        replace H : p_draw_Codes_Test_K2 n v5 v75  = some r := hC
        unfold p_draw_Codes_Test_K2 at H
        refine AWP_seq (AWP_reg (Rh 4 124 [(0, .ptr 0 0), (2, .ptr 1 0), (5, .ptr 2 0), (6, .ptr 3 0), (95, bA (v5.gType == 2))] (AOps_run 4 [0, 2, 5, 6, 99] (st' := fr 124 [(0, .ptr 0 0), (2, .ptr 1 0), (5, .ptr 2 0), (6, .ptr 3 0), (99, bA ((v5.gType == 2) || (v5.gType == 3)))]) (h' := [.cells 25 [iA 0, sA v5.gKind, sA v5.gName, .ro .full 0 [], .ro .full 0 []], .cells 112 (TDeclared.cs v5), .cells 25 [iA 0, sA ByteArray.empty, sA ByteArray.empty, .ro .full 0 [], .ro .full 0 []], .cells 101 (TCodes.cs v75.2)]) (by (generalize (v5.gType == 2) = t0; cases t0 <;> kernel_rfl)) ?_)))
        refine Rh 1 124 [(0, .ptr 0 0), (2, .ptr 1 0), (5, .ptr 2 0), (6, .ptr 3 0), (100, bA ((v5.gType == 2) || (v5.gType == 3)))] (AOps_run 4 [0, 2, 5, 6, 104] (st' := fr 124 [(0, .ptr 0 0), (2, .ptr 1 0), (5, .ptr 2 0), (6, .ptr 3 0), (104, bA (((v5.gType == 2) || (v5.gType == 3)) || (v5.gType == 4)))]) (h' := [.cells 25 [iA 0, sA v5.gKind, sA v5.gName, .ro .full 0 [], .ro .full 0 []], .cells 112 (TDeclared.cs v5), .cells 25 [iA 0, sA ByteArray.empty, sA ByteArray.empty, .ro .full 0 [], .ro .full 0 []], .cells 101 (TCodes.cs v75.2)]) (by (generalize (v5.gType == 2) = t0; generalize (v5.gType == 3) = t1; cases t0 <;> cases t1 <;> kernel_rfl)) ?_)
        refine AOps_done (CD H (fun hb107 H => ?_) (fun hb107 H => ?_))
        · refine AWP_reg (Rh 1 124 [(0, .ptr 0 0), (2, .ptr 1 0), (5, .ptr 2 0), (6, .ptr 3 0), (105, .ptr 0 0)] ?_)
          obtain ⟨v108, hv108, H⟩ := bind_some H
          refine AOps_call1 (d := (some 106)) (al := [.ptr 0 0, iA 4]) ([.ptr 0 0, iA 4]) (r := iA v108.1) (j := 0) (b' := .cells 101 (TCodes.cs v108.2)) (by kernel_rfl) rfl (s_draw_Codes_Next hv108) (⟨(scl_cl_u8 _ _), trivial, trivial⟩) (⟨(scl_cl_u8 _ _), trivial, trivial⟩) ⟨Nat.zero_lt_one, trivial, trivial⟩ trivial rfl (h' := [.cells 25 [iA 0, sA v5.gKind, sA v5.gName, .ro .full 0 [], .ro .full 0 []], .cells 112 (TDeclared.cs v5), .cells 25 [iA 0, sA ByteArray.empty, sA ByteArray.empty, .ro .full 0 [], .ro .full 0 []], .cells 101 (TCodes.cs v108.2)]) rfl ?_
          refine R 3 124 [(0, .ptr 0 0), (2, .ptr 1 0), (5, .ptr 2 0), (6, .ptr 3 0)] [.cells 25 [iA (w64 (12 + v108.1)), sA v5.gKind, sA v5.gName, .ro .full 0 [], .ro .full 0 []], .cells 112 (TDeclared.cs v5), .cells 25 [iA 0, sA ByteArray.empty, sA ByteArray.empty, .ro .full 0 [], .ro .full 0 []], .cells 101 (TCodes.cs v108.2)] (AOps_done (AWP_reg (Rh 3 124 [(2, .ptr 1 0), (6, .ptr 3 0), (109, .ptr 0 0), (111, iA v5.gType)] ?_)))
          obtain ⟨v109, hv109, H⟩ := bind_some H
          refine AOps_call1 (d := (some 112)) (al := [.ptr 0 0, iA v5.gType]) ([.ptr 0 0, iA v5.gType]) (r := .agg (TValue.cs v109.1)) (j := 0) (b' := .cells 101 (TCodes.cs v109.2)) (by kernel_rfl) rfl (s_draw_Codes_Value hG hv109) (⟨(scl_cl_u8 _ _), trivial, trivial⟩) (⟨(scl_cl_u8 _ _), trivial, trivial⟩) ⟨Nat.zero_lt_one, trivial, trivial⟩ (sc_TValue_cs _ _) rfl (h' := [.cells 25 [iA (w64 (12 + v108.1)), sA v5.gKind, sA v5.gName, .ro .full 0 [], .ro .full 0 []], .cells 112 (TDeclared.cs v5), .cells 25 [iA 0, sA ByteArray.empty, sA ByteArray.empty, .ro .full 0 [], .ro .full 0 []], .cells 101 (TCodes.cs v109.2)]) rfl ?_
          refine AOps_bsl (d := (some 113)) (m := 1) (cs := [iA v109.1.gKind, iA v109.1.gNumber, sA v109.1.gText, .ro .unk v109.1.gList.length (cl_str v109.1.gList)]) (by kernel_rfl) ⟨trivial, trivial, trivial, (scl_cl_str _ _), trivial⟩ ?_
          refine R 2 124 [(2, .ptr 1 0), (6, .ptr 3 0)] [.cells 25 [iA (w64 (12 + v108.1)), sA v5.gKind, sA v5.gName, .ro .unk ([v109.1]).length (TValue.cl ([v109.1])), .ro .full 0 []], .cells 112 (TDeclared.cs v5), .cells 25 [iA 0, sA ByteArray.empty, sA ByteArray.empty, .ro .full 0 [], .ro .full 0 []], .cells 101 (TCodes.cs v109.2)] (AOps_done (AWP_reg (R 2 124 [(2, .ptr 1 0)] [.cells 25 [iA (w64 (12 + v108.1)), sA v5.gKind, sA v5.gName, .ro .unk ([v109.1]).length (TValue.cl ([v109.1])), .ro .full 0 []], .cells 112 (TDeclared.cs v5), .cells 25 [iA (w64 (12 + v108.1)), sA v5.gKind, sA v5.gName, .ro .unk ([v109.1]).length (TValue.cl ([v109.1])), .ro .full 0 []], .cells 101 (TCodes.cs v109.2)] (AOps_done (AWP_ret ?_)))))
          have hr := Option.some.inj H
          subst hr
          exact Fin_retn 3 (l := [.agg [iA (w64 (12 + v108.1)), sA v5.gKind, sA v5.gName, .ro .unk ([v109.1]).length (TValue.cl ([v109.1])), .ro .full 0 []]]) (h' := [.cells 101 (TCodes.cs v109.2)]) (by kernel_rfl) rfl (Nat.le_of_ble_eq_true rfl) ((by refine Closed_of ?_; exact ⟨⟨(scl_cl_u8 _ _), trivial, trivial⟩, trivial⟩)) (Frz_agg (FrzL_cons (Frz_sc trivial) (FrzL_cons (Frz_sc trivial) (FrzL_cons (Frz_sc trivial) (FrzL_cons (Frz_sc (scl_TValue_cl _ _)) (FrzL_cons (Frz_le (Frz_sc trivial) (AV.le_ro _ _ _)) (FrzL_nil)))))) rfl) ⟨rfl, rfl⟩
        · refine AWP_skip ?_
          show AWP _ _ _ _ _ _ _
          refine AWP_exit ?_
          exact Exists.intro (v75.2.glist, v75.2.gat) ⟨⟨n, by omega, H⟩, Norm_fd [0, 2, 5, 6] 0 (by kernel_rfl) rfl rfl ⟨⟨trivial, trivial, trivial, trivial, trivial, trivial⟩, (sc_TDeclared_cs _ _), ⟨trivial, trivial, trivial, trivial, trivial, trivial⟩, ⟨(scl_cl_u8 _ _), trivial, trivial⟩, trivial⟩ (by refine scL_fr ?_; exact ⟨(sc_ptr rfl), (sc_ptr rfl), (sc_ptr rfl), (sc_ptr rfl), trivial⟩)⟩
      · refine AWP_block ?_
        refine AWP_seq (AWP_block ?_)
        refine AWP_seq (AWP_block ?_)
        refine AWP_seq (AWP_block ?_)
        refine AWP_seq (AWP_block ?_)
        refine AWP_seq (AWP_seq (AWP_reg (Rh 2 124 [(0, .ptr 0 0), (2, .ptr 1 0), (5, .ptr 2 0), (6, .ptr 3 0), (33, iA v75.1), (34, bA (v75.1 == 0))] (AOps_done (CD H (fun hb110 H => ?_) (fun hb110 H => ?_))))))
        · refine AWP_exit ?_
          show AWP _ _ _ _ _ _ _
          refine AWP_seq (AWP_reg (R 2 124 [(2, .ptr 1 0), (6, .ptr 3 0)] [.cells 25 [iA 6, sA v5.gKind, sA v5.gName, .ro .full 0 [], .ro .full 0 []], .cells 112 (TDeclared.cs v5), .cells 25 [iA 0, sA ByteArray.empty, sA ByteArray.empty, .ro .full 0 [], .ro .full 0 []], .cells 101 (TCodes.cs v75.2)] (AOps_done (AWP_reg (R 2 124 [(2, .ptr 1 0)] [.cells 25 [iA 6, sA v5.gKind, sA v5.gName, .ro .full 0 [], .ro .full 0 []], .cells 112 (TDeclared.cs v5), .cells 25 [iA 6, sA v5.gKind, sA v5.gName, .ro .full 0 [], .ro .full 0 []], .cells 101 (TCodes.cs v75.2)] (AOps_done (AWP_ret ?_)))))))
          have hr := Option.some.inj H
          subst hr
          exact Fin_retn 3 (l := [.agg [iA 6, sA v5.gKind, sA v5.gName, .ro .full 0 [], .ro .full 0 []]]) (h' := [.cells 101 (TCodes.cs v75.2)]) (by kernel_rfl) rfl (Nat.le_of_ble_eq_true rfl) ((by refine Closed_of ?_; exact ⟨⟨(scl_cl_u8 _ _), trivial, trivial⟩, trivial⟩)) (Frz_agg (FrzL_cons (Frz_sc trivial) (FrzL_cons (Frz_sc trivial) (FrzL_cons (Frz_sc trivial) (FrzL_cons (Frz_le (Frz_sc trivial) (AV.le_ro _ _ _)) (FrzL_cons (Frz_le (Frz_sc trivial) (AV.le_ro _ _ _)) (FrzL_nil)))))) rfl) ⟨rfl, rfl⟩
        · refine AWP_skip ?_
          show AWP _ _ _ _ _ _ _
          refine AWP_seq (AWP_reg (Rh 2 124 [(0, .ptr 0 0), (2, .ptr 1 0), (5, .ptr 2 0), (6, .ptr 3 0), (33, iA v75.1), (36, bA (v75.1 == 1))] (AOps_done (CD H (fun hb111 H => ?_) (fun hb111 H => ?_)))))
          · refine AWP_exit ?_
            show AWP _ _ _ _ _ _ _
            refine AWP_seq (AWP_reg (Rh 3 124 [(0, .ptr 0 0), (2, .ptr 1 0), (5, .ptr 2 0), (6, .ptr 3 0), (48, bA (v5.gType != 5))] (AOps_done (CD H (fun hb112 H => ?_) (fun hb112 H => ?_)))))
            · refine AWP_reg (R 2 124 [(0, .ptr 0 0), (2, .ptr 1 0), (5, .ptr 2 0), (6, .ptr 3 0)] [.cells 25 [iA 8, sA v5.gKind, sA v5.gName, .ro .full 0 [], .ro .full 0 []], .cells 112 (TDeclared.cs v5), .cells 25 [iA 0, sA ByteArray.empty, sA ByteArray.empty, .ro .full 0 [], .ro .full 0 []], .cells 101 (TCodes.cs v75.2)] (AOps_done (AWP_seq (AWP_reg (Rh 1 124 [(0, .ptr 0 0), (2, .ptr 1 0), (5, .ptr 2 0), (6, .ptr 3 0), (7, iA 0)] (AOps_done (AWP_block ?_)))))))
              refine AWP_loopN (α := Int × (List Int) × Int × (List TValue)) (fun ⟨v125, v126, v127, v128⟩ => fr 124 [(0, .ptr 0 0), (2, .ptr 1 0), (5, .ptr 2 0), (6, .ptr 3 0), (7, iA v125)]) (fun ⟨v125, v126, v127, v128⟩ => [.row 58 (TValue.cl v128), .cells 25 [iA 8, sA v5.gKind, sA v5.gName, .sl 4 0 v128.length (.whole 4), .ro .full 0 []], .cells 112 (TDeclared.cs v5), .cells 25 [iA 0, sA ByteArray.empty, sA ByteArray.empty, .ro .full 0 [], .ro .full 0 []], .cells 101 [.ro .unk v126.length (cl_u8 v126), iA v127]]) (fun k_ ⟨v125, v126, v127, v128⟩ => k_ ≤ n ∧ p_draw_Codes_Test_L1 k_ v5 v125 v126 v127 v128 = some r) (fun n a H => ?_) (k := n) (0, v75.2.glist, v75.2.gat, []) ⟨Nat.le_refl _, H⟩ (Norm_trans (Norm_fd (st' := fr 124 [(0, .ptr 0 0), (2, .ptr 1 0), (5, .ptr 2 0), (6, .ptr 3 0), (7, iA 0)]) (h' := [.cells 25 [iA 8, sA v5.gKind, sA v5.gName, .ro .full 0 [], .ro .full 0 []], .cells 112 (TDeclared.cs v5), .cells 25 [iA 0, sA ByteArray.empty, sA ByteArray.empty, .ro .full 0 [], .ro .full 0 []], .cells 101 (TCodes.cs v75.2)]) [0, 2, 5, 6, 7] 0 (by kernel_rfl) rfl rfl ⟨⟨trivial, trivial, trivial, trivial, trivial, trivial⟩, (sc_TDeclared_cs _ _), ⟨trivial, trivial, trivial, trivial, trivial, trivial⟩, ⟨(scl_cl_u8 _ _), trivial, trivial⟩, trivial⟩ (by refine scL_fr ?_; exact ⟨(sc_ptr rfl), (sc_ptr rfl), (sc_ptr rfl), (sc_ptr rfl), trivial, trivial⟩)) (Norm_trans (Norm_nilc' (st := fr 124 [(0, .ptr 0 0), (2, .ptr 1 0), (5, .ptr 2 0), (6, .ptr 3 0), (7, iA 0)]) (ty := 25) (cs := [iA 8, sA v5.gKind, sA v5.gName, .ro .full 0 [], .ro .full 0 []]) (h' := [.row 58 (TValue.cl ([])), .cells 25 [iA 8, sA v5.gKind, sA v5.gName, .sl 4 0 ([] : List TValue).length (.whole 4), .ro .full 0 []], .cells 112 (TDeclared.cs v5), .cells 25 [iA 0, sA ByteArray.empty, sA ByteArray.empty, .ro .full 0 [], .ro .full 0 []], .cells 101 (TCodes.cs v75.2)]) 3 3 4 58 4 rfl rfl (by kernel_rfl) (by kernel_rfl)) (Norm_fd [0, 2, 5, 6, 7] 0 (by kernel_rfl) rfl rfl ⟨(scl_TValue_cl _ _), ⟨trivial, trivial, trivial, (sc_sl rfl), trivial, trivial⟩, (sc_TDeclared_cs _ _), ⟨trivial, trivial, trivial, trivial, trivial, trivial⟩, ⟨(scl_cl_u8 _ _), trivial, trivial⟩, trivial⟩ (by refine scL_fr ?_; exact ⟨(sc_ptr rfl), (sc_ptr rfl), (sc_ptr rfl), (sc_ptr rfl), trivial, trivial⟩))))
              obtain ⟨v125, v126, v127, v128⟩ := a
              show AWP _ _ _ _ _ (fr 124 [(0, .ptr 0 0), (2, .ptr 1 0), (5, .ptr 2 0), (6, .ptr 3 0), (7, iA v125)]) [.row 58 (TValue.cl v128), .cells 25 [iA 8, sA v5.gKind, sA v5.gName, .sl 4 0 v128.length (.whole 4), .ro .full 0 []], .cells 112 (TDeclared.cs v5), .cells 25 [iA 0, sA ByteArray.empty, sA ByteArray.empty, .ro .full 0 [], .ro .full 0 []], .cells 101 [.ro .unk v126.length (cl_u8 v126), iA v127]]
              obtain ⟨hb_, H⟩ := H
              replace H : p_draw_Codes_Test_L1 n v5 v125 v126 v127 v128 = some r := H
              cases n with
              | zero => exact not_none (by simpa only [p_draw_Codes_Test_L1] using H)
              | succ n =>
                unfold p_draw_Codes_Test_L1 at H
                refine AWP_seq (AWP_reg (Rh 2 124 [(0, .ptr 0 0), (2, .ptr 1 0), (5, .ptr 2 0), (6, .ptr 3 0), (7, iA v125), (50, iA v125), (51, .ptr 0 0)] ?_))
                obtain ⟨v129, hv129, H⟩ := bind_some H
                refine AOps_call1 (d := (some 52)) (al := [.ptr 0 0, iA 3]) ([.ptr 0 0, iA 3]) (r := iA v129.1) (j := 0) (b' := .cells 101 (TCodes.cs v129.2)) (by kernel_rfl) rfl (s_draw_Codes_Next hv129) (⟨(scl_cl_u8 _ _), trivial, trivial⟩) (⟨(scl_cl_u8 _ _), trivial, trivial⟩) ⟨Nat.zero_lt_one, trivial, trivial⟩ trivial rfl (h' := [.row 58 (TValue.cl v128), .cells 25 [iA 8, sA v5.gKind, sA v5.gName, .sl 4 0 v128.length (.whole 4), .ro .full 0 []], .cells 112 (TDeclared.cs v5), .cells 25 [iA 0, sA ByteArray.empty, sA ByteArray.empty, .ro .full 0 [], .ro .full 0 []], .cells 101 (TCodes.cs v129.2)]) rfl ?_
                refine Rh 1 124 [(0, .ptr 0 0), (2, .ptr 1 0), (5, .ptr 2 0), (6, .ptr 3 0), (7, iA v125), (53, bA (decide (v125 ≤ v129.1)))] (AOps_done (CD H (fun hb130 H => ?_) (fun hb130 H => ?_)))
                · refine AWP_skip ?_
                  show AWP _ _ _ _ _ _ _
                  refine AWP_seq (AWP_block ?_)
                  obtain ⟨v131, hv131, H⟩ := bind_some H
                  obtain ⟨v132, hv132, H⟩ := bind_some H
                  refine AWP_regE1 [0, 1, 2, 3, 4, 5, 6, 7, 8, 9] (N := 124) (f := [(0, .ptr 0 0), (2, .ptr 1 0), (5, .ptr 2 0), (6, .ptr 3 0), (7, iA v125)]) (leL_of [0, 2, 5, 6, 7] (by kernel_rfl)) mixed (by kernel_rfl) (by kernel_rfl) (st' := fr 124 [(0, .ptr 0 0), (2, .ptr 1 0), (5, .ptr 2 0), (6, .ptr 3 0), (7, iA v125)]) (h' := [.row 58 (TValue.cl v132), .dead, .cells 25 [iA 8, sA v5.gKind, sA v5.gName, .sl 5 0 v132.length (.whole 4), .ro .full 0 []], .cells 112 (TDeclared.cs v5), .cells 25 [iA 0, sA ByteArray.empty, sA ByteArray.empty, .ro .full 0 [], .ro .full 0 []], .cells 101 (TCodes.cs v131.2)]) ?_ ?_
                  rotate_left
                  · refine RD 5 124 [(4, 2), (3, 2), (1, 3), (0, 3)] [(0, .ptr 0 0), (2, .ptr 1 0), (5, .ptr 2 0), (6, .ptr 3 0), (7, iA v125), (56, .ptr 3 3), (57, .sl 4 0 v128.length (.whole 4)), (58, .ptr 0 0), (59, .ptr 2 2), (60, iA v5.gType)] (AD_call1 (d := (some 61)) (al := [.ptr 0 0, iA v5.gType]) ([.ptr 0 0, iA v5.gType]) (r := .agg (TValue.cs v131.1)) (j := 0) (b' := .cells 101 (TCodes.cs v131.2)) (by kernel_rfl) rfl (s_draw_Codes_Value hG hv131) (⟨(scl_cl_u8 _ _), trivial, trivial⟩) (⟨(scl_cl_u8 _ _), trivial, trivial⟩) ⟨Nat.zero_lt_one, trivial, trivial⟩ (sc_TValue_cs _ _) rfl (h' := [.row 58 (TValue.cl v128), .cells 25 [iA 8, sA v5.gKind, sA v5.gName, .sl 4 0 v128.length (.whole 4), .ro .full 0 []], .cells 112 (TDeclared.cs v5), .cells 25 [iA 0, sA ByteArray.empty, sA ByteArray.empty, .ro .full 0 [], .ro .full 0 []], .cells 101 (TCodes.cs v131.2)]) rfl ?_)
                    refine AD_bsl (d := (some 62)) (m := 1) (cs := [iA v131.1.gKind, iA v131.1.gNumber, sA v131.1.gText, .ro .unk v131.1.gList.length (cl_str v131.1.gList)]) (by kernel_rfl) ⟨trivial, trivial, trivial, (scl_cl_str _ _), trivial⟩ ?_
                    refine AD_append (d := (some 63)) (c := TValue.cs) (sz := 4) (bs := 56) (e := 58) (id := 4) (xs := v128) (ys := [v131.1]) (by kernel_rfl) rfl (eq_TValue_cl _) rfl (eq_TValue_cl _) (fun _ => rfl) (by kernel_rfl) (by kernel_rfl) hv132 (eq_TValue_cl _) (by kernel_rfl) (h' := [.row 58 (TValue.cl v132), .dead, .cells 25 [iA 8, sA v5.gKind, sA v5.gName, .sl 4 0 v128.length (.whole 4), .ro .full 0 []], .cells 112 (TDeclared.cs v5), .cells 25 [iA 0, sA ByteArray.empty, sA ByteArray.empty, .ro .full 0 [], .ro .full 0 []], .cells 101 (TCodes.cs v131.2)]) rfl ?_
                    refine RD 1 124 [(8, 3), (4, 2), (3, 2), (1, 3), (0, 3)] [(0, .ptr 0 0), (2, .ptr 1 0), (5, .ptr 2 0), (6, .ptr 3 0), (7, iA v125), (56, .ptr 3 3), (57, .sl 4 0 v128.length (.whole 4)), (58, .ptr 0 0), (59, .ptr 2 2), (60, iA v5.gType), (61, .agg (TValue.cs v131.1)), (62, .ro .unk ([v131.1]).length (TValue.cl ([v131.1]))), (63, .sl 5 0 v132.length (.whole 4)), (64, .ptr 3 3)] (AD_store (d := none) (id := 3) (h' := [.row 58 (TValue.cl v132), .dead, .cells 25 [iA 8, sA v5.gKind, sA v5.gName, .sl 5 0 v132.length (.whole 4), .ro .full 0 []], .cells 112 (TDeclared.cs v5), .cells 25 [iA 0, sA ByteArray.empty, sA ByteArray.empty, .ro .full 0 [], .ro .full 0 []], .cells 101 (TCodes.cs v131.2)]) (by kernel_rfl) (by kernel_rfl) ?_)
                    exact AD_here [0, 2, 5, 6, 7] (by kernel_rfl) rfl
                  show AWP _ _ _ _ _ _ _
                  refine AWP_region ?_
                  refine Rh 3 124 [(0, .ptr 0 0), (2, .ptr 1 0), (5, .ptr 2 0), (6, .ptr 3 0), (7, iA (w64 (v125 + 1)))] (AOps_done ?_)
                  exact Exists.intro (w64 (v125 + 1), v131.2.glist, v131.2.gat, v132) (Exists.intro n ⟨by omega, ⟨by omega, H⟩, Norm_trans (Norm_fd (st' := fr 124 [(0, .ptr 0 0), (2, .ptr 1 0), (5, .ptr 2 0), (6, .ptr 3 0), (7, iA (w64 (v125 + 1)))]) (h' := [.row 58 (TValue.cl v132), .dead, .cells 25 [iA 8, sA v5.gKind, sA v5.gName, .sl 5 0 v132.length (.whole 4), .ro .full 0 []], .cells 112 (TDeclared.cs v5), .cells 25 [iA 0, sA ByteArray.empty, sA ByteArray.empty, .ro .full 0 [], .ro .full 0 []], .cells 101 (TCodes.cs v131.2)]) [0, 2, 5, 6, 7] 0 (by kernel_rfl) rfl rfl ⟨(scl_TValue_cl _ _), trivial, ⟨trivial, trivial, trivial, (sc_sl rfl), trivial, trivial⟩, (sc_TDeclared_cs _ _), ⟨trivial, trivial, trivial, trivial, trivial, trivial⟩, ⟨(scl_cl_u8 _ _), trivial, trivial⟩, trivial⟩ (by refine scL_fr ?_; exact ⟨(sc_ptr rfl), (sc_ptr rfl), (sc_ptr rfl), (sc_ptr rfl), trivial, trivial⟩)) (Norm_trans (Norm_move' (st' := fr 124 [(0, .ptr 0 0), (2, .ptr 1 0), (5, .ptr 2 0), (6, .ptr 3 0), (7, iA (w64 (v125 + 1)))]) (h' := [.row 58 (TValue.cl v132), .cells 25 [iA 8, sA v5.gKind, sA v5.gName, .sl 4 0 v132.length (.whole 4), .ro .full 0 []], .cells 112 (TDeclared.cs v5), .cells 25 [iA 0, sA ByteArray.empty, sA ByteArray.empty, .ro .full 0 [], .ro .full 0 []], .cells 101 (TCodes.cs v131.2)]) 4 5 rfl rfl rfl (fun h => by cases h) (by refine toOkL_fr ?_; exact ⟨(toOk_ptr rfl), (toOk_ptr rfl), (toOk_ptr rfl), (toOk_ptr rfl), trivial, trivial⟩) ⟨(on0 (scl_TValue_cl _ _)), trivial, ⟨trivial, trivial, trivial, (toOk_sl rfl), trivial, trivial⟩, ⟨trivial, trivial, trivial, trivial⟩, ⟨trivial, trivial, trivial, trivial, trivial, trivial⟩, ⟨(on0 (scl_cl_u8 _ _)), trivial, trivial⟩, trivial⟩ (by kernel_rfl) (by kernel_rfl)) (Norm_fd [0, 2, 5, 6, 7] 0 (by kernel_rfl) rfl rfl ⟨(scl_TValue_cl _ _), ⟨trivial, trivial, trivial, (sc_sl rfl), trivial, trivial⟩, (sc_TDeclared_cs _ _), ⟨trivial, trivial, trivial, trivial, trivial, trivial⟩, ⟨(scl_cl_u8 _ _), trivial, trivial⟩, trivial⟩ (by refine scL_fr ?_; exact ⟨(sc_ptr rfl), (sc_ptr rfl), (sc_ptr rfl), (sc_ptr rfl), trivial, trivial⟩)))⟩)
                · refine AWP_exit ?_
                  show AWP _ _ _ _ _ _ _
                  refine AWP_reg (R 2 124 [(2, .ptr 1 0)] [.row 58 (TValue.cl v128), .cells 25 [iA 8, sA v5.gKind, sA v5.gName, .sl 4 0 v128.length (.whole 4), .ro .full 0 []], .cells 112 (TDeclared.cs v5), .cells 25 [iA 8, sA v5.gKind, sA v5.gName, .sl 4 0 v128.length (.whole 4), .ro .full 0 []], .cells 101 (TCodes.cs v129.2)] (AOps_done (AWP_ret ?_)))
                  have hr := Option.some.inj H
                  subst hr
                  exact Fin_retn 4 (l := [.agg [iA 8, sA v5.gKind, sA v5.gName, .sl 4 0 v128.length (.whole 4), .ro .full 0 []]]) (h' := [.cells 101 (TCodes.cs v129.2)]) (by kernel_rfl) rfl (Nat.le_of_ble_eq_true rfl) ((by refine Closed_of ?_; exact ⟨⟨(scl_cl_u8 _ _), trivial, trivial⟩, trivial⟩)) (Frz_agg (FrzL_cons (Frz_sc trivial) (FrzL_cons (Frz_sc trivial) (FrzL_cons (Frz_sc trivial) (FrzL_cons (Frz_row (t := 58) (cs := TValue.cl v128) rfl (scl_TValue_cl _ _)) (FrzL_cons (Frz_le (Frz_sc trivial) (AV.le_ro _ _ _)) (FrzL_nil)))))) rfl) ⟨rfl, rfl⟩
            · refine AWP_skip ?_
              show AWP _ _ _ _ _ _ _
              refine AWP_exit ?_
              exact Exists.intro (v75.2.glist, v75.2.gat) ⟨⟨n, by omega, H⟩, Norm_fd [0, 2, 5, 6] 0 (by kernel_rfl) rfl rfl ⟨⟨trivial, trivial, trivial, trivial, trivial, trivial⟩, (sc_TDeclared_cs _ _), ⟨trivial, trivial, trivial, trivial, trivial, trivial⟩, ⟨(scl_cl_u8 _ _), trivial, trivial⟩, trivial⟩ (by refine scL_fr ?_; exact ⟨(sc_ptr rfl), (sc_ptr rfl), (sc_ptr rfl), (sc_ptr rfl), trivial⟩)⟩
          · refine AWP_skip ?_
            show AWP _ _ _ _ _ _ _
            refine AWP_seq (AWP_reg (Rh 2 124 [(0, .ptr 0 0), (2, .ptr 1 0), (5, .ptr 2 0), (6, .ptr 3 0), (33, iA v75.1), (38, bA (v75.1 == 2))] (AOps_done (CD H (fun hb133 H => ?_) (fun hb133 H => ?_)))))
            · refine AWP_exit ?_
              show AWP _ _ _ _ _ _ _
              refine AWP_seq (AWP_reg (Rh 4 124 [(0, .ptr 0 0), (2, .ptr 1 0), (5, .ptr 2 0), (6, .ptr 3 0), (69, bA (v5.gType == 3))] (AOps_run 4 [0, 2, 5, 6, 73] (st' := fr 124 [(0, .ptr 0 0), (2, .ptr 1 0), (5, .ptr 2 0), (6, .ptr 3 0), (73, bA ((v5.gType == 3) || (v5.gType == 5)))]) (h' := [.cells 25 [iA 0, sA v5.gKind, sA v5.gName, .ro .full 0 [], .ro .full 0 []], .cells 112 (TDeclared.cs v5), .cells 25 [iA 0, sA ByteArray.empty, sA ByteArray.empty, .ro .full 0 [], .ro .full 0 []], .cells 101 (TCodes.cs v75.2)]) (by (generalize (v5.gType == 3) = t0; cases t0 <;> kernel_rfl)) ?_)))
              refine AOps_done (CD H (fun hb134 H => ?_) (fun hb134 H => ?_))
              · refine AWP_reg (R 2 124 [(0, .ptr 0 0), (2, .ptr 1 0), (6, .ptr 3 0)] [.cells 25 [iA 11, sA v5.gKind, sA v5.gName, .ro .full 0 [], .ro .full 0 []], .cells 112 (TDeclared.cs v5), .cells 25 [iA 0, sA ByteArray.empty, sA ByteArray.empty, .ro .full 0 [], .ro .full 0 []], .cells 101 (TCodes.cs v75.2)] (AOps_done (AWP_reg (Rh 1 124 [(2, .ptr 1 0), (6, .ptr 3 0), (75, .ptr 0 0)] ?_))))
                obtain ⟨v135, hv135, H⟩ := bind_some H
                refine AOps_call1 (d := (some 76)) (al := [.ptr 0 0, iA 3]) ([.ptr 0 0, iA 3]) (r := .agg (TValue.cs v135.1)) (j := 0) (b' := .cells 101 (TCodes.cs v135.2)) (by kernel_rfl) rfl (s_draw_Codes_Value hG hv135) (⟨(scl_cl_u8 _ _), trivial, trivial⟩) (⟨(scl_cl_u8 _ _), trivial, trivial⟩) ⟨Nat.zero_lt_one, trivial, trivial⟩ (sc_TValue_cs _ _) rfl (h' := [.cells 25 [iA 11, sA v5.gKind, sA v5.gName, .ro .full 0 [], .ro .full 0 []], .cells 112 (TDeclared.cs v5), .cells 25 [iA 0, sA ByteArray.empty, sA ByteArray.empty, .ro .full 0 [], .ro .full 0 []], .cells 101 (TCodes.cs v135.2)]) rfl ?_
                refine AOps_bsl (d := (some 77)) (m := 1) (cs := [iA v135.1.gKind, iA v135.1.gNumber, sA v135.1.gText, .ro .unk v135.1.gList.length (cl_str v135.1.gList)]) (by kernel_rfl) ⟨trivial, trivial, trivial, (scl_cl_str _ _), trivial⟩ ?_
                refine R 2 124 [(2, .ptr 1 0), (6, .ptr 3 0)] [.cells 25 [iA 11, sA v5.gKind, sA v5.gName, .ro .unk ([v135.1]).length (TValue.cl ([v135.1])), .ro .full 0 []], .cells 112 (TDeclared.cs v5), .cells 25 [iA 0, sA ByteArray.empty, sA ByteArray.empty, .ro .full 0 [], .ro .full 0 []], .cells 101 (TCodes.cs v135.2)] (AOps_done (AWP_reg (R 2 124 [(2, .ptr 1 0)] [.cells 25 [iA 11, sA v5.gKind, sA v5.gName, .ro .unk ([v135.1]).length (TValue.cl ([v135.1])), .ro .full 0 []], .cells 112 (TDeclared.cs v5), .cells 25 [iA 11, sA v5.gKind, sA v5.gName, .ro .unk ([v135.1]).length (TValue.cl ([v135.1])), .ro .full 0 []], .cells 101 (TCodes.cs v135.2)] (AOps_done (AWP_ret ?_)))))
                have hr := Option.some.inj H
                subst hr
                exact Fin_retn 3 (l := [.agg [iA 11, sA v5.gKind, sA v5.gName, .ro .unk ([v135.1]).length (TValue.cl ([v135.1])), .ro .full 0 []]]) (h' := [.cells 101 (TCodes.cs v135.2)]) (by kernel_rfl) rfl (Nat.le_of_ble_eq_true rfl) ((by refine Closed_of ?_; exact ⟨⟨(scl_cl_u8 _ _), trivial, trivial⟩, trivial⟩)) (Frz_agg (FrzL_cons (Frz_sc trivial) (FrzL_cons (Frz_sc trivial) (FrzL_cons (Frz_sc trivial) (FrzL_cons (Frz_sc (scl_TValue_cl _ _)) (FrzL_cons (Frz_le (Frz_sc trivial) (AV.le_ro _ _ _)) (FrzL_nil)))))) rfl) ⟨rfl, rfl⟩
              · refine AWP_skip ?_
                show AWP _ _ _ _ _ _ _
                refine AWP_exit ?_
                exact Exists.intro (v75.2.glist, v75.2.gat) ⟨⟨n, by omega, H⟩, Norm_fd [0, 2, 5, 6] 0 (by kernel_rfl) rfl rfl ⟨⟨trivial, trivial, trivial, trivial, trivial, trivial⟩, (sc_TDeclared_cs _ _), ⟨trivial, trivial, trivial, trivial, trivial, trivial⟩, ⟨(scl_cl_u8 _ _), trivial, trivial⟩, trivial⟩ (by refine scL_fr ?_; exact ⟨(sc_ptr rfl), (sc_ptr rfl), (sc_ptr rfl), (sc_ptr rfl), trivial⟩)⟩
            · refine AWP_skip ?_
              show AWP _ _ _ _ _ _ _
              refine AWP_seq (AWP_reg (Rh 2 124 [(0, .ptr 0 0), (2, .ptr 1 0), (5, .ptr 2 0), (6, .ptr 3 0), (33, iA v75.1), (40, bA (v75.1 == 3))] (AOps_done (CD H (fun hb136 H => ?_) (fun hb136 H => ?_)))))
              · refine AWP_exit ?_
                show AWP _ _ _ _ _ _ _
                refine AWP_reg (Rh 3 124 [(0, .ptr 0 0), (2, .ptr 1 0), (5, .ptr 2 0), (6, .ptr 3 0), (82, bA (v5.gType == 3))] (AOps_done (CD H (fun hb137 H => ?_) (fun hb137 H => ?_))))
                · refine AWP_reg (Rh 1 124 [(0, .ptr 0 0), (2, .ptr 1 0), (6, .ptr 3 0), (83, .ptr 0 0)] ?_)
                  obtain ⟨v138, hv138, H⟩ := bind_some H
                  refine AOps_call1 (d := (some 84)) (al := [.ptr 0 0, iA 2]) ([.ptr 0 0, iA 2]) (r := iA v138.1) (j := 0) (b' := .cells 101 (TCodes.cs v138.2)) (by kernel_rfl) rfl (s_draw_Codes_Next hv138) (⟨(scl_cl_u8 _ _), trivial, trivial⟩) (⟨(scl_cl_u8 _ _), trivial, trivial⟩) ⟨Nat.zero_lt_one, trivial, trivial⟩ trivial rfl (h' := [.cells 25 [iA 0, sA v5.gKind, sA v5.gName, .ro .full 0 [], .ro .full 0 []], .cells 112 (TDeclared.cs v5), .cells 25 [iA 0, sA ByteArray.empty, sA ByteArray.empty, .ro .full 0 [], .ro .full 0 []], .cells 101 (TCodes.cs v138.2)]) rfl ?_
                  refine R 3 124 [(0, .ptr 0 0), (2, .ptr 1 0), (6, .ptr 3 0)] [.cells 25 [iA (w64 (9 + v138.1)), sA v5.gKind, sA v5.gName, .ro .full 0 [], .ro .full 0 []], .cells 112 (TDeclared.cs v5), .cells 25 [iA 0, sA ByteArray.empty, sA ByteArray.empty, .ro .full 0 [], .ro .full 0 []], .cells 101 (TCodes.cs v138.2)] (AOps_done (AWP_reg (Rh 1 124 [(2, .ptr 1 0), (6, .ptr 3 0), (87, .ptr 0 0)] ?_)))
                  obtain ⟨v139, hv139, H⟩ := bind_some H
                  refine AOps_call1 (d := (some 88)) (al := [.ptr 0 0, iA 3]) ([.ptr 0 0, iA 3]) (r := .agg (TValue.cs v139.1)) (j := 0) (b' := .cells 101 (TCodes.cs v139.2)) (by kernel_rfl) rfl (s_draw_Codes_Value hG hv139) (⟨(scl_cl_u8 _ _), trivial, trivial⟩) (⟨(scl_cl_u8 _ _), trivial, trivial⟩) ⟨Nat.zero_lt_one, trivial, trivial⟩ (sc_TValue_cs _ _) rfl (h' := [.cells 25 [iA (w64 (9 + v138.1)), sA v5.gKind, sA v5.gName, .ro .full 0 [], .ro .full 0 []], .cells 112 (TDeclared.cs v5), .cells 25 [iA 0, sA ByteArray.empty, sA ByteArray.empty, .ro .full 0 [], .ro .full 0 []], .cells 101 (TCodes.cs v139.2)]) rfl ?_
                  refine AOps_bsl (d := (some 89)) (m := 1) (cs := [iA v139.1.gKind, iA v139.1.gNumber, sA v139.1.gText, .ro .unk v139.1.gList.length (cl_str v139.1.gList)]) (by kernel_rfl) ⟨trivial, trivial, trivial, (scl_cl_str _ _), trivial⟩ ?_
                  refine R 2 124 [(2, .ptr 1 0), (6, .ptr 3 0)] [.cells 25 [iA (w64 (9 + v138.1)), sA v5.gKind, sA v5.gName, .ro .unk ([v139.1]).length (TValue.cl ([v139.1])), .ro .full 0 []], .cells 112 (TDeclared.cs v5), .cells 25 [iA 0, sA ByteArray.empty, sA ByteArray.empty, .ro .full 0 [], .ro .full 0 []], .cells 101 (TCodes.cs v139.2)] (AOps_done (AWP_reg (R 2 124 [(2, .ptr 1 0)] [.cells 25 [iA (w64 (9 + v138.1)), sA v5.gKind, sA v5.gName, .ro .unk ([v139.1]).length (TValue.cl ([v139.1])), .ro .full 0 []], .cells 112 (TDeclared.cs v5), .cells 25 [iA (w64 (9 + v138.1)), sA v5.gKind, sA v5.gName, .ro .unk ([v139.1]).length (TValue.cl ([v139.1])), .ro .full 0 []], .cells 101 (TCodes.cs v139.2)] (AOps_done (AWP_ret ?_)))))
                  have hr := Option.some.inj H
                  subst hr
                  exact Fin_retn 3 (l := [.agg [iA (w64 (9 + v138.1)), sA v5.gKind, sA v5.gName, .ro .unk ([v139.1]).length (TValue.cl ([v139.1])), .ro .full 0 []]]) (h' := [.cells 101 (TCodes.cs v139.2)]) (by kernel_rfl) rfl (Nat.le_of_ble_eq_true rfl) ((by refine Closed_of ?_; exact ⟨⟨(scl_cl_u8 _ _), trivial, trivial⟩, trivial⟩)) (Frz_agg (FrzL_cons (Frz_sc trivial) (FrzL_cons (Frz_sc trivial) (FrzL_cons (Frz_sc trivial) (FrzL_cons (Frz_sc (scl_TValue_cl _ _)) (FrzL_cons (Frz_le (Frz_sc trivial) (AV.le_ro _ _ _)) (FrzL_nil)))))) rfl) ⟨rfl, rfl⟩
                · refine AWP_skip ?_
                  exact Exists.intro () ⟨⟨n, by omega, H⟩, Norm_fd [0, 2, 5, 6] 0 (by kernel_rfl) rfl rfl ⟨⟨trivial, trivial, trivial, trivial, trivial, trivial⟩, (sc_TDeclared_cs _ _), ⟨trivial, trivial, trivial, trivial, trivial, trivial⟩, ⟨(scl_cl_u8 _ _), trivial, trivial⟩, trivial⟩ (by refine scL_fr ?_; exact ⟨(sc_ptr rfl), (sc_ptr rfl), (sc_ptr rfl), (sc_ptr rfl), trivial⟩)⟩
              · refine AWP_skip ?_
                show AWP _ _ _ _ _ _ _
                refine AWP_reg (Rh 2 124 [(0, .ptr 0 0), (2, .ptr 1 0), (5, .ptr 2 0), (6, .ptr 3 0), (42, bA (v75.1 == 4))] (AOps_done (CD H (fun hb140 H => ?_) (fun hb140 H => ?_))))
                · refine AWP_exit ?_
                  exact Exists.intro () ⟨⟨n, by omega, H⟩, Norm_fd [0, 2, 5, 6] 0 (by kernel_rfl) rfl rfl ⟨⟨trivial, trivial, trivial, trivial, trivial, trivial⟩, (sc_TDeclared_cs _ _), ⟨trivial, trivial, trivial, trivial, trivial, trivial⟩, ⟨(scl_cl_u8 _ _), trivial, trivial⟩, trivial⟩ (by refine scL_fr ?_; exact ⟨(sc_ptr rfl), (sc_ptr rfl), (sc_ptr rfl), (sc_ptr rfl), trivial⟩)⟩
                · refine AWP_skip ?_
                  show AWP _ _ _ _ _ _ _
                  refine AWP_exit ?_
                  exact Exists.intro (v75.2.glist, v75.2.gat) ⟨⟨n, by omega, H⟩, Norm_fd [0, 2, 5, 6] 0 (by kernel_rfl) rfl rfl ⟨⟨trivial, trivial, trivial, trivial, trivial, trivial⟩, (sc_TDeclared_cs _ _), ⟨trivial, trivial, trivial, trivial, trivial, trivial⟩, ⟨(scl_cl_u8 _ _), trivial, trivial⟩, trivial⟩ (by refine scL_fr ?_; exact ⟨(sc_ptr rfl), (sc_ptr rfl), (sc_ptr rfl), (sc_ptr rfl), trivial⟩)⟩
end Go.Proofs.YtjhbobacbaikoaaGreatDoor
/- Drawn tests are well-formed parts. -/
namespace Go.Proofs.YtjhbobacbaikoaaGreatDoor
open Go
set_option linter.unusedVariables false
set_option linter.unusedSimpArgs false
set_option maxRecDepth 100000
/-! ## tests -/
def dkinds : List ByteArray := [⟨#[100, 101, 118, 105, 99, 101]⟩, ⟨#[117, 115, 101, 114]⟩]
def dnames : List ByteArray := [⟨#[99, 111, 114, 101, 115]⟩, ⟨#[111, 115]⟩, ⟨#[97, 103, 101]⟩, ⟨#[97, 112, 112]⟩, ⟨#[98, 101, 116, 97]⟩, ⟨#[99, 111, 117, 110, 116, 114, 121]⟩, ⟨#[112, 108, 97, 110]⟩, ⟨#[116, 97, 103, 115]⟩, ⟨#[107, 101, 121]⟩]
theorem words_size : ∀ w ∈ dkinds ++ dnames, w.size ≤ 40 := by decide
structure TestG (x : TExpr) : Prop where
  kids : x.gKids = []
  op6 : 6 ≤ x.gOp
  op15 : x.gOp ≤ 15
  kind : x.gKind ∈ dkinds
  name : x.gName ∈ dnames
  vals : ∀ v ∈ x.gValues, v ∈ goodV
  len : x.gValues.length ≤ 10
  len6 : x.gOp = 6 → x.gValues = []
  len8 : x.gOp = 8 → 0 < x.gValues.length
  len1 : x.gOp ≠ 6 → x.gOp ≠ 8 → x.gValues.length = 1
  text : x.gOp = 9 ∨ x.gOp = 10 ∨ x.gOp = 11 → ∃ v, x.gValues[0]? = some v ∧ v.gKind = 3
section
variable {c : TCodes} (hc : c.cok)
 include hc
def decl8 : List TDeclared := [⟨⟨#[100, 101, 118, 105, 99, 101]⟩, ⟨#[99, 111, 114, 101, 115]⟩, 2⟩, ⟨⟨#[100, 101, 118, 105, 99, 101]⟩, ⟨#[111, 115]⟩, 3⟩, ⟨⟨#[117, 115, 101, 114]⟩, ⟨#[97, 103, 101]⟩, 2⟩, ⟨⟨#[117, 115, 101, 114]⟩, ⟨#[97, 112, 112]⟩, 4⟩, ⟨⟨#[117, 115, 101, 114]⟩, ⟨#[98, 101, 116, 97]⟩, 1⟩, ⟨⟨#[117, 115, 101, 114]⟩, ⟨#[99, 111, 117, 110, 116, 114, 121]⟩, 3⟩, ⟨⟨#[117, 115, 101, 114]⟩, ⟨#[112, 108, 97, 110]⟩, 3⟩, ⟨⟨#[117, 115, 101, 114]⟩, ⟨#[116, 97, 103, 115]⟩, 5⟩]
 omit hc in
theorem declared_eq (n : Nat) : p_draw_Declared n = some decl8 := rfl
def DeclG (d : TDeclared) : Prop := d.gKind ∈ dkinds ∧ d.gName ∈ dnames ∧ 1 ≤ d.gType ∧ d.gType ≤ 5
 omit hc in
theorem decl8_good : ∀ d ∈ decl8, DeclG d := by
  intro d hd
  simp only [decl8, List.mem_cons, List.not_mem_nil, or_false] at hd
  rcases hd with rfl | rfl | rfl | rfl | rfl | rfl | rfl | rfl <;> exact ⟨by simp [dkinds], by simp [dnames], by decide, by decide⟩
 omit hc in
theorem good_of {v : TValue} (h : v ∈ drawnV) : v ∈ goodV := List.mem_append_left _ h
theorem test1_gv {d : TDeclared} (hd : DeclG d) (op : Int) (h6 : 6 < op) (h15 : op ≤ 15) (h8 : op ≠ 8) (h9 : op < 9 ∨ 11 < op) : Gv (fun n => (p_draw_Codes_Value n c d.gType).bind fun v => some ((TExpr.mk op d.gKind d.gName ([v.1]) ([])), v.2)) fun r => TestG r.1 ∧ r.2.cok := by
  refine Gv.bind (value_gv hc _ hd.2.2) fun v hv => Gv.pure ⟨⟨rfl, by show 6 ≤ op; omega, h15, hd.1, hd.2.1, ?_, by show 1 ≤ 10; omega, fun h => ?_, fun h => absurd h h8, fun _ _ => rfl, fun h => ?_⟩, hv.2⟩
  · intro w hw
    obtain rfl : w = v.1 := by simpa [TExpr.gValues] using hw
    exact good_of hv.1.1
  · have h : op = 6 := h
    omega
  · have h : op = 9 ∨ op = 10 ∨ op = 11 := h
    omega
theorem test3_gv {d : TDeclared} (hd : DeclG d) (op : Int) (h6 : 9 ≤ op) (h15 : op ≤ 11) : Gv (fun n => (p_draw_Codes_Value n c 3).bind fun v => some ((TExpr.mk op d.gKind d.gName ([v.1]) ([])), v.2)) fun r => TestG r.1 ∧ r.2.cok := by
  refine Gv.bind (value_gv hc 3 (by decide)) fun v hv => Gv.pure ⟨⟨rfl, by show 6 ≤ op; omega, by show op ≤ 15; omega, hd.1, hd.2.1, ?_, by show 1 ≤ 10; omega, fun h => ?_, fun h => ?_, fun _ _ => rfl, fun h => ⟨v.1, rfl, hv.1.2⟩⟩, hv.2⟩
  · intro w hw
    obtain rfl : w = v.1 := by simpa [TExpr.gValues] using hw
    exact good_of hv.1.1
  · have h : op = 6 := h
    omega
  · have h : op = 8 := h
    omega
theorem test_K1 {d : TDeclared} (hd : DeclG d) : Gv (fun n => p_draw_Codes_Test_K1 n d c.glist c.gat) fun r => TestG r.1 ∧ r.2.cok := by
  unfold p_draw_Codes_Test_K1
  exact test1_gv hc hd 7 (by decide) (by decide) (by decide) (by decide)
 omit hc in
theorem test_L1 {d : TDeclared} (hd : DeclG d) : ∀ (q i : Nat) (c : TCodes) (l : List TValue), i + q = 3 → c.cok → l.length = i → (∀ v ∈ l, v ∈ goodV) → Gv (fun n => p_draw_Codes_Test_L1 n d i c.glist c.gat l) fun r => TestG r.1 ∧ r.2.cok := by
  intro q
  induction q with
  | zero =>
    intro i c l hi hc hl hv
    refine Gv.succ ?_
    simp only [p_draw_Codes_Test_L1]
    refine Gv.bind (next_gv hc (k := 3) (by decide) (by decide)) fun r hr => Gv.cond (fun h => ?_) fun h => ?_
    · have h := of_decide_eq_true h
      omega
    · exact Gv.pure ⟨⟨rfl, by show (6 : Int) ≤ 8; omega, by show (8 : Int) ≤ 15; omega, hd.1, hd.2.1, hv, by show l.length ≤ 10; omega, fun h => (by cases h), fun _ => by show 0 < l.length; omega, fun _ h => absurd rfl h, fun h => (by rcases h with h | h | h <;> cases h)⟩, hr.2.2⟩
  | succ q ih =>
    intro i c l hi hc hl hv
    refine Gv.succ ?_
    simp only [p_draw_Codes_Test_L1]
    refine Gv.bind (next_gv hc (k := 3) (by decide) (by decide)) fun r hr => Gv.cond (fun h => ?_) fun h => ?_
    · refine Gv.bind (value_gv hr.2.2 _ hd.2.2) fun v hvv => ?_
      refine Gv.bind (Gv.app (Q := fun m => m = l ++ [v.1]) (by simp; omega) (by decide) rfl) ?_
      rintro m rfl
      rw [w64_add (by omega)]
      refine ih (i + 1) v.2 (l ++ [v.1]) (by omega) hvv.2 (by simp; omega) fun w hw => ?_
      rcases List.mem_append.1 hw with hw | hw
      · exact hv w hw
      · obtain rfl : w = v.1 := by simpa using hw
        exact good_of hvv.1.1
    · have h := of_decide_eq_false h
      exact Gv.pure ⟨⟨rfl, by show (6 : Int) ≤ 8; omega, by show (8 : Int) ≤ 15; omega, hd.1, hd.2.1, hv, by show l.length ≤ 10; omega, fun h => (by cases h), fun _ => by show 0 < l.length; omega, fun _ h => absurd rfl h, fun h => (by rcases h with h | h | h <;> cases h)⟩, hr.2.2⟩
theorem test_K2 {d : TDeclared} (hd : DeclG d) (x : Int) : Gv (fun n => p_draw_Codes_Test_K2 n d (x, c)) fun r => TestG r.1 ∧ r.2.cok := by
  unfold p_draw_Codes_Test_K2
  refine Gv.cond (fun _ => ?_) fun _ => test_K1 hc hd
  refine Gv.bind (next_gv hc (k := 4) (by decide) (by decide)) fun r hr => ?_
  rw [w64_of (by omega) (by omega)]
  exact test1_gv hr.2.2 hd _ (by omega) (by omega) (by omega) (by omega)
theorem test_gv : Gv (fun n => p_draw_Codes_Test n c) fun r => TestG r.1 ∧ r.2.cok := by
  unfold p_draw_Codes_Test
  simp only [declared_eq, Option.bind_some]
  have hl : lI decl8 = 8 := rfl
  rw [hl]
  refine Gv.bind (next_gv hc (k := 9) (by decide) (by decide)) fun r hr => Gv.cond (fun h => ?_) fun h => ?_
  · refine Gv.bind (key_gv hr.2.2) fun k hk => Gv.pure ⟨⟨rfl, (by show (6 : Int) ≤ 7; decide), (by show (7 : Int) ≤ 15; decide), by simp [dkinds, TExpr.gKind], by simp [dnames, TExpr.gName], ?_, (by show 1 ≤ 10; decide), fun h => (by cases h), fun h => (by cases h), fun _ _ => rfl, fun h => (by rcases h with h | h | h <;> cases h)⟩, hk.2⟩
    intro w hw
    obtain rfl : w = vT 3 k.1 := by simpa [TExpr.gValues, vT] using hw
    exact List.mem_append_right _ (List.mem_map_of_mem hk.1)
  · have hne := beq_eq_false_iff_ne.1 h
    refine Gv.bind (Gv.rd (Q := DeclG) hr.1 (by have : decl8.length = 8 := rfl; omega) decl8_good) fun d hd => ?_
    refine Gv.bind (next_gv hr.2.2 (k := 5) (by decide) (by decide)) fun s hs => ?_
    have hK1 := test_K1 hs.2.2 hd
    have hK2 := test_K2 hs.2.2 hd s.1
    refine Gv.cond (fun _ => ?_) fun _ => Gv.cond (fun _ => Gv.cond (fun _ => ?_) fun _ => hK1) fun _ => Gv.cond (fun _ => Gv.cond (fun _ => ?_) fun _ => hK1) fun _ => Gv.cond (fun _ => Gv.cond (fun _ => ?_) fun _ => hK2) fun _ => Gv.cond (fun _ => hK2) fun _ => hK1
    · exact Gv.pure ⟨⟨rfl, (by show (6 : Int) ≤ 6; decide), (by show (6 : Int) ≤ 15; decide), hd.1, hd.2.1, fun v hv => (by cases hv), (by show 0 ≤ 10; decide), fun _ => rfl, fun h => (by cases h), fun h => absurd rfl h, fun h => (by rcases h with h | h | h <;> cases h)⟩, hs.2.2⟩
    · exact test_L1 hd 3 0 s.2 [] rfl hs.2.2 rfl (fun v hv => by cases hv)
    · exact test3_gv hs.2.2 hd 11 (by decide) (by decide)
    · refine Gv.bind (next_gv hs.2.2 (k := 2) (by decide) (by decide)) fun q hq => ?_
      rw [w64_of (by omega) (by omega)]
      exact test3_gv hq.2.2 hd _ (by omega) (by omega)
end
end Go.Proofs.YtjhbobacbaikoaaGreatDoor
/- Bounds of conditions. -/

namespace Go.Proofs.YtjhbobacbaikoaaGreatDoor
open Go
set_option linter.unusedVariables false
set_option linter.unusedSimpArgs false
set_option maxRecDepth 100000
/-! ## size, depth, number of parts -/
mutual
def TExpr.bd (B : Nat) : TExpr → Prop
  | .mk _ k nm vs ks => k.size ≤ 100 ∧ nm.size ≤ 100 ∧ vs.length ≤ B ∧ (∀ v ∈ vs, v.bd) ∧ ks.length ≤ B ∧ TExpr.bdL B ks
def TExpr.bdL (B : Nat) : List TExpr → Prop
  | [] => True
  | x :: xs => x.bd B ∧ TExpr.bdL B xs
end
theorem TExpr.bdL_iff {B : Nat} : ∀ {l : List TExpr}, TExpr.bdL B l ↔ ∀ x ∈ l, x.bd B
  | [] => by simp [TExpr.bdL]
  | x :: l => by rw [TExpr.bdL, TExpr.bdL_iff (l := l)]; simp
theorem TExpr.bd_iff {B : Nat} {x : TExpr} : x.bd B ↔ x.gKind.size ≤ 100 ∧ x.gName.size ≤ 100 ∧ x.gValues.length ≤ B ∧ (∀ v ∈ x.gValues, v.bd) ∧ x.gKids.length ≤ B ∧ ∀ k ∈ x.gKids, k.bd B := by
  cases x with
  | mk op k nm vs ks => rw [TExpr.bd, TExpr.bdL_iff]; exact Iff.rfl
mutual
theorem TExpr.bd_le {B C : Nat} (h : B ≤ C) : ∀ x : TExpr, x.bd B → x.bd C
  | .mk op k nm vs ks => fun hx => by
    rw [TExpr.bd] at hx ⊢
    exact ⟨hx.1, hx.2.1, by have := hx.2.2.1; omega, hx.2.2.2.1, by have := hx.2.2.2.2.1; omega, TExpr.bdL_le h ks hx.2.2.2.2.2⟩
theorem TExpr.bdL_le {B C : Nat} (h : B ≤ C) : ∀ l : List TExpr, TExpr.bdL B l → TExpr.bdL C l
  | [] => fun _ => by rw [TExpr.bdL]; trivial
  | x :: xs => fun hx => by
    rw [TExpr.bdL] at hx ⊢
    exact ⟨TExpr.bd_le h x hx.1, TExpr.bdL_le h xs hx.2⟩
end
theorem TValue.bd_sm {x : TValue} (h : x.bd) : x.sm := ⟨by have := h.1; omega, by have := h.2.1; omega, fun s hs => by have := h.2.2 s hs; omega⟩
mutual
theorem TExpr.bd_sm {B : Nat} (h : B < 4294967281) : ∀ x : TExpr, x.bd B → x.sm
  | .mk op k nm vs ks => fun hx => by
    rw [TExpr.bd] at hx
    rw [TExpr.sm]
    exact ⟨by have := hx.1; omega, by have := hx.2.1; omega, fun v hv => TValue.bd_sm (hx.2.2.2.1 v hv), by have := hx.2.2.2.2.1; omega, TExpr.bdL_sm h ks hx.2.2.2.2.2⟩
theorem TExpr.bdL_sm {B : Nat} (h : B < 4294967281) : ∀ l : List TExpr, TExpr.bdL B l → TExpr.smL l
  | [] => fun _ => by rw [TExpr.smL]; trivial
  | x :: xs => fun hx => by
    rw [TExpr.bdL] at hx
    rw [TExpr.smL]
    exact ⟨TExpr.bd_sm h x hx.1, TExpr.bdL_sm h xs hx.2⟩
end
mutual
def TExpr.parts : TExpr → Nat
  | .mk _ _ _ _ ks => 1 + TExpr.partsL ks
def TExpr.partsL : List TExpr → Nat
  | [] => 0
  | x :: xs => x.parts + TExpr.partsL xs
end
mutual
def TExpr.dep : TExpr → Nat
  | .mk _ _ _ _ ks => 1 + TExpr.depL ks
def TExpr.depL : List TExpr → Nat
  | [] => 0
  | x :: xs => max x.dep (TExpr.depL xs)
end
theorem testG_bd {x : TExpr} (h : TestG x) : x.bd 20 := by
  have h1 := words_size _ (List.mem_append_left _ h.kind)
  have h2 := words_size _ (List.mem_append_right _ h.name)
  have hk := h.kids
  refine TExpr.bd_iff.2 ⟨by omega, by omega, by have := h.len; omega, fun v hv => good_bd v (h.vals v hv), by rw [hk]; decide, fun k hkk => ?_⟩
  rw [hk] at hkk; cases hkk
end Go.Proofs.YtjhbobacbaikoaaGreatDoor
/- A function of the program as a pure function, and that the program computes it. -/
namespace Go.Proofs.YtjhbobacbaikoaaGreatDoor
open Go
set_option linter.unusedVariables false
set_option linter.unusedSimpArgs false
set_option maxRecDepth 100000
def p_draw_Codes_Condition_K1 (n : Nat) (v72 : List Int) (v73 : Int) (v74 : Int) (v75 : ByteArray) (v76 : ByteArray) (v77 : List TValue) (v78 : List TExpr) : Option (TExpr × TCodes) :=
 some ((TExpr.mk v74 v75 v76 v77 v78), ({ glist := v72, gat := v73 } : TCodes))
def p_draw_Codes_Condition_L1 (n : Nat) (v111 : Int) (v112 : List Int) (v113 : Int) (v114 : Int) (v115 : ByteArray) (v116 : ByteArray) (v117 : List TValue) (v118 : List TExpr) : Option (TExpr × TCodes) := match n with
| 0 => none
| n + 1 =>
(p_draw_Codes_Next n ({ glist := v112, gat := v113 } : TCodes) 3).bind fun v119 =>
(bif decide (v111 < (w64 (9 + v119.1))) then
 p_draw_Codes_Condition_L1 n  (w64 (v111 + 1)) v119.2.glist v119.2.gat 4 ByteArray.empty ByteArray.empty ([]) ([(TExpr.mk v114 v115 v116 v117 v118)])
 else
 p_draw_Codes_Condition_K1 n  v119.2.glist v119.2.gat v114 v115 v116 v117 v118)
def p_draw_Codes_Condition_L2 (n : Nat) (x1 : TExpr) (v133 : Int) (v134 : List Int) (v135 : Int) (v136 : List TExpr) : Option (TExpr × TCodes) := match n with
| 0 => none
| n + 1 =>
(bif decide (v133 < 11) then
(appO 88 ([] : List TExpr) v136).bind fun v138 =>
(p_draw_Codes_Test n ({ glist := v134, gat := v135 } : TCodes)).bind fun v139 =>
(appO 88 v138 ([v139.1])).bind fun v140 =>
 p_draw_Codes_Condition_L2 n x1 (w64 (v133 + 1)) v139.2.glist v139.2.gat v140
 else
 p_draw_Codes_Condition_K1 n  v134 v135 x1.gOp x1.gKind x1.gName x1.gValues v136)
def p_draw_Codes_Condition_F (self_p_draw_Codes_Condition : TCodes → TExpr → Option (TExpr × TCodes)) (n : Nat) (x0 : TCodes) (x1 : TExpr) : Option (TExpr × TCodes) :=
(bif decide ((lI x1.gKids) > 0) then p_draw_Codes_Next n x0 3 else some (0, x0)).bind fun v1 =>
(bif (decide ((lI x1.gKids) > 0)) && (decide (v1.1 > 0)) then
(appO 88 ([] : List TExpr) x1.gKids).bind fun v3 =>
(p_draw_Codes_Next n v1.2 (lI v3)).bind fun v4 =>
(rdO v3 v4.1).bind fun v5 =>
(self_p_draw_Codes_Condition v4.2 v5).bind fun v6 =>
(rdO v3 v4.1).bind fun v7 =>
 some ((TExpr.mk x1.gOp x1.gKind x1.gName x1.gValues (v3.set (v4.1).toNat v6.1)), v6.2)
 else
(p_draw_Codes_Next n v1.2 10).bind fun v79 =>
(bif v79.1 == 0 then
(p_draw_Codes_Next n v79.2 18).bind fun v81 =>
 p_draw_Codes_Condition_K1 n  v81.2.glist v81.2.gat (w64 (v81.1 - 1)) x1.gKind x1.gName x1.gValues x1.gKids
 else
(bif v79.1 == 1 then
(p_draw_Codes_Name n v79.2).bind fun v83 =>
 p_draw_Codes_Condition_K1 n  v83.2.glist v83.2.gat x1.gOp v83.1 x1.gName x1.gValues x1.gKids
 else
(bif v79.1 == 2 then
(p_draw_Codes_Name n v79.2).bind fun v85 =>
 p_draw_Codes_Condition_K1 n  v85.2.glist v85.2.gat x1.gOp x1.gKind v85.1 x1.gValues x1.gKids
 else
(bif v79.1 == 3 then
(appO 56 ([] : List TValue) x1.gValues).bind fun v87 =>
(p_draw_Codes_Any n v79.2).bind fun v88 =>
(appO 56 v87 ([v88.1])).bind fun v89 =>
 p_draw_Codes_Condition_K1 n  v88.2.glist v88.2.gat x1.gOp x1.gKind x1.gName v89 x1.gKids
 else
(bif v79.1 == 4 then
 p_draw_Codes_Condition_K1 n  v79.2.glist v79.2.gat x1.gOp x1.gKind x1.gName ([]) x1.gKids
 else
(bif v79.1 == 5 then
(p_draw_Codes_Next n v79.2 7).bind fun v92 =>
(p_draw_Codes_Number n v92.2).bind fun v93 =>
 p_draw_Codes_Condition_K1 n  v93.2.glist v93.2.gat x1.gOp x1.gKind x1.gName ([({ gKind := v92.1, gNumber := v93.1, gText := ByteArray.empty, gList := [] } : TValue)]) x1.gKids
 else
(bif v79.1 == 6 then
(appO 88 ([] : List TExpr) x1.gKids).bind fun v95 =>
(p_draw_Codes_Test n v79.2).bind fun v96 =>
(appO 88 v95 ([v96.1])).bind fun v97 =>
 p_draw_Codes_Condition_K1 n  v96.2.glist v96.2.gat x1.gOp x1.gKind x1.gName x1.gValues v97
 else
(bif v79.1 == 7 then
 p_draw_Codes_Condition_L1 n  0 v79.2.glist v79.2.gat x1.gOp x1.gKind x1.gName x1.gValues x1.gKids
 else
(bif v79.1 == 8 then
 p_draw_Codes_Condition_L2 n x1 0 v79.2.glist v79.2.gat x1.gKids
 else
(bif v79.1 == 9 then
(p_draw_Codes_Test n v79.2).bind fun v142 =>
 p_draw_Codes_Condition_K1 n  v142.2.glist v142.2.gat 2 ByteArray.empty ByteArray.empty ([]) ([x1, v142.1])
 else
 p_draw_Codes_Condition_K1 n  v79.2.glist v79.2.gat x1.gOp x1.gKind x1.gName x1.gValues x1.gKids)))))))))))
def p_draw_Codes_Condition (n : Nat) (x0 : TCodes) (x1 : TExpr) : Option (TExpr × TCodes) := match n with
| 0 => none
| n + 1 => p_draw_Codes_Condition_F (p_draw_Codes_Condition n) n x0 x1
variable {E : Env}
theorem s_draw_Codes_Condition_F (hG : GlobD E) {self_p_draw_Codes_Condition : TCodes → TExpr → Option (TExpr × TCodes)} (hself_draw_Codes_Condition : ∀ {x0 : TCodes}, ∀ {x1 : TExpr}, ∀ {r : TExpr × TCodes}, self_p_draw_Codes_Condition x0 x1 = some r → Sp Tryz.prog E 14 [.ptr 0 0, .agg (TExpr.cs x1)] [.cells 101 (TCodes.cs x0)] (isA (.agg (TExpr.cs r.1)) [.cells 101 (TCodes.cs r.2)])) {n : Nat} {x0 : TCodes} {x1 : TExpr} {r : TExpr × TCodes} (H : p_draw_Codes_Condition_F self_p_draw_Codes_Condition n x0 x1 = some r) :
    Sp Tryz.prog E 14 [.ptr 0 0, .agg (TExpr.cs x1)] [.cells 101 (TCodes.cs x0)] (isA (.agg (TExpr.cs r.1)) [.cells 101 (TCodes.cs r.2)]) := by
  unfold p_draw_Codes_Condition_F at H
  refine Sp_fn Tryz.func14 rfl (fun hc hs => ?_)
  refine AWP_reg (R 2 125 [(0, .ptr 0 0), (3, .ptr 1 0), (4, .ptr 2 0)] [.cells 25 [iA 0, sA ByteArray.empty, sA ByteArray.empty, .ro .full 0 [], .ro .full 0 []], .cells 25 (TExpr.cs x1), .cells 101 (TCodes.cs x0)] (AOps_done (AWP_seq (AWP_reg (Rh 5 125 [(0, .ptr 0 0), (3, .ptr 1 0), (4, .ptr 2 0), (13, bA (decide ((lI x1.gKids) > 0)))] ?_)))))
  obtain ⟨v1, hv1, H⟩ := bind_some H
  refine AOps_cut 4 (st' := fr 125 [(0, .ptr 0 0), (3, .ptr 1 0), (4, .ptr 2 0), (17, bA ((decide ((lI x1.gKids) > 0)) && (decide (v1.1 > 0))))]) (h' := [.cells 25 [iA 0, sA ByteArray.empty, sA ByteArray.empty, .ro .full 0 [], .ro .full 0 []], .cells 25 (TExpr.cs x1), .cells 101 (TCodes.cs v1.2)]) ?_ ?_
  rotate_left
  · cases c1 : (decide ((lI x1.gKids) > 0) : Bool) with
    | true =>
      refine R 1 125 [(0, .ptr 0 0), (3, .ptr 1 0), (4, .ptr 2 0), (13, bA true), (14, .ptr 0 0)] [.cells 25 [iA 0, sA ByteArray.empty, sA ByteArray.empty, .ro .full 0 [], .ro .full 0 []], .cells 25 (TExpr.cs x1), .cells 101 (TCodes.cs x0)] ?_
      have hv1_ := cond_t hv1 (by simp only [c1] <;> rfl)
      refine AOps_call1 (d := (some 15)) (al := [.ptr 0 0, iA 3]) ([.ptr 0 0, iA 3]) (r := iA v1.1) (j := 0) (b' := .cells 101 (TCodes.cs v1.2)) (by kernel_rfl) rfl (s_draw_Codes_Next hv1_) (⟨(scl_cl_u8 _ _), trivial, trivial⟩) (⟨(scl_cl_u8 _ _), trivial, trivial⟩) ⟨Nat.zero_lt_one, trivial, trivial⟩ trivial rfl (h' := [.cells 25 [iA 0, sA ByteArray.empty, sA ByteArray.empty, .ro .full 0 [], .ro .full 0 []], .cells 25 (TExpr.cs x1), .cells 101 (TCodes.cs v1.2)]) rfl ?_
      refine R 2 125 [(0, .ptr 0 0), (3, .ptr 1 0), (4, .ptr 2 0), (17, bA (true && (decide (v1.1 > 0))))] [.cells 25 [iA 0, sA ByteArray.empty, sA ByteArray.empty, .ro .full 0 [], .ro .full 0 []], .cells 25 (TExpr.cs x1), .cells 101 (TCodes.cs v1.2)] ?_
      exact AOps_here [0, 3, 4, 17] (by kernel_rfl) rfl
    | false =>
      have hv1_ := Option.some.inj (cond_f hv1 (by simp only [c1] <;> rfl))
      refine R 4 125 [(0, .ptr 0 0), (3, .ptr 1 0), (4, .ptr 2 0), (17, bA (false && (decide (v1.1 > 0))))] [.cells 25 [iA 0, sA ByteArray.empty, sA ByteArray.empty, .ro .full 0 [], .ro .full 0 []], .cells 25 (TExpr.cs x1), .cells 101 (TCodes.cs x0)] ?_
      exact AOps_here [0, 3, 4, 17] (by kernel_rfl) (by rw [← hv1_] <;> rfl)
  refine AOps_done (CD H (fun hb2 H => ?_) (fun hb2 H => ?_))
  · refine AWP_reg (Rh 2 125 [(0, .ptr 0 0), (3, .ptr 1 0), (4, .ptr 2 0), (19, .ro .unk x1.gKids.length (TExpr.cl x1.gKids))] ?_)
    obtain ⟨v3, hv3, H⟩ := bind_some H
    refine AOps_append_nilO (d := (some 20)) (c := TExpr.cs) (sz := 5) (bs := 88) (e := 25) (ys := x1.gKids) (by kernel_rfl) rfl (eq_TExpr_cl _) (fun _ => rfl) (by kernel_rfl) (by kernel_rfl) hv3 (eq_TExpr_cl _) ?_
    refine R 2 125 [(0, .ptr 0 0), (3, .ptr 1 0), (4, .ptr 2 0)] [.cells 25 (TExpr.cl v3), .cells 25 [iA 0, sA ByteArray.empty, sA ByteArray.empty, .ro .full 0 [], .ro .full 0 []], .cells 25 [iA x1.gOp, sA x1.gKind, sA x1.gName, .ro .unk x1.gValues.length (TValue.cl x1.gValues), .sl 3 0 v3.length (.whole 5)], .cells 101 (TCodes.cs v1.2)] (AOps_done (AWP_reg (Rh 4 125 [(0, .ptr 0 0), (3, .ptr 1 0), (4, .ptr 2 0), (22, .ptr 0 0), (25, iA (lI v3))] ?_)))
    obtain ⟨v4, hv4, H⟩ := bind_some H
    refine AOps_call1 (d := (some 26)) (al := [.ptr 0 0, iA (lI v3)]) ([.ptr 0 0, iA (lI v3)]) (r := iA v4.1) (j := 0) (b' := .cells 101 (TCodes.cs v4.2)) (by kernel_rfl) rfl (s_draw_Codes_Next hv4) (⟨(scl_cl_u8 _ _), trivial, trivial⟩) (⟨(scl_cl_u8 _ _), trivial, trivial⟩) ⟨Nat.zero_lt_one, trivial, trivial⟩ trivial rfl (h' := [.cells 25 (TExpr.cl v3), .cells 25 [iA 0, sA ByteArray.empty, sA ByteArray.empty, .ro .full 0 [], .ro .full 0 []], .cells 25 [iA x1.gOp, sA x1.gKind, sA x1.gName, .ro .unk x1.gValues.length (TValue.cl x1.gValues), .sl 3 0 v3.length (.whole 5)], .cells 101 (TCodes.cs v4.2)]) rfl ?_
    refine Rh 1 125 [(0, .ptr 0 0), (3, .ptr 1 0), (4, .ptr 2 0), (5, iA v4.1)] (AOps_done ?_)
    obtain ⟨v5, hv5, H⟩ := bind_some H
    obtain ⟨v6, hv6, H⟩ := bind_some H
    obtain ⟨v7, hv7, H⟩ := bind_some H
    refine AWP_regD1 [0, 1, 2, 3, 4, 5, 6, 7, 8, 9, 10, 11] (N := 125) (f := [(0, .ptr 0 0), (3, .ptr 1 0), (4, .ptr 2 0), (5, iA v4.1)]) (leL_of [0, 3, 4, 5] (by kernel_rfl)) mixed (by kernel_rfl) (by kernel_rfl) (st' := fr 125 [(3, .ptr 1 0), (4, .ptr 2 0)]) (h' := [.cells 25 (TExpr.cl (v3.set (v4.1).toNat v6.1)), .cells 25 [iA 0, sA ByteArray.empty, sA ByteArray.empty, .ro .full 0 [], .ro .full 0 []], .cells 25 [iA x1.gOp, sA x1.gKind, sA x1.gName, .ro .unk x1.gValues.length (TValue.cl x1.gValues), .sl 3 0 (v3.set (v4.1).toNat v6.1).length (.whole 5)], .cells 101 (TCodes.cs v6.2)]) ?_ ?_
    rotate_left
    · refine RD 7 125 [(5, 1), (4, 1), (1, 1), (0, 1)] [(0, .ptr 0 0), (3, .ptr 1 0), (4, .ptr 2 0), (5, iA v4.1), (27, .ptr 1 4), (28, .sl 3 0 v3.length (.whole 5)), (29, iA v4.1), (30, .ptr 0 0), (31, .ptr 1 4), (32, .sl 3 0 v3.length (.whole 5)), (33, iA v4.1)] (AD_oidx (d := (some 34)) (id := 3) (off := 0) (j := v4.1) (m := v3.length) (sz := 5) (by kernel_rfl) (rdO_place hv5) ?_)
      refine AD_ldx (d := (some 35)) (id := 3) (t := 25) (v := .agg (TExpr.cs v5)) (by kernel_rfl) (ldx_of (c := TExpr.cs) (sz := 5) (eq_TExpr_cl) (fun _ => rfl) hv5 0 (by decide) (fun _ => by kernel_rfl)) ?_
      refine AD_call1 (d := (some 36)) (al := [.ptr 0 0, .agg (TExpr.cs v5)]) ([.ptr 0 0, .agg (TExpr.cs v5)]) (r := .agg (TExpr.cs v6.1)) (j := 0) (b' := .cells 101 (TCodes.cs v6.2)) (by kernel_rfl) rfl (hself_draw_Codes_Condition hv6) (⟨(scl_cl_u8 _ _), trivial, trivial⟩) (⟨(scl_cl_u8 _ _), trivial, trivial⟩) ⟨Nat.zero_lt_one, (sc_TExpr_cs _ _), trivial⟩ (sc_TExpr_cs _ _) rfl (h' := [.cells 25 (TExpr.cl v3), .cells 25 [iA 0, sA ByteArray.empty, sA ByteArray.empty, .ro .full 0 [], .ro .full 0 []], .cells 25 [iA x1.gOp, sA x1.gKind, sA x1.gName, .ro .unk x1.gValues.length (TValue.cl x1.gValues), .sl 3 0 v3.length (.whole 5)], .cells 101 (TCodes.cs v6.2)]) rfl ?_
      refine AD_oidx (d := (some 37)) (id := 3) (off := 0) (j := v4.1) (m := v3.length) (sz := 5) (by kernel_rfl) (rdO_place hv7) ?_
      refine AD_stx (d := none) (id := 3) (ty := 25) (vs := [iA v6.1.gOp, sA v6.1.gKind, sA v6.1.gName, .ro .unk v6.1.gValues.length (TValue.cl v6.1.gValues), .ro .unk v6.1.gKids.length (TExpr.cl v6.1.gKids)]) (cs' := TExpr.cl (v3.set (v4.1).toNat v6.1)) (by kernel_rfl) (stx_of (c := TExpr.cs) (cl := TExpr.cl) (y := v6.1) (sz := 5) eq_TExpr_cl (fun _ => rfl) hv7 0 (by kernel_rfl)) (by kernel_rfl) (h' := [.cells 25 (TExpr.cl (v3.set (v4.1).toNat v6.1)), .cells 25 [iA 0, sA ByteArray.empty, sA ByteArray.empty, .ro .full 0 [], .ro .full 0 []], .cells 25 [iA x1.gOp, sA x1.gKind, sA x1.gName, .ro .unk x1.gValues.length (TValue.cl x1.gValues), .sl 3 0 v3.length (.whole 5)], .cells 101 (TCodes.cs v6.2)]) rfl ?_
      refine RD 0 125 [(10, 3), (8, 3), (7, 3), (5, 1), (4, 1), (1, 1), (0, 1)] [(0, .ptr 0 0), (3, .ptr 1 0), (4, .ptr 2 0), (5, iA v4.1), (27, .ptr 1 4), (28, .sl 3 0 v3.length (.whole 5)), (29, iA v4.1), (30, .ptr 0 0), (31, .ptr 1 4), (32, .sl 3 0 v3.length (.whole 5)), (33, iA v4.1), (34, .ptr 3 (0 + (v4.1).toNat * 5)), (35, .agg (TExpr.cs v5)), (36, .agg (TExpr.cs v6.1)), (37, .ptr 3 (0 + (v4.1).toNat * 5))] (AD_same (st' := fr 125 [(0, .ptr 0 0), (3, .ptr 1 0), (4, .ptr 2 0), (5, iA v4.1), (27, .ptr 1 4), (28, .sl 3 0 (v3.set (v4.1).toNat v6.1).length (.whole 5)), (29, iA v4.1), (30, .ptr 0 0), (31, .ptr 1 4), (32, .sl 3 0 (v3.set (v4.1).toNat v6.1).length (.whole 5)), (33, iA v4.1), (34, .ptr 3 (0 + (v4.1).toNat * 5)), (35, .agg (TExpr.cs v5)), (36, .agg (TExpr.cs v6.1)), (37, .ptr 3 (0 + (v4.1).toNat * 5))]) (h' := [.cells 25 (TExpr.cl (v3.set (v4.1).toNat v6.1)), .cells 25 [iA 0, sA ByteArray.empty, sA ByteArray.empty, .ro .full 0 [], .ro .full 0 []], .cells 25 [iA x1.gOp, sA x1.gKind, sA x1.gName, .ro .unk x1.gValues.length (TValue.cl x1.gValues), .sl 3 0 (v3.set (v4.1).toNat v6.1).length (.whole 5)], .cells 101 (TCodes.cs v6.2)]) (by simp only [List.length_set]) (by simp only [List.length_set]) ?_)
      exact AD_here [3, 4] (by kernel_rfl) rfl
    refine AWP_reg (R 2 125 [(4, .ptr 2 0)] [.cells 25 (TExpr.cl (v3.set (v4.1).toNat v6.1)), .cells 25 [iA x1.gOp, sA x1.gKind, sA x1.gName, .ro .unk x1.gValues.length (TValue.cl x1.gValues), .sl 3 0 (v3.set (v4.1).toNat v6.1).length (.whole 5)], .cells 25 [iA x1.gOp, sA x1.gKind, sA x1.gName, .ro .unk x1.gValues.length (TValue.cl x1.gValues), .sl 3 0 (v3.set (v4.1).toNat v6.1).length (.whole 5)], .cells 101 (TCodes.cs v6.2)] (AOps_done (AWP_ret ?_)))
    have hr := Option.some.inj H
    subst hr
    exact Fin_retn 3 (l := [.agg [iA x1.gOp, sA x1.gKind, sA x1.gName, .ro .unk x1.gValues.length (TValue.cl x1.gValues), .sl 3 0 (v3.set (v4.1).toNat v6.1).length (.whole 5)]]) (h' := [.cells 101 (TCodes.cs v6.2)]) (by kernel_rfl) rfl (Nat.le_of_ble_eq_true rfl) ((by refine Closed_of ?_; exact ⟨⟨(scl_cl_u8 _ _), trivial, trivial⟩, trivial⟩)) (Frz_agg (FrzL_cons (Frz_sc trivial) (FrzL_cons (Frz_sc trivial) (FrzL_cons (Frz_sc trivial) (FrzL_cons (Frz_sc (scl_TValue_cl _ _)) (FrzL_cons (Frz_own (t := 25) (m2 := (v3.set (v4.1).toNat v6.1).length) (cs := TExpr.cl (v3.set (v4.1).toNat v6.1)) rfl rfl (Nat.le_of_ble_eq_true rfl) (scl_TExpr_cl _ _)) (FrzL_nil)))))) rfl) ⟨rfl, rfl⟩
  · refine AWP_skip ?_
    show AWP _ _ _ _ _ _ _
    refine AWP_joinN (α := (List Int) × Int × Int × ByteArray × ByteArray × (List TValue) × (List TExpr)) (fun ⟨v72, v73, v74, v75, v76, v77, v78⟩ => fr 125 [(3, .ptr 1 0), (4, .ptr 2 0)]) (fun ⟨v72, v73, v74, v75, v76, v77, v78⟩ => [.cells 25 [iA 0, sA ByteArray.empty, sA ByteArray.empty, .ro .full 0 [], .ro .full 0 []], .cells 25 [iA v74, sA v75, sA v76, .ro .unk v77.length (TValue.cl v77), .ro .unk v78.length (TExpr.cl v78)], .cells 101 [.ro .unk v72.length (cl_u8 v72), iA v73]]) (fun ⟨v72, v73, v74, v75, v76, v77, v78⟩ => ∃ q, q ≤ q ∧ p_draw_Codes_Condition_K1 q  v72 v73 v74 v75 v76 v77 v78 = some r) (fun a hC => ?_) ?_
    · obtain ⟨v72, v73, v74, v75, v76, v77, v78⟩ := a
      show AWP _ _ _ _ _ (fr 125 [(3, .ptr 1 0), (4, .ptr 2 0)]) [.cells 25 [iA 0, sA ByteArray.empty, sA ByteArray.empty, .ro .full 0 [], .ro .full 0 []], .cells 25 [iA v74, sA v75, sA v76, .ro .unk v77.length (TValue.cl v77), .ro .unk v78.length (TExpr.cl v78)], .cells 101 [.ro .unk v72.length (cl_u8 v72), iA v73]]
      obtain ⟨n, hn_, hC⟩ := hC
      replace H : p_draw_Codes_Condition_K1 n  v72 v73 v74 v75 v76 v77 v78 = some r := hC
      unfold p_draw_Codes_Condition_K1 at H
      refine AWP_reg (R 2 125 [(4, .ptr 2 0)] [.cells 25 [iA v74, sA v75, sA v76, .ro .unk v77.length (TValue.cl v77), .ro .unk v78.length (TExpr.cl v78)], .cells 25 [iA v74, sA v75, sA v76, .ro .unk v77.length (TValue.cl v77), .ro .unk v78.length (TExpr.cl v78)], .cells 101 [.ro .unk v72.length (cl_u8 v72), iA v73]] (AOps_done (AWP_ret ?_)))
      have hr := Option.some.inj H
      subst hr
      exact Fin_retn 2 (l := [.agg [iA v74, sA v75, sA v76, .ro .unk v77.length (TValue.cl v77), .ro .unk v78.length (TExpr.cl v78)]]) (h' := [.cells 101 [.ro .unk v72.length (cl_u8 v72), iA v73]]) (by kernel_rfl) rfl (Nat.le_of_ble_eq_true rfl) ((by refine Closed_of ?_; exact ⟨⟨(scl_cl_u8 _ _), trivial, trivial⟩, trivial⟩)) (Frz_sc ⟨trivial, trivial, trivial, (scl_TValue_cl _ _), (scl_TExpr_cl _ _), trivial⟩) ⟨rfl, rfl⟩
    · refine AWP_reg (Rh 1 125 [(0, .ptr 0 0), (3, .ptr 1 0), (4, .ptr 2 0), (39, .ptr 0 0)] ?_)
      obtain ⟨v79, hv79, H⟩ := bind_some H
      refine AOps_call1 (d := (some 40)) (al := [.ptr 0 0, iA 10]) ([.ptr 0 0, iA 10]) (r := iA v79.1) (j := 0) (b' := .cells 101 (TCodes.cs v79.2)) (by kernel_rfl) rfl (s_draw_Codes_Next hv79) (⟨(scl_cl_u8 _ _), trivial, trivial⟩) (⟨(scl_cl_u8 _ _), trivial, trivial⟩) ⟨Nat.zero_lt_one, trivial, trivial⟩ trivial rfl (h' := [.cells 25 [iA 0, sA ByteArray.empty, sA ByteArray.empty, .ro .full 0 [], .ro .full 0 []], .cells 25 (TExpr.cs x1), .cells 101 (TCodes.cs v79.2)]) rfl ?_
      refine AOps_done (AWP_block ?_)
      refine AWP_reg (Rh 2 125 [(0, .ptr 0 0), (3, .ptr 1 0), (4, .ptr 2 0), (40, iA v79.1), (41, bA (v79.1 == 0))] (AOps_done (CD H (fun hb80 H => ?_) (fun hb80 H => ?_))))
      · refine AWP_region ?_
        refine Rh 1 125 [(3, .ptr 1 0), (4, .ptr 2 0), (43, .ptr 0 0)] ?_
        obtain ⟨v81, hv81, H⟩ := bind_some H
        refine AOps_call1 (d := (some 44)) (al := [.ptr 0 0, iA 18]) ([.ptr 0 0, iA 18]) (r := iA v81.1) (j := 0) (b' := .cells 101 (TCodes.cs v81.2)) (by kernel_rfl) rfl (s_draw_Codes_Next hv81) (⟨(scl_cl_u8 _ _), trivial, trivial⟩) (⟨(scl_cl_u8 _ _), trivial, trivial⟩) ⟨Nat.zero_lt_one, trivial, trivial⟩ trivial rfl (h' := [.cells 25 [iA 0, sA ByteArray.empty, sA ByteArray.empty, .ro .full 0 [], .ro .full 0 []], .cells 25 (TExpr.cs x1), .cells 101 (TCodes.cs v81.2)]) rfl ?_
        refine R 3 125 [(3, .ptr 1 0), (4, .ptr 2 0)] [.cells 25 [iA 0, sA ByteArray.empty, sA ByteArray.empty, .ro .full 0 [], .ro .full 0 []], .cells 25 [iA (w64 (v81.1 - 1)), sA x1.gKind, sA x1.gName, .ro .unk x1.gValues.length (TValue.cl x1.gValues), .ro .unk x1.gKids.length (TExpr.cl x1.gKids)], .cells 101 (TCodes.cs v81.2)] (AOps_done ?_)
        exact Exists.intro (v81.2.glist, v81.2.gat, w64 (v81.1 - 1), x1.gKind, x1.gName, x1.gValues, x1.gKids) ⟨⟨n, by omega, H⟩, Norm_fd [3, 4] 0 (by kernel_rfl) rfl rfl ⟨⟨trivial, trivial, trivial, trivial, trivial, trivial⟩, ⟨trivial, trivial, trivial, (scl_TValue_cl _ _), (scl_TExpr_cl _ _), trivial⟩, ⟨(scl_cl_u8 _ _), trivial, trivial⟩, trivial⟩ (by refine scL_fr ?_; exact ⟨(sc_ptr rfl), (sc_ptr rfl), trivial⟩)⟩
      · refine AWP_reg (Rh 2 125 [(0, .ptr 0 0), (3, .ptr 1 0), (4, .ptr 2 0), (40, iA v79.1), (47, bA (v79.1 == 1))] (AOps_done (CD H (fun hb82 H => ?_) (fun hb82 H => ?_))))
        · refine AWP_region ?_
          refine Rh 1 125 [(3, .ptr 1 0), (4, .ptr 2 0), (49, .ptr 0 0)] ?_
          obtain ⟨v83, hv83, H⟩ := bind_some H
          refine AOps_call1 (d := (some 50)) (al := [.ptr 0 0]) ([.ptr 0 0]) (r := sA v83.1) (j := 0) (b' := .cells 101 (TCodes.cs v83.2)) (by kernel_rfl) rfl (s_draw_Codes_Name hv83) (⟨(scl_cl_u8 _ _), trivial, trivial⟩) (⟨(scl_cl_u8 _ _), trivial, trivial⟩) ⟨Nat.zero_lt_one, trivial⟩ trivial rfl (h' := [.cells 25 [iA 0, sA ByteArray.empty, sA ByteArray.empty, .ro .full 0 [], .ro .full 0 []], .cells 25 (TExpr.cs x1), .cells 101 (TCodes.cs v83.2)]) rfl ?_
          refine R 2 125 [(3, .ptr 1 0), (4, .ptr 2 0)] [.cells 25 [iA 0, sA ByteArray.empty, sA ByteArray.empty, .ro .full 0 [], .ro .full 0 []], .cells 25 [iA x1.gOp, sA v83.1, sA x1.gName, .ro .unk x1.gValues.length (TValue.cl x1.gValues), .ro .unk x1.gKids.length (TExpr.cl x1.gKids)], .cells 101 (TCodes.cs v83.2)] (AOps_done ?_)
          exact Exists.intro (v83.2.glist, v83.2.gat, x1.gOp, v83.1, x1.gName, x1.gValues, x1.gKids) ⟨⟨n, by omega, H⟩, Norm_fd [3, 4] 0 (by kernel_rfl) rfl rfl ⟨⟨trivial, trivial, trivial, trivial, trivial, trivial⟩, ⟨trivial, trivial, trivial, (scl_TValue_cl _ _), (scl_TExpr_cl _ _), trivial⟩, ⟨(scl_cl_u8 _ _), trivial, trivial⟩, trivial⟩ (by refine scL_fr ?_; exact ⟨(sc_ptr rfl), (sc_ptr rfl), trivial⟩)⟩
        · refine AWP_reg (Rh 2 125 [(0, .ptr 0 0), (3, .ptr 1 0), (4, .ptr 2 0), (40, iA v79.1), (52, bA (v79.1 == 2))] (AOps_done (CD H (fun hb84 H => ?_) (fun hb84 H => ?_))))
          · refine AWP_region ?_
            refine Rh 1 125 [(3, .ptr 1 0), (4, .ptr 2 0), (54, .ptr 0 0)] ?_
            obtain ⟨v85, hv85, H⟩ := bind_some H
            refine AOps_call1 (d := (some 55)) (al := [.ptr 0 0]) ([.ptr 0 0]) (r := sA v85.1) (j := 0) (b' := .cells 101 (TCodes.cs v85.2)) (by kernel_rfl) rfl (s_draw_Codes_Name hv85) (⟨(scl_cl_u8 _ _), trivial, trivial⟩) (⟨(scl_cl_u8 _ _), trivial, trivial⟩) ⟨Nat.zero_lt_one, trivial⟩ trivial rfl (h' := [.cells 25 [iA 0, sA ByteArray.empty, sA ByteArray.empty, .ro .full 0 [], .ro .full 0 []], .cells 25 (TExpr.cs x1), .cells 101 (TCodes.cs v85.2)]) rfl ?_
            refine R 2 125 [(3, .ptr 1 0), (4, .ptr 2 0)] [.cells 25 [iA 0, sA ByteArray.empty, sA ByteArray.empty, .ro .full 0 [], .ro .full 0 []], .cells 25 [iA x1.gOp, sA x1.gKind, sA v85.1, .ro .unk x1.gValues.length (TValue.cl x1.gValues), .ro .unk x1.gKids.length (TExpr.cl x1.gKids)], .cells 101 (TCodes.cs v85.2)] (AOps_done ?_)
            exact Exists.intro (v85.2.glist, v85.2.gat, x1.gOp, x1.gKind, v85.1, x1.gValues, x1.gKids) ⟨⟨n, by omega, H⟩, Norm_fd [3, 4] 0 (by kernel_rfl) rfl rfl ⟨⟨trivial, trivial, trivial, trivial, trivial, trivial⟩, ⟨trivial, trivial, trivial, (scl_TValue_cl _ _), (scl_TExpr_cl _ _), trivial⟩, ⟨(scl_cl_u8 _ _), trivial, trivial⟩, trivial⟩ (by refine scL_fr ?_; exact ⟨(sc_ptr rfl), (sc_ptr rfl), trivial⟩)⟩
          · refine AWP_reg (Rh 2 125 [(0, .ptr 0 0), (3, .ptr 1 0), (4, .ptr 2 0), (40, iA v79.1), (57, bA (v79.1 == 3))] (AOps_done (CD H (fun hb86 H => ?_) (fun hb86 H => ?_))))
            · refine AWP_region ?_
              refine Rh 2 125 [(0, .ptr 0 0), (3, .ptr 1 0), (4, .ptr 2 0), (60, .ro .unk x1.gValues.length (TValue.cl x1.gValues))] ?_
              obtain ⟨v87, hv87, H⟩ := bind_some H
              refine AOps_append_nil (d := (some 61)) (c := TValue.cs) (sz := 4) (bs := 56) (e := 58) (ys := x1.gValues) (by kernel_rfl) rfl (eq_TValue_cl _) (fun _ => rfl) (by kernel_rfl) (by kernel_rfl) hv87 (eq_TValue_cl _) ?_
              refine Rh 1 125 [(3, .ptr 1 0), (4, .ptr 2 0), (61, .sl 3 0 v87.length (.whole 4)), (62, .ptr 0 0)] ?_
              obtain ⟨v88, hv88, H⟩ := bind_some H
              refine AOps_call1 (d := (some 63)) (al := [.ptr 0 0]) ([.ptr 0 0]) (r := .agg (TValue.cs v88.1)) (j := 0) (b' := .cells 101 (TCodes.cs v88.2)) (by kernel_rfl) rfl (s_draw_Codes_Any hG hv88) (⟨(scl_cl_u8 _ _), trivial, trivial⟩) (⟨(scl_cl_u8 _ _), trivial, trivial⟩) ⟨Nat.zero_lt_one, trivial⟩ (sc_TValue_cs _ _) rfl (h' := [.row 58 (TValue.cl v87), .cells 25 [iA 0, sA ByteArray.empty, sA ByteArray.empty, .ro .full 0 [], .ro .full 0 []], .cells 25 (TExpr.cs x1), .cells 101 (TCodes.cs v88.2)]) rfl ?_
              refine AOps_bsl (d := (some 64)) (m := 1) (cs := [iA v88.1.gKind, iA v88.1.gNumber, sA v88.1.gText, .ro .unk v88.1.gList.length (cl_str v88.1.gList)]) (by kernel_rfl) ⟨trivial, trivial, trivial, (scl_cl_str _ _), trivial⟩ ?_
              obtain ⟨v89, hv89, H⟩ := bind_some H
              refine AOps_append (d := (some 65)) (c := TValue.cs) (sz := 4) (bs := 56) (e := 58) (id := 3) (xs := v87) (ys := [v88.1]) (by kernel_rfl) rfl (eq_TValue_cl _) rfl (eq_TValue_cl _) (fun _ => rfl) (by kernel_rfl) (by kernel_rfl) hv89 (eq_TValue_cl _) (h' := [.row 58 (TValue.cl v89), .dead, .cells 25 [iA 0, sA ByteArray.empty, sA ByteArray.empty, .ro .full 0 [], .ro .full 0 []], .cells 25 (TExpr.cs x1), .cells 101 (TCodes.cs v88.2)]) rfl ?_
              refine R 2 125 [(3, .ptr 1 0), (4, .ptr 2 0)] [.row 58 (TValue.cl v89), .dead, .cells 25 [iA 0, sA ByteArray.empty, sA ByteArray.empty, .ro .full 0 [], .ro .full 0 []], .cells 25 [iA x1.gOp, sA x1.gKind, sA x1.gName, .sl 4 0 v89.length (.whole 4), .ro .unk x1.gKids.length (TExpr.cl x1.gKids)], .cells 101 (TCodes.cs v88.2)] (AOps_done ?_)
              exact Exists.intro (v88.2.glist, v88.2.gat, x1.gOp, x1.gKind, x1.gName, v89, x1.gKids) ⟨⟨n, by omega, H⟩, Norm_trans (Norm_fd (st' := fr 125 [(3, .ptr 1 0), (4, .ptr 2 0)]) (h' := [.row 58 (TValue.cl v89), .dead, .cells 25 [iA 0, sA ByteArray.empty, sA ByteArray.empty, .ro .full 0 [], .ro .full 0 []], .cells 25 [iA x1.gOp, sA x1.gKind, sA x1.gName, .sl 4 0 v89.length (.whole 4), .ro .unk x1.gKids.length (TExpr.cl x1.gKids)], .cells 101 (TCodes.cs v88.2)]) [3, 4] 0 (by kernel_rfl) rfl rfl ⟨(scl_TValue_cl _ _), trivial, ⟨trivial, trivial, trivial, trivial, trivial, trivial⟩, ⟨trivial, trivial, trivial, (sc_sl rfl), (scl_TExpr_cl _ _), trivial⟩, ⟨(scl_cl_u8 _ _), trivial, trivial⟩, trivial⟩ (by refine scL_fr ?_; exact ⟨(sc_ptr rfl), (sc_ptr rfl), trivial⟩)) (Norm_trans (Norm_cfrz (h' := [.row 58 (TValue.cl v89), .dead, .cells 25 [iA 0, sA ByteArray.empty, sA ByteArray.empty, .ro .full 0 [], .ro .full 0 []], .cells 25 [iA x1.gOp, sA x1.gKind, sA x1.gName, .ro .unk v89.length (TValue.cl v89), .ro .unk x1.gKids.length (TExpr.cl x1.gKids)], .cells 101 (TCodes.cs v88.2)]) 1 rfl (FrzL_cons (Frz_sc trivial) (FrzL_cons (Frz_sc trivial) (FrzL_cons (Frz_sc trivial) (FrzL_cons (Frz_row (t := 58) (cs := TValue.cl v89) rfl (scl_TValue_cl _ _)) (FrzL_cons (Frz_sc (scl_TExpr_cl _ _)) (FrzL_nil)))))) rfl rfl) (Norm_fd [3, 4] 2 (by kernel_rfl) rfl rfl ⟨⟨trivial, trivial, trivial, trivial, trivial, trivial⟩, ⟨trivial, trivial, trivial, (scl_TValue_cl _ _), (scl_TExpr_cl _ _), trivial⟩, ⟨(scl_cl_u8 _ _), trivial, trivial⟩, trivial⟩ (by refine scL_fr ?_; exact ⟨(sc_ptr rfl), (sc_ptr rfl), trivial⟩)))⟩
            · refine AWP_reg (Rh 2 125 [(0, .ptr 0 0), (3, .ptr 1 0), (4, .ptr 2 0), (40, iA v79.1), (67, bA (v79.1 == 4))] (AOps_done (CD H (fun hb90 H => ?_) (fun hb90 H => ?_))))
              · refine AWP_region ?_
                refine R 2 125 [(3, .ptr 1 0), (4, .ptr 2 0)] [.cells 25 [iA 0, sA ByteArray.empty, sA ByteArray.empty, .ro .full 0 [], .ro .full 0 []], .cells 25 [iA x1.gOp, sA x1.gKind, sA x1.gName, .ro .full 0 [], .ro .unk x1.gKids.length (TExpr.cl x1.gKids)], .cells 101 (TCodes.cs v79.2)] (AOps_done ?_)
                exact Exists.intro (v79.2.glist, v79.2.gat, x1.gOp, x1.gKind, x1.gName, [], x1.gKids) ⟨⟨n, by omega, H⟩, Norm_trans (Norm_cle (h' := [.cells 25 [iA 0, sA ByteArray.empty, sA ByteArray.empty, .ro .full 0 [], .ro .full 0 []], .cells 25 [iA x1.gOp, sA x1.gKind, sA x1.gName, .ro .unk ([] : List TValue).length (TValue.cl ([] : List TValue)), .ro .unk x1.gKids.length (TExpr.cl x1.gKids)], .cells 101 (TCodes.cs v79.2)]) 1 rfl (leL_cons (AV.le_refl _) (leL_cons (AV.le_refl _) (leL_cons (AV.le_refl _) (leL_cons (AV.le_ro _ _ _) (leL_refl _))))) rfl rfl) (Norm_fd [3, 4] 0 (by kernel_rfl) rfl rfl ⟨⟨trivial, trivial, trivial, trivial, trivial, trivial⟩, ⟨trivial, trivial, trivial, (scl_TValue_cl _ _), (scl_TExpr_cl _ _), trivial⟩, ⟨(scl_cl_u8 _ _), trivial, trivial⟩, trivial⟩ (by refine scL_fr ?_; exact ⟨(sc_ptr rfl), (sc_ptr rfl), trivial⟩))⟩
              · refine AWP_reg (Rh 2 125 [(0, .ptr 0 0), (3, .ptr 1 0), (4, .ptr 2 0), (40, iA v79.1), (70, bA (v79.1 == 5))] (AOps_done (CD H (fun hb91 H => ?_) (fun hb91 H => ?_))))
                · refine AWP_region ?_
                  refine Rh 1 125 [(0, .ptr 0 0), (3, .ptr 1 0), (4, .ptr 2 0), (72, .ptr 0 0)] ?_
                  obtain ⟨v92, hv92, H⟩ := bind_some H
                  refine AOps_call1 (d := (some 73)) (al := [.ptr 0 0, iA 7]) ([.ptr 0 0, iA 7]) (r := iA v92.1) (j := 0) (b' := .cells 101 (TCodes.cs v92.2)) (by kernel_rfl) rfl (s_draw_Codes_Next hv92) (⟨(scl_cl_u8 _ _), trivial, trivial⟩) (⟨(scl_cl_u8 _ _), trivial, trivial⟩) ⟨Nat.zero_lt_one, trivial, trivial⟩ trivial rfl (h' := [.cells 25 [iA 0, sA ByteArray.empty, sA ByteArray.empty, .ro .full 0 [], .ro .full 0 []], .cells 25 (TExpr.cs x1), .cells 101 (TCodes.cs v92.2)]) rfl ?_
                  refine Rh 1 125 [(3, .ptr 1 0), (4, .ptr 2 0), (73, iA v92.1), (74, .ptr 0 0)] ?_
                  obtain ⟨v93, hv93, H⟩ := bind_some H
                  refine AOps_call1 (d := (some 75)) (al := [.ptr 0 0]) ([.ptr 0 0]) (r := iA v93.1) (j := 0) (b' := .cells 101 (TCodes.cs v93.2)) (by kernel_rfl) rfl (s_draw_Codes_Number hv93) (⟨(scl_cl_u8 _ _), trivial, trivial⟩) (⟨(scl_cl_u8 _ _), trivial, trivial⟩) ⟨Nat.zero_lt_one, trivial⟩ trivial rfl (h' := [.cells 25 [iA 0, sA ByteArray.empty, sA ByteArray.empty, .ro .full 0 [], .ro .full 0 []], .cells 25 (TExpr.cs x1), .cells 101 (TCodes.cs v93.2)]) rfl ?_
                  refine Rh 1 125 [(3, .ptr 1 0), (4, .ptr 2 0), (76, .agg [iA v92.1, iA v93.1, sA ByteArray.empty, .ro .full 0 []])] (AOps_bsl2 (d := (some 77)) (m := 1) (cs := [iA v92.1, iA v93.1, sA ByteArray.empty, .ro .full 0 []]) [iA v92.1, iA v93.1, sA ByteArray.empty, .ro .unk ([] : List ByteArray).length (cl_str ([] : List ByteArray))] (by kernel_rfl) ⟨trivial, trivial, trivial, trivial, trivial⟩ (leL_cons (AV.le_refl _) (leL_cons (AV.le_refl _) (leL_cons (AV.le_refl _) (leL_cons (AV.le_ro _ _ _) (leL_refl _))))) rfl ?_)
                  refine R 2 125 [(3, .ptr 1 0), (4, .ptr 2 0)] [.cells 25 [iA 0, sA ByteArray.empty, sA ByteArray.empty, .ro .full 0 [], .ro .full 0 []], .cells 25 [iA x1.gOp, sA x1.gKind, sA x1.gName, .ro .unk ([({ gKind := v92.1, gNumber := v93.1, gText := ByteArray.empty, gList := [] } : TValue)]).length (TValue.cl ([({ gKind := v92.1, gNumber := v93.1, gText := ByteArray.empty, gList := [] } : TValue)])), .ro .unk x1.gKids.length (TExpr.cl x1.gKids)], .cells 101 (TCodes.cs v93.2)] (AOps_done ?_)
                  exact Exists.intro (v93.2.glist, v93.2.gat, x1.gOp, x1.gKind, x1.gName, [({ gKind := v92.1, gNumber := v93.1, gText := ByteArray.empty, gList := [] } : TValue)], x1.gKids) ⟨⟨n, by omega, H⟩, Norm_fd [3, 4] 0 (by kernel_rfl) rfl rfl ⟨⟨trivial, trivial, trivial, trivial, trivial, trivial⟩, ⟨trivial, trivial, trivial, (scl_TValue_cl _ _), (scl_TExpr_cl _ _), trivial⟩, ⟨(scl_cl_u8 _ _), trivial, trivial⟩, trivial⟩ (by refine scL_fr ?_; exact ⟨(sc_ptr rfl), (sc_ptr rfl), trivial⟩)⟩
                · refine AWP_reg (Rh 2 125 [(0, .ptr 0 0), (3, .ptr 1 0), (4, .ptr 2 0), (40, iA v79.1), (79, bA (v79.1 == 6))] (AOps_done (CD H (fun hb94 H => ?_) (fun hb94 H => ?_))))
                  · refine AWP_region ?_
                    refine Rh 2 125 [(0, .ptr 0 0), (3, .ptr 1 0), (4, .ptr 2 0), (82, .ro .unk x1.gKids.length (TExpr.cl x1.gKids))] ?_
                    obtain ⟨v95, hv95, H⟩ := bind_some H
                    refine AOps_append_nilO (d := (some 83)) (c := TExpr.cs) (sz := 5) (bs := 88) (e := 25) (ys := x1.gKids) (by kernel_rfl) rfl (eq_TExpr_cl _) (fun _ => rfl) (by kernel_rfl) (by kernel_rfl) hv95 (eq_TExpr_cl _) ?_
                    refine Rh 1 125 [(3, .ptr 1 0), (4, .ptr 2 0), (83, .sl 3 0 v95.length (.whole 5)), (84, .ptr 0 0)] ?_
                    obtain ⟨v96, hv96, H⟩ := bind_some H
                    refine AOps_call1 (d := (some 85)) (al := [.ptr 0 0]) ([.ptr 0 0]) (r := .agg (TExpr.cs v96.1)) (j := 0) (b' := .cells 101 (TCodes.cs v96.2)) (by kernel_rfl) rfl (s_draw_Codes_Test hG hv96) (⟨(scl_cl_u8 _ _), trivial, trivial⟩) (⟨(scl_cl_u8 _ _), trivial, trivial⟩) ⟨Nat.zero_lt_one, trivial⟩ (sc_TExpr_cs _ _) rfl (h' := [.cells 25 (TExpr.cl v95), .cells 25 [iA 0, sA ByteArray.empty, sA ByteArray.empty, .ro .full 0 [], .ro .full 0 []], .cells 25 (TExpr.cs x1), .cells 101 (TCodes.cs v96.2)]) rfl ?_
                    refine AOps_bsl (d := (some 86)) (m := 1) (cs := [iA v96.1.gOp, sA v96.1.gKind, sA v96.1.gName, .ro .unk v96.1.gValues.length (TValue.cl v96.1.gValues), .ro .unk v96.1.gKids.length (TExpr.cl v96.1.gKids)]) (by kernel_rfl) ⟨trivial, trivial, trivial, (scl_TValue_cl _ _), (scl_TExpr_cl _ _), trivial⟩ ?_
                    refine AOps_cast (d := (some 86)) (v' := .ro .unk ([v96.1]).length (TExpr.cl ([v96.1]))) (congrArg (AV.ro .unk 1) (eq_TExpr_cl ([v96.1])).symm) ?_
                    obtain ⟨v97, hv97, H⟩ := bind_some H
                    refine AOps_appendO (d := (some 87)) (c := TExpr.cs) (sz := 5) (bs := 88) (e := 25) (id := 3) (xs := v95) (ys := [v96.1]) (by kernel_rfl) rfl (eq_TExpr_cl _) rfl (eq_TExpr_cl _) (fun _ => rfl) (by kernel_rfl) (by kernel_rfl) hv97 (eq_TExpr_cl _) (h' := [.cells 25 (TExpr.cl v97), .dead, .cells 25 [iA 0, sA ByteArray.empty, sA ByteArray.empty, .ro .full 0 [], .ro .full 0 []], .cells 25 (TExpr.cs x1), .cells 101 (TCodes.cs v96.2)]) rfl ?_
                    refine R 2 125 [(3, .ptr 1 0), (4, .ptr 2 0)] [.cells 25 (TExpr.cl v97), .dead, .cells 25 [iA 0, sA ByteArray.empty, sA ByteArray.empty, .ro .full 0 [], .ro .full 0 []], .cells 25 [iA x1.gOp, sA x1.gKind, sA x1.gName, .ro .unk x1.gValues.length (TValue.cl x1.gValues), .sl 4 0 v97.length (.whole 5)], .cells 101 (TCodes.cs v96.2)] (AOps_done ?_)
                    exact Exists.intro (v96.2.glist, v96.2.gat, x1.gOp, x1.gKind, x1.gName, x1.gValues, v97) ⟨⟨n, by omega, H⟩, Norm_trans (Norm_fd (st' := fr 125 [(3, .ptr 1 0), (4, .ptr 2 0)]) (h' := [.cells 25 (TExpr.cl v97), .dead, .cells 25 [iA 0, sA ByteArray.empty, sA ByteArray.empty, .ro .full 0 [], .ro .full 0 []], .cells 25 [iA x1.gOp, sA x1.gKind, sA x1.gName, .ro .unk x1.gValues.length (TValue.cl x1.gValues), .sl 4 0 v97.length (.whole 5)], .cells 101 (TCodes.cs v96.2)]) [3, 4] 0 (by kernel_rfl) rfl rfl ⟨(scl_TExpr_cl _ _), trivial, ⟨trivial, trivial, trivial, trivial, trivial, trivial⟩, ⟨trivial, trivial, trivial, (scl_TValue_cl _ _), (sc_sl rfl), trivial⟩, ⟨(scl_cl_u8 _ _), trivial, trivial⟩, trivial⟩ (by refine scL_fr ?_; exact ⟨(sc_ptr rfl), (sc_ptr rfl), trivial⟩)) (Norm_trans (Norm_o2r 4 rfl (h' := [.row 25 (TExpr.cl v97), .dead, .cells 25 [iA 0, sA ByteArray.empty, sA ByteArray.empty, .ro .full 0 [], .ro .full 0 []], .cells 25 [iA x1.gOp, sA x1.gKind, sA x1.gName, .ro .unk x1.gValues.length (TValue.cl x1.gValues), .sl 4 0 v97.length (.whole 5)], .cells 101 (TCodes.cs v96.2)]) rfl) (Norm_trans (Norm_cfrz (h' := [.row 25 (TExpr.cl v97), .dead, .cells 25 [iA 0, sA ByteArray.empty, sA ByteArray.empty, .ro .full 0 [], .ro .full 0 []], .cells 25 [iA x1.gOp, sA x1.gKind, sA x1.gName, .ro .unk x1.gValues.length (TValue.cl x1.gValues), .ro .unk v97.length (TExpr.cl v97)], .cells 101 (TCodes.cs v96.2)]) 1 rfl (FrzL_cons (Frz_sc trivial) (FrzL_cons (Frz_sc trivial) (FrzL_cons (Frz_sc trivial) (FrzL_cons (Frz_sc (scl_TValue_cl _ _)) (FrzL_cons (Frz_row (t := 25) (cs := TExpr.cl v97) rfl (scl_TExpr_cl _ _)) (FrzL_nil)))))) rfl rfl) (Norm_fd [3, 4] 2 (by kernel_rfl) rfl rfl ⟨⟨trivial, trivial, trivial, trivial, trivial, trivial⟩, ⟨trivial, trivial, trivial, (scl_TValue_cl _ _), (scl_TExpr_cl _ _), trivial⟩, ⟨(scl_cl_u8 _ _), trivial, trivial⟩, trivial⟩ (by refine scL_fr ?_; exact ⟨(sc_ptr rfl), (sc_ptr rfl), trivial⟩))))⟩
                  · refine AWP_reg (Rh 2 125 [(0, .ptr 0 0), (3, .ptr 1 0), (4, .ptr 2 0), (40, iA v79.1), (89, bA (v79.1 == 7))] (AOps_done (CD H (fun hb98 H => ?_) (fun hb98 H => ?_))))
                    · refine AWP_reg (Rh 1 125 [(0, .ptr 0 0), (3, .ptr 1 0), (4, .ptr 2 0), (6, iA 0)] (AOps_done (AWP_block ?_)))
                      refine AWP_loopN (α := Int × (List Int) × Int × Int × ByteArray × ByteArray × (List TValue) × (List TExpr)) (fun ⟨v111, v112, v113, v114, v115, v116, v117, v118⟩ => fr 125 [(0, .ptr 0 0), (3, .ptr 1 0), (4, .ptr 2 0), (6, iA v111)]) (fun ⟨v111, v112, v113, v114, v115, v116, v117, v118⟩ => [.cells 25 [iA 0, sA ByteArray.empty, sA ByteArray.empty, .ro .full 0 [], .ro .full 0 []], .cells 25 [iA v114, sA v115, sA v116, .ro .unk v117.length (TValue.cl v117), .ro .unk v118.length (TExpr.cl v118)], .cells 101 [.ro .unk v112.length (cl_u8 v112), iA v113]]) (fun k_ ⟨v111, v112, v113, v114, v115, v116, v117, v118⟩ => k_ ≤ n ∧ p_draw_Codes_Condition_L1 k_  v111 v112 v113 v114 v115 v116 v117 v118 = some r) (fun n a H => ?_) (k := n) (0, v79.2.glist, v79.2.gat, x1.gOp, x1.gKind, x1.gName, x1.gValues, x1.gKids) ⟨Nat.le_refl _, H⟩ (Norm_fd [0, 3, 4, 6] 0 (by kernel_rfl) rfl rfl ⟨⟨trivial, trivial, trivial, trivial, trivial, trivial⟩, ⟨trivial, trivial, trivial, (scl_TValue_cl _ _), (scl_TExpr_cl _ _), trivial⟩, ⟨(scl_cl_u8 _ _), trivial, trivial⟩, trivial⟩ (by refine scL_fr ?_; exact ⟨(sc_ptr rfl), (sc_ptr rfl), (sc_ptr rfl), trivial, trivial⟩))
                      obtain ⟨v111, v112, v113, v114, v115, v116, v117, v118⟩ := a
                      show AWP _ _ _ _ _ (fr 125 [(0, .ptr 0 0), (3, .ptr 1 0), (4, .ptr 2 0), (6, iA v111)]) [.cells 25 [iA 0, sA ByteArray.empty, sA ByteArray.empty, .ro .full 0 [], .ro .full 0 []], .cells 25 [iA v114, sA v115, sA v116, .ro .unk v117.length (TValue.cl v117), .ro .unk v118.length (TExpr.cl v118)], .cells 101 [.ro .unk v112.length (cl_u8 v112), iA v113]]
                      obtain ⟨hb_, H⟩ := H
                      replace H : p_draw_Codes_Condition_L1 n  v111 v112 v113 v114 v115 v116 v117 v118 = some r := H
                      cases n with
                      | zero => exact not_none (by simpa only [p_draw_Codes_Condition_L1] using H)
                      | succ n =>
                        unfold p_draw_Codes_Condition_L1 at H
                        refine AWP_seq (AWP_reg (Rh 2 125 [(0, .ptr 0 0), (3, .ptr 1 0), (4, .ptr 2 0), (6, iA v111), (91, iA v111), (92, .ptr 0 0)] ?_))
                        obtain ⟨v119, hv119, H⟩ := bind_some H
                        refine AOps_call1 (d := (some 93)) (al := [.ptr 0 0, iA 3]) ([.ptr 0 0, iA 3]) (r := iA v119.1) (j := 0) (b' := .cells 101 (TCodes.cs v119.2)) (by kernel_rfl) rfl (s_draw_Codes_Next hv119) (⟨(scl_cl_u8 _ _), trivial, trivial⟩) (⟨(scl_cl_u8 _ _), trivial, trivial⟩) ⟨Nat.zero_lt_one, trivial, trivial⟩ trivial rfl (h' := [.cells 25 [iA 0, sA ByteArray.empty, sA ByteArray.empty, .ro .full 0 [], .ro .full 0 []], .cells 25 [iA v114, sA v115, sA v116, .ro .unk v117.length (TValue.cl v117), .ro .unk v118.length (TExpr.cl v118)], .cells 101 (TCodes.cs v119.2)]) rfl ?_
                        refine Rh 2 125 [(0, .ptr 0 0), (3, .ptr 1 0), (4, .ptr 2 0), (6, iA v111), (95, bA (decide (v111 < (w64 (9 + v119.1)))))] (AOps_done (CD H (fun hb120 H => ?_) (fun hb120 H => ?_)))
                        · refine AWP_skip ?_
                          show AWP _ _ _ _ _ _ _
                          refine AWP_seq (AWP_block ?_)
                          refine AWP_region ?_
                          refine Rh 1 125 [(0, .ptr 0 0), (3, .ptr 1 0), (4, .ptr 2 0), (6, iA v111), (98, .agg [iA v114, sA v115, sA v116, .ro .unk v117.length (TValue.cl v117), .ro .unk v118.length (TExpr.cl v118)])] (AOps_bsl (d := (some 99)) (m := 1) (cs := [iA v114, sA v115, sA v116, .ro .unk v117.length (TValue.cl v117), .ro .unk v118.length (TExpr.cl v118)]) (by kernel_rfl) ⟨trivial, trivial, trivial, (scl_TValue_cl _ _), (scl_TExpr_cl _ _), trivial⟩ ?_)
                          refine AOps_cast (d := (some 99)) (v' := .ro .unk ([(TExpr.mk v114 v115 v116 v117 v118)]).length (TExpr.cl ([(TExpr.mk v114 v115 v116 v117 v118)]))) (congrArg (AV.ro .unk 1) (eq_TExpr_cl ([(TExpr.mk v114 v115 v116 v117 v118)])).symm) ?_
                          refine R 2 125 [(0, .ptr 0 0), (3, .ptr 1 0), (4, .ptr 2 0), (6, iA v111)] [.cells 25 [iA 0, sA ByteArray.empty, sA ByteArray.empty, .ro .full 0 [], .ro .full 0 []], .cells 25 [iA 4, sA ByteArray.empty, sA ByteArray.empty, .ro .full 0 [], .ro .unk ([(TExpr.mk v114 v115 v116 v117 v118)]).length (TExpr.cl ([(TExpr.mk v114 v115 v116 v117 v118)]))], .cells 101 (TCodes.cs v119.2)] (AOps_done ?_)
                          show AWP _ _ _ _ _ _ _
                          refine AWP_region ?_
                          refine Rh 3 125 [(0, .ptr 0 0), (3, .ptr 1 0), (4, .ptr 2 0), (6, iA (w64 (v111 + 1)))] (AOps_done ?_)
                          exact Exists.intro (w64 (v111 + 1), v119.2.glist, v119.2.gat, 4, ByteArray.empty, ByteArray.empty, [], [(TExpr.mk v114 v115 v116 v117 v118)]) (Exists.intro n ⟨by omega, ⟨by omega, H⟩, Norm_trans (Norm_cle (h' := [.cells 25 [iA 0, sA ByteArray.empty, sA ByteArray.empty, .ro .full 0 [], .ro .full 0 []], .cells 25 [iA 4, sA ByteArray.empty, sA ByteArray.empty, .ro .unk ([] : List TValue).length (TValue.cl ([] : List TValue)), .ro .unk ([(TExpr.mk v114 v115 v116 v117 v118)]).length (TExpr.cl ([(TExpr.mk v114 v115 v116 v117 v118)]))], .cells 101 (TCodes.cs v119.2)]) 1 rfl (leL_cons (AV.le_refl _) (leL_cons (AV.le_refl _) (leL_cons (AV.le_refl _) (leL_cons (AV.le_ro _ _ _) (leL_refl _))))) rfl rfl) (Norm_fd [0, 3, 4, 6] 0 (by kernel_rfl) rfl rfl ⟨⟨trivial, trivial, trivial, trivial, trivial, trivial⟩, ⟨trivial, trivial, trivial, (scl_TValue_cl _ _), (scl_TExpr_cl _ _), trivial⟩, ⟨(scl_cl_u8 _ _), trivial, trivial⟩, trivial⟩ (by refine scL_fr ?_; exact ⟨(sc_ptr rfl), (sc_ptr rfl), (sc_ptr rfl), trivial, trivial⟩))⟩)
                        · refine AWP_exit ?_
                          exact Exists.intro (v119.2.glist, v119.2.gat, v114, v115, v116, v117, v118) ⟨⟨n, by omega, H⟩, Norm_fd [3, 4] 0 (by kernel_rfl) rfl rfl ⟨⟨trivial, trivial, trivial, trivial, trivial, trivial⟩, ⟨trivial, trivial, trivial, (scl_TValue_cl _ _), (scl_TExpr_cl _ _), trivial⟩, ⟨(scl_cl_u8 _ _), trivial, trivial⟩, trivial⟩ (by refine scL_fr ?_; exact ⟨(sc_ptr rfl), (sc_ptr rfl), trivial⟩)⟩
                    · refine AWP_reg (Rh 2 125 [(0, .ptr 0 0), (3, .ptr 1 0), (4, .ptr 2 0), (40, iA v79.1), (101, bA (v79.1 == 8))] (AOps_done (CD H (fun hb121 H => ?_) (fun hb121 H => ?_))))
                      · refine AWP_reg (R 3 125 [(0, .ptr 0 0), (3, .ptr 1 0), (4, .ptr 2 0), (7, .ptr 3 0)] [.cells 25 (TExpr.cs x1), .cells 25 [iA 0, sA ByteArray.empty, sA ByteArray.empty, .ro .full 0 [], .ro .full 0 []], .cells 25 (TExpr.cs x1), .cells 101 (TCodes.cs v79.2)] (AOps_done (AWP_seq (AWP_reg (Rh 1 125 [(0, .ptr 0 0), (3, .ptr 1 0), (4, .ptr 2 0), (7, .ptr 3 0), (8, iA 0)] (AOps_done (AWP_block ?_)))))))
                        refine AWP_loopN (α := Int × (List Int) × Int × (List TExpr)) (fun ⟨v133, v134, v135, v136⟩ => fr 125 [(0, .ptr 0 0), (3, .ptr 1 0), (4, .ptr 2 0), (7, .ptr 3 0), (8, iA v133)]) (fun ⟨v133, v134, v135, v136⟩ => [.cells 25 [iA x1.gOp, sA x1.gKind, sA x1.gName, .ro .unk x1.gValues.length (TValue.cl x1.gValues), .ro .unk v136.length (TExpr.cl v136)], .cells 25 [iA 0, sA ByteArray.empty, sA ByteArray.empty, .ro .full 0 [], .ro .full 0 []], .cells 25 (TExpr.cs x1), .cells 101 [.ro .unk v134.length (cl_u8 v134), iA v135]]) (fun k_ ⟨v133, v134, v135, v136⟩ => k_ ≤ n ∧ p_draw_Codes_Condition_L2 k_ x1 v133 v134 v135 v136 = some r) (fun n a H => ?_) (k := n) (0, v79.2.glist, v79.2.gat, x1.gKids) ⟨Nat.le_refl _, H⟩ (Norm_fd [0, 3, 4, 7, 8] 0 (by kernel_rfl) rfl rfl ⟨⟨trivial, trivial, trivial, (scl_TValue_cl _ _), (scl_TExpr_cl _ _), trivial⟩, ⟨trivial, trivial, trivial, trivial, trivial, trivial⟩, (sc_TExpr_cs _ _), ⟨(scl_cl_u8 _ _), trivial, trivial⟩, trivial⟩ (by refine scL_fr ?_; exact ⟨(sc_ptr rfl), (sc_ptr rfl), (sc_ptr rfl), (sc_ptr rfl), trivial, trivial⟩))
                        obtain ⟨v133, v134, v135, v136⟩ := a
                        show AWP _ _ _ _ _ (fr 125 [(0, .ptr 0 0), (3, .ptr 1 0), (4, .ptr 2 0), (7, .ptr 3 0), (8, iA v133)]) [.cells 25 [iA x1.gOp, sA x1.gKind, sA x1.gName, .ro .unk x1.gValues.length (TValue.cl x1.gValues), .ro .unk v136.length (TExpr.cl v136)], .cells 25 [iA 0, sA ByteArray.empty, sA ByteArray.empty, .ro .full 0 [], .ro .full 0 []], .cells 25 (TExpr.cs x1), .cells 101 [.ro .unk v134.length (cl_u8 v134), iA v135]]
                        obtain ⟨hb_, H⟩ := H
                        replace H : p_draw_Codes_Condition_L2 n x1 v133 v134 v135 v136 = some r := H
                        cases n with
                        | zero => exact not_none (by simpa only [p_draw_Codes_Condition_L2] using H)
                        | succ n =>
                          unfold p_draw_Codes_Condition_L2 at H
                          refine AWP_seq (AWP_reg (Rh 2 125 [(0, .ptr 0 0), (3, .ptr 1 0), (4, .ptr 2 0), (7, .ptr 3 0), (8, iA v133), (105, bA (decide (v133 < 11)))] (AOps_done (CD H (fun hb137 H => ?_) (fun hb137 H => ?_)))))
                          · refine AWP_skip ?_
                            show AWP _ _ _ _ _ _ _
                            refine AWP_seq (AWP_block ?_)
                            refine AWP_region ?_
                            refine Rh 2 125 [(0, .ptr 0 0), (3, .ptr 1 0), (4, .ptr 2 0), (7, .ptr 3 0), (8, iA v133), (109, .ro .unk v136.length (TExpr.cl v136))] ?_
                            obtain ⟨v138, hv138, H⟩ := bind_some H
                            refine AOps_append_nilO (d := (some 110)) (c := TExpr.cs) (sz := 5) (bs := 88) (e := 25) (ys := v136) (by kernel_rfl) rfl (eq_TExpr_cl _) (fun _ => rfl) (by kernel_rfl) (by kernel_rfl) hv138 (eq_TExpr_cl _) ?_
                            refine Rh 1 125 [(0, .ptr 0 0), (3, .ptr 1 0), (4, .ptr 2 0), (7, .ptr 3 0), (8, iA v133), (110, .sl 4 0 v138.length (.whole 5)), (111, .ptr 0 0)] ?_
                            obtain ⟨v139, hv139, H⟩ := bind_some H
                            refine AOps_call1 (d := (some 112)) (al := [.ptr 0 0]) ([.ptr 0 0]) (r := .agg (TExpr.cs v139.1)) (j := 0) (b' := .cells 101 (TCodes.cs v139.2)) (by kernel_rfl) rfl (s_draw_Codes_Test hG hv139) (⟨(scl_cl_u8 _ _), trivial, trivial⟩) (⟨(scl_cl_u8 _ _), trivial, trivial⟩) ⟨Nat.zero_lt_one, trivial⟩ (sc_TExpr_cs _ _) rfl (h' := [.cells 25 (TExpr.cl v138), .cells 25 [iA x1.gOp, sA x1.gKind, sA x1.gName, .ro .unk x1.gValues.length (TValue.cl x1.gValues), .ro .unk v136.length (TExpr.cl v136)], .cells 25 [iA 0, sA ByteArray.empty, sA ByteArray.empty, .ro .full 0 [], .ro .full 0 []], .cells 25 (TExpr.cs x1), .cells 101 (TCodes.cs v139.2)]) rfl ?_
                            refine AOps_bsl (d := (some 113)) (m := 1) (cs := [iA v139.1.gOp, sA v139.1.gKind, sA v139.1.gName, .ro .unk v139.1.gValues.length (TValue.cl v139.1.gValues), .ro .unk v139.1.gKids.length (TExpr.cl v139.1.gKids)]) (by kernel_rfl) ⟨trivial, trivial, trivial, (scl_TValue_cl _ _), (scl_TExpr_cl _ _), trivial⟩ ?_
                            refine AOps_cast (d := (some 113)) (v' := .ro .unk ([v139.1]).length (TExpr.cl ([v139.1]))) (congrArg (AV.ro .unk 1) (eq_TExpr_cl ([v139.1])).symm) ?_
                            obtain ⟨v140, hv140, H⟩ := bind_some H
                            refine AOps_appendO (d := (some 114)) (c := TExpr.cs) (sz := 5) (bs := 88) (e := 25) (id := 4) (xs := v138) (ys := [v139.1]) (by kernel_rfl) rfl (eq_TExpr_cl _) rfl (eq_TExpr_cl _) (fun _ => rfl) (by kernel_rfl) (by kernel_rfl) hv140 (eq_TExpr_cl _) (h' := [.cells 25 (TExpr.cl v140), .dead, .cells 25 [iA x1.gOp, sA x1.gKind, sA x1.gName, .ro .unk x1.gValues.length (TValue.cl x1.gValues), .ro .unk v136.length (TExpr.cl v136)], .cells 25 [iA 0, sA ByteArray.empty, sA ByteArray.empty, .ro .full 0 [], .ro .full 0 []], .cells 25 (TExpr.cs x1), .cells 101 (TCodes.cs v139.2)]) rfl ?_
                            refine R 2 125 [(0, .ptr 0 0), (3, .ptr 1 0), (4, .ptr 2 0), (7, .ptr 3 0), (8, iA v133)] [.cells 25 (TExpr.cl v140), .dead, .cells 25 [iA x1.gOp, sA x1.gKind, sA x1.gName, .ro .unk x1.gValues.length (TValue.cl x1.gValues), .sl 5 0 v140.length (.whole 5)], .cells 25 [iA 0, sA ByteArray.empty, sA ByteArray.empty, .ro .full 0 [], .ro .full 0 []], .cells 25 (TExpr.cs x1), .cells 101 (TCodes.cs v139.2)] (AOps_done ?_)
                            show AWP _ _ _ _ _ _ _
                            refine AWP_region ?_
                            refine Rh 3 125 [(0, .ptr 0 0), (3, .ptr 1 0), (4, .ptr 2 0), (7, .ptr 3 0), (8, iA (w64 (v133 + 1)))] (AOps_done ?_)
                            exact Exists.intro (w64 (v133 + 1), v139.2.glist, v139.2.gat, v140) (Exists.intro n ⟨by omega, ⟨by omega, H⟩, Norm_trans (Norm_fd (st' := fr 125 [(0, .ptr 0 0), (3, .ptr 1 0), (4, .ptr 2 0), (7, .ptr 3 0), (8, iA (w64 (v133 + 1)))]) (h' := [.cells 25 (TExpr.cl v140), .dead, .cells 25 [iA x1.gOp, sA x1.gKind, sA x1.gName, .ro .unk x1.gValues.length (TValue.cl x1.gValues), .sl 5 0 v140.length (.whole 5)], .cells 25 [iA 0, sA ByteArray.empty, sA ByteArray.empty, .ro .full 0 [], .ro .full 0 []], .cells 25 (TExpr.cs x1), .cells 101 (TCodes.cs v139.2)]) [0, 3, 4, 7, 8] 0 (by kernel_rfl) rfl rfl ⟨(scl_TExpr_cl _ _), trivial, ⟨trivial, trivial, trivial, (scl_TValue_cl _ _), (sc_sl rfl), trivial⟩, ⟨trivial, trivial, trivial, trivial, trivial, trivial⟩, (sc_TExpr_cs _ _), ⟨(scl_cl_u8 _ _), trivial, trivial⟩, trivial⟩ (by refine scL_fr ?_; exact ⟨(sc_ptr rfl), (sc_ptr rfl), (sc_ptr rfl), (sc_ptr rfl), trivial, trivial⟩)) (Norm_trans (Norm_o2r 5 rfl (h' := [.row 25 (TExpr.cl v140), .dead, .cells 25 [iA x1.gOp, sA x1.gKind, sA x1.gName, .ro .unk x1.gValues.length (TValue.cl x1.gValues), .sl 5 0 v140.length (.whole 5)], .cells 25 [iA 0, sA ByteArray.empty, sA ByteArray.empty, .ro .full 0 [], .ro .full 0 []], .cells 25 (TExpr.cs x1), .cells 101 (TCodes.cs v139.2)]) rfl) (Norm_trans (Norm_cfrz (h' := [.row 25 (TExpr.cl v140), .dead, .cells 25 [iA x1.gOp, sA x1.gKind, sA x1.gName, .ro .unk x1.gValues.length (TValue.cl x1.gValues), .ro .unk v140.length (TExpr.cl v140)], .cells 25 [iA 0, sA ByteArray.empty, sA ByteArray.empty, .ro .full 0 [], .ro .full 0 []], .cells 25 (TExpr.cs x1), .cells 101 (TCodes.cs v139.2)]) 3 rfl (FrzL_cons (Frz_sc trivial) (FrzL_cons (Frz_sc trivial) (FrzL_cons (Frz_sc trivial) (FrzL_cons (Frz_sc (scl_TValue_cl _ _)) (FrzL_cons (Frz_row (t := 25) (cs := TExpr.cl v140) rfl (scl_TExpr_cl _ _)) (FrzL_nil)))))) rfl rfl) (Norm_fd [0, 3, 4, 7, 8] 2 (by kernel_rfl) rfl rfl ⟨⟨trivial, trivial, trivial, (scl_TValue_cl _ _), (scl_TExpr_cl _ _), trivial⟩, ⟨trivial, trivial, trivial, trivial, trivial, trivial⟩, (sc_TExpr_cs _ _), ⟨(scl_cl_u8 _ _), trivial, trivial⟩, trivial⟩ (by refine scL_fr ?_; exact ⟨(sc_ptr rfl), (sc_ptr rfl), (sc_ptr rfl), (sc_ptr rfl), trivial, trivial⟩))))⟩)
                          · refine AWP_exit ?_
                            show AWP _ _ _ _ _ _ _
                            refine AWP_region ?_
                            refine R 2 125 [(3, .ptr 1 0), (4, .ptr 2 0)] [.cells 25 [iA x1.gOp, sA x1.gKind, sA x1.gName, .ro .unk x1.gValues.length (TValue.cl x1.gValues), .ro .unk v136.length (TExpr.cl v136)], .cells 25 [iA 0, sA ByteArray.empty, sA ByteArray.empty, .ro .full 0 [], .ro .full 0 []], .cells 25 [iA x1.gOp, sA x1.gKind, sA x1.gName, .ro .unk x1.gValues.length (TValue.cl x1.gValues), .ro .unk v136.length (TExpr.cl v136)], .cells 101 [.ro .unk v134.length (cl_u8 v134), iA v135]] (AOps_done ?_)
                            exact Exists.intro (v134, v135, x1.gOp, x1.gKind, x1.gName, x1.gValues, v136) ⟨⟨n, by omega, H⟩, Norm_fd [3, 4] 1 (by kernel_rfl) rfl rfl ⟨⟨trivial, trivial, trivial, trivial, trivial, trivial⟩, ⟨trivial, trivial, trivial, (scl_TValue_cl _ _), (scl_TExpr_cl _ _), trivial⟩, ⟨(scl_cl_u8 _ _), trivial, trivial⟩, trivial⟩ (by refine scL_fr ?_; exact ⟨(sc_ptr rfl), (sc_ptr rfl), trivial⟩)⟩
                      · refine AWP_reg (Rh 2 125 [(0, .ptr 0 0), (3, .ptr 1 0), (4, .ptr 2 0), (117, bA (v79.1 == 9))] (AOps_done (CD H (fun hb141 H => ?_) (fun hb141 H => ?_))))
                        · obtain ⟨v142, hv142, H⟩ := bind_some H
                          refine AWP_regE1 [0, 1, 2, 3, 4, 5] (N := 125) (f := [(0, .ptr 0 0), (3, .ptr 1 0), (4, .ptr 2 0)]) (leL_of [0, 3, 4] (by kernel_rfl)) mixed (by kernel_rfl) (by kernel_rfl) (st' := fr 125 [(3, .ptr 1 0), (4, .ptr 2 0)]) (h' := [.cells 25 [iA 0, sA ByteArray.empty, sA ByteArray.empty, .ro .full 0 [], .ro .full 0 []], .cells 25 [iA 2, sA ByteArray.empty, sA ByteArray.empty, .ro .full 0 [], .ro .unk ([x1, v142.1]).length (TExpr.cl ([x1, v142.1]))], .cells 101 (TCodes.cs v142.2)]) ?_ ?_
                          rotate_left
                          · refine RD 2 125 [(0, 1)] [(0, .ptr 0 0), (3, .ptr 1 0), (4, .ptr 2 0), (119, .agg (TExpr.cs x1)), (120, .ptr 0 0)] (AD_call1 (d := (some 121)) (al := [.ptr 0 0]) ([.ptr 0 0]) (r := .agg (TExpr.cs v142.1)) (j := 0) (b' := .cells 101 (TCodes.cs v142.2)) (by kernel_rfl) rfl (s_draw_Codes_Test hG hv142) (⟨(scl_cl_u8 _ _), trivial, trivial⟩) (⟨(scl_cl_u8 _ _), trivial, trivial⟩) ⟨Nat.zero_lt_one, trivial⟩ (sc_TExpr_cs _ _) rfl (h' := [.cells 25 [iA 0, sA ByteArray.empty, sA ByteArray.empty, .ro .full 0 [], .ro .full 0 []], .cells 25 (TExpr.cs x1), .cells 101 (TCodes.cs v142.2)]) rfl ?_)
                            refine AD_bsl (d := (some 122)) (m := 2) (cs := [iA x1.gOp, sA x1.gKind, sA x1.gName, .ro .unk x1.gValues.length (TValue.cl x1.gValues), .ro .unk x1.gKids.length (TExpr.cl x1.gKids), iA v142.1.gOp, sA v142.1.gKind, sA v142.1.gName, .ro .unk v142.1.gValues.length (TValue.cl v142.1.gValues), .ro .unk v142.1.gKids.length (TExpr.cl v142.1.gKids)]) (by kernel_rfl) ⟨trivial, trivial, trivial, (scl_TValue_cl _ _), (scl_TExpr_cl _ _), trivial, trivial, trivial, (scl_TValue_cl _ _), (scl_TExpr_cl _ _), trivial⟩ ?_
                            refine AD_cast (d := (some 122)) (v' := .ro .unk ([x1, v142.1]).length (TExpr.cl ([x1, v142.1]))) (congrArg (AV.ro .unk 2) (eq_TExpr_cl ([x1, v142.1])).symm) ?_
                            refine RD 1 125 [(0, 1)] [(0, .ptr 0 0), (3, .ptr 1 0), (4, .ptr 2 0), (119, .agg (TExpr.cs x1)), (120, .ptr 0 0), (121, .agg (TExpr.cs v142.1)), (122, .ro .unk ([x1, v142.1]).length (TExpr.cl ([x1, v142.1]))), (123, .agg [iA 2, sA ByteArray.empty, sA ByteArray.empty, .ro .full 0 [], .ro .unk ([x1, v142.1]).length (TExpr.cl ([x1, v142.1]))])] (AD_store (d := none) (id := 1) (h' := [.cells 25 [iA 0, sA ByteArray.empty, sA ByteArray.empty, .ro .full 0 [], .ro .full 0 []], .cells 25 [iA 2, sA ByteArray.empty, sA ByteArray.empty, .ro .full 0 [], .ro .unk ([x1, v142.1]).length (TExpr.cl ([x1, v142.1]))], .cells 101 (TCodes.cs v142.2)]) (by kernel_rfl) (by kernel_rfl) ?_)
                            exact AD_here [3, 4] (by kernel_rfl) rfl
                          exact Exists.intro (v142.2.glist, v142.2.gat, 2, ByteArray.empty, ByteArray.empty, [], [x1, v142.1]) ⟨⟨n, by omega, H⟩, Norm_trans (Norm_cle (h' := [.cells 25 [iA 0, sA ByteArray.empty, sA ByteArray.empty, .ro .full 0 [], .ro .full 0 []], .cells 25 [iA 2, sA ByteArray.empty, sA ByteArray.empty, .ro .unk ([] : List TValue).length (TValue.cl ([] : List TValue)), .ro .unk ([x1, v142.1]).length (TExpr.cl ([x1, v142.1]))], .cells 101 (TCodes.cs v142.2)]) 1 rfl (leL_cons (AV.le_refl _) (leL_cons (AV.le_refl _) (leL_cons (AV.le_refl _) (leL_cons (AV.le_ro _ _ _) (leL_refl _))))) rfl rfl) (Norm_fd [3, 4] 0 (by kernel_rfl) rfl rfl ⟨⟨trivial, trivial, trivial, trivial, trivial, trivial⟩, ⟨trivial, trivial, trivial, (scl_TValue_cl _ _), (scl_TExpr_cl _ _), trivial⟩, ⟨(scl_cl_u8 _ _), trivial, trivial⟩, trivial⟩ (by refine scL_fr ?_; exact ⟨(sc_ptr rfl), (sc_ptr rfl), trivial⟩))⟩
                        · refine AWP_skip ?_
                          exact Exists.intro (v79.2.glist, v79.2.gat, x1.gOp, x1.gKind, x1.gName, x1.gValues, x1.gKids) ⟨⟨n, by omega, H⟩, Norm_fd [3, 4] 0 (by kernel_rfl) rfl rfl ⟨⟨trivial, trivial, trivial, trivial, trivial, trivial⟩, ⟨trivial, trivial, trivial, (scl_TValue_cl _ _), (scl_TExpr_cl _ _), trivial⟩, ⟨(scl_cl_u8 _ _), trivial, trivial⟩, trivial⟩ (by refine scL_fr ?_; exact ⟨(sc_ptr rfl), (sc_ptr rfl), trivial⟩)⟩
theorem s_all_draw_Codes_Condition (hG : GlobD E) : ∀ n : Nat, (∀ {x0 : TCodes}, ∀ {x1 : TExpr}, ∀ {r : TExpr × TCodes}, p_draw_Codes_Condition n x0 x1 = some r → Sp Tryz.prog E 14 [.ptr 0 0, .agg (TExpr.cs x1)] [.cells 101 (TCodes.cs x0)] (isA (.agg (TExpr.cs r.1)) [.cells 101 (TCodes.cs r.2)])) := by
  intro n
  induction n with
  | zero => exact fun H => not_none (by simpa only [p_draw_Codes_Condition] using H)
  | succ n ih => exact fun H => s_draw_Codes_Condition_F hG ih (by simpa only [p_draw_Codes_Condition] using H)
theorem s_draw_Codes_Condition {n : Nat} (hG : GlobD E) {x0 : TCodes} {x1 : TExpr} {r : TExpr × TCodes} (H : p_draw_Codes_Condition n x0 x1 = some r) :
    Sp Tryz.prog E 14 [.ptr 0 0, .agg (TExpr.cs x1)] [.cells 101 (TCodes.cs x0)] (isA (.agg (TExpr.cs r.1)) [.cells 101 (TCodes.cs r.2)]) := (s_all_draw_Codes_Condition hG n) H
end Go.Proofs.YtjhbobacbaikoaaGreatDoor
/- A condition in which something was changed is of bounded size. -/
namespace Go.Proofs.YtjhbobacbaikoaaGreatDoor
open Go
set_option linter.unusedVariables false
set_option linter.unusedSimpArgs false
set_option maxRecDepth 100000
theorem bd_kids {B : Nat} {x k : TExpr} (h : x.bd B) (hk : k ∈ x.gKids) : k.bd B := (TExpr.bd_iff.1 h).2.2.2.2.2 k hk
theorem dep_kids {x k : TExpr} (hk : k ∈ x.gKids) : k.dep < x.dep := by
  have key : ∀ {l : List TExpr}, k ∈ l → k.dep ≤ TExpr.depL l := by
    intro l
    induction l with
    | nil => intro h; cases h
    | cons y l ih =>
      intro h
      rw [TExpr.depL]
      rcases List.mem_cons.1 h with rfl | h
      · omega
      · have := ih h; omega
  cases x with
  | mk op a b vs ks =>
    have := key (show k ∈ ks from hk)
    rw [TExpr.dep]; omega
theorem cond_K1 {B : Nat} {l : List Int} {a : Int} (hc : ({ glist := l, gat := a } : TCodes).cok) {x : TExpr} (hx : x.bd B) : Gv (fun n => p_draw_Codes_Condition_K1 n l a x.gOp x.gKind x.gName x.gValues x.gKids) fun r => r.1.bd B ∧ r.2.cok := by
  unfold p_draw_Codes_Condition_K1
  have e : TExpr.mk x.gOp x.gKind x.gName x.gValues x.gKids = x := by cases x; rfl
  rw [e]
  exact Gv.pure ⟨hx, hc⟩
theorem bd_mk {B : Nat} {op : Int} {k nm : ByteArray} {vs : List TValue} {ks : List TExpr} (hk : k.size ≤ 100) (hn : nm.size ≤ 100) (hv : vs.length ≤ B) (hvb : ∀ v ∈ vs, v.bd) (hl : ks.length ≤ B) (h : ∀ x ∈ ks, x.bd B) : (TExpr.mk op k nm vs ks).bd B :=
  TExpr.bd_iff.2 ⟨hk, hn, hv, hvb, hl, h⟩
theorem cond_L1 {B : Nat} (hB : 12 ≤ B) : ∀ (q i : Nat) (c : TCodes) (x : TExpr), i + q = 12 → c.cok → x.bd B →
    Gv (fun n => p_draw_Codes_Condition_L1 n i c.glist c.gat x.gOp x.gKind x.gName x.gValues x.gKids) fun r => r.1.bd B ∧ r.2.cok := by
  intro q
  induction q with
  | zero =>
    intro i c x hi hc hx
    refine Gv.succ ?_
    simp only [p_draw_Codes_Condition_L1]
    refine Gv.bind (next_gv hc (k := 3) (by decide) (by decide)) fun r hr => ?_
    rw [w64_of (show -9223372036854775808 ≤ 9 + r.1 by omega) (by omega)]
    refine Gv.cond (fun h => ?_) fun h => cond_K1 hr.2.2 hx
    have h := of_decide_eq_true h
    omega
  | succ q ih =>
    intro i c x hi hc hx
    refine Gv.succ ?_
    simp only [p_draw_Codes_Condition_L1]
    refine Gv.bind (next_gv hc (k := 3) (by decide) (by decide)) fun r hr => ?_
    refine Gv.cond (fun h => ?_) fun h => cond_K1 hr.2.2 hx
    rw [w64_add (by omega)]
    have e : TExpr.mk x.gOp x.gKind x.gName x.gValues x.gKids = x := by cases x; rfl
    rw [e]
    exact ih (i + 1) r.2 (.mk 4 ByteArray.empty ByteArray.empty [] [x]) (by omega) hr.2.2 (bd_mk (by decide) (by decide) (by simp) (fun v hv => by cases hv) (by simp; omega) fun y hy => by
      obtain rfl : y = x := by simpa using hy
      exact hx)
theorem cond_L2 {B : Nat} (h20 : 20 ≤ B) (hB : B ≤ 10000) {x : TExpr} (hx : x.bd B) : ∀ (q i : Nat) (c : TCodes) (l : List TExpr), i + q = 11 → c.cok → l.length ≤ B + i → (∀ y ∈ l, y.bd (B + 12)) →
    Gv (fun n => p_draw_Codes_Condition_L2 n x i c.glist c.gat l) fun r => r.1.bd (B + 12) ∧ r.2.cok := by
  have hx' := TExpr.bd_iff.1 (TExpr.bd_le (show B ≤ B + 12 by omega) x hx)
  intro q
  induction q with
  | zero =>
    intro i c l hi hc hl hy
    refine Gv.succ ?_
    simp only [p_draw_Codes_Condition_L2]
    rw [decide_eq_false (show ¬ (i : Int) < 11 by omega)]
    exact cond_K1 (x := .mk x.gOp x.gKind x.gName x.gValues l) hc (bd_mk hx'.1 hx'.2.1 hx'.2.2.1 hx'.2.2.2.1 (by omega) hy)
  | succ q ih =>
    intro i c l hi hc hl hy
    refine Gv.succ ?_
    simp only [p_draw_Codes_Condition_L2]
    rw [decide_eq_true (show (i : Int) < 11 by omega)]
    simp only [cond_true]
    refine Gv.bind (Gv.app (Q := fun m => m = l) (by simp; omega) (by decide) (by simp)) ?_
    rintro m rfl
    refine Gv.bind (test_gv hc) fun t ht => ?_
    refine Gv.bind (Gv.app (Q := fun k => k = m ++ [t.1]) (by simp; omega) (by decide) rfl) ?_
    rintro k rfl
    rw [w64_add (by omega)]
    refine ih (i + 1) t.2 _ (by omega) ht.2 (by simp; omega) fun y hym => ?_
    rcases List.mem_append.1 hym with hym | hym
    · exact hy y hym
    · obtain rfl : y = t.1 := by simpa using hym
      exact TExpr.bd_le (by omega) _ (testG_bd ht.1)
theorem set_bd {B : Nat} {l : List TExpr} {j : Nat} {y : TExpr} (hl : ∀ x ∈ l, x.bd B) (hy : y.bd B) : ∀ x ∈ l.set j y, x.bd B := by
  intro x hx
  rcases List.mem_or_eq_of_mem_set hx with h | rfl
  · exact hl x h
  · exact hy
theorem cond_gv {B : Nat} (h20 : 20 ≤ B) (hB : B ≤ 10000) : ∀ (D : Nat) (x : TExpr) (c : TCodes), x.dep ≤ D → x.bd B → c.cok → Gv (fun n => p_draw_Codes_Condition n c x) fun r => r.1.bd (B + 12) ∧ r.2.cok := by
  intro D
  induction D with
  | zero =>
    intro x c hd
    cases x with
    | mk op a b vs ks => rw [TExpr.dep] at hd; omega
  | succ D ih =>
    intro x c hd hx hc
    have hx1 := TExpr.bd_iff.1 hx
    have hxB := TExpr.bd_le (show B ≤ B + 12 by omega) x hx
    have hx2 := TExpr.bd_iff.1 hxB
    refine Gv.succ ?_
    simp only [p_draw_Codes_Condition]
    unfold p_draw_Codes_Condition_F
    refine Gv.bind (Q := fun r => 0 ≤ r.1 ∧ r.2.cok) ?_ fun v1 h1 => ?_
    · refine Gv.cond (fun _ => (next_gv hc (k := 3) (by decide) (by decide)).mono fun r hr => ⟨hr.1, hr.2.2⟩) fun _ => Gv.pure ⟨Int.le_refl _, hc⟩
    refine Gv.cond (fun h => ?_) fun _ => ?_
    · have hk : lI x.gKids > 0 := of_decide_eq_true (Bool.and_eq_true_iff.1 h).1
      unfold lI at hk
      refine Gv.bind (Gv.app (Q := fun m => m = x.gKids) (by simp; omega) (by decide) (by simp)) ?_
      rintro m rfl
      refine Gv.bind (next_gv h1.2 (k := lI x.gKids) (by unfold lI; omega) (by unfold lI; omega)) fun v4 h4 => ?_
      refine Gv.bind (Gv.rd (Q := fun y => y ∈ x.gKids) h4.1 h4.2.1 fun y hy => hy) fun y hy => ?_
      refine Gv.bind (ih y v4.2 (by have := dep_kids hy; omega) (bd_kids hx hy) h4.2.2) fun v6 h6 => ?_
      refine Gv.bind (Gv.rd (Q := fun y => True) h4.1 h4.2.1 fun y hy => trivial) fun y _ => ?_
      exact Gv.pure ⟨bd_mk hx2.1 hx2.2.1 hx2.2.2.1 hx2.2.2.2.1 (by rw [List.length_set]; exact hx2.2.2.2.2.1) (set_bd hx2.2.2.2.2.2 h6.1), h6.2⟩
    refine Gv.bind (next_gv h1.2 (k := 10) (by decide) (by decide)) fun v h => ?_
    have hc := h.2.2
    have val : ∀ {k nm : ByteArray} {vs : List TValue} {ks : List TExpr} {op : Int} {c' : TCodes}, c'.cok → k.size ≤ 100 → nm.size ≤ 100 → vs.length ≤ B + 12 → (∀ v ∈ vs, v.bd) → ks.length ≤ B + 12 → (∀ y ∈ ks, y.bd (B + 12)) →
        Gv (fun n => p_draw_Codes_Condition_K1 n c'.glist c'.gat op k nm vs ks) fun r => r.1.bd (B + 12) ∧ r.2.cok := fun hc' a1 a2 a3 a4 a5 a6 => cond_K1 (x := .mk _ _ _ _ _) hc' (bd_mk a1 a2 a3 a4 a5 a6)
    refine Gv.cond (fun _ => ?_) fun _ => Gv.cond (fun _ => ?_) fun _ => Gv.cond (fun _ => ?_) fun _ => Gv.cond (fun _ => ?_) fun _ => Gv.cond (fun _ => ?_) fun _ => Gv.cond (fun _ => ?_) fun _ => Gv.cond (fun _ => ?_) fun _ => Gv.cond (fun _ => ?_) fun _ => Gv.cond (fun _ => ?_) fun _ => Gv.cond (fun _ => ?_) fun _ => ?_
    · exact Gv.bind (next_gv hc (k := 18) (by decide) (by decide)) fun s hs => val hs.2.2 hx2.1 hx2.2.1 hx2.2.2.1 hx2.2.2.2.1 hx2.2.2.2.2.1 hx2.2.2.2.2.2
    · exact Gv.bind (name_gv hc) fun s hs => val hs.2 (by have := hs.1; omega) hx2.2.1 hx2.2.2.1 hx2.2.2.2.1 hx2.2.2.2.2.1 hx2.2.2.2.2.2
    · exact Gv.bind (name_gv hc) fun s hs => val hs.2 hx2.1 (by have := hs.1; omega) hx2.2.2.1 hx2.2.2.2.1 hx2.2.2.2.2.1 hx2.2.2.2.2.2
    · refine Gv.bind (Gv.app (Q := fun m => m = x.gValues) (by simp; omega) (by decide) (by simp)) ?_
      rintro m rfl
      refine Gv.bind (any_gv hc) fun t ht => ?_
      refine Gv.bind (Gv.app (Q := fun k => k = x.gValues ++ [t.1]) (by simp; omega) (by decide) rfl) ?_
      rintro k rfl
      refine val ht.2 hx2.1 hx2.2.1 (by simp; omega) (fun w hw => ?_) hx2.2.2.2.2.1 hx2.2.2.2.2.2
      rcases List.mem_append.1 hw with hw | hw
      · exact hx2.2.2.2.1 w hw
      · obtain rfl : w = t.1 := by simpa using hw
        exact good_bd _ (good_of ht.1)
    · exact val hc hx2.1 hx2.2.1 (by simp) (fun v hv => by cases hv) hx2.2.2.2.2.1 hx2.2.2.2.2.2
    · refine Gv.bind (next_gv hc (k := 7) (by decide) (by decide)) fun s hs => Gv.bind (number_gv hs.2.2) fun t ht => val ht hx2.1 hx2.2.1 (by simp) (fun w hw => ?_) hx2.2.2.2.2.1 hx2.2.2.2.2.2
      have hw := List.mem_singleton.1 hw
      rw [hw]
      exact ⟨(by show 0 ≤ 100; decide), (by show 0 ≤ 100; decide), fun s hs => by cases hs⟩
    · refine Gv.bind (Gv.app (Q := fun m => m = x.gKids) (by simp; omega) (by decide) (by simp)) ?_
      rintro m rfl
      refine Gv.bind (test_gv hc) fun t ht => ?_
      refine Gv.bind (Gv.app (Q := fun k => k = x.gKids ++ [t.1]) (by simp; omega) (by decide) rfl) ?_
      rintro k rfl
      refine val ht.2 hx2.1 hx2.2.1 hx2.2.2.1 hx2.2.2.2.1 (by simp; omega) fun y hy => ?_
      rcases List.mem_append.1 hy with hy | hy
      · exact hx2.2.2.2.2.2 y hy
      · obtain rfl : y = t.1 := by simpa using hy
        exact TExpr.bd_le (by omega) _ (testG_bd ht.1)
    · exact cond_L1 (by omega) 12 0 v.2 x (by omega) hc hxB
    · exact cond_L2 h20 hB hx 11 0 v.2 x.gKids (by omega) hc (by omega) hx2.2.2.2.2.2
    · refine Gv.bind (test_gv hc) fun t ht => val ht.2 (by decide) (by decide) (by simp) (fun v hv => by cases hv) (by simp <;> omega) fun y hy => ?_
      have hy : y = x ∨ y = t.1 := by simpa using hy
      rcases hy with rfl | rfl
      · exact hxB
      · exact TExpr.bd_le (by omega) _ (testG_bd ht.1)
    · exact val hc hx2.1 hx2.2.1 hx2.2.2.1 hx2.2.2.2.1 hx2.2.2.2.2.1 hx2.2.2.2.2.2
end Go.Proofs.YtjhbobacbaikoaaGreatDoor
/- A function of the program as a pure function, and that the program computes it. -/
namespace Go.Proofs.YtjhbobacbaikoaaGreatDoor
open Go
set_option linter.unusedVariables false
set_option linter.unusedSimpArgs false
set_option maxRecDepth 100000
def p_cmp_Or_api_Errno_L1 (n : Nat) (x0 : List Int) (v8 : Int) : Option Int := match n with
| 0 => none
| n + 1 =>
(bif decide (v8 < (lI x0)) then
(rdO x0 v8).bind fun v10 =>
(bif v10 != 0 then
 some (v10)
 else
 p_cmp_Or_api_Errno_L1 n x0 (w64 (v8 + 1)))
 else
 some (0))
def p_cmp_Or_api_Errno (n : Nat) (x0 : List Int) : Option Int :=
 p_cmp_Or_api_Errno_L1 n x0 0
variable {E : Env}
theorem s_cmp_Or_api_Errno {n : Nat} {x0 : List Int} {r : Int} (H : p_cmp_Or_api_Errno n x0 = some r) :
    Sp Tryz.prog E 108 [.ro .unk x0.length (cl_i64 x0)] [] (isA (iA r) []) := by
  unfold p_cmp_Or_api_Errno at H
  refine Sp_fn Tryz.func108 rfl (fun hc hs => ?_)
  refine AWP_reg (Rh 1 18 [(0, .ro .unk x0.length (cl_i64 x0))] (AOps_done (AWP_reg (Rh 1 18 [(0, .ro .unk x0.length (cl_i64 x0)), (3, iA 0)] (AOps_done (AWP_seq (AWP_reg (Rh 3 18 [(3, iA 0), (6, .ro .unk x0.length (cl_i64 x0)), (7, iA (lI x0)), (8, iA 0)] ?_))))))))
  refine AOps_done (AWP_block ?_)
  refine AWP_loopN (α := Int) (fun v8 => fr 18 [(3, iA 0), (6, .ro .unk x0.length (cl_i64 x0)), (7, iA (lI x0)), (8, iA v8)]) (fun v8 => []) (fun k_ v8 => k_ ≤ n ∧ p_cmp_Or_api_Errno_L1 k_ x0 v8 = some r) (fun n v8 H => ?_) (k := n) 0 ⟨Nat.le_refl _, H⟩ (Norm_fd [3, 6, 7, 8] 0 (by kernel_rfl) rfl rfl trivial (by refine scL_fr ?_; exact ⟨trivial, (scl_cl_i64 _ _), trivial, trivial, trivial⟩))
  show AWP _ _ _ _ _ (fr 18 [(3, iA 0), (6, .ro .unk x0.length (cl_i64 x0)), (7, iA (lI x0)), (8, iA v8)]) []
  obtain ⟨hb_, H⟩ := H
  replace H : p_cmp_Or_api_Errno_L1 n x0 v8 = some r := H
  cases n with
  | zero => exact not_none (by simpa only [p_cmp_Or_api_Errno_L1] using H)
  | succ n =>
    unfold p_cmp_Or_api_Errno_L1 at H
    refine AWP_reg (Rh 1 18 [(3, iA 0), (6, .ro .unk x0.length (cl_i64 x0)), (7, iA (lI x0)), (8, iA v8), (9, bA (decide (v8 < (lI x0))))] (AOps_done (AWP_seq (CD H (fun hb9 H => ?_) (fun hb9 H => ?_)))))
    · refine AWP_skip ?_
      show AWP _ _ _ _ _ _ _
      refine AWP_seq (AWP_block ?_)
      refine AWP_reg ?_
      obtain ⟨v10, hv10, H⟩ := bind_some H
      refine AOps_index (d := (some 10)) (sz := 1) (c := cs_i64) (by kernel_rfl) rfl (eq_cl_i64 _) (fun _ => rfl) (by decide) hv10 (fun tl10 => ?_)
      refine Rh 2 18 [(3, iA 0), (5, iA v10), (6, .ro .unk x0.length (cl_i64 x0)), (7, iA (lI x0)), (8, iA v8)] (AOps_done (AWP_reg (Rh 3 18 [(3, iA 0), (5, iA v10), (6, .ro .unk x0.length (cl_i64 x0)), (7, iA (lI x0)), (8, iA v8), (14, bA (v10 != 0))] (AOps_done (CD H (fun hb11 H => ?_) (fun hb11 H => ?_))))))
      · refine AWP_reg (Rh 2 18 [(2, iA v10)] (AOps_done ?_))
        exact AWP_ret (FR H)
      · refine AWP_skip ?_
        show AWP _ _ _ _ _ _ _
        refine AWP_region ?_
        refine Rh 2 18 [(3, iA 0), (6, .ro .unk x0.length (cl_i64 x0)), (7, iA (lI x0)), (8, iA (w64 (v8 + 1)))] (AOps_done ?_)
        exact Exists.intro (w64 (v8 + 1)) (Exists.intro n ⟨by omega, ⟨by omega, H⟩, Norm_fd [3, 6, 7, 8] 0 (by kernel_rfl) rfl rfl trivial (by refine scL_fr ?_; exact ⟨trivial, (scl_cl_i64 _ _), trivial, trivial, trivial⟩)⟩)
    · refine AWP_exit ?_
      show AWP _ _ _ _ _ _ _
      refine AWP_reg (Rh 2 18 [(2, iA 0)] (AOps_done ?_))
      exact AWP_ret (FR H)
end Go.Proofs.YtjhbobacbaikoaaGreatDoor
/- A function of the program as a pure function, and that the program computes it. -/
namespace Go.Proofs.YtjhbobacbaikoaaGreatDoor
open Go
set_option linter.unusedVariables false
set_option linter.unusedSimpArgs false
set_option maxRecDepth 100000
def p_shape_first (n : Nat) (x0 : List Int) : Option Int :=
(p_cmp_Or_api_Errno n x0).bind fun v1 =>
 some (v1)
variable {E : Env}
theorem s_shape_first {n : Nat} {x0 : List Int} {r : Int} (H : p_shape_first n x0 = some r) :
    Sp Tryz.prog E 64 [.ro .unk x0.length (cl_i64 x0)] [] (isA (iA r) []) := by
  unfold p_shape_first at H
  refine Sp_fn Tryz.func64 rfl (fun hc hs => ?_)
  refine AWP_reg (Rh 1 5 [(0, .ro .unk x0.length (cl_i64 x0))] (AOps_done (AWP_reg (Rh 1 5 [(3, .ro .unk x0.length (cl_i64 x0))] ?_))))
  obtain ⟨v1, hv1, H⟩ := bind_some H
  refine AOps_callp (d := (some 4)) (al := [.ro .unk x0.length (cl_i64 x0)]) (r := iA v1) (by kernel_rfl) (s_cmp_Or_api_Errno hv1) ⟨(scl_cl_i64 _ _), trivial⟩ trivial ?_
  refine Rh 1 5 [(2, iA v1)] (AOps_done ?_)
  exact AWP_ret (FR H)
end Go.Proofs.YtjhbobacbaikoaaGreatDoor
/- A function of the program as a pure function, and that the program computes it. -/
namespace Go.Proofs.YtjhbobacbaikoaaGreatDoor
open Go
set_option linter.unusedVariables false
set_option linter.unusedSimpArgs false
set_option maxRecDepth 100000
def p_shape_when (n : Nat) (x0 : Bool) (x1 : Int) : Option Int :=
(bif x0 then
 some (x1)
 else
 some (0))
variable {E : Env}
theorem s_shape_when {n : Nat} {x0 : Bool} {x1 : Int} {r : Int} (H : p_shape_when n x0 x1 = some r) :
    Sp Tryz.prog E 56 [bA x0, iA x1] [] (isA (iA r) []) := by
  unfold p_shape_when at H
  refine Sp_fn Tryz.func56 rfl (fun hc hs => ?_)
  refine AWP_reg (Rh 1 7 [(0, bA x0), (1, iA x1)] (AOps_done (AWP_seq (AWP_reg (Rh 1 7 [(1, iA x1), (5, bA x0)] (AOps_done (CD H (fun hb1 H => ?_) (fun hb1 H => ?_))))))))
  · refine AWP_reg (Rh 2 7 [(4, iA x1)] (AOps_done ?_))
    exact AWP_ret (FR H)
  · refine AWP_skip ?_
    show AWP _ _ _ _ _ _ _
    refine AWP_reg (Rh 1 7 [(4, iA 0)] (AOps_done ?_))
    exact AWP_ret (FR H)
end Go.Proofs.YtjhbobacbaikoaaGreatDoor
/- The first error. -/
namespace Go.Proofs.YtjhbobacbaikoaaGreatDoor
open Go
set_option linter.unusedVariables false
set_option linter.unusedSimpArgs false
set_option maxRecDepth 100000
theorem when_eq (n : Nat) (b : Bool) (e : Int) : p_shape_when n b e = some (if b = true then e else 0) := by
  unfold p_shape_when
  cases b <;> rfl
/-- The first that is not 0. -/
def fst0 : List Int → Int
  | [] => 0
  | a :: l => if a = 0 then fst0 l else a
theorem first_al (l : List Int) (hl : l.length < 4294967281) : Al fun n => p_shape_first n l = some (fst0 l) := by
  have := loop1 (fun n i => p_cmp_Or_api_Errno_L1 n l i) l.length (fun i => fst0 (l.drop i)) (fun i hi => .of fun n => ?_) (.of fun n => ?_) 0 (by omega)
  · refine this.mono fun n h => ?_
    have h : p_cmp_Or_api_Errno_L1 n l 0 = some (fst0 (l.drop 0)) := h
    unfold p_shape_first p_cmp_Or_api_Errno
    rw [h]; rfl
  · have hd : decide ((i : Int) < lI l) = true := decide_eq_true (by unfold lI; omega)
    rw [p_cmp_Or_api_Errno_L1, hd, cond_true, rdO_nat hi, Option.bind_some, List.drop_eq_getElem_cons hi, w64_add (by omega)]
    by_cases h : l[i] = 0
    · right
      rw [h]
      exact ⟨rfl, by rw [fst0, if_pos rfl]⟩
    · left
      have : (l[i] != 0) = true := by rw [bne_iff_ne]; exact h
      rw [this, fst0, if_neg h]; rfl
  · have hd : decide (((l.length : Nat) : Int) < lI l) = false := decide_eq_false (by unfold lI; omega)
    rw [p_cmp_Or_api_Errno_L1, hd, List.drop_length]; rfl
end Go.Proofs.YtjhbobacbaikoaaGreatDoor
/- A function of the program as a pure function, and that the program computes it. -/
namespace Go.Proofs.YtjhbobacbaikoaaGreatDoor
open Go
set_option linter.unusedVariables false
set_option linter.unusedSimpArgs false
set_option maxRecDepth 100000
def p_ref6_Split_L1 (n : Nat) (x0 : List TRange) (x1 : Int) (v24 : Int) (v25 : Int) : Option Int := match n with
| 0 => none
| n + 1 =>
(bif decide (v25 < (lI x0)) then
(rdO x0 v25).bind fun v27 =>
(bif !(decide (v27.gVariation < 1)) then rdO x0 v25 else some ({ gFrom := 0, gTo := 0, gVariation := 0 } : TRange)).bind fun v28 =>
(bif (decide (v27.gVariation < 1)) || (decide (v28.gVariation > x1)) then
 some (3)
 else
(rdO x0 v25).bind fun v30 =>
(bif !(v30.gFrom != v24) then rdO x0 v25 else some ({ gFrom := 0, gTo := 0, gVariation := 0 } : TRange)).bind fun v31 =>
(bif (!((v30.gFrom != v24) || (decide (v31.gTo ≤ v24)))) && (decide (v25 > 0)) then rdO x0 v25 else some ({ gFrom := 0, gTo := 0, gVariation := 0 } : TRange)).bind fun v32 =>
(bif (!((v30.gFrom != v24) || (decide (v31.gTo ≤ v24)))) && (decide (v25 > 0)) then rdO x0 (w64 (v25 - 1)) else some ({ gFrom := 0, gTo := 0, gVariation := 0 } : TRange)).bind fun v33 =>
(bif ((v30.gFrom != v24) || (decide (v31.gTo ≤ v24))) || ((decide (v25 > 0)) && (v32.gVariation == v33.gVariation)) then
 some (9)
 else
(rdO x0 v25).bind fun v35 =>
 p_ref6_Split_L1 n x0 x1 v35.gTo (w64 (v25 + 1))))
 else
(bif v24 != 10000 then
 some (3)
 else
 some (0)))
def p_ref6_Split (n : Nat) (x0 : List TRange) (x1 : Int) : Option Int :=
(bif decide ((lI x0) > 16) then
 some (5)
 else
 p_ref6_Split_L1 n x0 x1 0 0)
variable {E : Env}
theorem s_ref6_Split {n : Nat} {x0 : List TRange} {x1 : Int} {r : Int} (H : p_ref6_Split n x0 x1 = some r) :
    Sp Tryz.prog E 24 [.ro .unk x0.length (TRange.cl x0), iA x1] [] (isA (iA r) []) := by
  unfold p_ref6_Split at H
  refine Sp_fn Tryz.func24 rfl (fun hc hs => ?_)
  refine AWP_reg (Rh 1 72 [(0, .ro .unk x0.length (TRange.cl x0)), (1, iA x1)] (AOps_done (AWP_seq (AWP_reg (Rh 3 72 [(0, .ro .unk x0.length (TRange.cl x0)), (1, iA x1), (9, bA (decide ((lI x0) > 16)))] (AOps_done (CD H (fun hb1 H => ?_) (fun hb1 H => ?_))))))))
  · refine AWP_reg (Rh 1 72 [(4, iA 5)] (AOps_done ?_))
    exact AWP_ret (FR H)
  · refine AWP_skip ?_
    show AWP _ _ _ _ _ _ _
    refine AWP_reg (Rh 1 72 [(0, .ro .unk x0.length (TRange.cl x0)), (1, iA x1), (5, iA 0)] (AOps_done (AWP_seq (AWP_reg (Rh 1 72 [(0, .ro .unk x0.length (TRange.cl x0)), (1, iA x1), (5, iA 0), (6, iA 0)] (AOps_done (AWP_block ?_)))))))
    refine AWP_loopN (α := Int × Int) (fun ⟨v24, v25⟩ => fr 72 [(0, .ro .unk x0.length (TRange.cl x0)), (1, iA x1), (5, iA v24), (6, iA v25)]) (fun ⟨v24, v25⟩ => []) (fun k_ ⟨v24, v25⟩ => k_ ≤ n ∧ p_ref6_Split_L1 k_ x0 x1 v24 v25 = some r) (fun n a H => ?_) (k := n) (0, 0) ⟨Nat.le_refl _, H⟩ (Norm_fd [0, 1, 5, 6] 0 (by kernel_rfl) rfl rfl trivial (by refine scL_fr ?_; exact ⟨(scl_TRange_cl _ _), trivial, trivial, trivial, trivial⟩))
    obtain ⟨v24, v25⟩ := a
    show AWP _ _ _ _ _ (fr 72 [(0, .ro .unk x0.length (TRange.cl x0)), (1, iA x1), (5, iA v24), (6, iA v25)]) []
    obtain ⟨hb_, H⟩ := H
    replace H : p_ref6_Split_L1 n x0 x1 v24 v25 = some r := H
    cases n with
    | zero => exact not_none (by simpa only [p_ref6_Split_L1] using H)
    | succ n =>
      unfold p_ref6_Split_L1 at H
      refine AWP_seq (AWP_reg (Rh 4 72 [(0, .ro .unk x0.length (TRange.cl x0)), (1, iA x1), (5, iA v24), (6, iA v25), (13, bA (decide (v25 < (lI x0))))] (AOps_done (CD H (fun hb26 H => ?_) (fun hb26 H => ?_)))))
      · refine AWP_skip ?_
        show AWP _ _ _ _ _ _ _
        refine AWP_seq (AWP_block ?_)
        refine AWP_seq (AWP_reg (Rh 2 72 [(0, .ro .unk x0.length (TRange.cl x0)), (1, iA x1), (5, iA v24), (6, iA v25), (16, .ro .unk x0.length (TRange.cl x0)), (17, iA v25)] ?_))
        obtain ⟨v27, hv27, H⟩ := bind_some H
        refine AOps_index (d := (some 18)) (sz := 3) (c := TRange.cs) (by kernel_rfl) rfl (eq_TRange_cl _) (fun _ => rfl) (by decide) hv27 (fun tl27 => ?_)
        refine Rh 4 72 [(0, .ro .unk x0.length (TRange.cl x0)), (1, iA x1), (5, iA v24), (6, iA v25), (22, bA (decide (v27.gVariation < 1)))] ?_
        obtain ⟨v28, hv28, H⟩ := bind_some H
        refine AOps_cut 8 (st' := fr 72 [(0, .ro .unk x0.length (TRange.cl x0)), (1, iA x1), (5, iA v24), (6, iA v25), (30, bA ((decide (v27.gVariation < 1)) || (decide (v28.gVariation > x1))))]) (h' := []) ?_ ?_
        rotate_left
        · cases c1 : (decide (v27.gVariation < 1) : Bool) with
          | true =>
            refine R 8 72 [(0, .ro .unk x0.length (TRange.cl x0)), (1, iA x1), (5, iA v24), (6, iA v25), (30, bA (true || (decide (v28.gVariation > x1))))] [] ?_
            exact AOps_here [0, 1, 5, 6, 30] (by kernel_rfl) rfl
          | false =>
            refine R 2 72 [(0, .ro .unk x0.length (TRange.cl x0)), (1, iA x1), (5, iA v24), (6, iA v25), (22, bA false), (23, .ro .unk x0.length (TRange.cl x0)), (24, iA v25)] [] ?_
            have hv28_ := cond_t hv28 (by simp only [c1] <;> rfl)
            refine AOps_index (d := (some 25)) (sz := 3) (c := TRange.cs) (by kernel_rfl) rfl (eq_TRange_cl _) (fun _ => rfl) (by decide) hv28_ (fun tl28 => ?_)
            refine R 5 72 [(0, .ro .unk x0.length (TRange.cl x0)), (1, iA x1), (5, iA v24), (6, iA v25), (30, bA (false || (decide (v28.gVariation > x1))))] [] ?_
            exact AOps_here [0, 1, 5, 6, 30] (by kernel_rfl) rfl
        refine AOps_done (CD H (fun hb29 H => ?_) (fun hb29 H => ?_))
        · refine AWP_reg (Rh 1 72 [(4, iA 3)] (AOps_done ?_))
          exact AWP_ret (FR H)
        · refine AWP_skip ?_
          show AWP _ _ _ _ _ _ _
          refine AWP_seq ?_
          obtain ⟨v30, hv30, H⟩ := bind_some H
          obtain ⟨v31, hv31, H⟩ := bind_some H
          obtain ⟨v32, hv32, H⟩ := bind_some H
          obtain ⟨v33, hv33, H⟩ := bind_some H
          refine AWP_regD1 [0, 1, 2, 3, 4, 5, 6, 7, 8, 9, 10, 11, 12, 13, 14, 15, 16, 17, 18, 19, 20, 21, 22, 23, 24, 25, 26, 27, 28, 29, 30, 31, 32, 33] (N := 72) (f := [(0, .ro .unk x0.length (TRange.cl x0)), (1, iA x1), (5, iA v24), (6, iA v25)]) (leL_of [0, 1, 5, 6] (by kernel_rfl)) mixed (by kernel_rfl) (by kernel_rfl) (st' := fr 72 [(0, .ro .unk x0.length (TRange.cl x0)), (1, iA x1), (6, iA v25), (64, bA (((v30.gFrom != v24) || (decide (v31.gTo ≤ v24))) || ((decide (v25 > 0)) && (v32.gVariation == v33.gVariation))))]) (h' := []) ?_ ?_
          rotate_left
          · refine RD 2 72 [] [(0, .ro .unk x0.length (TRange.cl x0)), (1, iA x1), (5, iA v24), (6, iA v25), (31, .ro .unk x0.length (TRange.cl x0)), (32, iA v25)] (AD_index (d := (some 33)) (sz := 3) (c := TRange.cs) (by kernel_rfl) rfl (eq_TRange_cl _) (fun _ => rfl) (by decide) hv30 (fun tl30 => ?_))
            refine RD 5 72 [] [(0, .ro .unk x0.length (TRange.cl x0)), (1, iA x1), (5, iA v24), (6, iA v25), (31, .ro .unk x0.length (TRange.cl x0)), (32, iA v25), (33, .rop ([iA v30.gFrom, iA v30.gTo, iA v30.gVariation] ++ tl30)), (34, .rop ([iA v30.gFrom, iA v30.gTo, iA v30.gVariation] ++ tl30)), (35, iA v30.gFrom), (36, iA v24), (37, bA (v30.gFrom != v24)), (38, bA (v30.gFrom != v24))] ?_
            cases c1 : (v30.gFrom != v24 : Bool) with
            | true =>
              refine RD 26 72 [] [(0, .ro .unk x0.length (TRange.cl x0)), (1, iA x1), (5, iA v24), (6, iA v25), (31, .ro .unk x0.length (TRange.cl x0)), (32, iA v25), (33, .rop ([iA v30.gFrom, iA v30.gTo, iA v30.gVariation] ++ tl30)), (34, .rop ([iA v30.gFrom, iA v30.gTo, iA v30.gVariation] ++ tl30)), (35, iA v30.gFrom), (36, iA v24), (37, bA true), (38, bA true), (39, undefA), (40, undefA), (41, undefA), (42, undefA), (43, undefA), (44, undefA), (45, undefA), (46, bA (true || (decide (v31.gTo ≤ v24)))), (47, bA (true || (decide (v31.gTo ≤ v24)))), (48, undefA), (49, undefA), (50, undefA), (51, undefA), (52, undefA), (53, undefA), (54, undefA), (55, undefA), (56, undefA), (57, undefA), (58, undefA), (59, undefA), (60, undefA), (61, undefA), (62, undefA), (63, undefA), (64, bA ((true || (decide (v31.gTo ≤ v24))) || ((decide (v25 > 0)) && (v32.gVariation == v33.gVariation))))] ?_
              exact AD_here [0, 1, 6, 64] (by kernel_rfl) rfl
            | false =>
              refine RD 2 72 [] [(0, .ro .unk x0.length (TRange.cl x0)), (1, iA x1), (5, iA v24), (6, iA v25), (31, .ro .unk x0.length (TRange.cl x0)), (32, iA v25), (33, .rop ([iA v30.gFrom, iA v30.gTo, iA v30.gVariation] ++ tl30)), (34, .rop ([iA v30.gFrom, iA v30.gTo, iA v30.gVariation] ++ tl30)), (35, iA v30.gFrom), (36, iA v24), (37, bA false), (38, bA false), (39, .ro .unk x0.length (TRange.cl x0)), (40, iA v25)] ?_
              have hv31_ := cond_t hv31 (by simp only [c1] <;> rfl)
              refine AD_index (d := (some 41)) (sz := 3) (c := TRange.cs) (by kernel_rfl) rfl (eq_TRange_cl _) (fun _ => rfl) (by decide) hv31_ (fun tl31 => ?_)
              refine RD 6 72 [] [(0, .ro .unk x0.length (TRange.cl x0)), (1, iA x1), (5, iA v24), (6, iA v25), (31, .ro .unk x0.length (TRange.cl x0)), (32, iA v25), (33, .rop ([iA v30.gFrom, iA v30.gTo, iA v30.gVariation] ++ tl30)), (34, .rop ([iA v30.gFrom, iA v30.gTo, iA v30.gVariation] ++ tl30)), (35, iA v30.gFrom), (36, iA v24), (37, bA false), (38, bA false), (39, .ro .unk x0.length (TRange.cl x0)), (40, iA v25), (41, .rop ([iA v31.gFrom, iA v31.gTo, iA v31.gVariation] ++ tl31)), (42, .rop ([iA v31.gTo, iA v31.gVariation] ++ tl31)), (43, iA v31.gTo), (44, iA v24), (45, bA (decide (v31.gTo ≤ v24))), (46, bA (false || (decide (v31.gTo ≤ v24)))), (47, bA (false || (decide (v31.gTo ≤ v24))))] ?_
              cases c2 : (decide (v31.gTo ≤ v24) : Bool) with
              | true =>
                refine RD 17 72 [] [(0, .ro .unk x0.length (TRange.cl x0)), (1, iA x1), (5, iA v24), (6, iA v25), (31, .ro .unk x0.length (TRange.cl x0)), (32, iA v25), (33, .rop ([iA v30.gFrom, iA v30.gTo, iA v30.gVariation] ++ tl30)), (34, .rop ([iA v30.gFrom, iA v30.gTo, iA v30.gVariation] ++ tl30)), (35, iA v30.gFrom), (36, iA v24), (37, bA false), (38, bA false), (39, .ro .unk x0.length (TRange.cl x0)), (40, iA v25), (41, .rop ([iA v31.gFrom, iA v31.gTo, iA v31.gVariation] ++ tl31)), (42, .rop ([iA v31.gTo, iA v31.gVariation] ++ tl31)), (43, iA v31.gTo), (44, iA v24), (45, bA true), (46, bA (false || true)), (47, bA (false || true)), (48, undefA), (49, undefA), (50, undefA), (51, undefA), (52, undefA), (53, undefA), (54, undefA), (55, undefA), (56, undefA), (57, undefA), (58, undefA), (59, undefA), (60, undefA), (61, undefA), (62, undefA), (63, undefA), (64, bA ((false || true) || ((decide (v25 > 0)) && (v32.gVariation == v33.gVariation))))] ?_
                exact AD_here [0, 1, 6, 64] (by kernel_rfl) rfl
              | false =>
                refine RD 3 72 [] [(0, .ro .unk x0.length (TRange.cl x0)), (1, iA x1), (5, iA v24), (6, iA v25), (31, .ro .unk x0.length (TRange.cl x0)), (32, iA v25), (33, .rop ([iA v30.gFrom, iA v30.gTo, iA v30.gVariation] ++ tl30)), (34, .rop ([iA v30.gFrom, iA v30.gTo, iA v30.gVariation] ++ tl30)), (35, iA v30.gFrom), (36, iA v24), (37, bA false), (38, bA false), (39, .ro .unk x0.length (TRange.cl x0)), (40, iA v25), (41, .rop ([iA v31.gFrom, iA v31.gTo, iA v31.gVariation] ++ tl31)), (42, .rop ([iA v31.gTo, iA v31.gVariation] ++ tl31)), (43, iA v31.gTo), (44, iA v24), (45, bA false), (46, bA (false || false)), (47, bA (false || false)), (48, iA v25), (49, bA (decide (v25 > 0))), (50, bA (decide (v25 > 0)))] ?_
                cases c3 : (decide (v25 > 0) : Bool) with
                | true =>
                  refine RD 2 72 [] [(0, .ro .unk x0.length (TRange.cl x0)), (1, iA x1), (5, iA v24), (6, iA v25), (31, .ro .unk x0.length (TRange.cl x0)), (32, iA v25), (33, .rop ([iA v30.gFrom, iA v30.gTo, iA v30.gVariation] ++ tl30)), (34, .rop ([iA v30.gFrom, iA v30.gTo, iA v30.gVariation] ++ tl30)), (35, iA v30.gFrom), (36, iA v24), (37, bA false), (38, bA false), (39, .ro .unk x0.length (TRange.cl x0)), (40, iA v25), (41, .rop ([iA v31.gFrom, iA v31.gTo, iA v31.gVariation] ++ tl31)), (42, .rop ([iA v31.gTo, iA v31.gVariation] ++ tl31)), (43, iA v31.gTo), (44, iA v24), (45, bA false), (46, bA (false || false)), (47, bA (false || false)), (48, iA v25), (49, bA true), (50, bA true), (51, .ro .unk x0.length (TRange.cl x0)), (52, iA v25)] ?_
                  have hv32_ := cond_t hv32 (by simp only [c1, c2, c3] <;> rfl)
                  refine AD_index (d := (some 53)) (sz := 3) (c := TRange.cs) (by kernel_rfl) rfl (eq_TRange_cl _) (fun _ => rfl) (by decide) hv32_ (fun tl32 => ?_)
                  refine RD 5 72 [] [(0, .ro .unk x0.length (TRange.cl x0)), (1, iA x1), (5, iA v24), (6, iA v25), (31, .ro .unk x0.length (TRange.cl x0)), (32, iA v25), (33, .rop ([iA v30.gFrom, iA v30.gTo, iA v30.gVariation] ++ tl30)), (34, .rop ([iA v30.gFrom, iA v30.gTo, iA v30.gVariation] ++ tl30)), (35, iA v30.gFrom), (36, iA v24), (37, bA false), (38, bA false), (39, .ro .unk x0.length (TRange.cl x0)), (40, iA v25), (41, .rop ([iA v31.gFrom, iA v31.gTo, iA v31.gVariation] ++ tl31)), (42, .rop ([iA v31.gTo, iA v31.gVariation] ++ tl31)), (43, iA v31.gTo), (44, iA v24), (45, bA false), (46, bA (false || false)), (47, bA (false || false)), (48, iA v25), (49, bA true), (50, bA true), (51, .ro .unk x0.length (TRange.cl x0)), (52, iA v25), (53, .rop ([iA v32.gFrom, iA v32.gTo, iA v32.gVariation] ++ tl32)), (54, .rop ([iA v32.gVariation] ++ tl32)), (55, iA v32.gVariation), (56, .ro .unk x0.length (TRange.cl x0)), (57, iA v25), (58, iA (w64 (v25 - 1)))] ?_
                  have hv33_ := cond_t hv33 (by simp only [c1, c2, c3] <;> rfl)
                  refine AD_index (d := (some 59)) (sz := 3) (c := TRange.cs) (by kernel_rfl) rfl (eq_TRange_cl _) (fun _ => rfl) (by decide) hv33_ (fun tl33 => ?_)
                  refine RD 5 72 [] [(0, .ro .unk x0.length (TRange.cl x0)), (1, iA x1), (5, iA v24), (6, iA v25), (31, .ro .unk x0.length (TRange.cl x0)), (32, iA v25), (33, .rop ([iA v30.gFrom, iA v30.gTo, iA v30.gVariation] ++ tl30)), (34, .rop ([iA v30.gFrom, iA v30.gTo, iA v30.gVariation] ++ tl30)), (35, iA v30.gFrom), (36, iA v24), (37, bA false), (38, bA false), (39, .ro .unk x0.length (TRange.cl x0)), (40, iA v25), (41, .rop ([iA v31.gFrom, iA v31.gTo, iA v31.gVariation] ++ tl31)), (42, .rop ([iA v31.gTo, iA v31.gVariation] ++ tl31)), (43, iA v31.gTo), (44, iA v24), (45, bA false), (46, bA (false || false)), (47, bA (false || false)), (48, iA v25), (49, bA true), (50, bA true), (51, .ro .unk x0.length (TRange.cl x0)), (52, iA v25), (53, .rop ([iA v32.gFrom, iA v32.gTo, iA v32.gVariation] ++ tl32)), (54, .rop ([iA v32.gVariation] ++ tl32)), (55, iA v32.gVariation), (56, .ro .unk x0.length (TRange.cl x0)), (57, iA v25), (58, iA (w64 (v25 - 1))), (59, .rop ([iA v33.gFrom, iA v33.gTo, iA v33.gVariation] ++ tl33)), (60, .rop ([iA v33.gVariation] ++ tl33)), (61, iA v33.gVariation), (62, bA (v32.gVariation == v33.gVariation)), (63, bA (true && (v32.gVariation == v33.gVariation))), (64, bA ((false || false) || (true && (v32.gVariation == v33.gVariation))))] ?_
                  exact AD_here [0, 1, 6, 64] (by kernel_rfl) rfl
                | false =>
                  refine RD 14 72 [] [(0, .ro .unk x0.length (TRange.cl x0)), (1, iA x1), (5, iA v24), (6, iA v25), (31, .ro .unk x0.length (TRange.cl x0)), (32, iA v25), (33, .rop ([iA v30.gFrom, iA v30.gTo, iA v30.gVariation] ++ tl30)), (34, .rop ([iA v30.gFrom, iA v30.gTo, iA v30.gVariation] ++ tl30)), (35, iA v30.gFrom), (36, iA v24), (37, bA false), (38, bA false), (39, .ro .unk x0.length (TRange.cl x0)), (40, iA v25), (41, .rop ([iA v31.gFrom, iA v31.gTo, iA v31.gVariation] ++ tl31)), (42, .rop ([iA v31.gTo, iA v31.gVariation] ++ tl31)), (43, iA v31.gTo), (44, iA v24), (45, bA false), (46, bA (false || false)), (47, bA (false || false)), (48, iA v25), (49, bA false), (50, bA false), (51, undefA), (52, undefA), (53, undefA), (54, undefA), (55, undefA), (56, undefA), (57, undefA), (58, undefA), (59, undefA), (60, undefA), (61, undefA), (62, undefA), (63, bA (false && (v32.gVariation == v33.gVariation))), (64, bA ((false || false) || (false && (v32.gVariation == v33.gVariation))))] ?_
                  exact AD_here [0, 1, 6, 64] (by kernel_rfl) rfl
          refine CD H (fun hb34 H => ?_) (fun hb34 H => ?_)
          · refine AWP_reg (Rh 1 72 [(4, iA 9)] (AOps_done ?_))
            exact AWP_ret (FR H)
          · refine AWP_skip ?_
            show AWP _ _ _ _ _ _ _
            refine AWP_region ?_
            refine Rh 2 72 [(0, .ro .unk x0.length (TRange.cl x0)), (1, iA x1), (6, iA v25), (65, .ro .unk x0.length (TRange.cl x0)), (66, iA v25)] ?_
            obtain ⟨v35, hv35, H⟩ := bind_some H
            refine AOps_index (d := (some 67)) (sz := 3) (c := TRange.cs) (by kernel_rfl) rfl (eq_TRange_cl _) (fun _ => rfl) (by decide) hv35 (fun tl35 => ?_)
            refine Rh 3 72 [(0, .ro .unk x0.length (TRange.cl x0)), (1, iA x1), (5, iA v35.gTo), (6, iA v25)] (AOps_done ?_)
            show AWP _ _ _ _ _ _ _
            refine AWP_region ?_
            refine Rh 3 72 [(0, .ro .unk x0.length (TRange.cl x0)), (1, iA x1), (5, iA v35.gTo), (6, iA (w64 (v25 + 1)))] (AOps_done ?_)
            exact Exists.intro (v35.gTo, w64 (v25 + 1)) (Exists.intro n ⟨by omega, ⟨by omega, H⟩, Norm_fd [0, 1, 5, 6] 0 (by kernel_rfl) rfl rfl trivial (by refine scL_fr ?_; exact ⟨(scl_TRange_cl _ _), trivial, trivial, trivial, trivial⟩)⟩)
      · refine AWP_exit ?_
        show AWP _ _ _ _ _ _ _
        refine AWP_seq (AWP_reg (Rh 2 72 [(71, bA (v24 != 10000))] (AOps_done (CD H (fun hb36 H => ?_) (fun hb36 H => ?_)))))
        · refine AWP_reg (Rh 1 72 [(4, iA 3)] (AOps_done ?_))
          exact AWP_ret (FR H)
        · refine AWP_skip ?_
          show AWP _ _ _ _ _ _ _
          refine AWP_reg (Rh 1 72 [(4, iA 0)] (AOps_done ?_))
          exact AWP_ret (FR H)
end Go.Proofs.YtjhbobacbaikoaaGreatDoor
