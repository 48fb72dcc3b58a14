/- A function of the program as a pure function, and that the program computes it. -/
import Derived.Test.YtjhbobacbaikoaaGreatDoorM4
import Derived.Test.YtjhbobacbaikoaaGreatDoorM7
import Derived.Test.YtjhbobacbaikoaaGreatDoorM6
import Derived.Test.YtjhbobacbaikoaaGreatDoorM5
namespace Go.Proofs.YtjhbobacbaikoaaGreatDoor
open Go
set_option linter.unusedVariables false
set_option linter.unusedSimpArgs false
set_option maxRecDepth 100000
def p_draw_Codes_Test_K1 (n : Nat) (v5 : TDeclared) (v72 : List Int) (v73 : Int) : Option (TExpr × TCodes) :=
(p_draw_Codes_Value n ({ glist := v72, gat := v73 } : TCodes) v5.gType).bind fun v74 =>
 some ((TExpr.mk 7 v5.gKind v5.gName ([v74.1]) ([])), v74.2)
def p_draw_Codes_Test_K2 (n : Nat) (v5 : TDeclared) (v75 : Int × TCodes) : Option (TExpr × TCodes) :=
(bif ((v5.gType == 2) || (v5.gType == 3)) || (v5.gType == 4) then
(p_draw_Codes_Next n v75.2 4).bind fun v108 =>
(p_draw_Codes_Value n v108.2 v5.gType).bind fun v109 =>
 some ((TExpr.mk (w64 (12 + v108.1)) v5.gKind v5.gName ([v109.1]) ([])), v109.2)
 else
 p_draw_Codes_Test_K1 n v5 v75.2.glist v75.2.gat)
def p_draw_Codes_Test_L1 (n : Nat) (v5 : TDeclared) (v125 : Int) (v126 : List Int) (v127 : Int) (v128 : List TValue) : Option (TExpr × TCodes) := match n with
| 0 => none
| n + 1 =>
(p_draw_Codes_Next n ({ glist := v126, gat := v127 } : TCodes) 3).bind fun v129 =>
(bif decide (v125 ≤ v129.1) then
(p_draw_Codes_Value n v129.2 v5.gType).bind fun v131 =>
(appO 56 v128 ([v131.1])).bind fun v132 =>
 p_draw_Codes_Test_L1 n v5 (w64 (v125 + 1)) v131.2.glist v131.2.gat v132
 else
 some ((TExpr.mk 8 v5.gKind v5.gName v128 ([])), v129.2))
def p_draw_Codes_Test (n : Nat) (x0 : TCodes) : Option (TExpr × TCodes) :=
(p_draw_Declared n ).bind fun v1 =>
(p_draw_Codes_Next n x0 (w64 ((lI v1) + 1))).bind fun v2 =>
(bif v2.1 == (lI v1) then
(p_draw_Codes_Key n v2.2).bind fun v4 =>
 some ((TExpr.mk 7 (⟨#[117, 115, 101, 114]⟩ : ByteArray) (⟨#[107, 101, 121]⟩ : ByteArray) ([({ gKind := 3, gNumber := 0, gText := v4.1, gList := [] } : TValue)]) ([])), v4.2)
 else
(rdO v1 v2.1).bind fun v5 =>
(p_draw_Codes_Next n v2.2 5).bind fun v75 =>
(bif v75.1 == 0 then
 some ((TExpr.mk 6 v5.gKind v5.gName ([]) ([])), v75.2)
 else
(bif v75.1 == 1 then
(bif v5.gType != 5 then
 p_draw_Codes_Test_L1 n v5 0 v75.2.glist v75.2.gat ([])
 else
 p_draw_Codes_Test_K1 n v5 v75.2.glist v75.2.gat)
 else
(bif v75.1 == 2 then
(bif (v5.gType == 3) || (v5.gType == 5) then
(p_draw_Codes_Value n v75.2 3).bind fun v135 =>
 some ((TExpr.mk 11 v5.gKind v5.gName ([v135.1]) ([])), v135.2)
 else
 p_draw_Codes_Test_K1 n v5 v75.2.glist v75.2.gat)
 else
(bif v75.1 == 3 then
(bif v5.gType == 3 then
(p_draw_Codes_Next n v75.2 2).bind fun v138 =>
(p_draw_Codes_Value n v138.2 3).bind fun v139 =>
 some ((TExpr.mk (w64 (9 + v138.1)) v5.gKind v5.gName ([v139.1]) ([])), v139.2)
 else
 p_draw_Codes_Test_K2 n v5 v75 )
 else
(bif v75.1 == 4 then
 p_draw_Codes_Test_K2 n v5 v75 
 else
 p_draw_Codes_Test_K1 n v5 v75.2.glist v75.2.gat))))))
variable {E : Env}
theorem s_draw_Codes_Test {n : Nat} (hG : GlobD E) {x0 : TCodes} {r : TExpr × TCodes} (H : p_draw_Codes_Test n x0 = some r) :
    Sp Tryz.prog E 47 [.ptr 0 0] [.cells 101 (TCodes.cs x0)] (isA (.agg (TExpr.cs r.1)) [.cells 101 (TCodes.cs r.2)]) := by
  unfold p_draw_Codes_Test at H
  refine Sp_fn Tryz.func47 rfl (fun hc hs => ?_)
  refine AWP_reg (R 1 124 [(0, .ptr 0 0), (2, .ptr 1 0)] [.cells 25 [iA 0, sA ByteArray.empty, sA ByteArray.empty, .ro .full 0 [], .ro .full 0 []], .cells 101 (TCodes.cs x0)] (AOps_done (AWP_reg ?_)))
  obtain ⟨v1, hv1, H⟩ := bind_some H
  refine AOps_callp (d := (some 8)) (al := []) (r := .ro .unk v1.length (TDeclared.cl v1)) (by kernel_rfl) (s_draw_Declared hv1) trivial (scl_TDeclared_cl _ _) ?_
  refine Rh 1 124 [(0, .ptr 0 0), (2, .ptr 1 0), (3, .ro .unk v1.length (TDeclared.cl v1))] (AOps_done (AWP_reg (Rh 4 124 [(0, .ptr 0 0), (2, .ptr 1 0), (3, .ro .unk v1.length (TDeclared.cl v1)), (9, .ptr 0 0), (12, iA (w64 ((lI v1) + 1)))] ?_)))
  obtain ⟨v2, hv2, H⟩ := bind_some H
  refine AOps_call1 (d := (some 13)) (al := [.ptr 0 0, iA (w64 ((lI v1) + 1))]) ([.ptr 0 0, iA (w64 ((lI v1) + 1))]) (r := iA v2.1) (j := 0) (b' := .cells 101 (TCodes.cs v2.2)) (by kernel_rfl) rfl (s_draw_Codes_Next hv2) (⟨(scl_cl_u8 _ _), trivial, trivial⟩) (⟨(scl_cl_u8 _ _), trivial, trivial⟩) ⟨Nat.zero_lt_one, trivial, trivial⟩ trivial rfl (h' := [.cells 25 [iA 0, sA ByteArray.empty, sA ByteArray.empty, .ro .full 0 [], .ro .full 0 []], .cells 101 (TCodes.cs v2.2)]) rfl ?_
  refine Rh 1 124 [(0, .ptr 0 0), (2, .ptr 1 0), (3, .ro .unk v1.length (TDeclared.cl v1)), (4, iA v2.1)] (AOps_done (AWP_seq (AWP_reg (Rh 4 124 [(0, .ptr 0 0), (2, .ptr 1 0), (3, .ro .unk v1.length (TDeclared.cl v1)), (4, iA v2.1), (17, bA (v2.1 == (lI v1)))] (AOps_done (CD H (fun hb3 H => ?_) (fun hb3 H => ?_)))))))
  · refine AWP_reg (Rh 1 124 [(2, .ptr 1 0), (18, .ptr 0 0)] ?_)
    obtain ⟨v4, hv4, H⟩ := bind_some H
    refine AOps_call1 (d := (some 19)) (al := [.ptr 0 0]) ([.ptr 0 0]) (r := sA v4.1) (j := 0) (b' := .cells 101 (TCodes.cs v4.2)) (by kernel_rfl) rfl (s_draw_Codes_Key hv4) (⟨(scl_cl_u8 _ _), trivial, trivial⟩) (⟨(scl_cl_u8 _ _), trivial, trivial⟩) ⟨Nat.zero_lt_one, trivial⟩ trivial rfl (h' := [.cells 25 [iA 0, sA ByteArray.empty, sA ByteArray.empty, .ro .full 0 [], .ro .full 0 []], .cells 101 (TCodes.cs v4.2)]) rfl ?_
    refine Rh 1 124 [(2, .ptr 1 0), (20, .agg [iA 3, iA 0, sA v4.1, .ro .full 0 []])] (AOps_bsl2 (d := (some 21)) (m := 1) (cs := [iA 3, iA 0, sA v4.1, .ro .full 0 []]) [iA 3, iA 0, sA v4.1, .ro .unk ([] : List ByteArray).length (cl_str ([] : List ByteArray))] (by kernel_rfl) ⟨trivial, trivial, trivial, trivial, trivial⟩ (leL_cons (AV.le_refl _) (leL_cons (AV.le_refl _) (leL_cons (AV.le_refl _) (leL_cons (AV.le_ro _ _ _) (leL_refl _))))) rfl ?_)
    refine R 2 124 [(2, .ptr 1 0)] [.cells 25 [iA 7, sA (⟨#[117, 115, 101, 114]⟩ : ByteArray), sA (⟨#[107, 101, 121]⟩ : ByteArray), .ro .unk ([({ gKind := 3, gNumber := 0, gText := v4.1, gList := [] } : TValue)]).length (TValue.cl ([({ gKind := 3, gNumber := 0, gText := v4.1, gList := [] } : TValue)])), .ro .full 0 []], .cells 101 (TCodes.cs v4.2)] (AOps_done (AWP_ret ?_))
    have hr := Option.some.inj H
    subst hr
    exact Fin_retn 1 (l := [.agg [iA 7, sA (⟨#[117, 115, 101, 114]⟩ : ByteArray), sA (⟨#[107, 101, 121]⟩ : ByteArray), .ro .unk ([({ gKind := 3, gNumber := 0, gText := v4.1, gList := [] } : TValue)]).length (TValue.cl ([({ gKind := 3, gNumber := 0, gText := v4.1, gList := [] } : TValue)])), .ro .full 0 []]]) (h' := [.cells 101 (TCodes.cs v4.2)]) (by kernel_rfl) rfl (Nat.le_of_ble_eq_true rfl) ((by refine Closed_of ?_; exact ⟨⟨(scl_cl_u8 _ _), trivial, trivial⟩, trivial⟩)) (Frz_agg (FrzL_cons (Frz_sc trivial) (FrzL_cons (Frz_sc trivial) (FrzL_cons (Frz_sc trivial) (FrzL_cons (Frz_sc (scl_TValue_cl _ _)) (FrzL_cons (Frz_le (Frz_sc trivial) (AV.le_ro _ _ _)) (FrzL_nil)))))) rfl) ⟨rfl, rfl⟩
  · refine AWP_skip ?_
    show AWP _ _ _ _ _ _ _
    refine AWP_reg (Rh 2 124 [(0, .ptr 0 0), (2, .ptr 1 0), (23, .ro .unk v1.length (TDeclared.cl v1)), (24, iA v2.1)] ?_)
    obtain ⟨v5, hv5, H⟩ := bind_some H
    refine AOps_index (d := (some 25)) (sz := 3) (c := TDeclared.cs) (by kernel_rfl) rfl (eq_TDeclared_cl _) (fun _ => rfl) (by decide) hv5 (fun tl5 => ?_)
    refine R 3 124 [(0, .ptr 0 0), (2, .ptr 1 0), (5, .ptr 2 0)] [.cells 112 (TDeclared.cs v5), .cells 25 [iA 0, sA ByteArray.empty, sA ByteArray.empty, .ro .full 0 [], .ro .full 0 []], .cells 101 (TCodes.cs v2.2)] (AOps_done (AWP_reg (R 7 124 [(0, .ptr 0 0), (2, .ptr 1 0), (5, .ptr 2 0), (6, .ptr 3 0)] [.cells 25 [iA 0, sA v5.gKind, sA v5.gName, .ro .full 0 [], .ro .full 0 []], .cells 112 (TDeclared.cs v5), .cells 25 [iA 0, sA ByteArray.empty, sA ByteArray.empty, .ro .full 0 [], .ro .full 0 []], .cells 101 (TCodes.cs v2.2)] (AOps_done (AWP_joinN (α := (List Int) × Int) (fun ⟨v72, v73⟩ => fr 124 [(0, .ptr 0 0), (2, .ptr 1 0), (5, .ptr 2 0), (6, .ptr 3 0)]) (fun ⟨v72, v73⟩ => [.cells 25 [iA 0, sA v5.gKind, sA v5.gName, .ro .full 0 [], .ro .full 0 []], .cells 112 (TDeclared.cs v5), .cells 25 [iA 0, sA ByteArray.empty, sA ByteArray.empty, .ro .full 0 [], .ro .full 0 []], .cells 101 [.ro .unk v72.length (cl_u8 v72), iA v73]]) (fun ⟨v72, v73⟩ => ∃ q, q ≤ q ∧ p_draw_Codes_Test_K1 q v5 v72 v73 = some r) (fun a hC => ?_) ?_)))))
    · obtain ⟨v72, v73⟩ := a
      show AWP _ _ _ _ _ (fr 124 [(0, .ptr 0 0), (2, .ptr 1 0), (5, .ptr 2 0), (6, .ptr 3 0)]) [.cells 25 [iA 0, sA v5.gKind, sA v5.gName, .ro .full 0 [], .ro .full 0 []], .cells 112 (TDeclared.cs v5), .cells 25 [iA 0, sA ByteArray.empty, sA ByteArray.empty, .ro .full 0 [], .ro .full 0 []], .cells 101 [.ro .unk v72.length (cl_u8 v72), iA v73]]
      obtain ⟨n, hn_, hC⟩ := hC
      replace H : p_draw_Codes_Test_K1 n v5 v72 v73 = some r := hC
      unfold p_draw_Codes_Test_K1 at H
      refine AWP_reg (R 2 124 [(0, .ptr 0 0), (2, .ptr 1 0), (5, .ptr 2 0), (6, .ptr 3 0)] [.cells 25 [iA 7, sA v5.gKind, sA v5.gName, .ro .full 0 [], .ro .full 0 []], .cells 112 (TDeclared.cs v5), .cells 25 [iA 0, sA ByteArray.empty, sA ByteArray.empty, .ro .full 0 [], .ro .full 0 []], .cells 101 [.ro .unk v72.length (cl_u8 v72), iA v73]] (AOps_done (AWP_reg (Rh 3 124 [(2, .ptr 1 0), (6, .ptr 3 0), (117, .ptr 0 0), (119, iA v5.gType)] ?_))))
      obtain ⟨v74, hv74, H⟩ := bind_some H
      refine AOps_call1 (d := (some 120)) (al := [.ptr 0 0, iA v5.gType]) ([.ptr 0 0, iA v5.gType]) (r := .agg (TValue.cs v74.1)) (j := 0) (b' := .cells 101 (TCodes.cs v74.2)) (by kernel_rfl) rfl (s_draw_Codes_Value hG hv74) (⟨(scl_cl_u8 _ _), trivial, trivial⟩) (⟨(scl_cl_u8 _ _), trivial, trivial⟩) ⟨Nat.zero_lt_one, trivial, trivial⟩ (sc_TValue_cs _ _) rfl (h' := [.cells 25 [iA 7, sA v5.gKind, sA v5.gName, .ro .full 0 [], .ro .full 0 []], .cells 112 (TDeclared.cs v5), .cells 25 [iA 0, sA ByteArray.empty, sA ByteArray.empty, .ro .full 0 [], .ro .full 0 []], .cells 101 (TCodes.cs v74.2)]) rfl ?_
      refine AOps_bsl (d := (some 121)) (m := 1) (cs := [iA v74.1.gKind, iA v74.1.gNumber, sA v74.1.gText, .ro .unk v74.1.gList.length (cl_str v74.1.gList)]) (by kernel_rfl) ⟨trivial, trivial, trivial, (scl_cl_str _ _), trivial⟩ ?_
      refine R 2 124 [(2, .ptr 1 0), (6, .ptr 3 0)] [.cells 25 [iA 7, sA v5.gKind, sA v5.gName, .ro .unk ([v74.1]).length (TValue.cl ([v74.1])), .ro .full 0 []], .cells 112 (TDeclared.cs v5), .cells 25 [iA 0, sA ByteArray.empty, sA ByteArray.empty, .ro .full 0 [], .ro .full 0 []], .cells 101 (TCodes.cs v74.2)] (AOps_done (AWP_reg (R 2 124 [(2, .ptr 1 0)] [.cells 25 [iA 7, sA v5.gKind, sA v5.gName, .ro .unk ([v74.1]).length (TValue.cl ([v74.1])), .ro .full 0 []], .cells 112 (TDeclared.cs v5), .cells 25 [iA 7, sA v5.gKind, sA v5.gName, .ro .unk ([v74.1]).length (TValue.cl ([v74.1])), .ro .full 0 []], .cells 101 (TCodes.cs v74.2)] (AOps_done (AWP_ret ?_)))))
      have hr := Option.some.inj H
      subst hr
      exact Fin_retn 3 (l := [.agg [iA 7, sA v5.gKind, sA v5.gName, .ro .unk ([v74.1]).length (TValue.cl ([v74.1])), .ro .full 0 []]]) (h' := [.cells 101 (TCodes.cs v74.2)]) (by kernel_rfl) rfl (Nat.le_of_ble_eq_true rfl) ((by refine Closed_of ?_; exact ⟨⟨(scl_cl_u8 _ _), trivial, trivial⟩, trivial⟩)) (Frz_agg (FrzL_cons (Frz_sc trivial) (FrzL_cons (Frz_sc trivial) (FrzL_cons (Frz_sc trivial) (FrzL_cons (Frz_sc (scl_TValue_cl _ _)) (FrzL_cons (Frz_le (Frz_sc trivial) (AV.le_ro _ _ _)) (FrzL_nil)))))) rfl) ⟨rfl, rfl⟩
    · refine AWP_reg (Rh 1 124 [(0, .ptr 0 0), (2, .ptr 1 0), (5, .ptr 2 0), (6, .ptr 3 0), (32, .ptr 0 0)] ?_)
      obtain ⟨v75, hv75, H⟩ := bind_some H
      refine AOps_call1 (d := (some 33)) (al := [.ptr 0 0, iA 5]) ([.ptr 0 0, iA 5]) (r := iA v75.1) (j := 0) (b' := .cells 101 (TCodes.cs v75.2)) (by kernel_rfl) rfl (s_draw_Codes_Next hv75) (⟨(scl_cl_u8 _ _), trivial, trivial⟩) (⟨(scl_cl_u8 _ _), trivial, trivial⟩) ⟨Nat.zero_lt_one, trivial, trivial⟩ trivial rfl (h' := [.cells 25 [iA 0, sA v5.gKind, sA v5.gName, .ro .full 0 [], .ro .full 0 []], .cells 112 (TDeclared.cs v5), .cells 25 [iA 0, sA ByteArray.empty, sA ByteArray.empty, .ro .full 0 [], .ro .full 0 []], .cells 101 (TCodes.cs v75.2)]) rfl ?_
      refine AOps_done (AWP_block ?_)
      refine AWP_joinN (α := Unit) (fun _ => fr 124 [(0, .ptr 0 0), (2, .ptr 1 0), (5, .ptr 2 0), (6, .ptr 3 0)]) (fun _ => [.cells 25 [iA 0, sA v5.gKind, sA v5.gName, .ro .full 0 [], .ro .full 0 []], .cells 112 (TDeclared.cs v5), .cells 25 [iA 0, sA ByteArray.empty, sA ByteArray.empty, .ro .full 0 [], .ro .full 0 []], .cells 101 (TCodes.cs v75.2)]) (fun _ => ∃ q, q ≤ q ∧ p_draw_Codes_Test_K2 q v5 v75  = some r) (fun a hC => ?_) ?_
      · show AWP _ _ _ _ _ (fr 124 [(0, .ptr 0 0), (2, .ptr 1 0), (5, .ptr 2 0), (6, .ptr 3 0)]) [.cells 25 [iA 0, sA v5.gKind, sA v5.gName, .ro .full 0 [], .ro .full 0 []], .cells 112 (TDeclared.cs v5), .cells 25 [iA 0, sA ByteArray.empty, sA ByteArray.empty, .ro .full 0 [], .ro .full 0 []], .cells 101 (TCodes.cs v75.2)]
        obtain ⟨n, hn_, hC⟩ := hC
        replace H : p_draw_Codes_Test_K2 n v5 v75  = some r := hC
        unfold p_draw_Codes_Test_K2 at H
        refine AWP_seq (AWP_reg (Rh 4 124 [(0, .ptr 0 0), (2, .ptr 1 0), (5, .ptr 2 0), (6, .ptr 3 0), (95, bA (v5.gType == 2))] (AOps_run 4 [0, 2, 5, 6, 99] (st' := fr 124 [(0, .ptr 0 0), (2, .ptr 1 0), (5, .ptr 2 0), (6, .ptr 3 0), (99, bA ((v5.gType == 2) || (v5.gType == 3)))]) (h' := [.cells 25 [iA 0, sA v5.gKind, sA v5.gName, .ro .full 0 [], .ro .full 0 []], .cells 112 (TDeclared.cs v5), .cells 25 [iA 0, sA ByteArray.empty, sA ByteArray.empty, .ro .full 0 [], .ro .full 0 []], .cells 101 (TCodes.cs v75.2)]) (by (generalize (v5.gType == 2) = t0; cases t0 <;> kernel_rfl)) ?_)))
        refine Rh 1 124 [(0, .ptr 0 0), (2, .ptr 1 0), (5, .ptr 2 0), (6, .ptr 3 0), (100, bA ((v5.gType == 2) || (v5.gType == 3)))] (AOps_run 4 [0, 2, 5, 6, 104] (st' := fr 124 [(0, .ptr 0 0), (2, .ptr 1 0), (5, .ptr 2 0), (6, .ptr 3 0), (104, bA (((v5.gType == 2) || (v5.gType == 3)) || (v5.gType == 4)))]) (h' := [.cells 25 [iA 0, sA v5.gKind, sA v5.gName, .ro .full 0 [], .ro .full 0 []], .cells 112 (TDeclared.cs v5), .cells 25 [iA 0, sA ByteArray.empty, sA ByteArray.empty, .ro .full 0 [], .ro .full 0 []], .cells 101 (TCodes.cs v75.2)]) (by (generalize (v5.gType == 2) = t0; generalize (v5.gType == 3) = t1; cases t0 <;> cases t1 <;> kernel_rfl)) ?_)
        refine AOps_done (CD H (fun hb107 H => ?_) (fun hb107 H => ?_))
        · refine AWP_reg (Rh 1 124 [(0, .ptr 0 0), (2, .ptr 1 0), (5, .ptr 2 0), (6, .ptr 3 0), (105, .ptr 0 0)] ?_)
          obtain ⟨v108, hv108, H⟩ := bind_some H
          refine AOps_call1 (d := (some 106)) (al := [.ptr 0 0, iA 4]) ([.ptr 0 0, iA 4]) (r := iA v108.1) (j := 0) (b' := .cells 101 (TCodes.cs v108.2)) (by kernel_rfl) rfl (s_draw_Codes_Next hv108) (⟨(scl_cl_u8 _ _), trivial, trivial⟩) (⟨(scl_cl_u8 _ _), trivial, trivial⟩) ⟨Nat.zero_lt_one, trivial, trivial⟩ trivial rfl (h' := [.cells 25 [iA 0, sA v5.gKind, sA v5.gName, .ro .full 0 [], .ro .full 0 []], .cells 112 (TDeclared.cs v5), .cells 25 [iA 0, sA ByteArray.empty, sA ByteArray.empty, .ro .full 0 [], .ro .full 0 []], .cells 101 (TCodes.cs v108.2)]) rfl ?_
          refine R 3 124 [(0, .ptr 0 0), (2, .ptr 1 0), (5, .ptr 2 0), (6, .ptr 3 0)] [.cells 25 [iA (w64 (12 + v108.1)), sA v5.gKind, sA v5.gName, .ro .full 0 [], .ro .full 0 []], .cells 112 (TDeclared.cs v5), .cells 25 [iA 0, sA ByteArray.empty, sA ByteArray.empty, .ro .full 0 [], .ro .full 0 []], .cells 101 (TCodes.cs v108.2)] (AOps_done (AWP_reg (Rh 3 124 [(2, .ptr 1 0), (6, .ptr 3 0), (109, .ptr 0 0), (111, iA v5.gType)] ?_)))
          obtain ⟨v109, hv109, H⟩ := bind_some H
          refine AOps_call1 (d := (some 112)) (al := [.ptr 0 0, iA v5.gType]) ([.ptr 0 0, iA v5.gType]) (r := .agg (TValue.cs v109.1)) (j := 0) (b' := .cells 101 (TCodes.cs v109.2)) (by kernel_rfl) rfl (s_draw_Codes_Value hG hv109) (⟨(scl_cl_u8 _ _), trivial, trivial⟩) (⟨(scl_cl_u8 _ _), trivial, trivial⟩) ⟨Nat.zero_lt_one, trivial, trivial⟩ (sc_TValue_cs _ _) rfl (h' := [.cells 25 [iA (w64 (12 + v108.1)), sA v5.gKind, sA v5.gName, .ro .full 0 [], .ro .full 0 []], .cells 112 (TDeclared.cs v5), .cells 25 [iA 0, sA ByteArray.empty, sA ByteArray.empty, .ro .full 0 [], .ro .full 0 []], .cells 101 (TCodes.cs v109.2)]) rfl ?_
          refine AOps_bsl (d := (some 113)) (m := 1) (cs := [iA v109.1.gKind, iA v109.1.gNumber, sA v109.1.gText, .ro .unk v109.1.gList.length (cl_str v109.1.gList)]) (by kernel_rfl) ⟨trivial, trivial, trivial, (scl_cl_str _ _), trivial⟩ ?_
          refine R 2 124 [(2, .ptr 1 0), (6, .ptr 3 0)] [.cells 25 [iA (w64 (12 + v108.1)), sA v5.gKind, sA v5.gName, .ro .unk ([v109.1]).length (TValue.cl ([v109.1])), .ro .full 0 []], .cells 112 (TDeclared.cs v5), .cells 25 [iA 0, sA ByteArray.empty, sA ByteArray.empty, .ro .full 0 [], .ro .full 0 []], .cells 101 (TCodes.cs v109.2)] (AOps_done (AWP_reg (R 2 124 [(2, .ptr 1 0)] [.cells 25 [iA (w64 (12 + v108.1)), sA v5.gKind, sA v5.gName, .ro .unk ([v109.1]).length (TValue.cl ([v109.1])), .ro .full 0 []], .cells 112 (TDeclared.cs v5), .cells 25 [iA (w64 (12 + v108.1)), sA v5.gKind, sA v5.gName, .ro .unk ([v109.1]).length (TValue.cl ([v109.1])), .ro .full 0 []], .cells 101 (TCodes.cs v109.2)] (AOps_done (AWP_ret ?_)))))
          have hr := Option.some.inj H
          subst hr
          exact Fin_retn 3 (l := [.agg [iA (w64 (12 + v108.1)), sA v5.gKind, sA v5.gName, .ro .unk ([v109.1]).length (TValue.cl ([v109.1])), .ro .full 0 []]]) (h' := [.cells 101 (TCodes.cs v109.2)]) (by kernel_rfl) rfl (Nat.le_of_ble_eq_true rfl) ((by refine Closed_of ?_; exact ⟨⟨(scl_cl_u8 _ _), trivial, trivial⟩, trivial⟩)) (Frz_agg (FrzL_cons (Frz_sc trivial) (FrzL_cons (Frz_sc trivial) (FrzL_cons (Frz_sc trivial) (FrzL_cons (Frz_sc (scl_TValue_cl _ _)) (FrzL_cons (Frz_le (Frz_sc trivial) (AV.le_ro _ _ _)) (FrzL_nil)))))) rfl) ⟨rfl, rfl⟩
        · refine AWP_skip ?_
          show AWP _ _ _ _ _ _ _
          refine AWP_exit ?_
          exact Exists.intro (v75.2.glist, v75.2.gat) ⟨⟨n, by omega, H⟩, Norm_fd [0, 2, 5, 6] 0 (by kernel_rfl) rfl rfl ⟨⟨trivial, trivial, trivial, trivial, trivial, trivial⟩, (sc_TDeclared_cs _ _), ⟨trivial, trivial, trivial, trivial, trivial, trivial⟩, ⟨(scl_cl_u8 _ _), trivial, trivial⟩, trivial⟩ (by refine scL_fr ?_; exact ⟨(sc_ptr rfl), (sc_ptr rfl), (sc_ptr rfl), (sc_ptr rfl), trivial⟩)⟩
      · refine AWP_block ?_
        refine AWP_seq (AWP_block ?_)
        refine AWP_seq (AWP_block ?_)
        refine AWP_seq (AWP_block ?_)
        refine AWP_seq (AWP_block ?_)
        refine AWP_seq (AWP_seq (AWP_reg (Rh 2 124 [(0, .ptr 0 0), (2, .ptr 1 0), (5, .ptr 2 0), (6, .ptr 3 0), (33, iA v75.1), (34, bA (v75.1 == 0))] (AOps_done (CD H (fun hb110 H => ?_) (fun hb110 H => ?_))))))
        · refine AWP_exit ?_
          show AWP _ _ _ _ _ _ _
          refine AWP_seq (AWP_reg (R 2 124 [(2, .ptr 1 0), (6, .ptr 3 0)] [.cells 25 [iA 6, sA v5.gKind, sA v5.gName, .ro .full 0 [], .ro .full 0 []], .cells 112 (TDeclared.cs v5), .cells 25 [iA 0, sA ByteArray.empty, sA ByteArray.empty, .ro .full 0 [], .ro .full 0 []], .cells 101 (TCodes.cs v75.2)] (AOps_done (AWP_reg (R 2 124 [(2, .ptr 1 0)] [.cells 25 [iA 6, sA v5.gKind, sA v5.gName, .ro .full 0 [], .ro .full 0 []], .cells 112 (TDeclared.cs v5), .cells 25 [iA 6, sA v5.gKind, sA v5.gName, .ro .full 0 [], .ro .full 0 []], .cells 101 (TCodes.cs v75.2)] (AOps_done (AWP_ret ?_)))))))
          have hr := Option.some.inj H
          subst hr
          exact Fin_retn 3 (l := [.agg [iA 6, sA v5.gKind, sA v5.gName, .ro .full 0 [], .ro .full 0 []]]) (h' := [.cells 101 (TCodes.cs v75.2)]) (by kernel_rfl) rfl (Nat.le_of_ble_eq_true rfl) ((by refine Closed_of ?_; exact ⟨⟨(scl_cl_u8 _ _), trivial, trivial⟩, trivial⟩)) (Frz_agg (FrzL_cons (Frz_sc trivial) (FrzL_cons (Frz_sc trivial) (FrzL_cons (Frz_sc trivial) (FrzL_cons (Frz_le (Frz_sc trivial) (AV.le_ro _ _ _)) (FrzL_cons (Frz_le (Frz_sc trivial) (AV.le_ro _ _ _)) (FrzL_nil)))))) rfl) ⟨rfl, rfl⟩
        · refine AWP_skip ?_
          show AWP _ _ _ _ _ _ _
          refine AWP_seq (AWP_reg (Rh 2 124 [(0, .ptr 0 0), (2, .ptr 1 0), (5, .ptr 2 0), (6, .ptr 3 0), (33, iA v75.1), (36, bA (v75.1 == 1))] (AOps_done (CD H (fun hb111 H => ?_) (fun hb111 H => ?_)))))
          · refine AWP_exit ?_
            show AWP _ _ _ _ _ _ _
            refine AWP_seq (AWP_reg (Rh 3 124 [(0, .ptr 0 0), (2, .ptr 1 0), (5, .ptr 2 0), (6, .ptr 3 0), (48, bA (v5.gType != 5))] (AOps_done (CD H (fun hb112 H => ?_) (fun hb112 H => ?_)))))
            · refine AWP_reg (R 2 124 [(0, .ptr 0 0), (2, .ptr 1 0), (5, .ptr 2 0), (6, .ptr 3 0)] [.cells 25 [iA 8, sA v5.gKind, sA v5.gName, .ro .full 0 [], .ro .full 0 []], .cells 112 (TDeclared.cs v5), .cells 25 [iA 0, sA ByteArray.empty, sA ByteArray.empty, .ro .full 0 [], .ro .full 0 []], .cells 101 (TCodes.cs v75.2)] (AOps_done (AWP_seq (AWP_reg (Rh 1 124 [(0, .ptr 0 0), (2, .ptr 1 0), (5, .ptr 2 0), (6, .ptr 3 0), (7, iA 0)] (AOps_done (AWP_block ?_)))))))
              refine AWP_loopN (α := Int × (List Int) × Int × (List TValue)) (fun ⟨v125, v126, v127, v128⟩ => fr 124 [(0, .ptr 0 0), (2, .ptr 1 0), (5, .ptr 2 0), (6, .ptr 3 0), (7, iA v125)]) (fun ⟨v125, v126, v127, v128⟩ => [.row 58 (TValue.cl v128), .cells 25 [iA 8, sA v5.gKind, sA v5.gName, .sl 4 0 v128.length (.whole 4), .ro .full 0 []], .cells 112 (TDeclared.cs v5), .cells 25 [iA 0, sA ByteArray.empty, sA ByteArray.empty, .ro .full 0 [], .ro .full 0 []], .cells 101 [.ro .unk v126.length (cl_u8 v126), iA v127]]) (fun k_ ⟨v125, v126, v127, v128⟩ => k_ ≤ n ∧ p_draw_Codes_Test_L1 k_ v5 v125 v126 v127 v128 = some r) (fun n a H => ?_) (k := n) (0, v75.2.glist, v75.2.gat, []) ⟨Nat.le_refl _, H⟩ (Norm_trans (Norm_fd (st' := fr 124 [(0, .ptr 0 0), (2, .ptr 1 0), (5, .ptr 2 0), (6, .ptr 3 0), (7, iA 0)]) (h' := [.cells 25 [iA 8, sA v5.gKind, sA v5.gName, .ro .full 0 [], .ro .full 0 []], .cells 112 (TDeclared.cs v5), .cells 25 [iA 0, sA ByteArray.empty, sA ByteArray.empty, .ro .full 0 [], .ro .full 0 []], .cells 101 (TCodes.cs v75.2)]) [0, 2, 5, 6, 7] 0 (by kernel_rfl) rfl rfl ⟨⟨trivial, trivial, trivial, trivial, trivial, trivial⟩, (sc_TDeclared_cs _ _), ⟨trivial, trivial, trivial, trivial, trivial, trivial⟩, ⟨(scl_cl_u8 _ _), trivial, trivial⟩, trivial⟩ (by refine scL_fr ?_; exact ⟨(sc_ptr rfl), (sc_ptr rfl), (sc_ptr rfl), (sc_ptr rfl), trivial, trivial⟩)) (Norm_trans (Norm_nilc' (st := fr 124 [(0, .ptr 0 0), (2, .ptr 1 0), (5, .ptr 2 0), (6, .ptr 3 0), (7, iA 0)]) (ty := 25) (cs := [iA 8, sA v5.gKind, sA v5.gName, .ro .full 0 [], .ro .full 0 []]) (h' := [.row 58 (TValue.cl ([])), .cells 25 [iA 8, sA v5.gKind, sA v5.gName, .sl 4 0 ([] : List TValue).length (.whole 4), .ro .full 0 []], .cells 112 (TDeclared.cs v5), .cells 25 [iA 0, sA ByteArray.empty, sA ByteArray.empty, .ro .full 0 [], .ro .full 0 []], .cells 101 (TCodes.cs v75.2)]) 3 3 4 58 4 rfl rfl (by kernel_rfl) (by kernel_rfl)) (Norm_fd [0, 2, 5, 6, 7] 0 (by kernel_rfl) rfl rfl ⟨(scl_TValue_cl _ _), ⟨trivial, trivial, trivial, (sc_sl rfl), trivial, trivial⟩, (sc_TDeclared_cs _ _), ⟨trivial, trivial, trivial, trivial, trivial, trivial⟩, ⟨(scl_cl_u8 _ _), trivial, trivial⟩, trivial⟩ (by refine scL_fr ?_; exact ⟨(sc_ptr rfl), (sc_ptr rfl), (sc_ptr rfl), (sc_ptr rfl), trivial, trivial⟩))))
              obtain ⟨v125, v126, v127, v128⟩ := a
              show AWP _ _ _ _ _ (fr 124 [(0, .ptr 0 0), (2, .ptr 1 0), (5, .ptr 2 0), (6, .ptr 3 0), (7, iA v125)]) [.row 58 (TValue.cl v128), .cells 25 [iA 8, sA v5.gKind, sA v5.gName, .sl 4 0 v128.length (.whole 4), .ro .full 0 []], .cells 112 (TDeclared.cs v5), .cells 25 [iA 0, sA ByteArray.empty, sA ByteArray.empty, .ro .full 0 [], .ro .full 0 []], .cells 101 [.ro .unk v126.length (cl_u8 v126), iA v127]]
              obtain ⟨hb_, H⟩ := H
              replace H : p_draw_Codes_Test_L1 n v5 v125 v126 v127 v128 = some r := H
              cases n with
              | zero => exact not_none (by simpa only [p_draw_Codes_Test_L1] using H)
              | succ n =>
                unfold p_draw_Codes_Test_L1 at H
                refine AWP_seq (AWP_reg (Rh 2 124 [(0, .ptr 0 0), (2, .ptr 1 0), (5, .ptr 2 0), (6, .ptr 3 0), (7, iA v125), (50, iA v125), (51, .ptr 0 0)] ?_))
                obtain ⟨v129, hv129, H⟩ := bind_some H
                refine AOps_call1 (d := (some 52)) (al := [.ptr 0 0, iA 3]) ([.ptr 0 0, iA 3]) (r := iA v129.1) (j := 0) (b' := .cells 101 (TCodes.cs v129.2)) (by kernel_rfl) rfl (s_draw_Codes_Next hv129) (⟨(scl_cl_u8 _ _), trivial, trivial⟩) (⟨(scl_cl_u8 _ _), trivial, trivial⟩) ⟨Nat.zero_lt_one, trivial, trivial⟩ trivial rfl (h' := [.row 58 (TValue.cl v128), .cells 25 [iA 8, sA v5.gKind, sA v5.gName, .sl 4 0 v128.length (.whole 4), .ro .full 0 []], .cells 112 (TDeclared.cs v5), .cells 25 [iA 0, sA ByteArray.empty, sA ByteArray.empty, .ro .full 0 [], .ro .full 0 []], .cells 101 (TCodes.cs v129.2)]) rfl ?_
                refine Rh 1 124 [(0, .ptr 0 0), (2, .ptr 1 0), (5, .ptr 2 0), (6, .ptr 3 0), (7, iA v125), (53, bA (decide (v125 ≤ v129.1)))] (AOps_done (CD H (fun hb130 H => ?_) (fun hb130 H => ?_)))
                · refine AWP_skip ?_
                  show AWP _ _ _ _ _ _ _
                  refine AWP_seq (AWP_block ?_)
                  obtain ⟨v131, hv131, H⟩ := bind_some H
                  obtain ⟨v132, hv132, H⟩ := bind_some H
                  refine AWP_regE1 [0, 1, 2, 3, 4, 5, 6, 7, 8, 9] (N := 124) (f := [(0, .ptr 0 0), (2, .ptr 1 0), (5, .ptr 2 0), (6, .ptr 3 0), (7, iA v125)]) (leL_of [0, 2, 5, 6, 7] (by kernel_rfl)) mixed (by kernel_rfl) (by kernel_rfl) (st' := fr 124 [(0, .ptr 0 0), (2, .ptr 1 0), (5, .ptr 2 0), (6, .ptr 3 0), (7, iA v125)]) (h' := [.row 58 (TValue.cl v132), .dead, .cells 25 [iA 8, sA v5.gKind, sA v5.gName, .sl 5 0 v132.length (.whole 4), .ro .full 0 []], .cells 112 (TDeclared.cs v5), .cells 25 [iA 0, sA ByteArray.empty, sA ByteArray.empty, .ro .full 0 [], .ro .full 0 []], .cells 101 (TCodes.cs v131.2)]) ?_ ?_
                  rotate_left
                  · refine RD 5 124 [(4, 2), (3, 2), (1, 3), (0, 3)] [(0, .ptr 0 0), (2, .ptr 1 0), (5, .ptr 2 0), (6, .ptr 3 0), (7, iA v125), (56, .ptr 3 3), (57, .sl 4 0 v128.length (.whole 4)), (58, .ptr 0 0), (59, .ptr 2 2), (60, iA v5.gType)] (AD_call1 (d := (some 61)) (al := [.ptr 0 0, iA v5.gType]) ([.ptr 0 0, iA v5.gType]) (r := .agg (TValue.cs v131.1)) (j := 0) (b' := .cells 101 (TCodes.cs v131.2)) (by kernel_rfl) rfl (s_draw_Codes_Value hG hv131) (⟨(scl_cl_u8 _ _), trivial, trivial⟩) (⟨(scl_cl_u8 _ _), trivial, trivial⟩) ⟨Nat.zero_lt_one, trivial, trivial⟩ (sc_TValue_cs _ _) rfl (h' := [.row 58 (TValue.cl v128), .cells 25 [iA 8, sA v5.gKind, sA v5.gName, .sl 4 0 v128.length (.whole 4), .ro .full 0 []], .cells 112 (TDeclared.cs v5), .cells 25 [iA 0, sA ByteArray.empty, sA ByteArray.empty, .ro .full 0 [], .ro .full 0 []], .cells 101 (TCodes.cs v131.2)]) rfl ?_)
                    refine AD_bsl (d := (some 62)) (m := 1) (cs := [iA v131.1.gKind, iA v131.1.gNumber, sA v131.1.gText, .ro .unk v131.1.gList.length (cl_str v131.1.gList)]) (by kernel_rfl) ⟨trivial, trivial, trivial, (scl_cl_str _ _), trivial⟩ ?_
                    refine AD_append (d := (some 63)) (c := TValue.cs) (sz := 4) (bs := 56) (e := 58) (id := 4) (xs := v128) (ys := [v131.1]) (by kernel_rfl) rfl (eq_TValue_cl _) rfl (eq_TValue_cl _) (fun _ => rfl) (by kernel_rfl) (by kernel_rfl) hv132 (eq_TValue_cl _) (by kernel_rfl) (h' := [.row 58 (TValue.cl v132), .dead, .cells 25 [iA 8, sA v5.gKind, sA v5.gName, .sl 4 0 v128.length (.whole 4), .ro .full 0 []], .cells 112 (TDeclared.cs v5), .cells 25 [iA 0, sA ByteArray.empty, sA ByteArray.empty, .ro .full 0 [], .ro .full 0 []], .cells 101 (TCodes.cs v131.2)]) rfl ?_
                    refine RD 1 124 [(8, 3), (4, 2), (3, 2), (1, 3), (0, 3)] [(0, .ptr 0 0), (2, .ptr 1 0), (5, .ptr 2 0), (6, .ptr 3 0), (7, iA v125), (56, .ptr 3 3), (57, .sl 4 0 v128.length (.whole 4)), (58, .ptr 0 0), (59, .ptr 2 2), (60, iA v5.gType), (61, .agg (TValue.cs v131.1)), (62, .ro .unk ([v131.1]).length (TValue.cl ([v131.1]))), (63, .sl 5 0 v132.length (.whole 4)), (64, .ptr 3 3)] (AD_store (d := none) (id := 3) (h' := [.row 58 (TValue.cl v132), .dead, .cells 25 [iA 8, sA v5.gKind, sA v5.gName, .sl 5 0 v132.length (.whole 4), .ro .full 0 []], .cells 112 (TDeclared.cs v5), .cells 25 [iA 0, sA ByteArray.empty, sA ByteArray.empty, .ro .full 0 [], .ro .full 0 []], .cells 101 (TCodes.cs v131.2)]) (by kernel_rfl) (by kernel_rfl) ?_)
                    exact AD_here [0, 2, 5, 6, 7] (by kernel_rfl) rfl
                  show AWP _ _ _ _ _ _ _
                  refine AWP_region ?_
                  refine Rh 3 124 [(0, .ptr 0 0), (2, .ptr 1 0), (5, .ptr 2 0), (6, .ptr 3 0), (7, iA (w64 (v125 + 1)))] (AOps_done ?_)
                  exact Exists.intro (w64 (v125 + 1), v131.2.glist, v131.2.gat, v132) (Exists.intro n ⟨by omega, ⟨by omega, H⟩, Norm_trans (Norm_fd (st' := fr 124 [(0, .ptr 0 0), (2, .ptr 1 0), (5, .ptr 2 0), (6, .ptr 3 0), (7, iA (w64 (v125 + 1)))]) (h' := [.row 58 (TValue.cl v132), .dead, .cells 25 [iA 8, sA v5.gKind, sA v5.gName, .sl 5 0 v132.length (.whole 4), .ro .full 0 []], .cells 112 (TDeclared.cs v5), .cells 25 [iA 0, sA ByteArray.empty, sA ByteArray.empty, .ro .full 0 [], .ro .full 0 []], .cells 101 (TCodes.cs v131.2)]) [0, 2, 5, 6, 7] 0 (by kernel_rfl) rfl rfl ⟨(scl_TValue_cl _ _), trivial, ⟨trivial, trivial, trivial, (sc_sl rfl), trivial, trivial⟩, (sc_TDeclared_cs _ _), ⟨trivial, trivial, trivial, trivial, trivial, trivial⟩, ⟨(scl_cl_u8 _ _), trivial, trivial⟩, trivial⟩ (by refine scL_fr ?_; exact ⟨(sc_ptr rfl), (sc_ptr rfl), (sc_ptr rfl), (sc_ptr rfl), trivial, trivial⟩)) (Norm_trans (Norm_move' (st' := fr 124 [(0, .ptr 0 0), (2, .ptr 1 0), (5, .ptr 2 0), (6, .ptr 3 0), (7, iA (w64 (v125 + 1)))]) (h' := [.row 58 (TValue.cl v132), .cells 25 [iA 8, sA v5.gKind, sA v5.gName, .sl 4 0 v132.length (.whole 4), .ro .full 0 []], .cells 112 (TDeclared.cs v5), .cells 25 [iA 0, sA ByteArray.empty, sA ByteArray.empty, .ro .full 0 [], .ro .full 0 []], .cells 101 (TCodes.cs v131.2)]) 4 5 rfl rfl rfl (fun h => by cases h) (by refine toOkL_fr ?_; exact ⟨(toOk_ptr rfl), (toOk_ptr rfl), (toOk_ptr rfl), (toOk_ptr rfl), trivial, trivial⟩) ⟨(on0 (scl_TValue_cl _ _)), trivial, ⟨trivial, trivial, trivial, (toOk_sl rfl), trivial, trivial⟩, ⟨trivial, trivial, trivial, trivial⟩, ⟨trivial, trivial, trivial, trivial, trivial, trivial⟩, ⟨(on0 (scl_cl_u8 _ _)), trivial, trivial⟩, trivial⟩ (by kernel_rfl) (by kernel_rfl)) (Norm_fd [0, 2, 5, 6, 7] 0 (by kernel_rfl) rfl rfl ⟨(scl_TValue_cl _ _), ⟨trivial, trivial, trivial, (sc_sl rfl), trivial, trivial⟩, (sc_TDeclared_cs _ _), ⟨trivial, trivial, trivial, trivial, trivial, trivial⟩, ⟨(scl_cl_u8 _ _), trivial, trivial⟩, trivial⟩ (by refine scL_fr ?_; exact ⟨(sc_ptr rfl), (sc_ptr rfl), (sc_ptr rfl), (sc_ptr rfl), trivial, trivial⟩)))⟩)
                · refine AWP_exit ?_
                  show AWP _ _ _ _ _ _ _
                  refine AWP_reg (R 2 124 [(2, .ptr 1 0)] [.row 58 (TValue.cl v128), .cells 25 [iA 8, sA v5.gKind, sA v5.gName, .sl 4 0 v128.length (.whole 4), .ro .full 0 []], .cells 112 (TDeclared.cs v5), .cells 25 [iA 8, sA v5.gKind, sA v5.gName, .sl 4 0 v128.length (.whole 4), .ro .full 0 []], .cells 101 (TCodes.cs v129.2)] (AOps_done (AWP_ret ?_)))
                  have hr := Option.some.inj H
                  subst hr
                  exact Fin_retn 4 (l := [.agg [iA 8, sA v5.gKind, sA v5.gName, .sl 4 0 v128.length (.whole 4), .ro .full 0 []]]) (h' := [.cells 101 (TCodes.cs v129.2)]) (by kernel_rfl) rfl (Nat.le_of_ble_eq_true rfl) ((by refine Closed_of ?_; exact ⟨⟨(scl_cl_u8 _ _), trivial, trivial⟩, trivial⟩)) (Frz_agg (FrzL_cons (Frz_sc trivial) (FrzL_cons (Frz_sc trivial) (FrzL_cons (Frz_sc trivial) (FrzL_cons (Frz_row (t := 58) (cs := TValue.cl v128) rfl (scl_TValue_cl _ _)) (FrzL_cons (Frz_le (Frz_sc trivial) (AV.le_ro _ _ _)) (FrzL_nil)))))) rfl) ⟨rfl, rfl⟩
            · refine AWP_skip ?_
              show AWP _ _ _ _ _ _ _
              refine AWP_exit ?_
              exact Exists.intro (v75.2.glist, v75.2.gat) ⟨⟨n, by omega, H⟩, Norm_fd [0, 2, 5, 6] 0 (by kernel_rfl) rfl rfl ⟨⟨trivial, trivial, trivial, trivial, trivial, trivial⟩, (sc_TDeclared_cs _ _), ⟨trivial, trivial, trivial, trivial, trivial, trivial⟩, ⟨(scl_cl_u8 _ _), trivial, trivial⟩, trivial⟩ (by refine scL_fr ?_; exact ⟨(sc_ptr rfl), (sc_ptr rfl), (sc_ptr rfl), (sc_ptr rfl), trivial⟩)⟩
          · refine AWP_skip ?_
            show AWP _ _ _ _ _ _ _
            refine AWP_seq (AWP_reg (Rh 2 124 [(0, .ptr 0 0), (2, .ptr 1 0), (5, .ptr 2 0), (6, .ptr 3 0), (33, iA v75.1), (38, bA (v75.1 == 2))] (AOps_done (CD H (fun hb133 H => ?_) (fun hb133 H => ?_)))))
            · refine AWP_exit ?_
              show AWP _ _ _ _ _ _ _
              refine AWP_seq (AWP_reg (Rh 4 124 [(0, .ptr 0 0), (2, .ptr 1 0), (5, .ptr 2 0), (6, .ptr 3 0), (69, bA (v5.gType == 3))] (AOps_run 4 [0, 2, 5, 6, 73] (st' := fr 124 [(0, .ptr 0 0), (2, .ptr 1 0), (5, .ptr 2 0), (6, .ptr 3 0), (73, bA ((v5.gType == 3) || (v5.gType == 5)))]) (h' := [.cells 25 [iA 0, sA v5.gKind, sA v5.gName, .ro .full 0 [], .ro .full 0 []], .cells 112 (TDeclared.cs v5), .cells 25 [iA 0, sA ByteArray.empty, sA ByteArray.empty, .ro .full 0 [], .ro .full 0 []], .cells 101 (TCodes.cs v75.2)]) (by (generalize (v5.gType == 3) = t0; cases t0 <;> kernel_rfl)) ?_)))
              refine AOps_done (CD H (fun hb134 H => ?_) (fun hb134 H => ?_))
              · refine AWP_reg (R 2 124 [(0, .ptr 0 0), (2, .ptr 1 0), (6, .ptr 3 0)] [.cells 25 [iA 11, sA v5.gKind, sA v5.gName, .ro .full 0 [], .ro .full 0 []], .cells 112 (TDeclared.cs v5), .cells 25 [iA 0, sA ByteArray.empty, sA ByteArray.empty, .ro .full 0 [], .ro .full 0 []], .cells 101 (TCodes.cs v75.2)] (AOps_done (AWP_reg (Rh 1 124 [(2, .ptr 1 0), (6, .ptr 3 0), (75, .ptr 0 0)] ?_))))
                obtain ⟨v135, hv135, H⟩ := bind_some H
                refine AOps_call1 (d := (some 76)) (al := [.ptr 0 0, iA 3]) ([.ptr 0 0, iA 3]) (r := .agg (TValue.cs v135.1)) (j := 0) (b' := .cells 101 (TCodes.cs v135.2)) (by kernel_rfl) rfl (s_draw_Codes_Value hG hv135) (⟨(scl_cl_u8 _ _), trivial, trivial⟩) (⟨(scl_cl_u8 _ _), trivial, trivial⟩) ⟨Nat.zero_lt_one, trivial, trivial⟩ (sc_TValue_cs _ _) rfl (h' := [.cells 25 [iA 11, sA v5.gKind, sA v5.gName, .ro .full 0 [], .ro .full 0 []], .cells 112 (TDeclared.cs v5), .cells 25 [iA 0, sA ByteArray.empty, sA ByteArray.empty, .ro .full 0 [], .ro .full 0 []], .cells 101 (TCodes.cs v135.2)]) rfl ?_
                refine AOps_bsl (d := (some 77)) (m := 1) (cs := [iA v135.1.gKind, iA v135.1.gNumber, sA v135.1.gText, .ro .unk v135.1.gList.length (cl_str v135.1.gList)]) (by kernel_rfl) ⟨trivial, trivial, trivial, (scl_cl_str _ _), trivial⟩ ?_
                refine R 2 124 [(2, .ptr 1 0), (6, .ptr 3 0)] [.cells 25 [iA 11, sA v5.gKind, sA v5.gName, .ro .unk ([v135.1]).length (TValue.cl ([v135.1])), .ro .full 0 []], .cells 112 (TDeclared.cs v5), .cells 25 [iA 0, sA ByteArray.empty, sA ByteArray.empty, .ro .full 0 [], .ro .full 0 []], .cells 101 (TCodes.cs v135.2)] (AOps_done (AWP_reg (R 2 124 [(2, .ptr 1 0)] [.cells 25 [iA 11, sA v5.gKind, sA v5.gName, .ro .unk ([v135.1]).length (TValue.cl ([v135.1])), .ro .full 0 []], .cells 112 (TDeclared.cs v5), .cells 25 [iA 11, sA v5.gKind, sA v5.gName, .ro .unk ([v135.1]).length (TValue.cl ([v135.1])), .ro .full 0 []], .cells 101 (TCodes.cs v135.2)] (AOps_done (AWP_ret ?_)))))
                have hr := Option.some.inj H
                subst hr
                exact Fin_retn 3 (l := [.agg [iA 11, sA v5.gKind, sA v5.gName, .ro .unk ([v135.1]).length (TValue.cl ([v135.1])), .ro .full 0 []]]) (h' := [.cells 101 (TCodes.cs v135.2)]) (by kernel_rfl) rfl (Nat.le_of_ble_eq_true rfl) ((by refine Closed_of ?_; exact ⟨⟨(scl_cl_u8 _ _), trivial, trivial⟩, trivial⟩)) (Frz_agg (FrzL_cons (Frz_sc trivial) (FrzL_cons (Frz_sc trivial) (FrzL_cons (Frz_sc trivial) (FrzL_cons (Frz_sc (scl_TValue_cl _ _)) (FrzL_cons (Frz_le (Frz_sc trivial) (AV.le_ro _ _ _)) (FrzL_nil)))))) rfl) ⟨rfl, rfl⟩
              · refine AWP_skip ?_
                show AWP _ _ _ _ _ _ _
                refine AWP_exit ?_
                exact Exists.intro (v75.2.glist, v75.2.gat) ⟨⟨n, by omega, H⟩, Norm_fd [0, 2, 5, 6] 0 (by kernel_rfl) rfl rfl ⟨⟨trivial, trivial, trivial, trivial, trivial, trivial⟩, (sc_TDeclared_cs _ _), ⟨trivial, trivial, trivial, trivial, trivial, trivial⟩, ⟨(scl_cl_u8 _ _), trivial, trivial⟩, trivial⟩ (by refine scL_fr ?_; exact ⟨(sc_ptr rfl), (sc_ptr rfl), (sc_ptr rfl), (sc_ptr rfl), trivial⟩)⟩
            · refine AWP_skip ?_
              show AWP _ _ _ _ _ _ _
              refine AWP_seq (AWP_reg (Rh 2 124 [(0, .ptr 0 0), (2, .ptr 1 0), (5, .ptr 2 0), (6, .ptr 3 0), (33, iA v75.1), (40, bA (v75.1 == 3))] (AOps_done (CD H (fun hb136 H => ?_) (fun hb136 H => ?_)))))
              · refine AWP_exit ?_
                show AWP _ _ _ _ _ _ _
                refine AWP_reg (Rh 3 124 [(0, .ptr 0 0), (2, .ptr 1 0), (5, .ptr 2 0), (6, .ptr 3 0), (82, bA (v5.gType == 3))] (AOps_done (CD H (fun hb137 H => ?_) (fun hb137 H => ?_))))
                · refine AWP_reg (Rh 1 124 [(0, .ptr 0 0), (2, .ptr 1 0), (6, .ptr 3 0), (83, .ptr 0 0)] ?_)
                  obtain ⟨v138, hv138, H⟩ := bind_some H
                  refine AOps_call1 (d := (some 84)) (al := [.ptr 0 0, iA 2]) ([.ptr 0 0, iA 2]) (r := iA v138.1) (j := 0) (b' := .cells 101 (TCodes.cs v138.2)) (by kernel_rfl) rfl (s_draw_Codes_Next hv138) (⟨(scl_cl_u8 _ _), trivial, trivial⟩) (⟨(scl_cl_u8 _ _), trivial, trivial⟩) ⟨Nat.zero_lt_one, trivial, trivial⟩ trivial rfl (h' := [.cells 25 [iA 0, sA v5.gKind, sA v5.gName, .ro .full 0 [], .ro .full 0 []], .cells 112 (TDeclared.cs v5), .cells 25 [iA 0, sA ByteArray.empty, sA ByteArray.empty, .ro .full 0 [], .ro .full 0 []], .cells 101 (TCodes.cs v138.2)]) rfl ?_
                  refine R 3 124 [(0, .ptr 0 0), (2, .ptr 1 0), (6, .ptr 3 0)] [.cells 25 [iA (w64 (9 + v138.1)), sA v5.gKind, sA v5.gName, .ro .full 0 [], .ro .full 0 []], .cells 112 (TDeclared.cs v5), .cells 25 [iA 0, sA ByteArray.empty, sA ByteArray.empty, .ro .full 0 [], .ro .full 0 []], .cells 101 (TCodes.cs v138.2)] (AOps_done (AWP_reg (Rh 1 124 [(2, .ptr 1 0), (6, .ptr 3 0), (87, .ptr 0 0)] ?_)))
                  obtain ⟨v139, hv139, H⟩ := bind_some H
                  refine AOps_call1 (d := (some 88)) (al := [.ptr 0 0, iA 3]) ([.ptr 0 0, iA 3]) (r := .agg (TValue.cs v139.1)) (j := 0) (b' := .cells 101 (TCodes.cs v139.2)) (by kernel_rfl) rfl (s_draw_Codes_Value hG hv139) (⟨(scl_cl_u8 _ _), trivial, trivial⟩) (⟨(scl_cl_u8 _ _), trivial, trivial⟩) ⟨Nat.zero_lt_one, trivial, trivial⟩ (sc_TValue_cs _ _) rfl (h' := [.cells 25 [iA (w64 (9 + v138.1)), sA v5.gKind, sA v5.gName, .ro .full 0 [], .ro .full 0 []], .cells 112 (TDeclared.cs v5), .cells 25 [iA 0, sA ByteArray.empty, sA ByteArray.empty, .ro .full 0 [], .ro .full 0 []], .cells 101 (TCodes.cs v139.2)]) rfl ?_
                  refine AOps_bsl (d := (some 89)) (m := 1) (cs := [iA v139.1.gKind, iA v139.1.gNumber, sA v139.1.gText, .ro .unk v139.1.gList.length (cl_str v139.1.gList)]) (by kernel_rfl) ⟨trivial, trivial, trivial, (scl_cl_str _ _), trivial⟩ ?_
                  refine R 2 124 [(2, .ptr 1 0), (6, .ptr 3 0)] [.cells 25 [iA (w64 (9 + v138.1)), sA v5.gKind, sA v5.gName, .ro .unk ([v139.1]).length (TValue.cl ([v139.1])), .ro .full 0 []], .cells 112 (TDeclared.cs v5), .cells 25 [iA 0, sA ByteArray.empty, sA ByteArray.empty, .ro .full 0 [], .ro .full 0 []], .cells 101 (TCodes.cs v139.2)] (AOps_done (AWP_reg (R 2 124 [(2, .ptr 1 0)] [.cells 25 [iA (w64 (9 + v138.1)), sA v5.gKind, sA v5.gName, .ro .unk ([v139.1]).length (TValue.cl ([v139.1])), .ro .full 0 []], .cells 112 (TDeclared.cs v5), .cells 25 [iA (w64 (9 + v138.1)), sA v5.gKind, sA v5.gName, .ro .unk ([v139.1]).length (TValue.cl ([v139.1])), .ro .full 0 []], .cells 101 (TCodes.cs v139.2)] (AOps_done (AWP_ret ?_)))))
                  have hr := Option.some.inj H
                  subst hr
                  exact Fin_retn 3 (l := [.agg [iA (w64 (9 + v138.1)), sA v5.gKind, sA v5.gName, .ro .unk ([v139.1]).length (TValue.cl ([v139.1])), .ro .full 0 []]]) (h' := [.cells 101 (TCodes.cs v139.2)]) (by kernel_rfl) rfl (Nat.le_of_ble_eq_true rfl) ((by refine Closed_of ?_; exact ⟨⟨(scl_cl_u8 _ _), trivial, trivial⟩, trivial⟩)) (Frz_agg (FrzL_cons (Frz_sc trivial) (FrzL_cons (Frz_sc trivial) (FrzL_cons (Frz_sc trivial) (FrzL_cons (Frz_sc (scl_TValue_cl _ _)) (FrzL_cons (Frz_le (Frz_sc trivial) (AV.le_ro _ _ _)) (FrzL_nil)))))) rfl) ⟨rfl, rfl⟩
                · refine AWP_skip ?_
                  exact Exists.intro () ⟨⟨n, by omega, H⟩, Norm_fd [0, 2, 5, 6] 0 (by kernel_rfl) rfl rfl ⟨⟨trivial, trivial, trivial, trivial, trivial, trivial⟩, (sc_TDeclared_cs _ _), ⟨trivial, trivial, trivial, trivial, trivial, trivial⟩, ⟨(scl_cl_u8 _ _), trivial, trivial⟩, trivial⟩ (by refine scL_fr ?_; exact ⟨(sc_ptr rfl), (sc_ptr rfl), (sc_ptr rfl), (sc_ptr rfl), trivial⟩)⟩
              · refine AWP_skip ?_
                show AWP _ _ _ _ _ _ _
                refine AWP_reg (Rh 2 124 [(0, .ptr 0 0), (2, .ptr 1 0), (5, .ptr 2 0), (6, .ptr 3 0), (42, bA (v75.1 == 4))] (AOps_done (CD H (fun hb140 H => ?_) (fun hb140 H => ?_))))
                · refine AWP_exit ?_
                  exact Exists.intro () ⟨⟨n, by omega, H⟩, Norm_fd [0, 2, 5, 6] 0 (by kernel_rfl) rfl rfl ⟨⟨trivial, trivial, trivial, trivial, trivial, trivial⟩, (sc_TDeclared_cs _ _), ⟨trivial, trivial, trivial, trivial, trivial, trivial⟩, ⟨(scl_cl_u8 _ _), trivial, trivial⟩, trivial⟩ (by refine scL_fr ?_; exact ⟨(sc_ptr rfl), (sc_ptr rfl), (sc_ptr rfl), (sc_ptr rfl), trivial⟩)⟩
                · refine AWP_skip ?_
                  show AWP _ _ _ _ _ _ _
                  refine AWP_exit ?_
                  exact Exists.intro (v75.2.glist, v75.2.gat) ⟨⟨n, by omega, H⟩, Norm_fd [0, 2, 5, 6] 0 (by kernel_rfl) rfl rfl ⟨⟨trivial, trivial, trivial, trivial, trivial, trivial⟩, (sc_TDeclared_cs _ _), ⟨trivial, trivial, trivial, trivial, trivial, trivial⟩, ⟨(scl_cl_u8 _ _), trivial, trivial⟩, trivial⟩ (by refine scL_fr ?_; exact ⟨(sc_ptr rfl), (sc_ptr rfl), (sc_ptr rfl), (sc_ptr rfl), trivial⟩)⟩
end Go.Proofs.YtjhbobacbaikoaaGreatDoor
/- Drawn tests are well-formed parts. -/
namespace Go.Proofs.YtjhbobacbaikoaaGreatDoor
open Go
set_option linter.unusedVariables false
set_option linter.unusedSimpArgs false
set_option maxRecDepth 100000
/-! ## a part that is well-formed -/
theorem part_loop2 (x : TExpr) (hl : x.gValues.length ≤ 20) (hv : ∀ v ∈ x.gValues, Al fun n => p_value_Check n v = some 0) (ht : x.gOp = 9 ∨ x.gOp = 10 ∨ x.gOp = 11 → ∃ v, x.gValues[0]? = some v ∧ v.gKind = 3) : Al fun n => p_shape_part_L2 n x 0 = some 0 := by
  refine loop1 (fun n i => p_shape_part_L2 n x i) x.gValues.length (fun _ => 0) (fun i hi => ?_) ?_ 0 (by omega)
  · have hd : decide ((i : Int) < lI x.gValues) = true := decide_eq_true (by unfold lI; omega)
    refine (hv _ (List.getElem_mem hi)).mono fun n a => .inr ⟨?_, rfl⟩
    rw [p_shape_part_L2, hd]
    simp only [cond_true, rdO_nat hi, Option.bind_some, a, bne_self_eq_false, cond_false, w64_add (show i + 1 < 9223372036854775808 by omega)]
  · have hd : decide (((x.gValues.length : Nat) : Int) < lI x.gValues) = false := decide_eq_false (by unfold lI; omega)
    refine .of fun n => ?_
    rw [p_shape_part_L2, hd]
    cases hc : (((x.gOp == 9) || (x.gOp == 10)) || (x.gOp == 11)) with
    | true =>
      obtain ⟨v, h0, h3⟩ := ht (by simpa [or_assoc] using hc)
      have h0l : 0 < x.gValues.length := (List.getElem?_eq_some_iff.1 h0).1
      have hr : rdO x.gValues 0 = some v := (rdO_nat (xs := x.gValues) (i := 0) h0l).trans ((List.getElem?_eq_getElem h0l).symm.trans h0)
      simp only [cond_false, cond_true, hr, Option.bind_some, when_eq, Bool.true_and, h3]
      rfl
    | false =>
      simp only [cond_false, Option.bind_some, when_eq, Bool.false_and]
      rfl
theorem part_ok (x : TExpr) (hop : 1 ≤ x.gOp ∧ x.gOp ≤ 15) (hs : ∀ n, p_shape_shape n x = some true) (hk : x.gKids.length ≤ 12) (hl : x.gValues.length ≤ 20) (hne : x.gOp = 2 ∨ x.gOp = 3 → ∀ k ∈ x.gKids, k.gOp ≠ x.gOp)
    (hkey : 6 ≤ x.gOp → Al fun n => p_text_Key n x.gKind = some true) (hname : 5 ≤ x.gOp → Al fun n => p_text_Key n x.gName = some true)
    (hv : ∀ v ∈ x.gValues, Al fun n => p_value_Check n v = some 0) (ht : x.gOp = 9 ∨ x.gOp = 10 ∨ x.gOp = 11 → ∃ v, x.gValues[0]? = some v ∧ v.gKind = 3) : Al fun n => p_shape_part n x 0 = some 0 := by
  have h2 := part_loop2 x hl hv ht
  have e0 : (decide (x.gOp < 1) || decide (x.gOp > 15)) = false := by simp; omega
  have e1 : (decide (lI x.gKids > 12) || decide (lI x.gValues > 20)) = false := by unfold lI; simp; omega
  have h1 : Al fun n => p_shape_part_L1 n x 0 = some 0 := by
    refine loop1 (fun n i => p_shape_part_L1 n x i) x.gKids.length (fun _ => 0) (fun i hi => ?_) ?_ 0 (by omega)
    · have hd : decide ((i : Int) < lI x.gKids) = true := decide_eq_true (by unfold lI; omega)
      refine .of fun n => .inr ⟨?_, rfl⟩
      rw [p_shape_part_L1, hd]
      have hc : (x.gKids[i].gOp == x.gOp && (x.gOp == 2 || x.gOp == 3)) = false := by
        by_cases h : x.gOp = 2 ∨ x.gOp = 3
        · rw [beq_eq_false_iff_ne.2 (hne h _ (List.getElem_mem hi))]; rfl
        · rw [beq_eq_false_iff_ne.2 (show x.gOp ≠ 2 by omega), beq_eq_false_iff_ne.2 (show x.gOp ≠ 3 by omega)]; simp
      simp only [cond_true, rdO_nat hi, Option.bind_some, hc, cond_false, w64_add (show i + 1 < 9223372036854775808 by omega)]
    · have hd : decide (((x.gKids.length : Nat) : Int) < lI x.gKids) = false := decide_eq_false (by unfold lI; omega)
      have ht : ∀ n, p_shape_test n x.gOp = some (decide (x.gOp ≥ 6) && decide (x.gOp ≤ 15)) := fun n => rfl
      by_cases h6 : 6 ≤ x.gOp
      · refine (h2.and ((hkey h6).and (hname (by omega)))).mono fun n ⟨a, b, c⟩ => ?_
        rw [p_shape_part_L1, hd]
        simp only [cond_false, ht, decide_eq_true (show x.gOp ≥ 6 from h6), decide_eq_true hop.2, Bool.and_self, Option.bind_some, cond_true, b, c, Bool.not_true, Bool.and_false, Bool.not_false, Bool.true_and, Bool.true_or, Bool.or_self, a]
      · by_cases h5 : x.gOp = 5
        · refine (h2.and (hname (by omega))).mono fun n ⟨a, c⟩ => ?_
          rw [p_shape_part_L1, hd]
          have ht5 : ∀ n, p_shape_test n 5 = some false := fun n => rfl
          simp only [cond_false, h5, ht5, Bool.false_and, Option.bind_some, Bool.not_false, cond_true, beq_self_eq_true, Bool.true_and, Bool.false_or, c, Bool.not_true, a]
        · refine h2.mono fun n a => ?_
          rw [p_shape_part_L1, hd]
          simp only [cond_false, ht, decide_eq_false (show ¬ x.gOp ≥ 6 by omega), Bool.false_and, Option.bind_some, Bool.not_false, cond_true, beq_eq_false_iff_ne.2 h5, Bool.true_and, Bool.false_or, Bool.not_true, a, Bool.or_self]
  refine h1.mono fun n a => ?_
  unfold p_shape_part
  rw [e0, hs]
  simp only [decide_eq_false (show ¬ (0 : Int) ≥ 10 by decide), cond_false, Option.bind_some, Bool.not_true, e1, a]
/-! ## tests -/
def dkinds : List ByteArray := [⟨#[100, 101, 118, 105, 99, 101]⟩, ⟨#[117, 115, 101, 114]⟩]
def dnames : List ByteArray := [⟨#[99, 111, 114, 101, 115]⟩, ⟨#[111, 115]⟩, ⟨#[97, 103, 101]⟩, ⟨#[97, 112, 112]⟩, ⟨#[98, 101, 116, 97]⟩, ⟨#[99, 111, 117, 110, 116, 114, 121]⟩, ⟨#[112, 108, 97, 110]⟩, ⟨#[116, 97, 103, 115]⟩, ⟨#[107, 101, 121]⟩]
theorem words_key (n : Nat) : ∀ w ∈ dkinds ++ dnames, p_text_Key (n + 60) w = some true := by
  have h : ((dkinds ++ dnames).all fun w => p_text_Key (n + 60) w == some true) = true := by kernel_rfl
  intro w hw
  exact beq_iff_eq.1 (List.all_eq_true.1 h w hw)
theorem words_size : ∀ w ∈ dkinds ++ dnames, w.size ≤ 40 := by decide
structure TestG (x : TExpr) : Prop where
  kids : x.gKids = []
  op6 : 6 ≤ x.gOp
  op15 : x.gOp ≤ 15
  kind : x.gKind ∈ dkinds
  name : x.gName ∈ dnames
  vals : ∀ v ∈ x.gValues, v ∈ goodV
  len : x.gValues.length ≤ 10
  len6 : x.gOp = 6 → x.gValues = []
  len8 : x.gOp = 8 → 0 < x.gValues.length
  len1 : x.gOp ≠ 6 → x.gOp ≠ 8 → x.gValues.length = 1
  text : x.gOp = 9 ∨ x.gOp = 10 ∨ x.gOp = 11 → ∃ v, x.gValues[0]? = some v ∧ v.gKind = 3
theorem test_shape {x : TExpr} (h : TestG x) (n : Nat) : p_shape_shape n x = some true := by
  have e1 : (x.gOp == 2) = false := beq_eq_false_iff_ne.2 (by have := h.op6; omega)
  have e2 : (x.gOp == 3) = false := beq_eq_false_iff_ne.2 (by have := h.op6; omega)
  have e3 : (x.gOp == 4) = false := beq_eq_false_iff_ne.2 (by have := h.op6; omega)
  have e4 : decide (lI x.gKids > 0) = false := by rw [h.kids]; rfl
  have e5 : decide (x.gOp ≥ 6) = true := decide_eq_true h.op6
  have e6 : decide (x.gOp ≤ 15) = true := decide_eq_true h.op15
  unfold p_shape_shape p_shape_shape_K1 p_shape_test
  rw [e1, e2, e3, e4, e5, e6]
  simp only [Bool.or_self, cond_false, Bool.and_self, Option.bind_some, Bool.not_true, Bool.false_and, Bool.true_and]
  by_cases h8 : x.gOp = 8
  · rw [h8]; simp only [beq_self_eq_true, cond_true]
    rw [decide_eq_true (show lI x.gValues > 0 by unfold lI; have := h.len8 h8; omega)]
  · rw [beq_eq_false_iff_ne.2 h8]
    by_cases h6 : x.gOp = 6
    · rw [h6, h.len6 h6]; rfl
    · have := h.len1 h6 h8
      have e7 : (x.gOp != 6) = true := by rw [bne_iff_ne]; exact h6
      rw [e7]
      have : (lI x.gValues == 1) = true := by rw [beq_iff_eq]; unfold lI; omega
      rw [this]; rfl
theorem test_part {x : TExpr} (h : TestG x) : Al fun n => p_shape_part n x 0 = some 0 := by
  refine part_ok x ⟨by have := h.op6; omega, h.op15⟩ (test_shape h) (by rw [h.kids]; decide) (by have := h.len; omega) (fun hk => by have := h.op6; omega)
    (fun _ => Al.addk 60 fun n => words_key n _ (List.mem_append_left _ h.kind)) (fun _ => Al.addk 60 fun n => words_key n _ (List.mem_append_right _ h.name)) (fun v hv => Al.addk 60 fun n => good_check n v (h.vals v hv)) h.text
section
variable {c : TCodes} (hc : c.cok)
 include hc
def decl8 : List TDeclared := [⟨⟨#[100, 101, 118, 105, 99, 101]⟩, ⟨#[99, 111, 114, 101, 115]⟩, 2⟩, ⟨⟨#[100, 101, 118, 105, 99, 101]⟩, ⟨#[111, 115]⟩, 3⟩, ⟨⟨#[117, 115, 101, 114]⟩, ⟨#[97, 103, 101]⟩, 2⟩, ⟨⟨#[117, 115, 101, 114]⟩, ⟨#[97, 112, 112]⟩, 4⟩, ⟨⟨#[117, 115, 101, 114]⟩, ⟨#[98, 101, 116, 97]⟩, 1⟩, ⟨⟨#[117, 115, 101, 114]⟩, ⟨#[99, 111, 117, 110, 116, 114, 121]⟩, 3⟩, ⟨⟨#[117, 115, 101, 114]⟩, ⟨#[112, 108, 97, 110]⟩, 3⟩, ⟨⟨#[117, 115, 101, 114]⟩, ⟨#[116, 97, 103, 115]⟩, 5⟩]
 omit hc in
theorem declared_eq (n : Nat) : p_draw_Declared n = some decl8 := rfl
def DeclG (d : TDeclared) : Prop := d.gKind ∈ dkinds ∧ d.gName ∈ dnames ∧ 1 ≤ d.gType ∧ d.gType ≤ 5
 omit hc in
theorem decl8_good : ∀ d ∈ decl8, DeclG d := by
  intro d hd
  simp only [decl8, List.mem_cons, List.not_mem_nil, or_false] at hd
  rcases hd with rfl | rfl | rfl | rfl | rfl | rfl | rfl | rfl <;> exact ⟨by simp [dkinds], by simp [dnames], by decide, by decide⟩
 omit hc in
theorem good_of {v : TValue} (h : v ∈ drawnV) : v ∈ goodV := List.mem_append_left _ h
theorem test1_gv {d : TDeclared} (hd : DeclG d) (op : Int) (h6 : 6 < op) (h15 : op ≤ 15) (h8 : op ≠ 8) (h9 : op < 9 ∨ 11 < op) : Gv (fun n => (p_draw_Codes_Value n c d.gType).bind fun v => some ((TExpr.mk op d.gKind d.gName ([v.1]) ([])), v.2)) fun r => TestG r.1 ∧ r.2.cok := by
  refine Gv.bind (value_gv hc _ hd.2.2) fun v hv => Gv.pure ⟨⟨rfl, by show 6 ≤ op; omega, h15, hd.1, hd.2.1, ?_, by show 1 ≤ 10; omega, fun h => ?_, fun h => absurd h h8, fun _ _ => rfl, fun h => ?_⟩, hv.2⟩
  · intro w hw
    obtain rfl : w = v.1 := by simpa [TExpr.gValues] using hw
    exact good_of hv.1.1
  · have h : op = 6 := h
    omega
  · have h : op = 9 ∨ op = 10 ∨ op = 11 := h
    omega
theorem test3_gv {d : TDeclared} (hd : DeclG d) (op : Int) (h6 : 9 ≤ op) (h15 : op ≤ 11) : Gv (fun n => (p_draw_Codes_Value n c 3).bind fun v => some ((TExpr.mk op d.gKind d.gName ([v.1]) ([])), v.2)) fun r => TestG r.1 ∧ r.2.cok := by
  refine Gv.bind (value_gv hc 3 (by decide)) fun v hv => Gv.pure ⟨⟨rfl, by show 6 ≤ op; omega, by show op ≤ 15; omega, hd.1, hd.2.1, ?_, by show 1 ≤ 10; omega, fun h => ?_, fun h => ?_, fun _ _ => rfl, fun h => ⟨v.1, rfl, hv.1.2⟩⟩, hv.2⟩
  · intro w hw
    obtain rfl : w = v.1 := by simpa [TExpr.gValues] using hw
    exact good_of hv.1.1
  · have h : op = 6 := h
    omega
  · have h : op = 8 := h
    omega
theorem test_K1 {d : TDeclared} (hd : DeclG d) : Gv (fun n => p_draw_Codes_Test_K1 n d c.glist c.gat) fun r => TestG r.1 ∧ r.2.cok := by
  unfold p_draw_Codes_Test_K1
  exact test1_gv hc hd 7 (by decide) (by decide) (by decide) (by decide)
 omit hc in
theorem test_L1 {d : TDeclared} (hd : DeclG d) : ∀ (q i : Nat) (c : TCodes) (l : List TValue), i + q = 3 → c.cok → l.length = i → (∀ v ∈ l, v ∈ goodV) → Gv (fun n => p_draw_Codes_Test_L1 n d i c.glist c.gat l) fun r => TestG r.1 ∧ r.2.cok := by
  intro q
  induction q with
  | zero =>
    intro i c l hi hc hl hv
    refine Gv.succ ?_
    simp only [p_draw_Codes_Test_L1]
    refine Gv.bind (next_gv hc (k := 3) (by decide) (by decide)) fun r hr => Gv.cond (fun h => ?_) fun h => ?_
    · have h := of_decide_eq_true h
      omega
    · exact Gv.pure ⟨⟨rfl, by show (6 : Int) ≤ 8; omega, by show (8 : Int) ≤ 15; omega, hd.1, hd.2.1, hv, by show l.length ≤ 10; omega, fun h => (by cases h), fun _ => by show 0 < l.length; omega, fun _ h => absurd rfl h, fun h => (by rcases h with h | h | h <;> cases h)⟩, hr.2.2⟩
  | succ q ih =>
    intro i c l hi hc hl hv
    refine Gv.succ ?_
    simp only [p_draw_Codes_Test_L1]
    refine Gv.bind (next_gv hc (k := 3) (by decide) (by decide)) fun r hr => Gv.cond (fun h => ?_) fun h => ?_
    · refine Gv.bind (value_gv hr.2.2 _ hd.2.2) fun v hvv => ?_
      refine Gv.bind (Gv.app (Q := fun m => m = l ++ [v.1]) (by simp; omega) (by decide) rfl) ?_
      rintro m rfl
      rw [w64_add (by omega)]
      refine ih (i + 1) v.2 (l ++ [v.1]) (by omega) hvv.2 (by simp; omega) fun w hw => ?_
      rcases List.mem_append.1 hw with hw | hw
      · exact hv w hw
      · obtain rfl : w = v.1 := by simpa using hw
        exact good_of hvv.1.1
    · have h := of_decide_eq_false h
      exact Gv.pure ⟨⟨rfl, by show (6 : Int) ≤ 8; omega, by show (8 : Int) ≤ 15; omega, hd.1, hd.2.1, hv, by show l.length ≤ 10; omega, fun h => (by cases h), fun _ => by show 0 < l.length; omega, fun _ h => absurd rfl h, fun h => (by rcases h with h | h | h <;> cases h)⟩, hr.2.2⟩
theorem test_K2 {d : TDeclared} (hd : DeclG d) (x : Int) : Gv (fun n => p_draw_Codes_Test_K2 n d (x, c)) fun r => TestG r.1 ∧ r.2.cok := by
  unfold p_draw_Codes_Test_K2
  refine Gv.cond (fun _ => ?_) fun _ => test_K1 hc hd
  refine Gv.bind (next_gv hc (k := 4) (by decide) (by decide)) fun r hr => ?_
  rw [w64_of (by omega) (by omega)]
  exact test1_gv hr.2.2 hd _ (by omega) (by omega) (by omega) (by omega)
theorem test_gv : Gv (fun n => p_draw_Codes_Test n c) fun r => TestG r.1 ∧ r.2.cok := by
  unfold p_draw_Codes_Test
  simp only [declared_eq, Option.bind_some]
  have hl : lI decl8 = 8 := rfl
  rw [hl]
  refine Gv.bind (next_gv hc (k := 9) (by decide) (by decide)) fun r hr => Gv.cond (fun h => ?_) fun h => ?_
  · refine Gv.bind (key_gv hr.2.2) fun k hk => Gv.pure ⟨⟨rfl, (by show (6 : Int) ≤ 7; decide), (by show (7 : Int) ≤ 15; decide), by simp [dkinds, TExpr.gKind], by simp [dnames, TExpr.gName], ?_, (by show 1 ≤ 10; decide), fun h => (by cases h), fun h => (by cases h), fun _ _ => rfl, fun h => (by rcases h with h | h | h <;> cases h)⟩, hk.2⟩
    intro w hw
    obtain rfl : w = vT 3 k.1 := by simpa [TExpr.gValues, vT] using hw
    exact List.mem_append_right _ (List.mem_map_of_mem hk.1)
  · have hne := beq_eq_false_iff_ne.1 h
    refine Gv.bind (Gv.rd (Q := DeclG) hr.1 (by have : decl8.length = 8 := rfl; omega) decl8_good) fun d hd => ?_
    refine Gv.bind (next_gv hr.2.2 (k := 5) (by decide) (by decide)) fun s hs => ?_
    have hK1 := test_K1 hs.2.2 hd
    have hK2 := test_K2 hs.2.2 hd s.1
    refine Gv.cond (fun _ => ?_) fun _ => Gv.cond (fun _ => Gv.cond (fun _ => ?_) fun _ => hK1) fun _ => Gv.cond (fun _ => Gv.cond (fun _ => ?_) fun _ => hK1) fun _ => Gv.cond (fun _ => Gv.cond (fun _ => ?_) fun _ => hK2) fun _ => Gv.cond (fun _ => hK2) fun _ => hK1
    · exact Gv.pure ⟨⟨rfl, (by show (6 : Int) ≤ 6; decide), (by show (6 : Int) ≤ 15; decide), hd.1, hd.2.1, fun v hv => (by cases hv), (by show 0 ≤ 10; decide), fun _ => rfl, fun h => (by cases h), fun h => absurd rfl h, fun h => (by rcases h with h | h | h <;> cases h)⟩, hs.2.2⟩
    · exact test_L1 hd 3 0 s.2 [] rfl hs.2.2 rfl (fun v hv => by cases hv)
    · exact test3_gv hs.2.2 hd 11 (by decide) (by decide)
    · refine Gv.bind (next_gv hs.2.2 (k := 2) (by decide) (by decide)) fun q hq => ?_
      rw [w64_of (by omega) (by omega)]
      exact test3_gv hq.2.2 hd _ (by omega) (by omega)
end
end Go.Proofs.YtjhbobacbaikoaaGreatDoor
/- A function of the program as a pure function, and that the program computes it. -/
namespace Go.Proofs.YtjhbobacbaikoaaGreatDoor
open Go
set_option linter.unusedVariables false
set_option linter.unusedSimpArgs false
set_option maxRecDepth 100000
def p_draw_Codes_Expr_K2 (n : Nat) (v1 : Int × TCodes) : Option (TExpr × TCodes) :=
(p_draw_Codes_Test n v1.2).bind fun v55 =>
 some (v55.1, v55.2)
mutual
def p_draw_Codes_Expr_K4 (n : Nat) (self_p_draw_Codes_Expr : TCodes → (List ByteArray) → Int → Option (TExpr × TCodes)) (x1 : List ByteArray) (x2 : Int) (v66 : Int × TCodes) (v67 : Int × TCodes) (v92 : Int) (v95 : List TExpr) (v97 : TExpr × TCodes) (v99 : Int) (v100 : ByteArray) (v101 : ByteArray) (v102 : List TValue) (v103 : List TExpr) : Option (TExpr × TCodes) := match n with
| 0 => none
| n + 1 =>
(appO 88 v95 ([(TExpr.mk v99 v100 v101 v102 v103)])).bind fun v104 =>
 p_draw_Codes_Expr_L1 n self_p_draw_Codes_Expr x1 x2 v66 v67 (w64 (v92 + 1)) v97.2.glist v97.2.gat v104
def p_draw_Codes_Expr_L1 (n : Nat) (self_p_draw_Codes_Expr : TCodes → (List ByteArray) → Int → Option (TExpr × TCodes)) (x1 : List ByteArray) (x2 : Int) (v66 : Int × TCodes) (v67 : Int × TCodes) (v92 : Int) (v93 : List Int) (v94 : Int) (v95 : List TExpr) : Option (TExpr × TCodes) := match n with
| 0 => none
| n + 1 =>
(bif decide (v92 < (w64 (2 + v67.1))) then
(self_p_draw_Codes_Expr ({ glist := v93, gat := v94 } : TCodes) x1 (w64 (x2 - 1))).bind fun v97 =>
(bif v97.1.gOp == (w64 (2 + v66.1)) then
 p_draw_Codes_Expr_K4 n self_p_draw_Codes_Expr x1 x2 v66 v67 v92 v95 v97 4 ByteArray.empty ByteArray.empty ([]) ([v97.1])
 else
 p_draw_Codes_Expr_K4 n self_p_draw_Codes_Expr x1 x2 v66 v67 v92 v95 v97 v97.1.gOp v97.1.gKind v97.1.gName v97.1.gValues v97.1.gKids)
 else
 some ((TExpr.mk (w64 (2 + v66.1)) ByteArray.empty ByteArray.empty ([]) v95), ({ glist := v93, gat := v94 } : TCodes)))
end
def p_draw_Codes_Expr_K3 (n : Nat) (self_p_draw_Codes_Expr : TCodes → (List ByteArray) → Int → Option (TExpr × TCodes)) (x1 : List ByteArray) (x2 : Int) (v1 : Int × TCodes) (v64 : Bool) : Option (TExpr × TCodes) :=
(bif v64 then
(p_draw_Codes_Next n v1.2 2).bind fun v66 =>
(p_draw_Codes_Next n v66.2 2).bind fun v67 =>
 p_draw_Codes_Expr_L1 n self_p_draw_Codes_Expr x1 x2 v66 v67 0 v67.2.glist v67.2.gat ([])
 else
 p_draw_Codes_Expr_K2 n v1 )
def p_draw_Codes_Expr_K1 (n : Nat) (self_p_draw_Codes_Expr : TCodes → (List ByteArray) → Int → Option (TExpr × TCodes)) (x1 : List ByteArray) (x2 : Int) (v1 : Int × TCodes) (v3 : Int) : Option (TExpr × TCodes) :=
(bif v3 == 0 then
 some ((TExpr.mk 1 ByteArray.empty ByteArray.empty ([]) ([])), v1.2)
 else
(bif v3 == 3 then
(bif decide ((lI x1) > 0) then
(p_draw_Codes_Next n v1.2 (lI x1)).bind fun v59 =>
(rdO x1 v59.1).bind fun v60 =>
 some ((TExpr.mk 5 ByteArray.empty v60 ([]) ([])), v59.2)
 else
 p_draw_Codes_Expr_K2 n v1 )
 else
(bif v3 == 4 then
(self_p_draw_Codes_Expr v1.2 x1 (w64 (x2 - 1))).bind fun v62 =>
 some ((TExpr.mk 4 ByteArray.empty ByteArray.empty ([]) ([v62.1])), v62.2)
 else
(bif v3 == 5 then
 p_draw_Codes_Expr_K3 n self_p_draw_Codes_Expr x1 x2 v1 (v3 == 5)
 else
 p_draw_Codes_Expr_K3 n self_p_draw_Codes_Expr x1 x2 v1 (v3 == 6)))))
def p_draw_Codes_Expr_F (self_p_draw_Codes_Expr : TCodes → (List ByteArray) → Int → Option (TExpr × TCodes)) (n : Nat) (x0 : TCodes) (x1 : List ByteArray) (x2 : Int) : Option (TExpr × TCodes) :=
(p_draw_Codes_Next n x0 8).bind fun v1 =>
(bif (decide (x2 ≤ 1)) && (decide (v1.1 ≥ 4)) then
 p_draw_Codes_Expr_K1 n self_p_draw_Codes_Expr x1 x2 v1 (w64 (v1.1 - 4))
 else
 p_draw_Codes_Expr_K1 n self_p_draw_Codes_Expr x1 x2 v1 v1.1)
def p_draw_Codes_Expr (n : Nat) (x0 : TCodes) (x1 : List ByteArray) (x2 : Int) : Option (TExpr × TCodes) := match n with
| 0 => none
| n + 1 => p_draw_Codes_Expr_F (p_draw_Codes_Expr n) n x0 x1 x2
variable {E : Env}
theorem s_draw_Codes_Expr_F (hG : GlobD E) {self_p_draw_Codes_Expr : TCodes → (List ByteArray) → Int → Option (TExpr × TCodes)} (hself_draw_Codes_Expr : ∀ {x0 : TCodes}, ∀ {x1 : List ByteArray}, ∀ {x2 : Int}, ∀ {r : TExpr × TCodes}, self_p_draw_Codes_Expr x0 x1 x2 = some r → Sp Tryz.prog E 13 [.ptr 0 0, .ro .unk x1.length (cl_str x1), iA x2] [.cells 101 (TCodes.cs x0)] (isA (.agg (TExpr.cs r.1)) [.cells 101 (TCodes.cs r.2)])) {n : Nat} {x0 : TCodes} {x1 : List ByteArray} {x2 : Int} {r : TExpr × TCodes} (H : p_draw_Codes_Expr_F self_p_draw_Codes_Expr n x0 x1 x2 = some r) :
    Sp Tryz.prog E 13 [.ptr 0 0, .ro .unk x1.length (cl_str x1), iA x2] [.cells 101 (TCodes.cs x0)] (isA (.agg (TExpr.cs r.1)) [.cells 101 (TCodes.cs r.2)]) := by
  unfold p_draw_Codes_Expr_F at H
  refine Sp_fn Tryz.func13 rfl (fun hc hs => ?_)
  refine AWP_reg (R 1 86 [(0, .ptr 0 0), (1, .ro .unk x1.length (cl_str x1)), (2, iA x2), (6, .ptr 1 0)] [.cells 25 [iA 0, sA ByteArray.empty, sA ByteArray.empty, .ro .full 0 [], .ro .full 0 []], .cells 101 (TCodes.cs x0)] (AOps_done (AWP_reg (Rh 1 86 [(0, .ptr 0 0), (1, .ro .unk x1.length (cl_str x1)), (2, iA x2), (6, .ptr 1 0), (13, .ptr 0 0)] ?_))))
  obtain ⟨v1, hv1, H⟩ := bind_some H
  refine AOps_call1 (d := (some 14)) (al := [.ptr 0 0, iA 8]) ([.ptr 0 0, iA 8]) (r := iA v1.1) (j := 0) (b' := .cells 101 (TCodes.cs v1.2)) (by kernel_rfl) rfl (s_draw_Codes_Next hv1) (⟨(scl_cl_u8 _ _), trivial, trivial⟩) (⟨(scl_cl_u8 _ _), trivial, trivial⟩) ⟨Nat.zero_lt_one, trivial, trivial⟩ trivial rfl (h' := [.cells 25 [iA 0, sA ByteArray.empty, sA ByteArray.empty, .ro .full 0 [], .ro .full 0 []], .cells 101 (TCodes.cs v1.2)]) rfl ?_
  refine Rh 1 86 [(0, .ptr 0 0), (1, .ro .unk x1.length (cl_str x1)), (2, iA x2), (6, .ptr 1 0), (7, iA v1.1)] (AOps_done (AWP_joinN (α := Int) (fun v3 => fr 86 [(0, .ptr 0 0), (1, .ro .unk x1.length (cl_str x1)), (2, iA x2), (6, .ptr 1 0), (7, iA v3)]) (fun v3 => [.cells 25 [iA 0, sA ByteArray.empty, sA ByteArray.empty, .ro .full 0 [], .ro .full 0 []], .cells 101 (TCodes.cs v1.2)]) (fun v3 => ∃ q, q ≤ q ∧ p_draw_Codes_Expr_K1 q self_p_draw_Codes_Expr x1 x2 v1 v3 = some r) (fun v3 hC => ?_) ?_))
  · show AWP _ _ _ _ _ (fr 86 [(0, .ptr 0 0), (1, .ro .unk x1.length (cl_str x1)), (2, iA x2), (6, .ptr 1 0), (7, iA v3)]) [.cells 25 [iA 0, sA ByteArray.empty, sA ByteArray.empty, .ro .full 0 [], .ro .full 0 []], .cells 101 (TCodes.cs v1.2)]
    obtain ⟨n, hn_, hC⟩ := hC
    replace H : p_draw_Codes_Expr_K1 n self_p_draw_Codes_Expr x1 x2 v1 v3 = some r := hC
    unfold p_draw_Codes_Expr_K1 at H
    refine AWP_joinN (α := Unit) (fun _ => fr 86 [(0, .ptr 0 0), (6, .ptr 1 0)]) (fun _ => [.cells 25 [iA 0, sA ByteArray.empty, sA ByteArray.empty, .ro .full 0 [], .ro .full 0 []], .cells 101 (TCodes.cs v1.2)]) (fun _ => ∃ q, q ≤ q ∧ p_draw_Codes_Expr_K2 q v1  = some r) (fun a hC => ?_) ?_
    · show AWP _ _ _ _ _ (fr 86 [(0, .ptr 0 0), (6, .ptr 1 0)]) [.cells 25 [iA 0, sA ByteArray.empty, sA ByteArray.empty, .ro .full 0 [], .ro .full 0 []], .cells 101 (TCodes.cs v1.2)]
      obtain ⟨n, hn_, hC⟩ := hC
      replace H : p_draw_Codes_Expr_K2 n v1  = some r := hC
      unfold p_draw_Codes_Expr_K2 at H
      refine AWP_reg (Rh 1 86 [(6, .ptr 1 0), (84, .ptr 0 0)] ?_)
      obtain ⟨v55, hv55, H⟩ := bind_some H
      refine AOps_call1 (d := (some 85)) (al := [.ptr 0 0]) ([.ptr 0 0]) (r := .agg (TExpr.cs v55.1)) (j := 0) (b' := .cells 101 (TCodes.cs v55.2)) (by kernel_rfl) rfl (s_draw_Codes_Test hG hv55) (⟨(scl_cl_u8 _ _), trivial, trivial⟩) (⟨(scl_cl_u8 _ _), trivial, trivial⟩) ⟨Nat.zero_lt_one, trivial⟩ (sc_TExpr_cs _ _) rfl (h' := [.cells 25 [iA 0, sA ByteArray.empty, sA ByteArray.empty, .ro .full 0 [], .ro .full 0 []], .cells 101 (TCodes.cs v55.2)]) rfl ?_
      refine R 1 86 [(6, .ptr 1 0)] [.cells 25 (TExpr.cs v55.1), .cells 101 (TCodes.cs v55.2)] (AOps_done (AWP_ret ?_))
      have hr := Option.some.inj H
      subst hr
      exact Fin_retn 1 (l := [.agg (TExpr.cs v55.1)]) (h' := [.cells 101 (TCodes.cs v55.2)]) (by kernel_rfl) rfl (Nat.le_of_ble_eq_true rfl) ((by refine Closed_of ?_; exact ⟨⟨(scl_cl_u8 _ _), trivial, trivial⟩, trivial⟩)) (Frz_sc (sc_TExpr_cs _ _)) ⟨rfl, rfl⟩
    · refine AWP_reg (Rh 1 86 [(0, .ptr 0 0), (1, .ro .unk x1.length (cl_str x1)), (2, iA x2), (6, .ptr 1 0), (23, iA v3)] (AOps_done (AWP_block ?_)))
      refine AWP_reg (Rh 2 86 [(0, .ptr 0 0), (1, .ro .unk x1.length (cl_str x1)), (2, iA x2), (6, .ptr 1 0), (23, iA v3), (24, bA (v3 == 0))] (AOps_done (CD H (fun hb56 H => ?_) (fun hb56 H => ?_))))
      · refine AWP_reg (R 2 86 [(6, .ptr 1 0)] [.cells 25 [iA 1, sA ByteArray.empty, sA ByteArray.empty, .ro .full 0 [], .ro .full 0 []], .cells 101 (TCodes.cs v1.2)] (AOps_done (AWP_ret ?_)))
        have hr := Option.some.inj H
        subst hr
        exact Fin_retn 1 (l := [.agg [iA 1, sA ByteArray.empty, sA ByteArray.empty, .ro .full 0 [], .ro .full 0 []]]) (h' := [.cells 101 (TCodes.cs v1.2)]) (by kernel_rfl) rfl (Nat.le_of_ble_eq_true rfl) ((by refine Closed_of ?_; exact ⟨⟨(scl_cl_u8 _ _), trivial, trivial⟩, trivial⟩)) (Frz_agg (FrzL_cons (Frz_sc trivial) (FrzL_cons (Frz_sc trivial) (FrzL_cons (Frz_sc trivial) (FrzL_cons (Frz_le (Frz_sc trivial) (AV.le_ro _ _ _)) (FrzL_cons (Frz_le (Frz_sc trivial) (AV.le_ro _ _ _)) (FrzL_nil)))))) rfl) ⟨rfl, rfl⟩
      · refine AWP_reg (Rh 2 86 [(0, .ptr 0 0), (1, .ro .unk x1.length (cl_str x1)), (2, iA x2), (6, .ptr 1 0), (23, iA v3), (27, bA (v3 == 3))] (AOps_done (CD H (fun hb57 H => ?_) (fun hb57 H => ?_))))
        · refine AWP_reg (Rh 3 86 [(0, .ptr 0 0), (1, .ro .unk x1.length (cl_str x1)), (6, .ptr 1 0), (31, bA (decide ((lI x1) > 0)))] (AOps_done (CD H (fun hb58 H => ?_) (fun hb58 H => ?_))))
          · refine AWP_reg (Rh 4 86 [(6, .ptr 1 0), (32, .ro .unk x1.length (cl_str x1)), (33, .ptr 0 0), (35, iA (lI x1))] ?_)
            obtain ⟨v59, hv59, H⟩ := bind_some H
            refine AOps_call1 (d := (some 36)) (al := [.ptr 0 0, iA (lI x1)]) ([.ptr 0 0, iA (lI x1)]) (r := iA v59.1) (j := 0) (b' := .cells 101 (TCodes.cs v59.2)) (by kernel_rfl) rfl (s_draw_Codes_Next hv59) (⟨(scl_cl_u8 _ _), trivial, trivial⟩) (⟨(scl_cl_u8 _ _), trivial, trivial⟩) ⟨Nat.zero_lt_one, trivial, trivial⟩ trivial rfl (h' := [.cells 25 [iA 0, sA ByteArray.empty, sA ByteArray.empty, .ro .full 0 [], .ro .full 0 []], .cells 101 (TCodes.cs v59.2)]) rfl ?_
            obtain ⟨v60, hv60, H⟩ := bind_some H
            refine AOps_index (d := (some 37)) (sz := 1) (c := cs_str) (by kernel_rfl) rfl (eq_cl_str _) (fun _ => rfl) (by decide) hv60 (fun tl60 => ?_)
            refine R 3 86 [(6, .ptr 1 0)] [.cells 25 [iA 5, sA ByteArray.empty, sA v60, .ro .full 0 [], .ro .full 0 []], .cells 101 (TCodes.cs v59.2)] (AOps_done (AWP_ret ?_))
            have hr := Option.some.inj H
            subst hr
            exact Fin_retn 1 (l := [.agg [iA 5, sA ByteArray.empty, sA v60, .ro .full 0 [], .ro .full 0 []]]) (h' := [.cells 101 (TCodes.cs v59.2)]) (by kernel_rfl) rfl (Nat.le_of_ble_eq_true rfl) ((by refine Closed_of ?_; exact ⟨⟨(scl_cl_u8 _ _), trivial, trivial⟩, trivial⟩)) (Frz_agg (FrzL_cons (Frz_sc trivial) (FrzL_cons (Frz_sc trivial) (FrzL_cons (Frz_sc trivial) (FrzL_cons (Frz_le (Frz_sc trivial) (AV.le_ro _ _ _)) (FrzL_cons (Frz_le (Frz_sc trivial) (AV.le_ro _ _ _)) (FrzL_nil)))))) rfl) ⟨rfl, rfl⟩
          · refine AWP_skip ?_
            exact Exists.intro () ⟨⟨n, by omega, H⟩, Norm_fd [0, 6] 0 (by kernel_rfl) rfl rfl ⟨⟨trivial, trivial, trivial, trivial, trivial, trivial⟩, ⟨(scl_cl_u8 _ _), trivial, trivial⟩, trivial⟩ (by refine scL_fr ?_; exact ⟨(sc_ptr rfl), (sc_ptr rfl), trivial⟩)⟩
        · refine AWP_reg (Rh 2 86 [(0, .ptr 0 0), (1, .ro .unk x1.length (cl_str x1)), (2, iA x2), (6, .ptr 1 0), (23, iA v3), (40, bA (v3 == 4))] (AOps_done (CD H (fun hb61 H => ?_) (fun hb61 H => ?_))))
          · refine AWP_reg (Rh 4 86 [(6, .ptr 1 0), (42, .ptr 0 0), (43, .ro .unk x1.length (cl_str x1)), (45, iA (w64 (x2 - 1)))] ?_)
            obtain ⟨v62, hv62, H⟩ := bind_some H
            refine AOps_call1 (d := (some 46)) (al := [.ptr 0 0, .ro .unk x1.length (cl_str x1), iA (w64 (x2 - 1))]) ([.ptr 0 0, .ro .unk x1.length (cl_str x1), iA (w64 (x2 - 1))]) (r := .agg (TExpr.cs v62.1)) (j := 0) (b' := .cells 101 (TCodes.cs v62.2)) (by kernel_rfl) rfl (hself_draw_Codes_Expr hv62) (⟨(scl_cl_u8 _ _), trivial, trivial⟩) (⟨(scl_cl_u8 _ _), trivial, trivial⟩) ⟨Nat.zero_lt_one, (scl_cl_str _ _), trivial, trivial⟩ (sc_TExpr_cs _ _) rfl (h' := [.cells 25 [iA 0, sA ByteArray.empty, sA ByteArray.empty, .ro .full 0 [], .ro .full 0 []], .cells 101 (TCodes.cs v62.2)]) rfl ?_
            refine AOps_bsl (d := (some 47)) (m := 1) (cs := [iA v62.1.gOp, sA v62.1.gKind, sA v62.1.gName, .ro .unk v62.1.gValues.length (TValue.cl v62.1.gValues), .ro .unk v62.1.gKids.length (TExpr.cl v62.1.gKids)]) (by kernel_rfl) ⟨trivial, trivial, trivial, (scl_TValue_cl _ _), (scl_TExpr_cl _ _), trivial⟩ ?_
            refine AOps_cast (d := (some 47)) (v' := .ro .unk ([v62.1]).length (TExpr.cl ([v62.1]))) (congrArg (AV.ro .unk 1) (eq_TExpr_cl ([v62.1])).symm) ?_
            refine R 2 86 [(6, .ptr 1 0)] [.cells 25 [iA 4, sA ByteArray.empty, sA ByteArray.empty, .ro .full 0 [], .ro .unk ([v62.1]).length (TExpr.cl ([v62.1]))], .cells 101 (TCodes.cs v62.2)] (AOps_done (AWP_ret ?_))
            have hr := Option.some.inj H
            subst hr
            exact Fin_retn 1 (l := [.agg [iA 4, sA ByteArray.empty, sA ByteArray.empty, .ro .full 0 [], .ro .unk ([v62.1]).length (TExpr.cl ([v62.1]))]]) (h' := [.cells 101 (TCodes.cs v62.2)]) (by kernel_rfl) rfl (Nat.le_of_ble_eq_true rfl) ((by refine Closed_of ?_; exact ⟨⟨(scl_cl_u8 _ _), trivial, trivial⟩, trivial⟩)) (Frz_agg (FrzL_cons (Frz_sc trivial) (FrzL_cons (Frz_sc trivial) (FrzL_cons (Frz_sc trivial) (FrzL_cons (Frz_le (Frz_sc trivial) (AV.le_ro _ _ _)) (FrzL_cons (Frz_sc (scl_TExpr_cl _ _)) (FrzL_nil)))))) rfl) ⟨rfl, rfl⟩
          · refine AWP_joinN (α := Bool) (fun v64 => fr 86 [(0, .ptr 0 0), (1, .ro .unk x1.length (cl_str x1)), (2, iA x2), (6, .ptr 1 0), (49, bA v64)]) (fun v64 => [.cells 25 [iA 0, sA ByteArray.empty, sA ByteArray.empty, .ro .full 0 [], .ro .full 0 []], .cells 101 (TCodes.cs v1.2)]) (fun v64 => ∃ q, q ≤ q ∧ p_draw_Codes_Expr_K3 q self_p_draw_Codes_Expr x1 x2 v1 v64 = some r) (fun v64 hC => ?_) ?_
            · show AWP _ _ _ _ _ (fr 86 [(0, .ptr 0 0), (1, .ro .unk x1.length (cl_str x1)), (2, iA x2), (6, .ptr 1 0), (49, bA v64)]) [.cells 25 [iA 0, sA ByteArray.empty, sA ByteArray.empty, .ro .full 0 [], .ro .full 0 []], .cells 101 (TCodes.cs v1.2)]
              obtain ⟨n, hn_, hC⟩ := hC
              replace H : p_draw_Codes_Expr_K3 n self_p_draw_Codes_Expr x1 x2 v1 v64 = some r := hC
              unfold p_draw_Codes_Expr_K3 at H
              refine CD H (fun hb65 H => ?_) (fun hb65 H => ?_)
              · refine AWP_reg (Rh 1 86 [(0, .ptr 0 0), (1, .ro .unk x1.length (cl_str x1)), (2, iA x2), (6, .ptr 1 0), (52, .ptr 0 0)] ?_)
                obtain ⟨v66, hv66, H⟩ := bind_some H
                refine AOps_call1 (d := (some 53)) (al := [.ptr 0 0, iA 2]) ([.ptr 0 0, iA 2]) (r := iA v66.1) (j := 0) (b' := .cells 101 (TCodes.cs v66.2)) (by kernel_rfl) rfl (s_draw_Codes_Next hv66) (⟨(scl_cl_u8 _ _), trivial, trivial⟩) (⟨(scl_cl_u8 _ _), trivial, trivial⟩) ⟨Nat.zero_lt_one, trivial, trivial⟩ trivial rfl (h' := [.cells 25 [iA 0, sA ByteArray.empty, sA ByteArray.empty, .ro .full 0 [], .ro .full 0 []], .cells 101 (TCodes.cs v66.2)]) rfl ?_
                refine Rh 2 86 [(0, .ptr 0 0), (1, .ro .unk x1.length (cl_str x1)), (2, iA x2), (6, .ptr 1 0), (8, iA (w64 (2 + v66.1)))] (AOps_done (AWP_reg (R 4 86 [(0, .ptr 0 0), (1, .ro .unk x1.length (cl_str x1)), (2, iA x2), (6, .ptr 1 0), (8, iA (w64 (2 + v66.1))), (9, .ptr 2 0)] [.cells 25 [iA (w64 (2 + v66.1)), sA ByteArray.empty, sA ByteArray.empty, .ro .full 0 [], .ro .full 0 []], .cells 25 [iA 0, sA ByteArray.empty, sA ByteArray.empty, .ro .full 0 [], .ro .full 0 []], .cells 101 (TCodes.cs v66.2)] (AOps_done (AWP_reg (Rh 1 86 [(0, .ptr 0 0), (1, .ro .unk x1.length (cl_str x1)), (2, iA x2), (6, .ptr 1 0), (8, iA (w64 (2 + v66.1))), (9, .ptr 2 0), (57, .ptr 0 0)] ?_))))))
                obtain ⟨v67, hv67, H⟩ := bind_some H
                refine AOps_call1 (d := (some 58)) (al := [.ptr 0 0, iA 2]) ([.ptr 0 0, iA 2]) (r := iA v67.1) (j := 0) (b' := .cells 101 (TCodes.cs v67.2)) (by kernel_rfl) rfl (s_draw_Codes_Next hv67) (⟨(scl_cl_u8 _ _), trivial, trivial⟩) (⟨(scl_cl_u8 _ _), trivial, trivial⟩) ⟨Nat.zero_lt_one, trivial, trivial⟩ trivial rfl (h' := [.cells 25 [iA (w64 (2 + v66.1)), sA ByteArray.empty, sA ByteArray.empty, .ro .full 0 [], .ro .full 0 []], .cells 25 [iA 0, sA ByteArray.empty, sA ByteArray.empty, .ro .full 0 [], .ro .full 0 []], .cells 101 (TCodes.cs v67.2)]) rfl ?_
                refine Rh 2 86 [(0, .ptr 0 0), (1, .ro .unk x1.length (cl_str x1)), (2, iA x2), (6, .ptr 1 0), (8, iA (w64 (2 + v66.1))), (9, .ptr 2 0), (10, iA (w64 (2 + v67.1)))] (AOps_done (AWP_seq (AWP_reg (Rh 1 86 [(0, .ptr 0 0), (1, .ro .unk x1.length (cl_str x1)), (2, iA x2), (6, .ptr 1 0), (8, iA (w64 (2 + v66.1))), (9, .ptr 2 0), (10, iA (w64 (2 + v67.1))), (11, iA 0)] (AOps_done (AWP_block ?_))))))
                refine AWP_loopN (α := Int × (List Int) × Int × (List TExpr)) (fun ⟨v92, v93, v94, v95⟩ => fr 86 [(0, .ptr 0 0), (1, .ro .unk x1.length (cl_str x1)), (2, iA x2), (6, .ptr 1 0), (8, iA (w64 (2 + v66.1))), (9, .ptr 2 0), (10, iA (w64 (2 + v67.1))), (11, iA v92)]) (fun ⟨v92, v93, v94, v95⟩ => [.row 25 (TExpr.cl v95), .cells 25 [iA (w64 (2 + v66.1)), sA ByteArray.empty, sA ByteArray.empty, .ro .full 0 [], .sl 3 0 v95.length (.whole 5)], .cells 25 [iA 0, sA ByteArray.empty, sA ByteArray.empty, .ro .full 0 [], .ro .full 0 []], .cells 101 [.ro .unk v93.length (cl_u8 v93), iA v94]]) (fun k_ ⟨v92, v93, v94, v95⟩ => k_ ≤ n ∧ p_draw_Codes_Expr_L1 k_ self_p_draw_Codes_Expr x1 x2 v66 v67 v92 v93 v94 v95 = some r) (fun n a H => ?_) (k := n) (0, v67.2.glist, v67.2.gat, []) ⟨Nat.le_refl _, H⟩ (Norm_trans (Norm_fd (st' := fr 86 [(0, .ptr 0 0), (1, .ro .unk x1.length (cl_str x1)), (2, iA x2), (6, .ptr 1 0), (8, iA (w64 (2 + v66.1))), (9, .ptr 2 0), (10, iA (w64 (2 + v67.1))), (11, iA 0)]) (h' := [.cells 25 [iA (w64 (2 + v66.1)), sA ByteArray.empty, sA ByteArray.empty, .ro .full 0 [], .ro .full 0 []], .cells 25 [iA 0, sA ByteArray.empty, sA ByteArray.empty, .ro .full 0 [], .ro .full 0 []], .cells 101 (TCodes.cs v67.2)]) [0, 1, 2, 6, 8, 9, 10, 11] 0 (by kernel_rfl) rfl rfl ⟨⟨trivial, trivial, trivial, trivial, trivial, trivial⟩, ⟨trivial, trivial, trivial, trivial, trivial, trivial⟩, ⟨(scl_cl_u8 _ _), trivial, trivial⟩, trivial⟩ (by refine scL_fr ?_; exact ⟨(sc_ptr rfl), (scl_cl_str _ _), trivial, (sc_ptr rfl), trivial, (sc_ptr rfl), trivial, trivial, trivial⟩)) (Norm_trans (Norm_nilc' (st := fr 86 [(0, .ptr 0 0), (1, .ro .unk x1.length (cl_str x1)), (2, iA x2), (6, .ptr 1 0), (8, iA (w64 (2 + v66.1))), (9, .ptr 2 0), (10, iA (w64 (2 + v67.1))), (11, iA 0)]) (ty := 25) (cs := [iA (w64 (2 + v66.1)), sA ByteArray.empty, sA ByteArray.empty, .ro .full 0 [], .ro .full 0 []]) (h' := [.row 25 (TExpr.cl ([])), .cells 25 [iA (w64 (2 + v66.1)), sA ByteArray.empty, sA ByteArray.empty, .ro .full 0 [], .sl 3 0 ([] : List TExpr).length (.whole 5)], .cells 25 [iA 0, sA ByteArray.empty, sA ByteArray.empty, .ro .full 0 [], .ro .full 0 []], .cells 101 (TCodes.cs v67.2)]) 2 4 3 25 5 rfl rfl (by kernel_rfl) (by kernel_rfl)) (Norm_fd [0, 1, 2, 6, 8, 9, 10, 11] 0 (by kernel_rfl) rfl rfl ⟨(scl_TExpr_cl _ _), ⟨trivial, trivial, trivial, trivial, (sc_sl rfl), trivial⟩, ⟨trivial, trivial, trivial, trivial, trivial, trivial⟩, ⟨(scl_cl_u8 _ _), trivial, trivial⟩, trivial⟩ (by refine scL_fr ?_; exact ⟨(sc_ptr rfl), (scl_cl_str _ _), trivial, (sc_ptr rfl), trivial, (sc_ptr rfl), trivial, trivial, trivial⟩))))
                obtain ⟨v92, v93, v94, v95⟩ := a
                show AWP _ _ _ _ _ (fr 86 [(0, .ptr 0 0), (1, .ro .unk x1.length (cl_str x1)), (2, iA x2), (6, .ptr 1 0), (8, iA (w64 (2 + v66.1))), (9, .ptr 2 0), (10, iA (w64 (2 + v67.1))), (11, iA v92)]) [.row 25 (TExpr.cl v95), .cells 25 [iA (w64 (2 + v66.1)), sA ByteArray.empty, sA ByteArray.empty, .ro .full 0 [], .sl 3 0 v95.length (.whole 5)], .cells 25 [iA 0, sA ByteArray.empty, sA ByteArray.empty, .ro .full 0 [], .ro .full 0 []], .cells 101 [.ro .unk v93.length (cl_u8 v93), iA v94]]
                obtain ⟨hb_, H⟩ := H
                replace H : p_draw_Codes_Expr_L1 n self_p_draw_Codes_Expr x1 x2 v66 v67 v92 v93 v94 v95 = some r := H
                cases n with
                | zero => exact not_none (by simpa only [p_draw_Codes_Expr_L1] using H)
                | succ n =>
                  unfold p_draw_Codes_Expr_L1 at H
                  refine AWP_seq (AWP_reg (Rh 3 86 [(0, .ptr 0 0), (1, .ro .unk x1.length (cl_str x1)), (2, iA x2), (6, .ptr 1 0), (8, iA (w64 (2 + v66.1))), (9, .ptr 2 0), (10, iA (w64 (2 + v67.1))), (11, iA v92), (62, bA (decide (v92 < (w64 (2 + v67.1)))))] (AOps_done (CD H (fun hb96 H => ?_) (fun hb96 H => ?_)))))
                  · refine AWP_skip ?_
                    show AWP _ _ _ _ _ _ _
                    refine AWP_seq (AWP_block ?_)
                    refine AWP_reg (Rh 4 86 [(0, .ptr 0 0), (1, .ro .unk x1.length (cl_str x1)), (2, iA x2), (6, .ptr 1 0), (8, iA (w64 (2 + v66.1))), (9, .ptr 2 0), (10, iA (w64 (2 + v67.1))), (11, iA v92), (65, .ptr 0 0), (66, .ro .unk x1.length (cl_str x1)), (68, iA (w64 (x2 - 1)))] ?_)
                    obtain ⟨v97, hv97, H⟩ := bind_some H
                    refine AOps_call1 (d := (some 69)) (al := [.ptr 0 0, .ro .unk x1.length (cl_str x1), iA (w64 (x2 - 1))]) ([.ptr 0 0, .ro .unk x1.length (cl_str x1), iA (w64 (x2 - 1))]) (r := .agg (TExpr.cs v97.1)) (j := 0) (b' := .cells 101 (TCodes.cs v97.2)) (by kernel_rfl) rfl (hself_draw_Codes_Expr hv97) (⟨(scl_cl_u8 _ _), trivial, trivial⟩) (⟨(scl_cl_u8 _ _), trivial, trivial⟩) ⟨Nat.zero_lt_one, (scl_cl_str _ _), trivial, trivial⟩ (sc_TExpr_cs _ _) rfl (h' := [.row 25 (TExpr.cl v95), .cells 25 [iA (w64 (2 + v66.1)), sA ByteArray.empty, sA ByteArray.empty, .ro .full 0 [], .sl 3 0 v95.length (.whole 5)], .cells 25 [iA 0, sA ByteArray.empty, sA ByteArray.empty, .ro .full 0 [], .ro .full 0 []], .cells 101 (TCodes.cs v97.2)]) rfl ?_
                    refine R 2 86 [(0, .ptr 0 0), (1, .ro .unk x1.length (cl_str x1)), (2, iA x2), (6, .ptr 1 0), (8, iA (w64 (2 + v66.1))), (9, .ptr 2 0), (10, iA (w64 (2 + v67.1))), (11, iA v92), (12, .ptr 4 0)] [.cells 25 (TExpr.cs v97.1), .row 25 (TExpr.cl v95), .cells 25 [iA (w64 (2 + v66.1)), sA ByteArray.empty, sA ByteArray.empty, .ro .full 0 [], .sl 3 0 v95.length (.whole 5)], .cells 25 [iA 0, sA ByteArray.empty, sA ByteArray.empty, .ro .full 0 [], .ro .full 0 []], .cells 101 (TCodes.cs v97.2)] (AOps_done (AWP_joinN (α := Int × ByteArray × ByteArray × (List TValue) × (List TExpr)) (fun ⟨v99, v100, v101, v102, v103⟩ => fr 86 [(0, .ptr 0 0), (1, .ro .unk x1.length (cl_str x1)), (2, iA x2), (6, .ptr 1 0), (8, iA (w64 (2 + v66.1))), (9, .ptr 2 0), (10, iA (w64 (2 + v67.1))), (11, iA v92), (12, .ptr 4 0)]) (fun ⟨v99, v100, v101, v102, v103⟩ => [.cells 25 [iA v99, sA v100, sA v101, .ro .unk v102.length (TValue.cl v102), .ro .unk v103.length (TExpr.cl v103)], .row 25 (TExpr.cl v95), .cells 25 [iA (w64 (2 + v66.1)), sA ByteArray.empty, sA ByteArray.empty, .ro .full 0 [], .sl 3 0 v95.length (.whole 5)], .cells 25 [iA 0, sA ByteArray.empty, sA ByteArray.empty, .ro .full 0 [], .ro .full 0 []], .cells 101 (TCodes.cs v97.2)]) (fun ⟨v99, v100, v101, v102, v103⟩ => ∃ q, q ≤ n ∧ p_draw_Codes_Expr_K4 q self_p_draw_Codes_Expr x1 x2 v66 v67 v92 v95 v97 v99 v100 v101 v102 v103 = some r) (fun a hC => ?_) ?_))
                    · obtain ⟨v99, v100, v101, v102, v103⟩ := a
                      show AWP _ _ _ _ _ (fr 86 [(0, .ptr 0 0), (1, .ro .unk x1.length (cl_str x1)), (2, iA x2), (6, .ptr 1 0), (8, iA (w64 (2 + v66.1))), (9, .ptr 2 0), (10, iA (w64 (2 + v67.1))), (11, iA v92), (12, .ptr 4 0)]) [.cells 25 [iA v99, sA v100, sA v101, .ro .unk v102.length (TValue.cl v102), .ro .unk v103.length (TExpr.cl v103)], .row 25 (TExpr.cl v95), .cells 25 [iA (w64 (2 + v66.1)), sA ByteArray.empty, sA ByteArray.empty, .ro .full 0 [], .sl 3 0 v95.length (.whole 5)], .cells 25 [iA 0, sA ByteArray.empty, sA ByteArray.empty, .ro .full 0 [], .ro .full 0 []], .cells 101 (TCodes.cs v97.2)]
                      obtain ⟨n, hn_, hC⟩ := hC
                      replace H : p_draw_Codes_Expr_K4 n self_p_draw_Codes_Expr x1 x2 v66 v67 v92 v95 v97 v99 v100 v101 v102 v103 = some r := hC
                      cases n with
                      | zero => exact not_none (by simpa only [p_draw_Codes_Expr_K4] using H)
                      | succ n =>
                        unfold p_draw_Codes_Expr_K4 at H
                        refine AWP_region ?_
                        refine Rh 3 86 [(0, .ptr 0 0), (1, .ro .unk x1.length (cl_str x1)), (2, iA x2), (6, .ptr 1 0), (8, iA (w64 (2 + v66.1))), (9, .ptr 2 0), (10, iA (w64 (2 + v67.1))), (11, iA v92), (78, .sl 3 0 v95.length (.whole 5)), (79, .agg [iA v99, sA v100, sA v101, .ro .unk v102.length (TValue.cl v102), .ro .unk v103.length (TExpr.cl v103)])] (AOps_bsl (d := (some 80)) (m := 1) (cs := [iA v99, sA v100, sA v101, .ro .unk v102.length (TValue.cl v102), .ro .unk v103.length (TExpr.cl v103)]) (by kernel_rfl) ⟨trivial, trivial, trivial, (scl_TValue_cl _ _), (scl_TExpr_cl _ _), trivial⟩ ?_)
                        refine AOps_cast (d := (some 80)) (v' := .ro .unk ([(TExpr.mk v99 v100 v101 v102 v103)]).length (TExpr.cl ([(TExpr.mk v99 v100 v101 v102 v103)]))) (congrArg (AV.ro .unk 1) (eq_TExpr_cl ([(TExpr.mk v99 v100 v101 v102 v103)])).symm) ?_
                        obtain ⟨v104, hv104, H⟩ := bind_some H
                        refine AOps_append (d := (some 81)) (c := TExpr.cs) (sz := 5) (bs := 88) (e := 25) (id := 3) (xs := v95) (ys := [(TExpr.mk v99 v100 v101 v102 v103)]) (by kernel_rfl) rfl (eq_TExpr_cl _) rfl (eq_TExpr_cl _) (fun _ => rfl) (by kernel_rfl) (by kernel_rfl) hv104 (eq_TExpr_cl _) (h' := [.row 25 (TExpr.cl v104), .cells 25 [iA v99, sA v100, sA v101, .ro .unk v102.length (TValue.cl v102), .ro .unk v103.length (TExpr.cl v103)], .dead, .cells 25 [iA (w64 (2 + v66.1)), sA ByteArray.empty, sA ByteArray.empty, .ro .full 0 [], .sl 3 0 v95.length (.whole 5)], .cells 25 [iA 0, sA ByteArray.empty, sA ByteArray.empty, .ro .full 0 [], .ro .full 0 []], .cells 101 (TCodes.cs v97.2)]) rfl ?_
                        refine R 2 86 [(0, .ptr 0 0), (1, .ro .unk x1.length (cl_str x1)), (2, iA x2), (6, .ptr 1 0), (8, iA (w64 (2 + v66.1))), (9, .ptr 2 0), (10, iA (w64 (2 + v67.1))), (11, iA v92)] [.row 25 (TExpr.cl v104), .cells 25 [iA v99, sA v100, sA v101, .ro .unk v102.length (TValue.cl v102), .ro .unk v103.length (TExpr.cl v103)], .dead, .cells 25 [iA (w64 (2 + v66.1)), sA ByteArray.empty, sA ByteArray.empty, .ro .full 0 [], .sl 5 0 v104.length (.whole 5)], .cells 25 [iA 0, sA ByteArray.empty, sA ByteArray.empty, .ro .full 0 [], .ro .full 0 []], .cells 101 (TCodes.cs v97.2)] (AOps_done ?_)
                        show AWP _ _ _ _ _ _ _
                        refine AWP_region ?_
                        refine Rh 3 86 [(0, .ptr 0 0), (1, .ro .unk x1.length (cl_str x1)), (2, iA x2), (6, .ptr 1 0), (8, iA (w64 (2 + v66.1))), (9, .ptr 2 0), (10, iA (w64 (2 + v67.1))), (11, iA (w64 (v92 + 1)))] (AOps_done ?_)
                        exact Exists.intro (w64 (v92 + 1), v97.2.glist, v97.2.gat, v104) (Exists.intro n ⟨by omega, ⟨by omega, H⟩, Norm_trans (Norm_fd (st' := fr 86 [(0, .ptr 0 0), (1, .ro .unk x1.length (cl_str x1)), (2, iA x2), (6, .ptr 1 0), (8, iA (w64 (2 + v66.1))), (9, .ptr 2 0), (10, iA (w64 (2 + v67.1))), (11, iA (w64 (v92 + 1)))]) (h' := [.row 25 (TExpr.cl v104), .cells 25 [iA v99, sA v100, sA v101, .ro .unk v102.length (TValue.cl v102), .ro .unk v103.length (TExpr.cl v103)], .dead, .cells 25 [iA (w64 (2 + v66.1)), sA ByteArray.empty, sA ByteArray.empty, .ro .full 0 [], .sl 5 0 v104.length (.whole 5)], .cells 25 [iA 0, sA ByteArray.empty, sA ByteArray.empty, .ro .full 0 [], .ro .full 0 []], .cells 101 (TCodes.cs v97.2)]) [0, 1, 2, 6, 8, 9, 10, 11] 0 (by kernel_rfl) rfl rfl ⟨(scl_TExpr_cl _ _), ⟨trivial, trivial, trivial, (scl_TValue_cl _ _), (scl_TExpr_cl _ _), trivial⟩, trivial, ⟨trivial, trivial, trivial, trivial, (sc_sl rfl), trivial⟩, ⟨trivial, trivial, trivial, trivial, trivial, trivial⟩, ⟨(scl_cl_u8 _ _), trivial, trivial⟩, trivial⟩ (by refine scL_fr ?_; exact ⟨(sc_ptr rfl), (scl_cl_str _ _), trivial, (sc_ptr rfl), trivial, (sc_ptr rfl), trivial, trivial, trivial⟩)) (Norm_trans (Norm_move' (st' := fr 86 [(0, .ptr 0 0), (1, .ro .unk x1.length (cl_str x1)), (2, iA x2), (6, .ptr 1 0), (8, iA (w64 (2 + v66.1))), (9, .ptr 2 0), (10, iA (w64 (2 + v67.1))), (11, iA (w64 (v92 + 1)))]) (h' := [.cells 25 [iA v99, sA v100, sA v101, .ro .unk v102.length (TValue.cl v102), .ro .unk v103.length (TExpr.cl v103)], .row 25 (TExpr.cl v104), .cells 25 [iA (w64 (2 + v66.1)), sA ByteArray.empty, sA ByteArray.empty, .ro .full 0 [], .sl 3 0 v104.length (.whole 5)], .cells 25 [iA 0, sA ByteArray.empty, sA ByteArray.empty, .ro .full 0 [], .ro .full 0 []], .cells 101 (TCodes.cs v97.2)]) 3 5 rfl rfl rfl (fun h => by cases h) (by refine toOkL_fr ?_; exact ⟨(toOk_ptr rfl), (on0 (scl_cl_str _ _)), trivial, (toOk_ptr rfl), trivial, (toOk_ptr rfl), trivial, trivial, trivial⟩) ⟨(on0 (scl_TExpr_cl _ _)), ⟨trivial, trivial, trivial, (on0 (scl_TValue_cl _ _)), (on0 (scl_TExpr_cl _ _)), trivial⟩, trivial, ⟨trivial, trivial, trivial, trivial, (toOk_sl rfl), trivial⟩, ⟨trivial, trivial, trivial, trivial, trivial, trivial⟩, ⟨(on0 (scl_cl_u8 _ _)), trivial, trivial⟩, trivial⟩ (by kernel_rfl) (by kernel_rfl)) (Norm_fd [0, 1, 2, 6, 8, 9, 10, 11] 1 (by kernel_rfl) rfl rfl ⟨(scl_TExpr_cl _ _), ⟨trivial, trivial, trivial, trivial, (sc_sl rfl), trivial⟩, ⟨trivial, trivial, trivial, trivial, trivial, trivial⟩, ⟨(scl_cl_u8 _ _), trivial, trivial⟩, trivial⟩ (by refine scL_fr ?_; exact ⟨(sc_ptr rfl), (scl_cl_str _ _), trivial, (sc_ptr rfl), trivial, (sc_ptr rfl), trivial, trivial, trivial⟩)))⟩)
                    · refine AWP_reg (Rh 4 86 [(0, .ptr 0 0), (1, .ro .unk x1.length (cl_str x1)), (2, iA x2), (6, .ptr 1 0), (8, iA (w64 (2 + v66.1))), (9, .ptr 2 0), (10, iA (w64 (2 + v67.1))), (11, iA v92), (12, .ptr 4 0), (73, bA (v97.1.gOp == (w64 (2 + v66.1))))] (AOps_done (CD H (fun hb105 H => ?_) (fun hb105 H => ?_))))
                      · refine AWP_region ?_
                        refine Rh 1 86 [(0, .ptr 0 0), (1, .ro .unk x1.length (cl_str x1)), (2, iA x2), (6, .ptr 1 0), (8, iA (w64 (2 + v66.1))), (9, .ptr 2 0), (10, iA (w64 (2 + v67.1))), (11, iA v92), (12, .ptr 4 0), (74, .agg (TExpr.cs v97.1))] (AOps_bsl (d := (some 75)) (m := 1) (cs := [iA v97.1.gOp, sA v97.1.gKind, sA v97.1.gName, .ro .unk v97.1.gValues.length (TValue.cl v97.1.gValues), .ro .unk v97.1.gKids.length (TExpr.cl v97.1.gKids)]) (by kernel_rfl) ⟨trivial, trivial, trivial, (scl_TValue_cl _ _), (scl_TExpr_cl _ _), trivial⟩ ?_)
                        refine AOps_cast (d := (some 75)) (v' := .ro .unk ([v97.1]).length (TExpr.cl ([v97.1]))) (congrArg (AV.ro .unk 1) (eq_TExpr_cl ([v97.1])).symm) ?_
                        refine R 2 86 [(0, .ptr 0 0), (1, .ro .unk x1.length (cl_str x1)), (2, iA x2), (6, .ptr 1 0), (8, iA (w64 (2 + v66.1))), (9, .ptr 2 0), (10, iA (w64 (2 + v67.1))), (11, iA v92), (12, .ptr 4 0)] [.cells 25 [iA 4, sA ByteArray.empty, sA ByteArray.empty, .ro .full 0 [], .ro .unk ([v97.1]).length (TExpr.cl ([v97.1]))], .row 25 (TExpr.cl v95), .cells 25 [iA (w64 (2 + v66.1)), sA ByteArray.empty, sA ByteArray.empty, .ro .full 0 [], .sl 3 0 v95.length (.whole 5)], .cells 25 [iA 0, sA ByteArray.empty, sA ByteArray.empty, .ro .full 0 [], .ro .full 0 []], .cells 101 (TCodes.cs v97.2)] (AOps_done ?_)
                        exact Exists.intro (4, ByteArray.empty, ByteArray.empty, [], [v97.1]) ⟨⟨n, by omega, H⟩, Norm_trans (Norm_cle (h' := [.cells 25 [iA 4, sA ByteArray.empty, sA ByteArray.empty, .ro .unk ([] : List TValue).length (TValue.cl ([] : List TValue)), .ro .unk ([v97.1]).length (TExpr.cl ([v97.1]))], .row 25 (TExpr.cl v95), .cells 25 [iA (w64 (2 + v66.1)), sA ByteArray.empty, sA ByteArray.empty, .ro .full 0 [], .sl 3 0 v95.length (.whole 5)], .cells 25 [iA 0, sA ByteArray.empty, sA ByteArray.empty, .ro .full 0 [], .ro .full 0 []], .cells 101 (TCodes.cs v97.2)]) 4 rfl (leL_cons (AV.le_refl _) (leL_cons (AV.le_refl _) (leL_cons (AV.le_refl _) (leL_cons (AV.le_ro _ _ _) (leL_refl _))))) rfl rfl) (Norm_fd [0, 1, 2, 6, 8, 9, 10, 11, 12] 0 (by kernel_rfl) rfl rfl ⟨⟨trivial, trivial, trivial, (scl_TValue_cl _ _), (scl_TExpr_cl _ _), trivial⟩, (scl_TExpr_cl _ _), ⟨trivial, trivial, trivial, trivial, (sc_sl rfl), trivial⟩, ⟨trivial, trivial, trivial, trivial, trivial, trivial⟩, ⟨(scl_cl_u8 _ _), trivial, trivial⟩, trivial⟩ (by refine scL_fr ?_; exact ⟨(sc_ptr rfl), (scl_cl_str _ _), trivial, (sc_ptr rfl), trivial, (sc_ptr rfl), trivial, trivial, (sc_ptr rfl), trivial⟩))⟩
                      · refine AWP_skip ?_
                        exact Exists.intro (v97.1.gOp, v97.1.gKind, v97.1.gName, v97.1.gValues, v97.1.gKids) ⟨⟨n, by omega, H⟩, Norm_fd [0, 1, 2, 6, 8, 9, 10, 11, 12] 0 (by kernel_rfl) rfl rfl ⟨⟨trivial, trivial, trivial, (scl_TValue_cl _ _), (scl_TExpr_cl _ _), trivial⟩, (scl_TExpr_cl _ _), ⟨trivial, trivial, trivial, trivial, (sc_sl rfl), trivial⟩, ⟨trivial, trivial, trivial, trivial, trivial, trivial⟩, ⟨(scl_cl_u8 _ _), trivial, trivial⟩, trivial⟩ (by refine scL_fr ?_; exact ⟨(sc_ptr rfl), (scl_cl_str _ _), trivial, (sc_ptr rfl), trivial, (sc_ptr rfl), trivial, trivial, (sc_ptr rfl), trivial⟩)⟩
                  · refine AWP_exit ?_
                    show AWP _ _ _ _ _ _ _
                    refine AWP_reg (R 2 86 [(6, .ptr 1 0)] [.row 25 (TExpr.cl v95), .cells 25 [iA (w64 (2 + v66.1)), sA ByteArray.empty, sA ByteArray.empty, .ro .full 0 [], .sl 3 0 v95.length (.whole 5)], .cells 25 [iA (w64 (2 + v66.1)), sA ByteArray.empty, sA ByteArray.empty, .ro .full 0 [], .sl 3 0 v95.length (.whole 5)], .cells 101 [.ro .unk v93.length (cl_u8 v93), iA v94]] (AOps_done (AWP_ret ?_)))
                    have hr := Option.some.inj H
                    subst hr
                    exact Fin_retn 3 (l := [.agg [iA (w64 (2 + v66.1)), sA ByteArray.empty, sA ByteArray.empty, .ro .full 0 [], .sl 3 0 v95.length (.whole 5)]]) (h' := [.cells 101 [.ro .unk v93.length (cl_u8 v93), iA v94]]) (by kernel_rfl) rfl (Nat.le_of_ble_eq_true rfl) ((by refine Closed_of ?_; exact ⟨⟨(scl_cl_u8 _ _), trivial, trivial⟩, trivial⟩)) (Frz_agg (FrzL_cons (Frz_sc trivial) (FrzL_cons (Frz_sc trivial) (FrzL_cons (Frz_sc trivial) (FrzL_cons (Frz_le (Frz_sc trivial) (AV.le_ro _ _ _)) (FrzL_cons (Frz_row (t := 25) (cs := TExpr.cl v95) rfl (scl_TExpr_cl _ _)) (FrzL_nil)))))) rfl) ⟨rfl, rfl⟩
              · refine AWP_skip ?_
                exact Exists.intro () ⟨⟨n, by omega, H⟩, Norm_fd [0, 6] 0 (by kernel_rfl) rfl rfl ⟨⟨trivial, trivial, trivial, trivial, trivial, trivial⟩, ⟨(scl_cl_u8 _ _), trivial, trivial⟩, trivial⟩ (by refine scL_fr ?_; exact ⟨(sc_ptr rfl), (sc_ptr rfl), trivial⟩)⟩
            · refine AWP_reg (Rh 2 86 [(0, .ptr 0 0), (1, .ro .unk x1.length (cl_str x1)), (2, iA x2), (6, .ptr 1 0), (23, iA v3), (49, bA (v3 == 5))] (AOps_done (CD H (fun hb106 H => ?_) (fun hb106 H => ?_))))
              · refine AWP_skip ?_
                exact Exists.intro (v3 == 5) ⟨⟨n, by omega, H⟩, Norm_fd [0, 1, 2, 6, 49] 0 (by kernel_rfl) rfl rfl ⟨⟨trivial, trivial, trivial, trivial, trivial, trivial⟩, ⟨(scl_cl_u8 _ _), trivial, trivial⟩, trivial⟩ (by refine scL_fr ?_; exact ⟨(sc_ptr rfl), (scl_cl_str _ _), trivial, (sc_ptr rfl), trivial, trivial⟩)⟩
              · refine AWP_region ?_
                refine Rh 2 86 [(0, .ptr 0 0), (1, .ro .unk x1.length (cl_str x1)), (2, iA x2), (6, .ptr 1 0), (49, bA (v3 == 6))] (AOps_done ?_)
                exact Exists.intro (v3 == 6) ⟨⟨n, by omega, H⟩, Norm_fd [0, 1, 2, 6, 49] 0 (by kernel_rfl) rfl rfl ⟨⟨trivial, trivial, trivial, trivial, trivial, trivial⟩, ⟨(scl_cl_u8 _ _), trivial, trivial⟩, trivial⟩ (by refine scL_fr ?_; exact ⟨(sc_ptr rfl), (scl_cl_str _ _), trivial, (sc_ptr rfl), trivial, trivial⟩)⟩
  · refine AWP_reg (Rh 3 86 [(0, .ptr 0 0), (1, .ro .unk x1.length (cl_str x1)), (2, iA x2), (6, .ptr 1 0), (7, iA v1.1), (17, bA (decide (x2 ≤ 1)))] (AOps_run 3 [0, 1, 2, 6, 7, 20] (st' := fr 86 [(0, .ptr 0 0), (1, .ro .unk x1.length (cl_str x1)), (2, iA x2), (6, .ptr 1 0), (7, iA v1.1), (20, bA ((decide (x2 ≤ 1)) && (decide (v1.1 ≥ 4))))]) (h' := [.cells 25 [iA 0, sA ByteArray.empty, sA ByteArray.empty, .ro .full 0 [], .ro .full 0 []], .cells 101 (TCodes.cs v1.2)]) (by (generalize (decide (x2 ≤ 1)) = t0; cases t0 <;> kernel_rfl)) ?_))
    refine AOps_done (CD H (fun hb107 H => ?_) (fun hb107 H => ?_))
    · refine AWP_region ?_
      refine Rh 3 86 [(0, .ptr 0 0), (1, .ro .unk x1.length (cl_str x1)), (2, iA x2), (6, .ptr 1 0), (7, iA (w64 (v1.1 - 4)))] (AOps_done ?_)
      exact Exists.intro (w64 (v1.1 - 4)) ⟨⟨n, by omega, H⟩, Norm_fd [0, 1, 2, 6, 7] 0 (by kernel_rfl) rfl rfl ⟨⟨trivial, trivial, trivial, trivial, trivial, trivial⟩, ⟨(scl_cl_u8 _ _), trivial, trivial⟩, trivial⟩ (by refine scL_fr ?_; exact ⟨(sc_ptr rfl), (scl_cl_str _ _), trivial, (sc_ptr rfl), trivial, trivial⟩)⟩
    · refine AWP_skip ?_
      exact Exists.intro v1.1 ⟨⟨n, by omega, H⟩, Norm_fd [0, 1, 2, 6, 7] 0 (by kernel_rfl) rfl rfl ⟨⟨trivial, trivial, trivial, trivial, trivial, trivial⟩, ⟨(scl_cl_u8 _ _), trivial, trivial⟩, trivial⟩ (by refine scL_fr ?_; exact ⟨(sc_ptr rfl), (scl_cl_str _ _), trivial, (sc_ptr rfl), trivial, trivial⟩)⟩
theorem s_all_draw_Codes_Expr (hG : GlobD E) : ∀ n : Nat, (∀ {x0 : TCodes}, ∀ {x1 : List ByteArray}, ∀ {x2 : Int}, ∀ {r : TExpr × TCodes}, p_draw_Codes_Expr n x0 x1 x2 = some r → Sp Tryz.prog E 13 [.ptr 0 0, .ro .unk x1.length (cl_str x1), iA x2] [.cells 101 (TCodes.cs x0)] (isA (.agg (TExpr.cs r.1)) [.cells 101 (TCodes.cs r.2)])) := by
  intro n
  induction n with
  | zero => exact fun H => not_none (by simpa only [p_draw_Codes_Expr] using H)
  | succ n ih => exact fun H => s_draw_Codes_Expr_F hG ih (by simpa only [p_draw_Codes_Expr] using H)
theorem s_draw_Codes_Expr {n : Nat} (hG : GlobD E) {x0 : TCodes} {x1 : List ByteArray} {x2 : Int} {r : TExpr × TCodes} (H : p_draw_Codes_Expr n x0 x1 x2 = some r) :
    Sp Tryz.prog E 13 [.ptr 0 0, .ro .unk x1.length (cl_str x1), iA x2] [.cells 101 (TCodes.cs x0)] (isA (.agg (TExpr.cs r.1)) [.cells 101 (TCodes.cs r.2)]) := (s_all_draw_Codes_Expr hG n) H
end Go.Proofs.YtjhbobacbaikoaaGreatDoor
/- Drawn conditions are well-formed, and of bounded size. -/
namespace Go.Proofs.YtjhbobacbaikoaaGreatDoor
open Go
set_option linter.unusedVariables false
set_option linter.unusedSimpArgs false
set_option maxRecDepth 100000
/-! ## two kinds of fuel -/
def Gv2 {α : Type} (m : Nat → Nat → Option α) (Q : α → Prop) : Prop := ∃ r, Q r ∧ ∃ N, ∀ a b, N ≤ a → N ≤ b → m a b = some r
section
variable {α β : Type} {m : Nat → Nat → Option α} {Q R : α → Prop}
theorem Gv2.of1 {f : Nat → Option α} (h : Gv f Q) : Gv2 (fun a _ => f a) Q := by obtain ⟨r, q, N, h⟩ := h; exact ⟨r, q, N, fun a b ha _ => h a ha⟩
theorem Gv2.of2 {f : Nat → Option α} (h : Gv f Q) : Gv2 (fun _ b => f b) Q := by obtain ⟨r, q, N, h⟩ := h; exact ⟨r, q, N, fun a b _ hb => h b hb⟩
theorem Gv2.pure {r : α} (h : Q r) : Gv2 (fun _ _ => some r) Q := ⟨r, h, 0, fun _ _ _ _ => rfl⟩
theorem Gv2.bind {k : Nat → Nat → α → Option β} {S : β → Prop} (h : Gv2 m Q) (g : ∀ r, Q r → Gv2 (fun a b => k a b r) S) : Gv2 (fun a b => (m a b).bind (k a b)) S := by
  obtain ⟨r, q, N, h⟩ := h
  obtain ⟨s, q2, M, g⟩ := g r q
  exact ⟨s, q2, max N M, fun a b ha hb => by show (m a b).bind (k a b) = some s; rw [h a b (by omega) (by omega)]; exact g a b (by omega) (by omega)⟩
theorem Gv2.cond {c : Bool} {f g : Nat → Nat → Option α} (h1 : c = true → Gv2 f Q) (h2 : c = false → Gv2 g Q) : Gv2 (fun a b => bif c then f a b else g a b) Q := by
  cases c with
  | true => exact h1 rfl
  | false => exact h2 rfl
theorem Gv2.succ (h : Gv2 (fun a b => m a (b + 1)) Q) : Gv2 m Q := by
  obtain ⟨r, q, N, h⟩ := h
  refine ⟨r, q, N + 1, fun a b ha hb => ?_⟩
  obtain ⟨b, rfl⟩ : ∃ k, b = k + 1 := ⟨b - 1, by omega⟩
  exact h a b (by omega) (by omega)
theorem Gv2.diag (h : Gv2 m Q) : Gv (fun n => m n n) Q := by obtain ⟨r, q, N, h⟩ := h; exact ⟨r, q, N, fun n hn => h n n hn hn⟩
theorem Gv2.mono (h : Gv2 m Q) (k : ∀ r, Q r → R r) : Gv2 m R := by obtain ⟨r, q, a⟩ := h; exact ⟨r, k r q, a⟩
end
/-! ## size, depth, number of parts -/
mutual
def TExpr.bd (B : Nat) : TExpr → Prop
  | .mk _ k nm vs ks => k.size ≤ 100 ∧ nm.size ≤ 100 ∧ vs.length ≤ B ∧ (∀ v ∈ vs, v.bd) ∧ ks.length ≤ B ∧ TExpr.bdL B ks
def TExpr.bdL (B : Nat) : List TExpr → Prop
  | [] => True
  | x :: xs => x.bd B ∧ TExpr.bdL B xs
end
theorem TExpr.bdL_iff {B : Nat} : ∀ {l : List TExpr}, TExpr.bdL B l ↔ ∀ x ∈ l, x.bd B
  | [] => by simp [TExpr.bdL]
  | x :: l => by rw [TExpr.bdL, TExpr.bdL_iff (l := l)]; simp
theorem TExpr.bd_iff {B : Nat} {x : TExpr} : x.bd B ↔ x.gKind.size ≤ 100 ∧ x.gName.size ≤ 100 ∧ x.gValues.length ≤ B ∧ (∀ v ∈ x.gValues, v.bd) ∧ x.gKids.length ≤ B ∧ ∀ k ∈ x.gKids, k.bd B := by
  cases x with
  | mk op k nm vs ks => rw [TExpr.bd, TExpr.bdL_iff]; exact Iff.rfl
mutual
theorem TExpr.bd_le {B C : Nat} (h : B ≤ C) : ∀ x : TExpr, x.bd B → x.bd C
  | .mk op k nm vs ks => fun hx => by
    rw [TExpr.bd] at hx ⊢
    exact ⟨hx.1, hx.2.1, by have := hx.2.2.1; omega, hx.2.2.2.1, by have := hx.2.2.2.2.1; omega, TExpr.bdL_le h ks hx.2.2.2.2.2⟩
theorem TExpr.bdL_le {B C : Nat} (h : B ≤ C) : ∀ l : List TExpr, TExpr.bdL B l → TExpr.bdL C l
  | [] => fun _ => by rw [TExpr.bdL]; trivial
  | x :: xs => fun hx => by
    rw [TExpr.bdL] at hx ⊢
    exact ⟨TExpr.bd_le h x hx.1, TExpr.bdL_le h xs hx.2⟩
end
theorem TValue.bd_sm {x : TValue} (h : x.bd) : x.sm := ⟨by have := h.1; omega, by have := h.2.1; omega, fun s hs => by have := h.2.2 s hs; omega⟩
mutual
theorem TExpr.bd_sm {B : Nat} (h : B < 4294967281) : ∀ x : TExpr, x.bd B → x.sm
  | .mk op k nm vs ks => fun hx => by
    rw [TExpr.bd] at hx
    rw [TExpr.sm]
    exact ⟨by have := hx.1; omega, by have := hx.2.1; omega, fun v hv => TValue.bd_sm (hx.2.2.2.1 v hv), by have := hx.2.2.2.2.1; omega, TExpr.bdL_sm h ks hx.2.2.2.2.2⟩
theorem TExpr.bdL_sm {B : Nat} (h : B < 4294967281) : ∀ l : List TExpr, TExpr.bdL B l → TExpr.smL l
  | [] => fun _ => by rw [TExpr.smL]; trivial
  | x :: xs => fun hx => by
    rw [TExpr.bdL] at hx
    rw [TExpr.smL]
    exact ⟨TExpr.bd_sm h x hx.1, TExpr.bdL_sm h xs hx.2⟩
end
mutual
def TExpr.parts : TExpr → Nat
  | .mk _ _ _ _ ks => 1 + TExpr.partsL ks
def TExpr.partsL : List TExpr → Nat
  | [] => 0
  | x :: xs => x.parts + TExpr.partsL xs
end
mutual
def TExpr.dep : TExpr → Nat
  | .mk _ _ _ _ ks => 1 + TExpr.depL ks
def TExpr.depL : List TExpr → Nat
  | [] => 0
  | x :: xs => max x.dep (TExpr.depL xs)
end
mutual
/-- Each part is well-formed. -/
def TExpr.gd : TExpr → Prop
  | .mk op k nm vs ks => (Al fun n => p_shape_part n (.mk op k nm vs ks) 0 = some 0) ∧ TExpr.gdL ks
def TExpr.gdL : List TExpr → Prop
  | [] => True
  | x :: xs => x.gd ∧ TExpr.gdL xs
end
theorem pv_zero {x : TExpr} (hx : x.sm) (h : Al fun n => p_shape_part n x 0 = some 0) : pv x = 0 := by
  obtain ⟨n, h1, h2⟩ := ((pv_al x hx).and h).get
  have := h1.1 0
  rw [h2, if_neg (by decide)] at this
  exact (Option.some.inj this).symm
mutual
theorem walk_good : ∀ (x : TExpr) (d b : Int), x.gd → x.sm → d + x.dep ≤ 10 → b + x.parts ≤ 60 → walkV x d b = (0, b + x.parts)
  | .mk op k nm vs ks, d, b => fun hg hs hd hb => by
    rw [TExpr.dep] at hd
    rw [TExpr.parts] at hb
    rw [TExpr.gd] at hg
    have hp := pv_zero hs hg.1
    rw [TExpr.sm] at hs
    rw [walkV, if_neg (by omega), if_neg (by omega), if_neg (by rw [hp]; simp), walk_goodL ks (d + 1) (b + 1) hg.2 hs.2.2.2.2 (by omega) (by omega), TExpr.parts]
    congr 1
    omega
theorem walk_goodL : ∀ (l : List TExpr) (d b : Int), TExpr.gdL l → TExpr.smL l → d + TExpr.depL l ≤ 10 → b + TExpr.partsL l ≤ 60 → walkVL l d b = (0, b + TExpr.partsL l)
  | [], d, b => fun _ _ _ _ => by rw [walkVL, TExpr.partsL]; simp
  | x :: xs, d, b => fun hg hs hd hb => by
    rw [TExpr.gdL] at hg
    rw [TExpr.smL] at hs
    rw [TExpr.depL] at hd
    rw [TExpr.partsL] at hb
    have h1 := walk_good x d b hg.1 hs.1 (by omega) (by omega)
    rw [walkVL, h1, if_neg (by simp), walk_goodL xs d _ hg.2 hs.2 (by omega) (by simp only; omega), TExpr.partsL]
    congr 1
    omega
end
theorem expr_good (x : TExpr) (hg : x.gd) (hs : x.sm) (hd : x.dep ≤ 10) (hp : x.parts ≤ 60) : Al fun n => p_shape_Expr n x = some 0 := by
  refine (ex_al x hs).mono fun n h => ?_
  obtain ⟨h1, h2⟩ := h 0 0 (by omega) (by omega) (by omega) (by omega)
  unfold p_shape_Expr
  rw [h1, walk_good x 0 0 hg hs (by omega) (by omega)]
  rfl
/-- A condition of bounded size. -/
structure ExG (D P : Nat) (x : TExpr) : Prop where
  gd : x.gd
  bd : x.bd 20
  dep : x.dep ≤ D
  parts : x.parts ≤ P
theorem ExG.le {D P D' P' : Nat} {x : TExpr} (h : ExG D P x) (h1 : D ≤ D') (h2 : P ≤ P') : ExG D' P' x := ⟨h.gd, h.bd, Nat.le_trans h.dep h1, Nat.le_trans h.parts h2⟩
theorem gdL_iff : ∀ {l : List TExpr}, TExpr.gdL l ↔ ∀ x ∈ l, x.gd
  | [] => by simp [TExpr.gdL]
  | x :: l => by rw [TExpr.gdL, gdL_iff (l := l)]; simp
theorem depL_le {D : Nat} : ∀ {l : List TExpr}, (∀ x ∈ l, x.dep ≤ D) → TExpr.depL l ≤ D
  | [], _ => by rw [TExpr.depL]; omega
  | x :: l, h => by
    have h1 := h x (by simp)
    have h2 := depL_le (l := l) fun y hy => h y (by simp [hy])
    rw [TExpr.depL]; omega
theorem partsL_le {P : Nat} : ∀ {l : List TExpr}, (∀ x ∈ l, x.parts ≤ P) → TExpr.partsL l ≤ l.length * P
  | [], _ => by rw [TExpr.partsL]; omega
  | x :: l, h => by
    have h1 := h x (by simp)
    have h2 := partsL_le (l := l) fun y hy => h y (by simp [hy])
    rw [TExpr.partsL, List.length_cons, Nat.succ_mul]; omega
theorem ExG.mk' {D P : Nat} {op : Int} {k nm : ByteArray} {vs : List TValue} {ks : List TExpr} (hp : Al fun n => p_shape_part n (.mk op k nm vs ks) 0 = some 0) (hk : k.size ≤ 100) (hn : nm.size ≤ 100) (hv : vs.length ≤ 20) (hvb : ∀ v ∈ vs, v.bd) (hl : ks.length ≤ 20)
    (h : ∀ x ∈ ks, ExG D P x) : ExG (1 + D) (1 + ks.length * P) (.mk op k nm vs ks) where
  gd := by rw [TExpr.gd]; exact ⟨hp, gdL_iff.2 fun x hx => (h x hx).gd⟩
  bd := by rw [TExpr.bd]; exact ⟨hk, hn, hv, hvb, hl, TExpr.bdL_iff.2 fun x hx => (h x hx).bd⟩
  dep := by rw [TExpr.dep]; have := depL_le fun x hx => (h x hx).dep; omega
  parts := by rw [TExpr.parts]; have := partsL_le fun x hx => (h x hx).parts; omega
theorem e0sz : ByteArray.empty.size = 0 := rfl
theorem seq00 : seq' ByteArray.empty ByteArray.empty = true := by kernel_rfl
/-- A part without values. -/
theorem part_and {op : Int} (h : op = 2 ∨ op = 3) {ks : List TExpr} (h2 : 2 ≤ ks.length) (h3 : ks.length ≤ 12) (hne : ∀ k ∈ ks, k.gOp ≠ op) : Al fun n => p_shape_part n (.mk op ByteArray.empty ByteArray.empty [] ks) 0 = some 0 := by
  refine part_ok _ (by show 1 ≤ op ∧ op ≤ 15; omega) (fun n => ?_) h3 (by show 0 ≤ 20; decide) (fun _ => hne) (fun h6 => ?_) (fun h6 => ?_) (fun v hv => by cases hv) (fun h9 => ?_)
  · have e : decide (lI ks < 2) = false := decide_eq_false (by unfold lI; omega)
    rcases h with rfl | rfl
    · unfold p_shape_shape p_shape_shape_K1 p_shape_test
      rw [show decide (lI (TExpr.mk 2 ByteArray.empty ByteArray.empty [] ks).gKids < 2) = false from e]
      refine Eq.trans ?_ (rfl : some true = some true)
      kernel_rfl
    · unfold p_shape_shape p_shape_shape_K1 p_shape_test
      rw [show decide (lI (TExpr.mk 3 ByteArray.empty ByteArray.empty [] ks).gKids < 2) = false from e]
      refine Eq.trans ?_ (rfl : some true = some true)
      kernel_rfl
  · have h6 : 6 ≤ op := h6
    omega
  · have h6 : 5 ≤ op := h6
    omega
  · have h9 : op = 9 ∨ op = 10 ∨ op = 11 := h9
    omega
theorem part_not {k : TExpr} : Al fun n => p_shape_part n (.mk 4 ByteArray.empty ByteArray.empty [] [k]) 0 = some 0 := by
  refine part_ok _ (by show (1 : Int) ≤ 4 ∧ (4 : Int) ≤ 15; decide) (fun n => ?_) (by show 1 ≤ 12; decide) (by show 0 ≤ 20; decide) (fun h => ?_) (fun h6 => ?_) (fun h6 => ?_) (fun v hv => by cases hv) (fun h9 => ?_)
  · kernel_rfl
  · rcases h with h | h <;> cases h
  · have h6 : (6 : Int) ≤ 4 := h6
    omega
  · have h6 : (5 : Int) ≤ 4 := h6
    omega
  · rcases h9 with h | h | h <;> cases h
theorem part_true : Al fun n => p_shape_part n (.mk 1 ByteArray.empty ByteArray.empty [] []) 0 = some 0 := Al.addk 60 fun n => by kernel_rfl
theorem part_segment {s : ByteArray} (hs : Al fun n => p_text_Key n s = some true) : Al fun n => p_shape_part n (.mk 5 ByteArray.empty s [] []) 0 = some 0 := by
  refine part_ok _ (by show (1 : Int) ≤ 5 ∧ (5 : Int) ≤ 15; decide) (fun n => ?_) (by show 0 ≤ 12; decide) (by show 0 ≤ 20; decide) (fun h => ?_) (fun h6 => ?_) (fun h6 => hs) (fun v hv => by cases hv) (fun h9 => ?_)
  · unfold p_shape_shape p_shape_shape_K1 p_shape_test
    simp only [TExpr.gOp, TExpr.gKids, TExpr.gValues, TExpr.gKind, TExpr.gName, seq00]
    generalize seq' s ByteArray.empty = b
    cases b <;> kernel_rfl
  · rcases h with h | h <;> cases h
  · have h6 : (6 : Int) ≤ 5 := h6
    omega
  · rcases h9 with h | h | h <;> cases h
theorem testG_ex {x : TExpr} (h : TestG x) : ExG 1 1 x := by
  have hp := test_part h
  have h1 := words_size _ (List.mem_append_left _ h.kind)
  have h2 := words_size _ (List.mem_append_right _ h.name)
  have hk := h.kids
  have hv := h.vals
  have hl := h.len
  cases x with
  | mk op k nm vs ks =>
    have hk : ks = [] := hk
    subst hk
    have := ExG.mk' (D := 0) (P := 0) hp (Nat.le_trans h1 (by decide)) (Nat.le_trans h2 (by decide)) (Nat.le_trans hl (by decide)) (fun v hvv => good_bd v (hv v hvv)) (Nat.zero_le _) (fun x hx => by cases hx)
    exact this.le (by omega) (by simp)
def exP : Nat → Nat
  | 0 => 1
  | L + 1 => 1 + 3 * (exP L + 1)
theorem exP_mono (L : Nat) : 1 ≤ exP L := by cases L <;> simp [exP] <;> omega
/-- Names of segments. -/
def SegG (l : List ByteArray) : Prop := l.length ≤ 100 ∧ ∀ s ∈ l, s.size ≤ 100 ∧ Al fun n => p_text_Key n s = some true
theorem expr_K2 {c : TCodes} (hc : c.cok) (x : Int) : Gv (fun n => p_draw_Codes_Expr_K2 n (x, c)) fun r => ExG 1 1 r.1 ∧ r.2.cok := by
  unfold p_draw_Codes_Expr_K2
  exact Gv.bind (test_gv hc) fun v hv => Gv.pure ⟨testG_ex hv.1, hv.2⟩
theorem expr_loop {D P : Nat} {segs : List ByteArray} {L op cnt : Int} (hop : op = 2 ∨ op = 3) (hcnt : cnt = 2 ∨ cnt = 3) {a1 a2 : Int × TCodes} (ha1 : w64 (2 + a1.1) = op) (ha2 : w64 (2 + a2.1) = cnt)
    (ih : ∀ c : TCodes, c.cok → Gv (fun n => p_draw_Codes_Expr n c segs (w64 (L - 1))) fun r => ExG D P r.1 ∧ r.2.cok) :
    ∀ (q i : Nat) (c : TCodes) (l : List TExpr), (i : Int) + q = cnt → c.cok → l.length = i → (∀ x ∈ l, ExG (D + 1) (P + 1) x ∧ x.gOp ≠ op) →
      Gv2 (fun a b => p_draw_Codes_Expr_L1 b (p_draw_Codes_Expr a) segs L a1 a2 i c.glist c.gat l) fun r => ExG (D + 2) (1 + 3 * (P + 1)) r.1 ∧ r.2.cok := by
  intro q
  induction q with
  | zero =>
    intro i c l hi hc hl hx
    refine Gv2.succ ?_
    simp only [p_draw_Codes_Expr_L1]
    rw [ha2]
    refine Gv2.cond (fun h => ?_) fun h => ?_
    · have h := of_decide_eq_true h
      omega
    · rw [ha1]
      have hp := part_and hop (ks := l) (by omega) (by omega) (fun k hk => (hx k hk).2)
      have h3 : l.length * (P + 1) ≤ 3 * (P + 1) := Nat.mul_le_mul_right _ (by omega)
      exact Gv2.pure ⟨(ExG.mk' hp (by decide) (by decide) (by decide) (fun v hv => by cases hv) (by omega) (fun x hxl => (hx x hxl).1)).le (by omega) (by omega), hc⟩
  | succ q ih2 =>
    intro i c l hi hc hl hx
    refine Gv2.succ ?_
    simp only [p_draw_Codes_Expr_L1]
    rw [ha2, ha1]
    refine Gv2.cond (fun h => ?_) fun h => ?_
    · refine Gv2.bind (Gv2.of1 (ih c hc)) fun v hv => ?_
      have step : ∀ (op' : Int) (k nm : ByteArray) (vs : List TValue) (ks : List TExpr), ExG (D + 1) (P + 1) (.mk op' k nm vs ks) → op' ≠ op →
          Gv2 (fun a b => p_draw_Codes_Expr_K4 b (p_draw_Codes_Expr a) segs L a1 a2 i l v op' k nm vs ks) fun r => ExG (D + 2) (1 + 3 * (P + 1)) r.1 ∧ r.2.cok := by
        intro op' k nm vs ks hx' hne
        refine Gv2.succ ?_
        simp only [p_draw_Codes_Expr_K4]
        refine Gv2.bind (Gv2.of1 (Gv.app (Q := fun m => m = l ++ [TExpr.mk op' k nm vs ks]) (by simp; omega) (by decide) rfl)) ?_
        rintro m rfl
        rw [w64_add (by omega)]
        refine ih2 (i + 1) v.2 _ (by omega) hv.2 (by simp; omega) fun x hxm => ?_
        rcases List.mem_append.1 hxm with hxm | hxm
        · exact hx x hxm
        · obtain rfl : x = TExpr.mk op' k nm vs ks := by simpa using hxm
          exact ⟨hx', hne⟩
      refine Gv2.cond (fun h => ?_) fun h => ?_
      · refine step 4 _ _ _ _ ?_ (by omega)
        have := ExG.mk' (D := D) (P := P) (part_not (k := v.1)) (by decide) (by decide) (by decide) (fun v hv => by cases hv) (by show 1 ≤ 20; decide) (fun x hx => by
          obtain rfl : x = v.1 := by simpa using hx
          exact hv.1)
        exact this.le (by omega) (by simp; omega)
      · refine step _ _ _ _ _ ?_ (beq_eq_false_iff_ne.1 h)
        have e : TExpr.mk v.1.gOp v.1.gKind v.1.gName v.1.gValues v.1.gKids = v.1 := by cases v.1; rfl
        rw [e]; exact hv.1.le (by omega) (by omega)
    · have h := of_decide_eq_false h
      omega
theorem expr_gv (segs : List ByteArray) (hs : SegG segs) : ∀ (L : Nat) (c : TCodes), L ≤ 100 → c.cok → Gv (fun n => p_draw_Codes_Expr n c segs ((L : Int) + 1)) fun r => ExG (2 * L + 1) (exP L) r.1 ∧ r.2.cok := by
  intro L
  induction L with
  | zero =>
    intro c _ hc
    refine Gv.succ ?_
    simp only [p_draw_Codes_Expr]
    unfold p_draw_Codes_Expr_F
    refine Gv.bind (next_gv hc (k := 8) (by decide) (by decide)) fun r hr => ?_
    have low : ∀ x : Int, 0 ≤ x → x < 4 → Gv (fun n => p_draw_Codes_Expr_K1 n (p_draw_Codes_Expr n) segs (((0 : Nat) : Int) + 1) r x) fun r => ExG 1 1 r.1 ∧ r.2.cok := by
      intro x h0 h4
      unfold p_draw_Codes_Expr_K1
      refine Gv.cond (fun _ => ?_) fun _ => Gv.cond (fun _ => Gv.cond (fun h => ?_) fun _ => expr_K2 hr.2.2 r.1) fun _ => Gv.cond (fun h => ?_) fun _ => Gv.cond (fun h => ?_) fun _ => ?_
      · have := ExG.mk' (D := 0) (P := 0) part_true (by decide) (by decide) (by decide) (fun v hv => by cases hv) (by show 0 ≤ 20; decide) (fun x hx => by cases hx)
        exact Gv.pure ⟨this, hr.2.2⟩
      · have h := of_decide_eq_true h
        unfold lI at h
        refine Gv.bind (next_gv hr.2.2 (k := lI segs) (by unfold lI; omega) (by unfold lI; have := hs.1; omega)) fun s hs2 => ?_
        refine Gv.bind (Gv.rd (Q := fun w => w.size ≤ 100 ∧ Al fun n => p_text_Key n w = some true) hs2.1 hs2.2.1 hs.2) fun w hw => ?_
        have := ExG.mk' (D := 0) (P := 0) (part_segment hw.2) (by decide) hw.1 (by decide) (fun v hv => by cases hv) (by show 0 ≤ 20; decide) (fun x hx => by cases hx)
        exact Gv.pure ⟨this, hs2.2.2⟩
      · have := beq_iff_eq.1 h
        omega
      · have := beq_iff_eq.1 h
        omega
      · unfold p_draw_Codes_Expr_K3
        refine Gv.cond (fun h => ?_) fun _ => expr_K2 hr.2.2 r.1
        have := beq_iff_eq.1 h
        omega
    refine Gv.cond (fun h => ?_) fun h => ?_
    · have h := (Bool.and_eq_true_iff.1 h).2
      have h := of_decide_eq_true h
      rw [w64_of (by omega) (by omega)]
      exact low _ (by omega) (by omega)
    · rw [decide_eq_true (show (((0 : Nat) : Int) + 1) ≤ 1 by omega), Bool.true_and] at h
      have h := of_decide_eq_false h
      exact low _ (by omega) (by omega)
  | succ L ih =>
    intro c hL hc
    have ih := fun c hc => ih c (by omega) hc
    refine Gv.succ ?_
    simp only [p_draw_Codes_Expr]
    unfold p_draw_Codes_Expr_F
    have e1 : w64 ((((L + 1 : Nat) : Int) + 1) - 1) = (L : Int) + 1 := by rw [w64_of (by omega) (by omega)]; omega
    refine Gv.bind (next_gv hc (k := 8) (by decide) (by decide)) fun r hr => ?_
    rw [decide_eq_false (show ¬ ((((L + 1 : Nat) : Int) + 1) ≤ 1) by omega), Bool.false_and]
    simp only [cond_false]
    have lift : ∀ {x : TExpr}, ExG 1 1 x → ExG (2 * (L + 1) + 1) (exP (L + 1)) x := fun h => h.le (by omega) (exP_mono _)
    have hK2 := (expr_K2 hr.2.2 r.1).mono fun s h => (⟨lift h.1, h.2⟩ : ExG (2 * (L + 1) + 1) (exP (L + 1)) s.1 ∧ s.2.cok)
    have hK3 : ∀ b, Gv (fun n => p_draw_Codes_Expr_K3 n (p_draw_Codes_Expr n) segs (((L + 1 : Nat) : Int) + 1) r b) fun r => ExG (2 * (L + 1) + 1) (exP (L + 1)) r.1 ∧ r.2.cok := by
      intro b
      unfold p_draw_Codes_Expr_K3
      refine Gv.cond (fun _ => ?_) fun _ => hK2
      refine Gv.bind (next_gv hr.2.2 (k := 2) (by decide) (by decide)) fun a1 h1 => ?_
      refine Gv.bind (next_gv h1.2.2 (k := 2) (by decide) (by decide)) fun a2 h2 => ?_
      have := expr_loop (D := 2 * L + 1) (P := exP L) (segs := segs) (L := ((L + 1 : Nat) : Int) + 1) (op := 2 + a1.1) (cnt := 2 + a2.1) (a1 := a1) (a2 := a2) (by omega) (by omega) (w64_of (by omega) (by omega)) (w64_of (by omega) (by omega))
        (fun c hc => by rw [e1]; exact ih c hc) (2 + a2.1).toNat 0 a2.2 [] (by omega) h2.2.2 rfl (fun x hx => by cases hx)
      exact this.diag
    unfold p_draw_Codes_Expr_K1
    refine Gv.cond (fun _ => ?_) fun _ => Gv.cond (fun _ => Gv.cond (fun h => ?_) fun _ => hK2) fun _ => Gv.cond (fun h => ?_) fun _ => Gv.cond (fun h => hK3 _) fun _ => hK3 _
    · have := ExG.mk' (D := 0) (P := 0) part_true (by decide) (by decide) (by decide) (fun v hv => by cases hv) (by show 0 ≤ 20; decide) (fun x hx => by cases hx)
      exact Gv.pure ⟨lift this, hr.2.2⟩
    · have h := of_decide_eq_true h
      unfold lI at h
      refine Gv.bind (next_gv hr.2.2 (k := lI segs) (by unfold lI; omega) (by unfold lI; have := hs.1; omega)) fun s hs2 => ?_
      refine Gv.bind (Gv.rd (Q := fun w => w.size ≤ 100 ∧ Al fun n => p_text_Key n w = some true) hs2.1 hs2.2.1 hs.2) fun w hw => ?_
      have := ExG.mk' (D := 0) (P := 0) (part_segment hw.2) (by decide) hw.1 (by decide) (fun v hv => by cases hv) (by show 0 ≤ 20; decide) (fun x hx => by cases hx)
      exact Gv.pure ⟨lift this, hs2.2.2⟩
    · rw [e1]
      refine Gv.bind (ih r.2 hr.2.2) fun v hv => ?_
      have := ExG.mk' (D := 2 * L + 1) (P := exP L) (part_not (k := v.1)) (by decide) (by decide) (by decide) (fun v hv => by cases hv) (by show 1 ≤ 20; decide) (fun x hx => by
          obtain rfl : x = v.1 := by simpa using hx
          exact hv.1)
      exact Gv.pure ⟨this.le (by omega) (by simp only [exP, List.length_cons, List.length_nil]; omega), hv.2⟩
end Go.Proofs.YtjhbobacbaikoaaGreatDoor
