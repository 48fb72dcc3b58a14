/- A function of the program as a pure function, and that the program computes it. -/
import Derived.Test.YtjhbobacbaikoaaGreatDoorM4
import Derived.Test.YtjhbobacbaikoaaGreatDoorM7
import Derived.Test.YtjhbobacbaikoaaGreatDoorM8
import Derived.Test.YtjhbobacbaikoaaGreatDoorM5
import Derived.Test.YtjhbobacbaikoaaGreatDoorM6
namespace Go.Proofs.YtjhbobacbaikoaaGreatDoor
open Go
set_option linter.unusedVariables false
set_option linter.unusedSimpArgs false
set_option maxRecDepth 100000
def p_draw_Codes_Condition_K1 (n : Nat) (v72 : List Int) (v73 : Int) (v74 : Int) (v75 : ByteArray) (v76 : ByteArray) (v77 : List TValue) (v78 : List TExpr) : Option (TExpr × TCodes) :=
 some ((TExpr.mk v74 v75 v76 v77 v78), ({ glist := v72, gat := v73 } : TCodes))
def p_draw_Codes_Condition_L1 (n : Nat) (v111 : Int) (v112 : List Int) (v113 : Int) (v114 : Int) (v115 : ByteArray) (v116 : ByteArray) (v117 : List TValue) (v118 : List TExpr) : Option (TExpr × TCodes) := match n with
| 0 => none
| n + 1 =>
(p_draw_Codes_Next n ({ glist := v112, gat := v113 } : TCodes) 3).bind fun v119 =>
(bif decide (v111 < (w64 (9 + v119.1))) then
 p_draw_Codes_Condition_L1 n  (w64 (v111 + 1)) v119.2.glist v119.2.gat 4 ByteArray.empty ByteArray.empty ([]) ([(TExpr.mk v114 v115 v116 v117 v118)])
 else
 p_draw_Codes_Condition_K1 n  v119.2.glist v119.2.gat v114 v115 v116 v117 v118)
def p_draw_Codes_Condition_L2 (n : Nat) (x1 : TExpr) (v133 : Int) (v134 : List Int) (v135 : Int) (v136 : List TExpr) : Option (TExpr × TCodes) := match n with
| 0 => none
| n + 1 =>
(bif decide (v133 < 11) then
(appO 88 ([] : List TExpr) v136).bind fun v138 =>
(p_draw_Codes_Test n ({ glist := v134, gat := v135 } : TCodes)).bind fun v139 =>
(appO 88 v138 ([v139.1])).bind fun v140 =>
 p_draw_Codes_Condition_L2 n x1 (w64 (v133 + 1)) v139.2.glist v139.2.gat v140
 else
 p_draw_Codes_Condition_K1 n  v134 v135 x1.gOp x1.gKind x1.gName x1.gValues v136)
def p_draw_Codes_Condition_F (self_p_draw_Codes_Condition : TCodes → TExpr → Option (TExpr × TCodes)) (n : Nat) (x0 : TCodes) (x1 : TExpr) : Option (TExpr × TCodes) :=
(bif decide ((lI x1.gKids) > 0) then p_draw_Codes_Next n x0 3 else some (0, x0)).bind fun v1 =>
(bif (decide ((lI x1.gKids) > 0)) && (decide (v1.1 > 0)) then
(appO 88 ([] : List TExpr) x1.gKids).bind fun v3 =>
(p_draw_Codes_Next n v1.2 (lI v3)).bind fun v4 =>
(rdO v3 v4.1).bind fun v5 =>
(self_p_draw_Codes_Condition v4.2 v5).bind fun v6 =>
(rdO v3 v4.1).bind fun v7 =>
 some ((TExpr.mk x1.gOp x1.gKind x1.gName x1.gValues (v3.set (v4.1).toNat v6.1)), v6.2)
 else
(p_draw_Codes_Next n v1.2 10).bind fun v79 =>
(bif v79.1 == 0 then
(p_draw_Codes_Next n v79.2 18).bind fun v81 =>
 p_draw_Codes_Condition_K1 n  v81.2.glist v81.2.gat (w64 (v81.1 - 1)) x1.gKind x1.gName x1.gValues x1.gKids
 else
(bif v79.1 == 1 then
(p_draw_Codes_Name n v79.2).bind fun v83 =>
 p_draw_Codes_Condition_K1 n  v83.2.glist v83.2.gat x1.gOp v83.1 x1.gName x1.gValues x1.gKids
 else
(bif v79.1 == 2 then
(p_draw_Codes_Name n v79.2).bind fun v85 =>
 p_draw_Codes_Condition_K1 n  v85.2.glist v85.2.gat x1.gOp x1.gKind v85.1 x1.gValues x1.gKids
 else
(bif v79.1 == 3 then
(appO 56 ([] : List TValue) x1.gValues).bind fun v87 =>
(p_draw_Codes_Any n v79.2).bind fun v88 =>
(appO 56 v87 ([v88.1])).bind fun v89 =>
 p_draw_Codes_Condition_K1 n  v88.2.glist v88.2.gat x1.gOp x1.gKind x1.gName v89 x1.gKids
 else
(bif v79.1 == 4 then
 p_draw_Codes_Condition_K1 n  v79.2.glist v79.2.gat x1.gOp x1.gKind x1.gName ([]) x1.gKids
 else
(bif v79.1 == 5 then
(p_draw_Codes_Next n v79.2 7).bind fun v92 =>
(p_draw_Codes_Number n v92.2).bind fun v93 =>
 p_draw_Codes_Condition_K1 n  v93.2.glist v93.2.gat x1.gOp x1.gKind x1.gName ([({ gKind := v92.1, gNumber := v93.1, gText := ByteArray.empty, gList := [] } : TValue)]) x1.gKids
 else
(bif v79.1 == 6 then
(appO 88 ([] : List TExpr) x1.gKids).bind fun v95 =>
(p_draw_Codes_Test n v79.2).bind fun v96 =>
(appO 88 v95 ([v96.1])).bind fun v97 =>
 p_draw_Codes_Condition_K1 n  v96.2.glist v96.2.gat x1.gOp x1.gKind x1.gName x1.gValues v97
 else
(bif v79.1 == 7 then
 p_draw_Codes_Condition_L1 n  0 v79.2.glist v79.2.gat x1.gOp x1.gKind x1.gName x1.gValues x1.gKids
 else
(bif v79.1 == 8 then
 p_draw_Codes_Condition_L2 n x1 0 v79.2.glist v79.2.gat x1.gKids
 else
(bif v79.1 == 9 then
(p_draw_Codes_Test n v79.2).bind fun v142 =>
 p_draw_Codes_Condition_K1 n  v142.2.glist v142.2.gat 2 ByteArray.empty ByteArray.empty ([]) ([x1, v142.1])
 else
 p_draw_Codes_Condition_K1 n  v79.2.glist v79.2.gat x1.gOp x1.gKind x1.gName x1.gValues x1.gKids)))))))))))
def p_draw_Codes_Condition (n : Nat) (x0 : TCodes) (x1 : TExpr) : Option (TExpr × TCodes) := match n with
| 0 => none
| n + 1 => p_draw_Codes_Condition_F (p_draw_Codes_Condition n) n x0 x1
variable {E : Env}
theorem s_draw_Codes_Condition_F (hG : GlobD E) {self_p_draw_Codes_Condition : TCodes → TExpr → Option (TExpr × TCodes)} (hself_draw_Codes_Condition : ∀ {x0 : TCodes}, ∀ {x1 : TExpr}, ∀ {r : TExpr × TCodes}, self_p_draw_Codes_Condition x0 x1 = some r → Sp Tryz.prog E 14 [.ptr 0 0, .agg (TExpr.cs x1)] [.cells 101 (TCodes.cs x0)] (isA (.agg (TExpr.cs r.1)) [.cells 101 (TCodes.cs r.2)])) {n : Nat} {x0 : TCodes} {x1 : TExpr} {r : TExpr × TCodes} (H : p_draw_Codes_Condition_F self_p_draw_Codes_Condition n x0 x1 = some r) :
    Sp Tryz.prog E 14 [.ptr 0 0, .agg (TExpr.cs x1)] [.cells 101 (TCodes.cs x0)] (isA (.agg (TExpr.cs r.1)) [.cells 101 (TCodes.cs r.2)]) := by
  unfold p_draw_Codes_Condition_F at H
  refine Sp_fn Tryz.func14 rfl (fun hc hs => ?_)
  refine AWP_reg (R 2 125 [(0, .ptr 0 0), (3, .ptr 1 0), (4, .ptr 2 0)] [.cells 25 [iA 0, sA ByteArray.empty, sA ByteArray.empty, .ro .full 0 [], .ro .full 0 []], .cells 25 (TExpr.cs x1), .cells 101 (TCodes.cs x0)] (AOps_done (AWP_seq (AWP_reg (Rh 5 125 [(0, .ptr 0 0), (3, .ptr 1 0), (4, .ptr 2 0), (13, bA (decide ((lI x1.gKids) > 0)))] ?_)))))
  obtain ⟨v1, hv1, H⟩ := bind_some H
  refine AOps_cut 4 (st' := fr 125 [(0, .ptr 0 0), (3, .ptr 1 0), (4, .ptr 2 0), (17, bA ((decide ((lI x1.gKids) > 0)) && (decide (v1.1 > 0))))]) (h' := [.cells 25 [iA 0, sA ByteArray.empty, sA ByteArray.empty, .ro .full 0 [], .ro .full 0 []], .cells 25 (TExpr.cs x1), .cells 101 (TCodes.cs v1.2)]) ?_ ?_
  rotate_left
  · cases c1 : (decide ((lI x1.gKids) > 0) : Bool) with
    | true =>
      refine R 1 125 [(0, .ptr 0 0), (3, .ptr 1 0), (4, .ptr 2 0), (13, bA true), (14, .ptr 0 0)] [.cells 25 [iA 0, sA ByteArray.empty, sA ByteArray.empty, .ro .full 0 [], .ro .full 0 []], .cells 25 (TExpr.cs x1), .cells 101 (TCodes.cs x0)] ?_
      have hv1_ := cond_t hv1 (by simp only [c1] <;> rfl)
      refine AOps_call1 (d := (some 15)) (al := [.ptr 0 0, iA 3]) ([.ptr 0 0, iA 3]) (r := iA v1.1) (j := 0) (b' := .cells 101 (TCodes.cs v1.2)) (by kernel_rfl) rfl (s_draw_Codes_Next hv1_) (⟨(scl_cl_u8 _ _), trivial, trivial⟩) (⟨(scl_cl_u8 _ _), trivial, trivial⟩) ⟨Nat.zero_lt_one, trivial, trivial⟩ trivial rfl (h' := [.cells 25 [iA 0, sA ByteArray.empty, sA ByteArray.empty, .ro .full 0 [], .ro .full 0 []], .cells 25 (TExpr.cs x1), .cells 101 (TCodes.cs v1.2)]) rfl ?_
      refine R 2 125 [(0, .ptr 0 0), (3, .ptr 1 0), (4, .ptr 2 0), (17, bA (true && (decide (v1.1 > 0))))] [.cells 25 [iA 0, sA ByteArray.empty, sA ByteArray.empty, .ro .full 0 [], .ro .full 0 []], .cells 25 (TExpr.cs x1), .cells 101 (TCodes.cs v1.2)] ?_
      exact AOps_here [0, 3, 4, 17] (by kernel_rfl) rfl
    | false =>
      have hv1_ := Option.some.inj (cond_f hv1 (by simp only [c1] <;> rfl))
      refine R 4 125 [(0, .ptr 0 0), (3, .ptr 1 0), (4, .ptr 2 0), (17, bA (false && (decide (v1.1 > 0))))] [.cells 25 [iA 0, sA ByteArray.empty, sA ByteArray.empty, .ro .full 0 [], .ro .full 0 []], .cells 25 (TExpr.cs x1), .cells 101 (TCodes.cs x0)] ?_
      exact AOps_here [0, 3, 4, 17] (by kernel_rfl) (by rw [← hv1_] <;> rfl)
  refine AOps_done (CD H (fun hb2 H => ?_) (fun hb2 H => ?_))
  · refine AWP_reg (Rh 2 125 [(0, .ptr 0 0), (3, .ptr 1 0), (4, .ptr 2 0), (19, .ro .unk x1.gKids.length (TExpr.cl x1.gKids))] ?_)
    obtain ⟨v3, hv3, H⟩ := bind_some H
    refine AOps_append_nilO (d := (some 20)) (c := TExpr.cs) (sz := 5) (bs := 88) (e := 25) (ys := x1.gKids) (by kernel_rfl) rfl (eq_TExpr_cl _) (fun _ => rfl) (by kernel_rfl) (by kernel_rfl) hv3 (eq_TExpr_cl _) ?_
    refine R 2 125 [(0, .ptr 0 0), (3, .ptr 1 0), (4, .ptr 2 0)] [.cells 25 (TExpr.cl v3), .cells 25 [iA 0, sA ByteArray.empty, sA ByteArray.empty, .ro .full 0 [], .ro .full 0 []], .cells 25 [iA x1.gOp, sA x1.gKind, sA x1.gName, .ro .unk x1.gValues.length (TValue.cl x1.gValues), .sl 3 0 v3.length (.whole 5)], .cells 101 (TCodes.cs v1.2)] (AOps_done (AWP_reg (Rh 4 125 [(0, .ptr 0 0), (3, .ptr 1 0), (4, .ptr 2 0), (22, .ptr 0 0), (25, iA (lI v3))] ?_)))
    obtain ⟨v4, hv4, H⟩ := bind_some H
    refine AOps_call1 (d := (some 26)) (al := [.ptr 0 0, iA (lI v3)]) ([.ptr 0 0, iA (lI v3)]) (r := iA v4.1) (j := 0) (b' := .cells 101 (TCodes.cs v4.2)) (by kernel_rfl) rfl (s_draw_Codes_Next hv4) (⟨(scl_cl_u8 _ _), trivial, trivial⟩) (⟨(scl_cl_u8 _ _), trivial, trivial⟩) ⟨Nat.zero_lt_one, trivial, trivial⟩ trivial rfl (h' := [.cells 25 (TExpr.cl v3), .cells 25 [iA 0, sA ByteArray.empty, sA ByteArray.empty, .ro .full 0 [], .ro .full 0 []], .cells 25 [iA x1.gOp, sA x1.gKind, sA x1.gName, .ro .unk x1.gValues.length (TValue.cl x1.gValues), .sl 3 0 v3.length (.whole 5)], .cells 101 (TCodes.cs v4.2)]) rfl ?_
    refine Rh 1 125 [(0, .ptr 0 0), (3, .ptr 1 0), (4, .ptr 2 0), (5, iA v4.1)] (AOps_done ?_)
    obtain ⟨v5, hv5, H⟩ := bind_some H
    obtain ⟨v6, hv6, H⟩ := bind_some H
    obtain ⟨v7, hv7, H⟩ := bind_some H
    refine AWP_regD1 [0, 1, 2, 3, 4, 5, 6, 7, 8, 9, 10, 11] (N := 125) (f := [(0, .ptr 0 0), (3, .ptr 1 0), (4, .ptr 2 0), (5, iA v4.1)]) (leL_of [0, 3, 4, 5] (by kernel_rfl)) mixed (by kernel_rfl) (by kernel_rfl) (st' := fr 125 [(3, .ptr 1 0), (4, .ptr 2 0)]) (h' := [.cells 25 (TExpr.cl (v3.set (v4.1).toNat v6.1)), .cells 25 [iA 0, sA ByteArray.empty, sA ByteArray.empty, .ro .full 0 [], .ro .full 0 []], .cells 25 [iA x1.gOp, sA x1.gKind, sA x1.gName, .ro .unk x1.gValues.length (TValue.cl x1.gValues), .sl 3 0 (v3.set (v4.1).toNat v6.1).length (.whole 5)], .cells 101 (TCodes.cs v6.2)]) ?_ ?_
    rotate_left
    · refine RD 7 125 [(5, 1), (4, 1), (1, 1), (0, 1)] [(0, .ptr 0 0), (3, .ptr 1 0), (4, .ptr 2 0), (5, iA v4.1), (27, .ptr 1 4), (28, .sl 3 0 v3.length (.whole 5)), (29, iA v4.1), (30, .ptr 0 0), (31, .ptr 1 4), (32, .sl 3 0 v3.length (.whole 5)), (33, iA v4.1)] (AD_oidx (d := (some 34)) (id := 3) (off := 0) (j := v4.1) (m := v3.length) (sz := 5) (by kernel_rfl) (rdO_place hv5) ?_)
      refine AD_ldx (d := (some 35)) (id := 3) (t := 25) (v := .agg (TExpr.cs v5)) (by kernel_rfl) (ldx_of (c := TExpr.cs) (sz := 5) (eq_TExpr_cl) (fun _ => rfl) hv5 0 (by decide) (fun _ => by kernel_rfl)) ?_
      refine AD_call1 (d := (some 36)) (al := [.ptr 0 0, .agg (TExpr.cs v5)]) ([.ptr 0 0, .agg (TExpr.cs v5)]) (r := .agg (TExpr.cs v6.1)) (j := 0) (b' := .cells 101 (TCodes.cs v6.2)) (by kernel_rfl) rfl (hself_draw_Codes_Condition hv6) (⟨(scl_cl_u8 _ _), trivial, trivial⟩) (⟨(scl_cl_u8 _ _), trivial, trivial⟩) ⟨Nat.zero_lt_one, (sc_TExpr_cs _ _), trivial⟩ (sc_TExpr_cs _ _) rfl (h' := [.cells 25 (TExpr.cl v3), .cells 25 [iA 0, sA ByteArray.empty, sA ByteArray.empty, .ro .full 0 [], .ro .full 0 []], .cells 25 [iA x1.gOp, sA x1.gKind, sA x1.gName, .ro .unk x1.gValues.length (TValue.cl x1.gValues), .sl 3 0 v3.length (.whole 5)], .cells 101 (TCodes.cs v6.2)]) rfl ?_
      refine AD_oidx (d := (some 37)) (id := 3) (off := 0) (j := v4.1) (m := v3.length) (sz := 5) (by kernel_rfl) (rdO_place hv7) ?_
      refine AD_stx (d := none) (id := 3) (ty := 25) (vs := [iA v6.1.gOp, sA v6.1.gKind, sA v6.1.gName, .ro .unk v6.1.gValues.length (TValue.cl v6.1.gValues), .ro .unk v6.1.gKids.length (TExpr.cl v6.1.gKids)]) (cs' := TExpr.cl (v3.set (v4.1).toNat v6.1)) (by kernel_rfl) (stx_of (c := TExpr.cs) (cl := TExpr.cl) (y := v6.1) (sz := 5) eq_TExpr_cl (fun _ => rfl) hv7 0 (by kernel_rfl)) (by kernel_rfl) (h' := [.cells 25 (TExpr.cl (v3.set (v4.1).toNat v6.1)), .cells 25 [iA 0, sA ByteArray.empty, sA ByteArray.empty, .ro .full 0 [], .ro .full 0 []], .cells 25 [iA x1.gOp, sA x1.gKind, sA x1.gName, .ro .unk x1.gValues.length (TValue.cl x1.gValues), .sl 3 0 v3.length (.whole 5)], .cells 101 (TCodes.cs v6.2)]) rfl ?_
      refine RD 0 125 [(10, 3), (8, 3), (7, 3), (5, 1), (4, 1), (1, 1), (0, 1)] [(0, .ptr 0 0), (3, .ptr 1 0), (4, .ptr 2 0), (5, iA v4.1), (27, .ptr 1 4), (28, .sl 3 0 v3.length (.whole 5)), (29, iA v4.1), (30, .ptr 0 0), (31, .ptr 1 4), (32, .sl 3 0 v3.length (.whole 5)), (33, iA v4.1), (34, .ptr 3 (0 + (v4.1).toNat * 5)), (35, .agg (TExpr.cs v5)), (36, .agg (TExpr.cs v6.1)), (37, .ptr 3 (0 + (v4.1).toNat * 5))] (AD_same (st' := fr 125 [(0, .ptr 0 0), (3, .ptr 1 0), (4, .ptr 2 0), (5, iA v4.1), (27, .ptr 1 4), (28, .sl 3 0 (v3.set (v4.1).toNat v6.1).length (.whole 5)), (29, iA v4.1), (30, .ptr 0 0), (31, .ptr 1 4), (32, .sl 3 0 (v3.set (v4.1).toNat v6.1).length (.whole 5)), (33, iA v4.1), (34, .ptr 3 (0 + (v4.1).toNat * 5)), (35, .agg (TExpr.cs v5)), (36, .agg (TExpr.cs v6.1)), (37, .ptr 3 (0 + (v4.1).toNat * 5))]) (h' := [.cells 25 (TExpr.cl (v3.set (v4.1).toNat v6.1)), .cells 25 [iA 0, sA ByteArray.empty, sA ByteArray.empty, .ro .full 0 [], .ro .full 0 []], .cells 25 [iA x1.gOp, sA x1.gKind, sA x1.gName, .ro .unk x1.gValues.length (TValue.cl x1.gValues), .sl 3 0 (v3.set (v4.1).toNat v6.1).length (.whole 5)], .cells 101 (TCodes.cs v6.2)]) (by simp only [List.length_set]) (by simp only [List.length_set]) ?_)
      exact AD_here [3, 4] (by kernel_rfl) rfl
    refine AWP_reg (R 2 125 [(4, .ptr 2 0)] [.cells 25 (TExpr.cl (v3.set (v4.1).toNat v6.1)), .cells 25 [iA x1.gOp, sA x1.gKind, sA x1.gName, .ro .unk x1.gValues.length (TValue.cl x1.gValues), .sl 3 0 (v3.set (v4.1).toNat v6.1).length (.whole 5)], .cells 25 [iA x1.gOp, sA x1.gKind, sA x1.gName, .ro .unk x1.gValues.length (TValue.cl x1.gValues), .sl 3 0 (v3.set (v4.1).toNat v6.1).length (.whole 5)], .cells 101 (TCodes.cs v6.2)] (AOps_done (AWP_ret ?_)))
    have hr := Option.some.inj H
    subst hr
    exact Fin_retn 3 (l := [.agg [iA x1.gOp, sA x1.gKind, sA x1.gName, .ro .unk x1.gValues.length (TValue.cl x1.gValues), .sl 3 0 (v3.set (v4.1).toNat v6.1).length (.whole 5)]]) (h' := [.cells 101 (TCodes.cs v6.2)]) (by kernel_rfl) rfl (Nat.le_of_ble_eq_true rfl) ((by refine Closed_of ?_; exact ⟨⟨(scl_cl_u8 _ _), trivial, trivial⟩, trivial⟩)) (Frz_agg (FrzL_cons (Frz_sc trivial) (FrzL_cons (Frz_sc trivial) (FrzL_cons (Frz_sc trivial) (FrzL_cons (Frz_sc (scl_TValue_cl _ _)) (FrzL_cons (Frz_own (t := 25) (m2 := (v3.set (v4.1).toNat v6.1).length) (cs := TExpr.cl (v3.set (v4.1).toNat v6.1)) rfl rfl (Nat.le_of_ble_eq_true rfl) (scl_TExpr_cl _ _)) (FrzL_nil)))))) rfl) ⟨rfl, rfl⟩
  · refine AWP_skip ?_
    show AWP _ _ _ _ _ _ _
    refine AWP_joinN (α := (List Int) × Int × Int × ByteArray × ByteArray × (List TValue) × (List TExpr)) (fun ⟨v72, v73, v74, v75, v76, v77, v78⟩ => fr 125 [(3, .ptr 1 0), (4, .ptr 2 0)]) (fun ⟨v72, v73, v74, v75, v76, v77, v78⟩ => [.cells 25 [iA 0, sA ByteArray.empty, sA ByteArray.empty, .ro .full 0 [], .ro .full 0 []], .cells 25 [iA v74, sA v75, sA v76, .ro .unk v77.length (TValue.cl v77), .ro .unk v78.length (TExpr.cl v78)], .cells 101 [.ro .unk v72.length (cl_u8 v72), iA v73]]) (fun ⟨v72, v73, v74, v75, v76, v77, v78⟩ => ∃ q, q ≤ q ∧ p_draw_Codes_Condition_K1 q  v72 v73 v74 v75 v76 v77 v78 = some r) (fun a hC => ?_) ?_
    · obtain ⟨v72, v73, v74, v75, v76, v77, v78⟩ := a
      show AWP _ _ _ _ _ (fr 125 [(3, .ptr 1 0), (4, .ptr 2 0)]) [.cells 25 [iA 0, sA ByteArray.empty, sA ByteArray.empty, .ro .full 0 [], .ro .full 0 []], .cells 25 [iA v74, sA v75, sA v76, .ro .unk v77.length (TValue.cl v77), .ro .unk v78.length (TExpr.cl v78)], .cells 101 [.ro .unk v72.length (cl_u8 v72), iA v73]]
      obtain ⟨n, hn_, hC⟩ := hC
      replace H : p_draw_Codes_Condition_K1 n  v72 v73 v74 v75 v76 v77 v78 = some r := hC
      unfold p_draw_Codes_Condition_K1 at H
      refine AWP_reg (R 2 125 [(4, .ptr 2 0)] [.cells 25 [iA v74, sA v75, sA v76, .ro .unk v77.length (TValue.cl v77), .ro .unk v78.length (TExpr.cl v78)], .cells 25 [iA v74, sA v75, sA v76, .ro .unk v77.length (TValue.cl v77), .ro .unk v78.length (TExpr.cl v78)], .cells 101 [.ro .unk v72.length (cl_u8 v72), iA v73]] (AOps_done (AWP_ret ?_)))
      have hr := Option.some.inj H
      subst hr
      exact Fin_retn 2 (l := [.agg [iA v74, sA v75, sA v76, .ro .unk v77.length (TValue.cl v77), .ro .unk v78.length (TExpr.cl v78)]]) (h' := [.cells 101 [.ro .unk v72.length (cl_u8 v72), iA v73]]) (by kernel_rfl) rfl (Nat.le_of_ble_eq_true rfl) ((by refine Closed_of ?_; exact ⟨⟨(scl_cl_u8 _ _), trivial, trivial⟩, trivial⟩)) (Frz_sc ⟨trivial, trivial, trivial, (scl_TValue_cl _ _), (scl_TExpr_cl _ _), trivial⟩) ⟨rfl, rfl⟩
    · refine AWP_reg (Rh 1 125 [(0, .ptr 0 0), (3, .ptr 1 0), (4, .ptr 2 0), (39, .ptr 0 0)] ?_)
      obtain ⟨v79, hv79, H⟩ := bind_some H
      refine AOps_call1 (d := (some 40)) (al := [.ptr 0 0, iA 10]) ([.ptr 0 0, iA 10]) (r := iA v79.1) (j := 0) (b' := .cells 101 (TCodes.cs v79.2)) (by kernel_rfl) rfl (s_draw_Codes_Next hv79) (⟨(scl_cl_u8 _ _), trivial, trivial⟩) (⟨(scl_cl_u8 _ _), trivial, trivial⟩) ⟨Nat.zero_lt_one, trivial, trivial⟩ trivial rfl (h' := [.cells 25 [iA 0, sA ByteArray.empty, sA ByteArray.empty, .ro .full 0 [], .ro .full 0 []], .cells 25 (TExpr.cs x1), .cells 101 (TCodes.cs v79.2)]) rfl ?_
      refine AOps_done (AWP_block ?_)
      refine AWP_reg (Rh 2 125 [(0, .ptr 0 0), (3, .ptr 1 0), (4, .ptr 2 0), (40, iA v79.1), (41, bA (v79.1 == 0))] (AOps_done (CD H (fun hb80 H => ?_) (fun hb80 H => ?_))))
      · refine AWP_region ?_
        refine Rh 1 125 [(3, .ptr 1 0), (4, .ptr 2 0), (43, .ptr 0 0)] ?_
        obtain ⟨v81, hv81, H⟩ := bind_some H
        refine AOps_call1 (d := (some 44)) (al := [.ptr 0 0, iA 18]) ([.ptr 0 0, iA 18]) (r := iA v81.1) (j := 0) (b' := .cells 101 (TCodes.cs v81.2)) (by kernel_rfl) rfl (s_draw_Codes_Next hv81) (⟨(scl_cl_u8 _ _), trivial, trivial⟩) (⟨(scl_cl_u8 _ _), trivial, trivial⟩) ⟨Nat.zero_lt_one, trivial, trivial⟩ trivial rfl (h' := [.cells 25 [iA 0, sA ByteArray.empty, sA ByteArray.empty, .ro .full 0 [], .ro .full 0 []], .cells 25 (TExpr.cs x1), .cells 101 (TCodes.cs v81.2)]) rfl ?_
        refine R 3 125 [(3, .ptr 1 0), (4, .ptr 2 0)] [.cells 25 [iA 0, sA ByteArray.empty, sA ByteArray.empty, .ro .full 0 [], .ro .full 0 []], .cells 25 [iA (w64 (v81.1 - 1)), sA x1.gKind, sA x1.gName, .ro .unk x1.gValues.length (TValue.cl x1.gValues), .ro .unk x1.gKids.length (TExpr.cl x1.gKids)], .cells 101 (TCodes.cs v81.2)] (AOps_done ?_)
        exact Exists.intro (v81.2.glist, v81.2.gat, w64 (v81.1 - 1), x1.gKind, x1.gName, x1.gValues, x1.gKids) ⟨⟨n, by omega, H⟩, Norm_fd [3, 4] 0 (by kernel_rfl) rfl rfl ⟨⟨trivial, trivial, trivial, trivial, trivial, trivial⟩, ⟨trivial, trivial, trivial, (scl_TValue_cl _ _), (scl_TExpr_cl _ _), trivial⟩, ⟨(scl_cl_u8 _ _), trivial, trivial⟩, trivial⟩ (by refine scL_fr ?_; exact ⟨(sc_ptr rfl), (sc_ptr rfl), trivial⟩)⟩
      · refine AWP_reg (Rh 2 125 [(0, .ptr 0 0), (3, .ptr 1 0), (4, .ptr 2 0), (40, iA v79.1), (47, bA (v79.1 == 1))] (AOps_done (CD H (fun hb82 H => ?_) (fun hb82 H => ?_))))
        · refine AWP_region ?_
          refine Rh 1 125 [(3, .ptr 1 0), (4, .ptr 2 0), (49, .ptr 0 0)] ?_
          obtain ⟨v83, hv83, H⟩ := bind_some H
          refine AOps_call1 (d := (some 50)) (al := [.ptr 0 0]) ([.ptr 0 0]) (r := sA v83.1) (j := 0) (b' := .cells 101 (TCodes.cs v83.2)) (by kernel_rfl) rfl (s_draw_Codes_Name hv83) (⟨(scl_cl_u8 _ _), trivial, trivial⟩) (⟨(scl_cl_u8 _ _), trivial, trivial⟩) ⟨Nat.zero_lt_one, trivial⟩ trivial rfl (h' := [.cells 25 [iA 0, sA ByteArray.empty, sA ByteArray.empty, .ro .full 0 [], .ro .full 0 []], .cells 25 (TExpr.cs x1), .cells 101 (TCodes.cs v83.2)]) rfl ?_
          refine R 2 125 [(3, .ptr 1 0), (4, .ptr 2 0)] [.cells 25 [iA 0, sA ByteArray.empty, sA ByteArray.empty, .ro .full 0 [], .ro .full 0 []], .cells 25 [iA x1.gOp, sA v83.1, sA x1.gName, .ro .unk x1.gValues.length (TValue.cl x1.gValues), .ro .unk x1.gKids.length (TExpr.cl x1.gKids)], .cells 101 (TCodes.cs v83.2)] (AOps_done ?_)
          exact Exists.intro (v83.2.glist, v83.2.gat, x1.gOp, v83.1, x1.gName, x1.gValues, x1.gKids) ⟨⟨n, by omega, H⟩, Norm_fd [3, 4] 0 (by kernel_rfl) rfl rfl ⟨⟨trivial, trivial, trivial, trivial, trivial, trivial⟩, ⟨trivial, trivial, trivial, (scl_TValue_cl _ _), (scl_TExpr_cl _ _), trivial⟩, ⟨(scl_cl_u8 _ _), trivial, trivial⟩, trivial⟩ (by refine scL_fr ?_; exact ⟨(sc_ptr rfl), (sc_ptr rfl), trivial⟩)⟩
        · refine AWP_reg (Rh 2 125 [(0, .ptr 0 0), (3, .ptr 1 0), (4, .ptr 2 0), (40, iA v79.1), (52, bA (v79.1 == 2))] (AOps_done (CD H (fun hb84 H => ?_) (fun hb84 H => ?_))))
          · refine AWP_region ?_
            refine Rh 1 125 [(3, .ptr 1 0), (4, .ptr 2 0), (54, .ptr 0 0)] ?_
            obtain ⟨v85, hv85, H⟩ := bind_some H
            refine AOps_call1 (d := (some 55)) (al := [.ptr 0 0]) ([.ptr 0 0]) (r := sA v85.1) (j := 0) (b' := .cells 101 (TCodes.cs v85.2)) (by kernel_rfl) rfl (s_draw_Codes_Name hv85) (⟨(scl_cl_u8 _ _), trivial, trivial⟩) (⟨(scl_cl_u8 _ _), trivial, trivial⟩) ⟨Nat.zero_lt_one, trivial⟩ trivial rfl (h' := [.cells 25 [iA 0, sA ByteArray.empty, sA ByteArray.empty, .ro .full 0 [], .ro .full 0 []], .cells 25 (TExpr.cs x1), .cells 101 (TCodes.cs v85.2)]) rfl ?_
            refine R 2 125 [(3, .ptr 1 0), (4, .ptr 2 0)] [.cells 25 [iA 0, sA ByteArray.empty, sA ByteArray.empty, .ro .full 0 [], .ro .full 0 []], .cells 25 [iA x1.gOp, sA x1.gKind, sA v85.1, .ro .unk x1.gValues.length (TValue.cl x1.gValues), .ro .unk x1.gKids.length (TExpr.cl x1.gKids)], .cells 101 (TCodes.cs v85.2)] (AOps_done ?_)
            exact Exists.intro (v85.2.glist, v85.2.gat, x1.gOp, x1.gKind, v85.1, x1.gValues, x1.gKids) ⟨⟨n, by omega, H⟩, Norm_fd [3, 4] 0 (by kernel_rfl) rfl rfl ⟨⟨trivial, trivial, trivial, trivial, trivial, trivial⟩, ⟨trivial, trivial, trivial, (scl_TValue_cl _ _), (scl_TExpr_cl _ _), trivial⟩, ⟨(scl_cl_u8 _ _), trivial, trivial⟩, trivial⟩ (by refine scL_fr ?_; exact ⟨(sc_ptr rfl), (sc_ptr rfl), trivial⟩)⟩
          · refine AWP_reg (Rh 2 125 [(0, .ptr 0 0), (3, .ptr 1 0), (4, .ptr 2 0), (40, iA v79.1), (57, bA (v79.1 == 3))] (AOps_done (CD H (fun hb86 H => ?_) (fun hb86 H => ?_))))
            · refine AWP_region ?_
              refine Rh 2 125 [(0, .ptr 0 0), (3, .ptr 1 0), (4, .ptr 2 0), (60, .ro .unk x1.gValues.length (TValue.cl x1.gValues))] ?_
              obtain ⟨v87, hv87, H⟩ := bind_some H
              refine AOps_append_nil (d := (some 61)) (c := TValue.cs) (sz := 4) (bs := 56) (e := 58) (ys := x1.gValues) (by kernel_rfl) rfl (eq_TValue_cl _) (fun _ => rfl) (by kernel_rfl) (by kernel_rfl) hv87 (eq_TValue_cl _) ?_
              refine Rh 1 125 [(3, .ptr 1 0), (4, .ptr 2 0), (61, .sl 3 0 v87.length (.whole 4)), (62, .ptr 0 0)] ?_
              obtain ⟨v88, hv88, H⟩ := bind_some H
              refine AOps_call1 (d := (some 63)) (al := [.ptr 0 0]) ([.ptr 0 0]) (r := .agg (TValue.cs v88.1)) (j := 0) (b' := .cells 101 (TCodes.cs v88.2)) (by kernel_rfl) rfl (s_draw_Codes_Any hG hv88) (⟨(scl_cl_u8 _ _), trivial, trivial⟩) (⟨(scl_cl_u8 _ _), trivial, trivial⟩) ⟨Nat.zero_lt_one, trivial⟩ (sc_TValue_cs _ _) rfl (h' := [.row 58 (TValue.cl v87), .cells 25 [iA 0, sA ByteArray.empty, sA ByteArray.empty, .ro .full 0 [], .ro .full 0 []], .cells 25 (TExpr.cs x1), .cells 101 (TCodes.cs v88.2)]) rfl ?_
              refine AOps_bsl (d := (some 64)) (m := 1) (cs := [iA v88.1.gKind, iA v88.1.gNumber, sA v88.1.gText, .ro .unk v88.1.gList.length (cl_str v88.1.gList)]) (by kernel_rfl) ⟨trivial, trivial, trivial, (scl_cl_str _ _), trivial⟩ ?_
              obtain ⟨v89, hv89, H⟩ := bind_some H
              refine AOps_append (d := (some 65)) (c := TValue.cs) (sz := 4) (bs := 56) (e := 58) (id := 3) (xs := v87) (ys := [v88.1]) (by kernel_rfl) rfl (eq_TValue_cl _) rfl (eq_TValue_cl _) (fun _ => rfl) (by kernel_rfl) (by kernel_rfl) hv89 (eq_TValue_cl _) (h' := [.row 58 (TValue.cl v89), .dead, .cells 25 [iA 0, sA ByteArray.empty, sA ByteArray.empty, .ro .full 0 [], .ro .full 0 []], .cells 25 (TExpr.cs x1), .cells 101 (TCodes.cs v88.2)]) rfl ?_
              refine R 2 125 [(3, .ptr 1 0), (4, .ptr 2 0)] [.row 58 (TValue.cl v89), .dead, .cells 25 [iA 0, sA ByteArray.empty, sA ByteArray.empty, .ro .full 0 [], .ro .full 0 []], .cells 25 [iA x1.gOp, sA x1.gKind, sA x1.gName, .sl 4 0 v89.length (.whole 4), .ro .unk x1.gKids.length (TExpr.cl x1.gKids)], .cells 101 (TCodes.cs v88.2)] (AOps_done ?_)
              exact Exists.intro (v88.2.glist, v88.2.gat, x1.gOp, x1.gKind, x1.gName, v89, x1.gKids) ⟨⟨n, by omega, H⟩, Norm_trans (Norm_fd (st' := fr 125 [(3, .ptr 1 0), (4, .ptr 2 0)]) (h' := [.row 58 (TValue.cl v89), .dead, .cells 25 [iA 0, sA ByteArray.empty, sA ByteArray.empty, .ro .full 0 [], .ro .full 0 []], .cells 25 [iA x1.gOp, sA x1.gKind, sA x1.gName, .sl 4 0 v89.length (.whole 4), .ro .unk x1.gKids.length (TExpr.cl x1.gKids)], .cells 101 (TCodes.cs v88.2)]) [3, 4] 0 (by kernel_rfl) rfl rfl ⟨(scl_TValue_cl _ _), trivial, ⟨trivial, trivial, trivial, trivial, trivial, trivial⟩, ⟨trivial, trivial, trivial, (sc_sl rfl), (scl_TExpr_cl _ _), trivial⟩, ⟨(scl_cl_u8 _ _), trivial, trivial⟩, trivial⟩ (by refine scL_fr ?_; exact ⟨(sc_ptr rfl), (sc_ptr rfl), trivial⟩)) (Norm_trans (Norm_cfrz (h' := [.row 58 (TValue.cl v89), .dead, .cells 25 [iA 0, sA ByteArray.empty, sA ByteArray.empty, .ro .full 0 [], .ro .full 0 []], .cells 25 [iA x1.gOp, sA x1.gKind, sA x1.gName, .ro .unk v89.length (TValue.cl v89), .ro .unk x1.gKids.length (TExpr.cl x1.gKids)], .cells 101 (TCodes.cs v88.2)]) 1 rfl (FrzL_cons (Frz_sc trivial) (FrzL_cons (Frz_sc trivial) (FrzL_cons (Frz_sc trivial) (FrzL_cons (Frz_row (t := 58) (cs := TValue.cl v89) rfl (scl_TValue_cl _ _)) (FrzL_cons (Frz_sc (scl_TExpr_cl _ _)) (FrzL_nil)))))) rfl rfl) (Norm_fd [3, 4] 2 (by kernel_rfl) rfl rfl ⟨⟨trivial, trivial, trivial, trivial, trivial, trivial⟩, ⟨trivial, trivial, trivial, (scl_TValue_cl _ _), (scl_TExpr_cl _ _), trivial⟩, ⟨(scl_cl_u8 _ _), trivial, trivial⟩, trivial⟩ (by refine scL_fr ?_; exact ⟨(sc_ptr rfl), (sc_ptr rfl), trivial⟩)))⟩
            · refine AWP_reg (Rh 2 125 [(0, .ptr 0 0), (3, .ptr 1 0), (4, .ptr 2 0), (40, iA v79.1), (67, bA (v79.1 == 4))] (AOps_done (CD H (fun hb90 H => ?_) (fun hb90 H => ?_))))
              · refine AWP_region ?_
                refine R 2 125 [(3, .ptr 1 0), (4, .ptr 2 0)] [.cells 25 [iA 0, sA ByteArray.empty, sA ByteArray.empty, .ro .full 0 [], .ro .full 0 []], .cells 25 [iA x1.gOp, sA x1.gKind, sA x1.gName, .ro .full 0 [], .ro .unk x1.gKids.length (TExpr.cl x1.gKids)], .cells 101 (TCodes.cs v79.2)] (AOps_done ?_)
                exact Exists.intro (v79.2.glist, v79.2.gat, x1.gOp, x1.gKind, x1.gName, [], x1.gKids) ⟨⟨n, by omega, H⟩, Norm_trans (Norm_cle (h' := [.cells 25 [iA 0, sA ByteArray.empty, sA ByteArray.empty, .ro .full 0 [], .ro .full 0 []], .cells 25 [iA x1.gOp, sA x1.gKind, sA x1.gName, .ro .unk ([] : List TValue).length (TValue.cl ([] : List TValue)), .ro .unk x1.gKids.length (TExpr.cl x1.gKids)], .cells 101 (TCodes.cs v79.2)]) 1 rfl (leL_cons (AV.le_refl _) (leL_cons (AV.le_refl _) (leL_cons (AV.le_refl _) (leL_cons (AV.le_ro _ _ _) (leL_refl _))))) rfl rfl) (Norm_fd [3, 4] 0 (by kernel_rfl) rfl rfl ⟨⟨trivial, trivial, trivial, trivial, trivial, trivial⟩, ⟨trivial, trivial, trivial, (scl_TValue_cl _ _), (scl_TExpr_cl _ _), trivial⟩, ⟨(scl_cl_u8 _ _), trivial, trivial⟩, trivial⟩ (by refine scL_fr ?_; exact ⟨(sc_ptr rfl), (sc_ptr rfl), trivial⟩))⟩
              · refine AWP_reg (Rh 2 125 [(0, .ptr 0 0), (3, .ptr 1 0), (4, .ptr 2 0), (40, iA v79.1), (70, bA (v79.1 == 5))] (AOps_done (CD H (fun hb91 H => ?_) (fun hb91 H => ?_))))
                · refine AWP_region ?_
                  refine Rh 1 125 [(0, .ptr 0 0), (3, .ptr 1 0), (4, .ptr 2 0), (72, .ptr 0 0)] ?_
                  obtain ⟨v92, hv92, H⟩ := bind_some H
                  refine AOps_call1 (d := (some 73)) (al := [.ptr 0 0, iA 7]) ([.ptr 0 0, iA 7]) (r := iA v92.1) (j := 0) (b' := .cells 101 (TCodes.cs v92.2)) (by kernel_rfl) rfl (s_draw_Codes_Next hv92) (⟨(scl_cl_u8 _ _), trivial, trivial⟩) (⟨(scl_cl_u8 _ _), trivial, trivial⟩) ⟨Nat.zero_lt_one, trivial, trivial⟩ trivial rfl (h' := [.cells 25 [iA 0, sA ByteArray.empty, sA ByteArray.empty, .ro .full 0 [], .ro .full 0 []], .cells 25 (TExpr.cs x1), .cells 101 (TCodes.cs v92.2)]) rfl ?_
                  refine Rh 1 125 [(3, .ptr 1 0), (4, .ptr 2 0), (73, iA v92.1), (74, .ptr 0 0)] ?_
                  obtain ⟨v93, hv93, H⟩ := bind_some H
                  refine AOps_call1 (d := (some 75)) (al := [.ptr 0 0]) ([.ptr 0 0]) (r := iA v93.1) (j := 0) (b' := .cells 101 (TCodes.cs v93.2)) (by kernel_rfl) rfl (s_draw_Codes_Number hv93) (⟨(scl_cl_u8 _ _), trivial, trivial⟩) (⟨(scl_cl_u8 _ _), trivial, trivial⟩) ⟨Nat.zero_lt_one, trivial⟩ trivial rfl (h' := [.cells 25 [iA 0, sA ByteArray.empty, sA ByteArray.empty, .ro .full 0 [], .ro .full 0 []], .cells 25 (TExpr.cs x1), .cells 101 (TCodes.cs v93.2)]) rfl ?_
                  refine Rh 1 125 [(3, .ptr 1 0), (4, .ptr 2 0), (76, .agg [iA v92.1, iA v93.1, sA ByteArray.empty, .ro .full 0 []])] (AOps_bsl2 (d := (some 77)) (m := 1) (cs := [iA v92.1, iA v93.1, sA ByteArray.empty, .ro .full 0 []]) [iA v92.1, iA v93.1, sA ByteArray.empty, .ro .unk ([] : List ByteArray).length (cl_str ([] : List ByteArray))] (by kernel_rfl) ⟨trivial, trivial, trivial, trivial, trivial⟩ (leL_cons (AV.le_refl _) (leL_cons (AV.le_refl _) (leL_cons (AV.le_refl _) (leL_cons (AV.le_ro _ _ _) (leL_refl _))))) rfl ?_)
                  refine R 2 125 [(3, .ptr 1 0), (4, .ptr 2 0)] [.cells 25 [iA 0, sA ByteArray.empty, sA ByteArray.empty, .ro .full 0 [], .ro .full 0 []], .cells 25 [iA x1.gOp, sA x1.gKind, sA x1.gName, .ro .unk ([({ gKind := v92.1, gNumber := v93.1, gText := ByteArray.empty, gList := [] } : TValue)]).length (TValue.cl ([({ gKind := v92.1, gNumber := v93.1, gText := ByteArray.empty, gList := [] } : TValue)])), .ro .unk x1.gKids.length (TExpr.cl x1.gKids)], .cells 101 (TCodes.cs v93.2)] (AOps_done ?_)
                  exact Exists.intro (v93.2.glist, v93.2.gat, x1.gOp, x1.gKind, x1.gName, [({ gKind := v92.1, gNumber := v93.1, gText := ByteArray.empty, gList := [] } : TValue)], x1.gKids) ⟨⟨n, by omega, H⟩, Norm_fd [3, 4] 0 (by kernel_rfl) rfl rfl ⟨⟨trivial, trivial, trivial, trivial, trivial, trivial⟩, ⟨trivial, trivial, trivial, (scl_TValue_cl _ _), (scl_TExpr_cl _ _), trivial⟩, ⟨(scl_cl_u8 _ _), trivial, trivial⟩, trivial⟩ (by refine scL_fr ?_; exact ⟨(sc_ptr rfl), (sc_ptr rfl), trivial⟩)⟩
                · refine AWP_reg (Rh 2 125 [(0, .ptr 0 0), (3, .ptr 1 0), (4, .ptr 2 0), (40, iA v79.1), (79, bA (v79.1 == 6))] (AOps_done (CD H (fun hb94 H => ?_) (fun hb94 H => ?_))))
                  · refine AWP_region ?_
                    refine Rh 2 125 [(0, .ptr 0 0), (3, .ptr 1 0), (4, .ptr 2 0), (82, .ro .unk x1.gKids.length (TExpr.cl x1.gKids))] ?_
                    obtain ⟨v95, hv95, H⟩ := bind_some H
                    refine AOps_append_nilO (d := (some 83)) (c := TExpr.cs) (sz := 5) (bs := 88) (e := 25) (ys := x1.gKids) (by kernel_rfl) rfl (eq_TExpr_cl _) (fun _ => rfl) (by kernel_rfl) (by kernel_rfl) hv95 (eq_TExpr_cl _) ?_
                    refine Rh 1 125 [(3, .ptr 1 0), (4, .ptr 2 0), (83, .sl 3 0 v95.length (.whole 5)), (84, .ptr 0 0)] ?_
                    obtain ⟨v96, hv96, H⟩ := bind_some H
                    refine AOps_call1 (d := (some 85)) (al := [.ptr 0 0]) ([.ptr 0 0]) (r := .agg (TExpr.cs v96.1)) (j := 0) (b' := .cells 101 (TCodes.cs v96.2)) (by kernel_rfl) rfl (s_draw_Codes_Test hG hv96) (⟨(scl_cl_u8 _ _), trivial, trivial⟩) (⟨(scl_cl_u8 _ _), trivial, trivial⟩) ⟨Nat.zero_lt_one, trivial⟩ (sc_TExpr_cs _ _) rfl (h' := [.cells 25 (TExpr.cl v95), .cells 25 [iA 0, sA ByteArray.empty, sA ByteArray.empty, .ro .full 0 [], .ro .full 0 []], .cells 25 (TExpr.cs x1), .cells 101 (TCodes.cs v96.2)]) rfl ?_
                    refine AOps_bsl (d := (some 86)) (m := 1) (cs := [iA v96.1.gOp, sA v96.1.gKind, sA v96.1.gName, .ro .unk v96.1.gValues.length (TValue.cl v96.1.gValues), .ro .unk v96.1.gKids.length (TExpr.cl v96.1.gKids)]) (by kernel_rfl) ⟨trivial, trivial, trivial, (scl_TValue_cl _ _), (scl_TExpr_cl _ _), trivial⟩ ?_
                    refine AOps_cast (d := (some 86)) (v' := .ro .unk ([v96.1]).length (TExpr.cl ([v96.1]))) (congrArg (AV.ro .unk 1) (eq_TExpr_cl ([v96.1])).symm) ?_
                    obtain ⟨v97, hv97, H⟩ := bind_some H
                    refine AOps_appendO (d := (some 87)) (c := TExpr.cs) (sz := 5) (bs := 88) (e := 25) (id := 3) (xs := v95) (ys := [v96.1]) (by kernel_rfl) rfl (eq_TExpr_cl _) rfl (eq_TExpr_cl _) (fun _ => rfl) (by kernel_rfl) (by kernel_rfl) hv97 (eq_TExpr_cl _) (h' := [.cells 25 (TExpr.cl v97), .dead, .cells 25 [iA 0, sA ByteArray.empty, sA ByteArray.empty, .ro .full 0 [], .ro .full 0 []], .cells 25 (TExpr.cs x1), .cells 101 (TCodes.cs v96.2)]) rfl ?_
                    refine R 2 125 [(3, .ptr 1 0), (4, .ptr 2 0)] [.cells 25 (TExpr.cl v97), .dead, .cells 25 [iA 0, sA ByteArray.empty, sA ByteArray.empty, .ro .full 0 [], .ro .full 0 []], .cells 25 [iA x1.gOp, sA x1.gKind, sA x1.gName, .ro .unk x1.gValues.length (TValue.cl x1.gValues), .sl 4 0 v97.length (.whole 5)], .cells 101 (TCodes.cs v96.2)] (AOps_done ?_)
                    exact Exists.intro (v96.2.glist, v96.2.gat, x1.gOp, x1.gKind, x1.gName, x1.gValues, v97) ⟨⟨n, by omega, H⟩, Norm_trans (Norm_fd (st' := fr 125 [(3, .ptr 1 0), (4, .ptr 2 0)]) (h' := [.cells 25 (TExpr.cl v97), .dead, .cells 25 [iA 0, sA ByteArray.empty, sA ByteArray.empty, .ro .full 0 [], .ro .full 0 []], .cells 25 [iA x1.gOp, sA x1.gKind, sA x1.gName, .ro .unk x1.gValues.length (TValue.cl x1.gValues), .sl 4 0 v97.length (.whole 5)], .cells 101 (TCodes.cs v96.2)]) [3, 4] 0 (by kernel_rfl) rfl rfl ⟨(scl_TExpr_cl _ _), trivial, ⟨trivial, trivial, trivial, trivial, trivial, trivial⟩, ⟨trivial, trivial, trivial, (scl_TValue_cl _ _), (sc_sl rfl), trivial⟩, ⟨(scl_cl_u8 _ _), trivial, trivial⟩, trivial⟩ (by refine scL_fr ?_; exact ⟨(sc_ptr rfl), (sc_ptr rfl), trivial⟩)) (Norm_trans (Norm_o2r 4 rfl (h' := [.row 25 (TExpr.cl v97), .dead, .cells 25 [iA 0, sA ByteArray.empty, sA ByteArray.empty, .ro .full 0 [], .ro .full 0 []], .cells 25 [iA x1.gOp, sA x1.gKind, sA x1.gName, .ro .unk x1.gValues.length (TValue.cl x1.gValues), .sl 4 0 v97.length (.whole 5)], .cells 101 (TCodes.cs v96.2)]) rfl) (Norm_trans (Norm_cfrz (h' := [.row 25 (TExpr.cl v97), .dead, .cells 25 [iA 0, sA ByteArray.empty, sA ByteArray.empty, .ro .full 0 [], .ro .full 0 []], .cells 25 [iA x1.gOp, sA x1.gKind, sA x1.gName, .ro .unk x1.gValues.length (TValue.cl x1.gValues), .ro .unk v97.length (TExpr.cl v97)], .cells 101 (TCodes.cs v96.2)]) 1 rfl (FrzL_cons (Frz_sc trivial) (FrzL_cons (Frz_sc trivial) (FrzL_cons (Frz_sc trivial) (FrzL_cons (Frz_sc (scl_TValue_cl _ _)) (FrzL_cons (Frz_row (t := 25) (cs := TExpr.cl v97) rfl (scl_TExpr_cl _ _)) (FrzL_nil)))))) rfl rfl) (Norm_fd [3, 4] 2 (by kernel_rfl) rfl rfl ⟨⟨trivial, trivial, trivial, trivial, trivial, trivial⟩, ⟨trivial, trivial, trivial, (scl_TValue_cl _ _), (scl_TExpr_cl _ _), trivial⟩, ⟨(scl_cl_u8 _ _), trivial, trivial⟩, trivial⟩ (by refine scL_fr ?_; exact ⟨(sc_ptr rfl), (sc_ptr rfl), trivial⟩))))⟩
                  · refine AWP_reg (Rh 2 125 [(0, .ptr 0 0), (3, .ptr 1 0), (4, .ptr 2 0), (40, iA v79.1), (89, bA (v79.1 == 7))] (AOps_done (CD H (fun hb98 H => ?_) (fun hb98 H => ?_))))
                    · refine AWP_reg (Rh 1 125 [(0, .ptr 0 0), (3, .ptr 1 0), (4, .ptr 2 0), (6, iA 0)] (AOps_done (AWP_block ?_)))
                      refine AWP_loopN (α := Int × (List Int) × Int × Int × ByteArray × ByteArray × (List TValue) × (List TExpr)) (fun ⟨v111, v112, v113, v114, v115, v116, v117, v118⟩ => fr 125 [(0, .ptr 0 0), (3, .ptr 1 0), (4, .ptr 2 0), (6, iA v111)]) (fun ⟨v111, v112, v113, v114, v115, v116, v117, v118⟩ => [.cells 25 [iA 0, sA ByteArray.empty, sA ByteArray.empty, .ro .full 0 [], .ro .full 0 []], .cells 25 [iA v114, sA v115, sA v116, .ro .unk v117.length (TValue.cl v117), .ro .unk v118.length (TExpr.cl v118)], .cells 101 [.ro .unk v112.length (cl_u8 v112), iA v113]]) (fun k_ ⟨v111, v112, v113, v114, v115, v116, v117, v118⟩ => k_ ≤ n ∧ p_draw_Codes_Condition_L1 k_  v111 v112 v113 v114 v115 v116 v117 v118 = some r) (fun n a H => ?_) (k := n) (0, v79.2.glist, v79.2.gat, x1.gOp, x1.gKind, x1.gName, x1.gValues, x1.gKids) ⟨Nat.le_refl _, H⟩ (Norm_fd [0, 3, 4, 6] 0 (by kernel_rfl) rfl rfl ⟨⟨trivial, trivial, trivial, trivial, trivial, trivial⟩, ⟨trivial, trivial, trivial, (scl_TValue_cl _ _), (scl_TExpr_cl _ _), trivial⟩, ⟨(scl_cl_u8 _ _), trivial, trivial⟩, trivial⟩ (by refine scL_fr ?_; exact ⟨(sc_ptr rfl), (sc_ptr rfl), (sc_ptr rfl), trivial, trivial⟩))
                      obtain ⟨v111, v112, v113, v114, v115, v116, v117, v118⟩ := a
                      show AWP _ _ _ _ _ (fr 125 [(0, .ptr 0 0), (3, .ptr 1 0), (4, .ptr 2 0), (6, iA v111)]) [.cells 25 [iA 0, sA ByteArray.empty, sA ByteArray.empty, .ro .full 0 [], .ro .full 0 []], .cells 25 [iA v114, sA v115, sA v116, .ro .unk v117.length (TValue.cl v117), .ro .unk v118.length (TExpr.cl v118)], .cells 101 [.ro .unk v112.length (cl_u8 v112), iA v113]]
                      obtain ⟨hb_, H⟩ := H
                      replace H : p_draw_Codes_Condition_L1 n  v111 v112 v113 v114 v115 v116 v117 v118 = some r := H
                      cases n with
                      | zero => exact not_none (by simpa only [p_draw_Codes_Condition_L1] using H)
                      | succ n =>
                        unfold p_draw_Codes_Condition_L1 at H
                        refine AWP_seq (AWP_reg (Rh 2 125 [(0, .ptr 0 0), (3, .ptr 1 0), (4, .ptr 2 0), (6, iA v111), (91, iA v111), (92, .ptr 0 0)] ?_))
                        obtain ⟨v119, hv119, H⟩ := bind_some H
                        refine AOps_call1 (d := (some 93)) (al := [.ptr 0 0, iA 3]) ([.ptr 0 0, iA 3]) (r := iA v119.1) (j := 0) (b' := .cells 101 (TCodes.cs v119.2)) (by kernel_rfl) rfl (s_draw_Codes_Next hv119) (⟨(scl_cl_u8 _ _), trivial, trivial⟩) (⟨(scl_cl_u8 _ _), trivial, trivial⟩) ⟨Nat.zero_lt_one, trivial, trivial⟩ trivial rfl (h' := [.cells 25 [iA 0, sA ByteArray.empty, sA ByteArray.empty, .ro .full 0 [], .ro .full 0 []], .cells 25 [iA v114, sA v115, sA v116, .ro .unk v117.length (TValue.cl v117), .ro .unk v118.length (TExpr.cl v118)], .cells 101 (TCodes.cs v119.2)]) rfl ?_
                        refine Rh 2 125 [(0, .ptr 0 0), (3, .ptr 1 0), (4, .ptr 2 0), (6, iA v111), (95, bA (decide (v111 < (w64 (9 + v119.1)))))] (AOps_done (CD H (fun hb120 H => ?_) (fun hb120 H => ?_)))
                        · refine AWP_skip ?_
                          show AWP _ _ _ _ _ _ _
                          refine AWP_seq (AWP_block ?_)
                          refine AWP_region ?_
                          refine Rh 1 125 [(0, .ptr 0 0), (3, .ptr 1 0), (4, .ptr 2 0), (6, iA v111), (98, .agg [iA v114, sA v115, sA v116, .ro .unk v117.length (TValue.cl v117), .ro .unk v118.length (TExpr.cl v118)])] (AOps_bsl (d := (some 99)) (m := 1) (cs := [iA v114, sA v115, sA v116, .ro .unk v117.length (TValue.cl v117), .ro .unk v118.length (TExpr.cl v118)]) (by kernel_rfl) ⟨trivial, trivial, trivial, (scl_TValue_cl _ _), (scl_TExpr_cl _ _), trivial⟩ ?_)
                          refine AOps_cast (d := (some 99)) (v' := .ro .unk ([(TExpr.mk v114 v115 v116 v117 v118)]).length (TExpr.cl ([(TExpr.mk v114 v115 v116 v117 v118)]))) (congrArg (AV.ro .unk 1) (eq_TExpr_cl ([(TExpr.mk v114 v115 v116 v117 v118)])).symm) ?_
                          refine R 2 125 [(0, .ptr 0 0), (3, .ptr 1 0), (4, .ptr 2 0), (6, iA v111)] [.cells 25 [iA 0, sA ByteArray.empty, sA ByteArray.empty, .ro .full 0 [], .ro .full 0 []], .cells 25 [iA 4, sA ByteArray.empty, sA ByteArray.empty, .ro .full 0 [], .ro .unk ([(TExpr.mk v114 v115 v116 v117 v118)]).length (TExpr.cl ([(TExpr.mk v114 v115 v116 v117 v118)]))], .cells 101 (TCodes.cs v119.2)] (AOps_done ?_)
                          show AWP _ _ _ _ _ _ _
                          refine AWP_region ?_
                          refine Rh 3 125 [(0, .ptr 0 0), (3, .ptr 1 0), (4, .ptr 2 0), (6, iA (w64 (v111 + 1)))] (AOps_done ?_)
                          exact Exists.intro (w64 (v111 + 1), v119.2.glist, v119.2.gat, 4, ByteArray.empty, ByteArray.empty, [], [(TExpr.mk v114 v115 v116 v117 v118)]) (Exists.intro n ⟨by omega, ⟨by omega, H⟩, Norm_trans (Norm_cle (h' := [.cells 25 [iA 0, sA ByteArray.empty, sA ByteArray.empty, .ro .full 0 [], .ro .full 0 []], .cells 25 [iA 4, sA ByteArray.empty, sA ByteArray.empty, .ro .unk ([] : List TValue).length (TValue.cl ([] : List TValue)), .ro .unk ([(TExpr.mk v114 v115 v116 v117 v118)]).length (TExpr.cl ([(TExpr.mk v114 v115 v116 v117 v118)]))], .cells 101 (TCodes.cs v119.2)]) 1 rfl (leL_cons (AV.le_refl _) (leL_cons (AV.le_refl _) (leL_cons (AV.le_refl _) (leL_cons (AV.le_ro _ _ _) (leL_refl _))))) rfl rfl) (Norm_fd [0, 3, 4, 6] 0 (by kernel_rfl) rfl rfl ⟨⟨trivial, trivial, trivial, trivial, trivial, trivial⟩, ⟨trivial, trivial, trivial, (scl_TValue_cl _ _), (scl_TExpr_cl _ _), trivial⟩, ⟨(scl_cl_u8 _ _), trivial, trivial⟩, trivial⟩ (by refine scL_fr ?_; exact ⟨(sc_ptr rfl), (sc_ptr rfl), (sc_ptr rfl), trivial, trivial⟩))⟩)
                        · refine AWP_exit ?_
                          exact Exists.intro (v119.2.glist, v119.2.gat, v114, v115, v116, v117, v118) ⟨⟨n, by omega, H⟩, Norm_fd [3, 4] 0 (by kernel_rfl) rfl rfl ⟨⟨trivial, trivial, trivial, trivial, trivial, trivial⟩, ⟨trivial, trivial, trivial, (scl_TValue_cl _ _), (scl_TExpr_cl _ _), trivial⟩, ⟨(scl_cl_u8 _ _), trivial, trivial⟩, trivial⟩ (by refine scL_fr ?_; exact ⟨(sc_ptr rfl), (sc_ptr rfl), trivial⟩)⟩
                    · refine AWP_reg (Rh 2 125 [(0, .ptr 0 0), (3, .ptr 1 0), (4, .ptr 2 0), (40, iA v79.1), (101, bA (v79.1 == 8))] (AOps_done (CD H (fun hb121 H => ?_) (fun hb121 H => ?_))))
                      · refine AWP_reg (R 3 125 [(0, .ptr 0 0), (3, .ptr 1 0), (4, .ptr 2 0), (7, .ptr 3 0)] [.cells 25 (TExpr.cs x1), .cells 25 [iA 0, sA ByteArray.empty, sA ByteArray.empty, .ro .full 0 [], .ro .full 0 []], .cells 25 (TExpr.cs x1), .cells 101 (TCodes.cs v79.2)] (AOps_done (AWP_seq (AWP_reg (Rh 1 125 [(0, .ptr 0 0), (3, .ptr 1 0), (4, .ptr 2 0), (7, .ptr 3 0), (8, iA 0)] (AOps_done (AWP_block ?_)))))))
                        refine AWP_loopN (α := Int × (List Int) × Int × (List TExpr)) (fun ⟨v133, v134, v135, v136⟩ => fr 125 [(0, .ptr 0 0), (3, .ptr 1 0), (4, .ptr 2 0), (7, .ptr 3 0), (8, iA v133)]) (fun ⟨v133, v134, v135, v136⟩ => [.cells 25 [iA x1.gOp, sA x1.gKind, sA x1.gName, .ro .unk x1.gValues.length (TValue.cl x1.gValues), .ro .unk v136.length (TExpr.cl v136)], .cells 25 [iA 0, sA ByteArray.empty, sA ByteArray.empty, .ro .full 0 [], .ro .full 0 []], .cells 25 (TExpr.cs x1), .cells 101 [.ro .unk v134.length (cl_u8 v134), iA v135]]) (fun k_ ⟨v133, v134, v135, v136⟩ => k_ ≤ n ∧ p_draw_Codes_Condition_L2 k_ x1 v133 v134 v135 v136 = some r) (fun n a H => ?_) (k := n) (0, v79.2.glist, v79.2.gat, x1.gKids) ⟨Nat.le_refl _, H⟩ (Norm_fd [0, 3, 4, 7, 8] 0 (by kernel_rfl) rfl rfl ⟨⟨trivial, trivial, trivial, (scl_TValue_cl _ _), (scl_TExpr_cl _ _), trivial⟩, ⟨trivial, trivial, trivial, trivial, trivial, trivial⟩, (sc_TExpr_cs _ _), ⟨(scl_cl_u8 _ _), trivial, trivial⟩, trivial⟩ (by refine scL_fr ?_; exact ⟨(sc_ptr rfl), (sc_ptr rfl), (sc_ptr rfl), (sc_ptr rfl), trivial, trivial⟩))
                        obtain ⟨v133, v134, v135, v136⟩ := a
                        show AWP _ _ _ _ _ (fr 125 [(0, .ptr 0 0), (3, .ptr 1 0), (4, .ptr 2 0), (7, .ptr 3 0), (8, iA v133)]) [.cells 25 [iA x1.gOp, sA x1.gKind, sA x1.gName, .ro .unk x1.gValues.length (TValue.cl x1.gValues), .ro .unk v136.length (TExpr.cl v136)], .cells 25 [iA 0, sA ByteArray.empty, sA ByteArray.empty, .ro .full 0 [], .ro .full 0 []], .cells 25 (TExpr.cs x1), .cells 101 [.ro .unk v134.length (cl_u8 v134), iA v135]]
                        obtain ⟨hb_, H⟩ := H
                        replace H : p_draw_Codes_Condition_L2 n x1 v133 v134 v135 v136 = some r := H
                        cases n with
                        | zero => exact not_none (by simpa only [p_draw_Codes_Condition_L2] using H)
                        | succ n =>
                          unfold p_draw_Codes_Condition_L2 at H
                          refine AWP_seq (AWP_reg (Rh 2 125 [(0, .ptr 0 0), (3, .ptr 1 0), (4, .ptr 2 0), (7, .ptr 3 0), (8, iA v133), (105, bA (decide (v133 < 11)))] (AOps_done (CD H (fun hb137 H => ?_) (fun hb137 H => ?_)))))
                          · refine AWP_skip ?_
                            show AWP _ _ _ _ _ _ _
                            refine AWP_seq (AWP_block ?_)
                            refine AWP_region ?_
                            refine Rh 2 125 [(0, .ptr 0 0), (3, .ptr 1 0), (4, .ptr 2 0), (7, .ptr 3 0), (8, iA v133), (109, .ro .unk v136.length (TExpr.cl v136))] ?_
                            obtain ⟨v138, hv138, H⟩ := bind_some H
                            refine AOps_append_nilO (d := (some 110)) (c := TExpr.cs) (sz := 5) (bs := 88) (e := 25) (ys := v136) (by kernel_rfl) rfl (eq_TExpr_cl _) (fun _ => rfl) (by kernel_rfl) (by kernel_rfl) hv138 (eq_TExpr_cl _) ?_
                            refine Rh 1 125 [(0, .ptr 0 0), (3, .ptr 1 0), (4, .ptr 2 0), (7, .ptr 3 0), (8, iA v133), (110, .sl 4 0 v138.length (.whole 5)), (111, .ptr 0 0)] ?_
                            obtain ⟨v139, hv139, H⟩ := bind_some H
                            refine AOps_call1 (d := (some 112)) (al := [.ptr 0 0]) ([.ptr 0 0]) (r := .agg (TExpr.cs v139.1)) (j := 0) (b' := .cells 101 (TCodes.cs v139.2)) (by kernel_rfl) rfl (s_draw_Codes_Test hG hv139) (⟨(scl_cl_u8 _ _), trivial, trivial⟩) (⟨(scl_cl_u8 _ _), trivial, trivial⟩) ⟨Nat.zero_lt_one, trivial⟩ (sc_TExpr_cs _ _) rfl (h' := [.cells 25 (TExpr.cl v138), .cells 25 [iA x1.gOp, sA x1.gKind, sA x1.gName, .ro .unk x1.gValues.length (TValue.cl x1.gValues), .ro .unk v136.length (TExpr.cl v136)], .cells 25 [iA 0, sA ByteArray.empty, sA ByteArray.empty, .ro .full 0 [], .ro .full 0 []], .cells 25 (TExpr.cs x1), .cells 101 (TCodes.cs v139.2)]) rfl ?_
                            refine AOps_bsl (d := (some 113)) (m := 1) (cs := [iA v139.1.gOp, sA v139.1.gKind, sA v139.1.gName, .ro .unk v139.1.gValues.length (TValue.cl v139.1.gValues), .ro .unk v139.1.gKids.length (TExpr.cl v139.1.gKids)]) (by kernel_rfl) ⟨trivial, trivial, trivial, (scl_TValue_cl _ _), (scl_TExpr_cl _ _), trivial⟩ ?_
                            refine AOps_cast (d := (some 113)) (v' := .ro .unk ([v139.1]).length (TExpr.cl ([v139.1]))) (congrArg (AV.ro .unk 1) (eq_TExpr_cl ([v139.1])).symm) ?_
                            obtain ⟨v140, hv140, H⟩ := bind_some H
                            refine AOps_appendO (d := (some 114)) (c := TExpr.cs) (sz := 5) (bs := 88) (e := 25) (id := 4) (xs := v138) (ys := [v139.1]) (by kernel_rfl) rfl (eq_TExpr_cl _) rfl (eq_TExpr_cl _) (fun _ => rfl) (by kernel_rfl) (by kernel_rfl) hv140 (eq_TExpr_cl _) (h' := [.cells 25 (TExpr.cl v140), .dead, .cells 25 [iA x1.gOp, sA x1.gKind, sA x1.gName, .ro .unk x1.gValues.length (TValue.cl x1.gValues), .ro .unk v136.length (TExpr.cl v136)], .cells 25 [iA 0, sA ByteArray.empty, sA ByteArray.empty, .ro .full 0 [], .ro .full 0 []], .cells 25 (TExpr.cs x1), .cells 101 (TCodes.cs v139.2)]) rfl ?_
                            refine R 2 125 [(0, .ptr 0 0), (3, .ptr 1 0), (4, .ptr 2 0), (7, .ptr 3 0), (8, iA v133)] [.cells 25 (TExpr.cl v140), .dead, .cells 25 [iA x1.gOp, sA x1.gKind, sA x1.gName, .ro .unk x1.gValues.length (TValue.cl x1.gValues), .sl 5 0 v140.length (.whole 5)], .cells 25 [iA 0, sA ByteArray.empty, sA ByteArray.empty, .ro .full 0 [], .ro .full 0 []], .cells 25 (TExpr.cs x1), .cells 101 (TCodes.cs v139.2)] (AOps_done ?_)
                            show AWP _ _ _ _ _ _ _
                            refine AWP_region ?_
                            refine Rh 3 125 [(0, .ptr 0 0), (3, .ptr 1 0), (4, .ptr 2 0), (7, .ptr 3 0), (8, iA (w64 (v133 + 1)))] (AOps_done ?_)
                            exact Exists.intro (w64 (v133 + 1), v139.2.glist, v139.2.gat, v140) (Exists.intro n ⟨by omega, ⟨by omega, H⟩, Norm_trans (Norm_fd (st' := fr 125 [(0, .ptr 0 0), (3, .ptr 1 0), (4, .ptr 2 0), (7, .ptr 3 0), (8, iA (w64 (v133 + 1)))]) (h' := [.cells 25 (TExpr.cl v140), .dead, .cells 25 [iA x1.gOp, sA x1.gKind, sA x1.gName, .ro .unk x1.gValues.length (TValue.cl x1.gValues), .sl 5 0 v140.length (.whole 5)], .cells 25 [iA 0, sA ByteArray.empty, sA ByteArray.empty, .ro .full 0 [], .ro .full 0 []], .cells 25 (TExpr.cs x1), .cells 101 (TCodes.cs v139.2)]) [0, 3, 4, 7, 8] 0 (by kernel_rfl) rfl rfl ⟨(scl_TExpr_cl _ _), trivial, ⟨trivial, trivial, trivial, (scl_TValue_cl _ _), (sc_sl rfl), trivial⟩, ⟨trivial, trivial, trivial, trivial, trivial, trivial⟩, (sc_TExpr_cs _ _), ⟨(scl_cl_u8 _ _), trivial, trivial⟩, trivial⟩ (by refine scL_fr ?_; exact ⟨(sc_ptr rfl), (sc_ptr rfl), (sc_ptr rfl), (sc_ptr rfl), trivial, trivial⟩)) (Norm_trans (Norm_o2r 5 rfl (h' := [.row 25 (TExpr.cl v140), .dead, .cells 25 [iA x1.gOp, sA x1.gKind, sA x1.gName, .ro .unk x1.gValues.length (TValue.cl x1.gValues), .sl 5 0 v140.length (.whole 5)], .cells 25 [iA 0, sA ByteArray.empty, sA ByteArray.empty, .ro .full 0 [], .ro .full 0 []], .cells 25 (TExpr.cs x1), .cells 101 (TCodes.cs v139.2)]) rfl) (Norm_trans (Norm_cfrz (h' := [.row 25 (TExpr.cl v140), .dead, .cells 25 [iA x1.gOp, sA x1.gKind, sA x1.gName, .ro .unk x1.gValues.length (TValue.cl x1.gValues), .ro .unk v140.length (TExpr.cl v140)], .cells 25 [iA 0, sA ByteArray.empty, sA ByteArray.empty, .ro .full 0 [], .ro .full 0 []], .cells 25 (TExpr.cs x1), .cells 101 (TCodes.cs v139.2)]) 3 rfl (FrzL_cons (Frz_sc trivial) (FrzL_cons (Frz_sc trivial) (FrzL_cons (Frz_sc trivial) (FrzL_cons (Frz_sc (scl_TValue_cl _ _)) (FrzL_cons (Frz_row (t := 25) (cs := TExpr.cl v140) rfl (scl_TExpr_cl _ _)) (FrzL_nil)))))) rfl rfl) (Norm_fd [0, 3, 4, 7, 8] 2 (by kernel_rfl) rfl rfl ⟨⟨trivial, trivial, trivial, (scl_TValue_cl _ _), (scl_TExpr_cl _ _), trivial⟩, ⟨trivial, trivial, trivial, trivial, trivial, trivial⟩, (sc_TExpr_cs _ _), ⟨(scl_cl_u8 _ _), trivial, trivial⟩, trivial⟩ (by refine scL_fr ?_; exact ⟨(sc_ptr rfl), (sc_ptr rfl), (sc_ptr rfl), (sc_ptr rfl), trivial, trivial⟩))))⟩)
                          · refine AWP_exit ?_
                            show AWP _ _ _ _ _ _ _
                            refine AWP_region ?_
                            refine R 2 125 [(3, .ptr 1 0), (4, .ptr 2 0)] [.cells 25 [iA x1.gOp, sA x1.gKind, sA x1.gName, .ro .unk x1.gValues.length (TValue.cl x1.gValues), .ro .unk v136.length (TExpr.cl v136)], .cells 25 [iA 0, sA ByteArray.empty, sA ByteArray.empty, .ro .full 0 [], .ro .full 0 []], .cells 25 [iA x1.gOp, sA x1.gKind, sA x1.gName, .ro .unk x1.gValues.length (TValue.cl x1.gValues), .ro .unk v136.length (TExpr.cl v136)], .cells 101 [.ro .unk v134.length (cl_u8 v134), iA v135]] (AOps_done ?_)
                            exact Exists.intro (v134, v135, x1.gOp, x1.gKind, x1.gName, x1.gValues, v136) ⟨⟨n, by omega, H⟩, Norm_fd [3, 4] 1 (by kernel_rfl) rfl rfl ⟨⟨trivial, trivial, trivial, trivial, trivial, trivial⟩, ⟨trivial, trivial, trivial, (scl_TValue_cl _ _), (scl_TExpr_cl _ _), trivial⟩, ⟨(scl_cl_u8 _ _), trivial, trivial⟩, trivial⟩ (by refine scL_fr ?_; exact ⟨(sc_ptr rfl), (sc_ptr rfl), trivial⟩)⟩
                      · refine AWP_reg (Rh 2 125 [(0, .ptr 0 0), (3, .ptr 1 0), (4, .ptr 2 0), (117, bA (v79.1 == 9))] (AOps_done (CD H (fun hb141 H => ?_) (fun hb141 H => ?_))))
                        · obtain ⟨v142, hv142, H⟩ := bind_some H
                          refine AWP_regE1 [0, 1, 2, 3, 4, 5] (N := 125) (f := [(0, .ptr 0 0), (3, .ptr 1 0), (4, .ptr 2 0)]) (leL_of [0, 3, 4] (by kernel_rfl)) mixed (by kernel_rfl) (by kernel_rfl) (st' := fr 125 [(3, .ptr 1 0), (4, .ptr 2 0)]) (h' := [.cells 25 [iA 0, sA ByteArray.empty, sA ByteArray.empty, .ro .full 0 [], .ro .full 0 []], .cells 25 [iA 2, sA ByteArray.empty, sA ByteArray.empty, .ro .full 0 [], .ro .unk ([x1, v142.1]).length (TExpr.cl ([x1, v142.1]))], .cells 101 (TCodes.cs v142.2)]) ?_ ?_
                          rotate_left
                          · refine RD 2 125 [(0, 1)] [(0, .ptr 0 0), (3, .ptr 1 0), (4, .ptr 2 0), (119, .agg (TExpr.cs x1)), (120, .ptr 0 0)] (AD_call1 (d := (some 121)) (al := [.ptr 0 0]) ([.ptr 0 0]) (r := .agg (TExpr.cs v142.1)) (j := 0) (b' := .cells 101 (TCodes.cs v142.2)) (by kernel_rfl) rfl (s_draw_Codes_Test hG hv142) (⟨(scl_cl_u8 _ _), trivial, trivial⟩) (⟨(scl_cl_u8 _ _), trivial, trivial⟩) ⟨Nat.zero_lt_one, trivial⟩ (sc_TExpr_cs _ _) rfl (h' := [.cells 25 [iA 0, sA ByteArray.empty, sA ByteArray.empty, .ro .full 0 [], .ro .full 0 []], .cells 25 (TExpr.cs x1), .cells 101 (TCodes.cs v142.2)]) rfl ?_)
                            refine AD_bsl (d := (some 122)) (m := 2) (cs := [iA x1.gOp, sA x1.gKind, sA x1.gName, .ro .unk x1.gValues.length (TValue.cl x1.gValues), .ro .unk x1.gKids.length (TExpr.cl x1.gKids), iA v142.1.gOp, sA v142.1.gKind, sA v142.1.gName, .ro .unk v142.1.gValues.length (TValue.cl v142.1.gValues), .ro .unk v142.1.gKids.length (TExpr.cl v142.1.gKids)]) (by kernel_rfl) ⟨trivial, trivial, trivial, (scl_TValue_cl _ _), (scl_TExpr_cl _ _), trivial, trivial, trivial, (scl_TValue_cl _ _), (scl_TExpr_cl _ _), trivial⟩ ?_
                            refine AD_cast (d := (some 122)) (v' := .ro .unk ([x1, v142.1]).length (TExpr.cl ([x1, v142.1]))) (congrArg (AV.ro .unk 2) (eq_TExpr_cl ([x1, v142.1])).symm) ?_
                            refine RD 1 125 [(0, 1)] [(0, .ptr 0 0), (3, .ptr 1 0), (4, .ptr 2 0), (119, .agg (TExpr.cs x1)), (120, .ptr 0 0), (121, .agg (TExpr.cs v142.1)), (122, .ro .unk ([x1, v142.1]).length (TExpr.cl ([x1, v142.1]))), (123, .agg [iA 2, sA ByteArray.empty, sA ByteArray.empty, .ro .full 0 [], .ro .unk ([x1, v142.1]).length (TExpr.cl ([x1, v142.1]))])] (AD_store (d := none) (id := 1) (h' := [.cells 25 [iA 0, sA ByteArray.empty, sA ByteArray.empty, .ro .full 0 [], .ro .full 0 []], .cells 25 [iA 2, sA ByteArray.empty, sA ByteArray.empty, .ro .full 0 [], .ro .unk ([x1, v142.1]).length (TExpr.cl ([x1, v142.1]))], .cells 101 (TCodes.cs v142.2)]) (by kernel_rfl) (by kernel_rfl) ?_)
                            exact AD_here [3, 4] (by kernel_rfl) rfl
                          exact Exists.intro (v142.2.glist, v142.2.gat, 2, ByteArray.empty, ByteArray.empty, [], [x1, v142.1]) ⟨⟨n, by omega, H⟩, Norm_trans (Norm_cle (h' := [.cells 25 [iA 0, sA ByteArray.empty, sA ByteArray.empty, .ro .full 0 [], .ro .full 0 []], .cells 25 [iA 2, sA ByteArray.empty, sA ByteArray.empty, .ro .unk ([] : List TValue).length (TValue.cl ([] : List TValue)), .ro .unk ([x1, v142.1]).length (TExpr.cl ([x1, v142.1]))], .cells 101 (TCodes.cs v142.2)]) 1 rfl (leL_cons (AV.le_refl _) (leL_cons (AV.le_refl _) (leL_cons (AV.le_refl _) (leL_cons (AV.le_ro _ _ _) (leL_refl _))))) rfl rfl) (Norm_fd [3, 4] 0 (by kernel_rfl) rfl rfl ⟨⟨trivial, trivial, trivial, trivial, trivial, trivial⟩, ⟨trivial, trivial, trivial, (scl_TValue_cl _ _), (scl_TExpr_cl _ _), trivial⟩, ⟨(scl_cl_u8 _ _), trivial, trivial⟩, trivial⟩ (by refine scL_fr ?_; exact ⟨(sc_ptr rfl), (sc_ptr rfl), trivial⟩))⟩
                        · refine AWP_skip ?_
                          exact Exists.intro (v79.2.glist, v79.2.gat, x1.gOp, x1.gKind, x1.gName, x1.gValues, x1.gKids) ⟨⟨n, by omega, H⟩, Norm_fd [3, 4] 0 (by kernel_rfl) rfl rfl ⟨⟨trivial, trivial, trivial, trivial, trivial, trivial⟩, ⟨trivial, trivial, trivial, (scl_TValue_cl _ _), (scl_TExpr_cl _ _), trivial⟩, ⟨(scl_cl_u8 _ _), trivial, trivial⟩, trivial⟩ (by refine scL_fr ?_; exact ⟨(sc_ptr rfl), (sc_ptr rfl), trivial⟩)⟩
theorem s_all_draw_Codes_Condition (hG : GlobD E) : ∀ n : Nat, (∀ {x0 : TCodes}, ∀ {x1 : TExpr}, ∀ {r : TExpr × TCodes}, p_draw_Codes_Condition n x0 x1 = some r → Sp Tryz.prog E 14 [.ptr 0 0, .agg (TExpr.cs x1)] [.cells 101 (TCodes.cs x0)] (isA (.agg (TExpr.cs r.1)) [.cells 101 (TCodes.cs r.2)])) := by
  intro n
  induction n with
  | zero => exact fun H => not_none (by simpa only [p_draw_Codes_Condition] using H)
  | succ n ih => exact fun H => s_draw_Codes_Condition_F hG ih (by simpa only [p_draw_Codes_Condition] using H)
theorem s_draw_Codes_Condition {n : Nat} (hG : GlobD E) {x0 : TCodes} {x1 : TExpr} {r : TExpr × TCodes} (H : p_draw_Codes_Condition n x0 x1 = some r) :
    Sp Tryz.prog E 14 [.ptr 0 0, .agg (TExpr.cs x1)] [.cells 101 (TCodes.cs x0)] (isA (.agg (TExpr.cs r.1)) [.cells 101 (TCodes.cs r.2)]) := (s_all_draw_Codes_Condition hG n) H
end Go.Proofs.YtjhbobacbaikoaaGreatDoor
/- A condition in which something was changed is of bounded size. -/
namespace Go.Proofs.YtjhbobacbaikoaaGreatDoor
open Go
set_option linter.unusedVariables false
set_option linter.unusedSimpArgs false
set_option maxRecDepth 100000
theorem bd_kids {B : Nat} {x k : TExpr} (h : x.bd B) (hk : k ∈ x.gKids) : k.bd B := (TExpr.bd_iff.1 h).2.2.2.2.2 k hk
theorem dep_kids {x k : TExpr} (hk : k ∈ x.gKids) : k.dep < x.dep := by
  have key : ∀ {l : List TExpr}, k ∈ l → k.dep ≤ TExpr.depL l := by
    intro l
    induction l with
    | nil => intro h; cases h
    | cons y l ih =>
      intro h
      rw [TExpr.depL]
      rcases List.mem_cons.1 h with rfl | h
      · omega
      · have := ih h; omega
  cases x with
  | mk op a b vs ks =>
    have := key (show k ∈ ks from hk)
    rw [TExpr.dep]; omega
theorem cond_K1 {B : Nat} {l : List Int} {a : Int} (hc : ({ glist := l, gat := a } : TCodes).cok) {x : TExpr} (hx : x.bd B) : Gv (fun n => p_draw_Codes_Condition_K1 n l a x.gOp x.gKind x.gName x.gValues x.gKids) fun r => r.1.bd B ∧ r.2.cok := by
  unfold p_draw_Codes_Condition_K1
  have e : TExpr.mk x.gOp x.gKind x.gName x.gValues x.gKids = x := by cases x; rfl
  rw [e]
  exact Gv.pure ⟨hx, hc⟩
theorem bd_mk {B : Nat} {op : Int} {k nm : ByteArray} {vs : List TValue} {ks : List TExpr} (hk : k.size ≤ 100) (hn : nm.size ≤ 100) (hv : vs.length ≤ B) (hvb : ∀ v ∈ vs, v.bd) (hl : ks.length ≤ B) (h : ∀ x ∈ ks, x.bd B) : (TExpr.mk op k nm vs ks).bd B :=
  TExpr.bd_iff.2 ⟨hk, hn, hv, hvb, hl, h⟩
theorem cond_L1 {B : Nat} (hB : 12 ≤ B) : ∀ (q i : Nat) (c : TCodes) (x : TExpr), i + q = 12 → c.cok → x.bd B →
    Gv (fun n => p_draw_Codes_Condition_L1 n i c.glist c.gat x.gOp x.gKind x.gName x.gValues x.gKids) fun r => r.1.bd B ∧ r.2.cok := by
  intro q
  induction q with
  | zero =>
    intro i c x hi hc hx
    refine Gv.succ ?_
    simp only [p_draw_Codes_Condition_L1]
    refine Gv.bind (next_gv hc (k := 3) (by decide) (by decide)) fun r hr => ?_
    rw [w64_of (show -9223372036854775808 ≤ 9 + r.1 by omega) (by omega)]
    refine Gv.cond (fun h => ?_) fun h => cond_K1 hr.2.2 hx
    have h := of_decide_eq_true h
    omega
  | succ q ih =>
    intro i c x hi hc hx
    refine Gv.succ ?_
    simp only [p_draw_Codes_Condition_L1]
    refine Gv.bind (next_gv hc (k := 3) (by decide) (by decide)) fun r hr => ?_
    refine Gv.cond (fun h => ?_) fun h => cond_K1 hr.2.2 hx
    rw [w64_add (by omega)]
    have e : TExpr.mk x.gOp x.gKind x.gName x.gValues x.gKids = x := by cases x; rfl
    rw [e]
    exact ih (i + 1) r.2 (.mk 4 ByteArray.empty ByteArray.empty [] [x]) (by omega) hr.2.2 (bd_mk (by decide) (by decide) (by simp) (fun v hv => by cases hv) (by simp; omega) fun y hy => by
      obtain rfl : y = x := by simpa using hy
      exact hx)
theorem cond_L2 {B : Nat} (h20 : 20 ≤ B) (hB : B ≤ 10000) {x : TExpr} (hx : x.bd B) : ∀ (q i : Nat) (c : TCodes) (l : List TExpr), i + q = 11 → c.cok → l.length ≤ B + i → (∀ y ∈ l, y.bd (B + 12)) →
    Gv (fun n => p_draw_Codes_Condition_L2 n x i c.glist c.gat l) fun r => r.1.bd (B + 12) ∧ r.2.cok := by
  have hx' := TExpr.bd_iff.1 (TExpr.bd_le (show B ≤ B + 12 by omega) x hx)
  intro q
  induction q with
  | zero =>
    intro i c l hi hc hl hy
    refine Gv.succ ?_
    simp only [p_draw_Codes_Condition_L2]
    rw [decide_eq_false (show ¬ (i : Int) < 11 by omega)]
    exact cond_K1 (x := .mk x.gOp x.gKind x.gName x.gValues l) hc (bd_mk hx'.1 hx'.2.1 hx'.2.2.1 hx'.2.2.2.1 (by omega) hy)
  | succ q ih =>
    intro i c l hi hc hl hy
    refine Gv.succ ?_
    simp only [p_draw_Codes_Condition_L2]
    rw [decide_eq_true (show (i : Int) < 11 by omega)]
    simp only [cond_true]
    refine Gv.bind (Gv.app (Q := fun m => m = l) (by simp; omega) (by decide) (by simp)) ?_
    rintro m rfl
    refine Gv.bind (test_gv hc) fun t ht => ?_
    refine Gv.bind (Gv.app (Q := fun k => k = m ++ [t.1]) (by simp; omega) (by decide) rfl) ?_
    rintro k rfl
    rw [w64_add (by omega)]
    refine ih (i + 1) t.2 _ (by omega) ht.2 (by simp; omega) fun y hym => ?_
    rcases List.mem_append.1 hym with hym | hym
    · exact hy y hym
    · obtain rfl : y = t.1 := by simpa using hym
      exact TExpr.bd_le (by omega) _ (testG_ex ht.1).bd
theorem set_bd {B : Nat} {l : List TExpr} {j : Nat} {y : TExpr} (hl : ∀ x ∈ l, x.bd B) (hy : y.bd B) : ∀ x ∈ l.set j y, x.bd B := by
  intro x hx
  rcases List.mem_or_eq_of_mem_set hx with h | rfl
  · exact hl x h
  · exact hy
theorem cond_gv {B : Nat} (h20 : 20 ≤ B) (hB : B ≤ 10000) : ∀ (D : Nat) (x : TExpr) (c : TCodes), x.dep ≤ D → x.bd B → c.cok → Gv (fun n => p_draw_Codes_Condition n c x) fun r => r.1.bd (B + 12) ∧ r.2.cok := by
  intro D
  induction D with
  | zero =>
    intro x c hd
    cases x with
    | mk op a b vs ks => rw [TExpr.dep] at hd; omega
  | succ D ih =>
    intro x c hd hx hc
    have hx1 := TExpr.bd_iff.1 hx
    have hxB := TExpr.bd_le (show B ≤ B + 12 by omega) x hx
    have hx2 := TExpr.bd_iff.1 hxB
    refine Gv.succ ?_
    simp only [p_draw_Codes_Condition]
    unfold p_draw_Codes_Condition_F
    refine Gv.bind (Q := fun r => 0 ≤ r.1 ∧ r.2.cok) ?_ fun v1 h1 => ?_
    · refine Gv.cond (fun _ => (next_gv hc (k := 3) (by decide) (by decide)).mono fun r hr => ⟨hr.1, hr.2.2⟩) fun _ => Gv.pure ⟨Int.le_refl _, hc⟩
    refine Gv.cond (fun h => ?_) fun _ => ?_
    · have hk : lI x.gKids > 0 := of_decide_eq_true (Bool.and_eq_true_iff.1 h).1
      unfold lI at hk
      refine Gv.bind (Gv.app (Q := fun m => m = x.gKids) (by simp; omega) (by decide) (by simp)) ?_
      rintro m rfl
      refine Gv.bind (next_gv h1.2 (k := lI x.gKids) (by unfold lI; omega) (by unfold lI; omega)) fun v4 h4 => ?_
      refine Gv.bind (Gv.rd (Q := fun y => y ∈ x.gKids) h4.1 h4.2.1 fun y hy => hy) fun y hy => ?_
      refine Gv.bind (ih y v4.2 (by have := dep_kids hy; omega) (bd_kids hx hy) h4.2.2) fun v6 h6 => ?_
      refine Gv.bind (Gv.rd (Q := fun y => True) h4.1 h4.2.1 fun y hy => trivial) fun y _ => ?_
      exact Gv.pure ⟨bd_mk hx2.1 hx2.2.1 hx2.2.2.1 hx2.2.2.2.1 (by rw [List.length_set]; exact hx2.2.2.2.2.1) (set_bd hx2.2.2.2.2.2 h6.1), h6.2⟩
    refine Gv.bind (next_gv h1.2 (k := 10) (by decide) (by decide)) fun v h => ?_
    have hc := h.2.2
    have val : ∀ {k nm : ByteArray} {vs : List TValue} {ks : List TExpr} {op : Int} {c' : TCodes}, c'.cok → k.size ≤ 100 → nm.size ≤ 100 → vs.length ≤ B + 12 → (∀ v ∈ vs, v.bd) → ks.length ≤ B + 12 → (∀ y ∈ ks, y.bd (B + 12)) →
        Gv (fun n => p_draw_Codes_Condition_K1 n c'.glist c'.gat op k nm vs ks) fun r => r.1.bd (B + 12) ∧ r.2.cok := fun hc' a1 a2 a3 a4 a5 a6 => cond_K1 (x := .mk _ _ _ _ _) hc' (bd_mk a1 a2 a3 a4 a5 a6)
    refine Gv.cond (fun _ => ?_) fun _ => Gv.cond (fun _ => ?_) fun _ => Gv.cond (fun _ => ?_) fun _ => Gv.cond (fun _ => ?_) fun _ => Gv.cond (fun _ => ?_) fun _ => Gv.cond (fun _ => ?_) fun _ => Gv.cond (fun _ => ?_) fun _ => Gv.cond (fun _ => ?_) fun _ => Gv.cond (fun _ => ?_) fun _ => Gv.cond (fun _ => ?_) fun _ => ?_
    · exact Gv.bind (next_gv hc (k := 18) (by decide) (by decide)) fun s hs => val hs.2.2 hx2.1 hx2.2.1 hx2.2.2.1 hx2.2.2.2.1 hx2.2.2.2.2.1 hx2.2.2.2.2.2
    · exact Gv.bind (name_gv hc) fun s hs => val hs.2 (by have := hs.1; omega) hx2.2.1 hx2.2.2.1 hx2.2.2.2.1 hx2.2.2.2.2.1 hx2.2.2.2.2.2
    · exact Gv.bind (name_gv hc) fun s hs => val hs.2 hx2.1 (by have := hs.1; omega) hx2.2.2.1 hx2.2.2.2.1 hx2.2.2.2.2.1 hx2.2.2.2.2.2
    · refine Gv.bind (Gv.app (Q := fun m => m = x.gValues) (by simp; omega) (by decide) (by simp)) ?_
      rintro m rfl
      refine Gv.bind (any_gv hc) fun t ht => ?_
      refine Gv.bind (Gv.app (Q := fun k => k = x.gValues ++ [t.1]) (by simp; omega) (by decide) rfl) ?_
      rintro k rfl
      refine val ht.2 hx2.1 hx2.2.1 (by simp; omega) (fun w hw => ?_) hx2.2.2.2.2.1 hx2.2.2.2.2.2
      rcases List.mem_append.1 hw with hw | hw
      · exact hx2.2.2.2.1 w hw
      · obtain rfl : w = t.1 := by simpa using hw
        exact good_bd _ (good_of ht.1)
    · exact val hc hx2.1 hx2.2.1 (by simp) (fun v hv => by cases hv) hx2.2.2.2.2.1 hx2.2.2.2.2.2
    · refine Gv.bind (next_gv hc (k := 7) (by decide) (by decide)) fun s hs => Gv.bind (number_gv hs.2.2) fun t ht => val ht hx2.1 hx2.2.1 (by simp) (fun w hw => ?_) hx2.2.2.2.2.1 hx2.2.2.2.2.2
      have hw := List.mem_singleton.1 hw
      rw [hw]
      exact ⟨(by show 0 ≤ 100; decide), (by show 0 ≤ 100; decide), fun s hs => by cases hs⟩
    · refine Gv.bind (Gv.app (Q := fun m => m = x.gKids) (by simp; omega) (by decide) (by simp)) ?_
      rintro m rfl
      refine Gv.bind (test_gv hc) fun t ht => ?_
      refine Gv.bind (Gv.app (Q := fun k => k = x.gKids ++ [t.1]) (by simp; omega) (by decide) rfl) ?_
      rintro k rfl
      refine val ht.2 hx2.1 hx2.2.1 hx2.2.2.1 hx2.2.2.2.1 (by simp; omega) fun y hy => ?_
      rcases List.mem_append.1 hy with hy | hy
      · exact hx2.2.2.2.2.2 y hy
      · obtain rfl : y = t.1 := by simpa using hy
        exact TExpr.bd_le (by omega) _ (testG_ex ht.1).bd
    · exact cond_L1 (by omega) 12 0 v.2 x (by omega) hc hxB
    · exact cond_L2 h20 hB hx 11 0 v.2 x.gKids (by omega) hc (by omega) hx2.2.2.2.2.2
    · refine Gv.bind (test_gv hc) fun t ht => val ht.2 (by decide) (by decide) (by simp) (fun v hv => by cases hv) (by simp <;> omega) fun y hy => ?_
      have hy : y = x ∨ y = t.1 := by simpa using hy
      rcases hy with rfl | rfl
      · exact hxB
      · exact TExpr.bd_le (by omega) _ (testG_ex ht.1).bd
    · exact val hc hx2.1 hx2.2.1 hx2.2.2.1 hx2.2.2.2.1 hx2.2.2.2.2.1 hx2.2.2.2.2.2
end Go.Proofs.YtjhbobacbaikoaaGreatDoor
/- A function of the program as a pure function, and that the program computes it. -/
namespace Go.Proofs.YtjhbobacbaikoaaGreatDoor
open Go
set_option linter.unusedVariables false
set_option linter.unusedSimpArgs false
set_option maxRecDepth 100000
def p_shape_Environment_1 (n : Nat) (x0 : TSegment) : Option ByteArray :=
 some (x0.gKey)
variable {E : Env}
theorem s_shape_Environment_1 {n : Nat} {x0 : TSegment} {r : ByteArray} (H : p_shape_Environment_1 n x0 = some r) :
    Sp Tryz.prog E 90 [.agg (TSegment.cs x0)] [] (isA (sA r) []) := by
  unfold p_shape_Environment_1 at H
  refine Sp_fn Tryz.func90 rfl (fun hc hs => ?_)
  refine AWP_reg (R 2 5 [(1, .ptr 0 0)] [.cells 71 (TSegment.cs x0)] (AOps_done (AWP_reg (Rh 3 5 [(2, sA x0.gKey)] (AOps_done ?_)))))
  exact AWP_ret (FR H)
end Go.Proofs.YtjhbobacbaikoaaGreatDoor
/- A function of the program as a pure function, and that the program computes it. -/
namespace Go.Proofs.YtjhbobacbaikoaaGreatDoor
open Go
set_option linter.unusedVariables false
set_option linter.unusedSimpArgs false
set_option maxRecDepth 100000
def p_shape_Environment_2 (n : Nat) (x0 : TFlag) : Option ByteArray :=
 some (x0.gKey)
variable {E : Env}
theorem s_shape_Environment_2 {n : Nat} {x0 : TFlag} {r : ByteArray} (H : p_shape_Environment_2 n x0 = some r) :
    Sp Tryz.prog E 92 [.agg (TFlag.cs x0)] [] (isA (sA r) []) := by
  unfold p_shape_Environment_2 at H
  refine Sp_fn Tryz.func92 rfl (fun hc hs => ?_)
  refine AWP_reg (R 2 5 [(1, .ptr 0 0)] [.cells 65 (TFlag.cs x0)] (AOps_done (AWP_reg (Rh 3 5 [(2, sA x0.gKey)] (AOps_done ?_)))))
  exact AWP_ret (FR H)
end Go.Proofs.YtjhbobacbaikoaaGreatDoor
/- A function of the program as a pure function, and that the program computes it. -/
namespace Go.Proofs.YtjhbobacbaikoaaGreatDoor
open Go
set_option linter.unusedVariables false
set_option linter.unusedSimpArgs false
set_option maxRecDepth 100000
def p_shape_Environment_3 (n : Nat) (x0 : TLayer) : Option ByteArray :=
 some (x0.gKey)
variable {E : Env}
theorem s_shape_Environment_3 {n : Nat} {x0 : TLayer} {r : ByteArray} (H : p_shape_Environment_3 n x0 = some r) :
    Sp Tryz.prog E 94 [.agg (TLayer.cs x0)] [] (isA (sA r) []) := by
  unfold p_shape_Environment_3 at H
  refine Sp_fn Tryz.func94 rfl (fun hc hs => ?_)
  refine AWP_reg (R 2 5 [(1, .ptr 0 0)] [.cells 74 (TLayer.cs x0)] (AOps_done (AWP_reg (Rh 3 5 [(2, sA x0.gKey)] (AOps_done ?_)))))
  exact AWP_ret (FR H)
end Go.Proofs.YtjhbobacbaikoaaGreatDoor
/- A function of the program as a pure function, and that the program computes it. -/
namespace Go.Proofs.YtjhbobacbaikoaaGreatDoor
open Go
set_option linter.unusedVariables false
set_option linter.unusedSimpArgs false
set_option maxRecDepth 100000
def p_shape_Environment_4 (n : Nat) (x0 : TExperiment) : Option ByteArray :=
 some (x0.gKey)
variable {E : Env}
theorem s_shape_Environment_4 {n : Nat} {x0 : TExperiment} {r : ByteArray} (H : p_shape_Environment_4 n x0 = some r) :
    Sp Tryz.prog E 96 [.agg (TExperiment.cs x0)] [] (isA (sA r) []) := by
  unfold p_shape_Environment_4 at H
  refine Sp_fn Tryz.func96 rfl (fun hc hs => ?_)
  refine AWP_reg (R 2 5 [(1, .ptr 0 0)] [.cells 42 (TExperiment.cs x0)] (AOps_done (AWP_reg (Rh 3 5 [(2, sA x0.gKey)] (AOps_done ?_)))))
  exact AWP_ret (FR H)
end Go.Proofs.YtjhbobacbaikoaaGreatDoor
/- A function of the program as a pure function, and that the program computes it. -/
namespace Go.Proofs.YtjhbobacbaikoaaGreatDoor
open Go
set_option linter.unusedVariables false
set_option linter.unusedSimpArgs false
set_option maxRecDepth 100000
def p_cmp_Or_int_L1 (n : Nat) (x0 : List Int) (v8 : Int) : Option Int := match n with
| 0 => none
| n + 1 =>
(bif decide (v8 < (lI x0)) then
(rdO x0 v8).bind fun v10 =>
(bif v10 != 0 then
 some (v10)
 else
 p_cmp_Or_int_L1 n x0 (w64 (v8 + 1)))
 else
 some (0))
def p_cmp_Or_int (n : Nat) (x0 : List Int) : Option Int :=
 p_cmp_Or_int_L1 n x0 0
variable {E : Env}
theorem s_cmp_Or_int {n : Nat} {x0 : List Int} {r : Int} (H : p_cmp_Or_int n x0 = some r) :
    Sp Tryz.prog E 121 [.ro .unk x0.length (cl_i64 x0)] [] (isA (iA r) []) := by
  unfold p_cmp_Or_int at H
  refine Sp_fn Tryz.func121 rfl (fun hc hs => ?_)
  refine AWP_reg (Rh 1 18 [(0, .ro .unk x0.length (cl_i64 x0))] (AOps_done (AWP_reg (Rh 1 18 [(0, .ro .unk x0.length (cl_i64 x0)), (3, iA 0)] (AOps_done (AWP_seq (AWP_reg (Rh 3 18 [(3, iA 0), (6, .ro .unk x0.length (cl_i64 x0)), (7, iA (lI x0)), (8, iA 0)] ?_))))))))
  refine AOps_done (AWP_block ?_)
  refine AWP_loopN (α := Int) (fun v8 => fr 18 [(3, iA 0), (6, .ro .unk x0.length (cl_i64 x0)), (7, iA (lI x0)), (8, iA v8)]) (fun v8 => []) (fun k_ v8 => k_ ≤ n ∧ p_cmp_Or_int_L1 k_ x0 v8 = some r) (fun n v8 H => ?_) (k := n) 0 ⟨Nat.le_refl _, H⟩ (Norm_fd [3, 6, 7, 8] 0 (by kernel_rfl) rfl rfl trivial (by refine scL_fr ?_; exact ⟨trivial, (scl_cl_i64 _ _), trivial, trivial, trivial⟩))
  show AWP _ _ _ _ _ (fr 18 [(3, iA 0), (6, .ro .unk x0.length (cl_i64 x0)), (7, iA (lI x0)), (8, iA v8)]) []
  obtain ⟨hb_, H⟩ := H
  replace H : p_cmp_Or_int_L1 n x0 v8 = some r := H
  cases n with
  | zero => exact not_none (by simpa only [p_cmp_Or_int_L1] using H)
  | succ n =>
    unfold p_cmp_Or_int_L1 at H
    refine AWP_reg (Rh 1 18 [(3, iA 0), (6, .ro .unk x0.length (cl_i64 x0)), (7, iA (lI x0)), (8, iA v8), (9, bA (decide (v8 < (lI x0))))] (AOps_done (AWP_seq (CD H (fun hb9 H => ?_) (fun hb9 H => ?_)))))
    · refine AWP_skip ?_
      show AWP _ _ _ _ _ _ _
      refine AWP_seq (AWP_block ?_)
      refine AWP_reg ?_
      obtain ⟨v10, hv10, H⟩ := bind_some H
      refine AOps_index (d := (some 10)) (sz := 1) (c := cs_i64) (by kernel_rfl) rfl (eq_cl_i64 _) (fun _ => rfl) (by decide) hv10 (fun tl10 => ?_)
      refine Rh 2 18 [(3, iA 0), (5, iA v10), (6, .ro .unk x0.length (cl_i64 x0)), (7, iA (lI x0)), (8, iA v8)] (AOps_done (AWP_reg (Rh 3 18 [(3, iA 0), (5, iA v10), (6, .ro .unk x0.length (cl_i64 x0)), (7, iA (lI x0)), (8, iA v8), (14, bA (v10 != 0))] (AOps_done (CD H (fun hb11 H => ?_) (fun hb11 H => ?_))))))
      · refine AWP_reg (Rh 2 18 [(2, iA v10)] (AOps_done ?_))
        exact AWP_ret (FR H)
      · refine AWP_skip ?_
        show AWP _ _ _ _ _ _ _
        refine AWP_region ?_
        refine Rh 2 18 [(3, iA 0), (6, .ro .unk x0.length (cl_i64 x0)), (7, iA (lI x0)), (8, iA (w64 (v8 + 1)))] (AOps_done ?_)
        exact Exists.intro (w64 (v8 + 1)) (Exists.intro n ⟨by omega, ⟨by omega, H⟩, Norm_fd [3, 6, 7, 8] 0 (by kernel_rfl) rfl rfl trivial (by refine scL_fr ?_; exact ⟨trivial, (scl_cl_i64 _ _), trivial, trivial, trivial⟩)⟩)
    · refine AWP_exit ?_
      show AWP _ _ _ _ _ _ _
      refine AWP_reg (Rh 2 18 [(2, iA 0)] (AOps_done ?_))
      exact AWP_ret (FR H)
end Go.Proofs.YtjhbobacbaikoaaGreatDoor
/- A function of the program as a pure function, and that the program computes it. -/
namespace Go.Proofs.YtjhbobacbaikoaaGreatDoor
open Go
set_option linter.unusedVariables false
set_option linter.unusedSimpArgs false
set_option maxRecDepth 100000
def p_shape_attributes_L1 (n : Nat) (x0 : List TDeclared) (v26 : Int) : Option Int := match n with
| 0 => none
| n + 1 =>
(bif decide (v26 < (lI x0)) then
(rdO x0 v26).bind fun v28 =>
(p_text_Key n v28.gKind).bind fun v29 =>
(bif !(!v29) then p_text_Key n v28.gName else some (false)).bind fun v30 =>
(bif ((!v29) || (!v30)) || (seq' v28.gName (⟨#[107, 101, 121]⟩ : ByteArray)) then
 some (6)
 else
(bif (decide (v28.gType < 1)) || (decide (v28.gType > 5)) then
 some (7)
 else
(bif decide (v26 > 0) then rdO x0 (w64 (v26 - 1)) else some ({ gKind := ByteArray.empty, gName := ByteArray.empty, gType := 0 } : TDeclared)).bind fun v33 =>
(bif decide (v26 > 0) then rdO x0 (w64 (v26 - 1)) else some ({ gKind := ByteArray.empty, gName := ByteArray.empty, gType := 0 } : TDeclared)).bind fun v34 =>
(bif decide (v26 > 0) then p_strings_Compare n v33.gKind v28.gKind else some (0)).bind fun v35 =>
(bif decide (v26 > 0) then p_strings_Compare n v34.gName v28.gName else some (0)).bind fun v36 =>
(bif decide (v26 > 0) then p_cmp_Or_int n ([v35, v36]) else some (0)).bind fun v37 =>
(bif (decide (v26 > 0)) && (decide (v37 ≥ 0)) then
 some (9)
 else
 p_shape_attributes_L1 n x0 (w64 (v26 + 1)))))
 else
 some (0))
def p_shape_attributes (n : Nat) (x0 : List TDeclared) : Option Int :=
(bif decide ((lI x0) > 30) then
 some (5)
 else
 p_shape_attributes_L1 n x0 0)
variable {E : Env}
theorem s_shape_attributes {n : Nat} (hG : GlobT E) {x0 : List TDeclared} {r : Int} (H : p_shape_attributes n x0 = some r) :
    Sp Tryz.prog E 88 [.ro .unk x0.length (TDeclared.cl x0)] [] (isA (iA r) []) := by
  unfold p_shape_attributes at H
  refine Sp_fn Tryz.func88 rfl (fun hc hs => ?_)
  refine AWP_reg (Rh 1 64 [(0, .ro .unk x0.length (TDeclared.cl x0))] (AOps_done (AWP_seq (AWP_reg (Rh 3 64 [(0, .ro .unk x0.length (TDeclared.cl x0)), (7, bA (decide ((lI x0) > 30)))] (AOps_done (CD H (fun hb1 H => ?_) (fun hb1 H => ?_))))))))
  · refine AWP_reg (Rh 1 64 [(2, iA 5)] (AOps_done ?_))
    exact AWP_ret (FR H)
  · refine AWP_skip ?_
    show AWP _ _ _ _ _ _ _
    refine AWP_seq (AWP_reg (Rh 3 64 [(0, .ro .unk x0.length (TDeclared.cl x0)), (8, .ro .unk x0.length (TDeclared.cl x0)), (9, iA (lI x0)), (10, iA 0)] (AOps_done (AWP_block ?_))))
    refine AWP_loopN (α := Int) (fun v26 => fr 64 [(0, .ro .unk x0.length (TDeclared.cl x0)), (8, .ro .unk x0.length (TDeclared.cl x0)), (9, iA (lI x0)), (10, iA v26)]) (fun v26 => []) (fun k_ v26 => k_ ≤ n ∧ p_shape_attributes_L1 k_ x0 v26 = some r) (fun n v26 H => ?_) (k := n) 0 ⟨Nat.le_refl _, H⟩ (Norm_fd [0, 8, 9, 10] 0 (by kernel_rfl) rfl rfl trivial (by refine scL_fr ?_; exact ⟨(scl_TDeclared_cl _ _), (scl_TDeclared_cl _ _), trivial, trivial, trivial⟩))
    show AWP _ _ _ _ _ (fr 64 [(0, .ro .unk x0.length (TDeclared.cl x0)), (8, .ro .unk x0.length (TDeclared.cl x0)), (9, iA (lI x0)), (10, iA v26)]) []
    obtain ⟨hb_, H⟩ := H
    replace H : p_shape_attributes_L1 n x0 v26 = some r := H
    cases n with
    | zero => exact not_none (by simpa only [p_shape_attributes_L1] using H)
    | succ n =>
      unfold p_shape_attributes_L1 at H
      refine AWP_reg (Rh 1 64 [(0, .ro .unk x0.length (TDeclared.cl x0)), (8, .ro .unk x0.length (TDeclared.cl x0)), (9, iA (lI x0)), (10, iA v26), (11, bA (decide (v26 < (lI x0))))] (AOps_done (AWP_seq (CD H (fun hb27 H => ?_) (fun hb27 H => ?_)))))
      · refine AWP_skip ?_
        show AWP _ _ _ _ _ _ _
        refine AWP_seq (AWP_block ?_)
        refine AWP_reg (Rh 1 64 [(0, .ro .unk x0.length (TDeclared.cl x0)), (8, .ro .unk x0.length (TDeclared.cl x0)), (9, iA (lI x0)), (10, iA v26), (12, iA v26)] ?_)
        obtain ⟨v28, hv28, H⟩ := bind_some H
        refine AOps_index (d := (some 13)) (sz := 3) (c := TDeclared.cs) (by kernel_rfl) rfl (eq_TDeclared_cl _) (fun _ => rfl) (by decide) hv28 (fun tl28 => ?_)
        refine R 4 64 [(0, .ro .unk x0.length (TDeclared.cl x0)), (3, iA v26), (4, .ptr 0 0), (8, .ro .unk x0.length (TDeclared.cl x0)), (9, iA (lI x0)), (10, iA v26)] [.cells 112 (TDeclared.cs v28)] (AOps_done (AWP_seq (AWP_reg (Rh 2 64 [(0, .ro .unk x0.length (TDeclared.cl x0)), (3, iA v26), (4, .ptr 0 0), (8, .ro .unk x0.length (TDeclared.cl x0)), (9, iA (lI x0)), (10, iA v26), (16, sA v28.gKind)] ?_))))
        obtain ⟨v29, hv29, H⟩ := bind_some H
        refine AOps_callp (d := (some 17)) (al := [sA v28.gKind]) (r := bA v29) (by kernel_rfl) (s_text_Key hG hv29) ⟨trivial, trivial⟩ trivial ?_
        refine Rh 2 64 [(0, .ro .unk x0.length (TDeclared.cl x0)), (3, iA v26), (4, .ptr 0 0), (8, .ro .unk x0.length (TDeclared.cl x0)), (9, iA (lI x0)), (10, iA v26), (19, bA (!v29))] ?_
        obtain ⟨v30, hv30, H⟩ := bind_some H
        refine AOps_cut 5 (st' := fr 64 [(0, .ro .unk x0.length (TDeclared.cl x0)), (3, iA v26), (4, .ptr 0 0), (8, .ro .unk x0.length (TDeclared.cl x0)), (9, iA (lI x0)), (10, iA v26), (24, bA ((!v29) || (!v30)))]) (h' := [.cells 112 (TDeclared.cs v28)]) ?_ ?_
        rotate_left
        · cases c1 : (v29 : Bool) with
          | true =>
            refine R 2 64 [(0, .ro .unk x0.length (TDeclared.cl x0)), (3, iA v26), (4, .ptr 0 0), (8, .ro .unk x0.length (TDeclared.cl x0)), (9, iA (lI x0)), (10, iA v26), (19, bA (!true)), (21, sA v28.gName)] [.cells 112 (TDeclared.cs v28)] ?_
            have hv30_ := cond_t hv30 (by simp only [c1] <;> rfl)
            refine AOps_callp (d := (some 22)) (al := [sA v28.gName]) (r := bA v30) (by kernel_rfl) (s_text_Key hG hv30_) ⟨trivial, trivial⟩ trivial ?_
            refine R 2 64 [(0, .ro .unk x0.length (TDeclared.cl x0)), (3, iA v26), (4, .ptr 0 0), (8, .ro .unk x0.length (TDeclared.cl x0)), (9, iA (lI x0)), (10, iA v26), (24, bA ((!true) || (!v30)))] [.cells 112 (TDeclared.cs v28)] ?_
            exact AOps_here [0, 3, 4, 8, 9, 10, 24] (by kernel_rfl) rfl
          | false =>
            refine R 5 64 [(0, .ro .unk x0.length (TDeclared.cl x0)), (3, iA v26), (4, .ptr 0 0), (8, .ro .unk x0.length (TDeclared.cl x0)), (9, iA (lI x0)), (10, iA v26), (24, bA ((!false) || (!v30)))] [.cells 112 (TDeclared.cs v28)] ?_
            exact AOps_here [0, 3, 4, 8, 9, 10, 24] (by kernel_rfl) rfl
        refine Rh 1 64 [(0, .ro .unk x0.length (TDeclared.cl x0)), (3, iA v26), (4, .ptr 0 0), (8, .ro .unk x0.length (TDeclared.cl x0)), (9, iA (lI x0)), (10, iA v26), (25, bA ((!v29) || (!v30)))] (AOps_run 4 [0, 3, 4, 8, 9, 10, 29] (st' := fr 64 [(0, .ro .unk x0.length (TDeclared.cl x0)), (3, iA v26), (4, .ptr 0 0), (8, .ro .unk x0.length (TDeclared.cl x0)), (9, iA (lI x0)), (10, iA v26), (29, bA (((!v29) || (!v30)) || (seq' v28.gName (⟨#[107, 101, 121]⟩ : ByteArray))))]) (h' := [.cells 112 (TDeclared.cs v28)]) (by (generalize v29 = t0; generalize v30 = t1; cases t0 <;> cases t1 <;> kernel_rfl)) ?_)
        refine AOps_done (CD H (fun hb31 H => ?_) (fun hb31 H => ?_))
        · refine AWP_reg (Rh 1 64 [(2, iA 6)] (AOps_done ?_))
          exact AWP_ret (FR H)
        · refine AWP_skip ?_
          show AWP _ _ _ _ _ _ _
          refine AWP_seq (AWP_reg (Rh 4 64 [(0, .ro .unk x0.length (TDeclared.cl x0)), (3, iA v26), (4, .ptr 0 0), (8, .ro .unk x0.length (TDeclared.cl x0)), (9, iA (lI x0)), (10, iA v26), (33, bA (decide (v28.gType < 1)))] (AOps_run 4 [0, 3, 4, 8, 9, 10, 37] (st' := fr 64 [(0, .ro .unk x0.length (TDeclared.cl x0)), (3, iA v26), (4, .ptr 0 0), (8, .ro .unk x0.length (TDeclared.cl x0)), (9, iA (lI x0)), (10, iA v26), (37, bA ((decide (v28.gType < 1)) || (decide (v28.gType > 5))))]) (h' := [.cells 112 (TDeclared.cs v28)]) (by (generalize (decide (v28.gType < 1)) = t0; cases t0 <;> kernel_rfl)) ?_)))
          refine AOps_done (CD H (fun hb32 H => ?_) (fun hb32 H => ?_))
          · refine AWP_reg (Rh 1 64 [(2, iA 7)] (AOps_done ?_))
            exact AWP_ret (FR H)
          · refine AWP_skip ?_
            show AWP _ _ _ _ _ _ _
            obtain ⟨v33, hv33, H⟩ := bind_some H
            obtain ⟨v34, hv34, H⟩ := bind_some H
            obtain ⟨v35, hv35, H⟩ := bind_some H
            obtain ⟨v36, hv36, H⟩ := bind_some H
            obtain ⟨v37, hv37, H⟩ := bind_some H
            refine AWP_regD1 [0, 1, 2, 3, 4, 5, 6, 7, 8, 9, 10, 12, 13, 14, 15, 16, 17, 18, 19, 11, 20, 21, 22, 23, 24] (N := 64) (f := [(0, .ro .unk x0.length (TDeclared.cl x0)), (3, iA v26), (4, .ptr 0 0), (8, .ro .unk x0.length (TDeclared.cl x0)), (9, iA (lI x0)), (10, iA v26)]) (leL_of [0, 3, 4, 8, 9, 10] (by kernel_rfl)) mixed (by kernel_rfl) (by kernel_rfl) (st' := fr 64 [(0, .ro .unk x0.length (TDeclared.cl x0)), (8, .ro .unk x0.length (TDeclared.cl x0)), (9, iA (lI x0)), (10, iA v26), (62, bA ((decide (v26 > 0)) && (decide (v37 ≥ 0))))]) (h' := [.cells 112 (TDeclared.cs v28)]) ?_ ?_
            rotate_left
            · refine RD 3 64 [] [(0, .ro .unk x0.length (TDeclared.cl x0)), (3, iA v26), (4, .ptr 0 0), (8, .ro .unk x0.length (TDeclared.cl x0)), (9, iA (lI x0)), (10, iA v26), (38, iA v26), (39, bA (decide (v26 > 0))), (40, bA (decide (v26 > 0)))] ?_
              cases c1 : (decide (v26 > 0) : Bool) with
              | true =>
                refine RD 3 64 [] [(0, .ro .unk x0.length (TDeclared.cl x0)), (3, iA v26), (4, .ptr 0 0), (8, .ro .unk x0.length (TDeclared.cl x0)), (9, iA (lI x0)), (10, iA v26), (38, iA v26), (39, bA true), (40, bA true), (41, .ro .unk x0.length (TDeclared.cl x0)), (42, iA v26), (43, iA (w64 (v26 - 1)))] ?_
                have hv33_ := cond_t hv33 (by simp only [c1] <;> rfl)
                refine AD_index (d := (some 44)) (sz := 3) (c := TDeclared.cs) (by kernel_rfl) rfl (eq_TDeclared_cl _) (fun _ => rfl) (by decide) hv33_ (fun tl33 => ?_)
                refine RD 7 64 [(10, 0), (9, 0)] [(0, .ro .unk x0.length (TDeclared.cl x0)), (3, iA v26), (4, .ptr 0 0), (8, .ro .unk x0.length (TDeclared.cl x0)), (9, iA (lI x0)), (10, iA v26), (38, iA v26), (39, bA true), (40, bA true), (41, .ro .unk x0.length (TDeclared.cl x0)), (42, iA v26), (43, iA (w64 (v26 - 1))), (44, .rop ([sA v33.gKind, sA v33.gName, iA v33.gType] ++ tl33)), (45, .rop ([sA v33.gKind, sA v33.gName, iA v33.gType] ++ tl33)), (46, sA v33.gKind), (47, .ptr 0 0), (48, sA v28.gKind), (50, .ro .unk x0.length (TDeclared.cl x0)), (51, iA v26), (52, iA (w64 (v26 - 1)))] ?_
                have hv34_ := cond_t hv34 (by simp only [c1] <;> rfl)
                refine AD_index (d := (some 53)) (sz := 3) (c := TDeclared.cs) (by kernel_rfl) rfl (eq_TDeclared_cl _) (fun _ => rfl) (by decide) hv34_ (fun tl34 => ?_)
                refine RD 4 64 [(19, 0), (18, 0), (10, 0), (9, 0)] [(0, .ro .unk x0.length (TDeclared.cl x0)), (3, iA v26), (4, .ptr 0 0), (8, .ro .unk x0.length (TDeclared.cl x0)), (9, iA (lI x0)), (10, iA v26), (38, iA v26), (39, bA true), (40, bA true), (41, .ro .unk x0.length (TDeclared.cl x0)), (42, iA v26), (43, iA (w64 (v26 - 1))), (44, .rop ([sA v33.gKind, sA v33.gName, iA v33.gType] ++ tl33)), (45, .rop ([sA v33.gKind, sA v33.gName, iA v33.gType] ++ tl33)), (46, sA v33.gKind), (47, .ptr 0 0), (48, sA v28.gKind), (50, .ro .unk x0.length (TDeclared.cl x0)), (51, iA v26), (52, iA (w64 (v26 - 1))), (53, .rop ([sA v34.gKind, sA v34.gName, iA v34.gType] ++ tl34)), (54, .rop ([sA v34.gName, iA v34.gType] ++ tl34)), (55, sA v34.gName), (56, .ptr 0 1), (57, sA v28.gName)] ?_
                have hv35_ := cond_t hv35 (by simp only [c1] <;> rfl)
                refine AD_callp (d := (some 49)) (al := [sA v33.gKind, sA v28.gKind]) (r := iA v35) (by kernel_rfl) (s_strings_Compare hv35_) ⟨trivial, trivial, trivial⟩ trivial ?_
                have hv36_ := cond_t hv36 (by simp only [c1] <;> rfl)
                refine AD_callp (d := (some 58)) (al := [sA v34.gName, sA v28.gName]) (r := iA v36) (by kernel_rfl) (s_strings_Compare hv36_) ⟨trivial, trivial, trivial⟩ trivial ?_
                refine AD_bsl (d := (some 59)) (m := 2) (cs := [iA v35, iA v36]) (by kernel_rfl) ⟨trivial, trivial, trivial⟩ ?_
                have hv37_ := cond_t hv37 (by simp only [c1] <;> rfl)
                refine AD_callp (d := (some 60)) (al := [.ro .unk ([v35, v36]).length (cl_i64 ([v35, v36]))]) (r := iA v37) (by kernel_rfl) (s_cmp_Or_int hv37_) ⟨(scl_cl_i64 _ _), trivial⟩ trivial ?_
                refine RD 2 64 [(19, 0), (18, 0), (10, 0), (9, 0)] [(0, .ro .unk x0.length (TDeclared.cl x0)), (3, iA v26), (4, .ptr 0 0), (8, .ro .unk x0.length (TDeclared.cl x0)), (9, iA (lI x0)), (10, iA v26), (38, iA v26), (39, bA true), (40, bA true), (41, .ro .unk x0.length (TDeclared.cl x0)), (42, iA v26), (43, iA (w64 (v26 - 1))), (44, .rop ([sA v33.gKind, sA v33.gName, iA v33.gType] ++ tl33)), (45, .rop ([sA v33.gKind, sA v33.gName, iA v33.gType] ++ tl33)), (46, sA v33.gKind), (47, .ptr 0 0), (48, sA v28.gKind), (49, iA v35), (50, .ro .unk x0.length (TDeclared.cl x0)), (51, iA v26), (52, iA (w64 (v26 - 1))), (53, .rop ([sA v34.gKind, sA v34.gName, iA v34.gType] ++ tl34)), (54, .rop ([sA v34.gName, iA v34.gType] ++ tl34)), (55, sA v34.gName), (56, .ptr 0 1), (57, sA v28.gName), (58, iA v36), (59, .ro .unk ([v35, v36]).length (cl_i64 ([v35, v36]))), (60, iA v37), (61, bA (decide (v37 ≥ 0))), (62, bA (true && (decide (v37 ≥ 0))))] ?_
                exact AD_here [0, 8, 9, 10, 62] (by kernel_rfl) rfl
              | false =>
                refine RD 16 64 [] [(0, .ro .unk x0.length (TDeclared.cl x0)), (3, iA v26), (4, .ptr 0 0), (8, .ro .unk x0.length (TDeclared.cl x0)), (9, iA (lI x0)), (10, iA v26), (38, iA v26), (39, bA false), (40, bA false), (41, undefA), (42, undefA), (43, undefA), (44, undefA), (45, undefA), (46, undefA), (47, undefA), (48, undefA), (50, undefA), (51, undefA), (52, undefA), (53, undefA), (54, undefA), (55, undefA), (56, undefA), (57, undefA)] (AD_offB (d := some 49) (by kernel_rfl) ?_)
                refine AD_offB (d := some 58) (by kernel_rfl) ?_
                refine AD_offB (d := some 59) (by kernel_rfl) ?_
                refine AD_offB (d := some 60) (by kernel_rfl) ?_
                refine RD 2 64 [] [(0, .ro .unk x0.length (TDeclared.cl x0)), (3, iA v26), (4, .ptr 0 0), (8, .ro .unk x0.length (TDeclared.cl x0)), (9, iA (lI x0)), (10, iA v26), (38, iA v26), (39, bA false), (40, bA false), (41, undefA), (42, undefA), (43, undefA), (44, undefA), (45, undefA), (46, undefA), (47, undefA), (48, undefA), (49, undefA), (50, undefA), (51, undefA), (52, undefA), (53, undefA), (54, undefA), (55, undefA), (56, undefA), (57, undefA), (58, undefA), (59, undefA), (60, undefA), (61, undefA), (62, bA (false && (decide (v37 ≥ 0))))] ?_
                exact AD_here [0, 8, 9, 10, 62] (by kernel_rfl) rfl
            refine CD H (fun hb38 H => ?_) (fun hb38 H => ?_)
            · refine AWP_reg (Rh 1 64 [(2, iA 9)] (AOps_done ?_))
              exact AWP_ret (FR H)
            · refine AWP_skip ?_
              show AWP _ _ _ _ _ _ _
              refine AWP_region ?_
              refine Rh 2 64 [(0, .ro .unk x0.length (TDeclared.cl x0)), (8, .ro .unk x0.length (TDeclared.cl x0)), (9, iA (lI x0)), (10, iA (w64 (v26 + 1)))] (AOps_done ?_)
              exact Exists.intro (w64 (v26 + 1)) (Exists.intro n ⟨by omega, ⟨by omega, H⟩, Norm_fd [0, 8, 9, 10] 1 (by kernel_rfl) rfl rfl trivial (by refine scL_fr ?_; exact ⟨(scl_TDeclared_cl _ _), (scl_TDeclared_cl _ _), trivial, trivial, trivial⟩)⟩)
      · refine AWP_exit ?_
        show AWP _ _ _ _ _ _ _
        refine AWP_reg (Rh 1 64 [(2, iA 0)] (AOps_done ?_))
        exact AWP_ret (FR H)
end Go.Proofs.YtjhbobacbaikoaaGreatDoor
/- A function of the program as a pure function, and that the program computes it. -/
namespace Go.Proofs.YtjhbobacbaikoaaGreatDoor
open Go
set_option linter.unusedVariables false
set_option linter.unusedSimpArgs false
set_option maxRecDepth 100000
def p_shape_list_api_Experiment_L1 (n : Nat) (x0 : List TExperiment) : Option Int := match n with
| 0 => none
| n + 1 =>
(bif decide (0 < (lI x0)) then
(rdO x0 0).bind fun v5 =>
 none
 else
 some (0))
def p_shape_list_api_Experiment (n : Nat) (x0 : List TExperiment) (x1 : Int) : Option Int :=
(bif decide ((lI x0) > x1) then
 some (5)
 else
 p_shape_list_api_Experiment_L1 n x0 )
variable {E : Env}
theorem s_shape_list_api_Experiment {n : Nat} (hG : GlobT E) {x0 : List TExperiment} {x1 : Int} {r : Int} (H : p_shape_list_api_Experiment n x0 x1 = some r) :
    Sp Tryz.prog E 95 [.ro .unk x0.length (TExperiment.cl x0), iA x1, .val (.func (.func 40) #[] #[]), .val (.func (.func 96) #[] #[])] [] (isA (iA r) []) := by
  unfold p_shape_list_api_Experiment at H
  refine Sp_fn Tryz.func95 rfl (fun hc hs => ?_)
  refine AWP_reg (Rh 1 45 [(0, .ro .unk x0.length (TExperiment.cl x0)), (1, iA x1), (2, .val (.func (.func 40) #[] #[])), (3, .val (.func (.func 96) #[] #[]))] (AOps_done (AWP_seq (AWP_reg (Rh 4 45 [(0, .ro .unk x0.length (TExperiment.cl x0)), (2, .val (.func (.func 40) #[] #[])), (3, .val (.func (.func 96) #[] #[])), (15, bA (decide ((lI x0) > x1)))] (AOps_done (CD H (fun hb1 H => ?_) (fun hb1 H => ?_))))))))
  · refine AWP_reg (Rh 1 45 [(8, iA 5)] (AOps_done ?_))
    exact AWP_ret (FR H)
  · refine AWP_skip ?_
    show AWP _ _ _ _ _ _ _
    refine AWP_seq (AWP_reg (Rh 3 45 [(0, .ro .unk x0.length (TExperiment.cl x0)), (2, .val (.func (.func 40) #[] #[])), (3, .val (.func (.func 96) #[] #[])), (16, .ro .unk x0.length (TExperiment.cl x0)), (17, iA (lI x0)), (18, iA 0)] (AOps_done (AWP_block ?_))))
    refine AWP_loopN (α := Unit) (fun _ => fr 45 [(0, .ro .unk x0.length (TExperiment.cl x0)), (2, .val (.func (.func 40) #[] #[])), (3, .val (.func (.func 96) #[] #[])), (16, .ro .unk x0.length (TExperiment.cl x0)), (17, iA (lI x0)), (18, iA 0)]) (fun _ => []) (fun k_ _ => k_ ≤ n ∧ p_shape_list_api_Experiment_L1 k_ x0  = some r) (fun n a H => ?_) (k := n) () ⟨Nat.le_refl _, H⟩ (Norm_fd [0, 2, 3, 16, 17, 18] 0 (by kernel_rfl) rfl rfl trivial (by refine scL_fr ?_; exact ⟨(scl_TExperiment_cl _ _), trivial, trivial, (scl_TExperiment_cl _ _), trivial, trivial, trivial⟩))
    show AWP _ _ _ _ _ (fr 45 [(0, .ro .unk x0.length (TExperiment.cl x0)), (2, .val (.func (.func 40) #[] #[])), (3, .val (.func (.func 96) #[] #[])), (16, .ro .unk x0.length (TExperiment.cl x0)), (17, iA (lI x0)), (18, iA 0)]) []
    obtain ⟨hb_, H⟩ := H
    replace H : p_shape_list_api_Experiment_L1 n x0  = some r := H
    cases n with
    | zero => exact not_none (by simpa only [p_shape_list_api_Experiment_L1] using H)
    | succ n =>
      unfold p_shape_list_api_Experiment_L1 at H
      refine AWP_reg (Rh 1 45 [(0, .ro .unk x0.length (TExperiment.cl x0)), (2, .val (.func (.func 40) #[] #[])), (3, .val (.func (.func 96) #[] #[])), (16, .ro .unk x0.length (TExperiment.cl x0)), (17, iA (lI x0)), (18, iA 0), (19, bA (decide (0 < (lI x0))))] (AOps_done (AWP_seq (CD H (fun hb4 H => ?_) (fun hb4 H => ?_)))))
      · refine AWP_skip ?_
        show AWP _ _ _ _ _ _ _
        refine AWP_seq (AWP_block ?_)
        refine AWP_reg (Rh 1 45 [(0, .ro .unk x0.length (TExperiment.cl x0)), (2, .val (.func (.func 40) #[] #[])), (3, .val (.func (.func 96) #[] #[])), (16, .ro .unk x0.length (TExperiment.cl x0)), (17, iA (lI x0)), (18, iA 0), (20, iA 0)] ?_)
        obtain ⟨v5, hv5, H⟩ := bind_some H
        refine AOps_index (d := (some 21)) (sz := 12) (c := TExperiment.cs) (by kernel_rfl) rfl (eq_TExperiment_cl _) (fun _ => rfl) (by decide) hv5 (fun tl5 => ?_)
        refine R 4 45 [(0, .ro .unk x0.length (TExperiment.cl x0)), (2, .val (.func (.func 40) #[] #[])), (3, .val (.func (.func 96) #[] #[])), (9, iA 0), (10, .ptr 0 0), (16, .ro .unk x0.length (TExperiment.cl x0)), (17, iA (lI x0)), (18, iA 0)] [.cells 42 (TExperiment.cs v5)] (AOps_done (AWP_seq ?_))
        exact not_none H
      · refine AWP_exit ?_
        show AWP _ _ _ _ _ _ _
        refine AWP_reg (Rh 1 45 [(8, iA 0)] (AOps_done ?_))
        exact AWP_ret (FR H)
end Go.Proofs.YtjhbobacbaikoaaGreatDoor
/- A function of the program as a pure function, and that the program computes it. -/
namespace Go.Proofs.YtjhbobacbaikoaaGreatDoor
open Go
set_option linter.unusedVariables false
set_option linter.unusedSimpArgs false
set_option maxRecDepth 100000
def p_shape_list_api_Flag_L1 (n : Nat) (x0 : List TFlag) : Option Int := match n with
| 0 => none
| n + 1 =>
(bif decide (0 < (lI x0)) then
(rdO x0 0).bind fun v5 =>
 none
 else
 some (0))
def p_shape_list_api_Flag (n : Nat) (x0 : List TFlag) (x1 : Int) : Option Int :=
(bif decide ((lI x0) > x1) then
 some (5)
 else
 p_shape_list_api_Flag_L1 n x0 )
variable {E : Env}
theorem s_shape_list_api_Flag {n : Nat} (hG : GlobT E) {x0 : List TFlag} {x1 : Int} {r : Int} (H : p_shape_list_api_Flag n x0 x1 = some r) :
    Sp Tryz.prog E 91 [.ro .unk x0.length (TFlag.cl x0), iA x1, .val (.func (.func 34) #[] #[]), .val (.func (.func 92) #[] #[])] [] (isA (iA r) []) := by
  unfold p_shape_list_api_Flag at H
  refine Sp_fn Tryz.func91 rfl (fun hc hs => ?_)
  refine AWP_reg (Rh 1 45 [(0, .ro .unk x0.length (TFlag.cl x0)), (1, iA x1), (2, .val (.func (.func 34) #[] #[])), (3, .val (.func (.func 92) #[] #[]))] (AOps_done (AWP_seq (AWP_reg (Rh 4 45 [(0, .ro .unk x0.length (TFlag.cl x0)), (2, .val (.func (.func 34) #[] #[])), (3, .val (.func (.func 92) #[] #[])), (15, bA (decide ((lI x0) > x1)))] (AOps_done (CD H (fun hb1 H => ?_) (fun hb1 H => ?_))))))))
  · refine AWP_reg (Rh 1 45 [(8, iA 5)] (AOps_done ?_))
    exact AWP_ret (FR H)
  · refine AWP_skip ?_
    show AWP _ _ _ _ _ _ _
    refine AWP_seq (AWP_reg (Rh 3 45 [(0, .ro .unk x0.length (TFlag.cl x0)), (2, .val (.func (.func 34) #[] #[])), (3, .val (.func (.func 92) #[] #[])), (16, .ro .unk x0.length (TFlag.cl x0)), (17, iA (lI x0)), (18, iA 0)] (AOps_done (AWP_block ?_))))
    refine AWP_loopN (α := Unit) (fun _ => fr 45 [(0, .ro .unk x0.length (TFlag.cl x0)), (2, .val (.func (.func 34) #[] #[])), (3, .val (.func (.func 92) #[] #[])), (16, .ro .unk x0.length (TFlag.cl x0)), (17, iA (lI x0)), (18, iA 0)]) (fun _ => []) (fun k_ _ => k_ ≤ n ∧ p_shape_list_api_Flag_L1 k_ x0  = some r) (fun n a H => ?_) (k := n) () ⟨Nat.le_refl _, H⟩ (Norm_fd [0, 2, 3, 16, 17, 18] 0 (by kernel_rfl) rfl rfl trivial (by refine scL_fr ?_; exact ⟨(scl_TFlag_cl _ _), trivial, trivial, (scl_TFlag_cl _ _), trivial, trivial, trivial⟩))
    show AWP _ _ _ _ _ (fr 45 [(0, .ro .unk x0.length (TFlag.cl x0)), (2, .val (.func (.func 34) #[] #[])), (3, .val (.func (.func 92) #[] #[])), (16, .ro .unk x0.length (TFlag.cl x0)), (17, iA (lI x0)), (18, iA 0)]) []
    obtain ⟨hb_, H⟩ := H
    replace H : p_shape_list_api_Flag_L1 n x0  = some r := H
    cases n with
    | zero => exact not_none (by simpa only [p_shape_list_api_Flag_L1] using H)
    | succ n =>
      unfold p_shape_list_api_Flag_L1 at H
      refine AWP_reg (Rh 1 45 [(0, .ro .unk x0.length (TFlag.cl x0)), (2, .val (.func (.func 34) #[] #[])), (3, .val (.func (.func 92) #[] #[])), (16, .ro .unk x0.length (TFlag.cl x0)), (17, iA (lI x0)), (18, iA 0), (19, bA (decide (0 < (lI x0))))] (AOps_done (AWP_seq (CD H (fun hb4 H => ?_) (fun hb4 H => ?_)))))
      · refine AWP_skip ?_
        show AWP _ _ _ _ _ _ _
        refine AWP_seq (AWP_block ?_)
        refine AWP_reg (Rh 1 45 [(0, .ro .unk x0.length (TFlag.cl x0)), (2, .val (.func (.func 34) #[] #[])), (3, .val (.func (.func 92) #[] #[])), (16, .ro .unk x0.length (TFlag.cl x0)), (17, iA (lI x0)), (18, iA 0), (20, iA 0)] ?_)
        obtain ⟨v5, hv5, H⟩ := bind_some H
        refine AOps_index (d := (some 21)) (sz := 13) (c := TFlag.cs) (by kernel_rfl) rfl (eq_TFlag_cl _) (fun _ => rfl) (by decide) hv5 (fun tl5 => ?_)
        refine R 4 45 [(0, .ro .unk x0.length (TFlag.cl x0)), (2, .val (.func (.func 34) #[] #[])), (3, .val (.func (.func 92) #[] #[])), (9, iA 0), (10, .ptr 0 0), (16, .ro .unk x0.length (TFlag.cl x0)), (17, iA (lI x0)), (18, iA 0)] [.cells 65 (TFlag.cs v5)] (AOps_done (AWP_seq ?_))
        exact not_none H
      · refine AWP_exit ?_
        show AWP _ _ _ _ _ _ _
        refine AWP_reg (Rh 1 45 [(8, iA 0)] (AOps_done ?_))
        exact AWP_ret (FR H)
end Go.Proofs.YtjhbobacbaikoaaGreatDoor
/- A function of the program as a pure function, and that the program computes it. -/
namespace Go.Proofs.YtjhbobacbaikoaaGreatDoor
open Go
set_option linter.unusedVariables false
set_option linter.unusedSimpArgs false
set_option maxRecDepth 100000
def p_shape_list_api_Layer_L1 (n : Nat) (x0 : List TLayer) : Option Int := match n with
| 0 => none
| n + 1 =>
(bif decide (0 < (lI x0)) then
(rdO x0 0).bind fun v5 =>
 none
 else
 some (0))
def p_shape_list_api_Layer (n : Nat) (x0 : List TLayer) (x1 : Int) : Option Int :=
(bif decide ((lI x0) > x1) then
 some (5)
 else
 p_shape_list_api_Layer_L1 n x0 )
variable {E : Env}
theorem s_shape_list_api_Layer {n : Nat} (hG : GlobT E) {x0 : List TLayer} {x1 : Int} {r : Int} (H : p_shape_list_api_Layer n x0 x1 = some r) :
    Sp Tryz.prog E 93 [.ro .unk x0.length (TLayer.cl x0), iA x1, .val (.func (.func 38) #[] #[]), .val (.func (.func 94) #[] #[])] [] (isA (iA r) []) := by
  unfold p_shape_list_api_Layer at H
  refine Sp_fn Tryz.func93 rfl (fun hc hs => ?_)
  refine AWP_reg (Rh 1 45 [(0, .ro .unk x0.length (TLayer.cl x0)), (1, iA x1), (2, .val (.func (.func 38) #[] #[])), (3, .val (.func (.func 94) #[] #[]))] (AOps_done (AWP_seq (AWP_reg (Rh 4 45 [(0, .ro .unk x0.length (TLayer.cl x0)), (2, .val (.func (.func 38) #[] #[])), (3, .val (.func (.func 94) #[] #[])), (15, bA (decide ((lI x0) > x1)))] (AOps_done (CD H (fun hb1 H => ?_) (fun hb1 H => ?_))))))))
  · refine AWP_reg (Rh 1 45 [(8, iA 5)] (AOps_done ?_))
    exact AWP_ret (FR H)
  · refine AWP_skip ?_
    show AWP _ _ _ _ _ _ _
    refine AWP_seq (AWP_reg (Rh 3 45 [(0, .ro .unk x0.length (TLayer.cl x0)), (2, .val (.func (.func 38) #[] #[])), (3, .val (.func (.func 94) #[] #[])), (16, .ro .unk x0.length (TLayer.cl x0)), (17, iA (lI x0)), (18, iA 0)] (AOps_done (AWP_block ?_))))
    refine AWP_loopN (α := Unit) (fun _ => fr 45 [(0, .ro .unk x0.length (TLayer.cl x0)), (2, .val (.func (.func 38) #[] #[])), (3, .val (.func (.func 94) #[] #[])), (16, .ro .unk x0.length (TLayer.cl x0)), (17, iA (lI x0)), (18, iA 0)]) (fun _ => []) (fun k_ _ => k_ ≤ n ∧ p_shape_list_api_Layer_L1 k_ x0  = some r) (fun n a H => ?_) (k := n) () ⟨Nat.le_refl _, H⟩ (Norm_fd [0, 2, 3, 16, 17, 18] 0 (by kernel_rfl) rfl rfl trivial (by refine scL_fr ?_; exact ⟨(scl_TLayer_cl _ _), trivial, trivial, (scl_TLayer_cl _ _), trivial, trivial, trivial⟩))
    show AWP _ _ _ _ _ (fr 45 [(0, .ro .unk x0.length (TLayer.cl x0)), (2, .val (.func (.func 38) #[] #[])), (3, .val (.func (.func 94) #[] #[])), (16, .ro .unk x0.length (TLayer.cl x0)), (17, iA (lI x0)), (18, iA 0)]) []
    obtain ⟨hb_, H⟩ := H
    replace H : p_shape_list_api_Layer_L1 n x0  = some r := H
    cases n with
    | zero => exact not_none (by simpa only [p_shape_list_api_Layer_L1] using H)
    | succ n =>
      unfold p_shape_list_api_Layer_L1 at H
      refine AWP_reg (Rh 1 45 [(0, .ro .unk x0.length (TLayer.cl x0)), (2, .val (.func (.func 38) #[] #[])), (3, .val (.func (.func 94) #[] #[])), (16, .ro .unk x0.length (TLayer.cl x0)), (17, iA (lI x0)), (18, iA 0), (19, bA (decide (0 < (lI x0))))] (AOps_done (AWP_seq (CD H (fun hb4 H => ?_) (fun hb4 H => ?_)))))
      · refine AWP_skip ?_
        show AWP _ _ _ _ _ _ _
        refine AWP_seq (AWP_block ?_)
        refine AWP_reg (Rh 1 45 [(0, .ro .unk x0.length (TLayer.cl x0)), (2, .val (.func (.func 38) #[] #[])), (3, .val (.func (.func 94) #[] #[])), (16, .ro .unk x0.length (TLayer.cl x0)), (17, iA (lI x0)), (18, iA 0), (20, iA 0)] ?_)
        obtain ⟨v5, hv5, H⟩ := bind_some H
        refine AOps_index (d := (some 21)) (sz := 6) (c := TLayer.cs) (by kernel_rfl) rfl (eq_TLayer_cl _) (fun _ => rfl) (by decide) hv5 (fun tl5 => ?_)
        refine R 4 45 [(0, .ro .unk x0.length (TLayer.cl x0)), (2, .val (.func (.func 38) #[] #[])), (3, .val (.func (.func 94) #[] #[])), (9, iA 0), (10, .ptr 0 0), (16, .ro .unk x0.length (TLayer.cl x0)), (17, iA (lI x0)), (18, iA 0)] [.cells 74 (TLayer.cs v5)] (AOps_done (AWP_seq ?_))
        exact not_none H
      · refine AWP_exit ?_
        show AWP _ _ _ _ _ _ _
        refine AWP_reg (Rh 1 45 [(8, iA 0)] (AOps_done ?_))
        exact AWP_ret (FR H)
end Go.Proofs.YtjhbobacbaikoaaGreatDoor
/- A function of the program as a pure function, and that the program computes it. -/
namespace Go.Proofs.YtjhbobacbaikoaaGreatDoor
open Go
set_option linter.unusedVariables false
set_option linter.unusedSimpArgs false
set_option maxRecDepth 100000
def p_shape_list_api_Segment_L1 (n : Nat) (x0 : List TSegment) : Option Int := match n with
| 0 => none
| n + 1 =>
(bif decide (0 < (lI x0)) then
(rdO x0 0).bind fun v5 =>
 none
 else
 some (0))
def p_shape_list_api_Segment (n : Nat) (x0 : List TSegment) (x1 : Int) : Option Int :=
(bif decide ((lI x0) > x1) then
 some (5)
 else
 p_shape_list_api_Segment_L1 n x0 )
variable {E : Env}
theorem s_shape_list_api_Segment {n : Nat} (hG : GlobT E) {x0 : List TSegment} {x1 : Int} {r : Int} (H : p_shape_list_api_Segment n x0 x1 = some r) :
    Sp Tryz.prog E 89 [.ro .unk x0.length (TSegment.cl x0), iA x1, .val (.func (.func 36) #[] #[]), .val (.func (.func 90) #[] #[])] [] (isA (iA r) []) := by
  unfold p_shape_list_api_Segment at H
  refine Sp_fn Tryz.func89 rfl (fun hc hs => ?_)
  refine AWP_reg (Rh 1 45 [(0, .ro .unk x0.length (TSegment.cl x0)), (1, iA x1), (2, .val (.func (.func 36) #[] #[])), (3, .val (.func (.func 90) #[] #[]))] (AOps_done (AWP_seq (AWP_reg (Rh 4 45 [(0, .ro .unk x0.length (TSegment.cl x0)), (2, .val (.func (.func 36) #[] #[])), (3, .val (.func (.func 90) #[] #[])), (15, bA (decide ((lI x0) > x1)))] (AOps_done (CD H (fun hb1 H => ?_) (fun hb1 H => ?_))))))))
  · refine AWP_reg (Rh 1 45 [(8, iA 5)] (AOps_done ?_))
    exact AWP_ret (FR H)
  · refine AWP_skip ?_
    show AWP _ _ _ _ _ _ _
    refine AWP_seq (AWP_reg (Rh 3 45 [(0, .ro .unk x0.length (TSegment.cl x0)), (2, .val (.func (.func 36) #[] #[])), (3, .val (.func (.func 90) #[] #[])), (16, .ro .unk x0.length (TSegment.cl x0)), (17, iA (lI x0)), (18, iA 0)] (AOps_done (AWP_block ?_))))
    refine AWP_loopN (α := Unit) (fun _ => fr 45 [(0, .ro .unk x0.length (TSegment.cl x0)), (2, .val (.func (.func 36) #[] #[])), (3, .val (.func (.func 90) #[] #[])), (16, .ro .unk x0.length (TSegment.cl x0)), (17, iA (lI x0)), (18, iA 0)]) (fun _ => []) (fun k_ _ => k_ ≤ n ∧ p_shape_list_api_Segment_L1 k_ x0  = some r) (fun n a H => ?_) (k := n) () ⟨Nat.le_refl _, H⟩ (Norm_fd [0, 2, 3, 16, 17, 18] 0 (by kernel_rfl) rfl rfl trivial (by refine scL_fr ?_; exact ⟨(scl_TSegment_cl _ _), trivial, trivial, (scl_TSegment_cl _ _), trivial, trivial, trivial⟩))
    show AWP _ _ _ _ _ (fr 45 [(0, .ro .unk x0.length (TSegment.cl x0)), (2, .val (.func (.func 36) #[] #[])), (3, .val (.func (.func 90) #[] #[])), (16, .ro .unk x0.length (TSegment.cl x0)), (17, iA (lI x0)), (18, iA 0)]) []
    obtain ⟨hb_, H⟩ := H
    replace H : p_shape_list_api_Segment_L1 n x0  = some r := H
    cases n with
    | zero => exact not_none (by simpa only [p_shape_list_api_Segment_L1] using H)
    | succ n =>
      unfold p_shape_list_api_Segment_L1 at H
      refine AWP_reg (Rh 1 45 [(0, .ro .unk x0.length (TSegment.cl x0)), (2, .val (.func (.func 36) #[] #[])), (3, .val (.func (.func 90) #[] #[])), (16, .ro .unk x0.length (TSegment.cl x0)), (17, iA (lI x0)), (18, iA 0), (19, bA (decide (0 < (lI x0))))] (AOps_done (AWP_seq (CD H (fun hb4 H => ?_) (fun hb4 H => ?_)))))
      · refine AWP_skip ?_
        show AWP _ _ _ _ _ _ _
        refine AWP_seq (AWP_block ?_)
        refine AWP_reg (Rh 1 45 [(0, .ro .unk x0.length (TSegment.cl x0)), (2, .val (.func (.func 36) #[] #[])), (3, .val (.func (.func 90) #[] #[])), (16, .ro .unk x0.length (TSegment.cl x0)), (17, iA (lI x0)), (18, iA 0), (20, iA 0)] ?_)
        obtain ⟨v5, hv5, H⟩ := bind_some H
        refine AOps_index (d := (some 21)) (sz := 9) (c := TSegment.cs) (by kernel_rfl) rfl (eq_TSegment_cl _) (fun _ => rfl) (by decide) hv5 (fun tl5 => ?_)
        refine R 4 45 [(0, .ro .unk x0.length (TSegment.cl x0)), (2, .val (.func (.func 36) #[] #[])), (3, .val (.func (.func 90) #[] #[])), (9, iA 0), (10, .ptr 0 0), (16, .ro .unk x0.length (TSegment.cl x0)), (17, iA (lI x0)), (18, iA 0)] [.cells 71 (TSegment.cs v5)] (AOps_done (AWP_seq ?_))
        exact not_none H
      · refine AWP_exit ?_
        show AWP _ _ _ _ _ _ _
        refine AWP_reg (Rh 1 45 [(8, iA 0)] (AOps_done ?_))
        exact AWP_ret (FR H)
end Go.Proofs.YtjhbobacbaikoaaGreatDoor
/- A function of the program as a pure function, and that the program computes it. -/
namespace Go.Proofs.YtjhbobacbaikoaaGreatDoor
open Go
set_option linter.unusedVariables false
set_option linter.unusedSimpArgs false
set_option maxRecDepth 100000
def p_shape_Environment (n : Nat) (x0 : TEnvironment) : Option Int :=
(p_text_Valid n x0.gSettings.gSalt).bind fun v1 =>
(p_shape_when n (!v1) 2).bind fun v2 =>
(p_shape_when n ((decide (x0.gSettings.gHoldout < 0)) || (decide (x0.gSettings.gHoldout > 10000))) 3).bind fun v3 =>
(p_text_Key n x0.gSettings.gHoldoutKind).bind fun v4 =>
(p_shape_when n ((!v4) && ((!(seq' x0.gSettings.gHoldoutKind ByteArray.empty)) || (x0.gSettings.gHoldout != 0))) 6).bind fun v5 =>
(p_shape_attributes n x0.gAttributes).bind fun v6 =>
(p_shape_first n ([v2, v3, v5, v6])).bind fun v7 =>
(bif v7 != 0 then
 some (v7)
 else
(p_shape_list_api_Segment n x0.gSegments 20).bind fun v9 =>
(bif v9 != 0 then
 some (v9)
 else
(p_shape_list_api_Flag n x0.gFlags 30).bind fun v11 =>
(bif v11 != 0 then
 some (v11)
 else
(p_shape_list_api_Layer n x0.gLayers 6).bind fun v13 =>
(bif v13 != 0 then
 some (v13)
 else
(p_shape_list_api_Experiment n x0.gExperiments 16).bind fun v15 =>
 some (v15)))))
variable {E : Env}
theorem s_shape_Environment {n : Nat} (hG : GlobT E) {x0 : TEnvironment} {r : Int} (H : p_shape_Environment n x0 = some r) :
    Sp Tryz.prog E 44 [.agg (TEnvironment.cs x0)] [] (isA (iA r) []) := by
  unfold p_shape_Environment at H
  refine Sp_fn Tryz.func44 rfl (fun hc hs => ?_)
  refine AWP_reg (R 2 68 [(1, .ptr 0 0)] [.cells 90 (TEnvironment.cs x0)] (AOps_done (AWP_reg (R 4 68 [(1, .ptr 0 0), (3, .ptr 1 0)] [.cells 83 (TSettings.cs x0.gSettings), .cells 90 (TEnvironment.cs x0)] (AOps_done (AWP_seq ?_))))))
  obtain ⟨v1, hv1, H⟩ := bind_some H
  obtain ⟨v2, hv2, H⟩ := bind_some H
  obtain ⟨v3, hv3, H⟩ := bind_some H
  obtain ⟨v4, hv4, H⟩ := bind_some H
  obtain ⟨v5, hv5, H⟩ := bind_some H
  obtain ⟨v6, hv6, H⟩ := bind_some H
  obtain ⟨v7, hv7, H⟩ := bind_some H
  refine AWP_regD1 [0, 1, 5, 6, 7, 14, 15, 29, 30, 2, 3, 4, 8, 9, 10, 11, 12, 13, 16, 17, 18, 19, 20, 21, 22, 23, 24, 25, 26, 27, 28, 31, 32, 33, 34] (N := 68) (f := [(1, .ptr 0 0), (3, .ptr 1 0)]) (leL_of [1, 3] (by kernel_rfl)) mixed (by kernel_rfl) (by kernel_rfl) (st' := fr 68 [(1, .ptr 0 0), (4, iA v7)]) (h' := [.cells 83 (TSettings.cs x0.gSettings), .cells 90 (TEnvironment.cs x0)]) ?_ ?_
  rotate_left
  · refine RD 9 68 [(30, 0), (29, 0), (15, 1), (14, 1), (6, 1), (5, 1), (1, 1), (0, 1)] [(1, .ptr 0 0), (3, .ptr 1 0), (10, .ptr 1 0), (11, sA x0.gSettings.gSalt), (15, .ptr 1 2), (16, iA x0.gSettings.gHoldout), (17, bA (decide (x0.gSettings.gHoldout < 0))), (24, .ptr 1 1), (25, sA x0.gSettings.gHoldoutKind), (39, .ptr 0 3), (40, .ro .unk x0.gAttributes.length (TDeclared.cl x0.gAttributes))] (AD_callp (d := (some 12)) (al := [sA x0.gSettings.gSalt]) (r := bA v1) (by kernel_rfl) (s_text_Valid hG hv1) ⟨trivial, trivial⟩ trivial ?_)
    refine RD 1 68 [(30, 0), (29, 0), (15, 1), (14, 1), (6, 1), (5, 1), (1, 1), (0, 1)] [(1, .ptr 0 0), (3, .ptr 1 0), (10, .ptr 1 0), (11, sA x0.gSettings.gSalt), (12, bA v1), (13, bA (!v1)), (15, .ptr 1 2), (16, iA x0.gSettings.gHoldout), (17, bA (decide (x0.gSettings.gHoldout < 0))), (24, .ptr 1 1), (25, sA x0.gSettings.gHoldoutKind), (39, .ptr 0 3), (40, .ro .unk x0.gAttributes.length (TDeclared.cl x0.gAttributes))] (AD_callp (d := (some 14)) (al := [bA (!v1), iA 2]) (r := iA v2) (by kernel_rfl) (s_shape_when hv2) ⟨trivial, trivial, trivial⟩ trivial ?_)
    refine RD 1 68 [(30, 0), (29, 0), (15, 1), (14, 1), (6, 1), (5, 1), (1, 1), (0, 1)] [(1, .ptr 0 0), (3, .ptr 1 0), (10, .ptr 1 0), (11, sA x0.gSettings.gSalt), (12, bA v1), (13, bA (!v1)), (14, iA v2), (15, .ptr 1 2), (16, iA x0.gSettings.gHoldout), (17, bA (decide (x0.gSettings.gHoldout < 0))), (18, bA (decide (x0.gSettings.gHoldout < 0))), (24, .ptr 1 1), (25, sA x0.gSettings.gHoldoutKind), (39, .ptr 0 3), (40, .ro .unk x0.gAttributes.length (TDeclared.cl x0.gAttributes))] ?_
    cases c1 : (decide (x0.gSettings.gHoldout < 0) : Bool) with
    | true =>
      refine RD 4 68 [(30, 0), (29, 0), (15, 1), (14, 1), (6, 1), (5, 1), (1, 1), (0, 1)] [(1, .ptr 0 0), (3, .ptr 1 0), (10, .ptr 1 0), (11, sA x0.gSettings.gSalt), (12, bA v1), (13, bA (!v1)), (14, iA v2), (15, .ptr 1 2), (16, iA x0.gSettings.gHoldout), (17, bA true), (18, bA true), (19, undefA), (20, undefA), (21, undefA), (22, bA (true || (decide (x0.gSettings.gHoldout > 10000)))), (24, .ptr 1 1), (25, sA x0.gSettings.gHoldoutKind), (39, .ptr 0 3), (40, .ro .unk x0.gAttributes.length (TDeclared.cl x0.gAttributes))] ?_
      try rw [c1] at hv3
      refine AD_callp (d := (some 23)) (al := [bA (true || (decide (x0.gSettings.gHoldout > 10000))), iA 3]) (r := iA v3) (by kernel_rfl) (s_shape_when hv3) ⟨trivial, trivial, trivial⟩ trivial ?_
      refine AD_callp (d := (some 26)) (al := [sA x0.gSettings.gHoldoutKind]) (r := bA v4) (by kernel_rfl) (s_text_Key hG hv4) ⟨trivial, trivial⟩ trivial ?_
      refine RD 2 68 [(30, 0), (29, 0), (15, 1), (14, 1), (6, 1), (5, 1), (1, 1), (0, 1)] [(1, .ptr 0 0), (3, .ptr 1 0), (10, .ptr 1 0), (11, sA x0.gSettings.gSalt), (12, bA v1), (13, bA (!v1)), (14, iA v2), (15, .ptr 1 2), (16, iA x0.gSettings.gHoldout), (17, bA true), (18, bA true), (19, undefA), (20, undefA), (21, undefA), (22, bA (true || (decide (x0.gSettings.gHoldout > 10000)))), (23, iA v3), (24, .ptr 1 1), (25, sA x0.gSettings.gHoldoutKind), (26, bA v4), (27, bA (!v4)), (28, bA (!v4)), (39, .ptr 0 3), (40, .ro .unk x0.gAttributes.length (TDeclared.cl x0.gAttributes))] ?_
      cases c2 : (v4 : Bool) with
      | true =>
        refine RD 9 68 [(30, 0), (29, 0), (15, 1), (14, 1), (6, 1), (5, 1), (1, 1), (0, 1)] [(1, .ptr 0 0), (3, .ptr 1 0), (10, .ptr 1 0), (11, sA x0.gSettings.gSalt), (12, bA v1), (13, bA (!v1)), (14, iA v2), (15, .ptr 1 2), (16, iA x0.gSettings.gHoldout), (17, bA true), (18, bA true), (19, undefA), (20, undefA), (21, undefA), (22, bA (true || (decide (x0.gSettings.gHoldout > 10000)))), (23, iA v3), (24, .ptr 1 1), (25, sA x0.gSettings.gHoldoutKind), (26, bA true), (27, bA (!true)), (28, bA (!true)), (29, undefA), (30, undefA), (31, undefA), (32, undefA), (33, undefA), (34, undefA), (35, undefA), (36, undefA), (37, bA ((!true) && ((!(seq' x0.gSettings.gHoldoutKind ByteArray.empty)) || (x0.gSettings.gHoldout != 0)))), (39, .ptr 0 3), (40, .ro .unk x0.gAttributes.length (TDeclared.cl x0.gAttributes))] ?_
        try rw [c1] at hv5
        try rw [c2] at hv5
        refine AD_callp (d := (some 38)) (al := [bA ((!true) && ((!(seq' x0.gSettings.gHoldoutKind ByteArray.empty)) || (x0.gSettings.gHoldout != 0))), iA 6]) (r := iA v5) (by kernel_rfl) (s_shape_when hv5) ⟨trivial, trivial, trivial⟩ trivial ?_
        refine AD_callp (d := (some 41)) (al := [.ro .unk x0.gAttributes.length (TDeclared.cl x0.gAttributes)]) (r := iA v6) (by kernel_rfl) (s_shape_attributes hG hv6) ⟨(scl_TDeclared_cl _ _), trivial⟩ trivial ?_
        refine AD_bsl (d := (some 42)) (m := 4) (cs := [iA v2, iA v3, iA v5, iA v6]) (by kernel_rfl) ⟨trivial, trivial, trivial, trivial, trivial⟩ ?_
        refine AD_callp (d := (some 43)) (al := [.ro .unk ([v2, v3, v5, v6]).length (cl_i64 ([v2, v3, v5, v6]))]) (r := iA v7) (by kernel_rfl) (s_shape_first hv7) ⟨(scl_cl_i64 _ _), trivial⟩ trivial ?_
        refine RD 1 68 [(30, 0), (29, 0), (15, 1), (14, 1), (6, 1), (5, 1), (1, 1), (0, 1)] [(1, .ptr 0 0), (3, .ptr 1 0), (4, iA v7), (10, .ptr 1 0), (11, sA x0.gSettings.gSalt), (12, bA v1), (13, bA (!v1)), (14, iA v2), (15, .ptr 1 2), (16, iA x0.gSettings.gHoldout), (17, bA true), (18, bA true), (19, undefA), (20, undefA), (21, undefA), (22, bA (true || (decide (x0.gSettings.gHoldout > 10000)))), (23, iA v3), (24, .ptr 1 1), (25, sA x0.gSettings.gHoldoutKind), (26, bA true), (27, bA (!true)), (28, bA (!true)), (29, undefA), (30, undefA), (31, undefA), (32, undefA), (33, undefA), (34, undefA), (35, undefA), (36, undefA), (37, bA ((!true) && ((!(seq' x0.gSettings.gHoldoutKind ByteArray.empty)) || (x0.gSettings.gHoldout != 0)))), (38, iA v5), (39, .ptr 0 3), (40, .ro .unk x0.gAttributes.length (TDeclared.cl x0.gAttributes)), (41, iA v6), (42, .ro .unk ([v2, v3, v5, v6]).length (cl_i64 ([v2, v3, v5, v6]))), (43, iA v7)] ?_
        exact AD_here [1, 4] (by kernel_rfl) rfl
      | false =>
        refine RD 4 68 [(20, 1), (19, 1), (30, 0), (29, 0), (15, 1), (14, 1), (6, 1), (5, 1), (1, 1), (0, 1)] [(1, .ptr 0 0), (3, .ptr 1 0), (10, .ptr 1 0), (11, sA x0.gSettings.gSalt), (12, bA v1), (13, bA (!v1)), (14, iA v2), (15, .ptr 1 2), (16, iA x0.gSettings.gHoldout), (17, bA true), (18, bA true), (19, undefA), (20, undefA), (21, undefA), (22, bA (true || (decide (x0.gSettings.gHoldout > 10000)))), (23, iA v3), (24, .ptr 1 1), (25, sA x0.gSettings.gHoldoutKind), (26, bA false), (27, bA (!false)), (28, bA (!false)), (29, .ptr 1 1), (30, sA x0.gSettings.gHoldoutKind), (31, bA (!(seq' x0.gSettings.gHoldoutKind ByteArray.empty))), (32, bA (!(seq' x0.gSettings.gHoldoutKind ByteArray.empty))), (39, .ptr 0 3), (40, .ro .unk x0.gAttributes.length (TDeclared.cl x0.gAttributes))] ?_
        cases c3 : (seq' x0.gSettings.gHoldoutKind ByteArray.empty : Bool) with
        | true =>
          refine RD 5 68 [(24, 1), (23, 1), (20, 1), (19, 1), (30, 0), (29, 0), (15, 1), (14, 1), (6, 1), (5, 1), (1, 1), (0, 1)] [(1, .ptr 0 0), (3, .ptr 1 0), (10, .ptr 1 0), (11, sA x0.gSettings.gSalt), (12, bA v1), (13, bA (!v1)), (14, iA v2), (15, .ptr 1 2), (16, iA x0.gSettings.gHoldout), (17, bA true), (18, bA true), (19, undefA), (20, undefA), (21, undefA), (22, bA (true || (decide (x0.gSettings.gHoldout > 10000)))), (23, iA v3), (24, .ptr 1 1), (25, sA x0.gSettings.gHoldoutKind), (26, bA false), (27, bA (!false)), (28, bA (!false)), (29, .ptr 1 1), (30, sA x0.gSettings.gHoldoutKind), (31, bA (!true)), (32, bA (!true)), (33, .ptr 1 2), (34, iA x0.gSettings.gHoldout), (35, bA (x0.gSettings.gHoldout != 0)), (36, bA ((!true) || (x0.gSettings.gHoldout != 0))), (37, bA ((!false) && ((!true) || (x0.gSettings.gHoldout != 0)))), (39, .ptr 0 3), (40, .ro .unk x0.gAttributes.length (TDeclared.cl x0.gAttributes))] ?_
          try rw [c1] at hv5
          try rw [c2] at hv5
          try rw [c3] at hv5
          refine AD_callp (d := (some 38)) (al := [bA ((!false) && ((!true) || (x0.gSettings.gHoldout != 0))), iA 6]) (r := iA v5) (by kernel_rfl) (s_shape_when hv5) ⟨trivial, trivial, trivial⟩ trivial ?_
          refine AD_callp (d := (some 41)) (al := [.ro .unk x0.gAttributes.length (TDeclared.cl x0.gAttributes)]) (r := iA v6) (by kernel_rfl) (s_shape_attributes hG hv6) ⟨(scl_TDeclared_cl _ _), trivial⟩ trivial ?_
          refine AD_bsl (d := (some 42)) (m := 4) (cs := [iA v2, iA v3, iA v5, iA v6]) (by kernel_rfl) ⟨trivial, trivial, trivial, trivial, trivial⟩ ?_
          refine AD_callp (d := (some 43)) (al := [.ro .unk ([v2, v3, v5, v6]).length (cl_i64 ([v2, v3, v5, v6]))]) (r := iA v7) (by kernel_rfl) (s_shape_first hv7) ⟨(scl_cl_i64 _ _), trivial⟩ trivial ?_
          refine RD 1 68 [(24, 1), (23, 1), (20, 1), (19, 1), (30, 0), (29, 0), (15, 1), (14, 1), (6, 1), (5, 1), (1, 1), (0, 1)] [(1, .ptr 0 0), (3, .ptr 1 0), (4, iA v7), (10, .ptr 1 0), (11, sA x0.gSettings.gSalt), (12, bA v1), (13, bA (!v1)), (14, iA v2), (15, .ptr 1 2), (16, iA x0.gSettings.gHoldout), (17, bA true), (18, bA true), (19, undefA), (20, undefA), (21, undefA), (22, bA (true || (decide (x0.gSettings.gHoldout > 10000)))), (23, iA v3), (24, .ptr 1 1), (25, sA x0.gSettings.gHoldoutKind), (26, bA false), (27, bA (!false)), (28, bA (!false)), (29, .ptr 1 1), (30, sA x0.gSettings.gHoldoutKind), (31, bA (!true)), (32, bA (!true)), (33, .ptr 1 2), (34, iA x0.gSettings.gHoldout), (35, bA (x0.gSettings.gHoldout != 0)), (36, bA ((!true) || (x0.gSettings.gHoldout != 0))), (37, bA ((!false) && ((!true) || (x0.gSettings.gHoldout != 0)))), (38, iA v5), (39, .ptr 0 3), (40, .ro .unk x0.gAttributes.length (TDeclared.cl x0.gAttributes)), (41, iA v6), (42, .ro .unk ([v2, v3, v5, v6]).length (cl_i64 ([v2, v3, v5, v6]))), (43, iA v7)] ?_
          exact AD_here [1, 4] (by kernel_rfl) rfl
        | false =>
          refine RD 5 68 [(20, 1), (19, 1), (30, 0), (29, 0), (15, 1), (14, 1), (6, 1), (5, 1), (1, 1), (0, 1)] [(1, .ptr 0 0), (3, .ptr 1 0), (10, .ptr 1 0), (11, sA x0.gSettings.gSalt), (12, bA v1), (13, bA (!v1)), (14, iA v2), (15, .ptr 1 2), (16, iA x0.gSettings.gHoldout), (17, bA true), (18, bA true), (19, undefA), (20, undefA), (21, undefA), (22, bA (true || (decide (x0.gSettings.gHoldout > 10000)))), (23, iA v3), (24, .ptr 1 1), (25, sA x0.gSettings.gHoldoutKind), (26, bA false), (27, bA (!false)), (28, bA (!false)), (29, .ptr 1 1), (30, sA x0.gSettings.gHoldoutKind), (31, bA (!false)), (32, bA (!false)), (33, undefA), (34, undefA), (35, undefA), (36, bA ((!false) || (x0.gSettings.gHoldout != 0))), (37, bA ((!false) && ((!false) || (x0.gSettings.gHoldout != 0)))), (39, .ptr 0 3), (40, .ro .unk x0.gAttributes.length (TDeclared.cl x0.gAttributes))] ?_
          try rw [c1] at hv5
          try rw [c2] at hv5
          try rw [c3] at hv5
          refine AD_callp (d := (some 38)) (al := [bA ((!false) && ((!false) || (x0.gSettings.gHoldout != 0))), iA 6]) (r := iA v5) (by kernel_rfl) (s_shape_when hv5) ⟨trivial, trivial, trivial⟩ trivial ?_
          refine AD_callp (d := (some 41)) (al := [.ro .unk x0.gAttributes.length (TDeclared.cl x0.gAttributes)]) (r := iA v6) (by kernel_rfl) (s_shape_attributes hG hv6) ⟨(scl_TDeclared_cl _ _), trivial⟩ trivial ?_
          refine AD_bsl (d := (some 42)) (m := 4) (cs := [iA v2, iA v3, iA v5, iA v6]) (by kernel_rfl) ⟨trivial, trivial, trivial, trivial, trivial⟩ ?_
          refine AD_callp (d := (some 43)) (al := [.ro .unk ([v2, v3, v5, v6]).length (cl_i64 ([v2, v3, v5, v6]))]) (r := iA v7) (by kernel_rfl) (s_shape_first hv7) ⟨(scl_cl_i64 _ _), trivial⟩ trivial ?_
          refine RD 1 68 [(20, 1), (19, 1), (30, 0), (29, 0), (15, 1), (14, 1), (6, 1), (5, 1), (1, 1), (0, 1)] [(1, .ptr 0 0), (3, .ptr 1 0), (4, iA v7), (10, .ptr 1 0), (11, sA x0.gSettings.gSalt), (12, bA v1), (13, bA (!v1)), (14, iA v2), (15, .ptr 1 2), (16, iA x0.gSettings.gHoldout), (17, bA true), (18, bA true), (19, undefA), (20, undefA), (21, undefA), (22, bA (true || (decide (x0.gSettings.gHoldout > 10000)))), (23, iA v3), (24, .ptr 1 1), (25, sA x0.gSettings.gHoldoutKind), (26, bA false), (27, bA (!false)), (28, bA (!false)), (29, .ptr 1 1), (30, sA x0.gSettings.gHoldoutKind), (31, bA (!false)), (32, bA (!false)), (33, undefA), (34, undefA), (35, undefA), (36, bA ((!false) || (x0.gSettings.gHoldout != 0))), (37, bA ((!false) && ((!false) || (x0.gSettings.gHoldout != 0)))), (38, iA v5), (39, .ptr 0 3), (40, .ro .unk x0.gAttributes.length (TDeclared.cl x0.gAttributes)), (41, iA v6), (42, .ro .unk ([v2, v3, v5, v6]).length (cl_i64 ([v2, v3, v5, v6]))), (43, iA v7)] ?_
          exact AD_here [1, 4] (by kernel_rfl) rfl
    | false =>
      refine RD 4 68 [(10, 1), (9, 1), (30, 0), (29, 0), (15, 1), (14, 1), (6, 1), (5, 1), (1, 1), (0, 1)] [(1, .ptr 0 0), (3, .ptr 1 0), (10, .ptr 1 0), (11, sA x0.gSettings.gSalt), (12, bA v1), (13, bA (!v1)), (14, iA v2), (15, .ptr 1 2), (16, iA x0.gSettings.gHoldout), (17, bA false), (18, bA false), (19, .ptr 1 2), (20, iA x0.gSettings.gHoldout), (21, bA (decide (x0.gSettings.gHoldout > 10000))), (22, bA (false || (decide (x0.gSettings.gHoldout > 10000)))), (24, .ptr 1 1), (25, sA x0.gSettings.gHoldoutKind), (39, .ptr 0 3), (40, .ro .unk x0.gAttributes.length (TDeclared.cl x0.gAttributes))] ?_
      try rw [c1] at hv3
      refine AD_callp (d := (some 23)) (al := [bA (false || (decide (x0.gSettings.gHoldout > 10000))), iA 3]) (r := iA v3) (by kernel_rfl) (s_shape_when hv3) ⟨trivial, trivial, trivial⟩ trivial ?_
      refine AD_callp (d := (some 26)) (al := [sA x0.gSettings.gHoldoutKind]) (r := bA v4) (by kernel_rfl) (s_text_Key hG hv4) ⟨trivial, trivial⟩ trivial ?_
      refine RD 2 68 [(10, 1), (9, 1), (30, 0), (29, 0), (15, 1), (14, 1), (6, 1), (5, 1), (1, 1), (0, 1)] [(1, .ptr 0 0), (3, .ptr 1 0), (10, .ptr 1 0), (11, sA x0.gSettings.gSalt), (12, bA v1), (13, bA (!v1)), (14, iA v2), (15, .ptr 1 2), (16, iA x0.gSettings.gHoldout), (17, bA false), (18, bA false), (19, .ptr 1 2), (20, iA x0.gSettings.gHoldout), (21, bA (decide (x0.gSettings.gHoldout > 10000))), (22, bA (false || (decide (x0.gSettings.gHoldout > 10000)))), (23, iA v3), (24, .ptr 1 1), (25, sA x0.gSettings.gHoldoutKind), (26, bA v4), (27, bA (!v4)), (28, bA (!v4)), (39, .ptr 0 3), (40, .ro .unk x0.gAttributes.length (TDeclared.cl x0.gAttributes))] ?_
      cases c2 : (v4 : Bool) with
      | true =>
        refine RD 9 68 [(10, 1), (9, 1), (30, 0), (29, 0), (15, 1), (14, 1), (6, 1), (5, 1), (1, 1), (0, 1)] [(1, .ptr 0 0), (3, .ptr 1 0), (10, .ptr 1 0), (11, sA x0.gSettings.gSalt), (12, bA v1), (13, bA (!v1)), (14, iA v2), (15, .ptr 1 2), (16, iA x0.gSettings.gHoldout), (17, bA false), (18, bA false), (19, .ptr 1 2), (20, iA x0.gSettings.gHoldout), (21, bA (decide (x0.gSettings.gHoldout > 10000))), (22, bA (false || (decide (x0.gSettings.gHoldout > 10000)))), (23, iA v3), (24, .ptr 1 1), (25, sA x0.gSettings.gHoldoutKind), (26, bA true), (27, bA (!true)), (28, bA (!true)), (29, undefA), (30, undefA), (31, undefA), (32, undefA), (33, undefA), (34, undefA), (35, undefA), (36, undefA), (37, bA ((!true) && ((!(seq' x0.gSettings.gHoldoutKind ByteArray.empty)) || (x0.gSettings.gHoldout != 0)))), (39, .ptr 0 3), (40, .ro .unk x0.gAttributes.length (TDeclared.cl x0.gAttributes))] ?_
        try rw [c1] at hv5
        try rw [c2] at hv5
        refine AD_callp (d := (some 38)) (al := [bA ((!true) && ((!(seq' x0.gSettings.gHoldoutKind ByteArray.empty)) || (x0.gSettings.gHoldout != 0))), iA 6]) (r := iA v5) (by kernel_rfl) (s_shape_when hv5) ⟨trivial, trivial, trivial⟩ trivial ?_
        refine AD_callp (d := (some 41)) (al := [.ro .unk x0.gAttributes.length (TDeclared.cl x0.gAttributes)]) (r := iA v6) (by kernel_rfl) (s_shape_attributes hG hv6) ⟨(scl_TDeclared_cl _ _), trivial⟩ trivial ?_
        refine AD_bsl (d := (some 42)) (m := 4) (cs := [iA v2, iA v3, iA v5, iA v6]) (by kernel_rfl) ⟨trivial, trivial, trivial, trivial, trivial⟩ ?_
        refine AD_callp (d := (some 43)) (al := [.ro .unk ([v2, v3, v5, v6]).length (cl_i64 ([v2, v3, v5, v6]))]) (r := iA v7) (by kernel_rfl) (s_shape_first hv7) ⟨(scl_cl_i64 _ _), trivial⟩ trivial ?_
        refine RD 1 68 [(10, 1), (9, 1), (30, 0), (29, 0), (15, 1), (14, 1), (6, 1), (5, 1), (1, 1), (0, 1)] [(1, .ptr 0 0), (3, .ptr 1 0), (4, iA v7), (10, .ptr 1 0), (11, sA x0.gSettings.gSalt), (12, bA v1), (13, bA (!v1)), (14, iA v2), (15, .ptr 1 2), (16, iA x0.gSettings.gHoldout), (17, bA false), (18, bA false), (19, .ptr 1 2), (20, iA x0.gSettings.gHoldout), (21, bA (decide (x0.gSettings.gHoldout > 10000))), (22, bA (false || (decide (x0.gSettings.gHoldout > 10000)))), (23, iA v3), (24, .ptr 1 1), (25, sA x0.gSettings.gHoldoutKind), (26, bA true), (27, bA (!true)), (28, bA (!true)), (29, undefA), (30, undefA), (31, undefA), (32, undefA), (33, undefA), (34, undefA), (35, undefA), (36, undefA), (37, bA ((!true) && ((!(seq' x0.gSettings.gHoldoutKind ByteArray.empty)) || (x0.gSettings.gHoldout != 0)))), (38, iA v5), (39, .ptr 0 3), (40, .ro .unk x0.gAttributes.length (TDeclared.cl x0.gAttributes)), (41, iA v6), (42, .ro .unk ([v2, v3, v5, v6]).length (cl_i64 ([v2, v3, v5, v6]))), (43, iA v7)] ?_
        exact AD_here [1, 4] (by kernel_rfl) rfl
      | false =>
        refine RD 4 68 [(20, 1), (19, 1), (10, 1), (9, 1), (30, 0), (29, 0), (15, 1), (14, 1), (6, 1), (5, 1), (1, 1), (0, 1)] [(1, .ptr 0 0), (3, .ptr 1 0), (10, .ptr 1 0), (11, sA x0.gSettings.gSalt), (12, bA v1), (13, bA (!v1)), (14, iA v2), (15, .ptr 1 2), (16, iA x0.gSettings.gHoldout), (17, bA false), (18, bA false), (19, .ptr 1 2), (20, iA x0.gSettings.gHoldout), (21, bA (decide (x0.gSettings.gHoldout > 10000))), (22, bA (false || (decide (x0.gSettings.gHoldout > 10000)))), (23, iA v3), (24, .ptr 1 1), (25, sA x0.gSettings.gHoldoutKind), (26, bA false), (27, bA (!false)), (28, bA (!false)), (29, .ptr 1 1), (30, sA x0.gSettings.gHoldoutKind), (31, bA (!(seq' x0.gSettings.gHoldoutKind ByteArray.empty))), (32, bA (!(seq' x0.gSettings.gHoldoutKind ByteArray.empty))), (39, .ptr 0 3), (40, .ro .unk x0.gAttributes.length (TDeclared.cl x0.gAttributes))] ?_
        cases c3 : (seq' x0.gSettings.gHoldoutKind ByteArray.empty : Bool) with
        | true =>
          refine RD 5 68 [(24, 1), (23, 1), (20, 1), (19, 1), (10, 1), (9, 1), (30, 0), (29, 0), (15, 1), (14, 1), (6, 1), (5, 1), (1, 1), (0, 1)] [(1, .ptr 0 0), (3, .ptr 1 0), (10, .ptr 1 0), (11, sA x0.gSettings.gSalt), (12, bA v1), (13, bA (!v1)), (14, iA v2), (15, .ptr 1 2), (16, iA x0.gSettings.gHoldout), (17, bA false), (18, bA false), (19, .ptr 1 2), (20, iA x0.gSettings.gHoldout), (21, bA (decide (x0.gSettings.gHoldout > 10000))), (22, bA (false || (decide (x0.gSettings.gHoldout > 10000)))), (23, iA v3), (24, .ptr 1 1), (25, sA x0.gSettings.gHoldoutKind), (26, bA false), (27, bA (!false)), (28, bA (!false)), (29, .ptr 1 1), (30, sA x0.gSettings.gHoldoutKind), (31, bA (!true)), (32, bA (!true)), (33, .ptr 1 2), (34, iA x0.gSettings.gHoldout), (35, bA (x0.gSettings.gHoldout != 0)), (36, bA ((!true) || (x0.gSettings.gHoldout != 0))), (37, bA ((!false) && ((!true) || (x0.gSettings.gHoldout != 0)))), (39, .ptr 0 3), (40, .ro .unk x0.gAttributes.length (TDeclared.cl x0.gAttributes))] ?_
          try rw [c1] at hv5
          try rw [c2] at hv5
          try rw [c3] at hv5
          refine AD_callp (d := (some 38)) (al := [bA ((!false) && ((!true) || (x0.gSettings.gHoldout != 0))), iA 6]) (r := iA v5) (by kernel_rfl) (s_shape_when hv5) ⟨trivial, trivial, trivial⟩ trivial ?_
          refine AD_callp (d := (some 41)) (al := [.ro .unk x0.gAttributes.length (TDeclared.cl x0.gAttributes)]) (r := iA v6) (by kernel_rfl) (s_shape_attributes hG hv6) ⟨(scl_TDeclared_cl _ _), trivial⟩ trivial ?_
          refine AD_bsl (d := (some 42)) (m := 4) (cs := [iA v2, iA v3, iA v5, iA v6]) (by kernel_rfl) ⟨trivial, trivial, trivial, trivial, trivial⟩ ?_
          refine AD_callp (d := (some 43)) (al := [.ro .unk ([v2, v3, v5, v6]).length (cl_i64 ([v2, v3, v5, v6]))]) (r := iA v7) (by kernel_rfl) (s_shape_first hv7) ⟨(scl_cl_i64 _ _), trivial⟩ trivial ?_
          refine RD 1 68 [(24, 1), (23, 1), (20, 1), (19, 1), (10, 1), (9, 1), (30, 0), (29, 0), (15, 1), (14, 1), (6, 1), (5, 1), (1, 1), (0, 1)] [(1, .ptr 0 0), (3, .ptr 1 0), (4, iA v7), (10, .ptr 1 0), (11, sA x0.gSettings.gSalt), (12, bA v1), (13, bA (!v1)), (14, iA v2), (15, .ptr 1 2), (16, iA x0.gSettings.gHoldout), (17, bA false), (18, bA false), (19, .ptr 1 2), (20, iA x0.gSettings.gHoldout), (21, bA (decide (x0.gSettings.gHoldout > 10000))), (22, bA (false || (decide (x0.gSettings.gHoldout > 10000)))), (23, iA v3), (24, .ptr 1 1), (25, sA x0.gSettings.gHoldoutKind), (26, bA false), (27, bA (!false)), (28, bA (!false)), (29, .ptr 1 1), (30, sA x0.gSettings.gHoldoutKind), (31, bA (!true)), (32, bA (!true)), (33, .ptr 1 2), (34, iA x0.gSettings.gHoldout), (35, bA (x0.gSettings.gHoldout != 0)), (36, bA ((!true) || (x0.gSettings.gHoldout != 0))), (37, bA ((!false) && ((!true) || (x0.gSettings.gHoldout != 0)))), (38, iA v5), (39, .ptr 0 3), (40, .ro .unk x0.gAttributes.length (TDeclared.cl x0.gAttributes)), (41, iA v6), (42, .ro .unk ([v2, v3, v5, v6]).length (cl_i64 ([v2, v3, v5, v6]))), (43, iA v7)] ?_
          exact AD_here [1, 4] (by kernel_rfl) rfl
        | false =>
          refine RD 5 68 [(20, 1), (19, 1), (10, 1), (9, 1), (30, 0), (29, 0), (15, 1), (14, 1), (6, 1), (5, 1), (1, 1), (0, 1)] [(1, .ptr 0 0), (3, .ptr 1 0), (10, .ptr 1 0), (11, sA x0.gSettings.gSalt), (12, bA v1), (13, bA (!v1)), (14, iA v2), (15, .ptr 1 2), (16, iA x0.gSettings.gHoldout), (17, bA false), (18, bA false), (19, .ptr 1 2), (20, iA x0.gSettings.gHoldout), (21, bA (decide (x0.gSettings.gHoldout > 10000))), (22, bA (false || (decide (x0.gSettings.gHoldout > 10000)))), (23, iA v3), (24, .ptr 1 1), (25, sA x0.gSettings.gHoldoutKind), (26, bA false), (27, bA (!false)), (28, bA (!false)), (29, .ptr 1 1), (30, sA x0.gSettings.gHoldoutKind), (31, bA (!false)), (32, bA (!false)), (33, undefA), (34, undefA), (35, undefA), (36, bA ((!false) || (x0.gSettings.gHoldout != 0))), (37, bA ((!false) && ((!false) || (x0.gSettings.gHoldout != 0)))), (39, .ptr 0 3), (40, .ro .unk x0.gAttributes.length (TDeclared.cl x0.gAttributes))] ?_
          try rw [c1] at hv5
          try rw [c2] at hv5
          try rw [c3] at hv5
          refine AD_callp (d := (some 38)) (al := [bA ((!false) && ((!false) || (x0.gSettings.gHoldout != 0))), iA 6]) (r := iA v5) (by kernel_rfl) (s_shape_when hv5) ⟨trivial, trivial, trivial⟩ trivial ?_
          refine AD_callp (d := (some 41)) (al := [.ro .unk x0.gAttributes.length (TDeclared.cl x0.gAttributes)]) (r := iA v6) (by kernel_rfl) (s_shape_attributes hG hv6) ⟨(scl_TDeclared_cl _ _), trivial⟩ trivial ?_
          refine AD_bsl (d := (some 42)) (m := 4) (cs := [iA v2, iA v3, iA v5, iA v6]) (by kernel_rfl) ⟨trivial, trivial, trivial, trivial, trivial⟩ ?_
          refine AD_callp (d := (some 43)) (al := [.ro .unk ([v2, v3, v5, v6]).length (cl_i64 ([v2, v3, v5, v6]))]) (r := iA v7) (by kernel_rfl) (s_shape_first hv7) ⟨(scl_cl_i64 _ _), trivial⟩ trivial ?_
          refine RD 1 68 [(20, 1), (19, 1), (10, 1), (9, 1), (30, 0), (29, 0), (15, 1), (14, 1), (6, 1), (5, 1), (1, 1), (0, 1)] [(1, .ptr 0 0), (3, .ptr 1 0), (4, iA v7), (10, .ptr 1 0), (11, sA x0.gSettings.gSalt), (12, bA v1), (13, bA (!v1)), (14, iA v2), (15, .ptr 1 2), (16, iA x0.gSettings.gHoldout), (17, bA false), (18, bA false), (19, .ptr 1 2), (20, iA x0.gSettings.gHoldout), (21, bA (decide (x0.gSettings.gHoldout > 10000))), (22, bA (false || (decide (x0.gSettings.gHoldout > 10000)))), (23, iA v3), (24, .ptr 1 1), (25, sA x0.gSettings.gHoldoutKind), (26, bA false), (27, bA (!false)), (28, bA (!false)), (29, .ptr 1 1), (30, sA x0.gSettings.gHoldoutKind), (31, bA (!false)), (32, bA (!false)), (33, undefA), (34, undefA), (35, undefA), (36, bA ((!false) || (x0.gSettings.gHoldout != 0))), (37, bA ((!false) && ((!false) || (x0.gSettings.gHoldout != 0)))), (38, iA v5), (39, .ptr 0 3), (40, .ro .unk x0.gAttributes.length (TDeclared.cl x0.gAttributes)), (41, iA v6), (42, .ro .unk ([v2, v3, v5, v6]).length (cl_i64 ([v2, v3, v5, v6]))), (43, iA v7)] ?_
          exact AD_here [1, 4] (by kernel_rfl) rfl
  refine AWP_reg (Rh 2 68 [(1, .ptr 0 0), (4, iA v7), (45, bA (v7 != 0))] (AOps_done (CD H (fun hb8 H => ?_) (fun hb8 H => ?_))))
  · refine AWP_reg (Rh 2 68 [(2, iA v7)] (AOps_done ?_))
    exact AWP_ret (FR H)
  · refine AWP_skip ?_
    show AWP _ _ _ _ _ _ _
    refine AWP_seq (AWP_reg (Rh 2 68 [(1, .ptr 0 0), (48, .ro .unk x0.gSegments.length (TSegment.cl x0.gSegments))] ?_))
    obtain ⟨v9, hv9, H⟩ := bind_some H
    refine AOps_callp (d := (some 49)) (al := [.ro .unk x0.gSegments.length (TSegment.cl x0.gSegments), iA 20, .val (.func (.func 36) #[] #[]), .val (.func (.func 90) #[] #[])]) (r := iA v9) (by kernel_rfl) (s_shape_list_api_Segment hG hv9) ⟨(scl_TSegment_cl _ _), trivial, trivial, trivial, trivial⟩ trivial ?_
    refine Rh 1 68 [(1, .ptr 0 0), (5, iA v9)] (AOps_done (AWP_reg (Rh 2 68 [(1, .ptr 0 0), (5, iA v9), (51, bA (v9 != 0))] (AOps_done (CD H (fun hb10 H => ?_) (fun hb10 H => ?_))))))
    · refine AWP_reg (Rh 2 68 [(2, iA v9)] (AOps_done ?_))
      exact AWP_ret (FR H)
    · refine AWP_skip ?_
      show AWP _ _ _ _ _ _ _
      refine AWP_seq (AWP_reg (Rh 2 68 [(1, .ptr 0 0), (54, .ro .unk x0.gFlags.length (TFlag.cl x0.gFlags))] ?_))
      obtain ⟨v11, hv11, H⟩ := bind_some H
      refine AOps_callp (d := (some 55)) (al := [.ro .unk x0.gFlags.length (TFlag.cl x0.gFlags), iA 30, .val (.func (.func 34) #[] #[]), .val (.func (.func 92) #[] #[])]) (r := iA v11) (by kernel_rfl) (s_shape_list_api_Flag hG hv11) ⟨(scl_TFlag_cl _ _), trivial, trivial, trivial, trivial⟩ trivial ?_
      refine Rh 1 68 [(1, .ptr 0 0), (6, iA v11)] (AOps_done (AWP_reg (Rh 2 68 [(1, .ptr 0 0), (6, iA v11), (57, bA (v11 != 0))] (AOps_done (CD H (fun hb12 H => ?_) (fun hb12 H => ?_))))))
      · refine AWP_reg (Rh 2 68 [(2, iA v11)] (AOps_done ?_))
        exact AWP_ret (FR H)
      · refine AWP_skip ?_
        show AWP _ _ _ _ _ _ _
        refine AWP_seq (AWP_reg (Rh 2 68 [(1, .ptr 0 0), (60, .ro .unk x0.gLayers.length (TLayer.cl x0.gLayers))] ?_))
        obtain ⟨v13, hv13, H⟩ := bind_some H
        refine AOps_callp (d := (some 61)) (al := [.ro .unk x0.gLayers.length (TLayer.cl x0.gLayers), iA 6, .val (.func (.func 38) #[] #[]), .val (.func (.func 94) #[] #[])]) (r := iA v13) (by kernel_rfl) (s_shape_list_api_Layer hG hv13) ⟨(scl_TLayer_cl _ _), trivial, trivial, trivial, trivial⟩ trivial ?_
        refine Rh 1 68 [(1, .ptr 0 0), (7, iA v13)] (AOps_done (AWP_reg (Rh 2 68 [(1, .ptr 0 0), (7, iA v13), (63, bA (v13 != 0))] (AOps_done (CD H (fun hb14 H => ?_) (fun hb14 H => ?_))))))
        · refine AWP_reg (Rh 2 68 [(2, iA v13)] (AOps_done ?_))
          exact AWP_ret (FR H)
        · refine AWP_skip ?_
          show AWP _ _ _ _ _ _ _
          refine AWP_reg (Rh 2 68 [(66, .ro .unk x0.gExperiments.length (TExperiment.cl x0.gExperiments))] ?_)
          obtain ⟨v15, hv15, H⟩ := bind_some H
          refine AOps_callp (d := (some 67)) (al := [.ro .unk x0.gExperiments.length (TExperiment.cl x0.gExperiments), iA 16, .val (.func (.func 40) #[] #[]), .val (.func (.func 96) #[] #[])]) (r := iA v15) (by kernel_rfl) (s_shape_list_api_Experiment hG hv15) ⟨(scl_TExperiment_cl _ _), trivial, trivial, trivial, trivial⟩ trivial ?_
          refine Rh 1 68 [(2, iA v15)] (AOps_done ?_)
          exact AWP_ret (FR H)
end Go.Proofs.YtjhbobacbaikoaaGreatDoor
/- A function of the program as a pure function, and that the program computes it. -/
namespace Go.Proofs.YtjhbobacbaikoaaGreatDoor
open Go
set_option linter.unusedVariables false
set_option linter.unusedSimpArgs false
set_option maxRecDepth 100000
def p_shape_Split_L1 (n : Nat) (x0 : List TRange) (x1 : Int) (v14 : Int) (v15 : Int) (v16 : Int) (v17 : Int) : Option Int := match n with
| 0 => none
| n + 1 =>
(bif decide (v14 < (lI x0)) then
(rdO x0 v14).bind fun v19 =>
(bif (decide (v19.gVariation < 1)) || (decide (v19.gVariation > x1)) then
 some (3)
 else
(bif ((v19.gFrom != v16) || (decide (v19.gTo ≤ v19.gFrom))) || (v19.gVariation == v17) then
 some (9)
 else
 p_shape_Split_L1 n x0 x1 (w64 (v14 + 1)) v19.gFrom v19.gTo v19.gVariation))
 else
(p_shape_when n (v16 != 10000) 3).bind fun v22 =>
 some (v22))
def p_shape_Split (n : Nat) (x0 : List TRange) (x1 : Int) : Option Int :=
(bif decide ((lI x0) > 16) then
 some (5)
 else
 p_shape_Split_L1 n x0 x1 0 0 0 0)
variable {E : Env}
theorem s_shape_Split {n : Nat} {x0 : List TRange} {x1 : Int} {r : Int} (H : p_shape_Split n x0 x1 = some r) :
    Sp Tryz.prog E 23 [.ro .unk x0.length (TRange.cl x0), iA x1] [] (isA (iA r) []) := by
  unfold p_shape_Split at H
  refine Sp_fn Tryz.func23 rfl (fun hc hs => ?_)
  refine AWP_reg (Rh 1 52 [(0, .ro .unk x0.length (TRange.cl x0)), (1, iA x1)] (AOps_done (AWP_seq (AWP_reg (Rh 3 52 [(0, .ro .unk x0.length (TRange.cl x0)), (1, iA x1), (10, bA (decide ((lI x0) > 16)))] (AOps_done (CD H (fun hb1 H => ?_) (fun hb1 H => ?_))))))))
  · refine AWP_reg (Rh 1 52 [(4, iA 5)] (AOps_done ?_))
    exact AWP_ret (FR H)
  · refine AWP_skip ?_
    show AWP _ _ _ _ _ _ _
    refine AWP_reg (R 3 52 [(0, .ro .unk x0.length (TRange.cl x0)), (1, iA x1), (5, .ptr 0 0)] [.cells 52 [iA 0, iA 0, iA 0]] (AOps_done (AWP_seq (AWP_reg (Rh 3 52 [(1, iA x1), (5, .ptr 0 0), (12, .ro .unk x0.length (TRange.cl x0)), (13, iA (lI x0)), (14, iA 0)] (AOps_done (AWP_block ?_)))))))
    refine AWP_loopN (α := Int × Int × Int × Int) (fun ⟨v14, v15, v16, v17⟩ => fr 52 [(1, iA x1), (5, .ptr 0 0), (12, .ro .unk x0.length (TRange.cl x0)), (13, iA (lI x0)), (14, iA v14)]) (fun ⟨v14, v15, v16, v17⟩ => [.cells 52 [iA v15, iA v16, iA v17]]) (fun k_ ⟨v14, v15, v16, v17⟩ => k_ ≤ n ∧ p_shape_Split_L1 k_ x0 x1 v14 v15 v16 v17 = some r) (fun n a H => ?_) (k := n) (0, 0, 0, 0) ⟨Nat.le_refl _, H⟩ (Norm_fd [1, 5, 12, 13, 14] 0 (by kernel_rfl) rfl rfl ⟨⟨trivial, trivial, trivial, trivial⟩, trivial⟩ (by refine scL_fr ?_; exact ⟨trivial, (sc_ptr rfl), (scl_TRange_cl _ _), trivial, trivial, trivial⟩))
    obtain ⟨v14, v15, v16, v17⟩ := a
    show AWP _ _ _ _ _ (fr 52 [(1, iA x1), (5, .ptr 0 0), (12, .ro .unk x0.length (TRange.cl x0)), (13, iA (lI x0)), (14, iA v14)]) [.cells 52 [iA v15, iA v16, iA v17]]
    obtain ⟨hb_, H⟩ := H
    replace H : p_shape_Split_L1 n x0 x1 v14 v15 v16 v17 = some r := H
    cases n with
    | zero => exact not_none (by simpa only [p_shape_Split_L1] using H)
    | succ n =>
      unfold p_shape_Split_L1 at H
      refine AWP_reg (Rh 1 52 [(1, iA x1), (5, .ptr 0 0), (12, .ro .unk x0.length (TRange.cl x0)), (13, iA (lI x0)), (14, iA v14), (15, bA (decide (v14 < (lI x0))))] (AOps_done (AWP_seq (CD H (fun hb18 H => ?_) (fun hb18 H => ?_)))))
      · refine AWP_skip ?_
        show AWP _ _ _ _ _ _ _
        refine AWP_seq (AWP_block ?_)
        refine AWP_reg ?_
        obtain ⟨v19, hv19, H⟩ := bind_some H
        refine AOps_index (d := (some 16)) (sz := 3) (c := TRange.cs) (by kernel_rfl) rfl (eq_TRange_cl _) (fun _ => rfl) (by decide) hv19 (fun tl19 => ?_)
        refine R 3 52 [(1, iA x1), (5, .ptr 0 0), (7, .ptr 1 0), (12, .ro .unk x0.length (TRange.cl x0)), (13, iA (lI x0)), (14, iA v14)] [.cells 52 (TRange.cs v19), .cells 52 [iA v15, iA v16, iA v17]] (AOps_done (AWP_seq (AWP_reg (Rh 4 52 [(1, iA x1), (5, .ptr 0 0), (7, .ptr 1 0), (12, .ro .unk x0.length (TRange.cl x0)), (13, iA (lI x0)), (14, iA v14), (21, bA (decide (v19.gVariation < 1)))] (AOps_run 5 [1, 5, 7, 12, 13, 14, 26] (st' := fr 52 [(1, iA x1), (5, .ptr 0 0), (7, .ptr 1 0), (12, .ro .unk x0.length (TRange.cl x0)), (13, iA (lI x0)), (14, iA v14), (26, bA ((decide (v19.gVariation < 1)) || (decide (v19.gVariation > x1))))]) (h' := [.cells 52 (TRange.cs v19), .cells 52 [iA v15, iA v16, iA v17]]) (by (generalize (decide (v19.gVariation < 1)) = t0; cases t0 <;> kernel_rfl)) ?_)))))
        refine AOps_done (CD H (fun hb20 H => ?_) (fun hb20 H => ?_))
        · refine AWP_reg (Rh 1 52 [(4, iA 3)] (AOps_done ?_))
          exact AWP_ret (FR H)
        · refine AWP_skip ?_
          show AWP _ _ _ _ _ _ _
          refine AWP_seq (AWP_reg (Rh 6 52 [(1, iA x1), (5, .ptr 0 0), (7, .ptr 1 0), (12, .ro .unk x0.length (TRange.cl x0)), (13, iA (lI x0)), (14, iA v14), (32, bA (v19.gFrom != v16))] (AOps_run 6 [1, 5, 7, 12, 13, 14, 38] (st' := fr 52 [(1, iA x1), (5, .ptr 0 0), (7, .ptr 1 0), (12, .ro .unk x0.length (TRange.cl x0)), (13, iA (lI x0)), (14, iA v14), (38, bA ((v19.gFrom != v16) || (decide (v19.gTo ≤ v19.gFrom))))]) (h' := [.cells 52 (TRange.cs v19), .cells 52 [iA v15, iA v16, iA v17]]) (by (generalize (v19.gFrom != v16) = t0; cases t0 <;> kernel_rfl)) ?_)))
          refine Rh 1 52 [(1, iA x1), (5, .ptr 0 0), (7, .ptr 1 0), (12, .ro .unk x0.length (TRange.cl x0)), (13, iA (lI x0)), (14, iA v14), (39, bA ((v19.gFrom != v16) || (decide (v19.gTo ≤ v19.gFrom))))] (AOps_run 6 [1, 5, 7, 12, 13, 14, 45] (st' := fr 52 [(1, iA x1), (5, .ptr 0 0), (7, .ptr 1 0), (12, .ro .unk x0.length (TRange.cl x0)), (13, iA (lI x0)), (14, iA v14), (45, bA (((v19.gFrom != v16) || (decide (v19.gTo ≤ v19.gFrom))) || (v19.gVariation == v17)))]) (h' := [.cells 52 (TRange.cs v19), .cells 52 [iA v15, iA v16, iA v17]]) (by (generalize (v19.gFrom != v16) = t0; generalize (decide (v19.gTo ≤ v19.gFrom)) = t1; cases t0 <;> cases t1 <;> kernel_rfl)) ?_)
          refine AOps_done (CD H (fun hb21 H => ?_) (fun hb21 H => ?_))
          · refine AWP_reg (Rh 1 52 [(4, iA 9)] (AOps_done ?_))
            exact AWP_ret (FR H)
          · refine AWP_skip ?_
            show AWP _ _ _ _ _ _ _
            refine AWP_region ?_
            refine R 2 52 [(1, iA x1), (5, .ptr 0 0), (12, .ro .unk x0.length (TRange.cl x0)), (13, iA (lI x0)), (14, iA v14)] [.cells 52 (TRange.cs v19), .cells 52 (TRange.cs v19)] (AOps_done ?_)
            show AWP _ _ _ _ _ _ _
            refine AWP_region ?_
            refine Rh 2 52 [(1, iA x1), (5, .ptr 0 0), (12, .ro .unk x0.length (TRange.cl x0)), (13, iA (lI x0)), (14, iA (w64 (v14 + 1)))] (AOps_done ?_)
            exact Exists.intro (w64 (v14 + 1), v19.gFrom, v19.gTo, v19.gVariation) (Exists.intro n ⟨by omega, ⟨by omega, H⟩, Norm_fd [1, 5, 12, 13, 14] 1 (by kernel_rfl) rfl rfl ⟨⟨trivial, trivial, trivial, trivial⟩, trivial⟩ (by refine scL_fr ?_; exact ⟨trivial, (sc_ptr rfl), (scl_TRange_cl _ _), trivial, trivial, trivial⟩)⟩)
      · refine AWP_exit ?_
        show AWP _ _ _ _ _ _ _
        refine AWP_reg (Rh 3 52 [(50, bA (v16 != 10000))] ?_)
        obtain ⟨v22, hv22, H⟩ := bind_some H
        refine AOps_callp (d := (some 51)) (al := [bA (v16 != 10000), iA 3]) (r := iA v22) (by kernel_rfl) (s_shape_when hv22) ⟨trivial, trivial, trivial⟩ trivial ?_
        refine Rh 1 52 [(4, iA v22)] (AOps_done ?_)
        exact AWP_ret (FR H)
end Go.Proofs.YtjhbobacbaikoaaGreatDoor
/- A function of the program as a pure function, and that the program computes it. -/
namespace Go.Proofs.YtjhbobacbaikoaaGreatDoor
open Go
set_option linter.unusedVariables false
set_option linter.unusedSimpArgs false
set_option maxRecDepth 100000
def p_law6_awake (n : Nat)  : Option Bool :=
(p_shape_Environment n ({ gSettings := ({ gSalt := ByteArray.empty, gHoldoutKind := ByteArray.empty, gHoldout := 0 } : TSettings), gAttributes := [], gSegments := [], gFlags := [], gLayers := [], gExperiments := [] } : TEnvironment)).bind fun v1 =>
(bif v1 == 0 then p_shape_Split n ([({ gFrom := 0, gTo := 10000, gVariation := 2 } : TRange)]) 2 else some (0)).bind fun v2 =>
(bif (v1 == 0) && (v2 == 0) then p_shape_Split n ([({ gFrom := 0, gTo := 10000, gVariation := 2 } : TRange)]) 1 else some (0)).bind fun v3 =>
 some (((v1 == 0) && (v2 == 0)) && (v3 == 3))
variable {E : Env}
theorem s_law6_awake {n : Nat} (hG : GlobT E)  {r : Bool} (H : p_law6_awake n  = some r) :
    Sp Tryz.prog E 10 [] [] (isA (bA r) []) := by
  unfold p_law6_awake at H
  refine Sp_fn Tryz.func10 rfl (fun hc hs => ?_)
  refine AWP_reg (Rh 1 17 [] (AOps_done (AWP_reg (Rh 1 17 [(2, .agg [iA 0, iA 10000, iA 2])] (AOps_bsl (d := (some 3)) (m := 1) (cs := [iA 0, iA 10000, iA 2]) (by kernel_rfl) ⟨trivial, trivial, trivial, trivial⟩ ?_)))))
  refine Rh 1 17 [(1, .ro .unk ([({ gFrom := 0, gTo := 10000, gVariation := 2 } : TRange)]).length (TRange.cl ([({ gFrom := 0, gTo := 10000, gVariation := 2 } : TRange)])))] (AOps_done (AWP_reg (Rh 1 17 [(1, .ro .unk ([({ gFrom := 0, gTo := 10000, gVariation := 2 } : TRange)]).length (TRange.cl ([({ gFrom := 0, gTo := 10000, gVariation := 2 } : TRange)]))), (4, .agg [sA ByteArray.empty, sA ByteArray.empty, iA 0, .ro .full 0 [], .ro .full 0 [], .ro .full 0 [], .ro .full 0 [], .ro .full 0 []])] ?_)))
  obtain ⟨v1, hv1, H⟩ := bind_some H
  refine AOps_callp (d := (some 5)) (al := [.agg [sA ByteArray.empty, sA ByteArray.empty, iA 0, .ro .full 0 [], .ro .full 0 [], .ro .full 0 [], .ro .full 0 [], .ro .full 0 []]]) (r := iA v1) (by kernel_rfl) (Sp.le (leL_cons (AV.le_agg (leL_cons (AV.le_refl _) (leL_cons (AV.le_refl _) (leL_cons (AV.le_refl _) (leL_cons (AV.le_ro _ _ _) (leL_cons (AV.le_ro _ _ _) (leL_cons (AV.le_ro _ _ _) (leL_cons (AV.le_ro _ _ _) (leL_cons (AV.le_ro _ _ _) (leL_refl _))))))))) rfl) (leL_refl _)) (s_shape_Environment hG hv1)) ⟨⟨trivial, trivial, trivial, trivial, trivial, trivial, trivial, trivial, trivial⟩, trivial⟩ trivial ?_
  refine Rh 2 17 [(1, .ro .unk ([({ gFrom := 0, gTo := 10000, gVariation := 2 } : TRange)]).length (TRange.cl ([({ gFrom := 0, gTo := 10000, gVariation := 2 } : TRange)]))), (7, bA (v1 == 0))] ?_
  obtain ⟨v2, hv2, H⟩ := bind_some H
  refine AOps_cut 4 (st' := fr 17 [(1, .ro .unk ([({ gFrom := 0, gTo := 10000, gVariation := 2 } : TRange)]).length (TRange.cl ([({ gFrom := 0, gTo := 10000, gVariation := 2 } : TRange)]))), (11, bA ((v1 == 0) && (v2 == 0)))]) (h' := []) ?_ ?_
  rotate_left
  · cases c1 : (v1 == 0 : Bool) with
    | true =>
      refine R 1 17 [(1, .ro .unk ([({ gFrom := 0, gTo := 10000, gVariation := 2 } : TRange)]).length (TRange.cl ([({ gFrom := 0, gTo := 10000, gVariation := 2 } : TRange)]))), (7, bA true), (8, .ro .unk ([({ gFrom := 0, gTo := 10000, gVariation := 2 } : TRange)]).length (TRange.cl ([({ gFrom := 0, gTo := 10000, gVariation := 2 } : TRange)])))] [] ?_
      have hv2_ := cond_t hv2 (by simp only [c1] <;> rfl)
      refine AOps_callp (d := (some 9)) (al := [.ro .unk ([({ gFrom := 0, gTo := 10000, gVariation := 2 } : TRange)]).length (TRange.cl ([({ gFrom := 0, gTo := 10000, gVariation := 2 } : TRange)])), iA 2]) (r := iA v2) (by kernel_rfl) (s_shape_Split hv2_) ⟨(scl_TRange_cl _ _), trivial, trivial⟩ trivial ?_
      refine R 2 17 [(1, .ro .unk ([({ gFrom := 0, gTo := 10000, gVariation := 2 } : TRange)]).length (TRange.cl ([({ gFrom := 0, gTo := 10000, gVariation := 2 } : TRange)]))), (11, bA (true && (v2 == 0)))] [] ?_
      exact AOps_here [1, 11] (by kernel_rfl) rfl
    | false =>
      refine R 4 17 [(1, .ro .unk ([({ gFrom := 0, gTo := 10000, gVariation := 2 } : TRange)]).length (TRange.cl ([({ gFrom := 0, gTo := 10000, gVariation := 2 } : TRange)]))), (11, bA (false && (v2 == 0)))] [] ?_
      exact AOps_here [1, 11] (by kernel_rfl) rfl
  refine Rh 1 17 [(1, .ro .unk ([({ gFrom := 0, gTo := 10000, gVariation := 2 } : TRange)]).length (TRange.cl ([({ gFrom := 0, gTo := 10000, gVariation := 2 } : TRange)]))), (12, bA ((v1 == 0) && (v2 == 0)))] ?_
  obtain ⟨v3, hv3, H⟩ := bind_some H
  refine AOps_cut 4 (st' := fr 17 [(16, bA (((v1 == 0) && (v2 == 0)) && (v3 == 3)))]) (h' := []) ?_ ?_
  rotate_left
  · cases c1 : ((v1 == 0) && (v2 == 0) : Bool) with
    | true =>
      refine R 1 17 [(12, bA true), (13, .ro .unk ([({ gFrom := 0, gTo := 10000, gVariation := 2 } : TRange)]).length (TRange.cl ([({ gFrom := 0, gTo := 10000, gVariation := 2 } : TRange)])))] [] ?_
      have hv3_ := cond_t hv3 (by simp only [c1] <;> rfl)
      refine AOps_callp (d := (some 14)) (al := [.ro .unk ([({ gFrom := 0, gTo := 10000, gVariation := 2 } : TRange)]).length (TRange.cl ([({ gFrom := 0, gTo := 10000, gVariation := 2 } : TRange)])), iA 1]) (r := iA v3) (by kernel_rfl) (s_shape_Split hv3_) ⟨(scl_TRange_cl _ _), trivial, trivial⟩ trivial ?_
      refine R 2 17 [(16, bA (true && (v3 == 3)))] [] ?_
      exact AOps_here [16] (by kernel_rfl) rfl
    | false =>
      refine R 4 17 [(16, bA (false && (v3 == 3)))] [] ?_
      exact AOps_here [16] (by kernel_rfl) rfl
  refine Rh 1 17 [(0, bA (((v1 == 0) && (v2 == 0)) && (v3 == 3)))] (AOps_done ?_)
  exact AWP_ret (FR H)
end Go.Proofs.YtjhbobacbaikoaaGreatDoor
