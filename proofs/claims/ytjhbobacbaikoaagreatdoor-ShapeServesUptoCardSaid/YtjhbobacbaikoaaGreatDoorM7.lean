/- Bounds of conditions. -/
import Derived.Test.YtjhbobacbaikoaaGreatDoorM6
import Derived.Test.YtjhbobacbaikoaaGreatDoorM4

namespace Go.Proofs.YtjhbobacbaikoaaGreatDoor
open Go
set_option linter.unusedVariables false
set_option linter.unusedSimpArgs false
set_option maxRecDepth 100000
/-! ## size, depth, number of parts -/
mutual
def TExpr.bd (B : Nat) : TExpr → Prop
  | .mk _ k nm vs ks => k.size ≤ 100 ∧ nm.size ≤ 100 ∧ vs.length ≤ B ∧ (∀ v ∈ vs, v.bd) ∧ ks.length ≤ B ∧ TExpr.bdL B ks
def TExpr.bdL (B : Nat) : List TExpr → Prop
  | [] => True
  | x :: xs => x.bd B ∧ TExpr.bdL B xs
end
theorem TExpr.bdL_iff {B : Nat} : ∀ {l : List TExpr}, TExpr.bdL B l ↔ ∀ x ∈ l, x.bd B
  | [] => by simp [TExpr.bdL]
  | x :: l => by rw [TExpr.bdL, TExpr.bdL_iff (l := l)]; simp
theorem TExpr.bd_iff {B : Nat} {x : TExpr} : x.bd B ↔ x.gKind.size ≤ 100 ∧ x.gName.size ≤ 100 ∧ x.gValues.length ≤ B ∧ (∀ v ∈ x.gValues, v.bd) ∧ x.gKids.length ≤ B ∧ ∀ k ∈ x.gKids, k.bd B := by
  cases x with
  | mk op k nm vs ks => rw [TExpr.bd, TExpr.bdL_iff]; exact Iff.rfl
mutual
theorem TExpr.bd_le {B C : Nat} (h : B ≤ C) : ∀ x : TExpr, x.bd B → x.bd C
  | .mk op k nm vs ks => fun hx => by
    rw [TExpr.bd] at hx ⊢
    exact ⟨hx.1, hx.2.1, by have := hx.2.2.1; omega, hx.2.2.2.1, by have := hx.2.2.2.2.1; omega, TExpr.bdL_le h ks hx.2.2.2.2.2⟩
theorem TExpr.bdL_le {B C : Nat} (h : B ≤ C) : ∀ l : List TExpr, TExpr.bdL B l → TExpr.bdL C l
  | [] => fun _ => by rw [TExpr.bdL]; trivial
  | x :: xs => fun hx => by
    rw [TExpr.bdL] at hx ⊢
    exact ⟨TExpr.bd_le h x hx.1, TExpr.bdL_le h xs hx.2⟩
end
theorem TValue.bd_sm {x : TValue} (h : x.bd) : x.sm := ⟨by have := h.1; omega, by have := h.2.1; omega, fun s hs => by have := h.2.2 s hs; omega⟩
mutual
theorem TExpr.bd_sm {B : Nat} (h : B < 4294967281) : ∀ x : TExpr, x.bd B → x.sm
  | .mk op k nm vs ks => fun hx => by
    rw [TExpr.bd] at hx
    rw [TExpr.sm]
    exact ⟨by have := hx.1; omega, by have := hx.2.1; omega, fun v hv => TValue.bd_sm (hx.2.2.2.1 v hv), by have := hx.2.2.2.2.1; omega, TExpr.bdL_sm h ks hx.2.2.2.2.2⟩
theorem TExpr.bdL_sm {B : Nat} (h : B < 4294967281) : ∀ l : List TExpr, TExpr.bdL B l → TExpr.smL l
  | [] => fun _ => by rw [TExpr.smL]; trivial
  | x :: xs => fun hx => by
    rw [TExpr.bdL] at hx
    rw [TExpr.smL]
    exact ⟨TExpr.bd_sm h x hx.1, TExpr.bdL_sm h xs hx.2⟩
end
mutual
def TExpr.parts : TExpr → Nat
  | .mk _ _ _ _ ks => 1 + TExpr.partsL ks
def TExpr.partsL : List TExpr → Nat
  | [] => 0
  | x :: xs => x.parts + TExpr.partsL xs
end
mutual
def TExpr.dep : TExpr → Nat
  | .mk _ _ _ _ ks => 1 + TExpr.depL ks
def TExpr.depL : List TExpr → Nat
  | [] => 0
  | x :: xs => max x.dep (TExpr.depL xs)
end
theorem testG_bd {x : TExpr} (h : TestG x) : x.bd 20 := by
  have h1 := words_size _ (List.mem_append_left _ h.kind)
  have h2 := words_size _ (List.mem_append_right _ h.name)
  have hk := h.kids
  refine TExpr.bd_iff.2 ⟨by omega, by omega, by have := h.len; omega, fun v hv => good_bd v (h.vals v hv), by rw [hk]; decide, fun k hkk => ?_⟩
  rw [hk] at hkk; cases hkk
end Go.Proofs.YtjhbobacbaikoaaGreatDoor
/- A function of the program as a pure function, and that the program computes it. -/
namespace Go.Proofs.YtjhbobacbaikoaaGreatDoor
open Go
set_option linter.unusedVariables false
set_option linter.unusedSimpArgs false
set_option maxRecDepth 100000
def p_draw_Codes_Condition_K1 (n : Nat) (v72 : List Int) (v73 : Int) (v74 : Int) (v75 : ByteArray) (v76 : ByteArray) (v77 : List TValue) (v78 : List TExpr) : Option (TExpr × TCodes) :=
 some ((TExpr.mk v74 v75 v76 v77 v78), ({ glist := v72, gat := v73 } : TCodes))
def p_draw_Codes_Condition_L1 (n : Nat) (v111 : Int) (v112 : List Int) (v113 : Int) (v114 : Int) (v115 : ByteArray) (v116 : ByteArray) (v117 : List TValue) (v118 : List TExpr) : Option (TExpr × TCodes) := match n with
| 0 => none
| n + 1 =>
(p_draw_Codes_Next n ({ glist := v112, gat := v113 } : TCodes) 3).bind fun v119 =>
(bif decide (v111 < (w64 (9 + v119.1))) then
 p_draw_Codes_Condition_L1 n  (w64 (v111 + 1)) v119.2.glist v119.2.gat 4 ByteArray.empty ByteArray.empty ([]) ([(TExpr.mk v114 v115 v116 v117 v118)])
 else
 p_draw_Codes_Condition_K1 n  v119.2.glist v119.2.gat v114 v115 v116 v117 v118)
def p_draw_Codes_Condition_L2 (n : Nat) (x1 : TExpr) (v133 : Int) (v134 : List Int) (v135 : Int) (v136 : List TExpr) : Option (TExpr × TCodes) := match n with
| 0 => none
| n + 1 =>
(bif decide (v133 < 11) then
(appO 88 ([] : List TExpr) v136).bind fun v138 =>
(p_draw_Codes_Test n ({ glist := v134, gat := v135 } : TCodes)).bind fun v139 =>
(appO 88 v138 ([v139.1])).bind fun v140 =>
 p_draw_Codes_Condition_L2 n x1 (w64 (v133 + 1)) v139.2.glist v139.2.gat v140
 else
 p_draw_Codes_Condition_K1 n  v134 v135 x1.gOp x1.gKind x1.gName x1.gValues v136)
def p_draw_Codes_Condition_F (self_p_draw_Codes_Condition : TCodes → TExpr → Option (TExpr × TCodes)) (n : Nat) (x0 : TCodes) (x1 : TExpr) : Option (TExpr × TCodes) :=
(bif decide ((lI x1.gKids) > 0) then p_draw_Codes_Next n x0 3 else some (0, x0)).bind fun v1 =>
(bif (decide ((lI x1.gKids) > 0)) && (decide (v1.1 > 0)) then
(appO 88 ([] : List TExpr) x1.gKids).bind fun v3 =>
(p_draw_Codes_Next n v1.2 (lI v3)).bind fun v4 =>
(rdO v3 v4.1).bind fun v5 =>
(self_p_draw_Codes_Condition v4.2 v5).bind fun v6 =>
(rdO v3 v4.1).bind fun v7 =>
 some ((TExpr.mk x1.gOp x1.gKind x1.gName x1.gValues (v3.set (v4.1).toNat v6.1)), v6.2)
 else
(p_draw_Codes_Next n v1.2 10).bind fun v79 =>
(bif v79.1 == 0 then
(p_draw_Codes_Next n v79.2 18).bind fun v81 =>
 p_draw_Codes_Condition_K1 n  v81.2.glist v81.2.gat (w64 (v81.1 - 1)) x1.gKind x1.gName x1.gValues x1.gKids
 else
(bif v79.1 == 1 then
(p_draw_Codes_Name n v79.2).bind fun v83 =>
 p_draw_Codes_Condition_K1 n  v83.2.glist v83.2.gat x1.gOp v83.1 x1.gName x1.gValues x1.gKids
 else
(bif v79.1 == 2 then
(p_draw_Codes_Name n v79.2).bind fun v85 =>
 p_draw_Codes_Condition_K1 n  v85.2.glist v85.2.gat x1.gOp x1.gKind v85.1 x1.gValues x1.gKids
 else
(bif v79.1 == 3 then
(appO 56 ([] : List TValue) x1.gValues).bind fun v87 =>
(p_draw_Codes_Any n v79.2).bind fun v88 =>
(appO 56 v87 ([v88.1])).bind fun v89 =>
 p_draw_Codes_Condition_K1 n  v88.2.glist v88.2.gat x1.gOp x1.gKind x1.gName v89 x1.gKids
 else
(bif v79.1 == 4 then
 p_draw_Codes_Condition_K1 n  v79.2.glist v79.2.gat x1.gOp x1.gKind x1.gName ([]) x1.gKids
 else
(bif v79.1 == 5 then
(p_draw_Codes_Next n v79.2 7).bind fun v92 =>
(p_draw_Codes_Number n v92.2).bind fun v93 =>
 p_draw_Codes_Condition_K1 n  v93.2.glist v93.2.gat x1.gOp x1.gKind x1.gName ([({ gKind := v92.1, gNumber := v93.1, gText := ByteArray.empty, gList := [] } : TValue)]) x1.gKids
 else
(bif v79.1 == 6 then
(appO 88 ([] : List TExpr) x1.gKids).bind fun v95 =>
(p_draw_Codes_Test n v79.2).bind fun v96 =>
(appO 88 v95 ([v96.1])).bind fun v97 =>
 p_draw_Codes_Condition_K1 n  v96.2.glist v96.2.gat x1.gOp x1.gKind x1.gName x1.gValues v97
 else
(bif v79.1 == 7 then
 p_draw_Codes_Condition_L1 n  0 v79.2.glist v79.2.gat x1.gOp x1.gKind x1.gName x1.gValues x1.gKids
 else
(bif v79.1 == 8 then
 p_draw_Codes_Condition_L2 n x1 0 v79.2.glist v79.2.gat x1.gKids
 else
(bif v79.1 == 9 then
(p_draw_Codes_Test n v79.2).bind fun v142 =>
 p_draw_Codes_Condition_K1 n  v142.2.glist v142.2.gat 2 ByteArray.empty ByteArray.empty ([]) ([x1, v142.1])
 else
 p_draw_Codes_Condition_K1 n  v79.2.glist v79.2.gat x1.gOp x1.gKind x1.gName x1.gValues x1.gKids)))))))))))
def p_draw_Codes_Condition (n : Nat) (x0 : TCodes) (x1 : TExpr) : Option (TExpr × TCodes) := match n with
| 0 => none
| n + 1 => p_draw_Codes_Condition_F (p_draw_Codes_Condition n) n x0 x1
variable {E : Env}
theorem s_draw_Codes_Condition_F (hG : GlobD E) {self_p_draw_Codes_Condition : TCodes → TExpr → Option (TExpr × TCodes)} (hself_draw_Codes_Condition : ∀ {x0 : TCodes}, ∀ {x1 : TExpr}, ∀ {r : TExpr × TCodes}, self_p_draw_Codes_Condition x0 x1 = some r → Sp Tryz.prog E 14 [.ptr 0 0, .agg (TExpr.cs x1)] [.cells 101 (TCodes.cs x0)] (isA (.agg (TExpr.cs r.1)) [.cells 101 (TCodes.cs r.2)])) {n : Nat} {x0 : TCodes} {x1 : TExpr} {r : TExpr × TCodes} (H : p_draw_Codes_Condition_F self_p_draw_Codes_Condition n x0 x1 = some r) :
    Sp Tryz.prog E 14 [.ptr 0 0, .agg (TExpr.cs x1)] [.cells 101 (TCodes.cs x0)] (isA (.agg (TExpr.cs r.1)) [.cells 101 (TCodes.cs r.2)]) := by
  unfold p_draw_Codes_Condition_F at H
  refine Sp_fn Tryz.func14 rfl (fun hc hs => ?_)
  refine AWP_reg (R 2 125 [(0, .ptr 0 0), (3, .ptr 1 0), (4, .ptr 2 0)] [.cells 25 [iA 0, sA ByteArray.empty, sA ByteArray.empty, .ro .full 0 [], .ro .full 0 []], .cells 25 (TExpr.cs x1), .cells 101 (TCodes.cs x0)] (AOps_done (AWP_seq (AWP_reg (Rh 5 125 [(0, .ptr 0 0), (3, .ptr 1 0), (4, .ptr 2 0), (13, bA (decide ((lI x1.gKids) > 0)))] ?_)))))
  obtain ⟨v1, hv1, H⟩ := bind_some H
  refine AOps_cut 4 (st' := fr 125 [(0, .ptr 0 0), (3, .ptr 1 0), (4, .ptr 2 0), (17, bA ((decide ((lI x1.gKids) > 0)) && (decide (v1.1 > 0))))]) (h' := [.cells 25 [iA 0, sA ByteArray.empty, sA ByteArray.empty, .ro .full 0 [], .ro .full 0 []], .cells 25 (TExpr.cs x1), .cells 101 (TCodes.cs v1.2)]) ?_ ?_
  rotate_left
  · cases c1 : (decide ((lI x1.gKids) > 0) : Bool) with
    | true =>
      refine R 1 125 [(0, .ptr 0 0), (3, .ptr 1 0), (4, .ptr 2 0), (13, bA true), (14, .ptr 0 0)] [.cells 25 [iA 0, sA ByteArray.empty, sA ByteArray.empty, .ro .full 0 [], .ro .full 0 []], .cells 25 (TExpr.cs x1), .cells 101 (TCodes.cs x0)] ?_
      have hv1_ := cond_t hv1 (by simp only [c1] <;> rfl)
      refine AOps_call1 (d := (some 15)) (al := [.ptr 0 0, iA 3]) ([.ptr 0 0, iA 3]) (r := iA v1.1) (j := 0) (b' := .cells 101 (TCodes.cs v1.2)) (by kernel_rfl) rfl (s_draw_Codes_Next hv1_) (⟨(scl_cl_u8 _ _), trivial, trivial⟩) (⟨(scl_cl_u8 _ _), trivial, trivial⟩) ⟨Nat.zero_lt_one, trivial, trivial⟩ trivial rfl (h' := [.cells 25 [iA 0, sA ByteArray.empty, sA ByteArray.empty, .ro .full 0 [], .ro .full 0 []], .cells 25 (TExpr.cs x1), .cells 101 (TCodes.cs v1.2)]) rfl ?_
      refine R 2 125 [(0, .ptr 0 0), (3, .ptr 1 0), (4, .ptr 2 0), (17, bA (true && (decide (v1.1 > 0))))] [.cells 25 [iA 0, sA ByteArray.empty, sA ByteArray.empty, .ro .full 0 [], .ro .full 0 []], .cells 25 (TExpr.cs x1), .cells 101 (TCodes.cs v1.2)] ?_
      exact AOps_here [0, 3, 4, 17] (by kernel_rfl) rfl
    | false =>
      have hv1_ := Option.some.inj (cond_f hv1 (by simp only [c1] <;> rfl))
      refine R 4 125 [(0, .ptr 0 0), (3, .ptr 1 0), (4, .ptr 2 0), (17, bA (false && (decide (v1.1 > 0))))] [.cells 25 [iA 0, sA ByteArray.empty, sA ByteArray.empty, .ro .full 0 [], .ro .full 0 []], .cells 25 (TExpr.cs x1), .cells 101 (TCodes.cs x0)] ?_
      exact AOps_here [0, 3, 4, 17] (by kernel_rfl) (by rw [← hv1_] <;> rfl)
  refine AOps_done (CD H (fun hb2 H => ?_) (fun hb2 H => ?_))
  · refine AWP_reg (Rh 2 125 [(0, .ptr 0 0), (3, .ptr 1 0), (4, .ptr 2 0), (19, .ro .unk x1.gKids.length (TExpr.cl x1.gKids))] ?_)
    obtain ⟨v3, hv3, H⟩ := bind_some H
    refine AOps_append_nilO (d := (some 20)) (c := TExpr.cs) (sz := 5) (bs := 88) (e := 25) (ys := x1.gKids) (by kernel_rfl) rfl (eq_TExpr_cl _) (fun _ => rfl) (by kernel_rfl) (by kernel_rfl) hv3 (eq_TExpr_cl _) ?_
    refine R 2 125 [(0, .ptr 0 0), (3, .ptr 1 0), (4, .ptr 2 0)] [.cells 25 (TExpr.cl v3), .cells 25 [iA 0, sA ByteArray.empty, sA ByteArray.empty, .ro .full 0 [], .ro .full 0 []], .cells 25 [iA x1.gOp, sA x1.gKind, sA x1.gName, .ro .unk x1.gValues.length (TValue.cl x1.gValues), .sl 3 0 v3.length (.whole 5)], .cells 101 (TCodes.cs v1.2)] (AOps_done (AWP_reg (Rh 4 125 [(0, .ptr 0 0), (3, .ptr 1 0), (4, .ptr 2 0), (22, .ptr 0 0), (25, iA (lI v3))] ?_)))
    obtain ⟨v4, hv4, H⟩ := bind_some H
    refine AOps_call1 (d := (some 26)) (al := [.ptr 0 0, iA (lI v3)]) ([.ptr 0 0, iA (lI v3)]) (r := iA v4.1) (j := 0) (b' := .cells 101 (TCodes.cs v4.2)) (by kernel_rfl) rfl (s_draw_Codes_Next hv4) (⟨(scl_cl_u8 _ _), trivial, trivial⟩) (⟨(scl_cl_u8 _ _), trivial, trivial⟩) ⟨Nat.zero_lt_one, trivial, trivial⟩ trivial rfl (h' := [.cells 25 (TExpr.cl v3), .cells 25 [iA 0, sA ByteArray.empty, sA ByteArray.empty, .ro .full 0 [], .ro .full 0 []], .cells 25 [iA x1.gOp, sA x1.gKind, sA x1.gName, .ro .unk x1.gValues.length (TValue.cl x1.gValues), .sl 3 0 v3.length (.whole 5)], .cells 101 (TCodes.cs v4.2)]) rfl ?_
    refine Rh 1 125 [(0, .ptr 0 0), (3, .ptr 1 0), (4, .ptr 2 0), (5, iA v4.1)] (AOps_done ?_)
    obtain ⟨v5, hv5, H⟩ := bind_some H
    obtain ⟨v6, hv6, H⟩ := bind_some H
    obtain ⟨v7, hv7, H⟩ := bind_some H
    refine AWP_regD1 [0, 1, 2, 3, 4, 5, 6, 7, 8, 9, 10, 11] (N := 125) (f := [(0, .ptr 0 0), (3, .ptr 1 0), (4, .ptr 2 0), (5, iA v4.1)]) (leL_of [0, 3, 4, 5] (by kernel_rfl)) mixed (by kernel_rfl) (by kernel_rfl) (st' := fr 125 [(3, .ptr 1 0), (4, .ptr 2 0)]) (h' := [.cells 25 (TExpr.cl (v3.set (v4.1).toNat v6.1)), .cells 25 [iA 0, sA ByteArray.empty, sA ByteArray.empty, .ro .full 0 [], .ro .full 0 []], .cells 25 [iA x1.gOp, sA x1.gKind, sA x1.gName, .ro .unk x1.gValues.length (TValue.cl x1.gValues), .sl 3 0 (v3.set (v4.1).toNat v6.1).length (.whole 5)], .cells 101 (TCodes.cs v6.2)]) ?_ ?_
    rotate_left
    · refine RD 7 125 [(5, 1), (4, 1), (1, 1), (0, 1)] [(0, .ptr 0 0), (3, .ptr 1 0), (4, .ptr 2 0), (5, iA v4.1), (27, .ptr 1 4), (28, .sl 3 0 v3.length (.whole 5)), (29, iA v4.1), (30, .ptr 0 0), (31, .ptr 1 4), (32, .sl 3 0 v3.length (.whole 5)), (33, iA v4.1)] (AD_oidx (d := (some 34)) (id := 3) (off := 0) (j := v4.1) (m := v3.length) (sz := 5) (by kernel_rfl) (rdO_place hv5) ?_)
      refine AD_ldx (d := (some 35)) (id := 3) (t := 25) (v := .agg (TExpr.cs v5)) (by kernel_rfl) (ldx_of (c := TExpr.cs) (sz := 5) (eq_TExpr_cl) (fun _ => rfl) hv5 0 (by decide) (fun _ => by kernel_rfl)) ?_
      refine AD_call1 (d := (some 36)) (al := [.ptr 0 0, .agg (TExpr.cs v5)]) ([.ptr 0 0, .agg (TExpr.cs v5)]) (r := .agg (TExpr.cs v6.1)) (j := 0) (b' := .cells 101 (TCodes.cs v6.2)) (by kernel_rfl) rfl (hself_draw_Codes_Condition hv6) (⟨(scl_cl_u8 _ _), trivial, trivial⟩) (⟨(scl_cl_u8 _ _), trivial, trivial⟩) ⟨Nat.zero_lt_one, (sc_TExpr_cs _ _), trivial⟩ (sc_TExpr_cs _ _) rfl (h' := [.cells 25 (TExpr.cl v3), .cells 25 [iA 0, sA ByteArray.empty, sA ByteArray.empty, .ro .full 0 [], .ro .full 0 []], .cells 25 [iA x1.gOp, sA x1.gKind, sA x1.gName, .ro .unk x1.gValues.length (TValue.cl x1.gValues), .sl 3 0 v3.length (.whole 5)], .cells 101 (TCodes.cs v6.2)]) rfl ?_
      refine AD_oidx (d := (some 37)) (id := 3) (off := 0) (j := v4.1) (m := v3.length) (sz := 5) (by kernel_rfl) (rdO_place hv7) ?_
      refine AD_stx (d := none) (id := 3) (ty := 25) (vs := [iA v6.1.gOp, sA v6.1.gKind, sA v6.1.gName, .ro .unk v6.1.gValues.length (TValue.cl v6.1.gValues), .ro .unk v6.1.gKids.length (TExpr.cl v6.1.gKids)]) (cs' := TExpr.cl (v3.set (v4.1).toNat v6.1)) (by kernel_rfl) (stx_of (c := TExpr.cs) (cl := TExpr.cl) (y := v6.1) (sz := 5) eq_TExpr_cl (fun _ => rfl) hv7 0 (by kernel_rfl)) (by kernel_rfl) (h' := [.cells 25 (TExpr.cl (v3.set (v4.1).toNat v6.1)), .cells 25 [iA 0, sA ByteArray.empty, sA ByteArray.empty, .ro .full 0 [], .ro .full 0 []], .cells 25 [iA x1.gOp, sA x1.gKind, sA x1.gName, .ro .unk x1.gValues.length (TValue.cl x1.gValues), .sl 3 0 v3.length (.whole 5)], .cells 101 (TCodes.cs v6.2)]) rfl ?_
      refine RD 0 125 [(10, 3), (8, 3), (7, 3), (5, 1), (4, 1), (1, 1), (0, 1)] [(0, .ptr 0 0), (3, .ptr 1 0), (4, .ptr 2 0), (5, iA v4.1), (27, .ptr 1 4), (28, .sl 3 0 v3.length (.whole 5)), (29, iA v4.1), (30, .ptr 0 0), (31, .ptr 1 4), (32, .sl 3 0 v3.length (.whole 5)), (33, iA v4.1), (34, .ptr 3 (0 + (v4.1).toNat * 5)), (35, .agg (TExpr.cs v5)), (36, .agg (TExpr.cs v6.1)), (37, .ptr 3 (0 + (v4.1).toNat * 5))] (AD_same (st' := fr 125 [(0, .ptr 0 0), (3, .ptr 1 0), (4, .ptr 2 0), (5, iA v4.1), (27, .ptr 1 4), (28, .sl 3 0 (v3.set (v4.1).toNat v6.1).length (.whole 5)), (29, iA v4.1), (30, .ptr 0 0), (31, .ptr 1 4), (32, .sl 3 0 (v3.set (v4.1).toNat v6.1).length (.whole 5)), (33, iA v4.1), (34, .ptr 3 (0 + (v4.1).toNat * 5)), (35, .agg (TExpr.cs v5)), (36, .agg (TExpr.cs v6.1)), (37, .ptr 3 (0 + (v4.1).toNat * 5))]) (h' := [.cells 25 (TExpr.cl (v3.set (v4.1).toNat v6.1)), .cells 25 [iA 0, sA ByteArray.empty, sA ByteArray.empty, .ro .full 0 [], .ro .full 0 []], .cells 25 [iA x1.gOp, sA x1.gKind, sA x1.gName, .ro .unk x1.gValues.length (TValue.cl x1.gValues), .sl 3 0 (v3.set (v4.1).toNat v6.1).length (.whole 5)], .cells 101 (TCodes.cs v6.2)]) (by simp only [List.length_set]) (by simp only [List.length_set]) ?_)
      exact AD_here [3, 4] (by kernel_rfl) rfl
    refine AWP_reg (R 2 125 [(4, .ptr 2 0)] [.cells 25 (TExpr.cl (v3.set (v4.1).toNat v6.1)), .cells 25 [iA x1.gOp, sA x1.gKind, sA x1.gName, .ro .unk x1.gValues.length (TValue.cl x1.gValues), .sl 3 0 (v3.set (v4.1).toNat v6.1).length (.whole 5)], .cells 25 [iA x1.gOp, sA x1.gKind, sA x1.gName, .ro .unk x1.gValues.length (TValue.cl x1.gValues), .sl 3 0 (v3.set (v4.1).toNat v6.1).length (.whole 5)], .cells 101 (TCodes.cs v6.2)] (AOps_done (AWP_ret ?_)))
    have hr := Option.some.inj H
    subst hr
    exact Fin_retn 3 (l := [.agg [iA x1.gOp, sA x1.gKind, sA x1.gName, .ro .unk x1.gValues.length (TValue.cl x1.gValues), .sl 3 0 (v3.set (v4.1).toNat v6.1).length (.whole 5)]]) (h' := [.cells 101 (TCodes.cs v6.2)]) (by kernel_rfl) rfl (Nat.le_of_ble_eq_true rfl) ((by refine Closed_of ?_; exact ⟨⟨(scl_cl_u8 _ _), trivial, trivial⟩, trivial⟩)) (Frz_agg (FrzL_cons (Frz_sc trivial) (FrzL_cons (Frz_sc trivial) (FrzL_cons (Frz_sc trivial) (FrzL_cons (Frz_sc (scl_TValue_cl _ _)) (FrzL_cons (Frz_own (t := 25) (m2 := (v3.set (v4.1).toNat v6.1).length) (cs := TExpr.cl (v3.set (v4.1).toNat v6.1)) rfl rfl (Nat.le_of_ble_eq_true rfl) (scl_TExpr_cl _ _)) (FrzL_nil)))))) rfl) ⟨rfl, rfl⟩
  · refine AWP_skip ?_
    show AWP _ _ _ _ _ _ _
    refine AWP_joinN (α := (List Int) × Int × Int × ByteArray × ByteArray × (List TValue) × (List TExpr)) (fun ⟨v72, v73, v74, v75, v76, v77, v78⟩ => fr 125 [(3, .ptr 1 0), (4, .ptr 2 0)]) (fun ⟨v72, v73, v74, v75, v76, v77, v78⟩ => [.cells 25 [iA 0, sA ByteArray.empty, sA ByteArray.empty, .ro .full 0 [], .ro .full 0 []], .cells 25 [iA v74, sA v75, sA v76, .ro .unk v77.length (TValue.cl v77), .ro .unk v78.length (TExpr.cl v78)], .cells 101 [.ro .unk v72.length (cl_u8 v72), iA v73]]) (fun ⟨v72, v73, v74, v75, v76, v77, v78⟩ => ∃ q, q ≤ q ∧ p_draw_Codes_Condition_K1 q  v72 v73 v74 v75 v76 v77 v78 = some r) (fun a hC => ?_) ?_
    · obtain ⟨v72, v73, v74, v75, v76, v77, v78⟩ := a
      show AWP _ _ _ _ _ (fr 125 [(3, .ptr 1 0), (4, .ptr 2 0)]) [.cells 25 [iA 0, sA ByteArray.empty, sA ByteArray.empty, .ro .full 0 [], .ro .full 0 []], .cells 25 [iA v74, sA v75, sA v76, .ro .unk v77.length (TValue.cl v77), .ro .unk v78.length (TExpr.cl v78)], .cells 101 [.ro .unk v72.length (cl_u8 v72), iA v73]]
      obtain ⟨n, hn_, hC⟩ := hC
      replace H : p_draw_Codes_Condition_K1 n  v72 v73 v74 v75 v76 v77 v78 = some r := hC
      unfold p_draw_Codes_Condition_K1 at H
      refine AWP_reg (R 2 125 [(4, .ptr 2 0)] [.cells 25 [iA v74, sA v75, sA v76, .ro .unk v77.length (TValue.cl v77), .ro .unk v78.length (TExpr.cl v78)], .cells 25 [iA v74, sA v75, sA v76, .ro .unk v77.length (TValue.cl v77), .ro .unk v78.length (TExpr.cl v78)], .cells 101 [.ro .unk v72.length (cl_u8 v72), iA v73]] (AOps_done (AWP_ret ?_)))
      have hr := Option.some.inj H
      subst hr
      exact Fin_retn 2 (l := [.agg [iA v74, sA v75, sA v76, .ro .unk v77.length (TValue.cl v77), .ro .unk v78.length (TExpr.cl v78)]]) (h' := [.cells 101 [.ro .unk v72.length (cl_u8 v72), iA v73]]) (by kernel_rfl) rfl (Nat.le_of_ble_eq_true rfl) ((by refine Closed_of ?_; exact ⟨⟨(scl_cl_u8 _ _), trivial, trivial⟩, trivial⟩)) (Frz_sc ⟨trivial, trivial, trivial, (scl_TValue_cl _ _), (scl_TExpr_cl _ _), trivial⟩) ⟨rfl, rfl⟩
    · refine AWP_reg (Rh 1 125 [(0, .ptr 0 0), (3, .ptr 1 0), (4, .ptr 2 0), (39, .ptr 0 0)] ?_)
      obtain ⟨v79, hv79, H⟩ := bind_some H
      refine AOps_call1 (d := (some 40)) (al := [.ptr 0 0, iA 10]) ([.ptr 0 0, iA 10]) (r := iA v79.1) (j := 0) (b' := .cells 101 (TCodes.cs v79.2)) (by kernel_rfl) rfl (s_draw_Codes_Next hv79) (⟨(scl_cl_u8 _ _), trivial, trivial⟩) (⟨(scl_cl_u8 _ _), trivial, trivial⟩) ⟨Nat.zero_lt_one, trivial, trivial⟩ trivial rfl (h' := [.cells 25 [iA 0, sA ByteArray.empty, sA ByteArray.empty, .ro .full 0 [], .ro .full 0 []], .cells 25 (TExpr.cs x1), .cells 101 (TCodes.cs v79.2)]) rfl ?_
      refine AOps_done (AWP_block ?_)
      refine AWP_reg (Rh 2 125 [(0, .ptr 0 0), (3, .ptr 1 0), (4, .ptr 2 0), (40, iA v79.1), (41, bA (v79.1 == 0))] (AOps_done (CD H (fun hb80 H => ?_) (fun hb80 H => ?_))))
      · refine AWP_region ?_
        refine Rh 1 125 [(3, .ptr 1 0), (4, .ptr 2 0), (43, .ptr 0 0)] ?_
        obtain ⟨v81, hv81, H⟩ := bind_some H
        refine AOps_call1 (d := (some 44)) (al := [.ptr 0 0, iA 18]) ([.ptr 0 0, iA 18]) (r := iA v81.1) (j := 0) (b' := .cells 101 (TCodes.cs v81.2)) (by kernel_rfl) rfl (s_draw_Codes_Next hv81) (⟨(scl_cl_u8 _ _), trivial, trivial⟩) (⟨(scl_cl_u8 _ _), trivial, trivial⟩) ⟨Nat.zero_lt_one, trivial, trivial⟩ trivial rfl (h' := [.cells 25 [iA 0, sA ByteArray.empty, sA ByteArray.empty, .ro .full 0 [], .ro .full 0 []], .cells 25 (TExpr.cs x1), .cells 101 (TCodes.cs v81.2)]) rfl ?_
        refine R 3 125 [(3, .ptr 1 0), (4, .ptr 2 0)] [.cells 25 [iA 0, sA ByteArray.empty, sA ByteArray.empty, .ro .full 0 [], .ro .full 0 []], .cells 25 [iA (w64 (v81.1 - 1)), sA x1.gKind, sA x1.gName, .ro .unk x1.gValues.length (TValue.cl x1.gValues), .ro .unk x1.gKids.length (TExpr.cl x1.gKids)], .cells 101 (TCodes.cs v81.2)] (AOps_done ?_)
        exact Exists.intro (v81.2.glist, v81.2.gat, w64 (v81.1 - 1), x1.gKind, x1.gName, x1.gValues, x1.gKids) ⟨⟨n, by omega, H⟩, Norm_fd [3, 4] 0 (by kernel_rfl) rfl rfl ⟨⟨trivial, trivial, trivial, trivial, trivial, trivial⟩, ⟨trivial, trivial, trivial, (scl_TValue_cl _ _), (scl_TExpr_cl _ _), trivial⟩, ⟨(scl_cl_u8 _ _), trivial, trivial⟩, trivial⟩ (by refine scL_fr ?_; exact ⟨(sc_ptr rfl), (sc_ptr rfl), trivial⟩)⟩
      · refine AWP_reg (Rh 2 125 [(0, .ptr 0 0), (3, .ptr 1 0), (4, .ptr 2 0), (40, iA v79.1), (47, bA (v79.1 == 1))] (AOps_done (CD H (fun hb82 H => ?_) (fun hb82 H => ?_))))
        · refine AWP_region ?_
          refine Rh 1 125 [(3, .ptr 1 0), (4, .ptr 2 0), (49, .ptr 0 0)] ?_
          obtain ⟨v83, hv83, H⟩ := bind_some H
          refine AOps_call1 (d := (some 50)) (al := [.ptr 0 0]) ([.ptr 0 0]) (r := sA v83.1) (j := 0) (b' := .cells 101 (TCodes.cs v83.2)) (by kernel_rfl) rfl (s_draw_Codes_Name hv83) (⟨(scl_cl_u8 _ _), trivial, trivial⟩) (⟨(scl_cl_u8 _ _), trivial, trivial⟩) ⟨Nat.zero_lt_one, trivial⟩ trivial rfl (h' := [.cells 25 [iA 0, sA ByteArray.empty, sA ByteArray.empty, .ro .full 0 [], .ro .full 0 []], .cells 25 (TExpr.cs x1), .cells 101 (TCodes.cs v83.2)]) rfl ?_
          refine R 2 125 [(3, .ptr 1 0), (4, .ptr 2 0)] [.cells 25 [iA 0, sA ByteArray.empty, sA ByteArray.empty, .ro .full 0 [], .ro .full 0 []], .cells 25 [iA x1.gOp, sA v83.1, sA x1.gName, .ro .unk x1.gValues.length (TValue.cl x1.gValues), .ro .unk x1.gKids.length (TExpr.cl x1.gKids)], .cells 101 (TCodes.cs v83.2)] (AOps_done ?_)
          exact Exists.intro (v83.2.glist, v83.2.gat, x1.gOp, v83.1, x1.gName, x1.gValues, x1.gKids) ⟨⟨n, by omega, H⟩, Norm_fd [3, 4] 0 (by kernel_rfl) rfl rfl ⟨⟨trivial, trivial, trivial, trivial, trivial, trivial⟩, ⟨trivial, trivial, trivial, (scl_TValue_cl _ _), (scl_TExpr_cl _ _), trivial⟩, ⟨(scl_cl_u8 _ _), trivial, trivial⟩, trivial⟩ (by refine scL_fr ?_; exact ⟨(sc_ptr rfl), (sc_ptr rfl), trivial⟩)⟩
        · refine AWP_reg (Rh 2 125 [(0, .ptr 0 0), (3, .ptr 1 0), (4, .ptr 2 0), (40, iA v79.1), (52, bA (v79.1 == 2))] (AOps_done (CD H (fun hb84 H => ?_) (fun hb84 H => ?_))))
          · refine AWP_region ?_
            refine Rh 1 125 [(3, .ptr 1 0), (4, .ptr 2 0), (54, .ptr 0 0)] ?_
            obtain ⟨v85, hv85, H⟩ := bind_some H
            refine AOps_call1 (d := (some 55)) (al := [.ptr 0 0]) ([.ptr 0 0]) (r := sA v85.1) (j := 0) (b' := .cells 101 (TCodes.cs v85.2)) (by kernel_rfl) rfl (s_draw_Codes_Name hv85) (⟨(scl_cl_u8 _ _), trivial, trivial⟩) (⟨(scl_cl_u8 _ _), trivial, trivial⟩) ⟨Nat.zero_lt_one, trivial⟩ trivial rfl (h' := [.cells 25 [iA 0, sA ByteArray.empty, sA ByteArray.empty, .ro .full 0 [], .ro .full 0 []], .cells 25 (TExpr.cs x1), .cells 101 (TCodes.cs v85.2)]) rfl ?_
            refine R 2 125 [(3, .ptr 1 0), (4, .ptr 2 0)] [.cells 25 [iA 0, sA ByteArray.empty, sA ByteArray.empty, .ro .full 0 [], .ro .full 0 []], .cells 25 [iA x1.gOp, sA x1.gKind, sA v85.1, .ro .unk x1.gValues.length (TValue.cl x1.gValues), .ro .unk x1.gKids.length (TExpr.cl x1.gKids)], .cells 101 (TCodes.cs v85.2)] (AOps_done ?_)
            exact Exists.intro (v85.2.glist, v85.2.gat, x1.gOp, x1.gKind, v85.1, x1.gValues, x1.gKids) ⟨⟨n, by omega, H⟩, Norm_fd [3, 4] 0 (by kernel_rfl) rfl rfl ⟨⟨trivial, trivial, trivial, trivial, trivial, trivial⟩, ⟨trivial, trivial, trivial, (scl_TValue_cl _ _), (scl_TExpr_cl _ _), trivial⟩, ⟨(scl_cl_u8 _ _), trivial, trivial⟩, trivial⟩ (by refine scL_fr ?_; exact ⟨(sc_ptr rfl), (sc_ptr rfl), trivial⟩)⟩
          · refine AWP_reg (Rh 2 125 [(0, .ptr 0 0), (3, .ptr 1 0), (4, .ptr 2 0), (40, iA v79.1), (57, bA (v79.1 == 3))] (AOps_done (CD H (fun hb86 H => ?_) (fun hb86 H => ?_))))
            · refine AWP_region ?_
              refine Rh 2 125 [(0, .ptr 0 0), (3, .ptr 1 0), (4, .ptr 2 0), (60, .ro .unk x1.gValues.length (TValue.cl x1.gValues))] ?_
              obtain ⟨v87, hv87, H⟩ := bind_some H
              refine AOps_append_nil (d := (some 61)) (c := TValue.cs) (sz := 4) (bs := 56) (e := 58) (ys := x1.gValues) (by kernel_rfl) rfl (eq_TValue_cl _) (fun _ => rfl) (by kernel_rfl) (by kernel_rfl) hv87 (eq_TValue_cl _) ?_
              refine Rh 1 125 [(3, .ptr 1 0), (4, .ptr 2 0), (61, .sl 3 0 v87.length (.whole 4)), (62, .ptr 0 0)] ?_
              obtain ⟨v88, hv88, H⟩ := bind_some H
              refine AOps_call1 (d := (some 63)) (al := [.ptr 0 0]) ([.ptr 0 0]) (r := .agg (TValue.cs v88.1)) (j := 0) (b' := .cells 101 (TCodes.cs v88.2)) (by kernel_rfl) rfl (s_draw_Codes_Any hG hv88) (⟨(scl_cl_u8 _ _), trivial, trivial⟩) (⟨(scl_cl_u8 _ _), trivial, trivial⟩) ⟨Nat.zero_lt_one, trivial⟩ (sc_TValue_cs _ _) rfl (h' := [.row 58 (TValue.cl v87), .cells 25 [iA 0, sA ByteArray.empty, sA ByteArray.empty, .ro .full 0 [], .ro .full 0 []], .cells 25 (TExpr.cs x1), .cells 101 (TCodes.cs v88.2)]) rfl ?_
              refine AOps_bsl (d := (some 64)) (m := 1) (cs := [iA v88.1.gKind, iA v88.1.gNumber, sA v88.1.gText, .ro .unk v88.1.gList.length (cl_str v88.1.gList)]) (by kernel_rfl) ⟨trivial, trivial, trivial, (scl_cl_str _ _), trivial⟩ ?_
              obtain ⟨v89, hv89, H⟩ := bind_some H
              refine AOps_append (d := (some 65)) (c := TValue.cs) (sz := 4) (bs := 56) (e := 58) (id := 3) (xs := v87) (ys := [v88.1]) (by kernel_rfl) rfl (eq_TValue_cl _) rfl (eq_TValue_cl _) (fun _ => rfl) (by kernel_rfl) (by kernel_rfl) hv89 (eq_TValue_cl _) (h' := [.row 58 (TValue.cl v89), .dead, .cells 25 [iA 0, sA ByteArray.empty, sA ByteArray.empty, .ro .full 0 [], .ro .full 0 []], .cells 25 (TExpr.cs x1), .cells 101 (TCodes.cs v88.2)]) rfl ?_
              refine R 2 125 [(3, .ptr 1 0), (4, .ptr 2 0)] [.row 58 (TValue.cl v89), .dead, .cells 25 [iA 0, sA ByteArray.empty, sA ByteArray.empty, .ro .full 0 [], .ro .full 0 []], .cells 25 [iA x1.gOp, sA x1.gKind, sA x1.gName, .sl 4 0 v89.length (.whole 4), .ro .unk x1.gKids.length (TExpr.cl x1.gKids)], .cells 101 (TCodes.cs v88.2)] (AOps_done ?_)
              exact Exists.intro (v88.2.glist, v88.2.gat, x1.gOp, x1.gKind, x1.gName, v89, x1.gKids) ⟨⟨n, by omega, H⟩, Norm_trans (Norm_fd (st' := fr 125 [(3, .ptr 1 0), (4, .ptr 2 0)]) (h' := [.row 58 (TValue.cl v89), .dead, .cells 25 [iA 0, sA ByteArray.empty, sA ByteArray.empty, .ro .full 0 [], .ro .full 0 []], .cells 25 [iA x1.gOp, sA x1.gKind, sA x1.gName, .sl 4 0 v89.length (.whole 4), .ro .unk x1.gKids.length (TExpr.cl x1.gKids)], .cells 101 (TCodes.cs v88.2)]) [3, 4] 0 (by kernel_rfl) rfl rfl ⟨(scl_TValue_cl _ _), trivial, ⟨trivial, trivial, trivial, trivial, trivial, trivial⟩, ⟨trivial, trivial, trivial, (sc_sl rfl), (scl_TExpr_cl _ _), trivial⟩, ⟨(scl_cl_u8 _ _), trivial, trivial⟩, trivial⟩ (by refine scL_fr ?_; exact ⟨(sc_ptr rfl), (sc_ptr rfl), trivial⟩)) (Norm_trans (Norm_cfrz (h' := [.row 58 (TValue.cl v89), .dead, .cells 25 [iA 0, sA ByteArray.empty, sA ByteArray.empty, .ro .full 0 [], .ro .full 0 []], .cells 25 [iA x1.gOp, sA x1.gKind, sA x1.gName, .ro .unk v89.length (TValue.cl v89), .ro .unk x1.gKids.length (TExpr.cl x1.gKids)], .cells 101 (TCodes.cs v88.2)]) 1 rfl (FrzL_cons (Frz_sc trivial) (FrzL_cons (Frz_sc trivial) (FrzL_cons (Frz_sc trivial) (FrzL_cons (Frz_row (t := 58) (cs := TValue.cl v89) rfl (scl_TValue_cl _ _)) (FrzL_cons (Frz_sc (scl_TExpr_cl _ _)) (FrzL_nil)))))) rfl rfl) (Norm_fd [3, 4] 2 (by kernel_rfl) rfl rfl ⟨⟨trivial, trivial, trivial, trivial, trivial, trivial⟩, ⟨trivial, trivial, trivial, (scl_TValue_cl _ _), (scl_TExpr_cl _ _), trivial⟩, ⟨(scl_cl_u8 _ _), trivial, trivial⟩, trivial⟩ (by refine scL_fr ?_; exact ⟨(sc_ptr rfl), (sc_ptr rfl), trivial⟩)))⟩
            · refine AWP_reg (Rh 2 125 [(0, .ptr 0 0), (3, .ptr 1 0), (4, .ptr 2 0), (40, iA v79.1), (67, bA (v79.1 == 4))] (AOps_done (CD H (fun hb90 H => ?_) (fun hb90 H => ?_))))
              · refine AWP_region ?_
                refine R 2 125 [(3, .ptr 1 0), (4, .ptr 2 0)] [.cells 25 [iA 0, sA ByteArray.empty, sA ByteArray.empty, .ro .full 0 [], .ro .full 0 []], .cells 25 [iA x1.gOp, sA x1.gKind, sA x1.gName, .ro .full 0 [], .ro .unk x1.gKids.length (TExpr.cl x1.gKids)], .cells 101 (TCodes.cs v79.2)] (AOps_done ?_)
                exact Exists.intro (v79.2.glist, v79.2.gat, x1.gOp, x1.gKind, x1.gName, [], x1.gKids) ⟨⟨n, by omega, H⟩, Norm_trans (Norm_cle (h' := [.cells 25 [iA 0, sA ByteArray.empty, sA ByteArray.empty, .ro .full 0 [], .ro .full 0 []], .cells 25 [iA x1.gOp, sA x1.gKind, sA x1.gName, .ro .unk ([] : List TValue).length (TValue.cl ([] : List TValue)), .ro .unk x1.gKids.length (TExpr.cl x1.gKids)], .cells 101 (TCodes.cs v79.2)]) 1 rfl (leL_cons (AV.le_refl _) (leL_cons (AV.le_refl _) (leL_cons (AV.le_refl _) (leL_cons (AV.le_ro _ _ _) (leL_refl _))))) rfl rfl) (Norm_fd [3, 4] 0 (by kernel_rfl) rfl rfl ⟨⟨trivial, trivial, trivial, trivial, trivial, trivial⟩, ⟨trivial, trivial, trivial, (scl_TValue_cl _ _), (scl_TExpr_cl _ _), trivial⟩, ⟨(scl_cl_u8 _ _), trivial, trivial⟩, trivial⟩ (by refine scL_fr ?_; exact ⟨(sc_ptr rfl), (sc_ptr rfl), trivial⟩))⟩
              · refine AWP_reg (Rh 2 125 [(0, .ptr 0 0), (3, .ptr 1 0), (4, .ptr 2 0), (40, iA v79.1), (70, bA (v79.1 == 5))] (AOps_done (CD H (fun hb91 H => ?_) (fun hb91 H => ?_))))
                · refine AWP_region ?_
                  refine Rh 1 125 [(0, .ptr 0 0), (3, .ptr 1 0), (4, .ptr 2 0), (72, .ptr 0 0)] ?_
                  obtain ⟨v92, hv92, H⟩ := bind_some H
                  refine AOps_call1 (d := (some 73)) (al := [.ptr 0 0, iA 7]) ([.ptr 0 0, iA 7]) (r := iA v92.1) (j := 0) (b' := .cells 101 (TCodes.cs v92.2)) (by kernel_rfl) rfl (s_draw_Codes_Next hv92) (⟨(scl_cl_u8 _ _), trivial, trivial⟩) (⟨(scl_cl_u8 _ _), trivial, trivial⟩) ⟨Nat.zero_lt_one, trivial, trivial⟩ trivial rfl (h' := [.cells 25 [iA 0, sA ByteArray.empty, sA ByteArray.empty, .ro .full 0 [], .ro .full 0 []], .cells 25 (TExpr.cs x1), .cells 101 (TCodes.cs v92.2)]) rfl ?_
                  refine Rh 1 125 [(3, .ptr 1 0), (4, .ptr 2 0), (73, iA v92.1), (74, .ptr 0 0)] ?_
                  obtain ⟨v93, hv93, H⟩ := bind_some H
                  refine AOps_call1 (d := (some 75)) (al := [.ptr 0 0]) ([.ptr 0 0]) (r := iA v93.1) (j := 0) (b' := .cells 101 (TCodes.cs v93.2)) (by kernel_rfl) rfl (s_draw_Codes_Number hv93) (⟨(scl_cl_u8 _ _), trivial, trivial⟩) (⟨(scl_cl_u8 _ _), trivial, trivial⟩) ⟨Nat.zero_lt_one, trivial⟩ trivial rfl (h' := [.cells 25 [iA 0, sA ByteArray.empty, sA ByteArray.empty, .ro .full 0 [], .ro .full 0 []], .cells 25 (TExpr.cs x1), .cells 101 (TCodes.cs v93.2)]) rfl ?_
                  refine Rh 1 125 [(3, .ptr 1 0), (4, .ptr 2 0), (76, .agg [iA v92.1, iA v93.1, sA ByteArray.empty, .ro .full 0 []])] (AOps_bsl2 (d := (some 77)) (m := 1) (cs := [iA v92.1, iA v93.1, sA ByteArray.empty, .ro .full 0 []]) [iA v92.1, iA v93.1, sA ByteArray.empty, .ro .unk ([] : List ByteArray).length (cl_str ([] : List ByteArray))] (by kernel_rfl) ⟨trivial, trivial, trivial, trivial, trivial⟩ (leL_cons (AV.le_refl _) (leL_cons (AV.le_refl _) (leL_cons (AV.le_refl _) (leL_cons (AV.le_ro _ _ _) (leL_refl _))))) rfl ?_)
                  refine R 2 125 [(3, .ptr 1 0), (4, .ptr 2 0)] [.cells 25 [iA 0, sA ByteArray.empty, sA ByteArray.empty, .ro .full 0 [], .ro .full 0 []], .cells 25 [iA x1.gOp, sA x1.gKind, sA x1.gName, .ro .unk ([({ gKind := v92.1, gNumber := v93.1, gText := ByteArray.empty, gList := [] } : TValue)]).length (TValue.cl ([({ gKind := v92.1, gNumber := v93.1, gText := ByteArray.empty, gList := [] } : TValue)])), .ro .unk x1.gKids.length (TExpr.cl x1.gKids)], .cells 101 (TCodes.cs v93.2)] (AOps_done ?_)
                  exact Exists.intro (v93.2.glist, v93.2.gat, x1.gOp, x1.gKind, x1.gName, [({ gKind := v92.1, gNumber := v93.1, gText := ByteArray.empty, gList := [] } : TValue)], x1.gKids) ⟨⟨n, by omega, H⟩, Norm_fd [3, 4] 0 (by kernel_rfl) rfl rfl ⟨⟨trivial, trivial, trivial, trivial, trivial, trivial⟩, ⟨trivial, trivial, trivial, (scl_TValue_cl _ _), (scl_TExpr_cl _ _), trivial⟩, ⟨(scl_cl_u8 _ _), trivial, trivial⟩, trivial⟩ (by refine scL_fr ?_; exact ⟨(sc_ptr rfl), (sc_ptr rfl), trivial⟩)⟩
                · refine AWP_reg (Rh 2 125 [(0, .ptr 0 0), (3, .ptr 1 0), (4, .ptr 2 0), (40, iA v79.1), (79, bA (v79.1 == 6))] (AOps_done (CD H (fun hb94 H => ?_) (fun hb94 H => ?_))))
                  · refine AWP_region ?_
                    refine Rh 2 125 [(0, .ptr 0 0), (3, .ptr 1 0), (4, .ptr 2 0), (82, .ro .unk x1.gKids.length (TExpr.cl x1.gKids))] ?_
                    obtain ⟨v95, hv95, H⟩ := bind_some H
                    refine AOps_append_nilO (d := (some 83)) (c := TExpr.cs) (sz := 5) (bs := 88) (e := 25) (ys := x1.gKids) (by kernel_rfl) rfl (eq_TExpr_cl _) (fun _ => rfl) (by kernel_rfl) (by kernel_rfl) hv95 (eq_TExpr_cl _) ?_
                    refine Rh 1 125 [(3, .ptr 1 0), (4, .ptr 2 0), (83, .sl 3 0 v95.length (.whole 5)), (84, .ptr 0 0)] ?_
                    obtain ⟨v96, hv96, H⟩ := bind_some H
                    refine AOps_call1 (d := (some 85)) (al := [.ptr 0 0]) ([.ptr 0 0]) (r := .agg (TExpr.cs v96.1)) (j := 0) (b' := .cells 101 (TCodes.cs v96.2)) (by kernel_rfl) rfl (s_draw_Codes_Test hG hv96) (⟨(scl_cl_u8 _ _), trivial, trivial⟩) (⟨(scl_cl_u8 _ _), trivial, trivial⟩) ⟨Nat.zero_lt_one, trivial⟩ (sc_TExpr_cs _ _) rfl (h' := [.cells 25 (TExpr.cl v95), .cells 25 [iA 0, sA ByteArray.empty, sA ByteArray.empty, .ro .full 0 [], .ro .full 0 []], .cells 25 (TExpr.cs x1), .cells 101 (TCodes.cs v96.2)]) rfl ?_
                    refine AOps_bsl (d := (some 86)) (m := 1) (cs := [iA v96.1.gOp, sA v96.1.gKind, sA v96.1.gName, .ro .unk v96.1.gValues.length (TValue.cl v96.1.gValues), .ro .unk v96.1.gKids.length (TExpr.cl v96.1.gKids)]) (by kernel_rfl) ⟨trivial, trivial, trivial, (scl_TValue_cl _ _), (scl_TExpr_cl _ _), trivial⟩ ?_
                    refine AOps_cast (d := (some 86)) (v' := .ro .unk ([v96.1]).length (TExpr.cl ([v96.1]))) (congrArg (AV.ro .unk 1) (eq_TExpr_cl ([v96.1])).symm) ?_
                    obtain ⟨v97, hv97, H⟩ := bind_some H
                    refine AOps_appendO (d := (some 87)) (c := TExpr.cs) (sz := 5) (bs := 88) (e := 25) (id := 3) (xs := v95) (ys := [v96.1]) (by kernel_rfl) rfl (eq_TExpr_cl _) rfl (eq_TExpr_cl _) (fun _ => rfl) (by kernel_rfl) (by kernel_rfl) hv97 (eq_TExpr_cl _) (h' := [.cells 25 (TExpr.cl v97), .dead, .cells 25 [iA 0, sA ByteArray.empty, sA ByteArray.empty, .ro .full 0 [], .ro .full 0 []], .cells 25 (TExpr.cs x1), .cells 101 (TCodes.cs v96.2)]) rfl ?_
                    refine R 2 125 [(3, .ptr 1 0), (4, .ptr 2 0)] [.cells 25 (TExpr.cl v97), .dead, .cells 25 [iA 0, sA ByteArray.empty, sA ByteArray.empty, .ro .full 0 [], .ro .full 0 []], .cells 25 [iA x1.gOp, sA x1.gKind, sA x1.gName, .ro .unk x1.gValues.length (TValue.cl x1.gValues), .sl 4 0 v97.length (.whole 5)], .cells 101 (TCodes.cs v96.2)] (AOps_done ?_)
                    exact Exists.intro (v96.2.glist, v96.2.gat, x1.gOp, x1.gKind, x1.gName, x1.gValues, v97) ⟨⟨n, by omega, H⟩, Norm_trans (Norm_fd (st' := fr 125 [(3, .ptr 1 0), (4, .ptr 2 0)]) (h' := [.cells 25 (TExpr.cl v97), .dead, .cells 25 [iA 0, sA ByteArray.empty, sA ByteArray.empty, .ro .full 0 [], .ro .full 0 []], .cells 25 [iA x1.gOp, sA x1.gKind, sA x1.gName, .ro .unk x1.gValues.length (TValue.cl x1.gValues), .sl 4 0 v97.length (.whole 5)], .cells 101 (TCodes.cs v96.2)]) [3, 4] 0 (by kernel_rfl) rfl rfl ⟨(scl_TExpr_cl _ _), trivial, ⟨trivial, trivial, trivial, trivial, trivial, trivial⟩, ⟨trivial, trivial, trivial, (scl_TValue_cl _ _), (sc_sl rfl), trivial⟩, ⟨(scl_cl_u8 _ _), trivial, trivial⟩, trivial⟩ (by refine scL_fr ?_; exact ⟨(sc_ptr rfl), (sc_ptr rfl), trivial⟩)) (Norm_trans (Norm_o2r 4 rfl (h' := [.row 25 (TExpr.cl v97), .dead, .cells 25 [iA 0, sA ByteArray.empty, sA ByteArray.empty, .ro .full 0 [], .ro .full 0 []], .cells 25 [iA x1.gOp, sA x1.gKind, sA x1.gName, .ro .unk x1.gValues.length (TValue.cl x1.gValues), .sl 4 0 v97.length (.whole 5)], .cells 101 (TCodes.cs v96.2)]) rfl) (Norm_trans (Norm_cfrz (h' := [.row 25 (TExpr.cl v97), .dead, .cells 25 [iA 0, sA ByteArray.empty, sA ByteArray.empty, .ro .full 0 [], .ro .full 0 []], .cells 25 [iA x1.gOp, sA x1.gKind, sA x1.gName, .ro .unk x1.gValues.length (TValue.cl x1.gValues), .ro .unk v97.length (TExpr.cl v97)], .cells 101 (TCodes.cs v96.2)]) 1 rfl (FrzL_cons (Frz_sc trivial) (FrzL_cons (Frz_sc trivial) (FrzL_cons (Frz_sc trivial) (FrzL_cons (Frz_sc (scl_TValue_cl _ _)) (FrzL_cons (Frz_row (t := 25) (cs := TExpr.cl v97) rfl (scl_TExpr_cl _ _)) (FrzL_nil)))))) rfl rfl) (Norm_fd [3, 4] 2 (by kernel_rfl) rfl rfl ⟨⟨trivial, trivial, trivial, trivial, trivial, trivial⟩, ⟨trivial, trivial, trivial, (scl_TValue_cl _ _), (scl_TExpr_cl _ _), trivial⟩, ⟨(scl_cl_u8 _ _), trivial, trivial⟩, trivial⟩ (by refine scL_fr ?_; exact ⟨(sc_ptr rfl), (sc_ptr rfl), trivial⟩))))⟩
                  · refine AWP_reg (Rh 2 125 [(0, .ptr 0 0), (3, .ptr 1 0), (4, .ptr 2 0), (40, iA v79.1), (89, bA (v79.1 == 7))] (AOps_done (CD H (fun hb98 H => ?_) (fun hb98 H => ?_))))
                    · refine AWP_reg (Rh 1 125 [(0, .ptr 0 0), (3, .ptr 1 0), (4, .ptr 2 0), (6, iA 0)] (AOps_done (AWP_block ?_)))
                      refine AWP_loopN (α := Int × (List Int) × Int × Int × ByteArray × ByteArray × (List TValue) × (List TExpr)) (fun ⟨v111, v112, v113, v114, v115, v116, v117, v118⟩ => fr 125 [(0, .ptr 0 0), (3, .ptr 1 0), (4, .ptr 2 0), (6, iA v111)]) (fun ⟨v111, v112, v113, v114, v115, v116, v117, v118⟩ => [.cells 25 [iA 0, sA ByteArray.empty, sA ByteArray.empty, .ro .full 0 [], .ro .full 0 []], .cells 25 [iA v114, sA v115, sA v116, .ro .unk v117.length (TValue.cl v117), .ro .unk v118.length (TExpr.cl v118)], .cells 101 [.ro .unk v112.length (cl_u8 v112), iA v113]]) (fun k_ ⟨v111, v112, v113, v114, v115, v116, v117, v118⟩ => k_ ≤ n ∧ p_draw_Codes_Condition_L1 k_  v111 v112 v113 v114 v115 v116 v117 v118 = some r) (fun n a H => ?_) (k := n) (0, v79.2.glist, v79.2.gat, x1.gOp, x1.gKind, x1.gName, x1.gValues, x1.gKids) ⟨Nat.le_refl _, H⟩ (Norm_fd [0, 3, 4, 6] 0 (by kernel_rfl) rfl rfl ⟨⟨trivial, trivial, trivial, trivial, trivial, trivial⟩, ⟨trivial, trivial, trivial, (scl_TValue_cl _ _), (scl_TExpr_cl _ _), trivial⟩, ⟨(scl_cl_u8 _ _), trivial, trivial⟩, trivial⟩ (by refine scL_fr ?_; exact ⟨(sc_ptr rfl), (sc_ptr rfl), (sc_ptr rfl), trivial, trivial⟩))
                      obtain ⟨v111, v112, v113, v114, v115, v116, v117, v118⟩ := a
                      show AWP _ _ _ _ _ (fr 125 [(0, .ptr 0 0), (3, .ptr 1 0), (4, .ptr 2 0), (6, iA v111)]) [.cells 25 [iA 0, sA ByteArray.empty, sA ByteArray.empty, .ro .full 0 [], .ro .full 0 []], .cells 25 [iA v114, sA v115, sA v116, .ro .unk v117.length (TValue.cl v117), .ro .unk v118.length (TExpr.cl v118)], .cells 101 [.ro .unk v112.length (cl_u8 v112), iA v113]]
                      obtain ⟨hb_, H⟩ := H
                      replace H : p_draw_Codes_Condition_L1 n  v111 v112 v113 v114 v115 v116 v117 v118 = some r := H
                      cases n with
                      | zero => exact not_none (by simpa only [p_draw_Codes_Condition_L1] using H)
                      | succ n =>
                        unfold p_draw_Codes_Condition_L1 at H
                        refine AWP_seq (AWP_reg (Rh 2 125 [(0, .ptr 0 0), (3, .ptr 1 0), (4, .ptr 2 0), (6, iA v111), (91, iA v111), (92, .ptr 0 0)] ?_))
                        obtain ⟨v119, hv119, H⟩ := bind_some H
                        refine AOps_call1 (d := (some 93)) (al := [.ptr 0 0, iA 3]) ([.ptr 0 0, iA 3]) (r := iA v119.1) (j := 0) (b' := .cells 101 (TCodes.cs v119.2)) (by kernel_rfl) rfl (s_draw_Codes_Next hv119) (⟨(scl_cl_u8 _ _), trivial, trivial⟩) (⟨(scl_cl_u8 _ _), trivial, trivial⟩) ⟨Nat.zero_lt_one, trivial, trivial⟩ trivial rfl (h' := [.cells 25 [iA 0, sA ByteArray.empty, sA ByteArray.empty, .ro .full 0 [], .ro .full 0 []], .cells 25 [iA v114, sA v115, sA v116, .ro .unk v117.length (TValue.cl v117), .ro .unk v118.length (TExpr.cl v118)], .cells 101 (TCodes.cs v119.2)]) rfl ?_
                        refine Rh 2 125 [(0, .ptr 0 0), (3, .ptr 1 0), (4, .ptr 2 0), (6, iA v111), (95, bA (decide (v111 < (w64 (9 + v119.1)))))] (AOps_done (CD H (fun hb120 H => ?_) (fun hb120 H => ?_)))
                        · refine AWP_skip ?_
                          show AWP _ _ _ _ _ _ _
                          refine AWP_seq (AWP_block ?_)
                          refine AWP_region ?_
                          refine Rh 1 125 [(0, .ptr 0 0), (3, .ptr 1 0), (4, .ptr 2 0), (6, iA v111), (98, .agg [iA v114, sA v115, sA v116, .ro .unk v117.length (TValue.cl v117), .ro .unk v118.length (TExpr.cl v118)])] (AOps_bsl (d := (some 99)) (m := 1) (cs := [iA v114, sA v115, sA v116, .ro .unk v117.length (TValue.cl v117), .ro .unk v118.length (TExpr.cl v118)]) (by kernel_rfl) ⟨trivial, trivial, trivial, (scl_TValue_cl _ _), (scl_TExpr_cl _ _), trivial⟩ ?_)
                          refine AOps_cast (d := (some 99)) (v' := .ro .unk ([(TExpr.mk v114 v115 v116 v117 v118)]).length (TExpr.cl ([(TExpr.mk v114 v115 v116 v117 v118)]))) (congrArg (AV.ro .unk 1) (eq_TExpr_cl ([(TExpr.mk v114 v115 v116 v117 v118)])).symm) ?_
                          refine R 2 125 [(0, .ptr 0 0), (3, .ptr 1 0), (4, .ptr 2 0), (6, iA v111)] [.cells 25 [iA 0, sA ByteArray.empty, sA ByteArray.empty, .ro .full 0 [], .ro .full 0 []], .cells 25 [iA 4, sA ByteArray.empty, sA ByteArray.empty, .ro .full 0 [], .ro .unk ([(TExpr.mk v114 v115 v116 v117 v118)]).length (TExpr.cl ([(TExpr.mk v114 v115 v116 v117 v118)]))], .cells 101 (TCodes.cs v119.2)] (AOps_done ?_)
                          show AWP _ _ _ _ _ _ _
                          refine AWP_region ?_
                          refine Rh 3 125 [(0, .ptr 0 0), (3, .ptr 1 0), (4, .ptr 2 0), (6, iA (w64 (v111 + 1)))] (AOps_done ?_)
                          exact Exists.intro (w64 (v111 + 1), v119.2.glist, v119.2.gat, 4, ByteArray.empty, ByteArray.empty, [], [(TExpr.mk v114 v115 v116 v117 v118)]) (Exists.intro n ⟨by omega, ⟨by omega, H⟩, Norm_trans (Norm_cle (h' := [.cells 25 [iA 0, sA ByteArray.empty, sA ByteArray.empty, .ro .full 0 [], .ro .full 0 []], .cells 25 [iA 4, sA ByteArray.empty, sA ByteArray.empty, .ro .unk ([] : List TValue).length (TValue.cl ([] : List TValue)), .ro .unk ([(TExpr.mk v114 v115 v116 v117 v118)]).length (TExpr.cl ([(TExpr.mk v114 v115 v116 v117 v118)]))], .cells 101 (TCodes.cs v119.2)]) 1 rfl (leL_cons (AV.le_refl _) (leL_cons (AV.le_refl _) (leL_cons (AV.le_refl _) (leL_cons (AV.le_ro _ _ _) (leL_refl _))))) rfl rfl) (Norm_fd [0, 3, 4, 6] 0 (by kernel_rfl) rfl rfl ⟨⟨trivial, trivial, trivial, trivial, trivial, trivial⟩, ⟨trivial, trivial, trivial, (scl_TValue_cl _ _), (scl_TExpr_cl _ _), trivial⟩, ⟨(scl_cl_u8 _ _), trivial, trivial⟩, trivial⟩ (by refine scL_fr ?_; exact ⟨(sc_ptr rfl), (sc_ptr rfl), (sc_ptr rfl), trivial, trivial⟩))⟩)
                        · refine AWP_exit ?_
                          exact Exists.intro (v119.2.glist, v119.2.gat, v114, v115, v116, v117, v118) ⟨⟨n, by omega, H⟩, Norm_fd [3, 4] 0 (by kernel_rfl) rfl rfl ⟨⟨trivial, trivial, trivial, trivial, trivial, trivial⟩, ⟨trivial, trivial, trivial, (scl_TValue_cl _ _), (scl_TExpr_cl _ _), trivial⟩, ⟨(scl_cl_u8 _ _), trivial, trivial⟩, trivial⟩ (by refine scL_fr ?_; exact ⟨(sc_ptr rfl), (sc_ptr rfl), trivial⟩)⟩
                    · refine AWP_reg (Rh 2 125 [(0, .ptr 0 0), (3, .ptr 1 0), (4, .ptr 2 0), (40, iA v79.1), (101, bA (v79.1 == 8))] (AOps_done (CD H (fun hb121 H => ?_) (fun hb121 H => ?_))))
                      · refine AWP_reg (R 3 125 [(0, .ptr 0 0), (3, .ptr 1 0), (4, .ptr 2 0), (7, .ptr 3 0)] [.cells 25 (TExpr.cs x1), .cells 25 [iA 0, sA ByteArray.empty, sA ByteArray.empty, .ro .full 0 [], .ro .full 0 []], .cells 25 (TExpr.cs x1), .cells 101 (TCodes.cs v79.2)] (AOps_done (AWP_seq (AWP_reg (Rh 1 125 [(0, .ptr 0 0), (3, .ptr 1 0), (4, .ptr 2 0), (7, .ptr 3 0), (8, iA 0)] (AOps_done (AWP_block ?_)))))))
                        refine AWP_loopN (α := Int × (List Int) × Int × (List TExpr)) (fun ⟨v133, v134, v135, v136⟩ => fr 125 [(0, .ptr 0 0), (3, .ptr 1 0), (4, .ptr 2 0), (7, .ptr 3 0), (8, iA v133)]) (fun ⟨v133, v134, v135, v136⟩ => [.cells 25 [iA x1.gOp, sA x1.gKind, sA x1.gName, .ro .unk x1.gValues.length (TValue.cl x1.gValues), .ro .unk v136.length (TExpr.cl v136)], .cells 25 [iA 0, sA ByteArray.empty, sA ByteArray.empty, .ro .full 0 [], .ro .full 0 []], .cells 25 (TExpr.cs x1), .cells 101 [.ro .unk v134.length (cl_u8 v134), iA v135]]) (fun k_ ⟨v133, v134, v135, v136⟩ => k_ ≤ n ∧ p_draw_Codes_Condition_L2 k_ x1 v133 v134 v135 v136 = some r) (fun n a H => ?_) (k := n) (0, v79.2.glist, v79.2.gat, x1.gKids) ⟨Nat.le_refl _, H⟩ (Norm_fd [0, 3, 4, 7, 8] 0 (by kernel_rfl) rfl rfl ⟨⟨trivial, trivial, trivial, (scl_TValue_cl _ _), (scl_TExpr_cl _ _), trivial⟩, ⟨trivial, trivial, trivial, trivial, trivial, trivial⟩, (sc_TExpr_cs _ _), ⟨(scl_cl_u8 _ _), trivial, trivial⟩, trivial⟩ (by refine scL_fr ?_; exact ⟨(sc_ptr rfl), (sc_ptr rfl), (sc_ptr rfl), (sc_ptr rfl), trivial, trivial⟩))
                        obtain ⟨v133, v134, v135, v136⟩ := a
                        show AWP _ _ _ _ _ (fr 125 [(0, .ptr 0 0), (3, .ptr 1 0), (4, .ptr 2 0), (7, .ptr 3 0), (8, iA v133)]) [.cells 25 [iA x1.gOp, sA x1.gKind, sA x1.gName, .ro .unk x1.gValues.length (TValue.cl x1.gValues), .ro .unk v136.length (TExpr.cl v136)], .cells 25 [iA 0, sA ByteArray.empty, sA ByteArray.empty, .ro .full 0 [], .ro .full 0 []], .cells 25 (TExpr.cs x1), .cells 101 [.ro .unk v134.length (cl_u8 v134), iA v135]]
                        obtain ⟨hb_, H⟩ := H
                        replace H : p_draw_Codes_Condition_L2 n x1 v133 v134 v135 v136 = some r := H
                        cases n with
                        | zero => exact not_none (by simpa only [p_draw_Codes_Condition_L2] using H)
                        | succ n =>
                          unfold p_draw_Codes_Condition_L2 at H
                          refine AWP_seq (AWP_reg (Rh 2 125 [(0, .ptr 0 0), (3, .ptr 1 0), (4, .ptr 2 0), (7, .ptr 3 0), (8, iA v133), (105, bA (decide (v133 < 11)))] (AOps_done (CD H (fun hb137 H => ?_) (fun hb137 H => ?_)))))
                          · refine AWP_skip ?_
                            show AWP _ _ _ _ _ _ _
                            refine AWP_seq (AWP_block ?_)
                            refine AWP_region ?_
                            refine Rh 2 125 [(0, .ptr 0 0), (3, .ptr 1 0), (4, .ptr 2 0), (7, .ptr 3 0), (8, iA v133), (109, .ro .unk v136.length (TExpr.cl v136))] ?_
                            obtain ⟨v138, hv138, H⟩ := bind_some H
                            refine AOps_append_nilO (d := (some 110)) (c := TExpr.cs) (sz := 5) (bs := 88) (e := 25) (ys := v136) (by kernel_rfl) rfl (eq_TExpr_cl _) (fun _ => rfl) (by kernel_rfl) (by kernel_rfl) hv138 (eq_TExpr_cl _) ?_
                            refine Rh 1 125 [(0, .ptr 0 0), (3, .ptr 1 0), (4, .ptr 2 0), (7, .ptr 3 0), (8, iA v133), (110, .sl 4 0 v138.length (.whole 5)), (111, .ptr 0 0)] ?_
                            obtain ⟨v139, hv139, H⟩ := bind_some H
                            refine AOps_call1 (d := (some 112)) (al := [.ptr 0 0]) ([.ptr 0 0]) (r := .agg (TExpr.cs v139.1)) (j := 0) (b' := .cells 101 (TCodes.cs v139.2)) (by kernel_rfl) rfl (s_draw_Codes_Test hG hv139) (⟨(scl_cl_u8 _ _), trivial, trivial⟩) (⟨(scl_cl_u8 _ _), trivial, trivial⟩) ⟨Nat.zero_lt_one, trivial⟩ (sc_TExpr_cs _ _) rfl (h' := [.cells 25 (TExpr.cl v138), .cells 25 [iA x1.gOp, sA x1.gKind, sA x1.gName, .ro .unk x1.gValues.length (TValue.cl x1.gValues), .ro .unk v136.length (TExpr.cl v136)], .cells 25 [iA 0, sA ByteArray.empty, sA ByteArray.empty, .ro .full 0 [], .ro .full 0 []], .cells 25 (TExpr.cs x1), .cells 101 (TCodes.cs v139.2)]) rfl ?_
                            refine AOps_bsl (d := (some 113)) (m := 1) (cs := [iA v139.1.gOp, sA v139.1.gKind, sA v139.1.gName, .ro .unk v139.1.gValues.length (TValue.cl v139.1.gValues), .ro .unk v139.1.gKids.length (TExpr.cl v139.1.gKids)]) (by kernel_rfl) ⟨trivial, trivial, trivial, (scl_TValue_cl _ _), (scl_TExpr_cl _ _), trivial⟩ ?_
                            refine AOps_cast (d := (some 113)) (v' := .ro .unk ([v139.1]).length (TExpr.cl ([v139.1]))) (congrArg (AV.ro .unk 1) (eq_TExpr_cl ([v139.1])).symm) ?_
                            obtain ⟨v140, hv140, H⟩ := bind_some H
                            refine AOps_appendO (d := (some 114)) (c := TExpr.cs) (sz := 5) (bs := 88) (e := 25) (id := 4) (xs := v138) (ys := [v139.1]) (by kernel_rfl) rfl (eq_TExpr_cl _) rfl (eq_TExpr_cl _) (fun _ => rfl) (by kernel_rfl) (by kernel_rfl) hv140 (eq_TExpr_cl _) (h' := [.cells 25 (TExpr.cl v140), .dead, .cells 25 [iA x1.gOp, sA x1.gKind, sA x1.gName, .ro .unk x1.gValues.length (TValue.cl x1.gValues), .ro .unk v136.length (TExpr.cl v136)], .cells 25 [iA 0, sA ByteArray.empty, sA ByteArray.empty, .ro .full 0 [], .ro .full 0 []], .cells 25 (TExpr.cs x1), .cells 101 (TCodes.cs v139.2)]) rfl ?_
                            refine R 2 125 [(0, .ptr 0 0), (3, .ptr 1 0), (4, .ptr 2 0), (7, .ptr 3 0), (8, iA v133)] [.cells 25 (TExpr.cl v140), .dead, .cells 25 [iA x1.gOp, sA x1.gKind, sA x1.gName, .ro .unk x1.gValues.length (TValue.cl x1.gValues), .sl 5 0 v140.length (.whole 5)], .cells 25 [iA 0, sA ByteArray.empty, sA ByteArray.empty, .ro .full 0 [], .ro .full 0 []], .cells 25 (TExpr.cs x1), .cells 101 (TCodes.cs v139.2)] (AOps_done ?_)
                            show AWP _ _ _ _ _ _ _
                            refine AWP_region ?_
                            refine Rh 3 125 [(0, .ptr 0 0), (3, .ptr 1 0), (4, .ptr 2 0), (7, .ptr 3 0), (8, iA (w64 (v133 + 1)))] (AOps_done ?_)
                            exact Exists.intro (w64 (v133 + 1), v139.2.glist, v139.2.gat, v140) (Exists.intro n ⟨by omega, ⟨by omega, H⟩, Norm_trans (Norm_fd (st' := fr 125 [(0, .ptr 0 0), (3, .ptr 1 0), (4, .ptr 2 0), (7, .ptr 3 0), (8, iA (w64 (v133 + 1)))]) (h' := [.cells 25 (TExpr.cl v140), .dead, .cells 25 [iA x1.gOp, sA x1.gKind, sA x1.gName, .ro .unk x1.gValues.length (TValue.cl x1.gValues), .sl 5 0 v140.length (.whole 5)], .cells 25 [iA 0, sA ByteArray.empty, sA ByteArray.empty, .ro .full 0 [], .ro .full 0 []], .cells 25 (TExpr.cs x1), .cells 101 (TCodes.cs v139.2)]) [0, 3, 4, 7, 8] 0 (by kernel_rfl) rfl rfl ⟨(scl_TExpr_cl _ _), trivial, ⟨trivial, trivial, trivial, (scl_TValue_cl _ _), (sc_sl rfl), trivial⟩, ⟨trivial, trivial, trivial, trivial, trivial, trivial⟩, (sc_TExpr_cs _ _), ⟨(scl_cl_u8 _ _), trivial, trivial⟩, trivial⟩ (by refine scL_fr ?_; exact ⟨(sc_ptr rfl), (sc_ptr rfl), (sc_ptr rfl), (sc_ptr rfl), trivial, trivial⟩)) (Norm_trans (Norm_o2r 5 rfl (h' := [.row 25 (TExpr.cl v140), .dead, .cells 25 [iA x1.gOp, sA x1.gKind, sA x1.gName, .ro .unk x1.gValues.length (TValue.cl x1.gValues), .sl 5 0 v140.length (.whole 5)], .cells 25 [iA 0, sA ByteArray.empty, sA ByteArray.empty, .ro .full 0 [], .ro .full 0 []], .cells 25 (TExpr.cs x1), .cells 101 (TCodes.cs v139.2)]) rfl) (Norm_trans (Norm_cfrz (h' := [.row 25 (TExpr.cl v140), .dead, .cells 25 [iA x1.gOp, sA x1.gKind, sA x1.gName, .ro .unk x1.gValues.length (TValue.cl x1.gValues), .ro .unk v140.length (TExpr.cl v140)], .cells 25 [iA 0, sA ByteArray.empty, sA ByteArray.empty, .ro .full 0 [], .ro .full 0 []], .cells 25 (TExpr.cs x1), .cells 101 (TCodes.cs v139.2)]) 3 rfl (FrzL_cons (Frz_sc trivial) (FrzL_cons (Frz_sc trivial) (FrzL_cons (Frz_sc trivial) (FrzL_cons (Frz_sc (scl_TValue_cl _ _)) (FrzL_cons (Frz_row (t := 25) (cs := TExpr.cl v140) rfl (scl_TExpr_cl _ _)) (FrzL_nil)))))) rfl rfl) (Norm_fd [0, 3, 4, 7, 8] 2 (by kernel_rfl) rfl rfl ⟨⟨trivial, trivial, trivial, (scl_TValue_cl _ _), (scl_TExpr_cl _ _), trivial⟩, ⟨trivial, trivial, trivial, trivial, trivial, trivial⟩, (sc_TExpr_cs _ _), ⟨(scl_cl_u8 _ _), trivial, trivial⟩, trivial⟩ (by refine scL_fr ?_; exact ⟨(sc_ptr rfl), (sc_ptr rfl), (sc_ptr rfl), (sc_ptr rfl), trivial, trivial⟩))))⟩)
                          · refine AWP_exit ?_
                            show AWP _ _ _ _ _ _ _
                            refine AWP_region ?_
                            refine R 2 125 [(3, .ptr 1 0), (4, .ptr 2 0)] [.cells 25 [iA x1.gOp, sA x1.gKind, sA x1.gName, .ro .unk x1.gValues.length (TValue.cl x1.gValues), .ro .unk v136.length (TExpr.cl v136)], .cells 25 [iA 0, sA ByteArray.empty, sA ByteArray.empty, .ro .full 0 [], .ro .full 0 []], .cells 25 [iA x1.gOp, sA x1.gKind, sA x1.gName, .ro .unk x1.gValues.length (TValue.cl x1.gValues), .ro .unk v136.length (TExpr.cl v136)], .cells 101 [.ro .unk v134.length (cl_u8 v134), iA v135]] (AOps_done ?_)
                            exact Exists.intro (v134, v135, x1.gOp, x1.gKind, x1.gName, x1.gValues, v136) ⟨⟨n, by omega, H⟩, Norm_fd [3, 4] 1 (by kernel_rfl) rfl rfl ⟨⟨trivial, trivial, trivial, trivial, trivial, trivial⟩, ⟨trivial, trivial, trivial, (scl_TValue_cl _ _), (scl_TExpr_cl _ _), trivial⟩, ⟨(scl_cl_u8 _ _), trivial, trivial⟩, trivial⟩ (by refine scL_fr ?_; exact ⟨(sc_ptr rfl), (sc_ptr rfl), trivial⟩)⟩
                      · refine AWP_reg (Rh 2 125 [(0, .ptr 0 0), (3, .ptr 1 0), (4, .ptr 2 0), (117, bA (v79.1 == 9))] (AOps_done (CD H (fun hb141 H => ?_) (fun hb141 H => ?_))))
                        · obtain ⟨v142, hv142, H⟩ := bind_some H
                          refine AWP_regE1 [0, 1, 2, 3, 4, 5] (N := 125) (f := [(0, .ptr 0 0), (3, .ptr 1 0), (4, .ptr 2 0)]) (leL_of [0, 3, 4] (by kernel_rfl)) mixed (by kernel_rfl) (by kernel_rfl) (st' := fr 125 [(3, .ptr 1 0), (4, .ptr 2 0)]) (h' := [.cells 25 [iA 0, sA ByteArray.empty, sA ByteArray.empty, .ro .full 0 [], .ro .full 0 []], .cells 25 [iA 2, sA ByteArray.empty, sA ByteArray.empty, .ro .full 0 [], .ro .unk ([x1, v142.1]).length (TExpr.cl ([x1, v142.1]))], .cells 101 (TCodes.cs v142.2)]) ?_ ?_
                          rotate_left
                          · refine RD 2 125 [(0, 1)] [(0, .ptr 0 0), (3, .ptr 1 0), (4, .ptr 2 0), (119, .agg (TExpr.cs x1)), (120, .ptr 0 0)] (AD_call1 (d := (some 121)) (al := [.ptr 0 0]) ([.ptr 0 0]) (r := .agg (TExpr.cs v142.1)) (j := 0) (b' := .cells 101 (TCodes.cs v142.2)) (by kernel_rfl) rfl (s_draw_Codes_Test hG hv142) (⟨(scl_cl_u8 _ _), trivial, trivial⟩) (⟨(scl_cl_u8 _ _), trivial, trivial⟩) ⟨Nat.zero_lt_one, trivial⟩ (sc_TExpr_cs _ _) rfl (h' := [.cells 25 [iA 0, sA ByteArray.empty, sA ByteArray.empty, .ro .full 0 [], .ro .full 0 []], .cells 25 (TExpr.cs x1), .cells 101 (TCodes.cs v142.2)]) rfl ?_)
                            refine AD_bsl (d := (some 122)) (m := 2) (cs := [iA x1.gOp, sA x1.gKind, sA x1.gName, .ro .unk x1.gValues.length (TValue.cl x1.gValues), .ro .unk x1.gKids.length (TExpr.cl x1.gKids), iA v142.1.gOp, sA v142.1.gKind, sA v142.1.gName, .ro .unk v142.1.gValues.length (TValue.cl v142.1.gValues), .ro .unk v142.1.gKids.length (TExpr.cl v142.1.gKids)]) (by kernel_rfl) ⟨trivial, trivial, trivial, (scl_TValue_cl _ _), (scl_TExpr_cl _ _), trivial, trivial, trivial, (scl_TValue_cl _ _), (scl_TExpr_cl _ _), trivial⟩ ?_
                            refine AD_cast (d := (some 122)) (v' := .ro .unk ([x1, v142.1]).length (TExpr.cl ([x1, v142.1]))) (congrArg (AV.ro .unk 2) (eq_TExpr_cl ([x1, v142.1])).symm) ?_
                            refine RD 1 125 [(0, 1)] [(0, .ptr 0 0), (3, .ptr 1 0), (4, .ptr 2 0), (119, .agg (TExpr.cs x1)), (120, .ptr 0 0), (121, .agg (TExpr.cs v142.1)), (122, .ro .unk ([x1, v142.1]).length (TExpr.cl ([x1, v142.1]))), (123, .agg [iA 2, sA ByteArray.empty, sA ByteArray.empty, .ro .full 0 [], .ro .unk ([x1, v142.1]).length (TExpr.cl ([x1, v142.1]))])] (AD_store (d := none) (id := 1) (h' := [.cells 25 [iA 0, sA ByteArray.empty, sA ByteArray.empty, .ro .full 0 [], .ro .full 0 []], .cells 25 [iA 2, sA ByteArray.empty, sA ByteArray.empty, .ro .full 0 [], .ro .unk ([x1, v142.1]).length (TExpr.cl ([x1, v142.1]))], .cells 101 (TCodes.cs v142.2)]) (by kernel_rfl) (by kernel_rfl) ?_)
                            exact AD_here [3, 4] (by kernel_rfl) rfl
                          exact Exists.intro (v142.2.glist, v142.2.gat, 2, ByteArray.empty, ByteArray.empty, [], [x1, v142.1]) ⟨⟨n, by omega, H⟩, Norm_trans (Norm_cle (h' := [.cells 25 [iA 0, sA ByteArray.empty, sA ByteArray.empty, .ro .full 0 [], .ro .full 0 []], .cells 25 [iA 2, sA ByteArray.empty, sA ByteArray.empty, .ro .unk ([] : List TValue).length (TValue.cl ([] : List TValue)), .ro .unk ([x1, v142.1]).length (TExpr.cl ([x1, v142.1]))], .cells 101 (TCodes.cs v142.2)]) 1 rfl (leL_cons (AV.le_refl _) (leL_cons (AV.le_refl _) (leL_cons (AV.le_refl _) (leL_cons (AV.le_ro _ _ _) (leL_refl _))))) rfl rfl) (Norm_fd [3, 4] 0 (by kernel_rfl) rfl rfl ⟨⟨trivial, trivial, trivial, trivial, trivial, trivial⟩, ⟨trivial, trivial, trivial, (scl_TValue_cl _ _), (scl_TExpr_cl _ _), trivial⟩, ⟨(scl_cl_u8 _ _), trivial, trivial⟩, trivial⟩ (by refine scL_fr ?_; exact ⟨(sc_ptr rfl), (sc_ptr rfl), trivial⟩))⟩
                        · refine AWP_skip ?_
                          exact Exists.intro (v79.2.glist, v79.2.gat, x1.gOp, x1.gKind, x1.gName, x1.gValues, x1.gKids) ⟨⟨n, by omega, H⟩, Norm_fd [3, 4] 0 (by kernel_rfl) rfl rfl ⟨⟨trivial, trivial, trivial, trivial, trivial, trivial⟩, ⟨trivial, trivial, trivial, (scl_TValue_cl _ _), (scl_TExpr_cl _ _), trivial⟩, ⟨(scl_cl_u8 _ _), trivial, trivial⟩, trivial⟩ (by refine scL_fr ?_; exact ⟨(sc_ptr rfl), (sc_ptr rfl), trivial⟩)⟩
theorem s_all_draw_Codes_Condition (hG : GlobD E) : ∀ n : Nat, (∀ {x0 : TCodes}, ∀ {x1 : TExpr}, ∀ {r : TExpr × TCodes}, p_draw_Codes_Condition n x0 x1 = some r → Sp Tryz.prog E 14 [.ptr 0 0, .agg (TExpr.cs x1)] [.cells 101 (TCodes.cs x0)] (isA (.agg (TExpr.cs r.1)) [.cells 101 (TCodes.cs r.2)])) := by
  intro n
  induction n with
  | zero => exact fun H => not_none (by simpa only [p_draw_Codes_Condition] using H)
  | succ n ih => exact fun H => s_draw_Codes_Condition_F hG ih (by simpa only [p_draw_Codes_Condition] using H)
theorem s_draw_Codes_Condition {n : Nat} (hG : GlobD E) {x0 : TCodes} {x1 : TExpr} {r : TExpr × TCodes} (H : p_draw_Codes_Condition n x0 x1 = some r) :
    Sp Tryz.prog E 14 [.ptr 0 0, .agg (TExpr.cs x1)] [.cells 101 (TCodes.cs x0)] (isA (.agg (TExpr.cs r.1)) [.cells 101 (TCodes.cs r.2)]) := (s_all_draw_Codes_Condition hG n) H
end Go.Proofs.YtjhbobacbaikoaaGreatDoor
/- A condition in which something was changed is of bounded size. -/
namespace Go.Proofs.YtjhbobacbaikoaaGreatDoor
open Go
set_option linter.unusedVariables false
set_option linter.unusedSimpArgs false
set_option maxRecDepth 100000
theorem bd_kids {B : Nat} {x k : TExpr} (h : x.bd B) (hk : k ∈ x.gKids) : k.bd B := (TExpr.bd_iff.1 h).2.2.2.2.2 k hk
theorem dep_kids {x k : TExpr} (hk : k ∈ x.gKids) : k.dep < x.dep := by
  have key : ∀ {l : List TExpr}, k ∈ l → k.dep ≤ TExpr.depL l := by
    intro l
    induction l with
    | nil => intro h; cases h
    | cons y l ih =>
      intro h
      rw [TExpr.depL]
      rcases List.mem_cons.1 h with rfl | h
      · omega
      · have := ih h; omega
  cases x with
  | mk op a b vs ks =>
    have := key (show k ∈ ks from hk)
    rw [TExpr.dep]; omega
theorem cond_K1 {B : Nat} {l : List Int} {a : Int} (hc : ({ glist := l, gat := a } : TCodes).cok) {x : TExpr} (hx : x.bd B) : Gv (fun n => p_draw_Codes_Condition_K1 n l a x.gOp x.gKind x.gName x.gValues x.gKids) fun r => r.1.bd B ∧ r.2.cok := by
  unfold p_draw_Codes_Condition_K1
  have e : TExpr.mk x.gOp x.gKind x.gName x.gValues x.gKids = x := by cases x; rfl
  rw [e]
  exact Gv.pure ⟨hx, hc⟩
theorem bd_mk {B : Nat} {op : Int} {k nm : ByteArray} {vs : List TValue} {ks : List TExpr} (hk : k.size ≤ 100) (hn : nm.size ≤ 100) (hv : vs.length ≤ B) (hvb : ∀ v ∈ vs, v.bd) (hl : ks.length ≤ B) (h : ∀ x ∈ ks, x.bd B) : (TExpr.mk op k nm vs ks).bd B :=
  TExpr.bd_iff.2 ⟨hk, hn, hv, hvb, hl, h⟩
theorem cond_L1 {B : Nat} (hB : 12 ≤ B) : ∀ (q i : Nat) (c : TCodes) (x : TExpr), i + q = 12 → c.cok → x.bd B →
    Gv (fun n => p_draw_Codes_Condition_L1 n i c.glist c.gat x.gOp x.gKind x.gName x.gValues x.gKids) fun r => r.1.bd B ∧ r.2.cok := by
  intro q
  induction q with
  | zero =>
    intro i c x hi hc hx
    refine Gv.succ ?_
    simp only [p_draw_Codes_Condition_L1]
    refine Gv.bind (next_gv hc (k := 3) (by decide) (by decide)) fun r hr => ?_
    rw [w64_of (show -9223372036854775808 ≤ 9 + r.1 by omega) (by omega)]
    refine Gv.cond (fun h => ?_) fun h => cond_K1 hr.2.2 hx
    have h := of_decide_eq_true h
    omega
  | succ q ih =>
    intro i c x hi hc hx
    refine Gv.succ ?_
    simp only [p_draw_Codes_Condition_L1]
    refine Gv.bind (next_gv hc (k := 3) (by decide) (by decide)) fun r hr => ?_
    refine Gv.cond (fun h => ?_) fun h => cond_K1 hr.2.2 hx
    rw [w64_add (by omega)]
    have e : TExpr.mk x.gOp x.gKind x.gName x.gValues x.gKids = x := by cases x; rfl
    rw [e]
    exact ih (i + 1) r.2 (.mk 4 ByteArray.empty ByteArray.empty [] [x]) (by omega) hr.2.2 (bd_mk (by decide) (by decide) (by simp) (fun v hv => by cases hv) (by simp; omega) fun y hy => by
      obtain rfl : y = x := by simpa using hy
      exact hx)
theorem cond_L2 {B : Nat} (h20 : 20 ≤ B) (hB : B ≤ 10000) {x : TExpr} (hx : x.bd B) : ∀ (q i : Nat) (c : TCodes) (l : List TExpr), i + q = 11 → c.cok → l.length ≤ B + i → (∀ y ∈ l, y.bd (B + 12)) →
    Gv (fun n => p_draw_Codes_Condition_L2 n x i c.glist c.gat l) fun r => r.1.bd (B + 12) ∧ r.2.cok := by
  have hx' := TExpr.bd_iff.1 (TExpr.bd_le (show B ≤ B + 12 by omega) x hx)
  intro q
  induction q with
  | zero =>
    intro i c l hi hc hl hy
    refine Gv.succ ?_
    simp only [p_draw_Codes_Condition_L2]
    rw [decide_eq_false (show ¬ (i : Int) < 11 by omega)]
    exact cond_K1 (x := .mk x.gOp x.gKind x.gName x.gValues l) hc (bd_mk hx'.1 hx'.2.1 hx'.2.2.1 hx'.2.2.2.1 (by omega) hy)
  | succ q ih =>
    intro i c l hi hc hl hy
    refine Gv.succ ?_
    simp only [p_draw_Codes_Condition_L2]
    rw [decide_eq_true (show (i : Int) < 11 by omega)]
    simp only [cond_true]
    refine Gv.bind (Gv.app (Q := fun m => m = l) (by simp; omega) (by decide) (by simp)) ?_
    rintro m rfl
    refine Gv.bind (test_gv hc) fun t ht => ?_
    refine Gv.bind (Gv.app (Q := fun k => k = m ++ [t.1]) (by simp; omega) (by decide) rfl) ?_
    rintro k rfl
    rw [w64_add (by omega)]
    refine ih (i + 1) t.2 _ (by omega) ht.2 (by simp; omega) fun y hym => ?_
    rcases List.mem_append.1 hym with hym | hym
    · exact hy y hym
    · obtain rfl : y = t.1 := by simpa using hym
      exact TExpr.bd_le (by omega) _ (testG_bd ht.1)
theorem set_bd {B : Nat} {l : List TExpr} {j : Nat} {y : TExpr} (hl : ∀ x ∈ l, x.bd B) (hy : y.bd B) : ∀ x ∈ l.set j y, x.bd B := by
  intro x hx
  rcases List.mem_or_eq_of_mem_set hx with h | rfl
  · exact hl x h
  · exact hy
theorem cond_gv {B : Nat} (h20 : 20 ≤ B) (hB : B ≤ 10000) : ∀ (D : Nat) (x : TExpr) (c : TCodes), x.dep ≤ D → x.bd B → c.cok → Gv (fun n => p_draw_Codes_Condition n c x) fun r => r.1.bd (B + 12) ∧ r.2.cok := by
  intro D
  induction D with
  | zero =>
    intro x c hd
    cases x with
    | mk op a b vs ks => rw [TExpr.dep] at hd; omega
  | succ D ih =>
    intro x c hd hx hc
    have hx1 := TExpr.bd_iff.1 hx
    have hxB := TExpr.bd_le (show B ≤ B + 12 by omega) x hx
    have hx2 := TExpr.bd_iff.1 hxB
    refine Gv.succ ?_
    simp only [p_draw_Codes_Condition]
    unfold p_draw_Codes_Condition_F
    refine Gv.bind (Q := fun r => 0 ≤ r.1 ∧ r.2.cok) ?_ fun v1 h1 => ?_
    · refine Gv.cond (fun _ => (next_gv hc (k := 3) (by decide) (by decide)).mono fun r hr => ⟨hr.1, hr.2.2⟩) fun _ => Gv.pure ⟨Int.le_refl _, hc⟩
    refine Gv.cond (fun h => ?_) fun _ => ?_
    · have hk : lI x.gKids > 0 := of_decide_eq_true (Bool.and_eq_true_iff.1 h).1
      unfold lI at hk
      refine Gv.bind (Gv.app (Q := fun m => m = x.gKids) (by simp; omega) (by decide) (by simp)) ?_
      rintro m rfl
      refine Gv.bind (next_gv h1.2 (k := lI x.gKids) (by unfold lI; omega) (by unfold lI; omega)) fun v4 h4 => ?_
      refine Gv.bind (Gv.rd (Q := fun y => y ∈ x.gKids) h4.1 h4.2.1 fun y hy => hy) fun y hy => ?_
      refine Gv.bind (ih y v4.2 (by have := dep_kids hy; omega) (bd_kids hx hy) h4.2.2) fun v6 h6 => ?_
      refine Gv.bind (Gv.rd (Q := fun y => True) h4.1 h4.2.1 fun y hy => trivial) fun y _ => ?_
      exact Gv.pure ⟨bd_mk hx2.1 hx2.2.1 hx2.2.2.1 hx2.2.2.2.1 (by rw [List.length_set]; exact hx2.2.2.2.2.1) (set_bd hx2.2.2.2.2.2 h6.1), h6.2⟩
    refine Gv.bind (next_gv h1.2 (k := 10) (by decide) (by decide)) fun v h => ?_
    have hc := h.2.2
    have val : ∀ {k nm : ByteArray} {vs : List TValue} {ks : List TExpr} {op : Int} {c' : TCodes}, c'.cok → k.size ≤ 100 → nm.size ≤ 100 → vs.length ≤ B + 12 → (∀ v ∈ vs, v.bd) → ks.length ≤ B + 12 → (∀ y ∈ ks, y.bd (B + 12)) →
        Gv (fun n => p_draw_Codes_Condition_K1 n c'.glist c'.gat op k nm vs ks) fun r => r.1.bd (B + 12) ∧ r.2.cok := fun hc' a1 a2 a3 a4 a5 a6 => cond_K1 (x := .mk _ _ _ _ _) hc' (bd_mk a1 a2 a3 a4 a5 a6)
    refine Gv.cond (fun _ => ?_) fun _ => Gv.cond (fun _ => ?_) fun _ => Gv.cond (fun _ => ?_) fun _ => Gv.cond (fun _ => ?_) fun _ => Gv.cond (fun _ => ?_) fun _ => Gv.cond (fun _ => ?_) fun _ => Gv.cond (fun _ => ?_) fun _ => Gv.cond (fun _ => ?_) fun _ => Gv.cond (fun _ => ?_) fun _ => Gv.cond (fun _ => ?_) fun _ => ?_
    · exact Gv.bind (next_gv hc (k := 18) (by decide) (by decide)) fun s hs => val hs.2.2 hx2.1 hx2.2.1 hx2.2.2.1 hx2.2.2.2.1 hx2.2.2.2.2.1 hx2.2.2.2.2.2
    · exact Gv.bind (name_gv hc) fun s hs => val hs.2 (by have := hs.1; omega) hx2.2.1 hx2.2.2.1 hx2.2.2.2.1 hx2.2.2.2.2.1 hx2.2.2.2.2.2
    · exact Gv.bind (name_gv hc) fun s hs => val hs.2 hx2.1 (by have := hs.1; omega) hx2.2.2.1 hx2.2.2.2.1 hx2.2.2.2.2.1 hx2.2.2.2.2.2
    · refine Gv.bind (Gv.app (Q := fun m => m = x.gValues) (by simp; omega) (by decide) (by simp)) ?_
      rintro m rfl
      refine Gv.bind (any_gv hc) fun t ht => ?_
      refine Gv.bind (Gv.app (Q := fun k => k = x.gValues ++ [t.1]) (by simp; omega) (by decide) rfl) ?_
      rintro k rfl
      refine val ht.2 hx2.1 hx2.2.1 (by simp; omega) (fun w hw => ?_) hx2.2.2.2.2.1 hx2.2.2.2.2.2
      rcases List.mem_append.1 hw with hw | hw
      · exact hx2.2.2.2.1 w hw
      · obtain rfl : w = t.1 := by simpa using hw
        exact good_bd _ (good_of ht.1)
    · exact val hc hx2.1 hx2.2.1 (by simp) (fun v hv => by cases hv) hx2.2.2.2.2.1 hx2.2.2.2.2.2
    · refine Gv.bind (next_gv hc (k := 7) (by decide) (by decide)) fun s hs => Gv.bind (number_gv hs.2.2) fun t ht => val ht hx2.1 hx2.2.1 (by simp) (fun w hw => ?_) hx2.2.2.2.2.1 hx2.2.2.2.2.2
      have hw := List.mem_singleton.1 hw
      rw [hw]
      exact ⟨(by show 0 ≤ 100; decide), (by show 0 ≤ 100; decide), fun s hs => by cases hs⟩
    · refine Gv.bind (Gv.app (Q := fun m => m = x.gKids) (by simp; omega) (by decide) (by simp)) ?_
      rintro m rfl
      refine Gv.bind (test_gv hc) fun t ht => ?_
      refine Gv.bind (Gv.app (Q := fun k => k = x.gKids ++ [t.1]) (by simp; omega) (by decide) rfl) ?_
      rintro k rfl
      refine val ht.2 hx2.1 hx2.2.1 hx2.2.2.1 hx2.2.2.2.1 (by simp; omega) fun y hy => ?_
      rcases List.mem_append.1 hy with hy | hy
      · exact hx2.2.2.2.2.2 y hy
      · obtain rfl : y = t.1 := by simpa using hy
        exact TExpr.bd_le (by omega) _ (testG_bd ht.1)
    · exact cond_L1 (by omega) 12 0 v.2 x (by omega) hc hxB
    · exact cond_L2 h20 hB hx 11 0 v.2 x.gKids (by omega) hc (by omega) hx2.2.2.2.2.2
    · refine Gv.bind (test_gv hc) fun t ht => val ht.2 (by decide) (by decide) (by simp) (fun v hv => by cases hv) (by simp <;> omega) fun y hy => ?_
      have hy : y = x ∨ y = t.1 := by simpa using hy
      rcases hy with rfl | rfl
      · exact hxB
      · exact TExpr.bd_le (by omega) _ (testG_bd ht.1)
    · exact val hc hx2.1 hx2.2.1 hx2.2.2.1 hx2.2.2.2.1 hx2.2.2.2.2.1 hx2.2.2.2.2.2
end Go.Proofs.YtjhbobacbaikoaaGreatDoor
/- A function of the program as a pure function, and that the program computes it. -/
namespace Go.Proofs.YtjhbobacbaikoaaGreatDoor
open Go
set_option linter.unusedVariables false
set_option linter.unusedSimpArgs false
set_option maxRecDepth 100000
def p_draw_Codes_Wide (n : Nat) (x0 : TCodes) (x1 : Int) : Option (Int × TCodes) :=
(p_draw_Codes_Next n x0 256).bind fun v1 =>
(p_draw_Codes_Next n v1.2 256).bind fun v2 =>
(remO (w64 ((w64 (256 * v1.1)) + v2.1)) x1).bind fun v3 =>
 some (v3, v2.2)
variable {E : Env}
theorem s_draw_Codes_Wide {n : Nat} {x0 : TCodes} {x1 : Int} {r : Int × TCodes} (H : p_draw_Codes_Wide n x0 x1 = some r) :
    Sp Tryz.prog E 22 [.ptr 0 0, iA x1] [.cells 101 (TCodes.cs x0)] (isA (iA r.1) [.cells 101 (TCodes.cs r.2)]) := by
  unfold p_draw_Codes_Wide at H
  refine Sp_fn Tryz.func22 rfl (fun hc hs => ?_)
  refine AWP_reg (Rh 1 13 [(0, .ptr 0 0), (1, iA x1)] (AOps_done (AWP_reg (Rh 1 13 [(0, .ptr 0 0), (1, iA x1), (5, .ptr 0 0)] ?_))))
  obtain ⟨v1, hv1, H⟩ := bind_some H
  refine AOps_call1 (d := (some 6)) (al := [.ptr 0 0, iA 256]) ([.ptr 0 0, iA 256]) (r := iA v1.1) (j := 0) (b' := .cells 101 (TCodes.cs v1.2)) (by kernel_rfl) rfl (s_draw_Codes_Next hv1) (⟨(scl_cl_u8 _ _), trivial, trivial⟩) (⟨(scl_cl_u8 _ _), trivial, trivial⟩) ⟨Nat.zero_lt_one, trivial, trivial⟩ trivial rfl (h' := [.cells 101 (TCodes.cs v1.2)]) rfl ?_
  refine Rh 2 13 [(1, iA x1), (7, iA (w64 (256 * v1.1))), (8, .ptr 0 0)] ?_
  obtain ⟨v2, hv2, H⟩ := bind_some H
  refine AOps_call1 (d := (some 9)) (al := [.ptr 0 0, iA 256]) ([.ptr 0 0, iA 256]) (r := iA v2.1) (j := 0) (b' := .cells 101 (TCodes.cs v2.2)) (by kernel_rfl) rfl (s_draw_Codes_Next hv2) (⟨(scl_cl_u8 _ _), trivial, trivial⟩) (⟨(scl_cl_u8 _ _), trivial, trivial⟩) ⟨Nat.zero_lt_one, trivial, trivial⟩ trivial rfl (h' := [.cells 101 (TCodes.cs v2.2)]) rfl ?_
  refine Rh 2 13 [(10, iA (w64 ((w64 (256 * v1.1)) + v2.1))), (11, iA x1)] ?_
  obtain ⟨v3, hv3, H⟩ := bind_some H
  refine AOps_rem (kk := .i64) (d := (some 12)) (by kernel_rfl) hv3 ?_
  refine Rh 1 13 [(4, iA v3)] (AOps_done (AWP_ret ?_))
  have hr := Option.some.inj H
  subst hr
  exact Fin_retn 0 (l := [iA v3]) (h' := [.cells 101 (TCodes.cs v2.2)]) (by kernel_rfl) rfl (Nat.le_of_ble_eq_true rfl) ((by refine Closed_of ?_; exact ⟨⟨(scl_cl_u8 _ _), trivial, trivial⟩, trivial⟩)) (Frz_sc trivial) ⟨rfl, rfl⟩
end Go.Proofs.YtjhbobacbaikoaaGreatDoor
/- A function of the program as a pure function, and that the program computes it. -/
namespace Go.Proofs.YtjhbobacbaikoaaGreatDoor
open Go
set_option linter.unusedVariables false
set_option linter.unusedSimpArgs false
set_option maxRecDepth 100000
def p_draw_Codes_Split_K2 (n : Nat) (v46 : List TRange) (v47 : Int) (v51 : Int × TCodes) (v54 : Int) : Option ((List TRange) × TCodes) :=
(appO 24 v46 ([({ gFrom := v47, gTo := 10000, gVariation := v54 } : TRange)])).bind fun v55 =>
 some (v55, v51.2)
def p_draw_Codes_Split_K1 (n : Nat) (x1 : Int) (v46 : List TRange) (v47 : Int) (v48 : Int) (v49 : List Int) (v50 : Int) : Option ((List TRange) × TCodes) :=
(p_draw_Codes_Next n ({ glist := v49, gat := v50 } : TCodes) x1).bind fun v51 =>
(bif (w64 (1 + v51.1)) == v48 then
(remO (w64 (1 + v51.1)) x1).bind fun v57 =>
 p_draw_Codes_Split_K2 n v46 v47 v51 (w64 (1 + v57))
 else
 p_draw_Codes_Split_K2 n v46 v47 v51 (w64 (1 + v51.1)))
mutual
def p_draw_Codes_Split_K3 (n : Nat) (x1 : Int) (v86 : List TRange) (v87 : Int) (v88 : Int) (v89 : Int) (v94 : Int × TCodes) (v95 : Int × TCodes) (v98 : Int) : Option ((List TRange) × TCodes) := match n with
| 0 => none
| n + 1 =>
(bif decide ((w64 ((w64 (v87 + 1)) + v94.1)) ≥ 10000) then
 p_draw_Codes_Split_K1 n x1 v86 v87 v88 v95.2.glist v95.2.gat
 else
(appO 24 v86 ([({ gFrom := v87, gTo := w64 ((w64 (v87 + 1)) + v94.1), gVariation := v98 } : TRange)])).bind fun v100 =>
 p_draw_Codes_Split_L1 n x1 v100 (w64 ((w64 (v87 + 1)) + v94.1)) v98 (w64 (v89 + 1)) v95.2.glist v95.2.gat)
def p_draw_Codes_Split_L1 (n : Nat) (x1 : Int) (v86 : List TRange) (v87 : Int) (v88 : Int) (v89 : Int) (v90 : List Int) (v91 : Int) : Option ((List TRange) × TCodes) := match n with
| 0 => none
| n + 1 =>
(p_draw_Codes_Next n ({ glist := v90, gat := v91 } : TCodes) 4).bind fun v92 =>
(bif (decide (v89 < v92.1)) && (decide (x1 > 1)) then
(p_draw_Codes_Wide n v92.2 5000).bind fun v94 =>
(p_draw_Codes_Next n v94.2 x1).bind fun v95 =>
(bif (w64 (1 + v95.1)) == v88 then
(remO (w64 (1 + v95.1)) x1).bind fun v102 =>
 p_draw_Codes_Split_K3 n x1 v86 v87 v88 v89 v94 v95 (w64 (1 + v102))
 else
 p_draw_Codes_Split_K3 n x1 v86 v87 v88 v89 v94 v95 (w64 (1 + v95.1)))
 else
 p_draw_Codes_Split_K1 n x1 v86 v87 v88 v92.2.glist v92.2.gat)
end
def p_draw_Codes_Split (n : Nat) (x0 : TCodes) (x1 : Int) : Option ((List TRange) × TCodes) :=
 p_draw_Codes_Split_L1 n x1 ([]) 0 0 0 x0.glist x0.gat
variable {E : Env}
theorem s_draw_Codes_Split {n : Nat} {x0 : TCodes} {x1 : Int} {r : (List TRange) × TCodes} (H : p_draw_Codes_Split n x0 x1 = some r) :
    Sp Tryz.prog E 20 [.ptr 0 0, iA x1] [.cells 101 (TCodes.cs x0)] (isA (.ro .unk r.1.length (TRange.cl r.1)) [.cells 101 (TCodes.cs r.2)]) := by
  unfold p_draw_Codes_Split at H
  refine Sp_fn Tryz.func20 rfl (fun hc hs => ?_)
  refine AWP_reg (Rh 1 66 [(0, .ptr 0 0), (1, iA x1)] (AOps_done (AWP_reg (Rh 1 66 [(0, .ptr 0 0), (1, iA x1), (5, .ro .full 0 [])] (AOps_done (AWP_reg (Rh 2 66 [(0, .ptr 0 0), (1, iA x1), (5, .ro .full 0 []), (6, iA 0), (7, iA 0)] (AOps_done ?_))))))))
  refine AWP_joinN (α := (List TRange) × Int × Int × (List Int) × Int) (fun ⟨v46, v47, v48, v49, v50⟩ => fr 66 [(0, .ptr 0 0), (1, iA x1), (5, .sl 1 0 v46.length (.whole 3)), (6, iA v47), (7, iA v48)]) (fun ⟨v46, v47, v48, v49, v50⟩ => [.row 52 (TRange.cl v46), .cells 101 [.ro .unk v49.length (cl_u8 v49), iA v50]]) (fun ⟨v46, v47, v48, v49, v50⟩ => ∃ q, q ≤ q ∧ p_draw_Codes_Split_K1 q x1 v46 v47 v48 v49 v50 = some r) (fun a hC => ?_) ?_
  · obtain ⟨v46, v47, v48, v49, v50⟩ := a
    show AWP _ _ _ _ _ (fr 66 [(0, .ptr 0 0), (1, iA x1), (5, .sl 1 0 v46.length (.whole 3)), (6, iA v47), (7, iA v48)]) [.row 52 (TRange.cl v46), .cells 101 [.ro .unk v49.length (cl_u8 v49), iA v50]]
    obtain ⟨n, hn_, hC⟩ := hC
    replace H : p_draw_Codes_Split_K1 n x1 v46 v47 v48 v49 v50 = some r := hC
    unfold p_draw_Codes_Split_K1 at H
    refine AWP_reg (Rh 2 66 [(1, iA x1), (5, .sl 1 0 v46.length (.whole 3)), (6, iA v47), (7, iA v48), (49, .ptr 0 0), (50, iA x1)] ?_)
    obtain ⟨v51, hv51, H⟩ := bind_some H
    refine AOps_call1 (d := (some 51)) (al := [.ptr 0 0, iA x1]) ([.ptr 0 0, iA x1]) (r := iA v51.1) (j := 0) (b' := .cells 101 (TCodes.cs v51.2)) (by kernel_rfl) rfl (s_draw_Codes_Next hv51) (⟨(scl_cl_u8 _ _), trivial, trivial⟩) (⟨(scl_cl_u8 _ _), trivial, trivial⟩) ⟨Nat.zero_lt_one, trivial, trivial⟩ trivial rfl (h' := [.row 52 (TRange.cl v46), .cells 101 (TCodes.cs v51.2)]) rfl ?_
    refine Rh 2 66 [(1, iA x1), (5, .sl 1 0 v46.length (.whole 3)), (6, iA v47), (7, iA v48), (11, iA (w64 (1 + v51.1)))] (AOps_done (AWP_joinN (α := Int) (fun v54 => fr 66 [(5, .sl 1 0 v46.length (.whole 3)), (6, iA v47), (11, iA v54)]) (fun v54 => [.row 52 (TRange.cl v46), .cells 101 (TCodes.cs v51.2)]) (fun v54 => ∃ q, q ≤ q ∧ p_draw_Codes_Split_K2 q v46 v47 v51 v54 = some r) (fun v54 hC => ?_) ?_))
    · show AWP _ _ _ _ _ (fr 66 [(5, .sl 1 0 v46.length (.whole 3)), (6, iA v47), (11, iA v54)]) [.row 52 (TRange.cl v46), .cells 101 (TCodes.cs v51.2)]
      obtain ⟨n, hn_, hC⟩ := hC
      replace H : p_draw_Codes_Split_K2 n v46 v47 v51 v54 = some r := hC
      unfold p_draw_Codes_Split_K2 at H
      refine AWP_reg (Rh 4 66 [(60, .sl 1 0 v46.length (.whole 3)), (63, .agg [iA v47, iA 10000, iA v54])] (AOps_bsl (d := (some 64)) (m := 1) (cs := [iA v47, iA 10000, iA v54]) (by kernel_rfl) ⟨trivial, trivial, trivial, trivial⟩ ?_))
      obtain ⟨v55, hv55, H⟩ := bind_some H
      refine AOps_append (d := (some 65)) (c := TRange.cs) (sz := 3) (bs := 24) (e := 52) (id := 1) (xs := v46) (ys := [({ gFrom := v47, gTo := 10000, gVariation := v54 } : TRange)]) (by kernel_rfl) rfl (eq_TRange_cl _) rfl (eq_TRange_cl _) (fun _ => rfl) (by kernel_rfl) (by kernel_rfl) hv55 (eq_TRange_cl _) (h' := [.row 52 (TRange.cl v55), .dead, .cells 101 (TCodes.cs v51.2)]) rfl ?_
      refine Rh 1 66 [(4, .sl 2 0 v55.length (.whole 3))] (AOps_done (AWP_ret ?_))
      have hr := Option.some.inj H
      subst hr
      exact Fin_retn 2 (l := [.sl 2 0 v55.length (.whole 3)]) (h' := [.cells 101 (TCodes.cs v51.2)]) (by kernel_rfl) rfl (Nat.le_of_ble_eq_true rfl) ((by refine Closed_of ?_; exact ⟨⟨(scl_cl_u8 _ _), trivial, trivial⟩, trivial⟩)) (Frz_row (t := 52) (cs := TRange.cl v55) rfl (scl_TRange_cl _ _)) ⟨rfl, rfl⟩
    · refine AWP_reg (Rh 3 66 [(1, iA x1), (5, .sl 1 0 v46.length (.whole 3)), (6, iA v47), (11, iA (w64 (1 + v51.1))), (55, bA ((w64 (1 + v51.1)) == v48))] (AOps_done (CD H (fun hb56 H => ?_) (fun hb56 H => ?_))))
      · refine AWP_region ?_
        refine Rh 2 66 [(5, .sl 1 0 v46.length (.whole 3)), (6, iA v47), (56, iA (w64 (1 + v51.1))), (57, iA x1)] ?_
        obtain ⟨v57, hv57, H⟩ := bind_some H
        refine AOps_rem (kk := .i64) (d := (some 58)) (by kernel_rfl) hv57 ?_
        refine Rh 2 66 [(5, .sl 1 0 v46.length (.whole 3)), (6, iA v47), (11, iA (w64 (1 + v57)))] (AOps_done ?_)
        exact Exists.intro (w64 (1 + v57)) ⟨⟨n, by omega, H⟩, Norm_fd [5, 6, 11] 0 (by kernel_rfl) rfl rfl ⟨(scl_TRange_cl _ _), ⟨(scl_cl_u8 _ _), trivial, trivial⟩, trivial⟩ (by refine scL_fr ?_; exact ⟨(sc_sl rfl), trivial, trivial, trivial⟩)⟩
      · refine AWP_skip ?_
        exact Exists.intro (w64 (1 + v51.1)) ⟨⟨n, by omega, H⟩, Norm_fd [5, 6, 11] 0 (by kernel_rfl) rfl rfl ⟨(scl_TRange_cl _ _), ⟨(scl_cl_u8 _ _), trivial, trivial⟩, trivial⟩ (by refine scL_fr ?_; exact ⟨(sc_sl rfl), trivial, trivial, trivial⟩)⟩
  · refine AWP_reg (Rh 1 66 [(0, .ptr 0 0), (1, iA x1), (5, .ro .full 0 []), (6, iA 0), (7, iA 0), (8, iA 0)] (AOps_done (AWP_block ?_)))
    refine AWP_loopN (α := (List TRange) × Int × Int × Int × (List Int) × Int) (fun ⟨v86, v87, v88, v89, v90, v91⟩ => fr 66 [(0, .ptr 0 0), (1, iA x1), (5, .sl 1 0 v86.length (.whole 3)), (6, iA v87), (7, iA v88), (8, iA v89)]) (fun ⟨v86, v87, v88, v89, v90, v91⟩ => [.row 52 (TRange.cl v86), .cells 101 [.ro .unk v90.length (cl_u8 v90), iA v91]]) (fun k_ ⟨v86, v87, v88, v89, v90, v91⟩ => k_ ≤ n ∧ p_draw_Codes_Split_L1 k_ x1 v86 v87 v88 v89 v90 v91 = some r) (fun n a H => ?_) (k := n) ([], 0, 0, 0, x0.glist, x0.gat) ⟨Nat.le_refl _, H⟩ (Norm_trans (Norm_fd (st' := fr 66 [(0, .ptr 0 0), (1, iA x1), (5, .ro .full 0 []), (6, iA 0), (7, iA 0), (8, iA 0)]) (h' := [.cells 101 (TCodes.cs x0)]) [0, 1, 5, 6, 7, 8] 0 (by kernel_rfl) rfl rfl ⟨⟨(scl_cl_u8 _ _), trivial, trivial⟩, trivial⟩ (by refine scL_fr ?_; exact ⟨(sc_ptr rfl), trivial, trivial, trivial, trivial, trivial, trivial⟩)) (Norm_trans (Norm_nil' (st' := fr 66 [(0, .ptr 0 0), (1, iA x1), (5, .sl 1 0 ([] : List TRange).length (.whole 3)), (6, iA 0), (7, iA 0), (8, iA 0)]) 5 52 3 (by kernel_rfl) (h' := [.row 52 (TRange.cl ([])), .cells 101 (TCodes.cs x0)]) rfl (by kernel_rfl)) (Norm_fd [0, 1, 5, 6, 7, 8] 0 (by kernel_rfl) rfl rfl ⟨(scl_TRange_cl _ _), ⟨(scl_cl_u8 _ _), trivial, trivial⟩, trivial⟩ (by refine scL_fr ?_; exact ⟨(sc_ptr rfl), trivial, (sc_sl rfl), trivial, trivial, trivial, trivial⟩))))
    obtain ⟨v86, v87, v88, v89, v90, v91⟩ := a
    show AWP _ _ _ _ _ (fr 66 [(0, .ptr 0 0), (1, iA x1), (5, .sl 1 0 v86.length (.whole 3)), (6, iA v87), (7, iA v88), (8, iA v89)]) [.row 52 (TRange.cl v86), .cells 101 [.ro .unk v90.length (cl_u8 v90), iA v91]]
    obtain ⟨hb_, H⟩ := H
    replace H : p_draw_Codes_Split_L1 n x1 v86 v87 v88 v89 v90 v91 = some r := H
    cases n with
    | zero => exact not_none (by simpa only [p_draw_Codes_Split_L1] using H)
    | succ n =>
      unfold p_draw_Codes_Split_L1 at H
      refine AWP_seq (AWP_reg (Rh 2 66 [(0, .ptr 0 0), (1, iA x1), (5, .sl 1 0 v86.length (.whole 3)), (6, iA v87), (7, iA v88), (8, iA v89), (12, iA v89), (13, .ptr 0 0)] ?_))
      obtain ⟨v92, hv92, H⟩ := bind_some H
      refine AOps_call1 (d := (some 14)) (al := [.ptr 0 0, iA 4]) ([.ptr 0 0, iA 4]) (r := iA v92.1) (j := 0) (b' := .cells 101 (TCodes.cs v92.2)) (by kernel_rfl) rfl (s_draw_Codes_Next hv92) (⟨(scl_cl_u8 _ _), trivial, trivial⟩) (⟨(scl_cl_u8 _ _), trivial, trivial⟩) ⟨Nat.zero_lt_one, trivial, trivial⟩ trivial rfl (h' := [.row 52 (TRange.cl v86), .cells 101 (TCodes.cs v92.2)]) rfl ?_
      refine Rh 2 66 [(0, .ptr 0 0), (1, iA x1), (5, .sl 1 0 v86.length (.whole 3)), (6, iA v87), (7, iA v88), (8, iA v89), (16, bA (decide (v89 < v92.1)))] (AOps_run 3 [0, 1, 5, 6, 7, 8, 19] (st' := fr 66 [(0, .ptr 0 0), (1, iA x1), (5, .sl 1 0 v86.length (.whole 3)), (6, iA v87), (7, iA v88), (8, iA v89), (19, bA ((decide (v89 < v92.1)) && (decide (x1 > 1))))]) (h' := [.row 52 (TRange.cl v86), .cells 101 (TCodes.cs v92.2)]) (by (generalize (decide (v89 < v92.1)) = t0; cases t0 <;> kernel_rfl)) ?_)
      refine AOps_done (CD H (fun hb93 H => ?_) (fun hb93 H => ?_))
      · refine AWP_skip ?_
        show AWP _ _ _ _ _ _ _
        refine AWP_seq (AWP_block ?_)
        refine AWP_reg (Rh 3 66 [(0, .ptr 0 0), (1, iA x1), (5, .sl 1 0 v86.length (.whole 3)), (6, iA v87), (7, iA v88), (8, iA v89), (23, iA (w64 (v87 + 1))), (24, .ptr 0 0)] ?_)
        obtain ⟨v94, hv94, H⟩ := bind_some H
        refine AOps_call1 (d := (some 25)) (al := [.ptr 0 0, iA 5000]) ([.ptr 0 0, iA 5000]) (r := iA v94.1) (j := 0) (b' := .cells 101 (TCodes.cs v94.2)) (by kernel_rfl) rfl (s_draw_Codes_Wide hv94) (⟨(scl_cl_u8 _ _), trivial, trivial⟩) (⟨(scl_cl_u8 _ _), trivial, trivial⟩) ⟨Nat.zero_lt_one, trivial, trivial⟩ trivial rfl (h' := [.row 52 (TRange.cl v86), .cells 101 (TCodes.cs v94.2)]) rfl ?_
        refine Rh 2 66 [(0, .ptr 0 0), (1, iA x1), (5, .sl 1 0 v86.length (.whole 3)), (6, iA v87), (7, iA v88), (8, iA v89), (9, iA (w64 ((w64 (v87 + 1)) + v94.1)))] (AOps_done (AWP_reg (Rh 2 66 [(0, .ptr 0 0), (1, iA x1), (5, .sl 1 0 v86.length (.whole 3)), (6, iA v87), (7, iA v88), (8, iA v89), (9, iA (w64 ((w64 (v87 + 1)) + v94.1))), (27, .ptr 0 0), (28, iA x1)] ?_)))
        obtain ⟨v95, hv95, H⟩ := bind_some H
        refine AOps_call1 (d := (some 29)) (al := [.ptr 0 0, iA x1]) ([.ptr 0 0, iA x1]) (r := iA v95.1) (j := 0) (b' := .cells 101 (TCodes.cs v95.2)) (by kernel_rfl) rfl (s_draw_Codes_Next hv95) (⟨(scl_cl_u8 _ _), trivial, trivial⟩) (⟨(scl_cl_u8 _ _), trivial, trivial⟩) ⟨Nat.zero_lt_one, trivial, trivial⟩ trivial rfl (h' := [.row 52 (TRange.cl v86), .cells 101 (TCodes.cs v95.2)]) rfl ?_
        refine Rh 2 66 [(0, .ptr 0 0), (1, iA x1), (5, .sl 1 0 v86.length (.whole 3)), (6, iA v87), (7, iA v88), (8, iA v89), (9, iA (w64 ((w64 (v87 + 1)) + v94.1))), (10, iA (w64 (1 + v95.1)))] (AOps_done (AWP_joinN (α := Int) (fun v98 => fr 66 [(0, .ptr 0 0), (1, iA x1), (5, .sl 1 0 v86.length (.whole 3)), (6, iA v87), (7, iA v88), (8, iA v89), (9, iA (w64 ((w64 (v87 + 1)) + v94.1))), (10, iA v98)]) (fun v98 => [.row 52 (TRange.cl v86), .cells 101 (TCodes.cs v95.2)]) (fun v98 => ∃ q, q ≤ n ∧ p_draw_Codes_Split_K3 q x1 v86 v87 v88 v89 v94 v95 v98 = some r) (fun v98 hC => ?_) ?_))
        · show AWP _ _ _ _ _ (fr 66 [(0, .ptr 0 0), (1, iA x1), (5, .sl 1 0 v86.length (.whole 3)), (6, iA v87), (7, iA v88), (8, iA v89), (9, iA (w64 ((w64 (v87 + 1)) + v94.1))), (10, iA v98)]) [.row 52 (TRange.cl v86), .cells 101 (TCodes.cs v95.2)]
          obtain ⟨n, hn_, hC⟩ := hC
          replace H : p_draw_Codes_Split_K3 n x1 v86 v87 v88 v89 v94 v95 v98 = some r := hC
          cases n with
          | zero => exact not_none (by simpa only [p_draw_Codes_Split_K3] using H)
          | succ n =>
            unfold p_draw_Codes_Split_K3 at H
            refine AWP_seq (AWP_reg (Rh 2 66 [(0, .ptr 0 0), (1, iA x1), (5, .sl 1 0 v86.length (.whole 3)), (6, iA v87), (7, iA v88), (8, iA v89), (9, iA (w64 ((w64 (v87 + 1)) + v94.1))), (10, iA v98), (39, bA (decide ((w64 ((w64 (v87 + 1)) + v94.1)) ≥ 10000)))] (AOps_done (CD H (fun hb99 H => ?_) (fun hb99 H => ?_)))))
            · refine AWP_exit ?_
              exact Exists.intro (v86, v87, v88, v95.2.glist, v95.2.gat) ⟨⟨n, by omega, H⟩, Norm_fd [0, 1, 5, 6, 7] 0 (by kernel_rfl) rfl rfl ⟨(scl_TRange_cl _ _), ⟨(scl_cl_u8 _ _), trivial, trivial⟩, trivial⟩ (by refine scL_fr ?_; exact ⟨(sc_ptr rfl), trivial, (sc_sl rfl), trivial, trivial, trivial⟩)⟩
            · refine AWP_skip ?_
              show AWP _ _ _ _ _ _ _
              refine AWP_reg (Rh 5 66 [(0, .ptr 0 0), (1, iA x1), (8, iA v89), (9, iA (w64 ((w64 (v87 + 1)) + v94.1))), (10, iA v98), (40, .sl 1 0 v86.length (.whole 3)), (44, .agg [iA v87, iA (w64 ((w64 (v87 + 1)) + v94.1)), iA v98])] (AOps_bsl (d := (some 45)) (m := 1) (cs := [iA v87, iA (w64 ((w64 (v87 + 1)) + v94.1)), iA v98]) (by kernel_rfl) ⟨trivial, trivial, trivial, trivial⟩ ?_))
              obtain ⟨v100, hv100, H⟩ := bind_some H
              refine AOps_append (d := (some 46)) (c := TRange.cs) (sz := 3) (bs := 24) (e := 52) (id := 1) (xs := v86) (ys := [({ gFrom := v87, gTo := w64 ((w64 (v87 + 1)) + v94.1), gVariation := v98 } : TRange)]) (by kernel_rfl) rfl (eq_TRange_cl _) rfl (eq_TRange_cl _) (fun _ => rfl) (by kernel_rfl) (by kernel_rfl) hv100 (eq_TRange_cl _) (h' := [.row 52 (TRange.cl v100), .dead, .cells 101 (TCodes.cs v95.2)]) rfl ?_
              refine Rh 1 66 [(0, .ptr 0 0), (1, iA x1), (5, .sl 2 0 v100.length (.whole 3)), (8, iA v89), (9, iA (w64 ((w64 (v87 + 1)) + v94.1))), (10, iA v98)] (AOps_done (AWP_region ?_))
              refine Rh 4 66 [(0, .ptr 0 0), (1, iA x1), (5, .sl 2 0 v100.length (.whole 3)), (6, iA (w64 ((w64 (v87 + 1)) + v94.1))), (7, iA v98), (8, iA v89)] (AOps_done ?_)
              show AWP _ _ _ _ _ _ _
              refine AWP_region ?_
              refine Rh 3 66 [(0, .ptr 0 0), (1, iA x1), (5, .sl 2 0 v100.length (.whole 3)), (6, iA (w64 ((w64 (v87 + 1)) + v94.1))), (7, iA v98), (8, iA (w64 (v89 + 1)))] (AOps_done ?_)
              exact Exists.intro (v100, w64 ((w64 (v87 + 1)) + v94.1), v98, w64 (v89 + 1), v95.2.glist, v95.2.gat) (Exists.intro n ⟨by omega, ⟨by omega, H⟩, Norm_trans (Norm_fd (st' := fr 66 [(0, .ptr 0 0), (1, iA x1), (5, .sl 2 0 v100.length (.whole 3)), (6, iA (w64 ((w64 (v87 + 1)) + v94.1))), (7, iA v98), (8, iA (w64 (v89 + 1)))]) (h' := [.row 52 (TRange.cl v100), .dead, .cells 101 (TCodes.cs v95.2)]) [0, 1, 5, 6, 7, 8] 0 (by kernel_rfl) rfl rfl ⟨(scl_TRange_cl _ _), trivial, ⟨(scl_cl_u8 _ _), trivial, trivial⟩, trivial⟩ (by refine scL_fr ?_; exact ⟨(sc_ptr rfl), trivial, (sc_sl rfl), trivial, trivial, trivial, trivial⟩)) (Norm_trans (Norm_move' (st' := fr 66 [(0, .ptr 0 0), (1, iA x1), (5, .sl 1 0 v100.length (.whole 3)), (6, iA (w64 ((w64 (v87 + 1)) + v94.1))), (7, iA v98), (8, iA (w64 (v89 + 1)))]) (h' := [.row 52 (TRange.cl v100), .cells 101 (TCodes.cs v95.2)]) 1 2 rfl rfl rfl (fun h => by cases h) (by refine toOkL_fr ?_; exact ⟨(toOk_ptr rfl), trivial, (toOk_sl rfl), trivial, trivial, trivial, trivial⟩) ⟨(on0 (scl_TRange_cl _ _)), trivial, ⟨(on0 (scl_cl_u8 _ _)), trivial, trivial⟩, trivial⟩ (by kernel_rfl) (by kernel_rfl)) (Norm_fd [0, 1, 5, 6, 7, 8] 0 (by kernel_rfl) rfl rfl ⟨(scl_TRange_cl _ _), ⟨(scl_cl_u8 _ _), trivial, trivial⟩, trivial⟩ (by refine scL_fr ?_; exact ⟨(sc_ptr rfl), trivial, (sc_sl rfl), trivial, trivial, trivial, trivial⟩)))⟩)
        · refine AWP_reg (Rh 3 66 [(0, .ptr 0 0), (1, iA x1), (5, .sl 1 0 v86.length (.whole 3)), (6, iA v87), (7, iA v88), (8, iA v89), (9, iA (w64 ((w64 (v87 + 1)) + v94.1))), (10, iA (w64 (1 + v95.1))), (33, bA ((w64 (1 + v95.1)) == v88))] (AOps_done (CD H (fun hb101 H => ?_) (fun hb101 H => ?_))))
          · refine AWP_region ?_
            refine Rh 2 66 [(0, .ptr 0 0), (1, iA x1), (5, .sl 1 0 v86.length (.whole 3)), (6, iA v87), (7, iA v88), (8, iA v89), (9, iA (w64 ((w64 (v87 + 1)) + v94.1))), (34, iA (w64 (1 + v95.1))), (35, iA x1)] ?_
            obtain ⟨v102, hv102, H⟩ := bind_some H
            refine AOps_rem (kk := .i64) (d := (some 36)) (by kernel_rfl) hv102 ?_
            refine Rh 2 66 [(0, .ptr 0 0), (1, iA x1), (5, .sl 1 0 v86.length (.whole 3)), (6, iA v87), (7, iA v88), (8, iA v89), (9, iA (w64 ((w64 (v87 + 1)) + v94.1))), (10, iA (w64 (1 + v102)))] (AOps_done ?_)
            exact Exists.intro (w64 (1 + v102)) ⟨⟨n, by omega, H⟩, Norm_fd [0, 1, 5, 6, 7, 8, 9, 10] 0 (by kernel_rfl) rfl rfl ⟨(scl_TRange_cl _ _), ⟨(scl_cl_u8 _ _), trivial, trivial⟩, trivial⟩ (by refine scL_fr ?_; exact ⟨(sc_ptr rfl), trivial, (sc_sl rfl), trivial, trivial, trivial, trivial, trivial, trivial⟩)⟩
          · refine AWP_skip ?_
            exact Exists.intro (w64 (1 + v95.1)) ⟨⟨n, by omega, H⟩, Norm_fd [0, 1, 5, 6, 7, 8, 9, 10] 0 (by kernel_rfl) rfl rfl ⟨(scl_TRange_cl _ _), ⟨(scl_cl_u8 _ _), trivial, trivial⟩, trivial⟩ (by refine scL_fr ?_; exact ⟨(sc_ptr rfl), trivial, (sc_sl rfl), trivial, trivial, trivial, trivial, trivial, trivial⟩)⟩
      · refine AWP_exit ?_
        exact Exists.intro (v86, v87, v88, v92.2.glist, v92.2.gat) ⟨⟨n, by omega, H⟩, Norm_fd [0, 1, 5, 6, 7] 0 (by kernel_rfl) rfl rfl ⟨(scl_TRange_cl _ _), ⟨(scl_cl_u8 _ _), trivial, trivial⟩, trivial⟩ (by refine scL_fr ?_; exact ⟨(sc_ptr rfl), trivial, (sc_sl rfl), trivial, trivial, trivial⟩)⟩
end Go.Proofs.YtjhbobacbaikoaaGreatDoor
/- A function of the program as a pure function, and that the program computes it. -/
namespace Go.Proofs.YtjhbobacbaikoaaGreatDoor
open Go
set_option linter.unusedVariables false
set_option linter.unusedSimpArgs false
set_option maxRecDepth 100000
def p_draw_Codes_ranges_K1 (n : Nat) (v41 : List TRange) (v42 : List Int) (v43 : Int) : Option ((List TRange) × TCodes) :=
 some (v41, ({ glist := v42, gat := v43 } : TCodes))
def p_draw_Codes_ranges_L1 (n : Nat) (v72 : List TRange) (v73 : Int) (v74 : List Int) (v75 : Int) : Option ((List TRange) × TCodes) := match n with
| 0 => none
| n + 1 =>
(p_draw_Codes_Next n ({ glist := v74, gat := v75 } : TCodes) 2).bind fun v76 =>
(bif decide (v73 < (w64 (16 + v76.1))) then
(remO v73 2).bind fun v78 =>
(appO 24 v72 ([({ gFrom := v73, gTo := w64 (v73 + 1), gVariation := w64 (1 + v78) } : TRange)])).bind fun v79 =>
 p_draw_Codes_ranges_L1 n  v79 (w64 (v73 + 1)) v76.2.glist v76.2.gat
 else
(rdO v72 (w64 ((lI v72) - 1))).bind fun v80 =>
 p_draw_Codes_ranges_K1 n  (v72.set (w64 ((lI v72) - 1)).toNat ({ gFrom := v80.gFrom, gTo := 10000, gVariation := v80.gVariation } : TRange)) v76.2.glist v76.2.gat)
def p_draw_Codes_ranges (n : Nat) (x0 : TCodes) (x1 : List TRange) : Option ((List TRange) × TCodes) :=
(appO 24 ([] : List TRange) x1).bind fun v1 =>
(bif (lI v1) == 0 then
 some (v1, x0)
 else
(p_draw_Codes_Next n x0 (lI v1)).bind fun v3 =>
(p_draw_Codes_Next n v3.2 6).bind fun v44 =>
(bif v44.1 == 0 then
(p_draw_Codes_Number n v44.2).bind fun v46 =>
(rdO v1 v3.1).bind fun v47 =>
 p_draw_Codes_ranges_K1 n  (v1.set (v3.1).toNat ({ gFrom := v46.1, gTo := v47.gTo, gVariation := v47.gVariation } : TRange)) v46.2.glist v46.2.gat
 else
(bif v44.1 == 1 then
(p_draw_Codes_Number n v44.2).bind fun v49 =>
(rdO v1 v3.1).bind fun v50 =>
 p_draw_Codes_ranges_K1 n  (v1.set (v3.1).toNat ({ gFrom := v50.gFrom, gTo := v49.1, gVariation := v50.gVariation } : TRange)) v49.2.glist v49.2.gat
 else
(bif v44.1 == 2 then
(p_draw_Codes_Number n v44.2).bind fun v52 =>
(rdO v1 v3.1).bind fun v53 =>
 p_draw_Codes_ranges_K1 n  (v1.set (v3.1).toNat ({ gFrom := v53.gFrom, gTo := v53.gTo, gVariation := v52.1 } : TRange)) v52.2.glist v52.2.gat
 else
(bif v44.1 == 3 then
(cutL v1 0 v3.1).bind fun v55 =>
 p_draw_Codes_ranges_K1 n  v55 v44.2.glist v44.2.gat
 else
(bif v44.1 == 4 then
(rdO v1 v3.1).bind fun v57 =>
(appO 24 v1 ([v57])).bind fun v58 =>
 p_draw_Codes_ranges_K1 n  v58 v44.2.glist v44.2.gat
 else
(bif v44.1 == 5 then
 p_draw_Codes_ranges_L1 n  ([]) 0 v44.2.glist v44.2.gat
 else
 p_draw_Codes_ranges_K1 n  v1 v44.2.glist v44.2.gat)))))))
variable {E : Env}
theorem s_draw_Codes_ranges {n : Nat} {x0 : TCodes} {x1 : List TRange} {r : (List TRange) × TCodes} (H : p_draw_Codes_ranges n x0 x1 = some r) :
    Sp Tryz.prog E 55 [.ptr 0 0, .ro .unk x1.length (TRange.cl x1)] [.cells 101 (TCodes.cs x0)] (isA (.ro .unk r.1.length (TRange.cl r.1)) [.cells 101 (TCodes.cs r.2)]) := by
  unfold p_draw_Codes_ranges at H
  refine Sp_fn Tryz.func55 rfl (fun hc hs => ?_)
  refine AWP_reg (Rh 1 83 [(0, .ptr 0 0), (1, .ro .unk x1.length (TRange.cl x1))] (AOps_done (AWP_reg (Rh 1 83 [(0, .ptr 0 0), (7, .ro .unk x1.length (TRange.cl x1))] ?_))))
  obtain ⟨v1, hv1, H⟩ := bind_some H
  refine AOps_append_nilO (d := (some 8)) (c := TRange.cs) (sz := 3) (bs := 24) (e := 52) (ys := x1) (by kernel_rfl) rfl (eq_TRange_cl _) (fun _ => rfl) (by kernel_rfl) (by kernel_rfl) hv1 (eq_TRange_cl _) ?_
  refine Rh 1 83 [(0, .ptr 0 0), (1, .sl 1 0 v1.length (.whole 3))] (AOps_done (AWP_seq (AWP_reg (Rh 3 83 [(0, .ptr 0 0), (1, .sl 1 0 v1.length (.whole 3)), (11, bA ((lI v1) == 0))] (AOps_done (CD H (fun hb2 H => ?_) (fun hb2 H => ?_)))))))
  · refine AWP_reg (Rh 2 83 [(4, .sl 1 0 v1.length (.whole 3))] (AOps_done (AWP_ret ?_)))
    have hr := Option.some.inj H
    subst hr
    exact Fin_retn 1 (l := [.sl 1 0 v1.length (.whole 3)]) (h' := [.cells 101 (TCodes.cs x0)]) (by kernel_rfl) rfl (Nat.le_of_ble_eq_true rfl) ((by refine Closed_of ?_; exact ⟨⟨(scl_cl_u8 _ _), trivial, trivial⟩, trivial⟩)) (Frz_own (t := 52) (m2 := v1.length) (cs := TRange.cl v1) rfl rfl (Nat.le_of_ble_eq_true rfl) (scl_TRange_cl _ _)) ⟨rfl, rfl⟩
  · refine AWP_skip ?_
    show AWP _ _ _ _ _ _ _
    refine AWP_reg (Rh 3 83 [(0, .ptr 0 0), (1, .sl 1 0 v1.length (.whole 3)), (13, .ptr 0 0), (15, iA (lI v1))] ?_)
    obtain ⟨v3, hv3, H⟩ := bind_some H
    refine AOps_call1 (d := (some 16)) (al := [.ptr 0 0, iA (lI v1)]) ([.ptr 0 0, iA (lI v1)]) (r := iA v3.1) (j := 0) (b' := .cells 101 (TCodes.cs v3.2)) (by kernel_rfl) rfl (s_draw_Codes_Next hv3) (⟨(scl_cl_u8 _ _), trivial, trivial⟩) (⟨(scl_cl_u8 _ _), trivial, trivial⟩) ⟨Nat.zero_lt_one, trivial, trivial⟩ trivial rfl (h' := [.cells 52 (TRange.cl v1), .cells 101 (TCodes.cs v3.2)]) rfl ?_
    refine Rh 1 83 [(0, .ptr 0 0), (1, .sl 1 0 v1.length (.whole 3)), (5, iA v3.1)] (AOps_done (AWP_joinN (α := (List TRange) × (List Int) × Int) (fun ⟨v41, v42, v43⟩ => fr 83 [(1, .ro .unk v41.length (TRange.cl v41))]) (fun ⟨v41, v42, v43⟩ => [.cells 101 [.ro .unk v42.length (cl_u8 v42), iA v43]]) (fun ⟨v41, v42, v43⟩ => ∃ q, q ≤ q ∧ p_draw_Codes_ranges_K1 q  v41 v42 v43 = some r) (fun a hC => ?_) ?_))
    · obtain ⟨v41, v42, v43⟩ := a
      show AWP _ _ _ _ _ (fr 83 [(1, .ro .unk v41.length (TRange.cl v41))]) [.cells 101 [.ro .unk v42.length (cl_u8 v42), iA v43]]
      obtain ⟨n, hn_, hC⟩ := hC
      replace H : p_draw_Codes_ranges_K1 n  v41 v42 v43 = some r := hC
      unfold p_draw_Codes_ranges_K1 at H
      refine AWP_reg (Rh 2 83 [(4, .ro .unk v41.length (TRange.cl v41))] (AOps_done (AWP_ret ?_)))
      have hr := Option.some.inj H
      subst hr
      exact Fin_retn 0 (l := [.ro .unk v41.length (TRange.cl v41)]) (h' := [.cells 101 [.ro .unk v42.length (cl_u8 v42), iA v43]]) (by kernel_rfl) rfl (Nat.le_of_ble_eq_true rfl) ((by refine Closed_of ?_; exact ⟨⟨(scl_cl_u8 _ _), trivial, trivial⟩, trivial⟩)) (Frz_sc (scl_TRange_cl _ _)) ⟨rfl, rfl⟩
    · refine AWP_reg (Rh 1 83 [(0, .ptr 0 0), (1, .sl 1 0 v1.length (.whole 3)), (5, iA v3.1), (17, .ptr 0 0)] ?_)
      obtain ⟨v44, hv44, H⟩ := bind_some H
      refine AOps_call1 (d := (some 18)) (al := [.ptr 0 0, iA 6]) ([.ptr 0 0, iA 6]) (r := iA v44.1) (j := 0) (b' := .cells 101 (TCodes.cs v44.2)) (by kernel_rfl) rfl (s_draw_Codes_Next hv44) (⟨(scl_cl_u8 _ _), trivial, trivial⟩) (⟨(scl_cl_u8 _ _), trivial, trivial⟩) ⟨Nat.zero_lt_one, trivial, trivial⟩ trivial rfl (h' := [.cells 52 (TRange.cl v1), .cells 101 (TCodes.cs v44.2)]) rfl ?_
      refine AOps_done (AWP_block ?_)
      refine AWP_reg (Rh 2 83 [(0, .ptr 0 0), (1, .sl 1 0 v1.length (.whole 3)), (5, iA v3.1), (18, iA v44.1), (19, bA (v44.1 == 0))] (AOps_done (CD H (fun hb45 H => ?_) (fun hb45 H => ?_))))
      · refine AWP_region ?_
        refine Rh 3 83 [(1, .sl 1 0 v1.length (.whole 3)), (21, .sl 1 0 v1.length (.whole 3)), (22, iA v3.1), (23, .ptr 0 0)] ?_
        obtain ⟨v46, hv46, H⟩ := bind_some H
        refine AOps_call1 (d := (some 24)) (al := [.ptr 0 0]) ([.ptr 0 0]) (r := iA v46.1) (j := 0) (b' := .cells 101 (TCodes.cs v46.2)) (by kernel_rfl) rfl (s_draw_Codes_Number hv46) (⟨(scl_cl_u8 _ _), trivial, trivial⟩) (⟨(scl_cl_u8 _ _), trivial, trivial⟩) ⟨Nat.zero_lt_one, trivial⟩ trivial rfl (h' := [.cells 52 (TRange.cl v1), .cells 101 (TCodes.cs v46.2)]) rfl ?_
        obtain ⟨v47, hv47, H⟩ := bind_some H
        refine AOps_oidx (d := (some 25)) (id := 1) (off := 0) (j := v3.1) (m := v1.length) (sz := 3) (by kernel_rfl) (rdO_place hv47) ?_
        refine Rh 1 83 [(1, .sl 1 0 v1.length (.whole 3)), (24, iA v46.1), (26, .ptr 1 (0 + (v3.1).toNat * 3))] (AOps_stx (d := none) (id := 1) (ty := 52) (vs := [iA v46.1]) (cs' := TRange.cl (v1.set (v3.1).toNat ({ gFrom := v46.1, gTo := v47.gTo, gVariation := v47.gVariation } : TRange))) (by kernel_rfl) (stx_of (c := TRange.cs) (cl := TRange.cl) (y := ({ gFrom := v46.1, gTo := v47.gTo, gVariation := v47.gVariation } : TRange)) (sz := 3) eq_TRange_cl (fun _ => rfl) hv47 0 (by kernel_rfl)) (h' := [.cells 52 (TRange.cl (v1.set (v3.1).toNat ({ gFrom := v46.1, gTo := v47.gTo, gVariation := v47.gVariation } : TRange))), .cells 101 (TCodes.cs v46.2)]) rfl ?_)
        refine Rh 0 83 [(1, .sl 1 0 v1.length (.whole 3)), (24, iA v46.1), (26, .ptr 1 (0 + (v3.1).toNat * 3))] (AOps_same (st' := fr 83 [(1, .sl 1 0 (v1.set (v3.1).toNat ({ gFrom := v46.1, gTo := v47.gTo, gVariation := v47.gVariation } : TRange)).length (.whole 3)), (24, iA v46.1), (26, .ptr 1 (0 + (v3.1).toNat * 3))]) (h' := [.cells 52 (TRange.cl (v1.set (v3.1).toNat ({ gFrom := v46.1, gTo := v47.gTo, gVariation := v47.gVariation } : TRange))), .cells 101 (TCodes.cs v46.2)]) (by simp only [List.length_set]) (by simp only [List.length_set]) ?_)
        refine AOps_done ?_
        exact Exists.intro ((v1.set (v3.1).toNat ({ gFrom := v46.1, gTo := v47.gTo, gVariation := v47.gVariation } : TRange)), v46.2.glist, v46.2.gat) ⟨⟨n, by omega, H⟩, Norm_trans (Norm_fd (st' := fr 83 [(1, .sl 1 0 (v1.set (v3.1).toNat ({ gFrom := v46.1, gTo := v47.gTo, gVariation := v47.gVariation } : TRange)).length (.whole 3))]) (h' := [.cells 52 (TRange.cl (v1.set (v3.1).toNat ({ gFrom := v46.1, gTo := v47.gTo, gVariation := v47.gVariation } : TRange))), .cells 101 (TCodes.cs v46.2)]) [1] 0 (by kernel_rfl) rfl rfl ⟨(scl_TRange_cl _ _), ⟨(scl_cl_u8 _ _), trivial, trivial⟩, trivial⟩ (by refine scL_fr ?_; exact ⟨(sc_sl rfl), trivial⟩)) (Norm_trans (Norm_o2r 1 rfl (h' := [.row 52 (TRange.cl (v1.set (v3.1).toNat ({ gFrom := v46.1, gTo := v47.gTo, gVariation := v47.gVariation } : TRange))), .cells 101 (TCodes.cs v46.2)]) rfl) (Norm_trans (Norm_weak1 (st' := fr 83 [(1, .ro .unk (v1.set (v3.1).toNat ({ gFrom := v46.1, gTo := v47.gTo, gVariation := v47.gVariation } : TRange)).length (TRange.cl (v1.set (v3.1).toNat ({ gFrom := v46.1, gTo := v47.gTo, gVariation := v47.gVariation } : TRange))))]) 1 (.sl 1 0 (v1.set (v3.1).toNat ({ gFrom := v46.1, gTo := v47.gTo, gVariation := v47.gVariation } : TRange)).length (.whole 3)) (.ro .unk (v1.set (v3.1).toNat ({ gFrom := v46.1, gTo := v47.gTo, gVariation := v47.gVariation } : TRange)).length (TRange.cl (v1.set (v3.1).toNat ({ gFrom := v46.1, gTo := v47.gTo, gVariation := v47.gVariation } : TRange)))) (by kernel_rfl) (Frz_row (t := 52) (cs := TRange.cl (v1.set (v3.1).toNat ({ gFrom := v46.1, gTo := v47.gTo, gVariation := v47.gVariation } : TRange))) rfl (scl_TRange_cl _ _)) (by kernel_rfl)) (Norm_fd [1] 1 (by kernel_rfl) rfl rfl ⟨⟨(scl_cl_u8 _ _), trivial, trivial⟩, trivial⟩ (by refine scL_fr ?_; exact ⟨(scl_TRange_cl _ _), trivial⟩))))⟩
      · refine AWP_reg (Rh 2 83 [(0, .ptr 0 0), (1, .sl 1 0 v1.length (.whole 3)), (5, iA v3.1), (18, iA v44.1), (27, bA (v44.1 == 1))] (AOps_done (CD H (fun hb48 H => ?_) (fun hb48 H => ?_))))
        · refine AWP_region ?_
          refine Rh 3 83 [(1, .sl 1 0 v1.length (.whole 3)), (29, .sl 1 0 v1.length (.whole 3)), (30, iA v3.1), (31, .ptr 0 0)] ?_
          obtain ⟨v49, hv49, H⟩ := bind_some H
          refine AOps_call1 (d := (some 32)) (al := [.ptr 0 0]) ([.ptr 0 0]) (r := iA v49.1) (j := 0) (b' := .cells 101 (TCodes.cs v49.2)) (by kernel_rfl) rfl (s_draw_Codes_Number hv49) (⟨(scl_cl_u8 _ _), trivial, trivial⟩) (⟨(scl_cl_u8 _ _), trivial, trivial⟩) ⟨Nat.zero_lt_one, trivial⟩ trivial rfl (h' := [.cells 52 (TRange.cl v1), .cells 101 (TCodes.cs v49.2)]) rfl ?_
          obtain ⟨v50, hv50, H⟩ := bind_some H
          refine AOps_oidx (d := (some 33)) (id := 1) (off := 0) (j := v3.1) (m := v1.length) (sz := 3) (by kernel_rfl) (rdO_place hv50) ?_
          refine Rh 1 83 [(1, .sl 1 0 v1.length (.whole 3)), (32, iA v49.1), (34, .ptr 1 (0 + (v3.1).toNat * 3 + 1))] (AOps_stx (d := none) (id := 1) (ty := 52) (vs := [iA v49.1]) (cs' := TRange.cl (v1.set (v3.1).toNat ({ gFrom := v50.gFrom, gTo := v49.1, gVariation := v50.gVariation } : TRange))) (by kernel_rfl) (stx_of (c := TRange.cs) (cl := TRange.cl) (y := ({ gFrom := v50.gFrom, gTo := v49.1, gVariation := v50.gVariation } : TRange)) (sz := 3) eq_TRange_cl (fun _ => rfl) hv50 1 (by kernel_rfl)) (h' := [.cells 52 (TRange.cl (v1.set (v3.1).toNat ({ gFrom := v50.gFrom, gTo := v49.1, gVariation := v50.gVariation } : TRange))), .cells 101 (TCodes.cs v49.2)]) rfl ?_)
          refine Rh 0 83 [(1, .sl 1 0 v1.length (.whole 3)), (32, iA v49.1), (34, .ptr 1 (0 + (v3.1).toNat * 3 + 1))] (AOps_same (st' := fr 83 [(1, .sl 1 0 (v1.set (v3.1).toNat ({ gFrom := v50.gFrom, gTo := v49.1, gVariation := v50.gVariation } : TRange)).length (.whole 3)), (32, iA v49.1), (34, .ptr 1 (0 + (v3.1).toNat * 3 + 1))]) (h' := [.cells 52 (TRange.cl (v1.set (v3.1).toNat ({ gFrom := v50.gFrom, gTo := v49.1, gVariation := v50.gVariation } : TRange))), .cells 101 (TCodes.cs v49.2)]) (by simp only [List.length_set]) (by simp only [List.length_set]) ?_)
          refine AOps_done ?_
          exact Exists.intro ((v1.set (v3.1).toNat ({ gFrom := v50.gFrom, gTo := v49.1, gVariation := v50.gVariation } : TRange)), v49.2.glist, v49.2.gat) ⟨⟨n, by omega, H⟩, Norm_trans (Norm_fd (st' := fr 83 [(1, .sl 1 0 (v1.set (v3.1).toNat ({ gFrom := v50.gFrom, gTo := v49.1, gVariation := v50.gVariation } : TRange)).length (.whole 3))]) (h' := [.cells 52 (TRange.cl (v1.set (v3.1).toNat ({ gFrom := v50.gFrom, gTo := v49.1, gVariation := v50.gVariation } : TRange))), .cells 101 (TCodes.cs v49.2)]) [1] 0 (by kernel_rfl) rfl rfl ⟨(scl_TRange_cl _ _), ⟨(scl_cl_u8 _ _), trivial, trivial⟩, trivial⟩ (by refine scL_fr ?_; exact ⟨(sc_sl rfl), trivial⟩)) (Norm_trans (Norm_o2r 1 rfl (h' := [.row 52 (TRange.cl (v1.set (v3.1).toNat ({ gFrom := v50.gFrom, gTo := v49.1, gVariation := v50.gVariation } : TRange))), .cells 101 (TCodes.cs v49.2)]) rfl) (Norm_trans (Norm_weak1 (st' := fr 83 [(1, .ro .unk (v1.set (v3.1).toNat ({ gFrom := v50.gFrom, gTo := v49.1, gVariation := v50.gVariation } : TRange)).length (TRange.cl (v1.set (v3.1).toNat ({ gFrom := v50.gFrom, gTo := v49.1, gVariation := v50.gVariation } : TRange))))]) 1 (.sl 1 0 (v1.set (v3.1).toNat ({ gFrom := v50.gFrom, gTo := v49.1, gVariation := v50.gVariation } : TRange)).length (.whole 3)) (.ro .unk (v1.set (v3.1).toNat ({ gFrom := v50.gFrom, gTo := v49.1, gVariation := v50.gVariation } : TRange)).length (TRange.cl (v1.set (v3.1).toNat ({ gFrom := v50.gFrom, gTo := v49.1, gVariation := v50.gVariation } : TRange)))) (by kernel_rfl) (Frz_row (t := 52) (cs := TRange.cl (v1.set (v3.1).toNat ({ gFrom := v50.gFrom, gTo := v49.1, gVariation := v50.gVariation } : TRange))) rfl (scl_TRange_cl _ _)) (by kernel_rfl)) (Norm_fd [1] 1 (by kernel_rfl) rfl rfl ⟨⟨(scl_cl_u8 _ _), trivial, trivial⟩, trivial⟩ (by refine scL_fr ?_; exact ⟨(scl_TRange_cl _ _), trivial⟩))))⟩
        · refine AWP_reg (Rh 2 83 [(0, .ptr 0 0), (1, .sl 1 0 v1.length (.whole 3)), (5, iA v3.1), (18, iA v44.1), (35, bA (v44.1 == 2))] (AOps_done (CD H (fun hb51 H => ?_) (fun hb51 H => ?_))))
          · refine AWP_region ?_
            refine Rh 3 83 [(1, .sl 1 0 v1.length (.whole 3)), (37, .sl 1 0 v1.length (.whole 3)), (38, iA v3.1), (39, .ptr 0 0)] ?_
            obtain ⟨v52, hv52, H⟩ := bind_some H
            refine AOps_call1 (d := (some 40)) (al := [.ptr 0 0]) ([.ptr 0 0]) (r := iA v52.1) (j := 0) (b' := .cells 101 (TCodes.cs v52.2)) (by kernel_rfl) rfl (s_draw_Codes_Number hv52) (⟨(scl_cl_u8 _ _), trivial, trivial⟩) (⟨(scl_cl_u8 _ _), trivial, trivial⟩) ⟨Nat.zero_lt_one, trivial⟩ trivial rfl (h' := [.cells 52 (TRange.cl v1), .cells 101 (TCodes.cs v52.2)]) rfl ?_
            obtain ⟨v53, hv53, H⟩ := bind_some H
            refine AOps_oidx (d := (some 41)) (id := 1) (off := 0) (j := v3.1) (m := v1.length) (sz := 3) (by kernel_rfl) (rdO_place hv53) ?_
            refine Rh 1 83 [(1, .sl 1 0 v1.length (.whole 3)), (40, iA v52.1), (42, .ptr 1 (0 + (v3.1).toNat * 3 + 2))] (AOps_stx (d := none) (id := 1) (ty := 52) (vs := [iA v52.1]) (cs' := TRange.cl (v1.set (v3.1).toNat ({ gFrom := v53.gFrom, gTo := v53.gTo, gVariation := v52.1 } : TRange))) (by kernel_rfl) (stx_of (c := TRange.cs) (cl := TRange.cl) (y := ({ gFrom := v53.gFrom, gTo := v53.gTo, gVariation := v52.1 } : TRange)) (sz := 3) eq_TRange_cl (fun _ => rfl) hv53 2 (by kernel_rfl)) (h' := [.cells 52 (TRange.cl (v1.set (v3.1).toNat ({ gFrom := v53.gFrom, gTo := v53.gTo, gVariation := v52.1 } : TRange))), .cells 101 (TCodes.cs v52.2)]) rfl ?_)
            refine Rh 0 83 [(1, .sl 1 0 v1.length (.whole 3)), (40, iA v52.1), (42, .ptr 1 (0 + (v3.1).toNat * 3 + 2))] (AOps_same (st' := fr 83 [(1, .sl 1 0 (v1.set (v3.1).toNat ({ gFrom := v53.gFrom, gTo := v53.gTo, gVariation := v52.1 } : TRange)).length (.whole 3)), (40, iA v52.1), (42, .ptr 1 (0 + (v3.1).toNat * 3 + 2))]) (h' := [.cells 52 (TRange.cl (v1.set (v3.1).toNat ({ gFrom := v53.gFrom, gTo := v53.gTo, gVariation := v52.1 } : TRange))), .cells 101 (TCodes.cs v52.2)]) (by simp only [List.length_set]) (by simp only [List.length_set]) ?_)
            refine AOps_done ?_
            exact Exists.intro ((v1.set (v3.1).toNat ({ gFrom := v53.gFrom, gTo := v53.gTo, gVariation := v52.1 } : TRange)), v52.2.glist, v52.2.gat) ⟨⟨n, by omega, H⟩, Norm_trans (Norm_fd (st' := fr 83 [(1, .sl 1 0 (v1.set (v3.1).toNat ({ gFrom := v53.gFrom, gTo := v53.gTo, gVariation := v52.1 } : TRange)).length (.whole 3))]) (h' := [.cells 52 (TRange.cl (v1.set (v3.1).toNat ({ gFrom := v53.gFrom, gTo := v53.gTo, gVariation := v52.1 } : TRange))), .cells 101 (TCodes.cs v52.2)]) [1] 0 (by kernel_rfl) rfl rfl ⟨(scl_TRange_cl _ _), ⟨(scl_cl_u8 _ _), trivial, trivial⟩, trivial⟩ (by refine scL_fr ?_; exact ⟨(sc_sl rfl), trivial⟩)) (Norm_trans (Norm_o2r 1 rfl (h' := [.row 52 (TRange.cl (v1.set (v3.1).toNat ({ gFrom := v53.gFrom, gTo := v53.gTo, gVariation := v52.1 } : TRange))), .cells 101 (TCodes.cs v52.2)]) rfl) (Norm_trans (Norm_weak1 (st' := fr 83 [(1, .ro .unk (v1.set (v3.1).toNat ({ gFrom := v53.gFrom, gTo := v53.gTo, gVariation := v52.1 } : TRange)).length (TRange.cl (v1.set (v3.1).toNat ({ gFrom := v53.gFrom, gTo := v53.gTo, gVariation := v52.1 } : TRange))))]) 1 (.sl 1 0 (v1.set (v3.1).toNat ({ gFrom := v53.gFrom, gTo := v53.gTo, gVariation := v52.1 } : TRange)).length (.whole 3)) (.ro .unk (v1.set (v3.1).toNat ({ gFrom := v53.gFrom, gTo := v53.gTo, gVariation := v52.1 } : TRange)).length (TRange.cl (v1.set (v3.1).toNat ({ gFrom := v53.gFrom, gTo := v53.gTo, gVariation := v52.1 } : TRange)))) (by kernel_rfl) (Frz_row (t := 52) (cs := TRange.cl (v1.set (v3.1).toNat ({ gFrom := v53.gFrom, gTo := v53.gTo, gVariation := v52.1 } : TRange))) rfl (scl_TRange_cl _ _)) (by kernel_rfl)) (Norm_fd [1] 1 (by kernel_rfl) rfl rfl ⟨⟨(scl_cl_u8 _ _), trivial, trivial⟩, trivial⟩ (by refine scL_fr ?_; exact ⟨(scl_TRange_cl _ _), trivial⟩))))⟩
          · refine AWP_reg (Rh 2 83 [(0, .ptr 0 0), (1, .sl 1 0 v1.length (.whole 3)), (5, iA v3.1), (18, iA v44.1), (43, bA (v44.1 == 3))] (AOps_done (CD H (fun hb54 H => ?_) (fun hb54 H => ?_))))
            · refine AWP_region ?_
              refine Rh 2 83 [(45, .sl 1 0 v1.length (.whole 3)), (46, iA v3.1)] (AOps_o2r 1 rfl (h' := [.row 52 (TRange.cl v1), .cells 101 (TCodes.cs v44.2)]) rfl ?_)
              refine AOps_weak1 (st' := fr 83 [(45, .ro .unk v1.length (TRange.cl v1)), (46, iA v3.1)]) 45 (.sl 1 0 v1.length (.whole 3)) (.ro .unk v1.length (TRange.cl v1)) (by kernel_rfl) (Frz_row (t := 52) (cs := TRange.cl v1) rfl (scl_TRange_cl _ _)) (by kernel_rfl) ?_
              obtain ⟨v55, hv55, H⟩ := bind_some H
              refine AOps_lcut (d := (some 47)) (sz := 3) (c := TRange.cs) (by kernel_rfl) rfl (eq_TRange_cl _) (eq_TRange_cl _) (fun _ => rfl) (by decide) hv55 ?_
              refine Rh 1 83 [(1, .ro .unk v55.length (TRange.cl v55))] (AOps_done ?_)
              exact Exists.intro (v55, v44.2.glist, v44.2.gat) ⟨⟨n, by omega, H⟩, Norm_fd [1] 1 (by kernel_rfl) rfl rfl ⟨⟨(scl_cl_u8 _ _), trivial, trivial⟩, trivial⟩ (by refine scL_fr ?_; exact ⟨(scl_TRange_cl _ _), trivial⟩)⟩
            · refine AWP_reg (Rh 2 83 [(0, .ptr 0 0), (1, .sl 1 0 v1.length (.whole 3)), (5, iA v3.1), (18, iA v44.1), (48, bA (v44.1 == 4))] (AOps_done (CD H (fun hb56 H => ?_) (fun hb56 H => ?_))))
              · refine AWP_region ?_
                refine Rh 3 83 [(50, .sl 1 0 v1.length (.whole 3)), (51, .sl 1 0 v1.length (.whole 3)), (52, iA v3.1)] ?_
                obtain ⟨v57, hv57, H⟩ := bind_some H
                refine AOps_oidx (d := (some 53)) (id := 1) (off := 0) (j := v3.1) (m := v1.length) (sz := 3) (by kernel_rfl) (rdO_place hv57) ?_
                refine AOps_ldx (d := (some 54)) (id := 1) (t := 52) (v := .agg (TRange.cs v57)) (by kernel_rfl) (ldx_of (c := TRange.cs) (sz := 3) (eq_TRange_cl) (fun _ => rfl) hv57 0 (by decide) (fun _ => by kernel_rfl)) ?_
                refine AOps_bsl (d := (some 55)) (m := 1) (cs := [iA v57.gFrom, iA v57.gTo, iA v57.gVariation]) (by kernel_rfl) ⟨trivial, trivial, trivial, trivial⟩ ?_
                obtain ⟨v58, hv58, H⟩ := bind_some H
                refine AOps_appendO (d := (some 56)) (c := TRange.cs) (sz := 3) (bs := 24) (e := 52) (id := 1) (xs := v1) (ys := [v57]) (by kernel_rfl) rfl (eq_TRange_cl _) rfl (eq_TRange_cl _) (fun _ => rfl) (by kernel_rfl) (by kernel_rfl) hv58 (eq_TRange_cl _) (h' := [.cells 52 (TRange.cl v58), .dead, .cells 101 (TCodes.cs v44.2)]) rfl ?_
                refine Rh 1 83 [(1, .sl 2 0 v58.length (.whole 3))] (AOps_done ?_)
                exact Exists.intro (v58, v44.2.glist, v44.2.gat) ⟨⟨n, by omega, H⟩, Norm_trans (Norm_fd (st' := fr 83 [(1, .sl 2 0 v58.length (.whole 3))]) (h' := [.cells 52 (TRange.cl v58), .dead, .cells 101 (TCodes.cs v44.2)]) [1] 0 (by kernel_rfl) rfl rfl ⟨(scl_TRange_cl _ _), trivial, ⟨(scl_cl_u8 _ _), trivial, trivial⟩, trivial⟩ (by refine scL_fr ?_; exact ⟨(sc_sl rfl), trivial⟩)) (Norm_trans (Norm_o2r 2 rfl (h' := [.row 52 (TRange.cl v58), .dead, .cells 101 (TCodes.cs v44.2)]) rfl) (Norm_trans (Norm_weak1 (st' := fr 83 [(1, .ro .unk v58.length (TRange.cl v58))]) 1 (.sl 2 0 v58.length (.whole 3)) (.ro .unk v58.length (TRange.cl v58)) (by kernel_rfl) (Frz_row (t := 52) (cs := TRange.cl v58) rfl (scl_TRange_cl _ _)) (by kernel_rfl)) (Norm_fd [1] 2 (by kernel_rfl) rfl rfl ⟨⟨(scl_cl_u8 _ _), trivial, trivial⟩, trivial⟩ (by refine scL_fr ?_; exact ⟨(scl_TRange_cl _ _), trivial⟩))))⟩
              · refine AWP_reg (Rh 2 83 [(0, .ptr 0 0), (1, .sl 1 0 v1.length (.whole 3)), (57, bA (v44.1 == 5))] (AOps_done (CD H (fun hb59 H => ?_) (fun hb59 H => ?_))))
                · refine AWP_reg (Rh 1 83 [(0, .ptr 0 0), (1, .ro .full 0 [])] (AOps_done (AWP_seq (AWP_reg (Rh 1 83 [(0, .ptr 0 0), (1, .ro .full 0 []), (6, iA 0)] (AOps_done (AWP_block ?_)))))))
                  refine AWP_loopN (α := (List TRange) × Int × (List Int) × Int) (fun ⟨v72, v73, v74, v75⟩ => fr 83 [(0, .ptr 0 0), (1, .sl 2 0 v72.length (.whole 3)), (6, iA v73)]) (fun ⟨v72, v73, v74, v75⟩ => [.cells 52 (TRange.cl v72), .dead, .cells 101 [.ro .unk v74.length (cl_u8 v74), iA v75]]) (fun k_ ⟨v72, v73, v74, v75⟩ => k_ ≤ n ∧ p_draw_Codes_ranges_L1 k_  v72 v73 v74 v75 = some r) (fun n a H => ?_) (k := n) ([], 0, v44.2.glist, v44.2.gat) ⟨Nat.le_refl _, H⟩ (Norm_trans (Norm_fd (st' := fr 83 [(0, .ptr 0 0), (1, .ro .full 0 []), (6, iA 0)]) (h' := [.cells 52 (TRange.cl v1), .cells 101 (TCodes.cs v44.2)]) [0, 1, 6] 0 (by kernel_rfl) rfl rfl ⟨(scl_TRange_cl _ _), ⟨(scl_cl_u8 _ _), trivial, trivial⟩, trivial⟩ (by refine scL_fr ?_; exact ⟨(sc_ptr rfl), trivial, trivial, trivial⟩)) (Norm_trans (Norm_kill 1 (h' := [.dead, .cells 101 (TCodes.cs v44.2)]) rfl rfl) (Norm_trans (Norm_nil' (st' := fr 83 [(0, .ptr 0 0), (1, .sl 2 0 ([] : List TRange).length (.whole 3)), (6, iA 0)]) 1 52 3 (by kernel_rfl) (h' := [.row 52 (TRange.cl ([])), .dead, .cells 101 (TCodes.cs v44.2)]) rfl (by kernel_rfl)) (Norm_trans (Norm_r2o 2 rfl (h' := [.cells 52 (TRange.cl ([])), .dead, .cells 101 (TCodes.cs v44.2)]) rfl) (Norm_fd [0, 1, 6] 0 (by kernel_rfl) rfl rfl ⟨(scl_TRange_cl _ _), trivial, ⟨(scl_cl_u8 _ _), trivial, trivial⟩, trivial⟩ (by refine scL_fr ?_; exact ⟨(sc_ptr rfl), (sc_sl rfl), trivial, trivial⟩))))))
                  obtain ⟨v72, v73, v74, v75⟩ := a
                  show AWP _ _ _ _ _ (fr 83 [(0, .ptr 0 0), (1, .sl 2 0 v72.length (.whole 3)), (6, iA v73)]) [.cells 52 (TRange.cl v72), .dead, .cells 101 [.ro .unk v74.length (cl_u8 v74), iA v75]]
                  obtain ⟨hb_, H⟩ := H
                  replace H : p_draw_Codes_ranges_L1 n  v72 v73 v74 v75 = some r := H
                  cases n with
                  | zero => exact not_none (by simpa only [p_draw_Codes_ranges_L1] using H)
                  | succ n =>
                    unfold p_draw_Codes_ranges_L1 at H
                    refine AWP_seq (AWP_reg (Rh 2 83 [(0, .ptr 0 0), (1, .sl 2 0 v72.length (.whole 3)), (6, iA v73), (59, iA v73), (60, .ptr 0 0)] ?_))
                    obtain ⟨v76, hv76, H⟩ := bind_some H
                    refine AOps_call1 (d := (some 61)) (al := [.ptr 0 0, iA 2]) ([.ptr 0 0, iA 2]) (r := iA v76.1) (j := 0) (b' := .cells 101 (TCodes.cs v76.2)) (by kernel_rfl) rfl (s_draw_Codes_Next hv76) (⟨(scl_cl_u8 _ _), trivial, trivial⟩) (⟨(scl_cl_u8 _ _), trivial, trivial⟩) ⟨Nat.zero_lt_one, trivial, trivial⟩ trivial rfl (h' := [.cells 52 (TRange.cl v72), .dead, .cells 101 (TCodes.cs v76.2)]) rfl ?_
                    refine Rh 2 83 [(0, .ptr 0 0), (1, .sl 2 0 v72.length (.whole 3)), (6, iA v73), (63, bA (decide (v73 < (w64 (16 + v76.1)))))] (AOps_done (CD H (fun hb77 H => ?_) (fun hb77 H => ?_)))
                    · refine AWP_skip ?_
                      show AWP _ _ _ _ _ _ _
                      refine AWP_seq (AWP_block ?_)
                      refine AWP_region ?_
                      refine Rh 5 83 [(0, .ptr 0 0), (6, iA v73), (66, .sl 2 0 v72.length (.whole 3)), (67, iA v73), (69, iA (w64 (v73 + 1))), (70, iA v73)] ?_
                      obtain ⟨v78, hv78, H⟩ := bind_some H
                      refine AOps_rem (kk := .i64) (d := (some 71)) (by kernel_rfl) hv78 ?_
                      refine Rh 2 83 [(0, .ptr 0 0), (6, iA v73), (66, .sl 2 0 v72.length (.whole 3)), (73, .agg [iA v73, iA (w64 (v73 + 1)), iA (w64 (1 + v78))])] (AOps_bsl (d := (some 74)) (m := 1) (cs := [iA v73, iA (w64 (v73 + 1)), iA (w64 (1 + v78))]) (by kernel_rfl) ⟨trivial, trivial, trivial, trivial⟩ ?_)
                      obtain ⟨v79, hv79, H⟩ := bind_some H
                      refine AOps_appendO (d := (some 75)) (c := TRange.cs) (sz := 3) (bs := 24) (e := 52) (id := 2) (xs := v72) (ys := [({ gFrom := v73, gTo := w64 (v73 + 1), gVariation := w64 (1 + v78) } : TRange)]) (by kernel_rfl) rfl (eq_TRange_cl _) rfl (eq_TRange_cl _) (fun _ => rfl) (by kernel_rfl) (by kernel_rfl) hv79 (eq_TRange_cl _) (h' := [.cells 52 (TRange.cl v79), .dead, .dead, .cells 101 (TCodes.cs v76.2)]) rfl ?_
                      refine Rh 1 83 [(0, .ptr 0 0), (1, .sl 3 0 v79.length (.whole 3)), (6, iA v73)] (AOps_done ?_)
                      show AWP _ _ _ _ _ _ _
                      refine AWP_region ?_
                      refine Rh 3 83 [(0, .ptr 0 0), (1, .sl 3 0 v79.length (.whole 3)), (6, iA (w64 (v73 + 1)))] (AOps_done ?_)
                      exact Exists.intro (v79, w64 (v73 + 1), v76.2.glist, v76.2.gat) (Exists.intro n ⟨by omega, ⟨by omega, H⟩, Norm_trans (Norm_fd (st' := fr 83 [(0, .ptr 0 0), (1, .sl 3 0 v79.length (.whole 3)), (6, iA (w64 (v73 + 1)))]) (h' := [.cells 52 (TRange.cl v79), .dead, .dead, .cells 101 (TCodes.cs v76.2)]) [0, 1, 6] 0 (by kernel_rfl) rfl rfl ⟨(scl_TRange_cl _ _), trivial, trivial, ⟨(scl_cl_u8 _ _), trivial, trivial⟩, trivial⟩ (by refine scL_fr ?_; exact ⟨(sc_ptr rfl), (sc_sl rfl), trivial, trivial⟩)) (Norm_trans (Norm_move' (st' := fr 83 [(0, .ptr 0 0), (1, .sl 2 0 v79.length (.whole 3)), (6, iA (w64 (v73 + 1)))]) (h' := [.cells 52 (TRange.cl v79), .dead, .cells 101 (TCodes.cs v76.2)]) 2 3 rfl rfl rfl (fun h => by cases h) (by refine toOkL_fr ?_; exact ⟨(toOk_ptr rfl), (toOk_sl rfl), trivial, trivial⟩) ⟨(toOkL0 (scl_TRange_cl _ _)), trivial, trivial, ⟨(on0 (scl_cl_u8 _ _)), trivial, trivial⟩, trivial⟩ (by kernel_rfl) (by simp only [List.map_cons, List.map_nil, ABlk.to, map_to0 (scl_TRange_cl 0 _)] <;> kernel_rfl)) (Norm_fd [0, 1, 6] 0 (by kernel_rfl) rfl rfl ⟨(scl_TRange_cl _ _), trivial, ⟨(scl_cl_u8 _ _), trivial, trivial⟩, trivial⟩ (by refine scL_fr ?_; exact ⟨(sc_ptr rfl), (sc_sl rfl), trivial, trivial⟩)))⟩)
                    · refine AWP_exit ?_
                      show AWP _ _ _ _ _ _ _
                      refine AWP_region ?_
                      refine Rh 4 83 [(1, .sl 2 0 v72.length (.whole 3)), (76, .sl 2 0 v72.length (.whole 3)), (79, iA (w64 ((lI v72) - 1)))] ?_
                      obtain ⟨v80, hv80, H⟩ := bind_some H
                      refine AOps_oidx (d := (some 80)) (id := 2) (off := 0) (j := w64 ((lI v72) - 1)) (m := v72.length) (sz := 3) (by kernel_rfl) (rdO_place hv80) ?_
                      refine Rh 1 83 [(1, .sl 2 0 v72.length (.whole 3)), (81, .ptr 2 (0 + (w64 ((lI v72) - 1)).toNat * 3 + 1))] (AOps_stx (d := none) (id := 2) (ty := 52) (vs := [iA 10000]) (cs' := TRange.cl (v72.set (w64 ((lI v72) - 1)).toNat ({ gFrom := v80.gFrom, gTo := 10000, gVariation := v80.gVariation } : TRange))) (by kernel_rfl) (stx_of (c := TRange.cs) (cl := TRange.cl) (y := ({ gFrom := v80.gFrom, gTo := 10000, gVariation := v80.gVariation } : TRange)) (sz := 3) eq_TRange_cl (fun _ => rfl) hv80 1 (by kernel_rfl)) (h' := [.cells 52 (TRange.cl (v72.set (w64 ((lI v72) - 1)).toNat ({ gFrom := v80.gFrom, gTo := 10000, gVariation := v80.gVariation } : TRange))), .dead, .cells 101 (TCodes.cs v76.2)]) rfl ?_)
                      refine Rh 0 83 [(1, .sl 2 0 v72.length (.whole 3)), (81, .ptr 2 (0 + (w64 ((lI v72) - 1)).toNat * 3 + 1))] (AOps_same (st' := fr 83 [(1, .sl 2 0 (v72.set (w64 ((lI v72) - 1)).toNat ({ gFrom := v80.gFrom, gTo := 10000, gVariation := v80.gVariation } : TRange)).length (.whole 3)), (81, .ptr 2 (0 + (w64 ((lI v72) - 1)).toNat * 3 + 1))]) (h' := [.cells 52 (TRange.cl (v72.set (w64 ((lI v72) - 1)).toNat ({ gFrom := v80.gFrom, gTo := 10000, gVariation := v80.gVariation } : TRange))), .dead, .cells 101 (TCodes.cs v76.2)]) (by simp only [List.length_set]) (by simp only [List.length_set]) ?_)
                      refine AOps_done ?_
                      exact Exists.intro ((v72.set (w64 ((lI v72) - 1)).toNat ({ gFrom := v80.gFrom, gTo := 10000, gVariation := v80.gVariation } : TRange)), v76.2.glist, v76.2.gat) ⟨⟨n, by omega, H⟩, Norm_trans (Norm_fd (st' := fr 83 [(1, .sl 2 0 (v72.set (w64 ((lI v72) - 1)).toNat ({ gFrom := v80.gFrom, gTo := 10000, gVariation := v80.gVariation } : TRange)).length (.whole 3))]) (h' := [.cells 52 (TRange.cl (v72.set (w64 ((lI v72) - 1)).toNat ({ gFrom := v80.gFrom, gTo := 10000, gVariation := v80.gVariation } : TRange))), .dead, .cells 101 (TCodes.cs v76.2)]) [1] 0 (by kernel_rfl) rfl rfl ⟨(scl_TRange_cl _ _), trivial, ⟨(scl_cl_u8 _ _), trivial, trivial⟩, trivial⟩ (by refine scL_fr ?_; exact ⟨(sc_sl rfl), trivial⟩)) (Norm_trans (Norm_o2r 2 rfl (h' := [.row 52 (TRange.cl (v72.set (w64 ((lI v72) - 1)).toNat ({ gFrom := v80.gFrom, gTo := 10000, gVariation := v80.gVariation } : TRange))), .dead, .cells 101 (TCodes.cs v76.2)]) rfl) (Norm_trans (Norm_weak1 (st' := fr 83 [(1, .ro .unk (v72.set (w64 ((lI v72) - 1)).toNat ({ gFrom := v80.gFrom, gTo := 10000, gVariation := v80.gVariation } : TRange)).length (TRange.cl (v72.set (w64 ((lI v72) - 1)).toNat ({ gFrom := v80.gFrom, gTo := 10000, gVariation := v80.gVariation } : TRange))))]) 1 (.sl 2 0 (v72.set (w64 ((lI v72) - 1)).toNat ({ gFrom := v80.gFrom, gTo := 10000, gVariation := v80.gVariation } : TRange)).length (.whole 3)) (.ro .unk (v72.set (w64 ((lI v72) - 1)).toNat ({ gFrom := v80.gFrom, gTo := 10000, gVariation := v80.gVariation } : TRange)).length (TRange.cl (v72.set (w64 ((lI v72) - 1)).toNat ({ gFrom := v80.gFrom, gTo := 10000, gVariation := v80.gVariation } : TRange)))) (by kernel_rfl) (Frz_row (t := 52) (cs := TRange.cl (v72.set (w64 ((lI v72) - 1)).toNat ({ gFrom := v80.gFrom, gTo := 10000, gVariation := v80.gVariation } : TRange))) rfl (scl_TRange_cl _ _)) (by kernel_rfl)) (Norm_fd [1] 2 (by kernel_rfl) rfl rfl ⟨⟨(scl_cl_u8 _ _), trivial, trivial⟩, trivial⟩ (by refine scL_fr ?_; exact ⟨(scl_TRange_cl _ _), trivial⟩))))⟩
                · refine AWP_skip ?_
                  exact Exists.intro (v1, v44.2.glist, v44.2.gat) ⟨⟨n, by omega, H⟩, Norm_trans (Norm_fd (st' := fr 83 [(1, .sl 1 0 v1.length (.whole 3))]) (h' := [.cells 52 (TRange.cl v1), .cells 101 (TCodes.cs v44.2)]) [1] 0 (by kernel_rfl) rfl rfl ⟨(scl_TRange_cl _ _), ⟨(scl_cl_u8 _ _), trivial, trivial⟩, trivial⟩ (by refine scL_fr ?_; exact ⟨(sc_sl rfl), trivial⟩)) (Norm_trans (Norm_o2r 1 rfl (h' := [.row 52 (TRange.cl v1), .cells 101 (TCodes.cs v44.2)]) rfl) (Norm_trans (Norm_weak1 (st' := fr 83 [(1, .ro .unk v1.length (TRange.cl v1))]) 1 (.sl 1 0 v1.length (.whole 3)) (.ro .unk v1.length (TRange.cl v1)) (by kernel_rfl) (Frz_row (t := 52) (cs := TRange.cl v1) rfl (scl_TRange_cl _ _)) (by kernel_rfl)) (Norm_fd [1] 1 (by kernel_rfl) rfl rfl ⟨⟨(scl_cl_u8 _ _), trivial, trivial⟩, trivial⟩ (by refine scL_fr ?_; exact ⟨(scl_TRange_cl _ _), trivial⟩))))⟩
end Go.Proofs.YtjhbobacbaikoaaGreatDoor
/- A function of the program as a pure function, and that the program computes it. -/
namespace Go.Proofs.YtjhbobacbaikoaaGreatDoor
open Go
set_option linter.unusedVariables false
set_option linter.unusedSimpArgs false
set_option maxRecDepth 100000
def p_ref13_Pick_L1 (n : Nat) (x0 : List TRange) (x1 : Int) (v12 : Int) : Option Int := match n with
| 0 => none
| n + 1 =>
(bif decide (v12 < (lI x0)) then
(rdO x0 v12).bind fun v14 =>
(bif decide (v14.gFrom ≤ x1) then rdO x0 v12 else some ({ gFrom := 0, gTo := 0, gVariation := 0 } : TRange)).bind fun v15 =>
(bif (decide (v14.gFrom ≤ x1)) && (decide (x1 < v15.gTo)) then
(rdO x0 v12).bind fun v17 =>
 some (v17.gVariation)
 else
 p_ref13_Pick_L1 n x0 x1 (w64 (v12 + 1)))
 else
 some (0))
def p_ref13_Pick (n : Nat) (x0 : List TRange) (x1 : Int) : Option Int :=
 p_ref13_Pick_L1 n x0 x1 0
variable {E : Env}
theorem s_ref13_Pick {n : Nat} {x0 : List TRange} {x1 : Int} {r : Int} (H : p_ref13_Pick n x0 x1 = some r) :
    Sp Tryz.prog E 28 [.ro .unk x0.length (TRange.cl x0), iA x1] [] (isA (iA r) []) := by
  unfold p_ref13_Pick at H
  refine Sp_fn Tryz.func28 rfl (fun hc hs => ?_)
  refine AWP_reg (Rh 1 33 [(0, .ro .unk x0.length (TRange.cl x0)), (1, iA x1)] (AOps_done (AWP_seq (AWP_reg (Rh 1 33 [(0, .ro .unk x0.length (TRange.cl x0)), (1, iA x1), (5, iA 0)] (AOps_done (AWP_block ?_)))))))
  refine AWP_loopN (α := Int) (fun v12 => fr 33 [(0, .ro .unk x0.length (TRange.cl x0)), (1, iA x1), (5, iA v12)]) (fun v12 => []) (fun k_ v12 => k_ ≤ n ∧ p_ref13_Pick_L1 k_ x0 x1 v12 = some r) (fun n v12 H => ?_) (k := n) 0 ⟨Nat.le_refl _, H⟩ (Norm_fd [0, 1, 5] 0 (by kernel_rfl) rfl rfl trivial (by refine scL_fr ?_; exact ⟨(scl_TRange_cl _ _), trivial, trivial, trivial⟩))
  show AWP _ _ _ _ _ (fr 33 [(0, .ro .unk x0.length (TRange.cl x0)), (1, iA x1), (5, iA v12)]) []
  obtain ⟨hb_, H⟩ := H
  replace H : p_ref13_Pick_L1 n x0 x1 v12 = some r := H
  cases n with
  | zero => exact not_none (by simpa only [p_ref13_Pick_L1] using H)
  | succ n =>
    unfold p_ref13_Pick_L1 at H
    refine AWP_seq (AWP_reg (Rh 4 33 [(0, .ro .unk x0.length (TRange.cl x0)), (1, iA x1), (5, iA v12), (9, bA (decide (v12 < (lI x0))))] (AOps_done (CD H (fun hb13 H => ?_) (fun hb13 H => ?_)))))
    · refine AWP_skip ?_
      show AWP _ _ _ _ _ _ _
      refine AWP_seq (AWP_block ?_)
      refine AWP_reg (Rh 2 33 [(0, .ro .unk x0.length (TRange.cl x0)), (1, iA x1), (5, iA v12), (12, .ro .unk x0.length (TRange.cl x0)), (13, iA v12)] ?_)
      obtain ⟨v14, hv14, H⟩ := bind_some H
      refine AOps_index (d := (some 14)) (sz := 3) (c := TRange.cs) (by kernel_rfl) rfl (eq_TRange_cl _) (fun _ => rfl) (by decide) hv14 (fun tl14 => ?_)
      refine Rh 5 33 [(0, .ro .unk x0.length (TRange.cl x0)), (1, iA x1), (5, iA v12), (19, bA (decide (v14.gFrom ≤ x1)))] ?_
      obtain ⟨v15, hv15, H⟩ := bind_some H
      refine AOps_cut 8 (st' := fr 33 [(0, .ro .unk x0.length (TRange.cl x0)), (1, iA x1), (5, iA v12), (27, bA ((decide (v14.gFrom ≤ x1)) && (decide (x1 < v15.gTo))))]) (h' := []) ?_ ?_
      rotate_left
      · cases c1 : (decide (v14.gFrom ≤ x1) : Bool) with
        | true =>
          refine R 3 33 [(0, .ro .unk x0.length (TRange.cl x0)), (1, iA x1), (5, iA v12), (19, bA true), (20, iA x1), (21, .ro .unk x0.length (TRange.cl x0)), (22, iA v12)] [] ?_
          have hv15_ := cond_t hv15 (by simp only [c1] <;> rfl)
          refine AOps_index (d := (some 23)) (sz := 3) (c := TRange.cs) (by kernel_rfl) rfl (eq_TRange_cl _) (fun _ => rfl) (by decide) hv15_ (fun tl15 => ?_)
          refine R 4 33 [(0, .ro .unk x0.length (TRange.cl x0)), (1, iA x1), (5, iA v12), (27, bA (true && (decide (x1 < v15.gTo))))] [] ?_
          exact AOps_here [0, 1, 5, 27] (by kernel_rfl) rfl
        | false =>
          refine R 8 33 [(0, .ro .unk x0.length (TRange.cl x0)), (1, iA x1), (5, iA v12), (27, bA (false && (decide (x1 < v15.gTo))))] [] ?_
          exact AOps_here [0, 1, 5, 27] (by kernel_rfl) rfl
      refine AOps_done (CD H (fun hb16 H => ?_) (fun hb16 H => ?_))
      · refine AWP_reg (Rh 2 33 [(28, .ro .unk x0.length (TRange.cl x0)), (29, iA v12)] ?_)
        obtain ⟨v17, hv17, H⟩ := bind_some H
        refine AOps_index (d := (some 30)) (sz := 3) (c := TRange.cs) (by kernel_rfl) rfl (eq_TRange_cl _) (fun _ => rfl) (by decide) hv17 (fun tl17 => ?_)
        refine Rh 3 33 [(4, iA v17.gVariation)] (AOps_done ?_)
        exact AWP_ret (FR H)
      · refine AWP_skip ?_
        show AWP _ _ _ _ _ _ _
        refine AWP_region ?_
        refine Rh 3 33 [(0, .ro .unk x0.length (TRange.cl x0)), (1, iA x1), (5, iA (w64 (v12 + 1)))] (AOps_done ?_)
        exact Exists.intro (w64 (v12 + 1)) (Exists.intro n ⟨by omega, ⟨by omega, H⟩, Norm_fd [0, 1, 5] 0 (by kernel_rfl) rfl rfl trivial (by refine scL_fr ?_; exact ⟨(scl_TRange_cl _ _), trivial, trivial, trivial⟩)⟩)
    · refine AWP_exit ?_
      show AWP _ _ _ _ _ _ _
      refine AWP_reg (Rh 1 33 [(4, iA 0)] (AOps_done ?_))
      exact AWP_ret (FR H)
end Go.Proofs.YtjhbobacbaikoaaGreatDoor
/- Drawn splits: each bucket is in one of their ranges; splits in which something was changed. -/
namespace Go.Proofs.YtjhbobacbaikoaaGreatDoor
open Go
set_option linter.unusedVariables false
set_option linter.unusedSimpArgs false
set_option maxRecDepth 100000
/-- The ranges follow each other from a to b; each has a variation up to k that differs from the one before it. -/
def chain (k : Int) : Int → Int → List TRange → Int → Int → Prop
  | a, v, [], b, w => a = b ∧ v = w
  | a, v, r :: rs, b, w => 1 ≤ r.gVariation ∧ r.gVariation ≤ k ∧ r.gFrom = a ∧ a < r.gTo ∧ r.gVariation ≠ v ∧ chain k r.gTo r.gVariation rs b w
theorem chain_append {k : Int} : ∀ {l : List TRange} {a v b w : Int}, chain k a v l b w → ∀ {r : TRange}, 1 ≤ r.gVariation → r.gVariation ≤ k → r.gFrom = b → b < r.gTo → r.gVariation ≠ w → chain k a v (l ++ [r]) r.gTo r.gVariation
  | [], a, v, b, w, h, r, h1, h2, h3, h4, h5 => by
    obtain ⟨rfl, rfl⟩ := h
    exact ⟨h1, h2, h3, h4, h5, rfl, rfl⟩
  | x :: l, a, v, b, w, h, r, h1, h2, h3, h4, h5 => ⟨h.1, h.2.1, h.2.2.1, h.2.2.2.1, h.2.2.2.2.1, chain_append h.2.2.2.2.2 h1 h2 h3 h4 h5⟩
theorem drop_cons {α : Type} {l : List α} {i : Nat} {r : α} {rs : List α} (h : l.drop i = r :: rs) : ∃ hi : i < l.length, l[i] = r ∧ l.drop (i + 1) = rs := by
  have hi : i < l.length := by
    by_cases c : i < l.length
    · exact c
    · rw [List.drop_eq_nil_of_le (by omega)] at h; cases h
  rw [List.drop_eq_getElem_cons hi] at h
  obtain ⟨h1, h2⟩ := List.cons.inj h
  exact ⟨hi, h1, h2⟩
theorem drop_nil {α : Type} {l : List α} {i : Nat} (h : l.drop i = []) (hi : i ≤ l.length) : i = l.length := by
  have := congrArg List.length h
  rw [List.length_drop, List.length_nil] at this
  omega
theorem split_ok {k : Int} {l : List TRange} {w : Int} (hl : l.length ≤ 16) (h : chain k 0 0 l 10000 w) : Al fun n => p_shape_Split n l k = some 0 := by
  have key : ∀ (rest : List TRange) (i : Nat) (f a v : Int), l.drop i = rest → i ≤ l.length → chain k a v rest 10000 w → Al fun n => p_shape_Split_L1 n l k i f a v = some 0 := by
    intro rest
    induction rest with
    | nil =>
      intro i f a v hd hi hc
      obtain ⟨rfl, rfl⟩ := hc
      obtain rfl := drop_nil hd hi
      refine Al.succ (.of fun n => ?_)
      rw [p_shape_Split_L1, lI_out]
      simp only [cond_false, when_eq, Option.bind_some]
      rfl
    | cons r rs ih =>
      intro i f a v hd hi hc
      obtain ⟨hi, e1, e2⟩ := drop_cons hd
      obtain ⟨h1, h2, h3, h4, h5, h6⟩ := hc
      refine Al.succ ((ih (i + 1) r.gFrom r.gTo r.gVariation e2 (by omega) h6).mono fun n a1 => ?_)
      rw [p_shape_Split_L1, lI_in hi]
      have c1 : (decide (r.gVariation < 1) || decide (r.gVariation > k)) = false := by simp; omega
      have c2 : (((r.gFrom != a) || decide (r.gTo ≤ r.gFrom)) || (r.gVariation == v)) = false := by
        rw [h3]; simp; exact ⟨h4, h5⟩
      simp only [cond_true, rdO_nat hi, Option.bind_some, e1, c1, c2, cond_false, w64_add (show i + 1 < 9223372036854775808 by omega)]
      exact a1
  have := key l 0 0 0 0 rfl (by omega) h
  refine this.mono fun n a => ?_
  unfold p_shape_Split
  rw [decide_eq_false (show ¬ lI l > 16 by unfold lI; omega)]
  exact a
/-- How many of the ranges have a bucket. -/
def hits (b : Int) : List TRange → Int
  | [] => 0
  | r :: rs => (if r.gFrom ≤ b ∧ b < r.gTo then 1 else 0) + hits b rs
theorem hits_chain {k b : Int} : ∀ {l : List TRange} {a v e w : Int}, chain k a v l e w → b < e → hits b l = if a ≤ b then 1 else 0
  | [], a, v, e, w, h, hb => by
    obtain ⟨rfl, rfl⟩ := h
    rw [hits, if_neg (by omega)]
  | r :: rs, a, v, e, w, h, hb => by
    obtain ⟨h1, h2, h3, h4, h5, h6⟩ := h
    rw [hits, hits_chain h6 hb, h3]
    split <;> split <;> split <;> omega
theorem pick_chain {k b : Int} (l : List TRange) {e w : Int} (hb : b < e) (hll : l.length < 4294967281) : ∀ (rest : List TRange) (i : Nat) (a v : Int), l.drop i = rest → i ≤ l.length → chain k a v rest e w → a ≤ b → ∃ r, 1 ≤ r ∧ Al fun n => p_ref13_Pick_L1 n l b i = some r := by
  intro rest
  induction rest with
  | nil =>
    intro i a v hd hi hc ha
    obtain ⟨rfl, rfl⟩ := hc
    omega
  | cons r rs ih =>
    intro i a v hd hi hc ha
    obtain ⟨hi, e1, e2⟩ := drop_cons hd
    obtain ⟨h1, h2, h3, h4, h5, h6⟩ := hc
    by_cases c : b < r.gTo
    · refine ⟨r.gVariation, h1, Al.succ (.of fun n => ?_)⟩
      rw [p_ref13_Pick_L1, lI_in hi]
      simp only [cond_true, rdO_nat hi, Option.bind_some, e1, decide_eq_true (show r.gFrom ≤ b by omega), decide_eq_true c, Bool.and_self]
    · obtain ⟨q, hq, ha⟩ := ih (i + 1) r.gTo r.gVariation e2 (by omega) h6 (by omega)
      refine ⟨q, hq, Al.succ (ha.mono fun n a1 => ?_)⟩
      rw [p_ref13_Pick_L1, lI_in hi]
      simp only [cond_true, rdO_nat hi, Option.bind_some, e1, decide_eq_true (show r.gFrom ≤ b by omega), decide_eq_false c, Bool.and_false, cond_false, w64_add (show i + 1 < 9223372036854775808 by omega)]
      exact a1
/-! ## drawing -/
theorem wide_gv {c : TCodes} (hc : c.cok) {k : Int} (h0 : 0 < k) (h1 : k < 4611686018427387904) : Gv (fun n => p_draw_Codes_Wide n c k) fun r => 0 ≤ r.1 ∧ r.1 < k ∧ r.2.cok := by
  unfold p_draw_Codes_Wide
  refine Gv.bind (next_gv hc (k := 256) (by decide) (by decide)) fun a ha => ?_
  refine Gv.bind (next_gv ha.2.2 (k := 256) (by decide) (by decide)) fun b hb => ?_
  have w1 : w64 (256 * a.1) = 256 * a.1 := w64_of (by omega) (by omega)
  have w2 : w64 (256 * a.1 + b.1) = 256 * a.1 + b.1 := w64_of (by omega) (by omega)
  rw [w1, w2]
  have e : remO (256 * a.1 + b.1) k = some ((256 * a.1 + b.1).tmod k) := by
    unfold remO
    rw [beq_eq_false_iff_ne.2 (show k ≠ 0 by omega)]; rfl
  exact Gv.bind (Gv.opt (Q := fun r => 0 ≤ r ∧ r < k) e ⟨Int.tmod_nonneg _ (by omega), Int.tmod_lt_of_pos _ h0⟩) fun r hr => Gv.pure ⟨hr.1, hr.2, hb.2.2⟩
/-- The next variation. -/
theorem turn_ne {v k : Int} (h1 : 1 ≤ v) (h2 : v ≤ k) (hk : 2 ≤ k) (hk2 : k < 4611686018427387904) : ∃ u, remO v k = some u ∧ w64 (1 + u) = 1 + u ∧ 1 ≤ 1 + u ∧ 1 + u ≤ k ∧ 1 + u ≠ v := by
  by_cases c : v < k
  · refine ⟨v, ?_, ?_⟩
    · unfold remO
      rw [beq_eq_false_iff_ne.2 (show k ≠ 0 by omega), Int.tmod_eq_of_lt (by omega) c]; rfl
    · exact ⟨w64_of (by omega) (by omega), by omega, by omega, by omega⟩
  · obtain rfl : v = k := by omega
    refine ⟨0, ?_, rfl, by omega, by omega, by omega⟩
    unfold remO
    rw [beq_eq_false_iff_ne.2 (show v ≠ 0 by omega), Int.tmod_self]; rfl
theorem split_K1 {k : Int} (h0 : 0 < k) (h1 : k < 1000) {l : List TRange} {a v : Int} (hl : l.length ≤ 3) (hc0 : chain k 0 0 l a v) (ha : a < 10000) (hv : k = 1 → v = 0) {c : TCodes} (hc : c.cok) :
    Gv (fun n => p_draw_Codes_Split_K1 n k l a v c.glist c.gat) fun r => (∃ w, chain k 0 0 r.1 10000 w) ∧ r.1.length ≤ 4 ∧ r.2.cok := by
  have K2 : ∀ (s : Int × TCodes) (u : Int), s.2.cok → 1 ≤ u → u ≤ k → u ≠ v → Gv (fun n => p_draw_Codes_Split_K2 n l a s u) fun r => (∃ w, chain k 0 0 r.1 10000 w) ∧ r.1.length ≤ 4 ∧ r.2.cok := by
    intro s u hs h1 h2 h3
    unfold p_draw_Codes_Split_K2
    refine Gv.bind (Gv.app (Q := fun m => m = l ++ [{ gFrom := a, gTo := 10000, gVariation := u }]) (by simp; omega) (by decide) rfl) ?_
    rintro m rfl
    exact Gv.pure ⟨⟨u, chain_append hc0 h1 h2 rfl ha h3⟩, by simp; omega, hs⟩
  unfold p_draw_Codes_Split_K1
  refine Gv.bind (next_gv hc (k := k) h0 (by omega)) fun s hs => ?_
  rw [w64_of (show -9223372036854775808 ≤ 1 + s.1 by omega) (by omega)]
  refine Gv.cond (fun h => ?_) fun h => ?_
  · have h := beq_iff_eq.1 h
    have hk2 : 2 ≤ k := by
      by_cases c : k = 1
      · have := hv c; omega
      · omega
    obtain ⟨u, e, w, g1, g2, g3⟩ := turn_ne (v := 1 + s.1) (k := k) (by omega) (by omega) hk2 (by omega)
    refine Gv.bind (Gv.opt (Q := fun r => r = u) e rfl) ?_
    rintro r rfl
    rw [w]
    exact K2 s _ hs.2.2 g1 g2 (by omega)
  · exact K2 s _ hs.2.2 (by omega) (by omega) (beq_eq_false_iff_ne.1 h)
theorem split_L1 {k : Int} (h0 : 0 < k) (h1 : k < 1000) : ∀ (q i : Nat) (l : List TRange) (a v : Int) (c : TCodes), i + q = 3 → l.length = i → chain k 0 0 l a v → 0 ≤ a → a < 10000 → (k = 1 → v = 0) → c.cok →
    Gv (fun n => p_draw_Codes_Split_L1 n k l a v i c.glist c.gat) fun r => (∃ w, chain k 0 0 r.1 10000 w) ∧ r.1.length ≤ 4 ∧ r.2.cok := by
  intro q
  induction q with
  | zero =>
    intro i l a v c hi hl hch ha0 ha hv hc
    refine Gv.succ ?_
    simp only [p_draw_Codes_Split_L1]
    refine Gv.bind (next_gv hc (k := 4) (by decide) (by decide)) fun s hs => Gv.cond (fun h => ?_) fun h => split_K1 h0 h1 (by omega) hch ha hv hs.2.2
    have h := of_decide_eq_true (Bool.and_eq_true_iff.1 h).1
    omega
  | succ q ih =>
    intro i l a v c hi hl hch ha0 ha hv hc
    refine Gv.succ ?_
    simp only [p_draw_Codes_Split_L1]
    refine Gv.bind (next_gv hc (k := 4) (by decide) (by decide)) fun s hs => Gv.cond (fun h => ?_) fun h => split_K1 h0 h1 (by omega) hch ha hv hs.2.2
    have hk2 := of_decide_eq_true (Bool.and_eq_true_iff.1 h).2
    refine Gv.bind (wide_gv hs.2.2 (k := 5000) (by decide) (by decide)) fun x hx => ?_
    refine Gv.bind (next_gv hx.2.2 (k := k) h0 (by omega)) fun y hy => ?_
    rw [w64_of (show -9223372036854775808 ≤ 1 + y.1 by omega) (by omega)]
    have K3 : ∀ u : Int, 1 ≤ u → u ≤ k → u ≠ v → Gv (fun n => p_draw_Codes_Split_K3 n k l a v i x y u) fun r => (∃ w, chain k 0 0 r.1 10000 w) ∧ r.1.length ≤ 4 ∧ r.2.cok := by
      intro u g1 g2 g3
      refine Gv.succ ?_
      simp only [p_draw_Codes_Split_K3]
      have e : w64 (w64 (a + 1) + x.1) = a + 1 + x.1 := by rw [w64_of (show -9223372036854775808 ≤ a + 1 by omega) (by omega), w64_of (by omega) (by omega)]
      rw [e]
      refine Gv.cond (fun h => split_K1 h0 h1 (by omega) hch ha hv hy.2.2) fun h => ?_
      have h := of_decide_eq_false h
      refine Gv.bind (Gv.app (Q := fun m => m = l ++ [{ gFrom := a, gTo := a + 1 + x.1, gVariation := u }]) (by simp; omega) (by decide) rfl) ?_
      rintro m rfl
      rw [w64_add (by omega)]
      exact ih (i + 1) _ _ _ y.2 (by omega) (by simp; omega) (chain_append hch g1 g2 rfl (by show a < a + 1 + x.1; omega) g3) (by omega) (by omega) (fun h => by omega) hy.2.2
    refine Gv.cond (fun h => ?_) fun h => ?_
    · have h := beq_iff_eq.1 h
      obtain ⟨u, e, w, g1, g2, g3⟩ := turn_ne (v := 1 + y.1) (k := k) (by omega) (by omega) hk2 (by omega)
      refine Gv.bind (Gv.opt (Q := fun r => r = u) e rfl) ?_
      rintro r rfl
      rw [w]
      exact K3 _ g1 g2 (by omega)
    · exact K3 _ (by omega) (by omega) (beq_eq_false_iff_ne.1 h)
theorem split_gv {k : Int} (h0 : 0 < k) (h1 : k < 1000) {c : TCodes} (hc : c.cok) : Gv (fun n => p_draw_Codes_Split n c k) fun r => (∃ w, chain k 0 0 r.1 10000 w) ∧ r.1.length ≤ 4 ∧ r.2.cok := by
  unfold p_draw_Codes_Split
  exact split_L1 h0 h1 3 0 [] 0 0 c rfl rfl ⟨rfl, rfl⟩ (by omega) (by omega) (fun _ => rfl) hc
/-! ## a split in which something was changed -/
theorem ranges_L1 : ∀ (q i : Nat) (l : List TRange) (c : TCodes), i + q = 17 → l.length = i → c.cok → Gv (fun n => p_draw_Codes_ranges_L1 n l i c.glist c.gat) fun r => r.1.length ≤ 17 ∧ r.2.cok := by
  have fin : ∀ (i : Nat) (l : List TRange) (c : TCodes), 0 < i → i ≤ 17 → l.length = i → c.cok →
      Gv (fun n => (rdO l (w64 ((lI l) - 1))).bind fun v => p_draw_Codes_ranges_K1 n (l.set (w64 ((lI l) - 1)).toNat ({ gFrom := v.gFrom, gTo := 10000, gVariation := v.gVariation } : TRange)) c.glist c.gat) fun r => r.1.length ≤ 17 ∧ r.2.cok := by
    intro i l c h0 h1 hl hc
    have e : w64 (lI l - 1) = (l.length : Int) - 1 := by unfold lI; rw [w64_of (by omega) (by omega)]
    rw [e]
    refine Gv.bind (Gv.rd (Q := fun _ => True) (by omega) (by omega) fun _ _ => trivial) fun v _ => ?_
    unfold p_draw_Codes_ranges_K1
    exact Gv.pure ⟨by rw [List.length_set]; omega, hc⟩
  intro q
  induction q with
  | zero =>
    intro i l c hi hl hc
    refine Gv.succ ?_
    simp only [p_draw_Codes_ranges_L1]
    refine Gv.bind (next_gv hc (k := 2) (by decide) (by decide)) fun s hs => ?_
    rw [w64_of (show -9223372036854775808 ≤ 16 + s.1 by omega) (by omega)]
    refine Gv.cond (fun h => ?_) fun h => fin i l s.2 (by omega) (by omega) hl hs.2.2
    have h := of_decide_eq_true h
    omega
  | succ q ih =>
    intro i l c hi hl hc
    refine Gv.succ ?_
    simp only [p_draw_Codes_ranges_L1]
    refine Gv.bind (next_gv hc (k := 2) (by decide) (by decide)) fun s hs => ?_
    rw [w64_of (show -9223372036854775808 ≤ 16 + s.1 by omega) (by omega)]
    refine Gv.cond (fun h => ?_) fun h => ?_
    · have e : remO (i : Int) 2 = some ((i : Int).tmod 2) := rfl
      refine Gv.bind (Gv.opt (Q := fun _ => True) e trivial) fun u _ => ?_
      refine Gv.bind (Gv.app (Q := fun m => m.length = i + 1) (by simp; omega) (by decide) (by simp; omega)) fun m hm => ?_
      rw [w64_add (by omega)]
      exact ih (i + 1) m s.2 (by omega) hm hs.2.2
    · have h := of_decide_eq_false h
      exact fin i l s.2 (by omega) (by omega) hl hs.2.2
theorem ranges_gv {l : List TRange} (hl : l.length ≤ 10000) {c : TCodes} (hc : c.cok) : Gv (fun n => p_draw_Codes_ranges n c l) fun r => r.1.length ≤ l.length + 17 ∧ r.2.cok := by
  unfold p_draw_Codes_ranges
  refine Gv.bind (Gv.app (Q := fun m => m = l) (by simp; omega) (by decide) (by simp)) ?_
  rintro m rfl
  refine Gv.cond (fun _ => Gv.pure ⟨by show m.length ≤ m.length + 17; omega, hc⟩) fun h => ?_
  have h := beq_eq_false_iff_ne.1 h
  have h0 : 0 < m.length := by unfold lI at h; omega
  refine Gv.bind (next_gv hc (k := lI m) (by unfold lI; omega) (by unfold lI; omega)) fun s hs => ?_
  refine Gv.bind (next_gv hs.2.2 (k := 6) (by decide) (by decide)) fun t ht => ?_
  have rd : ∀ {Q : TRange → Prop}, (∀ x ∈ m, Q x) → Gv (fun _ => rdO m s.1) Q := fun q => Gv.rd hs.1 hs.2.1 q
  have st : ∀ {j : Nat} {x : TRange} {c' : TCodes}, c'.cok → Gv (fun n => p_draw_Codes_ranges_K1 n (m.set j x) c'.glist c'.gat) fun r => r.1.length ≤ m.length + 17 ∧ r.2.cok := fun hc' => by
    unfold p_draw_Codes_ranges_K1
    exact Gv.pure ⟨by rw [List.length_set]; omega, hc'⟩
  refine Gv.cond (fun _ => ?_) fun _ => Gv.cond (fun _ => ?_) fun _ => Gv.cond (fun _ => ?_) fun _ => Gv.cond (fun _ => ?_) fun _ => Gv.cond (fun _ => ?_) fun _ => Gv.cond (fun _ => ?_) fun _ => ?_
  · exact Gv.bind (number_gv ht.2.2) fun u hu => Gv.bind (rd (Q := fun _ => True) fun _ _ => trivial) fun x _ => st hu
  · exact Gv.bind (number_gv ht.2.2) fun u hu => Gv.bind (rd (Q := fun _ => True) fun _ _ => trivial) fun x _ => st hu
  · exact Gv.bind (number_gv ht.2.2) fun u hu => Gv.bind (rd (Q := fun _ => True) fun _ _ => trivial) fun x _ => st hu
  · have e : cutL m 0 s.1 = some ((m.take s.1.toNat).drop 0) := by
      have h2 : s.1 < (m.length : Int) := hs.2.1
      unfold cutL
      rw [decide_eq_true (show (0 : Int) ≤ 0 by omega), decide_eq_true hs.1, decide_eq_true (show s.1 ≤ m.length by omega)]
      rfl
    refine Gv.bind (Gv.opt (Q := fun r => r.length ≤ m.length) e (by simp; omega)) fun r hr => ?_
    unfold p_draw_Codes_ranges_K1
    exact Gv.pure ⟨by show r.length ≤ m.length + 17; omega, ht.2.2⟩
  · refine Gv.bind (rd (Q := fun _ => True) fun _ _ => trivial) fun x _ => ?_
    refine Gv.bind (Gv.app (Q := fun k => k.length = m.length + 1) (by simp; omega) (by decide) (by simp)) fun k hk => ?_
    unfold p_draw_Codes_ranges_K1
    exact Gv.pure ⟨by show k.length ≤ m.length + 17; omega, ht.2.2⟩
  · exact (ranges_L1 17 0 [] t.2 rfl rfl ht.2.2).mono fun r hr => ⟨by omega, hr.2⟩
  · unfold p_draw_Codes_ranges_K1
    exact Gv.pure ⟨by show m.length ≤ m.length + 17; omega, ht.2.2⟩
end Go.Proofs.YtjhbobacbaikoaaGreatDoor
