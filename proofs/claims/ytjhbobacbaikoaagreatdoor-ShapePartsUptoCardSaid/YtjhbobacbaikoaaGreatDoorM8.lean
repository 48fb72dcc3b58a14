/- Drawn tests are well-formed parts. -/
import Derived.Test.YtjhbobacbaikoaaGreatDoorM5
import Derived.Test.YtjhbobacbaikoaaGreatDoorM7
import Derived.Test.YtjhbobacbaikoaaGreatDoorM6
import Derived.Test.YtjhbobacbaikoaaGreatDoorM4
namespace Go.Proofs.YtjhbobacbaikoaaGreatDoor
open Go
set_option linter.unusedVariables false
set_option linter.unusedSimpArgs false
set_option maxRecDepth 100000
theorem good_check (n : Nat) : ∀ v ∈ goodV, p_value_Check (n + 60) v = some 0 := by
  have h : (goodV.all fun v => p_value_Check (n + 60) v == some 0) = true := by kernel_rfl
  intro v hv
  exact beq_iff_eq.1 (List.all_eq_true.1 h v hv)
/-! ## a part that is well-formed -/
theorem part_loop2 (x : TExpr) (hl : x.gValues.length ≤ 20) (hv : ∀ v ∈ x.gValues, Al fun n => p_value_Check n v = some 0) (ht : x.gOp = 9 ∨ x.gOp = 10 ∨ x.gOp = 11 → ∃ v, x.gValues[0]? = some v ∧ v.gKind = 3) : Al fun n => p_shape_part_L2 n x 0 = some 0 := by
  refine loop1 (fun n i => p_shape_part_L2 n x i) x.gValues.length (fun _ => 0) (fun i hi => ?_) ?_ 0 (by omega)
  · have hd : decide ((i : Int) < lI x.gValues) = true := decide_eq_true (by unfold lI; omega)
    refine (hv _ (List.getElem_mem hi)).mono fun n a => .inr ⟨?_, rfl⟩
    rw [p_shape_part_L2, hd]
    simp only [cond_true, rdO_nat hi, Option.bind_some, a, bne_self_eq_false, cond_false, w64_add (show i + 1 < 9223372036854775808 by omega)]
  · have hd : decide (((x.gValues.length : Nat) : Int) < lI x.gValues) = false := decide_eq_false (by unfold lI; omega)
    refine .of fun n => ?_
    rw [p_shape_part_L2, hd]
    cases hc : (((x.gOp == 9) || (x.gOp == 10)) || (x.gOp == 11)) with
    | true =>
      obtain ⟨v, h0, h3⟩ := ht (by simpa [or_assoc] using hc)
      have h0l : 0 < x.gValues.length := (List.getElem?_eq_some_iff.1 h0).1
      have hr : rdO x.gValues 0 = some v := (rdO_nat (xs := x.gValues) (i := 0) h0l).trans ((List.getElem?_eq_getElem h0l).symm.trans h0)
      simp only [cond_false, cond_true, hr, Option.bind_some, when_eq, Bool.true_and, h3]
      rfl
    | false =>
      simp only [cond_false, Option.bind_some, when_eq, Bool.false_and]
      rfl
theorem part_ok (x : TExpr) (hop : 1 ≤ x.gOp ∧ x.gOp ≤ 15) (hs : ∀ n, p_shape_shape n x = some true) (hk : x.gKids.length ≤ 12) (hl : x.gValues.length ≤ 20) (hne : x.gOp = 2 ∨ x.gOp = 3 → ∀ k ∈ x.gKids, k.gOp ≠ x.gOp)
    (hkey : 6 ≤ x.gOp → Al fun n => p_text_Key n x.gKind = some true) (hname : 5 ≤ x.gOp → Al fun n => p_text_Key n x.gName = some true)
    (hv : ∀ v ∈ x.gValues, Al fun n => p_value_Check n v = some 0) (ht : x.gOp = 9 ∨ x.gOp = 10 ∨ x.gOp = 11 → ∃ v, x.gValues[0]? = some v ∧ v.gKind = 3) : Al fun n => p_shape_part n x 0 = some 0 := by
  have h2 := part_loop2 x hl hv ht
  have e0 : (decide (x.gOp < 1) || decide (x.gOp > 15)) = false := by simp; omega
  have e1 : (decide (lI x.gKids > 12) || decide (lI x.gValues > 20)) = false := by unfold lI; simp; omega
  have h1 : Al fun n => p_shape_part_L1 n x 0 = some 0 := by
    refine loop1 (fun n i => p_shape_part_L1 n x i) x.gKids.length (fun _ => 0) (fun i hi => ?_) ?_ 0 (by omega)
    · have hd : decide ((i : Int) < lI x.gKids) = true := decide_eq_true (by unfold lI; omega)
      refine .of fun n => .inr ⟨?_, rfl⟩
      rw [p_shape_part_L1, hd]
      have hc : (x.gKids[i].gOp == x.gOp && (x.gOp == 2 || x.gOp == 3)) = false := by
        by_cases h : x.gOp = 2 ∨ x.gOp = 3
        · rw [beq_eq_false_iff_ne.2 (hne h _ (List.getElem_mem hi))]; rfl
        · rw [beq_eq_false_iff_ne.2 (show x.gOp ≠ 2 by omega), beq_eq_false_iff_ne.2 (show x.gOp ≠ 3 by omega)]; simp
      simp only [cond_true, rdO_nat hi, Option.bind_some, hc, cond_false, w64_add (show i + 1 < 9223372036854775808 by omega)]
    · have hd : decide (((x.gKids.length : Nat) : Int) < lI x.gKids) = false := decide_eq_false (by unfold lI; omega)
      have ht : ∀ n, p_shape_test n x.gOp = some (decide (x.gOp ≥ 6) && decide (x.gOp ≤ 15)) := fun n => rfl
      by_cases h6 : 6 ≤ x.gOp
      · refine (h2.and ((hkey h6).and (hname (by omega)))).mono fun n ⟨a, b, c⟩ => ?_
        rw [p_shape_part_L1, hd]
        simp only [cond_false, ht, decide_eq_true (show x.gOp ≥ 6 from h6), decide_eq_true hop.2, Bool.and_self, Option.bind_some, cond_true, b, c, Bool.not_true, Bool.and_false, Bool.not_false, Bool.true_and, Bool.true_or, Bool.or_self, a]
      · by_cases h5 : x.gOp = 5
        · refine (h2.and (hname (by omega))).mono fun n ⟨a, c⟩ => ?_
          rw [p_shape_part_L1, hd]
          have ht5 : ∀ n, p_shape_test n 5 = some false := fun n => rfl
          simp only [cond_false, h5, ht5, Bool.false_and, Option.bind_some, Bool.not_false, cond_true, beq_self_eq_true, Bool.true_and, Bool.false_or, c, Bool.not_true, a]
        · refine h2.mono fun n a => ?_
          rw [p_shape_part_L1, hd]
          simp only [cond_false, ht, decide_eq_false (show ¬ x.gOp ≥ 6 by omega), Bool.false_and, Option.bind_some, Bool.not_false, cond_true, beq_eq_false_iff_ne.2 h5, Bool.true_and, Bool.false_or, Bool.not_true, a, Bool.or_self]
  refine h1.mono fun n a => ?_
  unfold p_shape_part
  rw [e0, hs]
  simp only [decide_eq_false (show ¬ (0 : Int) ≥ 10 by decide), cond_false, Option.bind_some, Bool.not_true, e1, a]
theorem words_key (n : Nat) : ∀ w ∈ dkinds ++ dnames, p_text_Key (n + 60) w = some true := by
  have h : ((dkinds ++ dnames).all fun w => p_text_Key (n + 60) w == some true) = true := by kernel_rfl
  intro w hw
  exact beq_iff_eq.1 (List.all_eq_true.1 h w hw)
theorem test_shape {x : TExpr} (h : TestG x) (n : Nat) : p_shape_shape n x = some true := by
  have e1 : (x.gOp == 2) = false := beq_eq_false_iff_ne.2 (by have := h.op6; omega)
  have e2 : (x.gOp == 3) = false := beq_eq_false_iff_ne.2 (by have := h.op6; omega)
  have e3 : (x.gOp == 4) = false := beq_eq_false_iff_ne.2 (by have := h.op6; omega)
  have e4 : decide (lI x.gKids > 0) = false := by rw [h.kids]; rfl
  have e5 : decide (x.gOp ≥ 6) = true := decide_eq_true h.op6
  have e6 : decide (x.gOp ≤ 15) = true := decide_eq_true h.op15
  unfold p_shape_shape p_shape_shape_K1 p_shape_test
  rw [e1, e2, e3, e4, e5, e6]
  simp only [Bool.or_self, cond_false, Bool.and_self, Option.bind_some, Bool.not_true, Bool.false_and, Bool.true_and]
  by_cases h8 : x.gOp = 8
  · rw [h8]; simp only [beq_self_eq_true, cond_true]
    rw [decide_eq_true (show lI x.gValues > 0 by unfold lI; have := h.len8 h8; omega)]
  · rw [beq_eq_false_iff_ne.2 h8]
    by_cases h6 : x.gOp = 6
    · rw [h6, h.len6 h6]; rfl
    · have := h.len1 h6 h8
      have e7 : (x.gOp != 6) = true := by rw [bne_iff_ne]; exact h6
      rw [e7]
      have : (lI x.gValues == 1) = true := by rw [beq_iff_eq]; unfold lI; omega
      rw [this]; rfl
theorem test_part {x : TExpr} (h : TestG x) : Al fun n => p_shape_part n x 0 = some 0 := by
  refine part_ok x ⟨by have := h.op6; omega, h.op15⟩ (test_shape h) (by rw [h.kids]; decide) (by have := h.len; omega) (fun hk => by have := h.op6; omega)
    (fun _ => Al.addk 60 fun n => words_key n _ (List.mem_append_left _ h.kind)) (fun _ => Al.addk 60 fun n => words_key n _ (List.mem_append_right _ h.name)) (fun v hv => Al.addk 60 fun n => good_check n v (h.vals v hv)) h.text
end Go.Proofs.YtjhbobacbaikoaaGreatDoor
/- Bounds of conditions. -/

namespace Go.Proofs.YtjhbobacbaikoaaGreatDoor
open Go
set_option linter.unusedVariables false
set_option linter.unusedSimpArgs false
set_option maxRecDepth 100000
/-! ## size, depth, number of parts -/
mutual
def TExpr.bd (B : Nat) : TExpr → Prop
  | .mk _ k nm vs ks => k.size ≤ 100 ∧ nm.size ≤ 100 ∧ vs.length ≤ B ∧ (∀ v ∈ vs, v.bd) ∧ ks.length ≤ B ∧ TExpr.bdL B ks
def TExpr.bdL (B : Nat) : List TExpr → Prop
  | [] => True
  | x :: xs => x.bd B ∧ TExpr.bdL B xs
end
theorem TExpr.bdL_iff {B : Nat} : ∀ {l : List TExpr}, TExpr.bdL B l ↔ ∀ x ∈ l, x.bd B
  | [] => by simp [TExpr.bdL]
  | x :: l => by rw [TExpr.bdL, TExpr.bdL_iff (l := l)]; simp
theorem TExpr.bd_iff {B : Nat} {x : TExpr} : x.bd B ↔ x.gKind.size ≤ 100 ∧ x.gName.size ≤ 100 ∧ x.gValues.length ≤ B ∧ (∀ v ∈ x.gValues, v.bd) ∧ x.gKids.length ≤ B ∧ ∀ k ∈ x.gKids, k.bd B := by
  cases x with
  | mk op k nm vs ks => rw [TExpr.bd, TExpr.bdL_iff]; exact Iff.rfl
mutual
theorem TExpr.bd_le {B C : Nat} (h : B ≤ C) : ∀ x : TExpr, x.bd B → x.bd C
  | .mk op k nm vs ks => fun hx => by
    rw [TExpr.bd] at hx ⊢
    exact ⟨hx.1, hx.2.1, by have := hx.2.2.1; omega, hx.2.2.2.1, by have := hx.2.2.2.2.1; omega, TExpr.bdL_le h ks hx.2.2.2.2.2⟩
theorem TExpr.bdL_le {B C : Nat} (h : B ≤ C) : ∀ l : List TExpr, TExpr.bdL B l → TExpr.bdL C l
  | [] => fun _ => by rw [TExpr.bdL]; trivial
  | x :: xs => fun hx => by
    rw [TExpr.bdL] at hx ⊢
    exact ⟨TExpr.bd_le h x hx.1, TExpr.bdL_le h xs hx.2⟩
end
theorem TValue.bd_sm {x : TValue} (h : x.bd) : x.sm := ⟨by have := h.1; omega, by have := h.2.1; omega, fun s hs => by have := h.2.2 s hs; omega⟩
mutual
theorem TExpr.bd_sm {B : Nat} (h : B < 4294967281) : ∀ x : TExpr, x.bd B → x.sm
  | .mk op k nm vs ks => fun hx => by
    rw [TExpr.bd] at hx
    rw [TExpr.sm]
    exact ⟨by have := hx.1; omega, by have := hx.2.1; omega, fun v hv => TValue.bd_sm (hx.2.2.2.1 v hv), by have := hx.2.2.2.2.1; omega, TExpr.bdL_sm h ks hx.2.2.2.2.2⟩
theorem TExpr.bdL_sm {B : Nat} (h : B < 4294967281) : ∀ l : List TExpr, TExpr.bdL B l → TExpr.smL l
  | [] => fun _ => by rw [TExpr.smL]; trivial
  | x :: xs => fun hx => by
    rw [TExpr.bdL] at hx
    rw [TExpr.smL]
    exact ⟨TExpr.bd_sm h x hx.1, TExpr.bdL_sm h xs hx.2⟩
end
mutual
def TExpr.parts : TExpr → Nat
  | .mk _ _ _ _ ks => 1 + TExpr.partsL ks
def TExpr.partsL : List TExpr → Nat
  | [] => 0
  | x :: xs => x.parts + TExpr.partsL xs
end
mutual
def TExpr.dep : TExpr → Nat
  | .mk _ _ _ _ ks => 1 + TExpr.depL ks
def TExpr.depL : List TExpr → Nat
  | [] => 0
  | x :: xs => max x.dep (TExpr.depL xs)
end
theorem testG_bd {x : TExpr} (h : TestG x) : x.bd 20 := by
  have h1 := words_size _ (List.mem_append_left _ h.kind)
  have h2 := words_size _ (List.mem_append_right _ h.name)
  have hk := h.kids
  refine TExpr.bd_iff.2 ⟨by omega, by omega, by have := h.len; omega, fun v hv => good_bd v (h.vals v hv), by rw [hk]; decide, fun k hkk => ?_⟩
  rw [hk] at hkk; cases hkk
end Go.Proofs.YtjhbobacbaikoaaGreatDoor
/- A function of the program as a pure function, and that the program computes it. -/
namespace Go.Proofs.YtjhbobacbaikoaaGreatDoor
open Go
set_option linter.unusedVariables false
set_option linter.unusedSimpArgs false
set_option maxRecDepth 100000
def p_ref6_walk_L1 (n : Nat) (self_p_ref6_walk : TExpr → Int → Int → Option (Int × Int)) (x0 : TExpr) (x1 : Int) (v15 : Int) (v16 : Int) : Option (Int × Int) := match n with
| 0 => none
| n + 1 =>
(bif decide (v15 < (lI x0.gKids)) then
(rdO x0.gKids v15).bind fun v18 =>
(self_p_ref6_walk v18 (w64 (x1 + 1)) v16).bind fun v19 =>
(bif v19.1 != 0 then
 some (v19.1, v19.2)
 else
 p_ref6_walk_L1 n self_p_ref6_walk x0 x1 (w64 (v15 + 1)) v19.2)
 else
 some (0, v16))
def p_ref6_walk_F (self_p_ref6_walk : TExpr → Int → Int → Option (Int × Int)) (n : Nat) (x0 : TExpr) (x1 : Int) (x2 : Int) : Option (Int × Int) :=
(bif decide (x2 ≥ 60) then
 some (5, x2)
 else
(bif decide (x1 > 10) then
 some (18, w64 (x2 + 1))
 else
(p_ref6_part n x0).bind fun v3 =>
(bif v3 != 0 then
 some (v3, w64 (x2 + 1))
 else
 p_ref6_walk_L1 n self_p_ref6_walk x0 x1 0 (w64 (x2 + 1)))))
def p_ref6_walk (n : Nat) (x0 : TExpr) (x1 : Int) (x2 : Int) : Option (Int × Int) := match n with
| 0 => none
| n + 1 => p_ref6_walk_F (p_ref6_walk n) n x0 x1 x2
variable {E : Env}
theorem s_ref6_walk_F (hG : GlobT E) {self_p_ref6_walk : TExpr → Int → Int → Option (Int × Int)} (hself_ref6_walk : ∀ {x0 : TExpr}, ∀ {x1 : Int}, ∀ {x2 : Int}, ∀ {r : Int × Int}, self_p_ref6_walk x0 x1 x2 = some r → Sp Tryz.prog E 53 [.agg (TExpr.cs x0), iA x1, .ptr 0 0] [.cells 3 [iA x2]] (isA (iA r.1) [.cells 3 [iA r.2]])) {n : Nat} {x0 : TExpr} {x1 : Int} {x2 : Int} {r : Int × Int} (H : p_ref6_walk_F self_p_ref6_walk n x0 x1 x2 = some r) :
    Sp Tryz.prog E 53 [.agg (TExpr.cs x0), iA x1, .ptr 0 0] [.cells 3 [iA x2]] (isA (iA r.1) [.cells 3 [iA r.2]]) := by
  unfold p_ref6_walk_F at H
  refine Sp_fn Tryz.func53 rfl (fun hc hs => ?_)
  refine AWP_reg (R 2 45 [(1, iA x1), (2, .ptr 0 0), (3, .ptr 1 0)] [.cells 25 (TExpr.cs x0), .cells 3 [iA x2]] (AOps_done (AWP_seq (AWP_reg (Rh 4 45 [(1, iA x1), (2, .ptr 0 0), (3, .ptr 1 0), (13, bA (decide (x2 ≥ 60)))] (AOps_done (CD H (fun hb1 H => ?_) (fun hb1 H => ?_))))))))
  · refine AWP_reg (Rh 1 45 [(6, iA 5)] (AOps_done (AWP_ret ?_)))
    have hr := Option.some.inj H
    subst hr
    exact Fin_retn 1 (l := [iA 5]) (h' := [.cells 3 [iA x2]]) (by kernel_rfl) rfl (Nat.le_of_ble_eq_true rfl) ((by refine Closed_of ?_; exact ⟨⟨trivial, trivial⟩, trivial⟩)) (Frz_sc trivial) ⟨rfl, rfl⟩
  · refine AWP_skip ?_
    show AWP _ _ _ _ _ _ _
    refine AWP_reg (R 6 45 [(1, iA x1), (2, .ptr 0 0), (3, .ptr 1 0)] [.cells 25 (TExpr.cs x0), .cells 3 [iA (w64 (x2 + 1))]] (AOps_done (AWP_seq (AWP_reg (Rh 2 45 [(1, iA x1), (2, .ptr 0 0), (3, .ptr 1 0), (20, bA (decide (x1 > 10)))] (AOps_done (CD H (fun hb2 H => ?_) (fun hb2 H => ?_))))))))
    · refine AWP_reg (Rh 1 45 [(6, iA 18)] (AOps_done (AWP_ret ?_)))
      have hr := Option.some.inj H
      subst hr
      exact Fin_retn 1 (l := [iA 18]) (h' := [.cells 3 [iA (w64 (x2 + 1))]]) (by kernel_rfl) rfl (Nat.le_of_ble_eq_true rfl) ((by refine Closed_of ?_; exact ⟨⟨trivial, trivial⟩, trivial⟩)) (Frz_sc trivial) ⟨rfl, rfl⟩
    · refine AWP_skip ?_
      show AWP _ _ _ _ _ _ _
      refine AWP_seq (AWP_reg (Rh 1 45 [(1, iA x1), (2, .ptr 0 0), (3, .ptr 1 0), (21, .agg (TExpr.cs x0))] ?_))
      obtain ⟨v3, hv3, H⟩ := bind_some H
      refine AOps_callp (d := (some 22)) (al := [.agg (TExpr.cs x0)]) (r := iA v3) (by kernel_rfl) (s_ref6_part hG hv3) ⟨(sc_TExpr_cs _ _), trivial⟩ trivial ?_
      refine Rh 1 45 [(1, iA x1), (2, .ptr 0 0), (3, .ptr 1 0), (7, iA v3)] (AOps_done (AWP_reg (Rh 2 45 [(1, iA x1), (2, .ptr 0 0), (3, .ptr 1 0), (7, iA v3), (24, bA (v3 != 0))] (AOps_done (CD H (fun hb4 H => ?_) (fun hb4 H => ?_))))))
      · refine AWP_reg (Rh 2 45 [(6, iA v3)] (AOps_done (AWP_ret ?_)))
        have hr := Option.some.inj H
        subst hr
        exact Fin_retn 1 (l := [iA v3]) (h' := [.cells 3 [iA (w64 (x2 + 1))]]) (by kernel_rfl) rfl (Nat.le_of_ble_eq_true rfl) ((by refine Closed_of ?_; exact ⟨⟨trivial, trivial⟩, trivial⟩)) (Frz_sc trivial) ⟨rfl, rfl⟩
      · refine AWP_skip ?_
        show AWP _ _ _ _ _ _ _
        refine AWP_seq (AWP_reg (Rh 1 45 [(1, iA x1), (2, .ptr 0 0), (3, .ptr 1 0), (8, iA 0)] (AOps_done (AWP_block ?_))))
        refine AWP_loopN (α := Int × Int) (fun ⟨v15, v16⟩ => fr 45 [(1, iA x1), (2, .ptr 0 0), (3, .ptr 1 0), (8, iA v15)]) (fun ⟨v15, v16⟩ => [.cells 25 (TExpr.cs x0), .cells 3 [iA v16]]) (fun k_ ⟨v15, v16⟩ => k_ ≤ n ∧ p_ref6_walk_L1 k_ self_p_ref6_walk x0 x1 v15 v16 = some r) (fun n a H => ?_) (k := n) (0, w64 (x2 + 1)) ⟨Nat.le_refl _, H⟩ (Norm_fd [1, 2, 3, 8] 0 (by kernel_rfl) rfl rfl ⟨(sc_TExpr_cs _ _), ⟨trivial, trivial⟩, trivial⟩ (by refine scL_fr ?_; exact ⟨trivial, (sc_ptr rfl), (sc_ptr rfl), trivial, trivial⟩))
        obtain ⟨v15, v16⟩ := a
        show AWP _ _ _ _ _ (fr 45 [(1, iA x1), (2, .ptr 0 0), (3, .ptr 1 0), (8, iA v15)]) [.cells 25 (TExpr.cs x0), .cells 3 [iA v16]]
        obtain ⟨hb_, H⟩ := H
        replace H : p_ref6_walk_L1 n self_p_ref6_walk x0 x1 v15 v16 = some r := H
        cases n with
        | zero => exact not_none (by simpa only [p_ref6_walk_L1] using H)
        | succ n =>
          unfold p_ref6_walk_L1 at H
          refine AWP_seq (AWP_reg (Rh 5 45 [(1, iA x1), (2, .ptr 0 0), (3, .ptr 1 0), (8, iA v15), (30, bA (decide (v15 < (lI x0.gKids))))] (AOps_done (CD H (fun hb17 H => ?_) (fun hb17 H => ?_)))))
          · refine AWP_skip ?_
            show AWP _ _ _ _ _ _ _
            refine AWP_seq (AWP_block ?_)
            refine AWP_reg (Rh 3 45 [(1, iA x1), (2, .ptr 0 0), (3, .ptr 1 0), (8, iA v15), (34, .ro .unk x0.gKids.length (TExpr.cl x0.gKids)), (35, iA v15)] ?_)
            obtain ⟨v18, hv18, H⟩ := bind_some H
            refine AOps_index (d := (some 36)) (sz := 5) (c := TExpr.cs) (by kernel_rfl) rfl (eq_TExpr_cl _) (fun _ => rfl) (by decide) hv18 (fun tl18 => ?_)
            refine Rh 4 45 [(1, iA x1), (2, .ptr 0 0), (3, .ptr 1 0), (8, iA v15), (37, .agg (TExpr.cs v18)), (39, iA (w64 (x1 + 1))), (40, .ptr 0 0)] ?_
            obtain ⟨v19, hv19, H⟩ := bind_some H
            refine AOps_call1 (d := (some 41)) (al := [.agg (TExpr.cs v18), iA (w64 (x1 + 1)), .ptr 0 0]) ([.agg (TExpr.cs v18), iA (w64 (x1 + 1)), .ptr 0 0]) (r := iA v19.1) (j := 0) (b' := .cells 3 [iA v19.2]) (by kernel_rfl) rfl (hself_ref6_walk hv19) (⟨trivial, trivial⟩) (⟨trivial, trivial⟩) ⟨(sc_TExpr_cs _ _), trivial, Nat.zero_lt_one, trivial⟩ trivial rfl (h' := [.cells 25 (TExpr.cs x0), .cells 3 [iA v19.2]]) rfl ?_
            refine Rh 1 45 [(1, iA x1), (2, .ptr 0 0), (3, .ptr 1 0), (8, iA v15), (9, iA v19.1)] (AOps_done (AWP_reg (Rh 2 45 [(1, iA x1), (2, .ptr 0 0), (3, .ptr 1 0), (8, iA v15), (9, iA v19.1), (43, bA (v19.1 != 0))] (AOps_done (CD H (fun hb20 H => ?_) (fun hb20 H => ?_))))))
            · refine AWP_reg (Rh 2 45 [(6, iA v19.1)] (AOps_done (AWP_ret ?_)))
              have hr := Option.some.inj H
              subst hr
              exact Fin_retn 1 (l := [iA v19.1]) (h' := [.cells 3 [iA v19.2]]) (by kernel_rfl) rfl (Nat.le_of_ble_eq_true rfl) ((by refine Closed_of ?_; exact ⟨⟨trivial, trivial⟩, trivial⟩)) (Frz_sc trivial) ⟨rfl, rfl⟩
            · refine AWP_skip ?_
              show AWP _ _ _ _ _ _ _
              refine AWP_region ?_
              refine Rh 3 45 [(1, iA x1), (2, .ptr 0 0), (3, .ptr 1 0), (8, iA (w64 (v15 + 1)))] (AOps_done ?_)
              exact Exists.intro (w64 (v15 + 1), v19.2) (Exists.intro n ⟨by omega, ⟨by omega, H⟩, Norm_fd [1, 2, 3, 8] 0 (by kernel_rfl) rfl rfl ⟨(sc_TExpr_cs _ _), ⟨trivial, trivial⟩, trivial⟩ (by refine scL_fr ?_; exact ⟨trivial, (sc_ptr rfl), (sc_ptr rfl), trivial, trivial⟩)⟩)
          · refine AWP_exit ?_
            show AWP _ _ _ _ _ _ _
            refine AWP_reg (Rh 1 45 [(6, iA 0)] (AOps_done (AWP_ret ?_)))
            have hr := Option.some.inj H
            subst hr
            exact Fin_retn 1 (l := [iA 0]) (h' := [.cells 3 [iA v16]]) (by kernel_rfl) rfl (Nat.le_of_ble_eq_true rfl) ((by refine Closed_of ?_; exact ⟨⟨trivial, trivial⟩, trivial⟩)) (Frz_sc trivial) ⟨rfl, rfl⟩
theorem s_all_ref6_walk (hG : GlobT E) : ∀ n : Nat, (∀ {x0 : TExpr}, ∀ {x1 : Int}, ∀ {x2 : Int}, ∀ {r : Int × Int}, p_ref6_walk n x0 x1 x2 = some r → Sp Tryz.prog E 53 [.agg (TExpr.cs x0), iA x1, .ptr 0 0] [.cells 3 [iA x2]] (isA (iA r.1) [.cells 3 [iA r.2]])) := by
  intro n
  induction n with
  | zero => exact fun H => not_none (by simpa only [p_ref6_walk] using H)
  | succ n ih => exact fun H => s_ref6_walk_F hG ih (by simpa only [p_ref6_walk] using H)
theorem s_ref6_walk {n : Nat} (hG : GlobT E) {x0 : TExpr} {x1 : Int} {x2 : Int} {r : Int × Int} (H : p_ref6_walk n x0 x1 x2 = some r) :
    Sp Tryz.prog E 53 [.agg (TExpr.cs x0), iA x1, .ptr 0 0] [.cells 3 [iA x2]] (isA (iA r.1) [.cells 3 [iA r.2]]) := (s_all_ref6_walk hG n) H
end Go.Proofs.YtjhbobacbaikoaaGreatDoor
/- A function of the program as a pure function, and that the program computes it. -/
namespace Go.Proofs.YtjhbobacbaikoaaGreatDoor
open Go
set_option linter.unusedVariables false
set_option linter.unusedSimpArgs false
set_option maxRecDepth 100000
def p_ref6_Expr (n : Nat) (x0 : TExpr) : Option Int :=
(p_ref6_walk n x0 1 0).bind fun v1 =>
 some (v1.1)
variable {E : Env}
theorem s_ref6_Expr {n : Nat} (hG : GlobT E) {x0 : TExpr} {r : Int} (H : p_ref6_Expr n x0 = some r) :
    Sp Tryz.prog E 16 [.agg (TExpr.cs x0)] [] (isA (iA r) []) := by
  unfold p_ref6_Expr at H
  refine Sp_fn Tryz.func16 rfl (fun hc hs => ?_)
  refine AWP_reg (R 2 6 [(1, .ptr 0 0)] [.cells 25 (TExpr.cs x0)] (AOps_done (AWP_reg (R 2 6 [(1, .ptr 0 0), (3, .ptr 1 0)] [.cells 3 [iA 0], .cells 25 (TExpr.cs x0)] (AOps_done (AWP_reg (Rh 1 6 [(3, .ptr 1 0), (4, .agg (TExpr.cs x0))] ?_)))))))
  obtain ⟨v1, hv1, H⟩ := bind_some H
  refine AOps_call1 (d := (some 5)) (al := [.agg (TExpr.cs x0), iA 1, .ptr 0 0]) ([.agg (TExpr.cs x0), iA 1, .ptr 1 0]) (r := iA v1.1) (j := 1) (b' := .cells 3 [iA v1.2]) (by kernel_rfl) rfl (s_ref6_walk hG hv1) (⟨trivial, trivial⟩) (⟨trivial, trivial⟩) ⟨(sc_TExpr_cs _ _), trivial, Nat.zero_lt_one, trivial⟩ trivial rfl (h' := [.cells 3 [iA v1.2], .cells 25 (TExpr.cs x0)]) rfl ?_
  refine Rh 1 6 [(2, iA v1.1)] (AOps_done ?_)
  exact AWP_ret (FR H)
end Go.Proofs.YtjhbobacbaikoaaGreatDoor
/- A function of the program as a pure function, and that the program computes it. -/
namespace Go.Proofs.YtjhbobacbaikoaaGreatDoor
open Go
set_option linter.unusedVariables false
set_option linter.unusedSimpArgs false
set_option maxRecDepth 100000
def p_shape_expr_L1 (n : Nat) (self_p_shape_expr : TExpr → Int → Int → Option (Int × Int)) (x0 : TExpr) (x1 : Int) (v14 : Int) (v15 : Int) : Option (Int × Int) := match n with
| 0 => none
| n + 1 =>
(bif decide (v14 < (lI x0.gKids)) then
(rdO x0.gKids v14).bind fun v17 =>
(self_p_shape_expr v17 (w64 (x1 + 1)) v15).bind fun v18 =>
(bif v18.1 != 0 then
 some (v18.1, v18.2)
 else
 p_shape_expr_L1 n self_p_shape_expr x0 x1 (w64 (v14 + 1)) v18.2)
 else
 some (0, v15))
def p_shape_expr_F (self_p_shape_expr : TExpr → Int → Int → Option (Int × Int)) (n : Nat) (x0 : TExpr) (x1 : Int) (x2 : Int) : Option (Int × Int) :=
(bif decide (x2 ≥ 60) then
 some (5, x2)
 else
(p_shape_part n x0 x1).bind fun v2 =>
(bif v2 != 0 then
 some (v2, w64 (x2 + 1))
 else
 p_shape_expr_L1 n self_p_shape_expr x0 x1 0 (w64 (x2 + 1))))
def p_shape_expr (n : Nat) (x0 : TExpr) (x1 : Int) (x2 : Int) : Option (Int × Int) := match n with
| 0 => none
| n + 1 => p_shape_expr_F (p_shape_expr n) n x0 x1 x2
variable {E : Env}
theorem s_shape_expr_F (hG : GlobT E) {self_p_shape_expr : TExpr → Int → Int → Option (Int × Int)} (hself_shape_expr : ∀ {x0 : TExpr}, ∀ {x1 : Int}, ∀ {x2 : Int}, ∀ {r : Int × Int}, self_p_shape_expr x0 x1 x2 = some r → Sp Tryz.prog E 52 [.agg (TExpr.cs x0), iA x1, .ptr 0 0] [.cells 3 [iA x2]] (isA (iA r.1) [.cells 3 [iA r.2]])) {n : Nat} {x0 : TExpr} {x1 : Int} {x2 : Int} {r : Int × Int} (H : p_shape_expr_F self_p_shape_expr n x0 x1 x2 = some r) :
    Sp Tryz.prog E 52 [.agg (TExpr.cs x0), iA x1, .ptr 0 0] [.cells 3 [iA x2]] (isA (iA r.1) [.cells 3 [iA r.2]]) := by
  unfold p_shape_expr_F at H
  refine Sp_fn Tryz.func52 rfl (fun hc hs => ?_)
  refine AWP_reg (R 2 42 [(1, iA x1), (2, .ptr 0 0), (3, .ptr 1 0)] [.cells 25 (TExpr.cs x0), .cells 3 [iA x2]] (AOps_done (AWP_seq (AWP_reg (Rh 4 42 [(1, iA x1), (2, .ptr 0 0), (3, .ptr 1 0), (14, bA (decide (x2 ≥ 60)))] (AOps_done (CD H (fun hb1 H => ?_) (fun hb1 H => ?_))))))))
  · refine AWP_reg (Rh 1 42 [(6, iA 5)] (AOps_done (AWP_ret ?_)))
    have hr := Option.some.inj H
    subst hr
    exact Fin_retn 1 (l := [iA 5]) (h' := [.cells 3 [iA x2]]) (by kernel_rfl) rfl (Nat.le_of_ble_eq_true rfl) ((by refine Closed_of ?_; exact ⟨⟨trivial, trivial⟩, trivial⟩)) (Frz_sc trivial) ⟨rfl, rfl⟩
  · refine AWP_skip ?_
    show AWP _ _ _ _ _ _ _
    refine AWP_reg (R 6 42 [(1, iA x1), (2, .ptr 0 0), (3, .ptr 1 0)] [.cells 25 (TExpr.cs x0), .cells 3 [iA (w64 (x2 + 1))]] (AOps_done (AWP_seq (AWP_reg (Rh 2 42 [(1, iA x1), (2, .ptr 0 0), (3, .ptr 1 0), (20, .agg (TExpr.cs x0)), (21, iA x1)] ?_)))))
    obtain ⟨v2, hv2, H⟩ := bind_some H
    refine AOps_callp (d := (some 22)) (al := [.agg (TExpr.cs x0), iA x1]) (r := iA v2) (by kernel_rfl) (s_shape_part hG hv2) ⟨(sc_TExpr_cs _ _), trivial, trivial⟩ trivial ?_
    refine Rh 1 42 [(1, iA x1), (2, .ptr 0 0), (3, .ptr 1 0), (7, iA v2)] (AOps_done (AWP_reg (Rh 2 42 [(1, iA x1), (2, .ptr 0 0), (3, .ptr 1 0), (7, iA v2), (24, bA (v2 != 0))] (AOps_done (CD H (fun hb3 H => ?_) (fun hb3 H => ?_))))))
    · refine AWP_reg (Rh 2 42 [(6, iA v2)] (AOps_done (AWP_ret ?_)))
      have hr := Option.some.inj H
      subst hr
      exact Fin_retn 1 (l := [iA v2]) (h' := [.cells 3 [iA (w64 (x2 + 1))]]) (by kernel_rfl) rfl (Nat.le_of_ble_eq_true rfl) ((by refine Closed_of ?_; exact ⟨⟨trivial, trivial⟩, trivial⟩)) (Frz_sc trivial) ⟨rfl, rfl⟩
    · refine AWP_skip ?_
      show AWP _ _ _ _ _ _ _
      refine AWP_seq (AWP_reg (Rh 4 42 [(1, iA x1), (2, .ptr 0 0), (27, .ro .unk x0.gKids.length (TExpr.cl x0.gKids)), (28, iA (lI x0.gKids)), (29, iA 0)] (AOps_done (AWP_block ?_))))
      refine AWP_loopN (α := Int × Int) (fun ⟨v14, v15⟩ => fr 42 [(1, iA x1), (2, .ptr 0 0), (27, .ro .unk x0.gKids.length (TExpr.cl x0.gKids)), (28, iA (lI x0.gKids)), (29, iA v14)]) (fun ⟨v14, v15⟩ => [.cells 25 (TExpr.cs x0), .cells 3 [iA v15]]) (fun k_ ⟨v14, v15⟩ => k_ ≤ n ∧ p_shape_expr_L1 k_ self_p_shape_expr x0 x1 v14 v15 = some r) (fun n a H => ?_) (k := n) (0, w64 (x2 + 1)) ⟨Nat.le_refl _, H⟩ (Norm_fd [1, 2, 27, 28, 29] 0 (by kernel_rfl) rfl rfl ⟨(sc_TExpr_cs _ _), ⟨trivial, trivial⟩, trivial⟩ (by refine scL_fr ?_; exact ⟨trivial, (sc_ptr rfl), (scl_TExpr_cl _ _), trivial, trivial, trivial⟩))
      obtain ⟨v14, v15⟩ := a
      show AWP _ _ _ _ _ (fr 42 [(1, iA x1), (2, .ptr 0 0), (27, .ro .unk x0.gKids.length (TExpr.cl x0.gKids)), (28, iA (lI x0.gKids)), (29, iA v14)]) [.cells 25 (TExpr.cs x0), .cells 3 [iA v15]]
      obtain ⟨hb_, H⟩ := H
      replace H : p_shape_expr_L1 n self_p_shape_expr x0 x1 v14 v15 = some r := H
      cases n with
      | zero => exact not_none (by simpa only [p_shape_expr_L1] using H)
      | succ n =>
        unfold p_shape_expr_L1 at H
        refine AWP_reg (Rh 1 42 [(1, iA x1), (2, .ptr 0 0), (27, .ro .unk x0.gKids.length (TExpr.cl x0.gKids)), (28, iA (lI x0.gKids)), (29, iA v14), (30, bA (decide (v14 < (lI x0.gKids))))] (AOps_done (AWP_seq (CD H (fun hb16 H => ?_) (fun hb16 H => ?_)))))
        · refine AWP_skip ?_
          show AWP _ _ _ _ _ _ _
          refine AWP_seq (AWP_block ?_)
          refine AWP_reg ?_
          obtain ⟨v17, hv17, H⟩ := bind_some H
          refine AOps_index (d := (some 31)) (sz := 5) (c := TExpr.cs) (by kernel_rfl) rfl (eq_TExpr_cl _) (fun _ => rfl) (by decide) hv17 (fun tl17 => ?_)
          refine R 3 42 [(1, iA x1), (2, .ptr 0 0), (9, .ptr 2 0), (27, .ro .unk x0.gKids.length (TExpr.cl x0.gKids)), (28, iA (lI x0.gKids)), (29, iA v14)] [.cells 25 (TExpr.cs v17), .cells 25 (TExpr.cs x0), .cells 3 [iA v15]] (AOps_done (AWP_reg (Rh 4 42 [(1, iA x1), (2, .ptr 0 0), (27, .ro .unk x0.gKids.length (TExpr.cl x0.gKids)), (28, iA (lI x0.gKids)), (29, iA v14), (33, .agg (TExpr.cs v17)), (35, iA (w64 (x1 + 1))), (36, .ptr 0 0)] ?_)))
          obtain ⟨v18, hv18, H⟩ := bind_some H
          refine AOps_call1 (d := (some 37)) (al := [.agg (TExpr.cs v17), iA (w64 (x1 + 1)), .ptr 0 0]) ([.agg (TExpr.cs v17), iA (w64 (x1 + 1)), .ptr 0 0]) (r := iA v18.1) (j := 0) (b' := .cells 3 [iA v18.2]) (by kernel_rfl) rfl (hself_shape_expr hv18) (⟨trivial, trivial⟩) (⟨trivial, trivial⟩) ⟨(sc_TExpr_cs _ _), trivial, Nat.zero_lt_one, trivial⟩ trivial rfl (h' := [.cells 25 (TExpr.cs v17), .cells 25 (TExpr.cs x0), .cells 3 [iA v18.2]]) rfl ?_
          refine Rh 1 42 [(1, iA x1), (2, .ptr 0 0), (10, iA v18.1), (27, .ro .unk x0.gKids.length (TExpr.cl x0.gKids)), (28, iA (lI x0.gKids)), (29, iA v14)] (AOps_done (AWP_reg (Rh 2 42 [(1, iA x1), (2, .ptr 0 0), (10, iA v18.1), (27, .ro .unk x0.gKids.length (TExpr.cl x0.gKids)), (28, iA (lI x0.gKids)), (29, iA v14), (39, bA (v18.1 != 0))] (AOps_done (CD H (fun hb19 H => ?_) (fun hb19 H => ?_))))))
          · refine AWP_reg (Rh 2 42 [(6, iA v18.1)] (AOps_done (AWP_ret ?_)))
            have hr := Option.some.inj H
            subst hr
            exact Fin_retn 2 (l := [iA v18.1]) (h' := [.cells 3 [iA v18.2]]) (by kernel_rfl) rfl (Nat.le_of_ble_eq_true rfl) ((by refine Closed_of ?_; exact ⟨⟨trivial, trivial⟩, trivial⟩)) (Frz_sc trivial) ⟨rfl, rfl⟩
          · refine AWP_skip ?_
            show AWP _ _ _ _ _ _ _
            refine AWP_region ?_
            refine Rh 2 42 [(1, iA x1), (2, .ptr 0 0), (27, .ro .unk x0.gKids.length (TExpr.cl x0.gKids)), (28, iA (lI x0.gKids)), (29, iA (w64 (v14 + 1)))] (AOps_done ?_)
            exact Exists.intro (w64 (v14 + 1), v18.2) (Exists.intro n ⟨by omega, ⟨by omega, H⟩, Norm_fd [1, 2, 27, 28, 29] 1 (by kernel_rfl) rfl rfl ⟨(sc_TExpr_cs _ _), ⟨trivial, trivial⟩, trivial⟩ (by refine scL_fr ?_; exact ⟨trivial, (sc_ptr rfl), (scl_TExpr_cl _ _), trivial, trivial, trivial⟩)⟩)
        · refine AWP_exit ?_
          show AWP _ _ _ _ _ _ _
          refine AWP_reg (Rh 1 42 [(6, iA 0)] (AOps_done (AWP_ret ?_)))
          have hr := Option.some.inj H
          subst hr
          exact Fin_retn 1 (l := [iA 0]) (h' := [.cells 3 [iA v15]]) (by kernel_rfl) rfl (Nat.le_of_ble_eq_true rfl) ((by refine Closed_of ?_; exact ⟨⟨trivial, trivial⟩, trivial⟩)) (Frz_sc trivial) ⟨rfl, rfl⟩
theorem s_all_shape_expr (hG : GlobT E) : ∀ n : Nat, (∀ {x0 : TExpr}, ∀ {x1 : Int}, ∀ {x2 : Int}, ∀ {r : Int × Int}, p_shape_expr n x0 x1 x2 = some r → Sp Tryz.prog E 52 [.agg (TExpr.cs x0), iA x1, .ptr 0 0] [.cells 3 [iA x2]] (isA (iA r.1) [.cells 3 [iA r.2]])) := by
  intro n
  induction n with
  | zero => exact fun H => not_none (by simpa only [p_shape_expr] using H)
  | succ n ih => exact fun H => s_shape_expr_F hG ih (by simpa only [p_shape_expr] using H)
theorem s_shape_expr {n : Nat} (hG : GlobT E) {x0 : TExpr} {x1 : Int} {x2 : Int} {r : Int × Int} (H : p_shape_expr n x0 x1 x2 = some r) :
    Sp Tryz.prog E 52 [.agg (TExpr.cs x0), iA x1, .ptr 0 0] [.cells 3 [iA x2]] (isA (iA r.1) [.cells 3 [iA r.2]]) := (s_all_shape_expr hG n) H
end Go.Proofs.YtjhbobacbaikoaaGreatDoor
/- A function of the program as a pure function, and that the program computes it. -/
namespace Go.Proofs.YtjhbobacbaikoaaGreatDoor
open Go
set_option linter.unusedVariables false
set_option linter.unusedSimpArgs false
set_option maxRecDepth 100000
def p_shape_Expr (n : Nat) (x0 : TExpr) : Option Int :=
(p_shape_expr n x0 0 0).bind fun v1 =>
 some (v1.1)
variable {E : Env}
theorem s_shape_Expr {n : Nat} (hG : GlobT E) {x0 : TExpr} {r : Int} (H : p_shape_Expr n x0 = some r) :
    Sp Tryz.prog E 15 [.agg (TExpr.cs x0)] [] (isA (iA r) []) := by
  unfold p_shape_Expr at H
  refine Sp_fn Tryz.func15 rfl (fun hc hs => ?_)
  refine AWP_reg (R 2 6 [(1, .ptr 0 0)] [.cells 25 (TExpr.cs x0)] (AOps_done (AWP_reg (R 2 6 [(1, .ptr 0 0), (3, .ptr 1 0)] [.cells 3 [iA 0], .cells 25 (TExpr.cs x0)] (AOps_done (AWP_reg (Rh 1 6 [(3, .ptr 1 0), (4, .agg (TExpr.cs x0))] ?_)))))))
  obtain ⟨v1, hv1, H⟩ := bind_some H
  refine AOps_call1 (d := (some 5)) (al := [.agg (TExpr.cs x0), iA 0, .ptr 0 0]) ([.agg (TExpr.cs x0), iA 0, .ptr 1 0]) (r := iA v1.1) (j := 1) (b' := .cells 3 [iA v1.2]) (by kernel_rfl) rfl (s_shape_expr hG hv1) (⟨trivial, trivial⟩) (⟨trivial, trivial⟩) ⟨(sc_TExpr_cs _ _), trivial, Nat.zero_lt_one, trivial⟩ trivial rfl (h' := [.cells 3 [iA v1.2], .cells 25 (TExpr.cs x0)]) rfl ?_
  refine Rh 1 6 [(2, iA v1.1)] (AOps_done ?_)
  exact AWP_ret (FR H)
end Go.Proofs.YtjhbobacbaikoaaGreatDoor
/- Conditions: the program's Expr and the reference's Expr are alike. -/
namespace Go.Proofs.YtjhbobacbaikoaaGreatDoor
open Go
set_option linter.unusedVariables false
set_option linter.unusedSimpArgs false
/-- What is wrong with a part alone. -/
noncomputable def pv (x : TExpr) : Int := open Classical in if h : ∃ v, Al fun n => (∀ d : Int, p_shape_part n x d = if d ≥ 10 then some 18 else some v) ∧ p_ref6_part n x = some v then Classical.choose h else 0
theorem pv_al (x : TExpr) (hx : x.sm) : Al fun n => (∀ d : Int, p_shape_part n x d = if d ≥ 10 then some 18 else some (pv x)) ∧ p_ref6_part n x = some (pv x) := by
  have h := part_bi x hx
  have e : pv x = Classical.choose h := dif_pos h
  rw [e]
  exact Classical.choose_spec h
mutual
/-- The first error of a condition, and how many parts were looked at. -/
noncomputable def walkV : TExpr → Int → Int → Int × Int
  | .mk op k nm vs ks, d, b => if b ≥ 60 then (5, b) else if d ≥ 10 then (18, b + 1) else if pv (.mk op k nm vs ks) ≠ 0 then (pv (.mk op k nm vs ks), b + 1) else walkVL ks (d + 1) (b + 1)
noncomputable def walkVL : List TExpr → Int → Int → Int × Int
  | [], d, b => (0, b)
  | k :: ks, d, b => if (walkV k d b).1 ≠ 0 then walkV k d b else walkVL ks d (walkV k d b).2
end
theorem walkV_eq (x : TExpr) (d b : Int) : walkV x d b = if b ≥ 60 then (5, b) else if d ≥ 10 then (18, b + 1) else if pv x ≠ 0 then (pv x, b + 1) else walkVL x.gKids (d + 1) (b + 1) := by
  cases x; rw [walkV]; rfl
mutual
theorem walkV_range : ∀ (x : TExpr) (d b : Int), 0 ≤ b → b ≤ 60 → 0 ≤ (walkV x d b).2 ∧ (walkV x d b).2 ≤ 60
  | .mk op k nm vs ks, d, b, h0, h1 => by
    rw [walkV]
    split
    · exact ⟨h0, h1⟩
    · split
      · constructor <;> simp <;> omega
      · split
        · constructor <;> simp <;> omega
        · exact walkVL_range ks (d + 1) (b + 1) (by omega) (by omega)
theorem walkVL_range : ∀ (l : List TExpr) (d b : Int), 0 ≤ b → b ≤ 60 → 0 ≤ (walkVL l d b).2 ∧ (walkVL l d b).2 ≤ 60
  | [], d, b, h0, h1 => by rw [walkVL]; exact ⟨h0, h1⟩
  | k :: ks, d, b, h0, h1 => by
    have hk := walkV_range k d b h0 h1
    rw [walkVL]
    split
    · exact hk
    · exact walkVL_range ks d _ hk.1 hk.2
end
theorem ex_loop (x : TExpr) (d : Int) (hd0 : 0 ≤ d) (hd : d < 10) (hl : x.gKids.length < 4294967281) (s1 s2 : TExpr → Int → Int → Option (Int × Int))
    (h : ∀ k ∈ x.gKids, ∀ b, 0 ≤ b → b ≤ 60 → s1 k (d + 1) b = some (walkV k (d + 1) b) ∧ s2 k (d + 1 + 1) b = some (walkV k (d + 1) b)) :
    ∀ (q i m : Nat) (b : Int), i + q = x.gKids.length → q < m → 0 ≤ b → b ≤ 60 →
      p_shape_expr_L1 m s1 x d i b = some (walkVL (x.gKids.drop i) (d + 1) b) ∧ p_ref6_walk_L1 m s2 x (d + 1) i b = some (walkVL (x.gKids.drop i) (d + 1) b) := by
  intro q
  induction q with
  | zero =>
    intro i m b hi hm h0 h1
    obtain ⟨m, rfl⟩ : ∃ k, m = k + 1 := ⟨m - 1, by omega⟩
    obtain rfl : i = x.gKids.length := by omega
    have hd : decide (((x.gKids.length : Nat) : Int) < lI x.gKids) = false := decide_eq_false (by unfold lI; omega)
    rw [p_shape_expr_L1, p_ref6_walk_L1, hd, List.drop_length, walkVL]
    exact ⟨rfl, rfl⟩
  | succ q ih =>
    intro i m b hi hm h0 h1
    obtain ⟨m, rfl⟩ : ∃ k, m = k + 1 := ⟨m - 1, by omega⟩
    have hil : i < x.gKids.length := by omega
    have hdd : decide ((i : Int) < lI x.gKids) = true := decide_eq_true (by unfold lI; omega)
    obtain ⟨e1, e2⟩ := h x.gKids[i] (List.getElem_mem hil) b h0 h1
    have hr := walkV_range x.gKids[i] (d + 1) b h0 h1
    obtain ⟨i1, i2⟩ := ih (i + 1) m (walkV x.gKids[i] (d + 1) b).2 (by omega) (by omega) hr.1 hr.2
    have w1 : w64 (d + 1) = d + 1 := w64_of (by omega) (by omega)
    have w2 : w64 (d + 1 + 1) = d + 1 + 1 := w64_of (by omega) (by omega)
    rw [p_shape_expr_L1, p_ref6_walk_L1, hdd, List.drop_eq_getElem_cons hil, walkVL]
    simp only [cond_true, rdO_nat hil, Option.bind_some, w1, w2, e1, e2, w64_add (show i + 1 < 9223372036854775808 by omega), i1, i2]
    by_cases hz : (walkV x.gKids[i] (d + 1) b).1 = 0
    · rw [hz]; simp
    · have : ((walkV x.gKids[i] (d + 1) b).1 != 0) = true := by rw [bne_iff_ne]; exact hz
      rw [this, if_pos hz]
      simp
mutual
theorem ex_al : ∀ x : TExpr, x.sm → Al fun n => ∀ d b : Int, 0 ≤ d → d ≤ 10 → 0 ≤ b → b ≤ 60 → p_shape_expr n x d b = some (walkV x d b) ∧ p_ref6_walk n x (d + 1) b = some (walkV x d b)
  | .mk op kd nm vs ks, hx => by
    have hp := pv_al (.mk op kd nm vs ks) hx
    have hL := ex_alL ks (by rw [TExpr.sm] at hx; exact hx.2.2.2.2)
    have hlen : ks.length < 4294967281 := by rw [TExpr.sm] at hx; exact hx.2.2.2.1
    obtain ⟨N, hN⟩ := hp.and hL
    generalize hxx : TExpr.mk op kd nm vs ks = x at *
    have hks : x.gKids = ks := by rw [← hxx]; rfl
    refine Al.succ ⟨N + ks.length + 1, fun n hn d b hd0 hd1 hb0 hb1 => ?_⟩
    obtain ⟨⟨p1, p2⟩, hl⟩ := hN n (by omega)
    rw [p_shape_expr, p_ref6_walk]
    unfold p_shape_expr_F p_ref6_walk_F
    rw [p1, p2, walkV_eq]
    by_cases c1 : b ≥ 60
    · rw [if_pos c1, decide_eq_true c1]; exact ⟨rfl, rfl⟩
    · have w1 : w64 (b + 1) = b + 1 := w64_of (by omega) (by omega)
      rw [if_neg c1, decide_eq_false c1, w1]
      by_cases c2 : d ≥ 10
      · rw [if_pos c2, if_pos c2, decide_eq_true (show d + 1 > 10 by omega)]; exact ⟨rfl, rfl⟩
      · rw [if_neg c2, if_neg c2, decide_eq_false (show ¬ d + 1 > 10 by omega)]
        by_cases c3 : pv x = 0
        · rw [c3]
          simp only [cond_false, Option.bind_some, bne_self_eq_false, ne_eq, not_true_eq_false, if_false]
          exact ex_loop x d hd0 (by omega) (by rw [hks]; exact hlen) (p_shape_expr n) (p_ref6_walk n) (fun k hk b h0 h1 => hl k (by rw [← hks]; exact hk) (d + 1) b (by omega) (by omega) h0 h1) x.gKids.length 0 n (b + 1) (by omega) (by rw [hks]; omega) (by omega) (by omega)
        · have : (pv x != 0) = true := by rw [bne_iff_ne]; exact c3
          simp only [cond_false, Option.bind_some, this, cond_true]
          rw [if_pos c3]
          exact ⟨rfl, rfl⟩
theorem ex_alL : ∀ l : List TExpr, TExpr.smL l → Al fun n => ∀ k ∈ l, ∀ d b : Int, 0 ≤ d → d ≤ 10 → 0 ≤ b → b ≤ 60 → p_shape_expr n k d b = some (walkV k d b) ∧ p_ref6_walk n k (d + 1) b = some (walkV k d b)
  | [], _ => .of fun n k hk => by cases hk
  | k :: ks, h => by
    rw [TExpr.smL] at h
    refine ((ex_al k h.1).and (ex_alL ks h.2)).mono fun n ⟨h1, h2⟩ y hy => ?_
    rcases List.mem_cons.1 hy with rfl | hy
    · exact h1
    · exact h2 y hy
end
/-- Expr of both. -/
theorem expr_bi (x : TExpr) (hx : x.sm) : ∃ v, Al fun n => p_shape_Expr n x = some v ∧ p_ref6_Expr n x = some v := by
  refine ⟨(walkV x 0 0).1, (ex_al x hx).mono fun n h => ?_⟩
  obtain ⟨h1, h2⟩ := h 0 0 (by omega) (by omega) (by omega) (by omega)
  have h2 : p_ref6_walk n x 1 0 = some (walkV x 0 0) := h2
  unfold p_shape_Expr p_ref6_Expr
  rw [h1, h2]
  exact ⟨rfl, rfl⟩
end Go.Proofs.YtjhbobacbaikoaaGreatDoor
/- A function of the program as a pure function, and that the program computes it. -/
namespace Go.Proofs.YtjhbobacbaikoaaGreatDoor
open Go
set_option linter.unusedVariables false
set_option linter.unusedSimpArgs false
set_option maxRecDepth 100000
def p_draw_Codes_Expr_K2 (n : Nat) (v1 : Int × TCodes) : Option (TExpr × TCodes) :=
(p_draw_Codes_Test n v1.2).bind fun v55 =>
 some (v55.1, v55.2)
mutual
def p_draw_Codes_Expr_K4 (n : Nat) (self_p_draw_Codes_Expr : TCodes → (List ByteArray) → Int → Option (TExpr × TCodes)) (x1 : List ByteArray) (x2 : Int) (v66 : Int × TCodes) (v67 : Int × TCodes) (v92 : Int) (v95 : List TExpr) (v97 : TExpr × TCodes) (v99 : Int) (v100 : ByteArray) (v101 : ByteArray) (v102 : List TValue) (v103 : List TExpr) : Option (TExpr × TCodes) := match n with
| 0 => none
| n + 1 =>
(appO 88 v95 ([(TExpr.mk v99 v100 v101 v102 v103)])).bind fun v104 =>
 p_draw_Codes_Expr_L1 n self_p_draw_Codes_Expr x1 x2 v66 v67 (w64 (v92 + 1)) v97.2.glist v97.2.gat v104
def p_draw_Codes_Expr_L1 (n : Nat) (self_p_draw_Codes_Expr : TCodes → (List ByteArray) → Int → Option (TExpr × TCodes)) (x1 : List ByteArray) (x2 : Int) (v66 : Int × TCodes) (v67 : Int × TCodes) (v92 : Int) (v93 : List Int) (v94 : Int) (v95 : List TExpr) : Option (TExpr × TCodes) := match n with
| 0 => none
| n + 1 =>
(bif decide (v92 < (w64 (2 + v67.1))) then
(self_p_draw_Codes_Expr ({ glist := v93, gat := v94 } : TCodes) x1 (w64 (x2 - 1))).bind fun v97 =>
(bif v97.1.gOp == (w64 (2 + v66.1)) then
 p_draw_Codes_Expr_K4 n self_p_draw_Codes_Expr x1 x2 v66 v67 v92 v95 v97 4 ByteArray.empty ByteArray.empty ([]) ([v97.1])
 else
 p_draw_Codes_Expr_K4 n self_p_draw_Codes_Expr x1 x2 v66 v67 v92 v95 v97 v97.1.gOp v97.1.gKind v97.1.gName v97.1.gValues v97.1.gKids)
 else
 some ((TExpr.mk (w64 (2 + v66.1)) ByteArray.empty ByteArray.empty ([]) v95), ({ glist := v93, gat := v94 } : TCodes)))
end
def p_draw_Codes_Expr_K3 (n : Nat) (self_p_draw_Codes_Expr : TCodes → (List ByteArray) → Int → Option (TExpr × TCodes)) (x1 : List ByteArray) (x2 : Int) (v1 : Int × TCodes) (v64 : Bool) : Option (TExpr × TCodes) :=
(bif v64 then
(p_draw_Codes_Next n v1.2 2).bind fun v66 =>
(p_draw_Codes_Next n v66.2 2).bind fun v67 =>
 p_draw_Codes_Expr_L1 n self_p_draw_Codes_Expr x1 x2 v66 v67 0 v67.2.glist v67.2.gat ([])
 else
 p_draw_Codes_Expr_K2 n v1 )
def p_draw_Codes_Expr_K1 (n : Nat) (self_p_draw_Codes_Expr : TCodes → (List ByteArray) → Int → Option (TExpr × TCodes)) (x1 : List ByteArray) (x2 : Int) (v1 : Int × TCodes) (v3 : Int) : Option (TExpr × TCodes) :=
(bif v3 == 0 then
 some ((TExpr.mk 1 ByteArray.empty ByteArray.empty ([]) ([])), v1.2)
 else
(bif v3 == 3 then
(bif decide ((lI x1) > 0) then
(p_draw_Codes_Next n v1.2 (lI x1)).bind fun v59 =>
(rdO x1 v59.1).bind fun v60 =>
 some ((TExpr.mk 5 ByteArray.empty v60 ([]) ([])), v59.2)
 else
 p_draw_Codes_Expr_K2 n v1 )
 else
(bif v3 == 4 then
(self_p_draw_Codes_Expr v1.2 x1 (w64 (x2 - 1))).bind fun v62 =>
 some ((TExpr.mk 4 ByteArray.empty ByteArray.empty ([]) ([v62.1])), v62.2)
 else
(bif v3 == 5 then
 p_draw_Codes_Expr_K3 n self_p_draw_Codes_Expr x1 x2 v1 (v3 == 5)
 else
 p_draw_Codes_Expr_K3 n self_p_draw_Codes_Expr x1 x2 v1 (v3 == 6)))))
def p_draw_Codes_Expr_F (self_p_draw_Codes_Expr : TCodes → (List ByteArray) → Int → Option (TExpr × TCodes)) (n : Nat) (x0 : TCodes) (x1 : List ByteArray) (x2 : Int) : Option (TExpr × TCodes) :=
(p_draw_Codes_Next n x0 8).bind fun v1 =>
(bif (decide (x2 ≤ 1)) && (decide (v1.1 ≥ 4)) then
 p_draw_Codes_Expr_K1 n self_p_draw_Codes_Expr x1 x2 v1 (w64 (v1.1 - 4))
 else
 p_draw_Codes_Expr_K1 n self_p_draw_Codes_Expr x1 x2 v1 v1.1)
def p_draw_Codes_Expr (n : Nat) (x0 : TCodes) (x1 : List ByteArray) (x2 : Int) : Option (TExpr × TCodes) := match n with
| 0 => none
| n + 1 => p_draw_Codes_Expr_F (p_draw_Codes_Expr n) n x0 x1 x2
variable {E : Env}
theorem s_draw_Codes_Expr_F (hG : GlobD E) {self_p_draw_Codes_Expr : TCodes → (List ByteArray) → Int → Option (TExpr × TCodes)} (hself_draw_Codes_Expr : ∀ {x0 : TCodes}, ∀ {x1 : List ByteArray}, ∀ {x2 : Int}, ∀ {r : TExpr × TCodes}, self_p_draw_Codes_Expr x0 x1 x2 = some r → Sp Tryz.prog E 13 [.ptr 0 0, .ro .unk x1.length (cl_str x1), iA x2] [.cells 101 (TCodes.cs x0)] (isA (.agg (TExpr.cs r.1)) [.cells 101 (TCodes.cs r.2)])) {n : Nat} {x0 : TCodes} {x1 : List ByteArray} {x2 : Int} {r : TExpr × TCodes} (H : p_draw_Codes_Expr_F self_p_draw_Codes_Expr n x0 x1 x2 = some r) :
    Sp Tryz.prog E 13 [.ptr 0 0, .ro .unk x1.length (cl_str x1), iA x2] [.cells 101 (TCodes.cs x0)] (isA (.agg (TExpr.cs r.1)) [.cells 101 (TCodes.cs r.2)]) := by
  unfold p_draw_Codes_Expr_F at H
  refine Sp_fn Tryz.func13 rfl (fun hc hs => ?_)
  refine AWP_reg (R 1 86 [(0, .ptr 0 0), (1, .ro .unk x1.length (cl_str x1)), (2, iA x2), (6, .ptr 1 0)] [.cells 25 [iA 0, sA ByteArray.empty, sA ByteArray.empty, .ro .full 0 [], .ro .full 0 []], .cells 101 (TCodes.cs x0)] (AOps_done (AWP_reg (Rh 1 86 [(0, .ptr 0 0), (1, .ro .unk x1.length (cl_str x1)), (2, iA x2), (6, .ptr 1 0), (13, .ptr 0 0)] ?_))))
  obtain ⟨v1, hv1, H⟩ := bind_some H
  refine AOps_call1 (d := (some 14)) (al := [.ptr 0 0, iA 8]) ([.ptr 0 0, iA 8]) (r := iA v1.1) (j := 0) (b' := .cells 101 (TCodes.cs v1.2)) (by kernel_rfl) rfl (s_draw_Codes_Next hv1) (⟨(scl_cl_u8 _ _), trivial, trivial⟩) (⟨(scl_cl_u8 _ _), trivial, trivial⟩) ⟨Nat.zero_lt_one, trivial, trivial⟩ trivial rfl (h' := [.cells 25 [iA 0, sA ByteArray.empty, sA ByteArray.empty, .ro .full 0 [], .ro .full 0 []], .cells 101 (TCodes.cs v1.2)]) rfl ?_
  refine Rh 1 86 [(0, .ptr 0 0), (1, .ro .unk x1.length (cl_str x1)), (2, iA x2), (6, .ptr 1 0), (7, iA v1.1)] (AOps_done (AWP_joinN (α := Int) (fun v3 => fr 86 [(0, .ptr 0 0), (1, .ro .unk x1.length (cl_str x1)), (2, iA x2), (6, .ptr 1 0), (7, iA v3)]) (fun v3 => [.cells 25 [iA 0, sA ByteArray.empty, sA ByteArray.empty, .ro .full 0 [], .ro .full 0 []], .cells 101 (TCodes.cs v1.2)]) (fun v3 => ∃ q, q ≤ q ∧ p_draw_Codes_Expr_K1 q self_p_draw_Codes_Expr x1 x2 v1 v3 = some r) (fun v3 hC => ?_) ?_))
  · show AWP _ _ _ _ _ (fr 86 [(0, .ptr 0 0), (1, .ro .unk x1.length (cl_str x1)), (2, iA x2), (6, .ptr 1 0), (7, iA v3)]) [.cells 25 [iA 0, sA ByteArray.empty, sA ByteArray.empty, .ro .full 0 [], .ro .full 0 []], .cells 101 (TCodes.cs v1.2)]
    obtain ⟨n, hn_, hC⟩ := hC
    replace H : p_draw_Codes_Expr_K1 n self_p_draw_Codes_Expr x1 x2 v1 v3 = some r := hC
    unfold p_draw_Codes_Expr_K1 at H
    refine AWP_joinN (α := Unit) (fun _ => fr 86 [(0, .ptr 0 0), (6, .ptr 1 0)]) (fun _ => [.cells 25 [iA 0, sA ByteArray.empty, sA ByteArray.empty, .ro .full 0 [], .ro .full 0 []], .cells 101 (TCodes.cs v1.2)]) (fun _ => ∃ q, q ≤ q ∧ p_draw_Codes_Expr_K2 q v1  = some r) (fun a hC => ?_) ?_
    · show AWP _ _ _ _ _ (fr 86 [(0, .ptr 0 0), (6, .ptr 1 0)]) [.cells 25 [iA 0, sA ByteArray.empty, sA ByteArray.empty, .ro .full 0 [], .ro .full 0 []], .cells 101 (TCodes.cs v1.2)]
      obtain ⟨n, hn_, hC⟩ := hC
      replace H : p_draw_Codes_Expr_K2 n v1  = some r := hC
      unfold p_draw_Codes_Expr_K2 at H
      refine AWP_reg (Rh 1 86 [(6, .ptr 1 0), (84, .ptr 0 0)] ?_)
      obtain ⟨v55, hv55, H⟩ := bind_some H
      refine AOps_call1 (d := (some 85)) (al := [.ptr 0 0]) ([.ptr 0 0]) (r := .agg (TExpr.cs v55.1)) (j := 0) (b' := .cells 101 (TCodes.cs v55.2)) (by kernel_rfl) rfl (s_draw_Codes_Test hG hv55) (⟨(scl_cl_u8 _ _), trivial, trivial⟩) (⟨(scl_cl_u8 _ _), trivial, trivial⟩) ⟨Nat.zero_lt_one, trivial⟩ (sc_TExpr_cs _ _) rfl (h' := [.cells 25 [iA 0, sA ByteArray.empty, sA ByteArray.empty, .ro .full 0 [], .ro .full 0 []], .cells 101 (TCodes.cs v55.2)]) rfl ?_
      refine R 1 86 [(6, .ptr 1 0)] [.cells 25 (TExpr.cs v55.1), .cells 101 (TCodes.cs v55.2)] (AOps_done (AWP_ret ?_))
      have hr := Option.some.inj H
      subst hr
      exact Fin_retn 1 (l := [.agg (TExpr.cs v55.1)]) (h' := [.cells 101 (TCodes.cs v55.2)]) (by kernel_rfl) rfl (Nat.le_of_ble_eq_true rfl) ((by refine Closed_of ?_; exact ⟨⟨(scl_cl_u8 _ _), trivial, trivial⟩, trivial⟩)) (Frz_sc (sc_TExpr_cs _ _)) ⟨rfl, rfl⟩
    · refine AWP_reg (Rh 1 86 [(0, .ptr 0 0), (1, .ro .unk x1.length (cl_str x1)), (2, iA x2), (6, .ptr 1 0), (23, iA v3)] (AOps_done (AWP_block ?_)))
      refine AWP_reg (Rh 2 86 [(0, .ptr 0 0), (1, .ro .unk x1.length (cl_str x1)), (2, iA x2), (6, .ptr 1 0), (23, iA v3), (24, bA (v3 == 0))] (AOps_done (CD H (fun hb56 H => ?_) (fun hb56 H => ?_))))
      · refine AWP_reg (R 2 86 [(6, .ptr 1 0)] [.cells 25 [iA 1, sA ByteArray.empty, sA ByteArray.empty, .ro .full 0 [], .ro .full 0 []], .cells 101 (TCodes.cs v1.2)] (AOps_done (AWP_ret ?_)))
        have hr := Option.some.inj H
        subst hr
        exact Fin_retn 1 (l := [.agg [iA 1, sA ByteArray.empty, sA ByteArray.empty, .ro .full 0 [], .ro .full 0 []]]) (h' := [.cells 101 (TCodes.cs v1.2)]) (by kernel_rfl) rfl (Nat.le_of_ble_eq_true rfl) ((by refine Closed_of ?_; exact ⟨⟨(scl_cl_u8 _ _), trivial, trivial⟩, trivial⟩)) (Frz_agg (FrzL_cons (Frz_sc trivial) (FrzL_cons (Frz_sc trivial) (FrzL_cons (Frz_sc trivial) (FrzL_cons (Frz_le (Frz_sc trivial) (AV.le_ro _ _ _)) (FrzL_cons (Frz_le (Frz_sc trivial) (AV.le_ro _ _ _)) (FrzL_nil)))))) rfl) ⟨rfl, rfl⟩
      · refine AWP_reg (Rh 2 86 [(0, .ptr 0 0), (1, .ro .unk x1.length (cl_str x1)), (2, iA x2), (6, .ptr 1 0), (23, iA v3), (27, bA (v3 == 3))] (AOps_done (CD H (fun hb57 H => ?_) (fun hb57 H => ?_))))
        · refine AWP_reg (Rh 3 86 [(0, .ptr 0 0), (1, .ro .unk x1.length (cl_str x1)), (6, .ptr 1 0), (31, bA (decide ((lI x1) > 0)))] (AOps_done (CD H (fun hb58 H => ?_) (fun hb58 H => ?_))))
          · refine AWP_reg (Rh 4 86 [(6, .ptr 1 0), (32, .ro .unk x1.length (cl_str x1)), (33, .ptr 0 0), (35, iA (lI x1))] ?_)
            obtain ⟨v59, hv59, H⟩ := bind_some H
            refine AOps_call1 (d := (some 36)) (al := [.ptr 0 0, iA (lI x1)]) ([.ptr 0 0, iA (lI x1)]) (r := iA v59.1) (j := 0) (b' := .cells 101 (TCodes.cs v59.2)) (by kernel_rfl) rfl (s_draw_Codes_Next hv59) (⟨(scl_cl_u8 _ _), trivial, trivial⟩) (⟨(scl_cl_u8 _ _), trivial, trivial⟩) ⟨Nat.zero_lt_one, trivial, trivial⟩ trivial rfl (h' := [.cells 25 [iA 0, sA ByteArray.empty, sA ByteArray.empty, .ro .full 0 [], .ro .full 0 []], .cells 101 (TCodes.cs v59.2)]) rfl ?_
            obtain ⟨v60, hv60, H⟩ := bind_some H
            refine AOps_index (d := (some 37)) (sz := 1) (c := cs_str) (by kernel_rfl) rfl (eq_cl_str _) (fun _ => rfl) (by decide) hv60 (fun tl60 => ?_)
            refine R 3 86 [(6, .ptr 1 0)] [.cells 25 [iA 5, sA ByteArray.empty, sA v60, .ro .full 0 [], .ro .full 0 []], .cells 101 (TCodes.cs v59.2)] (AOps_done (AWP_ret ?_))
            have hr := Option.some.inj H
            subst hr
            exact Fin_retn 1 (l := [.agg [iA 5, sA ByteArray.empty, sA v60, .ro .full 0 [], .ro .full 0 []]]) (h' := [.cells 101 (TCodes.cs v59.2)]) (by kernel_rfl) rfl (Nat.le_of_ble_eq_true rfl) ((by refine Closed_of ?_; exact ⟨⟨(scl_cl_u8 _ _), trivial, trivial⟩, trivial⟩)) (Frz_agg (FrzL_cons (Frz_sc trivial) (FrzL_cons (Frz_sc trivial) (FrzL_cons (Frz_sc trivial) (FrzL_cons (Frz_le (Frz_sc trivial) (AV.le_ro _ _ _)) (FrzL_cons (Frz_le (Frz_sc trivial) (AV.le_ro _ _ _)) (FrzL_nil)))))) rfl) ⟨rfl, rfl⟩
          · refine AWP_skip ?_
            exact Exists.intro () ⟨⟨n, by omega, H⟩, Norm_fd [0, 6] 0 (by kernel_rfl) rfl rfl ⟨⟨trivial, trivial, trivial, trivial, trivial, trivial⟩, ⟨(scl_cl_u8 _ _), trivial, trivial⟩, trivial⟩ (by refine scL_fr ?_; exact ⟨(sc_ptr rfl), (sc_ptr rfl), trivial⟩)⟩
        · refine AWP_reg (Rh 2 86 [(0, .ptr 0 0), (1, .ro .unk x1.length (cl_str x1)), (2, iA x2), (6, .ptr 1 0), (23, iA v3), (40, bA (v3 == 4))] (AOps_done (CD H (fun hb61 H => ?_) (fun hb61 H => ?_))))
          · refine AWP_reg (Rh 4 86 [(6, .ptr 1 0), (42, .ptr 0 0), (43, .ro .unk x1.length (cl_str x1)), (45, iA (w64 (x2 - 1)))] ?_)
            obtain ⟨v62, hv62, H⟩ := bind_some H
            refine AOps_call1 (d := (some 46)) (al := [.ptr 0 0, .ro .unk x1.length (cl_str x1), iA (w64 (x2 - 1))]) ([.ptr 0 0, .ro .unk x1.length (cl_str x1), iA (w64 (x2 - 1))]) (r := .agg (TExpr.cs v62.1)) (j := 0) (b' := .cells 101 (TCodes.cs v62.2)) (by kernel_rfl) rfl (hself_draw_Codes_Expr hv62) (⟨(scl_cl_u8 _ _), trivial, trivial⟩) (⟨(scl_cl_u8 _ _), trivial, trivial⟩) ⟨Nat.zero_lt_one, (scl_cl_str _ _), trivial, trivial⟩ (sc_TExpr_cs _ _) rfl (h' := [.cells 25 [iA 0, sA ByteArray.empty, sA ByteArray.empty, .ro .full 0 [], .ro .full 0 []], .cells 101 (TCodes.cs v62.2)]) rfl ?_
            refine AOps_bsl (d := (some 47)) (m := 1) (cs := [iA v62.1.gOp, sA v62.1.gKind, sA v62.1.gName, .ro .unk v62.1.gValues.length (TValue.cl v62.1.gValues), .ro .unk v62.1.gKids.length (TExpr.cl v62.1.gKids)]) (by kernel_rfl) ⟨trivial, trivial, trivial, (scl_TValue_cl _ _), (scl_TExpr_cl _ _), trivial⟩ ?_
            refine AOps_cast (d := (some 47)) (v' := .ro .unk ([v62.1]).length (TExpr.cl ([v62.1]))) (congrArg (AV.ro .unk 1) (eq_TExpr_cl ([v62.1])).symm) ?_
            refine R 2 86 [(6, .ptr 1 0)] [.cells 25 [iA 4, sA ByteArray.empty, sA ByteArray.empty, .ro .full 0 [], .ro .unk ([v62.1]).length (TExpr.cl ([v62.1]))], .cells 101 (TCodes.cs v62.2)] (AOps_done (AWP_ret ?_))
            have hr := Option.some.inj H
            subst hr
            exact Fin_retn 1 (l := [.agg [iA 4, sA ByteArray.empty, sA ByteArray.empty, .ro .full 0 [], .ro .unk ([v62.1]).length (TExpr.cl ([v62.1]))]]) (h' := [.cells 101 (TCodes.cs v62.2)]) (by kernel_rfl) rfl (Nat.le_of_ble_eq_true rfl) ((by refine Closed_of ?_; exact ⟨⟨(scl_cl_u8 _ _), trivial, trivial⟩, trivial⟩)) (Frz_agg (FrzL_cons (Frz_sc trivial) (FrzL_cons (Frz_sc trivial) (FrzL_cons (Frz_sc trivial) (FrzL_cons (Frz_le (Frz_sc trivial) (AV.le_ro _ _ _)) (FrzL_cons (Frz_sc (scl_TExpr_cl _ _)) (FrzL_nil)))))) rfl) ⟨rfl, rfl⟩
          · refine AWP_joinN (α := Bool) (fun v64 => fr 86 [(0, .ptr 0 0), (1, .ro .unk x1.length (cl_str x1)), (2, iA x2), (6, .ptr 1 0), (49, bA v64)]) (fun v64 => [.cells 25 [iA 0, sA ByteArray.empty, sA ByteArray.empty, .ro .full 0 [], .ro .full 0 []], .cells 101 (TCodes.cs v1.2)]) (fun v64 => ∃ q, q ≤ q ∧ p_draw_Codes_Expr_K3 q self_p_draw_Codes_Expr x1 x2 v1 v64 = some r) (fun v64 hC => ?_) ?_
            · show AWP _ _ _ _ _ (fr 86 [(0, .ptr 0 0), (1, .ro .unk x1.length (cl_str x1)), (2, iA x2), (6, .ptr 1 0), (49, bA v64)]) [.cells 25 [iA 0, sA ByteArray.empty, sA ByteArray.empty, .ro .full 0 [], .ro .full 0 []], .cells 101 (TCodes.cs v1.2)]
              obtain ⟨n, hn_, hC⟩ := hC
              replace H : p_draw_Codes_Expr_K3 n self_p_draw_Codes_Expr x1 x2 v1 v64 = some r := hC
              unfold p_draw_Codes_Expr_K3 at H
              refine CD H (fun hb65 H => ?_) (fun hb65 H => ?_)
              · refine AWP_reg (Rh 1 86 [(0, .ptr 0 0), (1, .ro .unk x1.length (cl_str x1)), (2, iA x2), (6, .ptr 1 0), (52, .ptr 0 0)] ?_)
                obtain ⟨v66, hv66, H⟩ := bind_some H
                refine AOps_call1 (d := (some 53)) (al := [.ptr 0 0, iA 2]) ([.ptr 0 0, iA 2]) (r := iA v66.1) (j := 0) (b' := .cells 101 (TCodes.cs v66.2)) (by kernel_rfl) rfl (s_draw_Codes_Next hv66) (⟨(scl_cl_u8 _ _), trivial, trivial⟩) (⟨(scl_cl_u8 _ _), trivial, trivial⟩) ⟨Nat.zero_lt_one, trivial, trivial⟩ trivial rfl (h' := [.cells 25 [iA 0, sA ByteArray.empty, sA ByteArray.empty, .ro .full 0 [], .ro .full 0 []], .cells 101 (TCodes.cs v66.2)]) rfl ?_
                refine Rh 2 86 [(0, .ptr 0 0), (1, .ro .unk x1.length (cl_str x1)), (2, iA x2), (6, .ptr 1 0), (8, iA (w64 (2 + v66.1)))] (AOps_done (AWP_reg (R 4 86 [(0, .ptr 0 0), (1, .ro .unk x1.length (cl_str x1)), (2, iA x2), (6, .ptr 1 0), (8, iA (w64 (2 + v66.1))), (9, .ptr 2 0)] [.cells 25 [iA (w64 (2 + v66.1)), sA ByteArray.empty, sA ByteArray.empty, .ro .full 0 [], .ro .full 0 []], .cells 25 [iA 0, sA ByteArray.empty, sA ByteArray.empty, .ro .full 0 [], .ro .full 0 []], .cells 101 (TCodes.cs v66.2)] (AOps_done (AWP_reg (Rh 1 86 [(0, .ptr 0 0), (1, .ro .unk x1.length (cl_str x1)), (2, iA x2), (6, .ptr 1 0), (8, iA (w64 (2 + v66.1))), (9, .ptr 2 0), (57, .ptr 0 0)] ?_))))))
                obtain ⟨v67, hv67, H⟩ := bind_some H
                refine AOps_call1 (d := (some 58)) (al := [.ptr 0 0, iA 2]) ([.ptr 0 0, iA 2]) (r := iA v67.1) (j := 0) (b' := .cells 101 (TCodes.cs v67.2)) (by kernel_rfl) rfl (s_draw_Codes_Next hv67) (⟨(scl_cl_u8 _ _), trivial, trivial⟩) (⟨(scl_cl_u8 _ _), trivial, trivial⟩) ⟨Nat.zero_lt_one, trivial, trivial⟩ trivial rfl (h' := [.cells 25 [iA (w64 (2 + v66.1)), sA ByteArray.empty, sA ByteArray.empty, .ro .full 0 [], .ro .full 0 []], .cells 25 [iA 0, sA ByteArray.empty, sA ByteArray.empty, .ro .full 0 [], .ro .full 0 []], .cells 101 (TCodes.cs v67.2)]) rfl ?_
                refine Rh 2 86 [(0, .ptr 0 0), (1, .ro .unk x1.length (cl_str x1)), (2, iA x2), (6, .ptr 1 0), (8, iA (w64 (2 + v66.1))), (9, .ptr 2 0), (10, iA (w64 (2 + v67.1)))] (AOps_done (AWP_seq (AWP_reg (Rh 1 86 [(0, .ptr 0 0), (1, .ro .unk x1.length (cl_str x1)), (2, iA x2), (6, .ptr 1 0), (8, iA (w64 (2 + v66.1))), (9, .ptr 2 0), (10, iA (w64 (2 + v67.1))), (11, iA 0)] (AOps_done (AWP_block ?_))))))
                refine AWP_loopN (α := Int × (List Int) × Int × (List TExpr)) (fun ⟨v92, v93, v94, v95⟩ => fr 86 [(0, .ptr 0 0), (1, .ro .unk x1.length (cl_str x1)), (2, iA x2), (6, .ptr 1 0), (8, iA (w64 (2 + v66.1))), (9, .ptr 2 0), (10, iA (w64 (2 + v67.1))), (11, iA v92)]) (fun ⟨v92, v93, v94, v95⟩ => [.row 25 (TExpr.cl v95), .cells 25 [iA (w64 (2 + v66.1)), sA ByteArray.empty, sA ByteArray.empty, .ro .full 0 [], .sl 3 0 v95.length (.whole 5)], .cells 25 [iA 0, sA ByteArray.empty, sA ByteArray.empty, .ro .full 0 [], .ro .full 0 []], .cells 101 [.ro .unk v93.length (cl_u8 v93), iA v94]]) (fun k_ ⟨v92, v93, v94, v95⟩ => k_ ≤ n ∧ p_draw_Codes_Expr_L1 k_ self_p_draw_Codes_Expr x1 x2 v66 v67 v92 v93 v94 v95 = some r) (fun n a H => ?_) (k := n) (0, v67.2.glist, v67.2.gat, []) ⟨Nat.le_refl _, H⟩ (Norm_trans (Norm_fd (st' := fr 86 [(0, .ptr 0 0), (1, .ro .unk x1.length (cl_str x1)), (2, iA x2), (6, .ptr 1 0), (8, iA (w64 (2 + v66.1))), (9, .ptr 2 0), (10, iA (w64 (2 + v67.1))), (11, iA 0)]) (h' := [.cells 25 [iA (w64 (2 + v66.1)), sA ByteArray.empty, sA ByteArray.empty, .ro .full 0 [], .ro .full 0 []], .cells 25 [iA 0, sA ByteArray.empty, sA ByteArray.empty, .ro .full 0 [], .ro .full 0 []], .cells 101 (TCodes.cs v67.2)]) [0, 1, 2, 6, 8, 9, 10, 11] 0 (by kernel_rfl) rfl rfl ⟨⟨trivial, trivial, trivial, trivial, trivial, trivial⟩, ⟨trivial, trivial, trivial, trivial, trivial, trivial⟩, ⟨(scl_cl_u8 _ _), trivial, trivial⟩, trivial⟩ (by refine scL_fr ?_; exact ⟨(sc_ptr rfl), (scl_cl_str _ _), trivial, (sc_ptr rfl), trivial, (sc_ptr rfl), trivial, trivial, trivial⟩)) (Norm_trans (Norm_nilc' (st := fr 86 [(0, .ptr 0 0), (1, .ro .unk x1.length (cl_str x1)), (2, iA x2), (6, .ptr 1 0), (8, iA (w64 (2 + v66.1))), (9, .ptr 2 0), (10, iA (w64 (2 + v67.1))), (11, iA 0)]) (ty := 25) (cs := [iA (w64 (2 + v66.1)), sA ByteArray.empty, sA ByteArray.empty, .ro .full 0 [], .ro .full 0 []]) (h' := [.row 25 (TExpr.cl ([])), .cells 25 [iA (w64 (2 + v66.1)), sA ByteArray.empty, sA ByteArray.empty, .ro .full 0 [], .sl 3 0 ([] : List TExpr).length (.whole 5)], .cells 25 [iA 0, sA ByteArray.empty, sA ByteArray.empty, .ro .full 0 [], .ro .full 0 []], .cells 101 (TCodes.cs v67.2)]) 2 4 3 25 5 rfl rfl (by kernel_rfl) (by kernel_rfl)) (Norm_fd [0, 1, 2, 6, 8, 9, 10, 11] 0 (by kernel_rfl) rfl rfl ⟨(scl_TExpr_cl _ _), ⟨trivial, trivial, trivial, trivial, (sc_sl rfl), trivial⟩, ⟨trivial, trivial, trivial, trivial, trivial, trivial⟩, ⟨(scl_cl_u8 _ _), trivial, trivial⟩, trivial⟩ (by refine scL_fr ?_; exact ⟨(sc_ptr rfl), (scl_cl_str _ _), trivial, (sc_ptr rfl), trivial, (sc_ptr rfl), trivial, trivial, trivial⟩))))
                obtain ⟨v92, v93, v94, v95⟩ := a
                show AWP _ _ _ _ _ (fr 86 [(0, .ptr 0 0), (1, .ro .unk x1.length (cl_str x1)), (2, iA x2), (6, .ptr 1 0), (8, iA (w64 (2 + v66.1))), (9, .ptr 2 0), (10, iA (w64 (2 + v67.1))), (11, iA v92)]) [.row 25 (TExpr.cl v95), .cells 25 [iA (w64 (2 + v66.1)), sA ByteArray.empty, sA ByteArray.empty, .ro .full 0 [], .sl 3 0 v95.length (.whole 5)], .cells 25 [iA 0, sA ByteArray.empty, sA ByteArray.empty, .ro .full 0 [], .ro .full 0 []], .cells 101 [.ro .unk v93.length (cl_u8 v93), iA v94]]
                obtain ⟨hb_, H⟩ := H
                replace H : p_draw_Codes_Expr_L1 n self_p_draw_Codes_Expr x1 x2 v66 v67 v92 v93 v94 v95 = some r := H
                cases n with
                | zero => exact not_none (by simpa only [p_draw_Codes_Expr_L1] using H)
                | succ n =>
                  unfold p_draw_Codes_Expr_L1 at H
                  refine AWP_seq (AWP_reg (Rh 3 86 [(0, .ptr 0 0), (1, .ro .unk x1.length (cl_str x1)), (2, iA x2), (6, .ptr 1 0), (8, iA (w64 (2 + v66.1))), (9, .ptr 2 0), (10, iA (w64 (2 + v67.1))), (11, iA v92), (62, bA (decide (v92 < (w64 (2 + v67.1)))))] (AOps_done (CD H (fun hb96 H => ?_) (fun hb96 H => ?_)))))
                  · refine AWP_skip ?_
                    show AWP _ _ _ _ _ _ _
                    refine AWP_seq (AWP_block ?_)
                    refine AWP_reg (Rh 4 86 [(0, .ptr 0 0), (1, .ro .unk x1.length (cl_str x1)), (2, iA x2), (6, .ptr 1 0), (8, iA (w64 (2 + v66.1))), (9, .ptr 2 0), (10, iA (w64 (2 + v67.1))), (11, iA v92), (65, .ptr 0 0), (66, .ro .unk x1.length (cl_str x1)), (68, iA (w64 (x2 - 1)))] ?_)
                    obtain ⟨v97, hv97, H⟩ := bind_some H
                    refine AOps_call1 (d := (some 69)) (al := [.ptr 0 0, .ro .unk x1.length (cl_str x1), iA (w64 (x2 - 1))]) ([.ptr 0 0, .ro .unk x1.length (cl_str x1), iA (w64 (x2 - 1))]) (r := .agg (TExpr.cs v97.1)) (j := 0) (b' := .cells 101 (TCodes.cs v97.2)) (by kernel_rfl) rfl (hself_draw_Codes_Expr hv97) (⟨(scl_cl_u8 _ _), trivial, trivial⟩) (⟨(scl_cl_u8 _ _), trivial, trivial⟩) ⟨Nat.zero_lt_one, (scl_cl_str _ _), trivial, trivial⟩ (sc_TExpr_cs _ _) rfl (h' := [.row 25 (TExpr.cl v95), .cells 25 [iA (w64 (2 + v66.1)), sA ByteArray.empty, sA ByteArray.empty, .ro .full 0 [], .sl 3 0 v95.length (.whole 5)], .cells 25 [iA 0, sA ByteArray.empty, sA ByteArray.empty, .ro .full 0 [], .ro .full 0 []], .cells 101 (TCodes.cs v97.2)]) rfl ?_
                    refine R 2 86 [(0, .ptr 0 0), (1, .ro .unk x1.length (cl_str x1)), (2, iA x2), (6, .ptr 1 0), (8, iA (w64 (2 + v66.1))), (9, .ptr 2 0), (10, iA (w64 (2 + v67.1))), (11, iA v92), (12, .ptr 4 0)] [.cells 25 (TExpr.cs v97.1), .row 25 (TExpr.cl v95), .cells 25 [iA (w64 (2 + v66.1)), sA ByteArray.empty, sA ByteArray.empty, .ro .full 0 [], .sl 3 0 v95.length (.whole 5)], .cells 25 [iA 0, sA ByteArray.empty, sA ByteArray.empty, .ro .full 0 [], .ro .full 0 []], .cells 101 (TCodes.cs v97.2)] (AOps_done (AWP_joinN (α := Int × ByteArray × ByteArray × (List TValue) × (List TExpr)) (fun ⟨v99, v100, v101, v102, v103⟩ => fr 86 [(0, .ptr 0 0), (1, .ro .unk x1.length (cl_str x1)), (2, iA x2), (6, .ptr 1 0), (8, iA (w64 (2 + v66.1))), (9, .ptr 2 0), (10, iA (w64 (2 + v67.1))), (11, iA v92), (12, .ptr 4 0)]) (fun ⟨v99, v100, v101, v102, v103⟩ => [.cells 25 [iA v99, sA v100, sA v101, .ro .unk v102.length (TValue.cl v102), .ro .unk v103.length (TExpr.cl v103)], .row 25 (TExpr.cl v95), .cells 25 [iA (w64 (2 + v66.1)), sA ByteArray.empty, sA ByteArray.empty, .ro .full 0 [], .sl 3 0 v95.length (.whole 5)], .cells 25 [iA 0, sA ByteArray.empty, sA ByteArray.empty, .ro .full 0 [], .ro .full 0 []], .cells 101 (TCodes.cs v97.2)]) (fun ⟨v99, v100, v101, v102, v103⟩ => ∃ q, q ≤ n ∧ p_draw_Codes_Expr_K4 q self_p_draw_Codes_Expr x1 x2 v66 v67 v92 v95 v97 v99 v100 v101 v102 v103 = some r) (fun a hC => ?_) ?_))
                    · obtain ⟨v99, v100, v101, v102, v103⟩ := a
                      show AWP _ _ _ _ _ (fr 86 [(0, .ptr 0 0), (1, .ro .unk x1.length (cl_str x1)), (2, iA x2), (6, .ptr 1 0), (8, iA (w64 (2 + v66.1))), (9, .ptr 2 0), (10, iA (w64 (2 + v67.1))), (11, iA v92), (12, .ptr 4 0)]) [.cells 25 [iA v99, sA v100, sA v101, .ro .unk v102.length (TValue.cl v102), .ro .unk v103.length (TExpr.cl v103)], .row 25 (TExpr.cl v95), .cells 25 [iA (w64 (2 + v66.1)), sA ByteArray.empty, sA ByteArray.empty, .ro .full 0 [], .sl 3 0 v95.length (.whole 5)], .cells 25 [iA 0, sA ByteArray.empty, sA ByteArray.empty, .ro .full 0 [], .ro .full 0 []], .cells 101 (TCodes.cs v97.2)]
                      obtain ⟨n, hn_, hC⟩ := hC
                      replace H : p_draw_Codes_Expr_K4 n self_p_draw_Codes_Expr x1 x2 v66 v67 v92 v95 v97 v99 v100 v101 v102 v103 = some r := hC
                      cases n with
                      | zero => exact not_none (by simpa only [p_draw_Codes_Expr_K4] using H)
                      | succ n =>
                        unfold p_draw_Codes_Expr_K4 at H
                        refine AWP_region ?_
                        refine Rh 3 86 [(0, .ptr 0 0), (1, .ro .unk x1.length (cl_str x1)), (2, iA x2), (6, .ptr 1 0), (8, iA (w64 (2 + v66.1))), (9, .ptr 2 0), (10, iA (w64 (2 + v67.1))), (11, iA v92), (78, .sl 3 0 v95.length (.whole 5)), (79, .agg [iA v99, sA v100, sA v101, .ro .unk v102.length (TValue.cl v102), .ro .unk v103.length (TExpr.cl v103)])] (AOps_bsl (d := (some 80)) (m := 1) (cs := [iA v99, sA v100, sA v101, .ro .unk v102.length (TValue.cl v102), .ro .unk v103.length (TExpr.cl v103)]) (by kernel_rfl) ⟨trivial, trivial, trivial, (scl_TValue_cl _ _), (scl_TExpr_cl _ _), trivial⟩ ?_)
                        refine AOps_cast (d := (some 80)) (v' := .ro .unk ([(TExpr.mk v99 v100 v101 v102 v103)]).length (TExpr.cl ([(TExpr.mk v99 v100 v101 v102 v103)]))) (congrArg (AV.ro .unk 1) (eq_TExpr_cl ([(TExpr.mk v99 v100 v101 v102 v103)])).symm) ?_
                        obtain ⟨v104, hv104, H⟩ := bind_some H
                        refine AOps_append (d := (some 81)) (c := TExpr.cs) (sz := 5) (bs := 88) (e := 25) (id := 3) (xs := v95) (ys := [(TExpr.mk v99 v100 v101 v102 v103)]) (by kernel_rfl) rfl (eq_TExpr_cl _) rfl (eq_TExpr_cl _) (fun _ => rfl) (by kernel_rfl) (by kernel_rfl) hv104 (eq_TExpr_cl _) (h' := [.row 25 (TExpr.cl v104), .cells 25 [iA v99, sA v100, sA v101, .ro .unk v102.length (TValue.cl v102), .ro .unk v103.length (TExpr.cl v103)], .dead, .cells 25 [iA (w64 (2 + v66.1)), sA ByteArray.empty, sA ByteArray.empty, .ro .full 0 [], .sl 3 0 v95.length (.whole 5)], .cells 25 [iA 0, sA ByteArray.empty, sA ByteArray.empty, .ro .full 0 [], .ro .full 0 []], .cells 101 (TCodes.cs v97.2)]) rfl ?_
                        refine R 2 86 [(0, .ptr 0 0), (1, .ro .unk x1.length (cl_str x1)), (2, iA x2), (6, .ptr 1 0), (8, iA (w64 (2 + v66.1))), (9, .ptr 2 0), (10, iA (w64 (2 + v67.1))), (11, iA v92)] [.row 25 (TExpr.cl v104), .cells 25 [iA v99, sA v100, sA v101, .ro .unk v102.length (TValue.cl v102), .ro .unk v103.length (TExpr.cl v103)], .dead, .cells 25 [iA (w64 (2 + v66.1)), sA ByteArray.empty, sA ByteArray.empty, .ro .full 0 [], .sl 5 0 v104.length (.whole 5)], .cells 25 [iA 0, sA ByteArray.empty, sA ByteArray.empty, .ro .full 0 [], .ro .full 0 []], .cells 101 (TCodes.cs v97.2)] (AOps_done ?_)
                        show AWP _ _ _ _ _ _ _
                        refine AWP_region ?_
                        refine Rh 3 86 [(0, .ptr 0 0), (1, .ro .unk x1.length (cl_str x1)), (2, iA x2), (6, .ptr 1 0), (8, iA (w64 (2 + v66.1))), (9, .ptr 2 0), (10, iA (w64 (2 + v67.1))), (11, iA (w64 (v92 + 1)))] (AOps_done ?_)
                        exact Exists.intro (w64 (v92 + 1), v97.2.glist, v97.2.gat, v104) (Exists.intro n ⟨by omega, ⟨by omega, H⟩, Norm_trans (Norm_fd (st' := fr 86 [(0, .ptr 0 0), (1, .ro .unk x1.length (cl_str x1)), (2, iA x2), (6, .ptr 1 0), (8, iA (w64 (2 + v66.1))), (9, .ptr 2 0), (10, iA (w64 (2 + v67.1))), (11, iA (w64 (v92 + 1)))]) (h' := [.row 25 (TExpr.cl v104), .cells 25 [iA v99, sA v100, sA v101, .ro .unk v102.length (TValue.cl v102), .ro .unk v103.length (TExpr.cl v103)], .dead, .cells 25 [iA (w64 (2 + v66.1)), sA ByteArray.empty, sA ByteArray.empty, .ro .full 0 [], .sl 5 0 v104.length (.whole 5)], .cells 25 [iA 0, sA ByteArray.empty, sA ByteArray.empty, .ro .full 0 [], .ro .full 0 []], .cells 101 (TCodes.cs v97.2)]) [0, 1, 2, 6, 8, 9, 10, 11] 0 (by kernel_rfl) rfl rfl ⟨(scl_TExpr_cl _ _), ⟨trivial, trivial, trivial, (scl_TValue_cl _ _), (scl_TExpr_cl _ _), trivial⟩, trivial, ⟨trivial, trivial, trivial, trivial, (sc_sl rfl), trivial⟩, ⟨trivial, trivial, trivial, trivial, trivial, trivial⟩, ⟨(scl_cl_u8 _ _), trivial, trivial⟩, trivial⟩ (by refine scL_fr ?_; exact ⟨(sc_ptr rfl), (scl_cl_str _ _), trivial, (sc_ptr rfl), trivial, (sc_ptr rfl), trivial, trivial, trivial⟩)) (Norm_trans (Norm_move' (st' := fr 86 [(0, .ptr 0 0), (1, .ro .unk x1.length (cl_str x1)), (2, iA x2), (6, .ptr 1 0), (8, iA (w64 (2 + v66.1))), (9, .ptr 2 0), (10, iA (w64 (2 + v67.1))), (11, iA (w64 (v92 + 1)))]) (h' := [.cells 25 [iA v99, sA v100, sA v101, .ro .unk v102.length (TValue.cl v102), .ro .unk v103.length (TExpr.cl v103)], .row 25 (TExpr.cl v104), .cells 25 [iA (w64 (2 + v66.1)), sA ByteArray.empty, sA ByteArray.empty, .ro .full 0 [], .sl 3 0 v104.length (.whole 5)], .cells 25 [iA 0, sA ByteArray.empty, sA ByteArray.empty, .ro .full 0 [], .ro .full 0 []], .cells 101 (TCodes.cs v97.2)]) 3 5 rfl rfl rfl (fun h => by cases h) (by refine toOkL_fr ?_; exact ⟨(toOk_ptr rfl), (on0 (scl_cl_str _ _)), trivial, (toOk_ptr rfl), trivial, (toOk_ptr rfl), trivial, trivial, trivial⟩) ⟨(on0 (scl_TExpr_cl _ _)), ⟨trivial, trivial, trivial, (on0 (scl_TValue_cl _ _)), (on0 (scl_TExpr_cl _ _)), trivial⟩, trivial, ⟨trivial, trivial, trivial, trivial, (toOk_sl rfl), trivial⟩, ⟨trivial, trivial, trivial, trivial, trivial, trivial⟩, ⟨(on0 (scl_cl_u8 _ _)), trivial, trivial⟩, trivial⟩ (by kernel_rfl) (by kernel_rfl)) (Norm_fd [0, 1, 2, 6, 8, 9, 10, 11] 1 (by kernel_rfl) rfl rfl ⟨(scl_TExpr_cl _ _), ⟨trivial, trivial, trivial, trivial, (sc_sl rfl), trivial⟩, ⟨trivial, trivial, trivial, trivial, trivial, trivial⟩, ⟨(scl_cl_u8 _ _), trivial, trivial⟩, trivial⟩ (by refine scL_fr ?_; exact ⟨(sc_ptr rfl), (scl_cl_str _ _), trivial, (sc_ptr rfl), trivial, (sc_ptr rfl), trivial, trivial, trivial⟩)))⟩)
                    · refine AWP_reg (Rh 4 86 [(0, .ptr 0 0), (1, .ro .unk x1.length (cl_str x1)), (2, iA x2), (6, .ptr 1 0), (8, iA (w64 (2 + v66.1))), (9, .ptr 2 0), (10, iA (w64 (2 + v67.1))), (11, iA v92), (12, .ptr 4 0), (73, bA (v97.1.gOp == (w64 (2 + v66.1))))] (AOps_done (CD H (fun hb105 H => ?_) (fun hb105 H => ?_))))
                      · refine AWP_region ?_
                        refine Rh 1 86 [(0, .ptr 0 0), (1, .ro .unk x1.length (cl_str x1)), (2, iA x2), (6, .ptr 1 0), (8, iA (w64 (2 + v66.1))), (9, .ptr 2 0), (10, iA (w64 (2 + v67.1))), (11, iA v92), (12, .ptr 4 0), (74, .agg (TExpr.cs v97.1))] (AOps_bsl (d := (some 75)) (m := 1) (cs := [iA v97.1.gOp, sA v97.1.gKind, sA v97.1.gName, .ro .unk v97.1.gValues.length (TValue.cl v97.1.gValues), .ro .unk v97.1.gKids.length (TExpr.cl v97.1.gKids)]) (by kernel_rfl) ⟨trivial, trivial, trivial, (scl_TValue_cl _ _), (scl_TExpr_cl _ _), trivial⟩ ?_)
                        refine AOps_cast (d := (some 75)) (v' := .ro .unk ([v97.1]).length (TExpr.cl ([v97.1]))) (congrArg (AV.ro .unk 1) (eq_TExpr_cl ([v97.1])).symm) ?_
                        refine R 2 86 [(0, .ptr 0 0), (1, .ro .unk x1.length (cl_str x1)), (2, iA x2), (6, .ptr 1 0), (8, iA (w64 (2 + v66.1))), (9, .ptr 2 0), (10, iA (w64 (2 + v67.1))), (11, iA v92), (12, .ptr 4 0)] [.cells 25 [iA 4, sA ByteArray.empty, sA ByteArray.empty, .ro .full 0 [], .ro .unk ([v97.1]).length (TExpr.cl ([v97.1]))], .row 25 (TExpr.cl v95), .cells 25 [iA (w64 (2 + v66.1)), sA ByteArray.empty, sA ByteArray.empty, .ro .full 0 [], .sl 3 0 v95.length (.whole 5)], .cells 25 [iA 0, sA ByteArray.empty, sA ByteArray.empty, .ro .full 0 [], .ro .full 0 []], .cells 101 (TCodes.cs v97.2)] (AOps_done ?_)
                        exact Exists.intro (4, ByteArray.empty, ByteArray.empty, [], [v97.1]) ⟨⟨n, by omega, H⟩, Norm_trans (Norm_cle (h' := [.cells 25 [iA 4, sA ByteArray.empty, sA ByteArray.empty, .ro .unk ([] : List TValue).length (TValue.cl ([] : List TValue)), .ro .unk ([v97.1]).length (TExpr.cl ([v97.1]))], .row 25 (TExpr.cl v95), .cells 25 [iA (w64 (2 + v66.1)), sA ByteArray.empty, sA ByteArray.empty, .ro .full 0 [], .sl 3 0 v95.length (.whole 5)], .cells 25 [iA 0, sA ByteArray.empty, sA ByteArray.empty, .ro .full 0 [], .ro .full 0 []], .cells 101 (TCodes.cs v97.2)]) 4 rfl (leL_cons (AV.le_refl _) (leL_cons (AV.le_refl _) (leL_cons (AV.le_refl _) (leL_cons (AV.le_ro _ _ _) (leL_refl _))))) rfl rfl) (Norm_fd [0, 1, 2, 6, 8, 9, 10, 11, 12] 0 (by kernel_rfl) rfl rfl ⟨⟨trivial, trivial, trivial, (scl_TValue_cl _ _), (scl_TExpr_cl _ _), trivial⟩, (scl_TExpr_cl _ _), ⟨trivial, trivial, trivial, trivial, (sc_sl rfl), trivial⟩, ⟨trivial, trivial, trivial, trivial, trivial, trivial⟩, ⟨(scl_cl_u8 _ _), trivial, trivial⟩, trivial⟩ (by refine scL_fr ?_; exact ⟨(sc_ptr rfl), (scl_cl_str _ _), trivial, (sc_ptr rfl), trivial, (sc_ptr rfl), trivial, trivial, (sc_ptr rfl), trivial⟩))⟩
                      · refine AWP_skip ?_
                        exact Exists.intro (v97.1.gOp, v97.1.gKind, v97.1.gName, v97.1.gValues, v97.1.gKids) ⟨⟨n, by omega, H⟩, Norm_fd [0, 1, 2, 6, 8, 9, 10, 11, 12] 0 (by kernel_rfl) rfl rfl ⟨⟨trivial, trivial, trivial, (scl_TValue_cl _ _), (scl_TExpr_cl _ _), trivial⟩, (scl_TExpr_cl _ _), ⟨trivial, trivial, trivial, trivial, (sc_sl rfl), trivial⟩, ⟨trivial, trivial, trivial, trivial, trivial, trivial⟩, ⟨(scl_cl_u8 _ _), trivial, trivial⟩, trivial⟩ (by refine scL_fr ?_; exact ⟨(sc_ptr rfl), (scl_cl_str _ _), trivial, (sc_ptr rfl), trivial, (sc_ptr rfl), trivial, trivial, (sc_ptr rfl), trivial⟩)⟩
                  · refine AWP_exit ?_
                    show AWP _ _ _ _ _ _ _
                    refine AWP_reg (R 2 86 [(6, .ptr 1 0)] [.row 25 (TExpr.cl v95), .cells 25 [iA (w64 (2 + v66.1)), sA ByteArray.empty, sA ByteArray.empty, .ro .full 0 [], .sl 3 0 v95.length (.whole 5)], .cells 25 [iA (w64 (2 + v66.1)), sA ByteArray.empty, sA ByteArray.empty, .ro .full 0 [], .sl 3 0 v95.length (.whole 5)], .cells 101 [.ro .unk v93.length (cl_u8 v93), iA v94]] (AOps_done (AWP_ret ?_)))
                    have hr := Option.some.inj H
                    subst hr
                    exact Fin_retn 3 (l := [.agg [iA (w64 (2 + v66.1)), sA ByteArray.empty, sA ByteArray.empty, .ro .full 0 [], .sl 3 0 v95.length (.whole 5)]]) (h' := [.cells 101 [.ro .unk v93.length (cl_u8 v93), iA v94]]) (by kernel_rfl) rfl (Nat.le_of_ble_eq_true rfl) ((by refine Closed_of ?_; exact ⟨⟨(scl_cl_u8 _ _), trivial, trivial⟩, trivial⟩)) (Frz_agg (FrzL_cons (Frz_sc trivial) (FrzL_cons (Frz_sc trivial) (FrzL_cons (Frz_sc trivial) (FrzL_cons (Frz_le (Frz_sc trivial) (AV.le_ro _ _ _)) (FrzL_cons (Frz_row (t := 25) (cs := TExpr.cl v95) rfl (scl_TExpr_cl _ _)) (FrzL_nil)))))) rfl) ⟨rfl, rfl⟩
              · refine AWP_skip ?_
                exact Exists.intro () ⟨⟨n, by omega, H⟩, Norm_fd [0, 6] 0 (by kernel_rfl) rfl rfl ⟨⟨trivial, trivial, trivial, trivial, trivial, trivial⟩, ⟨(scl_cl_u8 _ _), trivial, trivial⟩, trivial⟩ (by refine scL_fr ?_; exact ⟨(sc_ptr rfl), (sc_ptr rfl), trivial⟩)⟩
            · refine AWP_reg (Rh 2 86 [(0, .ptr 0 0), (1, .ro .unk x1.length (cl_str x1)), (2, iA x2), (6, .ptr 1 0), (23, iA v3), (49, bA (v3 == 5))] (AOps_done (CD H (fun hb106 H => ?_) (fun hb106 H => ?_))))
              · refine AWP_skip ?_
                exact Exists.intro (v3 == 5) ⟨⟨n, by omega, H⟩, Norm_fd [0, 1, 2, 6, 49] 0 (by kernel_rfl) rfl rfl ⟨⟨trivial, trivial, trivial, trivial, trivial, trivial⟩, ⟨(scl_cl_u8 _ _), trivial, trivial⟩, trivial⟩ (by refine scL_fr ?_; exact ⟨(sc_ptr rfl), (scl_cl_str _ _), trivial, (sc_ptr rfl), trivial, trivial⟩)⟩
              · refine AWP_region ?_
                refine Rh 2 86 [(0, .ptr 0 0), (1, .ro .unk x1.length (cl_str x1)), (2, iA x2), (6, .ptr 1 0), (49, bA (v3 == 6))] (AOps_done ?_)
                exact Exists.intro (v3 == 6) ⟨⟨n, by omega, H⟩, Norm_fd [0, 1, 2, 6, 49] 0 (by kernel_rfl) rfl rfl ⟨⟨trivial, trivial, trivial, trivial, trivial, trivial⟩, ⟨(scl_cl_u8 _ _), trivial, trivial⟩, trivial⟩ (by refine scL_fr ?_; exact ⟨(sc_ptr rfl), (scl_cl_str _ _), trivial, (sc_ptr rfl), trivial, trivial⟩)⟩
  · refine AWP_reg (Rh 3 86 [(0, .ptr 0 0), (1, .ro .unk x1.length (cl_str x1)), (2, iA x2), (6, .ptr 1 0), (7, iA v1.1), (17, bA (decide (x2 ≤ 1)))] (AOps_run 3 [0, 1, 2, 6, 7, 20] (st' := fr 86 [(0, .ptr 0 0), (1, .ro .unk x1.length (cl_str x1)), (2, iA x2), (6, .ptr 1 0), (7, iA v1.1), (20, bA ((decide (x2 ≤ 1)) && (decide (v1.1 ≥ 4))))]) (h' := [.cells 25 [iA 0, sA ByteArray.empty, sA ByteArray.empty, .ro .full 0 [], .ro .full 0 []], .cells 101 (TCodes.cs v1.2)]) (by (generalize (decide (x2 ≤ 1)) = t0; cases t0 <;> kernel_rfl)) ?_))
    refine AOps_done (CD H (fun hb107 H => ?_) (fun hb107 H => ?_))
    · refine AWP_region ?_
      refine Rh 3 86 [(0, .ptr 0 0), (1, .ro .unk x1.length (cl_str x1)), (2, iA x2), (6, .ptr 1 0), (7, iA (w64 (v1.1 - 4)))] (AOps_done ?_)
      exact Exists.intro (w64 (v1.1 - 4)) ⟨⟨n, by omega, H⟩, Norm_fd [0, 1, 2, 6, 7] 0 (by kernel_rfl) rfl rfl ⟨⟨trivial, trivial, trivial, trivial, trivial, trivial⟩, ⟨(scl_cl_u8 _ _), trivial, trivial⟩, trivial⟩ (by refine scL_fr ?_; exact ⟨(sc_ptr rfl), (scl_cl_str _ _), trivial, (sc_ptr rfl), trivial, trivial⟩)⟩
    · refine AWP_skip ?_
      exact Exists.intro v1.1 ⟨⟨n, by omega, H⟩, Norm_fd [0, 1, 2, 6, 7] 0 (by kernel_rfl) rfl rfl ⟨⟨trivial, trivial, trivial, trivial, trivial, trivial⟩, ⟨(scl_cl_u8 _ _), trivial, trivial⟩, trivial⟩ (by refine scL_fr ?_; exact ⟨(sc_ptr rfl), (scl_cl_str _ _), trivial, (sc_ptr rfl), trivial, trivial⟩)⟩
theorem s_all_draw_Codes_Expr (hG : GlobD E) : ∀ n : Nat, (∀ {x0 : TCodes}, ∀ {x1 : List ByteArray}, ∀ {x2 : Int}, ∀ {r : TExpr × TCodes}, p_draw_Codes_Expr n x0 x1 x2 = some r → Sp Tryz.prog E 13 [.ptr 0 0, .ro .unk x1.length (cl_str x1), iA x2] [.cells 101 (TCodes.cs x0)] (isA (.agg (TExpr.cs r.1)) [.cells 101 (TCodes.cs r.2)])) := by
  intro n
  induction n with
  | zero => exact fun H => not_none (by simpa only [p_draw_Codes_Expr] using H)
  | succ n ih => exact fun H => s_draw_Codes_Expr_F hG ih (by simpa only [p_draw_Codes_Expr] using H)
theorem s_draw_Codes_Expr {n : Nat} (hG : GlobD E) {x0 : TCodes} {x1 : List ByteArray} {x2 : Int} {r : TExpr × TCodes} (H : p_draw_Codes_Expr n x0 x1 x2 = some r) :
    Sp Tryz.prog E 13 [.ptr 0 0, .ro .unk x1.length (cl_str x1), iA x2] [.cells 101 (TCodes.cs x0)] (isA (.agg (TExpr.cs r.1)) [.cells 101 (TCodes.cs r.2)]) := (s_all_draw_Codes_Expr hG n) H
end Go.Proofs.YtjhbobacbaikoaaGreatDoor
/- Drawn conditions are well-formed, and of bounded size. -/
namespace Go.Proofs.YtjhbobacbaikoaaGreatDoor
open Go
set_option linter.unusedVariables false
set_option linter.unusedSimpArgs false
set_option maxRecDepth 100000
/-! ## two kinds of fuel -/
def Gv2 {α : Type} (m : Nat → Nat → Option α) (Q : α → Prop) : Prop := ∃ r, Q r ∧ ∃ N, ∀ a b, N ≤ a → N ≤ b → m a b = some r
section
variable {α β : Type} {m : Nat → Nat → Option α} {Q R : α → Prop}
theorem Gv2.of1 {f : Nat → Option α} (h : Gv f Q) : Gv2 (fun a _ => f a) Q := by obtain ⟨r, q, N, h⟩ := h; exact ⟨r, q, N, fun a b ha _ => h a ha⟩
theorem Gv2.of2 {f : Nat → Option α} (h : Gv f Q) : Gv2 (fun _ b => f b) Q := by obtain ⟨r, q, N, h⟩ := h; exact ⟨r, q, N, fun a b _ hb => h b hb⟩
theorem Gv2.pure {r : α} (h : Q r) : Gv2 (fun _ _ => some r) Q := ⟨r, h, 0, fun _ _ _ _ => rfl⟩
theorem Gv2.bind {k : Nat → Nat → α → Option β} {S : β → Prop} (h : Gv2 m Q) (g : ∀ r, Q r → Gv2 (fun a b => k a b r) S) : Gv2 (fun a b => (m a b).bind (k a b)) S := by
  obtain ⟨r, q, N, h⟩ := h
  obtain ⟨s, q2, M, g⟩ := g r q
  exact ⟨s, q2, max N M, fun a b ha hb => by show (m a b).bind (k a b) = some s; rw [h a b (by omega) (by omega)]; exact g a b (by omega) (by omega)⟩
theorem Gv2.cond {c : Bool} {f g : Nat → Nat → Option α} (h1 : c = true → Gv2 f Q) (h2 : c = false → Gv2 g Q) : Gv2 (fun a b => bif c then f a b else g a b) Q := by
  cases c with
  | true => exact h1 rfl
  | false => exact h2 rfl
theorem Gv2.succ (h : Gv2 (fun a b => m a (b + 1)) Q) : Gv2 m Q := by
  obtain ⟨r, q, N, h⟩ := h
  refine ⟨r, q, N + 1, fun a b ha hb => ?_⟩
  obtain ⟨b, rfl⟩ : ∃ k, b = k + 1 := ⟨b - 1, by omega⟩
  exact h a b (by omega) (by omega)
theorem Gv2.diag (h : Gv2 m Q) : Gv (fun n => m n n) Q := by obtain ⟨r, q, N, h⟩ := h; exact ⟨r, q, N, fun n hn => h n n hn hn⟩
theorem Gv2.mono (h : Gv2 m Q) (k : ∀ r, Q r → R r) : Gv2 m R := by obtain ⟨r, q, a⟩ := h; exact ⟨r, k r q, a⟩
end
mutual
/-- Each part is well-formed. -/
def TExpr.gd : TExpr → Prop
  | .mk op k nm vs ks => (Al fun n => p_shape_part n (.mk op k nm vs ks) 0 = some 0) ∧ TExpr.gdL ks
def TExpr.gdL : List TExpr → Prop
  | [] => True
  | x :: xs => x.gd ∧ TExpr.gdL xs
end
theorem pv_zero {x : TExpr} (hx : x.sm) (h : Al fun n => p_shape_part n x 0 = some 0) : pv x = 0 := by
  obtain ⟨n, h1, h2⟩ := ((pv_al x hx).and h).get
  have := h1.1 0
  rw [h2, if_neg (by decide)] at this
  exact (Option.some.inj this).symm
mutual
theorem walk_good : ∀ (x : TExpr) (d b : Int), x.gd → x.sm → d + x.dep ≤ 10 → b + x.parts ≤ 60 → walkV x d b = (0, b + x.parts)
  | .mk op k nm vs ks, d, b => fun hg hs hd hb => by
    rw [TExpr.dep] at hd
    rw [TExpr.parts] at hb
    rw [TExpr.gd] at hg
    have hp := pv_zero hs hg.1
    rw [TExpr.sm] at hs
    rw [walkV, if_neg (by omega), if_neg (by omega), if_neg (by rw [hp]; simp), walk_goodL ks (d + 1) (b + 1) hg.2 hs.2.2.2.2 (by omega) (by omega), TExpr.parts]
    congr 1
    omega
theorem walk_goodL : ∀ (l : List TExpr) (d b : Int), TExpr.gdL l → TExpr.smL l → d + TExpr.depL l ≤ 10 → b + TExpr.partsL l ≤ 60 → walkVL l d b = (0, b + TExpr.partsL l)
  | [], d, b => fun _ _ _ _ => by rw [walkVL, TExpr.partsL]; simp
  | x :: xs, d, b => fun hg hs hd hb => by
    rw [TExpr.gdL] at hg
    rw [TExpr.smL] at hs
    rw [TExpr.depL] at hd
    rw [TExpr.partsL] at hb
    have h1 := walk_good x d b hg.1 hs.1 (by omega) (by omega)
    rw [walkVL, h1, if_neg (by simp), walk_goodL xs d _ hg.2 hs.2 (by omega) (by simp only; omega), TExpr.partsL]
    congr 1
    omega
end
theorem expr_good (x : TExpr) (hg : x.gd) (hs : x.sm) (hd : x.dep ≤ 10) (hp : x.parts ≤ 60) : Al fun n => p_shape_Expr n x = some 0 := by
  refine (ex_al x hs).mono fun n h => ?_
  obtain ⟨h1, h2⟩ := h 0 0 (by omega) (by omega) (by omega) (by omega)
  unfold p_shape_Expr
  rw [h1, walk_good x 0 0 hg hs (by omega) (by omega)]
  rfl
/-- A condition of bounded size. -/
structure ExG (D P : Nat) (x : TExpr) : Prop where
  gd : x.gd
  bd : x.bd 20
  dep : x.dep ≤ D
  parts : x.parts ≤ P
theorem ExG.le {D P D' P' : Nat} {x : TExpr} (h : ExG D P x) (h1 : D ≤ D') (h2 : P ≤ P') : ExG D' P' x := ⟨h.gd, h.bd, Nat.le_trans h.dep h1, Nat.le_trans h.parts h2⟩
theorem gdL_iff : ∀ {l : List TExpr}, TExpr.gdL l ↔ ∀ x ∈ l, x.gd
  | [] => by simp [TExpr.gdL]
  | x :: l => by rw [TExpr.gdL, gdL_iff (l := l)]; simp
theorem depL_le {D : Nat} : ∀ {l : List TExpr}, (∀ x ∈ l, x.dep ≤ D) → TExpr.depL l ≤ D
  | [], _ => by rw [TExpr.depL]; omega
  | x :: l, h => by
    have h1 := h x (by simp)
    have h2 := depL_le (l := l) fun y hy => h y (by simp [hy])
    rw [TExpr.depL]; omega
theorem partsL_le {P : Nat} : ∀ {l : List TExpr}, (∀ x ∈ l, x.parts ≤ P) → TExpr.partsL l ≤ l.length * P
  | [], _ => by rw [TExpr.partsL]; omega
  | x :: l, h => by
    have h1 := h x (by simp)
    have h2 := partsL_le (l := l) fun y hy => h y (by simp [hy])
    rw [TExpr.partsL, List.length_cons, Nat.succ_mul]; omega
theorem ExG.mk' {D P : Nat} {op : Int} {k nm : ByteArray} {vs : List TValue} {ks : List TExpr} (hp : Al fun n => p_shape_part n (.mk op k nm vs ks) 0 = some 0) (hk : k.size ≤ 100) (hn : nm.size ≤ 100) (hv : vs.length ≤ 20) (hvb : ∀ v ∈ vs, v.bd) (hl : ks.length ≤ 20)
    (h : ∀ x ∈ ks, ExG D P x) : ExG (1 + D) (1 + ks.length * P) (.mk op k nm vs ks) where
  gd := by rw [TExpr.gd]; exact ⟨hp, gdL_iff.2 fun x hx => (h x hx).gd⟩
  bd := by rw [TExpr.bd]; exact ⟨hk, hn, hv, hvb, hl, TExpr.bdL_iff.2 fun x hx => (h x hx).bd⟩
  dep := by rw [TExpr.dep]; have := depL_le fun x hx => (h x hx).dep; omega
  parts := by rw [TExpr.parts]; have := partsL_le fun x hx => (h x hx).parts; omega
theorem e0sz : ByteArray.empty.size = 0 := rfl
theorem seq00 : seq' ByteArray.empty ByteArray.empty = true := by kernel_rfl
/-- A part without values. -/
theorem part_and {op : Int} (h : op = 2 ∨ op = 3) {ks : List TExpr} (h2 : 2 ≤ ks.length) (h3 : ks.length ≤ 12) (hne : ∀ k ∈ ks, k.gOp ≠ op) : Al fun n => p_shape_part n (.mk op ByteArray.empty ByteArray.empty [] ks) 0 = some 0 := by
  refine part_ok _ (by show 1 ≤ op ∧ op ≤ 15; omega) (fun n => ?_) h3 (by show 0 ≤ 20; decide) (fun _ => hne) (fun h6 => ?_) (fun h6 => ?_) (fun v hv => by cases hv) (fun h9 => ?_)
  · have e : decide (lI ks < 2) = false := decide_eq_false (by unfold lI; omega)
    rcases h with rfl | rfl
    · unfold p_shape_shape p_shape_shape_K1 p_shape_test
      rw [show decide (lI (TExpr.mk 2 ByteArray.empty ByteArray.empty [] ks).gKids < 2) = false from e]
      refine Eq.trans ?_ (rfl : some true = some true)
      kernel_rfl
    · unfold p_shape_shape p_shape_shape_K1 p_shape_test
      rw [show decide (lI (TExpr.mk 3 ByteArray.empty ByteArray.empty [] ks).gKids < 2) = false from e]
      refine Eq.trans ?_ (rfl : some true = some true)
      kernel_rfl
  · have h6 : 6 ≤ op := h6
    omega
  · have h6 : 5 ≤ op := h6
    omega
  · have h9 : op = 9 ∨ op = 10 ∨ op = 11 := h9
    omega
theorem part_not {k : TExpr} : Al fun n => p_shape_part n (.mk 4 ByteArray.empty ByteArray.empty [] [k]) 0 = some 0 := by
  refine part_ok _ (by show (1 : Int) ≤ 4 ∧ (4 : Int) ≤ 15; decide) (fun n => ?_) (by show 1 ≤ 12; decide) (by show 0 ≤ 20; decide) (fun h => ?_) (fun h6 => ?_) (fun h6 => ?_) (fun v hv => by cases hv) (fun h9 => ?_)
  · kernel_rfl
  · rcases h with h | h <;> cases h
  · have h6 : (6 : Int) ≤ 4 := h6
    omega
  · have h6 : (5 : Int) ≤ 4 := h6
    omega
  · rcases h9 with h | h | h <;> cases h
theorem part_true : Al fun n => p_shape_part n (.mk 1 ByteArray.empty ByteArray.empty [] []) 0 = some 0 := Al.addk 60 fun n => by kernel_rfl
theorem part_segment {s : ByteArray} (hs : Al fun n => p_text_Key n s = some true) : Al fun n => p_shape_part n (.mk 5 ByteArray.empty s [] []) 0 = some 0 := by
  refine part_ok _ (by show (1 : Int) ≤ 5 ∧ (5 : Int) ≤ 15; decide) (fun n => ?_) (by show 0 ≤ 12; decide) (by show 0 ≤ 20; decide) (fun h => ?_) (fun h6 => ?_) (fun h6 => hs) (fun v hv => by cases hv) (fun h9 => ?_)
  · unfold p_shape_shape p_shape_shape_K1 p_shape_test
    simp only [TExpr.gOp, TExpr.gKids, TExpr.gValues, TExpr.gKind, TExpr.gName, seq00]
    generalize seq' s ByteArray.empty = b
    cases b <;> kernel_rfl
  · rcases h with h | h <;> cases h
  · have h6 : (6 : Int) ≤ 5 := h6
    omega
  · rcases h9 with h | h | h <;> cases h
theorem testG_ex {x : TExpr} (h : TestG x) : ExG 1 1 x := by
  have hp := test_part h
  have h1 := words_size _ (List.mem_append_left _ h.kind)
  have h2 := words_size _ (List.mem_append_right _ h.name)
  have hk := h.kids
  have hv := h.vals
  have hl := h.len
  cases x with
  | mk op k nm vs ks =>
    have hk : ks = [] := hk
    subst hk
    have := ExG.mk' (D := 0) (P := 0) hp (Nat.le_trans h1 (by decide)) (Nat.le_trans h2 (by decide)) (Nat.le_trans hl (by decide)) (fun v hvv => good_bd v (hv v hvv)) (Nat.zero_le _) (fun x hx => by cases hx)
    exact this.le (by omega) (by simp)
def exP : Nat → Nat
  | 0 => 1
  | L + 1 => 1 + 3 * (exP L + 1)
theorem exP_mono (L : Nat) : 1 ≤ exP L := by cases L <;> simp [exP] <;> omega
/-- Names of segments. -/
def SegG (l : List ByteArray) : Prop := l.length ≤ 100 ∧ ∀ s ∈ l, s.size ≤ 100 ∧ Al fun n => p_text_Key n s = some true
theorem expr_K2 {c : TCodes} (hc : c.cok) (x : Int) : Gv (fun n => p_draw_Codes_Expr_K2 n (x, c)) fun r => ExG 1 1 r.1 ∧ r.2.cok := by
  unfold p_draw_Codes_Expr_K2
  exact Gv.bind (test_gv hc) fun v hv => Gv.pure ⟨testG_ex hv.1, hv.2⟩
theorem expr_loop {D P : Nat} {segs : List ByteArray} {L op cnt : Int} (hop : op = 2 ∨ op = 3) (hcnt : cnt = 2 ∨ cnt = 3) {a1 a2 : Int × TCodes} (ha1 : w64 (2 + a1.1) = op) (ha2 : w64 (2 + a2.1) = cnt)
    (ih : ∀ c : TCodes, c.cok → Gv (fun n => p_draw_Codes_Expr n c segs (w64 (L - 1))) fun r => ExG D P r.1 ∧ r.2.cok) :
    ∀ (q i : Nat) (c : TCodes) (l : List TExpr), (i : Int) + q = cnt → c.cok → l.length = i → (∀ x ∈ l, ExG (D + 1) (P + 1) x ∧ x.gOp ≠ op) →
      Gv2 (fun a b => p_draw_Codes_Expr_L1 b (p_draw_Codes_Expr a) segs L a1 a2 i c.glist c.gat l) fun r => ExG (D + 2) (1 + 3 * (P + 1)) r.1 ∧ r.2.cok := by
  intro q
  induction q with
  | zero =>
    intro i c l hi hc hl hx
    refine Gv2.succ ?_
    simp only [p_draw_Codes_Expr_L1]
    rw [ha2]
    refine Gv2.cond (fun h => ?_) fun h => ?_
    · have h := of_decide_eq_true h
      omega
    · rw [ha1]
      have hp := part_and hop (ks := l) (by omega) (by omega) (fun k hk => (hx k hk).2)
      have h3 : l.length * (P + 1) ≤ 3 * (P + 1) := Nat.mul_le_mul_right _ (by omega)
      exact Gv2.pure ⟨(ExG.mk' hp (by decide) (by decide) (by decide) (fun v hv => by cases hv) (by omega) (fun x hxl => (hx x hxl).1)).le (by omega) (by omega), hc⟩
  | succ q ih2 =>
    intro i c l hi hc hl hx
    refine Gv2.succ ?_
    simp only [p_draw_Codes_Expr_L1]
    rw [ha2, ha1]
    refine Gv2.cond (fun h => ?_) fun h => ?_
    · refine Gv2.bind (Gv2.of1 (ih c hc)) fun v hv => ?_
      have step : ∀ (op' : Int) (k nm : ByteArray) (vs : List TValue) (ks : List TExpr), ExG (D + 1) (P + 1) (.mk op' k nm vs ks) → op' ≠ op →
          Gv2 (fun a b => p_draw_Codes_Expr_K4 b (p_draw_Codes_Expr a) segs L a1 a2 i l v op' k nm vs ks) fun r => ExG (D + 2) (1 + 3 * (P + 1)) r.1 ∧ r.2.cok := by
        intro op' k nm vs ks hx' hne
        refine Gv2.succ ?_
        simp only [p_draw_Codes_Expr_K4]
        refine Gv2.bind (Gv2.of1 (Gv.app (Q := fun m => m = l ++ [TExpr.mk op' k nm vs ks]) (by simp; omega) (by decide) rfl)) ?_
        rintro m rfl
        rw [w64_add (by omega)]
        refine ih2 (i + 1) v.2 _ (by omega) hv.2 (by simp; omega) fun x hxm => ?_
        rcases List.mem_append.1 hxm with hxm | hxm
        · exact hx x hxm
        · obtain rfl : x = TExpr.mk op' k nm vs ks := by simpa using hxm
          exact ⟨hx', hne⟩
      refine Gv2.cond (fun h => ?_) fun h => ?_
      · refine step 4 _ _ _ _ ?_ (by omega)
        have := ExG.mk' (D := D) (P := P) (part_not (k := v.1)) (by decide) (by decide) (by decide) (fun v hv => by cases hv) (by show 1 ≤ 20; decide) (fun x hx => by
          obtain rfl : x = v.1 := by simpa using hx
          exact hv.1)
        exact this.le (by omega) (by simp; omega)
      · refine step _ _ _ _ _ ?_ (beq_eq_false_iff_ne.1 h)
        have e : TExpr.mk v.1.gOp v.1.gKind v.1.gName v.1.gValues v.1.gKids = v.1 := by cases v.1; rfl
        rw [e]; exact hv.1.le (by omega) (by omega)
    · have h := of_decide_eq_false h
      omega
theorem expr_gv (segs : List ByteArray) (hs : SegG segs) : ∀ (L : Nat) (c : TCodes), L ≤ 100 → c.cok → Gv (fun n => p_draw_Codes_Expr n c segs ((L : Int) + 1)) fun r => ExG (2 * L + 1) (exP L) r.1 ∧ r.2.cok := by
  intro L
  induction L with
  | zero =>
    intro c _ hc
    refine Gv.succ ?_
    simp only [p_draw_Codes_Expr]
    unfold p_draw_Codes_Expr_F
    refine Gv.bind (next_gv hc (k := 8) (by decide) (by decide)) fun r hr => ?_
    have low : ∀ x : Int, 0 ≤ x → x < 4 → Gv (fun n => p_draw_Codes_Expr_K1 n (p_draw_Codes_Expr n) segs (((0 : Nat) : Int) + 1) r x) fun r => ExG 1 1 r.1 ∧ r.2.cok := by
      intro x h0 h4
      unfold p_draw_Codes_Expr_K1
      refine Gv.cond (fun _ => ?_) fun _ => Gv.cond (fun _ => Gv.cond (fun h => ?_) fun _ => expr_K2 hr.2.2 r.1) fun _ => Gv.cond (fun h => ?_) fun _ => Gv.cond (fun h => ?_) fun _ => ?_
      · have := ExG.mk' (D := 0) (P := 0) part_true (by decide) (by decide) (by decide) (fun v hv => by cases hv) (by show 0 ≤ 20; decide) (fun x hx => by cases hx)
        exact Gv.pure ⟨this, hr.2.2⟩
      · have h := of_decide_eq_true h
        unfold lI at h
        refine Gv.bind (next_gv hr.2.2 (k := lI segs) (by unfold lI; omega) (by unfold lI; have := hs.1; omega)) fun s hs2 => ?_
        refine Gv.bind (Gv.rd (Q := fun w => w.size ≤ 100 ∧ Al fun n => p_text_Key n w = some true) hs2.1 hs2.2.1 hs.2) fun w hw => ?_
        have := ExG.mk' (D := 0) (P := 0) (part_segment hw.2) (by decide) hw.1 (by decide) (fun v hv => by cases hv) (by show 0 ≤ 20; decide) (fun x hx => by cases hx)
        exact Gv.pure ⟨this, hs2.2.2⟩
      · have := beq_iff_eq.1 h
        omega
      · have := beq_iff_eq.1 h
        omega
      · unfold p_draw_Codes_Expr_K3
        refine Gv.cond (fun h => ?_) fun _ => expr_K2 hr.2.2 r.1
        have := beq_iff_eq.1 h
        omega
    refine Gv.cond (fun h => ?_) fun h => ?_
    · have h := (Bool.and_eq_true_iff.1 h).2
      have h := of_decide_eq_true h
      rw [w64_of (by omega) (by omega)]
      exact low _ (by omega) (by omega)
    · rw [decide_eq_true (show (((0 : Nat) : Int) + 1) ≤ 1 by omega), Bool.true_and] at h
      have h := of_decide_eq_false h
      exact low _ (by omega) (by omega)
  | succ L ih =>
    intro c hL hc
    have ih := fun c hc => ih c (by omega) hc
    refine Gv.succ ?_
    simp only [p_draw_Codes_Expr]
    unfold p_draw_Codes_Expr_F
    have e1 : w64 ((((L + 1 : Nat) : Int) + 1) - 1) = (L : Int) + 1 := by rw [w64_of (by omega) (by omega)]; omega
    refine Gv.bind (next_gv hc (k := 8) (by decide) (by decide)) fun r hr => ?_
    rw [decide_eq_false (show ¬ ((((L + 1 : Nat) : Int) + 1) ≤ 1) by omega), Bool.false_and]
    simp only [cond_false]
    have lift : ∀ {x : TExpr}, ExG 1 1 x → ExG (2 * (L + 1) + 1) (exP (L + 1)) x := fun h => h.le (by omega) (exP_mono _)
    have hK2 := (expr_K2 hr.2.2 r.1).mono fun s h => (⟨lift h.1, h.2⟩ : ExG (2 * (L + 1) + 1) (exP (L + 1)) s.1 ∧ s.2.cok)
    have hK3 : ∀ b, Gv (fun n => p_draw_Codes_Expr_K3 n (p_draw_Codes_Expr n) segs (((L + 1 : Nat) : Int) + 1) r b) fun r => ExG (2 * (L + 1) + 1) (exP (L + 1)) r.1 ∧ r.2.cok := by
      intro b
      unfold p_draw_Codes_Expr_K3
      refine Gv.cond (fun _ => ?_) fun _ => hK2
      refine Gv.bind (next_gv hr.2.2 (k := 2) (by decide) (by decide)) fun a1 h1 => ?_
      refine Gv.bind (next_gv h1.2.2 (k := 2) (by decide) (by decide)) fun a2 h2 => ?_
      have := expr_loop (D := 2 * L + 1) (P := exP L) (segs := segs) (L := ((L + 1 : Nat) : Int) + 1) (op := 2 + a1.1) (cnt := 2 + a2.1) (a1 := a1) (a2 := a2) (by omega) (by omega) (w64_of (by omega) (by omega)) (w64_of (by omega) (by omega))
        (fun c hc => by rw [e1]; exact ih c hc) (2 + a2.1).toNat 0 a2.2 [] (by omega) h2.2.2 rfl (fun x hx => by cases hx)
      exact this.diag
    unfold p_draw_Codes_Expr_K1
    refine Gv.cond (fun _ => ?_) fun _ => Gv.cond (fun _ => Gv.cond (fun h => ?_) fun _ => hK2) fun _ => Gv.cond (fun h => ?_) fun _ => Gv.cond (fun h => hK3 _) fun _ => hK3 _
    · have := ExG.mk' (D := 0) (P := 0) part_true (by decide) (by decide) (by decide) (fun v hv => by cases hv) (by show 0 ≤ 20; decide) (fun x hx => by cases hx)
      exact Gv.pure ⟨lift this, hr.2.2⟩
    · have h := of_decide_eq_true h
      unfold lI at h
      refine Gv.bind (next_gv hr.2.2 (k := lI segs) (by unfold lI; omega) (by unfold lI; have := hs.1; omega)) fun s hs2 => ?_
      refine Gv.bind (Gv.rd (Q := fun w => w.size ≤ 100 ∧ Al fun n => p_text_Key n w = some true) hs2.1 hs2.2.1 hs.2) fun w hw => ?_
      have := ExG.mk' (D := 0) (P := 0) (part_segment hw.2) (by decide) hw.1 (by decide) (fun v hv => by cases hv) (by show 0 ≤ 20; decide) (fun x hx => by cases hx)
      exact Gv.pure ⟨lift this, hs2.2.2⟩
    · rw [e1]
      refine Gv.bind (ih r.2 hr.2.2) fun v hv => ?_
      have := ExG.mk' (D := 2 * L + 1) (P := exP L) (part_not (k := v.1)) (by decide) (by decide) (by decide) (fun v hv => by cases hv) (by show 1 ≤ 20; decide) (fun x hx => by
          obtain rfl : x = v.1 := by simpa using hx
          exact hv.1)
      exact Gv.pure ⟨this.le (by omega) (by simp only [exP, List.length_cons, List.length_nil]; omega), hv.2⟩
end Go.Proofs.YtjhbobacbaikoaaGreatDoor
/- A function of the program as a pure function, and that the program computes it. -/
namespace Go.Proofs.YtjhbobacbaikoaaGreatDoor
open Go
set_option linter.unusedVariables false
set_option linter.unusedSimpArgs false
set_option maxRecDepth 100000
def p_ref6_Parts_L1 (n : Nat) (self_p_ref6_Parts : TExpr → Option Int) (x0 : TExpr) (v9 : Int) (v10 : Int) : Option Int := match n with
| 0 => none
| n + 1 =>
(bif (decide (v10 < (lI x0.gKids))) && (decide (v9 ≤ 60)) then
(rdO x0.gKids v10).bind fun v12 =>
(self_p_ref6_Parts v12).bind fun v13 =>
 p_ref6_Parts_L1 n self_p_ref6_Parts x0 (w64 (v9 + v13)) (w64 (v10 + 1))
 else
 some ((if 61 < v9 then 61 else v9)))
def p_ref6_Parts_F (self_p_ref6_Parts : TExpr → Option Int) (n : Nat) (x0 : TExpr) : Option Int :=
 p_ref6_Parts_L1 n self_p_ref6_Parts x0 1 0
def p_ref6_Parts (n : Nat) (x0 : TExpr) : Option Int := match n with
| 0 => none
| n + 1 => p_ref6_Parts_F (p_ref6_Parts n) n x0
variable {E : Env}
theorem s_ref6_Parts_F {self_p_ref6_Parts : TExpr → Option Int} (hself_ref6_Parts : ∀ {x0 : TExpr}, ∀ {r : Int}, self_p_ref6_Parts x0 = some r → Sp Tryz.prog E 49 [.agg (TExpr.cs x0)] [] (isA (iA r) [])) {n : Nat} {x0 : TExpr} {r : Int} (H : p_ref6_Parts_F self_p_ref6_Parts n x0 = some r) :
    Sp Tryz.prog E 49 [.agg (TExpr.cs x0)] [] (isA (iA r) []) := by
  unfold p_ref6_Parts_F at H
  refine Sp_fn Tryz.func49 rfl (fun hc hs => ?_)
  refine AWP_reg (R 2 26 [(1, .ptr 0 0)] [.cells 25 (TExpr.cs x0)] (AOps_done (AWP_reg (Rh 1 26 [(1, .ptr 0 0), (3, iA 1)] (AOps_done (AWP_seq (AWP_reg (Rh 1 26 [(1, .ptr 0 0), (3, iA 1), (4, iA 0)] ?_))))))))
  refine AOps_done (AWP_block ?_)
  refine AWP_loopN (α := Int × Int) (fun ⟨v9, v10⟩ => fr 26 [(1, .ptr 0 0), (3, iA v9), (4, iA v10)]) (fun ⟨v9, v10⟩ => [.cells 25 (TExpr.cs x0)]) (fun k_ ⟨v9, v10⟩ => k_ ≤ n ∧ p_ref6_Parts_L1 k_ self_p_ref6_Parts x0 v9 v10 = some r) (fun n a H => ?_) (k := n) (1, 0) ⟨Nat.le_refl _, H⟩ (Norm_fd [1, 3, 4] 0 (by kernel_rfl) rfl rfl ⟨(sc_TExpr_cs _ _), trivial⟩ (by refine scL_fr ?_; exact ⟨(sc_ptr rfl), trivial, trivial, trivial⟩))
  obtain ⟨v9, v10⟩ := a
  show AWP _ _ _ _ _ (fr 26 [(1, .ptr 0 0), (3, iA v9), (4, iA v10)]) [.cells 25 (TExpr.cs x0)]
  obtain ⟨hb_, H⟩ := H
  replace H : p_ref6_Parts_L1 n self_p_ref6_Parts x0 v9 v10 = some r := H
  cases n with
  | zero => exact not_none (by simpa only [p_ref6_Parts_L1] using H)
  | succ n =>
    unfold p_ref6_Parts_L1 at H
    refine AWP_seq (AWP_reg (Rh 6 26 [(1, .ptr 0 0), (3, iA v9), (4, iA v10), (10, bA (decide (v10 < (lI x0.gKids))))] (AOps_run 3 [1, 3, 4, 13] (st' := fr 26 [(1, .ptr 0 0), (3, iA v9), (4, iA v10), (13, bA ((decide (v10 < (lI x0.gKids))) && (decide (v9 ≤ 60))))]) (h' := [.cells 25 (TExpr.cs x0)]) (by (generalize (decide (v10 < (lI x0.gKids))) = t0; cases t0 <;> kernel_rfl)) ?_)))
    refine AOps_done (CD H (fun hb11 H => ?_) (fun hb11 H => ?_))
    · refine AWP_skip ?_
      show AWP _ _ _ _ _ _ _
      refine AWP_seq (AWP_block ?_)
      refine AWP_region ?_
      refine Rh 4 26 [(1, .ptr 0 0), (4, iA v10), (16, iA v9), (18, .ro .unk x0.gKids.length (TExpr.cl x0.gKids)), (19, iA v10)] ?_
      obtain ⟨v12, hv12, H⟩ := bind_some H
      refine AOps_index (d := (some 20)) (sz := 5) (c := TExpr.cs) (by kernel_rfl) rfl (eq_TExpr_cl _) (fun _ => rfl) (by decide) hv12 (fun tl12 => ?_)
      refine Rh 1 26 [(1, .ptr 0 0), (4, iA v10), (16, iA v9), (21, .agg (TExpr.cs v12))] ?_
      obtain ⟨v13, hv13, H⟩ := bind_some H
      refine AOps_callp (d := (some 22)) (al := [.agg (TExpr.cs v12)]) (r := iA v13) (by kernel_rfl) (hself_ref6_Parts hv13) ⟨(sc_TExpr_cs _ _), trivial⟩ trivial ?_
      refine Rh 2 26 [(1, .ptr 0 0), (3, iA (w64 (v9 + v13))), (4, iA v10)] (AOps_done ?_)
      show AWP _ _ _ _ _ _ _
      refine AWP_region ?_
      refine Rh 3 26 [(1, .ptr 0 0), (3, iA (w64 (v9 + v13))), (4, iA (w64 (v10 + 1)))] (AOps_done ?_)
      exact Exists.intro (w64 (v9 + v13), w64 (v10 + 1)) (Exists.intro n ⟨by omega, ⟨by omega, H⟩, Norm_fd [1, 3, 4] 0 (by kernel_rfl) rfl rfl ⟨(sc_TExpr_cs _ _), trivial⟩ (by refine scL_fr ?_; exact ⟨(sc_ptr rfl), trivial, trivial, trivial⟩)⟩)
    · refine AWP_exit ?_
      show AWP _ _ _ _ _ _ _
      refine AWP_reg (Rh 3 26 [(2, iA (if 61 < v9 then 61 else v9))] (AOps_done ?_))
      exact AWP_ret (FR H)
theorem s_all_ref6_Parts : ∀ n : Nat, (∀ {x0 : TExpr}, ∀ {r : Int}, p_ref6_Parts n x0 = some r → Sp Tryz.prog E 49 [.agg (TExpr.cs x0)] [] (isA (iA r) [])) := by
  intro n
  induction n with
  | zero => exact fun H => not_none (by simpa only [p_ref6_Parts] using H)
  | succ n ih => exact fun H => s_ref6_Parts_F ih (by simpa only [p_ref6_Parts] using H)
theorem s_ref6_Parts {n : Nat} {x0 : TExpr} {r : Int} (H : p_ref6_Parts n x0 = some r) :
    Sp Tryz.prog E 49 [.agg (TExpr.cs x0)] [] (isA (iA r) []) := (s_all_ref6_Parts n) H
end Go.Proofs.YtjhbobacbaikoaaGreatDoor
/- A function of the program as a pure function, and that the program computes it. -/
namespace Go.Proofs.YtjhbobacbaikoaaGreatDoor
open Go
set_option linter.unusedVariables false
set_option linter.unusedSimpArgs false
set_option maxRecDepth 100000
def p_shape_count_K1 (n : Nat) (v17 : Int) : Option Int :=
 some (v17)
def p_shape_count_L1 (n : Nat) (self_p_shape_count : TExpr → Int → Option Int) (x0 : TExpr) (v28 : Int) (v29 : Int) : Option Int := match n with
| 0 => none
| n + 1 =>
(bif decide (v29 < (lI x0.gKids)) then
(rdO x0.gKids v29).bind fun v31 =>
(bif decide (v28 > 60) then
 p_shape_count_K1 n  v28
 else
(self_p_shape_count v31 v28).bind fun v33 =>
 p_shape_count_L1 n self_p_shape_count x0 v33 (w64 (v29 + 1)))
 else
 p_shape_count_K1 n  v28)
def p_shape_count_F (self_p_shape_count : TExpr → Int → Option Int) (n : Nat) (x0 : TExpr) (x1 : Int) : Option Int :=
 p_shape_count_L1 n self_p_shape_count x0 (w64 (x1 + 1)) 0
def p_shape_count (n : Nat) (x0 : TExpr) (x1 : Int) : Option Int := match n with
| 0 => none
| n + 1 => p_shape_count_F (p_shape_count n) n x0 x1
variable {E : Env}
theorem s_shape_count_F {self_p_shape_count : TExpr → Int → Option Int} (hself_shape_count : ∀ {x0 : TExpr}, ∀ {x1 : Int}, ∀ {r : Int}, self_p_shape_count x0 x1 = some r → Sp Tryz.prog E 105 [.agg (TExpr.cs x0), iA x1] [] (isA (iA r) [])) {n : Nat} {x0 : TExpr} {x1 : Int} {r : Int} (H : p_shape_count_F self_p_shape_count n x0 x1 = some r) :
    Sp Tryz.prog E 105 [.agg (TExpr.cs x0), iA x1] [] (isA (iA r) []) := by
  unfold p_shape_count_F at H
  refine Sp_fn Tryz.func105 rfl (fun hc hs => ?_)
  refine AWP_reg (R 2 23 [(1, iA x1), (2, .ptr 0 0)] [.cells 25 (TExpr.cs x0)] (AOps_done (AWP_reg (Rh 3 23 [(1, iA (w64 (x1 + 1))), (2, .ptr 0 0)] (AOps_done (AWP_joinN (α := Int) (fun v17 => fr 23 [(1, iA v17)]) (fun v17 => [.cells 25 (TExpr.cs x0)]) (fun v17 => ∃ q, q ≤ q ∧ p_shape_count_K1 q  v17 = some r) (fun v17 hC => ?_) ?_))))))
  · show AWP _ _ _ _ _ (fr 23 [(1, iA v17)]) [.cells 25 (TExpr.cs x0)]
    obtain ⟨n, hn_, hC⟩ := hC
    replace H : p_shape_count_K1 n  v17 = some r := hC
    unfold p_shape_count_K1 at H
    refine AWP_reg (Rh 2 23 [(4, iA v17)] (AOps_done ?_))
    exact AWP_ret (FR H)
  · refine AWP_reg (Rh 4 23 [(1, iA (w64 (x1 + 1))), (10, .ro .unk x0.gKids.length (TExpr.cl x0.gKids)), (11, iA (lI x0.gKids)), (12, iA 0)] (AOps_done (AWP_block ?_)))
    refine AWP_loopN (α := Int × Int) (fun ⟨v28, v29⟩ => fr 23 [(1, iA v28), (10, .ro .unk x0.gKids.length (TExpr.cl x0.gKids)), (11, iA (lI x0.gKids)), (12, iA v29)]) (fun ⟨v28, v29⟩ => [.cells 25 (TExpr.cs x0)]) (fun k_ ⟨v28, v29⟩ => k_ ≤ n ∧ p_shape_count_L1 k_ self_p_shape_count x0 v28 v29 = some r) (fun n a H => ?_) (k := n) (w64 (x1 + 1), 0) ⟨Nat.le_refl _, H⟩ (Norm_fd [1, 10, 11, 12] 0 (by kernel_rfl) rfl rfl ⟨(sc_TExpr_cs _ _), trivial⟩ (by refine scL_fr ?_; exact ⟨trivial, (scl_TExpr_cl _ _), trivial, trivial, trivial⟩))
    obtain ⟨v28, v29⟩ := a
    show AWP _ _ _ _ _ (fr 23 [(1, iA v28), (10, .ro .unk x0.gKids.length (TExpr.cl x0.gKids)), (11, iA (lI x0.gKids)), (12, iA v29)]) [.cells 25 (TExpr.cs x0)]
    obtain ⟨hb_, H⟩ := H
    replace H : p_shape_count_L1 n self_p_shape_count x0 v28 v29 = some r := H
    cases n with
    | zero => exact not_none (by simpa only [p_shape_count_L1] using H)
    | succ n =>
      unfold p_shape_count_L1 at H
      refine AWP_reg (Rh 1 23 [(1, iA v28), (10, .ro .unk x0.gKids.length (TExpr.cl x0.gKids)), (11, iA (lI x0.gKids)), (12, iA v29), (13, bA (decide (v29 < (lI x0.gKids))))] (AOps_done (AWP_seq (CD H (fun hb30 H => ?_) (fun hb30 H => ?_)))))
      · refine AWP_skip ?_
        show AWP _ _ _ _ _ _ _
        refine AWP_seq (AWP_block ?_)
        refine AWP_reg ?_
        obtain ⟨v31, hv31, H⟩ := bind_some H
        refine AOps_index (d := (some 14)) (sz := 5) (c := TExpr.cs) (by kernel_rfl) rfl (eq_TExpr_cl _) (fun _ => rfl) (by decide) hv31 (fun tl31 => ?_)
        refine R 3 23 [(1, iA v28), (6, .ptr 1 0), (10, .ro .unk x0.gKids.length (TExpr.cl x0.gKids)), (11, iA (lI x0.gKids)), (12, iA v29)] [.cells 25 (TExpr.cs v31), .cells 25 (TExpr.cs x0)] (AOps_done (AWP_seq (AWP_reg (Rh 2 23 [(1, iA v28), (6, .ptr 1 0), (10, .ro .unk x0.gKids.length (TExpr.cl x0.gKids)), (11, iA (lI x0.gKids)), (12, iA v29), (17, bA (decide (v28 > 60)))] (AOps_done (CD H (fun hb32 H => ?_) (fun hb32 H => ?_)))))))
        · refine AWP_exit ?_
          exact Exists.intro v28 ⟨⟨n, by omega, H⟩, Norm_fd [1] 1 (by kernel_rfl) rfl rfl ⟨(sc_TExpr_cs _ _), trivial⟩ (by refine scL_fr ?_; exact ⟨trivial, trivial⟩)⟩
        · refine AWP_skip ?_
          show AWP _ _ _ _ _ _ _
          refine AWP_region ?_
          refine Rh 2 23 [(10, .ro .unk x0.gKids.length (TExpr.cl x0.gKids)), (11, iA (lI x0.gKids)), (12, iA v29), (18, .agg (TExpr.cs v31)), (19, iA v28)] ?_
          obtain ⟨v33, hv33, H⟩ := bind_some H
          refine AOps_callp (d := (some 20)) (al := [.agg (TExpr.cs v31), iA v28]) (r := iA v33) (by kernel_rfl) (hself_shape_count hv33) ⟨(sc_TExpr_cs _ _), trivial, trivial⟩ trivial ?_
          refine Rh 1 23 [(1, iA v33), (10, .ro .unk x0.gKids.length (TExpr.cl x0.gKids)), (11, iA (lI x0.gKids)), (12, iA v29)] (AOps_done ?_)
          show AWP _ _ _ _ _ _ _
          refine AWP_region ?_
          refine Rh 2 23 [(1, iA v33), (10, .ro .unk x0.gKids.length (TExpr.cl x0.gKids)), (11, iA (lI x0.gKids)), (12, iA (w64 (v29 + 1)))] (AOps_done ?_)
          exact Exists.intro (v33, w64 (v29 + 1)) (Exists.intro n ⟨by omega, ⟨by omega, H⟩, Norm_fd [1, 10, 11, 12] 1 (by kernel_rfl) rfl rfl ⟨(sc_TExpr_cs _ _), trivial⟩ (by refine scL_fr ?_; exact ⟨trivial, (scl_TExpr_cl _ _), trivial, trivial, trivial⟩)⟩)
      · refine AWP_exit ?_
        exact Exists.intro v28 ⟨⟨n, by omega, H⟩, Norm_fd [1] 0 (by kernel_rfl) rfl rfl ⟨(sc_TExpr_cs _ _), trivial⟩ (by refine scL_fr ?_; exact ⟨trivial, trivial⟩)⟩
theorem s_all_shape_count : ∀ n : Nat, (∀ {x0 : TExpr}, ∀ {x1 : Int}, ∀ {r : Int}, p_shape_count n x0 x1 = some r → Sp Tryz.prog E 105 [.agg (TExpr.cs x0), iA x1] [] (isA (iA r) [])) := by
  intro n
  induction n with
  | zero => exact fun H => not_none (by simpa only [p_shape_count] using H)
  | succ n ih => exact fun H => s_shape_count_F ih (by simpa only [p_shape_count] using H)
theorem s_shape_count {n : Nat} {x0 : TExpr} {x1 : Int} {r : Int} (H : p_shape_count n x0 x1 = some r) :
    Sp Tryz.prog E 105 [.agg (TExpr.cs x0), iA x1] [] (isA (iA r) []) := (s_all_shape_count n) H
end Go.Proofs.YtjhbobacbaikoaaGreatDoor
/- A function of the program as a pure function, and that the program computes it. -/
namespace Go.Proofs.YtjhbobacbaikoaaGreatDoor
open Go
set_option linter.unusedVariables false
set_option linter.unusedSimpArgs false
set_option maxRecDepth 100000
def p_shape_Parts (n : Nat) (x0 : TExpr) : Option Int :=
(p_shape_count n x0 0).bind fun v1 =>
 some (v1)
variable {E : Env}
theorem s_shape_Parts {n : Nat} {x0 : TExpr} {r : Int} (H : p_shape_Parts n x0 = some r) :
    Sp Tryz.prog E 48 [.agg (TExpr.cs x0)] [] (isA (iA r) []) := by
  unfold p_shape_Parts at H
  refine Sp_fn Tryz.func48 rfl (fun hc hs => ?_)
  refine AWP_reg (R 2 5 [(1, .ptr 0 0)] [.cells 25 (TExpr.cs x0)] (AOps_done (AWP_reg (Rh 1 5 [(3, .agg (TExpr.cs x0))] ?_))))
  obtain ⟨v1, hv1, H⟩ := bind_some H
  refine AOps_callp (d := (some 4)) (al := [.agg (TExpr.cs x0), iA 0]) (r := iA v1) (by kernel_rfl) (s_shape_count hv1) ⟨(sc_TExpr_cs _ _), trivial, trivial⟩ trivial ?_
  refine Rh 1 5 [(2, iA v1)] (AOps_done ?_)
  exact AWP_ret (FR H)
end Go.Proofs.YtjhbobacbaikoaaGreatDoor
/- The number of parts of a condition, of the program and of the reference. -/
namespace Go.Proofs.YtjhbobacbaikoaaGreatDoor
open Go
set_option linter.unusedVariables false
set_option linter.unusedSimpArgs false
set_option maxRecDepth 100000
def cap61 (z : Int) : Int := if z ≤ 60 then z else 61
theorem cap61_le {z : Int} (h : z ≤ 60) : cap61 z = z := if_pos h
theorem cap61_gt {z : Int} (h : 60 < z) : cap61 z = 61 := if_neg (by omega)
theorem cap61_range (z : Int) (h : 0 ≤ z) : 0 ≤ cap61 z ∧ cap61 z ≤ 61 := by unfold cap61; split <;> omega
theorem count_loop (x : TExpr) (hl : x.gKids.length < 4294967281) (s : TExpr → Int → Option Int) (h : ∀ k ∈ x.gKids, ∀ b : Int, 0 ≤ b → b ≤ 60 → s k b = some (cap61 (b + k.parts))) :
    ∀ (q i m : Nat) (b : Int), i + q = x.gKids.length → q < m → 0 ≤ b → b ≤ 61 → p_shape_count_L1 m s x b i = some (cap61 (b + TExpr.partsL (x.gKids.drop i))) := by
  intro q
  induction q with
  | zero =>
    intro i m b hi hm h0 h1
    obtain ⟨m, rfl⟩ : ∃ k, m = k + 1 := ⟨m - 1, by omega⟩
    obtain rfl : i = x.gKids.length := by omega
    rw [p_shape_count_L1, lI_out, List.drop_length, TExpr.partsL]
    unfold p_shape_count_K1
    have : cap61 (b + ((0 : Nat) : Int)) = b := by unfold cap61; split <;> omega
    rw [this]; rfl
  | succ q ih =>
    intro i m b hi hm h0 h1
    obtain ⟨m, rfl⟩ : ∃ k, m = k + 1 := ⟨m - 1, by omega⟩
    have hil : i < x.gKids.length := by omega
    rw [p_shape_count_L1, lI_in hil, List.drop_eq_getElem_cons hil, TExpr.partsL]
    simp only [cond_true, rdO_nat hil, Option.bind_some, w64_add (show i + 1 < 9223372036854775808 by omega)]
    by_cases hb : b > 60
    · rw [decide_eq_true hb, cap61_gt (by omega)]
      unfold p_shape_count_K1
      rw [show b = 61 by omega]; rfl
    · rw [decide_eq_false hb, h _ (List.getElem_mem hil) b h0 (by omega)]
      have hr := cap61_range (b + x.gKids[i].parts) (by omega)
      simp only [cond_false, Option.bind_some]
      rw [ih (i + 1) m _ (by omega) (by omega) hr.1 hr.2]
      congr 1
      unfold cap61
      split <;> split <;> split <;> omega
theorem rparts_loop (x : TExpr) (hl : x.gKids.length < 4294967281) (s : TExpr → Option Int) (h : ∀ k ∈ x.gKids, s k = some (cap61 k.parts)) :
    ∀ (q i m : Nat) (b : Int), i + q = x.gKids.length → q < m → 0 ≤ b → b ≤ 200 → p_ref6_Parts_L1 m s x b i = some (cap61 (b + TExpr.partsL (x.gKids.drop i))) := by
  intro q
  induction q with
  | zero =>
    intro i m b hi hm h0 h1
    obtain ⟨m, rfl⟩ : ∃ k, m = k + 1 := ⟨m - 1, by omega⟩
    obtain rfl : i = x.gKids.length := by omega
    rw [p_ref6_Parts_L1, lI_out, List.drop_length, TExpr.partsL]
    simp only [Bool.false_and, cond_false]
    congr 1
    unfold cap61
    split <;> split <;> omega
  | succ q ih =>
    intro i m b hi hm h0 h1
    obtain ⟨m, rfl⟩ : ∃ k, m = k + 1 := ⟨m - 1, by omega⟩
    have hil : i < x.gKids.length := by omega
    rw [p_ref6_Parts_L1, lI_in hil, List.drop_eq_getElem_cons hil, TExpr.partsL]
    by_cases hb : b ≤ 60
    · have hr := cap61_range (x.gKids[i].parts : Int) (by omega)
      rw [decide_eq_true hb]
      simp only [Bool.and_self, cond_true, rdO_nat hil, Option.bind_some, w64_add (show i + 1 < 9223372036854775808 by omega), h _ (List.getElem_mem hil), w64_of (show -9223372036854775808 ≤ b + cap61 (x.gKids[i].parts : Int) by omega) (by omega)]
      rw [ih (i + 1) m _ (by omega) (by omega) (by omega) (by omega)]
      congr 1
      unfold cap61
      split <;> split <;> split <;> omega
    · rw [decide_eq_false hb]
      simp only [Bool.and_false, cond_false]
      congr 1
      unfold cap61
      split <;> split <;> omega
mutual
theorem count_al : ∀ x : TExpr, x.sm → Al fun n => (∀ b : Int, 0 ≤ b → b ≤ 60 → p_shape_count n x b = some (cap61 (b + x.parts))) ∧ p_ref6_Parts n x = some (cap61 x.parts)
  | .mk op kd nm vs ks, hx => by
    have hL := count_alL ks (by rw [TExpr.sm] at hx; exact hx.2.2.2.2)
    have hlen : ks.length < 4294967281 := by rw [TExpr.sm] at hx; exact hx.2.2.2.1
    obtain ⟨N, hN⟩ := hL
    refine Al.succ ⟨N + ks.length + 1, fun n hn => ?_⟩
    have hl := hN n (by omega)
    constructor
    · intro b h0 h1
      rw [p_shape_count]
      unfold p_shape_count_F
      rw [w64_of (by omega) (by omega)]
      have := count_loop (.mk op kd nm vs ks) hlen (p_shape_count n) (fun k hk b h0 h1 => (hl k hk).1 b h0 h1) ks.length 0 n (b + 1) (by simp [TExpr.gKids]) (by omega) (by omega) (by omega)
      rw [TExpr.parts, show b + ((1 + TExpr.partsL ks : Nat) : Int) = b + 1 + (TExpr.partsL ks : Int) by omega]
      exact this
    · rw [p_ref6_Parts]
      unfold p_ref6_Parts_F
      have := rparts_loop (.mk op kd nm vs ks) hlen (p_ref6_Parts n) (fun k hk => (hl k hk).2) ks.length 0 n 1 (by simp [TExpr.gKids]) (by omega) (by omega) (by omega)
      rw [TExpr.parts, show ((1 + TExpr.partsL ks : Nat) : Int) = 1 + (TExpr.partsL ks : Int) by omega]
      exact this
theorem count_alL : ∀ l : List TExpr, TExpr.smL l → Al fun n => ∀ x ∈ l, (∀ b : Int, 0 ≤ b → b ≤ 60 → p_shape_count n x b = some (cap61 (b + x.parts))) ∧ p_ref6_Parts n x = some (cap61 x.parts)
  | [], _ => .of fun n k hk => by cases hk
  | k :: ks, h => by
    rw [TExpr.smL] at h
    refine ((count_al k h.1).and (count_alL ks h.2)).mono fun n ⟨h1, h2⟩ y hy => ?_
    rcases List.mem_cons.1 hy with rfl | hy
    · exact h1
    · exact h2 y hy
end
theorem parts_bi (x : TExpr) (hx : x.sm) : Al fun n => p_shape_Parts n x = some (cap61 x.parts) ∧ p_ref6_Parts n x = some (cap61 x.parts) := by
  refine (count_al x hx).mono fun n ⟨h1, h2⟩ => ⟨?_, h2⟩
  unfold p_shape_Parts
  rw [h1 0 (by omega) (by omega), Int.zero_add]; rfl
/-! ## what is wrong with a condition whose parts are well-formed -/
mutual
theorem walk_gen : ∀ (x : TExpr) (d b : Int), x.gd → x.sm → d + x.dep ≤ 10 → 0 ≤ b → b ≤ 60 → walkV x d b = if b + x.parts ≤ 60 then (0, b + x.parts) else (5, 60)
  | .mk op k nm vs ks, d, b => fun hg hs hd h0 hb => by
    rw [TExpr.dep] at hd
    rw [TExpr.gd] at hg
    have hp := pv_zero hs hg.1
    rw [TExpr.sm] at hs
    rw [walkV]
    by_cases c : b ≥ 60
    · rw [if_pos c, TExpr.parts, if_neg (by omega)]
      congr 1; omega
    · rw [if_neg c, if_neg (by omega), if_neg (by rw [hp]; simp), walk_genL ks (d + 1) (b + 1) hg.2 hs.2.2.2.2 (by omega) (by omega) (by omega), TExpr.parts]
      have e : b + 1 + (TExpr.partsL ks : Int) = b + ((1 + TExpr.partsL ks : Nat) : Int) := by omega
      rw [e]
theorem walk_genL : ∀ (l : List TExpr) (d b : Int), TExpr.gdL l → TExpr.smL l → d + TExpr.depL l ≤ 10 → 0 ≤ b → b ≤ 60 → walkVL l d b = if b + TExpr.partsL l ≤ 60 then (0, b + TExpr.partsL l) else (5, 60)
  | [], d, b => fun _ _ _ _ hb => by rw [walkVL, TExpr.partsL, if_pos (by omega)]; simp
  | x :: xs, d, b => fun hg hs hd h0 hb => by
    rw [TExpr.gdL] at hg
    rw [TExpr.smL] at hs
    rw [TExpr.depL] at hd
    have h1 := walk_gen x d b hg.1 hs.1 (by omega) h0 hb
    rw [walkVL, h1, TExpr.partsL]
    by_cases c : b + (x.parts : Int) ≤ 60
    · rw [if_pos c, if_neg (by simp), walk_genL xs d _ hg.2 hs.2 (by omega) (by simp only; omega) (by simp only; omega)]
      have e : b + (x.parts : Int) + (TExpr.partsL xs : Int) = b + ((x.parts + TExpr.partsL xs : Nat) : Int) := by omega
      simp only [e]
    · rw [if_neg c, if_pos (by simp), if_neg (by omega)]
end
theorem expr_gen (x : TExpr) (hg : x.gd) (hs : x.sm) (hd : x.dep ≤ 10) : Al fun n => p_shape_Expr n x = some (if (x.parts : Int) ≤ 60 then 0 else 5) := by
  refine (ex_al x hs).mono fun n h => ?_
  obtain ⟨h1, h2⟩ := h 0 0 (by omega) (by omega) (by omega) (by omega)
  unfold p_shape_Expr
  rw [h1, walk_gen x 0 0 hg hs (by omega) (by omega) (by omega), Int.zero_add]
  split <;> rfl
theorem expr_part_err (x : TExpr) (hs : x.sm) (h : pv x ≠ 0) : ∃ v, v ≠ 0 ∧ Al fun n => p_shape_Expr n x = some v := by
  refine ⟨pv x, h, (ex_al x hs).mono fun n hh => ?_⟩
  obtain ⟨h1, h2⟩ := hh 0 0 (by omega) (by omega) (by omega) (by omega)
  unfold p_shape_Expr
  rw [h1, walkV_eq, if_neg (by omega), if_neg (by omega), if_pos h]; rfl
/-- A chain of negations. -/
def nots : Nat → TExpr → TExpr
  | 0, x => x
  | k + 1, x => .mk 4 ByteArray.empty ByteArray.empty [] [nots k x]
theorem nots_succ : ∀ (k : Nat) (x : TExpr), nots (k + 1) x = nots k (.mk 4 ByteArray.empty ByteArray.empty [] [x])
  | 0, x => rfl
  | k + 1, x => by rw [nots, nots_succ k x]; rfl
theorem nots_ex {x : TExpr} (h : ExG 1 1 x) : ∀ k : Nat, ExG (1 + k) (1 + k) (nots k x)
  | 0 => h
  | k + 1 => by
    have := ExG.mk' (part_not (k := nots k x)) (by decide) (by decide) (by decide) (fun v hv => by cases hv) (by show 1 ≤ 20; decide) (fun y hy => by
      obtain rfl : y = nots k x := by simpa using hy
      exact nots_ex h k)
    exact this.le (by omega) (by simp; omega)
theorem nots_deep {x : TExpr} (h : ExG 1 1 x) : ∀ (k : Nat) (d b : Int), 0 ≤ d → 10 ≤ d + k → d ≤ 10 → 0 ≤ b → b ≤ d → (walkV (nots k x) d b).1 ≠ 0
  | 0, d, b, h0, h1, h2, h3, h4 => by
    rw [walkV_eq, if_neg (by omega), if_pos (by omega)]; simp
  | k + 1, d, b, h0, h1, h2, h3, h4 => by
    rw [walkV_eq, if_neg (by omega)]
    by_cases c : d ≥ 10
    · rw [if_pos c]; simp
    · rw [if_neg c]
      have hx := nots_ex h (k + 1)
      rw [if_neg (by rw [pv_zero (TExpr.bd_sm (by decide) _ hx.bd) part_not]; simp)]
      have ih := nots_deep h k (d + 1) (b + 1) (by omega) (by omega) (by omega) (by omega) (by omega)
      show (walkVL [nots k x] (d + 1) (b + 1)).1 ≠ 0
      rw [walkVL, if_pos ih]; exact ih
theorem nots_parts {x : TExpr} (k : Nat) : (nots k x).parts = k + x.parts := by
  induction k with
  | zero => simp [nots]
  | succ k ih => rw [nots, TExpr.parts, TExpr.partsL, TExpr.partsL, ih]; omega
theorem nots_dep {x : TExpr} (k : Nat) : (nots k x).dep = k + x.dep := by
  induction k with
  | zero => simp [nots]
  | succ k ih => rw [nots, TExpr.dep, TExpr.depL, TExpr.depL, ih]; omega
end Go.Proofs.YtjhbobacbaikoaaGreatDoor
/- A function of the program as a pure function, and that the program computes it. -/
namespace Go.Proofs.YtjhbobacbaikoaaGreatDoor
open Go
set_option linter.unusedVariables false
set_option linter.unusedSimpArgs false
set_option maxRecDepth 100000
def p_draw_Mod_K1 (n : Nat) (v3 : Int) : Option Int :=
 some (v3)
def p_draw_Mod (n : Nat) (x0 : Int) (x1 : Int) : Option Int :=
(remO x0 x1).bind fun v1 =>
(bif decide (v1 < 0) then
 p_draw_Mod_K1 n  (w64 (v1 + x1))
 else
 p_draw_Mod_K1 n  v1)
variable {E : Env}
theorem s_draw_Mod {n : Nat} {x0 : Int} {x1 : Int} {r : Int} (H : p_draw_Mod n x0 x1 = some r) :
    Sp Tryz.prog E 27 [iA x0, iA x1] [] (isA (iA r) []) := by
  unfold p_draw_Mod at H
  refine Sp_fn Tryz.func27 rfl (fun hc hs => ?_)
  refine AWP_reg (Rh 1 14 [(0, iA x0), (1, iA x1)] (AOps_done (AWP_reg (Rh 2 14 [(1, iA x1), (5, iA x0), (6, iA x1)] ?_))))
  obtain ⟨v1, hv1, H⟩ := bind_some H
  refine AOps_rem (kk := .i64) (d := (some 7)) (by kernel_rfl) hv1 ?_
  refine Rh 1 14 [(0, iA v1), (1, iA x1)] (AOps_done (AWP_joinN (α := Int) (fun v3 => fr 14 [(0, iA v3)]) (fun v3 => []) (fun v3 => ∃ q, q ≤ q ∧ p_draw_Mod_K1 q  v3 = some r) (fun v3 hC => ?_) ?_))
  · show AWP _ _ _ _ _ (fr 14 [(0, iA v3)]) []
    obtain ⟨n, hn_, hC⟩ := hC
    replace H : p_draw_Mod_K1 n  v3 = some r := hC
    unfold p_draw_Mod_K1 at H
    refine AWP_reg (Rh 2 14 [(4, iA v3)] (AOps_done ?_))
    exact AWP_ret (FR H)
  · refine AWP_reg (Rh 2 14 [(0, iA v1), (1, iA x1), (9, bA (decide (v1 < 0)))] (AOps_done (CD H (fun hb4 H => ?_) (fun hb4 H => ?_))))
    · refine AWP_region ?_
      refine Rh 4 14 [(0, iA (w64 (v1 + x1)))] (AOps_done ?_)
      exact Exists.intro (w64 (v1 + x1)) ⟨⟨n, by omega, H⟩, Norm_fd [0] 0 (by kernel_rfl) rfl rfl trivial (by refine scL_fr ?_; exact ⟨trivial, trivial⟩)⟩
    · refine AWP_skip ?_
      exact Exists.intro v1 ⟨⟨n, by omega, H⟩, Norm_fd [0] 0 (by kernel_rfl) rfl rfl trivial (by refine scL_fr ?_; exact ⟨trivial, trivial⟩)⟩
end Go.Proofs.YtjhbobacbaikoaaGreatDoor
/- The remainder that is never negative. -/
namespace Go.Proofs.YtjhbobacbaikoaaGreatDoor
open Go
set_option linter.unusedVariables false
theorem mod_gv (x : Int) {k : Int} (h0 : 0 < k) (h1 : k < 4611686018427387904) : Gv (fun n => p_draw_Mod n x k) fun r => 0 ≤ r ∧ r < k := by
  unfold p_draw_Mod p_draw_Mod_K1
  have e : remO x k = some (x.tmod k) := by
    unfold remO
    rw [beq_eq_false_iff_ne.2 (show k ≠ 0 by omega)]; rfl
  have h2 : -k < x.tmod k := by
    by_cases hx : 0 ≤ x
    · have := Int.tmod_nonneg k hx
      omega
    · have h : (-x).tmod k < k := Int.tmod_lt_of_pos _ h0
      rw [Int.neg_tmod] at h
      omega
  have h3 : x.tmod k < k := Int.tmod_lt_of_pos _ h0
  refine Gv.bind (Gv.opt (Q := fun r => -k < r ∧ r < k) e ⟨h2, h3⟩) fun r hr => Gv.cond (fun h => ?_) fun h => ?_
  · have h := of_decide_eq_true h
    rw [w64_of (by omega) (by omega)]
    exact Gv.pure ⟨by omega, by omega⟩
  · have h := of_decide_eq_false h
    exact Gv.pure ⟨by omega, by omega⟩
end Go.Proofs.YtjhbobacbaikoaaGreatDoor
/- A function of the program as a pure function, and that the program computes it. -/
namespace Go.Proofs.YtjhbobacbaikoaaGreatDoor
open Go
set_option linter.unusedVariables false
set_option linter.unusedSimpArgs false
set_option maxRecDepth 100000
def p_shape_Environment_1 (n : Nat) (x0 : TSegment) : Option ByteArray :=
 some (x0.gKey)
variable {E : Env}
theorem s_shape_Environment_1 {n : Nat} {x0 : TSegment} {r : ByteArray} (H : p_shape_Environment_1 n x0 = some r) :
    Sp Tryz.prog E 90 [.agg (TSegment.cs x0)] [] (isA (sA r) []) := by
  unfold p_shape_Environment_1 at H
  refine Sp_fn Tryz.func90 rfl (fun hc hs => ?_)
  refine AWP_reg (R 2 5 [(1, .ptr 0 0)] [.cells 71 (TSegment.cs x0)] (AOps_done (AWP_reg (Rh 3 5 [(2, sA x0.gKey)] (AOps_done ?_)))))
  exact AWP_ret (FR H)
end Go.Proofs.YtjhbobacbaikoaaGreatDoor
/- A function of the program as a pure function, and that the program computes it. -/
namespace Go.Proofs.YtjhbobacbaikoaaGreatDoor
open Go
set_option linter.unusedVariables false
set_option linter.unusedSimpArgs false
set_option maxRecDepth 100000
def p_shape_Environment_2 (n : Nat) (x0 : TFlag) : Option ByteArray :=
 some (x0.gKey)
variable {E : Env}
theorem s_shape_Environment_2 {n : Nat} {x0 : TFlag} {r : ByteArray} (H : p_shape_Environment_2 n x0 = some r) :
    Sp Tryz.prog E 92 [.agg (TFlag.cs x0)] [] (isA (sA r) []) := by
  unfold p_shape_Environment_2 at H
  refine Sp_fn Tryz.func92 rfl (fun hc hs => ?_)
  refine AWP_reg (R 2 5 [(1, .ptr 0 0)] [.cells 65 (TFlag.cs x0)] (AOps_done (AWP_reg (Rh 3 5 [(2, sA x0.gKey)] (AOps_done ?_)))))
  exact AWP_ret (FR H)
end Go.Proofs.YtjhbobacbaikoaaGreatDoor
/- A function of the program as a pure function, and that the program computes it. -/
namespace Go.Proofs.YtjhbobacbaikoaaGreatDoor
open Go
set_option linter.unusedVariables false
set_option linter.unusedSimpArgs false
set_option maxRecDepth 100000
def p_shape_Environment_3 (n : Nat) (x0 : TLayer) : Option ByteArray :=
 some (x0.gKey)
variable {E : Env}
theorem s_shape_Environment_3 {n : Nat} {x0 : TLayer} {r : ByteArray} (H : p_shape_Environment_3 n x0 = some r) :
    Sp Tryz.prog E 94 [.agg (TLayer.cs x0)] [] (isA (sA r) []) := by
  unfold p_shape_Environment_3 at H
  refine Sp_fn Tryz.func94 rfl (fun hc hs => ?_)
  refine AWP_reg (R 2 5 [(1, .ptr 0 0)] [.cells 74 (TLayer.cs x0)] (AOps_done (AWP_reg (Rh 3 5 [(2, sA x0.gKey)] (AOps_done ?_)))))
  exact AWP_ret (FR H)
end Go.Proofs.YtjhbobacbaikoaaGreatDoor
/- A function of the program as a pure function, and that the program computes it. -/
namespace Go.Proofs.YtjhbobacbaikoaaGreatDoor
open Go
set_option linter.unusedVariables false
set_option linter.unusedSimpArgs false
set_option maxRecDepth 100000
def p_shape_Environment_4 (n : Nat) (x0 : TExperiment) : Option ByteArray :=
 some (x0.gKey)
variable {E : Env}
theorem s_shape_Environment_4 {n : Nat} {x0 : TExperiment} {r : ByteArray} (H : p_shape_Environment_4 n x0 = some r) :
    Sp Tryz.prog E 96 [.agg (TExperiment.cs x0)] [] (isA (sA r) []) := by
  unfold p_shape_Environment_4 at H
  refine Sp_fn Tryz.func96 rfl (fun hc hs => ?_)
  refine AWP_reg (R 2 5 [(1, .ptr 0 0)] [.cells 42 (TExperiment.cs x0)] (AOps_done (AWP_reg (Rh 3 5 [(2, sA x0.gKey)] (AOps_done ?_)))))
  exact AWP_ret (FR H)
end Go.Proofs.YtjhbobacbaikoaaGreatDoor
/- A function of the program as a pure function, and that the program computes it. -/
namespace Go.Proofs.YtjhbobacbaikoaaGreatDoor
open Go
set_option linter.unusedVariables false
set_option linter.unusedSimpArgs false
set_option maxRecDepth 100000
def p_cmp_Or_int_L1 (n : Nat) (x0 : List Int) (v8 : Int) : Option Int := match n with
| 0 => none
| n + 1 =>
(bif decide (v8 < (lI x0)) then
(rdO x0 v8).bind fun v10 =>
(bif v10 != 0 then
 some (v10)
 else
 p_cmp_Or_int_L1 n x0 (w64 (v8 + 1)))
 else
 some (0))
def p_cmp_Or_int (n : Nat) (x0 : List Int) : Option Int :=
 p_cmp_Or_int_L1 n x0 0
variable {E : Env}
theorem s_cmp_Or_int {n : Nat} {x0 : List Int} {r : Int} (H : p_cmp_Or_int n x0 = some r) :
    Sp Tryz.prog E 121 [.ro .unk x0.length (cl_i64 x0)] [] (isA (iA r) []) := by
  unfold p_cmp_Or_int at H
  refine Sp_fn Tryz.func121 rfl (fun hc hs => ?_)
  refine AWP_reg (Rh 1 18 [(0, .ro .unk x0.length (cl_i64 x0))] (AOps_done (AWP_reg (Rh 1 18 [(0, .ro .unk x0.length (cl_i64 x0)), (3, iA 0)] (AOps_done (AWP_seq (AWP_reg (Rh 3 18 [(3, iA 0), (6, .ro .unk x0.length (cl_i64 x0)), (7, iA (lI x0)), (8, iA 0)] ?_))))))))
  refine AOps_done (AWP_block ?_)
  refine AWP_loopN (α := Int) (fun v8 => fr 18 [(3, iA 0), (6, .ro .unk x0.length (cl_i64 x0)), (7, iA (lI x0)), (8, iA v8)]) (fun v8 => []) (fun k_ v8 => k_ ≤ n ∧ p_cmp_Or_int_L1 k_ x0 v8 = some r) (fun n v8 H => ?_) (k := n) 0 ⟨Nat.le_refl _, H⟩ (Norm_fd [3, 6, 7, 8] 0 (by kernel_rfl) rfl rfl trivial (by refine scL_fr ?_; exact ⟨trivial, (scl_cl_i64 _ _), trivial, trivial, trivial⟩))
  show AWP _ _ _ _ _ (fr 18 [(3, iA 0), (6, .ro .unk x0.length (cl_i64 x0)), (7, iA (lI x0)), (8, iA v8)]) []
  obtain ⟨hb_, H⟩ := H
  replace H : p_cmp_Or_int_L1 n x0 v8 = some r := H
  cases n with
  | zero => exact not_none (by simpa only [p_cmp_Or_int_L1] using H)
  | succ n =>
    unfold p_cmp_Or_int_L1 at H
    refine AWP_reg (Rh 1 18 [(3, iA 0), (6, .ro .unk x0.length (cl_i64 x0)), (7, iA (lI x0)), (8, iA v8), (9, bA (decide (v8 < (lI x0))))] (AOps_done (AWP_seq (CD H (fun hb9 H => ?_) (fun hb9 H => ?_)))))
    · refine AWP_skip ?_
      show AWP _ _ _ _ _ _ _
      refine AWP_seq (AWP_block ?_)
      refine AWP_reg ?_
      obtain ⟨v10, hv10, H⟩ := bind_some H
      refine AOps_index (d := (some 10)) (sz := 1) (c := cs_i64) (by kernel_rfl) rfl (eq_cl_i64 _) (fun _ => rfl) (by decide) hv10 (fun tl10 => ?_)
      refine Rh 2 18 [(3, iA 0), (5, iA v10), (6, .ro .unk x0.length (cl_i64 x0)), (7, iA (lI x0)), (8, iA v8)] (AOps_done (AWP_reg (Rh 3 18 [(3, iA 0), (5, iA v10), (6, .ro .unk x0.length (cl_i64 x0)), (7, iA (lI x0)), (8, iA v8), (14, bA (v10 != 0))] (AOps_done (CD H (fun hb11 H => ?_) (fun hb11 H => ?_))))))
      · refine AWP_reg (Rh 2 18 [(2, iA v10)] (AOps_done ?_))
        exact AWP_ret (FR H)
      · refine AWP_skip ?_
        show AWP _ _ _ _ _ _ _
        refine AWP_region ?_
        refine Rh 2 18 [(3, iA 0), (6, .ro .unk x0.length (cl_i64 x0)), (7, iA (lI x0)), (8, iA (w64 (v8 + 1)))] (AOps_done ?_)
        exact Exists.intro (w64 (v8 + 1)) (Exists.intro n ⟨by omega, ⟨by omega, H⟩, Norm_fd [3, 6, 7, 8] 0 (by kernel_rfl) rfl rfl trivial (by refine scL_fr ?_; exact ⟨trivial, (scl_cl_i64 _ _), trivial, trivial, trivial⟩)⟩)
    · refine AWP_exit ?_
      show AWP _ _ _ _ _ _ _
      refine AWP_reg (Rh 2 18 [(2, iA 0)] (AOps_done ?_))
      exact AWP_ret (FR H)
end Go.Proofs.YtjhbobacbaikoaaGreatDoor
/- A function of the program as a pure function, and that the program computes it. -/
namespace Go.Proofs.YtjhbobacbaikoaaGreatDoor
open Go
set_option linter.unusedVariables false
set_option linter.unusedSimpArgs false
set_option maxRecDepth 100000
def p_shape_attributes_L1 (n : Nat) (x0 : List TDeclared) (v26 : Int) : Option Int := match n with
| 0 => none
| n + 1 =>
(bif decide (v26 < (lI x0)) then
(rdO x0 v26).bind fun v28 =>
(p_text_Key n v28.gKind).bind fun v29 =>
(bif !(!v29) then p_text_Key n v28.gName else some (false)).bind fun v30 =>
(bif ((!v29) || (!v30)) || (seq' v28.gName (⟨#[107, 101, 121]⟩ : ByteArray)) then
 some (6)
 else
(bif (decide (v28.gType < 1)) || (decide (v28.gType > 5)) then
 some (7)
 else
(bif decide (v26 > 0) then rdO x0 (w64 (v26 - 1)) else some ({ gKind := ByteArray.empty, gName := ByteArray.empty, gType := 0 } : TDeclared)).bind fun v33 =>
(bif decide (v26 > 0) then rdO x0 (w64 (v26 - 1)) else some ({ gKind := ByteArray.empty, gName := ByteArray.empty, gType := 0 } : TDeclared)).bind fun v34 =>
(bif decide (v26 > 0) then p_strings_Compare n v33.gKind v28.gKind else some (0)).bind fun v35 =>
(bif decide (v26 > 0) then p_strings_Compare n v34.gName v28.gName else some (0)).bind fun v36 =>
(bif decide (v26 > 0) then p_cmp_Or_int n ([v35, v36]) else some (0)).bind fun v37 =>
(bif (decide (v26 > 0)) && (decide (v37 ≥ 0)) then
 some (9)
 else
 p_shape_attributes_L1 n x0 (w64 (v26 + 1)))))
 else
 some (0))
def p_shape_attributes (n : Nat) (x0 : List TDeclared) : Option Int :=
(bif decide ((lI x0) > 30) then
 some (5)
 else
 p_shape_attributes_L1 n x0 0)
variable {E : Env}
theorem s_shape_attributes {n : Nat} (hG : GlobT E) {x0 : List TDeclared} {r : Int} (H : p_shape_attributes n x0 = some r) :
    Sp Tryz.prog E 88 [.ro .unk x0.length (TDeclared.cl x0)] [] (isA (iA r) []) := by
  unfold p_shape_attributes at H
  refine Sp_fn Tryz.func88 rfl (fun hc hs => ?_)
  refine AWP_reg (Rh 1 64 [(0, .ro .unk x0.length (TDeclared.cl x0))] (AOps_done (AWP_seq (AWP_reg (Rh 3 64 [(0, .ro .unk x0.length (TDeclared.cl x0)), (7, bA (decide ((lI x0) > 30)))] (AOps_done (CD H (fun hb1 H => ?_) (fun hb1 H => ?_))))))))
  · refine AWP_reg (Rh 1 64 [(2, iA 5)] (AOps_done ?_))
    exact AWP_ret (FR H)
  · refine AWP_skip ?_
    show AWP _ _ _ _ _ _ _
    refine AWP_seq (AWP_reg (Rh 3 64 [(0, .ro .unk x0.length (TDeclared.cl x0)), (8, .ro .unk x0.length (TDeclared.cl x0)), (9, iA (lI x0)), (10, iA 0)] (AOps_done (AWP_block ?_))))
    refine AWP_loopN (α := Int) (fun v26 => fr 64 [(0, .ro .unk x0.length (TDeclared.cl x0)), (8, .ro .unk x0.length (TDeclared.cl x0)), (9, iA (lI x0)), (10, iA v26)]) (fun v26 => []) (fun k_ v26 => k_ ≤ n ∧ p_shape_attributes_L1 k_ x0 v26 = some r) (fun n v26 H => ?_) (k := n) 0 ⟨Nat.le_refl _, H⟩ (Norm_fd [0, 8, 9, 10] 0 (by kernel_rfl) rfl rfl trivial (by refine scL_fr ?_; exact ⟨(scl_TDeclared_cl _ _), (scl_TDeclared_cl _ _), trivial, trivial, trivial⟩))
    show AWP _ _ _ _ _ (fr 64 [(0, .ro .unk x0.length (TDeclared.cl x0)), (8, .ro .unk x0.length (TDeclared.cl x0)), (9, iA (lI x0)), (10, iA v26)]) []
    obtain ⟨hb_, H⟩ := H
    replace H : p_shape_attributes_L1 n x0 v26 = some r := H
    cases n with
    | zero => exact not_none (by simpa only [p_shape_attributes_L1] using H)
    | succ n =>
      unfold p_shape_attributes_L1 at H
      refine AWP_reg (Rh 1 64 [(0, .ro .unk x0.length (TDeclared.cl x0)), (8, .ro .unk x0.length (TDeclared.cl x0)), (9, iA (lI x0)), (10, iA v26), (11, bA (decide (v26 < (lI x0))))] (AOps_done (AWP_seq (CD H (fun hb27 H => ?_) (fun hb27 H => ?_)))))
      · refine AWP_skip ?_
        show AWP _ _ _ _ _ _ _
        refine AWP_seq (AWP_block ?_)
        refine AWP_reg (Rh 1 64 [(0, .ro .unk x0.length (TDeclared.cl x0)), (8, .ro .unk x0.length (TDeclared.cl x0)), (9, iA (lI x0)), (10, iA v26), (12, iA v26)] ?_)
        obtain ⟨v28, hv28, H⟩ := bind_some H
        refine AOps_index (d := (some 13)) (sz := 3) (c := TDeclared.cs) (by kernel_rfl) rfl (eq_TDeclared_cl _) (fun _ => rfl) (by decide) hv28 (fun tl28 => ?_)
        refine R 4 64 [(0, .ro .unk x0.length (TDeclared.cl x0)), (3, iA v26), (4, .ptr 0 0), (8, .ro .unk x0.length (TDeclared.cl x0)), (9, iA (lI x0)), (10, iA v26)] [.cells 112 (TDeclared.cs v28)] (AOps_done (AWP_seq (AWP_reg (Rh 2 64 [(0, .ro .unk x0.length (TDeclared.cl x0)), (3, iA v26), (4, .ptr 0 0), (8, .ro .unk x0.length (TDeclared.cl x0)), (9, iA (lI x0)), (10, iA v26), (16, sA v28.gKind)] ?_))))
        obtain ⟨v29, hv29, H⟩ := bind_some H
        refine AOps_callp (d := (some 17)) (al := [sA v28.gKind]) (r := bA v29) (by kernel_rfl) (s_text_Key hG hv29) ⟨trivial, trivial⟩ trivial ?_
        refine Rh 2 64 [(0, .ro .unk x0.length (TDeclared.cl x0)), (3, iA v26), (4, .ptr 0 0), (8, .ro .unk x0.length (TDeclared.cl x0)), (9, iA (lI x0)), (10, iA v26), (19, bA (!v29))] ?_
        obtain ⟨v30, hv30, H⟩ := bind_some H
        refine AOps_cut 5 (st' := fr 64 [(0, .ro .unk x0.length (TDeclared.cl x0)), (3, iA v26), (4, .ptr 0 0), (8, .ro .unk x0.length (TDeclared.cl x0)), (9, iA (lI x0)), (10, iA v26), (24, bA ((!v29) || (!v30)))]) (h' := [.cells 112 (TDeclared.cs v28)]) ?_ ?_
        rotate_left
        · cases c1 : (v29 : Bool) with
          | true =>
            refine R 2 64 [(0, .ro .unk x0.length (TDeclared.cl x0)), (3, iA v26), (4, .ptr 0 0), (8, .ro .unk x0.length (TDeclared.cl x0)), (9, iA (lI x0)), (10, iA v26), (19, bA (!true)), (21, sA v28.gName)] [.cells 112 (TDeclared.cs v28)] ?_
            have hv30_ := cond_t hv30 (by simp only [c1] <;> rfl)
            refine AOps_callp (d := (some 22)) (al := [sA v28.gName]) (r := bA v30) (by kernel_rfl) (s_text_Key hG hv30_) ⟨trivial, trivial⟩ trivial ?_
            refine R 2 64 [(0, .ro .unk x0.length (TDeclared.cl x0)), (3, iA v26), (4, .ptr 0 0), (8, .ro .unk x0.length (TDeclared.cl x0)), (9, iA (lI x0)), (10, iA v26), (24, bA ((!true) || (!v30)))] [.cells 112 (TDeclared.cs v28)] ?_
            exact AOps_here [0, 3, 4, 8, 9, 10, 24] (by kernel_rfl) rfl
          | false =>
            refine R 5 64 [(0, .ro .unk x0.length (TDeclared.cl x0)), (3, iA v26), (4, .ptr 0 0), (8, .ro .unk x0.length (TDeclared.cl x0)), (9, iA (lI x0)), (10, iA v26), (24, bA ((!false) || (!v30)))] [.cells 112 (TDeclared.cs v28)] ?_
            exact AOps_here [0, 3, 4, 8, 9, 10, 24] (by kernel_rfl) rfl
        refine Rh 1 64 [(0, .ro .unk x0.length (TDeclared.cl x0)), (3, iA v26), (4, .ptr 0 0), (8, .ro .unk x0.length (TDeclared.cl x0)), (9, iA (lI x0)), (10, iA v26), (25, bA ((!v29) || (!v30)))] (AOps_run 4 [0, 3, 4, 8, 9, 10, 29] (st' := fr 64 [(0, .ro .unk x0.length (TDeclared.cl x0)), (3, iA v26), (4, .ptr 0 0), (8, .ro .unk x0.length (TDeclared.cl x0)), (9, iA (lI x0)), (10, iA v26), (29, bA (((!v29) || (!v30)) || (seq' v28.gName (⟨#[107, 101, 121]⟩ : ByteArray))))]) (h' := [.cells 112 (TDeclared.cs v28)]) (by (generalize v29 = t0; generalize v30 = t1; cases t0 <;> cases t1 <;> kernel_rfl)) ?_)
        refine AOps_done (CD H (fun hb31 H => ?_) (fun hb31 H => ?_))
        · refine AWP_reg (Rh 1 64 [(2, iA 6)] (AOps_done ?_))
          exact AWP_ret (FR H)
        · refine AWP_skip ?_
          show AWP _ _ _ _ _ _ _
          refine AWP_seq (AWP_reg (Rh 4 64 [(0, .ro .unk x0.length (TDeclared.cl x0)), (3, iA v26), (4, .ptr 0 0), (8, .ro .unk x0.length (TDeclared.cl x0)), (9, iA (lI x0)), (10, iA v26), (33, bA (decide (v28.gType < 1)))] (AOps_run 4 [0, 3, 4, 8, 9, 10, 37] (st' := fr 64 [(0, .ro .unk x0.length (TDeclared.cl x0)), (3, iA v26), (4, .ptr 0 0), (8, .ro .unk x0.length (TDeclared.cl x0)), (9, iA (lI x0)), (10, iA v26), (37, bA ((decide (v28.gType < 1)) || (decide (v28.gType > 5))))]) (h' := [.cells 112 (TDeclared.cs v28)]) (by (generalize (decide (v28.gType < 1)) = t0; cases t0 <;> kernel_rfl)) ?_)))
          refine AOps_done (CD H (fun hb32 H => ?_) (fun hb32 H => ?_))
          · refine AWP_reg (Rh 1 64 [(2, iA 7)] (AOps_done ?_))
            exact AWP_ret (FR H)
          · refine AWP_skip ?_
            show AWP _ _ _ _ _ _ _
            obtain ⟨v33, hv33, H⟩ := bind_some H
            obtain ⟨v34, hv34, H⟩ := bind_some H
            obtain ⟨v35, hv35, H⟩ := bind_some H
            obtain ⟨v36, hv36, H⟩ := bind_some H
            obtain ⟨v37, hv37, H⟩ := bind_some H
            refine AWP_regD1 [0, 1, 2, 3, 4, 5, 6, 7, 8, 9, 10, 12, 13, 14, 15, 16, 17, 18, 19, 11, 20, 21, 22, 23, 24] (N := 64) (f := [(0, .ro .unk x0.length (TDeclared.cl x0)), (3, iA v26), (4, .ptr 0 0), (8, .ro .unk x0.length (TDeclared.cl x0)), (9, iA (lI x0)), (10, iA v26)]) (leL_of [0, 3, 4, 8, 9, 10] (by kernel_rfl)) mixed (by kernel_rfl) (by kernel_rfl) (st' := fr 64 [(0, .ro .unk x0.length (TDeclared.cl x0)), (8, .ro .unk x0.length (TDeclared.cl x0)), (9, iA (lI x0)), (10, iA v26), (62, bA ((decide (v26 > 0)) && (decide (v37 ≥ 0))))]) (h' := [.cells 112 (TDeclared.cs v28)]) ?_ ?_
            rotate_left
            · refine RD 3 64 [] [(0, .ro .unk x0.length (TDeclared.cl x0)), (3, iA v26), (4, .ptr 0 0), (8, .ro .unk x0.length (TDeclared.cl x0)), (9, iA (lI x0)), (10, iA v26), (38, iA v26), (39, bA (decide (v26 > 0))), (40, bA (decide (v26 > 0)))] ?_
              cases c1 : (decide (v26 > 0) : Bool) with
              | true =>
                refine RD 3 64 [] [(0, .ro .unk x0.length (TDeclared.cl x0)), (3, iA v26), (4, .ptr 0 0), (8, .ro .unk x0.length (TDeclared.cl x0)), (9, iA (lI x0)), (10, iA v26), (38, iA v26), (39, bA true), (40, bA true), (41, .ro .unk x0.length (TDeclared.cl x0)), (42, iA v26), (43, iA (w64 (v26 - 1)))] ?_
                have hv33_ := cond_t hv33 (by simp only [c1] <;> rfl)
                refine AD_index (d := (some 44)) (sz := 3) (c := TDeclared.cs) (by kernel_rfl) rfl (eq_TDeclared_cl _) (fun _ => rfl) (by decide) hv33_ (fun tl33 => ?_)
                refine RD 7 64 [(10, 0), (9, 0)] [(0, .ro .unk x0.length (TDeclared.cl x0)), (3, iA v26), (4, .ptr 0 0), (8, .ro .unk x0.length (TDeclared.cl x0)), (9, iA (lI x0)), (10, iA v26), (38, iA v26), (39, bA true), (40, bA true), (41, .ro .unk x0.length (TDeclared.cl x0)), (42, iA v26), (43, iA (w64 (v26 - 1))), (44, .rop ([sA v33.gKind, sA v33.gName, iA v33.gType] ++ tl33)), (45, .rop ([sA v33.gKind, sA v33.gName, iA v33.gType] ++ tl33)), (46, sA v33.gKind), (47, .ptr 0 0), (48, sA v28.gKind), (50, .ro .unk x0.length (TDeclared.cl x0)), (51, iA v26), (52, iA (w64 (v26 - 1)))] ?_
                have hv34_ := cond_t hv34 (by simp only [c1] <;> rfl)
                refine AD_index (d := (some 53)) (sz := 3) (c := TDeclared.cs) (by kernel_rfl) rfl (eq_TDeclared_cl _) (fun _ => rfl) (by decide) hv34_ (fun tl34 => ?_)
                refine RD 4 64 [(19, 0), (18, 0), (10, 0), (9, 0)] [(0, .ro .unk x0.length (TDeclared.cl x0)), (3, iA v26), (4, .ptr 0 0), (8, .ro .unk x0.length (TDeclared.cl x0)), (9, iA (lI x0)), (10, iA v26), (38, iA v26), (39, bA true), (40, bA true), (41, .ro .unk x0.length (TDeclared.cl x0)), (42, iA v26), (43, iA (w64 (v26 - 1))), (44, .rop ([sA v33.gKind, sA v33.gName, iA v33.gType] ++ tl33)), (45, .rop ([sA v33.gKind, sA v33.gName, iA v33.gType] ++ tl33)), (46, sA v33.gKind), (47, .ptr 0 0), (48, sA v28.gKind), (50, .ro .unk x0.length (TDeclared.cl x0)), (51, iA v26), (52, iA (w64 (v26 - 1))), (53, .rop ([sA v34.gKind, sA v34.gName, iA v34.gType] ++ tl34)), (54, .rop ([sA v34.gName, iA v34.gType] ++ tl34)), (55, sA v34.gName), (56, .ptr 0 1), (57, sA v28.gName)] ?_
                have hv35_ := cond_t hv35 (by simp only [c1] <;> rfl)
                refine AD_callp (d := (some 49)) (al := [sA v33.gKind, sA v28.gKind]) (r := iA v35) (by kernel_rfl) (s_strings_Compare hv35_) ⟨trivial, trivial, trivial⟩ trivial ?_
                have hv36_ := cond_t hv36 (by simp only [c1] <;> rfl)
                refine AD_callp (d := (some 58)) (al := [sA v34.gName, sA v28.gName]) (r := iA v36) (by kernel_rfl) (s_strings_Compare hv36_) ⟨trivial, trivial, trivial⟩ trivial ?_
                refine AD_bsl (d := (some 59)) (m := 2) (cs := [iA v35, iA v36]) (by kernel_rfl) ⟨trivial, trivial, trivial⟩ ?_
                have hv37_ := cond_t hv37 (by simp only [c1] <;> rfl)
                refine AD_callp (d := (some 60)) (al := [.ro .unk ([v35, v36]).length (cl_i64 ([v35, v36]))]) (r := iA v37) (by kernel_rfl) (s_cmp_Or_int hv37_) ⟨(scl_cl_i64 _ _), trivial⟩ trivial ?_
                refine RD 2 64 [(19, 0), (18, 0), (10, 0), (9, 0)] [(0, .ro .unk x0.length (TDeclared.cl x0)), (3, iA v26), (4, .ptr 0 0), (8, .ro .unk x0.length (TDeclared.cl x0)), (9, iA (lI x0)), (10, iA v26), (38, iA v26), (39, bA true), (40, bA true), (41, .ro .unk x0.length (TDeclared.cl x0)), (42, iA v26), (43, iA (w64 (v26 - 1))), (44, .rop ([sA v33.gKind, sA v33.gName, iA v33.gType] ++ tl33)), (45, .rop ([sA v33.gKind, sA v33.gName, iA v33.gType] ++ tl33)), (46, sA v33.gKind), (47, .ptr 0 0), (48, sA v28.gKind), (49, iA v35), (50, .ro .unk x0.length (TDeclared.cl x0)), (51, iA v26), (52, iA (w64 (v26 - 1))), (53, .rop ([sA v34.gKind, sA v34.gName, iA v34.gType] ++ tl34)), (54, .rop ([sA v34.gName, iA v34.gType] ++ tl34)), (55, sA v34.gName), (56, .ptr 0 1), (57, sA v28.gName), (58, iA v36), (59, .ro .unk ([v35, v36]).length (cl_i64 ([v35, v36]))), (60, iA v37), (61, bA (decide (v37 ≥ 0))), (62, bA (true && (decide (v37 ≥ 0))))] ?_
                exact AD_here [0, 8, 9, 10, 62] (by kernel_rfl) rfl
              | false =>
                refine RD 16 64 [] [(0, .ro .unk x0.length (TDeclared.cl x0)), (3, iA v26), (4, .ptr 0 0), (8, .ro .unk x0.length (TDeclared.cl x0)), (9, iA (lI x0)), (10, iA v26), (38, iA v26), (39, bA false), (40, bA false), (41, undefA), (42, undefA), (43, undefA), (44, undefA), (45, undefA), (46, undefA), (47, undefA), (48, undefA), (50, undefA), (51, undefA), (52, undefA), (53, undefA), (54, undefA), (55, undefA), (56, undefA), (57, undefA)] (AD_offB (d := some 49) (by kernel_rfl) ?_)
                refine AD_offB (d := some 58) (by kernel_rfl) ?_
                refine AD_offB (d := some 59) (by kernel_rfl) ?_
                refine AD_offB (d := some 60) (by kernel_rfl) ?_
                refine RD 2 64 [] [(0, .ro .unk x0.length (TDeclared.cl x0)), (3, iA v26), (4, .ptr 0 0), (8, .ro .unk x0.length (TDeclared.cl x0)), (9, iA (lI x0)), (10, iA v26), (38, iA v26), (39, bA false), (40, bA false), (41, undefA), (42, undefA), (43, undefA), (44, undefA), (45, undefA), (46, undefA), (47, undefA), (48, undefA), (49, undefA), (50, undefA), (51, undefA), (52, undefA), (53, undefA), (54, undefA), (55, undefA), (56, undefA), (57, undefA), (58, undefA), (59, undefA), (60, undefA), (61, undefA), (62, bA (false && (decide (v37 ≥ 0))))] ?_
                exact AD_here [0, 8, 9, 10, 62] (by kernel_rfl) rfl
            refine CD H (fun hb38 H => ?_) (fun hb38 H => ?_)
            · refine AWP_reg (Rh 1 64 [(2, iA 9)] (AOps_done ?_))
              exact AWP_ret (FR H)
            · refine AWP_skip ?_
              show AWP _ _ _ _ _ _ _
              refine AWP_region ?_
              refine Rh 2 64 [(0, .ro .unk x0.length (TDeclared.cl x0)), (8, .ro .unk x0.length (TDeclared.cl x0)), (9, iA (lI x0)), (10, iA (w64 (v26 + 1)))] (AOps_done ?_)
              exact Exists.intro (w64 (v26 + 1)) (Exists.intro n ⟨by omega, ⟨by omega, H⟩, Norm_fd [0, 8, 9, 10] 1 (by kernel_rfl) rfl rfl trivial (by refine scL_fr ?_; exact ⟨(scl_TDeclared_cl _ _), (scl_TDeclared_cl _ _), trivial, trivial, trivial⟩)⟩)
      · refine AWP_exit ?_
        show AWP _ _ _ _ _ _ _
        refine AWP_reg (Rh 1 64 [(2, iA 0)] (AOps_done ?_))
        exact AWP_ret (FR H)
end Go.Proofs.YtjhbobacbaikoaaGreatDoor
/- A function of the program as a pure function, and that the program computes it. -/
namespace Go.Proofs.YtjhbobacbaikoaaGreatDoor
open Go
set_option linter.unusedVariables false
set_option linter.unusedSimpArgs false
set_option maxRecDepth 100000
def p_shape_list_api_Experiment_L1 (n : Nat) (x0 : List TExperiment) : Option Int := match n with
| 0 => none
| n + 1 =>
(bif decide (0 < (lI x0)) then
(rdO x0 0).bind fun v5 =>
 none
 else
 some (0))
def p_shape_list_api_Experiment (n : Nat) (x0 : List TExperiment) (x1 : Int) : Option Int :=
(bif decide ((lI x0) > x1) then
 some (5)
 else
 p_shape_list_api_Experiment_L1 n x0 )
variable {E : Env}
theorem s_shape_list_api_Experiment {n : Nat} (hG : GlobT E) {x0 : List TExperiment} {x1 : Int} {r : Int} (H : p_shape_list_api_Experiment n x0 x1 = some r) :
    Sp Tryz.prog E 95 [.ro .unk x0.length (TExperiment.cl x0), iA x1, .val (.func (.func 40) #[] #[]), .val (.func (.func 96) #[] #[])] [] (isA (iA r) []) := by
  unfold p_shape_list_api_Experiment at H
  refine Sp_fn Tryz.func95 rfl (fun hc hs => ?_)
  refine AWP_reg (Rh 1 45 [(0, .ro .unk x0.length (TExperiment.cl x0)), (1, iA x1), (2, .val (.func (.func 40) #[] #[])), (3, .val (.func (.func 96) #[] #[]))] (AOps_done (AWP_seq (AWP_reg (Rh 4 45 [(0, .ro .unk x0.length (TExperiment.cl x0)), (2, .val (.func (.func 40) #[] #[])), (3, .val (.func (.func 96) #[] #[])), (15, bA (decide ((lI x0) > x1)))] (AOps_done (CD H (fun hb1 H => ?_) (fun hb1 H => ?_))))))))
  · refine AWP_reg (Rh 1 45 [(8, iA 5)] (AOps_done ?_))
    exact AWP_ret (FR H)
  · refine AWP_skip ?_
    show AWP _ _ _ _ _ _ _
    refine AWP_seq (AWP_reg (Rh 3 45 [(0, .ro .unk x0.length (TExperiment.cl x0)), (2, .val (.func (.func 40) #[] #[])), (3, .val (.func (.func 96) #[] #[])), (16, .ro .unk x0.length (TExperiment.cl x0)), (17, iA (lI x0)), (18, iA 0)] (AOps_done (AWP_block ?_))))
    refine AWP_loopN (α := Unit) (fun _ => fr 45 [(0, .ro .unk x0.length (TExperiment.cl x0)), (2, .val (.func (.func 40) #[] #[])), (3, .val (.func (.func 96) #[] #[])), (16, .ro .unk x0.length (TExperiment.cl x0)), (17, iA (lI x0)), (18, iA 0)]) (fun _ => []) (fun k_ _ => k_ ≤ n ∧ p_shape_list_api_Experiment_L1 k_ x0  = some r) (fun n a H => ?_) (k := n) () ⟨Nat.le_refl _, H⟩ (Norm_fd [0, 2, 3, 16, 17, 18] 0 (by kernel_rfl) rfl rfl trivial (by refine scL_fr ?_; exact ⟨(scl_TExperiment_cl _ _), trivial, trivial, (scl_TExperiment_cl _ _), trivial, trivial, trivial⟩))
    show AWP _ _ _ _ _ (fr 45 [(0, .ro .unk x0.length (TExperiment.cl x0)), (2, .val (.func (.func 40) #[] #[])), (3, .val (.func (.func 96) #[] #[])), (16, .ro .unk x0.length (TExperiment.cl x0)), (17, iA (lI x0)), (18, iA 0)]) []
    obtain ⟨hb_, H⟩ := H
    replace H : p_shape_list_api_Experiment_L1 n x0  = some r := H
    cases n with
    | zero => exact not_none (by simpa only [p_shape_list_api_Experiment_L1] using H)
    | succ n =>
      unfold p_shape_list_api_Experiment_L1 at H
      refine AWP_reg (Rh 1 45 [(0, .ro .unk x0.length (TExperiment.cl x0)), (2, .val (.func (.func 40) #[] #[])), (3, .val (.func (.func 96) #[] #[])), (16, .ro .unk x0.length (TExperiment.cl x0)), (17, iA (lI x0)), (18, iA 0), (19, bA (decide (0 < (lI x0))))] (AOps_done (AWP_seq (CD H (fun hb4 H => ?_) (fun hb4 H => ?_)))))
      · refine AWP_skip ?_
        show AWP _ _ _ _ _ _ _
        refine AWP_seq (AWP_block ?_)
        refine AWP_reg (Rh 1 45 [(0, .ro .unk x0.length (TExperiment.cl x0)), (2, .val (.func (.func 40) #[] #[])), (3, .val (.func (.func 96) #[] #[])), (16, .ro .unk x0.length (TExperiment.cl x0)), (17, iA (lI x0)), (18, iA 0), (20, iA 0)] ?_)
        obtain ⟨v5, hv5, H⟩ := bind_some H
        refine AOps_index (d := (some 21)) (sz := 12) (c := TExperiment.cs) (by kernel_rfl) rfl (eq_TExperiment_cl _) (fun _ => rfl) (by decide) hv5 (fun tl5 => ?_)
        refine R 4 45 [(0, .ro .unk x0.length (TExperiment.cl x0)), (2, .val (.func (.func 40) #[] #[])), (3, .val (.func (.func 96) #[] #[])), (9, iA 0), (10, .ptr 0 0), (16, .ro .unk x0.length (TExperiment.cl x0)), (17, iA (lI x0)), (18, iA 0)] [.cells 42 (TExperiment.cs v5)] (AOps_done (AWP_seq ?_))
        exact not_none H
      · refine AWP_exit ?_
        show AWP _ _ _ _ _ _ _
        refine AWP_reg (Rh 1 45 [(8, iA 0)] (AOps_done ?_))
        exact AWP_ret (FR H)
end Go.Proofs.YtjhbobacbaikoaaGreatDoor
