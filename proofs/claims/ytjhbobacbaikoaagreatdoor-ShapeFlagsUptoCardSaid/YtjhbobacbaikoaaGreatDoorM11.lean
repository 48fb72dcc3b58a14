/- Rules, flags, layers, experiments: the program and the reference agree; the law on flags. -/
import Derived.Test.YtjhbobacbaikoaaGreatDoorM9
import Derived.Test.YtjhbobacbaikoaaGreatDoorM4
import Derived.Test.YtjhbobacbaikoaaGreatDoorM6
import Derived.Test.YtjhbobacbaikoaaGreatDoorM7
import Derived.Test.YtjhbobacbaikoaaGreatDoorM8
import Derived.Test.YtjhbobacbaikoaaGreatDoorM10
import Derived.Test.YtjhbobacbaikoaaGreatDoorM3
import Derived.Test.YtjhbobacbaikoaaGreatDoorCards
import Derived.Test.YtjhbobacbaikoaaGreatDoorTie
import Derived.Deep.DeepHandedRow
import Derived.Deep.DeepWitnessRowRef
import Derived.OpenShut
namespace Go.Proofs.YtjhbobacbaikoaaGreatDoor
open Go
set_option linter.unusedVariables false
set_option linter.unusedSimpArgs false
theorem beqF {e : Int} (h : ¬ e = 0) : (e == 0) = false := by rw [beq_eq_false_iff_ne]; exact h
theorem cutL_take {α : Type} {l : List α} {i : Nat} (h : i ≤ l.length) : cutL l 0 (i : Int) = some (l.take i) := by
  unfold cutL
  rw [decide_eq_true (show (0 : Int) ≤ 0 by omega), decide_eq_true (show (0 : Int) ≤ (i : Int) by omega), decide_eq_true (show (i : Int) ≤ l.length by omega)]
  simp
def TRule.sm (x : TRule) : Prop := x.gName.size < 4294967281 ∧ x.gWhen.sm ∧ x.gServe.sm
theorem rules_bi (l : List TRule) (m : Int) (hs : ∀ x ∈ l, x.sm) : ∃ v, Al fun n => p_shape_rules n l m = some v ∧ p_ref6_rules n l m = some v := by
  unfold p_shape_rules p_ref6_rules
  by_cases hl : lI l > 12
  · exact ⟨5, .of fun n => by rw [decide_eq_true hl]; exact ⟨rfl, rfl⟩⟩
  · rw [decide_eq_false hl]
    have hlen : l.length ≤ 12 := long_no (k := 12) hl
    simp only [cond_false]
    have key : ∀ (q i : Nat), i + q = l.length → ∃ v, Al fun n => p_shape_rules_L1 n l m i = some v ∧ p_ref6_rules_L1 n l m i = some v := by
      intro q
      induction q with
      | zero =>
        intro i hi
        obtain rfl : i = l.length := by omega
        refine ⟨0, Al.succ (.of fun n => ?_)⟩
        rw [p_shape_rules_L1, p_ref6_rules_L1, lI_out]
        exact ⟨rfl, rfl⟩
      | succ q ih =>
        intro i hi
        have hil : i < l.length := by omega
        obtain ⟨w, hw⟩ := ih (i + 1) (by omega)
        obtain ⟨sm1, sm2, sm3⟩ := hs _ (List.getElem_mem hil)
        obtain ⟨k, hk⟩ := key_bi l[i].gName (by omega)
        obtain ⟨e, he⟩ := expr_bi l[i].gWhen sm2
        obtain ⟨s, hs⟩ := serve_bi l[i].gServe m sm3
        have hf := first_al [e, s] (by simp)
        have inner : ∃ v, Al fun n => p_shape_rules_L2 n l m i l[i] (l.take i) 0 = some v ∧ p_ref6_rules_L2 n l m i 0 = some v := by
          refine loop2 (fun n j => p_shape_rules_L2 n l m i l[i] (l.take i) j) (fun n j => p_ref6_rules_L2 n l m i j) i (fun j hj => ?_) ⟨if fst0 [e, s] = 0 then w else fst0 [e, s], (he.and (hs.and (hf.and hw))).mono fun n ⟨⟨a1, b1⟩, ⟨a2, b2⟩, a3, a4, b4⟩ => ?_⟩ 0 (by omega)
          · have hd1 : decide ((j : Int) < lI (l.take i)) = true := decide_eq_true (by unfold lI; rw [List.length_take]; omega)
            have hd2 : decide ((j : Int) < (i : Int)) = true := decide_eq_true (by omega)
            have hr1 : rdO (l.take i) (j : Int) = some l[j] := by rw [rdO_nat (by rw [List.length_take]; omega), List.getElem_take]
            have hr2 : rdO l (j : Int) = some l[j] := rdO_nat (by omega)
            cases c : seq' l[j].gName l[i].gName with
            | true =>
              refine .inl ⟨10, .of fun n => ?_⟩
              rw [p_shape_rules_L2, p_ref6_rules_L2, hd1, hd2]
              simp only [cond_true, hr1, hr2, rdO_nat hil, Option.bind_some, c, and_self]
            | false =>
              refine .inr (.of fun n => ?_)
              rw [p_shape_rules_L2, p_ref6_rules_L2, hd1, hd2]
              simp only [cond_true, cond_false, hr1, hr2, rdO_nat hil, Option.bind_some, c, w64_add (show j + 1 < 9223372036854775808 by omega), and_self]
          · have hd1 : decide ((i : Int) < lI (l.take i)) = false := decide_eq_false (by unfold lI; rw [List.length_take]; omega)
            have hd2 : decide ((i : Int) < (i : Int)) = false := decide_eq_false (by omega)
            rw [p_shape_rules_L2, p_ref6_rules_L2, hd1, hd2]
            simp only [cond_false, rdO_nat hil, Option.bind_some, a1, b1, a2, b2, a3, w64_add (show i + 1 < 9223372036854775808 by omega), a4, b4]
            by_cases z1 : e = 0
            · by_cases z2 : s = 0
              · subst z1 z2; simp [fst0]
              · subst z1; simp [fst0, z2, bneT, beqF]
            · simp [fst0, z1, bneT, beqF]
        obtain ⟨u, hu⟩ := inner
        refine ⟨if k = true then u else 6, Al.succ ((hk.and hu).mono fun n ⟨⟨a1, b1⟩, a2, b2⟩ => ?_)⟩
        rw [p_shape_rules_L1, p_ref6_rules_L1, lI_in hil]
        simp only [cond_true, rdO_nat hil, Option.bind_some, a1, b1, cutL_take (show i ≤ l.length by omega), a2, b2]
        cases k <;> simp
    exact key l.length 0 (by omega)
/-- Two loops that end alike with an error, or each as it does. -/
theorem loop2e (L M : Nat → Int → Option Int) (len : Nat) (P R : Int)
    (step : ∀ i : Nat, i < len → (∃ v, v ≠ 0 ∧ Al fun n => L (n + 1) i = some v ∧ M (n + 1) i = some v) ∨ Al fun n => L (n + 1) i = L n ((i + 1 : Nat) : Int) ∧ M (n + 1) i = M n ((i + 1 : Nat) : Int))
    (fin : Al fun n => L (n + 1) len = some P ∧ M (n + 1) len = some R) : ∀ i : Nat, i ≤ len → (∃ v, v ≠ 0 ∧ Al fun n => L n i = some v ∧ M n i = some v) ∨ Al fun n => L n i = some P ∧ M n i = some R := by
  intro i hi
  obtain ⟨k, hk⟩ : ∃ k, i + k = len := ⟨len - i, by omega⟩
  induction k generalizing i with
  | zero =>
    obtain rfl : i = len := by omega
    exact .inr fin.succ
  | succ k ih =>
    rcases step i (by omega) with ⟨v, h0, h⟩ | h
    · exact .inl ⟨v, h0, h.succ⟩
    · rcases ih (i + 1) (by omega) (by omega) with ⟨v, h0, h2⟩ | h2
      · exact .inl ⟨v, h0, Al.succ ((h.and h2).mono fun n ⟨⟨a, b⟩, c, d⟩ => ⟨a.trans c, b.trans d⟩)⟩
      · exact .inr (Al.succ ((h.and h2).mono fun n ⟨⟨a, b⟩, c, d⟩ => ⟨a.trans c, b.trans d⟩))
def TFlag.sm (x : TFlag) : Prop := x.gKey.size < 4294967281 ∧ (∀ v ∈ x.gVariations, v.sm) ∧ (∀ y ∈ x.gPrerequisites, y.gFlag.size < 4294967281) ∧ (∀ y ∈ x.gTargets, y.gKind.size < 4294967281) ∧ (∀ y ∈ x.gRules, y.sm) ∧ x.gDefault.sm
theorem flag_bi (x : TFlag) (hx : x.sm) (hlv : x.gVariations.length < 4294967281) : ∃ v, Al fun n => p_shape_Flag n x = some v ∧ p_ref6_Flag n x = some v := by
  obtain ⟨s1, s2, s3, s4, s5, s6⟩ := hx
  obtain ⟨k, hk⟩ := key_bi x.gKey (by omega)
  obtain ⟨pr, hpr⟩ := prereq_bi x.gPrerequisites s3
  obtain ⟨tg, htg⟩ := targets_bi x.gTargets (lI x.gVariations) s4
  obtain ⟨ru, hru⟩ := rules_bi x.gRules (lI x.gVariations) s5
  obtain ⟨sv, hsv⟩ := serve_bi x.gDefault (lI x.gVariations) s6
  generalize hkb : (decide (x.gKind < 1) || decide (x.gKind > 5)) = kb
  generalize hob : (decide (x.gOff < 1) || decide (x.gOff > lI x.gVariations)) = ob
  have hf2 := first_al [if ob = true then 3 else 0, pr, tg, ru] (by simp)
  have hloop := loop2e (fun n i => p_shape_Flag_L1 n x i) (fun n i => p_ref6_variations_L1 n x i) x.gVariations.length
    (if fst0 [if ob = true then 3 else 0, pr, tg, ru] = 0 then sv else fst0 [if ob = true then 3 else 0, pr, tg, ru]) (if ob = true then 3 else 0)
    (fun i hi => by
      obtain ⟨c, hc⟩ := check_bi x.gVariations[i] (s2 _ (List.getElem_mem hi))
      generalize hq : (x.gVariations[i].gKind != x.gKind) = q
      have hf := first_al [c, if q = true then 8 else 0] (by simp)
      by_cases z : c = 0
      · cases q with
        | true =>
          refine .inl ⟨8, by decide, (hc.and hf).mono fun n ⟨⟨a1, a2⟩, a3⟩ => ?_⟩
          rw [p_shape_Flag_L1, p_ref6_variations_L1, lI_in hi]
          subst z
          have a3 : p_shape_first n [0, 8] = some 8 := a3
          simp only [cond_true, rdO_nat hi, Option.bind_some, a1, a2, when_eq, hq, if_true, a3]
          simp
        | false =>
          refine .inr ((hc.and hf).mono fun n ⟨⟨a1, a2⟩, a3⟩ => ?_)
          rw [p_shape_Flag_L1, p_ref6_variations_L1, lI_in hi]
          subst z
          have a3 : p_shape_first n [0, 0] = some 0 := a3
          simp only [cond_true, rdO_nat hi, Option.bind_some, a1, a2, when_eq, hq, if_false, Bool.false_eq_true, a3, w64_add (show i + 1 < 9223372036854775808 by omega)]
          simp
      · refine .inl ⟨c, z, (hc.and hf).mono fun n ⟨⟨a1, a2⟩, a3⟩ => ?_⟩
        rw [p_shape_Flag_L1, p_ref6_variations_L1, lI_in hi]
        simp only [cond_true, rdO_nat hi, Option.bind_some, a1, a2, when_eq, hq, a3, bneT z]
        simp [fst0, z, bneT])
    ((hpr.and (htg.and (hru.and (hsv.and hf2)))).mono fun n ⟨⟨a1, b1⟩, ⟨a2, b2⟩, ⟨a3, b3⟩, ⟨a4, b4⟩, a5⟩ => by
      rw [p_shape_Flag_L1, p_ref6_variations_L1, lI_out]
      simp only [cond_false, when_eq, Option.bind_some, hob, a1, a2, a3, a4, a5]
      generalize fst0 [if ob = true then 3 else 0, pr, tg, ru] = F
      constructor
      · by_cases z : F = 0
        · subst z; rfl
        · rw [bneT z, if_neg z]; rfl
      · cases ob <;> rfl) 0 (by omega)
  by_cases c8 : lI x.gVariations > 8
  · have hf1 := first_al [if (!k) = true then 6 else 0, if kb = true then 7 else 0, 5, if (lI x.gVariations == 0) = true then 3 else 0] (by simp)
    refine ⟨if k = true then (if kb = true then 7 else 5) else 6, (hk.and hf1).mono fun n ⟨⟨a1, a2⟩, a3⟩ => ?_⟩
    unfold p_shape_Flag p_ref6_Flag p_ref6_variations
    simp only [a1, a2, Option.bind_some, when_eq, hkb, decide_eq_true c8, if_true, a3]
    cases k <;> cases kb <;> simp [fst0]
  · by_cases c0 : lI x.gVariations = 0
    · have hf1 := first_al [if (!k) = true then 6 else 0, if kb = true then 7 else 0, 0, 3] (by simp)
      refine ⟨if k = true then (if kb = true then 7 else 3) else 6, (hk.and hf1).mono fun n ⟨⟨a1, a2⟩, a3⟩ => ?_⟩
      unfold p_shape_Flag p_ref6_Flag p_ref6_variations
      have e : (lI x.gVariations == 0) = true := by rw [c0]; rfl
      simp only [a1, a2, Option.bind_some, when_eq, hkb, decide_eq_false c8, e, if_true, a3, Bool.false_eq_true, if_false]
      cases k <;> cases kb <;> simp [fst0]
    · have hf1 := first_al [if (!k) = true then 6 else 0, if kb = true then 7 else 0, 0, 0] (by simp)
      have e : (lI x.gVariations == 0) = false := by rw [beq_eq_false_iff_ne]; exact c0
      rcases hloop with ⟨v, hv0, hv⟩ | hv
      · refine ⟨if k = true then (if kb = true then 7 else v) else 6, (hk.and (hf1.and hv)).mono fun n ⟨⟨a1, a2⟩, a3, a4, a5⟩ => ?_⟩
        have a4 : p_shape_Flag_L1 n x 0 = some v := a4
        have a5 : p_ref6_variations_L1 n x 0 = some v := a5
        unfold p_shape_Flag p_ref6_Flag p_ref6_variations
        simp only [a1, a2, Option.bind_some, when_eq, hkb, decide_eq_false c8, e, if_true, a3, Bool.false_eq_true, if_false, a4, a5, cond_false]
        cases k <;> cases kb <;> simp [fst0, bneT hv0]
      · refine ⟨if k = true then (if kb = true then 7 else (if fst0 [if ob = true then 3 else 0, pr, tg, ru] = 0 then sv else fst0 [if ob = true then 3 else 0, pr, tg, ru])) else 6,
          (hk.and (hf1.and (hv.and (hpr.and (htg.and (hru.and hsv)))))).mono fun n ⟨⟨a1, a2⟩, a3, ⟨a4, a5⟩, ⟨_, b1⟩, ⟨_, b2⟩, ⟨_, b3⟩, ⟨_, b4⟩⟩ => ?_⟩
        have a4 : p_shape_Flag_L1 n x 0 = _ := a4
        have a5 : p_ref6_variations_L1 n x 0 = _ := a5
        unfold p_shape_Flag p_ref6_Flag p_ref6_variations
        simp only [a1, a2, Option.bind_some, when_eq, hkb, decide_eq_false c8, e, if_true, a3, Bool.false_eq_true, if_false, a4, a5, b1, b2, b3, b4, cond_false]
        cases k <;> cases kb <;> cases ob <;> by_cases z1 : pr = 0 <;> by_cases z2 : tg = 0 <;> by_cases z3 : ru = 0 <;> simp [fst0, bneT, z1, z2, z3]
def TLayer.sm (x : TLayer) : Prop := x.gKey.size < 4294967281 ∧ x.gKind.size < 4294967281
theorem layer_bi (x : TLayer) (hx : x.sm) : ∃ v, Al fun n => p_shape_Layer n x = some v ∧ p_ref6_Layer n x = some v := by
  obtain ⟨k1, h1⟩ := key_bi x.gKey (by have := hx.1; omega)
  obtain ⟨k2, h2⟩ := key_bi x.gKind (by have := hx.2; omega)
  obtain ⟨b, h3⟩ := valid_bi x.gSalt
  generalize hq : (((decide (x.gHoldout < 0) || decide (x.gHoldout > 10000)) || decide (x.gCool < 0)) || decide (x.gCool > 1099511627776)) = q
  by_cases c32 : lI x.gCooling > 32
  · have hf := first_al [if (!k1 || !k2) = true then 6 else 0, if (!b) = true then 2 else 0, if q = true then 3 else 0, 5] (by simp)
    refine ⟨fst0 [if (!k1 || !k2) = true then 6 else 0, if (!b) = true then 2 else 0, if q = true then 3 else 0, 5], (h1.and (h2.and (h3.and hf))).mono fun n ⟨⟨a1, b1⟩, ⟨a2, b2⟩, ⟨a3, b3⟩, a4⟩ => ?_⟩
    unfold p_shape_Layer p_ref6_Layer
    cases k1 <;> cases k2 <;> simp only [a1, b1, a2, b2, a3, b3, Option.bind_some, Bool.not_true, Bool.not_false, cond_true, cond_false, Bool.or_false, Bool.or_true, Bool.true_or, when_eq, hq, decide_eq_true c32, if_true, if_false, Bool.false_eq_true] <;> simp only [Bool.not_true, Bool.not_false, Bool.or_false, Bool.or_true, Bool.true_or, if_true, if_false, Bool.false_eq_true] at a4 <;> rw [a4] <;> cases b <;> cases q <;> simp [fst0]
  · have hlen : x.gCooling.length ≤ 32 := long_no (k := 32) c32
    have hf := first_al [if (!k1 || !k2) = true then 6 else 0, if (!b) = true then 2 else 0, if q = true then 3 else 0, 0] (by simp)
    have hloop : ∃ v, Al fun n => p_shape_Layer_L1 n x 0 = some v ∧ p_ref6_Layer_L1 n x 0 = some v := by
      refine loop2 (fun n i => p_shape_Layer_L1 n x i) (fun n i => p_ref6_Layer_L1 n x i) x.gCooling.length (fun i hi => ?_) ⟨0, .of fun n => ?_⟩ 0 (by omega)
      · have hd := lI_in hi
        have hr := rdO_nat hi
        generalize hy : x.gCooling[i] = y at hr
        have hcond : (!((decide (0 ≤ y.gFrom) && decide (y.gFrom < y.gTo)) && decide (y.gTo ≤ 10000)) || decide (y.gUntil < 0) || decide (y.gUntil > 1099511627776)) =
            ((((decide (y.gFrom < 0) || decide (y.gFrom ≥ y.gTo)) || decide (y.gTo > 10000)) || decide (y.gUntil < 0)) || decide (y.gUntil > 1099511627776)) := by
          have e1 : decide (0 ≤ y.gFrom) = !decide (y.gFrom < 0) := dec_ge y.gFrom 0
          have e2 := dec_ge y.gFrom y.gTo
          have e3 := dec_gt y.gTo 10000
          rw [e1, e2, e3]
          cases decide (y.gFrom < 0) <;> cases decide (y.gFrom < y.gTo) <;> cases decide (y.gTo ≤ 10000) <;> rfl
        cases hc : ((((decide (y.gFrom < 0) || decide (y.gFrom ≥ y.gTo)) || decide (y.gTo > 10000)) || decide (y.gUntil < 0)) || decide (y.gUntil > 1099511627776)) with
        | true =>
          refine .inl ⟨3, .of fun n => ?_⟩
          rw [p_shape_Layer_L1, p_ref6_Layer_L1, hd]
          simp only [cond_true, hr, Option.bind_some, p_shape_inside, hcond, hc, and_self]
        | false =>
          by_cases hz : 0 < i
          · have hz' := decide_eq_true (show (i : Int) > 0 by omega)
            have hp := rdO_pred hz hi (by omega)
            cases c4 : decide (y.gFrom < x.gCooling[i - 1].gTo) with
            | true =>
              refine .inl ⟨9, .of fun n => ?_⟩
              rw [p_shape_Layer_L1, p_ref6_Layer_L1, hd]
              simp only [cond_true, cond_false, hr, Option.bind_some, p_shape_inside, hcond, hc, hz', hp, Bool.true_and, c4, and_self]
            | false =>
              refine .inr (.of fun n => ?_)
              rw [p_shape_Layer_L1, p_ref6_Layer_L1, hd]
              simp only [cond_true, cond_false, hr, Option.bind_some, p_shape_inside, hcond, hc, hz', hp, Bool.true_and, c4, w64_add (show i + 1 < 9223372036854775808 by omega), and_self]
          · have hz' := decide_eq_false (show ¬ (i : Int) > 0 by omega)
            refine .inr (.of fun n => ?_)
            rw [p_shape_Layer_L1, p_ref6_Layer_L1, hd]
            simp only [cond_true, cond_false, hr, Option.bind_some, p_shape_inside, hcond, hc, hz', Bool.false_and, w64_add (show i + 1 < 9223372036854775808 by omega), and_self]
      · rw [p_shape_Layer_L1, p_ref6_Layer_L1, lI_out]
        exact ⟨rfl, rfl⟩
    obtain ⟨v, hv⟩ := hloop
    generalize hF : fst0 [if (!k1 || !k2) = true then 6 else 0, if (!b) = true then 2 else 0, if q = true then 3 else 0, 0] = F at hf
    refine ⟨if F = 0 then v else F, (h1.and (h2.and (h3.and (hf.and hv)))).mono fun n ⟨⟨a1, b1⟩, ⟨a2, b2⟩, ⟨a3, b3⟩, a4, a5, b5⟩ => ?_⟩
    unfold p_shape_Layer p_ref6_Layer
    subst hF
    cases k1 <;> cases k2 <;> simp only [a1, b1, a2, b2, a3, b3, a5, b5, Option.bind_some, Bool.not_true, Bool.not_false, cond_true, cond_false, Bool.or_false, Bool.or_true, Bool.true_or, when_eq, hq, decide_eq_false c32, if_true, if_false, Bool.false_eq_true] <;> simp only [Bool.not_true, Bool.not_false, Bool.or_false, Bool.or_true, Bool.true_or, if_true, if_false, Bool.false_eq_true] at a4 <;> rw [a4] <;> cases b <;> cases q <;> simp [fst0]
def TExperiment.sm (x : TExperiment) : Prop := x.gKey.size < 4294967281 ∧ x.gLayer.size < 4294967281 ∧ x.gFlag.size < 4294967281 ∧ x.gWhen.sm
theorem experiment_bi (x : TExperiment) (hx : x.sm) : ∃ v, Al fun n => p_shape_Experiment n x = some v ∧ p_ref6_Experiment n x = some v := by
  obtain ⟨s1, s2, s3, s4⟩ := hx
  obtain ⟨k1, h1⟩ := key_bi x.gKey (by omega)
  obtain ⟨k2, h2⟩ := key_bi x.gLayer (by omega)
  obtain ⟨k3, h3⟩ := key_bi x.gFlag (by omega)
  obtain ⟨b, h4⟩ := valid_bi x.gSalt
  obtain ⟨sp, h5⟩ := spans_bi x.gClaims
  obtain ⟨sl, h6⟩ := split_bi x.gArms 8
  obtain ⟨e, h7⟩ := expr_bi x.gWhen s4
  generalize hq : (decide (x.gStatus < 1) || decide (x.gStatus > 3)) = q
  have hf := first_al [if ((!k1 || !k2) || !k3) = true then 6 else 0, if (!b) = true then 2 else 0, if q = true then 7 else 0, sp, sl, e] (by simp)
  refine ⟨fst0 [if ((!k1 || !k2) || !k3) = true then 6 else 0, if (!b) = true then 2 else 0, if q = true then 7 else 0, sp, sl, e],
    (h1.and (h2.and (h3.and (h4.and (h5.and (h6.and (h7.and hf))))))).mono fun n ⟨⟨a1, b1⟩, ⟨a2, b2⟩, ⟨a3, b3⟩, ⟨a4, b4⟩, ⟨a5, b5⟩, ⟨a6, b6⟩, ⟨a7, b7⟩, a8⟩ => ?_⟩
  unfold p_shape_Experiment p_ref6_Experiment
  cases k1 <;> cases k2 <;> cases k3 <;> simp only [a1, b1, a2, b2, a3, b3, a4, b4, a5, b5, a6, b6, a7, b7, Option.bind_some, Bool.not_true, Bool.not_false, cond_true, cond_false, Bool.or_false, Bool.or_true, Bool.true_or, when_eq, hq, if_true, if_false, Bool.false_eq_true] <;> simp only [Bool.not_true, Bool.not_false, Bool.or_false, Bool.or_true, Bool.true_or, if_true, if_false, Bool.false_eq_true] at a8 <;> rw [a8] <;> cases b <;> cases q <;> by_cases z1 : sp = 0 <;> by_cases z2 : sl = 0 <;> simp [fst0, bneT, z1, z2]
/-! the law -/
mutual
theorem big_tot : ∀ x : TExpr, x.sm → ∃ v, Al fun n => p_law6_big n x = some v
  | .mk op kd nm vs ks, hx => by
    have hL := big_totL ks (by rw [TExpr.sm] at hx; exact hx.2.2.2.2)
    have hlen : ks.length < 4294967281 := by rw [TExpr.sm] at hx; exact hx.2.2.2.1
    generalize hxx : TExpr.mk op kd nm vs ks = x at *
    have hks : x.gKids = ks := by rw [← hxx]; rfl
    obtain ⟨G, N, hN⟩ := hL
    have key : ∀ (q i : Nat), i + q = ks.length → ∃ v, ∀ n m, N ≤ n → q < m → p_law6_big_L1 m (p_law6_big n) x i = some v := by
      intro q
      induction q with
      | zero =>
        intro i hi
        refine ⟨decide (w64 (lI x.gKids + lI x.gValues) ≥ 200), fun n m hn hm => ?_⟩
        obtain ⟨m, rfl⟩ : ∃ k, m = k + 1 := ⟨m - 1, by omega⟩
        obtain rfl : i = ks.length := by omega
        rw [p_law6_big_L1]
        rw [← hks, lI_out]; rfl
      | succ q ih =>
        intro i hi
        have hil : i < x.gKids.length := by rw [hks]; omega
        obtain ⟨w, hw⟩ := ih (i + 1) (by omega)
        by_cases c : w64 (lI x.gKids + lI x.gValues) < 200
        · refine ⟨if G x.gKids[i] = true then true else w, fun n m hn hm => ?_⟩
          obtain ⟨m, rfl⟩ : ∃ k, m = k + 1 := ⟨m - 1, by omega⟩
          rw [p_law6_big_L1, lI_in hil, decide_eq_true c]
          simp only [Bool.and_self, cond_true, rdO_nat hil, Option.bind_some, hN n hn x.gKids[i] (by rw [← hks]; exact List.getElem_mem hil), w64_add (show i + 1 < 9223372036854775808 by omega), hw n m hn (by omega)]
          cases G x.gKids[i] <;> rfl
        · refine ⟨true, fun n m hn hm => ?_⟩
          obtain ⟨m, rfl⟩ : ∃ k, m = k + 1 := ⟨m - 1, by omega⟩
          rw [p_law6_big_L1, lI_in hil, decide_eq_false c]
          simp only [Bool.true_and, cond_false]
          rw [decide_eq_true (show w64 (lI x.gKids + lI x.gValues) ≥ 200 by omega)]
    obtain ⟨v, hv⟩ := key ks.length 0 (by omega)
    refine ⟨v, Al.succ ⟨N + ks.length + 1, fun n hn => ?_⟩⟩
    show p_law6_big_F (p_law6_big n) n x = some v
    unfold p_law6_big_F
    exact hv n n (by omega) (by omega)
theorem big_totL : ∀ l : List TExpr, TExpr.smL l → ∃ G : TExpr → Bool, Al fun n => ∀ k ∈ l, p_law6_big n k = some (G k)
  | [], _ => ⟨fun _ => false, .of fun n k hk => by cases hk⟩
  | k :: ks, h => by
    rw [TExpr.smL] at h
    obtain ⟨v, hv⟩ := big_tot k h.1
    obtain ⟨G, hG⟩ := big_totL ks h.2
    refine ⟨fun y => open Classical in if y = k then v else G y, (hv.and hG).mono fun n ⟨h1, h2⟩ y hy => ?_⟩
    by_cases e : y = k
    · simp only [e, if_true]; exact h1
    · simp only [e, if_false]
      rcases List.mem_cons.1 hy with h | h
      · exact absurd h e
      · exact h2 y h
end
theorem awake_al : Al fun n => p_law6_awake n = some true := ⟨40, fun n hn => by
  obtain ⟨m, rfl⟩ : ∃ m, n = m + 40 := ⟨n - 40, by omega⟩
  kernel_rfl⟩
/-- The law on flags, segments, layers and experiments. -/
theorem flags_law (f : TFlag) (g : TSegment) (l : TLayer) (x : TExperiment) (hf : f.sm) (hfv : f.gVariations.length < 4294967281) (hfr : f.gRules.length < 4294967281) (hg : g.sm) (hl : l.sm) (hx : x.sm) :
    Al fun n => p_law6_ShapeFlags n f g l x = some true := by
  obtain ⟨b1, h1⟩ := big_tot x.gWhen hx.2.2.2
  obtain ⟨b2, h2⟩ := big_tot g.gWhen hg.2.2
  obtain ⟨v1, k1⟩ := flag_bi f hf hfv
  obtain ⟨v2, k2⟩ := segment_bi g hg
  obtain ⟨v3, k3⟩ := layer_bi l hl
  obtain ⟨v4, k4⟩ := experiment_bi x hx
  have hloop := loop1 (fun n i => p_law6_ShapeFlags_L1 n f g l x i) f.gRules.length (fun _ => true)
    (fun i hi => by
      obtain ⟨b, hb⟩ := big_tot f.gRules[i].gWhen (hf.2.2.2.2.1 _ (List.getElem_mem hi)).2.1
      refine hb.mono fun n h => ?_
      rw [p_law6_ShapeFlags_L1, lI_in hi]
      simp only [cond_true, rdO_nat hi, Option.bind_some, h, w64_add (show i + 1 < 9223372036854775808 by omega)]
      cases b <;> simp)
    ((k1.and (k2.and (k3.and k4))).mono fun n ⟨⟨a1, c1⟩, ⟨a2, c2⟩, ⟨a3, c3⟩, ⟨a4, c4⟩⟩ => by
      rw [p_law6_ShapeFlags_L1, lI_out]
      simp only [cond_false, a1, c1, a2, c2, a3, c3, a4, c4, Option.bind_some, beq_self_eq_true, Bool.and_self, cond_true]) 0 (by omega)
  refine (awake_al.and (h1.and (h2.and hloop))).mono fun n ⟨e0, e1, e2, e3⟩ => ?_
  have e3 : p_law6_ShapeFlags_L1 n f g l x 0 = some true := e3
  unfold p_law6_ShapeFlags
  rw [e0]
  generalize (((((((decide (lI f.gRules > 20) || decide (lI f.gVariations > 20)) || decide (lI f.gTargets > 20)) || decide (lI g.gInclude > 60)) || decide (lI g.gExclude > 60)) || decide (lI l.gCooling > 60)) || decide (lI x.gClaims > 40)) || decide (lI x.gArms > 40)) = q
  cases q <;> cases b1 <;> cases b2 <;> simp [e1, e2, e3]
end Go.Proofs.YtjhbobacbaikoaaGreatDoor
/- Sizes: what the bound gives; what the listed package variables hold. -/
namespace Go.Proofs.YtjhbobacbaikoaaGreatDoor
open Go Go.ChangeShapes Go.WideShapes Go.RowKit
set_option linter.unusedVariables false
set_option maxRecDepth 100000
/-! ## bulk -/
def fitU {H : Type} (d : DataW H) : Prop := Rows.uptoBulk d ≤ 1048576
theorem bulk_one {H : Type} (d : DataW H) : 1 ≤ Rows.uptoBulk d := by
  cases d with
  | lit l => cases l <;> simp [Rows.uptoBulk]
  | _ => simp [Rows.uptoBulk]
theorem bulk_part {H : Type} {d : DataW H} {l : List (DataW H)} (h : d ∈ l) : Rows.uptoBulk d ≤ Rows.uptoBulkAll l := by
  induction l with
  | nil => cases h
  | cons x r ih =>
    simp only [Rows.uptoBulkAll]
    rcases List.mem_cons.1 h with rfl | e
    · omega
    · have := ih e; omega
theorem bulk_len {H : Type} (l : List (DataW H)) : l.length ≤ Rows.uptoBulkAll l := by
  induction l with
  | nil => simp [Rows.uptoBulkAll]
  | cons x r ih => have := bulk_one x; simp only [Rows.uptoBulkAll, List.length_cons]; omega
theorem fitU_ok {H : Type} : FitOk (H := H) 1048576 fitU where
  str := fun l _ h => by
    unfold fitU at h
    simp only [Rows.uptoBulk] at h
    omega
  sl := fun es sp _ h => by
    unfold fitU at h
    simp only [Rows.uptoBulk] at h
    have := bulk_len es
    refine ⟨by omega, fun e he => ?_⟩
    have := bulk_part he
    unfold fitU; omega
  ag := fun ps h p hp => by
    unfold fitU at h ⊢
    simp only [Rows.uptoBulk] at h
    have := bulk_part hp
    omega
theorem fitU_all {H : Type} {l : List (DataW H)} (h : Rows.uptoSmall H l = true) : ∀ d ∈ l, fitU d := by
  intro d hd
  have h := of_decide_eq_true h
  have := bulk_part hd
  unfold fitU
  omega
/-! ## values of the laws' types -/
section
theorem TValue.ok_sm {B : Nat} (hB : B < 4294967281) {x : TValue} (h : x.ok B) : x.sm := ⟨by have := h.1; omega, by have := h.2.1.1; omega, fun s hs => by have := h.2.1.2 s hs; omega⟩
mutual
theorem TExpr.ok_sm {B : Nat} (hB : B < 4294967281) : ∀ x : TExpr, x.ok B → x.sm
  | .mk op k nm vs ks => fun h => by
    rw [TExpr.ok] at h
    rw [TExpr.sm]
    exact ⟨by have := h.1; omega, by have := h.2.1; omega, fun v hv => TValue.ok_sm hB (h.2.2.1.2 v hv), by have := h.2.2.2.1.1; omega, TExpr.okL_sm hB ks h.2.2.2.1.2⟩
theorem TExpr.okL_sm {B : Nat} (hB : B < 4294967281) : ∀ l : List TExpr, TExpr.okL B l → TExpr.smL l
  | [] => fun h => by rw [TExpr.smL]; trivial
  | x :: xs => fun h => by
    rw [TExpr.okL] at h
    rw [TExpr.smL]
    exact ⟨TExpr.ok_sm hB x h.1, TExpr.okL_sm hB xs h.2⟩
end
theorem TServe.ok_sm {B : Nat} (hB : B < 4294967281) {x : TServe} (h : x.ok B) : x.sm := ⟨by have := h.1; omega, by have := h.2.1; omega⟩
theorem TRule.ok_sm {B : Nat} (hB : B < 4294967281) {x : TRule} (h : x.ok B) : x.sm := ⟨by have := h.1; omega, TExpr.ok_sm hB _ h.2.1, TServe.ok_sm hB h.2.2.1⟩
theorem TFlag.ok_sm {B : Nat} (hB : B < 4294967281) {x : TFlag} (h : x.ok B) : x.sm :=
  ⟨by have := h.1; omega, fun v hv => TValue.ok_sm hB (h.2.1.2 v hv), fun y hy => by have := (h.2.2.1.2 y hy).1; omega, fun y hy => by have := (h.2.2.2.1.2 y hy).1; omega,
    fun y hy => TRule.ok_sm hB (h.2.2.2.2.1.2 y hy), TServe.ok_sm hB h.2.2.2.2.2.1⟩
theorem TSegment.ok_sm {B : Nat} (hB : B < 4294967281) {x : TSegment} (h : x.ok B) : x.sm := ⟨by have := h.1; omega, by have := h.2.1; omega, TExpr.ok_sm hB _ h.2.2.2.2.1⟩
theorem TLayer.ok_sm {B : Nat} (hB : B < 4294967281) {x : TLayer} (h : x.ok B) : x.sm := ⟨by have := h.1; omega, by have := h.2.1; omega⟩
theorem TExperiment.ok_sm {B : Nat} (hB : B < 4294967281) {x : TExperiment} (h : x.ok B) : x.sm := ⟨by have := h.1; omega, by have := h.2.1; omega, by have := h.2.2.1; omega, TExpr.ok_sm hB _ h.2.2.2.2.2.2.1⟩
end
/-! ## the package variables -/
def tabsT (u8 u9 : TypeId) (v8 v9 : Value) : List (Nat × List AV) :=
  [(3, cl_u8 gl_asciiSpace), (4, cl_u8 gl_first), (5, TacceptRange.cl gl_acceptRanges), (10, cl_u64 gl_pow10), (8, [.val (.iface u8 v8)]), (9, [.val (.iface u9 v9)])]
theorem globT (u8 u9 : TypeId) (v8 v9 : Value) : GlobT (genv (tabsT u8 u9 v8 v9)) :=
  ⟨rfl, rfl, rfl, rfl, ⟨u8, v8, rfl⟩, ⟨u9, v9, rfl⟩⟩
theorem laid_env {W : World} {l : List (String × DataW Unit)} (hL : laidMetH Tryz.prog l W) (hp : (l.all fun x => x.2.handleName?.isNone) = true) {i3 i4 i5 i8 i9 i10 : Nat}
    (h3 : l[i3]? = some ("strings.asciiSpace", Rows.laid_strings_asciiSpace)) (h4 : l[i4]? = some ("unicode/utf8.first", Rows.laid_unicode_utf8_first))
    (h5 : l[i5]? = some ("unicode/utf8.acceptRanges", Rows.laid_unicode_utf8_acceptRanges)) (h8 : l[i8]? = some ("strconv.ErrSyntax", Rows.laid_strconv_ErrSyntax)) (h9 : l[i9]? = some ("strconv.ErrRange", Rows.laid_strconv_ErrRange))
    (h10 : l[i10]? = some ("internal/strconv.uint64pow10", Rows.laid_internal_strconv_uint64pow10)) : ∃ E : Env, E.holds (c0 W) ∧ GlobT E := by
  obtain ⟨u8, v8, r8⟩ := iface_laid hL hp h8 (g := 8) (t := 219) (by kernel_rfl) (by kernel_rfl) Tryz.underlying219
  obtain ⟨u9, v9, r9⟩ := iface_laid hL hp h9 (g := 9) (t := 219) (by kernel_rfl) (by kernel_rfl) Tryz.underlying219
  refine ⟨genv (tabsT u8 u9 v8 v9), ?_, globT _ _ _ _⟩
  show ∀ p ∈ tabsT u8 u9 v8 v9, _
  unfold tabsT
  simp only [List.forall_mem_cons]
  refine ⟨⟨scl_cl_u8 _ _, ?_⟩, ⟨scl_cl_u8 _ _, ?_⟩, ⟨scl_TacceptRange_cl _ _, ?_⟩, ⟨scl_cl_u64 _ _, ?_⟩, ⟨⟨trivial, trivial⟩, r8⟩, ⟨⟨trivial, trivial⟩, r9⟩, by simp⟩
  · exact rop_laid hL hp h3 (t := 179) (by kernel_rfl) (by kernel_rfl) (fun fuel cs p h => trod_tab cs_u8 (fun a => .lit (.int .u8 a)) gl_asciiSpace Tryz.underlying179 (sz := 1) (by kernel_rfl) h (by kernel_rfl) (by kernel_rfl) (fun m vs y a h hy => trod_lit_int Tryz.underlying5 h hy)) (by kernel_rfl)
  · exact rop_laid hL hp h4 (t := 179) (by kernel_rfl) (by kernel_rfl) (fun fuel cs p h => trod_tab cs_u8 (fun a => .lit (.int .u8 a)) gl_first Tryz.underlying179 (sz := 1) (by kernel_rfl) h (by kernel_rfl) (by kernel_rfl) (fun m vs y a h hy => trod_lit_int Tryz.underlying5 h hy)) (by kernel_rfl)
  · refine rop_laid hL hp h5 (t := 185) (by kernel_rfl) (by kernel_rfl) (fun fuel cs p h => trod_tab TacceptRange.cs (fun a => .agg [.lit (.int .u8 a.glo), .lit (.int .u8 a.ghi)]) gl_acceptRanges Tryz.underlying185 (sz := 2) (by kernel_rfl) h (by kernel_rfl) (by kernel_rfl) ?_) (by kernel_rfl)
    intro m vs y a h hy
    obtain ⟨xs, m, rfl, rfl, hl, hlen, hget⟩ := DataW.trod_struct Tryz.underlying184 h
    have hl : vs.length = 2 := hl.trans (by kernel_rfl)
    match xs, hlen with
    | [x0, x1], _ =>
      have e0 := hget 0 _ rfl
      have e1 := hget 1 _ rfl
      simp only [List.map_cons, List.map_nil, DataW.agg.injEq, List.cons.injEq, and_true] at hy
      have c5 : Tryz.prog.cellsOf 5 = 1 := by kernel_rfl
      change DataW.trod _ _ _ _ _ _ _ 5 ((vs.drop 0).take (Tryz.prog.cellsOf 5)) = some x0 at e0
      change DataW.trod _ _ _ _ _ _ _ 5 ((vs.drop 1).take (Tryz.prog.cellsOf 5)) = some x1 at e1
      rw [c5] at e0 e1
      have r0 := trod_lit_int (P := Tryz.prog) (W := W) Tryz.underlying5 e0 hy.1
      have r1 := trod_lit_int (P := Tryz.prog) (W := W) Tryz.underlying5 e1 hy.2
      exact rel_piece (o := 0) (n := 1) r0 (rel_piece (o := 1) (n := 1) r1 (rel_end hl))
  · exact rop_laid hL hp h10 (t := 300) (by kernel_rfl) (by kernel_rfl) (fun fuel cs p h => trod_tab cs_u64 (fun a => .lit (.int .u64 a)) gl_pow10 Tryz.underlying300 (sz := 1) (by kernel_rfl) h (by kernel_rfl) (by kernel_rfl) (fun m vs y a h hy => trod_lit_int Tryz.underlying215 h hy)) (by kernel_rfl)
end Go.Proofs.YtjhbobacbaikoaaGreatDoor
/- Flagstone's law on flags, segments, layers and experiments holds for every input of bulk at most 1048576: the call returns true, and its arguments read behind it as before. The condition: the listed package variables hold what their initialisers lay. -/
namespace Go.Proofs.YtjhbobacbaikoaaGreatDoor
open Go Go.ChangeShapes Go.WideShapes Go.RowKit
set_option linter.unusedVariables false
set_option maxRecDepth 100000
theorem ownNone : ownKnob Tryz.prog.godebug = none := by kernel_rfl
theorem laidOutT : laidOutB Tryz.prog = true := by kernel_rfl
/-- What the call gives, for every argument that the reading takes. -/
theorem shapeFlags_contract (H : Type) (enc : TypeId × Value → H) (W : World) (base : Nat) (args : Array Value) (ds gs : List (DataW H)) (before : List MemPlace)
    (hval : ∀ (j : Nat) t v, Tryz.f6.params[j]? = some t → args[j]? = some v → Value.okWide Tryz.prog W .any base t v)
    (hW : DataW.Whole enc Tryz.prog Tryz.f6.params.toList Rows.shapeFlagsSpec.vars false W args.toList ds gs before) (hfit : ∀ d ∈ ds, fitU d) (hL : laidMetH Tryz.prog Rows.shapeFlagsUptoRow.laid W) :
    Calls Tryz.prog 6 args W fun e W' => ∃ v, e = .returned v ∧ Rows.shapeFlagsSpec.post enc Tryz.prog Tryz.f6 false true false false W args v W' := by
  have hW' := hW
  obtain ⟨p, q, hA, hV, rfl, hfz, hnd⟩ := hW
  obtain ⟨rfl, rfl⟩ := trodVars_none hV
  have hA0 : DataW.TrodAll enc Tryz.prog W 0 (fun _ => true) true [65, 71, 74, 42] args.toList ds p := hA
  obtain ⟨v0, v1, v2, v3, d0, d1, d2, d3, p0, p1, p2, p3, rfl, rfl, hp, ⟨n0, h0⟩, ⟨n1, h1⟩, ⟨n2, h2⟩, ⟨n3, h3⟩⟩ := trodAll_four hA0
  obtain ⟨x0, r0, o0⟩ := rd_TFlag fitU_ok _ _ _ h0 (hfit _ (by simp))
  obtain ⟨x1, r1, o1⟩ := rd_TSegment fitU_ok _ _ _ h1 (hfit _ (by simp))
  obtain ⟨x2, r2, o2⟩ := rd_TLayer fitU_ok _ _ _ h2 (hfit _ (by simp))
  obtain ⟨x3, r3, o3⟩ := rd_TExperiment fitU_ok _ _ _ h3 (hfit _ (by simp))
  have hB : 1048576 < 4294967281 := by decide
  obtain ⟨n, law⟩ := (flags_law x0 x1 x2 x3 (TFlag.ok_sm hB o0) (by have := o0.2.1.1; omega) (by have := o0.2.2.2.2.1.1; omega) (TSegment.ok_sm hB o1) (TLayer.ok_sm hB o2) (TExperiment.ok_sm hB o3)).get
  obtain ⟨E, hE, hG⟩ := laid_env (i3 := 7) (i4 := 8) (i5 := 3) (i8 := 5) (i9 := 4) (i10 := 2) hL (by kernel_rfl) rfl rfl rfl rfl rfl rfl
  have a0 := agg_rel Tryz.underlying65 (hval 0 65 v0 rfl rfl) r0 (by rfl)
  have a1 := agg_rel Tryz.underlying71 (hval 1 71 v1 rfl rfl) r1 (by rfl)
  have a2 := agg_rel Tryz.underlying74 (hval 2 74 v2 rfl rfl) r2 (by rfl)
  have a3 := agg_rel Tryz.underlying42 (hval 3 42 v3 rfl rfl) r3 (by rfl)
  refine (s_law6_ShapeFlags hG law _ W #[v0, v1, v2, v3] hE (ok0 W) ⟨_, _, rfl, a0, _, _, rfl, a1, _, _, rfl, a2, _, _, rfl, a3, rfl⟩).mono fun e W' h => ?_
  obtain ⟨r, h', μ', u, rfl, ⟨rfl, rfl⟩, _, hu, tt⟩ := h
  have hu : u = .bool true := hu
  subst hu
  have bel := to_below tt
  simp only [List.append_nil] at hW'
  have hlt : ∀ x ∈ p, x.block < W.heap.size := fun x hx => by simpa using hW'.lt x hx
  exact ⟨_, rfl, ⟨_, _, _, [], p, [], hW', trodAll_mk1 (shut_bool Tryz.underlying4 _), trodAll_stays laidOutT bel (by kernel_rfl) hA hlt (fun x hx => decide_eq_true (hlt x hx)), rfl, bel.frame _, fun h => by cases h⟩⟩
end Go.Proofs.YtjhbobacbaikoaaGreatDoor
