/- The form of conditions: the program and the reference agree. -/
import Derived.Test.YtjhbobacbaikoaaGreatDoorM6
import Derived.Test.YtjhbobacbaikoaaGreatDoorM4
import Derived.Carry
namespace Go.Proofs.YtjhbobacbaikoaaGreatDoor
open Go
set_option linter.unusedVariables false
set_option linter.unusedSimpArgs false
theorem when_eq (n : Nat) (b : Bool) (e : Int) : p_shape_when n b e = some (if b = true then e else 0) := by
  unfold p_shape_when
  cases b <;> rfl
/-- The first that is not 0. -/
def fst0 : List Int → Int
  | [] => 0
  | a :: l => if a = 0 then fst0 l else a
theorem first_al (l : List Int) (hl : l.length < 4294967281) : Al fun n => p_shape_first n l = some (fst0 l) := by
  have := loop1 (fun n i => p_cmp_Or_api_Errno_L1 n l i) l.length (fun i => fst0 (l.drop i)) (fun i hi => .of fun n => ?_) (.of fun n => ?_) 0 (by omega)
  · refine this.mono fun n h => ?_
    have h : p_cmp_Or_api_Errno_L1 n l 0 = some (fst0 (l.drop 0)) := h
    unfold p_shape_first p_cmp_Or_api_Errno
    rw [h]; rfl
  · have hd : decide ((i : Int) < lI l) = true := decide_eq_true (by unfold lI; omega)
    rw [p_cmp_Or_api_Errno_L1, hd, cond_true, rdO_nat hi, Option.bind_some, List.drop_eq_getElem_cons hi, w64_add (by omega)]
    by_cases h : l[i] = 0
    · right
      rw [h]
      exact ⟨rfl, by rw [fst0, if_pos rfl]⟩
    · left
      have : (l[i] != 0) = true := by rw [bne_iff_ne]; exact h
      rw [this, fst0, if_neg h]; rfl
  · have hd : decide (((l.length : Nat) : Int) < lI l) = false := decide_eq_false (by unfold lI; omega)
    rw [p_cmp_Or_api_Errno_L1, hd, List.drop_length]; rfl
/-! sizes -/
mutual
def TExpr.sm : TExpr → Prop
  | .mk _ k nm vs ks => k.size < 4294967281 ∧ nm.size < 4294967281 ∧ (∀ v ∈ vs, v.sm) ∧ ks.length < 4294967281 ∧ TExpr.smL ks
def TExpr.smL : List TExpr → Prop
  | [] => True
  | x :: xs => x.sm ∧ TExpr.smL xs
end
theorem TExpr.smL_mem : ∀ {l : List TExpr}, TExpr.smL l → ∀ x ∈ l, x.sm
  | [], _, x, h => by cases h
  | y :: l, hl, x, h => by
    rw [TExpr.smL] at hl
    rcases List.mem_cons.1 h with rfl | h
    · exact hl.1
    · exact TExpr.smL_mem hl.2 x h
theorem TExpr.sm_parts {x : TExpr} (h : x.sm) : x.gKind.size < 4294967281 ∧ x.gName.size < 4294967281 ∧ (∀ v ∈ x.gValues, v.sm) ∧ ∀ k ∈ x.gKids, k.sm := by
  cases x with
  | mk op k nm vs ks => rw [TExpr.sm] at h; exact ⟨h.1, h.2.1, h.2.2.1, fun y hy => TExpr.smL_mem h.2.2.2.2 y hy⟩
/-! one part -/
theorem none_eq (n : Nat) (x : TExpr) : p_shape_None n x = p_ref6_None n x := rfl
theorem test_eq (n : Nat) (op : Int) : p_shape_test n op = p_ref6_IsTest n op := rfl
theorem lI_nonneg {α : Type} (l : List α) : 0 ≤ lI l := by unfold lI; omega
theorem shapes_eq (n : Nat) (x : TExpr) (h : 1 ≤ x.gOp ∧ x.gOp ≤ 15) : p_shape_shape n x = p_ref6_counts n x := by
  have hk : x.gOp = 1 ∨ x.gOp = 2 ∨ x.gOp = 3 ∨ x.gOp = 4 ∨ x.gOp = 5 ∨ x.gOp = 6 ∨ x.gOp = 7 ∨ x.gOp = 8 ∨ x.gOp = 9 ∨ x.gOp = 10 ∨ x.gOp = 11 ∨ x.gOp = 12 ∨ x.gOp = 13 ∨ x.gOp = 14 ∨ x.gOp = 15 := by omega
  have e1 := dec_lt (lI x.gKids) 2
  have e3 : decide (lI x.gKids > 0) = !(lI x.gKids == 0) := by
    have := lI_nonneg x.gKids
    by_cases h : lI x.gKids = 0
    · rw [h]; rfl
    · rw [decide_eq_true (by omega), beq_eq_false_iff_ne.2 h]; rfl
  unfold p_shape_shape p_shape_shape_K1 p_ref6_counts p_ref6_counts_K1 p_shape_test p_ref6_IsTest
  rw [e1, e3]
  simp only [bne]
  generalize decide (lI x.gKids ≥ 2) = b1
  generalize (lI x.gKids == 0) = b2
  generalize (lI x.gKids == 1) = b3
  generalize (lI x.gValues == 0) = b4
  generalize (lI x.gValues == 1) = b5
  generalize decide (lI x.gValues > 0) = b6
  generalize seq' x.gKind ByteArray.empty = b7
  generalize seq' x.gName ByteArray.empty = b8
  generalize x.gOp = op at hk
  rcases hk with hk | hk | hk | hk | hk | hk | hk | hk | hk | hk | hk | hk | hk | hk | hk <;> subst hk <;>
    cases b1 <;> cases b2 <;> cases b3 <;> cases b4 <;> cases b5 <;> cases b6 <;> cases b7 <;> cases b8 <;> rfl
theorem shape_some (x : TExpr) (h : 1 ≤ x.gOp ∧ x.gOp ≤ 15) : ∃ b, ∀ n, p_shape_shape n x = some b := by
  have e : ∀ n, p_shape_shape n x = p_ref6_counts 0 x := fun n => shapes_eq n x h
  cases hc : p_ref6_counts 0 x with
  | some b => exact ⟨b, fun n => (e n).trans hc⟩
  | none =>
    exfalso
    simp only [p_ref6_counts, p_ref6_counts_K1, p_ref6_IsTest, Option.bind_some] at hc
    generalize ((x.gOp == 2) || (x.gOp == 3)) = b1 at hc
    generalize (x.gOp == 4) = b2 at hc
    generalize (x.gOp == 8) = b3 at hc
    generalize (decide (x.gOp ≥ 6) && decide (x.gOp ≤ 15)) = b4 at hc
    generalize (x.gOp != 6) = b5 at hc
    cases b1 <;> cases b2 <;> cases b3 <;> cases b4 <;> cases b5 <;> cases hc
/-- What a well-shaped part has. -/
theorem shape_facts (n : Nat) (x : TExpr) (h : 1 ≤ x.gOp ∧ x.gOp ≤ 15) (hs : p_shape_shape n x = some true) :
    (x.gOp = 2 ∨ x.gOp = 3 ∨ x.gOp = 4 ∨ x.gKids = []) ∧ ((x.gOp = 9 ∨ x.gOp = 10 ∨ x.gOp = 11) → 0 < x.gValues.length) := by
  constructor
  · by_cases h2 : x.gOp = 2
    · exact .inl h2
    by_cases h3 : x.gOp = 3
    · exact .inr (.inl h3)
    by_cases h4 : x.gOp = 4
    · exact .inr (.inr (.inl h4))
    refine .inr (.inr (.inr ?_))
    unfold p_shape_shape at hs
    rw [beq_eq_false_iff_ne.2 h2, beq_eq_false_iff_ne.2 h3, beq_eq_false_iff_ne.2 h4] at hs
    simp only [Bool.or_self, cond_false] at hs
    cases hc : decide (lI x.gKids > 0) with
    | true => rw [hc] at hs; cases hs
    | false =>
      have := of_decide_eq_false hc
      unfold lI at this
      exact List.length_eq_zero_iff.1 (by omega)
  · intro hop
    have hv : (lI x.gValues == 1) = true := by
      have ht : ∀ n, p_shape_test n x.gOp = some true := by
        intro n
        unfold p_shape_test
        rw [decide_eq_true (show x.gOp ≥ 6 by omega), decide_eq_true (show x.gOp ≤ 15 by omega)]; rfl
      have hK : p_shape_shape_K1 n x = some true := by
        unfold p_shape_shape at hs
        rw [beq_eq_false_iff_ne.2 (show x.gOp ≠ 2 by omega), beq_eq_false_iff_ne.2 (show x.gOp ≠ 3 by omega), beq_eq_false_iff_ne.2 (show x.gOp ≠ 4 by omega)] at hs
        simp only [Bool.or_self, cond_false] at hs
        cases hc : decide (lI x.gKids > 0) with
        | true => rw [hc] at hs; cases hs
        | false => rw [hc] at hs; exact hs
      unfold p_shape_shape_K1 at hK
      rw [ht] at hK
      simp only [Option.bind_some, Bool.not_true, Bool.false_and, cond_false, beq_eq_false_iff_ne.2 (show x.gOp ≠ 8 by omega), Bool.true_and] at hK
      have : (x.gOp != 6) = true := by rw [bne_iff_ne]; omega
      rw [this, cond_true] at hK
      exact Option.some.inj hK
    have := beq_iff_eq.1 hv
    unfold lI at this
    omega
theorem part_values (x : TExpr) (hx : ∀ v ∈ x.gValues, v.sm) (hl : x.gValues.length < 4294967281) (hne : (x.gOp = 9 ∨ x.gOp = 10 ∨ x.gOp = 11) → 0 < x.gValues.length) :
    ∃ v, Al fun n => p_shape_part_L2 n x 0 = some v ∧ p_ref6_part_L2 n x 0 = some v := by
  refine loop2 (fun n i => p_shape_part_L2 n x i) (fun n i => p_ref6_part_L2 n x i) x.gValues.length (fun i hi => ?_) ?_ 0 (by omega)
  · have hd : decide ((i : Int) < lI x.gValues) = true := decide_eq_true (by unfold lI; omega)
    obtain ⟨v, hv⟩ := check_bi x.gValues[i] (hx _ (List.getElem_mem hi))
    by_cases h0 : v = 0
    · refine .inr (hv.mono fun n ⟨a, b⟩ => ?_)
      rw [p_shape_part_L2, p_ref6_part_L2, hd]
      simp only [cond_true, rdO_nat hi, Option.bind_some, a, b, h0, bne_self_eq_false, cond_false, w64_add (show i + 1 < 9223372036854775808 by omega), and_self]
    · refine .inl ⟨v, hv.mono fun n ⟨a, b⟩ => ?_⟩
      have : (v != 0) = true := by rw [bne_iff_ne]; exact h0
      rw [p_shape_part_L2, p_ref6_part_L2, hd]
      simp only [cond_true, rdO_nat hi, Option.bind_some, a, b, this, and_self]
  · have hd : decide (((x.gValues.length : Nat) : Int) < lI x.gValues) = false := decide_eq_false (by unfold lI; omega)
    cases hc : (((x.gOp == 9) || (x.gOp == 10)) || (x.gOp == 11)) with
    | true =>
      have h0 := hne (by simpa [or_assoc] using hc)
      have hr : rdO x.gValues 0 = some x.gValues[0] := rdO_nat (i := 0) h0
      refine ⟨if (x.gValues[0].gKind != 3) = true then 8 else 0, .of fun n => ?_⟩
      rw [p_shape_part_L2, p_ref6_part_L2, hd]
      simp only [cond_false, hc, cond_true, hr, Option.bind_some, when_eq, Bool.true_and]
      cases (x.gValues[0].gKind != 3) <;> simp
    | false =>
      refine ⟨0, .of fun n => ?_⟩
      rw [p_shape_part_L2, p_ref6_part_L2, hd]
      simp only [cond_false, hc, Option.bind_some, when_eq, Bool.false_and]
      simp
theorem part_bi (x : TExpr) (hx : x.sm) : ∃ v, Al fun n => (∀ d : Int, p_shape_part n x d = if d ≥ 10 then some 18 else some v) ∧ p_ref6_part n x = some v := by
  obtain ⟨hk, hn, hv, hks⟩ := TExpr.sm_parts hx
  by_cases hop : 1 ≤ x.gOp ∧ x.gOp ≤ 15
  · have e0 : (decide (x.gOp < 1) || decide (x.gOp > 15)) = false := by simp; omega
    have hsh := shape_some x hop
    obtain ⟨b, hb⟩ := hsh
    have hb' : ∀ n, p_ref6_counts n x = some b := fun n => by rw [← shapes_eq n x hop]; exact hb n
    cases b with
    | false =>
      refine ⟨15, .of fun n => ⟨fun d => ?_, ?_⟩⟩
      · unfold p_shape_part
        by_cases hd : d ≥ 10
        · rw [decide_eq_true hd, if_pos hd]; rfl
        · rw [decide_eq_false hd, if_neg hd, e0, hb]; rfl
      · unfold p_ref6_part
        rw [e0, hb']; rfl
    | true =>
      obtain ⟨f1, f2⟩ := shape_facts 0 x hop (hb 0)
      by_cases hsz : (decide (lI x.gKids > 12) || decide (lI x.gValues > 20)) = true
      · refine ⟨5, .of fun n => ⟨fun d => ?_, ?_⟩⟩
        · unfold p_shape_part
          by_cases hd : d ≥ 10
          · rw [decide_eq_true hd, if_pos hd]; rfl
          · rw [decide_eq_false hd, if_neg hd, e0, hb, hsz]; rfl
        · unfold p_ref6_part
          rw [e0, hb', hsz]; rfl
      · have hsz := Bool.eq_false_iff.2 hsz
        have hls : x.gKids.length ≤ 12 ∧ x.gValues.length ≤ 20 := by
          obtain ⟨q1, q2⟩ := Bool.or_eq_false_iff.1 hsz
          have q1 := of_decide_eq_false q1
          have q2 := of_decide_eq_false q2
          unfold lI at q1 q2
          omega
        obtain ⟨u, hu⟩ := part_values x hv (by omega) f2
        obtain ⟨k1, hk1⟩ := key_bi x.gKind (by omega)
        obtain ⟨k2, hk2⟩ := key_bi x.gName (by omega)
        have hloop : ∃ v, Al fun n => p_shape_part_L1 n x 0 = some v ∧ p_ref6_part_L1 n x 0 = some v := by
          refine loop2 (fun n i => p_shape_part_L1 n x i) (fun n i => p_ref6_part_L1 n x i) x.gKids.length (fun i hi => ?_) ?_ 0 (by omega)
          · have hd : decide ((i : Int) < lI x.gKids) = true := decide_eq_true (by unfold lI; omega)
            have hcond : (x.gKids[i].gOp == x.gOp && (x.gOp == 2 || x.gOp == 3)) = (x.gKids[i].gOp == x.gOp && x.gOp != 4) := by
              rcases f1 with f1 | f1 | f1 | f1
              · rw [f1]; rfl
              · rw [f1]; rfl
              · rw [f1]; rfl
              · rw [f1] at hi; simp at hi
            cases hc : (x.gKids[i].gOp == x.gOp && x.gOp != 4) with
            | true =>
              refine .inl ⟨15, .of fun n => ?_⟩
              rw [p_shape_part_L1, p_ref6_part_L1, hd]
              simp only [cond_true, rdO_nat hi, Option.bind_some, hcond, hc, and_self]
            | false =>
              refine .inr (.of fun n => ?_)
              rw [p_shape_part_L1, p_ref6_part_L1, hd]
              simp only [cond_true, rdO_nat hi, Option.bind_some, hcond, hc, cond_false, w64_add (show i + 1 < 9223372036854775808 by omega), and_self]
          · have hd : decide (((x.gKids.length : Nat) : Int) < lI x.gKids) = false := decide_eq_false (by unfold lI; omega)
            have ht : ∀ n, p_shape_test n x.gOp = some (decide (x.gOp ≥ 6) && decide (x.gOp ≤ 15)) := fun n => rfl
            have ht' : ∀ n, p_ref6_IsTest n x.gOp = some (decide (x.gOp ≥ 6) && decide (x.gOp ≤ 15)) := fun n => rfl
            generalize (decide (x.gOp ≥ 6) && decide (x.gOp ≤ 15)) = t at ht ht'
            generalize h5 : (x.gOp == 5) = b5
            refine ⟨if ((t && !k1) || ((t || b5) && !k2)) = true then 6 else u, (hu.and (hk1.and hk2)).mono fun n ⟨⟨a1, a2⟩, ⟨a3, a4⟩, a5, a6⟩ => ?_⟩
            rw [p_shape_part_L1, p_ref6_part_L1, hd]
            simp only [cond_false, ht, ht', Option.bind_some, h5, a1, a2, a3, a4, a5, a6]
            cases t <;> cases k1 <;> cases b5 <;> cases k2 <;> simp [a1, a2]
        obtain ⟨v, hv⟩ := hloop
        refine ⟨v, hv.mono fun n ⟨a1, a2⟩ => ⟨fun d => ?_, ?_⟩⟩
        · unfold p_shape_part
          by_cases hd : d ≥ 10
          · rw [decide_eq_true hd, if_pos hd]; rfl
          · rw [decide_eq_false hd, if_neg hd, e0, hb]
            simp only [cond_false, Option.bind_some, Bool.not_true, hsz, a1]
        · unfold p_ref6_part
          rw [e0, hb']
          simp only [cond_false, Option.bind_some, Bool.not_true, hsz, a2]
  · have e0 : (decide (x.gOp < 1) || decide (x.gOp > 15)) = true := by simp; omega
    refine ⟨7, .of fun n => ⟨fun d => ?_, ?_⟩⟩
    · unfold p_shape_part
      by_cases hd : d ≥ 10
      · rw [decide_eq_true hd, if_pos hd]; rfl
      · rw [decide_eq_false hd, if_neg hd, e0]; rfl
    · unfold p_ref6_part
      rw [e0]; rfl
end Go.Proofs.YtjhbobacbaikoaaGreatDoor
/- Sizes: what the bound gives; what the listed package variables hold. -/
namespace Go.Proofs.YtjhbobacbaikoaaGreatDoor
open Go Go.ChangeShapes Go.WideShapes Go.RowKit
set_option linter.unusedVariables false
set_option maxRecDepth 100000
/-! ## bulk -/
def fitU {H : Type} (d : DataW H) : Prop := Rows.uptoBulk d ≤ 1048576
theorem bulk_one {H : Type} (d : DataW H) : 1 ≤ Rows.uptoBulk d := by
  cases d with
  | lit l => cases l <;> simp [Rows.uptoBulk]
  | _ => simp [Rows.uptoBulk]
theorem bulk_part {H : Type} {d : DataW H} {l : List (DataW H)} (h : d ∈ l) : Rows.uptoBulk d ≤ Rows.uptoBulkAll l := by
  induction l with
  | nil => cases h
  | cons x r ih =>
    simp only [Rows.uptoBulkAll]
    rcases List.mem_cons.1 h with rfl | e
    · omega
    · have := ih e; omega
theorem bulk_len {H : Type} (l : List (DataW H)) : l.length ≤ Rows.uptoBulkAll l := by
  induction l with
  | nil => simp [Rows.uptoBulkAll]
  | cons x r ih => have := bulk_one x; simp only [Rows.uptoBulkAll, List.length_cons]; omega
theorem fitU_ok {H : Type} : FitOk (H := H) 1048576 fitU where
  str := fun l _ h => by
    unfold fitU at h
    simp only [Rows.uptoBulk] at h
    omega
  sl := fun es sp _ h => by
    unfold fitU at h
    simp only [Rows.uptoBulk] at h
    have := bulk_len es
    refine ⟨by omega, fun e he => ?_⟩
    have := bulk_part he
    unfold fitU; omega
  ag := fun ps h p hp => by
    unfold fitU at h ⊢
    simp only [Rows.uptoBulk] at h
    have := bulk_part hp
    omega
theorem fitU_all {H : Type} {l : List (DataW H)} (h : Rows.uptoSmall H l = true) : ∀ d ∈ l, fitU d := by
  intro d hd
  have h := of_decide_eq_true h
  have := bulk_part hd
  unfold fitU
  omega
/-! ## values of the laws' types -/
section
theorem TValue.ok_sm {B : Nat} (hB : B < 4294967281) {x : TValue} (h : x.ok B) : x.sm := ⟨by have := h.1; omega, by have := h.2.1.1; omega, fun s hs => by have := h.2.1.2 s hs; omega⟩
mutual
theorem TExpr.ok_sm {B : Nat} (hB : B < 4294967281) : ∀ x : TExpr, x.ok B → x.sm
  | .mk op k nm vs ks => fun h => by
    rw [TExpr.ok] at h
    rw [TExpr.sm]
    exact ⟨by have := h.1; omega, by have := h.2.1; omega, fun v hv => TValue.ok_sm hB (h.2.2.1.2 v hv), by have := h.2.2.2.1.1; omega, TExpr.okL_sm hB ks h.2.2.2.1.2⟩
theorem TExpr.okL_sm {B : Nat} (hB : B < 4294967281) : ∀ l : List TExpr, TExpr.okL B l → TExpr.smL l
  | [] => fun h => by rw [TExpr.smL]; trivial
  | x :: xs => fun h => by
    rw [TExpr.okL] at h
    rw [TExpr.smL]
    exact ⟨TExpr.ok_sm hB x h.1, TExpr.okL_sm hB xs h.2⟩
end
end
theorem TExpr.ok_vals {B : Nat} {x : TExpr} (h : x.ok B) : x.gValues.length ≤ B := by
  cases x with
  | mk op k nm vs ks => rw [TExpr.ok] at h; exact h.2.2.1.1
end Go.Proofs.YtjhbobacbaikoaaGreatDoor
/- What the listed package variables hold. -/
namespace Go.Proofs.YtjhbobacbaikoaaGreatDoor
open Go Go.ChangeShapes Go.WideShapes Go.RowKit
set_option linter.unusedVariables false
set_option maxRecDepth 100000
/-! ## the package variables -/
def tabsT (u8 u9 : TypeId) (v8 v9 : Value) : List (Nat × List AV) :=
  [(3, cl_u8 gl_asciiSpace), (4, cl_u8 gl_first), (5, TacceptRange.cl gl_acceptRanges), (10, cl_u64 gl_pow10), (8, [.val (.iface u8 v8)]), (9, [.val (.iface u9 v9)])]
theorem globT (u8 u9 : TypeId) (v8 v9 : Value) : GlobT (genv (tabsT u8 u9 v8 v9)) :=
  ⟨rfl, rfl, rfl, rfl, ⟨u8, v8, rfl⟩, ⟨u9, v9, rfl⟩⟩
theorem laid_holdsT {W : World} {l : List (String × DataW Unit)} (hL : laidMetH Tryz.prog l W) (hp : (l.all fun x => x.2.handleName?.isNone) = true) {i3 i4 i5 i10 : Nat}
    (h3 : l[i3]? = some ("strings.asciiSpace", Rows.laid_strings_asciiSpace)) (h4 : l[i4]? = some ("unicode/utf8.first", Rows.laid_unicode_utf8_first))
    (h5 : l[i5]? = some ("unicode/utf8.acceptRanges", Rows.laid_unicode_utf8_acceptRanges))
    (h10 : l[i10]? = some ("internal/strconv.uint64pow10", Rows.laid_internal_strconv_uint64pow10)) {u8 u9 : TypeId} {v8 v9 : Value} (r8 : AV.rel (c0 W) (.rop [.val (.iface u8 v8)]) (.pointer (some ⟨8, 0, none⟩))) (r9 : AV.rel (c0 W) (.rop [.val (.iface u9 v9)]) (.pointer (some ⟨9, 0, none⟩))) :
    ∀ p ∈ tabsT u8 u9 v8 v9, scL 0 p.2 ∧ AV.rel (c0 W) (.rop p.2) (.pointer (some ⟨p.1, 0, none⟩)) := by
  unfold tabsT
  simp only [List.forall_mem_cons]
  refine ⟨⟨scl_cl_u8 _ _, ?_⟩, ⟨scl_cl_u8 _ _, ?_⟩, ⟨scl_TacceptRange_cl _ _, ?_⟩, ⟨scl_cl_u64 _ _, ?_⟩, ⟨⟨trivial, trivial⟩, r8⟩, ⟨⟨trivial, trivial⟩, r9⟩, by simp⟩
  · exact rop_laid hL hp h3 (t := 179) (by kernel_rfl) (by kernel_rfl) (fun fuel cs p h => trod_tab cs_u8 (fun a => .lit (.int .u8 a)) gl_asciiSpace Tryz.underlying179 (sz := 1) (by kernel_rfl) h (by kernel_rfl) (by kernel_rfl) (fun m vs y a h hy => trod_lit_int Tryz.underlying5 h hy)) (by kernel_rfl)
  · exact rop_laid hL hp h4 (t := 179) (by kernel_rfl) (by kernel_rfl) (fun fuel cs p h => trod_tab cs_u8 (fun a => .lit (.int .u8 a)) gl_first Tryz.underlying179 (sz := 1) (by kernel_rfl) h (by kernel_rfl) (by kernel_rfl) (fun m vs y a h hy => trod_lit_int Tryz.underlying5 h hy)) (by kernel_rfl)
  · refine rop_laid hL hp h5 (t := 185) (by kernel_rfl) (by kernel_rfl) (fun fuel cs p h => trod_tab TacceptRange.cs (fun a => .agg [.lit (.int .u8 a.glo), .lit (.int .u8 a.ghi)]) gl_acceptRanges Tryz.underlying185 (sz := 2) (by kernel_rfl) h (by kernel_rfl) (by kernel_rfl) ?_) (by kernel_rfl)
    intro m vs y a h hy
    obtain ⟨xs, m, rfl, rfl, hl, hlen, hget⟩ := DataW.trod_struct Tryz.underlying184 h
    have hl : vs.length = 2 := hl.trans (by kernel_rfl)
    match xs, hlen with
    | [x0, x1], _ =>
      have e0 := hget 0 _ rfl
      have e1 := hget 1 _ rfl
      simp only [List.map_cons, List.map_nil, DataW.agg.injEq, List.cons.injEq, and_true] at hy
      have c5 : Tryz.prog.cellsOf 5 = 1 := by kernel_rfl
      change DataW.trod _ _ _ _ _ _ _ 5 ((vs.drop 0).take (Tryz.prog.cellsOf 5)) = some x0 at e0
      change DataW.trod _ _ _ _ _ _ _ 5 ((vs.drop 1).take (Tryz.prog.cellsOf 5)) = some x1 at e1
      rw [c5] at e0 e1
      have r0 := trod_lit_int (P := Tryz.prog) (W := W) Tryz.underlying5 e0 hy.1
      have r1 := trod_lit_int (P := Tryz.prog) (W := W) Tryz.underlying5 e1 hy.2
      exact rel_piece (o := 0) (n := 1) r0 (rel_piece (o := 1) (n := 1) r1 (rel_end hl))
  · exact rop_laid hL hp h10 (t := 300) (by kernel_rfl) (by kernel_rfl) (fun fuel cs p h => trod_tab cs_u64 (fun a => .lit (.int .u64 a)) gl_pow10 Tryz.underlying300 (sz := 1) (by kernel_rfl) h (by kernel_rfl) (by kernel_rfl) (fun m vs y a h hy => trod_lit_int Tryz.underlying215 h hy)) (by kernel_rfl)
theorem laid_env {W : World} {l : List (String × DataW Unit)} (hL : laidMetH Tryz.prog l W) (hp : (l.all fun x => x.2.handleName?.isNone) = true) {i3 i4 i5 i8 i9 i10 : Nat}
    (h3 : l[i3]? = some ("strings.asciiSpace", Rows.laid_strings_asciiSpace)) (h4 : l[i4]? = some ("unicode/utf8.first", Rows.laid_unicode_utf8_first))
    (h5 : l[i5]? = some ("unicode/utf8.acceptRanges", Rows.laid_unicode_utf8_acceptRanges)) (h8 : l[i8]? = some ("strconv.ErrSyntax", Rows.laid_strconv_ErrSyntax)) (h9 : l[i9]? = some ("strconv.ErrRange", Rows.laid_strconv_ErrRange))
    (h10 : l[i10]? = some ("internal/strconv.uint64pow10", Rows.laid_internal_strconv_uint64pow10)) : ∃ E : Env, E.holds (c0 W) ∧ GlobT E := by
  obtain ⟨u8, v8, r8⟩ := iface_laid hL hp h8 (g := 8) (t := 219) (by kernel_rfl) (by kernel_rfl) Tryz.underlying219
  obtain ⟨u9, v9, r9⟩ := iface_laid hL hp h9 (g := 9) (t := 219) (by kernel_rfl) (by kernel_rfl) Tryz.underlying219
  refine ⟨genv (tabsT u8 u9 v8 v9), ?_, globT _ _ _ _⟩
  exact laid_holdsT hL hp h3 h4 h5 h10 r8 r9
end Go.Proofs.YtjhbobacbaikoaaGreatDoor
/- Arguments that are no structs, read as Lean values; the tables of the drawn texts. -/
namespace Go.Proofs.YtjhbobacbaikoaaGreatDoor
open Go Go.ChangeShapes Go.WideShapes Go.RowKit
set_option linter.unusedVariables false
set_option maxRecDepth 100000
section
variable {H : Type} {enc : TypeId × Value → H} {P : Program} {W : World} {B : Nat} {Fit : DataW H → Prop}
theorem Rd_intR {n : Nat} {t : TypeId} {k : IntKind} (ht : P.underlying t = some (.int k)) : Rd enc P W Fit n t (fun x : Int => [iK k x]) (fun x => k.min ≤ x ∧ x ≤ k.max) := by
  intro vs x h _
  obtain ⟨m, rfl, _, hw⟩ := DataW.trod_int ht h
  refine ⟨m, ⟨_, _, rfl, rfl, rfl⟩, ?_⟩
  simpa [Lit.wf] using hw
theorem Rd_u8 {n : Nat} {t : TypeId} (ht : P.underlying t = some (.int .u8)) : Rd enc P W Fit n t cs_u8 (fun x => 0 ≤ x ∧ x ≤ 255) := by
  intro vs x h hf
  obtain ⟨m, r, h1, h2⟩ := Rd_intR ht vs x h hf
  exact ⟨m, r, by have e : IntKind.min .u8 = 0 := rfl; omega, by have e : IntKind.max .u8 = 255 := rfl; omega⟩
theorem one_rel {c : Cx} {a : AV} {v : Value} (h : v.cells = #[v]) (hr : AV.relL c [a] v.cells.toList) : AV.rel c a v := by
  rw [h] at hr
  obtain ⟨x, xs, e, h1, _⟩ := hr
  cases e
  exact h1
theorem slice_rel {t e : TypeId} {r : Reach} {base : Nat} {v : Value} {c : Cx} {a : AV} (ht : P.underlying t = some (.slice e)) (h : Value.okWide P W r base t v) (hr : AV.relL c [a] v.cells.toList) : AV.rel c a v := by
  obtain ⟨b, l, k, rfl⟩ := okWide_slice ht h
  exact one_rel rfl hr
theorem int_rel {t : TypeId} {k : IntKind} {r : Reach} {base : Nat} {v : Value} {c : Cx} {a : AV} (ht : P.underlying t = some (.int k)) (h : Value.okWide P W r base t v) (hr : AV.relL c [a] v.cells.toList) : AV.rel c a v := by
  obtain ⟨b, rfl⟩ := okWide_int ht h
  exact one_rel rfl hr
theorem bool_rel {t : TypeId} {r : Reach} {base : Nat} {v : Value} {c : Cx} {a : AV} (ht : P.underlying t = some .bool) (h : Value.okWide P W r base t v) (hr : AV.relL c [a] v.cells.toList) : AV.rel c a v := by
  obtain ⟨b, rfl⟩ := okWide_bool ht h
  exact one_rel rfl hr
theorem trod_lit_str {sp : Nat → Bool} {held : Bool} {m : Nat} {e : TypeId} (he : P.underlying e = some .string) {vs : List Value} {y : DataW H × List MemPlace} {a : ByteArray}
    (h : DataW.trod enc P W 0 sp held m e vs = some y) (hy : y.1 = .lit (.string a.data.toList)) : AV.relL (c0 W) [sA a] vs := by
  obtain ⟨s, rfl, rfl, _⟩ := DataW.trod_string he h
  have e : s.data.toList = a.data.toList := by simpa using hy
  have : s = a := by
    cases s; cases a
    simp only [ByteArray.mk.injEq]
    exact Array.ext' e
  subst this
  exact ⟨_, _, rfl, rfl, rfl⟩
theorem trod_sl_tab {α : Type} {sp : Nat → Bool} {held : Bool} {m : Nat} {t e : TypeId} {sz : Nat} {vs : List Value} {y : DataW H × List MemPlace} (f : α → List AV) (gd : α → DataW H) (l : List α) {rs : List (DataW H)}
    (ht : P.underlying t = some (.slice e)) (hsz : P.cellsOf e = sz) (h : DataW.trod enc P W 0 sp held m t vs = some y) (hy : y.1 = .slice (l.map gd) rs) (h1 : ∀ x, (f x).all AV.one = true)
    (he : ∀ m vs y a, DataW.trod enc P W 0 sp held m e vs = some y → y.1 = gd a → AV.relL (c0 W) (f a) vs) : AV.relL (c0 W) [.ro .unk l.length (l.flatMap f)] vs := by
  rcases DataW.trod_slice ht h with ⟨rfl, rfl⟩ | ⟨a, len, cap, elems, rest, m, rfl, rfl, rfl, _, hlc, hcm, hel, hget, _, _⟩
  · cases hy
  rw [hsz] at hget
  have hm : elems.map (·.1) = l.map gd := by
    have := hy
    simp only [DataW.slice.injEq] at this
    exact this.1
  have hll : l.length = len := by rw [← hel]; simpa using (congrArg List.length hm).symm
  have key : ∀ k, k ≤ len → ∃ us : List Value, us.length = k * sz ∧ AV.relL (c0 W) ((l.take k).flatMap f) us ∧ ∀ j u, us[j]? = some u → W.cell? (a.add j) = some u := by
    intro k
    induction k with
    | zero => intro _; exact ⟨[], by simp, rfl, by simp⟩
    | succ k ih =>
      intro hk
      obtain ⟨us, e2, e3, e5⟩ := ih (by omega)
      have hkl : k < l.length := by omega
      have hk' : k < elems.length := by omega
      have := hget k (by omega)
      rw [List.getElem?_eq_getElem hk'] at this
      obtain ⟨cv, c1, c2⟩ := Option.bind_eq_some_iff.1 this
      obtain ⟨l1, l2⟩ := cells_get c1
      have e1 : (elems[k]).1 = gd l[k] := by
        have := congrArg (fun z => z[k]?) hm
        simpa [hkl, hk'] using this
      have r1 := he _ _ _ _ c2 e1
      refine ⟨us ++ cv, by rw [List.length_append, e2, l1, Nat.succ_mul], ?_, ?_⟩
      · rw [List.take_succ_eq_append_getElem hkl, List.flatMap_append]
        exact relL_append e3 (by simpa using r1)
      · intro j u hj
        by_cases hjl : j < us.length
        · rw [List.getElem?_append_left hjl] at hj
          exact e5 j u hj
        · rw [List.getElem?_append_right (by omega)] at hj
          have := l2 _ _ hj
          rw [add_add] at this
          rw [← this]
          congr 2; omega
  obtain ⟨us, e2, e3, e5⟩ := key len (Nat.le_refl _)
  rw [← hll, List.take_length] at e3
  refine ⟨_, _, rfl, ⟨some a, cap, us, by rw [hll], ⟨by rw [hll]; exact hlc, hcm, fun h => by cases h⟩, e3, ?_, ?_⟩, rfl⟩
  · rw [List.all_eq_true]
    intro z hz
    obtain ⟨y, hy, hz⟩ := List.mem_flatMap.1 hz
    exact List.all_eq_true.1 (h1 y) z hz
  · cases hus : us with
    | nil => exact .inl rfl
    | cons u0 ut =>
      refine .inr ⟨a, rfl, fun j hj => ?_, by rw [← hus]; exact e5⟩
      rw [← hus] at hj
      have hc := e5 j (us[j]) (List.getElem?_eq_getElem hj)
      have := cell_lt hc
      rw [add_block] at this
      exact still0 this
end
/-! ## the tables of the drawn texts -/
def tabsD (u8 u9 : TypeId) (v8 v9 : Value) : List (Nat × List AV) := (0, cl_str gl_versions) :: (1, cl_l_cl_str gl_lists) :: (2, cl_str gl_texts) :: tabsT u8 u9 v8 v9
theorem globD (u8 u9 : TypeId) (v8 v9 : Value) : GlobD (genv (tabsD u8 u9 v8 v9)) where
  g3 := rfl
  g4 := rfl
  g5 := rfl
  g10 := rfl
  g8 := ⟨u8, v8, rfl⟩
  g9 := ⟨u9, v9, rfl⟩
  g0 := rfl
  g1 := rfl
  g2 := rfl
def strD {H : Type} (a : ByteArray) : DataW H := .lit (.string a.data.toList)
theorem laid_envD {W : World} {l : List (String × DataW Unit)} (hL : laidMetH Tryz.prog l W) (hp : (l.all fun x => x.2.handleName?.isNone) = true) {i0 i1 i2 i3 i4 i5 i8 i9 i10 : Nat}
    (h0 : l[i0]? = some ("flagstone/flagstonedraw.versions", Rows.laid_flagstone_flagstonedraw_versions)) (h1 : l[i1]? = some ("flagstone/flagstonedraw.lists", Rows.laid_flagstone_flagstonedraw_lists)) (h2 : l[i2]? = some ("flagstone/flagstonedraw.texts", Rows.laid_flagstone_flagstonedraw_texts))
    (h3 : l[i3]? = some ("strings.asciiSpace", Rows.laid_strings_asciiSpace)) (h4 : l[i4]? = some ("unicode/utf8.first", Rows.laid_unicode_utf8_first))
    (h5 : l[i5]? = some ("unicode/utf8.acceptRanges", Rows.laid_unicode_utf8_acceptRanges)) (h8 : l[i8]? = some ("strconv.ErrSyntax", Rows.laid_strconv_ErrSyntax)) (h9 : l[i9]? = some ("strconv.ErrRange", Rows.laid_strconv_ErrRange))
    (h10 : l[i10]? = some ("internal/strconv.uint64pow10", Rows.laid_internal_strconv_uint64pow10)) : ∃ E : Env, E.holds (c0 W) ∧ GlobD E := by
  obtain ⟨u8, v8, r8⟩ := iface_laid hL hp h8 (g := 8) (t := 219) (by kernel_rfl) (by kernel_rfl) Tryz.underlying219
  obtain ⟨u9, v9, r9⟩ := iface_laid hL hp h9 (g := 9) (t := 219) (by kernel_rfl) (by kernel_rfl) Tryz.underlying219
  have hT := laid_holdsT hL hp h3 h4 h5 h10 r8 r9
  refine ⟨genv (tabsD u8 u9 v8 v9), ?_, globD _ _ _ _⟩
  show ∀ p ∈ tabsD u8 u9 v8 v9, _
  unfold tabsD
  rw [List.forall_mem_cons, List.forall_mem_cons, List.forall_mem_cons]
  refine ⟨⟨scl_cl_str _ _, ?_⟩, ⟨scl_cl_l_cl_str _ _, ?_⟩, ⟨scl_cl_str _ _, ?_⟩, hT⟩
  · exact rop_laid hL hp h0 (t := 156) (by kernel_rfl) (by kernel_rfl) (fun fuel cs p h => trod_tab cs_str strD gl_versions Tryz.underlying156 (sz := 1) (by kernel_rfl) h (by kernel_rfl) (by kernel_rfl) (fun m vs y a h hy => trod_lit_str Tryz.underlying9 h hy)) (by kernel_rfl)
  · exact rop_laid hL hp h1 (t := 157) (by kernel_rfl) (by kernel_rfl) (fun fuel cs p h => trod_tab cs_l_cs_str (fun l => .slice (l.map strD) []) gl_lists Tryz.underlying157 (sz := 1) (by kernel_rfl) h (by kernel_rfl) (by kernel_rfl)
      (fun m vs y a h hy => trod_sl_tab cs_str strD a Tryz.underlying32 (sz := 1) (by kernel_rfl) h hy (fun _ => rfl) (fun m vs y a h hy => trod_lit_str Tryz.underlying9 h hy))) (by kernel_rfl)
  · exact rop_laid hL hp h2 (t := 158) (by kernel_rfl) (by kernel_rfl) (fun fuel cs p h => trod_tab cs_str strD gl_texts Tryz.underlying158 (sz := 1) (by kernel_rfl) h (by kernel_rfl) (by kernel_rfl) (fun m vs y a h hy => trod_lit_str Tryz.underlying9 h hy)) (by kernel_rfl)
end Go.Proofs.YtjhbobacbaikoaaGreatDoor
/- A function of the program as a pure function, and that the program computes it. -/
namespace Go.Proofs.YtjhbobacbaikoaaGreatDoor
open Go
set_option linter.unusedVariables false
set_option linter.unusedSimpArgs false
set_option maxRecDepth 100000
def p_ref6_walk_L1 (n : Nat) (self_p_ref6_walk : TExpr → Int → Int → Option (Int × Int)) (x0 : TExpr) (x1 : Int) (v15 : Int) (v16 : Int) : Option (Int × Int) := match n with
| 0 => none
| n + 1 =>
(bif decide (v15 < (lI x0.gKids)) then
(rdO x0.gKids v15).bind fun v18 =>
(self_p_ref6_walk v18 (w64 (x1 + 1)) v16).bind fun v19 =>
(bif v19.1 != 0 then
 some (v19.1, v19.2)
 else
 p_ref6_walk_L1 n self_p_ref6_walk x0 x1 (w64 (v15 + 1)) v19.2)
 else
 some (0, v16))
def p_ref6_walk_F (self_p_ref6_walk : TExpr → Int → Int → Option (Int × Int)) (n : Nat) (x0 : TExpr) (x1 : Int) (x2 : Int) : Option (Int × Int) :=
(bif decide (x2 ≥ 60) then
 some (5, x2)
 else
(bif decide (x1 > 10) then
 some (18, w64 (x2 + 1))
 else
(p_ref6_part n x0).bind fun v3 =>
(bif v3 != 0 then
 some (v3, w64 (x2 + 1))
 else
 p_ref6_walk_L1 n self_p_ref6_walk x0 x1 0 (w64 (x2 + 1)))))
def p_ref6_walk (n : Nat) (x0 : TExpr) (x1 : Int) (x2 : Int) : Option (Int × Int) := match n with
| 0 => none
| n + 1 => p_ref6_walk_F (p_ref6_walk n) n x0 x1 x2
variable {E : Env}
theorem s_ref6_walk_F (hG : GlobT E) {self_p_ref6_walk : TExpr → Int → Int → Option (Int × Int)} (hself_ref6_walk : ∀ {x0 : TExpr}, ∀ {x1 : Int}, ∀ {x2 : Int}, ∀ {r : Int × Int}, self_p_ref6_walk x0 x1 x2 = some r → Sp Tryz.prog E 53 [.agg (TExpr.cs x0), iA x1, .ptr 0 0] [.cells 3 [iA x2]] (isA (iA r.1) [.cells 3 [iA r.2]])) {n : Nat} {x0 : TExpr} {x1 : Int} {x2 : Int} {r : Int × Int} (H : p_ref6_walk_F self_p_ref6_walk n x0 x1 x2 = some r) :
    Sp Tryz.prog E 53 [.agg (TExpr.cs x0), iA x1, .ptr 0 0] [.cells 3 [iA x2]] (isA (iA r.1) [.cells 3 [iA r.2]]) := by
  unfold p_ref6_walk_F at H
  refine Sp_fn Tryz.func53 rfl (fun hc hs => ?_)
  refine AWP_reg (R 2 45 [(1, iA x1), (2, .ptr 0 0), (3, .ptr 1 0)] [.cells 25 (TExpr.cs x0), .cells 3 [iA x2]] (AOps_done (AWP_seq (AWP_reg (Rh 4 45 [(1, iA x1), (2, .ptr 0 0), (3, .ptr 1 0), (13, bA (decide (x2 ≥ 60)))] (AOps_done (CD H (fun hb1 H => ?_) (fun hb1 H => ?_))))))))
  · refine AWP_reg (Rh 1 45 [(6, iA 5)] (AOps_done (AWP_ret ?_)))
    have hr := Option.some.inj H
    subst hr
    exact Fin_retn 1 (l := [iA 5]) (h' := [.cells 3 [iA x2]]) (by kernel_rfl) rfl (Nat.le_of_ble_eq_true rfl) ((by refine Closed_of ?_; exact ⟨⟨trivial, trivial⟩, trivial⟩)) (Frz_sc trivial) ⟨rfl, rfl⟩
  · refine AWP_skip ?_
    show AWP _ _ _ _ _ _ _
    refine AWP_reg (R 6 45 [(1, iA x1), (2, .ptr 0 0), (3, .ptr 1 0)] [.cells 25 (TExpr.cs x0), .cells 3 [iA (w64 (x2 + 1))]] (AOps_done (AWP_seq (AWP_reg (Rh 2 45 [(1, iA x1), (2, .ptr 0 0), (3, .ptr 1 0), (20, bA (decide (x1 > 10)))] (AOps_done (CD H (fun hb2 H => ?_) (fun hb2 H => ?_))))))))
    · refine AWP_reg (Rh 1 45 [(6, iA 18)] (AOps_done (AWP_ret ?_)))
      have hr := Option.some.inj H
      subst hr
      exact Fin_retn 1 (l := [iA 18]) (h' := [.cells 3 [iA (w64 (x2 + 1))]]) (by kernel_rfl) rfl (Nat.le_of_ble_eq_true rfl) ((by refine Closed_of ?_; exact ⟨⟨trivial, trivial⟩, trivial⟩)) (Frz_sc trivial) ⟨rfl, rfl⟩
    · refine AWP_skip ?_
      show AWP _ _ _ _ _ _ _
      refine AWP_seq (AWP_reg (Rh 1 45 [(1, iA x1), (2, .ptr 0 0), (3, .ptr 1 0), (21, .agg (TExpr.cs x0))] ?_))
      obtain ⟨v3, hv3, H⟩ := bind_some H
      refine AOps_callp (d := (some 22)) (al := [.agg (TExpr.cs x0)]) (r := iA v3) (by kernel_rfl) (s_ref6_part hG hv3) ⟨(sc_TExpr_cs _ _), trivial⟩ trivial ?_
      refine Rh 1 45 [(1, iA x1), (2, .ptr 0 0), (3, .ptr 1 0), (7, iA v3)] (AOps_done (AWP_reg (Rh 2 45 [(1, iA x1), (2, .ptr 0 0), (3, .ptr 1 0), (7, iA v3), (24, bA (v3 != 0))] (AOps_done (CD H (fun hb4 H => ?_) (fun hb4 H => ?_))))))
      · refine AWP_reg (Rh 2 45 [(6, iA v3)] (AOps_done (AWP_ret ?_)))
        have hr := Option.some.inj H
        subst hr
        exact Fin_retn 1 (l := [iA v3]) (h' := [.cells 3 [iA (w64 (x2 + 1))]]) (by kernel_rfl) rfl (Nat.le_of_ble_eq_true rfl) ((by refine Closed_of ?_; exact ⟨⟨trivial, trivial⟩, trivial⟩)) (Frz_sc trivial) ⟨rfl, rfl⟩
      · refine AWP_skip ?_
        show AWP _ _ _ _ _ _ _
        refine AWP_seq (AWP_reg (Rh 1 45 [(1, iA x1), (2, .ptr 0 0), (3, .ptr 1 0), (8, iA 0)] (AOps_done (AWP_block ?_))))
        refine AWP_loopN (α := Int × Int) (fun ⟨v15, v16⟩ => fr 45 [(1, iA x1), (2, .ptr 0 0), (3, .ptr 1 0), (8, iA v15)]) (fun ⟨v15, v16⟩ => [.cells 25 (TExpr.cs x0), .cells 3 [iA v16]]) (fun k_ ⟨v15, v16⟩ => k_ ≤ n ∧ p_ref6_walk_L1 k_ self_p_ref6_walk x0 x1 v15 v16 = some r) (fun n a H => ?_) (k := n) (0, w64 (x2 + 1)) ⟨Nat.le_refl _, H⟩ (Norm_fd [1, 2, 3, 8] 0 (by kernel_rfl) rfl rfl ⟨(sc_TExpr_cs _ _), ⟨trivial, trivial⟩, trivial⟩ (by refine scL_fr ?_; exact ⟨trivial, (sc_ptr rfl), (sc_ptr rfl), trivial, trivial⟩))
        obtain ⟨v15, v16⟩ := a
        show AWP _ _ _ _ _ (fr 45 [(1, iA x1), (2, .ptr 0 0), (3, .ptr 1 0), (8, iA v15)]) [.cells 25 (TExpr.cs x0), .cells 3 [iA v16]]
        obtain ⟨hb_, H⟩ := H
        replace H : p_ref6_walk_L1 n self_p_ref6_walk x0 x1 v15 v16 = some r := H
        cases n with
        | zero => exact not_none (by simpa only [p_ref6_walk_L1] using H)
        | succ n =>
          unfold p_ref6_walk_L1 at H
          refine AWP_seq (AWP_reg (Rh 5 45 [(1, iA x1), (2, .ptr 0 0), (3, .ptr 1 0), (8, iA v15), (30, bA (decide (v15 < (lI x0.gKids))))] (AOps_done (CD H (fun hb17 H => ?_) (fun hb17 H => ?_)))))
          · refine AWP_skip ?_
            show AWP _ _ _ _ _ _ _
            refine AWP_seq (AWP_block ?_)
            refine AWP_reg (Rh 3 45 [(1, iA x1), (2, .ptr 0 0), (3, .ptr 1 0), (8, iA v15), (34, .ro .unk x0.gKids.length (TExpr.cl x0.gKids)), (35, iA v15)] ?_)
            obtain ⟨v18, hv18, H⟩ := bind_some H
            refine AOps_index (d := (some 36)) (sz := 5) (c := TExpr.cs) (by kernel_rfl) rfl (eq_TExpr_cl _) (fun _ => rfl) (by decide) hv18 (fun tl18 => ?_)
            refine Rh 4 45 [(1, iA x1), (2, .ptr 0 0), (3, .ptr 1 0), (8, iA v15), (37, .agg (TExpr.cs v18)), (39, iA (w64 (x1 + 1))), (40, .ptr 0 0)] ?_
            obtain ⟨v19, hv19, H⟩ := bind_some H
            refine AOps_call1 (d := (some 41)) (al := [.agg (TExpr.cs v18), iA (w64 (x1 + 1)), .ptr 0 0]) ([.agg (TExpr.cs v18), iA (w64 (x1 + 1)), .ptr 0 0]) (r := iA v19.1) (j := 0) (b' := .cells 3 [iA v19.2]) (by kernel_rfl) rfl (hself_ref6_walk hv19) (⟨trivial, trivial⟩) (⟨trivial, trivial⟩) ⟨(sc_TExpr_cs _ _), trivial, Nat.zero_lt_one, trivial⟩ trivial rfl (h' := [.cells 25 (TExpr.cs x0), .cells 3 [iA v19.2]]) rfl ?_
            refine Rh 1 45 [(1, iA x1), (2, .ptr 0 0), (3, .ptr 1 0), (8, iA v15), (9, iA v19.1)] (AOps_done (AWP_reg (Rh 2 45 [(1, iA x1), (2, .ptr 0 0), (3, .ptr 1 0), (8, iA v15), (9, iA v19.1), (43, bA (v19.1 != 0))] (AOps_done (CD H (fun hb20 H => ?_) (fun hb20 H => ?_))))))
            · refine AWP_reg (Rh 2 45 [(6, iA v19.1)] (AOps_done (AWP_ret ?_)))
              have hr := Option.some.inj H
              subst hr
              exact Fin_retn 1 (l := [iA v19.1]) (h' := [.cells 3 [iA v19.2]]) (by kernel_rfl) rfl (Nat.le_of_ble_eq_true rfl) ((by refine Closed_of ?_; exact ⟨⟨trivial, trivial⟩, trivial⟩)) (Frz_sc trivial) ⟨rfl, rfl⟩
            · refine AWP_skip ?_
              show AWP _ _ _ _ _ _ _
              refine AWP_region ?_
              refine Rh 3 45 [(1, iA x1), (2, .ptr 0 0), (3, .ptr 1 0), (8, iA (w64 (v15 + 1)))] (AOps_done ?_)
              exact Exists.intro (w64 (v15 + 1), v19.2) (Exists.intro n ⟨by omega, ⟨by omega, H⟩, Norm_fd [1, 2, 3, 8] 0 (by kernel_rfl) rfl rfl ⟨(sc_TExpr_cs _ _), ⟨trivial, trivial⟩, trivial⟩ (by refine scL_fr ?_; exact ⟨trivial, (sc_ptr rfl), (sc_ptr rfl), trivial, trivial⟩)⟩)
          · refine AWP_exit ?_
            show AWP _ _ _ _ _ _ _
            refine AWP_reg (Rh 1 45 [(6, iA 0)] (AOps_done (AWP_ret ?_)))
            have hr := Option.some.inj H
            subst hr
            exact Fin_retn 1 (l := [iA 0]) (h' := [.cells 3 [iA v16]]) (by kernel_rfl) rfl (Nat.le_of_ble_eq_true rfl) ((by refine Closed_of ?_; exact ⟨⟨trivial, trivial⟩, trivial⟩)) (Frz_sc trivial) ⟨rfl, rfl⟩
theorem s_all_ref6_walk (hG : GlobT E) : ∀ n : Nat, (∀ {x0 : TExpr}, ∀ {x1 : Int}, ∀ {x2 : Int}, ∀ {r : Int × Int}, p_ref6_walk n x0 x1 x2 = some r → Sp Tryz.prog E 53 [.agg (TExpr.cs x0), iA x1, .ptr 0 0] [.cells 3 [iA x2]] (isA (iA r.1) [.cells 3 [iA r.2]])) := by
  intro n
  induction n with
  | zero => exact fun H => not_none (by simpa only [p_ref6_walk] using H)
  | succ n ih => exact fun H => s_ref6_walk_F hG ih (by simpa only [p_ref6_walk] using H)
theorem s_ref6_walk {n : Nat} (hG : GlobT E) {x0 : TExpr} {x1 : Int} {x2 : Int} {r : Int × Int} (H : p_ref6_walk n x0 x1 x2 = some r) :
    Sp Tryz.prog E 53 [.agg (TExpr.cs x0), iA x1, .ptr 0 0] [.cells 3 [iA x2]] (isA (iA r.1) [.cells 3 [iA r.2]]) := (s_all_ref6_walk hG n) H
end Go.Proofs.YtjhbobacbaikoaaGreatDoor
/- A function of the program as a pure function, and that the program computes it. -/
namespace Go.Proofs.YtjhbobacbaikoaaGreatDoor
open Go
set_option linter.unusedVariables false
set_option linter.unusedSimpArgs false
set_option maxRecDepth 100000
def p_ref6_Expr (n : Nat) (x0 : TExpr) : Option Int :=
(p_ref6_walk n x0 1 0).bind fun v1 =>
 some (v1.1)
variable {E : Env}
theorem s_ref6_Expr {n : Nat} (hG : GlobT E) {x0 : TExpr} {r : Int} (H : p_ref6_Expr n x0 = some r) :
    Sp Tryz.prog E 16 [.agg (TExpr.cs x0)] [] (isA (iA r) []) := by
  unfold p_ref6_Expr at H
  refine Sp_fn Tryz.func16 rfl (fun hc hs => ?_)
  refine AWP_reg (R 2 6 [(1, .ptr 0 0)] [.cells 25 (TExpr.cs x0)] (AOps_done (AWP_reg (R 2 6 [(1, .ptr 0 0), (3, .ptr 1 0)] [.cells 3 [iA 0], .cells 25 (TExpr.cs x0)] (AOps_done (AWP_reg (Rh 1 6 [(3, .ptr 1 0), (4, .agg (TExpr.cs x0))] ?_)))))))
  obtain ⟨v1, hv1, H⟩ := bind_some H
  refine AOps_call1 (d := (some 5)) (al := [.agg (TExpr.cs x0), iA 1, .ptr 0 0]) ([.agg (TExpr.cs x0), iA 1, .ptr 1 0]) (r := iA v1.1) (j := 1) (b' := .cells 3 [iA v1.2]) (by kernel_rfl) rfl (s_ref6_walk hG hv1) (⟨trivial, trivial⟩) (⟨trivial, trivial⟩) ⟨(sc_TExpr_cs _ _), trivial, Nat.zero_lt_one, trivial⟩ trivial rfl (h' := [.cells 3 [iA v1.2], .cells 25 (TExpr.cs x0)]) rfl ?_
  refine Rh 1 6 [(2, iA v1.1)] (AOps_done ?_)
  exact AWP_ret (FR H)
end Go.Proofs.YtjhbobacbaikoaaGreatDoor
/- A function of the program as a pure function, and that the program computes it. -/
namespace Go.Proofs.YtjhbobacbaikoaaGreatDoor
open Go
set_option linter.unusedVariables false
set_option linter.unusedSimpArgs false
set_option maxRecDepth 100000
def p_shape_expr_L1 (n : Nat) (self_p_shape_expr : TExpr → Int → Int → Option (Int × Int)) (x0 : TExpr) (x1 : Int) (v14 : Int) (v15 : Int) : Option (Int × Int) := match n with
| 0 => none
| n + 1 =>
(bif decide (v14 < (lI x0.gKids)) then
(rdO x0.gKids v14).bind fun v17 =>
(self_p_shape_expr v17 (w64 (x1 + 1)) v15).bind fun v18 =>
(bif v18.1 != 0 then
 some (v18.1, v18.2)
 else
 p_shape_expr_L1 n self_p_shape_expr x0 x1 (w64 (v14 + 1)) v18.2)
 else
 some (0, v15))
def p_shape_expr_F (self_p_shape_expr : TExpr → Int → Int → Option (Int × Int)) (n : Nat) (x0 : TExpr) (x1 : Int) (x2 : Int) : Option (Int × Int) :=
(bif decide (x2 ≥ 60) then
 some (5, x2)
 else
(p_shape_part n x0 x1).bind fun v2 =>
(bif v2 != 0 then
 some (v2, w64 (x2 + 1))
 else
 p_shape_expr_L1 n self_p_shape_expr x0 x1 0 (w64 (x2 + 1))))
def p_shape_expr (n : Nat) (x0 : TExpr) (x1 : Int) (x2 : Int) : Option (Int × Int) := match n with
| 0 => none
| n + 1 => p_shape_expr_F (p_shape_expr n) n x0 x1 x2
variable {E : Env}
theorem s_shape_expr_F (hG : GlobT E) {self_p_shape_expr : TExpr → Int → Int → Option (Int × Int)} (hself_shape_expr : ∀ {x0 : TExpr}, ∀ {x1 : Int}, ∀ {x2 : Int}, ∀ {r : Int × Int}, self_p_shape_expr x0 x1 x2 = some r → Sp Tryz.prog E 52 [.agg (TExpr.cs x0), iA x1, .ptr 0 0] [.cells 3 [iA x2]] (isA (iA r.1) [.cells 3 [iA r.2]])) {n : Nat} {x0 : TExpr} {x1 : Int} {x2 : Int} {r : Int × Int} (H : p_shape_expr_F self_p_shape_expr n x0 x1 x2 = some r) :
    Sp Tryz.prog E 52 [.agg (TExpr.cs x0), iA x1, .ptr 0 0] [.cells 3 [iA x2]] (isA (iA r.1) [.cells 3 [iA r.2]]) := by
  unfold p_shape_expr_F at H
  refine Sp_fn Tryz.func52 rfl (fun hc hs => ?_)
  refine AWP_reg (R 2 42 [(1, iA x1), (2, .ptr 0 0), (3, .ptr 1 0)] [.cells 25 (TExpr.cs x0), .cells 3 [iA x2]] (AOps_done (AWP_seq (AWP_reg (Rh 4 42 [(1, iA x1), (2, .ptr 0 0), (3, .ptr 1 0), (14, bA (decide (x2 ≥ 60)))] (AOps_done (CD H (fun hb1 H => ?_) (fun hb1 H => ?_))))))))
  · refine AWP_reg (Rh 1 42 [(6, iA 5)] (AOps_done (AWP_ret ?_)))
    have hr := Option.some.inj H
    subst hr
    exact Fin_retn 1 (l := [iA 5]) (h' := [.cells 3 [iA x2]]) (by kernel_rfl) rfl (Nat.le_of_ble_eq_true rfl) ((by refine Closed_of ?_; exact ⟨⟨trivial, trivial⟩, trivial⟩)) (Frz_sc trivial) ⟨rfl, rfl⟩
  · refine AWP_skip ?_
    show AWP _ _ _ _ _ _ _
    refine AWP_reg (R 6 42 [(1, iA x1), (2, .ptr 0 0), (3, .ptr 1 0)] [.cells 25 (TExpr.cs x0), .cells 3 [iA (w64 (x2 + 1))]] (AOps_done (AWP_seq (AWP_reg (Rh 2 42 [(1, iA x1), (2, .ptr 0 0), (3, .ptr 1 0), (20, .agg (TExpr.cs x0)), (21, iA x1)] ?_)))))
    obtain ⟨v2, hv2, H⟩ := bind_some H
    refine AOps_callp (d := (some 22)) (al := [.agg (TExpr.cs x0), iA x1]) (r := iA v2) (by kernel_rfl) (s_shape_part hG hv2) ⟨(sc_TExpr_cs _ _), trivial, trivial⟩ trivial ?_
    refine Rh 1 42 [(1, iA x1), (2, .ptr 0 0), (3, .ptr 1 0), (7, iA v2)] (AOps_done (AWP_reg (Rh 2 42 [(1, iA x1), (2, .ptr 0 0), (3, .ptr 1 0), (7, iA v2), (24, bA (v2 != 0))] (AOps_done (CD H (fun hb3 H => ?_) (fun hb3 H => ?_))))))
    · refine AWP_reg (Rh 2 42 [(6, iA v2)] (AOps_done (AWP_ret ?_)))
      have hr := Option.some.inj H
      subst hr
      exact Fin_retn 1 (l := [iA v2]) (h' := [.cells 3 [iA (w64 (x2 + 1))]]) (by kernel_rfl) rfl (Nat.le_of_ble_eq_true rfl) ((by refine Closed_of ?_; exact ⟨⟨trivial, trivial⟩, trivial⟩)) (Frz_sc trivial) ⟨rfl, rfl⟩
    · refine AWP_skip ?_
      show AWP _ _ _ _ _ _ _
      refine AWP_seq (AWP_reg (Rh 4 42 [(1, iA x1), (2, .ptr 0 0), (27, .ro .unk x0.gKids.length (TExpr.cl x0.gKids)), (28, iA (lI x0.gKids)), (29, iA 0)] (AOps_done (AWP_block ?_))))
      refine AWP_loopN (α := Int × Int) (fun ⟨v14, v15⟩ => fr 42 [(1, iA x1), (2, .ptr 0 0), (27, .ro .unk x0.gKids.length (TExpr.cl x0.gKids)), (28, iA (lI x0.gKids)), (29, iA v14)]) (fun ⟨v14, v15⟩ => [.cells 25 (TExpr.cs x0), .cells 3 [iA v15]]) (fun k_ ⟨v14, v15⟩ => k_ ≤ n ∧ p_shape_expr_L1 k_ self_p_shape_expr x0 x1 v14 v15 = some r) (fun n a H => ?_) (k := n) (0, w64 (x2 + 1)) ⟨Nat.le_refl _, H⟩ (Norm_fd [1, 2, 27, 28, 29] 0 (by kernel_rfl) rfl rfl ⟨(sc_TExpr_cs _ _), ⟨trivial, trivial⟩, trivial⟩ (by refine scL_fr ?_; exact ⟨trivial, (sc_ptr rfl), (scl_TExpr_cl _ _), trivial, trivial, trivial⟩))
      obtain ⟨v14, v15⟩ := a
      show AWP _ _ _ _ _ (fr 42 [(1, iA x1), (2, .ptr 0 0), (27, .ro .unk x0.gKids.length (TExpr.cl x0.gKids)), (28, iA (lI x0.gKids)), (29, iA v14)]) [.cells 25 (TExpr.cs x0), .cells 3 [iA v15]]
      obtain ⟨hb_, H⟩ := H
      replace H : p_shape_expr_L1 n self_p_shape_expr x0 x1 v14 v15 = some r := H
      cases n with
      | zero => exact not_none (by simpa only [p_shape_expr_L1] using H)
      | succ n =>
        unfold p_shape_expr_L1 at H
        refine AWP_reg (Rh 1 42 [(1, iA x1), (2, .ptr 0 0), (27, .ro .unk x0.gKids.length (TExpr.cl x0.gKids)), (28, iA (lI x0.gKids)), (29, iA v14), (30, bA (decide (v14 < (lI x0.gKids))))] (AOps_done (AWP_seq (CD H (fun hb16 H => ?_) (fun hb16 H => ?_)))))
        · refine AWP_skip ?_
          show AWP _ _ _ _ _ _ _
          refine AWP_seq (AWP_block ?_)
          refine AWP_reg ?_
          obtain ⟨v17, hv17, H⟩ := bind_some H
          refine AOps_index (d := (some 31)) (sz := 5) (c := TExpr.cs) (by kernel_rfl) rfl (eq_TExpr_cl _) (fun _ => rfl) (by decide) hv17 (fun tl17 => ?_)
          refine R 3 42 [(1, iA x1), (2, .ptr 0 0), (9, .ptr 2 0), (27, .ro .unk x0.gKids.length (TExpr.cl x0.gKids)), (28, iA (lI x0.gKids)), (29, iA v14)] [.cells 25 (TExpr.cs v17), .cells 25 (TExpr.cs x0), .cells 3 [iA v15]] (AOps_done (AWP_reg (Rh 4 42 [(1, iA x1), (2, .ptr 0 0), (27, .ro .unk x0.gKids.length (TExpr.cl x0.gKids)), (28, iA (lI x0.gKids)), (29, iA v14), (33, .agg (TExpr.cs v17)), (35, iA (w64 (x1 + 1))), (36, .ptr 0 0)] ?_)))
          obtain ⟨v18, hv18, H⟩ := bind_some H
          refine AOps_call1 (d := (some 37)) (al := [.agg (TExpr.cs v17), iA (w64 (x1 + 1)), .ptr 0 0]) ([.agg (TExpr.cs v17), iA (w64 (x1 + 1)), .ptr 0 0]) (r := iA v18.1) (j := 0) (b' := .cells 3 [iA v18.2]) (by kernel_rfl) rfl (hself_shape_expr hv18) (⟨trivial, trivial⟩) (⟨trivial, trivial⟩) ⟨(sc_TExpr_cs _ _), trivial, Nat.zero_lt_one, trivial⟩ trivial rfl (h' := [.cells 25 (TExpr.cs v17), .cells 25 (TExpr.cs x0), .cells 3 [iA v18.2]]) rfl ?_
          refine Rh 1 42 [(1, iA x1), (2, .ptr 0 0), (10, iA v18.1), (27, .ro .unk x0.gKids.length (TExpr.cl x0.gKids)), (28, iA (lI x0.gKids)), (29, iA v14)] (AOps_done (AWP_reg (Rh 2 42 [(1, iA x1), (2, .ptr 0 0), (10, iA v18.1), (27, .ro .unk x0.gKids.length (TExpr.cl x0.gKids)), (28, iA (lI x0.gKids)), (29, iA v14), (39, bA (v18.1 != 0))] (AOps_done (CD H (fun hb19 H => ?_) (fun hb19 H => ?_))))))
          · refine AWP_reg (Rh 2 42 [(6, iA v18.1)] (AOps_done (AWP_ret ?_)))
            have hr := Option.some.inj H
            subst hr
            exact Fin_retn 2 (l := [iA v18.1]) (h' := [.cells 3 [iA v18.2]]) (by kernel_rfl) rfl (Nat.le_of_ble_eq_true rfl) ((by refine Closed_of ?_; exact ⟨⟨trivial, trivial⟩, trivial⟩)) (Frz_sc trivial) ⟨rfl, rfl⟩
          · refine AWP_skip ?_
            show AWP _ _ _ _ _ _ _
            refine AWP_region ?_
            refine Rh 2 42 [(1, iA x1), (2, .ptr 0 0), (27, .ro .unk x0.gKids.length (TExpr.cl x0.gKids)), (28, iA (lI x0.gKids)), (29, iA (w64 (v14 + 1)))] (AOps_done ?_)
            exact Exists.intro (w64 (v14 + 1), v18.2) (Exists.intro n ⟨by omega, ⟨by omega, H⟩, Norm_fd [1, 2, 27, 28, 29] 1 (by kernel_rfl) rfl rfl ⟨(sc_TExpr_cs _ _), ⟨trivial, trivial⟩, trivial⟩ (by refine scL_fr ?_; exact ⟨trivial, (sc_ptr rfl), (scl_TExpr_cl _ _), trivial, trivial, trivial⟩)⟩)
        · refine AWP_exit ?_
          show AWP _ _ _ _ _ _ _
          refine AWP_reg (Rh 1 42 [(6, iA 0)] (AOps_done (AWP_ret ?_)))
          have hr := Option.some.inj H
          subst hr
          exact Fin_retn 1 (l := [iA 0]) (h' := [.cells 3 [iA v15]]) (by kernel_rfl) rfl (Nat.le_of_ble_eq_true rfl) ((by refine Closed_of ?_; exact ⟨⟨trivial, trivial⟩, trivial⟩)) (Frz_sc trivial) ⟨rfl, rfl⟩
theorem s_all_shape_expr (hG : GlobT E) : ∀ n : Nat, (∀ {x0 : TExpr}, ∀ {x1 : Int}, ∀ {x2 : Int}, ∀ {r : Int × Int}, p_shape_expr n x0 x1 x2 = some r → Sp Tryz.prog E 52 [.agg (TExpr.cs x0), iA x1, .ptr 0 0] [.cells 3 [iA x2]] (isA (iA r.1) [.cells 3 [iA r.2]])) := by
  intro n
  induction n with
  | zero => exact fun H => not_none (by simpa only [p_shape_expr] using H)
  | succ n ih => exact fun H => s_shape_expr_F hG ih (by simpa only [p_shape_expr] using H)
theorem s_shape_expr {n : Nat} (hG : GlobT E) {x0 : TExpr} {x1 : Int} {x2 : Int} {r : Int × Int} (H : p_shape_expr n x0 x1 x2 = some r) :
    Sp Tryz.prog E 52 [.agg (TExpr.cs x0), iA x1, .ptr 0 0] [.cells 3 [iA x2]] (isA (iA r.1) [.cells 3 [iA r.2]]) := (s_all_shape_expr hG n) H
end Go.Proofs.YtjhbobacbaikoaaGreatDoor
/- A function of the program as a pure function, and that the program computes it. -/
namespace Go.Proofs.YtjhbobacbaikoaaGreatDoor
open Go
set_option linter.unusedVariables false
set_option linter.unusedSimpArgs false
set_option maxRecDepth 100000
def p_shape_Expr (n : Nat) (x0 : TExpr) : Option Int :=
(p_shape_expr n x0 0 0).bind fun v1 =>
 some (v1.1)
variable {E : Env}
theorem s_shape_Expr {n : Nat} (hG : GlobT E) {x0 : TExpr} {r : Int} (H : p_shape_Expr n x0 = some r) :
    Sp Tryz.prog E 15 [.agg (TExpr.cs x0)] [] (isA (iA r) []) := by
  unfold p_shape_Expr at H
  refine Sp_fn Tryz.func15 rfl (fun hc hs => ?_)
  refine AWP_reg (R 2 6 [(1, .ptr 0 0)] [.cells 25 (TExpr.cs x0)] (AOps_done (AWP_reg (R 2 6 [(1, .ptr 0 0), (3, .ptr 1 0)] [.cells 3 [iA 0], .cells 25 (TExpr.cs x0)] (AOps_done (AWP_reg (Rh 1 6 [(3, .ptr 1 0), (4, .agg (TExpr.cs x0))] ?_)))))))
  obtain ⟨v1, hv1, H⟩ := bind_some H
  refine AOps_call1 (d := (some 5)) (al := [.agg (TExpr.cs x0), iA 0, .ptr 0 0]) ([.agg (TExpr.cs x0), iA 0, .ptr 1 0]) (r := iA v1.1) (j := 1) (b' := .cells 3 [iA v1.2]) (by kernel_rfl) rfl (s_shape_expr hG hv1) (⟨trivial, trivial⟩) (⟨trivial, trivial⟩) ⟨(sc_TExpr_cs _ _), trivial, Nat.zero_lt_one, trivial⟩ trivial rfl (h' := [.cells 3 [iA v1.2], .cells 25 (TExpr.cs x0)]) rfl ?_
  refine Rh 1 6 [(2, iA v1.1)] (AOps_done ?_)
  exact AWP_ret (FR H)
end Go.Proofs.YtjhbobacbaikoaaGreatDoor
/- Conditions: the program's Expr and the reference's Expr are alike. -/
namespace Go.Proofs.YtjhbobacbaikoaaGreatDoor
open Go
set_option linter.unusedVariables false
set_option linter.unusedSimpArgs false
/-- What is wrong with a part alone. -/
noncomputable def pv (x : TExpr) : Int := open Classical in if h : ∃ v, Al fun n => (∀ d : Int, p_shape_part n x d = if d ≥ 10 then some 18 else some v) ∧ p_ref6_part n x = some v then Classical.choose h else 0
theorem pv_al (x : TExpr) (hx : x.sm) : Al fun n => (∀ d : Int, p_shape_part n x d = if d ≥ 10 then some 18 else some (pv x)) ∧ p_ref6_part n x = some (pv x) := by
  have h := part_bi x hx
  have e : pv x = Classical.choose h := dif_pos h
  rw [e]
  exact Classical.choose_spec h
mutual
/-- The first error of a condition, and how many parts were looked at. -/
noncomputable def walkV : TExpr → Int → Int → Int × Int
  | .mk op k nm vs ks, d, b => if b ≥ 60 then (5, b) else if d ≥ 10 then (18, b + 1) else if pv (.mk op k nm vs ks) ≠ 0 then (pv (.mk op k nm vs ks), b + 1) else walkVL ks (d + 1) (b + 1)
noncomputable def walkVL : List TExpr → Int → Int → Int × Int
  | [], d, b => (0, b)
  | k :: ks, d, b => if (walkV k d b).1 ≠ 0 then walkV k d b else walkVL ks d (walkV k d b).2
end
theorem walkV_eq (x : TExpr) (d b : Int) : walkV x d b = if b ≥ 60 then (5, b) else if d ≥ 10 then (18, b + 1) else if pv x ≠ 0 then (pv x, b + 1) else walkVL x.gKids (d + 1) (b + 1) := by
  cases x; rw [walkV]; rfl
mutual
theorem walkV_range : ∀ (x : TExpr) (d b : Int), 0 ≤ b → b ≤ 60 → 0 ≤ (walkV x d b).2 ∧ (walkV x d b).2 ≤ 60
  | .mk op k nm vs ks, d, b, h0, h1 => by
    rw [walkV]
    split
    · exact ⟨h0, h1⟩
    · split
      · constructor <;> simp <;> omega
      · split
        · constructor <;> simp <;> omega
        · exact walkVL_range ks (d + 1) (b + 1) (by omega) (by omega)
theorem walkVL_range : ∀ (l : List TExpr) (d b : Int), 0 ≤ b → b ≤ 60 → 0 ≤ (walkVL l d b).2 ∧ (walkVL l d b).2 ≤ 60
  | [], d, b, h0, h1 => by rw [walkVL]; exact ⟨h0, h1⟩
  | k :: ks, d, b, h0, h1 => by
    have hk := walkV_range k d b h0 h1
    rw [walkVL]
    split
    · exact hk
    · exact walkVL_range ks d _ hk.1 hk.2
end
theorem ex_loop (x : TExpr) (d : Int) (hd0 : 0 ≤ d) (hd : d < 10) (hl : x.gKids.length < 4294967281) (s1 s2 : TExpr → Int → Int → Option (Int × Int))
    (h : ∀ k ∈ x.gKids, ∀ b, 0 ≤ b → b ≤ 60 → s1 k (d + 1) b = some (walkV k (d + 1) b) ∧ s2 k (d + 1 + 1) b = some (walkV k (d + 1) b)) :
    ∀ (q i m : Nat) (b : Int), i + q = x.gKids.length → q < m → 0 ≤ b → b ≤ 60 →
      p_shape_expr_L1 m s1 x d i b = some (walkVL (x.gKids.drop i) (d + 1) b) ∧ p_ref6_walk_L1 m s2 x (d + 1) i b = some (walkVL (x.gKids.drop i) (d + 1) b) := by
  intro q
  induction q with
  | zero =>
    intro i m b hi hm h0 h1
    obtain ⟨m, rfl⟩ : ∃ k, m = k + 1 := ⟨m - 1, by omega⟩
    obtain rfl : i = x.gKids.length := by omega
    have hd : decide (((x.gKids.length : Nat) : Int) < lI x.gKids) = false := decide_eq_false (by unfold lI; omega)
    rw [p_shape_expr_L1, p_ref6_walk_L1, hd, List.drop_length, walkVL]
    exact ⟨rfl, rfl⟩
  | succ q ih =>
    intro i m b hi hm h0 h1
    obtain ⟨m, rfl⟩ : ∃ k, m = k + 1 := ⟨m - 1, by omega⟩
    have hil : i < x.gKids.length := by omega
    have hdd : decide ((i : Int) < lI x.gKids) = true := decide_eq_true (by unfold lI; omega)
    obtain ⟨e1, e2⟩ := h x.gKids[i] (List.getElem_mem hil) b h0 h1
    have hr := walkV_range x.gKids[i] (d + 1) b h0 h1
    obtain ⟨i1, i2⟩ := ih (i + 1) m (walkV x.gKids[i] (d + 1) b).2 (by omega) (by omega) hr.1 hr.2
    have w1 : w64 (d + 1) = d + 1 := w64_of (by omega) (by omega)
    have w2 : w64 (d + 1 + 1) = d + 1 + 1 := w64_of (by omega) (by omega)
    rw [p_shape_expr_L1, p_ref6_walk_L1, hdd, List.drop_eq_getElem_cons hil, walkVL]
    simp only [cond_true, rdO_nat hil, Option.bind_some, w1, w2, e1, e2, w64_add (show i + 1 < 9223372036854775808 by omega), i1, i2]
    by_cases hz : (walkV x.gKids[i] (d + 1) b).1 = 0
    · rw [hz]; simp
    · have : ((walkV x.gKids[i] (d + 1) b).1 != 0) = true := by rw [bne_iff_ne]; exact hz
      rw [this, if_pos hz]
      simp
mutual
theorem ex_al : ∀ x : TExpr, x.sm → Al fun n => ∀ d b : Int, 0 ≤ d → d ≤ 10 → 0 ≤ b → b ≤ 60 → p_shape_expr n x d b = some (walkV x d b) ∧ p_ref6_walk n x (d + 1) b = some (walkV x d b)
  | .mk op kd nm vs ks, hx => by
    have hp := pv_al (.mk op kd nm vs ks) hx
    have hL := ex_alL ks (by rw [TExpr.sm] at hx; exact hx.2.2.2.2)
    have hlen : ks.length < 4294967281 := by rw [TExpr.sm] at hx; exact hx.2.2.2.1
    obtain ⟨N, hN⟩ := hp.and hL
    generalize hxx : TExpr.mk op kd nm vs ks = x at *
    have hks : x.gKids = ks := by rw [← hxx]; rfl
    refine Al.succ ⟨N + ks.length + 1, fun n hn d b hd0 hd1 hb0 hb1 => ?_⟩
    obtain ⟨⟨p1, p2⟩, hl⟩ := hN n (by omega)
    rw [p_shape_expr, p_ref6_walk]
    unfold p_shape_expr_F p_ref6_walk_F
    rw [p1, p2, walkV_eq]
    by_cases c1 : b ≥ 60
    · rw [if_pos c1, decide_eq_true c1]; exact ⟨rfl, rfl⟩
    · have w1 : w64 (b + 1) = b + 1 := w64_of (by omega) (by omega)
      rw [if_neg c1, decide_eq_false c1, w1]
      by_cases c2 : d ≥ 10
      · rw [if_pos c2, if_pos c2, decide_eq_true (show d + 1 > 10 by omega)]; exact ⟨rfl, rfl⟩
      · rw [if_neg c2, if_neg c2, decide_eq_false (show ¬ d + 1 > 10 by omega)]
        by_cases c3 : pv x = 0
        · rw [c3]
          simp only [cond_false, Option.bind_some, bne_self_eq_false, ne_eq, not_true_eq_false, if_false]
          exact ex_loop x d hd0 (by omega) (by rw [hks]; exact hlen) (p_shape_expr n) (p_ref6_walk n) (fun k hk b h0 h1 => hl k (by rw [← hks]; exact hk) (d + 1) b (by omega) (by omega) h0 h1) x.gKids.length 0 n (b + 1) (by omega) (by rw [hks]; omega) (by omega) (by omega)
        · have : (pv x != 0) = true := by rw [bne_iff_ne]; exact c3
          simp only [cond_false, Option.bind_some, this, cond_true]
          rw [if_pos c3]
          exact ⟨rfl, rfl⟩
theorem ex_alL : ∀ l : List TExpr, TExpr.smL l → Al fun n => ∀ k ∈ l, ∀ d b : Int, 0 ≤ d → d ≤ 10 → 0 ≤ b → b ≤ 60 → p_shape_expr n k d b = some (walkV k d b) ∧ p_ref6_walk n k (d + 1) b = some (walkV k d b)
  | [], _ => .of fun n k hk => by cases hk
  | k :: ks, h => by
    rw [TExpr.smL] at h
    refine ((ex_al k h.1).and (ex_alL ks h.2)).mono fun n ⟨h1, h2⟩ y hy => ?_
    rcases List.mem_cons.1 hy with rfl | hy
    · exact h1
    · exact h2 y hy
end
/-- Expr of both. -/
theorem expr_bi (x : TExpr) (hx : x.sm) : ∃ v, Al fun n => p_shape_Expr n x = some v ∧ p_ref6_Expr n x = some v := by
  refine ⟨(walkV x 0 0).1, (ex_al x hx).mono fun n h => ?_⟩
  obtain ⟨h1, h2⟩ := h 0 0 (by omega) (by omega) (by omega) (by omega)
  have h2 : p_ref6_walk n x 1 0 = some (walkV x 0 0) := h2
  unfold p_shape_Expr p_ref6_Expr
  rw [h1, h2]
  exact ⟨rfl, rfl⟩
end Go.Proofs.YtjhbobacbaikoaaGreatDoor
/- A function of the program as a pure function, and that the program computes it. -/
namespace Go.Proofs.YtjhbobacbaikoaaGreatDoor
open Go
set_option linter.unusedVariables false
set_option linter.unusedSimpArgs false
set_option maxRecDepth 100000
def p_draw_Codes_Left (n : Nat) (x0 : TCodes) : Option (Bool × TCodes) :=
 some (decide (x0.gat < (lI x0.glist)), x0)
variable {E : Env}
theorem s_draw_Codes_Left {n : Nat} {x0 : TCodes} {r : Bool × TCodes} (H : p_draw_Codes_Left n x0 = some r) :
    Sp Tryz.prog E 54 [.ptr 0 0] [.cells 101 (TCodes.cs x0)] (isA (bA r.1) [.cells 101 (TCodes.cs r.2)]) := by
  unfold p_draw_Codes_Left at H
  refine Sp_fn Tryz.func54 rfl (fun hc hs => ?_)
  refine AWP_reg (Rh 1 13 [(0, .ptr 0 0)] (AOps_done (AWP_regD1 [0, 1, 2, 3, 4, 5, 6, 7, 8, 9, 10] (N := 13) (f := [(0, .ptr 0 0)]) (leL_of [0] (by kernel_rfl)) mixed (by kernel_rfl) (by kernel_rfl) (st' := fr 13 [(2, bA (decide (x0.gat < (lI x0.glist))))]) (h' := [.cells 101 (TCodes.cs x0)]) ?_ ?_)))
  rotate_left
  · refine RD 11 13 [(7, 0), (6, 0), (5, 0), (3, 0), (2, 0), (1, 0)] [(0, .ptr 0 0), (2, bA (decide (x0.gat < (lI x0.glist)))), (3, .ptr 0 0), (4, .ptr 0 0), (5, .ptr 0 1), (6, iA x0.gat), (7, .ptr 0 0), (8, .ptr 0 0), (9, .ptr 0 0), (10, .ro .unk x0.glist.length (cl_u8 x0.glist)), (11, iA (lI x0.glist)), (12, bA (decide (x0.gat < (lI x0.glist))))] ?_
    exact AD_here [2] (by kernel_rfl) rfl
  refine AWP_ret ?_
  have hr := Option.some.inj H
  subst hr
  exact Fin_retn 0 (l := [bA (decide (x0.gat < (lI x0.glist)))]) (h' := [.cells 101 (TCodes.cs x0)]) (by kernel_rfl) rfl (Nat.le_of_ble_eq_true rfl) ((by refine Closed_of ?_; exact ⟨⟨(scl_cl_u8 _ _), trivial, trivial⟩, trivial⟩)) (Frz_sc trivial) ⟨rfl, rfl⟩
end Go.Proofs.YtjhbobacbaikoaaGreatDoor
/- A function of the program as a pure function, and that the program computes it. -/
namespace Go.Proofs.YtjhbobacbaikoaaGreatDoor
open Go
set_option linter.unusedVariables false
set_option linter.unusedSimpArgs false
set_option maxRecDepth 100000
def p_draw_Codes_Next (n : Nat) (x0 : TCodes) (x1 : Int) : Option (Int × TCodes) :=
(p_draw_Codes_Left n x0).bind fun v1 =>
(bif !v1.1 then
 some (0, v1.2)
 else
(rdO v1.2.glist (w64 ((w64 (v1.2.gat + 1)) - 1))).bind fun v3 =>
(remO (w64 v3) x1).bind fun v4 =>
 some (v4, ({ glist := v1.2.glist, gat := w64 (v1.2.gat + 1) } : TCodes)))
variable {E : Env}
theorem s_draw_Codes_Next {n : Nat} {x0 : TCodes} {x1 : Int} {r : Int × TCodes} (H : p_draw_Codes_Next n x0 x1 = some r) :
    Sp Tryz.prog E 19 [.ptr 0 0, iA x1] [.cells 101 (TCodes.cs x0)] (isA (iA r.1) [.cells 101 (TCodes.cs r.2)]) := by
  unfold p_draw_Codes_Next at H
  refine Sp_fn Tryz.func19 rfl (fun hc hs => ?_)
  refine AWP_reg (Rh 1 29 [(0, .ptr 0 0), (1, iA x1)] (AOps_done (AWP_seq (AWP_reg (Rh 1 29 [(0, .ptr 0 0), (1, iA x1), (5, .ptr 0 0)] ?_)))))
  obtain ⟨v1, hv1, H⟩ := bind_some H
  refine AOps_call1 (d := (some 6)) (al := [.ptr 0 0]) ([.ptr 0 0]) (r := bA v1.1) (j := 0) (b' := .cells 101 (TCodes.cs v1.2)) (by kernel_rfl) rfl (s_draw_Codes_Left hv1) (⟨(scl_cl_u8 _ _), trivial, trivial⟩) (⟨(scl_cl_u8 _ _), trivial, trivial⟩) ⟨Nat.zero_lt_one, trivial⟩ trivial rfl (h' := [.cells 101 (TCodes.cs v1.2)]) rfl ?_
  refine Rh 1 29 [(0, .ptr 0 0), (1, iA x1), (7, bA (!v1.1))] (AOps_done (CD H (fun hb2 H => ?_) (fun hb2 H => ?_)))
  · refine AWP_reg (Rh 1 29 [(4, iA 0)] (AOps_done (AWP_ret ?_)))
    have hr := Option.some.inj H
    subst hr
    exact Fin_retn 0 (l := [iA 0]) (h' := [.cells 101 (TCodes.cs v1.2)]) (by kernel_rfl) rfl (Nat.le_of_ble_eq_true rfl) ((by refine Closed_of ?_; exact ⟨⟨(scl_cl_u8 _ _), trivial, trivial⟩, trivial⟩)) (Frz_sc trivial) ⟨rfl, rfl⟩
  · refine AWP_skip ?_
    show AWP _ _ _ _ _ _ _
    refine AWP_reg (R 8 29 [(0, .ptr 0 0), (1, iA x1)] [.cells 101 [.ro .unk v1.2.glist.length (cl_u8 v1.2.glist), iA (w64 (v1.2.gat + 1))]] (AOps_done ?_))
    obtain ⟨v3, hv3, H⟩ := bind_some H
    obtain ⟨v4, hv4, H⟩ := bind_some H
    refine AWP_regD1 [0, 1, 2, 3, 4, 5, 6, 7, 8, 9, 10, 11, 12, 13, 14] (N := 29) (f := [(0, .ptr 0 0), (1, iA x1)]) (leL_of [0, 1] (by kernel_rfl)) mixed (by kernel_rfl) (by kernel_rfl) (st' := fr 29 [(4, iA v4)]) (h' := [.cells 101 [.ro .unk v1.2.glist.length (cl_u8 v1.2.glist), iA (w64 (v1.2.gat + 1))]]) ?_ ?_
    rotate_left
    · refine RD 9 29 [(7, 0), (6, 0), (5, 0), (3, 0), (2, 0), (1, 0)] [(0, .ptr 0 0), (1, iA x1), (15, .ptr 0 0), (16, .ptr 0 0), (17, .ptr 0 0), (18, .ro .unk v1.2.glist.length (cl_u8 v1.2.glist)), (19, .ptr 0 0), (20, .ptr 0 0), (21, .ptr 0 1), (22, iA (w64 (v1.2.gat + 1))), (23, iA (w64 ((w64 (v1.2.gat + 1)) - 1)))] (AD_index (d := (some 24)) (sz := 1) (c := cs_u8) (by kernel_rfl) rfl (eq_cl_u8 _) (fun _ => rfl) (by decide) hv3 (fun tl3 => ?_))
      refine RD 3 29 [(7, 0), (6, 0), (5, 0), (3, 0), (2, 0), (1, 0)] [(0, .ptr 0 0), (1, iA x1), (15, .ptr 0 0), (16, .ptr 0 0), (17, .ptr 0 0), (18, .ro .unk v1.2.glist.length (cl_u8 v1.2.glist)), (19, .ptr 0 0), (20, .ptr 0 0), (21, .ptr 0 1), (22, iA (w64 (v1.2.gat + 1))), (23, iA (w64 ((w64 (v1.2.gat + 1)) - 1))), (24, .rop ([iK .u8 v3] ++ tl3)), (25, iK .u8 v3), (26, iA (w64 v3)), (27, iA x1)] (AD_rem (kk := .i64) (d := (some 28)) (by kernel_rfl) hv4 ?_)
      refine RD 1 29 [(7, 0), (6, 0), (5, 0), (3, 0), (2, 0), (1, 0)] [(0, .ptr 0 0), (1, iA x1), (4, iA v4), (15, .ptr 0 0), (16, .ptr 0 0), (17, .ptr 0 0), (18, .ro .unk v1.2.glist.length (cl_u8 v1.2.glist)), (19, .ptr 0 0), (20, .ptr 0 0), (21, .ptr 0 1), (22, iA (w64 (v1.2.gat + 1))), (23, iA (w64 ((w64 (v1.2.gat + 1)) - 1))), (24, .rop ([iK .u8 v3] ++ tl3)), (25, iK .u8 v3), (26, iA (w64 v3)), (27, iA x1), (28, iA v4)] ?_
      exact AD_here [4] (by kernel_rfl) rfl
    refine AWP_ret ?_
    have hr := Option.some.inj H
    subst hr
    exact Fin_retn 0 (l := [iA v4]) (h' := [.cells 101 [.ro .unk v1.2.glist.length (cl_u8 v1.2.glist), iA (w64 (v1.2.gat + 1))]]) (by kernel_rfl) rfl (Nat.le_of_ble_eq_true rfl) ((by refine Closed_of ?_; exact ⟨⟨(scl_cl_u8 _ _), trivial, trivial⟩, trivial⟩)) (Frz_sc trivial) ⟨rfl, rfl⟩
end Go.Proofs.YtjhbobacbaikoaaGreatDoor
/- A function of the program as a pure function, and that the program computes it. -/
namespace Go.Proofs.YtjhbobacbaikoaaGreatDoor
open Go
set_option linter.unusedVariables false
set_option linter.unusedSimpArgs false
set_option maxRecDepth 100000
def p_draw_New_K1 (n : Nat) (v3 : List Int) : Option TCodes :=
 some ({ glist := v3, gat := 0 } : TCodes)
def p_draw_New (n : Nat) (x0 : List Int) (x1 : Int) : Option TCodes :=
(bif decide ((lI x0) > x1) then
(cutL x0 0 x1).bind fun v5 =>
 p_draw_New_K1 n  v5
 else
 p_draw_New_K1 n  x0)
variable {E : Env}
theorem s_draw_New {n : Nat} {x0 : List Int} {x1 : Int} {r : TCodes} (H : p_draw_New n x0 x1 = some r) :
    Sp Tryz.prog E 12 [.ro .unk x0.length (cl_u8 x0), iA x1] [] (isA (.ptr 0 0) [.cells 101 (TCodes.cs r)]) := by
  unfold p_draw_New at H
  refine Sp_fn Tryz.func12 rfl (fun hc hs => ?_)
  refine AWP_reg (Rh 1 15 [(0, .ro .unk x0.length (cl_u8 x0)), (1, iA x1)] (AOps_done (AWP_joinN (α := (List Int)) (fun v3 => fr 15 [(0, .ro .unk v3.length (cl_u8 v3))]) (fun v3 => []) (fun v3 => ∃ q, q ≤ q ∧ p_draw_New_K1 q  v3 = some r) (fun v3 hC => ?_) ?_)))
  · show AWP _ _ _ _ _ (fr 15 [(0, .ro .unk v3.length (cl_u8 v3))]) []
    obtain ⟨n, hn_, hC⟩ := hC
    replace H : p_draw_New_K1 n  v3 = some r := hC
    unfold p_draw_New_K1 at H
    refine AWP_reg (R 4 15 [(4, .ptr 0 0)] [.cells 101 [.ro .unk v3.length (cl_u8 v3), iA 0]] (AOps_done (AWP_ret ?_)))
    have hr := Option.some.inj H
    subst hr
    exact Fin_retn 0 (l := [.ptr 0 0]) (h' := [.cells 101 [.ro .unk v3.length (cl_u8 v3), iA 0]]) (by kernel_rfl) rfl (Nat.le_of_ble_eq_true rfl) ((by refine Closed_of ?_; exact ⟨⟨(scl_cl_u8 _ _), trivial, trivial⟩, trivial⟩)) (Frz_sc (sc_ptr rfl)) ⟨rfl, rfl⟩
  · refine AWP_reg (Rh 4 15 [(0, .ro .unk x0.length (cl_u8 x0)), (1, iA x1), (8, bA (decide ((lI x0) > x1)))] (AOps_done (CD H (fun hb4 H => ?_) (fun hb4 H => ?_))))
    · refine AWP_region ?_
      refine Rh 2 15 [(9, .ro .unk x0.length (cl_u8 x0)), (10, iA x1)] ?_
      obtain ⟨v5, hv5, H⟩ := bind_some H
      refine AOps_lcut (d := (some 11)) (sz := 1) (c := cs_u8) (by kernel_rfl) rfl (eq_cl_u8 _) (eq_cl_u8 _) (fun _ => rfl) (by decide) hv5 ?_
      refine Rh 1 15 [(0, .ro .unk v5.length (cl_u8 v5))] (AOps_done ?_)
      exact Exists.intro v5 ⟨⟨n, by omega, H⟩, Norm_fd [0] 0 (by kernel_rfl) rfl rfl trivial (by refine scL_fr ?_; exact ⟨(scl_cl_u8 _ _), trivial⟩)⟩
    · refine AWP_skip ?_
      exact Exists.intro x0 ⟨⟨n, by omega, H⟩, Norm_fd [0] 0 (by kernel_rfl) rfl rfl trivial (by refine scL_fr ?_; exact ⟨(scl_cl_u8 _ _), trivial⟩)⟩
end Go.Proofs.YtjhbobacbaikoaaGreatDoor
/- What a function gives from some fuel on, and a property of it; the choices of a drawn input. -/
namespace Go.Proofs.YtjhbobacbaikoaaGreatDoor
open Go
set_option linter.unusedVariables false
set_option linter.unusedSimpArgs false
/-- From some fuel on it gives one value, and that has the property. -/
def Gv {α : Type} (m : Nat → Option α) (Q : α → Prop) : Prop := ∃ r, Q r ∧ Al fun n => m n = some r
section
variable {α β : Type} {m : Nat → Option α} {Q R : α → Prop}
theorem Gv.mono (h : Gv m Q) (k : ∀ r, Q r → R r) : Gv m R := by obtain ⟨r, q, a⟩ := h; exact ⟨r, k r q, a⟩
theorem Gv.pure {r : α} (h : Q r) : Gv (fun _ => some r) Q := ⟨r, h, .of fun _ => rfl⟩
theorem Gv.congr {m' : Nat → Option α} (h : Gv m Q) (e : ∀ n, m' n = m n) : Gv m' Q := by
  obtain ⟨r, q, a⟩ := h; exact ⟨r, q, a.mono fun n h => (e n).trans h⟩
theorem Gv.bind {k : Nat → α → Option β} {S : β → Prop} (h : Gv m Q) (g : ∀ r, Q r → Gv (fun n => k n r) S) : Gv (fun n => (m n).bind (k n)) S := by
  obtain ⟨r, q, a⟩ := h
  obtain ⟨s, q2, b⟩ := g r q
  exact ⟨s, q2, (a.and b).mono fun n ⟨h1, h2⟩ => by show (m n).bind (k n) = some s; rw [h1]; exact h2⟩
theorem Gv.opt {o : Option α} {r : α} (e : o = some r) (h : Q r) : Gv (fun _ => o) Q := ⟨r, h, .of fun _ => e⟩
theorem Gv.cond {b : Bool} {f g : Nat → Option α} (h1 : b = true → Gv f Q) (h2 : b = false → Gv g Q) : Gv (fun n => bif b then f n else g n) Q := by
  cases b with
  | true => exact (h1 rfl).congr fun n => rfl
  | false => exact (h2 rfl).congr fun n => rfl
theorem Gv.succ (h : Gv (fun n => m (n + 1)) Q) : Gv m Q := by obtain ⟨r, q, a⟩ := h; exact ⟨r, q, a.succ⟩
theorem Gv.shift (h : Gv m Q) : Gv (fun n => m (n + 1)) Q := by obtain ⟨r, q, a⟩ := h; exact ⟨r, q, a.shift⟩
theorem Gv.and {S : α → Prop} (h : Gv m Q) (g : Gv m S) : Gv m fun r => Q r ∧ S r := by
  obtain ⟨r, q, a⟩ := h
  obtain ⟨s, q2, b⟩ := g
  obtain ⟨n, h1, h2⟩ := (a.and b).get
  rw [h1] at h2; cases h2
  exact ⟨r, ⟨q, q2⟩, a⟩
theorem Gv.al {r : α} (h : Al fun n => m n = some r) (q : Q r) : Gv m Q := ⟨r, q, h⟩
theorem Gv.add {r : α} (k : Nat) (h : ∀ n, m (n + k) = some r) (q : Q r) : Gv m Q := ⟨r, q, ⟨k, fun n hn => by
  have := h (n - k)
  rwa [Nat.sub_add_cancel hn] at this⟩⟩
end
theorem rdO_at {α : Type} {xs : List α} {j : Int} (h0 : 0 ≤ j) (h1 : j < xs.length) : ∃ x, rdO xs j = some x ∧ x ∈ xs := by
  obtain ⟨k, rfl⟩ : ∃ k : Nat, j = (k : Int) := ⟨j.toNat, by omega⟩
  have hk : k < xs.length := by omega
  exact ⟨xs[k], rdO_nat hk, List.getElem_mem hk⟩
theorem Gv.rd {α : Type} {xs : List α} {j : Int} {Q : α → Prop} (h0 : 0 ≤ j) (h1 : j < xs.length) (q : ∀ x ∈ xs, Q x) : Gv (fun _ => rdO xs j) Q := by
  obtain ⟨x, e, hx⟩ := rdO_at h0 h1
  exact Gv.opt e (q x hx)
theorem appO_some {α : Type} {bs : Nat} {xs ys : List α} (h : (xs.length + ys.length) * bs ≤ 140737488355328) (h2 : xs.length + ys.length ≤ 4611686018427387904) : appO bs xs ys = some (xs ++ ys) := by
  unfold appO
  rw [decide_eq_true h, decide_eq_true h2]; rfl
theorem Gv.app {α : Type} {bs : Nat} {xs ys : List α} {Q : List α → Prop} (h : xs.length + ys.length ≤ 1000000) (hb : bs ≤ 1000) (q : Q (xs ++ ys)) : Gv (fun _ => appO bs xs ys) Q := by
  refine Gv.opt (appO_some ?_ (by omega)) q
  exact Nat.le_trans (Nat.mul_le_mul h hb) (by decide)
/-! ## choices -/
def TCodes.cok (c : TCodes) : Prop := 0 ≤ c.gat ∧ c.gat ≤ c.glist.length ∧ c.glist.length ≤ 100000 ∧ ∀ b ∈ c.glist, 0 ≤ b ∧ b ≤ 255
theorem TCodes.mk_eta (c : TCodes) : ({ glist := c.glist, gat := c.gat } : TCodes) = c := rfl
theorem new_gv (l : List Int) (hl : ∀ b ∈ l, 0 ≤ b ∧ b ≤ 255) (hs : l.length < 4294967281) (k : Int) (h0 : 0 ≤ k) (h1 : k ≤ 100000) : Gv (fun n => p_draw_New n l k) TCodes.cok := by
  unfold p_draw_New p_draw_New_K1
  refine Gv.cond (fun h => ?_) (fun h => ?_)
  · have h := of_decide_eq_true h
    unfold lI at h
    obtain ⟨j, rfl⟩ : ∃ j : Nat, k = (j : Int) := ⟨k.toNat, by omega⟩
    have e : cutL l 0 (j : Int) = some (l.take j) := by
      unfold cutL
      rw [decide_eq_true (show (0 : Int) ≤ 0 by omega), decide_eq_true (show (0 : Int) ≤ (j : Int) by omega), decide_eq_true (show (j : Int) ≤ l.length by omega)]
      simp
    refine Gv.bind (Gv.opt (Q := fun r => r = l.take j) e rfl) ?_
    rintro r rfl
    refine Gv.pure ⟨Int.le_refl _, by show (0 : Int) ≤ ((l.take j).length : Int); omega, by show (l.take j).length ≤ 100000; rw [List.length_take]; omega, fun b hb => hl b (List.mem_of_mem_take hb)⟩
  · have h := of_decide_eq_false h
    unfold lI at h
    exact Gv.pure ⟨Int.le_refl _, by show (0 : Int) ≤ (l.length : Int); omega, by show l.length ≤ 100000; omega, hl⟩
theorem next_gv {c : TCodes} (hc : c.cok) {k : Int} (h0 : 0 < k) (h1 : k < 4611686018427387904) : Gv (fun n => p_draw_Codes_Next n c k) fun r => 0 ≤ r.1 ∧ r.1 < k ∧ r.2.cok := by
  obtain ⟨c0, c1, c2, c3⟩ := hc
  unfold p_draw_Codes_Next p_draw_Codes_Left
  simp only [Option.bind_some]
  refine Gv.cond (fun h => Gv.pure ⟨Int.le_refl _, h0, c0, c1, c2, c3⟩) (fun h => ?_)
  have h : c.gat < c.glist.length := by
    have h : decide (c.gat < lI c.glist) = true := by simpa using h
    exact of_decide_eq_true h
  have w1 : w64 (c.gat + 1) = c.gat + 1 := w64_of (by omega) (by omega)
  have w2 : w64 (c.gat + 1 - 1) = c.gat := by rw [w64_of (by omega) (by omega)]; omega
  rw [w1, w2]
  refine Gv.bind (Gv.rd c0 h c3) fun b hb => ?_
  have w3 : w64 b = b := w64_of (by omega) (by omega)
  have e : remO (w64 b) k = some (b.tmod k) := by
    rw [w3]; unfold remO
    rw [beq_eq_false_iff_ne.2 (show k ≠ 0 by omega)]; rfl
  refine Gv.bind (Gv.opt (Q := fun r => 0 ≤ r ∧ r < k) e ⟨Int.tmod_nonneg _ (by omega), Int.tmod_lt_of_pos _ h0⟩) fun r hr => ?_
  exact Gv.pure ⟨hr.1, hr.2, by show 0 ≤ c.gat + 1; omega, by show c.gat + 1 ≤ c.glist.length; omega, c2, c3⟩
end Go.Proofs.YtjhbobacbaikoaaGreatDoor
/- A function of the program as a pure function, and that the program computes it. -/
namespace Go.Proofs.YtjhbobacbaikoaaGreatDoor
open Go
set_option linter.unusedVariables false
set_option linter.unusedSimpArgs false
set_option maxRecDepth 100000
def p_draw_Codes_Text (n : Nat) (x0 : TCodes) : Option (ByteArray × TCodes) :=
(p_draw_Codes_Next n x0 11).bind fun v1 =>
(rdO gl_texts v1.1).bind fun v2 =>
 some (v2, v1.2)
variable {E : Env}
theorem s_draw_Codes_Text {n : Nat} (hG : GlobD E) {x0 : TCodes} {r : ByteArray × TCodes} (H : p_draw_Codes_Text n x0 = some r) :
    Sp Tryz.prog E 59 [.ptr 0 0] [.cells 101 (TCodes.cs x0)] (isA (sA r.1) [.cells 101 (TCodes.cs r.2)]) := by
  unfold p_draw_Codes_Text at H
  refine Sp_fn Tryz.func59 rfl (fun hc hs => ?_)
  refine AWP_reg (Rh 1 7 [(0, .ptr 0 0)] (AOps_done (AWP_reg (Rh 1 7 [(3, .ptr 0 0)] ?_))))
  obtain ⟨v1, hv1, H⟩ := bind_some H
  refine AOps_call1 (d := (some 4)) (al := [.ptr 0 0, iA 11]) ([.ptr 0 0, iA 11]) (r := iA v1.1) (j := 0) (b' := .cells 101 (TCodes.cs v1.2)) (by kernel_rfl) rfl (s_draw_Codes_Next hv1) (⟨(scl_cl_u8 _ _), trivial, trivial⟩) (⟨(scl_cl_u8 _ _), trivial, trivial⟩) ⟨Nat.zero_lt_one, trivial, trivial⟩ trivial rfl (h' := [.cells 101 (TCodes.cs v1.2)]) rfl ?_
  obtain ⟨v2, hv2, H⟩ := bind_some H
  refine AOps_gindex (d := (some 5)) (g := 2) (c := cs_str) (sz := 1) (xs := gl_texts) (by kernel_rfl) hG.g2 (eq_cl_str _) rfl (fun _ => rfl) hv2 (fun tl2 => ?_)
  refine Rh 2 7 [(2, sA v2)] (AOps_done (AWP_ret ?_))
  have hr := Option.some.inj H
  subst hr
  exact Fin_retn 0 (l := [sA v2]) (h' := [.cells 101 (TCodes.cs v1.2)]) (by kernel_rfl) rfl (Nat.le_of_ble_eq_true rfl) ((by refine Closed_of ?_; exact ⟨⟨(scl_cl_u8 _ _), trivial, trivial⟩, trivial⟩)) (Frz_sc trivial) ⟨rfl, rfl⟩
end Go.Proofs.YtjhbobacbaikoaaGreatDoor
/- A function of the program as a pure function, and that the program computes it. -/
namespace Go.Proofs.YtjhbobacbaikoaaGreatDoor
open Go
set_option linter.unusedVariables false
set_option linter.unusedSimpArgs false
set_option maxRecDepth 100000
def p_draw_Codes_Value (n : Nat) (x0 : TCodes) (x1 : Int) : Option (TValue × TCodes) :=
(bif x1 == 1 then
(p_draw_Codes_Next n x0 2).bind fun v2 =>
 some (({ gKind := x1, gNumber := v2.1, gText := ByteArray.empty, gList := [] } : TValue), v2.2)
 else
(bif x1 == 2 then
(p_draw_Codes_Next n x0 (lI ([0, 1, 17, 18, 19, (-5), 64, 1099511627776, (-1099511627776)]))).bind fun v4 =>
(rdO ([0, 1, 17, 18, 19, (-5), 64, 1099511627776, (-1099511627776)]) v4.1).bind fun v5 =>
 some (({ gKind := x1, gNumber := v5, gText := ByteArray.empty, gList := [] } : TValue), v4.2)
 else
(bif x1 == 3 then
(p_draw_Codes_Text n x0).bind fun v7 =>
 some (({ gKind := x1, gNumber := 0, gText := v7.1, gList := [] } : TValue), v7.2)
 else
(bif x1 == 4 then
(p_draw_Codes_Next n x0 6).bind fun v9 =>
(rdO gl_versions v9.1).bind fun v10 =>
 some (({ gKind := x1, gNumber := 0, gText := v10, gList := [] } : TValue), v9.2)
 else
(p_draw_Codes_Next n x0 5).bind fun v11 =>
(rdO gl_lists v11.1).bind fun v12 =>
(appO 16 ([] : List ByteArray) v12).bind fun v13 =>
 some (({ gKind := 5, gNumber := 0, gText := ByteArray.empty, gList := v13 } : TValue), v11.2)))))
variable {E : Env}
theorem s_draw_Codes_Value {n : Nat} (hG : GlobD E) {x0 : TCodes} {x1 : Int} {r : TValue × TCodes} (H : p_draw_Codes_Value n x0 x1 = some r) :
    Sp Tryz.prog E 58 [.ptr 0 0, iA x1] [.cells 101 (TCodes.cs x0)] (isA (.agg (TValue.cs r.1)) [.cells 101 (TCodes.cs r.2)]) := by
  unfold p_draw_Codes_Value at H
  refine Sp_fn Tryz.func58 rfl (fun hc hs => ?_)
  refine AWP_reg (R 1 45 [(0, .ptr 0 0), (1, iA x1), (4, .ptr 1 0)] [.cells 58 [iA 0, iA 0, sA ByteArray.empty, .ro .full 0 []], .cells 101 (TCodes.cs x0)] (AOps_done (AWP_seq (AWP_reg (Rh 1 45 [(0, .ptr 0 0), (1, iA x1), (4, .ptr 1 0), (6, iA x1)] (AOps_done (AWP_block ?_)))))))
  refine AWP_reg (Rh 2 45 [(0, .ptr 0 0), (1, iA x1), (4, .ptr 1 0), (6, iA x1), (7, bA (x1 == 1))] (AOps_done (CD H (fun hb1 H => ?_) (fun hb1 H => ?_))))
  · refine AWP_reg (Rh 2 45 [(4, .ptr 1 0), (9, iA x1), (10, .ptr 0 0)] ?_)
    obtain ⟨v2, hv2, H⟩ := bind_some H
    refine AOps_call1 (d := (some 11)) (al := [.ptr 0 0, iA 2]) ([.ptr 0 0, iA 2]) (r := iA v2.1) (j := 0) (b' := .cells 101 (TCodes.cs v2.2)) (by kernel_rfl) rfl (s_draw_Codes_Next hv2) (⟨(scl_cl_u8 _ _), trivial, trivial⟩) (⟨(scl_cl_u8 _ _), trivial, trivial⟩) ⟨Nat.zero_lt_one, trivial, trivial⟩ trivial rfl (h' := [.cells 58 [iA 0, iA 0, sA ByteArray.empty, .ro .full 0 []], .cells 101 (TCodes.cs v2.2)]) rfl ?_
    refine R 2 45 [(4, .ptr 1 0)] [.cells 58 [iA x1, iA v2.1, sA ByteArray.empty, .ro .full 0 []], .cells 101 (TCodes.cs v2.2)] (AOps_done (AWP_ret ?_))
    have hr := Option.some.inj H
    subst hr
    exact Fin_retn 1 (l := [.agg [iA x1, iA v2.1, sA ByteArray.empty, .ro .full 0 []]]) (h' := [.cells 101 (TCodes.cs v2.2)]) (by kernel_rfl) rfl (Nat.le_of_ble_eq_true rfl) ((by refine Closed_of ?_; exact ⟨⟨(scl_cl_u8 _ _), trivial, trivial⟩, trivial⟩)) (Frz_agg (FrzL_cons (Frz_sc trivial) (FrzL_cons (Frz_sc trivial) (FrzL_cons (Frz_sc trivial) (FrzL_cons (Frz_le (Frz_sc trivial) (AV.le_ro _ _ _)) (FrzL_nil))))) rfl) ⟨rfl, rfl⟩
  · refine AWP_reg (Rh 2 45 [(0, .ptr 0 0), (1, iA x1), (4, .ptr 1 0), (6, iA x1), (13, bA (x1 == 2))] (AOps_done (CD H (fun hb3 H => ?_) (fun hb3 H => ?_))))
    · refine AWP_reg (AOps_bsl (d := (some 15)) (m := 9) (cs := [iA 0, iA 1, iA 17, iA 18, iA 19, iA (-5), iA 64, iA 1099511627776, iA (-1099511627776)]) (by kernel_rfl) ⟨trivial, trivial, trivial, trivial, trivial, trivial, trivial, trivial, trivial, trivial⟩ ?_)
      refine Rh 1 45 [(0, .ptr 0 0), (1, iA x1), (4, .ptr 1 0), (5, .ro .unk ([0, 1, 17, 18, 19, (-5), 64, 1099511627776, (-1099511627776)]).length (cl_i64 ([0, 1, 17, 18, 19, (-5), 64, 1099511627776, (-1099511627776)])))] (AOps_done (AWP_reg (Rh 5 45 [(4, .ptr 1 0), (16, iA x1), (17, .ro .unk ([0, 1, 17, 18, 19, (-5), 64, 1099511627776, (-1099511627776)]).length (cl_i64 ([0, 1, 17, 18, 19, (-5), 64, 1099511627776, (-1099511627776)]))), (18, .ptr 0 0), (20, iA (lI ([0, 1, 17, 18, 19, (-5), 64, 1099511627776, (-1099511627776)])))] ?_)))
      obtain ⟨v4, hv4, H⟩ := bind_some H
      refine AOps_call1 (d := (some 21)) (al := [.ptr 0 0, iA (lI ([0, 1, 17, 18, 19, (-5), 64, 1099511627776, (-1099511627776)]))]) ([.ptr 0 0, iA (lI ([0, 1, 17, 18, 19, (-5), 64, 1099511627776, (-1099511627776)]))]) (r := iA v4.1) (j := 0) (b' := .cells 101 (TCodes.cs v4.2)) (by kernel_rfl) rfl (s_draw_Codes_Next hv4) (⟨(scl_cl_u8 _ _), trivial, trivial⟩) (⟨(scl_cl_u8 _ _), trivial, trivial⟩) ⟨Nat.zero_lt_one, trivial, trivial⟩ trivial rfl (h' := [.cells 58 [iA 0, iA 0, sA ByteArray.empty, .ro .full 0 []], .cells 101 (TCodes.cs v4.2)]) rfl ?_
      obtain ⟨v5, hv5, H⟩ := bind_some H
      refine AOps_index (d := (some 22)) (sz := 1) (c := cs_i64) (by kernel_rfl) rfl (eq_cl_i64 _) (fun _ => rfl) (by decide) hv5 (fun tl5 => ?_)
      refine R 3 45 [(4, .ptr 1 0)] [.cells 58 [iA x1, iA v5, sA ByteArray.empty, .ro .full 0 []], .cells 101 (TCodes.cs v4.2)] (AOps_done (AWP_ret ?_))
      have hr := Option.some.inj H
      subst hr
      exact Fin_retn 1 (l := [.agg [iA x1, iA v5, sA ByteArray.empty, .ro .full 0 []]]) (h' := [.cells 101 (TCodes.cs v4.2)]) (by kernel_rfl) rfl (Nat.le_of_ble_eq_true rfl) ((by refine Closed_of ?_; exact ⟨⟨(scl_cl_u8 _ _), trivial, trivial⟩, trivial⟩)) (Frz_agg (FrzL_cons (Frz_sc trivial) (FrzL_cons (Frz_sc trivial) (FrzL_cons (Frz_sc trivial) (FrzL_cons (Frz_le (Frz_sc trivial) (AV.le_ro _ _ _)) (FrzL_nil))))) rfl) ⟨rfl, rfl⟩
    · refine AWP_reg (Rh 2 45 [(0, .ptr 0 0), (1, iA x1), (4, .ptr 1 0), (6, iA x1), (25, bA (x1 == 3))] (AOps_done (CD H (fun hb6 H => ?_) (fun hb6 H => ?_))))
      · refine AWP_reg (Rh 2 45 [(4, .ptr 1 0), (27, iA x1), (28, .ptr 0 0)] ?_)
        obtain ⟨v7, hv7, H⟩ := bind_some H
        refine AOps_call1 (d := (some 29)) (al := [.ptr 0 0]) ([.ptr 0 0]) (r := sA v7.1) (j := 0) (b' := .cells 101 (TCodes.cs v7.2)) (by kernel_rfl) rfl (s_draw_Codes_Text hG hv7) (⟨(scl_cl_u8 _ _), trivial, trivial⟩) (⟨(scl_cl_u8 _ _), trivial, trivial⟩) ⟨Nat.zero_lt_one, trivial⟩ trivial rfl (h' := [.cells 58 [iA 0, iA 0, sA ByteArray.empty, .ro .full 0 []], .cells 101 (TCodes.cs v7.2)]) rfl ?_
        refine R 2 45 [(4, .ptr 1 0)] [.cells 58 [iA x1, iA 0, sA v7.1, .ro .full 0 []], .cells 101 (TCodes.cs v7.2)] (AOps_done (AWP_ret ?_))
        have hr := Option.some.inj H
        subst hr
        exact Fin_retn 1 (l := [.agg [iA x1, iA 0, sA v7.1, .ro .full 0 []]]) (h' := [.cells 101 (TCodes.cs v7.2)]) (by kernel_rfl) rfl (Nat.le_of_ble_eq_true rfl) ((by refine Closed_of ?_; exact ⟨⟨(scl_cl_u8 _ _), trivial, trivial⟩, trivial⟩)) (Frz_agg (FrzL_cons (Frz_sc trivial) (FrzL_cons (Frz_sc trivial) (FrzL_cons (Frz_sc trivial) (FrzL_cons (Frz_le (Frz_sc trivial) (AV.le_ro _ _ _)) (FrzL_nil))))) rfl) ⟨rfl, rfl⟩
      · refine AWP_reg (Rh 2 45 [(0, .ptr 0 0), (1, iA x1), (4, .ptr 1 0), (31, bA (x1 == 4))] (AOps_done (CD H (fun hb8 H => ?_) (fun hb8 H => ?_))))
        · refine AWP_reg (Rh 2 45 [(4, .ptr 1 0), (33, iA x1), (34, .ptr 0 0)] ?_)
          obtain ⟨v9, hv9, H⟩ := bind_some H
          refine AOps_call1 (d := (some 35)) (al := [.ptr 0 0, iA 6]) ([.ptr 0 0, iA 6]) (r := iA v9.1) (j := 0) (b' := .cells 101 (TCodes.cs v9.2)) (by kernel_rfl) rfl (s_draw_Codes_Next hv9) (⟨(scl_cl_u8 _ _), trivial, trivial⟩) (⟨(scl_cl_u8 _ _), trivial, trivial⟩) ⟨Nat.zero_lt_one, trivial, trivial⟩ trivial rfl (h' := [.cells 58 [iA 0, iA 0, sA ByteArray.empty, .ro .full 0 []], .cells 101 (TCodes.cs v9.2)]) rfl ?_
          obtain ⟨v10, hv10, H⟩ := bind_some H
          refine AOps_gindex (d := (some 36)) (g := 0) (c := cs_str) (sz := 1) (xs := gl_versions) (by kernel_rfl) hG.g0 (eq_cl_str _) rfl (fun _ => rfl) hv10 (fun tl10 => ?_)
          refine R 3 45 [(4, .ptr 1 0)] [.cells 58 [iA x1, iA 0, sA v10, .ro .full 0 []], .cells 101 (TCodes.cs v9.2)] (AOps_done (AWP_ret ?_))
          have hr := Option.some.inj H
          subst hr
          exact Fin_retn 1 (l := [.agg [iA x1, iA 0, sA v10, .ro .full 0 []]]) (h' := [.cells 101 (TCodes.cs v9.2)]) (by kernel_rfl) rfl (Nat.le_of_ble_eq_true rfl) ((by refine Closed_of ?_; exact ⟨⟨(scl_cl_u8 _ _), trivial, trivial⟩, trivial⟩)) (Frz_agg (FrzL_cons (Frz_sc trivial) (FrzL_cons (Frz_sc trivial) (FrzL_cons (Frz_sc trivial) (FrzL_cons (Frz_le (Frz_sc trivial) (AV.le_ro _ _ _)) (FrzL_nil))))) rfl) ⟨rfl, rfl⟩
        · refine AWP_skip ?_
          show AWP _ _ _ _ _ _ _
          refine AWP_reg (Rh 1 45 [(4, .ptr 1 0), (39, .ptr 0 0)] ?_)
          obtain ⟨v11, hv11, H⟩ := bind_some H
          refine AOps_call1 (d := (some 40)) (al := [.ptr 0 0, iA 5]) ([.ptr 0 0, iA 5]) (r := iA v11.1) (j := 0) (b' := .cells 101 (TCodes.cs v11.2)) (by kernel_rfl) rfl (s_draw_Codes_Next hv11) (⟨(scl_cl_u8 _ _), trivial, trivial⟩) (⟨(scl_cl_u8 _ _), trivial, trivial⟩) ⟨Nat.zero_lt_one, trivial, trivial⟩ trivial rfl (h' := [.cells 58 [iA 0, iA 0, sA ByteArray.empty, .ro .full 0 []], .cells 101 (TCodes.cs v11.2)]) rfl ?_
          obtain ⟨v12, hv12, H⟩ := bind_some H
          refine AOps_gindex (d := (some 41)) (g := 1) (c := cs_l_cs_str) (sz := 1) (xs := gl_lists) (by kernel_rfl) hG.g1 (eq_cl_l_cl_str _) rfl (fun _ => rfl) hv12 (fun tl12 => ?_)
          refine Rh 1 45 [(4, .ptr 1 0), (42, .ro .unk v12.length (cl_str v12))] ?_
          obtain ⟨v13, hv13, H⟩ := bind_some H
          refine AOps_append_nil (d := (some 43)) (c := cs_str) (sz := 1) (bs := 16) (e := 9) (ys := v12) (by kernel_rfl) rfl (eq_cl_str _) (fun _ => rfl) (by kernel_rfl) (by kernel_rfl) hv13 (eq_cl_str _) ?_
          refine R 2 45 [(4, .ptr 1 0)] [.row 9 (cl_str v13), .cells 58 [iA 5, iA 0, sA ByteArray.empty, .sl 2 0 v13.length (.whole 1)], .cells 101 (TCodes.cs v11.2)] (AOps_done (AWP_ret ?_))
          have hr := Option.some.inj H
          subst hr
          exact Fin_retn 2 (l := [.agg [iA 5, iA 0, sA ByteArray.empty, .sl 2 0 v13.length (.whole 1)]]) (h' := [.cells 101 (TCodes.cs v11.2)]) (by kernel_rfl) rfl (Nat.le_of_ble_eq_true rfl) ((by refine Closed_of ?_; exact ⟨⟨(scl_cl_u8 _ _), trivial, trivial⟩, trivial⟩)) (Frz_agg (FrzL_cons (Frz_sc trivial) (FrzL_cons (Frz_sc trivial) (FrzL_cons (Frz_sc trivial) (FrzL_cons (Frz_row (t := 9) (cs := cl_str v13) rfl (scl_cl_str _ _)) (FrzL_nil))))) rfl) ⟨rfl, rfl⟩
end Go.Proofs.YtjhbobacbaikoaaGreatDoor
/- A function of the program as a pure function, and that the program computes it. -/
namespace Go.Proofs.YtjhbobacbaikoaaGreatDoor
open Go
set_option linter.unusedVariables false
set_option linter.unusedSimpArgs false
set_option maxRecDepth 100000
def p_draw_Codes_Any (n : Nat) (x0 : TCodes) : Option (TValue × TCodes) :=
(p_draw_Codes_Next n x0 5).bind fun v1 =>
(p_draw_Codes_Value n v1.2 (w64 (1 + v1.1))).bind fun v2 =>
 some (v2.1, v2.2)
variable {E : Env}
theorem s_draw_Codes_Any {n : Nat} (hG : GlobD E) {x0 : TCodes} {r : TValue × TCodes} (H : p_draw_Codes_Any n x0 = some r) :
    Sp Tryz.prog E 29 [.ptr 0 0] [.cells 101 (TCodes.cs x0)] (isA (.agg (TValue.cs r.1)) [.cells 101 (TCodes.cs r.2)]) := by
  unfold p_draw_Codes_Any at H
  refine Sp_fn Tryz.func29 rfl (fun hc hs => ?_)
  refine AWP_reg (R 1 8 [(0, .ptr 0 0), (2, .ptr 1 0)] [.cells 58 [iA 0, iA 0, sA ByteArray.empty, .ro .full 0 []], .cells 101 (TCodes.cs x0)] (AOps_done (AWP_reg (Rh 2 8 [(2, .ptr 1 0), (3, .ptr 0 0), (4, .ptr 0 0)] ?_))))
  obtain ⟨v1, hv1, H⟩ := bind_some H
  refine AOps_call1 (d := (some 5)) (al := [.ptr 0 0, iA 5]) ([.ptr 0 0, iA 5]) (r := iA v1.1) (j := 0) (b' := .cells 101 (TCodes.cs v1.2)) (by kernel_rfl) rfl (s_draw_Codes_Next hv1) (⟨(scl_cl_u8 _ _), trivial, trivial⟩) (⟨(scl_cl_u8 _ _), trivial, trivial⟩) ⟨Nat.zero_lt_one, trivial, trivial⟩ trivial rfl (h' := [.cells 58 [iA 0, iA 0, sA ByteArray.empty, .ro .full 0 []], .cells 101 (TCodes.cs v1.2)]) rfl ?_
  refine Rh 1 8 [(2, .ptr 1 0), (3, .ptr 0 0), (6, iA (w64 (1 + v1.1)))] ?_
  obtain ⟨v2, hv2, H⟩ := bind_some H
  refine AOps_call1 (d := (some 7)) (al := [.ptr 0 0, iA (w64 (1 + v1.1))]) ([.ptr 0 0, iA (w64 (1 + v1.1))]) (r := .agg (TValue.cs v2.1)) (j := 0) (b' := .cells 101 (TCodes.cs v2.2)) (by kernel_rfl) rfl (s_draw_Codes_Value hG hv2) (⟨(scl_cl_u8 _ _), trivial, trivial⟩) (⟨(scl_cl_u8 _ _), trivial, trivial⟩) ⟨Nat.zero_lt_one, trivial, trivial⟩ (sc_TValue_cs _ _) rfl (h' := [.cells 58 [iA 0, iA 0, sA ByteArray.empty, .ro .full 0 []], .cells 101 (TCodes.cs v2.2)]) rfl ?_
  refine R 1 8 [(2, .ptr 1 0)] [.cells 58 (TValue.cs v2.1), .cells 101 (TCodes.cs v2.2)] (AOps_done (AWP_ret ?_))
  have hr := Option.some.inj H
  subst hr
  exact Fin_retn 1 (l := [.agg (TValue.cs v2.1)]) (h' := [.cells 101 (TCodes.cs v2.2)]) (by kernel_rfl) rfl (Nat.le_of_ble_eq_true rfl) ((by refine Closed_of ?_; exact ⟨⟨(scl_cl_u8 _ _), trivial, trivial⟩, trivial⟩)) (Frz_sc (sc_TValue_cs _ _)) ⟨rfl, rfl⟩
end Go.Proofs.YtjhbobacbaikoaaGreatDoor
/- A function of the program as a pure function, and that the program computes it. -/
namespace Go.Proofs.YtjhbobacbaikoaaGreatDoor
open Go
set_option linter.unusedVariables false
set_option linter.unusedSimpArgs false
set_option maxRecDepth 100000
def p_draw_Codes_Key (n : Nat) (x0 : TCodes) : Option (ByteArray × TCodes) :=
(p_draw_Codes_Next n x0 10).bind fun v1 =>
(catO (⟨#[107]⟩ : ByteArray) (Utf8.encode (IntKind.i32.wrap (w64 (48 + v1.1))))).bind fun v2 =>
 some (v2, v1.2)
variable {E : Env}
theorem s_draw_Codes_Key {n : Nat} {x0 : TCodes} {r : ByteArray × TCodes} (H : p_draw_Codes_Key n x0 = some r) :
    Sp Tryz.prog E 104 [.ptr 0 0] [.cells 101 (TCodes.cs x0)] (isA (sA r.1) [.cells 101 (TCodes.cs r.2)]) := by
  unfold p_draw_Codes_Key at H
  refine Sp_fn Tryz.func104 rfl (fun hc hs => ?_)
  refine AWP_reg (Rh 1 9 [(0, .ptr 0 0)] (AOps_done (AWP_reg (Rh 1 9 [(3, .ptr 0 0)] ?_))))
  obtain ⟨v1, hv1, H⟩ := bind_some H
  refine AOps_call1 (d := (some 4)) (al := [.ptr 0 0, iA 10]) ([.ptr 0 0, iA 10]) (r := iA v1.1) (j := 0) (b' := .cells 101 (TCodes.cs v1.2)) (by kernel_rfl) rfl (s_draw_Codes_Next hv1) (⟨(scl_cl_u8 _ _), trivial, trivial⟩) (⟨(scl_cl_u8 _ _), trivial, trivial⟩) ⟨Nat.zero_lt_one, trivial, trivial⟩ trivial rfl (h' := [.cells 101 (TCodes.cs v1.2)]) rfl ?_
  refine Rh 3 9 [(7, sA (Utf8.encode (IntKind.i32.wrap (w64 (48 + v1.1)))))] ?_
  obtain ⟨v2, hv2, H⟩ := bind_some H
  refine AOps_cat (d := (some 8)) (by kernel_rfl) hv2 ?_
  refine Rh 1 9 [(2, sA v2)] (AOps_done (AWP_ret ?_))
  have hr := Option.some.inj H
  subst hr
  exact Fin_retn 0 (l := [sA v2]) (h' := [.cells 101 (TCodes.cs v1.2)]) (by kernel_rfl) rfl (Nat.le_of_ble_eq_true rfl) ((by refine Closed_of ?_; exact ⟨⟨(scl_cl_u8 _ _), trivial, trivial⟩, trivial⟩)) (Frz_sc trivial) ⟨rfl, rfl⟩
end Go.Proofs.YtjhbobacbaikoaaGreatDoor
/- A function of the program as a pure function, and that the program computes it. -/
namespace Go.Proofs.YtjhbobacbaikoaaGreatDoor
open Go
set_option linter.unusedVariables false
set_option linter.unusedSimpArgs false
set_option maxRecDepth 100000
def p_draw_Codes_Name (n : Nat) (x0 : TCodes) : Option (ByteArray × TCodes) :=
(p_draw_Codes_Next n x0 (lI ([ByteArray.empty, (⟨#[66, 97, 100]⟩ : ByteArray), (⟨#[57, 97]⟩ : ByteArray), (⟨#[111, 110]⟩ : ByteArray), (⟨#[107, 101, 121]⟩ : ByteArray), (⟨#[122, 122]⟩ : ByteArray), (⟨#[97]⟩ : ByteArray), (⟨#[97, 108, 112, 104, 97]⟩ : ByteArray), (⟨#[102, 97]⟩ : ByteArray), (⟨#[102, 98]⟩ : ByteArray), (⟨#[108, 97]⟩ : ByteArray), (⟨#[120, 97]⟩ : ByteArray), (⟨#[97, 98, 99, 100, 101, 102, 103, 104, 105, 106, 107, 108, 109, 110, 111, 112, 113, 114, 115, 116, 117, 118, 119, 120, 121, 122, 48, 49, 50, 51, 52, 53, 54]⟩ : ByteArray), (⟨#[117, 115, 101, 114]⟩ : ByteArray), (⟨#[97, 46, 98]⟩ : ByteArray)]))).bind fun v1 =>
(rdO ([ByteArray.empty, (⟨#[66, 97, 100]⟩ : ByteArray), (⟨#[57, 97]⟩ : ByteArray), (⟨#[111, 110]⟩ : ByteArray), (⟨#[107, 101, 121]⟩ : ByteArray), (⟨#[122, 122]⟩ : ByteArray), (⟨#[97]⟩ : ByteArray), (⟨#[97, 108, 112, 104, 97]⟩ : ByteArray), (⟨#[102, 97]⟩ : ByteArray), (⟨#[102, 98]⟩ : ByteArray), (⟨#[108, 97]⟩ : ByteArray), (⟨#[120, 97]⟩ : ByteArray), (⟨#[97, 98, 99, 100, 101, 102, 103, 104, 105, 106, 107, 108, 109, 110, 111, 112, 113, 114, 115, 116, 117, 118, 119, 120, 121, 122, 48, 49, 50, 51, 52, 53, 54]⟩ : ByteArray), (⟨#[117, 115, 101, 114]⟩ : ByteArray), (⟨#[97, 46, 98]⟩ : ByteArray)]) v1.1).bind fun v2 =>
 some (v2, v1.2)
variable {E : Env}
theorem s_draw_Codes_Name {n : Nat} {x0 : TCodes} {r : ByteArray × TCodes} (H : p_draw_Codes_Name n x0 = some r) :
    Sp Tryz.prog E 50 [.ptr 0 0] [.cells 101 (TCodes.cs x0)] (isA (sA r.1) [.cells 101 (TCodes.cs r.2)]) := by
  unfold p_draw_Codes_Name at H
  refine Sp_fn Tryz.func50 rfl (fun hc hs => ?_)
  refine AWP_reg (Rh 1 12 [(0, .ptr 0 0)] (AOps_done (AWP_reg (AOps_bsl (d := (some 4)) (m := 15) (cs := [sA ByteArray.empty, sA (⟨#[66, 97, 100]⟩ : ByteArray), sA (⟨#[57, 97]⟩ : ByteArray), sA (⟨#[111, 110]⟩ : ByteArray), sA (⟨#[107, 101, 121]⟩ : ByteArray), sA (⟨#[122, 122]⟩ : ByteArray), sA (⟨#[97]⟩ : ByteArray), sA (⟨#[97, 108, 112, 104, 97]⟩ : ByteArray), sA (⟨#[102, 97]⟩ : ByteArray), sA (⟨#[102, 98]⟩ : ByteArray), sA (⟨#[108, 97]⟩ : ByteArray), sA (⟨#[120, 97]⟩ : ByteArray), sA (⟨#[97, 98, 99, 100, 101, 102, 103, 104, 105, 106, 107, 108, 109, 110, 111, 112, 113, 114, 115, 116, 117, 118, 119, 120, 121, 122, 48, 49, 50, 51, 52, 53, 54]⟩ : ByteArray), sA (⟨#[117, 115, 101, 114]⟩ : ByteArray), sA (⟨#[97, 46, 98]⟩ : ByteArray)]) (by kernel_rfl) ⟨trivial, trivial, trivial, trivial, trivial, trivial, trivial, trivial, trivial, trivial, trivial, trivial, trivial, trivial, trivial, trivial⟩ ?_))))
  refine Rh 1 12 [(0, .ptr 0 0), (3, .ro .unk ([ByteArray.empty, (⟨#[66, 97, 100]⟩ : ByteArray), (⟨#[57, 97]⟩ : ByteArray), (⟨#[111, 110]⟩ : ByteArray), (⟨#[107, 101, 121]⟩ : ByteArray), (⟨#[122, 122]⟩ : ByteArray), (⟨#[97]⟩ : ByteArray), (⟨#[97, 108, 112, 104, 97]⟩ : ByteArray), (⟨#[102, 97]⟩ : ByteArray), (⟨#[102, 98]⟩ : ByteArray), (⟨#[108, 97]⟩ : ByteArray), (⟨#[120, 97]⟩ : ByteArray), (⟨#[97, 98, 99, 100, 101, 102, 103, 104, 105, 106, 107, 108, 109, 110, 111, 112, 113, 114, 115, 116, 117, 118, 119, 120, 121, 122, 48, 49, 50, 51, 52, 53, 54]⟩ : ByteArray), (⟨#[117, 115, 101, 114]⟩ : ByteArray), (⟨#[97, 46, 98]⟩ : ByteArray)]).length (cl_str ([ByteArray.empty, (⟨#[66, 97, 100]⟩ : ByteArray), (⟨#[57, 97]⟩ : ByteArray), (⟨#[111, 110]⟩ : ByteArray), (⟨#[107, 101, 121]⟩ : ByteArray), (⟨#[122, 122]⟩ : ByteArray), (⟨#[97]⟩ : ByteArray), (⟨#[97, 108, 112, 104, 97]⟩ : ByteArray), (⟨#[102, 97]⟩ : ByteArray), (⟨#[102, 98]⟩ : ByteArray), (⟨#[108, 97]⟩ : ByteArray), (⟨#[120, 97]⟩ : ByteArray), (⟨#[97, 98, 99, 100, 101, 102, 103, 104, 105, 106, 107, 108, 109, 110, 111, 112, 113, 114, 115, 116, 117, 118, 119, 120, 121, 122, 48, 49, 50, 51, 52, 53, 54]⟩ : ByteArray), (⟨#[117, 115, 101, 114]⟩ : ByteArray), (⟨#[97, 46, 98]⟩ : ByteArray)])))] (AOps_done (AWP_reg (Rh 4 12 [(5, .ro .unk ([ByteArray.empty, (⟨#[66, 97, 100]⟩ : ByteArray), (⟨#[57, 97]⟩ : ByteArray), (⟨#[111, 110]⟩ : ByteArray), (⟨#[107, 101, 121]⟩ : ByteArray), (⟨#[122, 122]⟩ : ByteArray), (⟨#[97]⟩ : ByteArray), (⟨#[97, 108, 112, 104, 97]⟩ : ByteArray), (⟨#[102, 97]⟩ : ByteArray), (⟨#[102, 98]⟩ : ByteArray), (⟨#[108, 97]⟩ : ByteArray), (⟨#[120, 97]⟩ : ByteArray), (⟨#[97, 98, 99, 100, 101, 102, 103, 104, 105, 106, 107, 108, 109, 110, 111, 112, 113, 114, 115, 116, 117, 118, 119, 120, 121, 122, 48, 49, 50, 51, 52, 53, 54]⟩ : ByteArray), (⟨#[117, 115, 101, 114]⟩ : ByteArray), (⟨#[97, 46, 98]⟩ : ByteArray)]).length (cl_str ([ByteArray.empty, (⟨#[66, 97, 100]⟩ : ByteArray), (⟨#[57, 97]⟩ : ByteArray), (⟨#[111, 110]⟩ : ByteArray), (⟨#[107, 101, 121]⟩ : ByteArray), (⟨#[122, 122]⟩ : ByteArray), (⟨#[97]⟩ : ByteArray), (⟨#[97, 108, 112, 104, 97]⟩ : ByteArray), (⟨#[102, 97]⟩ : ByteArray), (⟨#[102, 98]⟩ : ByteArray), (⟨#[108, 97]⟩ : ByteArray), (⟨#[120, 97]⟩ : ByteArray), (⟨#[97, 98, 99, 100, 101, 102, 103, 104, 105, 106, 107, 108, 109, 110, 111, 112, 113, 114, 115, 116, 117, 118, 119, 120, 121, 122, 48, 49, 50, 51, 52, 53, 54]⟩ : ByteArray), (⟨#[117, 115, 101, 114]⟩ : ByteArray), (⟨#[97, 46, 98]⟩ : ByteArray)]))), (6, .ptr 0 0), (8, iA (lI ([ByteArray.empty, (⟨#[66, 97, 100]⟩ : ByteArray), (⟨#[57, 97]⟩ : ByteArray), (⟨#[111, 110]⟩ : ByteArray), (⟨#[107, 101, 121]⟩ : ByteArray), (⟨#[122, 122]⟩ : ByteArray), (⟨#[97]⟩ : ByteArray), (⟨#[97, 108, 112, 104, 97]⟩ : ByteArray), (⟨#[102, 97]⟩ : ByteArray), (⟨#[102, 98]⟩ : ByteArray), (⟨#[108, 97]⟩ : ByteArray), (⟨#[120, 97]⟩ : ByteArray), (⟨#[97, 98, 99, 100, 101, 102, 103, 104, 105, 106, 107, 108, 109, 110, 111, 112, 113, 114, 115, 116, 117, 118, 119, 120, 121, 122, 48, 49, 50, 51, 52, 53, 54]⟩ : ByteArray), (⟨#[117, 115, 101, 114]⟩ : ByteArray), (⟨#[97, 46, 98]⟩ : ByteArray)])))] ?_)))
  obtain ⟨v1, hv1, H⟩ := bind_some H
  refine AOps_call1 (d := (some 9)) (al := [.ptr 0 0, iA (lI ([ByteArray.empty, (⟨#[66, 97, 100]⟩ : ByteArray), (⟨#[57, 97]⟩ : ByteArray), (⟨#[111, 110]⟩ : ByteArray), (⟨#[107, 101, 121]⟩ : ByteArray), (⟨#[122, 122]⟩ : ByteArray), (⟨#[97]⟩ : ByteArray), (⟨#[97, 108, 112, 104, 97]⟩ : ByteArray), (⟨#[102, 97]⟩ : ByteArray), (⟨#[102, 98]⟩ : ByteArray), (⟨#[108, 97]⟩ : ByteArray), (⟨#[120, 97]⟩ : ByteArray), (⟨#[97, 98, 99, 100, 101, 102, 103, 104, 105, 106, 107, 108, 109, 110, 111, 112, 113, 114, 115, 116, 117, 118, 119, 120, 121, 122, 48, 49, 50, 51, 52, 53, 54]⟩ : ByteArray), (⟨#[117, 115, 101, 114]⟩ : ByteArray), (⟨#[97, 46, 98]⟩ : ByteArray)]))]) ([.ptr 0 0, iA (lI ([ByteArray.empty, (⟨#[66, 97, 100]⟩ : ByteArray), (⟨#[57, 97]⟩ : ByteArray), (⟨#[111, 110]⟩ : ByteArray), (⟨#[107, 101, 121]⟩ : ByteArray), (⟨#[122, 122]⟩ : ByteArray), (⟨#[97]⟩ : ByteArray), (⟨#[97, 108, 112, 104, 97]⟩ : ByteArray), (⟨#[102, 97]⟩ : ByteArray), (⟨#[102, 98]⟩ : ByteArray), (⟨#[108, 97]⟩ : ByteArray), (⟨#[120, 97]⟩ : ByteArray), (⟨#[97, 98, 99, 100, 101, 102, 103, 104, 105, 106, 107, 108, 109, 110, 111, 112, 113, 114, 115, 116, 117, 118, 119, 120, 121, 122, 48, 49, 50, 51, 52, 53, 54]⟩ : ByteArray), (⟨#[117, 115, 101, 114]⟩ : ByteArray), (⟨#[97, 46, 98]⟩ : ByteArray)]))]) (r := iA v1.1) (j := 0) (b' := .cells 101 (TCodes.cs v1.2)) (by kernel_rfl) rfl (s_draw_Codes_Next hv1) (⟨(scl_cl_u8 _ _), trivial, trivial⟩) (⟨(scl_cl_u8 _ _), trivial, trivial⟩) ⟨Nat.zero_lt_one, trivial, trivial⟩ trivial rfl (h' := [.cells 101 (TCodes.cs v1.2)]) rfl ?_
  obtain ⟨v2, hv2, H⟩ := bind_some H
  refine AOps_index (d := (some 10)) (sz := 1) (c := cs_str) (by kernel_rfl) rfl (eq_cl_str _) (fun _ => rfl) (by decide) hv2 (fun tl2 => ?_)
  refine Rh 2 12 [(2, sA v2)] (AOps_done (AWP_ret ?_))
  have hr := Option.some.inj H
  subst hr
  exact Fin_retn 0 (l := [sA v2]) (h' := [.cells 101 (TCodes.cs v1.2)]) (by kernel_rfl) rfl (Nat.le_of_ble_eq_true rfl) ((by refine Closed_of ?_; exact ⟨⟨(scl_cl_u8 _ _), trivial, trivial⟩, trivial⟩)) (Frz_sc trivial) ⟨rfl, rfl⟩
end Go.Proofs.YtjhbobacbaikoaaGreatDoor
/- A function of the program as a pure function, and that the program computes it. -/
namespace Go.Proofs.YtjhbobacbaikoaaGreatDoor
open Go
set_option linter.unusedVariables false
set_option linter.unusedSimpArgs false
set_option maxRecDepth 100000
def p_draw_Codes_Number (n : Nat) (x0 : TCodes) : Option (Int × TCodes) :=
(p_draw_Codes_Next n x0 (lI ([0, (-1), 1, 2, 8, 9, 10000, 10001, 1099511627776, 1099511627777, (-1099511627777), 1099511627777, 4, 5, 6]))).bind fun v1 =>
(rdO ([0, (-1), 1, 2, 8, 9, 10000, 10001, 1099511627776, 1099511627777, (-1099511627777), 1099511627777, 4, 5, 6]) v1.1).bind fun v2 =>
 some (v2, v1.2)
variable {E : Env}
theorem s_draw_Codes_Number {n : Nat} {x0 : TCodes} {r : Int × TCodes} (H : p_draw_Codes_Number n x0 = some r) :
    Sp Tryz.prog E 51 [.ptr 0 0] [.cells 101 (TCodes.cs x0)] (isA (iA r.1) [.cells 101 (TCodes.cs r.2)]) := by
  unfold p_draw_Codes_Number at H
  refine Sp_fn Tryz.func51 rfl (fun hc hs => ?_)
  refine AWP_reg (Rh 1 12 [(0, .ptr 0 0)] (AOps_done (AWP_reg (AOps_bsl (d := (some 4)) (m := 15) (cs := [iA 0, iA (-1), iA 1, iA 2, iA 8, iA 9, iA 10000, iA 10001, iA 1099511627776, iA 1099511627777, iA (-1099511627777), iA 1099511627777, iA 4, iA 5, iA 6]) (by kernel_rfl) ⟨trivial, trivial, trivial, trivial, trivial, trivial, trivial, trivial, trivial, trivial, trivial, trivial, trivial, trivial, trivial, trivial⟩ ?_))))
  refine Rh 1 12 [(0, .ptr 0 0), (3, .ro .unk ([0, (-1), 1, 2, 8, 9, 10000, 10001, 1099511627776, 1099511627777, (-1099511627777), 1099511627777, 4, 5, 6]).length (cl_i64 ([0, (-1), 1, 2, 8, 9, 10000, 10001, 1099511627776, 1099511627777, (-1099511627777), 1099511627777, 4, 5, 6])))] (AOps_done (AWP_reg (Rh 4 12 [(5, .ro .unk ([0, (-1), 1, 2, 8, 9, 10000, 10001, 1099511627776, 1099511627777, (-1099511627777), 1099511627777, 4, 5, 6]).length (cl_i64 ([0, (-1), 1, 2, 8, 9, 10000, 10001, 1099511627776, 1099511627777, (-1099511627777), 1099511627777, 4, 5, 6]))), (6, .ptr 0 0), (8, iA (lI ([0, (-1), 1, 2, 8, 9, 10000, 10001, 1099511627776, 1099511627777, (-1099511627777), 1099511627777, 4, 5, 6])))] ?_)))
  obtain ⟨v1, hv1, H⟩ := bind_some H
  refine AOps_call1 (d := (some 9)) (al := [.ptr 0 0, iA (lI ([0, (-1), 1, 2, 8, 9, 10000, 10001, 1099511627776, 1099511627777, (-1099511627777), 1099511627777, 4, 5, 6]))]) ([.ptr 0 0, iA (lI ([0, (-1), 1, 2, 8, 9, 10000, 10001, 1099511627776, 1099511627777, (-1099511627777), 1099511627777, 4, 5, 6]))]) (r := iA v1.1) (j := 0) (b' := .cells 101 (TCodes.cs v1.2)) (by kernel_rfl) rfl (s_draw_Codes_Next hv1) (⟨(scl_cl_u8 _ _), trivial, trivial⟩) (⟨(scl_cl_u8 _ _), trivial, trivial⟩) ⟨Nat.zero_lt_one, trivial, trivial⟩ trivial rfl (h' := [.cells 101 (TCodes.cs v1.2)]) rfl ?_
  obtain ⟨v2, hv2, H⟩ := bind_some H
  refine AOps_index (d := (some 10)) (sz := 1) (c := cs_i64) (by kernel_rfl) rfl (eq_cl_i64 _) (fun _ => rfl) (by decide) hv2 (fun tl2 => ?_)
  refine Rh 2 12 [(2, iA v2)] (AOps_done (AWP_ret ?_))
  have hr := Option.some.inj H
  subst hr
  exact Fin_retn 0 (l := [iA v2]) (h' := [.cells 101 (TCodes.cs v1.2)]) (by kernel_rfl) rfl (Nat.le_of_ble_eq_true rfl) ((by refine Closed_of ?_; exact ⟨⟨(scl_cl_u8 _ _), trivial, trivial⟩, trivial⟩)) (Frz_sc trivial) ⟨rfl, rfl⟩
end Go.Proofs.YtjhbobacbaikoaaGreatDoor
/- Drawn values and tests: what they are, and that they are well-formed. -/
namespace Go.Proofs.YtjhbobacbaikoaaGreatDoor
open Go
set_option linter.unusedVariables false
set_option linter.unusedSimpArgs false
set_option maxRecDepth 100000
theorem Al.all {α : Type} {P : Nat → α → Prop} : ∀ {l : List α}, (∀ x ∈ l, Al fun n => P n x) → Al fun n => ∀ x ∈ l, P n x
  | [], _ => .of fun n x h => by cases h
  | a :: l, h => ((h a (by simp)).and (Al.all (l := l) (P := P) fun x hx => h x (by simp [hx]))).mono fun n ⟨h1, h2⟩ x hx => by
    rcases List.mem_cons.1 hx with rfl | hx
    · exact h1
    · exact h2 x hx
theorem Al.addk {P : Nat → Prop} (k : Nat) (h : ∀ n, P (n + k)) : Al P := ⟨k, fun n hn => by
  have := h (n - k)
  rwa [Nat.sub_add_cancel hn] at this⟩
/-! ## values -/
def vI (k x : Int) : TValue := { gKind := k, gNumber := x, gText := ByteArray.empty, gList := [] }
def vT (k : Int) (t : ByteArray) : TValue := { gKind := k, gNumber := 0, gText := t, gList := [] }
def vL (l : List ByteArray) : TValue := { gKind := 5, gNumber := 0, gText := ByteArray.empty, gList := l }
def drawnV : List TValue := [vI 1 0, vI 1 1] ++ ([0, 1, 17, 18, 19, (-5), 64, 1099511627776, (-1099511627776)] : List Int).map (vI 2) ++ gl_texts.map (vT 3) ++ gl_versions.map (vT 4) ++ gl_lists.map vL
def keys10 : List ByteArray := [48, 49, 50, 51, 52, 53, 54, 55, 56, 57].map fun b => ⟨#[107, b]⟩
def goodV : List TValue := drawnV ++ keys10.map (vT 3)
def TValue.bd (x : TValue) : Prop := x.gText.size ≤ 100 ∧ x.gList.length ≤ 100 ∧ ∀ s ∈ x.gList, s.size ≤ 100
theorem good_check (n : Nat) : ∀ v ∈ goodV, p_value_Check (n + 60) v = some 0 := by
  have h : (goodV.all fun v => p_value_Check (n + 60) v == some 0) = true := by kernel_rfl
  intro v hv
  exact beq_iff_eq.1 (List.all_eq_true.1 h v hv)
theorem good_bd : ∀ v ∈ goodV, v.bd := by
  have h : (goodV.all fun v => decide (v.gText.size ≤ 100) && (decide (v.gList.length ≤ 100) && v.gList.all fun s => decide (s.size ≤ 100))) = true := by kernel_rfl
  intro v hv
  have h := List.all_eq_true.1 h v hv
  simp only [Bool.and_eq_true, decide_eq_true_eq, List.all_eq_true] at h
  exact ⟨h.1, h.2.1, h.2.2⟩
theorem drawn_kind : ∀ v ∈ drawnV, 1 ≤ v.gKind ∧ v.gKind ≤ 5 := by
  have h : (drawnV.all fun v => decide (1 ≤ v.gKind) && decide (v.gKind ≤ 5)) = true := by kernel_rfl
  intro v hv
  have h := List.all_eq_true.1 h v hv
  simp only [Bool.and_eq_true, decide_eq_true_eq] at h
  exact h
section
variable {c : TCodes} (hc : c.cok)
 include hc
theorem text_gv : Gv (fun n => p_draw_Codes_Text n c) fun r => r.1 ∈ gl_texts ∧ r.2.cok := by
  unfold p_draw_Codes_Text
  refine Gv.bind (next_gv hc (k := 11) (by decide) (by decide)) fun r hr => ?_
  refine Gv.bind (Gv.rd (Q := fun t => t ∈ gl_texts) hr.1 (by have : gl_texts.length = 11 := rfl; omega) fun x hx => hx) fun t ht => Gv.pure ⟨ht, hr.2.2⟩
theorem name_gv : Gv (fun n => p_draw_Codes_Name n c) fun r => r.1.size ≤ 40 ∧ r.2.cok := by
  unfold p_draw_Codes_Name
  refine Gv.bind (next_gv hc (k := 15) (by decide) (by decide)) fun r hr => ?_
  refine Gv.bind (Gv.rd (Q := fun t => t.size ≤ 40) hr.1 (by have := hr.2.1; simpa using this) ?_) fun t ht => Gv.pure ⟨ht, hr.2.2⟩
  decide
theorem number_gv : Gv (fun n => p_draw_Codes_Number n c) fun r => r.2.cok := by
  unfold p_draw_Codes_Number
  refine Gv.bind (next_gv hc (k := 15) (by decide) (by decide)) fun r hr => ?_
  exact Gv.bind (Gv.rd (Q := fun _ => True) hr.1 (by have := hr.2.1; simpa using this) fun _ _ => trivial) fun t ht => Gv.pure hr.2.2
theorem value_gv (k : Int) (hk : 1 ≤ k ∧ k ≤ 5) : Gv (fun n => p_draw_Codes_Value n c k) fun r => (r.1 ∈ drawnV ∧ r.1.gKind = k) ∧ r.2.cok := by
  unfold p_draw_Codes_Value
  refine Gv.cond (fun h => ?_) (fun h1 => Gv.cond (fun h => ?_) (fun h2 => Gv.cond (fun h => ?_) (fun h3 => Gv.cond (fun h => ?_) (fun h4 => ?_))))
  · obtain rfl := beq_iff_eq.1 h
    refine Gv.bind (next_gv hc (k := 2) (by decide) (by decide)) fun r hr => Gv.pure ⟨⟨?_, rfl⟩, hr.2.2⟩
    have : r.1 = 0 ∨ r.1 = 1 := by omega
    rcases this with e | e <;> rw [e] <;> simp [drawnV, vI]
  · obtain rfl := beq_iff_eq.1 h
    refine Gv.bind (next_gv hc (k := 9) (by decide) (by decide)) fun r hr => ?_
    refine Gv.bind (Gv.rd (Q := fun x => x ∈ ([0, 1, 17, 18, 19, (-5), 64, 1099511627776, (-1099511627776)] : List Int)) hr.1 (by have := hr.2.1; simpa using this) fun x hx => hx) fun x hx => Gv.pure ⟨⟨?_, rfl⟩, hr.2.2⟩
    have : vI 2 x ∈ drawnV := by
      unfold drawnV
      exact List.mem_append_left _ (List.mem_append_left _ (List.mem_append_left _ (List.mem_append_right _ (List.mem_map_of_mem hx))))
    exact this
  · obtain rfl := beq_iff_eq.1 h
    refine Gv.bind (text_gv hc) fun r hr => Gv.pure ⟨⟨?_, rfl⟩, hr.2⟩
    have : vT 3 r.1 ∈ drawnV := by
      unfold drawnV
      exact List.mem_append_left _ (List.mem_append_left _ (List.mem_append_right _ (List.mem_map_of_mem hr.1)))
    exact this
  · obtain rfl := beq_iff_eq.1 h
    refine Gv.bind (next_gv hc (k := 6) (by decide) (by decide)) fun r hr => ?_
    refine Gv.bind (Gv.rd (Q := fun x => x ∈ gl_versions) hr.1 (by have : gl_versions.length = 6 := rfl; omega) fun x hx => hx) fun x hx => Gv.pure ⟨⟨?_, rfl⟩, hr.2.2⟩
    have : vT 4 x ∈ drawnV := by
      unfold drawnV
      exact List.mem_append_left _ (List.mem_append_right _ (List.mem_map_of_mem hx))
    exact this
  · refine Gv.bind (next_gv hc (k := 5) (by decide) (by decide)) fun r hr => ?_
    refine Gv.bind (Gv.rd (Q := fun x => x ∈ gl_lists ∧ x.length ≤ 100) hr.1 (by have : gl_lists.length = 5 := rfl; omega) ?_) fun x hx => ?_
    · intro x hx
      exact ⟨hx, by have h : (gl_lists.all fun l => decide (l.length ≤ 100)) = true := by decide
                    simpa using List.all_eq_true.1 h x hx⟩
    · refine Gv.bind (Gv.app (Q := fun l => l = x) (by have := hx.2; simp; omega) (by decide) (by simp)) ?_
      rintro l rfl
      refine Gv.pure ⟨⟨?_, ?_⟩, hr.2.2⟩
      · have : vL l ∈ drawnV := by
          unfold drawnV
          exact List.mem_append_right _ (List.mem_map_of_mem hx.1)
        exact this
      · have h1 := beq_eq_false_iff_ne.1 h1
        have h2 := beq_eq_false_iff_ne.1 h2
        have h3 := beq_eq_false_iff_ne.1 h3
        have h4 := beq_eq_false_iff_ne.1 h4
        show (5 : Int) = k
        omega
theorem any_gv : Gv (fun n => p_draw_Codes_Any n c) fun r => r.1 ∈ drawnV ∧ r.2.cok := by
  unfold p_draw_Codes_Any
  refine Gv.bind (next_gv hc (k := 5) (by decide) (by decide)) fun r hr => ?_
  rw [w64_of (show -9223372036854775808 ≤ 1 + r.1 by omega) (by omega)]
  exact Gv.bind (value_gv hr.2.2 _ ⟨by omega, by omega⟩) fun v hv => Gv.pure ⟨hv.1.1, hv.2⟩
theorem key_gv : Gv (fun n => p_draw_Codes_Key n c) fun r => r.1 ∈ keys10 ∧ r.2.cok := by
  unfold p_draw_Codes_Key
  refine Gv.bind (next_gv hc (k := 10) (by decide) (by decide)) fun r hr => ?_
  have key : ∃ s, catO (⟨#[107]⟩ : ByteArray) (Utf8.encode (IntKind.i32.wrap (w64 (48 + r.1)))) = some s ∧ s ∈ keys10 := by
    obtain ⟨h0, h1, _⟩ := hr
    have : r.1 = 0 ∨ r.1 = 1 ∨ r.1 = 2 ∨ r.1 = 3 ∨ r.1 = 4 ∨ r.1 = 5 ∨ r.1 = 6 ∨ r.1 = 7 ∨ r.1 = 8 ∨ r.1 = 9 := by omega
    have hd : (keys10.map fun s => s.data.toList) = [48, 49, 50, 51, 52, 53, 54, 55, 56, 57].map fun b => [107, b] := rfl
    rcases this with e | e | e | e | e | e | e | e | e | e <;> rw [e]
    · exact ⟨⟨#[107, 48]⟩, by kernel_rfl, by simp [keys10]⟩
    · exact ⟨⟨#[107, 49]⟩, by kernel_rfl, by simp [keys10]⟩
    · exact ⟨⟨#[107, 50]⟩, by kernel_rfl, by simp [keys10]⟩
    · exact ⟨⟨#[107, 51]⟩, by kernel_rfl, by simp [keys10]⟩
    · exact ⟨⟨#[107, 52]⟩, by kernel_rfl, by simp [keys10]⟩
    · exact ⟨⟨#[107, 53]⟩, by kernel_rfl, by simp [keys10]⟩
    · exact ⟨⟨#[107, 54]⟩, by kernel_rfl, by simp [keys10]⟩
    · exact ⟨⟨#[107, 55]⟩, by kernel_rfl, by simp [keys10]⟩
    · exact ⟨⟨#[107, 56]⟩, by kernel_rfl, by simp [keys10]⟩
    · exact ⟨⟨#[107, 57]⟩, by kernel_rfl, by simp [keys10]⟩
  obtain ⟨s, e, hs⟩ := key
  exact Gv.bind (Gv.opt (Q := fun x => x ∈ keys10) e hs) fun x hx => Gv.pure ⟨hx, hr.2.2⟩
end
end Go.Proofs.YtjhbobacbaikoaaGreatDoor
/- A function of the program as a pure function, and that the program computes it. -/
namespace Go.Proofs.YtjhbobacbaikoaaGreatDoor
open Go
set_option linter.unusedVariables false
set_option linter.unusedSimpArgs false
set_option maxRecDepth 100000
def p_draw_Declared (n : Nat)  : Option (List TDeclared) :=
 some ([({ gKind := (⟨#[100, 101, 118, 105, 99, 101]⟩ : ByteArray), gName := (⟨#[99, 111, 114, 101, 115]⟩ : ByteArray), gType := 2 } : TDeclared), ({ gKind := (⟨#[100, 101, 118, 105, 99, 101]⟩ : ByteArray), gName := (⟨#[111, 115]⟩ : ByteArray), gType := 3 } : TDeclared), ({ gKind := (⟨#[117, 115, 101, 114]⟩ : ByteArray), gName := (⟨#[97, 103, 101]⟩ : ByteArray), gType := 2 } : TDeclared), ({ gKind := (⟨#[117, 115, 101, 114]⟩ : ByteArray), gName := (⟨#[97, 112, 112]⟩ : ByteArray), gType := 4 } : TDeclared), ({ gKind := (⟨#[117, 115, 101, 114]⟩ : ByteArray), gName := (⟨#[98, 101, 116, 97]⟩ : ByteArray), gType := 1 } : TDeclared), ({ gKind := (⟨#[117, 115, 101, 114]⟩ : ByteArray), gName := (⟨#[99, 111, 117, 110, 116, 114, 121]⟩ : ByteArray), gType := 3 } : TDeclared), ({ gKind := (⟨#[117, 115, 101, 114]⟩ : ByteArray), gName := (⟨#[112, 108, 97, 110]⟩ : ByteArray), gType := 3 } : TDeclared), ({ gKind := (⟨#[117, 115, 101, 114]⟩ : ByteArray), gName := (⟨#[116, 97, 103, 115]⟩ : ByteArray), gType := 5 } : TDeclared)])
variable {E : Env}
theorem s_draw_Declared {n : Nat}  {r : (List TDeclared)} (H : p_draw_Declared n  = some r) :
    Sp Tryz.prog E 60 [] [] (isA (.ro .unk r.length (TDeclared.cl r)) []) := by
  unfold p_draw_Declared at H
  refine Sp_fn Tryz.func60 rfl (fun hc hs => ?_)
  refine AWP_reg (Rh 1 10 [] (AOps_done (AWP_reg (Rh 8 10 [(1, .agg [sA (⟨#[100, 101, 118, 105, 99, 101]⟩ : ByteArray), sA (⟨#[99, 111, 114, 101, 115]⟩ : ByteArray), iA 2]), (2, .agg [sA (⟨#[100, 101, 118, 105, 99, 101]⟩ : ByteArray), sA (⟨#[111, 115]⟩ : ByteArray), iA 3]), (3, .agg [sA (⟨#[117, 115, 101, 114]⟩ : ByteArray), sA (⟨#[97, 103, 101]⟩ : ByteArray), iA 2]), (4, .agg [sA (⟨#[117, 115, 101, 114]⟩ : ByteArray), sA (⟨#[97, 112, 112]⟩ : ByteArray), iA 4]), (5, .agg [sA (⟨#[117, 115, 101, 114]⟩ : ByteArray), sA (⟨#[98, 101, 116, 97]⟩ : ByteArray), iA 1]), (6, .agg [sA (⟨#[117, 115, 101, 114]⟩ : ByteArray), sA (⟨#[99, 111, 117, 110, 116, 114, 121]⟩ : ByteArray), iA 3]), (7, .agg [sA (⟨#[117, 115, 101, 114]⟩ : ByteArray), sA (⟨#[112, 108, 97, 110]⟩ : ByteArray), iA 3]), (8, .agg [sA (⟨#[117, 115, 101, 114]⟩ : ByteArray), sA (⟨#[116, 97, 103, 115]⟩ : ByteArray), iA 5])] (AOps_bsl (d := (some 9)) (m := 8) (cs := [sA (⟨#[100, 101, 118, 105, 99, 101]⟩ : ByteArray), sA (⟨#[99, 111, 114, 101, 115]⟩ : ByteArray), iA 2, sA (⟨#[100, 101, 118, 105, 99, 101]⟩ : ByteArray), sA (⟨#[111, 115]⟩ : ByteArray), iA 3, sA (⟨#[117, 115, 101, 114]⟩ : ByteArray), sA (⟨#[97, 103, 101]⟩ : ByteArray), iA 2, sA (⟨#[117, 115, 101, 114]⟩ : ByteArray), sA (⟨#[97, 112, 112]⟩ : ByteArray), iA 4, sA (⟨#[117, 115, 101, 114]⟩ : ByteArray), sA (⟨#[98, 101, 116, 97]⟩ : ByteArray), iA 1, sA (⟨#[117, 115, 101, 114]⟩ : ByteArray), sA (⟨#[99, 111, 117, 110, 116, 114, 121]⟩ : ByteArray), iA 3, sA (⟨#[117, 115, 101, 114]⟩ : ByteArray), sA (⟨#[112, 108, 97, 110]⟩ : ByteArray), iA 3, sA (⟨#[117, 115, 101, 114]⟩ : ByteArray), sA (⟨#[116, 97, 103, 115]⟩ : ByteArray), iA 5]) (by kernel_rfl) ⟨trivial, trivial, trivial, trivial, trivial, trivial, trivial, trivial, trivial, trivial, trivial, trivial, trivial, trivial, trivial, trivial, trivial, trivial, trivial, trivial, trivial, trivial, trivial, trivial, trivial⟩ ?_)))))
  refine Rh 1 10 [(0, .ro .unk ([({ gKind := (⟨#[100, 101, 118, 105, 99, 101]⟩ : ByteArray), gName := (⟨#[99, 111, 114, 101, 115]⟩ : ByteArray), gType := 2 } : TDeclared), ({ gKind := (⟨#[100, 101, 118, 105, 99, 101]⟩ : ByteArray), gName := (⟨#[111, 115]⟩ : ByteArray), gType := 3 } : TDeclared), ({ gKind := (⟨#[117, 115, 101, 114]⟩ : ByteArray), gName := (⟨#[97, 103, 101]⟩ : ByteArray), gType := 2 } : TDeclared), ({ gKind := (⟨#[117, 115, 101, 114]⟩ : ByteArray), gName := (⟨#[97, 112, 112]⟩ : ByteArray), gType := 4 } : TDeclared), ({ gKind := (⟨#[117, 115, 101, 114]⟩ : ByteArray), gName := (⟨#[98, 101, 116, 97]⟩ : ByteArray), gType := 1 } : TDeclared), ({ gKind := (⟨#[117, 115, 101, 114]⟩ : ByteArray), gName := (⟨#[99, 111, 117, 110, 116, 114, 121]⟩ : ByteArray), gType := 3 } : TDeclared), ({ gKind := (⟨#[117, 115, 101, 114]⟩ : ByteArray), gName := (⟨#[112, 108, 97, 110]⟩ : ByteArray), gType := 3 } : TDeclared), ({ gKind := (⟨#[117, 115, 101, 114]⟩ : ByteArray), gName := (⟨#[116, 97, 103, 115]⟩ : ByteArray), gType := 5 } : TDeclared)]).length (TDeclared.cl ([({ gKind := (⟨#[100, 101, 118, 105, 99, 101]⟩ : ByteArray), gName := (⟨#[99, 111, 114, 101, 115]⟩ : ByteArray), gType := 2 } : TDeclared), ({ gKind := (⟨#[100, 101, 118, 105, 99, 101]⟩ : ByteArray), gName := (⟨#[111, 115]⟩ : ByteArray), gType := 3 } : TDeclared), ({ gKind := (⟨#[117, 115, 101, 114]⟩ : ByteArray), gName := (⟨#[97, 103, 101]⟩ : ByteArray), gType := 2 } : TDeclared), ({ gKind := (⟨#[117, 115, 101, 114]⟩ : ByteArray), gName := (⟨#[97, 112, 112]⟩ : ByteArray), gType := 4 } : TDeclared), ({ gKind := (⟨#[117, 115, 101, 114]⟩ : ByteArray), gName := (⟨#[98, 101, 116, 97]⟩ : ByteArray), gType := 1 } : TDeclared), ({ gKind := (⟨#[117, 115, 101, 114]⟩ : ByteArray), gName := (⟨#[99, 111, 117, 110, 116, 114, 121]⟩ : ByteArray), gType := 3 } : TDeclared), ({ gKind := (⟨#[117, 115, 101, 114]⟩ : ByteArray), gName := (⟨#[112, 108, 97, 110]⟩ : ByteArray), gType := 3 } : TDeclared), ({ gKind := (⟨#[117, 115, 101, 114]⟩ : ByteArray), gName := (⟨#[116, 97, 103, 115]⟩ : ByteArray), gType := 5 } : TDeclared)])))] (AOps_done (AWP_ret ?_))
  have hr := Option.some.inj H
  subst hr
  exact Fin_retn 0 (l := [.ro .unk ([({ gKind := (⟨#[100, 101, 118, 105, 99, 101]⟩ : ByteArray), gName := (⟨#[99, 111, 114, 101, 115]⟩ : ByteArray), gType := 2 } : TDeclared), ({ gKind := (⟨#[100, 101, 118, 105, 99, 101]⟩ : ByteArray), gName := (⟨#[111, 115]⟩ : ByteArray), gType := 3 } : TDeclared), ({ gKind := (⟨#[117, 115, 101, 114]⟩ : ByteArray), gName := (⟨#[97, 103, 101]⟩ : ByteArray), gType := 2 } : TDeclared), ({ gKind := (⟨#[117, 115, 101, 114]⟩ : ByteArray), gName := (⟨#[97, 112, 112]⟩ : ByteArray), gType := 4 } : TDeclared), ({ gKind := (⟨#[117, 115, 101, 114]⟩ : ByteArray), gName := (⟨#[98, 101, 116, 97]⟩ : ByteArray), gType := 1 } : TDeclared), ({ gKind := (⟨#[117, 115, 101, 114]⟩ : ByteArray), gName := (⟨#[99, 111, 117, 110, 116, 114, 121]⟩ : ByteArray), gType := 3 } : TDeclared), ({ gKind := (⟨#[117, 115, 101, 114]⟩ : ByteArray), gName := (⟨#[112, 108, 97, 110]⟩ : ByteArray), gType := 3 } : TDeclared), ({ gKind := (⟨#[117, 115, 101, 114]⟩ : ByteArray), gName := (⟨#[116, 97, 103, 115]⟩ : ByteArray), gType := 5 } : TDeclared)]).length (TDeclared.cl ([({ gKind := (⟨#[100, 101, 118, 105, 99, 101]⟩ : ByteArray), gName := (⟨#[99, 111, 114, 101, 115]⟩ : ByteArray), gType := 2 } : TDeclared), ({ gKind := (⟨#[100, 101, 118, 105, 99, 101]⟩ : ByteArray), gName := (⟨#[111, 115]⟩ : ByteArray), gType := 3 } : TDeclared), ({ gKind := (⟨#[117, 115, 101, 114]⟩ : ByteArray), gName := (⟨#[97, 103, 101]⟩ : ByteArray), gType := 2 } : TDeclared), ({ gKind := (⟨#[117, 115, 101, 114]⟩ : ByteArray), gName := (⟨#[97, 112, 112]⟩ : ByteArray), gType := 4 } : TDeclared), ({ gKind := (⟨#[117, 115, 101, 114]⟩ : ByteArray), gName := (⟨#[98, 101, 116, 97]⟩ : ByteArray), gType := 1 } : TDeclared), ({ gKind := (⟨#[117, 115, 101, 114]⟩ : ByteArray), gName := (⟨#[99, 111, 117, 110, 116, 114, 121]⟩ : ByteArray), gType := 3 } : TDeclared), ({ gKind := (⟨#[117, 115, 101, 114]⟩ : ByteArray), gName := (⟨#[112, 108, 97, 110]⟩ : ByteArray), gType := 3 } : TDeclared), ({ gKind := (⟨#[117, 115, 101, 114]⟩ : ByteArray), gName := (⟨#[116, 97, 103, 115]⟩ : ByteArray), gType := 5 } : TDeclared)]))]) (h' := []) (by kernel_rfl) rfl (Nat.le_of_ble_eq_true rfl) ((by refine Closed_of ?_; exact trivial)) (Frz_sc (scl_TDeclared_cl _ _)) ⟨rfl, rfl⟩
end Go.Proofs.YtjhbobacbaikoaaGreatDoor
