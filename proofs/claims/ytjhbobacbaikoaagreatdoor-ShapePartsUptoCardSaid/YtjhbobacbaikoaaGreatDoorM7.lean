/- Versions: the program's parts and the reference's parts are alike. -/
import Derived.Test.YtjhbobacbaikoaaGreatDoorM6
import Derived.Test.YtjhbobacbaikoaaGreatDoorM4
import Derived.Test.YtjhbobacbaikoaaGreatDoorM5
namespace Go.Proofs.YtjhbobacbaikoaaGreatDoor
open Go
set_option linter.unusedVariables false
set_option linter.unusedSimpArgs false
/-- What stands before the first point, and what from it on. -/
def pre (l : List UInt8) : List UInt8 := l.takeWhile (· != 46)
def rst (l : List UInt8) : List UInt8 := l.dropWhile (· != 46)
theorem pre_rst (l : List UInt8) : pre l ++ rst l = l := List.takeWhile_append_dropWhile
theorem rst_eq (l : List UInt8) : rst l = l.drop (pre l).length := by
  have h := pre_rst l
  calc rst l = (pre l ++ rst l).drop (pre l).length := by simp
    _ = l.drop (pre l).length := by rw [h]
theorem pre_len (l : List UInt8) : (pre l).length ≤ l.length := by have := congrArg List.length (pre_rst l); simp at this; omega
theorem pre_take (l : List UInt8) : pre l = l.take (pre l).length := by
  have h := pre_rst l
  calc pre l = (pre l ++ rst l).take (pre l).length := by simp
    _ = l.take (pre l).length := by rw [h]
theorem rst_nil_iff (l : List UInt8) : rst l = [] ↔ (pre l).length = l.length := by
  rw [rst_eq, List.drop_eq_nil_iff]
  have := pre_len l; omega
theorem pre_get {l : List UInt8} {j : Nat} (h : j < (pre l).length) : ∃ hl : j < l.length, l[j] ≠ 46 := by
  have hl : j < l.length := by have := pre_len l; omega
  refine ⟨hl, ?_⟩
  have hm : (pre l)[j] ∈ pre l := List.getElem_mem h
  have h1 : ((pre l)[j] != 46) = true := by
    have : ∀ x ∈ pre l, (x != 46) = true := fun x hx => by
      unfold pre at hx
      exact List.all_eq_true.1 List.all_takeWhile x hx
    exact this _ hm
  have e : (pre l)[j] = l[j] := by
    have h2 : (pre l)[j]? = l[j]? := by
      have := congrArg (·[j]?) (pre_take l)
      simp only [List.getElem?_take, if_pos h] at this
      exact this
    rw [List.getElem?_eq_getElem h, List.getElem?_eq_getElem hl] at h2
    exact Option.some.inj h2
  rw [e] at h1
  simpa using h1
theorem rst_head {l : List UInt8} (h : (pre l).length < l.length) : l[(pre l).length] = 46 := by
  have h2 : rst l ≠ [] := fun e => by have := (rst_nil_iff l).1 e; omega
  have h3 : rst l = l[(pre l).length] :: l.drop ((pre l).length + 1) := by rw [rst_eq]; exact List.drop_eq_getElem_cons h
  have h4 := List.head_dropWhile_not (· != (46 : UInt8)) (l := l) (by exact h2)
  have h5 : (l.dropWhile (· != (46 : UInt8))).head (by exact h2) = l[(pre l).length] := by
    have : l.dropWhile (· != (46 : UInt8)) = rst l := rfl
    simp only [this, h3, List.head_cons]
  rw [h5] at h4
  simpa using h4
def badn (v : Int × Int) : Bool := ((v.2 != 0) || decide (v.1 < 0)) || decide (v.1 > 999999)
/-- The three parts of a version. -/
def parts3 (l : List UInt8) : (Int × Int × Int) × Bool :=
  if rst l = [] then ((0, 0, 0), false) else
  if rst (rst l).tail = [] then ((0, 0, 0), false) else
  if rst (rst (rst l).tail).tail ≠ [] then ((0, 0, 0), false) else
  if badn (pn (pre l)) || badn (pn (pre (rst l).tail)) || badn (pn (pre (rst (rst l).tail).tail)) then ((0, 0, 0), false)
  else (((pn (pre l)).1, (pn (pre (rst l).tail)).1, (pn (pre (rst (rst l).tail).tail)).1), true)
/-! the reference -/
theorem ref_parts_end (x : ByteArray) (p a b c : Int) : Al fun n => p_ref3_parts_L1 n x p 3 a b c = some ((a, b, c), true) := by
  refine Al.succ (.of fun n => ?_)
  rw [p_ref3_parts_L1]
  rfl
theorem ref_parts_step (x : ByteArray) (hx : x.size < 4611686018427387904) (i : Nat) (hi : i < 3) (p : Nat) (hp : p ≤ x.size) (a b c : Int) (r : (Int × Int × Int) × Bool)
    (h : (badn (pn (pre (x.data.toList.drop p))) || !(decide (i < 2) == decide (rst (x.data.toList.drop p) ≠ []))) = true → r = ((0, 0, 0), false))
    (k : (badn (pn (pre (x.data.toList.drop p))) || !(decide (i < 2) == decide (rst (x.data.toList.drop p) ≠ []))) = false →
      Al fun n => p_ref3_parts_L1 n x ((p + (pre (x.data.toList.drop p)).length + 1 : Nat) : Int) ((i + 1 : Nat) : Int) (arI 0 i (pn (pre (x.data.toList.drop p))).1 a) (arI 1 i (pn (pre (x.data.toList.drop p))).1 b) (arI 2 i (pn (pre (x.data.toList.drop p))).1 c) = some r) :
    Al fun n => p_ref3_parts_L1 n x p i a b c = some r := by
  have hlen : (x.data.toList.drop p).length = x.size - p := by rw [List.length_drop, ← size_list]
  have hpl := pre_len (x.data.toList.drop p)
  generalize he : p + (pre (x.data.toList.drop p)).length = e at k
  have hend : Al fun n => p_ref3_parts_L2 n x p i a b c e = some r := by
    have hcut : cutS x p e = some (x.extract p e) := by
      unfold cutS
      have h1 : decide ((0 : Int) ≤ (p : Int)) = true := decide_eq_true (by omega)
      have h2 : decide ((p : Int) ≤ (e : Int)) = true := decide_eq_true (by omega)
      have h3 : decide ((e : Int) ≤ x.size) = true := decide_eq_true (by omega)
      rw [h1, h2, h3]; rfl
    have hsub : (x.extract p e).data.toList = pre (x.data.toList.drop p) := by
      rw [ext_list, pre_take, List.drop_take, ← he]
      congr 1; omega
    have hsz : (x.extract p e).size < 4611686018427387904 := by rw [ByteArray.size_extract]; omega
    have hstop : ∀ v : Option Int, (v = bif decide ((e : Int) < szI x) then rdS x e else some 0) → ∃ w, v = some w ∧ (decide ((e : Int) < szI x) && (w != 46)) = false := by
      intro v hv
      by_cases hl : e < x.size
      · rw [decide_eq_true (show (e : Int) < szI x by unfold szI; omega), cond_true, rdS_nat hl] at hv
        refine ⟨_, hv, ?_⟩
        have hh : (pre (x.data.toList.drop p)).length < (x.data.toList.drop p).length := by omega
        have h46 := rst_head hh
        rw [List.getElem_drop] at h46
        have : x[e]'hl = 46 := by rw [get_list hl]; simp only [he] at h46; exact h46
        rw [this]
        simp
      · rw [decide_eq_false (show ¬ (e : Int) < szI x by unfold szI; omega), cond_false] at hv
        refine ⟨_, hv, ?_⟩
        rw [decide_eq_false (show ¬ (e : Int) < szI x by unfold szI; omega)]; rfl
    have hel : decide ((e : Int) < szI x) = decide (rst (x.data.toList.drop p) ≠ []) := by
      have := rst_nil_iff (x.data.toList.drop p)
      by_cases hl : e < x.size
      · rw [decide_eq_true (show (e : Int) < szI x by unfold szI; omega), decide_eq_true (show rst (x.data.toList.drop p) ≠ [] from fun h => by have := this.1 h; omega)]
      · rw [decide_eq_false (show ¬ (e : Int) < szI x by unfold szI; omega), decide_eq_false (show ¬ rst (x.data.toList.drop p) ≠ [] from fun h => h (this.2 (by omega)))]
    have hi2 : decide ((i : Int) < 2) = decide (i < 2) := by by_cases h : i < 2 <;> simp [h] <;> omega
    have hnum := ref_num (x.extract p e) hsz
    rw [hsub] at hnum
    have hin : inO 3 (i : Int) = some () := by
      unfold inO
      have h1 : decide ((0 : Int) ≤ (i : Int)) = true := decide_eq_true (by omega)
      have h2 : decide ((i : Int) < ((3 : Nat) : Int)) = true := decide_eq_true (by omega)
      rw [h1, h2]; rfl
    cases hc : (badn (pn (pre (x.data.toList.drop p))) || !(decide (i < 2) == decide (rst (x.data.toList.drop p) ≠ []))) with
    | true =>
      rw [h hc]
      refine Al.succ (hnum.mono fun n hn => ?_)
      rw [p_ref3_parts_L2]
      obtain ⟨w, h1, h2⟩ := hstop _ rfl
      rw [h1, Option.bind_some, h2, cond_false, hcut, Option.bind_some, hn, Option.bind_some, hel, hi2]
      unfold badn at hc
      rw [hc]; rfl
    | false =>
      refine Al.succ ((hnum.and (k hc)).mono fun n ⟨hn, hk⟩ => ?_)
      rw [p_ref3_parts_L2]
      obtain ⟨w, h1, h2⟩ := hstop _ rfl
      rw [h1, Option.bind_some, h2, cond_false, hcut, Option.bind_some, hn, Option.bind_some, hel, hi2]
      unfold badn at hc
      rw [hc, cond_false, hin, Option.bind_some, w64_add (by omega), w64_add (by omega)]
      exact hk
  have hscan : ∀ (d q : Nat), q + d = e → p ≤ q → Al fun n => p_ref3_parts_L2 n x p i a b c q = some r := by
    intro d
    induction d with
    | zero => intro q hq _; obtain rfl : q = e := by omega
              exact hend
    | succ d ih =>
      intro q hq hpq
      have hl : q < x.size := by omega
      obtain ⟨hl2, hne⟩ := pre_get (l := x.data.toList.drop p) (j := q - p) (by omega)
      rw [List.getElem_drop] at hne
      have hne2 : x[q]'hl ≠ 46 := by
        rw [get_list hl]
        have : p + (q - p) = q := by omega
        simp only [this] at hne; exact hne
      refine Al.succ ((ih (q + 1) (by omega) (by omega)).mono fun n hn => ?_)
      rw [p_ref3_parts_L2, decide_eq_true (show (q : Int) < szI x by unfold szI; omega), cond_true, rdS_nat hl, Option.bind_some]
      have : ((((x[q]'hl).toNat : Int) != 46)) = true := by
        rw [bne_iff_ne]; intro h; exact hne2 (UInt8.toNat_inj.1 (by have : (46 : UInt8).toNat = 46 := rfl; omega))
      rw [this, Bool.true_and, cond_true, w64_add (by omega)]
      exact hn
  refine Al.succ ((hscan _ p he (Nat.le_refl _)).mono fun n hn => ?_)
  rw [p_ref3_parts_L1, decide_eq_true (show (i : Int) < 3 by omega), cond_true]
  exact hn
theorem drop_next (x : ByteArray) (p : Nat) (h : rst (x.data.toList.drop p) ≠ []) : p + (pre (x.data.toList.drop p)).length + 1 ≤ x.size ∧ x.data.toList.drop (p + (pre (x.data.toList.drop p)).length + 1) = (rst (x.data.toList.drop p)).tail := by
  have h1 := mt (rst_nil_iff (x.data.toList.drop p)).2 h
  have h2 := pre_len (x.data.toList.drop p)
  have h3 : (x.data.toList.drop p).length = x.size - p := by rw [List.length_drop, ← size_list]
  refine ⟨by omega, ?_⟩
  rw [rst_eq, List.drop_drop, List.tail_drop]
theorem ref_parts (x : ByteArray) (hx : x.size < 4611686018427387904) : Al fun n => p_ref3_parts n x = some (parts3 x.data.toList) := by
  unfold p_ref3_parts
  have e0 : x.data.toList.drop 0 = x.data.toList := List.drop_zero
  refine ref_parts_step x hx 0 (by omega) 0 (by omega) 0 0 0 _ (fun h => ?_) (fun h => ?_)
  · rw [e0] at h
    unfold parts3
    by_cases c1 : rst x.data.toList = []
    · rw [if_pos c1]
    · have : badn (pn (pre x.data.toList)) = true := by simpa [c1] using h
      rw [if_neg c1, this]
      simp
  · rw [e0] at h
    have c1 : rst x.data.toList ≠ [] := by intro e; simp [e] at h
    have b1 : badn (pn (pre x.data.toList)) = false := by simpa [c1] using h
    obtain ⟨s1, d1⟩ := drop_next x 0 (by rw [e0]; exact c1)
    rw [e0] at s1 d1
    simp only [e0]
    refine ref_parts_step x hx 1 (by omega) _ s1 _ _ _ _ (fun h => ?_) (fun h => ?_)
    · rw [d1] at h
      unfold parts3
      by_cases c2 : rst (rst x.data.toList).tail = []
      · rw [if_neg c1, if_pos c2]
      · have : badn (pn (pre (rst x.data.toList).tail)) = true := by simpa [c2] using h
        rw [if_neg c1, if_neg c2, this]
        simp
    · rw [d1] at h
      have c2 : rst (rst x.data.toList).tail ≠ [] := by intro e; simp [e] at h
      have b2 : badn (pn (pre (rst x.data.toList).tail)) = false := by simpa [c2] using h
      obtain ⟨s2, d2⟩ := drop_next x _ (by rw [d1]; exact c2)
      rw [d1] at s2 d2
      simp only [d1]
      refine ref_parts_step x hx 2 (by omega) _ s2 _ _ _ _ (fun h => ?_) (fun h => ?_)
      · rw [d2] at h
        unfold parts3
        rw [if_neg c1, if_neg c2]
        by_cases c3 : rst (rst (rst x.data.toList).tail).tail ≠ []
        · rw [if_pos c3]
        · have : badn (pn (pre (rst (rst x.data.toList).tail).tail)) = true := by
            have c3 : rst (rst (rst x.data.toList).tail).tail = [] := Decidable.not_not.1 c3
            simpa [c3] using h
          rw [if_neg c3, this]
          simp
      · rw [d2] at h
        have c3 : ¬ rst (rst (rst x.data.toList).tail).tail ≠ [] := by intro e; simp [e] at h
        have b3 : badn (pn (pre (rst (rst x.data.toList).tail).tail)) = false := by
          have c3 : rst (rst (rst x.data.toList).tail).tail = [] := Decidable.not_not.1 c3
          simpa [c3] using h
        have key : parts3 x.data.toList = (((pn (pre x.data.toList)).1, (pn (pre (rst x.data.toList).tail)).1, (pn (pre (rst (rst x.data.toList).tail).tail)).1), true) := by
          unfold parts3
          rw [if_neg c1, if_neg c2, if_neg c3, b1, b2, b3]
          rfl
        rw [key, d2]
        exact ref_parts_end x _ _ _ _
/-! the program -/
theorem index_pre : ∀ l : List UInt8, Lib.index l [46] = if rst l = [] then -1 else ((pre l).length : Int)
  | [] => by simp [Lib.index, rst]
  | b :: l => by
    have ih := index_pre l
    by_cases h : b = 46
    · subst h
      have e1 : rst (46 :: l) = 46 :: l := by simp [rst]
      have e2 : pre (46 :: l) = [] := by simp [pre]
      rw [e1, e2, if_neg (by simp)]
      simp [Lib.index, List.isPrefixOf]
    · have e1 : rst (b :: l) = rst l := by simp [rst, h]
      have e2 : pre (b :: l) = b :: pre l := by simp [pre, h]
      have hp : ([46] : List UInt8).isPrefixOf (b :: l) = false := by simp [List.isPrefixOf, Ne.symm h]
      rw [e1, e2, Lib.index, hp, ih]
      by_cases c : rst l = []
      · rw [if_pos c, if_pos c]; simp
      · rw [if_neg c, if_neg c]
        have : ((((pre l).length : Nat) : Int) == -1) = false := by rw [beq_eq_false_iff_ne]; omega
        simp [this]
theorem splitK_cons {l : List UInt8} (k : Nat) (h : rst l ≠ []) : Lib.splitK [46] 0 (k + 1) l = pre l :: Lib.splitK [46] 0 k (rst l).tail := by
  rw [Lib.splitK, index_pre, if_neg h]
  have : ((((pre l).length : Nat) : Int) == -1) = false := by rw [beq_eq_false_iff_ne]; omega
  rw [this, if_neg (by decide)]
  rw [Int.toNat_natCast, Nat.add_zero, ← pre_take, rst_eq, List.tail_drop]
  rfl
theorem splitK_nil {l : List UInt8} (k : Nat) (h : rst l = []) : Lib.splitK [46] 0 k l = [l] := by
  cases k with
  | zero => rfl
  | succ k => rw [Lib.splitK, index_pre, if_pos h]; rfl
theorem count_rst : ∀ l : List UInt8, l.count 46 = if rst l = [] then 0 else (rst l).tail.count 46 + 1
  | [] => by simp [rst]
  | b :: l => by
    by_cases h : b = 46
    · subst h
      have e1 : rst (46 :: l) = 46 :: l := by simp [rst]
      rw [e1, if_neg (by simp)]
      simp
    · have e1 : rst (b :: l) = rst l := by simp [rst, h]
      rw [e1, List.count_cons_of_ne h, count_rst l]
/-- The pieces of a string, as lists of bytes. -/
theorem split_pieces (x : ByteArray) : (Lib.splitB ⟨#[46]⟩ 0 (Lib.countB x ⟨#[46]⟩) x).map (·.data.toList) = Lib.splitK [46] 0 (x.data.toList.count 46) x.data.toList := by
  rw [Lib.splitB_data]
  have : Lib.countB x ⟨#[46]⟩ = x.data.toList.count 46 := by
    show Lib.count x.data.toList [46] = _
    rw [Lib.count_one]
  rw [this]
theorem value_parts_loop (q0 q1 q2 : ByteArray) (h0 : q0.size ≤ 281474976710656) (h1 : q1.size ≤ 281474976710656) (h2 : q2.size ≤ 281474976710656) :
    Al fun n => p_value_parts_L1 n [q0, q1, q2] 0 0 0 0 = some (if badn (pn q0.data.toList) || badn (pn q1.data.toList) || badn (pn q2.data.toList) then ((0, 0, 0), false)
      else (((pn q0.data.toList).1, (pn q1.data.toList).1, (pn q2.data.toList).1), true)) := by
  have t0 := text_num q0 h0
  have t1 := text_num q1 h1
  have t2 := text_num q2 h2
  have w0 : w64 (0 + 1) = 1 := w64_of (by decide) (by decide)
  have w1 : w64 (1 + 1) = 2 := w64_of (by decide) (by decide)
  have w2 : w64 (2 + 1) = 3 := w64_of (by decide) (by decide)
  have l3 : lI [q0, q1, q2] = 3 := rfl
  have i0 : inO 3 0 = some () := rfl
  have i1 : inO 3 1 = some () := rfl
  have i2 : inO 3 2 = some () := rfl
  have r0 : rdO [q0, q1, q2] 0 = some q0 := rfl
  have r1 : rdO [q0, q1, q2] 1 = some q1 := rfl
  have r2 : rdO [q0, q1, q2] 2 = some q2 := rfl
  refine Al.succ (Al.succ (Al.succ (Al.succ (((t0.shift.shift.shift).and ((t1.shift.shift).and t2.shift)).mono fun n ⟨a0, a1, a2⟩ => ?_))))
  rw [p_value_parts_L1, l3, decide_eq_true (by decide), cond_true, r0, Option.bind_some, a0, Option.bind_some]
  show (bif badn (pn q0.data.toList) then _ else _) = _
  cases badn (pn q0.data.toList) with
  | true => rfl
  | false =>
    rw [cond_false, i0, Option.bind_some, w0]
    rw [p_value_parts_L1, l3, decide_eq_true (by decide), cond_true, r1, Option.bind_some, a1, Option.bind_some]
    show (bif badn (pn q1.data.toList) then _ else _) = _
    cases badn (pn q1.data.toList) with
    | true => rfl
    | false =>
      rw [cond_false, i1, Option.bind_some, w1]
      rw [p_value_parts_L1, l3, decide_eq_true (by decide), cond_true, r2, Option.bind_some, a2, Option.bind_some]
      show (bif badn (pn q2.data.toList) then _ else _) = _
      cases badn (pn q2.data.toList) with
      | true => rfl
      | false =>
        rw [cond_false, i2, Option.bind_some, w2]
        rw [p_value_parts_L1, l3, decide_eq_false (by decide), cond_false]
        rfl
theorem value_parts (x : ByteArray) (hx : x.size < 4294967281) : Al fun n => p_value_parts n x = some (parts3 x.data.toList) := by
  have hsp : ∀ n, p_strings_Split n x (⟨#[46]⟩ : ByteArray) = some (Lib.splitB ⟨#[46]⟩ 0 (Lib.countB x ⟨#[46]⟩) x) := by
    intro n
    unfold p_strings_Split
    rw [decide_eq_true hx]; rfl
  have hP := split_pieces x
  generalize Lib.splitB ⟨#[46]⟩ 0 (Lib.countB x ⟨#[46]⟩) x = P at hsp hP
  have hcnt := count_rst x.data.toList
  have fail : P.length ≠ 3 → parts3 x.data.toList = ((0, 0, 0), false) → Al fun n => p_value_parts n x = some (parts3 x.data.toList) := by
    intro h1 h2
    refine .of fun n => ?_
    unfold p_value_parts
    rw [hsp, Option.bind_some]
    have : (lI P != 3) = true := by rw [bne_iff_ne]; unfold lI; omega
    rw [this, cond_true, h2]
  have hlen := congrArg List.length hP
  rw [List.length_map] at hlen
  by_cases c1 : rst x.data.toList = []
  · rw [splitK_nil _ c1] at hlen
    exact fail (by rw [hlen]; simp) (by unfold parts3; rw [if_pos c1])
  · rw [if_neg c1] at hcnt
    have hcnt2 := count_rst (rst x.data.toList).tail
    rw [hcnt, splitK_cons _ c1] at hP hlen
    by_cases c2 : rst (rst x.data.toList).tail = []
    · rw [splitK_nil _ c2] at hlen
      exact fail (by rw [hlen]; simp) (by unfold parts3; rw [if_neg c1, if_pos c2])
    · rw [if_neg c2] at hcnt2
      rw [hcnt2, splitK_cons _ c2] at hP hlen
      have hcnt3 := count_rst (rst (rst x.data.toList).tail).tail
      by_cases c3 : rst (rst (rst x.data.toList).tail).tail ≠ []
      · rw [if_neg c3] at hcnt3
        rw [hcnt3, splitK_cons _ c3] at hlen
        have : 1 ≤ (Lib.splitK [46] 0 ((rst (rst (rst x.data.toList).tail).tail).tail.count 46) (rst (rst (rst x.data.toList).tail).tail).tail).length := by
          cases (rst (rst (rst x.data.toList).tail).tail).tail.count 46 with
          | zero => simp [Lib.splitK]
          | succ k => rw [Lib.splitK]; split <;> simp
        exact fail (by rw [hlen]; simp only [List.length_cons]; omega) (by unfold parts3; rw [if_neg c1, if_neg c2, if_pos c3])
      · have c3' := Decidable.not_not.1 c3
        rw [splitK_nil _ c3'] at hP
        have hp3 : pre (rst (rst x.data.toList).tail).tail = (rst (rst x.data.toList).tail).tail := by
          have := pre_rst (rst (rst x.data.toList).tail).tail
          rw [c3', List.append_nil] at this; exact this
        rw [splitK_nil _ c3'] at hlen
        match P, hlen, hP with
        | [q0, q1, q2], _, hP =>
          simp only [List.map_cons, List.map_nil, List.cons.injEq, and_true] at hP
          obtain ⟨g0, g1, g2⟩ := hP
          have hb : ∀ (q : ByteArray) (l : List UInt8), q.data.toList = l → l.length ≤ x.size → q.size ≤ 281474976710656 := by
            intro q l e hl; rw [size_list, e]; omega
          have ht : ∀ l : List UInt8, (rst l).tail.length ≤ l.length := by
            intro l; rw [rst_eq, List.tail_drop, List.length_drop]; omega
          have hx' := size_list x
          have t1 := ht x.data.toList
          have t2 := ht (rst x.data.toList).tail
          have l0 := pre_len x.data.toList
          have l1 := pre_len (rst x.data.toList).tail
          have := value_parts_loop q0 q1 q2 (hb _ _ g0 (by omega)) (hb _ _ g1 (by omega)) (hb _ _ g2 (by omega))
          refine this.mono fun n hn => ?_
          unfold p_value_parts
          rw [hsp, Option.bind_some]
          have : (lI [q0, q1, q2] != 3) = false := rfl
          rw [this, cond_false, hn, g0, g1, g2]
          unfold parts3
          rw [if_neg c1, if_neg c2, if_neg c3, hp3]
end Go.Proofs.YtjhbobacbaikoaaGreatDoor
/- A function of the program as a pure function, and that the program computes it. -/
namespace Go.Proofs.YtjhbobacbaikoaaGreatDoor
open Go
set_option linter.unusedVariables false
set_option linter.unusedSimpArgs false
set_option maxRecDepth 100000
def p_ref3_list_L2 (n : Nat) (x0 : List ByteArray) (v25 : Int) : Option Int := match n with
| 0 => none
| n + 1 =>
(bif decide (v25 < (lI x0)) then
(rdO x0 v25).bind fun v27 =>
(rdO x0 (w64 (v25 - 1))).bind fun v28 =>
(bif sle' v27 v28 then
 some (9)
 else
 p_ref3_list_L2 n x0 (w64 (v25 + 1)))
 else
 some (0))
def p_ref3_list_L1 (n : Nat) (x0 : List ByteArray) (v11 : Int) : Option Int := match n with
| 0 => none
| n + 1 =>
(bif decide (v11 < (lI x0)) then
(rdO x0 v11).bind fun v13 =>
(p_ref1_Valid n v13).bind fun v14 =>
(bif !v14 then
 some (2)
 else
 p_ref3_list_L1 n x0 (w64 (v11 + 1)))
 else
 p_ref3_list_L2 n x0 1)
def p_ref3_list (n : Nat) (x0 : List ByteArray) : Option Int :=
(bif decide ((lI x0) > 20) then
 some (5)
 else
 p_ref3_list_L1 n x0 0)
variable {E : Env}
theorem s_ref3_list {n : Nat} (hG : GlobT E) {x0 : List ByteArray} {r : Int} (H : p_ref3_list n x0 = some r) :
    Sp Tryz.prog E 136 [.ro .unk x0.length (cl_str x0)] [] (isA (iA r) []) := by
  unfold p_ref3_list at H
  refine Sp_fn Tryz.func136 rfl (fun hc hs => ?_)
  refine AWP_reg (Rh 1 36 [(0, .ro .unk x0.length (cl_str x0))] (AOps_done (AWP_seq (AWP_reg (Rh 3 36 [(0, .ro .unk x0.length (cl_str x0)), (7, bA (decide ((lI x0) > 20)))] (AOps_done (CD H (fun hb1 H => ?_) (fun hb1 H => ?_))))))))
  · refine AWP_reg (Rh 1 36 [(2, iA 5)] (AOps_done ?_))
    exact AWP_ret (FR H)
  · refine AWP_skip ?_
    show AWP _ _ _ _ _ _ _
    refine AWP_seq (AWP_reg (Rh 1 36 [(0, .ro .unk x0.length (cl_str x0)), (3, iA 0)] (AOps_done (AWP_block ?_))))
    refine AWP_loopN (α := Int) (fun v11 => fr 36 [(0, .ro .unk x0.length (cl_str x0)), (3, iA v11)]) (fun v11 => []) (fun k_ v11 => k_ ≤ n ∧ p_ref3_list_L1 k_ x0 v11 = some r) (fun n v11 H => ?_) (k := n) 0 ⟨Nat.le_refl _, H⟩ (Norm_fd [0, 3] 0 (by kernel_rfl) rfl rfl trivial (by refine scL_fr ?_; exact ⟨(scl_cl_str _ _), trivial, trivial⟩))
    show AWP _ _ _ _ _ (fr 36 [(0, .ro .unk x0.length (cl_str x0)), (3, iA v11)]) []
    obtain ⟨hb_, H⟩ := H
    replace H : p_ref3_list_L1 n x0 v11 = some r := H
    cases n with
    | zero => exact not_none (by simpa only [p_ref3_list_L1] using H)
    | succ n =>
      unfold p_ref3_list_L1 at H
      refine AWP_seq (AWP_reg (Rh 4 36 [(0, .ro .unk x0.length (cl_str x0)), (3, iA v11), (11, bA (decide (v11 < (lI x0))))] (AOps_done (CD H (fun hb12 H => ?_) (fun hb12 H => ?_)))))
      · refine AWP_skip ?_
        show AWP _ _ _ _ _ _ _
        refine AWP_seq (AWP_block ?_)
        refine AWP_reg (Rh 2 36 [(0, .ro .unk x0.length (cl_str x0)), (3, iA v11), (14, .ro .unk x0.length (cl_str x0)), (15, iA v11)] ?_)
        obtain ⟨v13, hv13, H⟩ := bind_some H
        refine AOps_index (d := (some 16)) (sz := 1) (c := cs_str) (by kernel_rfl) rfl (eq_cl_str _) (fun _ => rfl) (by decide) hv13 (fun tl13 => ?_)
        refine Rh 1 36 [(0, .ro .unk x0.length (cl_str x0)), (3, iA v11), (17, sA v13)] ?_
        obtain ⟨v14, hv14, H⟩ := bind_some H
        refine AOps_callp (d := (some 18)) (al := [sA v13]) (r := bA v14) (by kernel_rfl) (s_ref1_Valid hG hv14) ⟨trivial, trivial⟩ trivial ?_
        refine Rh 1 36 [(0, .ro .unk x0.length (cl_str x0)), (3, iA v11), (19, bA (!v14))] (AOps_done (CD H (fun hb15 H => ?_) (fun hb15 H => ?_)))
        · refine AWP_reg (Rh 1 36 [(2, iA 2)] (AOps_done ?_))
          exact AWP_ret (FR H)
        · refine AWP_skip ?_
          show AWP _ _ _ _ _ _ _
          refine AWP_region ?_
          refine Rh 3 36 [(0, .ro .unk x0.length (cl_str x0)), (3, iA (w64 (v11 + 1)))] (AOps_done ?_)
          exact Exists.intro (w64 (v11 + 1)) (Exists.intro n ⟨by omega, ⟨by omega, H⟩, Norm_fd [0, 3] 0 (by kernel_rfl) rfl rfl trivial (by refine scL_fr ?_; exact ⟨(scl_cl_str _ _), trivial, trivial⟩)⟩)
      · refine AWP_exit ?_
        show AWP _ _ _ _ _ _ _
        refine AWP_seq (AWP_reg (Rh 1 36 [(0, .ro .unk x0.length (cl_str x0)), (4, iA 1)] (AOps_done (AWP_block ?_))))
        refine AWP_loopN (α := Int) (fun v25 => fr 36 [(0, .ro .unk x0.length (cl_str x0)), (4, iA v25)]) (fun v25 => []) (fun k_ v25 => k_ ≤ n ∧ p_ref3_list_L2 k_ x0 v25 = some r) (fun n v25 H => ?_) (k := n) 1 ⟨Nat.le_refl _, H⟩ (Norm_fd [0, 4] 0 (by kernel_rfl) rfl rfl trivial (by refine scL_fr ?_; exact ⟨(scl_cl_str _ _), trivial, trivial⟩))
        show AWP _ _ _ _ _ (fr 36 [(0, .ro .unk x0.length (cl_str x0)), (4, iA v25)]) []
        obtain ⟨hb_, H⟩ := H
        replace H : p_ref3_list_L2 n x0 v25 = some r := H
        cases n with
        | zero => exact not_none (by simpa only [p_ref3_list_L2] using H)
        | succ n =>
          unfold p_ref3_list_L2 at H
          refine AWP_seq (AWP_reg (Rh 4 36 [(0, .ro .unk x0.length (cl_str x0)), (4, iA v25), (23, bA (decide (v25 < (lI x0))))] (AOps_done (CD H (fun hb26 H => ?_) (fun hb26 H => ?_)))))
          · refine AWP_skip ?_
            show AWP _ _ _ _ _ _ _
            refine AWP_seq (AWP_block ?_)
            obtain ⟨v27, hv27, H⟩ := bind_some H
            obtain ⟨v28, hv28, H⟩ := bind_some H
            refine AWP_regD1 [0, 1, 2, 3, 4, 5, 6, 7, 8, 9] (N := 36) (f := [(0, .ro .unk x0.length (cl_str x0)), (4, iA v25)]) (leL_of [0, 4] (by kernel_rfl)) mixed (by kernel_rfl) (by kernel_rfl) (st' := fr 36 [(0, .ro .unk x0.length (cl_str x0)), (4, iA v25), (35, bA (sle' v27 v28))]) (h' := []) ?_ ?_
            rotate_left
            · refine RD 2 36 [] [(0, .ro .unk x0.length (cl_str x0)), (4, iA v25), (26, .ro .unk x0.length (cl_str x0)), (27, iA v25)] (AD_index (d := (some 28)) (sz := 1) (c := cs_str) (by kernel_rfl) rfl (eq_cl_str _) (fun _ => rfl) (by decide) hv27 (fun tl27 => ?_))
              refine RD 4 36 [] [(0, .ro .unk x0.length (cl_str x0)), (4, iA v25), (26, .ro .unk x0.length (cl_str x0)), (27, iA v25), (28, .rop ([sA v27] ++ tl27)), (29, sA v27), (30, .ro .unk x0.length (cl_str x0)), (31, iA v25), (32, iA (w64 (v25 - 1)))] (AD_index (d := (some 33)) (sz := 1) (c := cs_str) (by kernel_rfl) rfl (eq_cl_str _) (fun _ => rfl) (by decide) hv28 (fun tl28 => ?_))
              refine RD 2 36 [] [(0, .ro .unk x0.length (cl_str x0)), (4, iA v25), (26, .ro .unk x0.length (cl_str x0)), (27, iA v25), (28, .rop ([sA v27] ++ tl27)), (29, sA v27), (30, .ro .unk x0.length (cl_str x0)), (31, iA v25), (32, iA (w64 (v25 - 1))), (33, .rop ([sA v28] ++ tl28)), (34, sA v28), (35, bA (sle' v27 v28))] ?_
              exact AD_here [0, 4, 35] (by kernel_rfl) rfl
            refine CD H (fun hb29 H => ?_) (fun hb29 H => ?_)
            · refine AWP_reg (Rh 1 36 [(2, iA 9)] (AOps_done ?_))
              exact AWP_ret (FR H)
            · refine AWP_skip ?_
              show AWP _ _ _ _ _ _ _
              refine AWP_region ?_
              refine Rh 3 36 [(0, .ro .unk x0.length (cl_str x0)), (4, iA (w64 (v25 + 1)))] (AOps_done ?_)
              exact Exists.intro (w64 (v25 + 1)) (Exists.intro n ⟨by omega, ⟨by omega, H⟩, Norm_fd [0, 4] 0 (by kernel_rfl) rfl rfl trivial (by refine scL_fr ?_; exact ⟨(scl_cl_str _ _), trivial, trivial⟩)⟩)
          · refine AWP_exit ?_
            show AWP _ _ _ _ _ _ _
            refine AWP_reg (Rh 1 36 [(2, iA 0)] (AOps_done ?_))
            exact AWP_ret (FR H)
end Go.Proofs.YtjhbobacbaikoaaGreatDoor
/- A function of the program as a pure function, and that the program computes it. -/
namespace Go.Proofs.YtjhbobacbaikoaaGreatDoor
open Go
set_option linter.unusedVariables false
set_option linter.unusedSimpArgs false
set_option maxRecDepth 100000
def p_ref3_shape (n : Nat) (x0 : TValue) : Option Bool :=
 some (((((x0.gKind == 1) || (x0.gKind == 2)) || (x0.gNumber == 0)) && (((x0.gKind == 3) || (x0.gKind == 4)) || (seq' x0.gText ByteArray.empty))) && ((x0.gKind == 5) || ((lI x0.gList) == 0)))
variable {E : Env}
theorem s_ref3_shape {n : Nat} {x0 : TValue} {r : Bool} (H : p_ref3_shape n x0 = some r) :
    Sp Tryz.prog E 134 [.agg (TValue.cs x0)] [] (isA (bA r) []) := by
  unfold p_ref3_shape at H
  refine Sp_fn Tryz.func134 rfl (fun hc hs => ?_)
  refine AWP_reg (R 2 46 [(1, .ptr 0 0)] [.cells 58 (TValue.cs x0)] (AOps_done (AWP_reg (Rh 4 46 [(1, .ptr 0 0), (8, bA (x0.gKind == 1))] (AOps_run 4 [1, 12] (st' := fr 46 [(1, .ptr 0 0), (12, bA ((x0.gKind == 1) || (x0.gKind == 2)))]) (h' := [.cells 58 (TValue.cs x0)]) (by (generalize (x0.gKind == 1) = t0; cases t0 <;> kernel_rfl)) ?_)))))
  refine Rh 1 46 [(1, .ptr 0 0), (3, bA ((x0.gKind == 1) || (x0.gKind == 2)))] (AOps_done (AWP_reg (Rh 4 46 [(1, .ptr 0 0), (3, bA ((x0.gKind == 1) || (x0.gKind == 2))), (16, bA (x0.gKind == 3))] (AOps_run 4 [1, 3, 20] (st' := fr 46 [(1, .ptr 0 0), (3, bA ((x0.gKind == 1) || (x0.gKind == 2))), (20, bA ((x0.gKind == 3) || (x0.gKind == 4)))]) (h' := [.cells 58 (TValue.cs x0)]) (by (generalize (x0.gKind == 3) = t0; cases t0 <;> kernel_rfl)) ?_))))
  refine Rh 1 46 [(1, .ptr 0 0), (3, bA ((x0.gKind == 1) || (x0.gKind == 2))), (4, bA ((x0.gKind == 3) || (x0.gKind == 4)))] (AOps_done (AWP_reg (Rh 2 46 [(1, .ptr 0 0), (4, bA ((x0.gKind == 3) || (x0.gKind == 4))), (22, bA ((x0.gKind == 1) || (x0.gKind == 2)))] (AOps_run 4 [1, 4, 26] (st' := fr 46 [(1, .ptr 0 0), (4, bA ((x0.gKind == 3) || (x0.gKind == 4))), (26, bA (((x0.gKind == 1) || (x0.gKind == 2)) || (x0.gNumber == 0)))]) (h' := [.cells 58 (TValue.cs x0)]) (by (generalize (x0.gKind == 1) = t0; generalize (x0.gKind == 2) = t1; cases t0 <;> cases t1 <;> kernel_rfl)) ?_))))
  refine Rh 1 46 [(1, .ptr 0 0), (4, bA ((x0.gKind == 3) || (x0.gKind == 4))), (27, bA (((x0.gKind == 1) || (x0.gKind == 2)) || (x0.gNumber == 0)))] (AOps_cut 7 (st' := fr 46 [(1, .ptr 0 0), (34, bA ((((x0.gKind == 1) || (x0.gKind == 2)) || (x0.gNumber == 0)) && (((x0.gKind == 3) || (x0.gKind == 4)) || (seq' x0.gText ByteArray.empty))))]) (h' := [.cells 58 (TValue.cs x0)]) ?_ ?_)
  rotate_left
  · cases c1 : (((x0.gKind == 1) || (x0.gKind == 2)) || (x0.gNumber == 0) : Bool) with
    | true =>
      refine R 2 46 [(1, .ptr 0 0), (27, bA true), (29, bA ((x0.gKind == 3) || (x0.gKind == 4)))] [.cells 58 (TValue.cs x0)] ?_
      cases c2 : ((x0.gKind == 3) || (x0.gKind == 4) : Bool) with
      | true =>
        refine R 5 46 [(1, .ptr 0 0), (34, bA (true && (true || (seq' x0.gText ByteArray.empty))))] [.cells 58 (TValue.cs x0)] ?_
        exact AOps_here [1, 34] (by kernel_rfl) rfl
      | false =>
        refine R 5 46 [(1, .ptr 0 0), (34, bA (true && (false || (seq' x0.gText ByteArray.empty))))] [.cells 58 (TValue.cs x0)] ?_
        exact AOps_here [1, 34] (by kernel_rfl) rfl
    | false =>
      refine R 7 46 [(1, .ptr 0 0), (34, bA (false && (((x0.gKind == 3) || (x0.gKind == 4)) || (seq' x0.gText ByteArray.empty))))] [.cells 58 (TValue.cs x0)] ?_
      exact AOps_here [1, 34] (by kernel_rfl) rfl
  refine Rh 1 46 [(1, .ptr 0 0), (35, bA ((((x0.gKind == 1) || (x0.gKind == 2)) || (x0.gNumber == 0)) && (((x0.gKind == 3) || (x0.gKind == 4)) || (seq' x0.gText ByteArray.empty))))] (AOps_cut 10 (st' := fr 46 [(45, bA (((((x0.gKind == 1) || (x0.gKind == 2)) || (x0.gNumber == 0)) && (((x0.gKind == 3) || (x0.gKind == 4)) || (seq' x0.gText ByteArray.empty))) && ((x0.gKind == 5) || ((lI x0.gList) == 0))))]) (h' := [.cells 58 (TValue.cs x0)]) ?_ ?_)
  rotate_left
  · cases c1 : ((((x0.gKind == 1) || (x0.gKind == 2)) || (x0.gNumber == 0)) && (((x0.gKind == 3) || (x0.gKind == 4)) || (seq' x0.gText ByteArray.empty)) : Bool) with
    | true =>
      refine R 4 46 [(1, .ptr 0 0), (35, bA true), (39, bA (x0.gKind == 5))] [.cells 58 (TValue.cs x0)] ?_
      cases c2 : (x0.gKind == 5 : Bool) with
      | true =>
        refine R 6 46 [(45, bA (true && (true || ((lI x0.gList) == 0))))] [.cells 58 (TValue.cs x0)] ?_
        exact AOps_here [45] (by kernel_rfl) rfl
      | false =>
        refine R 6 46 [(45, bA (true && (false || ((lI x0.gList) == 0))))] [.cells 58 (TValue.cs x0)] ?_
        exact AOps_here [45] (by kernel_rfl) rfl
    | false =>
      refine R 10 46 [(45, bA (false && ((x0.gKind == 5) || ((lI x0.gList) == 0))))] [.cells 58 (TValue.cs x0)] ?_
      exact AOps_here [45] (by kernel_rfl) rfl
  refine Rh 1 46 [(2, bA (((((x0.gKind == 1) || (x0.gKind == 2)) || (x0.gNumber == 0)) && (((x0.gKind == 3) || (x0.gKind == 4)) || (seq' x0.gText ByteArray.empty))) && ((x0.gKind == 5) || ((lI x0.gList) == 0))))] (AOps_done ?_)
  exact AWP_ret (FR H)
end Go.Proofs.YtjhbobacbaikoaaGreatDoor
/- A function of the program as a pure function, and that the program computes it. -/
namespace Go.Proofs.YtjhbobacbaikoaaGreatDoor
open Go
set_option linter.unusedVariables false
set_option linter.unusedSimpArgs false
set_option maxRecDepth 100000
def p_ref3_Check_K1 (n : Nat)  : Option Int :=
 some (0)
def p_ref3_Check (n : Nat) (x0 : TValue) : Option Int :=
(bif (decide (x0.gKind < 1)) || (decide (x0.gKind > 5)) then
 some (7)
 else
(p_ref3_shape n x0).bind fun v2 =>
(bif !v2 then
 some (15)
 else
(bif x0.gKind == 1 then
(bif (x0.gNumber != 0) && (x0.gNumber != 1) then
 some (3)
 else
 p_ref3_Check_K1 n  )
 else
(bif x0.gKind == 2 then
(bif (decide (x0.gNumber < (-1099511627776))) || (decide (x0.gNumber > 1099511627776)) then
 some (3)
 else
 p_ref3_Check_K1 n  )
 else
(bif x0.gKind == 3 then
(p_ref1_Valid n x0.gText).bind fun v21 =>
(bif !v21 then
 some (2)
 else
 p_ref3_Check_K1 n  )
 else
(bif x0.gKind == 4 then
(p_ref3_parts n x0.gText).bind fun v24 =>
(bif !v24.2 then
 some (1)
 else
 p_ref3_Check_K1 n  )
 else
(bif x0.gKind == 5 then
(p_ref3_list n x0.gList).bind fun v27 =>
 some (v27)
 else
 p_ref3_Check_K1 n  )))))))
variable {E : Env}
theorem s_ref3_Check {n : Nat} (hG : GlobT E) {x0 : TValue} {r : Int} (H : p_ref3_Check n x0 = some r) :
    Sp Tryz.prog E 115 [.agg (TValue.cs x0)] [] (isA (iA r) []) := by
  unfold p_ref3_Check at H
  refine Sp_fn Tryz.func115 rfl (fun hc hs => ?_)
  refine AWP_reg (R 2 59 [(1, .ptr 0 0)] [.cells 58 (TValue.cs x0)] (AOps_done (AWP_seq (AWP_reg (Rh 4 59 [(1, .ptr 0 0), (8, bA (decide (x0.gKind < 1)))] (AOps_run 4 [1, 12] (st' := fr 59 [(1, .ptr 0 0), (12, bA ((decide (x0.gKind < 1)) || (decide (x0.gKind > 5))))]) (h' := [.cells 58 (TValue.cs x0)]) (by (generalize (decide (x0.gKind < 1)) = t0; cases t0 <;> kernel_rfl)) ?_))))))
  refine AOps_done (CD H (fun hb1 H => ?_) (fun hb1 H => ?_))
  · refine AWP_reg (Rh 1 59 [(2, iA 7)] (AOps_done ?_))
    exact AWP_ret (FR H)
  · refine AWP_skip ?_
    show AWP _ _ _ _ _ _ _
    refine AWP_seq (AWP_reg (Rh 1 59 [(1, .ptr 0 0), (13, .agg (TValue.cs x0))] ?_))
    obtain ⟨v2, hv2, H⟩ := bind_some H
    refine AOps_callp (d := (some 14)) (al := [.agg (TValue.cs x0)]) (r := bA v2) (by kernel_rfl) (s_ref3_shape hv2) ⟨(sc_TValue_cs _ _), trivial⟩ trivial ?_
    refine Rh 1 59 [(1, .ptr 0 0), (15, bA (!v2))] (AOps_done (CD H (fun hb3 H => ?_) (fun hb3 H => ?_)))
    · refine AWP_reg (Rh 1 59 [(2, iA 15)] (AOps_done ?_))
      exact AWP_ret (FR H)
    · refine AWP_skip ?_
      show AWP _ _ _ _ _ _ _
      refine AWP_joinN (α := Unit) (fun _ => fr 59 []) (fun _ => [.cells 58 (TValue.cs x0)]) (fun _ => ∃ q, q ≤ q ∧ p_ref3_Check_K1 q   = some r) (fun a hC => ?_) ?_
      · show AWP _ _ _ _ _ (fr 59 []) [.cells 58 (TValue.cs x0)]
        obtain ⟨n, hn_, hC⟩ := hC
        replace H : p_ref3_Check_K1 n   = some r := hC
        unfold p_ref3_Check_K1 at H
        refine AWP_reg (Rh 1 59 [(2, iA 0)] (AOps_done ?_))
        exact AWP_ret (FR H)
      · refine AWP_reg (Rh 2 59 [(1, .ptr 0 0), (17, iA x0.gKind)] (AOps_done (AWP_block ?_)))
        refine AWP_reg (Rh 2 59 [(1, .ptr 0 0), (17, iA x0.gKind), (18, bA (x0.gKind == 1))] (AOps_done (CD H (fun hb16 H => ?_) (fun hb16 H => ?_))))
        · refine AWP_reg (Rh 4 59 [(1, .ptr 0 0), (23, bA (x0.gNumber != 0))] (AOps_run 4 [27] (st' := fr 59 [(27, bA ((x0.gNumber != 0) && (x0.gNumber != 1)))]) (h' := [.cells 58 (TValue.cs x0)]) (by (generalize (x0.gNumber != 0) = t0; cases t0 <;> kernel_rfl)) ?_))
          refine AOps_done (CD H (fun hb17 H => ?_) (fun hb17 H => ?_))
          · refine AWP_reg (Rh 1 59 [(2, iA 3)] (AOps_done ?_))
            exact AWP_ret (FR H)
          · refine AWP_skip ?_
            exact Exists.intro () ⟨⟨n, by omega, H⟩, Norm_fd [] 0 (by kernel_rfl) rfl rfl ⟨(sc_TValue_cs _ _), trivial⟩ (by refine scL_fr ?_; exact trivial)⟩
        · refine AWP_reg (Rh 2 59 [(1, .ptr 0 0), (17, iA x0.gKind), (28, bA (x0.gKind == 2))] (AOps_done (CD H (fun hb18 H => ?_) (fun hb18 H => ?_))))
          · refine AWP_reg (Rh 4 59 [(1, .ptr 0 0), (33, bA (decide (x0.gNumber < (-1099511627776))))] (AOps_run 4 [37] (st' := fr 59 [(37, bA ((decide (x0.gNumber < (-1099511627776))) || (decide (x0.gNumber > 1099511627776))))]) (h' := [.cells 58 (TValue.cs x0)]) (by (generalize (decide (x0.gNumber < (-1099511627776))) = t0; cases t0 <;> kernel_rfl)) ?_))
            refine AOps_done (CD H (fun hb19 H => ?_) (fun hb19 H => ?_))
            · refine AWP_reg (Rh 1 59 [(2, iA 3)] (AOps_done ?_))
              exact AWP_ret (FR H)
            · refine AWP_skip ?_
              exact Exists.intro () ⟨⟨n, by omega, H⟩, Norm_fd [] 0 (by kernel_rfl) rfl rfl ⟨(sc_TValue_cs _ _), trivial⟩ (by refine scL_fr ?_; exact trivial)⟩
          · refine AWP_reg (Rh 2 59 [(1, .ptr 0 0), (17, iA x0.gKind), (38, bA (x0.gKind == 3))] (AOps_done (CD H (fun hb20 H => ?_) (fun hb20 H => ?_))))
            · refine AWP_reg (Rh 2 59 [(41, sA x0.gText)] ?_)
              obtain ⟨v21, hv21, H⟩ := bind_some H
              refine AOps_callp (d := (some 42)) (al := [sA x0.gText]) (r := bA v21) (by kernel_rfl) (s_ref1_Valid hG hv21) ⟨trivial, trivial⟩ trivial ?_
              refine Rh 1 59 [(43, bA (!v21))] (AOps_done (CD H (fun hb22 H => ?_) (fun hb22 H => ?_)))
              · refine AWP_reg (Rh 1 59 [(2, iA 2)] (AOps_done ?_))
                exact AWP_ret (FR H)
              · refine AWP_skip ?_
                exact Exists.intro () ⟨⟨n, by omega, H⟩, Norm_fd [] 0 (by kernel_rfl) rfl rfl ⟨(sc_TValue_cs _ _), trivial⟩ (by refine scL_fr ?_; exact trivial)⟩
            · refine AWP_reg (Rh 2 59 [(1, .ptr 0 0), (17, iA x0.gKind), (44, bA (x0.gKind == 4))] (AOps_done (CD H (fun hb23 H => ?_) (fun hb23 H => ?_))))
              · refine AWP_reg (Rh 2 59 [(48, sA x0.gText)] ?_)
                obtain ⟨v24, hv24, H⟩ := bind_some H
                refine AOps_callp (d := (some 49)) (al := [sA x0.gText]) (r := .tup [.agg [iA v24.1.1, iA v24.1.2.1, iA v24.1.2.2], bA v24.2]) (by kernel_rfl) (s_ref3_parts hv24) ⟨trivial, trivial⟩ ⟨⟨trivial, trivial, trivial, trivial⟩, trivial, trivial⟩ ?_
                refine R 6 59 [(4, bA v24.2)] [.cells 162 [iA v24.1.1, iA v24.1.2.1, iA v24.1.2.2], .cells 58 (TValue.cs x0)] (AOps_done (AWP_reg (Rh 2 59 [(53, bA (!v24.2))] (AOps_done (CD H (fun hb25 H => ?_) (fun hb25 H => ?_))))))
                · refine AWP_reg (Rh 1 59 [(2, iA 1)] (AOps_done ?_))
                  exact AWP_ret (FR H)
                · refine AWP_skip ?_
                  exact Exists.intro () ⟨⟨n, by omega, H⟩, Norm_fd [] 1 (by kernel_rfl) rfl rfl ⟨(sc_TValue_cs _ _), trivial⟩ (by refine scL_fr ?_; exact trivial)⟩
              · refine AWP_reg (Rh 2 59 [(1, .ptr 0 0), (54, bA (x0.gKind == 5))] (AOps_done (CD H (fun hb26 H => ?_) (fun hb26 H => ?_))))
                · refine AWP_reg (Rh 2 59 [(57, .ro .unk x0.gList.length (cl_str x0.gList))] ?_)
                  obtain ⟨v27, hv27, H⟩ := bind_some H
                  refine AOps_callp (d := (some 58)) (al := [.ro .unk x0.gList.length (cl_str x0.gList)]) (r := iA v27) (by kernel_rfl) (s_ref3_list hG hv27) ⟨(scl_cl_str _ _), trivial⟩ trivial ?_
                  refine Rh 1 59 [(2, iA v27)] (AOps_done ?_)
                  exact AWP_ret (FR H)
                · refine AWP_skip ?_
                  exact Exists.intro () ⟨⟨n, by omega, H⟩, Norm_fd [] 0 (by kernel_rfl) rfl rfl ⟨(sc_TValue_cs _ _), trivial⟩ (by refine scL_fr ?_; exact trivial)⟩
end Go.Proofs.YtjhbobacbaikoaaGreatDoor
/- A function of the program as a pure function, and that the program computes it. -/
namespace Go.Proofs.YtjhbobacbaikoaaGreatDoor
open Go
set_option linter.unusedVariables false
set_option linter.unusedSimpArgs false
set_option maxRecDepth 100000
def p_value_shape_K2 (n : Nat) (x0 : TValue) (v5 : Bool) : Option Bool :=
(bif v5 then
 some ((x0.gNumber == 0) && ((lI x0.gList) == 0))
 else
 some ((x0.gNumber == 0) && (seq' x0.gText ByteArray.empty)))
def p_value_shape_K1 (n : Nat) (x0 : TValue) (v2 : Bool) : Option Bool :=
(bif v2 then
 some ((seq' x0.gText ByteArray.empty) && ((lI x0.gList) == 0))
 else
(bif x0.gKind == 3 then
 p_value_shape_K2 n x0 (x0.gKind == 3)
 else
 p_value_shape_K2 n x0 (x0.gKind == 4)))
def p_value_shape (n : Nat) (x0 : TValue) : Option Bool :=
(bif x0.gKind == 1 then
 p_value_shape_K1 n x0 (x0.gKind == 1)
 else
 p_value_shape_K1 n x0 (x0.gKind == 2))
variable {E : Env}
theorem s_value_shape {n : Nat} {x0 : TValue} {r : Bool} (H : p_value_shape n x0 = some r) :
    Sp Tryz.prog E 113 [.agg (TValue.cs x0)] [] (isA (bA r) []) := by
  unfold p_value_shape at H
  refine Sp_fn Tryz.func113 rfl (fun hc hs => ?_)
  refine AWP_reg (R 2 37 [(1, .ptr 0 0)] [.cells 58 (TValue.cs x0)] (AOps_done (AWP_seq (AWP_reg (Rh 2 37 [(1, .ptr 0 0), (4, iA x0.gKind)] (AOps_done (AWP_block ?_)))))))
  refine AWP_joinN (α := Bool) (fun v2 => fr 37 [(1, .ptr 0 0), (4, iA x0.gKind), (5, bA v2)]) (fun v2 => [.cells 58 (TValue.cs x0)]) (fun v2 => ∃ q, q ≤ q ∧ p_value_shape_K1 q x0 v2 = some r) (fun v2 hC => ?_) ?_
  · show AWP _ _ _ _ _ (fr 37 [(1, .ptr 0 0), (4, iA x0.gKind), (5, bA v2)]) [.cells 58 (TValue.cs x0)]
    obtain ⟨n, hn_, hC⟩ := hC
    replace H : p_value_shape_K1 n x0 v2 = some r := hC
    unfold p_value_shape_K1 at H
    refine CD H (fun hb3 H => ?_) (fun hb3 H => ?_)
    · refine AWP_reg (Rh 4 37 [(1, .ptr 0 0), (11, bA (seq' x0.gText ByteArray.empty))] (AOps_run 5 [16] (st' := fr 37 [(16, bA ((seq' x0.gText ByteArray.empty) && ((lI x0.gList) == 0)))]) (h' := [.cells 58 (TValue.cs x0)]) (by (generalize (seq' x0.gText ByteArray.empty) = t0; cases t0 <;> kernel_rfl)) ?_))
      refine Rh 1 37 [(2, bA ((seq' x0.gText ByteArray.empty) && ((lI x0.gList) == 0)))] (AOps_done ?_)
      exact AWP_ret (FR H)
    · refine AWP_joinN (α := Bool) (fun v5 => fr 37 [(1, .ptr 0 0), (17, bA v5)]) (fun v5 => [.cells 58 (TValue.cs x0)]) (fun v5 => ∃ q, q ≤ q ∧ p_value_shape_K2 q x0 v5 = some r) (fun v5 hC => ?_) ?_
      · show AWP _ _ _ _ _ (fr 37 [(1, .ptr 0 0), (17, bA v5)]) [.cells 58 (TValue.cs x0)]
        obtain ⟨n, hn_, hC⟩ := hC
        replace H : p_value_shape_K2 n x0 v5 = some r := hC
        unfold p_value_shape_K2 at H
        refine CD H (fun hb6 H => ?_) (fun hb6 H => ?_)
        · refine AWP_reg (Rh 4 37 [(1, .ptr 0 0), (23, bA (x0.gNumber == 0))] (AOps_run 5 [28] (st' := fr 37 [(28, bA ((x0.gNumber == 0) && ((lI x0.gList) == 0)))]) (h' := [.cells 58 (TValue.cs x0)]) (by (generalize (x0.gNumber == 0) = t0; cases t0 <;> kernel_rfl)) ?_))
          refine Rh 1 37 [(2, bA ((x0.gNumber == 0) && ((lI x0.gList) == 0)))] (AOps_done ?_)
          exact AWP_ret (FR H)
        · refine AWP_skip ?_
          show AWP _ _ _ _ _ _ _
          refine AWP_reg (Rh 4 37 [(1, .ptr 0 0), (32, bA (x0.gNumber == 0))] (AOps_run 4 [36] (st' := fr 37 [(36, bA ((x0.gNumber == 0) && (seq' x0.gText ByteArray.empty)))]) (h' := [.cells 58 (TValue.cs x0)]) (by (generalize (x0.gNumber == 0) = t0; cases t0 <;> kernel_rfl)) ?_))
          refine Rh 1 37 [(2, bA ((x0.gNumber == 0) && (seq' x0.gText ByteArray.empty)))] (AOps_done ?_)
          exact AWP_ret (FR H)
      · refine AWP_reg (Rh 2 37 [(1, .ptr 0 0), (4, iA x0.gKind), (17, bA (x0.gKind == 3))] (AOps_done (CD H (fun hb7 H => ?_) (fun hb7 H => ?_))))
        · refine AWP_skip ?_
          exact Exists.intro (x0.gKind == 3) ⟨⟨n, by omega, H⟩, Norm_fd [1, 17] 0 (by kernel_rfl) rfl rfl ⟨(sc_TValue_cs _ _), trivial⟩ (by refine scL_fr ?_; exact ⟨(sc_ptr rfl), trivial, trivial⟩)⟩
        · refine AWP_region ?_
          refine Rh 2 37 [(1, .ptr 0 0), (17, bA (x0.gKind == 4))] (AOps_done ?_)
          exact Exists.intro (x0.gKind == 4) ⟨⟨n, by omega, H⟩, Norm_fd [1, 17] 0 (by kernel_rfl) rfl rfl ⟨(sc_TValue_cs _ _), trivial⟩ (by refine scL_fr ?_; exact ⟨(sc_ptr rfl), trivial, trivial⟩)⟩
  · refine AWP_reg (Rh 2 37 [(1, .ptr 0 0), (4, iA x0.gKind), (5, bA (x0.gKind == 1))] (AOps_done (CD H (fun hb8 H => ?_) (fun hb8 H => ?_))))
    · refine AWP_skip ?_
      exact Exists.intro (x0.gKind == 1) ⟨⟨n, by omega, H⟩, Norm_fd [1, 4, 5] 0 (by kernel_rfl) rfl rfl ⟨(sc_TValue_cs _ _), trivial⟩ (by refine scL_fr ?_; exact ⟨(sc_ptr rfl), trivial, trivial, trivial⟩)⟩
    · refine AWP_region ?_
      refine Rh 2 37 [(1, .ptr 0 0), (4, iA x0.gKind), (5, bA (x0.gKind == 2))] (AOps_done ?_)
      exact Exists.intro (x0.gKind == 2) ⟨⟨n, by omega, H⟩, Norm_fd [1, 4, 5] 0 (by kernel_rfl) rfl rfl ⟨(sc_TValue_cs _ _), trivial⟩ (by refine scL_fr ?_; exact ⟨(sc_ptr rfl), trivial, trivial, trivial⟩)⟩
end Go.Proofs.YtjhbobacbaikoaaGreatDoor
/- A function of the program as a pure function, and that the program computes it. -/
namespace Go.Proofs.YtjhbobacbaikoaaGreatDoor
open Go
set_option linter.unusedVariables false
set_option linter.unusedSimpArgs false
set_option maxRecDepth 100000
def p_value_Check_K1 (n : Nat)  : Option Int :=
 some (0)
def p_value_Check_L2 (n : Nat) (x0 : TValue) (v77 : Int) : Option Int := match n with
| 0 => none
| n + 1 =>
(bif decide (v77 < (lI x0.gList)) then
(bif decide (v77 > 0) then rdO x0.gList (w64 (v77 - 1)) else some ByteArray.empty).bind fun v79 =>
(bif decide (v77 > 0) then rdO x0.gList v77 else some ByteArray.empty).bind fun v80 =>
(bif (decide (v77 > 0)) && (!(slt' v79 v80)) then
 some (9)
 else
 p_value_Check_L2 n x0 (w64 (v77 + 1)))
 else
 p_value_Check_K1 n  )
def p_value_Check_L1 (n : Nat) (x0 : TValue) (v64 : Int) : Option Int := match n with
| 0 => none
| n + 1 =>
(bif decide (v64 < (lI x0.gList)) then
(rdO x0.gList v64).bind fun v66 =>
(p_text_Valid n v66).bind fun v67 =>
(bif !v67 then
 some (2)
 else
 p_value_Check_L1 n x0 (w64 (v64 + 1)))
 else
 p_value_Check_L2 n x0 0)
def p_value_Check (n : Nat) (x0 : TValue) : Option Int :=
(bif (decide (x0.gKind < 1)) || (decide (x0.gKind > 5)) then
 some (7)
 else
(p_value_shape n x0).bind fun v2 =>
(bif !v2 then
 some (15)
 else
(bif x0.gKind == 1 then
(bif (x0.gNumber != 0) && (x0.gNumber != 1) then
 some (3)
 else
 p_value_Check_K1 n  )
 else
(bif x0.gKind == 2 then
(bif (decide (x0.gNumber < (-1099511627776))) || (decide (x0.gNumber > 1099511627776)) then
 some (3)
 else
 p_value_Check_K1 n  )
 else
(bif x0.gKind == 3 then
(p_text_Valid n x0.gText).bind fun v48 =>
(bif !v48 then
 some (2)
 else
 p_value_Check_K1 n  )
 else
(bif x0.gKind == 4 then
(p_value_parts n x0.gText).bind fun v51 =>
(bif !v51.2 then
 some (1)
 else
 p_value_Check_K1 n  )
 else
(bif x0.gKind == 5 then
(bif decide ((lI x0.gList) > 20) then
 some (5)
 else
 p_value_Check_L1 n x0 0)
 else
 p_value_Check_K1 n  )))))))
variable {E : Env}
theorem s_value_Check {n : Nat} (hG : GlobT E) {x0 : TValue} {r : Int} (H : p_value_Check n x0 = some r) :
    Sp Tryz.prog E 69 [.agg (TValue.cs x0)] [] (isA (iA r) []) := by
  unfold p_value_Check at H
  refine Sp_fn Tryz.func69 rfl (fun hc hs => ?_)
  refine AWP_reg (R 2 97 [(1, .ptr 0 0)] [.cells 58 (TValue.cs x0)] (AOps_done (AWP_seq (AWP_reg (Rh 4 97 [(1, .ptr 0 0), (11, bA (decide (x0.gKind < 1)))] (AOps_run 4 [1, 15] (st' := fr 97 [(1, .ptr 0 0), (15, bA ((decide (x0.gKind < 1)) || (decide (x0.gKind > 5))))]) (h' := [.cells 58 (TValue.cs x0)]) (by (generalize (decide (x0.gKind < 1)) = t0; cases t0 <;> kernel_rfl)) ?_))))))
  refine AOps_done (CD H (fun hb1 H => ?_) (fun hb1 H => ?_))
  · refine AWP_reg (Rh 1 97 [(2, iA 7)] (AOps_done ?_))
    exact AWP_ret (FR H)
  · refine AWP_skip ?_
    show AWP _ _ _ _ _ _ _
    refine AWP_seq (AWP_reg (Rh 1 97 [(1, .ptr 0 0), (16, .agg (TValue.cs x0))] ?_))
    obtain ⟨v2, hv2, H⟩ := bind_some H
    refine AOps_callp (d := (some 17)) (al := [.agg (TValue.cs x0)]) (r := bA v2) (by kernel_rfl) (s_value_shape hv2) ⟨(sc_TValue_cs _ _), trivial⟩ trivial ?_
    refine Rh 1 97 [(1, .ptr 0 0), (18, bA (!v2))] (AOps_done (CD H (fun hb3 H => ?_) (fun hb3 H => ?_)))
    · refine AWP_reg (Rh 1 97 [(2, iA 15)] (AOps_done ?_))
      exact AWP_ret (FR H)
    · refine AWP_skip ?_
      show AWP _ _ _ _ _ _ _
      refine AWP_joinN (α := Unit) (fun _ => fr 97 []) (fun _ => [.cells 58 (TValue.cs x0)]) (fun _ => ∃ q, q ≤ q ∧ p_value_Check_K1 q   = some r) (fun a hC => ?_) ?_
      · show AWP _ _ _ _ _ (fr 97 []) [.cells 58 (TValue.cs x0)]
        obtain ⟨n, hn_, hC⟩ := hC
        replace H : p_value_Check_K1 n   = some r := hC
        unfold p_value_Check_K1 at H
        refine AWP_reg (Rh 1 97 [(2, iA 0)] (AOps_done ?_))
        exact AWP_ret (FR H)
      · refine AWP_reg (Rh 2 97 [(1, .ptr 0 0), (20, iA x0.gKind)] (AOps_done (AWP_block ?_)))
        refine AWP_reg (Rh 2 97 [(1, .ptr 0 0), (20, iA x0.gKind), (21, bA (x0.gKind == 1))] (AOps_done (CD H (fun hb43 H => ?_) (fun hb43 H => ?_))))
        · refine AWP_reg (Rh 4 97 [(1, .ptr 0 0), (26, bA (x0.gNumber != 0))] (AOps_run 4 [30] (st' := fr 97 [(30, bA ((x0.gNumber != 0) && (x0.gNumber != 1)))]) (h' := [.cells 58 (TValue.cs x0)]) (by (generalize (x0.gNumber != 0) = t0; cases t0 <;> kernel_rfl)) ?_))
          refine AOps_done (CD H (fun hb44 H => ?_) (fun hb44 H => ?_))
          · refine AWP_reg (Rh 1 97 [(2, iA 3)] (AOps_done ?_))
            exact AWP_ret (FR H)
          · refine AWP_skip ?_
            exact Exists.intro () ⟨⟨n, by omega, H⟩, Norm_fd [] 0 (by kernel_rfl) rfl rfl ⟨(sc_TValue_cs _ _), trivial⟩ (by refine scL_fr ?_; exact trivial)⟩
        · refine AWP_reg (Rh 2 97 [(1, .ptr 0 0), (20, iA x0.gKind), (31, bA (x0.gKind == 2))] (AOps_done (CD H (fun hb45 H => ?_) (fun hb45 H => ?_))))
          · refine AWP_reg (Rh 4 97 [(1, .ptr 0 0), (36, bA (decide (x0.gNumber < (-1099511627776))))] (AOps_run 4 [40] (st' := fr 97 [(40, bA ((decide (x0.gNumber < (-1099511627776))) || (decide (x0.gNumber > 1099511627776))))]) (h' := [.cells 58 (TValue.cs x0)]) (by (generalize (decide (x0.gNumber < (-1099511627776))) = t0; cases t0 <;> kernel_rfl)) ?_))
            refine AOps_done (CD H (fun hb46 H => ?_) (fun hb46 H => ?_))
            · refine AWP_reg (Rh 1 97 [(2, iA 3)] (AOps_done ?_))
              exact AWP_ret (FR H)
            · refine AWP_skip ?_
              exact Exists.intro () ⟨⟨n, by omega, H⟩, Norm_fd [] 0 (by kernel_rfl) rfl rfl ⟨(sc_TValue_cs _ _), trivial⟩ (by refine scL_fr ?_; exact trivial)⟩
          · refine AWP_reg (Rh 2 97 [(1, .ptr 0 0), (20, iA x0.gKind), (41, bA (x0.gKind == 3))] (AOps_done (CD H (fun hb47 H => ?_) (fun hb47 H => ?_))))
            · refine AWP_reg (Rh 2 97 [(44, sA x0.gText)] ?_)
              obtain ⟨v48, hv48, H⟩ := bind_some H
              refine AOps_callp (d := (some 45)) (al := [sA x0.gText]) (r := bA v48) (by kernel_rfl) (s_text_Valid hG hv48) ⟨trivial, trivial⟩ trivial ?_
              refine Rh 1 97 [(46, bA (!v48))] (AOps_done (CD H (fun hb49 H => ?_) (fun hb49 H => ?_)))
              · refine AWP_reg (Rh 1 97 [(2, iA 2)] (AOps_done ?_))
                exact AWP_ret (FR H)
              · refine AWP_skip ?_
                exact Exists.intro () ⟨⟨n, by omega, H⟩, Norm_fd [] 0 (by kernel_rfl) rfl rfl ⟨(sc_TValue_cs _ _), trivial⟩ (by refine scL_fr ?_; exact trivial)⟩
            · refine AWP_reg (Rh 2 97 [(1, .ptr 0 0), (20, iA x0.gKind), (47, bA (x0.gKind == 4))] (AOps_done (CD H (fun hb50 H => ?_) (fun hb50 H => ?_))))
              · refine AWP_reg (Rh 2 97 [(51, sA x0.gText)] ?_)
                obtain ⟨v51, hv51, H⟩ := bind_some H
                refine AOps_callp (d := (some 52)) (al := [sA x0.gText]) (r := .tup [.agg [iA v51.1.1, iA v51.1.2.1, iA v51.1.2.2], bA v51.2]) (by kernel_rfl) (s_value_parts hG hv51) ⟨trivial, trivial⟩ ⟨⟨trivial, trivial, trivial, trivial⟩, trivial, trivial⟩ ?_
                refine R 6 97 [(4, bA v51.2)] [.cells 162 [iA v51.1.1, iA v51.1.2.1, iA v51.1.2.2], .cells 58 (TValue.cs x0)] (AOps_done (AWP_reg (Rh 2 97 [(56, bA (!v51.2))] (AOps_done (CD H (fun hb52 H => ?_) (fun hb52 H => ?_))))))
                · refine AWP_reg (Rh 1 97 [(2, iA 1)] (AOps_done ?_))
                  exact AWP_ret (FR H)
                · refine AWP_skip ?_
                  exact Exists.intro () ⟨⟨n, by omega, H⟩, Norm_fd [] 1 (by kernel_rfl) rfl rfl ⟨(sc_TValue_cs _ _), trivial⟩ (by refine scL_fr ?_; exact trivial)⟩
              · refine AWP_reg (Rh 2 97 [(1, .ptr 0 0), (57, bA (x0.gKind == 5))] (AOps_done (CD H (fun hb53 H => ?_) (fun hb53 H => ?_))))
                · refine AWP_seq (AWP_reg (Rh 4 97 [(1, .ptr 0 0), (62, bA (decide ((lI x0.gList) > 20)))] (AOps_done (CD H (fun hb54 H => ?_) (fun hb54 H => ?_)))))
                  · refine AWP_reg (Rh 1 97 [(2, iA 5)] (AOps_done ?_))
                    exact AWP_ret (FR H)
                  · refine AWP_skip ?_
                    show AWP _ _ _ _ _ _ _
                    refine AWP_seq (AWP_reg (Rh 4 97 [(1, .ptr 0 0), (64, .ro .unk x0.gList.length (cl_str x0.gList)), (65, iA (lI x0.gList)), (66, iA 0)] (AOps_done (AWP_block ?_))))
                    refine AWP_loopN (α := Int) (fun v64 => fr 97 [(1, .ptr 0 0), (64, .ro .unk x0.gList.length (cl_str x0.gList)), (65, iA (lI x0.gList)), (66, iA v64)]) (fun v64 => [.cells 58 (TValue.cs x0)]) (fun k_ v64 => k_ ≤ n ∧ p_value_Check_L1 k_ x0 v64 = some r) (fun n v64 H => ?_) (k := n) 0 ⟨Nat.le_refl _, H⟩ (Norm_fd [1, 64, 65, 66] 0 (by kernel_rfl) rfl rfl ⟨(sc_TValue_cs _ _), trivial⟩ (by refine scL_fr ?_; exact ⟨(sc_ptr rfl), (scl_cl_str _ _), trivial, trivial, trivial⟩))
                    show AWP _ _ _ _ _ (fr 97 [(1, .ptr 0 0), (64, .ro .unk x0.gList.length (cl_str x0.gList)), (65, iA (lI x0.gList)), (66, iA v64)]) [.cells 58 (TValue.cs x0)]
                    obtain ⟨hb_, H⟩ := H
                    replace H : p_value_Check_L1 n x0 v64 = some r := H
                    cases n with
                    | zero => exact not_none (by simpa only [p_value_Check_L1] using H)
                    | succ n =>
                      unfold p_value_Check_L1 at H
                      refine AWP_reg (Rh 1 97 [(1, .ptr 0 0), (64, .ro .unk x0.gList.length (cl_str x0.gList)), (65, iA (lI x0.gList)), (66, iA v64), (67, bA (decide (v64 < (lI x0.gList))))] (AOps_done (AWP_seq (CD H (fun hb65 H => ?_) (fun hb65 H => ?_)))))
                      · refine AWP_skip ?_
                        show AWP _ _ _ _ _ _ _
                        refine AWP_seq (AWP_block ?_)
                        refine AWP_reg ?_
                        obtain ⟨v66, hv66, H⟩ := bind_some H
                        refine AOps_index (d := (some 68)) (sz := 1) (c := cs_str) (by kernel_rfl) rfl (eq_cl_str _) (fun _ => rfl) (by decide) hv66 (fun tl66 => ?_)
                        refine Rh 2 97 [(1, .ptr 0 0), (6, sA v66), (64, .ro .unk x0.gList.length (cl_str x0.gList)), (65, iA (lI x0.gList)), (66, iA v64)] (AOps_done (AWP_reg (Rh 1 97 [(1, .ptr 0 0), (64, .ro .unk x0.gList.length (cl_str x0.gList)), (65, iA (lI x0.gList)), (66, iA v64), (70, sA v66)] ?_)))
                        obtain ⟨v67, hv67, H⟩ := bind_some H
                        refine AOps_callp (d := (some 71)) (al := [sA v66]) (r := bA v67) (by kernel_rfl) (s_text_Valid hG hv67) ⟨trivial, trivial⟩ trivial ?_
                        refine Rh 1 97 [(1, .ptr 0 0), (64, .ro .unk x0.gList.length (cl_str x0.gList)), (65, iA (lI x0.gList)), (66, iA v64), (72, bA (!v67))] (AOps_done (CD H (fun hb68 H => ?_) (fun hb68 H => ?_)))
                        · refine AWP_reg (Rh 1 97 [(2, iA 2)] (AOps_done ?_))
                          exact AWP_ret (FR H)
                        · refine AWP_skip ?_
                          show AWP _ _ _ _ _ _ _
                          refine AWP_region ?_
                          refine Rh 2 97 [(1, .ptr 0 0), (64, .ro .unk x0.gList.length (cl_str x0.gList)), (65, iA (lI x0.gList)), (66, iA (w64 (v64 + 1)))] (AOps_done ?_)
                          exact Exists.intro (w64 (v64 + 1)) (Exists.intro n ⟨by omega, ⟨by omega, H⟩, Norm_fd [1, 64, 65, 66] 0 (by kernel_rfl) rfl rfl ⟨(sc_TValue_cs _ _), trivial⟩ (by refine scL_fr ?_; exact ⟨(sc_ptr rfl), (scl_cl_str _ _), trivial, trivial, trivial⟩)⟩)
                      · refine AWP_exit ?_
                        show AWP _ _ _ _ _ _ _
                        refine AWP_reg (Rh 4 97 [(1, .ptr 0 0), (76, iA (lI x0.gList)), (77, iA 0)] (AOps_done (AWP_block ?_)))
                        refine AWP_loopN (α := Int) (fun v77 => fr 97 [(1, .ptr 0 0), (76, iA (lI x0.gList)), (77, iA v77)]) (fun v77 => [.cells 58 (TValue.cs x0)]) (fun k_ v77 => k_ ≤ n ∧ p_value_Check_L2 k_ x0 v77 = some r) (fun n v77 H => ?_) (k := n) 0 ⟨Nat.le_refl _, H⟩ (Norm_fd [1, 76, 77] 0 (by kernel_rfl) rfl rfl ⟨(sc_TValue_cs _ _), trivial⟩ (by refine scL_fr ?_; exact ⟨(sc_ptr rfl), trivial, trivial, trivial⟩))
                        show AWP _ _ _ _ _ (fr 97 [(1, .ptr 0 0), (76, iA (lI x0.gList)), (77, iA v77)]) [.cells 58 (TValue.cs x0)]
                        obtain ⟨hb_, H⟩ := H
                        replace H : p_value_Check_L2 n x0 v77 = some r := H
                        cases n with
                        | zero => exact not_none (by simpa only [p_value_Check_L2] using H)
                        | succ n =>
                          unfold p_value_Check_L2 at H
                          refine AWP_reg (Rh 1 97 [(1, .ptr 0 0), (76, iA (lI x0.gList)), (77, iA v77), (78, bA (decide (v77 < (lI x0.gList))))] (AOps_done (AWP_seq (CD H (fun hb78 H => ?_) (fun hb78 H => ?_)))))
                          · refine AWP_skip ?_
                            show AWP _ _ _ _ _ _ _
                            refine AWP_seq (AWP_block ?_)
                            refine AWP_reg (Rh 2 97 [(1, .ptr 0 0), (7, iA v77), (76, iA (lI x0.gList)), (77, iA v77)] (AOps_done ?_))
                            obtain ⟨v79, hv79, H⟩ := bind_some H
                            obtain ⟨v80, hv80, H⟩ := bind_some H
                            refine AWP_regD1 [0, 1, 2, 3, 4, 5, 6, 7, 8, 9, 10, 11, 12, 13, 14, 15] (N := 97) (f := [(1, .ptr 0 0), (7, iA v77), (76, iA (lI x0.gList)), (77, iA v77)]) (leL_of [1, 7, 76, 77] (by kernel_rfl)) mixed (by kernel_rfl) (by kernel_rfl) (st' := fr 97 [(1, .ptr 0 0), (76, iA (lI x0.gList)), (77, iA v77), (95, bA ((decide (v77 > 0)) && (!(slt' v79 v80))))]) (h' := [.cells 58 (TValue.cs x0)]) ?_ ?_
                            rotate_left
                            · refine RD 3 97 [] [(1, .ptr 0 0), (7, iA v77), (76, iA (lI x0.gList)), (77, iA v77), (80, iA v77), (81, bA (decide (v77 > 0))), (82, bA (decide (v77 > 0)))] ?_
                              cases c1 : (decide (v77 > 0) : Bool) with
                              | true =>
                                refine RD 4 97 [(4, 0), (3, 0)] [(1, .ptr 0 0), (7, iA v77), (76, iA (lI x0.gList)), (77, iA v77), (80, iA v77), (81, bA true), (82, bA true), (83, .ptr 0 3), (84, .ro .unk x0.gList.length (cl_str x0.gList)), (85, iA v77), (86, iA (w64 (v77 - 1)))] ?_
                                have hv79_ := cond_t hv79 (by simp only [c1] <;> rfl)
                                refine AD_index (d := (some 87)) (sz := 1) (c := cs_str) (by kernel_rfl) rfl (eq_cl_str _) (fun _ => rfl) (by decide) hv79_ (fun tl79 => ?_)
                                refine RD 4 97 [(10, 0), (9, 0), (4, 0), (3, 0)] [(1, .ptr 0 0), (7, iA v77), (76, iA (lI x0.gList)), (77, iA v77), (80, iA v77), (81, bA true), (82, bA true), (83, .ptr 0 3), (84, .ro .unk x0.gList.length (cl_str x0.gList)), (85, iA v77), (86, iA (w64 (v77 - 1))), (87, .rop ([sA v79] ++ tl79)), (88, sA v79), (89, .ptr 0 3), (90, .ro .unk x0.gList.length (cl_str x0.gList)), (91, iA v77)] ?_
                                have hv80_ := cond_t hv80 (by simp only [c1] <;> rfl)
                                refine AD_index (d := (some 92)) (sz := 1) (c := cs_str) (by kernel_rfl) rfl (eq_cl_str _) (fun _ => rfl) (by decide) hv80_ (fun tl80 => ?_)
                                refine RD 3 97 [(10, 0), (9, 0), (4, 0), (3, 0)] [(1, .ptr 0 0), (7, iA v77), (76, iA (lI x0.gList)), (77, iA v77), (80, iA v77), (81, bA true), (82, bA true), (83, .ptr 0 3), (84, .ro .unk x0.gList.length (cl_str x0.gList)), (85, iA v77), (86, iA (w64 (v77 - 1))), (87, .rop ([sA v79] ++ tl79)), (88, sA v79), (89, .ptr 0 3), (90, .ro .unk x0.gList.length (cl_str x0.gList)), (91, iA v77), (92, .rop ([sA v80] ++ tl80)), (93, sA v80), (94, bA (!(slt' v79 v80))), (95, bA (true && (!(slt' v79 v80))))] ?_
                                exact AD_here [1, 76, 77, 95] (by kernel_rfl) rfl
                              | false =>
                                refine RD 13 97 [] [(1, .ptr 0 0), (7, iA v77), (76, iA (lI x0.gList)), (77, iA v77), (80, iA v77), (81, bA false), (82, bA false), (83, undefA), (84, undefA), (85, undefA), (86, undefA), (87, undefA), (88, undefA), (89, undefA), (90, undefA), (91, undefA), (92, undefA), (93, undefA), (94, undefA), (95, bA (false && (!(slt' v79 v80))))] ?_
                                exact AD_here [1, 76, 77, 95] (by kernel_rfl) rfl
                            refine CD H (fun hb81 H => ?_) (fun hb81 H => ?_)
                            · refine AWP_reg (Rh 1 97 [(2, iA 9)] (AOps_done ?_))
                              exact AWP_ret (FR H)
                            · refine AWP_skip ?_
                              show AWP _ _ _ _ _ _ _
                              refine AWP_region ?_
                              refine Rh 2 97 [(1, .ptr 0 0), (76, iA (lI x0.gList)), (77, iA (w64 (v77 + 1)))] (AOps_done ?_)
                              exact Exists.intro (w64 (v77 + 1)) (Exists.intro n ⟨by omega, ⟨by omega, H⟩, Norm_fd [1, 76, 77] 0 (by kernel_rfl) rfl rfl ⟨(sc_TValue_cs _ _), trivial⟩ (by refine scL_fr ?_; exact ⟨(sc_ptr rfl), trivial, trivial, trivial⟩)⟩)
                          · refine AWP_exit ?_
                            exact Exists.intro () ⟨⟨n, by omega, H⟩, Norm_fd [] 0 (by kernel_rfl) rfl rfl ⟨(sc_TValue_cs _ _), trivial⟩ (by refine scL_fr ?_; exact trivial)⟩
                · refine AWP_skip ?_
                  exact Exists.intro () ⟨⟨n, by omega, H⟩, Norm_fd [] 0 (by kernel_rfl) rfl rfl ⟨(sc_TValue_cs _ _), trivial⟩ (by refine scL_fr ?_; exact trivial)⟩
end Go.Proofs.YtjhbobacbaikoaaGreatDoor
/- Values: the program's Check and the reference's Check are alike. -/
namespace Go.Proofs.YtjhbobacbaikoaaGreatDoor
open Go
set_option linter.unusedVariables false
set_option linter.unusedSimpArgs false
/-- Two loops that are looked at from a place on. -/
theorem loop2f {β : Type} (lo : Nat) (L M : Nat → Int → Option β) (len : Nat)
    (step : ∀ i : Nat, lo ≤ i → i < len → (∃ v, Al fun n => L (n + 1) i = some v ∧ M (n + 1) i = some v) ∨ Al fun n => L (n + 1) i = L n ((i + 1 : Nat) : Int) ∧ M (n + 1) i = M n ((i + 1 : Nat) : Int))
    (fin : ∃ v, Al fun n => L (n + 1) len = some v ∧ M (n + 1) len = some v) : ∀ i : Nat, lo ≤ i → i ≤ len → ∃ v, Al fun n => L n i = some v ∧ M n i = some v := by
  intro i hlo hi
  obtain ⟨k, hk⟩ : ∃ k, i + k = len := ⟨len - i, by omega⟩
  induction k generalizing i with
  | zero =>
    obtain rfl : i = len := by omega
    obtain ⟨v, h⟩ := fin
    exact ⟨v, h.succ⟩
  | succ k ih =>
    rcases step i hlo (by omega) with ⟨v, h⟩ | h
    · exact ⟨v, h.succ⟩
    · obtain ⟨v, h2⟩ := ih (i + 1) (by omega) (by omega) (by omega)
      exact ⟨v, Al.succ ((h.and h2).mono fun n ⟨⟨a, b⟩, c, d⟩ => ⟨a.trans c, b.trans d⟩)⟩
/-! the order of strings -/
theorem less_irrefl : ∀ a : List UInt8, Op.bytesLess a a = false
  | [] => rfl
  | a :: x => by
    simp only [Op.bytesLess, less_irrefl x, Bool.and_false, Bool.or_false]
    exact decide_eq_false (UInt8.lt_irrefl a)
theorem less_total : ∀ a b : List UInt8, (!Op.bytesLess a b) = (Op.bytesLess b a || b == a)
  | [], [] => rfl
  | [], _ :: _ => by simp [Op.bytesLess]
  | _ :: _, [] => by simp [Op.bytesLess]
  | a :: x, b :: y => by
    have ih := less_total x y
    simp only [Op.bytesLess]
    by_cases h : a = b
    · subst h
      have h1 : decide (a < a) = false := decide_eq_false (UInt8.lt_irrefl a)
      rw [h1]
      simp only [beq_self_eq_true, Bool.true_and, Bool.false_or, ih]
      have h2 : (a :: y == a :: x) = (y == x) := by simp
      rw [h2]
    · have e1 : (a == b) = false := by simpa using h
      have e2 : (b == a) = false := by simpa using fun e => h e.symm
      have e3 : (b :: y == a :: x) = false := by simp [e2]
      rw [e1, e2, e3]
      simp only [Bool.false_and, Bool.or_false]
      rcases Nat.lt_trichotomy a.toNat b.toNat with hl | he | hl
      · have h1 : a < b := UInt8.lt_iff_toNat_lt.2 hl
        have h2 : ¬ b < a := fun h => by have := UInt8.lt_iff_toNat_lt.1 h; omega
        simp [h1, h2]
      · exact absurd (UInt8.toNat_inj.1 he) h
      · have h1 : ¬ a < b := fun h => by have := UInt8.lt_iff_toNat_lt.1 h; omega
        have h2 : b < a := UInt8.lt_iff_toNat_lt.2 hl
        simp [h1, h2]
theorem slt_sle (a b : ByteArray) : (!slt' a b) = sle' b a := by
  unfold slt' sle'
  exact less_total _ _
/-- Sizes of what is in a value. -/
theorem shape_eq (n : Nat) (x : TValue) (h : 1 ≤ x.gKind ∧ x.gKind ≤ 5) : p_value_shape n x = p_ref3_shape n x := by
  have hk : x.gKind = 1 ∨ x.gKind = 2 ∨ x.gKind = 3 ∨ x.gKind = 4 ∨ x.gKind = 5 := by omega
  unfold p_value_shape p_value_shape_K1 p_value_shape_K2 p_ref3_shape
  rcases hk with hk | hk | hk | hk | hk <;> rw [hk] <;> simp
theorem vlist_order (x : TValue) (hl : x.gList.length < 4294967281) : ∃ v, Al fun n => p_value_Check_L2 n x 0 = some v ∧ p_ref3_list_L2 n x.gList 1 = some v := by
  have key : x.gList.length ≥ 1 → ∃ v, Al fun n => p_value_Check_L2 n x 1 = some v ∧ p_ref3_list_L2 n x.gList 1 = some v := by
    intro h1
    refine loop2f 1 (fun n i => p_value_Check_L2 n x i) (fun n i => p_ref3_list_L2 n x.gList i) x.gList.length (fun i h0 hi => ?_) ⟨0, .of fun n => ?_⟩ 1 (Nat.le_refl _) h1
    · have hd : decide ((i : Int) < lI x.gList) = true := decide_eq_true (by unfold lI; omega)
      have hp : decide ((i : Int) > 0) = true := decide_eq_true (by omega)
      cases hs : sle' x.gList[i] x.gList[i - 1] with
      | true =>
        refine .inl ⟨9, .of fun n => ?_⟩
        rw [p_value_Check_L2, p_ref3_list_L2, hd, hp]
        simp only [cond_true, rdO_nat hi, rdO_pred h0 hi (by omega), Option.bind_some, Bool.true_and, slt_sle, hs, and_self]
      | false =>
        refine .inr (.of fun n => ?_)
        rw [p_value_Check_L2, p_ref3_list_L2, hd, hp]
        simp only [cond_true, rdO_nat hi, rdO_pred h0 hi (by omega), Option.bind_some, Bool.true_and, slt_sle, hs, cond_false, w64_add (show i + 1 < 9223372036854775808 by omega), and_self]
    · have hd : decide (((x.gList.length : Nat) : Int) < lI x.gList) = false := decide_eq_false (by unfold lI; omega)
      rw [p_value_Check_L2, p_ref3_list_L2, hd]
      exact ⟨rfl, rfl⟩
  by_cases h1 : x.gList.length ≥ 1
  · obtain ⟨v, h⟩ := key h1
    refine ⟨v, Al.succ ((h.and h.shift).mono fun n ⟨⟨a, _⟩, _, b⟩ => ⟨?_, b⟩)⟩
    rw [p_value_Check_L2]
    have hd : decide ((0 : Int) < lI x.gList) = true := decide_eq_true (by unfold lI; omega)
    have hp : decide ((0 : Int) > 0) = false := rfl
    rw [hd, hp]
    simp only [cond_true, cond_false, Option.bind_some, Bool.false_and]
    exact a
  · refine ⟨0, Al.succ (.of fun n => ?_)⟩
    have hd : decide ((0 : Int) < lI x.gList) = false := decide_eq_false (by unfold lI; omega)
    have hd1 : decide ((1 : Int) < lI x.gList) = false := decide_eq_false (by unfold lI; omega)
    rw [p_value_Check_L2, p_ref3_list_L2, hd, hd1]
    exact ⟨rfl, rfl⟩
theorem vlist_bi (x : TValue) (hl : x.gList.length < 4294967281) : ∃ v, Al fun n => p_value_Check_L1 n x 0 = some v ∧ p_ref3_list_L1 n x.gList 0 = some v := by
  obtain ⟨v, hv⟩ := vlist_order x hl
  refine loop2 (fun n i => p_value_Check_L1 n x i) (fun n i => p_ref3_list_L1 n x.gList i) x.gList.length (fun i hi => ?_) ⟨v, hv.mono fun n ⟨a, b⟩ => ?_⟩ 0 (by omega)
  · have hd : decide ((i : Int) < lI x.gList) = true := decide_eq_true (by unfold lI; omega)
    obtain ⟨b, hb⟩ := valid_bi x.gList[i]
    cases b with
    | true =>
      refine .inr (hb.mono fun n ⟨a, b⟩ => ?_)
      rw [p_value_Check_L1, p_ref3_list_L1, hd]
      simp only [cond_true, rdO_nat hi, Option.bind_some, a, b, Bool.not_true, cond_false, w64_add (show i + 1 < 9223372036854775808 by omega), and_self]
    | false =>
      refine .inl ⟨2, hb.mono fun n ⟨a, b⟩ => ?_⟩
      rw [p_value_Check_L1, p_ref3_list_L1, hd]
      simp only [cond_true, rdO_nat hi, Option.bind_some, a, b, Bool.not_false, and_self]
  · have hd : decide (((x.gList.length : Nat) : Int) < lI x.gList) = false := decide_eq_false (by unfold lI; omega)
    rw [p_value_Check_L1, p_ref3_list_L1, hd]
    exact ⟨a, b⟩
/-- Check of both. -/
theorem check_bi (x : TValue) (hx : x.sm) : ∃ v, Al fun n => p_value_Check n x = some v ∧ p_ref3_Check n x = some v := by
  obtain ⟨b1, h1⟩ := valid_bi x.gText
  have h2 := (value_parts x.gText hx.1).and (ref_parts x.gText (by have := hx.1; omega))
  obtain ⟨v3, h3⟩ := vlist_bi x hx.2.1
  have h := h1.and (h2.and h3)
  by_cases hk : 1 ≤ x.gKind ∧ x.gKind ≤ 5
  · have e0 : (decide (x.gKind < 1) || decide (x.gKind > 5)) = false := by simp; omega
    have hs : ∀ n, p_ref3_shape n x = some (((((x.gKind == 1) || (x.gKind == 2)) || (x.gNumber == 0)) && (((x.gKind == 3) || (x.gKind == 4)) || (seq' x.gText ByteArray.empty))) && ((x.gKind == 5) || ((lI x.gList) == 0))) := fun n => rfl
    generalize (((((x.gKind == 1) || (x.gKind == 2)) || (x.gNumber == 0)) && (((x.gKind == 3) || (x.gKind == 4)) || (seq' x.gText ByteArray.empty))) && ((x.gKind == 5) || ((lI x.gList) == 0))) = sb at hs
    have hk2 : x.gKind = 1 ∨ x.gKind = 2 ∨ x.gKind = 3 ∨ x.gKind = 4 ∨ x.gKind = 5 := by omega
    cases sb with
    | false =>
      refine ⟨15, .of fun n => ?_⟩
      unfold p_value_Check p_ref3_Check
      rw [shape_eq n x hk, hs, e0]
      exact ⟨rfl, rfl⟩
    | true =>
      have go : ∀ v, (Al fun n => p_value_Check n x = some v ∧ p_ref3_Check n x = some v) → ∃ v, Al fun n => p_value_Check n x = some v ∧ p_ref3_Check n x = some v := fun v h => ⟨v, h⟩
      rcases hk2 with hk2 | hk2 | hk2 | hk2 | hk2
      · refine ⟨if (x.gNumber != 0 && x.gNumber != 1) = true then 3 else 0, .of fun n => ?_⟩
        unfold p_value_Check p_ref3_Check p_value_Check_K1 p_ref3_Check_K1
        rw [shape_eq n x hk, hs, e0, hk2]
        cases (x.gNumber != 0 && x.gNumber != 1) <;> simp
      · refine ⟨if (decide (x.gNumber < -1099511627776) || decide (x.gNumber > 1099511627776)) = true then 3 else 0, .of fun n => ?_⟩
        unfold p_value_Check p_ref3_Check p_value_Check_K1 p_ref3_Check_K1
        rw [shape_eq n x hk, hs, e0, hk2]
        cases (decide (x.gNumber < -1099511627776) || decide (x.gNumber > 1099511627776)) <;> simp
      · refine ⟨if b1 = true then 0 else 2, h1.mono fun n ⟨a, b⟩ => ?_⟩
        unfold p_value_Check p_ref3_Check p_value_Check_K1 p_ref3_Check_K1
        rw [shape_eq n x hk, hs, e0, hk2, a, b]
        cases b1 <;> simp
      · refine ⟨if (parts3 x.gText.data.toList).2 = true then 0 else 1, h2.mono fun n ⟨a, b⟩ => ?_⟩
        unfold p_value_Check p_ref3_Check p_value_Check_K1 p_ref3_Check_K1
        rw [shape_eq n x hk, hs, e0, hk2, a, b]
        generalize parts3 x.gText.data.toList = q
        obtain ⟨q1, q2⟩ := q
        cases q2 <;> simp
      · refine ⟨if decide (lI x.gList > 20) = true then 5 else v3, h3.mono fun n ⟨a, b⟩ => ?_⟩
        unfold p_value_Check p_ref3_Check p_value_Check_K1 p_ref3_Check_K1 p_ref3_list
        rw [shape_eq n x hk, hs, e0, hk2, a, b]
        cases decide (lI x.gList > 20) <;> simp
  · have e0 : (decide (x.gKind < 1) || decide (x.gKind > 5)) = true := by simp; omega
    refine ⟨7, .of fun n => ?_⟩
    unfold p_value_Check p_ref3_Check
    rw [e0]
    exact ⟨rfl, rfl⟩
end Go.Proofs.YtjhbobacbaikoaaGreatDoor
/- A function of the program as a pure function, and that the program computes it. -/
namespace Go.Proofs.YtjhbobacbaikoaaGreatDoor
open Go
set_option linter.unusedVariables false
set_option linter.unusedSimpArgs false
set_option maxRecDepth 100000
def p_ref6_IsTest (n : Nat) (x0 : Int) : Option Bool :=
 some ((decide (x0 ≥ 6)) && (decide (x0 ≤ 15)))
variable {E : Env}
theorem s_ref6_IsTest {n : Nat} {x0 : Int} {r : Bool} (H : p_ref6_IsTest n x0 = some r) :
    Sp Tryz.prog E 128 [iA x0] [] (isA (bA r) []) := by
  unfold p_ref6_IsTest at H
  refine Sp_fn Tryz.func128 rfl (fun hc hs => ?_)
  refine AWP_reg (Rh 1 9 [(0, iA x0)] (AOps_done (AWP_reg (Rh 3 9 [(0, iA x0), (5, bA (decide (x0 ≥ 6)))] (AOps_run 3 [8] (st' := fr 9 [(8, bA ((decide (x0 ≥ 6)) && (decide (x0 ≤ 15))))]) (h' := []) (by (generalize (decide (x0 ≥ 6)) = t0; cases t0 <;> kernel_rfl)) ?_)))))
  refine Rh 1 9 [(2, bA ((decide (x0 ≥ 6)) && (decide (x0 ≤ 15))))] (AOps_done ?_)
  exact AWP_ret (FR H)
end Go.Proofs.YtjhbobacbaikoaaGreatDoor
/- A function of the program as a pure function, and that the program computes it. -/
namespace Go.Proofs.YtjhbobacbaikoaaGreatDoor
open Go
set_option linter.unusedVariables false
set_option linter.unusedSimpArgs false
set_option maxRecDepth 100000
def p_ref6_None (n : Nat) (x0 : TExpr) : Option Bool :=
 some (((((x0.gOp == 0) && (seq' x0.gKind ByteArray.empty)) && (seq' x0.gName ByteArray.empty)) && ((lI x0.gValues) == 0)) && ((lI x0.gKids) == 0))
variable {E : Env}
theorem s_ref6_None {n : Nat} {x0 : TExpr} {r : Bool} (H : p_ref6_None n x0 = some r) :
    Sp Tryz.prog E 18 [.agg (TExpr.cs x0)] [] (isA (bA r) []) := by
  unfold p_ref6_None at H
  refine Sp_fn Tryz.func18 rfl (fun hc hs => ?_)
  refine AWP_reg (R 2 28 [(1, .ptr 0 0)] [.cells 25 (TExpr.cs x0)] (AOps_done (AWP_reg (Rh 4 28 [(1, .ptr 0 0), (6, bA (x0.gOp == 0))] (AOps_run 4 [1, 10] (st' := fr 28 [(1, .ptr 0 0), (10, bA ((x0.gOp == 0) && (seq' x0.gKind ByteArray.empty)))]) (h' := [.cells 25 (TExpr.cs x0)]) (by (generalize (x0.gOp == 0) = t0; cases t0 <;> kernel_rfl)) ?_)))))
  refine Rh 1 28 [(1, .ptr 0 0), (11, bA ((x0.gOp == 0) && (seq' x0.gKind ByteArray.empty)))] (AOps_run 4 [1, 15] (st' := fr 28 [(1, .ptr 0 0), (15, bA (((x0.gOp == 0) && (seq' x0.gKind ByteArray.empty)) && (seq' x0.gName ByteArray.empty)))]) (h' := [.cells 25 (TExpr.cs x0)]) (by (generalize (x0.gOp == 0) = t0; generalize (seq' x0.gKind ByteArray.empty) = t1; cases t0 <;> cases t1 <;> kernel_rfl)) ?_)
  refine Rh 1 28 [(1, .ptr 0 0), (16, bA (((x0.gOp == 0) && (seq' x0.gKind ByteArray.empty)) && (seq' x0.gName ByteArray.empty)))] (AOps_run 5 [1, 21] (st' := fr 28 [(1, .ptr 0 0), (21, bA ((((x0.gOp == 0) && (seq' x0.gKind ByteArray.empty)) && (seq' x0.gName ByteArray.empty)) && ((lI x0.gValues) == 0)))]) (h' := [.cells 25 (TExpr.cs x0)]) (by (generalize (x0.gOp == 0) = t0; generalize (seq' x0.gKind ByteArray.empty) = t1; generalize (seq' x0.gName ByteArray.empty) = t2; cases t0 <;> cases t1 <;> cases t2 <;> kernel_rfl)) ?_)
  refine Rh 1 28 [(1, .ptr 0 0), (22, bA ((((x0.gOp == 0) && (seq' x0.gKind ByteArray.empty)) && (seq' x0.gName ByteArray.empty)) && ((lI x0.gValues) == 0)))] (AOps_run 5 [27] (st' := fr 28 [(27, bA (((((x0.gOp == 0) && (seq' x0.gKind ByteArray.empty)) && (seq' x0.gName ByteArray.empty)) && ((lI x0.gValues) == 0)) && ((lI x0.gKids) == 0)))]) (h' := [.cells 25 (TExpr.cs x0)]) (by (generalize (x0.gOp == 0) = t0; generalize (seq' x0.gKind ByteArray.empty) = t1; generalize (seq' x0.gName ByteArray.empty) = t2; generalize ((lI x0.gValues) == 0) = t3; cases t0 <;> cases t1 <;> cases t2 <;> cases t3 <;> kernel_rfl)) ?_)
  refine Rh 1 28 [(2, bA (((((x0.gOp == 0) && (seq' x0.gKind ByteArray.empty)) && (seq' x0.gName ByteArray.empty)) && ((lI x0.gValues) == 0)) && ((lI x0.gKids) == 0)))] (AOps_done ?_)
  exact AWP_ret (FR H)
end Go.Proofs.YtjhbobacbaikoaaGreatDoor
/- A function of the program as a pure function, and that the program computes it. -/
namespace Go.Proofs.YtjhbobacbaikoaaGreatDoor
open Go
set_option linter.unusedVariables false
set_option linter.unusedSimpArgs false
set_option maxRecDepth 100000
def p_ref6_counts_K1 (n : Nat) (x0 : TExpr) (v6 : Bool) (v7 : Bool) : Option Bool :=
(p_ref6_IsTest n x0.gOp).bind fun v8 =>
 some (((v6 && v7) && (v8 || (seq' x0.gKind ByteArray.empty))) && ((v8 || (x0.gOp == 5)) || (seq' x0.gName ByteArray.empty)))
def p_ref6_counts (n : Nat) (x0 : TExpr) : Option Bool :=
(bif (x0.gOp == 2) || (x0.gOp == 3) then
 p_ref6_counts_K1 n x0 (decide ((lI x0.gKids) ≥ 2)) ((lI x0.gValues) == 0)
 else
(bif x0.gOp == 4 then
 p_ref6_counts_K1 n x0 ((lI x0.gKids) == 1) ((lI x0.gValues) == 0)
 else
(bif x0.gOp == 8 then
 p_ref6_counts_K1 n x0 ((lI x0.gKids) == 0) (decide ((lI x0.gValues) > 0))
 else
(p_ref6_IsTest n x0.gOp).bind fun v12 =>
(bif v12 && (x0.gOp != 6) then
 p_ref6_counts_K1 n x0 ((lI x0.gKids) == 0) ((lI x0.gValues) == 1)
 else
 p_ref6_counts_K1 n x0 ((lI x0.gKids) == 0) ((lI x0.gValues) == 0)))))
variable {E : Env}
theorem s_ref6_counts {n : Nat} {x0 : TExpr} {r : Bool} (H : p_ref6_counts n x0 = some r) :
    Sp Tryz.prog E 127 [.agg (TExpr.cs x0)] [] (isA (bA r) []) := by
  unfold p_ref6_counts at H
  refine Sp_fn Tryz.func127 rfl (fun hc hs => ?_)
  refine AWP_reg (R 2 84 [(1, .ptr 0 0)] [.cells 25 (TExpr.cs x0)] (AOps_done (AWP_regD1 [0, 1, 2, 3, 4, 5, 6, 7, 8, 9] (N := 84) (f := [(1, .ptr 0 0)]) (leL_of [1] (by kernel_rfl)) mixed (by kernel_rfl) (by kernel_rfl) (st' := fr 84 [(1, .ptr 0 0), (3, bA ((lI x0.gKids) == 0)), (4, bA ((lI x0.gValues) == 0))]) (h' := [.cells 25 (TExpr.cs x0)]) ?_ ?_)))
  rotate_left
  · refine RD 10 84 [(5, 0), (4, 0), (1, 0), (0, 0)] [(1, .ptr 0 0), (3, bA ((lI x0.gKids) == 0)), (4, bA ((lI x0.gValues) == 0)), (6, .ptr 0 4), (7, .ro .unk x0.gKids.length (TExpr.cl x0.gKids)), (8, iA (lI x0.gKids)), (9, bA ((lI x0.gKids) == 0)), (10, .ptr 0 3), (11, .ro .unk x0.gValues.length (TValue.cl x0.gValues)), (12, iA (lI x0.gValues)), (13, bA ((lI x0.gValues) == 0))] ?_
    exact AD_here [1, 3, 4] (by kernel_rfl) rfl
  refine AWP_joinN (α := Bool × Bool) (fun ⟨v6, v7⟩ => fr 84 [(1, .ptr 0 0), (3, bA v6), (4, bA v7)]) (fun ⟨v6, v7⟩ => [.cells 25 (TExpr.cs x0)]) (fun ⟨v6, v7⟩ => ∃ q, q ≤ q ∧ p_ref6_counts_K1 q x0 v6 v7 = some r) (fun a hC => ?_) ?_
  · obtain ⟨v6, v7⟩ := a
    show AWP _ _ _ _ _ (fr 84 [(1, .ptr 0 0), (3, bA v6), (4, bA v7)]) [.cells 25 (TExpr.cs x0)]
    obtain ⟨n, hn_, hC⟩ := hC
    replace H : p_ref6_counts_K1 n x0 v6 v7 = some r := hC
    unfold p_ref6_counts_K1 at H
    refine AWP_reg (Rh 2 84 [(1, .ptr 0 0), (3, bA v6), (4, bA v7), (57, iA x0.gOp)] ?_)
    obtain ⟨v8, hv8, H⟩ := bind_some H
    refine AOps_callp (d := (some 58)) (al := [iA x0.gOp]) (r := bA v8) (by kernel_rfl) (s_ref6_IsTest hv8) ⟨trivial, trivial⟩ trivial ?_
    refine Rh 1 84 [(1, .ptr 0 0), (3, bA v6), (4, bA v7), (5, bA v8)] (AOps_done (AWP_reg (Rh 2 84 [(1, .ptr 0 0), (4, bA v7), (5, bA v8), (60, bA v6)] (AOps_run 2 [1, 5, 62] (st' := fr 84 [(1, .ptr 0 0), (5, bA v8), (62, bA (v6 && v7))]) (h' := [.cells 25 (TExpr.cs x0)]) (by (generalize v6 = t0; cases t0 <;> kernel_rfl)) ?_))))
    refine Rh 1 84 [(1, .ptr 0 0), (5, bA v8), (63, bA (v6 && v7))] (AOps_cut 7 (st' := fr 84 [(1, .ptr 0 0), (5, bA v8), (70, bA ((v6 && v7) && (v8 || (seq' x0.gKind ByteArray.empty))))]) (h' := [.cells 25 (TExpr.cs x0)]) ?_ ?_)
    rotate_left
    · cases c1 : (v6 && v7 : Bool) with
      | true =>
        refine R 2 84 [(1, .ptr 0 0), (5, bA v8), (63, bA true), (65, bA v8)] [.cells 25 (TExpr.cs x0)] ?_
        cases c2 : (v8 : Bool) with
        | true =>
          refine R 5 84 [(1, .ptr 0 0), (5, bA true), (70, bA (true && (true || (seq' x0.gKind ByteArray.empty))))] [.cells 25 (TExpr.cs x0)] ?_
          exact AOps_here [1, 5, 70] (by kernel_rfl) rfl
        | false =>
          refine R 5 84 [(1, .ptr 0 0), (5, bA false), (70, bA (true && (false || (seq' x0.gKind ByteArray.empty))))] [.cells 25 (TExpr.cs x0)] ?_
          exact AOps_here [1, 5, 70] (by kernel_rfl) rfl
      | false =>
        refine R 7 84 [(1, .ptr 0 0), (5, bA v8), (70, bA (false && (v8 || (seq' x0.gKind ByteArray.empty))))] [.cells 25 (TExpr.cs x0)] ?_
        exact AOps_here [1, 5, 70] (by kernel_rfl) rfl
    refine Rh 1 84 [(1, .ptr 0 0), (5, bA v8), (71, bA ((v6 && v7) && (v8 || (seq' x0.gKind ByteArray.empty))))] (AOps_cut 12 (st' := fr 84 [(83, bA (((v6 && v7) && (v8 || (seq' x0.gKind ByteArray.empty))) && ((v8 || (x0.gOp == 5)) || (seq' x0.gName ByteArray.empty))))]) (h' := [.cells 25 (TExpr.cs x0)]) ?_ ?_)
    rotate_left
    · cases c1 : ((v6 && v7) && (v8 || (seq' x0.gKind ByteArray.empty)) : Bool) with
      | true =>
        refine R 2 84 [(1, .ptr 0 0), (71, bA true), (73, bA v8)] [.cells 25 (TExpr.cs x0)] ?_
        cases c2 : (v8 : Bool) with
        | true =>
          refine R 10 84 [(83, bA (true && ((true || (x0.gOp == 5)) || (seq' x0.gName ByteArray.empty))))] [.cells 25 (TExpr.cs x0)] ?_
          exact AOps_here [83] (by kernel_rfl) rfl
        | false =>
          refine R 5 84 [(1, .ptr 0 0), (71, bA true), (78, bA (false || (x0.gOp == 5)))] [.cells 25 (TExpr.cs x0)] ?_
          cases c3 : (x0.gOp == 5 : Bool) with
          | true =>
            refine R 5 84 [(83, bA (true && ((false || true) || (seq' x0.gName ByteArray.empty))))] [.cells 25 (TExpr.cs x0)] ?_
            exact AOps_here [83] (by kernel_rfl) rfl
          | false =>
            refine R 5 84 [(83, bA (true && ((false || false) || (seq' x0.gName ByteArray.empty))))] [.cells 25 (TExpr.cs x0)] ?_
            exact AOps_here [83] (by kernel_rfl) rfl
      | false =>
        refine R 12 84 [(83, bA (false && ((v8 || (x0.gOp == 5)) || (seq' x0.gName ByteArray.empty))))] [.cells 25 (TExpr.cs x0)] ?_
        exact AOps_here [83] (by kernel_rfl) rfl
    refine Rh 1 84 [(2, bA (((v6 && v7) && (v8 || (seq' x0.gKind ByteArray.empty))) && ((v8 || (x0.gOp == 5)) || (seq' x0.gName ByteArray.empty))))] (AOps_done ?_)
    exact AWP_ret (FR H)
  · refine AWP_block ?_
    refine AWP_reg (Rh 4 84 [(1, .ptr 0 0), (3, bA ((lI x0.gKids) == 0)), (4, bA ((lI x0.gValues) == 0)), (18, bA (x0.gOp == 2))] (AOps_run 4 [1, 3, 4, 22] (st' := fr 84 [(1, .ptr 0 0), (3, bA ((lI x0.gKids) == 0)), (4, bA ((lI x0.gValues) == 0)), (22, bA ((x0.gOp == 2) || (x0.gOp == 3)))]) (h' := [.cells 25 (TExpr.cs x0)]) (by (generalize (x0.gOp == 2) = t0; cases t0 <;> kernel_rfl)) ?_))
    refine Rh 1 84 [(1, .ptr 0 0), (3, bA ((lI x0.gKids) == 0)), (4, bA ((lI x0.gValues) == 0)), (14, bA ((x0.gOp == 2) || (x0.gOp == 3)))] (AOps_done (CD H (fun hb9 H => ?_) (fun hb9 H => ?_)))
    · refine AWP_region ?_
      refine Rh 5 84 [(1, .ptr 0 0), (3, bA (decide ((lI x0.gKids) ≥ 2))), (4, bA ((lI x0.gValues) == 0))] (AOps_done ?_)
      exact Exists.intro (decide ((lI x0.gKids) ≥ 2), (lI x0.gValues) == 0) ⟨⟨n, by omega, H⟩, Norm_fd [1, 3, 4] 0 (by kernel_rfl) rfl rfl ⟨(sc_TExpr_cs _ _), trivial⟩ (by refine scL_fr ?_; exact ⟨(sc_ptr rfl), trivial, trivial, trivial⟩)⟩
    · refine AWP_reg (Rh 4 84 [(1, .ptr 0 0), (3, bA ((lI x0.gKids) == 0)), (4, bA ((lI x0.gValues) == 0)), (27, bA (x0.gOp == 4))] (AOps_done (CD H (fun hb10 H => ?_) (fun hb10 H => ?_))))
      · refine AWP_region ?_
        refine Rh 5 84 [(1, .ptr 0 0), (3, bA ((lI x0.gKids) == 1)), (4, bA ((lI x0.gValues) == 0))] (AOps_done ?_)
        exact Exists.intro ((lI x0.gKids) == 1, (lI x0.gValues) == 0) ⟨⟨n, by omega, H⟩, Norm_fd [1, 3, 4] 0 (by kernel_rfl) rfl rfl ⟨(sc_TExpr_cs _ _), trivial⟩ (by refine scL_fr ?_; exact ⟨(sc_ptr rfl), trivial, trivial, trivial⟩)⟩
      · refine AWP_reg (Rh 4 84 [(1, .ptr 0 0), (3, bA ((lI x0.gKids) == 0)), (4, bA ((lI x0.gValues) == 0)), (35, bA (x0.gOp == 8))] (AOps_done (CD H (fun hb11 H => ?_) (fun hb11 H => ?_))))
        · refine AWP_region ?_
          refine Rh 5 84 [(1, .ptr 0 0), (3, bA ((lI x0.gKids) == 0)), (4, bA (decide ((lI x0.gValues) > 0)))] (AOps_done ?_)
          exact Exists.intro ((lI x0.gKids) == 0, decide ((lI x0.gValues) > 0)) ⟨⟨n, by omega, H⟩, Norm_fd [1, 3, 4] 0 (by kernel_rfl) rfl rfl ⟨(sc_TExpr_cs _ _), trivial⟩ (by refine scL_fr ?_; exact ⟨(sc_ptr rfl), trivial, trivial, trivial⟩)⟩
        · refine AWP_reg (Rh 2 84 [(1, .ptr 0 0), (3, bA ((lI x0.gKids) == 0)), (4, bA ((lI x0.gValues) == 0)), (45, iA x0.gOp)] ?_)
          obtain ⟨v12, hv12, H⟩ := bind_some H
          refine AOps_callp (d := (some 46)) (al := [iA x0.gOp]) (r := bA v12) (by kernel_rfl) (s_ref6_IsTest hv12) ⟨trivial, trivial⟩ trivial ?_
          refine Rh 1 84 [(1, .ptr 0 0), (3, bA ((lI x0.gKids) == 0)), (4, bA ((lI x0.gValues) == 0)), (47, bA v12)] (AOps_run 4 [1, 3, 4, 51] (st' := fr 84 [(1, .ptr 0 0), (3, bA ((lI x0.gKids) == 0)), (4, bA ((lI x0.gValues) == 0)), (51, bA (v12 && (x0.gOp != 6)))]) (h' := [.cells 25 (TExpr.cs x0)]) (by (generalize v12 = t0; cases t0 <;> kernel_rfl)) ?_)
          refine Rh 1 84 [(1, .ptr 0 0), (3, bA ((lI x0.gKids) == 0)), (4, bA ((lI x0.gValues) == 0)), (43, bA (v12 && (x0.gOp != 6)))] (AOps_done (CD H (fun hb13 H => ?_) (fun hb13 H => ?_)))
          · refine AWP_region ?_
            refine Rh 5 84 [(1, .ptr 0 0), (3, bA ((lI x0.gKids) == 0)), (4, bA ((lI x0.gValues) == 1))] (AOps_done ?_)
            exact Exists.intro ((lI x0.gKids) == 0, (lI x0.gValues) == 1) ⟨⟨n, by omega, H⟩, Norm_fd [1, 3, 4] 0 (by kernel_rfl) rfl rfl ⟨(sc_TExpr_cs _ _), trivial⟩ (by refine scL_fr ?_; exact ⟨(sc_ptr rfl), trivial, trivial, trivial⟩)⟩
          · refine AWP_skip ?_
            exact Exists.intro ((lI x0.gKids) == 0, (lI x0.gValues) == 0) ⟨⟨n, by omega, H⟩, Norm_fd [1, 3, 4] 0 (by kernel_rfl) rfl rfl ⟨(sc_TExpr_cs _ _), trivial⟩ (by refine scL_fr ?_; exact ⟨(sc_ptr rfl), trivial, trivial, trivial⟩)⟩
end Go.Proofs.YtjhbobacbaikoaaGreatDoor
/- A function of the program as a pure function, and that the program computes it. -/
namespace Go.Proofs.YtjhbobacbaikoaaGreatDoor
open Go
set_option linter.unusedVariables false
set_option linter.unusedSimpArgs false
set_option maxRecDepth 100000
def p_ref6_part_L2 (n : Nat) (x0 : TExpr) (v30 : Int) : Option Int := match n with
| 0 => none
| n + 1 =>
(bif decide (v30 < (lI x0.gValues)) then
(rdO x0.gValues v30).bind fun v32 =>
(p_ref3_Check n v32).bind fun v33 =>
(bif v33 != 0 then
 some (v33)
 else
 p_ref6_part_L2 n x0 (w64 (v30 + 1)))
 else
(bif ((x0.gOp == 9) || (x0.gOp == 10)) || (x0.gOp == 11) then rdO x0.gValues 0 else some ({ gKind := 0, gNumber := 0, gText := ByteArray.empty, gList := [] } : TValue)).bind fun v35 =>
(bif (((x0.gOp == 9) || (x0.gOp == 10)) || (x0.gOp == 11)) && (v35.gKind != 3) then
 some (8)
 else
 some (0)))
def p_ref6_part_L1 (n : Nat) (x0 : TExpr) (v12 : Int) : Option Int := match n with
| 0 => none
| n + 1 =>
(bif decide (v12 < (lI x0.gKids)) then
(rdO x0.gKids v12).bind fun v14 =>
(bif (v14.gOp == x0.gOp) && (x0.gOp != 4) then
 some (15)
 else
 p_ref6_part_L1 n x0 (w64 (v12 + 1)))
 else
(p_ref6_IsTest n x0.gOp).bind fun v16 =>
(bif v16 then p_ref1_Key n x0.gKind else some (false)).bind fun v17 =>
(bif !(v16 && (!v17)) then p_ref6_IsTest n x0.gOp else some (false)).bind fun v18 =>
(bif (!(v16 && (!v17))) && (v18 || (x0.gOp == 5)) then p_ref1_Key n x0.gName else some (false)).bind fun v19 =>
(bif (v16 && (!v17)) || ((v18 || (x0.gOp == 5)) && (!v19)) then
 some (6)
 else
 p_ref6_part_L2 n x0 0))
def p_ref6_part (n : Nat) (x0 : TExpr) : Option Int :=
(bif (decide (x0.gOp < 1)) || (decide (x0.gOp > 15)) then
 some (7)
 else
(p_ref6_counts n x0).bind fun v2 =>
(bif !v2 then
 some (15)
 else
(bif (decide ((lI x0.gKids) > 12)) || (decide ((lI x0.gValues) > 20)) then
 some (5)
 else
 p_ref6_part_L1 n x0 0)))
variable {E : Env}
theorem s_ref6_part {n : Nat} (hG : GlobT E) {x0 : TExpr} {r : Int} (H : p_ref6_part n x0 = some r) :
    Sp Tryz.prog E 107 [.agg (TExpr.cs x0)] [] (isA (iA r) []) := by
  unfold p_ref6_part at H
  refine Sp_fn Tryz.func107 rfl (fun hc hs => ?_)
  refine AWP_reg (R 2 110 [(1, .ptr 0 0)] [.cells 25 (TExpr.cs x0)] (AOps_done (AWP_seq (AWP_reg (Rh 4 110 [(1, .ptr 0 0), (9, bA (decide (x0.gOp < 1)))] (AOps_run 4 [1, 13] (st' := fr 110 [(1, .ptr 0 0), (13, bA ((decide (x0.gOp < 1)) || (decide (x0.gOp > 15))))]) (h' := [.cells 25 (TExpr.cs x0)]) (by (generalize (decide (x0.gOp < 1)) = t0; cases t0 <;> kernel_rfl)) ?_))))))
  refine AOps_done (CD H (fun hb1 H => ?_) (fun hb1 H => ?_))
  · refine AWP_reg (Rh 1 110 [(2, iA 7)] (AOps_done ?_))
    exact AWP_ret (FR H)
  · refine AWP_skip ?_
    show AWP _ _ _ _ _ _ _
    refine AWP_seq (AWP_reg (Rh 1 110 [(1, .ptr 0 0), (14, .agg (TExpr.cs x0))] ?_))
    obtain ⟨v2, hv2, H⟩ := bind_some H
    refine AOps_callp (d := (some 15)) (al := [.agg (TExpr.cs x0)]) (r := bA v2) (by kernel_rfl) (s_ref6_counts hv2) ⟨(sc_TExpr_cs _ _), trivial⟩ trivial ?_
    refine Rh 1 110 [(1, .ptr 0 0), (16, bA (!v2))] (AOps_done (CD H (fun hb3 H => ?_) (fun hb3 H => ?_)))
    · refine AWP_reg (Rh 1 110 [(2, iA 15)] (AOps_done ?_))
      exact AWP_ret (FR H)
    · refine AWP_skip ?_
      show AWP _ _ _ _ _ _ _
      refine AWP_seq (AWP_reg (Rh 5 110 [(1, .ptr 0 0), (21, bA (decide ((lI x0.gKids) > 12)))] (AOps_run 5 [1, 26] (st' := fr 110 [(1, .ptr 0 0), (26, bA ((decide ((lI x0.gKids) > 12)) || (decide ((lI x0.gValues) > 20))))]) (h' := [.cells 25 (TExpr.cs x0)]) (by (generalize (decide ((lI x0.gKids) > 12)) = t0; cases t0 <;> kernel_rfl)) ?_)))
      refine AOps_done (CD H (fun hb4 H => ?_) (fun hb4 H => ?_))
      · refine AWP_reg (Rh 1 110 [(2, iA 5)] (AOps_done ?_))
        exact AWP_ret (FR H)
      · refine AWP_skip ?_
        show AWP _ _ _ _ _ _ _
        refine AWP_seq (AWP_reg (Rh 1 110 [(1, .ptr 0 0), (3, iA 0)] (AOps_done (AWP_block ?_))))
        refine AWP_loopN (α := Int) (fun v12 => fr 110 [(1, .ptr 0 0), (3, iA v12)]) (fun v12 => [.cells 25 (TExpr.cs x0)]) (fun k_ v12 => k_ ≤ n ∧ p_ref6_part_L1 k_ x0 v12 = some r) (fun n v12 H => ?_) (k := n) 0 ⟨Nat.le_refl _, H⟩ (Norm_fd [1, 3] 0 (by kernel_rfl) rfl rfl ⟨(sc_TExpr_cs _ _), trivial⟩ (by refine scL_fr ?_; exact ⟨(sc_ptr rfl), trivial, trivial⟩))
        show AWP _ _ _ _ _ (fr 110 [(1, .ptr 0 0), (3, iA v12)]) [.cells 25 (TExpr.cs x0)]
        obtain ⟨hb_, H⟩ := H
        replace H : p_ref6_part_L1 n x0 v12 = some r := H
        cases n with
        | zero => exact not_none (by simpa only [p_ref6_part_L1] using H)
        | succ n =>
          unfold p_ref6_part_L1 at H
          refine AWP_seq (AWP_reg (Rh 5 110 [(1, .ptr 0 0), (3, iA v12), (31, bA (decide (v12 < (lI x0.gKids))))] (AOps_done (CD H (fun hb13 H => ?_) (fun hb13 H => ?_)))))
          · refine AWP_skip ?_
            show AWP _ _ _ _ _ _ _
            refine AWP_seq (AWP_block ?_)
            obtain ⟨v14, hv14, H⟩ := bind_some H
            refine AWP_regD1 [0, 1, 2, 3, 4, 5, 6, 7, 8, 9, 10, 11, 12, 13] (N := 110) (f := [(1, .ptr 0 0), (3, iA v12)]) (leL_of [1, 3] (by kernel_rfl)) mixed (by kernel_rfl) (by kernel_rfl) (st' := fr 110 [(1, .ptr 0 0), (3, iA v12), (47, bA ((v14.gOp == x0.gOp) && (x0.gOp != 4)))]) (h' := [.cells 25 (TExpr.cs x0)]) ?_ ?_
            rotate_left
            · refine RD 3 110 [(1, 0), (0, 0)] [(1, .ptr 0 0), (3, iA v12), (34, .ptr 0 4), (35, .ro .unk x0.gKids.length (TExpr.cl x0.gKids)), (36, iA v12)] (AD_index (d := (some 37)) (sz := 5) (c := TExpr.cs) (by kernel_rfl) rfl (eq_TExpr_cl _) (fun _ => rfl) (by decide) hv14 (fun tl14 => ?_))
              refine RD 6 110 [(7, 0), (6, 0), (1, 0), (0, 0)] [(1, .ptr 0 0), (3, iA v12), (34, .ptr 0 4), (35, .ro .unk x0.gKids.length (TExpr.cl x0.gKids)), (36, iA v12), (37, .rop ([iA v14.gOp, sA v14.gKind, sA v14.gName, .ro .unk v14.gValues.length (TValue.cl v14.gValues), .ro .unk v14.gKids.length (TExpr.cl v14.gKids)] ++ tl14)), (38, .rop ([iA v14.gOp, sA v14.gKind, sA v14.gName, .ro .unk v14.gValues.length (TValue.cl v14.gValues), .ro .unk v14.gKids.length (TExpr.cl v14.gKids)] ++ tl14)), (39, iA v14.gOp), (40, .ptr 0 0), (41, iA x0.gOp), (42, bA (v14.gOp == x0.gOp)), (43, bA (v14.gOp == x0.gOp))] ?_
              cases c1 : (v14.gOp == x0.gOp : Bool) with
              | true =>
                refine RD 4 110 [(11, 0), (10, 0), (7, 0), (6, 0), (1, 0), (0, 0)] [(1, .ptr 0 0), (3, iA v12), (34, .ptr 0 4), (35, .ro .unk x0.gKids.length (TExpr.cl x0.gKids)), (36, iA v12), (37, .rop ([iA v14.gOp, sA v14.gKind, sA v14.gName, .ro .unk v14.gValues.length (TValue.cl v14.gValues), .ro .unk v14.gKids.length (TExpr.cl v14.gKids)] ++ tl14)), (38, .rop ([iA v14.gOp, sA v14.gKind, sA v14.gName, .ro .unk v14.gValues.length (TValue.cl v14.gValues), .ro .unk v14.gKids.length (TExpr.cl v14.gKids)] ++ tl14)), (39, iA v14.gOp), (40, .ptr 0 0), (41, iA x0.gOp), (42, bA true), (43, bA true), (44, .ptr 0 0), (45, iA x0.gOp), (46, bA (x0.gOp != 4)), (47, bA (true && (x0.gOp != 4)))] ?_
                exact AD_here [1, 3, 47] (by kernel_rfl) rfl
              | false =>
                refine RD 4 110 [(7, 0), (6, 0), (1, 0), (0, 0)] [(1, .ptr 0 0), (3, iA v12), (34, .ptr 0 4), (35, .ro .unk x0.gKids.length (TExpr.cl x0.gKids)), (36, iA v12), (37, .rop ([iA v14.gOp, sA v14.gKind, sA v14.gName, .ro .unk v14.gValues.length (TValue.cl v14.gValues), .ro .unk v14.gKids.length (TExpr.cl v14.gKids)] ++ tl14)), (38, .rop ([iA v14.gOp, sA v14.gKind, sA v14.gName, .ro .unk v14.gValues.length (TValue.cl v14.gValues), .ro .unk v14.gKids.length (TExpr.cl v14.gKids)] ++ tl14)), (39, iA v14.gOp), (40, .ptr 0 0), (41, iA x0.gOp), (42, bA false), (43, bA false), (44, undefA), (45, undefA), (46, undefA), (47, bA (false && (x0.gOp != 4)))] ?_
                exact AD_here [1, 3, 47] (by kernel_rfl) rfl
            refine CD H (fun hb15 H => ?_) (fun hb15 H => ?_)
            · refine AWP_reg (Rh 1 110 [(2, iA 15)] (AOps_done ?_))
              exact AWP_ret (FR H)
            · refine AWP_skip ?_
              show AWP _ _ _ _ _ _ _
              refine AWP_region ?_
              refine Rh 3 110 [(1, .ptr 0 0), (3, iA (w64 (v12 + 1)))] (AOps_done ?_)
              exact Exists.intro (w64 (v12 + 1)) (Exists.intro n ⟨by omega, ⟨by omega, H⟩, Norm_fd [1, 3] 0 (by kernel_rfl) rfl rfl ⟨(sc_TExpr_cs _ _), trivial⟩ (by refine scL_fr ?_; exact ⟨(sc_ptr rfl), trivial, trivial⟩)⟩)
          · refine AWP_exit ?_
            show AWP _ _ _ _ _ _ _
            refine AWP_seq (AWP_reg (Rh 2 110 [(1, .ptr 0 0), (49, iA x0.gOp)] ?_))
            obtain ⟨v16, hv16, H⟩ := bind_some H
            refine AOps_callp (d := (some 50)) (al := [iA x0.gOp]) (r := bA v16) (by kernel_rfl) (s_ref6_IsTest hv16) ⟨trivial, trivial⟩ trivial ?_
            refine Rh 1 110 [(1, .ptr 0 0), (51, bA v16)] ?_
            obtain ⟨v17, hv17, H⟩ := bind_some H
            refine AOps_cut 5 (st' := fr 110 [(1, .ptr 0 0), (56, bA (v16 && (!v17)))]) (h' := [.cells 25 (TExpr.cs x0)]) ?_ ?_
            rotate_left
            · cases c1 : (v16 : Bool) with
              | true =>
                refine R 2 110 [(1, .ptr 0 0), (51, bA true), (53, sA x0.gKind)] [.cells 25 (TExpr.cs x0)] ?_
                have hv17_ := cond_t hv17 (by simp only [c1] <;> rfl)
                refine AOps_callp (d := (some 54)) (al := [sA x0.gKind]) (r := bA v17) (by kernel_rfl) (s_ref1_Key hv17_) ⟨trivial, trivial⟩ trivial ?_
                refine R 2 110 [(1, .ptr 0 0), (56, bA (true && (!v17)))] [.cells 25 (TExpr.cs x0)] ?_
                exact AOps_here [1, 56] (by kernel_rfl) rfl
              | false =>
                refine R 5 110 [(1, .ptr 0 0), (56, bA (false && (!v17)))] [.cells 25 (TExpr.cs x0)] ?_
                exact AOps_here [1, 56] (by kernel_rfl) rfl
            refine Rh 1 110 [(1, .ptr 0 0), (57, bA (v16 && (!v17)))] ?_
            obtain ⟨v18, hv18, H⟩ := bind_some H
            obtain ⟨v19, hv19, H⟩ := bind_some H
            refine AOps_cut 15 (st' := fr 110 [(1, .ptr 0 0), (72, bA ((v16 && (!v17)) || ((v18 || (x0.gOp == 5)) && (!v19))))]) (h' := [.cells 25 (TExpr.cs x0)]) ?_ ?_
            rotate_left
            · cases c1 : (v16 && (!v17) : Bool) with
              | true =>
                refine R 15 110 [(1, .ptr 0 0), (72, bA (true || ((v18 || (x0.gOp == 5)) && (!v19))))] [.cells 25 (TExpr.cs x0)] ?_
                exact AOps_here [1, 72] (by kernel_rfl) rfl
              | false =>
                refine R 2 110 [(1, .ptr 0 0), (57, bA false), (59, iA x0.gOp)] [.cells 25 (TExpr.cs x0)] ?_
                have hv18_ := cond_t hv18 (by simp only [c1] <;> rfl)
                refine AOps_callp (d := (some 60)) (al := [iA x0.gOp]) (r := bA v18) (by kernel_rfl) (s_ref6_IsTest hv18_) ⟨trivial, trivial⟩ trivial ?_
                refine R 1 110 [(1, .ptr 0 0), (57, bA false), (61, bA v18)] [.cells 25 (TExpr.cs x0)] ?_
                cases c2 : (v18 : Bool) with
                | true =>
                  refine R 7 110 [(1, .ptr 0 0), (57, bA false), (66, bA (true || (x0.gOp == 5))), (68, sA x0.gName)] [.cells 25 (TExpr.cs x0)] ?_
                  have hv19_ := cond_t hv19 (by simp only [c1, c2] <;> rfl)
                  refine AOps_callp (d := (some 69)) (al := [sA x0.gName]) (r := bA v19) (by kernel_rfl) (s_ref1_Key hv19_) ⟨trivial, trivial⟩ trivial ?_
                  refine R 3 110 [(1, .ptr 0 0), (72, bA (false || ((true || (x0.gOp == 5)) && (!v19))))] [.cells 25 (TExpr.cs x0)] ?_
                  exact AOps_here [1, 72] (by kernel_rfl) rfl
                | false =>
                  refine R 5 110 [(1, .ptr 0 0), (57, bA false), (66, bA (false || (x0.gOp == 5)))] [.cells 25 (TExpr.cs x0)] ?_
                  cases c3 : (x0.gOp == 5 : Bool) with
                  | true =>
                    refine R 2 110 [(1, .ptr 0 0), (57, bA false), (66, bA (false || true)), (68, sA x0.gName)] [.cells 25 (TExpr.cs x0)] ?_
                    have hv19_ := cond_t hv19 (by simp only [c1, c2, c3] <;> rfl)
                    refine AOps_callp (d := (some 69)) (al := [sA x0.gName]) (r := bA v19) (by kernel_rfl) (s_ref1_Key hv19_) ⟨trivial, trivial⟩ trivial ?_
                    refine R 3 110 [(1, .ptr 0 0), (72, bA (false || ((false || true) && (!v19))))] [.cells 25 (TExpr.cs x0)] ?_
                    exact AOps_here [1, 72] (by kernel_rfl) rfl
                  | false =>
                    refine R 6 110 [(1, .ptr 0 0), (72, bA (false || ((false || false) && (!v19))))] [.cells 25 (TExpr.cs x0)] ?_
                    exact AOps_here [1, 72] (by kernel_rfl) rfl
            refine AOps_done (CD H (fun hb20 H => ?_) (fun hb20 H => ?_))
            · refine AWP_reg (Rh 1 110 [(2, iA 6)] (AOps_done ?_))
              exact AWP_ret (FR H)
            · refine AWP_skip ?_
              show AWP _ _ _ _ _ _ _
              refine AWP_seq (AWP_reg (Rh 1 110 [(1, .ptr 0 0), (4, iA 0)] (AOps_done (AWP_block ?_))))
              refine AWP_loopN (α := Int) (fun v30 => fr 110 [(1, .ptr 0 0), (4, iA v30)]) (fun v30 => [.cells 25 (TExpr.cs x0)]) (fun k_ v30 => k_ ≤ n ∧ p_ref6_part_L2 k_ x0 v30 = some r) (fun n v30 H => ?_) (k := n) 0 ⟨Nat.le_refl _, H⟩ (Norm_fd [1, 4] 0 (by kernel_rfl) rfl rfl ⟨(sc_TExpr_cs _ _), trivial⟩ (by refine scL_fr ?_; exact ⟨(sc_ptr rfl), trivial, trivial⟩))
              show AWP _ _ _ _ _ (fr 110 [(1, .ptr 0 0), (4, iA v30)]) [.cells 25 (TExpr.cs x0)]
              obtain ⟨hb_, H⟩ := H
              replace H : p_ref6_part_L2 n x0 v30 = some r := H
              cases n with
              | zero => exact not_none (by simpa only [p_ref6_part_L2] using H)
              | succ n =>
                unfold p_ref6_part_L2 at H
                refine AWP_seq (AWP_reg (Rh 5 110 [(1, .ptr 0 0), (4, iA v30), (77, bA (decide (v30 < (lI x0.gValues))))] (AOps_done (CD H (fun hb31 H => ?_) (fun hb31 H => ?_)))))
                · refine AWP_skip ?_
                  show AWP _ _ _ _ _ _ _
                  refine AWP_seq (AWP_block ?_)
                  refine AWP_reg (Rh 3 110 [(1, .ptr 0 0), (4, iA v30), (81, .ro .unk x0.gValues.length (TValue.cl x0.gValues)), (82, iA v30)] ?_)
                  obtain ⟨v32, hv32, H⟩ := bind_some H
                  refine AOps_index (d := (some 83)) (sz := 4) (c := TValue.cs) (by kernel_rfl) rfl (eq_TValue_cl _) (fun _ => rfl) (by decide) hv32 (fun tl32 => ?_)
                  refine Rh 1 110 [(1, .ptr 0 0), (4, iA v30), (84, .agg (TValue.cs v32))] ?_
                  obtain ⟨v33, hv33, H⟩ := bind_some H
                  refine AOps_callp (d := (some 85)) (al := [.agg (TValue.cs v32)]) (r := iA v33) (by kernel_rfl) (s_ref3_Check hG hv33) ⟨(sc_TValue_cs _ _), trivial⟩ trivial ?_
                  refine Rh 1 110 [(1, .ptr 0 0), (4, iA v30), (5, iA v33)] (AOps_done (AWP_reg (Rh 2 110 [(1, .ptr 0 0), (4, iA v30), (5, iA v33), (87, bA (v33 != 0))] (AOps_done (CD H (fun hb34 H => ?_) (fun hb34 H => ?_))))))
                  · refine AWP_reg (Rh 2 110 [(2, iA v33)] (AOps_done ?_))
                    exact AWP_ret (FR H)
                  · refine AWP_skip ?_
                    show AWP _ _ _ _ _ _ _
                    refine AWP_region ?_
                    refine Rh 3 110 [(1, .ptr 0 0), (4, iA (w64 (v30 + 1)))] (AOps_done ?_)
                    exact Exists.intro (w64 (v30 + 1)) (Exists.intro n ⟨by omega, ⟨by omega, H⟩, Norm_fd [1, 4] 0 (by kernel_rfl) rfl rfl ⟨(sc_TExpr_cs _ _), trivial⟩ (by refine scL_fr ?_; exact ⟨(sc_ptr rfl), trivial, trivial⟩)⟩)
                · refine AWP_exit ?_
                  show AWP _ _ _ _ _ _ _
                  refine AWP_seq (AWP_reg (Rh 4 110 [(1, .ptr 0 0), (92, bA (x0.gOp == 9))] (AOps_run 4 [1, 96] (st' := fr 110 [(1, .ptr 0 0), (96, bA ((x0.gOp == 9) || (x0.gOp == 10)))]) (h' := [.cells 25 (TExpr.cs x0)]) (by (generalize (x0.gOp == 9) = t0; cases t0 <;> kernel_rfl)) ?_)))
                  refine Rh 1 110 [(1, .ptr 0 0), (97, bA ((x0.gOp == 9) || (x0.gOp == 10)))] (AOps_run 4 [1, 101] (st' := fr 110 [(1, .ptr 0 0), (101, bA (((x0.gOp == 9) || (x0.gOp == 10)) || (x0.gOp == 11)))]) (h' := [.cells 25 (TExpr.cs x0)]) (by (generalize (x0.gOp == 9) = t0; generalize (x0.gOp == 10) = t1; cases t0 <;> cases t1 <;> kernel_rfl)) ?_)
                  refine Rh 1 110 [(1, .ptr 0 0), (102, bA (((x0.gOp == 9) || (x0.gOp == 10)) || (x0.gOp == 11)))] ?_
                  obtain ⟨v35, hv35, H⟩ := bind_some H
                  refine AOps_cut 7 (st' := fr 110 [(109, bA ((((x0.gOp == 9) || (x0.gOp == 10)) || (x0.gOp == 11)) && (v35.gKind != 3)))]) (h' := [.cells 25 (TExpr.cs x0)]) ?_ ?_
                  rotate_left
                  · cases c1 : (((x0.gOp == 9) || (x0.gOp == 10)) || (x0.gOp == 11) : Bool) with
                    | true =>
                      refine R 2 110 [(102, bA true), (104, .ro .unk x0.gValues.length (TValue.cl x0.gValues))] [.cells 25 (TExpr.cs x0)] ?_
                      have hv35_ := cond_t hv35 (by simp only [c1] <;> rfl)
                      refine AOps_index (d := (some 105)) (sz := 4) (c := TValue.cs) (by kernel_rfl) rfl (eq_TValue_cl _) (fun _ => rfl) (by decide) hv35_ (fun tl35 => ?_)
                      refine R 4 110 [(109, bA (true && (v35.gKind != 3)))] [.cells 25 (TExpr.cs x0)] ?_
                      exact AOps_here [109] (by kernel_rfl) rfl
                    | false =>
                      refine R 7 110 [(109, bA (false && (v35.gKind != 3)))] [.cells 25 (TExpr.cs x0)] ?_
                      exact AOps_here [109] (by kernel_rfl) rfl
                  refine AOps_done (CD H (fun hb36 H => ?_) (fun hb36 H => ?_))
                  · refine AWP_reg (Rh 1 110 [(2, iA 8)] (AOps_done ?_))
                    exact AWP_ret (FR H)
                  · refine AWP_skip ?_
                    show AWP _ _ _ _ _ _ _
                    refine AWP_reg (Rh 1 110 [(2, iA 0)] (AOps_done ?_))
                    exact AWP_ret (FR H)
end Go.Proofs.YtjhbobacbaikoaaGreatDoor
/- A function of the program as a pure function, and that the program computes it. -/
namespace Go.Proofs.YtjhbobacbaikoaaGreatDoor
open Go
set_option linter.unusedVariables false
set_option linter.unusedSimpArgs false
set_option maxRecDepth 100000
def p_shape_None (n : Nat) (x0 : TExpr) : Option Bool :=
 some (((((x0.gOp == 0) && (seq' x0.gKind ByteArray.empty)) && (seq' x0.gName ByteArray.empty)) && ((lI x0.gValues) == 0)) && ((lI x0.gKids) == 0))
variable {E : Env}
theorem s_shape_None {n : Nat} {x0 : TExpr} {r : Bool} (H : p_shape_None n x0 = some r) :
    Sp Tryz.prog E 17 [.agg (TExpr.cs x0)] [] (isA (bA r) []) := by
  unfold p_shape_None at H
  refine Sp_fn Tryz.func17 rfl (fun hc hs => ?_)
  refine AWP_reg (R 2 28 [(1, .ptr 0 0)] [.cells 25 (TExpr.cs x0)] (AOps_done (AWP_reg (Rh 4 28 [(1, .ptr 0 0), (6, bA (x0.gOp == 0))] (AOps_run 4 [1, 10] (st' := fr 28 [(1, .ptr 0 0), (10, bA ((x0.gOp == 0) && (seq' x0.gKind ByteArray.empty)))]) (h' := [.cells 25 (TExpr.cs x0)]) (by (generalize (x0.gOp == 0) = t0; cases t0 <;> kernel_rfl)) ?_)))))
  refine Rh 1 28 [(1, .ptr 0 0), (11, bA ((x0.gOp == 0) && (seq' x0.gKind ByteArray.empty)))] (AOps_run 4 [1, 15] (st' := fr 28 [(1, .ptr 0 0), (15, bA (((x0.gOp == 0) && (seq' x0.gKind ByteArray.empty)) && (seq' x0.gName ByteArray.empty)))]) (h' := [.cells 25 (TExpr.cs x0)]) (by (generalize (x0.gOp == 0) = t0; generalize (seq' x0.gKind ByteArray.empty) = t1; cases t0 <;> cases t1 <;> kernel_rfl)) ?_)
  refine Rh 1 28 [(1, .ptr 0 0), (16, bA (((x0.gOp == 0) && (seq' x0.gKind ByteArray.empty)) && (seq' x0.gName ByteArray.empty)))] (AOps_run 5 [1, 21] (st' := fr 28 [(1, .ptr 0 0), (21, bA ((((x0.gOp == 0) && (seq' x0.gKind ByteArray.empty)) && (seq' x0.gName ByteArray.empty)) && ((lI x0.gValues) == 0)))]) (h' := [.cells 25 (TExpr.cs x0)]) (by (generalize (x0.gOp == 0) = t0; generalize (seq' x0.gKind ByteArray.empty) = t1; generalize (seq' x0.gName ByteArray.empty) = t2; cases t0 <;> cases t1 <;> cases t2 <;> kernel_rfl)) ?_)
  refine Rh 1 28 [(1, .ptr 0 0), (22, bA ((((x0.gOp == 0) && (seq' x0.gKind ByteArray.empty)) && (seq' x0.gName ByteArray.empty)) && ((lI x0.gValues) == 0)))] (AOps_run 5 [27] (st' := fr 28 [(27, bA (((((x0.gOp == 0) && (seq' x0.gKind ByteArray.empty)) && (seq' x0.gName ByteArray.empty)) && ((lI x0.gValues) == 0)) && ((lI x0.gKids) == 0)))]) (h' := [.cells 25 (TExpr.cs x0)]) (by (generalize (x0.gOp == 0) = t0; generalize (seq' x0.gKind ByteArray.empty) = t1; generalize (seq' x0.gName ByteArray.empty) = t2; generalize ((lI x0.gValues) == 0) = t3; cases t0 <;> cases t1 <;> cases t2 <;> cases t3 <;> kernel_rfl)) ?_)
  refine Rh 1 28 [(2, bA (((((x0.gOp == 0) && (seq' x0.gKind ByteArray.empty)) && (seq' x0.gName ByteArray.empty)) && ((lI x0.gValues) == 0)) && ((lI x0.gKids) == 0)))] (AOps_done ?_)
  exact AWP_ret (FR H)
end Go.Proofs.YtjhbobacbaikoaaGreatDoor
/- A function of the program as a pure function, and that the program computes it. -/
namespace Go.Proofs.YtjhbobacbaikoaaGreatDoor
open Go
set_option linter.unusedVariables false
set_option linter.unusedSimpArgs false
set_option maxRecDepth 100000
def p_shape_test (n : Nat) (x0 : Int) : Option Bool :=
 some ((decide (x0 ≥ 6)) && (decide (x0 ≤ 15)))
variable {E : Env}
theorem s_shape_test {n : Nat} {x0 : Int} {r : Bool} (H : p_shape_test n x0 = some r) :
    Sp Tryz.prog E 126 [iA x0] [] (isA (bA r) []) := by
  unfold p_shape_test at H
  refine Sp_fn Tryz.func126 rfl (fun hc hs => ?_)
  refine AWP_reg (Rh 1 9 [(0, iA x0)] (AOps_done (AWP_reg (Rh 3 9 [(0, iA x0), (5, bA (decide (x0 ≥ 6)))] (AOps_run 3 [8] (st' := fr 9 [(8, bA ((decide (x0 ≥ 6)) && (decide (x0 ≤ 15))))]) (h' := []) (by (generalize (decide (x0 ≥ 6)) = t0; cases t0 <;> kernel_rfl)) ?_)))))
  refine Rh 1 9 [(2, bA ((decide (x0 ≥ 6)) && (decide (x0 ≤ 15))))] (AOps_done ?_)
  exact AWP_ret (FR H)
end Go.Proofs.YtjhbobacbaikoaaGreatDoor
/- A function of the program as a pure function, and that the program computes it. -/
namespace Go.Proofs.YtjhbobacbaikoaaGreatDoor
open Go
set_option linter.unusedVariables false
set_option linter.unusedSimpArgs false
set_option maxRecDepth 100000
def p_shape_shape_K1 (n : Nat) (x0 : TExpr) : Option Bool :=
(p_shape_test n x0.gOp).bind fun v6 =>
(bif (!v6) && ((!(seq' x0.gKind ByteArray.empty)) || ((!(seq' x0.gName ByteArray.empty)) && (x0.gOp != 5))) then
 some (false)
 else
(bif x0.gOp == 8 then
 some (decide ((lI x0.gValues) > 0))
 else
(p_shape_test n x0.gOp).bind fun v9 =>
(bif v9 && (x0.gOp != 6) then
 some ((lI x0.gValues) == 1)
 else
 some ((lI x0.gValues) == 0))))
def p_shape_shape (n : Nat) (x0 : TExpr) : Option Bool :=
(bif (x0.gOp == 2) || (x0.gOp == 3) then
(bif decide ((lI x0.gKids) < 2) then
 some (false)
 else
 p_shape_shape_K1 n x0 )
 else
(bif x0.gOp == 4 then
(bif (lI x0.gKids) != 1 then
 some (false)
 else
 p_shape_shape_K1 n x0 )
 else
(bif decide ((lI x0.gKids) > 0) then
 some (false)
 else
 p_shape_shape_K1 n x0 )))
variable {E : Env}
theorem s_shape_shape {n : Nat} {x0 : TExpr} {r : Bool} (H : p_shape_shape n x0 = some r) :
    Sp Tryz.prog E 125 [.agg (TExpr.cs x0)] [] (isA (bA r) []) := by
  unfold p_shape_shape at H
  refine Sp_fn Tryz.func125 rfl (fun hc hs => ?_)
  refine AWP_reg (R 2 69 [(1, .ptr 0 0)] [.cells 25 (TExpr.cs x0)] (AOps_done (AWP_regD1 [0, 1, 2, 3, 4, 5, 6, 7] (N := 69) (f := [(1, .ptr 0 0)]) (leL_of [1] (by kernel_rfl)) mixed (by kernel_rfl) (by kernel_rfl) (st' := fr 69 [(1, .ptr 0 0), (3, iA (lI x0.gKids)), (4, iA (lI x0.gValues))]) (h' := [.cells 25 (TExpr.cs x0)]) ?_ ?_)))
  rotate_left
  · refine RD 8 69 [(4, 0), (3, 0), (1, 0), (0, 0)] [(1, .ptr 0 0), (3, iA (lI x0.gKids)), (4, iA (lI x0.gValues)), (5, .ptr 0 4), (6, .ro .unk x0.gKids.length (TExpr.cl x0.gKids)), (7, iA (lI x0.gKids)), (8, .ptr 0 3), (9, .ro .unk x0.gValues.length (TValue.cl x0.gValues)), (10, iA (lI x0.gValues))] ?_
    exact AD_here [1, 3, 4] (by kernel_rfl) rfl
  refine AWP_joinN (α := Unit) (fun _ => fr 69 [(1, .ptr 0 0), (4, iA (lI x0.gValues))]) (fun _ => [.cells 25 (TExpr.cs x0)]) (fun _ => ∃ q, q ≤ q ∧ p_shape_shape_K1 q x0  = some r) (fun a hC => ?_) ?_
  · show AWP _ _ _ _ _ (fr 69 [(1, .ptr 0 0), (4, iA (lI x0.gValues))]) [.cells 25 (TExpr.cs x0)]
    obtain ⟨n, hn_, hC⟩ := hC
    replace H : p_shape_shape_K1 n x0  = some r := hC
    unfold p_shape_shape_K1 at H
    refine AWP_seq (AWP_reg (Rh 2 69 [(1, .ptr 0 0), (4, iA (lI x0.gValues)), (32, iA x0.gOp)] ?_))
    obtain ⟨v6, hv6, H⟩ := bind_some H
    refine AOps_callp (d := (some 33)) (al := [iA x0.gOp]) (r := bA v6) (by kernel_rfl) (s_shape_test hv6) ⟨trivial, trivial⟩ trivial ?_
    refine Rh 2 69 [(1, .ptr 0 0), (4, iA (lI x0.gValues)), (35, bA (!v6))] (AOps_cut 14 (st' := fr 69 [(1, .ptr 0 0), (4, iA (lI x0.gValues)), (49, bA ((!v6) && ((!(seq' x0.gKind ByteArray.empty)) || ((!(seq' x0.gName ByteArray.empty)) && (x0.gOp != 5)))))]) (h' := [.cells 25 (TExpr.cs x0)]) ?_ ?_)
    rotate_left
    · cases c1 : (v6 : Bool) with
      | true =>
        refine R 14 69 [(1, .ptr 0 0), (4, iA (lI x0.gValues)), (49, bA ((!true) && ((!(seq' x0.gKind ByteArray.empty)) || ((!(seq' x0.gName ByteArray.empty)) && (x0.gOp != 5)))))] [.cells 25 (TExpr.cs x0)] ?_
        exact AOps_here [1, 4, 49] (by kernel_rfl) rfl
      | false =>
        refine R 4 69 [(1, .ptr 0 0), (4, iA (lI x0.gValues)), (35, bA (!false)), (39, bA (!(seq' x0.gKind ByteArray.empty)))] [.cells 25 (TExpr.cs x0)] ?_
        cases c2 : (seq' x0.gKind ByteArray.empty : Bool) with
        | true =>
          refine R 4 69 [(1, .ptr 0 0), (4, iA (lI x0.gValues)), (35, bA (!false)), (39, bA (!true)), (43, bA (!(seq' x0.gName ByteArray.empty)))] [.cells 25 (TExpr.cs x0)] ?_
          cases c3 : (seq' x0.gName ByteArray.empty : Bool) with
          | true =>
            refine R 6 69 [(1, .ptr 0 0), (4, iA (lI x0.gValues)), (49, bA ((!false) && ((!true) || ((!true) && (x0.gOp != 5)))))] [.cells 25 (TExpr.cs x0)] ?_
            exact AOps_here [1, 4, 49] (by kernel_rfl) rfl
          | false =>
            refine R 6 69 [(1, .ptr 0 0), (4, iA (lI x0.gValues)), (49, bA ((!false) && ((!true) || ((!false) && (x0.gOp != 5)))))] [.cells 25 (TExpr.cs x0)] ?_
            exact AOps_here [1, 4, 49] (by kernel_rfl) rfl
        | false =>
          refine R 10 69 [(1, .ptr 0 0), (4, iA (lI x0.gValues)), (49, bA ((!false) && ((!false) || ((!(seq' x0.gName ByteArray.empty)) && (x0.gOp != 5)))))] [.cells 25 (TExpr.cs x0)] ?_
          exact AOps_here [1, 4, 49] (by kernel_rfl) rfl
    refine AOps_done (CD H (fun hb7 H => ?_) (fun hb7 H => ?_))
    · refine AWP_reg (Rh 1 69 [(2, bA false)] (AOps_done ?_))
      exact AWP_ret (FR H)
    · refine AWP_skip ?_
      show AWP _ _ _ _ _ _ _
      refine AWP_seq (AWP_block ?_)
      refine AWP_reg (Rh 4 69 [(1, .ptr 0 0), (4, iA (lI x0.gValues)), (50, bA (x0.gOp == 8))] (AOps_done (CD H (fun hb8 H => ?_) (fun hb8 H => ?_))))
      · refine AWP_reg (Rh 3 69 [(2, bA (decide ((lI x0.gValues) > 0)))] (AOps_done ?_))
        exact AWP_ret (FR H)
      · refine AWP_reg (Rh 2 69 [(1, .ptr 0 0), (4, iA (lI x0.gValues)), (58, iA x0.gOp)] ?_)
        obtain ⟨v9, hv9, H⟩ := bind_some H
        refine AOps_callp (d := (some 59)) (al := [iA x0.gOp]) (r := bA v9) (by kernel_rfl) (s_shape_test hv9) ⟨trivial, trivial⟩ trivial ?_
        refine Rh 1 69 [(1, .ptr 0 0), (4, iA (lI x0.gValues)), (60, bA v9)] (AOps_run 4 [4, 64] (st' := fr 69 [(4, iA (lI x0.gValues)), (64, bA (v9 && (x0.gOp != 6)))]) (h' := [.cells 25 (TExpr.cs x0)]) (by (generalize v9 = t0; cases t0 <;> kernel_rfl)) ?_)
        refine Rh 1 69 [(4, iA (lI x0.gValues)), (56, bA (v9 && (x0.gOp != 6)))] (AOps_done (CD H (fun hb10 H => ?_) (fun hb10 H => ?_)))
        · refine AWP_reg (Rh 3 69 [(2, bA ((lI x0.gValues) == 1))] (AOps_done ?_))
          exact AWP_ret (FR H)
        · refine AWP_skip ?_
          show AWP _ _ _ _ _ _ _
          refine AWP_reg (Rh 3 69 [(2, bA ((lI x0.gValues) == 0))] (AOps_done ?_))
          exact AWP_ret (FR H)
  · refine AWP_block ?_
    refine AWP_reg (Rh 4 69 [(1, .ptr 0 0), (3, iA (lI x0.gKids)), (4, iA (lI x0.gValues)), (15, bA (x0.gOp == 2))] (AOps_run 4 [1, 3, 4, 19] (st' := fr 69 [(1, .ptr 0 0), (3, iA (lI x0.gKids)), (4, iA (lI x0.gValues)), (19, bA ((x0.gOp == 2) || (x0.gOp == 3)))]) (h' := [.cells 25 (TExpr.cs x0)]) (by (generalize (x0.gOp == 2) = t0; cases t0 <;> kernel_rfl)) ?_))
    refine Rh 1 69 [(1, .ptr 0 0), (3, iA (lI x0.gKids)), (4, iA (lI x0.gValues)), (11, bA ((x0.gOp == 2) || (x0.gOp == 3)))] (AOps_done (CD H (fun hb11 H => ?_) (fun hb11 H => ?_)))
    · refine AWP_reg (Rh 2 69 [(1, .ptr 0 0), (4, iA (lI x0.gValues)), (21, bA (decide ((lI x0.gKids) < 2)))] (AOps_done (CD H (fun hb12 H => ?_) (fun hb12 H => ?_))))
      · refine AWP_reg (Rh 1 69 [(2, bA false)] (AOps_done ?_))
        exact AWP_ret (FR H)
      · refine AWP_skip ?_
        exact Exists.intro () ⟨⟨n, by omega, H⟩, Norm_fd [1, 4] 0 (by kernel_rfl) rfl rfl ⟨(sc_TExpr_cs _ _), trivial⟩ (by refine scL_fr ?_; exact ⟨(sc_ptr rfl), trivial, trivial⟩)⟩
    · refine AWP_reg (Rh 4 69 [(1, .ptr 0 0), (3, iA (lI x0.gKids)), (4, iA (lI x0.gValues)), (22, bA (x0.gOp == 4))] (AOps_done (CD H (fun hb13 H => ?_) (fun hb13 H => ?_))))
      · refine AWP_reg (Rh 2 69 [(1, .ptr 0 0), (4, iA (lI x0.gValues)), (27, bA ((lI x0.gKids) != 1))] (AOps_done (CD H (fun hb14 H => ?_) (fun hb14 H => ?_))))
        · refine AWP_reg (Rh 1 69 [(2, bA false)] (AOps_done ?_))
          exact AWP_ret (FR H)
        · refine AWP_skip ?_
          exact Exists.intro () ⟨⟨n, by omega, H⟩, Norm_fd [1, 4] 0 (by kernel_rfl) rfl rfl ⟨(sc_TExpr_cs _ _), trivial⟩ (by refine scL_fr ?_; exact ⟨(sc_ptr rfl), trivial, trivial⟩)⟩
      · refine AWP_reg (Rh 3 69 [(1, .ptr 0 0), (4, iA (lI x0.gValues)), (28, bA (decide ((lI x0.gKids) > 0)))] (AOps_done (CD H (fun hb15 H => ?_) (fun hb15 H => ?_))))
        · refine AWP_reg (Rh 1 69 [(2, bA false)] (AOps_done ?_))
          exact AWP_ret (FR H)
        · refine AWP_skip ?_
          exact Exists.intro () ⟨⟨n, by omega, H⟩, Norm_fd [1, 4] 0 (by kernel_rfl) rfl rfl ⟨(sc_TExpr_cs _ _), trivial⟩ (by refine scL_fr ?_; exact ⟨(sc_ptr rfl), trivial, trivial⟩)⟩
end Go.Proofs.YtjhbobacbaikoaaGreatDoor
/- A function of the program as a pure function, and that the program computes it. -/
namespace Go.Proofs.YtjhbobacbaikoaaGreatDoor
open Go
set_option linter.unusedVariables false
set_option linter.unusedSimpArgs false
set_option maxRecDepth 100000
def p_shape_part_L2 (n : Nat) (x0 : TExpr) (v31 : Int) : Option Int := match n with
| 0 => none
| n + 1 =>
(bif decide (v31 < (lI x0.gValues)) then
(rdO x0.gValues v31).bind fun v33 =>
(p_value_Check n v33).bind fun v34 =>
(bif v34 != 0 then
 some (v34)
 else
 p_shape_part_L2 n x0 (w64 (v31 + 1)))
 else
(bif ((x0.gOp == 9) || (x0.gOp == 10)) || (x0.gOp == 11) then rdO x0.gValues 0 else some ({ gKind := 0, gNumber := 0, gText := ByteArray.empty, gList := [] } : TValue)).bind fun v36 =>
(p_shape_when n ((((x0.gOp == 9) || (x0.gOp == 10)) || (x0.gOp == 11)) && (v36.gKind != 3)) 8).bind fun v37 =>
 some (v37))
def p_shape_part_L1 (n : Nat) (x0 : TExpr) (v13 : Int) : Option Int := match n with
| 0 => none
| n + 1 =>
(bif decide (v13 < (lI x0.gKids)) then
(rdO x0.gKids v13).bind fun v15 =>
(bif (v15.gOp == x0.gOp) && ((x0.gOp == 2) || (x0.gOp == 3)) then
 some (15)
 else
 p_shape_part_L1 n x0 (w64 (v13 + 1)))
 else
(p_shape_test n x0.gOp).bind fun v17 =>
(bif v17 then p_text_Key n x0.gKind else some (false)).bind fun v18 =>
(bif !(v17 && (!v18)) then p_shape_test n x0.gOp else some (false)).bind fun v19 =>
(bif (!(v17 && (!v18))) && (v19 || (x0.gOp == 5)) then p_text_Key n x0.gName else some (false)).bind fun v20 =>
(bif (v17 && (!v18)) || ((v19 || (x0.gOp == 5)) && (!v20)) then
 some (6)
 else
 p_shape_part_L2 n x0 0))
def p_shape_part (n : Nat) (x0 : TExpr) (x1 : Int) : Option Int :=
(bif decide (x1 ≥ 10) then
 some (18)
 else
(bif (decide (x0.gOp < 1)) || (decide (x0.gOp > 15)) then
 some (7)
 else
(p_shape_shape n x0).bind fun v3 =>
(bif !v3 then
 some (15)
 else
(bif (decide ((lI x0.gKids) > 12)) || (decide ((lI x0.gValues) > 20)) then
 some (5)
 else
 p_shape_part_L1 n x0 0))))
variable {E : Env}
theorem s_shape_part {n : Nat} (hG : GlobT E) {x0 : TExpr} {x1 : Int} {r : Int} (H : p_shape_part n x0 x1 = some r) :
    Sp Tryz.prog E 106 [.agg (TExpr.cs x0), iA x1] [] (isA (iA r) []) := by
  unfold p_shape_part at H
  refine Sp_fn Tryz.func106 rfl (fun hc hs => ?_)
  refine AWP_reg (R 2 118 [(1, iA x1), (2, .ptr 0 0)] [.cells 25 (TExpr.cs x0)] (AOps_done (AWP_seq (AWP_reg (Rh 2 118 [(2, .ptr 0 0), (12, bA (decide (x1 ≥ 10)))] (AOps_done (CD H (fun hb1 H => ?_) (fun hb1 H => ?_))))))))
  · refine AWP_reg (Rh 1 118 [(4, iA 18)] (AOps_done ?_))
    exact AWP_ret (FR H)
  · refine AWP_skip ?_
    show AWP _ _ _ _ _ _ _
    refine AWP_seq (AWP_reg (Rh 4 118 [(2, .ptr 0 0), (16, bA (decide (x0.gOp < 1)))] (AOps_run 4 [2, 20] (st' := fr 118 [(2, .ptr 0 0), (20, bA ((decide (x0.gOp < 1)) || (decide (x0.gOp > 15))))]) (h' := [.cells 25 (TExpr.cs x0)]) (by (generalize (decide (x0.gOp < 1)) = t0; cases t0 <;> kernel_rfl)) ?_)))
    refine AOps_done (CD H (fun hb2 H => ?_) (fun hb2 H => ?_))
    · refine AWP_reg (Rh 1 118 [(4, iA 7)] (AOps_done ?_))
      exact AWP_ret (FR H)
    · refine AWP_skip ?_
      show AWP _ _ _ _ _ _ _
      refine AWP_seq (AWP_reg (Rh 1 118 [(2, .ptr 0 0), (21, .agg (TExpr.cs x0))] ?_))
      obtain ⟨v3, hv3, H⟩ := bind_some H
      refine AOps_callp (d := (some 22)) (al := [.agg (TExpr.cs x0)]) (r := bA v3) (by kernel_rfl) (s_shape_shape hv3) ⟨(sc_TExpr_cs _ _), trivial⟩ trivial ?_
      refine Rh 1 118 [(2, .ptr 0 0), (23, bA (!v3))] (AOps_done (CD H (fun hb4 H => ?_) (fun hb4 H => ?_)))
      · refine AWP_reg (Rh 1 118 [(4, iA 15)] (AOps_done ?_))
        exact AWP_ret (FR H)
      · refine AWP_skip ?_
        show AWP _ _ _ _ _ _ _
        refine AWP_seq (AWP_reg (Rh 5 118 [(2, .ptr 0 0), (28, bA (decide ((lI x0.gKids) > 12)))] (AOps_run 5 [2, 33] (st' := fr 118 [(2, .ptr 0 0), (33, bA ((decide ((lI x0.gKids) > 12)) || (decide ((lI x0.gValues) > 20))))]) (h' := [.cells 25 (TExpr.cs x0)]) (by (generalize (decide ((lI x0.gKids) > 12)) = t0; cases t0 <;> kernel_rfl)) ?_)))
        refine AOps_done (CD H (fun hb5 H => ?_) (fun hb5 H => ?_))
        · refine AWP_reg (Rh 1 118 [(4, iA 5)] (AOps_done ?_))
          exact AWP_ret (FR H)
        · refine AWP_skip ?_
          show AWP _ _ _ _ _ _ _
          refine AWP_seq (AWP_reg (Rh 4 118 [(2, .ptr 0 0), (35, .ro .unk x0.gKids.length (TExpr.cl x0.gKids)), (36, iA (lI x0.gKids)), (37, iA 0)] (AOps_done (AWP_block ?_))))
          refine AWP_loopN (α := Int) (fun v13 => fr 118 [(2, .ptr 0 0), (35, .ro .unk x0.gKids.length (TExpr.cl x0.gKids)), (36, iA (lI x0.gKids)), (37, iA v13)]) (fun v13 => [.cells 25 (TExpr.cs x0)]) (fun k_ v13 => k_ ≤ n ∧ p_shape_part_L1 k_ x0 v13 = some r) (fun n v13 H => ?_) (k := n) 0 ⟨Nat.le_refl _, H⟩ (Norm_fd [2, 35, 36, 37] 0 (by kernel_rfl) rfl rfl ⟨(sc_TExpr_cs _ _), trivial⟩ (by refine scL_fr ?_; exact ⟨(sc_ptr rfl), (scl_TExpr_cl _ _), trivial, trivial, trivial⟩))
          show AWP _ _ _ _ _ (fr 118 [(2, .ptr 0 0), (35, .ro .unk x0.gKids.length (TExpr.cl x0.gKids)), (36, iA (lI x0.gKids)), (37, iA v13)]) [.cells 25 (TExpr.cs x0)]
          obtain ⟨hb_, H⟩ := H
          replace H : p_shape_part_L1 n x0 v13 = some r := H
          cases n with
          | zero => exact not_none (by simpa only [p_shape_part_L1] using H)
          | succ n =>
            unfold p_shape_part_L1 at H
            refine AWP_reg (Rh 1 118 [(2, .ptr 0 0), (35, .ro .unk x0.gKids.length (TExpr.cl x0.gKids)), (36, iA (lI x0.gKids)), (37, iA v13), (38, bA (decide (v13 < (lI x0.gKids))))] (AOps_done (AWP_seq (CD H (fun hb14 H => ?_) (fun hb14 H => ?_)))))
            · refine AWP_skip ?_
              show AWP _ _ _ _ _ _ _
              refine AWP_seq (AWP_block ?_)
              refine AWP_reg ?_
              obtain ⟨v15, hv15, H⟩ := bind_some H
              refine AOps_index (d := (some 39)) (sz := 5) (c := TExpr.cs) (by kernel_rfl) rfl (eq_TExpr_cl _) (fun _ => rfl) (by decide) hv15 (fun tl15 => ?_)
              refine R 3 118 [(2, .ptr 0 0), (6, .ptr 1 0), (35, .ro .unk x0.gKids.length (TExpr.cl x0.gKids)), (36, iA (lI x0.gKids)), (37, iA v13)] [.cells 25 (TExpr.cs v15), .cells 25 (TExpr.cs x0)] (AOps_done (AWP_reg (Rh 6 118 [(2, .ptr 0 0), (35, .ro .unk x0.gKids.length (TExpr.cl x0.gKids)), (36, iA (lI x0.gKids)), (37, iA v13), (46, bA (v15.gOp == x0.gOp))] (AOps_cut 9 (st' := fr 118 [(2, .ptr 0 0), (35, .ro .unk x0.gKids.length (TExpr.cl x0.gKids)), (36, iA (lI x0.gKids)), (37, iA v13), (55, bA ((v15.gOp == x0.gOp) && ((x0.gOp == 2) || (x0.gOp == 3))))]) (h' := [.cells 25 (TExpr.cs v15), .cells 25 (TExpr.cs x0)]) ?_ ?_))))
              rotate_left
              · cases c1 : (v15.gOp == x0.gOp : Bool) with
                | true =>
                  refine R 4 118 [(2, .ptr 0 0), (35, .ro .unk x0.gKids.length (TExpr.cl x0.gKids)), (36, iA (lI x0.gKids)), (37, iA v13), (46, bA true), (50, bA (x0.gOp == 2))] [.cells 25 (TExpr.cs v15), .cells 25 (TExpr.cs x0)] ?_
                  cases c2 : (x0.gOp == 2 : Bool) with
                  | true =>
                    refine R 5 118 [(2, .ptr 0 0), (35, .ro .unk x0.gKids.length (TExpr.cl x0.gKids)), (36, iA (lI x0.gKids)), (37, iA v13), (55, bA (true && (true || (x0.gOp == 3))))] [.cells 25 (TExpr.cs v15), .cells 25 (TExpr.cs x0)] ?_
                    exact AOps_here [2, 35, 36, 37, 55] (by kernel_rfl) rfl
                  | false =>
                    refine R 5 118 [(2, .ptr 0 0), (35, .ro .unk x0.gKids.length (TExpr.cl x0.gKids)), (36, iA (lI x0.gKids)), (37, iA v13), (55, bA (true && (false || (x0.gOp == 3))))] [.cells 25 (TExpr.cs v15), .cells 25 (TExpr.cs x0)] ?_
                    exact AOps_here [2, 35, 36, 37, 55] (by kernel_rfl) rfl
                | false =>
                  refine R 9 118 [(2, .ptr 0 0), (35, .ro .unk x0.gKids.length (TExpr.cl x0.gKids)), (36, iA (lI x0.gKids)), (37, iA v13), (55, bA (false && ((x0.gOp == 2) || (x0.gOp == 3))))] [.cells 25 (TExpr.cs v15), .cells 25 (TExpr.cs x0)] ?_
                  exact AOps_here [2, 35, 36, 37, 55] (by kernel_rfl) rfl
              refine AOps_done (CD H (fun hb16 H => ?_) (fun hb16 H => ?_))
              · refine AWP_reg (Rh 1 118 [(4, iA 15)] (AOps_done ?_))
                exact AWP_ret (FR H)
              · refine AWP_skip ?_
                show AWP _ _ _ _ _ _ _
                refine AWP_region ?_
                refine Rh 2 118 [(2, .ptr 0 0), (35, .ro .unk x0.gKids.length (TExpr.cl x0.gKids)), (36, iA (lI x0.gKids)), (37, iA (w64 (v13 + 1)))] (AOps_done ?_)
                exact Exists.intro (w64 (v13 + 1)) (Exists.intro n ⟨by omega, ⟨by omega, H⟩, Norm_fd [2, 35, 36, 37] 1 (by kernel_rfl) rfl rfl ⟨(sc_TExpr_cs _ _), trivial⟩ (by refine scL_fr ?_; exact ⟨(sc_ptr rfl), (scl_TExpr_cl _ _), trivial, trivial, trivial⟩)⟩)
            · refine AWP_exit ?_
              show AWP _ _ _ _ _ _ _
              refine AWP_seq (AWP_reg (Rh 2 118 [(2, .ptr 0 0), (58, iA x0.gOp)] ?_))
              obtain ⟨v17, hv17, H⟩ := bind_some H
              refine AOps_callp (d := (some 59)) (al := [iA x0.gOp]) (r := bA v17) (by kernel_rfl) (s_shape_test hv17) ⟨trivial, trivial⟩ trivial ?_
              refine Rh 1 118 [(2, .ptr 0 0), (60, bA v17)] ?_
              obtain ⟨v18, hv18, H⟩ := bind_some H
              refine AOps_cut 5 (st' := fr 118 [(2, .ptr 0 0), (65, bA (v17 && (!v18)))]) (h' := [.cells 25 (TExpr.cs x0)]) ?_ ?_
              rotate_left
              · cases c1 : (v17 : Bool) with
                | true =>
                  refine R 2 118 [(2, .ptr 0 0), (60, bA true), (62, sA x0.gKind)] [.cells 25 (TExpr.cs x0)] ?_
                  have hv18_ := cond_t hv18 (by simp only [c1] <;> rfl)
                  refine AOps_callp (d := (some 63)) (al := [sA x0.gKind]) (r := bA v18) (by kernel_rfl) (s_text_Key hG hv18_) ⟨trivial, trivial⟩ trivial ?_
                  refine R 2 118 [(2, .ptr 0 0), (65, bA (true && (!v18)))] [.cells 25 (TExpr.cs x0)] ?_
                  exact AOps_here [2, 65] (by kernel_rfl) rfl
                | false =>
                  refine R 5 118 [(2, .ptr 0 0), (65, bA (false && (!v18)))] [.cells 25 (TExpr.cs x0)] ?_
                  exact AOps_here [2, 65] (by kernel_rfl) rfl
              refine Rh 1 118 [(2, .ptr 0 0), (66, bA (v17 && (!v18)))] ?_
              obtain ⟨v19, hv19, H⟩ := bind_some H
              obtain ⟨v20, hv20, H⟩ := bind_some H
              refine AOps_cut 15 (st' := fr 118 [(2, .ptr 0 0), (81, bA ((v17 && (!v18)) || ((v19 || (x0.gOp == 5)) && (!v20))))]) (h' := [.cells 25 (TExpr.cs x0)]) ?_ ?_
              rotate_left
              · cases c1 : (v17 && (!v18) : Bool) with
                | true =>
                  refine R 15 118 [(2, .ptr 0 0), (81, bA (true || ((v19 || (x0.gOp == 5)) && (!v20))))] [.cells 25 (TExpr.cs x0)] ?_
                  exact AOps_here [2, 81] (by kernel_rfl) rfl
                | false =>
                  refine R 2 118 [(2, .ptr 0 0), (66, bA false), (68, iA x0.gOp)] [.cells 25 (TExpr.cs x0)] ?_
                  have hv19_ := cond_t hv19 (by simp only [c1] <;> rfl)
                  refine AOps_callp (d := (some 69)) (al := [iA x0.gOp]) (r := bA v19) (by kernel_rfl) (s_shape_test hv19_) ⟨trivial, trivial⟩ trivial ?_
                  refine R 1 118 [(2, .ptr 0 0), (66, bA false), (70, bA v19)] [.cells 25 (TExpr.cs x0)] ?_
                  cases c2 : (v19 : Bool) with
                  | true =>
                    refine R 7 118 [(2, .ptr 0 0), (66, bA false), (75, bA (true || (x0.gOp == 5))), (77, sA x0.gName)] [.cells 25 (TExpr.cs x0)] ?_
                    have hv20_ := cond_t hv20 (by simp only [c1, c2] <;> rfl)
                    refine AOps_callp (d := (some 78)) (al := [sA x0.gName]) (r := bA v20) (by kernel_rfl) (s_text_Key hG hv20_) ⟨trivial, trivial⟩ trivial ?_
                    refine R 3 118 [(2, .ptr 0 0), (81, bA (false || ((true || (x0.gOp == 5)) && (!v20))))] [.cells 25 (TExpr.cs x0)] ?_
                    exact AOps_here [2, 81] (by kernel_rfl) rfl
                  | false =>
                    refine R 5 118 [(2, .ptr 0 0), (66, bA false), (75, bA (false || (x0.gOp == 5)))] [.cells 25 (TExpr.cs x0)] ?_
                    cases c3 : (x0.gOp == 5 : Bool) with
                    | true =>
                      refine R 2 118 [(2, .ptr 0 0), (66, bA false), (75, bA (false || true)), (77, sA x0.gName)] [.cells 25 (TExpr.cs x0)] ?_
                      have hv20_ := cond_t hv20 (by simp only [c1, c2, c3] <;> rfl)
                      refine AOps_callp (d := (some 78)) (al := [sA x0.gName]) (r := bA v20) (by kernel_rfl) (s_text_Key hG hv20_) ⟨trivial, trivial⟩ trivial ?_
                      refine R 3 118 [(2, .ptr 0 0), (81, bA (false || ((false || true) && (!v20))))] [.cells 25 (TExpr.cs x0)] ?_
                      exact AOps_here [2, 81] (by kernel_rfl) rfl
                    | false =>
                      refine R 6 118 [(2, .ptr 0 0), (81, bA (false || ((false || false) && (!v20))))] [.cells 25 (TExpr.cs x0)] ?_
                      exact AOps_here [2, 81] (by kernel_rfl) rfl
              refine AOps_done (CD H (fun hb21 H => ?_) (fun hb21 H => ?_))
              · refine AWP_reg (Rh 1 118 [(4, iA 6)] (AOps_done ?_))
                exact AWP_ret (FR H)
              · refine AWP_skip ?_
                show AWP _ _ _ _ _ _ _
                refine AWP_seq (AWP_reg (Rh 4 118 [(2, .ptr 0 0), (83, .ro .unk x0.gValues.length (TValue.cl x0.gValues)), (84, iA (lI x0.gValues)), (85, iA 0)] (AOps_done (AWP_block ?_))))
                refine AWP_loopN (α := Int) (fun v31 => fr 118 [(2, .ptr 0 0), (83, .ro .unk x0.gValues.length (TValue.cl x0.gValues)), (84, iA (lI x0.gValues)), (85, iA v31)]) (fun v31 => [.cells 25 (TExpr.cs x0)]) (fun k_ v31 => k_ ≤ n ∧ p_shape_part_L2 k_ x0 v31 = some r) (fun n v31 H => ?_) (k := n) 0 ⟨Nat.le_refl _, H⟩ (Norm_fd [2, 83, 84, 85] 0 (by kernel_rfl) rfl rfl ⟨(sc_TExpr_cs _ _), trivial⟩ (by refine scL_fr ?_; exact ⟨(sc_ptr rfl), (scl_TValue_cl _ _), trivial, trivial, trivial⟩))
                show AWP _ _ _ _ _ (fr 118 [(2, .ptr 0 0), (83, .ro .unk x0.gValues.length (TValue.cl x0.gValues)), (84, iA (lI x0.gValues)), (85, iA v31)]) [.cells 25 (TExpr.cs x0)]
                obtain ⟨hb_, H⟩ := H
                replace H : p_shape_part_L2 n x0 v31 = some r := H
                cases n with
                | zero => exact not_none (by simpa only [p_shape_part_L2] using H)
                | succ n =>
                  unfold p_shape_part_L2 at H
                  refine AWP_reg (Rh 1 118 [(2, .ptr 0 0), (83, .ro .unk x0.gValues.length (TValue.cl x0.gValues)), (84, iA (lI x0.gValues)), (85, iA v31), (86, bA (decide (v31 < (lI x0.gValues))))] (AOps_done (AWP_seq (CD H (fun hb32 H => ?_) (fun hb32 H => ?_)))))
                  · refine AWP_skip ?_
                    show AWP _ _ _ _ _ _ _
                    refine AWP_seq (AWP_block ?_)
                    refine AWP_reg ?_
                    obtain ⟨v33, hv33, H⟩ := bind_some H
                    refine AOps_index (d := (some 87)) (sz := 4) (c := TValue.cs) (by kernel_rfl) rfl (eq_TValue_cl _) (fun _ => rfl) (by decide) hv33 (fun tl33 => ?_)
                    refine R 3 118 [(2, .ptr 0 0), (8, .ptr 1 0), (83, .ro .unk x0.gValues.length (TValue.cl x0.gValues)), (84, iA (lI x0.gValues)), (85, iA v31)] [.cells 58 (TValue.cs v33), .cells 25 (TExpr.cs x0)] (AOps_done (AWP_reg (Rh 1 118 [(2, .ptr 0 0), (83, .ro .unk x0.gValues.length (TValue.cl x0.gValues)), (84, iA (lI x0.gValues)), (85, iA v31), (89, .agg (TValue.cs v33))] ?_)))
                    obtain ⟨v34, hv34, H⟩ := bind_some H
                    refine AOps_callp (d := (some 90)) (al := [.agg (TValue.cs v33)]) (r := iA v34) (by kernel_rfl) (s_value_Check hG hv34) ⟨(sc_TValue_cs _ _), trivial⟩ trivial ?_
                    refine Rh 1 118 [(2, .ptr 0 0), (9, iA v34), (83, .ro .unk x0.gValues.length (TValue.cl x0.gValues)), (84, iA (lI x0.gValues)), (85, iA v31)] (AOps_done (AWP_reg (Rh 2 118 [(2, .ptr 0 0), (9, iA v34), (83, .ro .unk x0.gValues.length (TValue.cl x0.gValues)), (84, iA (lI x0.gValues)), (85, iA v31), (92, bA (v34 != 0))] (AOps_done (CD H (fun hb35 H => ?_) (fun hb35 H => ?_))))))
                    · refine AWP_reg (Rh 2 118 [(4, iA v34)] (AOps_done ?_))
                      exact AWP_ret (FR H)
                    · refine AWP_skip ?_
                      show AWP _ _ _ _ _ _ _
                      refine AWP_region ?_
                      refine Rh 2 118 [(2, .ptr 0 0), (83, .ro .unk x0.gValues.length (TValue.cl x0.gValues)), (84, iA (lI x0.gValues)), (85, iA (w64 (v31 + 1)))] (AOps_done ?_)
                      exact Exists.intro (w64 (v31 + 1)) (Exists.intro n ⟨by omega, ⟨by omega, H⟩, Norm_fd [2, 83, 84, 85] 1 (by kernel_rfl) rfl rfl ⟨(sc_TExpr_cs _ _), trivial⟩ (by refine scL_fr ?_; exact ⟨(sc_ptr rfl), (scl_TValue_cl _ _), trivial, trivial, trivial⟩)⟩)
                  · refine AWP_exit ?_
                    show AWP _ _ _ _ _ _ _
                    refine AWP_reg (Rh 4 118 [(2, .ptr 0 0), (98, bA (x0.gOp == 9))] (AOps_run 4 [2, 102] (st' := fr 118 [(2, .ptr 0 0), (102, bA ((x0.gOp == 9) || (x0.gOp == 10)))]) (h' := [.cells 25 (TExpr.cs x0)]) (by (generalize (x0.gOp == 9) = t0; cases t0 <;> kernel_rfl)) ?_))
                    refine Rh 1 118 [(2, .ptr 0 0), (103, bA ((x0.gOp == 9) || (x0.gOp == 10)))] (AOps_run 4 [2, 107] (st' := fr 118 [(2, .ptr 0 0), (107, bA (((x0.gOp == 9) || (x0.gOp == 10)) || (x0.gOp == 11)))]) (h' := [.cells 25 (TExpr.cs x0)]) (by (generalize (x0.gOp == 9) = t0; generalize (x0.gOp == 10) = t1; cases t0 <;> cases t1 <;> kernel_rfl)) ?_)
                    refine Rh 1 118 [(2, .ptr 0 0), (10, bA (((x0.gOp == 9) || (x0.gOp == 10)) || (x0.gOp == 11)))] (AOps_done (AWP_reg (Rh 2 118 [(2, .ptr 0 0), (109, bA (((x0.gOp == 9) || (x0.gOp == 10)) || (x0.gOp == 11)))] ?_)))
                    obtain ⟨v36, hv36, H⟩ := bind_some H
                    refine AOps_cut 7 (st' := fr 118 [(116, bA ((((x0.gOp == 9) || (x0.gOp == 10)) || (x0.gOp == 11)) && (v36.gKind != 3)))]) (h' := [.cells 25 (TExpr.cs x0)]) ?_ ?_
                    rotate_left
                    · cases c1 : (((x0.gOp == 9) || (x0.gOp == 10)) || (x0.gOp == 11) : Bool) with
                      | true =>
                        refine R 2 118 [(109, bA true), (111, .ro .unk x0.gValues.length (TValue.cl x0.gValues))] [.cells 25 (TExpr.cs x0)] ?_
                        have hv36_ := cond_t hv36 (by simp only [c1] <;> rfl)
                        refine AOps_index (d := (some 112)) (sz := 4) (c := TValue.cs) (by kernel_rfl) rfl (eq_TValue_cl _) (fun _ => rfl) (by decide) hv36_ (fun tl36 => ?_)
                        refine R 4 118 [(116, bA (true && (v36.gKind != 3)))] [.cells 25 (TExpr.cs x0)] ?_
                        exact AOps_here [116] (by kernel_rfl) rfl
                      | false =>
                        refine R 7 118 [(116, bA (false && (v36.gKind != 3)))] [.cells 25 (TExpr.cs x0)] ?_
                        exact AOps_here [116] (by kernel_rfl) rfl
                    obtain ⟨v37, hv37, H⟩ := bind_some H
                    refine AOps_callp (d := (some 117)) (al := [bA ((((x0.gOp == 9) || (x0.gOp == 10)) || (x0.gOp == 11)) && (v36.gKind != 3)), iA 8]) (r := iA v37) (by kernel_rfl) (s_shape_when hv37) ⟨trivial, trivial, trivial⟩ trivial ?_
                    refine Rh 1 118 [(4, iA v37)] (AOps_done ?_)
                    exact AWP_ret (FR H)
end Go.Proofs.YtjhbobacbaikoaaGreatDoor
/- The form of conditions: the program and the reference agree. -/
namespace Go.Proofs.YtjhbobacbaikoaaGreatDoor
open Go
set_option linter.unusedVariables false
set_option linter.unusedSimpArgs false
/-! one part -/
theorem none_eq (n : Nat) (x : TExpr) : p_shape_None n x = p_ref6_None n x := rfl
theorem test_eq (n : Nat) (op : Int) : p_shape_test n op = p_ref6_IsTest n op := rfl
theorem lI_nonneg {α : Type} (l : List α) : 0 ≤ lI l := by unfold lI; omega
theorem shapes_eq (n : Nat) (x : TExpr) (h : 1 ≤ x.gOp ∧ x.gOp ≤ 15) : p_shape_shape n x = p_ref6_counts n x := by
  have hk : x.gOp = 1 ∨ x.gOp = 2 ∨ x.gOp = 3 ∨ x.gOp = 4 ∨ x.gOp = 5 ∨ x.gOp = 6 ∨ x.gOp = 7 ∨ x.gOp = 8 ∨ x.gOp = 9 ∨ x.gOp = 10 ∨ x.gOp = 11 ∨ x.gOp = 12 ∨ x.gOp = 13 ∨ x.gOp = 14 ∨ x.gOp = 15 := by omega
  have e1 := dec_lt (lI x.gKids) 2
  have e3 : decide (lI x.gKids > 0) = !(lI x.gKids == 0) := by
    have := lI_nonneg x.gKids
    by_cases h : lI x.gKids = 0
    · rw [h]; rfl
    · rw [decide_eq_true (by omega), beq_eq_false_iff_ne.2 h]; rfl
  unfold p_shape_shape p_shape_shape_K1 p_ref6_counts p_ref6_counts_K1 p_shape_test p_ref6_IsTest
  rw [e1, e3]
  simp only [bne]
  generalize decide (lI x.gKids ≥ 2) = b1
  generalize (lI x.gKids == 0) = b2
  generalize (lI x.gKids == 1) = b3
  generalize (lI x.gValues == 0) = b4
  generalize (lI x.gValues == 1) = b5
  generalize decide (lI x.gValues > 0) = b6
  generalize seq' x.gKind ByteArray.empty = b7
  generalize seq' x.gName ByteArray.empty = b8
  generalize x.gOp = op at hk
  rcases hk with hk | hk | hk | hk | hk | hk | hk | hk | hk | hk | hk | hk | hk | hk | hk <;> subst hk <;>
    cases b1 <;> cases b2 <;> cases b3 <;> cases b4 <;> cases b5 <;> cases b6 <;> cases b7 <;> cases b8 <;> rfl
theorem shape_some (x : TExpr) (h : 1 ≤ x.gOp ∧ x.gOp ≤ 15) : ∃ b, ∀ n, p_shape_shape n x = some b := by
  have e : ∀ n, p_shape_shape n x = p_ref6_counts 0 x := fun n => shapes_eq n x h
  cases hc : p_ref6_counts 0 x with
  | some b => exact ⟨b, fun n => (e n).trans hc⟩
  | none =>
    exfalso
    simp only [p_ref6_counts, p_ref6_counts_K1, p_ref6_IsTest, Option.bind_some] at hc
    generalize ((x.gOp == 2) || (x.gOp == 3)) = b1 at hc
    generalize (x.gOp == 4) = b2 at hc
    generalize (x.gOp == 8) = b3 at hc
    generalize (decide (x.gOp ≥ 6) && decide (x.gOp ≤ 15)) = b4 at hc
    generalize (x.gOp != 6) = b5 at hc
    cases b1 <;> cases b2 <;> cases b3 <;> cases b4 <;> cases b5 <;> cases hc
/-- What a well-shaped part has. -/
theorem shape_facts (n : Nat) (x : TExpr) (h : 1 ≤ x.gOp ∧ x.gOp ≤ 15) (hs : p_shape_shape n x = some true) :
    (x.gOp = 2 ∨ x.gOp = 3 ∨ x.gOp = 4 ∨ x.gKids = []) ∧ ((x.gOp = 9 ∨ x.gOp = 10 ∨ x.gOp = 11) → 0 < x.gValues.length) := by
  constructor
  · by_cases h2 : x.gOp = 2
    · exact .inl h2
    by_cases h3 : x.gOp = 3
    · exact .inr (.inl h3)
    by_cases h4 : x.gOp = 4
    · exact .inr (.inr (.inl h4))
    refine .inr (.inr (.inr ?_))
    unfold p_shape_shape at hs
    rw [beq_eq_false_iff_ne.2 h2, beq_eq_false_iff_ne.2 h3, beq_eq_false_iff_ne.2 h4] at hs
    simp only [Bool.or_self, cond_false] at hs
    cases hc : decide (lI x.gKids > 0) with
    | true => rw [hc] at hs; cases hs
    | false =>
      have := of_decide_eq_false hc
      unfold lI at this
      exact List.length_eq_zero_iff.1 (by omega)
  · intro hop
    have hv : (lI x.gValues == 1) = true := by
      have ht : ∀ n, p_shape_test n x.gOp = some true := by
        intro n
        unfold p_shape_test
        rw [decide_eq_true (show x.gOp ≥ 6 by omega), decide_eq_true (show x.gOp ≤ 15 by omega)]; rfl
      have hK : p_shape_shape_K1 n x = some true := by
        unfold p_shape_shape at hs
        rw [beq_eq_false_iff_ne.2 (show x.gOp ≠ 2 by omega), beq_eq_false_iff_ne.2 (show x.gOp ≠ 3 by omega), beq_eq_false_iff_ne.2 (show x.gOp ≠ 4 by omega)] at hs
        simp only [Bool.or_self, cond_false] at hs
        cases hc : decide (lI x.gKids > 0) with
        | true => rw [hc] at hs; cases hs
        | false => rw [hc] at hs; exact hs
      unfold p_shape_shape_K1 at hK
      rw [ht] at hK
      simp only [Option.bind_some, Bool.not_true, Bool.false_and, cond_false, beq_eq_false_iff_ne.2 (show x.gOp ≠ 8 by omega), Bool.true_and] at hK
      have : (x.gOp != 6) = true := by rw [bne_iff_ne]; omega
      rw [this, cond_true] at hK
      exact Option.some.inj hK
    have := beq_iff_eq.1 hv
    unfold lI at this
    omega
theorem part_values (x : TExpr) (hx : ∀ v ∈ x.gValues, v.sm) (hl : x.gValues.length < 4294967281) (hne : (x.gOp = 9 ∨ x.gOp = 10 ∨ x.gOp = 11) → 0 < x.gValues.length) :
    ∃ v, Al fun n => p_shape_part_L2 n x 0 = some v ∧ p_ref6_part_L2 n x 0 = some v := by
  refine loop2 (fun n i => p_shape_part_L2 n x i) (fun n i => p_ref6_part_L2 n x i) x.gValues.length (fun i hi => ?_) ?_ 0 (by omega)
  · have hd : decide ((i : Int) < lI x.gValues) = true := decide_eq_true (by unfold lI; omega)
    obtain ⟨v, hv⟩ := check_bi x.gValues[i] (hx _ (List.getElem_mem hi))
    by_cases h0 : v = 0
    · refine .inr (hv.mono fun n ⟨a, b⟩ => ?_)
      rw [p_shape_part_L2, p_ref6_part_L2, hd]
      simp only [cond_true, rdO_nat hi, Option.bind_some, a, b, h0, bne_self_eq_false, cond_false, w64_add (show i + 1 < 9223372036854775808 by omega), and_self]
    · refine .inl ⟨v, hv.mono fun n ⟨a, b⟩ => ?_⟩
      have : (v != 0) = true := by rw [bne_iff_ne]; exact h0
      rw [p_shape_part_L2, p_ref6_part_L2, hd]
      simp only [cond_true, rdO_nat hi, Option.bind_some, a, b, this, and_self]
  · have hd : decide (((x.gValues.length : Nat) : Int) < lI x.gValues) = false := decide_eq_false (by unfold lI; omega)
    cases hc : (((x.gOp == 9) || (x.gOp == 10)) || (x.gOp == 11)) with
    | true =>
      have h0 := hne (by simpa [or_assoc] using hc)
      have hr : rdO x.gValues 0 = some x.gValues[0] := rdO_nat (i := 0) h0
      refine ⟨if (x.gValues[0].gKind != 3) = true then 8 else 0, .of fun n => ?_⟩
      rw [p_shape_part_L2, p_ref6_part_L2, hd]
      simp only [cond_false, hc, cond_true, hr, Option.bind_some, when_eq, Bool.true_and]
      cases (x.gValues[0].gKind != 3) <;> simp
    | false =>
      refine ⟨0, .of fun n => ?_⟩
      rw [p_shape_part_L2, p_ref6_part_L2, hd]
      simp only [cond_false, hc, Option.bind_some, when_eq, Bool.false_and]
      simp
theorem part_bi (x : TExpr) (hx : x.sm) : ∃ v, Al fun n => (∀ d : Int, p_shape_part n x d = if d ≥ 10 then some 18 else some v) ∧ p_ref6_part n x = some v := by
  obtain ⟨hk, hn, hv, hks⟩ := TExpr.sm_parts hx
  by_cases hop : 1 ≤ x.gOp ∧ x.gOp ≤ 15
  · have e0 : (decide (x.gOp < 1) || decide (x.gOp > 15)) = false := by simp; omega
    have hsh := shape_some x hop
    obtain ⟨b, hb⟩ := hsh
    have hb' : ∀ n, p_ref6_counts n x = some b := fun n => by rw [← shapes_eq n x hop]; exact hb n
    cases b with
    | false =>
      refine ⟨15, .of fun n => ⟨fun d => ?_, ?_⟩⟩
      · unfold p_shape_part
        by_cases hd : d ≥ 10
        · rw [decide_eq_true hd, if_pos hd]; rfl
        · rw [decide_eq_false hd, if_neg hd, e0, hb]; rfl
      · unfold p_ref6_part
        rw [e0, hb']; rfl
    | true =>
      obtain ⟨f1, f2⟩ := shape_facts 0 x hop (hb 0)
      by_cases hsz : (decide (lI x.gKids > 12) || decide (lI x.gValues > 20)) = true
      · refine ⟨5, .of fun n => ⟨fun d => ?_, ?_⟩⟩
        · unfold p_shape_part
          by_cases hd : d ≥ 10
          · rw [decide_eq_true hd, if_pos hd]; rfl
          · rw [decide_eq_false hd, if_neg hd, e0, hb, hsz]; rfl
        · unfold p_ref6_part
          rw [e0, hb', hsz]; rfl
      · have hsz := Bool.eq_false_iff.2 hsz
        have hls : x.gKids.length ≤ 12 ∧ x.gValues.length ≤ 20 := by
          obtain ⟨q1, q2⟩ := Bool.or_eq_false_iff.1 hsz
          have q1 := of_decide_eq_false q1
          have q2 := of_decide_eq_false q2
          unfold lI at q1 q2
          omega
        obtain ⟨u, hu⟩ := part_values x hv (by omega) f2
        obtain ⟨k1, hk1⟩ := key_bi x.gKind (by omega)
        obtain ⟨k2, hk2⟩ := key_bi x.gName (by omega)
        have hloop : ∃ v, Al fun n => p_shape_part_L1 n x 0 = some v ∧ p_ref6_part_L1 n x 0 = some v := by
          refine loop2 (fun n i => p_shape_part_L1 n x i) (fun n i => p_ref6_part_L1 n x i) x.gKids.length (fun i hi => ?_) ?_ 0 (by omega)
          · have hd : decide ((i : Int) < lI x.gKids) = true := decide_eq_true (by unfold lI; omega)
            have hcond : (x.gKids[i].gOp == x.gOp && (x.gOp == 2 || x.gOp == 3)) = (x.gKids[i].gOp == x.gOp && x.gOp != 4) := by
              rcases f1 with f1 | f1 | f1 | f1
              · rw [f1]; rfl
              · rw [f1]; rfl
              · rw [f1]; rfl
              · rw [f1] at hi; simp at hi
            cases hc : (x.gKids[i].gOp == x.gOp && x.gOp != 4) with
            | true =>
              refine .inl ⟨15, .of fun n => ?_⟩
              rw [p_shape_part_L1, p_ref6_part_L1, hd]
              simp only [cond_true, rdO_nat hi, Option.bind_some, hcond, hc, and_self]
            | false =>
              refine .inr (.of fun n => ?_)
              rw [p_shape_part_L1, p_ref6_part_L1, hd]
              simp only [cond_true, rdO_nat hi, Option.bind_some, hcond, hc, cond_false, w64_add (show i + 1 < 9223372036854775808 by omega), and_self]
          · have hd : decide (((x.gKids.length : Nat) : Int) < lI x.gKids) = false := decide_eq_false (by unfold lI; omega)
            have ht : ∀ n, p_shape_test n x.gOp = some (decide (x.gOp ≥ 6) && decide (x.gOp ≤ 15)) := fun n => rfl
            have ht' : ∀ n, p_ref6_IsTest n x.gOp = some (decide (x.gOp ≥ 6) && decide (x.gOp ≤ 15)) := fun n => rfl
            generalize (decide (x.gOp ≥ 6) && decide (x.gOp ≤ 15)) = t at ht ht'
            generalize h5 : (x.gOp == 5) = b5
            refine ⟨if ((t && !k1) || ((t || b5) && !k2)) = true then 6 else u, (hu.and (hk1.and hk2)).mono fun n ⟨⟨a1, a2⟩, ⟨a3, a4⟩, a5, a6⟩ => ?_⟩
            rw [p_shape_part_L1, p_ref6_part_L1, hd]
            simp only [cond_false, ht, ht', Option.bind_some, h5, a1, a2, a3, a4, a5, a6]
            cases t <;> cases k1 <;> cases b5 <;> cases k2 <;> simp [a1, a2]
        obtain ⟨v, hv⟩ := hloop
        refine ⟨v, hv.mono fun n ⟨a1, a2⟩ => ⟨fun d => ?_, ?_⟩⟩
        · unfold p_shape_part
          by_cases hd : d ≥ 10
          · rw [decide_eq_true hd, if_pos hd]; rfl
          · rw [decide_eq_false hd, if_neg hd, e0, hb]
            simp only [cond_false, Option.bind_some, Bool.not_true, hsz, a1]
        · unfold p_ref6_part
          rw [e0, hb']
          simp only [cond_false, Option.bind_some, Bool.not_true, hsz, a2]
  · have e0 : (decide (x.gOp < 1) || decide (x.gOp > 15)) = true := by simp; omega
    refine ⟨7, .of fun n => ⟨fun d => ?_, ?_⟩⟩
    · unfold p_shape_part
      by_cases hd : d ≥ 10
      · rw [decide_eq_true hd, if_pos hd]; rfl
      · rw [decide_eq_false hd, if_neg hd, e0]; rfl
    · unfold p_ref6_part
      rw [e0]; rfl
end Go.Proofs.YtjhbobacbaikoaaGreatDoor
