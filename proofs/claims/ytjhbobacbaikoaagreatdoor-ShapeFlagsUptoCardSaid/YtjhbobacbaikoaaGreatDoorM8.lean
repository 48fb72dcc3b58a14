/- Versions: the program's parts and the reference's parts are alike. -/
import Derived.Test.YtjhbobacbaikoaaGreatDoorM7
import Derived.Test.YtjhbobacbaikoaaGreatDoorM5
import Derived.Test.YtjhbobacbaikoaaGreatDoorM3
import Derived.Test.YtjhbobacbaikoaaGreatDoorM4
import Derived.Test.YtjhbobacbaikoaaGreatDoorM6
namespace Go.Proofs.YtjhbobacbaikoaaGreatDoor
open Go
set_option linter.unusedVariables false
set_option linter.unusedSimpArgs false
/-- What stands before the first point, and what from it on. -/
def pre (l : List UInt8) : List UInt8 := l.takeWhile (· != 46)
def rst (l : List UInt8) : List UInt8 := l.dropWhile (· != 46)
theorem pre_rst (l : List UInt8) : pre l ++ rst l = l := List.takeWhile_append_dropWhile
theorem rst_eq (l : List UInt8) : rst l = l.drop (pre l).length := by
  have h := pre_rst l
  calc rst l = (pre l ++ rst l).drop (pre l).length := by simp
    _ = l.drop (pre l).length := by rw [h]
theorem pre_len (l : List UInt8) : (pre l).length ≤ l.length := by have := congrArg List.length (pre_rst l); simp at this; omega
theorem pre_take (l : List UInt8) : pre l = l.take (pre l).length := by
  have h := pre_rst l
  calc pre l = (pre l ++ rst l).take (pre l).length := by simp
    _ = l.take (pre l).length := by rw [h]
theorem rst_nil_iff (l : List UInt8) : rst l = [] ↔ (pre l).length = l.length := by
  rw [rst_eq, List.drop_eq_nil_iff]
  have := pre_len l; omega
theorem pre_get {l : List UInt8} {j : Nat} (h : j < (pre l).length) : ∃ hl : j < l.length, l[j] ≠ 46 := by
  have hl : j < l.length := by have := pre_len l; omega
  refine ⟨hl, ?_⟩
  have hm : (pre l)[j] ∈ pre l := List.getElem_mem h
  have h1 : ((pre l)[j] != 46) = true := by
    have : ∀ x ∈ pre l, (x != 46) = true := fun x hx => by
      unfold pre at hx
      exact List.all_eq_true.1 List.all_takeWhile x hx
    exact this _ hm
  have e : (pre l)[j] = l[j] := by
    have h2 : (pre l)[j]? = l[j]? := by
      have := congrArg (·[j]?) (pre_take l)
      simp only [List.getElem?_take, if_pos h] at this
      exact this
    rw [List.getElem?_eq_getElem h, List.getElem?_eq_getElem hl] at h2
    exact Option.some.inj h2
  rw [e] at h1
  simpa using h1
theorem rst_head {l : List UInt8} (h : (pre l).length < l.length) : l[(pre l).length] = 46 := by
  have h2 : rst l ≠ [] := fun e => by have := (rst_nil_iff l).1 e; omega
  have h3 : rst l = l[(pre l).length] :: l.drop ((pre l).length + 1) := by rw [rst_eq]; exact List.drop_eq_getElem_cons h
  have h4 := List.head_dropWhile_not (· != (46 : UInt8)) (l := l) (by exact h2)
  have h5 : (l.dropWhile (· != (46 : UInt8))).head (by exact h2) = l[(pre l).length] := by
    have : l.dropWhile (· != (46 : UInt8)) = rst l := rfl
    simp only [this, h3, List.head_cons]
  rw [h5] at h4
  simpa using h4
def badn (v : Int × Int) : Bool := ((v.2 != 0) || decide (v.1 < 0)) || decide (v.1 > 999999)
/-- The three parts of a version. -/
def parts3 (l : List UInt8) : (Int × Int × Int) × Bool :=
  if rst l = [] then ((0, 0, 0), false) else
  if rst (rst l).tail = [] then ((0, 0, 0), false) else
  if rst (rst (rst l).tail).tail ≠ [] then ((0, 0, 0), false) else
  if badn (pn (pre l)) || badn (pn (pre (rst l).tail)) || badn (pn (pre (rst (rst l).tail).tail)) then ((0, 0, 0), false)
  else (((pn (pre l)).1, (pn (pre (rst l).tail)).1, (pn (pre (rst (rst l).tail).tail)).1), true)
/-! the reference -/
theorem ref_parts_end (x : ByteArray) (p a b c : Int) : Al fun n => p_ref3_parts_L1 n x p 3 a b c = some ((a, b, c), true) := by
  refine Al.succ (.of fun n => ?_)
  rw [p_ref3_parts_L1]
  rfl
theorem ref_parts_step (x : ByteArray) (hx : x.size < 4611686018427387904) (i : Nat) (hi : i < 3) (p : Nat) (hp : p ≤ x.size) (a b c : Int) (r : (Int × Int × Int) × Bool)
    (h : (badn (pn (pre (x.data.toList.drop p))) || !(decide (i < 2) == decide (rst (x.data.toList.drop p) ≠ []))) = true → r = ((0, 0, 0), false))
    (k : (badn (pn (pre (x.data.toList.drop p))) || !(decide (i < 2) == decide (rst (x.data.toList.drop p) ≠ []))) = false →
      Al fun n => p_ref3_parts_L1 n x ((p + (pre (x.data.toList.drop p)).length + 1 : Nat) : Int) ((i + 1 : Nat) : Int) (arI 0 i (pn (pre (x.data.toList.drop p))).1 a) (arI 1 i (pn (pre (x.data.toList.drop p))).1 b) (arI 2 i (pn (pre (x.data.toList.drop p))).1 c) = some r) :
    Al fun n => p_ref3_parts_L1 n x p i a b c = some r := by
  have hlen : (x.data.toList.drop p).length = x.size - p := by rw [List.length_drop, ← size_list]
  have hpl := pre_len (x.data.toList.drop p)
  generalize he : p + (pre (x.data.toList.drop p)).length = e at k
  have hend : Al fun n => p_ref3_parts_L2 n x p i a b c e = some r := by
    have hcut : cutS x p e = some (x.extract p e) := by
      unfold cutS
      have h1 : decide ((0 : Int) ≤ (p : Int)) = true := decide_eq_true (by omega)
      have h2 : decide ((p : Int) ≤ (e : Int)) = true := decide_eq_true (by omega)
      have h3 : decide ((e : Int) ≤ x.size) = true := decide_eq_true (by omega)
      rw [h1, h2, h3]; rfl
    have hsub : (x.extract p e).data.toList = pre (x.data.toList.drop p) := by
      rw [ext_list, pre_take, List.drop_take, ← he]
      congr 1; omega
    have hsz : (x.extract p e).size < 4611686018427387904 := by rw [ByteArray.size_extract]; omega
    have hstop : ∀ v : Option Int, (v = bif decide ((e : Int) < szI x) then rdS x e else some 0) → ∃ w, v = some w ∧ (decide ((e : Int) < szI x) && (w != 46)) = false := by
      intro v hv
      by_cases hl : e < x.size
      · rw [decide_eq_true (show (e : Int) < szI x by unfold szI; omega), cond_true, rdS_nat hl] at hv
        refine ⟨_, hv, ?_⟩
        have hh : (pre (x.data.toList.drop p)).length < (x.data.toList.drop p).length := by omega
        have h46 := rst_head hh
        rw [List.getElem_drop] at h46
        have : x[e]'hl = 46 := by rw [get_list hl]; simp only [he] at h46; exact h46
        rw [this]
        simp
      · rw [decide_eq_false (show ¬ (e : Int) < szI x by unfold szI; omega), cond_false] at hv
        refine ⟨_, hv, ?_⟩
        rw [decide_eq_false (show ¬ (e : Int) < szI x by unfold szI; omega)]; rfl
    have hel : decide ((e : Int) < szI x) = decide (rst (x.data.toList.drop p) ≠ []) := by
      have := rst_nil_iff (x.data.toList.drop p)
      by_cases hl : e < x.size
      · rw [decide_eq_true (show (e : Int) < szI x by unfold szI; omega), decide_eq_true (show rst (x.data.toList.drop p) ≠ [] from fun h => by have := this.1 h; omega)]
      · rw [decide_eq_false (show ¬ (e : Int) < szI x by unfold szI; omega), decide_eq_false (show ¬ rst (x.data.toList.drop p) ≠ [] from fun h => h (this.2 (by omega)))]
    have hi2 : decide ((i : Int) < 2) = decide (i < 2) := by by_cases h : i < 2 <;> simp [h] <;> omega
    have hnum := ref_num (x.extract p e) hsz
    rw [hsub] at hnum
    have hin : inO 3 (i : Int) = some () := by
      unfold inO
      have h1 : decide ((0 : Int) ≤ (i : Int)) = true := decide_eq_true (by omega)
      have h2 : decide ((i : Int) < ((3 : Nat) : Int)) = true := decide_eq_true (by omega)
      rw [h1, h2]; rfl
    cases hc : (badn (pn (pre (x.data.toList.drop p))) || !(decide (i < 2) == decide (rst (x.data.toList.drop p) ≠ []))) with
    | true =>
      rw [h hc]
      refine Al.succ (hnum.mono fun n hn => ?_)
      rw [p_ref3_parts_L2]
      obtain ⟨w, h1, h2⟩ := hstop _ rfl
      rw [h1, Option.bind_some, h2, cond_false, hcut, Option.bind_some, hn, Option.bind_some, hel, hi2]
      unfold badn at hc
      rw [hc]; rfl
    | false =>
      refine Al.succ ((hnum.and (k hc)).mono fun n ⟨hn, hk⟩ => ?_)
      rw [p_ref3_parts_L2]
      obtain ⟨w, h1, h2⟩ := hstop _ rfl
      rw [h1, Option.bind_some, h2, cond_false, hcut, Option.bind_some, hn, Option.bind_some, hel, hi2]
      unfold badn at hc
      rw [hc, cond_false, hin, Option.bind_some, w64_add (by omega), w64_add (by omega)]
      exact hk
  have hscan : ∀ (d q : Nat), q + d = e → p ≤ q → Al fun n => p_ref3_parts_L2 n x p i a b c q = some r := by
    intro d
    induction d with
    | zero => intro q hq _; obtain rfl : q = e := by omega
              exact hend
    | succ d ih =>
      intro q hq hpq
      have hl : q < x.size := by omega
      obtain ⟨hl2, hne⟩ := pre_get (l := x.data.toList.drop p) (j := q - p) (by omega)
      rw [List.getElem_drop] at hne
      have hne2 : x[q]'hl ≠ 46 := by
        rw [get_list hl]
        have : p + (q - p) = q := by omega
        simp only [this] at hne; exact hne
      refine Al.succ ((ih (q + 1) (by omega) (by omega)).mono fun n hn => ?_)
      rw [p_ref3_parts_L2, decide_eq_true (show (q : Int) < szI x by unfold szI; omega), cond_true, rdS_nat hl, Option.bind_some]
      have : ((((x[q]'hl).toNat : Int) != 46)) = true := by
        rw [bne_iff_ne]; intro h; exact hne2 (UInt8.toNat_inj.1 (by have : (46 : UInt8).toNat = 46 := rfl; omega))
      rw [this, Bool.true_and, cond_true, w64_add (by omega)]
      exact hn
  refine Al.succ ((hscan _ p he (Nat.le_refl _)).mono fun n hn => ?_)
  rw [p_ref3_parts_L1, decide_eq_true (show (i : Int) < 3 by omega), cond_true]
  exact hn
theorem drop_next (x : ByteArray) (p : Nat) (h : rst (x.data.toList.drop p) ≠ []) : p + (pre (x.data.toList.drop p)).length + 1 ≤ x.size ∧ x.data.toList.drop (p + (pre (x.data.toList.drop p)).length + 1) = (rst (x.data.toList.drop p)).tail := by
  have h1 := mt (rst_nil_iff (x.data.toList.drop p)).2 h
  have h2 := pre_len (x.data.toList.drop p)
  have h3 : (x.data.toList.drop p).length = x.size - p := by rw [List.length_drop, ← size_list]
  refine ⟨by omega, ?_⟩
  rw [rst_eq, List.drop_drop, List.tail_drop]
theorem ref_parts (x : ByteArray) (hx : x.size < 4611686018427387904) : Al fun n => p_ref3_parts n x = some (parts3 x.data.toList) := by
  unfold p_ref3_parts
  have e0 : x.data.toList.drop 0 = x.data.toList := List.drop_zero
  refine ref_parts_step x hx 0 (by omega) 0 (by omega) 0 0 0 _ (fun h => ?_) (fun h => ?_)
  · rw [e0] at h
    unfold parts3
    by_cases c1 : rst x.data.toList = []
    · rw [if_pos c1]
    · have : badn (pn (pre x.data.toList)) = true := by simpa [c1] using h
      rw [if_neg c1, this]
      simp
  · rw [e0] at h
    have c1 : rst x.data.toList ≠ [] := by intro e; simp [e] at h
    have b1 : badn (pn (pre x.data.toList)) = false := by simpa [c1] using h
    obtain ⟨s1, d1⟩ := drop_next x 0 (by rw [e0]; exact c1)
    rw [e0] at s1 d1
    simp only [e0]
    refine ref_parts_step x hx 1 (by omega) _ s1 _ _ _ _ (fun h => ?_) (fun h => ?_)
    · rw [d1] at h
      unfold parts3
      by_cases c2 : rst (rst x.data.toList).tail = []
      · rw [if_neg c1, if_pos c2]
      · have : badn (pn (pre (rst x.data.toList).tail)) = true := by simpa [c2] using h
        rw [if_neg c1, if_neg c2, this]
        simp
    · rw [d1] at h
      have c2 : rst (rst x.data.toList).tail ≠ [] := by intro e; simp [e] at h
      have b2 : badn (pn (pre (rst x.data.toList).tail)) = false := by simpa [c2] using h
      obtain ⟨s2, d2⟩ := drop_next x _ (by rw [d1]; exact c2)
      rw [d1] at s2 d2
      simp only [d1]
      refine ref_parts_step x hx 2 (by omega) _ s2 _ _ _ _ (fun h => ?_) (fun h => ?_)
      · rw [d2] at h
        unfold parts3
        rw [if_neg c1, if_neg c2]
        by_cases c3 : rst (rst (rst x.data.toList).tail).tail ≠ []
        · rw [if_pos c3]
        · have : badn (pn (pre (rst (rst x.data.toList).tail).tail)) = true := by
            have c3 : rst (rst (rst x.data.toList).tail).tail = [] := Decidable.not_not.1 c3
            simpa [c3] using h
          rw [if_neg c3, this]
          simp
      · rw [d2] at h
        have c3 : ¬ rst (rst (rst x.data.toList).tail).tail ≠ [] := by intro e; simp [e] at h
        have b3 : badn (pn (pre (rst (rst x.data.toList).tail).tail)) = false := by
          have c3 : rst (rst (rst x.data.toList).tail).tail = [] := Decidable.not_not.1 c3
          simpa [c3] using h
        have key : parts3 x.data.toList = (((pn (pre x.data.toList)).1, (pn (pre (rst x.data.toList).tail)).1, (pn (pre (rst (rst x.data.toList).tail).tail)).1), true) := by
          unfold parts3
          rw [if_neg c1, if_neg c2, if_neg c3, b1, b2, b3]
          rfl
        rw [key, d2]
        exact ref_parts_end x _ _ _ _
/-! the program -/
theorem index_pre : ∀ l : List UInt8, Lib.index l [46] = if rst l = [] then -1 else ((pre l).length : Int)
  | [] => by simp [Lib.index, rst]
  | b :: l => by
    have ih := index_pre l
    by_cases h : b = 46
    · subst h
      have e1 : rst (46 :: l) = 46 :: l := by simp [rst]
      have e2 : pre (46 :: l) = [] := by simp [pre]
      rw [e1, e2, if_neg (by simp)]
      simp [Lib.index, List.isPrefixOf]
    · have e1 : rst (b :: l) = rst l := by simp [rst, h]
      have e2 : pre (b :: l) = b :: pre l := by simp [pre, h]
      have hp : ([46] : List UInt8).isPrefixOf (b :: l) = false := by simp [List.isPrefixOf, Ne.symm h]
      rw [e1, e2, Lib.index, hp, ih]
      by_cases c : rst l = []
      · rw [if_pos c, if_pos c]; simp
      · rw [if_neg c, if_neg c]
        have : ((((pre l).length : Nat) : Int) == -1) = false := by rw [beq_eq_false_iff_ne]; omega
        simp [this]
theorem splitK_cons {l : List UInt8} (k : Nat) (h : rst l ≠ []) : Lib.splitK [46] 0 (k + 1) l = pre l :: Lib.splitK [46] 0 k (rst l).tail := by
  rw [Lib.splitK, index_pre, if_neg h]
  have : ((((pre l).length : Nat) : Int) == -1) = false := by rw [beq_eq_false_iff_ne]; omega
  rw [this, if_neg (by decide)]
  rw [Int.toNat_natCast, Nat.add_zero, ← pre_take, rst_eq, List.tail_drop]
  rfl
theorem splitK_nil {l : List UInt8} (k : Nat) (h : rst l = []) : Lib.splitK [46] 0 k l = [l] := by
  cases k with
  | zero => rfl
  | succ k => rw [Lib.splitK, index_pre, if_pos h]; rfl
theorem count_rst : ∀ l : List UInt8, l.count 46 = if rst l = [] then 0 else (rst l).tail.count 46 + 1
  | [] => by simp [rst]
  | b :: l => by
    by_cases h : b = 46
    · subst h
      have e1 : rst (46 :: l) = 46 :: l := by simp [rst]
      rw [e1, if_neg (by simp)]
      simp
    · have e1 : rst (b :: l) = rst l := by simp [rst, h]
      rw [e1, List.count_cons_of_ne h, count_rst l]
/-- The pieces of a string, as lists of bytes. -/
theorem split_pieces (x : ByteArray) : (Lib.splitB ⟨#[46]⟩ 0 (Lib.countB x ⟨#[46]⟩) x).map (·.data.toList) = Lib.splitK [46] 0 (x.data.toList.count 46) x.data.toList := by
  rw [Lib.splitB_data]
  have : Lib.countB x ⟨#[46]⟩ = x.data.toList.count 46 := by
    show Lib.count x.data.toList [46] = _
    rw [Lib.count_one]
  rw [this]
theorem value_parts_loop (q0 q1 q2 : ByteArray) (h0 : q0.size ≤ 281474976710656) (h1 : q1.size ≤ 281474976710656) (h2 : q2.size ≤ 281474976710656) :
    Al fun n => p_value_parts_L1 n [q0, q1, q2] 0 0 0 0 = some (if badn (pn q0.data.toList) || badn (pn q1.data.toList) || badn (pn q2.data.toList) then ((0, 0, 0), false)
      else (((pn q0.data.toList).1, (pn q1.data.toList).1, (pn q2.data.toList).1), true)) := by
  have t0 := text_num q0 h0
  have t1 := text_num q1 h1
  have t2 := text_num q2 h2
  have w0 : w64 (0 + 1) = 1 := w64_of (by decide) (by decide)
  have w1 : w64 (1 + 1) = 2 := w64_of (by decide) (by decide)
  have w2 : w64 (2 + 1) = 3 := w64_of (by decide) (by decide)
  have l3 : lI [q0, q1, q2] = 3 := rfl
  have i0 : inO 3 0 = some () := rfl
  have i1 : inO 3 1 = some () := rfl
  have i2 : inO 3 2 = some () := rfl
  have r0 : rdO [q0, q1, q2] 0 = some q0 := rfl
  have r1 : rdO [q0, q1, q2] 1 = some q1 := rfl
  have r2 : rdO [q0, q1, q2] 2 = some q2 := rfl
  refine Al.succ (Al.succ (Al.succ (Al.succ (((t0.shift.shift.shift).and ((t1.shift.shift).and t2.shift)).mono fun n ⟨a0, a1, a2⟩ => ?_))))
  rw [p_value_parts_L1, l3, decide_eq_true (by decide), cond_true, r0, Option.bind_some, a0, Option.bind_some]
  show (bif badn (pn q0.data.toList) then _ else _) = _
  cases badn (pn q0.data.toList) with
  | true => rfl
  | false =>
    rw [cond_false, i0, Option.bind_some, w0]
    rw [p_value_parts_L1, l3, decide_eq_true (by decide), cond_true, r1, Option.bind_some, a1, Option.bind_some]
    show (bif badn (pn q1.data.toList) then _ else _) = _
    cases badn (pn q1.data.toList) with
    | true => rfl
    | false =>
      rw [cond_false, i1, Option.bind_some, w1]
      rw [p_value_parts_L1, l3, decide_eq_true (by decide), cond_true, r2, Option.bind_some, a2, Option.bind_some]
      show (bif badn (pn q2.data.toList) then _ else _) = _
      cases badn (pn q2.data.toList) with
      | true => rfl
      | false =>
        rw [cond_false, i2, Option.bind_some, w2]
        rw [p_value_parts_L1, l3, decide_eq_false (by decide), cond_false]
        rfl
theorem value_parts (x : ByteArray) (hx : x.size < 4294967281) : Al fun n => p_value_parts n x = some (parts3 x.data.toList) := by
  have hsp : ∀ n, p_strings_Split n x (⟨#[46]⟩ : ByteArray) = some (Lib.splitB ⟨#[46]⟩ 0 (Lib.countB x ⟨#[46]⟩) x) := by
    intro n
    unfold p_strings_Split
    rw [decide_eq_true hx]; rfl
  have hP := split_pieces x
  generalize Lib.splitB ⟨#[46]⟩ 0 (Lib.countB x ⟨#[46]⟩) x = P at hsp hP
  have hcnt := count_rst x.data.toList
  have fail : P.length ≠ 3 → parts3 x.data.toList = ((0, 0, 0), false) → Al fun n => p_value_parts n x = some (parts3 x.data.toList) := by
    intro h1 h2
    refine .of fun n => ?_
    unfold p_value_parts
    rw [hsp, Option.bind_some]
    have : (lI P != 3) = true := by rw [bne_iff_ne]; unfold lI; omega
    rw [this, cond_true, h2]
  have hlen := congrArg List.length hP
  rw [List.length_map] at hlen
  by_cases c1 : rst x.data.toList = []
  · rw [splitK_nil _ c1] at hlen
    exact fail (by rw [hlen]; simp) (by unfold parts3; rw [if_pos c1])
  · rw [if_neg c1] at hcnt
    have hcnt2 := count_rst (rst x.data.toList).tail
    rw [hcnt, splitK_cons _ c1] at hP hlen
    by_cases c2 : rst (rst x.data.toList).tail = []
    · rw [splitK_nil _ c2] at hlen
      exact fail (by rw [hlen]; simp) (by unfold parts3; rw [if_neg c1, if_pos c2])
    · rw [if_neg c2] at hcnt2
      rw [hcnt2, splitK_cons _ c2] at hP hlen
      have hcnt3 := count_rst (rst (rst x.data.toList).tail).tail
      by_cases c3 : rst (rst (rst x.data.toList).tail).tail ≠ []
      · rw [if_neg c3] at hcnt3
        rw [hcnt3, splitK_cons _ c3] at hlen
        have : 1 ≤ (Lib.splitK [46] 0 ((rst (rst (rst x.data.toList).tail).tail).tail.count 46) (rst (rst (rst x.data.toList).tail).tail).tail).length := by
          cases (rst (rst (rst x.data.toList).tail).tail).tail.count 46 with
          | zero => simp [Lib.splitK]
          | succ k => rw [Lib.splitK]; split <;> simp
        exact fail (by rw [hlen]; simp only [List.length_cons]; omega) (by unfold parts3; rw [if_neg c1, if_neg c2, if_pos c3])
      · have c3' := Decidable.not_not.1 c3
        rw [splitK_nil _ c3'] at hP
        have hp3 : pre (rst (rst x.data.toList).tail).tail = (rst (rst x.data.toList).tail).tail := by
          have := pre_rst (rst (rst x.data.toList).tail).tail
          rw [c3', List.append_nil] at this; exact this
        rw [splitK_nil _ c3'] at hlen
        match P, hlen, hP with
        | [q0, q1, q2], _, hP =>
          simp only [List.map_cons, List.map_nil, List.cons.injEq, and_true] at hP
          obtain ⟨g0, g1, g2⟩ := hP
          have hb : ∀ (q : ByteArray) (l : List UInt8), q.data.toList = l → l.length ≤ x.size → q.size ≤ 281474976710656 := by
            intro q l e hl; rw [size_list, e]; omega
          have ht : ∀ l : List UInt8, (rst l).tail.length ≤ l.length := by
            intro l; rw [rst_eq, List.tail_drop, List.length_drop]; omega
          have hx' := size_list x
          have t1 := ht x.data.toList
          have t2 := ht (rst x.data.toList).tail
          have l0 := pre_len x.data.toList
          have l1 := pre_len (rst x.data.toList).tail
          have := value_parts_loop q0 q1 q2 (hb _ _ g0 (by omega)) (hb _ _ g1 (by omega)) (hb _ _ g2 (by omega))
          refine this.mono fun n hn => ?_
          unfold p_value_parts
          rw [hsp, Option.bind_some]
          have : (lI [q0, q1, q2] != 3) = false := rfl
          rw [this, cond_false, hn, g0, g1, g2]
          unfold parts3
          rw [if_neg c1, if_neg c2, if_neg c3, hp3]
end Go.Proofs.YtjhbobacbaikoaaGreatDoor
/- Values: the program's Check and the reference's Check are alike. -/
namespace Go.Proofs.YtjhbobacbaikoaaGreatDoor
open Go
set_option linter.unusedVariables false
set_option linter.unusedSimpArgs false
/-- Two loops that are looked at from a place on. -/
theorem loop2f {β : Type} (lo : Nat) (L M : Nat → Int → Option β) (len : Nat)
    (step : ∀ i : Nat, lo ≤ i → i < len → (∃ v, Al fun n => L (n + 1) i = some v ∧ M (n + 1) i = some v) ∨ Al fun n => L (n + 1) i = L n ((i + 1 : Nat) : Int) ∧ M (n + 1) i = M n ((i + 1 : Nat) : Int))
    (fin : ∃ v, Al fun n => L (n + 1) len = some v ∧ M (n + 1) len = some v) : ∀ i : Nat, lo ≤ i → i ≤ len → ∃ v, Al fun n => L n i = some v ∧ M n i = some v := by
  intro i hlo hi
  obtain ⟨k, hk⟩ : ∃ k, i + k = len := ⟨len - i, by omega⟩
  induction k generalizing i with
  | zero =>
    obtain rfl : i = len := by omega
    obtain ⟨v, h⟩ := fin
    exact ⟨v, h.succ⟩
  | succ k ih =>
    rcases step i hlo (by omega) with ⟨v, h⟩ | h
    · exact ⟨v, h.succ⟩
    · obtain ⟨v, h2⟩ := ih (i + 1) (by omega) (by omega) (by omega)
      exact ⟨v, Al.succ ((h.and h2).mono fun n ⟨⟨a, b⟩, c, d⟩ => ⟨a.trans c, b.trans d⟩)⟩
/-! the order of strings -/
theorem less_irrefl : ∀ a : List UInt8, Op.bytesLess a a = false
  | [] => rfl
  | a :: x => by
    simp only [Op.bytesLess, less_irrefl x, Bool.and_false, Bool.or_false]
    exact decide_eq_false (UInt8.lt_irrefl a)
theorem less_total : ∀ a b : List UInt8, (!Op.bytesLess a b) = (Op.bytesLess b a || b == a)
  | [], [] => rfl
  | [], _ :: _ => by simp [Op.bytesLess]
  | _ :: _, [] => by simp [Op.bytesLess]
  | a :: x, b :: y => by
    have ih := less_total x y
    simp only [Op.bytesLess]
    by_cases h : a = b
    · subst h
      have h1 : decide (a < a) = false := decide_eq_false (UInt8.lt_irrefl a)
      rw [h1]
      simp only [beq_self_eq_true, Bool.true_and, Bool.false_or, ih]
      have h2 : (a :: y == a :: x) = (y == x) := by simp
      rw [h2]
    · have e1 : (a == b) = false := by simpa using h
      have e2 : (b == a) = false := by simpa using fun e => h e.symm
      have e3 : (b :: y == a :: x) = false := by simp [e2]
      rw [e1, e2, e3]
      simp only [Bool.false_and, Bool.or_false]
      rcases Nat.lt_trichotomy a.toNat b.toNat with hl | he | hl
      · have h1 : a < b := UInt8.lt_iff_toNat_lt.2 hl
        have h2 : ¬ b < a := fun h => by have := UInt8.lt_iff_toNat_lt.1 h; omega
        simp [h1, h2]
      · exact absurd (UInt8.toNat_inj.1 he) h
      · have h1 : ¬ a < b := fun h => by have := UInt8.lt_iff_toNat_lt.1 h; omega
        have h2 : b < a := UInt8.lt_iff_toNat_lt.2 hl
        simp [h1, h2]
theorem slt_sle (a b : ByteArray) : (!slt' a b) = sle' b a := by
  unfold slt' sle'
  exact less_total _ _
/-- Sizes of what is in a value. -/
def TValue.sm (x : TValue) : Prop := x.gText.size < 4294967281 ∧ x.gList.length < 4294967281 ∧ ∀ s ∈ x.gList, s.size < 4294967281
theorem shape_eq (n : Nat) (x : TValue) (h : 1 ≤ x.gKind ∧ x.gKind ≤ 5) : p_value_shape n x = p_ref3_shape n x := by
  have hk : x.gKind = 1 ∨ x.gKind = 2 ∨ x.gKind = 3 ∨ x.gKind = 4 ∨ x.gKind = 5 := by omega
  unfold p_value_shape p_value_shape_K1 p_value_shape_K2 p_ref3_shape
  rcases hk with hk | hk | hk | hk | hk <;> rw [hk] <;> simp
theorem vlist_order (x : TValue) (hl : x.gList.length < 4294967281) : ∃ v, Al fun n => p_value_Check_L2 n x 0 = some v ∧ p_ref3_list_L2 n x.gList 1 = some v := by
  have key : x.gList.length ≥ 1 → ∃ v, Al fun n => p_value_Check_L2 n x 1 = some v ∧ p_ref3_list_L2 n x.gList 1 = some v := by
    intro h1
    refine loop2f 1 (fun n i => p_value_Check_L2 n x i) (fun n i => p_ref3_list_L2 n x.gList i) x.gList.length (fun i h0 hi => ?_) ⟨0, .of fun n => ?_⟩ 1 (Nat.le_refl _) h1
    · have hd : decide ((i : Int) < lI x.gList) = true := decide_eq_true (by unfold lI; omega)
      have hp : decide ((i : Int) > 0) = true := decide_eq_true (by omega)
      cases hs : sle' x.gList[i] x.gList[i - 1] with
      | true =>
        refine .inl ⟨9, .of fun n => ?_⟩
        rw [p_value_Check_L2, p_ref3_list_L2, hd, hp]
        simp only [cond_true, rdO_nat hi, rdO_pred h0 hi (by omega), Option.bind_some, Bool.true_and, slt_sle, hs, and_self]
      | false =>
        refine .inr (.of fun n => ?_)
        rw [p_value_Check_L2, p_ref3_list_L2, hd, hp]
        simp only [cond_true, rdO_nat hi, rdO_pred h0 hi (by omega), Option.bind_some, Bool.true_and, slt_sle, hs, cond_false, w64_add (show i + 1 < 9223372036854775808 by omega), and_self]
    · have hd : decide (((x.gList.length : Nat) : Int) < lI x.gList) = false := decide_eq_false (by unfold lI; omega)
      rw [p_value_Check_L2, p_ref3_list_L2, hd]
      exact ⟨rfl, rfl⟩
  by_cases h1 : x.gList.length ≥ 1
  · obtain ⟨v, h⟩ := key h1
    refine ⟨v, Al.succ ((h.and h.shift).mono fun n ⟨⟨a, _⟩, _, b⟩ => ⟨?_, b⟩)⟩
    rw [p_value_Check_L2]
    have hd : decide ((0 : Int) < lI x.gList) = true := decide_eq_true (by unfold lI; omega)
    have hp : decide ((0 : Int) > 0) = false := rfl
    rw [hd, hp]
    simp only [cond_true, cond_false, Option.bind_some, Bool.false_and]
    exact a
  · refine ⟨0, Al.succ (.of fun n => ?_)⟩
    have hd : decide ((0 : Int) < lI x.gList) = false := decide_eq_false (by unfold lI; omega)
    have hd1 : decide ((1 : Int) < lI x.gList) = false := decide_eq_false (by unfold lI; omega)
    rw [p_value_Check_L2, p_ref3_list_L2, hd, hd1]
    exact ⟨rfl, rfl⟩
theorem vlist_bi (x : TValue) (hl : x.gList.length < 4294967281) : ∃ v, Al fun n => p_value_Check_L1 n x 0 = some v ∧ p_ref3_list_L1 n x.gList 0 = some v := by
  obtain ⟨v, hv⟩ := vlist_order x hl
  refine loop2 (fun n i => p_value_Check_L1 n x i) (fun n i => p_ref3_list_L1 n x.gList i) x.gList.length (fun i hi => ?_) ⟨v, hv.mono fun n ⟨a, b⟩ => ?_⟩ 0 (by omega)
  · have hd : decide ((i : Int) < lI x.gList) = true := decide_eq_true (by unfold lI; omega)
    obtain ⟨b, hb⟩ := valid_bi x.gList[i]
    cases b with
    | true =>
      refine .inr (hb.mono fun n ⟨a, b⟩ => ?_)
      rw [p_value_Check_L1, p_ref3_list_L1, hd]
      simp only [cond_true, rdO_nat hi, Option.bind_some, a, b, Bool.not_true, cond_false, w64_add (show i + 1 < 9223372036854775808 by omega), and_self]
    | false =>
      refine .inl ⟨2, hb.mono fun n ⟨a, b⟩ => ?_⟩
      rw [p_value_Check_L1, p_ref3_list_L1, hd]
      simp only [cond_true, rdO_nat hi, Option.bind_some, a, b, Bool.not_false, and_self]
  · have hd : decide (((x.gList.length : Nat) : Int) < lI x.gList) = false := decide_eq_false (by unfold lI; omega)
    rw [p_value_Check_L1, p_ref3_list_L1, hd]
    exact ⟨a, b⟩
/-- Check of both. -/
theorem check_bi (x : TValue) (hx : x.sm) : ∃ v, Al fun n => p_value_Check n x = some v ∧ p_ref3_Check n x = some v := by
  obtain ⟨b1, h1⟩ := valid_bi x.gText
  have h2 := (value_parts x.gText hx.1).and (ref_parts x.gText (by have := hx.1; omega))
  obtain ⟨v3, h3⟩ := vlist_bi x hx.2.1
  have h := h1.and (h2.and h3)
  by_cases hk : 1 ≤ x.gKind ∧ x.gKind ≤ 5
  · have e0 : (decide (x.gKind < 1) || decide (x.gKind > 5)) = false := by simp; omega
    have hs : ∀ n, p_ref3_shape n x = some (((((x.gKind == 1) || (x.gKind == 2)) || (x.gNumber == 0)) && (((x.gKind == 3) || (x.gKind == 4)) || (seq' x.gText ByteArray.empty))) && ((x.gKind == 5) || ((lI x.gList) == 0))) := fun n => rfl
    generalize (((((x.gKind == 1) || (x.gKind == 2)) || (x.gNumber == 0)) && (((x.gKind == 3) || (x.gKind == 4)) || (seq' x.gText ByteArray.empty))) && ((x.gKind == 5) || ((lI x.gList) == 0))) = sb at hs
    have hk2 : x.gKind = 1 ∨ x.gKind = 2 ∨ x.gKind = 3 ∨ x.gKind = 4 ∨ x.gKind = 5 := by omega
    cases sb with
    | false =>
      refine ⟨15, .of fun n => ?_⟩
      unfold p_value_Check p_ref3_Check
      rw [shape_eq n x hk, hs, e0]
      exact ⟨rfl, rfl⟩
    | true =>
      have go : ∀ v, (Al fun n => p_value_Check n x = some v ∧ p_ref3_Check n x = some v) → ∃ v, Al fun n => p_value_Check n x = some v ∧ p_ref3_Check n x = some v := fun v h => ⟨v, h⟩
      rcases hk2 with hk2 | hk2 | hk2 | hk2 | hk2
      · refine ⟨if (x.gNumber != 0 && x.gNumber != 1) = true then 3 else 0, .of fun n => ?_⟩
        unfold p_value_Check p_ref3_Check p_value_Check_K1 p_ref3_Check_K1
        rw [shape_eq n x hk, hs, e0, hk2]
        cases (x.gNumber != 0 && x.gNumber != 1) <;> simp
      · refine ⟨if (decide (x.gNumber < -1099511627776) || decide (x.gNumber > 1099511627776)) = true then 3 else 0, .of fun n => ?_⟩
        unfold p_value_Check p_ref3_Check p_value_Check_K1 p_ref3_Check_K1
        rw [shape_eq n x hk, hs, e0, hk2]
        cases (decide (x.gNumber < -1099511627776) || decide (x.gNumber > 1099511627776)) <;> simp
      · refine ⟨if b1 = true then 0 else 2, h1.mono fun n ⟨a, b⟩ => ?_⟩
        unfold p_value_Check p_ref3_Check p_value_Check_K1 p_ref3_Check_K1
        rw [shape_eq n x hk, hs, e0, hk2, a, b]
        cases b1 <;> simp
      · refine ⟨if (parts3 x.gText.data.toList).2 = true then 0 else 1, h2.mono fun n ⟨a, b⟩ => ?_⟩
        unfold p_value_Check p_ref3_Check p_value_Check_K1 p_ref3_Check_K1
        rw [shape_eq n x hk, hs, e0, hk2, a, b]
        generalize parts3 x.gText.data.toList = q
        obtain ⟨q1, q2⟩ := q
        cases q2 <;> simp
      · refine ⟨if decide (lI x.gList > 20) = true then 5 else v3, h3.mono fun n ⟨a, b⟩ => ?_⟩
        unfold p_value_Check p_ref3_Check p_value_Check_K1 p_ref3_Check_K1 p_ref3_list
        rw [shape_eq n x hk, hs, e0, hk2, a, b]
        cases decide (lI x.gList > 20) <;> simp
  · have e0 : (decide (x.gKind < 1) || decide (x.gKind > 5)) = true := by simp; omega
    refine ⟨7, .of fun n => ?_⟩
    unfold p_value_Check p_ref3_Check
    rw [e0]
    exact ⟨rfl, rfl⟩
end Go.Proofs.YtjhbobacbaikoaaGreatDoor
/- Functions of the program as pure functions, and that the program computes these. -/
namespace Go.Proofs.YtjhbobacbaikoaaGreatDoor
open Go
set_option linter.unusedVariables false
set_option linter.unusedSimpArgs false
set_option maxRecDepth 100000
def p_ref6_targets_L1 (n : Nat) (x0 : List TTarget) (x1 : Int) (v25 : Int) : Option Int := match n with
| 0 => none
| n + 1 =>
(bif decide (v25 < (lI x0)) then
(rdO x0 v25).bind fun v27 =>
(p_ref1_Key n v27.gKind).bind fun v28 =>
(bif !v28 then
 some (6)
 else
(rdO x0 v25).bind fun v30 =>
(bif !(decide (v30.gVariation < 1)) then rdO x0 v25 else some ({ gKind := ByteArray.empty, gVariation := 0, gKeys := [] } : TTarget)).bind fun v31 =>
(bif !((decide (v30.gVariation < 1)) || (decide (v31.gVariation > x1))) then rdO x0 v25 else some ({ gKind := ByteArray.empty, gVariation := 0, gKeys := [] } : TTarget)).bind fun v32 =>
(bif ((decide (v30.gVariation < 1)) || (decide (v31.gVariation > x1))) || ((lI v32.gKeys) == 0) then
 some (3)
 else
(rdO x0 v25).bind fun v34 =>
(p_ref6_members n v34.gKeys).bind fun v35 =>
(bif v35 != 0 then
 some (v35)
 else
 p_ref6_targets_L1 n x0 x1 (w64 (v25 + 1)))))
 else
 some (0))
def p_ref6_targets (n : Nat) (x0 : List TTarget) (x1 : Int) : Option Int :=
(bif decide ((lI x0) > 8) then
 some (5)
 else
 p_ref6_targets_L1 n x0 x1 0)
def p_ref6_IsTest (n : Nat) (x0 : Int) : Option Bool :=
 some ((decide (x0 ≥ 6)) && (decide (x0 ≤ 15)))
def p_ref6_counts_K1 (n : Nat) (x0 : TExpr) (v6 : Bool) (v7 : Bool) : Option Bool :=
(p_ref6_IsTest n x0.gOp).bind fun v8 =>
 some (((v6 && v7) && (v8 || (seq' x0.gKind ByteArray.empty))) && ((v8 || (x0.gOp == 5)) || (seq' x0.gName ByteArray.empty)))
def p_ref6_counts (n : Nat) (x0 : TExpr) : Option Bool :=
(bif (x0.gOp == 2) || (x0.gOp == 3) then
 p_ref6_counts_K1 n x0 (decide ((lI x0.gKids) ≥ 2)) ((lI x0.gValues) == 0)
 else
(bif x0.gOp == 4 then
 p_ref6_counts_K1 n x0 ((lI x0.gKids) == 1) ((lI x0.gValues) == 0)
 else
(bif x0.gOp == 8 then
 p_ref6_counts_K1 n x0 ((lI x0.gKids) == 0) (decide ((lI x0.gValues) > 0))
 else
(p_ref6_IsTest n x0.gOp).bind fun v12 =>
(bif v12 && (x0.gOp != 6) then
 p_ref6_counts_K1 n x0 ((lI x0.gKids) == 0) ((lI x0.gValues) == 1)
 else
 p_ref6_counts_K1 n x0 ((lI x0.gKids) == 0) ((lI x0.gValues) == 0)))))
def p_ref6_part_L2 (n : Nat) (x0 : TExpr) (v30 : Int) : Option Int := match n with
| 0 => none
| n + 1 =>
(bif decide (v30 < (lI x0.gValues)) then
(rdO x0.gValues v30).bind fun v32 =>
(p_ref3_Check n v32).bind fun v33 =>
(bif v33 != 0 then
 some (v33)
 else
 p_ref6_part_L2 n x0 (w64 (v30 + 1)))
 else
(bif ((x0.gOp == 9) || (x0.gOp == 10)) || (x0.gOp == 11) then rdO x0.gValues 0 else some ({ gKind := 0, gNumber := 0, gText := ByteArray.empty, gList := [] } : TValue)).bind fun v35 =>
(bif (((x0.gOp == 9) || (x0.gOp == 10)) || (x0.gOp == 11)) && (v35.gKind != 3) then
 some (8)
 else
 some (0)))
def p_ref6_part_L1 (n : Nat) (x0 : TExpr) (v12 : Int) : Option Int := match n with
| 0 => none
| n + 1 =>
(bif decide (v12 < (lI x0.gKids)) then
(rdO x0.gKids v12).bind fun v14 =>
(bif (v14.gOp == x0.gOp) && (x0.gOp != 4) then
 some (15)
 else
 p_ref6_part_L1 n x0 (w64 (v12 + 1)))
 else
(p_ref6_IsTest n x0.gOp).bind fun v16 =>
(bif v16 then p_ref1_Key n x0.gKind else some (false)).bind fun v17 =>
(bif !(v16 && (!v17)) then p_ref6_IsTest n x0.gOp else some (false)).bind fun v18 =>
(bif (!(v16 && (!v17))) && (v18 || (x0.gOp == 5)) then p_ref1_Key n x0.gName else some (false)).bind fun v19 =>
(bif (v16 && (!v17)) || ((v18 || (x0.gOp == 5)) && (!v19)) then
 some (6)
 else
 p_ref6_part_L2 n x0 0))
def p_ref6_part (n : Nat) (x0 : TExpr) : Option Int :=
(bif (decide (x0.gOp < 1)) || (decide (x0.gOp > 15)) then
 some (7)
 else
(p_ref6_counts n x0).bind fun v2 =>
(bif !v2 then
 some (15)
 else
(bif (decide ((lI x0.gKids) > 12)) || (decide ((lI x0.gValues) > 20)) then
 some (5)
 else
 p_ref6_part_L1 n x0 0)))
def p_ref6_walk_L1 (n : Nat) (self_p_ref6_walk : TExpr → Int → Int → Option (Int × Int)) (x0 : TExpr) (x1 : Int) (v15 : Int) (v16 : Int) : Option (Int × Int) := match n with
| 0 => none
| n + 1 =>
(bif decide (v15 < (lI x0.gKids)) then
(rdO x0.gKids v15).bind fun v18 =>
(self_p_ref6_walk v18 (w64 (x1 + 1)) v16).bind fun v19 =>
(bif v19.1 != 0 then
 some (v19.1, v19.2)
 else
 p_ref6_walk_L1 n self_p_ref6_walk x0 x1 (w64 (v15 + 1)) v19.2)
 else
 some (0, v16))
def p_ref6_walk_F (self_p_ref6_walk : TExpr → Int → Int → Option (Int × Int)) (n : Nat) (x0 : TExpr) (x1 : Int) (x2 : Int) : Option (Int × Int) :=
(bif decide (x2 ≥ 60) then
 some (5, x2)
 else
(bif decide (x1 > 10) then
 some (18, w64 (x2 + 1))
 else
(p_ref6_part n x0).bind fun v3 =>
(bif v3 != 0 then
 some (v3, w64 (x2 + 1))
 else
 p_ref6_walk_L1 n self_p_ref6_walk x0 x1 0 (w64 (x2 + 1)))))
def p_ref6_walk (n : Nat) (x0 : TExpr) (x1 : Int) (x2 : Int) : Option (Int × Int) := match n with
| 0 => none
| n + 1 => p_ref6_walk_F (p_ref6_walk n) n x0 x1 x2
def p_ref6_Expr (n : Nat) (x0 : TExpr) : Option Int :=
(p_ref6_walk n x0 1 0).bind fun v1 =>
 some (v1.1)
mutual
def p_ref6_rules_L2 (n : Nat) (x0 : List TRule) (x1 : Int) (v37 : Int) (v51 : Int) : Option Int := match n with
| 0 => none
| n + 1 =>
(bif decide (v51 < v37) then
(rdO x0 v51).bind fun v53 =>
(rdO x0 v37).bind fun v54 =>
(bif seq' v53.gName v54.gName then
 some (10)
 else
 p_ref6_rules_L2 n x0 x1 v37 (w64 (v51 + 1)))
 else
(rdO x0 v37).bind fun v56 =>
(p_ref6_Expr n v56.gWhen).bind fun v57 =>
(bif v57 != 0 then
 some (v57)
 else
(rdO x0 v37).bind fun v59 =>
(p_ref6_Serve n v59.gServe x1).bind fun v60 =>
(bif v60 != 0 then
 some (v60)
 else
 p_ref6_rules_L1 n x0 x1 (w64 (v37 + 1)))))
def p_ref6_rules_L1 (n : Nat) (x0 : List TRule) (x1 : Int) (v37 : Int) : Option Int := match n with
| 0 => none
| n + 1 =>
(bif decide (v37 < (lI x0)) then
(rdO x0 v37).bind fun v39 =>
(p_ref1_Key n v39.gName).bind fun v40 =>
(bif !v40 then
 some (6)
 else
 p_ref6_rules_L2 n x0 x1 v37 0)
 else
 some (0))
end
def p_ref6_rules (n : Nat) (x0 : List TRule) (x1 : Int) : Option Int :=
(bif decide ((lI x0) > 12) then
 some (5)
 else
 p_ref6_rules_L1 n x0 x1 0)
variable {E : Env}
theorem s_ref6_targets {n : Nat} (hG : GlobT E) {x0 : List TTarget} {x1 : Int} {r : Int} (H : p_ref6_targets n x0 x1 = some r) :
    Sp Tryz.prog E 75 [.ro .unk x0.length (TTarget.cl x0), iA x1] [] (isA (iA r) []) := by
  unfold p_ref6_targets at H
  refine Sp_fn Tryz.func75 rfl (fun hc hs => ?_)
  refine AWP_reg (Rh 1 56 [(0, .ro .unk x0.length (TTarget.cl x0)), (1, iA x1)] (AOps_done (AWP_seq (AWP_reg (Rh 3 56 [(0, .ro .unk x0.length (TTarget.cl x0)), (1, iA x1), (9, bA (decide ((lI x0) > 8)))] (AOps_done (CD H (fun hb1 H => ?_) (fun hb1 H => ?_))))))))
  · refine AWP_reg (Rh 1 56 [(4, iA 5)] (AOps_done ?_))
    exact AWP_ret (FR H)
  · refine AWP_skip ?_
    show AWP _ _ _ _ _ _ _
    refine AWP_seq (AWP_reg (Rh 1 56 [(0, .ro .unk x0.length (TTarget.cl x0)), (1, iA x1), (5, iA 0)] (AOps_done (AWP_block ?_))))
    refine AWP_loopN (α := Int) (fun v25 => fr 56 [(0, .ro .unk x0.length (TTarget.cl x0)), (1, iA x1), (5, iA v25)]) (fun v25 => []) (fun k_ v25 => k_ ≤ n ∧ p_ref6_targets_L1 k_ x0 x1 v25 = some r) (fun n v25 H => ?_) (k := n) 0 ⟨Nat.le_refl _, H⟩ (Norm_fd [0, 1, 5] 0 (by kernel_rfl) rfl rfl trivial (by refine scL_fr ?_; exact ⟨(scl_TTarget_cl _ _), trivial, trivial, trivial⟩))
    show AWP _ _ _ _ _ (fr 56 [(0, .ro .unk x0.length (TTarget.cl x0)), (1, iA x1), (5, iA v25)]) []
    obtain ⟨hb_, H⟩ := H
    replace H : p_ref6_targets_L1 n x0 x1 v25 = some r := H
    cases n with
    | zero => exact not_none (by simpa only [p_ref6_targets_L1] using H)
    | succ n =>
      unfold p_ref6_targets_L1 at H
      refine AWP_seq (AWP_reg (Rh 4 56 [(0, .ro .unk x0.length (TTarget.cl x0)), (1, iA x1), (5, iA v25), (13, bA (decide (v25 < (lI x0))))] (AOps_done (CD H (fun hb26 H => ?_) (fun hb26 H => ?_)))))
      · refine AWP_skip ?_
        show AWP _ _ _ _ _ _ _
        refine AWP_seq (AWP_block ?_)
        refine AWP_seq (AWP_reg (Rh 2 56 [(0, .ro .unk x0.length (TTarget.cl x0)), (1, iA x1), (5, iA v25), (16, .ro .unk x0.length (TTarget.cl x0)), (17, iA v25)] ?_))
        obtain ⟨v27, hv27, H⟩ := bind_some H
        refine AOps_index (d := (some 18)) (sz := 3) (c := TTarget.cs) (by kernel_rfl) rfl (eq_TTarget_cl _) (fun _ => rfl) (by decide) hv27 (fun tl27 => ?_)
        refine Rh 2 56 [(0, .ro .unk x0.length (TTarget.cl x0)), (1, iA x1), (5, iA v25), (20, sA v27.gKind)] ?_
        obtain ⟨v28, hv28, H⟩ := bind_some H
        refine AOps_callp (d := (some 21)) (al := [sA v27.gKind]) (r := bA v28) (by kernel_rfl) (s_ref1_Key hv28) ⟨trivial, trivial⟩ trivial ?_
        refine Rh 1 56 [(0, .ro .unk x0.length (TTarget.cl x0)), (1, iA x1), (5, iA v25), (22, bA (!v28))] (AOps_done (CD H (fun hb29 H => ?_) (fun hb29 H => ?_)))
        · refine AWP_reg (Rh 1 56 [(4, iA 6)] (AOps_done ?_))
          exact AWP_ret (FR H)
        · refine AWP_skip ?_
          show AWP _ _ _ _ _ _ _
          refine AWP_seq (AWP_reg (Rh 2 56 [(0, .ro .unk x0.length (TTarget.cl x0)), (1, iA x1), (5, iA v25), (23, .ro .unk x0.length (TTarget.cl x0)), (24, iA v25)] ?_))
          obtain ⟨v30, hv30, H⟩ := bind_some H
          refine AOps_index (d := (some 25)) (sz := 3) (c := TTarget.cs) (by kernel_rfl) rfl (eq_TTarget_cl _) (fun _ => rfl) (by decide) hv30 (fun tl30 => ?_)
          refine Rh 4 56 [(0, .ro .unk x0.length (TTarget.cl x0)), (1, iA x1), (5, iA v25), (29, bA (decide (v30.gVariation < 1)))] ?_
          obtain ⟨v31, hv31, H⟩ := bind_some H
          refine AOps_cut 8 (st' := fr 56 [(0, .ro .unk x0.length (TTarget.cl x0)), (1, iA x1), (5, iA v25), (37, bA ((decide (v30.gVariation < 1)) || (decide (v31.gVariation > x1))))]) (h' := []) ?_ ?_
          rotate_left
          · cases c1 : (decide (v30.gVariation < 1) : Bool) with
            | true =>
              refine R 8 56 [(0, .ro .unk x0.length (TTarget.cl x0)), (1, iA x1), (5, iA v25), (37, bA (true || (decide (v31.gVariation > x1))))] [] ?_
              exact AOps_here [0, 1, 5, 37] (by kernel_rfl) rfl
            | false =>
              refine R 2 56 [(0, .ro .unk x0.length (TTarget.cl x0)), (1, iA x1), (5, iA v25), (29, bA false), (30, .ro .unk x0.length (TTarget.cl x0)), (31, iA v25)] [] ?_
              have hv31_ := cond_t hv31 (by simp only [c1] <;> rfl)
              refine AOps_index (d := (some 32)) (sz := 3) (c := TTarget.cs) (by kernel_rfl) rfl (eq_TTarget_cl _) (fun _ => rfl) (by decide) hv31_ (fun tl31 => ?_)
              refine R 5 56 [(0, .ro .unk x0.length (TTarget.cl x0)), (1, iA x1), (5, iA v25), (37, bA (false || (decide (v31.gVariation > x1))))] [] ?_
              exact AOps_here [0, 1, 5, 37] (by kernel_rfl) rfl
          refine Rh 1 56 [(0, .ro .unk x0.length (TTarget.cl x0)), (1, iA x1), (5, iA v25), (38, bA ((decide (v30.gVariation < 1)) || (decide (v31.gVariation > x1))))] ?_
          obtain ⟨v32, hv32, H⟩ := bind_some H
          refine AOps_cut 8 (st' := fr 56 [(0, .ro .unk x0.length (TTarget.cl x0)), (1, iA x1), (5, iA v25), (46, bA (((decide (v30.gVariation < 1)) || (decide (v31.gVariation > x1))) || ((lI v32.gKeys) == 0)))]) (h' := []) ?_ ?_
          rotate_left
          · cases c1 : ((decide (v30.gVariation < 1)) || (decide (v31.gVariation > x1)) : Bool) with
            | true =>
              refine R 8 56 [(0, .ro .unk x0.length (TTarget.cl x0)), (1, iA x1), (5, iA v25), (46, bA (true || ((lI v32.gKeys) == 0)))] [] ?_
              exact AOps_here [0, 1, 5, 46] (by kernel_rfl) rfl
            | false =>
              refine R 2 56 [(0, .ro .unk x0.length (TTarget.cl x0)), (1, iA x1), (5, iA v25), (38, bA false), (39, .ro .unk x0.length (TTarget.cl x0)), (40, iA v25)] [] ?_
              have hv32_ := cond_t hv32 (by simp only [c1] <;> rfl)
              refine AOps_index (d := (some 41)) (sz := 3) (c := TTarget.cs) (by kernel_rfl) rfl (eq_TTarget_cl _) (fun _ => rfl) (by decide) hv32_ (fun tl32 => ?_)
              refine R 5 56 [(0, .ro .unk x0.length (TTarget.cl x0)), (1, iA x1), (5, iA v25), (46, bA (false || ((lI v32.gKeys) == 0)))] [] ?_
              exact AOps_here [0, 1, 5, 46] (by kernel_rfl) rfl
          refine AOps_done (CD H (fun hb33 H => ?_) (fun hb33 H => ?_))
          · refine AWP_reg (Rh 1 56 [(4, iA 3)] (AOps_done ?_))
            exact AWP_ret (FR H)
          · refine AWP_skip ?_
            show AWP _ _ _ _ _ _ _
            refine AWP_reg (Rh 2 56 [(0, .ro .unk x0.length (TTarget.cl x0)), (1, iA x1), (5, iA v25), (47, .ro .unk x0.length (TTarget.cl x0)), (48, iA v25)] ?_)
            obtain ⟨v34, hv34, H⟩ := bind_some H
            refine AOps_index (d := (some 49)) (sz := 3) (c := TTarget.cs) (by kernel_rfl) rfl (eq_TTarget_cl _) (fun _ => rfl) (by decide) hv34 (fun tl34 => ?_)
            refine Rh 2 56 [(0, .ro .unk x0.length (TTarget.cl x0)), (1, iA x1), (5, iA v25), (51, .ro .unk v34.gKeys.length (cl_str v34.gKeys))] ?_
            obtain ⟨v35, hv35, H⟩ := bind_some H
            refine AOps_callp (d := (some 52)) (al := [.ro .unk v34.gKeys.length (cl_str v34.gKeys)]) (r := iA v35) (by kernel_rfl) (s_ref6_members hG hv35) ⟨(scl_cl_str _ _), trivial⟩ trivial ?_
            refine Rh 1 56 [(0, .ro .unk x0.length (TTarget.cl x0)), (1, iA x1), (5, iA v25), (6, iA v35)] (AOps_done (AWP_reg (Rh 2 56 [(0, .ro .unk x0.length (TTarget.cl x0)), (1, iA x1), (5, iA v25), (6, iA v35), (54, bA (v35 != 0))] (AOps_done (CD H (fun hb36 H => ?_) (fun hb36 H => ?_))))))
            · refine AWP_reg (Rh 2 56 [(4, iA v35)] (AOps_done ?_))
              exact AWP_ret (FR H)
            · refine AWP_skip ?_
              show AWP _ _ _ _ _ _ _
              refine AWP_region ?_
              refine Rh 3 56 [(0, .ro .unk x0.length (TTarget.cl x0)), (1, iA x1), (5, iA (w64 (v25 + 1)))] (AOps_done ?_)
              exact Exists.intro (w64 (v25 + 1)) (Exists.intro n ⟨by omega, ⟨by omega, H⟩, Norm_fd [0, 1, 5] 0 (by kernel_rfl) rfl rfl trivial (by refine scL_fr ?_; exact ⟨(scl_TTarget_cl _ _), trivial, trivial, trivial⟩)⟩)
      · refine AWP_exit ?_
        show AWP _ _ _ _ _ _ _
        refine AWP_reg (Rh 1 56 [(4, iA 0)] (AOps_done ?_))
        exact AWP_ret (FR H)
theorem s_ref6_IsTest {n : Nat} {x0 : Int} {r : Bool} (H : p_ref6_IsTest n x0 = some r) :
    Sp Tryz.prog E 128 [iA x0] [] (isA (bA r) []) := by
  unfold p_ref6_IsTest at H
  refine Sp_fn Tryz.func128 rfl (fun hc hs => ?_)
  refine AWP_reg (Rh 1 9 [(0, iA x0)] (AOps_done (AWP_reg (Rh 3 9 [(0, iA x0), (5, bA (decide (x0 ≥ 6)))] (AOps_run 3 [8] (st' := fr 9 [(8, bA ((decide (x0 ≥ 6)) && (decide (x0 ≤ 15))))]) (h' := []) (by (generalize (decide (x0 ≥ 6)) = t0; cases t0 <;> kernel_rfl)) ?_)))))
  refine Rh 1 9 [(2, bA ((decide (x0 ≥ 6)) && (decide (x0 ≤ 15))))] (AOps_done ?_)
  exact AWP_ret (FR H)
theorem s_ref6_counts {n : Nat} {x0 : TExpr} {r : Bool} (H : p_ref6_counts n x0 = some r) :
    Sp Tryz.prog E 127 [.agg (TExpr.cs x0)] [] (isA (bA r) []) := by
  unfold p_ref6_counts at H
  refine Sp_fn Tryz.func127 rfl (fun hc hs => ?_)
  refine AWP_reg (R 2 84 [(1, .ptr 0 0)] [.cells 25 (TExpr.cs x0)] (AOps_done (AWP_regD1 [0, 1, 2, 3, 4, 5, 6, 7, 8, 9] (N := 84) (f := [(1, .ptr 0 0)]) (leL_of [1] (by kernel_rfl)) mixed (by kernel_rfl) (by kernel_rfl) (st' := fr 84 [(1, .ptr 0 0), (3, bA ((lI x0.gKids) == 0)), (4, bA ((lI x0.gValues) == 0))]) (h' := [.cells 25 (TExpr.cs x0)]) ?_ ?_)))
  rotate_left
  · refine RD 10 84 [(5, 0), (4, 0), (1, 0), (0, 0)] [(1, .ptr 0 0), (3, bA ((lI x0.gKids) == 0)), (4, bA ((lI x0.gValues) == 0)), (6, .ptr 0 4), (7, .ro .unk x0.gKids.length (TExpr.cl x0.gKids)), (8, iA (lI x0.gKids)), (9, bA ((lI x0.gKids) == 0)), (10, .ptr 0 3), (11, .ro .unk x0.gValues.length (TValue.cl x0.gValues)), (12, iA (lI x0.gValues)), (13, bA ((lI x0.gValues) == 0))] ?_
    exact AD_here [1, 3, 4] (by kernel_rfl) rfl
  refine AWP_joinN (α := Bool × Bool) (fun ⟨v6, v7⟩ => fr 84 [(1, .ptr 0 0), (3, bA v6), (4, bA v7)]) (fun ⟨v6, v7⟩ => [.cells 25 (TExpr.cs x0)]) (fun ⟨v6, v7⟩ => ∃ q, q ≤ q ∧ p_ref6_counts_K1 q x0 v6 v7 = some r) (fun a hC => ?_) ?_
  · obtain ⟨v6, v7⟩ := a
    show AWP _ _ _ _ _ (fr 84 [(1, .ptr 0 0), (3, bA v6), (4, bA v7)]) [.cells 25 (TExpr.cs x0)]
    obtain ⟨n, hn_, hC⟩ := hC
    replace H : p_ref6_counts_K1 n x0 v6 v7 = some r := hC
    unfold p_ref6_counts_K1 at H
    refine AWP_reg (Rh 2 84 [(1, .ptr 0 0), (3, bA v6), (4, bA v7), (57, iA x0.gOp)] ?_)
    obtain ⟨v8, hv8, H⟩ := bind_some H
    refine AOps_callp (d := (some 58)) (al := [iA x0.gOp]) (r := bA v8) (by kernel_rfl) (s_ref6_IsTest hv8) ⟨trivial, trivial⟩ trivial ?_
    refine Rh 1 84 [(1, .ptr 0 0), (3, bA v6), (4, bA v7), (5, bA v8)] (AOps_done (AWP_reg (Rh 2 84 [(1, .ptr 0 0), (4, bA v7), (5, bA v8), (60, bA v6)] (AOps_run 2 [1, 5, 62] (st' := fr 84 [(1, .ptr 0 0), (5, bA v8), (62, bA (v6 && v7))]) (h' := [.cells 25 (TExpr.cs x0)]) (by (generalize v6 = t0; cases t0 <;> kernel_rfl)) ?_))))
    refine Rh 1 84 [(1, .ptr 0 0), (5, bA v8), (63, bA (v6 && v7))] (AOps_cut 7 (st' := fr 84 [(1, .ptr 0 0), (5, bA v8), (70, bA ((v6 && v7) && (v8 || (seq' x0.gKind ByteArray.empty))))]) (h' := [.cells 25 (TExpr.cs x0)]) ?_ ?_)
    rotate_left
    · cases c1 : (v6 && v7 : Bool) with
      | true =>
        refine R 2 84 [(1, .ptr 0 0), (5, bA v8), (63, bA true), (65, bA v8)] [.cells 25 (TExpr.cs x0)] ?_
        cases c2 : (v8 : Bool) with
        | true =>
          refine R 5 84 [(1, .ptr 0 0), (5, bA true), (70, bA (true && (true || (seq' x0.gKind ByteArray.empty))))] [.cells 25 (TExpr.cs x0)] ?_
          exact AOps_here [1, 5, 70] (by kernel_rfl) rfl
        | false =>
          refine R 5 84 [(1, .ptr 0 0), (5, bA false), (70, bA (true && (false || (seq' x0.gKind ByteArray.empty))))] [.cells 25 (TExpr.cs x0)] ?_
          exact AOps_here [1, 5, 70] (by kernel_rfl) rfl
      | false =>
        refine R 7 84 [(1, .ptr 0 0), (5, bA v8), (70, bA (false && (v8 || (seq' x0.gKind ByteArray.empty))))] [.cells 25 (TExpr.cs x0)] ?_
        exact AOps_here [1, 5, 70] (by kernel_rfl) rfl
    refine Rh 1 84 [(1, .ptr 0 0), (5, bA v8), (71, bA ((v6 && v7) && (v8 || (seq' x0.gKind ByteArray.empty))))] (AOps_cut 12 (st' := fr 84 [(83, bA (((v6 && v7) && (v8 || (seq' x0.gKind ByteArray.empty))) && ((v8 || (x0.gOp == 5)) || (seq' x0.gName ByteArray.empty))))]) (h' := [.cells 25 (TExpr.cs x0)]) ?_ ?_)
    rotate_left
    · cases c1 : ((v6 && v7) && (v8 || (seq' x0.gKind ByteArray.empty)) : Bool) with
      | true =>
        refine R 2 84 [(1, .ptr 0 0), (71, bA true), (73, bA v8)] [.cells 25 (TExpr.cs x0)] ?_
        cases c2 : (v8 : Bool) with
        | true =>
          refine R 10 84 [(83, bA (true && ((true || (x0.gOp == 5)) || (seq' x0.gName ByteArray.empty))))] [.cells 25 (TExpr.cs x0)] ?_
          exact AOps_here [83] (by kernel_rfl) rfl
        | false =>
          refine R 5 84 [(1, .ptr 0 0), (71, bA true), (78, bA (false || (x0.gOp == 5)))] [.cells 25 (TExpr.cs x0)] ?_
          cases c3 : (x0.gOp == 5 : Bool) with
          | true =>
            refine R 5 84 [(83, bA (true && ((false || true) || (seq' x0.gName ByteArray.empty))))] [.cells 25 (TExpr.cs x0)] ?_
            exact AOps_here [83] (by kernel_rfl) rfl
          | false =>
            refine R 5 84 [(83, bA (true && ((false || false) || (seq' x0.gName ByteArray.empty))))] [.cells 25 (TExpr.cs x0)] ?_
            exact AOps_here [83] (by kernel_rfl) rfl
      | false =>
        refine R 12 84 [(83, bA (false && ((v8 || (x0.gOp == 5)) || (seq' x0.gName ByteArray.empty))))] [.cells 25 (TExpr.cs x0)] ?_
        exact AOps_here [83] (by kernel_rfl) rfl
    refine Rh 1 84 [(2, bA (((v6 && v7) && (v8 || (seq' x0.gKind ByteArray.empty))) && ((v8 || (x0.gOp == 5)) || (seq' x0.gName ByteArray.empty))))] (AOps_done ?_)
    exact AWP_ret (FR H)
  · refine AWP_block ?_
    refine AWP_reg (Rh 4 84 [(1, .ptr 0 0), (3, bA ((lI x0.gKids) == 0)), (4, bA ((lI x0.gValues) == 0)), (18, bA (x0.gOp == 2))] (AOps_run 4 [1, 3, 4, 22] (st' := fr 84 [(1, .ptr 0 0), (3, bA ((lI x0.gKids) == 0)), (4, bA ((lI x0.gValues) == 0)), (22, bA ((x0.gOp == 2) || (x0.gOp == 3)))]) (h' := [.cells 25 (TExpr.cs x0)]) (by (generalize (x0.gOp == 2) = t0; cases t0 <;> kernel_rfl)) ?_))
    refine Rh 1 84 [(1, .ptr 0 0), (3, bA ((lI x0.gKids) == 0)), (4, bA ((lI x0.gValues) == 0)), (14, bA ((x0.gOp == 2) || (x0.gOp == 3)))] (AOps_done (CD H (fun hb9 H => ?_) (fun hb9 H => ?_)))
    · refine AWP_region ?_
      refine Rh 5 84 [(1, .ptr 0 0), (3, bA (decide ((lI x0.gKids) ≥ 2))), (4, bA ((lI x0.gValues) == 0))] (AOps_done ?_)
      exact Exists.intro (decide ((lI x0.gKids) ≥ 2), (lI x0.gValues) == 0) ⟨⟨n, by omega, H⟩, Norm_fd [1, 3, 4] 0 (by kernel_rfl) rfl rfl ⟨(sc_TExpr_cs _ _), trivial⟩ (by refine scL_fr ?_; exact ⟨(sc_ptr rfl), trivial, trivial, trivial⟩)⟩
    · refine AWP_reg (Rh 4 84 [(1, .ptr 0 0), (3, bA ((lI x0.gKids) == 0)), (4, bA ((lI x0.gValues) == 0)), (27, bA (x0.gOp == 4))] (AOps_done (CD H (fun hb10 H => ?_) (fun hb10 H => ?_))))
      · refine AWP_region ?_
        refine Rh 5 84 [(1, .ptr 0 0), (3, bA ((lI x0.gKids) == 1)), (4, bA ((lI x0.gValues) == 0))] (AOps_done ?_)
        exact Exists.intro ((lI x0.gKids) == 1, (lI x0.gValues) == 0) ⟨⟨n, by omega, H⟩, Norm_fd [1, 3, 4] 0 (by kernel_rfl) rfl rfl ⟨(sc_TExpr_cs _ _), trivial⟩ (by refine scL_fr ?_; exact ⟨(sc_ptr rfl), trivial, trivial, trivial⟩)⟩
      · refine AWP_reg (Rh 4 84 [(1, .ptr 0 0), (3, bA ((lI x0.gKids) == 0)), (4, bA ((lI x0.gValues) == 0)), (35, bA (x0.gOp == 8))] (AOps_done (CD H (fun hb11 H => ?_) (fun hb11 H => ?_))))
        · refine AWP_region ?_
          refine Rh 5 84 [(1, .ptr 0 0), (3, bA ((lI x0.gKids) == 0)), (4, bA (decide ((lI x0.gValues) > 0)))] (AOps_done ?_)
          exact Exists.intro ((lI x0.gKids) == 0, decide ((lI x0.gValues) > 0)) ⟨⟨n, by omega, H⟩, Norm_fd [1, 3, 4] 0 (by kernel_rfl) rfl rfl ⟨(sc_TExpr_cs _ _), trivial⟩ (by refine scL_fr ?_; exact ⟨(sc_ptr rfl), trivial, trivial, trivial⟩)⟩
        · refine AWP_reg (Rh 2 84 [(1, .ptr 0 0), (3, bA ((lI x0.gKids) == 0)), (4, bA ((lI x0.gValues) == 0)), (45, iA x0.gOp)] ?_)
          obtain ⟨v12, hv12, H⟩ := bind_some H
          refine AOps_callp (d := (some 46)) (al := [iA x0.gOp]) (r := bA v12) (by kernel_rfl) (s_ref6_IsTest hv12) ⟨trivial, trivial⟩ trivial ?_
          refine Rh 1 84 [(1, .ptr 0 0), (3, bA ((lI x0.gKids) == 0)), (4, bA ((lI x0.gValues) == 0)), (47, bA v12)] (AOps_run 4 [1, 3, 4, 51] (st' := fr 84 [(1, .ptr 0 0), (3, bA ((lI x0.gKids) == 0)), (4, bA ((lI x0.gValues) == 0)), (51, bA (v12 && (x0.gOp != 6)))]) (h' := [.cells 25 (TExpr.cs x0)]) (by (generalize v12 = t0; cases t0 <;> kernel_rfl)) ?_)
          refine Rh 1 84 [(1, .ptr 0 0), (3, bA ((lI x0.gKids) == 0)), (4, bA ((lI x0.gValues) == 0)), (43, bA (v12 && (x0.gOp != 6)))] (AOps_done (CD H (fun hb13 H => ?_) (fun hb13 H => ?_)))
          · refine AWP_region ?_
            refine Rh 5 84 [(1, .ptr 0 0), (3, bA ((lI x0.gKids) == 0)), (4, bA ((lI x0.gValues) == 1))] (AOps_done ?_)
            exact Exists.intro ((lI x0.gKids) == 0, (lI x0.gValues) == 1) ⟨⟨n, by omega, H⟩, Norm_fd [1, 3, 4] 0 (by kernel_rfl) rfl rfl ⟨(sc_TExpr_cs _ _), trivial⟩ (by refine scL_fr ?_; exact ⟨(sc_ptr rfl), trivial, trivial, trivial⟩)⟩
          · refine AWP_skip ?_
            exact Exists.intro ((lI x0.gKids) == 0, (lI x0.gValues) == 0) ⟨⟨n, by omega, H⟩, Norm_fd [1, 3, 4] 0 (by kernel_rfl) rfl rfl ⟨(sc_TExpr_cs _ _), trivial⟩ (by refine scL_fr ?_; exact ⟨(sc_ptr rfl), trivial, trivial, trivial⟩)⟩
theorem s_ref6_part {n : Nat} (hG : GlobT E) {x0 : TExpr} {r : Int} (H : p_ref6_part n x0 = some r) :
    Sp Tryz.prog E 107 [.agg (TExpr.cs x0)] [] (isA (iA r) []) := by
  unfold p_ref6_part at H
  refine Sp_fn Tryz.func107 rfl (fun hc hs => ?_)
  refine AWP_reg (R 2 110 [(1, .ptr 0 0)] [.cells 25 (TExpr.cs x0)] (AOps_done (AWP_seq (AWP_reg (Rh 4 110 [(1, .ptr 0 0), (9, bA (decide (x0.gOp < 1)))] (AOps_run 4 [1, 13] (st' := fr 110 [(1, .ptr 0 0), (13, bA ((decide (x0.gOp < 1)) || (decide (x0.gOp > 15))))]) (h' := [.cells 25 (TExpr.cs x0)]) (by (generalize (decide (x0.gOp < 1)) = t0; cases t0 <;> kernel_rfl)) ?_))))))
  refine AOps_done (CD H (fun hb1 H => ?_) (fun hb1 H => ?_))
  · refine AWP_reg (Rh 1 110 [(2, iA 7)] (AOps_done ?_))
    exact AWP_ret (FR H)
  · refine AWP_skip ?_
    show AWP _ _ _ _ _ _ _
    refine AWP_seq (AWP_reg (Rh 1 110 [(1, .ptr 0 0), (14, .agg (TExpr.cs x0))] ?_))
    obtain ⟨v2, hv2, H⟩ := bind_some H
    refine AOps_callp (d := (some 15)) (al := [.agg (TExpr.cs x0)]) (r := bA v2) (by kernel_rfl) (s_ref6_counts hv2) ⟨(sc_TExpr_cs _ _), trivial⟩ trivial ?_
    refine Rh 1 110 [(1, .ptr 0 0), (16, bA (!v2))] (AOps_done (CD H (fun hb3 H => ?_) (fun hb3 H => ?_)))
    · refine AWP_reg (Rh 1 110 [(2, iA 15)] (AOps_done ?_))
      exact AWP_ret (FR H)
    · refine AWP_skip ?_
      show AWP _ _ _ _ _ _ _
      refine AWP_seq (AWP_reg (Rh 5 110 [(1, .ptr 0 0), (21, bA (decide ((lI x0.gKids) > 12)))] (AOps_run 5 [1, 26] (st' := fr 110 [(1, .ptr 0 0), (26, bA ((decide ((lI x0.gKids) > 12)) || (decide ((lI x0.gValues) > 20))))]) (h' := [.cells 25 (TExpr.cs x0)]) (by (generalize (decide ((lI x0.gKids) > 12)) = t0; cases t0 <;> kernel_rfl)) ?_)))
      refine AOps_done (CD H (fun hb4 H => ?_) (fun hb4 H => ?_))
      · refine AWP_reg (Rh 1 110 [(2, iA 5)] (AOps_done ?_))
        exact AWP_ret (FR H)
      · refine AWP_skip ?_
        show AWP _ _ _ _ _ _ _
        refine AWP_seq (AWP_reg (Rh 1 110 [(1, .ptr 0 0), (3, iA 0)] (AOps_done (AWP_block ?_))))
        refine AWP_loopN (α := Int) (fun v12 => fr 110 [(1, .ptr 0 0), (3, iA v12)]) (fun v12 => [.cells 25 (TExpr.cs x0)]) (fun k_ v12 => k_ ≤ n ∧ p_ref6_part_L1 k_ x0 v12 = some r) (fun n v12 H => ?_) (k := n) 0 ⟨Nat.le_refl _, H⟩ (Norm_fd [1, 3] 0 (by kernel_rfl) rfl rfl ⟨(sc_TExpr_cs _ _), trivial⟩ (by refine scL_fr ?_; exact ⟨(sc_ptr rfl), trivial, trivial⟩))
        show AWP _ _ _ _ _ (fr 110 [(1, .ptr 0 0), (3, iA v12)]) [.cells 25 (TExpr.cs x0)]
        obtain ⟨hb_, H⟩ := H
        replace H : p_ref6_part_L1 n x0 v12 = some r := H
        cases n with
        | zero => exact not_none (by simpa only [p_ref6_part_L1] using H)
        | succ n =>
          unfold p_ref6_part_L1 at H
          refine AWP_seq (AWP_reg (Rh 5 110 [(1, .ptr 0 0), (3, iA v12), (31, bA (decide (v12 < (lI x0.gKids))))] (AOps_done (CD H (fun hb13 H => ?_) (fun hb13 H => ?_)))))
          · refine AWP_skip ?_
            show AWP _ _ _ _ _ _ _
            refine AWP_seq (AWP_block ?_)
            obtain ⟨v14, hv14, H⟩ := bind_some H
            refine AWP_regD1 [0, 1, 2, 3, 4, 5, 6, 7, 8, 9, 10, 11, 12, 13] (N := 110) (f := [(1, .ptr 0 0), (3, iA v12)]) (leL_of [1, 3] (by kernel_rfl)) mixed (by kernel_rfl) (by kernel_rfl) (st' := fr 110 [(1, .ptr 0 0), (3, iA v12), (47, bA ((v14.gOp == x0.gOp) && (x0.gOp != 4)))]) (h' := [.cells 25 (TExpr.cs x0)]) ?_ ?_
            rotate_left
            · refine RD 3 110 [(1, 0), (0, 0)] [(1, .ptr 0 0), (3, iA v12), (34, .ptr 0 4), (35, .ro .unk x0.gKids.length (TExpr.cl x0.gKids)), (36, iA v12)] (AD_index (d := (some 37)) (sz := 5) (c := TExpr.cs) (by kernel_rfl) rfl (eq_TExpr_cl _) (fun _ => rfl) (by decide) hv14 (fun tl14 => ?_))
              refine RD 6 110 [(7, 0), (6, 0), (1, 0), (0, 0)] [(1, .ptr 0 0), (3, iA v12), (34, .ptr 0 4), (35, .ro .unk x0.gKids.length (TExpr.cl x0.gKids)), (36, iA v12), (37, .rop ([iA v14.gOp, sA v14.gKind, sA v14.gName, .ro .unk v14.gValues.length (TValue.cl v14.gValues), .ro .unk v14.gKids.length (TExpr.cl v14.gKids)] ++ tl14)), (38, .rop ([iA v14.gOp, sA v14.gKind, sA v14.gName, .ro .unk v14.gValues.length (TValue.cl v14.gValues), .ro .unk v14.gKids.length (TExpr.cl v14.gKids)] ++ tl14)), (39, iA v14.gOp), (40, .ptr 0 0), (41, iA x0.gOp), (42, bA (v14.gOp == x0.gOp)), (43, bA (v14.gOp == x0.gOp))] ?_
              cases c1 : (v14.gOp == x0.gOp : Bool) with
              | true =>
                refine RD 4 110 [(11, 0), (10, 0), (7, 0), (6, 0), (1, 0), (0, 0)] [(1, .ptr 0 0), (3, iA v12), (34, .ptr 0 4), (35, .ro .unk x0.gKids.length (TExpr.cl x0.gKids)), (36, iA v12), (37, .rop ([iA v14.gOp, sA v14.gKind, sA v14.gName, .ro .unk v14.gValues.length (TValue.cl v14.gValues), .ro .unk v14.gKids.length (TExpr.cl v14.gKids)] ++ tl14)), (38, .rop ([iA v14.gOp, sA v14.gKind, sA v14.gName, .ro .unk v14.gValues.length (TValue.cl v14.gValues), .ro .unk v14.gKids.length (TExpr.cl v14.gKids)] ++ tl14)), (39, iA v14.gOp), (40, .ptr 0 0), (41, iA x0.gOp), (42, bA true), (43, bA true), (44, .ptr 0 0), (45, iA x0.gOp), (46, bA (x0.gOp != 4)), (47, bA (true && (x0.gOp != 4)))] ?_
                exact AD_here [1, 3, 47] (by kernel_rfl) rfl
              | false =>
                refine RD 4 110 [(7, 0), (6, 0), (1, 0), (0, 0)] [(1, .ptr 0 0), (3, iA v12), (34, .ptr 0 4), (35, .ro .unk x0.gKids.length (TExpr.cl x0.gKids)), (36, iA v12), (37, .rop ([iA v14.gOp, sA v14.gKind, sA v14.gName, .ro .unk v14.gValues.length (TValue.cl v14.gValues), .ro .unk v14.gKids.length (TExpr.cl v14.gKids)] ++ tl14)), (38, .rop ([iA v14.gOp, sA v14.gKind, sA v14.gName, .ro .unk v14.gValues.length (TValue.cl v14.gValues), .ro .unk v14.gKids.length (TExpr.cl v14.gKids)] ++ tl14)), (39, iA v14.gOp), (40, .ptr 0 0), (41, iA x0.gOp), (42, bA false), (43, bA false), (44, undefA), (45, undefA), (46, undefA), (47, bA (false && (x0.gOp != 4)))] ?_
                exact AD_here [1, 3, 47] (by kernel_rfl) rfl
            refine CD H (fun hb15 H => ?_) (fun hb15 H => ?_)
            · refine AWP_reg (Rh 1 110 [(2, iA 15)] (AOps_done ?_))
              exact AWP_ret (FR H)
            · refine AWP_skip ?_
              show AWP _ _ _ _ _ _ _
              refine AWP_region ?_
              refine Rh 3 110 [(1, .ptr 0 0), (3, iA (w64 (v12 + 1)))] (AOps_done ?_)
              exact Exists.intro (w64 (v12 + 1)) (Exists.intro n ⟨by omega, ⟨by omega, H⟩, Norm_fd [1, 3] 0 (by kernel_rfl) rfl rfl ⟨(sc_TExpr_cs _ _), trivial⟩ (by refine scL_fr ?_; exact ⟨(sc_ptr rfl), trivial, trivial⟩)⟩)
          · refine AWP_exit ?_
            show AWP _ _ _ _ _ _ _
            refine AWP_seq (AWP_reg (Rh 2 110 [(1, .ptr 0 0), (49, iA x0.gOp)] ?_))
            obtain ⟨v16, hv16, H⟩ := bind_some H
            refine AOps_callp (d := (some 50)) (al := [iA x0.gOp]) (r := bA v16) (by kernel_rfl) (s_ref6_IsTest hv16) ⟨trivial, trivial⟩ trivial ?_
            refine Rh 1 110 [(1, .ptr 0 0), (51, bA v16)] ?_
            obtain ⟨v17, hv17, H⟩ := bind_some H
            refine AOps_cut 5 (st' := fr 110 [(1, .ptr 0 0), (56, bA (v16 && (!v17)))]) (h' := [.cells 25 (TExpr.cs x0)]) ?_ ?_
            rotate_left
            · cases c1 : (v16 : Bool) with
              | true =>
                refine R 2 110 [(1, .ptr 0 0), (51, bA true), (53, sA x0.gKind)] [.cells 25 (TExpr.cs x0)] ?_
                have hv17_ := cond_t hv17 (by simp only [c1] <;> rfl)
                refine AOps_callp (d := (some 54)) (al := [sA x0.gKind]) (r := bA v17) (by kernel_rfl) (s_ref1_Key hv17_) ⟨trivial, trivial⟩ trivial ?_
                refine R 2 110 [(1, .ptr 0 0), (56, bA (true && (!v17)))] [.cells 25 (TExpr.cs x0)] ?_
                exact AOps_here [1, 56] (by kernel_rfl) rfl
              | false =>
                refine R 5 110 [(1, .ptr 0 0), (56, bA (false && (!v17)))] [.cells 25 (TExpr.cs x0)] ?_
                exact AOps_here [1, 56] (by kernel_rfl) rfl
            refine Rh 1 110 [(1, .ptr 0 0), (57, bA (v16 && (!v17)))] ?_
            obtain ⟨v18, hv18, H⟩ := bind_some H
            obtain ⟨v19, hv19, H⟩ := bind_some H
            refine AOps_cut 15 (st' := fr 110 [(1, .ptr 0 0), (72, bA ((v16 && (!v17)) || ((v18 || (x0.gOp == 5)) && (!v19))))]) (h' := [.cells 25 (TExpr.cs x0)]) ?_ ?_
            rotate_left
            · cases c1 : (v16 && (!v17) : Bool) with
              | true =>
                refine R 15 110 [(1, .ptr 0 0), (72, bA (true || ((v18 || (x0.gOp == 5)) && (!v19))))] [.cells 25 (TExpr.cs x0)] ?_
                exact AOps_here [1, 72] (by kernel_rfl) rfl
              | false =>
                refine R 2 110 [(1, .ptr 0 0), (57, bA false), (59, iA x0.gOp)] [.cells 25 (TExpr.cs x0)] ?_
                have hv18_ := cond_t hv18 (by simp only [c1] <;> rfl)
                refine AOps_callp (d := (some 60)) (al := [iA x0.gOp]) (r := bA v18) (by kernel_rfl) (s_ref6_IsTest hv18_) ⟨trivial, trivial⟩ trivial ?_
                refine R 1 110 [(1, .ptr 0 0), (57, bA false), (61, bA v18)] [.cells 25 (TExpr.cs x0)] ?_
                cases c2 : (v18 : Bool) with
                | true =>
                  refine R 7 110 [(1, .ptr 0 0), (57, bA false), (66, bA (true || (x0.gOp == 5))), (68, sA x0.gName)] [.cells 25 (TExpr.cs x0)] ?_
                  have hv19_ := cond_t hv19 (by simp only [c1, c2] <;> rfl)
                  refine AOps_callp (d := (some 69)) (al := [sA x0.gName]) (r := bA v19) (by kernel_rfl) (s_ref1_Key hv19_) ⟨trivial, trivial⟩ trivial ?_
                  refine R 3 110 [(1, .ptr 0 0), (72, bA (false || ((true || (x0.gOp == 5)) && (!v19))))] [.cells 25 (TExpr.cs x0)] ?_
                  exact AOps_here [1, 72] (by kernel_rfl) rfl
                | false =>
                  refine R 5 110 [(1, .ptr 0 0), (57, bA false), (66, bA (false || (x0.gOp == 5)))] [.cells 25 (TExpr.cs x0)] ?_
                  cases c3 : (x0.gOp == 5 : Bool) with
                  | true =>
                    refine R 2 110 [(1, .ptr 0 0), (57, bA false), (66, bA (false || true)), (68, sA x0.gName)] [.cells 25 (TExpr.cs x0)] ?_
                    have hv19_ := cond_t hv19 (by simp only [c1, c2, c3] <;> rfl)
                    refine AOps_callp (d := (some 69)) (al := [sA x0.gName]) (r := bA v19) (by kernel_rfl) (s_ref1_Key hv19_) ⟨trivial, trivial⟩ trivial ?_
                    refine R 3 110 [(1, .ptr 0 0), (72, bA (false || ((false || true) && (!v19))))] [.cells 25 (TExpr.cs x0)] ?_
                    exact AOps_here [1, 72] (by kernel_rfl) rfl
                  | false =>
                    refine R 6 110 [(1, .ptr 0 0), (72, bA (false || ((false || false) && (!v19))))] [.cells 25 (TExpr.cs x0)] ?_
                    exact AOps_here [1, 72] (by kernel_rfl) rfl
            refine AOps_done (CD H (fun hb20 H => ?_) (fun hb20 H => ?_))
            · refine AWP_reg (Rh 1 110 [(2, iA 6)] (AOps_done ?_))
              exact AWP_ret (FR H)
            · refine AWP_skip ?_
              show AWP _ _ _ _ _ _ _
              refine AWP_seq (AWP_reg (Rh 1 110 [(1, .ptr 0 0), (4, iA 0)] (AOps_done (AWP_block ?_))))
              refine AWP_loopN (α := Int) (fun v30 => fr 110 [(1, .ptr 0 0), (4, iA v30)]) (fun v30 => [.cells 25 (TExpr.cs x0)]) (fun k_ v30 => k_ ≤ n ∧ p_ref6_part_L2 k_ x0 v30 = some r) (fun n v30 H => ?_) (k := n) 0 ⟨Nat.le_refl _, H⟩ (Norm_fd [1, 4] 0 (by kernel_rfl) rfl rfl ⟨(sc_TExpr_cs _ _), trivial⟩ (by refine scL_fr ?_; exact ⟨(sc_ptr rfl), trivial, trivial⟩))
              show AWP _ _ _ _ _ (fr 110 [(1, .ptr 0 0), (4, iA v30)]) [.cells 25 (TExpr.cs x0)]
              obtain ⟨hb_, H⟩ := H
              replace H : p_ref6_part_L2 n x0 v30 = some r := H
              cases n with
              | zero => exact not_none (by simpa only [p_ref6_part_L2] using H)
              | succ n =>
                unfold p_ref6_part_L2 at H
                refine AWP_seq (AWP_reg (Rh 5 110 [(1, .ptr 0 0), (4, iA v30), (77, bA (decide (v30 < (lI x0.gValues))))] (AOps_done (CD H (fun hb31 H => ?_) (fun hb31 H => ?_)))))
                · refine AWP_skip ?_
                  show AWP _ _ _ _ _ _ _
                  refine AWP_seq (AWP_block ?_)
                  refine AWP_reg (Rh 3 110 [(1, .ptr 0 0), (4, iA v30), (81, .ro .unk x0.gValues.length (TValue.cl x0.gValues)), (82, iA v30)] ?_)
                  obtain ⟨v32, hv32, H⟩ := bind_some H
                  refine AOps_index (d := (some 83)) (sz := 4) (c := TValue.cs) (by kernel_rfl) rfl (eq_TValue_cl _) (fun _ => rfl) (by decide) hv32 (fun tl32 => ?_)
                  refine Rh 1 110 [(1, .ptr 0 0), (4, iA v30), (84, .agg (TValue.cs v32))] ?_
                  obtain ⟨v33, hv33, H⟩ := bind_some H
                  refine AOps_callp (d := (some 85)) (al := [.agg (TValue.cs v32)]) (r := iA v33) (by kernel_rfl) (s_ref3_Check hG hv33) ⟨(sc_TValue_cs _ _), trivial⟩ trivial ?_
                  refine Rh 1 110 [(1, .ptr 0 0), (4, iA v30), (5, iA v33)] (AOps_done (AWP_reg (Rh 2 110 [(1, .ptr 0 0), (4, iA v30), (5, iA v33), (87, bA (v33 != 0))] (AOps_done (CD H (fun hb34 H => ?_) (fun hb34 H => ?_))))))
                  · refine AWP_reg (Rh 2 110 [(2, iA v33)] (AOps_done ?_))
                    exact AWP_ret (FR H)
                  · refine AWP_skip ?_
                    show AWP _ _ _ _ _ _ _
                    refine AWP_region ?_
                    refine Rh 3 110 [(1, .ptr 0 0), (4, iA (w64 (v30 + 1)))] (AOps_done ?_)
                    exact Exists.intro (w64 (v30 + 1)) (Exists.intro n ⟨by omega, ⟨by omega, H⟩, Norm_fd [1, 4] 0 (by kernel_rfl) rfl rfl ⟨(sc_TExpr_cs _ _), trivial⟩ (by refine scL_fr ?_; exact ⟨(sc_ptr rfl), trivial, trivial⟩)⟩)
                · refine AWP_exit ?_
                  show AWP _ _ _ _ _ _ _
                  refine AWP_seq (AWP_reg (Rh 4 110 [(1, .ptr 0 0), (92, bA (x0.gOp == 9))] (AOps_run 4 [1, 96] (st' := fr 110 [(1, .ptr 0 0), (96, bA ((x0.gOp == 9) || (x0.gOp == 10)))]) (h' := [.cells 25 (TExpr.cs x0)]) (by (generalize (x0.gOp == 9) = t0; cases t0 <;> kernel_rfl)) ?_)))
                  refine Rh 1 110 [(1, .ptr 0 0), (97, bA ((x0.gOp == 9) || (x0.gOp == 10)))] (AOps_run 4 [1, 101] (st' := fr 110 [(1, .ptr 0 0), (101, bA (((x0.gOp == 9) || (x0.gOp == 10)) || (x0.gOp == 11)))]) (h' := [.cells 25 (TExpr.cs x0)]) (by (generalize (x0.gOp == 9) = t0; generalize (x0.gOp == 10) = t1; cases t0 <;> cases t1 <;> kernel_rfl)) ?_)
                  refine Rh 1 110 [(1, .ptr 0 0), (102, bA (((x0.gOp == 9) || (x0.gOp == 10)) || (x0.gOp == 11)))] ?_
                  obtain ⟨v35, hv35, H⟩ := bind_some H
                  refine AOps_cut 7 (st' := fr 110 [(109, bA ((((x0.gOp == 9) || (x0.gOp == 10)) || (x0.gOp == 11)) && (v35.gKind != 3)))]) (h' := [.cells 25 (TExpr.cs x0)]) ?_ ?_
                  rotate_left
                  · cases c1 : (((x0.gOp == 9) || (x0.gOp == 10)) || (x0.gOp == 11) : Bool) with
                    | true =>
                      refine R 2 110 [(102, bA true), (104, .ro .unk x0.gValues.length (TValue.cl x0.gValues))] [.cells 25 (TExpr.cs x0)] ?_
                      have hv35_ := cond_t hv35 (by simp only [c1] <;> rfl)
                      refine AOps_index (d := (some 105)) (sz := 4) (c := TValue.cs) (by kernel_rfl) rfl (eq_TValue_cl _) (fun _ => rfl) (by decide) hv35_ (fun tl35 => ?_)
                      refine R 4 110 [(109, bA (true && (v35.gKind != 3)))] [.cells 25 (TExpr.cs x0)] ?_
                      exact AOps_here [109] (by kernel_rfl) rfl
                    | false =>
                      refine R 7 110 [(109, bA (false && (v35.gKind != 3)))] [.cells 25 (TExpr.cs x0)] ?_
                      exact AOps_here [109] (by kernel_rfl) rfl
                  refine AOps_done (CD H (fun hb36 H => ?_) (fun hb36 H => ?_))
                  · refine AWP_reg (Rh 1 110 [(2, iA 8)] (AOps_done ?_))
                    exact AWP_ret (FR H)
                  · refine AWP_skip ?_
                    show AWP _ _ _ _ _ _ _
                    refine AWP_reg (Rh 1 110 [(2, iA 0)] (AOps_done ?_))
                    exact AWP_ret (FR H)
theorem s_ref6_walk_F (hG : GlobT E) {self_p_ref6_walk : TExpr → Int → Int → Option (Int × Int)} (hself_ref6_walk : ∀ {x0 : TExpr}, ∀ {x1 : Int}, ∀ {x2 : Int}, ∀ {r : Int × Int}, self_p_ref6_walk x0 x1 x2 = some r → Sp Tryz.prog E 53 [.agg (TExpr.cs x0), iA x1, .ptr 0 0] [.cells 3 [iA x2]] (isA (iA r.1) [.cells 3 [iA r.2]])) {n : Nat} {x0 : TExpr} {x1 : Int} {x2 : Int} {r : Int × Int} (H : p_ref6_walk_F self_p_ref6_walk n x0 x1 x2 = some r) :
    Sp Tryz.prog E 53 [.agg (TExpr.cs x0), iA x1, .ptr 0 0] [.cells 3 [iA x2]] (isA (iA r.1) [.cells 3 [iA r.2]]) := by
  unfold p_ref6_walk_F at H
  refine Sp_fn Tryz.func53 rfl (fun hc hs => ?_)
  refine AWP_reg (R 2 45 [(1, iA x1), (2, .ptr 0 0), (3, .ptr 1 0)] [.cells 25 (TExpr.cs x0), .cells 3 [iA x2]] (AOps_done (AWP_seq (AWP_reg (Rh 4 45 [(1, iA x1), (2, .ptr 0 0), (3, .ptr 1 0), (13, bA (decide (x2 ≥ 60)))] (AOps_done (CD H (fun hb1 H => ?_) (fun hb1 H => ?_))))))))
  · refine AWP_reg (Rh 1 45 [(6, iA 5)] (AOps_done (AWP_ret ?_)))
    have hr := Option.some.inj H
    subst hr
    exact Fin_retn 1 (l := [iA 5]) (h' := [.cells 3 [iA x2]]) (by kernel_rfl) rfl (Nat.le_of_ble_eq_true rfl) ((by refine Closed_of ?_; exact ⟨⟨trivial, trivial⟩, trivial⟩)) (Frz_sc trivial) ⟨rfl, rfl⟩
  · refine AWP_skip ?_
    show AWP _ _ _ _ _ _ _
    refine AWP_reg (R 6 45 [(1, iA x1), (2, .ptr 0 0), (3, .ptr 1 0)] [.cells 25 (TExpr.cs x0), .cells 3 [iA (w64 (x2 + 1))]] (AOps_done (AWP_seq (AWP_reg (Rh 2 45 [(1, iA x1), (2, .ptr 0 0), (3, .ptr 1 0), (20, bA (decide (x1 > 10)))] (AOps_done (CD H (fun hb2 H => ?_) (fun hb2 H => ?_))))))))
    · refine AWP_reg (Rh 1 45 [(6, iA 18)] (AOps_done (AWP_ret ?_)))
      have hr := Option.some.inj H
      subst hr
      exact Fin_retn 1 (l := [iA 18]) (h' := [.cells 3 [iA (w64 (x2 + 1))]]) (by kernel_rfl) rfl (Nat.le_of_ble_eq_true rfl) ((by refine Closed_of ?_; exact ⟨⟨trivial, trivial⟩, trivial⟩)) (Frz_sc trivial) ⟨rfl, rfl⟩
    · refine AWP_skip ?_
      show AWP _ _ _ _ _ _ _
      refine AWP_seq (AWP_reg (Rh 1 45 [(1, iA x1), (2, .ptr 0 0), (3, .ptr 1 0), (21, .agg (TExpr.cs x0))] ?_))
      obtain ⟨v3, hv3, H⟩ := bind_some H
      refine AOps_callp (d := (some 22)) (al := [.agg (TExpr.cs x0)]) (r := iA v3) (by kernel_rfl) (s_ref6_part hG hv3) ⟨(sc_TExpr_cs _ _), trivial⟩ trivial ?_
      refine Rh 1 45 [(1, iA x1), (2, .ptr 0 0), (3, .ptr 1 0), (7, iA v3)] (AOps_done (AWP_reg (Rh 2 45 [(1, iA x1), (2, .ptr 0 0), (3, .ptr 1 0), (7, iA v3), (24, bA (v3 != 0))] (AOps_done (CD H (fun hb4 H => ?_) (fun hb4 H => ?_))))))
      · refine AWP_reg (Rh 2 45 [(6, iA v3)] (AOps_done (AWP_ret ?_)))
        have hr := Option.some.inj H
        subst hr
        exact Fin_retn 1 (l := [iA v3]) (h' := [.cells 3 [iA (w64 (x2 + 1))]]) (by kernel_rfl) rfl (Nat.le_of_ble_eq_true rfl) ((by refine Closed_of ?_; exact ⟨⟨trivial, trivial⟩, trivial⟩)) (Frz_sc trivial) ⟨rfl, rfl⟩
      · refine AWP_skip ?_
        show AWP _ _ _ _ _ _ _
        refine AWP_seq (AWP_reg (Rh 1 45 [(1, iA x1), (2, .ptr 0 0), (3, .ptr 1 0), (8, iA 0)] (AOps_done (AWP_block ?_))))
        refine AWP_loopN (α := Int × Int) (fun ⟨v15, v16⟩ => fr 45 [(1, iA x1), (2, .ptr 0 0), (3, .ptr 1 0), (8, iA v15)]) (fun ⟨v15, v16⟩ => [.cells 25 (TExpr.cs x0), .cells 3 [iA v16]]) (fun k_ ⟨v15, v16⟩ => k_ ≤ n ∧ p_ref6_walk_L1 k_ self_p_ref6_walk x0 x1 v15 v16 = some r) (fun n a H => ?_) (k := n) (0, w64 (x2 + 1)) ⟨Nat.le_refl _, H⟩ (Norm_fd [1, 2, 3, 8] 0 (by kernel_rfl) rfl rfl ⟨(sc_TExpr_cs _ _), ⟨trivial, trivial⟩, trivial⟩ (by refine scL_fr ?_; exact ⟨trivial, (sc_ptr rfl), (sc_ptr rfl), trivial, trivial⟩))
        obtain ⟨v15, v16⟩ := a
        show AWP _ _ _ _ _ (fr 45 [(1, iA x1), (2, .ptr 0 0), (3, .ptr 1 0), (8, iA v15)]) [.cells 25 (TExpr.cs x0), .cells 3 [iA v16]]
        obtain ⟨hb_, H⟩ := H
        replace H : p_ref6_walk_L1 n self_p_ref6_walk x0 x1 v15 v16 = some r := H
        cases n with
        | zero => exact not_none (by simpa only [p_ref6_walk_L1] using H)
        | succ n =>
          unfold p_ref6_walk_L1 at H
          refine AWP_seq (AWP_reg (Rh 5 45 [(1, iA x1), (2, .ptr 0 0), (3, .ptr 1 0), (8, iA v15), (30, bA (decide (v15 < (lI x0.gKids))))] (AOps_done (CD H (fun hb17 H => ?_) (fun hb17 H => ?_)))))
          · refine AWP_skip ?_
            show AWP _ _ _ _ _ _ _
            refine AWP_seq (AWP_block ?_)
            refine AWP_reg (Rh 3 45 [(1, iA x1), (2, .ptr 0 0), (3, .ptr 1 0), (8, iA v15), (34, .ro .unk x0.gKids.length (TExpr.cl x0.gKids)), (35, iA v15)] ?_)
            obtain ⟨v18, hv18, H⟩ := bind_some H
            refine AOps_index (d := (some 36)) (sz := 5) (c := TExpr.cs) (by kernel_rfl) rfl (eq_TExpr_cl _) (fun _ => rfl) (by decide) hv18 (fun tl18 => ?_)
            refine Rh 4 45 [(1, iA x1), (2, .ptr 0 0), (3, .ptr 1 0), (8, iA v15), (37, .agg (TExpr.cs v18)), (39, iA (w64 (x1 + 1))), (40, .ptr 0 0)] ?_
            obtain ⟨v19, hv19, H⟩ := bind_some H
            refine AOps_call1 (d := (some 41)) (al := [.agg (TExpr.cs v18), iA (w64 (x1 + 1)), .ptr 0 0]) ([.agg (TExpr.cs v18), iA (w64 (x1 + 1)), .ptr 0 0]) (r := iA v19.1) (j := 0) (b' := .cells 3 [iA v19.2]) (by kernel_rfl) rfl (hself_ref6_walk hv19) (⟨trivial, trivial⟩) (⟨trivial, trivial⟩) ⟨(sc_TExpr_cs _ _), trivial, Nat.zero_lt_one, trivial⟩ trivial rfl (h' := [.cells 25 (TExpr.cs x0), .cells 3 [iA v19.2]]) rfl ?_
            refine Rh 1 45 [(1, iA x1), (2, .ptr 0 0), (3, .ptr 1 0), (8, iA v15), (9, iA v19.1)] (AOps_done (AWP_reg (Rh 2 45 [(1, iA x1), (2, .ptr 0 0), (3, .ptr 1 0), (8, iA v15), (9, iA v19.1), (43, bA (v19.1 != 0))] (AOps_done (CD H (fun hb20 H => ?_) (fun hb20 H => ?_))))))
            · refine AWP_reg (Rh 2 45 [(6, iA v19.1)] (AOps_done (AWP_ret ?_)))
              have hr := Option.some.inj H
              subst hr
              exact Fin_retn 1 (l := [iA v19.1]) (h' := [.cells 3 [iA v19.2]]) (by kernel_rfl) rfl (Nat.le_of_ble_eq_true rfl) ((by refine Closed_of ?_; exact ⟨⟨trivial, trivial⟩, trivial⟩)) (Frz_sc trivial) ⟨rfl, rfl⟩
            · refine AWP_skip ?_
              show AWP _ _ _ _ _ _ _
              refine AWP_region ?_
              refine Rh 3 45 [(1, iA x1), (2, .ptr 0 0), (3, .ptr 1 0), (8, iA (w64 (v15 + 1)))] (AOps_done ?_)
              exact Exists.intro (w64 (v15 + 1), v19.2) (Exists.intro n ⟨by omega, ⟨by omega, H⟩, Norm_fd [1, 2, 3, 8] 0 (by kernel_rfl) rfl rfl ⟨(sc_TExpr_cs _ _), ⟨trivial, trivial⟩, trivial⟩ (by refine scL_fr ?_; exact ⟨trivial, (sc_ptr rfl), (sc_ptr rfl), trivial, trivial⟩)⟩)
          · refine AWP_exit ?_
            show AWP _ _ _ _ _ _ _
            refine AWP_reg (Rh 1 45 [(6, iA 0)] (AOps_done (AWP_ret ?_)))
            have hr := Option.some.inj H
            subst hr
            exact Fin_retn 1 (l := [iA 0]) (h' := [.cells 3 [iA v16]]) (by kernel_rfl) rfl (Nat.le_of_ble_eq_true rfl) ((by refine Closed_of ?_; exact ⟨⟨trivial, trivial⟩, trivial⟩)) (Frz_sc trivial) ⟨rfl, rfl⟩
theorem s_all_ref6_walk (hG : GlobT E) : ∀ n : Nat, (∀ {x0 : TExpr}, ∀ {x1 : Int}, ∀ {x2 : Int}, ∀ {r : Int × Int}, p_ref6_walk n x0 x1 x2 = some r → Sp Tryz.prog E 53 [.agg (TExpr.cs x0), iA x1, .ptr 0 0] [.cells 3 [iA x2]] (isA (iA r.1) [.cells 3 [iA r.2]])) := by
  intro n
  induction n with
  | zero => exact fun H => not_none (by simpa only [p_ref6_walk] using H)
  | succ n ih => exact fun H => s_ref6_walk_F hG ih (by simpa only [p_ref6_walk] using H)
theorem s_ref6_walk {n : Nat} (hG : GlobT E) {x0 : TExpr} {x1 : Int} {x2 : Int} {r : Int × Int} (H : p_ref6_walk n x0 x1 x2 = some r) :
    Sp Tryz.prog E 53 [.agg (TExpr.cs x0), iA x1, .ptr 0 0] [.cells 3 [iA x2]] (isA (iA r.1) [.cells 3 [iA r.2]]) := (s_all_ref6_walk hG n) H
theorem s_ref6_Expr {n : Nat} (hG : GlobT E) {x0 : TExpr} {r : Int} (H : p_ref6_Expr n x0 = some r) :
    Sp Tryz.prog E 16 [.agg (TExpr.cs x0)] [] (isA (iA r) []) := by
  unfold p_ref6_Expr at H
  refine Sp_fn Tryz.func16 rfl (fun hc hs => ?_)
  refine AWP_reg (R 2 6 [(1, .ptr 0 0)] [.cells 25 (TExpr.cs x0)] (AOps_done (AWP_reg (R 2 6 [(1, .ptr 0 0), (3, .ptr 1 0)] [.cells 3 [iA 0], .cells 25 (TExpr.cs x0)] (AOps_done (AWP_reg (Rh 1 6 [(3, .ptr 1 0), (4, .agg (TExpr.cs x0))] ?_)))))))
  obtain ⟨v1, hv1, H⟩ := bind_some H
  refine AOps_call1 (d := (some 5)) (al := [.agg (TExpr.cs x0), iA 1, .ptr 0 0]) ([.agg (TExpr.cs x0), iA 1, .ptr 1 0]) (r := iA v1.1) (j := 1) (b' := .cells 3 [iA v1.2]) (by kernel_rfl) rfl (s_ref6_walk hG hv1) (⟨trivial, trivial⟩) (⟨trivial, trivial⟩) ⟨(sc_TExpr_cs _ _), trivial, Nat.zero_lt_one, trivial⟩ trivial rfl (h' := [.cells 3 [iA v1.2], .cells 25 (TExpr.cs x0)]) rfl ?_
  refine Rh 1 6 [(2, iA v1.1)] (AOps_done ?_)
  exact AWP_ret (FR H)
theorem s_ref6_rules {n : Nat} (hG : GlobT E) {x0 : List TRule} {x1 : Int} {r : Int} (H : p_ref6_rules n x0 x1 = some r) :
    Sp Tryz.prog E 76 [.ro .unk x0.length (TRule.cl x0), iA x1] [] (isA (iA r) []) := by
  unfold p_ref6_rules at H
  refine Sp_fn Tryz.func76 rfl (fun hc hs => ?_)
  refine AWP_reg (Rh 1 60 [(0, .ro .unk x0.length (TRule.cl x0)), (1, iA x1)] (AOps_done (AWP_seq (AWP_reg (Rh 3 60 [(0, .ro .unk x0.length (TRule.cl x0)), (1, iA x1), (11, bA (decide ((lI x0) > 12)))] (AOps_done (CD H (fun hb1 H => ?_) (fun hb1 H => ?_))))))))
  · refine AWP_reg (Rh 1 60 [(4, iA 5)] (AOps_done ?_))
    exact AWP_ret (FR H)
  · refine AWP_skip ?_
    show AWP _ _ _ _ _ _ _
    refine AWP_seq (AWP_reg (Rh 1 60 [(0, .ro .unk x0.length (TRule.cl x0)), (1, iA x1), (5, iA 0)] (AOps_done (AWP_block ?_))))
    refine AWP_loopN (α := Int) (fun v37 => fr 60 [(0, .ro .unk x0.length (TRule.cl x0)), (1, iA x1), (5, iA v37)]) (fun v37 => []) (fun k_ v37 => k_ ≤ n ∧ p_ref6_rules_L1 k_ x0 x1 v37 = some r) (fun n v37 H => ?_) (k := n) 0 ⟨Nat.le_refl _, H⟩ (Norm_fd [0, 1, 5] 0 (by kernel_rfl) rfl rfl trivial (by refine scL_fr ?_; exact ⟨(scl_TRule_cl _ _), trivial, trivial, trivial⟩))
    show AWP _ _ _ _ _ (fr 60 [(0, .ro .unk x0.length (TRule.cl x0)), (1, iA x1), (5, iA v37)]) []
    obtain ⟨hb_, H⟩ := H
    replace H : p_ref6_rules_L1 n x0 x1 v37 = some r := H
    cases n with
    | zero => exact not_none (by simpa only [p_ref6_rules_L1] using H)
    | succ n =>
      unfold p_ref6_rules_L1 at H
      refine AWP_seq (AWP_reg (Rh 4 60 [(0, .ro .unk x0.length (TRule.cl x0)), (1, iA x1), (5, iA v37), (15, bA (decide (v37 < (lI x0))))] (AOps_done (CD H (fun hb38 H => ?_) (fun hb38 H => ?_)))))
      · refine AWP_skip ?_
        show AWP _ _ _ _ _ _ _
        refine AWP_seq (AWP_block ?_)
        refine AWP_seq (AWP_reg (Rh 2 60 [(0, .ro .unk x0.length (TRule.cl x0)), (1, iA x1), (5, iA v37), (18, .ro .unk x0.length (TRule.cl x0)), (19, iA v37)] ?_))
        obtain ⟨v39, hv39, H⟩ := bind_some H
        refine AOps_index (d := (some 20)) (sz := 11) (c := TRule.cs) (by kernel_rfl) rfl (eq_TRule_cl _) (fun _ => rfl) (by decide) hv39 (fun tl39 => ?_)
        refine Rh 2 60 [(0, .ro .unk x0.length (TRule.cl x0)), (1, iA x1), (5, iA v37), (22, sA v39.gName)] ?_
        obtain ⟨v40, hv40, H⟩ := bind_some H
        refine AOps_callp (d := (some 23)) (al := [sA v39.gName]) (r := bA v40) (by kernel_rfl) (s_ref1_Key hv40) ⟨trivial, trivial⟩ trivial ?_
        refine Rh 1 60 [(0, .ro .unk x0.length (TRule.cl x0)), (1, iA x1), (5, iA v37), (24, bA (!v40))] (AOps_done (CD H (fun hb41 H => ?_) (fun hb41 H => ?_)))
        · refine AWP_reg (Rh 1 60 [(4, iA 6)] (AOps_done ?_))
          exact AWP_ret (FR H)
        · refine AWP_skip ?_
          show AWP _ _ _ _ _ _ _
          refine AWP_seq (AWP_reg (Rh 1 60 [(0, .ro .unk x0.length (TRule.cl x0)), (1, iA x1), (5, iA v37), (6, iA 0)] (AOps_done (AWP_block ?_))))
          refine AWP_loopN (α := Int) (fun v51 => fr 60 [(0, .ro .unk x0.length (TRule.cl x0)), (1, iA x1), (5, iA v37), (6, iA v51)]) (fun v51 => []) (fun k_ v51 => k_ ≤ n ∧ p_ref6_rules_L2 k_ x0 x1 v37 v51 = some r) (fun n v51 H => ?_) (k := n) 0 ⟨Nat.le_refl _, H⟩ (Norm_fd [0, 1, 5, 6] 0 (by kernel_rfl) rfl rfl trivial (by refine scL_fr ?_; exact ⟨(scl_TRule_cl _ _), trivial, trivial, trivial, trivial⟩))
          show AWP _ _ _ _ _ (fr 60 [(0, .ro .unk x0.length (TRule.cl x0)), (1, iA x1), (5, iA v37), (6, iA v51)]) []
          obtain ⟨hb_, H⟩ := H
          replace H : p_ref6_rules_L2 n x0 x1 v37 v51 = some r := H
          cases n with
          | zero => exact not_none (by simpa only [p_ref6_rules_L2] using H)
          | succ n =>
            unfold p_ref6_rules_L2 at H
            refine AWP_seq (AWP_reg (Rh 3 60 [(0, .ro .unk x0.length (TRule.cl x0)), (1, iA x1), (5, iA v37), (6, iA v51), (27, bA (decide (v51 < v37)))] (AOps_done (CD H (fun hb52 H => ?_) (fun hb52 H => ?_)))))
            · refine AWP_skip ?_
              show AWP _ _ _ _ _ _ _
              refine AWP_seq (AWP_block ?_)
              obtain ⟨v53, hv53, H⟩ := bind_some H
              obtain ⟨v54, hv54, H⟩ := bind_some H
              refine AWP_regD1 [0, 1, 2, 3, 4, 5, 6, 7, 8, 9, 10] (N := 60) (f := [(0, .ro .unk x0.length (TRule.cl x0)), (1, iA x1), (5, iA v37), (6, iA v51)]) (leL_of [0, 1, 5, 6] (by kernel_rfl)) mixed (by kernel_rfl) (by kernel_rfl) (st' := fr 60 [(0, .ro .unk x0.length (TRule.cl x0)), (1, iA x1), (5, iA v37), (6, iA v51), (40, bA (seq' v53.gName v54.gName))]) (h' := []) ?_ ?_
              rotate_left
              · refine RD 2 60 [] [(0, .ro .unk x0.length (TRule.cl x0)), (1, iA x1), (5, iA v37), (6, iA v51), (30, .ro .unk x0.length (TRule.cl x0)), (31, iA v51)] (AD_index (d := (some 32)) (sz := 11) (c := TRule.cs) (by kernel_rfl) rfl (eq_TRule_cl _) (fun _ => rfl) (by decide) hv53 (fun tl53 => ?_))
                refine RD 4 60 [] [(0, .ro .unk x0.length (TRule.cl x0)), (1, iA x1), (5, iA v37), (6, iA v51), (30, .ro .unk x0.length (TRule.cl x0)), (31, iA v51), (32, .rop ([sA v53.gName, iA v53.gWhen.gOp, sA v53.gWhen.gKind, sA v53.gWhen.gName, .ro .unk v53.gWhen.gValues.length (TValue.cl v53.gWhen.gValues), .ro .unk v53.gWhen.gKids.length (TExpr.cl v53.gWhen.gKids), iA v53.gServe.gVariation, sA v53.gServe.gKind, sA v53.gServe.gBy, sA v53.gServe.gSalt, .ro .unk v53.gServe.gSplit.length (TRange.cl v53.gServe.gSplit)] ++ tl53)), (33, .rop ([sA v53.gName, iA v53.gWhen.gOp, sA v53.gWhen.gKind, sA v53.gWhen.gName, .ro .unk v53.gWhen.gValues.length (TValue.cl v53.gWhen.gValues), .ro .unk v53.gWhen.gKids.length (TExpr.cl v53.gWhen.gKids), iA v53.gServe.gVariation, sA v53.gServe.gKind, sA v53.gServe.gBy, sA v53.gServe.gSalt, .ro .unk v53.gServe.gSplit.length (TRange.cl v53.gServe.gSplit)] ++ tl53)), (34, sA v53.gName), (35, .ro .unk x0.length (TRule.cl x0)), (36, iA v37)] (AD_index (d := (some 37)) (sz := 11) (c := TRule.cs) (by kernel_rfl) rfl (eq_TRule_cl _) (fun _ => rfl) (by decide) hv54 (fun tl54 => ?_))
                refine RD 3 60 [] [(0, .ro .unk x0.length (TRule.cl x0)), (1, iA x1), (5, iA v37), (6, iA v51), (30, .ro .unk x0.length (TRule.cl x0)), (31, iA v51), (32, .rop ([sA v53.gName, iA v53.gWhen.gOp, sA v53.gWhen.gKind, sA v53.gWhen.gName, .ro .unk v53.gWhen.gValues.length (TValue.cl v53.gWhen.gValues), .ro .unk v53.gWhen.gKids.length (TExpr.cl v53.gWhen.gKids), iA v53.gServe.gVariation, sA v53.gServe.gKind, sA v53.gServe.gBy, sA v53.gServe.gSalt, .ro .unk v53.gServe.gSplit.length (TRange.cl v53.gServe.gSplit)] ++ tl53)), (33, .rop ([sA v53.gName, iA v53.gWhen.gOp, sA v53.gWhen.gKind, sA v53.gWhen.gName, .ro .unk v53.gWhen.gValues.length (TValue.cl v53.gWhen.gValues), .ro .unk v53.gWhen.gKids.length (TExpr.cl v53.gWhen.gKids), iA v53.gServe.gVariation, sA v53.gServe.gKind, sA v53.gServe.gBy, sA v53.gServe.gSalt, .ro .unk v53.gServe.gSplit.length (TRange.cl v53.gServe.gSplit)] ++ tl53)), (34, sA v53.gName), (35, .ro .unk x0.length (TRule.cl x0)), (36, iA v37), (37, .rop ([sA v54.gName, iA v54.gWhen.gOp, sA v54.gWhen.gKind, sA v54.gWhen.gName, .ro .unk v54.gWhen.gValues.length (TValue.cl v54.gWhen.gValues), .ro .unk v54.gWhen.gKids.length (TExpr.cl v54.gWhen.gKids), iA v54.gServe.gVariation, sA v54.gServe.gKind, sA v54.gServe.gBy, sA v54.gServe.gSalt, .ro .unk v54.gServe.gSplit.length (TRange.cl v54.gServe.gSplit)] ++ tl54)), (38, .rop ([sA v54.gName, iA v54.gWhen.gOp, sA v54.gWhen.gKind, sA v54.gWhen.gName, .ro .unk v54.gWhen.gValues.length (TValue.cl v54.gWhen.gValues), .ro .unk v54.gWhen.gKids.length (TExpr.cl v54.gWhen.gKids), iA v54.gServe.gVariation, sA v54.gServe.gKind, sA v54.gServe.gBy, sA v54.gServe.gSalt, .ro .unk v54.gServe.gSplit.length (TRange.cl v54.gServe.gSplit)] ++ tl54)), (39, sA v54.gName), (40, bA (seq' v53.gName v54.gName))] ?_
                exact AD_here [0, 1, 5, 6, 40] (by kernel_rfl) rfl
              refine CD H (fun hb55 H => ?_) (fun hb55 H => ?_)
              · refine AWP_reg (Rh 1 60 [(4, iA 10)] (AOps_done ?_))
                exact AWP_ret (FR H)
              · refine AWP_skip ?_
                show AWP _ _ _ _ _ _ _
                refine AWP_region ?_
                refine Rh 3 60 [(0, .ro .unk x0.length (TRule.cl x0)), (1, iA x1), (5, iA v37), (6, iA (w64 (v51 + 1)))] (AOps_done ?_)
                exact Exists.intro (w64 (v51 + 1)) (Exists.intro n ⟨by omega, ⟨by omega, H⟩, Norm_fd [0, 1, 5, 6] 0 (by kernel_rfl) rfl rfl trivial (by refine scL_fr ?_; exact ⟨(scl_TRule_cl _ _), trivial, trivial, trivial, trivial⟩)⟩)
            · refine AWP_exit ?_
              show AWP _ _ _ _ _ _ _
              refine AWP_seq (AWP_reg (Rh 2 60 [(0, .ro .unk x0.length (TRule.cl x0)), (1, iA x1), (5, iA v37), (41, .ro .unk x0.length (TRule.cl x0)), (42, iA v37)] ?_))
              obtain ⟨v56, hv56, H⟩ := bind_some H
              refine AOps_index (d := (some 43)) (sz := 11) (c := TRule.cs) (by kernel_rfl) rfl (eq_TRule_cl _) (fun _ => rfl) (by decide) hv56 (fun tl56 => ?_)
              refine Rh 2 60 [(0, .ro .unk x0.length (TRule.cl x0)), (1, iA x1), (5, iA v37), (45, .agg (TExpr.cs v56.gWhen))] ?_
              obtain ⟨v57, hv57, H⟩ := bind_some H
              refine AOps_callp (d := (some 46)) (al := [.agg (TExpr.cs v56.gWhen)]) (r := iA v57) (by kernel_rfl) (s_ref6_Expr hG hv57) ⟨(sc_TExpr_cs _ _), trivial⟩ trivial ?_
              refine Rh 1 60 [(0, .ro .unk x0.length (TRule.cl x0)), (1, iA x1), (5, iA v37), (7, iA v57)] (AOps_done (AWP_reg (Rh 2 60 [(0, .ro .unk x0.length (TRule.cl x0)), (1, iA x1), (5, iA v37), (7, iA v57), (48, bA (v57 != 0))] (AOps_done (CD H (fun hb58 H => ?_) (fun hb58 H => ?_))))))
              · refine AWP_reg (Rh 2 60 [(4, iA v57)] (AOps_done ?_))
                exact AWP_ret (FR H)
              · refine AWP_skip ?_
                show AWP _ _ _ _ _ _ _
                refine AWP_reg (Rh 2 60 [(0, .ro .unk x0.length (TRule.cl x0)), (1, iA x1), (5, iA v37), (50, .ro .unk x0.length (TRule.cl x0)), (51, iA v37)] ?_)
                obtain ⟨v59, hv59, H⟩ := bind_some H
                refine AOps_index (d := (some 52)) (sz := 11) (c := TRule.cs) (by kernel_rfl) rfl (eq_TRule_cl _) (fun _ => rfl) (by decide) hv59 (fun tl59 => ?_)
                refine Rh 3 60 [(0, .ro .unk x0.length (TRule.cl x0)), (1, iA x1), (5, iA v37), (54, .agg (TServe.cs v59.gServe)), (55, iA x1)] ?_
                obtain ⟨v60, hv60, H⟩ := bind_some H
                refine AOps_callp (d := (some 56)) (al := [.agg (TServe.cs v59.gServe), iA x1]) (r := iA v60) (by kernel_rfl) (s_ref6_Serve hG hv60) ⟨(sc_TServe_cs _ _), trivial, trivial⟩ trivial ?_
                refine Rh 1 60 [(0, .ro .unk x0.length (TRule.cl x0)), (1, iA x1), (5, iA v37), (8, iA v60)] (AOps_done (AWP_reg (Rh 2 60 [(0, .ro .unk x0.length (TRule.cl x0)), (1, iA x1), (5, iA v37), (8, iA v60), (58, bA (v60 != 0))] (AOps_done (CD H (fun hb61 H => ?_) (fun hb61 H => ?_))))))
                · refine AWP_reg (Rh 2 60 [(4, iA v60)] (AOps_done ?_))
                  exact AWP_ret (FR H)
                · refine AWP_skip ?_
                  show AWP _ _ _ _ _ _ _
                  refine AWP_region ?_
                  refine Rh 3 60 [(0, .ro .unk x0.length (TRule.cl x0)), (1, iA x1), (5, iA (w64 (v37 + 1)))] (AOps_done ?_)
                  exact Exists.intro (w64 (v37 + 1)) (Exists.intro n ⟨by omega, ⟨by omega, H⟩, Norm_fd [0, 1, 5] 0 (by kernel_rfl) rfl rfl trivial (by refine scL_fr ?_; exact ⟨(scl_TRule_cl _ _), trivial, trivial, trivial⟩)⟩)
      · refine AWP_exit ?_
        show AWP _ _ _ _ _ _ _
        refine AWP_reg (Rh 1 60 [(4, iA 0)] (AOps_done ?_))
        exact AWP_ret (FR H)
end Go.Proofs.YtjhbobacbaikoaaGreatDoor
/- Functions of the program as pure functions, and that the program computes these. -/
namespace Go.Proofs.YtjhbobacbaikoaaGreatDoor
open Go
set_option linter.unusedVariables false
set_option linter.unusedSimpArgs false
set_option maxRecDepth 100000
def p_ref6_Flag (n : Nat) (x0 : TFlag) : Option Int :=
(p_ref1_Key n x0.gKey).bind fun v1 =>
(bif !v1 then
 some (6)
 else
(bif (decide (x0.gKind < 1)) || (decide (x0.gKind > 5)) then
 some (7)
 else
(p_ref6_variations n x0).bind fun v4 =>
(bif v4 != 0 then
 some (v4)
 else
(p_ref6_prerequisites n x0.gPrerequisites).bind fun v6 =>
(bif v6 != 0 then
 some (v6)
 else
(p_ref6_targets n x0.gTargets (lI x0.gVariations)).bind fun v8 =>
(bif v8 != 0 then
 some (v8)
 else
(p_ref6_rules n x0.gRules (lI x0.gVariations)).bind fun v10 =>
(bif v10 != 0 then
 some (v10)
 else
(p_ref6_Serve n x0.gDefault (lI x0.gVariations)).bind fun v12 =>
 some (v12)))))))
def p_shape_None (n : Nat) (x0 : TExpr) : Option Bool :=
 some (((((x0.gOp == 0) && (seq' x0.gKind ByteArray.empty)) && (seq' x0.gName ByteArray.empty)) && ((lI x0.gValues) == 0)) && ((lI x0.gKids) == 0))
def p_shape_Segment (n : Nat) (x0 : TSegment) : Option Int :=
(p_text_Key n x0.gKey).bind fun v1 =>
(bif !(!v1) then p_text_Key n x0.gKind else some (false)).bind fun v2 =>
(p_shape_when n ((!v1) || (!v2)) 6).bind fun v3 =>
(p_shape_keys n x0.gInclude).bind fun v4 =>
(p_shape_keys n x0.gExclude).bind fun v5 =>
(p_shape_first n ([v3, v4, v5])).bind fun v6 =>
(bif !(v6 != 0) then p_shape_None n x0.gWhen else some (false)).bind fun v7 =>
(bif (v6 != 0) || v7 then
 some (v6)
 else
(p_shape_Expr n x0.gWhen).bind fun v9 =>
 some (v9))
def p_ref6_None (n : Nat) (x0 : TExpr) : Option Bool :=
 some (((((x0.gOp == 0) && (seq' x0.gKind ByteArray.empty)) && (seq' x0.gName ByteArray.empty)) && ((lI x0.gValues) == 0)) && ((lI x0.gKids) == 0))
def p_ref6_Segment (n : Nat) (x0 : TSegment) : Option Int :=
(p_ref1_Key n x0.gKey).bind fun v1 =>
(bif !(!v1) then p_ref1_Key n x0.gKind else some (false)).bind fun v2 =>
(bif (!v1) || (!v2) then
 some (6)
 else
(p_ref6_members n x0.gInclude).bind fun v4 =>
(bif v4 != 0 then
 some (v4)
 else
(p_ref6_members n x0.gExclude).bind fun v6 =>
(bif v6 != 0 then
 some (v6)
 else
(p_ref6_None n x0.gWhen).bind fun v8 =>
(bif v8 then
 some (0)
 else
(p_ref6_Expr n x0.gWhen).bind fun v10 =>
 some (v10)))))
def p_shape_inside (n : Nat) (x0 : Int) (x1 : Int) : Option Bool :=
 some (((decide (0 ≤ x0)) && (decide (x0 < x1))) && (decide (x1 ≤ 10000)))
variable {E : Env}
theorem s_ref6_Flag {n : Nat} (hG : GlobT E) {x0 : TFlag} {r : Int} (H : p_ref6_Flag n x0 = some r) :
    Sp Tryz.prog E 35 [.agg (TFlag.cs x0)] [] (isA (iA r) []) := by
  unfold p_ref6_Flag at H
  refine Sp_fn Tryz.func35 rfl (fun hc hs => ?_)
  refine AWP_reg (R 2 52 [(1, .ptr 0 0)] [.cells 65 (TFlag.cs x0)] (AOps_done (AWP_reg (Rh 4 52 [(1, .ptr 0 0), (3, iA (lI x0.gVariations))] (AOps_done (AWP_seq (AWP_reg (Rh 2 52 [(1, .ptr 0 0), (3, iA (lI x0.gVariations)), (12, sA x0.gKey)] ?_))))))))
  obtain ⟨v1, hv1, H⟩ := bind_some H
  refine AOps_callp (d := (some 13)) (al := [sA x0.gKey]) (r := bA v1) (by kernel_rfl) (s_ref1_Key hv1) ⟨trivial, trivial⟩ trivial ?_
  refine Rh 1 52 [(1, .ptr 0 0), (3, iA (lI x0.gVariations)), (14, bA (!v1))] (AOps_done (CD H (fun hb2 H => ?_) (fun hb2 H => ?_)))
  · refine AWP_reg (Rh 1 52 [(2, iA 6)] (AOps_done ?_))
    exact AWP_ret (FR H)
  · refine AWP_skip ?_
    show AWP _ _ _ _ _ _ _
    refine AWP_seq (AWP_reg (Rh 4 52 [(1, .ptr 0 0), (3, iA (lI x0.gVariations)), (18, bA (decide (x0.gKind < 1)))] (AOps_run 4 [1, 3, 22] (st' := fr 52 [(1, .ptr 0 0), (3, iA (lI x0.gVariations)), (22, bA ((decide (x0.gKind < 1)) || (decide (x0.gKind > 5))))]) (h' := [.cells 65 (TFlag.cs x0)]) (by (generalize (decide (x0.gKind < 1)) = t0; cases t0 <;> kernel_rfl)) ?_)))
    refine AOps_done (CD H (fun hb3 H => ?_) (fun hb3 H => ?_))
    · refine AWP_reg (Rh 1 52 [(2, iA 7)] (AOps_done ?_))
      exact AWP_ret (FR H)
    · refine AWP_skip ?_
      show AWP _ _ _ _ _ _ _
      refine AWP_seq (AWP_reg (Rh 1 52 [(1, .ptr 0 0), (3, iA (lI x0.gVariations)), (23, .agg (TFlag.cs x0))] ?_))
      obtain ⟨v4, hv4, H⟩ := bind_some H
      refine AOps_callp (d := (some 24)) (al := [.agg (TFlag.cs x0)]) (r := iA v4) (by kernel_rfl) (s_ref6_variations hG hv4) ⟨(sc_TFlag_cs _ _), trivial⟩ trivial ?_
      refine Rh 1 52 [(1, .ptr 0 0), (3, iA (lI x0.gVariations)), (4, iA v4)] (AOps_done (AWP_reg (Rh 2 52 [(1, .ptr 0 0), (3, iA (lI x0.gVariations)), (4, iA v4), (26, bA (v4 != 0))] (AOps_done (CD H (fun hb5 H => ?_) (fun hb5 H => ?_))))))
      · refine AWP_reg (Rh 2 52 [(2, iA v4)] (AOps_done ?_))
        exact AWP_ret (FR H)
      · refine AWP_skip ?_
        show AWP _ _ _ _ _ _ _
        refine AWP_seq (AWP_reg (Rh 2 52 [(1, .ptr 0 0), (3, iA (lI x0.gVariations)), (29, .ro .unk x0.gPrerequisites.length (TPrerequisite.cl x0.gPrerequisites))] ?_))
        obtain ⟨v6, hv6, H⟩ := bind_some H
        refine AOps_callp (d := (some 30)) (al := [.ro .unk x0.gPrerequisites.length (TPrerequisite.cl x0.gPrerequisites)]) (r := iA v6) (by kernel_rfl) (s_ref6_prerequisites hv6) ⟨(scl_TPrerequisite_cl _ _), trivial⟩ trivial ?_
        refine Rh 1 52 [(1, .ptr 0 0), (3, iA (lI x0.gVariations)), (5, iA v6)] (AOps_done (AWP_reg (Rh 2 52 [(1, .ptr 0 0), (3, iA (lI x0.gVariations)), (5, iA v6), (32, bA (v6 != 0))] (AOps_done (CD H (fun hb7 H => ?_) (fun hb7 H => ?_))))))
        · refine AWP_reg (Rh 2 52 [(2, iA v6)] (AOps_done ?_))
          exact AWP_ret (FR H)
        · refine AWP_skip ?_
          show AWP _ _ _ _ _ _ _
          refine AWP_seq (AWP_reg (Rh 3 52 [(1, .ptr 0 0), (3, iA (lI x0.gVariations)), (35, .ro .unk x0.gTargets.length (TTarget.cl x0.gTargets)), (36, iA (lI x0.gVariations))] ?_))
          obtain ⟨v8, hv8, H⟩ := bind_some H
          refine AOps_callp (d := (some 37)) (al := [.ro .unk x0.gTargets.length (TTarget.cl x0.gTargets), iA (lI x0.gVariations)]) (r := iA v8) (by kernel_rfl) (s_ref6_targets hG hv8) ⟨(scl_TTarget_cl _ _), trivial, trivial⟩ trivial ?_
          refine Rh 1 52 [(1, .ptr 0 0), (3, iA (lI x0.gVariations)), (6, iA v8)] (AOps_done (AWP_reg (Rh 2 52 [(1, .ptr 0 0), (3, iA (lI x0.gVariations)), (6, iA v8), (39, bA (v8 != 0))] (AOps_done (CD H (fun hb9 H => ?_) (fun hb9 H => ?_))))))
          · refine AWP_reg (Rh 2 52 [(2, iA v8)] (AOps_done ?_))
            exact AWP_ret (FR H)
          · refine AWP_skip ?_
            show AWP _ _ _ _ _ _ _
            refine AWP_seq (AWP_reg (Rh 3 52 [(1, .ptr 0 0), (3, iA (lI x0.gVariations)), (42, .ro .unk x0.gRules.length (TRule.cl x0.gRules)), (43, iA (lI x0.gVariations))] ?_))
            obtain ⟨v10, hv10, H⟩ := bind_some H
            refine AOps_callp (d := (some 44)) (al := [.ro .unk x0.gRules.length (TRule.cl x0.gRules), iA (lI x0.gVariations)]) (r := iA v10) (by kernel_rfl) (s_ref6_rules hG hv10) ⟨(scl_TRule_cl _ _), trivial, trivial⟩ trivial ?_
            refine Rh 1 52 [(1, .ptr 0 0), (3, iA (lI x0.gVariations)), (7, iA v10)] (AOps_done (AWP_reg (Rh 2 52 [(1, .ptr 0 0), (3, iA (lI x0.gVariations)), (7, iA v10), (46, bA (v10 != 0))] (AOps_done (CD H (fun hb11 H => ?_) (fun hb11 H => ?_))))))
            · refine AWP_reg (Rh 2 52 [(2, iA v10)] (AOps_done ?_))
              exact AWP_ret (FR H)
            · refine AWP_skip ?_
              show AWP _ _ _ _ _ _ _
              refine AWP_reg (Rh 3 52 [(49, .agg (TServe.cs x0.gDefault)), (50, iA (lI x0.gVariations))] ?_)
              obtain ⟨v12, hv12, H⟩ := bind_some H
              refine AOps_callp (d := (some 51)) (al := [.agg (TServe.cs x0.gDefault), iA (lI x0.gVariations)]) (r := iA v12) (by kernel_rfl) (s_ref6_Serve hG hv12) ⟨(sc_TServe_cs _ _), trivial, trivial⟩ trivial ?_
              refine Rh 1 52 [(2, iA v12)] (AOps_done ?_)
              exact AWP_ret (FR H)
theorem s_shape_None {n : Nat} {x0 : TExpr} {r : Bool} (H : p_shape_None n x0 = some r) :
    Sp Tryz.prog E 17 [.agg (TExpr.cs x0)] [] (isA (bA r) []) := by
  unfold p_shape_None at H
  refine Sp_fn Tryz.func17 rfl (fun hc hs => ?_)
  refine AWP_reg (R 2 28 [(1, .ptr 0 0)] [.cells 25 (TExpr.cs x0)] (AOps_done (AWP_reg (Rh 4 28 [(1, .ptr 0 0), (6, bA (x0.gOp == 0))] (AOps_run 4 [1, 10] (st' := fr 28 [(1, .ptr 0 0), (10, bA ((x0.gOp == 0) && (seq' x0.gKind ByteArray.empty)))]) (h' := [.cells 25 (TExpr.cs x0)]) (by (generalize (x0.gOp == 0) = t0; cases t0 <;> kernel_rfl)) ?_)))))
  refine Rh 1 28 [(1, .ptr 0 0), (11, bA ((x0.gOp == 0) && (seq' x0.gKind ByteArray.empty)))] (AOps_run 4 [1, 15] (st' := fr 28 [(1, .ptr 0 0), (15, bA (((x0.gOp == 0) && (seq' x0.gKind ByteArray.empty)) && (seq' x0.gName ByteArray.empty)))]) (h' := [.cells 25 (TExpr.cs x0)]) (by (generalize (x0.gOp == 0) = t0; generalize (seq' x0.gKind ByteArray.empty) = t1; cases t0 <;> cases t1 <;> kernel_rfl)) ?_)
  refine Rh 1 28 [(1, .ptr 0 0), (16, bA (((x0.gOp == 0) && (seq' x0.gKind ByteArray.empty)) && (seq' x0.gName ByteArray.empty)))] (AOps_run 5 [1, 21] (st' := fr 28 [(1, .ptr 0 0), (21, bA ((((x0.gOp == 0) && (seq' x0.gKind ByteArray.empty)) && (seq' x0.gName ByteArray.empty)) && ((lI x0.gValues) == 0)))]) (h' := [.cells 25 (TExpr.cs x0)]) (by (generalize (x0.gOp == 0) = t0; generalize (seq' x0.gKind ByteArray.empty) = t1; generalize (seq' x0.gName ByteArray.empty) = t2; cases t0 <;> cases t1 <;> cases t2 <;> kernel_rfl)) ?_)
  refine Rh 1 28 [(1, .ptr 0 0), (22, bA ((((x0.gOp == 0) && (seq' x0.gKind ByteArray.empty)) && (seq' x0.gName ByteArray.empty)) && ((lI x0.gValues) == 0)))] (AOps_run 5 [27] (st' := fr 28 [(27, bA (((((x0.gOp == 0) && (seq' x0.gKind ByteArray.empty)) && (seq' x0.gName ByteArray.empty)) && ((lI x0.gValues) == 0)) && ((lI x0.gKids) == 0)))]) (h' := [.cells 25 (TExpr.cs x0)]) (by (generalize (x0.gOp == 0) = t0; generalize (seq' x0.gKind ByteArray.empty) = t1; generalize (seq' x0.gName ByteArray.empty) = t2; generalize ((lI x0.gValues) == 0) = t3; cases t0 <;> cases t1 <;> cases t2 <;> cases t3 <;> kernel_rfl)) ?_)
  refine Rh 1 28 [(2, bA (((((x0.gOp == 0) && (seq' x0.gKind ByteArray.empty)) && (seq' x0.gName ByteArray.empty)) && ((lI x0.gValues) == 0)) && ((lI x0.gKids) == 0)))] (AOps_done ?_)
  exact AWP_ret (FR H)
theorem s_shape_Segment {n : Nat} (hG : GlobT E) {x0 : TSegment} {r : Int} (H : p_shape_Segment n x0 = some r) :
    Sp Tryz.prog E 36 [.agg (TSegment.cs x0)] [] (isA (iA r) []) := by
  unfold p_shape_Segment at H
  refine Sp_fn Tryz.func36 rfl (fun hc hs => ?_)
  refine AWP_reg (R 2 34 [(1, .ptr 0 0)] [.cells 71 (TSegment.cs x0)] (AOps_done (AWP_seq ?_)))
  obtain ⟨v1, hv1, H⟩ := bind_some H
  obtain ⟨v2, hv2, H⟩ := bind_some H
  obtain ⟨v3, hv3, H⟩ := bind_some H
  obtain ⟨v4, hv4, H⟩ := bind_some H
  obtain ⟨v5, hv5, H⟩ := bind_some H
  obtain ⟨v6, hv6, H⟩ := bind_some H
  refine AWP_regD1 [0, 1, 11, 12, 14, 15, 2, 3, 4, 5, 6, 7, 8, 9, 10, 13, 16, 17, 18, 19] (N := 34) (f := [(1, .ptr 0 0)]) (leL_of [1] (by kernel_rfl)) mixed (by kernel_rfl) (by kernel_rfl) (st' := fr 34 [(1, .ptr 0 0), (3, iA v6)]) (h' := [.cells 71 (TSegment.cs x0)]) ?_ ?_
  rotate_left
  · refine RD 6 34 [(15, 0), (14, 0), (12, 0), (11, 0), (1, 0), (0, 0)] [(1, .ptr 0 0), (4, .ptr 0 0), (5, sA x0.gKey), (15, .ptr 0 2), (16, .ro .unk x0.gInclude.length (cl_str x0.gInclude)), (18, .ptr 0 3), (19, .ro .unk x0.gExclude.length (cl_str x0.gExclude))] (AD_callp (d := (some 6)) (al := [sA x0.gKey]) (r := bA v1) (by kernel_rfl) (s_text_Key hG hv1) ⟨trivial, trivial⟩ trivial ?_)
    refine RD 2 34 [(15, 0), (14, 0), (12, 0), (11, 0), (1, 0), (0, 0)] [(1, .ptr 0 0), (4, .ptr 0 0), (5, sA x0.gKey), (6, bA v1), (7, bA (!v1)), (8, bA (!v1)), (15, .ptr 0 2), (16, .ro .unk x0.gInclude.length (cl_str x0.gInclude)), (18, .ptr 0 3), (19, .ro .unk x0.gExclude.length (cl_str x0.gExclude))] ?_
    cases c1 : (v1 : Bool) with
    | true =>
      refine RD 2 34 [(6, 0), (5, 0), (15, 0), (14, 0), (12, 0), (11, 0), (1, 0), (0, 0)] [(1, .ptr 0 0), (4, .ptr 0 0), (5, sA x0.gKey), (6, bA true), (7, bA (!true)), (8, bA (!true)), (9, .ptr 0 1), (10, sA x0.gKind), (15, .ptr 0 2), (16, .ro .unk x0.gInclude.length (cl_str x0.gInclude)), (18, .ptr 0 3), (19, .ro .unk x0.gExclude.length (cl_str x0.gExclude))] ?_
      have hv2_ := cond_t hv2 (by simp only [c1] <;> rfl)
      refine AD_callp (d := (some 11)) (al := [sA x0.gKind]) (r := bA v2) (by kernel_rfl) (s_text_Key hG hv2_) ⟨trivial, trivial⟩ trivial ?_
      refine RD 2 34 [(6, 0), (5, 0), (15, 0), (14, 0), (12, 0), (11, 0), (1, 0), (0, 0)] [(1, .ptr 0 0), (4, .ptr 0 0), (5, sA x0.gKey), (6, bA true), (7, bA (!true)), (8, bA (!true)), (9, .ptr 0 1), (10, sA x0.gKind), (11, bA v2), (12, bA (!v2)), (13, bA ((!true) || (!v2))), (15, .ptr 0 2), (16, .ro .unk x0.gInclude.length (cl_str x0.gInclude)), (18, .ptr 0 3), (19, .ro .unk x0.gExclude.length (cl_str x0.gExclude))] ?_
      try rw [c1] at hv3
      refine AD_callp (d := (some 14)) (al := [bA ((!true) || (!v2)), iA 6]) (r := iA v3) (by kernel_rfl) (s_shape_when hv3) ⟨trivial, trivial, trivial⟩ trivial ?_
      refine AD_callp (d := (some 17)) (al := [.ro .unk x0.gInclude.length (cl_str x0.gInclude)]) (r := iA v4) (by kernel_rfl) (s_shape_keys hG hv4) ⟨(scl_cl_str _ _), trivial⟩ trivial ?_
      refine AD_callp (d := (some 20)) (al := [.ro .unk x0.gExclude.length (cl_str x0.gExclude)]) (r := iA v5) (by kernel_rfl) (s_shape_keys hG hv5) ⟨(scl_cl_str _ _), trivial⟩ trivial ?_
      refine AD_bsl (d := (some 21)) (m := 3) (cs := [iA v3, iA v4, iA v5]) (by kernel_rfl) ⟨trivial, trivial, trivial, trivial⟩ ?_
      refine AD_callp (d := (some 22)) (al := [.ro .unk ([v3, v4, v5]).length (cl_i64 ([v3, v4, v5]))]) (r := iA v6) (by kernel_rfl) (s_shape_first hv6) ⟨(scl_cl_i64 _ _), trivial⟩ trivial ?_
      refine RD 1 34 [(6, 0), (5, 0), (15, 0), (14, 0), (12, 0), (11, 0), (1, 0), (0, 0)] [(1, .ptr 0 0), (3, iA v6), (4, .ptr 0 0), (5, sA x0.gKey), (6, bA true), (7, bA (!true)), (8, bA (!true)), (9, .ptr 0 1), (10, sA x0.gKind), (11, bA v2), (12, bA (!v2)), (13, bA ((!true) || (!v2))), (14, iA v3), (15, .ptr 0 2), (16, .ro .unk x0.gInclude.length (cl_str x0.gInclude)), (17, iA v4), (18, .ptr 0 3), (19, .ro .unk x0.gExclude.length (cl_str x0.gExclude)), (20, iA v5), (21, .ro .unk ([v3, v4, v5]).length (cl_i64 ([v3, v4, v5]))), (22, iA v6)] ?_
      exact AD_here [1, 3] (by kernel_rfl) rfl
    | false =>
      refine RD 2 34 [(15, 0), (14, 0), (12, 0), (11, 0), (1, 0), (0, 0)] [(1, .ptr 0 0), (4, .ptr 0 0), (5, sA x0.gKey), (6, bA false), (7, bA (!false)), (8, bA (!false)), (9, undefA), (10, undefA), (15, .ptr 0 2), (16, .ro .unk x0.gInclude.length (cl_str x0.gInclude)), (18, .ptr 0 3), (19, .ro .unk x0.gExclude.length (cl_str x0.gExclude))] (AD_offB (d := some 11) (by kernel_rfl) ?_)
      refine RD 2 34 [(15, 0), (14, 0), (12, 0), (11, 0), (1, 0), (0, 0)] [(1, .ptr 0 0), (4, .ptr 0 0), (5, sA x0.gKey), (6, bA false), (7, bA (!false)), (8, bA (!false)), (9, undefA), (10, undefA), (11, undefA), (12, undefA), (13, bA ((!false) || (!v2))), (15, .ptr 0 2), (16, .ro .unk x0.gInclude.length (cl_str x0.gInclude)), (18, .ptr 0 3), (19, .ro .unk x0.gExclude.length (cl_str x0.gExclude))] ?_
      try rw [c1] at hv3
      refine AD_callp (d := (some 14)) (al := [bA ((!false) || (!v2)), iA 6]) (r := iA v3) (by kernel_rfl) (s_shape_when hv3) ⟨trivial, trivial, trivial⟩ trivial ?_
      refine AD_callp (d := (some 17)) (al := [.ro .unk x0.gInclude.length (cl_str x0.gInclude)]) (r := iA v4) (by kernel_rfl) (s_shape_keys hG hv4) ⟨(scl_cl_str _ _), trivial⟩ trivial ?_
      refine AD_callp (d := (some 20)) (al := [.ro .unk x0.gExclude.length (cl_str x0.gExclude)]) (r := iA v5) (by kernel_rfl) (s_shape_keys hG hv5) ⟨(scl_cl_str _ _), trivial⟩ trivial ?_
      refine AD_bsl (d := (some 21)) (m := 3) (cs := [iA v3, iA v4, iA v5]) (by kernel_rfl) ⟨trivial, trivial, trivial, trivial⟩ ?_
      refine AD_callp (d := (some 22)) (al := [.ro .unk ([v3, v4, v5]).length (cl_i64 ([v3, v4, v5]))]) (r := iA v6) (by kernel_rfl) (s_shape_first hv6) ⟨(scl_cl_i64 _ _), trivial⟩ trivial ?_
      refine RD 1 34 [(15, 0), (14, 0), (12, 0), (11, 0), (1, 0), (0, 0)] [(1, .ptr 0 0), (3, iA v6), (4, .ptr 0 0), (5, sA x0.gKey), (6, bA false), (7, bA (!false)), (8, bA (!false)), (9, undefA), (10, undefA), (11, undefA), (12, undefA), (13, bA ((!false) || (!v2))), (14, iA v3), (15, .ptr 0 2), (16, .ro .unk x0.gInclude.length (cl_str x0.gInclude)), (17, iA v4), (18, .ptr 0 3), (19, .ro .unk x0.gExclude.length (cl_str x0.gExclude)), (20, iA v5), (21, .ro .unk ([v3, v4, v5]).length (cl_i64 ([v3, v4, v5]))), (22, iA v6)] ?_
      exact AD_here [1, 3] (by kernel_rfl) rfl
  refine AWP_reg (Rh 3 34 [(1, .ptr 0 0), (3, iA v6), (25, bA (v6 != 0))] ?_)
  obtain ⟨v7, hv7, H⟩ := bind_some H
  refine AOps_cut 4 (st' := fr 34 [(1, .ptr 0 0), (3, iA v6), (29, bA ((v6 != 0) || v7))]) (h' := [.cells 71 (TSegment.cs x0)]) ?_ ?_
  rotate_left
  · cases c1 : (v6 != 0 : Bool) with
    | true =>
      refine R 4 34 [(1, .ptr 0 0), (3, iA v6), (29, bA (true || v7))] [.cells 71 (TSegment.cs x0)] ?_
      exact AOps_here [1, 3, 29] (by kernel_rfl) rfl
    | false =>
      refine R 2 34 [(1, .ptr 0 0), (3, iA v6), (25, bA false), (27, .agg (TExpr.cs x0.gWhen))] [.cells 71 (TSegment.cs x0)] ?_
      have hv7_ := cond_t hv7 (by simp only [c1] <;> rfl)
      refine AOps_callp (d := (some 28)) (al := [.agg (TExpr.cs x0.gWhen)]) (r := bA v7) (by kernel_rfl) (s_shape_None hv7_) ⟨(sc_TExpr_cs _ _), trivial⟩ trivial ?_
      refine R 1 34 [(1, .ptr 0 0), (3, iA v6), (29, bA (false || v7))] [.cells 71 (TSegment.cs x0)] ?_
      exact AOps_here [1, 3, 29] (by kernel_rfl) rfl
  refine AOps_done (CD H (fun hb8 H => ?_) (fun hb8 H => ?_))
  · refine AWP_reg (Rh 2 34 [(2, iA v6)] (AOps_done ?_))
    exact AWP_ret (FR H)
  · refine AWP_skip ?_
    show AWP _ _ _ _ _ _ _
    refine AWP_reg (Rh 2 34 [(32, .agg (TExpr.cs x0.gWhen))] ?_)
    obtain ⟨v9, hv9, H⟩ := bind_some H
    refine AOps_callp (d := (some 33)) (al := [.agg (TExpr.cs x0.gWhen)]) (r := iA v9) (by kernel_rfl) (s_shape_Expr hG hv9) ⟨(sc_TExpr_cs _ _), trivial⟩ trivial ?_
    refine Rh 1 34 [(2, iA v9)] (AOps_done ?_)
    exact AWP_ret (FR H)
theorem s_ref6_None {n : Nat} {x0 : TExpr} {r : Bool} (H : p_ref6_None n x0 = some r) :
    Sp Tryz.prog E 18 [.agg (TExpr.cs x0)] [] (isA (bA r) []) := by
  unfold p_ref6_None at H
  refine Sp_fn Tryz.func18 rfl (fun hc hs => ?_)
  refine AWP_reg (R 2 28 [(1, .ptr 0 0)] [.cells 25 (TExpr.cs x0)] (AOps_done (AWP_reg (Rh 4 28 [(1, .ptr 0 0), (6, bA (x0.gOp == 0))] (AOps_run 4 [1, 10] (st' := fr 28 [(1, .ptr 0 0), (10, bA ((x0.gOp == 0) && (seq' x0.gKind ByteArray.empty)))]) (h' := [.cells 25 (TExpr.cs x0)]) (by (generalize (x0.gOp == 0) = t0; cases t0 <;> kernel_rfl)) ?_)))))
  refine Rh 1 28 [(1, .ptr 0 0), (11, bA ((x0.gOp == 0) && (seq' x0.gKind ByteArray.empty)))] (AOps_run 4 [1, 15] (st' := fr 28 [(1, .ptr 0 0), (15, bA (((x0.gOp == 0) && (seq' x0.gKind ByteArray.empty)) && (seq' x0.gName ByteArray.empty)))]) (h' := [.cells 25 (TExpr.cs x0)]) (by (generalize (x0.gOp == 0) = t0; generalize (seq' x0.gKind ByteArray.empty) = t1; cases t0 <;> cases t1 <;> kernel_rfl)) ?_)
  refine Rh 1 28 [(1, .ptr 0 0), (16, bA (((x0.gOp == 0) && (seq' x0.gKind ByteArray.empty)) && (seq' x0.gName ByteArray.empty)))] (AOps_run 5 [1, 21] (st' := fr 28 [(1, .ptr 0 0), (21, bA ((((x0.gOp == 0) && (seq' x0.gKind ByteArray.empty)) && (seq' x0.gName ByteArray.empty)) && ((lI x0.gValues) == 0)))]) (h' := [.cells 25 (TExpr.cs x0)]) (by (generalize (x0.gOp == 0) = t0; generalize (seq' x0.gKind ByteArray.empty) = t1; generalize (seq' x0.gName ByteArray.empty) = t2; cases t0 <;> cases t1 <;> cases t2 <;> kernel_rfl)) ?_)
  refine Rh 1 28 [(1, .ptr 0 0), (22, bA ((((x0.gOp == 0) && (seq' x0.gKind ByteArray.empty)) && (seq' x0.gName ByteArray.empty)) && ((lI x0.gValues) == 0)))] (AOps_run 5 [27] (st' := fr 28 [(27, bA (((((x0.gOp == 0) && (seq' x0.gKind ByteArray.empty)) && (seq' x0.gName ByteArray.empty)) && ((lI x0.gValues) == 0)) && ((lI x0.gKids) == 0)))]) (h' := [.cells 25 (TExpr.cs x0)]) (by (generalize (x0.gOp == 0) = t0; generalize (seq' x0.gKind ByteArray.empty) = t1; generalize (seq' x0.gName ByteArray.empty) = t2; generalize ((lI x0.gValues) == 0) = t3; cases t0 <;> cases t1 <;> cases t2 <;> cases t3 <;> kernel_rfl)) ?_)
  refine Rh 1 28 [(2, bA (((((x0.gOp == 0) && (seq' x0.gKind ByteArray.empty)) && (seq' x0.gName ByteArray.empty)) && ((lI x0.gValues) == 0)) && ((lI x0.gKids) == 0)))] (AOps_done ?_)
  exact AWP_ret (FR H)
theorem s_ref6_Segment {n : Nat} (hG : GlobT E) {x0 : TSegment} {r : Int} (H : p_ref6_Segment n x0 = some r) :
    Sp Tryz.prog E 37 [.agg (TSegment.cs x0)] [] (isA (iA r) []) := by
  unfold p_ref6_Segment at H
  refine Sp_fn Tryz.func37 rfl (fun hc hs => ?_)
  refine AWP_reg (R 2 33 [(1, .ptr 0 0)] [.cells 71 (TSegment.cs x0)] (AOps_done (AWP_seq (AWP_reg (Rh 2 33 [(1, .ptr 0 0), (6, sA x0.gKey)] ?_)))))
  obtain ⟨v1, hv1, H⟩ := bind_some H
  refine AOps_callp (d := (some 7)) (al := [sA x0.gKey]) (r := bA v1) (by kernel_rfl) (s_ref1_Key hv1) ⟨trivial, trivial⟩ trivial ?_
  refine Rh 2 33 [(1, .ptr 0 0), (9, bA (!v1))] ?_
  obtain ⟨v2, hv2, H⟩ := bind_some H
  refine AOps_cut 5 (st' := fr 33 [(1, .ptr 0 0), (14, bA ((!v1) || (!v2)))]) (h' := [.cells 71 (TSegment.cs x0)]) ?_ ?_
  rotate_left
  · cases c1 : (v1 : Bool) with
    | true =>
      refine R 2 33 [(1, .ptr 0 0), (9, bA (!true)), (11, sA x0.gKind)] [.cells 71 (TSegment.cs x0)] ?_
      have hv2_ := cond_t hv2 (by simp only [c1] <;> rfl)
      refine AOps_callp (d := (some 12)) (al := [sA x0.gKind]) (r := bA v2) (by kernel_rfl) (s_ref1_Key hv2_) ⟨trivial, trivial⟩ trivial ?_
      refine R 2 33 [(1, .ptr 0 0), (14, bA ((!true) || (!v2)))] [.cells 71 (TSegment.cs x0)] ?_
      exact AOps_here [1, 14] (by kernel_rfl) rfl
    | false =>
      refine R 5 33 [(1, .ptr 0 0), (14, bA ((!false) || (!v2)))] [.cells 71 (TSegment.cs x0)] ?_
      exact AOps_here [1, 14] (by kernel_rfl) rfl
  refine AOps_done (CD H (fun hb3 H => ?_) (fun hb3 H => ?_))
  · refine AWP_reg (Rh 1 33 [(2, iA 6)] (AOps_done ?_))
    exact AWP_ret (FR H)
  · refine AWP_skip ?_
    show AWP _ _ _ _ _ _ _
    refine AWP_seq (AWP_reg (Rh 2 33 [(1, .ptr 0 0), (16, .ro .unk x0.gInclude.length (cl_str x0.gInclude))] ?_))
    obtain ⟨v4, hv4, H⟩ := bind_some H
    refine AOps_callp (d := (some 17)) (al := [.ro .unk x0.gInclude.length (cl_str x0.gInclude)]) (r := iA v4) (by kernel_rfl) (s_ref6_members hG hv4) ⟨(scl_cl_str _ _), trivial⟩ trivial ?_
    refine Rh 1 33 [(1, .ptr 0 0), (3, iA v4)] (AOps_done (AWP_reg (Rh 2 33 [(1, .ptr 0 0), (3, iA v4), (19, bA (v4 != 0))] (AOps_done (CD H (fun hb5 H => ?_) (fun hb5 H => ?_))))))
    · refine AWP_reg (Rh 2 33 [(2, iA v4)] (AOps_done ?_))
      exact AWP_ret (FR H)
    · refine AWP_skip ?_
      show AWP _ _ _ _ _ _ _
      refine AWP_seq (AWP_reg (Rh 2 33 [(1, .ptr 0 0), (22, .ro .unk x0.gExclude.length (cl_str x0.gExclude))] ?_))
      obtain ⟨v6, hv6, H⟩ := bind_some H
      refine AOps_callp (d := (some 23)) (al := [.ro .unk x0.gExclude.length (cl_str x0.gExclude)]) (r := iA v6) (by kernel_rfl) (s_ref6_members hG hv6) ⟨(scl_cl_str _ _), trivial⟩ trivial ?_
      refine Rh 1 33 [(1, .ptr 0 0), (4, iA v6)] (AOps_done (AWP_reg (Rh 2 33 [(1, .ptr 0 0), (4, iA v6), (25, bA (v6 != 0))] (AOps_done (CD H (fun hb7 H => ?_) (fun hb7 H => ?_))))))
      · refine AWP_reg (Rh 2 33 [(2, iA v6)] (AOps_done ?_))
        exact AWP_ret (FR H)
      · refine AWP_skip ?_
        show AWP _ _ _ _ _ _ _
        refine AWP_seq (AWP_reg (Rh 2 33 [(1, .ptr 0 0), (28, .agg (TExpr.cs x0.gWhen))] ?_))
        obtain ⟨v8, hv8, H⟩ := bind_some H
        refine AOps_callp (d := (some 29)) (al := [.agg (TExpr.cs x0.gWhen)]) (r := bA v8) (by kernel_rfl) (s_ref6_None hv8) ⟨(sc_TExpr_cs _ _), trivial⟩ trivial ?_
        refine AOps_done (CD H (fun hb9 H => ?_) (fun hb9 H => ?_))
        · refine AWP_reg (Rh 1 33 [(2, iA 0)] (AOps_done ?_))
          exact AWP_ret (FR H)
        · refine AWP_skip ?_
          show AWP _ _ _ _ _ _ _
          refine AWP_reg (Rh 2 33 [(31, .agg (TExpr.cs x0.gWhen))] ?_)
          obtain ⟨v10, hv10, H⟩ := bind_some H
          refine AOps_callp (d := (some 32)) (al := [.agg (TExpr.cs x0.gWhen)]) (r := iA v10) (by kernel_rfl) (s_ref6_Expr hG hv10) ⟨(sc_TExpr_cs _ _), trivial⟩ trivial ?_
          refine Rh 1 33 [(2, iA v10)] (AOps_done ?_)
          exact AWP_ret (FR H)
theorem s_shape_inside {n : Nat} {x0 : Int} {x1 : Int} {r : Bool} (H : p_shape_inside n x0 x1 = some r) :
    Sp Tryz.prog E 57 [iA x0, iA x1] [] (isA (bA r) []) := by
  unfold p_shape_inside at H
  refine Sp_fn Tryz.func57 rfl (fun hc hs => ?_)
  refine AWP_reg (Rh 1 16 [(0, iA x0), (1, iA x1)] (AOps_done (AWP_reg (Rh 3 16 [(0, iA x0), (1, iA x1), (7, bA (decide (0 ≤ x0)))] (AOps_run 4 [1, 11] (st' := fr 16 [(1, iA x1), (11, bA ((decide (0 ≤ x0)) && (decide (x0 < x1))))]) (h' := []) (by (generalize (decide (0 ≤ x0)) = t0; cases t0 <;> kernel_rfl)) ?_)))))
  refine Rh 1 16 [(1, iA x1), (12, bA ((decide (0 ≤ x0)) && (decide (x0 < x1))))] (AOps_run 3 [15] (st' := fr 16 [(15, bA (((decide (0 ≤ x0)) && (decide (x0 < x1))) && (decide (x1 ≤ 10000))))]) (h' := []) (by (generalize (decide (0 ≤ x0)) = t0; generalize (decide (x0 < x1)) = t1; cases t0 <;> cases t1 <;> kernel_rfl)) ?_)
  refine Rh 1 16 [(4, bA (((decide (0 ≤ x0)) && (decide (x0 < x1))) && (decide (x1 ≤ 10000))))] (AOps_done ?_)
  exact AWP_ret (FR H)
end Go.Proofs.YtjhbobacbaikoaaGreatDoor
/- The form of conditions: the program and the reference agree. -/
namespace Go.Proofs.YtjhbobacbaikoaaGreatDoor
open Go
set_option linter.unusedVariables false
set_option linter.unusedSimpArgs false
theorem when_eq (n : Nat) (b : Bool) (e : Int) : p_shape_when n b e = some (if b = true then e else 0) := by
  unfold p_shape_when
  cases b <;> rfl
/-- The first that is not 0. -/
def fst0 : List Int → Int
  | [] => 0
  | a :: l => if a = 0 then fst0 l else a
theorem first_al (l : List Int) (hl : l.length < 4294967281) : Al fun n => p_shape_first n l = some (fst0 l) := by
  have := loop1 (fun n i => p_cmp_Or_api_Errno_L1 n l i) l.length (fun i => fst0 (l.drop i)) (fun i hi => .of fun n => ?_) (.of fun n => ?_) 0 (by omega)
  · refine this.mono fun n h => ?_
    have h : p_cmp_Or_api_Errno_L1 n l 0 = some (fst0 (l.drop 0)) := h
    unfold p_shape_first p_cmp_Or_api_Errno
    rw [h]; rfl
  · have hd : decide ((i : Int) < lI l) = true := decide_eq_true (by unfold lI; omega)
    rw [p_cmp_Or_api_Errno_L1, hd, cond_true, rdO_nat hi, Option.bind_some, List.drop_eq_getElem_cons hi, w64_add (by omega)]
    by_cases h : l[i] = 0
    · right
      rw [h]
      exact ⟨rfl, by rw [fst0, if_pos rfl]⟩
    · left
      have : (l[i] != 0) = true := by rw [bne_iff_ne]; exact h
      rw [this, fst0, if_neg h]; rfl
  · have hd : decide (((l.length : Nat) : Int) < lI l) = false := decide_eq_false (by unfold lI; omega)
    rw [p_cmp_Or_api_Errno_L1, hd, List.drop_length]; rfl
/-! sizes -/
mutual
def TExpr.sm : TExpr → Prop
  | .mk _ k nm vs ks => k.size < 4294967281 ∧ nm.size < 4294967281 ∧ (∀ v ∈ vs, v.sm) ∧ ks.length < 4294967281 ∧ TExpr.smL ks
def TExpr.smL : List TExpr → Prop
  | [] => True
  | x :: xs => x.sm ∧ TExpr.smL xs
end
theorem TExpr.smL_mem : ∀ {l : List TExpr}, TExpr.smL l → ∀ x ∈ l, x.sm
  | [], _, x, h => by cases h
  | y :: l, hl, x, h => by
    rw [TExpr.smL] at hl
    rcases List.mem_cons.1 h with rfl | h
    · exact hl.1
    · exact TExpr.smL_mem hl.2 x h
theorem TExpr.sm_parts {x : TExpr} (h : x.sm) : x.gKind.size < 4294967281 ∧ x.gName.size < 4294967281 ∧ (∀ v ∈ x.gValues, v.sm) ∧ ∀ k ∈ x.gKids, k.sm := by
  cases x with
  | mk op k nm vs ks => rw [TExpr.sm] at h; exact ⟨h.1, h.2.1, h.2.2.1, fun y hy => TExpr.smL_mem h.2.2.2.2 y hy⟩
/-! one part -/
theorem none_eq (n : Nat) (x : TExpr) : p_shape_None n x = p_ref6_None n x := rfl
theorem test_eq (n : Nat) (op : Int) : p_shape_test n op = p_ref6_IsTest n op := rfl
theorem lI_nonneg {α : Type} (l : List α) : 0 ≤ lI l := by unfold lI; omega
theorem shapes_eq (n : Nat) (x : TExpr) (h : 1 ≤ x.gOp ∧ x.gOp ≤ 15) : p_shape_shape n x = p_ref6_counts n x := by
  have hk : x.gOp = 1 ∨ x.gOp = 2 ∨ x.gOp = 3 ∨ x.gOp = 4 ∨ x.gOp = 5 ∨ x.gOp = 6 ∨ x.gOp = 7 ∨ x.gOp = 8 ∨ x.gOp = 9 ∨ x.gOp = 10 ∨ x.gOp = 11 ∨ x.gOp = 12 ∨ x.gOp = 13 ∨ x.gOp = 14 ∨ x.gOp = 15 := by omega
  have e1 := dec_lt (lI x.gKids) 2
  have e3 : decide (lI x.gKids > 0) = !(lI x.gKids == 0) := by
    have := lI_nonneg x.gKids
    by_cases h : lI x.gKids = 0
    · rw [h]; rfl
    · rw [decide_eq_true (by omega), beq_eq_false_iff_ne.2 h]; rfl
  unfold p_shape_shape p_shape_shape_K1 p_ref6_counts p_ref6_counts_K1 p_shape_test p_ref6_IsTest
  rw [e1, e3]
  simp only [bne]
  generalize decide (lI x.gKids ≥ 2) = b1
  generalize (lI x.gKids == 0) = b2
  generalize (lI x.gKids == 1) = b3
  generalize (lI x.gValues == 0) = b4
  generalize (lI x.gValues == 1) = b5
  generalize decide (lI x.gValues > 0) = b6
  generalize seq' x.gKind ByteArray.empty = b7
  generalize seq' x.gName ByteArray.empty = b8
  generalize x.gOp = op at hk
  rcases hk with hk | hk | hk | hk | hk | hk | hk | hk | hk | hk | hk | hk | hk | hk | hk <;> subst hk <;>
    cases b1 <;> cases b2 <;> cases b3 <;> cases b4 <;> cases b5 <;> cases b6 <;> cases b7 <;> cases b8 <;> rfl
theorem shape_some (x : TExpr) (h : 1 ≤ x.gOp ∧ x.gOp ≤ 15) : ∃ b, ∀ n, p_shape_shape n x = some b := by
  have e : ∀ n, p_shape_shape n x = p_ref6_counts 0 x := fun n => shapes_eq n x h
  cases hc : p_ref6_counts 0 x with
  | some b => exact ⟨b, fun n => (e n).trans hc⟩
  | none =>
    exfalso
    simp only [p_ref6_counts, p_ref6_counts_K1, p_ref6_IsTest, Option.bind_some] at hc
    generalize ((x.gOp == 2) || (x.gOp == 3)) = b1 at hc
    generalize (x.gOp == 4) = b2 at hc
    generalize (x.gOp == 8) = b3 at hc
    generalize (decide (x.gOp ≥ 6) && decide (x.gOp ≤ 15)) = b4 at hc
    generalize (x.gOp != 6) = b5 at hc
    cases b1 <;> cases b2 <;> cases b3 <;> cases b4 <;> cases b5 <;> cases hc
/-- What a well-shaped part has. -/
theorem shape_facts (n : Nat) (x : TExpr) (h : 1 ≤ x.gOp ∧ x.gOp ≤ 15) (hs : p_shape_shape n x = some true) :
    (x.gOp = 2 ∨ x.gOp = 3 ∨ x.gOp = 4 ∨ x.gKids = []) ∧ ((x.gOp = 9 ∨ x.gOp = 10 ∨ x.gOp = 11) → 0 < x.gValues.length) := by
  constructor
  · by_cases h2 : x.gOp = 2
    · exact .inl h2
    by_cases h3 : x.gOp = 3
    · exact .inr (.inl h3)
    by_cases h4 : x.gOp = 4
    · exact .inr (.inr (.inl h4))
    refine .inr (.inr (.inr ?_))
    unfold p_shape_shape at hs
    rw [beq_eq_false_iff_ne.2 h2, beq_eq_false_iff_ne.2 h3, beq_eq_false_iff_ne.2 h4] at hs
    simp only [Bool.or_self, cond_false] at hs
    cases hc : decide (lI x.gKids > 0) with
    | true => rw [hc] at hs; cases hs
    | false =>
      have := of_decide_eq_false hc
      unfold lI at this
      exact List.length_eq_zero_iff.1 (by omega)
  · intro hop
    have hv : (lI x.gValues == 1) = true := by
      have ht : ∀ n, p_shape_test n x.gOp = some true := by
        intro n
        unfold p_shape_test
        rw [decide_eq_true (show x.gOp ≥ 6 by omega), decide_eq_true (show x.gOp ≤ 15 by omega)]; rfl
      have hK : p_shape_shape_K1 n x = some true := by
        unfold p_shape_shape at hs
        rw [beq_eq_false_iff_ne.2 (show x.gOp ≠ 2 by omega), beq_eq_false_iff_ne.2 (show x.gOp ≠ 3 by omega), beq_eq_false_iff_ne.2 (show x.gOp ≠ 4 by omega)] at hs
        simp only [Bool.or_self, cond_false] at hs
        cases hc : decide (lI x.gKids > 0) with
        | true => rw [hc] at hs; cases hs
        | false => rw [hc] at hs; exact hs
      unfold p_shape_shape_K1 at hK
      rw [ht] at hK
      simp only [Option.bind_some, Bool.not_true, Bool.false_and, cond_false, beq_eq_false_iff_ne.2 (show x.gOp ≠ 8 by omega), Bool.true_and] at hK
      have : (x.gOp != 6) = true := by rw [bne_iff_ne]; omega
      rw [this, cond_true] at hK
      exact Option.some.inj hK
    have := beq_iff_eq.1 hv
    unfold lI at this
    omega
theorem part_values (x : TExpr) (hx : ∀ v ∈ x.gValues, v.sm) (hl : x.gValues.length < 4294967281) (hne : (x.gOp = 9 ∨ x.gOp = 10 ∨ x.gOp = 11) → 0 < x.gValues.length) :
    ∃ v, Al fun n => p_shape_part_L2 n x 0 = some v ∧ p_ref6_part_L2 n x 0 = some v := by
  refine loop2 (fun n i => p_shape_part_L2 n x i) (fun n i => p_ref6_part_L2 n x i) x.gValues.length (fun i hi => ?_) ?_ 0 (by omega)
  · have hd : decide ((i : Int) < lI x.gValues) = true := decide_eq_true (by unfold lI; omega)
    obtain ⟨v, hv⟩ := check_bi x.gValues[i] (hx _ (List.getElem_mem hi))
    by_cases h0 : v = 0
    · refine .inr (hv.mono fun n ⟨a, b⟩ => ?_)
      rw [p_shape_part_L2, p_ref6_part_L2, hd]
      simp only [cond_true, rdO_nat hi, Option.bind_some, a, b, h0, bne_self_eq_false, cond_false, w64_add (show i + 1 < 9223372036854775808 by omega), and_self]
    · refine .inl ⟨v, hv.mono fun n ⟨a, b⟩ => ?_⟩
      have : (v != 0) = true := by rw [bne_iff_ne]; exact h0
      rw [p_shape_part_L2, p_ref6_part_L2, hd]
      simp only [cond_true, rdO_nat hi, Option.bind_some, a, b, this, and_self]
  · have hd : decide (((x.gValues.length : Nat) : Int) < lI x.gValues) = false := decide_eq_false (by unfold lI; omega)
    cases hc : (((x.gOp == 9) || (x.gOp == 10)) || (x.gOp == 11)) with
    | true =>
      have h0 := hne (by simpa [or_assoc] using hc)
      have hr : rdO x.gValues 0 = some x.gValues[0] := rdO_nat (i := 0) h0
      refine ⟨if (x.gValues[0].gKind != 3) = true then 8 else 0, .of fun n => ?_⟩
      rw [p_shape_part_L2, p_ref6_part_L2, hd]
      simp only [cond_false, hc, cond_true, hr, Option.bind_some, when_eq, Bool.true_and]
      cases (x.gValues[0].gKind != 3) <;> simp
    | false =>
      refine ⟨0, .of fun n => ?_⟩
      rw [p_shape_part_L2, p_ref6_part_L2, hd]
      simp only [cond_false, hc, Option.bind_some, when_eq, Bool.false_and]
      simp
theorem part_bi (x : TExpr) (hx : x.sm) : ∃ v, Al fun n => (∀ d : Int, p_shape_part n x d = if d ≥ 10 then some 18 else some v) ∧ p_ref6_part n x = some v := by
  obtain ⟨hk, hn, hv, hks⟩ := TExpr.sm_parts hx
  by_cases hop : 1 ≤ x.gOp ∧ x.gOp ≤ 15
  · have e0 : (decide (x.gOp < 1) || decide (x.gOp > 15)) = false := by simp; omega
    have hsh := shape_some x hop
    obtain ⟨b, hb⟩ := hsh
    have hb' : ∀ n, p_ref6_counts n x = some b := fun n => by rw [← shapes_eq n x hop]; exact hb n
    cases b with
    | false =>
      refine ⟨15, .of fun n => ⟨fun d => ?_, ?_⟩⟩
      · unfold p_shape_part
        by_cases hd : d ≥ 10
        · rw [decide_eq_true hd, if_pos hd]; rfl
        · rw [decide_eq_false hd, if_neg hd, e0, hb]; rfl
      · unfold p_ref6_part
        rw [e0, hb']; rfl
    | true =>
      obtain ⟨f1, f2⟩ := shape_facts 0 x hop (hb 0)
      by_cases hsz : (decide (lI x.gKids > 12) || decide (lI x.gValues > 20)) = true
      · refine ⟨5, .of fun n => ⟨fun d => ?_, ?_⟩⟩
        · unfold p_shape_part
          by_cases hd : d ≥ 10
          · rw [decide_eq_true hd, if_pos hd]; rfl
          · rw [decide_eq_false hd, if_neg hd, e0, hb, hsz]; rfl
        · unfold p_ref6_part
          rw [e0, hb', hsz]; rfl
      · have hsz := Bool.eq_false_iff.2 hsz
        have hls : x.gKids.length ≤ 12 ∧ x.gValues.length ≤ 20 := by
          obtain ⟨q1, q2⟩ := Bool.or_eq_false_iff.1 hsz
          have q1 := of_decide_eq_false q1
          have q2 := of_decide_eq_false q2
          unfold lI at q1 q2
          omega
        obtain ⟨u, hu⟩ := part_values x hv (by omega) f2
        obtain ⟨k1, hk1⟩ := key_bi x.gKind (by omega)
        obtain ⟨k2, hk2⟩ := key_bi x.gName (by omega)
        have hloop : ∃ v, Al fun n => p_shape_part_L1 n x 0 = some v ∧ p_ref6_part_L1 n x 0 = some v := by
          refine loop2 (fun n i => p_shape_part_L1 n x i) (fun n i => p_ref6_part_L1 n x i) x.gKids.length (fun i hi => ?_) ?_ 0 (by omega)
          · have hd : decide ((i : Int) < lI x.gKids) = true := decide_eq_true (by unfold lI; omega)
            have hcond : (x.gKids[i].gOp == x.gOp && (x.gOp == 2 || x.gOp == 3)) = (x.gKids[i].gOp == x.gOp && x.gOp != 4) := by
              rcases f1 with f1 | f1 | f1 | f1
              · rw [f1]; rfl
              · rw [f1]; rfl
              · rw [f1]; rfl
              · rw [f1] at hi; simp at hi
            cases hc : (x.gKids[i].gOp == x.gOp && x.gOp != 4) with
            | true =>
              refine .inl ⟨15, .of fun n => ?_⟩
              rw [p_shape_part_L1, p_ref6_part_L1, hd]
              simp only [cond_true, rdO_nat hi, Option.bind_some, hcond, hc, and_self]
            | false =>
              refine .inr (.of fun n => ?_)
              rw [p_shape_part_L1, p_ref6_part_L1, hd]
              simp only [cond_true, rdO_nat hi, Option.bind_some, hcond, hc, cond_false, w64_add (show i + 1 < 9223372036854775808 by omega), and_self]
          · have hd : decide (((x.gKids.length : Nat) : Int) < lI x.gKids) = false := decide_eq_false (by unfold lI; omega)
            have ht : ∀ n, p_shape_test n x.gOp = some (decide (x.gOp ≥ 6) && decide (x.gOp ≤ 15)) := fun n => rfl
            have ht' : ∀ n, p_ref6_IsTest n x.gOp = some (decide (x.gOp ≥ 6) && decide (x.gOp ≤ 15)) := fun n => rfl
            generalize (decide (x.gOp ≥ 6) && decide (x.gOp ≤ 15)) = t at ht ht'
            generalize h5 : (x.gOp == 5) = b5
            refine ⟨if ((t && !k1) || ((t || b5) && !k2)) = true then 6 else u, (hu.and (hk1.and hk2)).mono fun n ⟨⟨a1, a2⟩, ⟨a3, a4⟩, a5, a6⟩ => ?_⟩
            rw [p_shape_part_L1, p_ref6_part_L1, hd]
            simp only [cond_false, ht, ht', Option.bind_some, h5, a1, a2, a3, a4, a5, a6]
            cases t <;> cases k1 <;> cases b5 <;> cases k2 <;> simp [a1, a2]
        obtain ⟨v, hv⟩ := hloop
        refine ⟨v, hv.mono fun n ⟨a1, a2⟩ => ⟨fun d => ?_, ?_⟩⟩
        · unfold p_shape_part
          by_cases hd : d ≥ 10
          · rw [decide_eq_true hd, if_pos hd]; rfl
          · rw [decide_eq_false hd, if_neg hd, e0, hb]
            simp only [cond_false, Option.bind_some, Bool.not_true, hsz, a1]
        · unfold p_ref6_part
          rw [e0, hb']
          simp only [cond_false, Option.bind_some, Bool.not_true, hsz, a2]
  · have e0 : (decide (x.gOp < 1) || decide (x.gOp > 15)) = true := by simp; omega
    refine ⟨7, .of fun n => ⟨fun d => ?_, ?_⟩⟩
    · unfold p_shape_part
      by_cases hd : d ≥ 10
      · rw [decide_eq_true hd, if_pos hd]; rfl
      · rw [decide_eq_false hd, if_neg hd, e0]; rfl
    · unfold p_ref6_part
      rw [e0]; rfl
end Go.Proofs.YtjhbobacbaikoaaGreatDoor
/- Conditions: the program's Expr and the reference's Expr are alike. -/
namespace Go.Proofs.YtjhbobacbaikoaaGreatDoor
open Go
set_option linter.unusedVariables false
set_option linter.unusedSimpArgs false
/-- What is wrong with a part alone. -/
noncomputable def pv (x : TExpr) : Int := open Classical in if h : ∃ v, Al fun n => (∀ d : Int, p_shape_part n x d = if d ≥ 10 then some 18 else some v) ∧ p_ref6_part n x = some v then Classical.choose h else 0
theorem pv_al (x : TExpr) (hx : x.sm) : Al fun n => (∀ d : Int, p_shape_part n x d = if d ≥ 10 then some 18 else some (pv x)) ∧ p_ref6_part n x = some (pv x) := by
  have h := part_bi x hx
  have e : pv x = Classical.choose h := dif_pos h
  rw [e]
  exact Classical.choose_spec h
mutual
/-- The first error of a condition, and how many parts were looked at. -/
noncomputable def walkV : TExpr → Int → Int → Int × Int
  | .mk op k nm vs ks, d, b => if b ≥ 60 then (5, b) else if d ≥ 10 then (18, b + 1) else if pv (.mk op k nm vs ks) ≠ 0 then (pv (.mk op k nm vs ks), b + 1) else walkVL ks (d + 1) (b + 1)
noncomputable def walkVL : List TExpr → Int → Int → Int × Int
  | [], d, b => (0, b)
  | k :: ks, d, b => if (walkV k d b).1 ≠ 0 then walkV k d b else walkVL ks d (walkV k d b).2
end
theorem walkV_eq (x : TExpr) (d b : Int) : walkV x d b = if b ≥ 60 then (5, b) else if d ≥ 10 then (18, b + 1) else if pv x ≠ 0 then (pv x, b + 1) else walkVL x.gKids (d + 1) (b + 1) := by
  cases x; rw [walkV]; rfl
mutual
theorem walkV_range : ∀ (x : TExpr) (d b : Int), 0 ≤ b → b ≤ 60 → 0 ≤ (walkV x d b).2 ∧ (walkV x d b).2 ≤ 60
  | .mk op k nm vs ks, d, b, h0, h1 => by
    rw [walkV]
    split
    · exact ⟨h0, h1⟩
    · split
      · constructor <;> simp <;> omega
      · split
        · constructor <;> simp <;> omega
        · exact walkVL_range ks (d + 1) (b + 1) (by omega) (by omega)
theorem walkVL_range : ∀ (l : List TExpr) (d b : Int), 0 ≤ b → b ≤ 60 → 0 ≤ (walkVL l d b).2 ∧ (walkVL l d b).2 ≤ 60
  | [], d, b, h0, h1 => by rw [walkVL]; exact ⟨h0, h1⟩
  | k :: ks, d, b, h0, h1 => by
    have hk := walkV_range k d b h0 h1
    rw [walkVL]
    split
    · exact hk
    · exact walkVL_range ks d _ hk.1 hk.2
end
theorem ex_loop (x : TExpr) (d : Int) (hd0 : 0 ≤ d) (hd : d < 10) (hl : x.gKids.length < 4294967281) (s1 s2 : TExpr → Int → Int → Option (Int × Int))
    (h : ∀ k ∈ x.gKids, ∀ b, 0 ≤ b → b ≤ 60 → s1 k (d + 1) b = some (walkV k (d + 1) b) ∧ s2 k (d + 1 + 1) b = some (walkV k (d + 1) b)) :
    ∀ (q i m : Nat) (b : Int), i + q = x.gKids.length → q < m → 0 ≤ b → b ≤ 60 →
      p_shape_expr_L1 m s1 x d i b = some (walkVL (x.gKids.drop i) (d + 1) b) ∧ p_ref6_walk_L1 m s2 x (d + 1) i b = some (walkVL (x.gKids.drop i) (d + 1) b) := by
  intro q
  induction q with
  | zero =>
    intro i m b hi hm h0 h1
    obtain ⟨m, rfl⟩ : ∃ k, m = k + 1 := ⟨m - 1, by omega⟩
    obtain rfl : i = x.gKids.length := by omega
    have hd : decide (((x.gKids.length : Nat) : Int) < lI x.gKids) = false := decide_eq_false (by unfold lI; omega)
    rw [p_shape_expr_L1, p_ref6_walk_L1, hd, List.drop_length, walkVL]
    exact ⟨rfl, rfl⟩
  | succ q ih =>
    intro i m b hi hm h0 h1
    obtain ⟨m, rfl⟩ : ∃ k, m = k + 1 := ⟨m - 1, by omega⟩
    have hil : i < x.gKids.length := by omega
    have hdd : decide ((i : Int) < lI x.gKids) = true := decide_eq_true (by unfold lI; omega)
    obtain ⟨e1, e2⟩ := h x.gKids[i] (List.getElem_mem hil) b h0 h1
    have hr := walkV_range x.gKids[i] (d + 1) b h0 h1
    obtain ⟨i1, i2⟩ := ih (i + 1) m (walkV x.gKids[i] (d + 1) b).2 (by omega) (by omega) hr.1 hr.2
    have w1 : w64 (d + 1) = d + 1 := w64_of (by omega) (by omega)
    have w2 : w64 (d + 1 + 1) = d + 1 + 1 := w64_of (by omega) (by omega)
    rw [p_shape_expr_L1, p_ref6_walk_L1, hdd, List.drop_eq_getElem_cons hil, walkVL]
    simp only [cond_true, rdO_nat hil, Option.bind_some, w1, w2, e1, e2, w64_add (show i + 1 < 9223372036854775808 by omega), i1, i2]
    by_cases hz : (walkV x.gKids[i] (d + 1) b).1 = 0
    · rw [hz]; simp
    · have : ((walkV x.gKids[i] (d + 1) b).1 != 0) = true := by rw [bne_iff_ne]; exact hz
      rw [this, if_pos hz]
      simp
mutual
theorem ex_al : ∀ x : TExpr, x.sm → Al fun n => ∀ d b : Int, 0 ≤ d → d ≤ 10 → 0 ≤ b → b ≤ 60 → p_shape_expr n x d b = some (walkV x d b) ∧ p_ref6_walk n x (d + 1) b = some (walkV x d b)
  | .mk op kd nm vs ks, hx => by
    have hp := pv_al (.mk op kd nm vs ks) hx
    have hL := ex_alL ks (by rw [TExpr.sm] at hx; exact hx.2.2.2.2)
    have hlen : ks.length < 4294967281 := by rw [TExpr.sm] at hx; exact hx.2.2.2.1
    obtain ⟨N, hN⟩ := hp.and hL
    generalize hxx : TExpr.mk op kd nm vs ks = x at *
    have hks : x.gKids = ks := by rw [← hxx]; rfl
    refine Al.succ ⟨N + ks.length + 1, fun n hn d b hd0 hd1 hb0 hb1 => ?_⟩
    obtain ⟨⟨p1, p2⟩, hl⟩ := hN n (by omega)
    rw [p_shape_expr, p_ref6_walk]
    unfold p_shape_expr_F p_ref6_walk_F
    rw [p1, p2, walkV_eq]
    by_cases c1 : b ≥ 60
    · rw [if_pos c1, decide_eq_true c1]; exact ⟨rfl, rfl⟩
    · have w1 : w64 (b + 1) = b + 1 := w64_of (by omega) (by omega)
      rw [if_neg c1, decide_eq_false c1, w1]
      by_cases c2 : d ≥ 10
      · rw [if_pos c2, if_pos c2, decide_eq_true (show d + 1 > 10 by omega)]; exact ⟨rfl, rfl⟩
      · rw [if_neg c2, if_neg c2, decide_eq_false (show ¬ d + 1 > 10 by omega)]
        by_cases c3 : pv x = 0
        · rw [c3]
          simp only [cond_false, Option.bind_some, bne_self_eq_false, ne_eq, not_true_eq_false, if_false]
          exact ex_loop x d hd0 (by omega) (by rw [hks]; exact hlen) (p_shape_expr n) (p_ref6_walk n) (fun k hk b h0 h1 => hl k (by rw [← hks]; exact hk) (d + 1) b (by omega) (by omega) h0 h1) x.gKids.length 0 n (b + 1) (by omega) (by rw [hks]; omega) (by omega) (by omega)
        · have : (pv x != 0) = true := by rw [bne_iff_ne]; exact c3
          simp only [cond_false, Option.bind_some, this, cond_true]
          rw [if_pos c3]
          exact ⟨rfl, rfl⟩
theorem ex_alL : ∀ l : List TExpr, TExpr.smL l → Al fun n => ∀ k ∈ l, ∀ d b : Int, 0 ≤ d → d ≤ 10 → 0 ≤ b → b ≤ 60 → p_shape_expr n k d b = some (walkV k d b) ∧ p_ref6_walk n k (d + 1) b = some (walkV k d b)
  | [], _ => .of fun n k hk => by cases hk
  | k :: ks, h => by
    rw [TExpr.smL] at h
    refine ((ex_al k h.1).and (ex_alL ks h.2)).mono fun n ⟨h1, h2⟩ y hy => ?_
    rcases List.mem_cons.1 hy with rfl | hy
    · exact h1
    · exact h2 y hy
end
/-- Expr of both. -/
theorem expr_bi (x : TExpr) (hx : x.sm) : ∃ v, Al fun n => p_shape_Expr n x = some v ∧ p_ref6_Expr n x = some v := by
  refine ⟨(walkV x 0 0).1, (ex_al x hx).mono fun n h => ?_⟩
  obtain ⟨h1, h2⟩ := h 0 0 (by omega) (by omega) (by omega) (by omega)
  have h2 : p_ref6_walk n x 1 0 = some (walkV x 0 0) := h2
  unfold p_shape_Expr p_ref6_Expr
  rw [h1, h2]
  exact ⟨rfl, rfl⟩
end Go.Proofs.YtjhbobacbaikoaaGreatDoor
