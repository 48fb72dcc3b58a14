/- The value-level reading of memory: abstract values, abstract heaps, when they fit a world, and that they still fit behind a step that leaves alone what it may not write. -/
import Derived.Below
import Derived.Orders
import Derived.Laws.AppendOwn
import Derived.Laws.OwnMore
import Derived.Laws.Tables
import Derived.Laws.Rows
import Derived.Lib.AppendStr
import Derived.Laws.BytesString
import Derived.Laws.World
import Derived.Deep.Draws
import Derived.KernelRfl
namespace Go.Proofs.YtjhbobacbaikoaaGreatDoor
open Go
set_option linter.unusedVariables false
set_option linter.unusedSimpArgs false

/-- How much is known of a slice's capacity: it takes the whole block (elements of so many cells), it is the length, or nothing. -/
inductive Cap where
  | whole (sz : Nat)
  | full
  | unk
  deriving DecidableEq, Inhabited

/-- Abstract values. -/
inductive AV where
  | val (v : Value)
  | ro (k : Cap) (n : Nat) (cells : List AV)
  | sl (id off len : Nat) (k : Cap)
  | ptr (id off : Nat)
  | rop (cells : List AV)
  | agg (cells : List AV)
  | tup (vs : List AV)
  | fn (f : FuncId) (first captured : List AV)
  | any
  deriving Inhabited

/-- Abstract blocks. -/
inductive ABlk where
  | cells (t : TypeId) (cs : List AV)
  | row (t : TypeId) (cs : List AV)
  | iter (s : ByteArray) (pos : Nat)
  | dead
  deriving Inhabited

/-- How many cells of a block stay as they are. -/
def ABlk.lim : ABlk → Nat
  | .row _ cs => cs.length
  | _ => 0
/-- The newest block first: a block's number is how many are behind it. -/
abbrev AHeap := List ABlk
def hget : AHeap → Nat → Option ABlk
  | [], _ => none
  | b :: h, i => if i = h.length then some b else hget h i
def hset : AHeap → Nat → ABlk → AHeap
  | [], _, _ => []
  | b :: h, i, x => if i = h.length then x :: h else b :: hset h i x
def alive (h : AHeap) (i : Nat) : Prop := ∃ b, hget h i = some b ∧ b ≠ .dead

theorem hget_lt {h : AHeap} {i : Nat} {b : ABlk} (e : hget h i = some b) : i < h.length := by
  induction h with
  | nil => simp [hget] at e
  | cons x h ih =>
    simp only [hget] at e
    split at e
    · subst_vars; simp
    · have := ih e; simp; omega
theorem hget_some {h : AHeap} {i : Nat} (e : i < h.length) : ∃ b, hget h i = some b := by
  induction h with
  | nil => simp at e
  | cons x h ih =>
    simp only [hget]
    split
    · exact ⟨_, rfl⟩
    · exact ih (by simp at e; omega)
@[simp] theorem hset_length (h : AHeap) (i : Nat) (x : ABlk) : (hset h i x).length = h.length := by
  induction h with
  | nil => rfl
  | cons b h ih => simp only [hset]; split <;> simp [ih]
theorem hget_hset_same {h : AHeap} {i : Nat} (x : ABlk) (e : i < h.length) : hget (hset h i x) i = some x := by
  induction h with
  | nil => simp at e
  | cons b h ih =>
    simp only [hset]
    split
    · simp [hget, *]
    · simp only [hget, hset_length]; rw [if_neg (by assumption)]; exact ih (by simp at e; omega)
theorem hget_hset_ne {h : AHeap} {i j : Nat} (x : ABlk) (e : j ≠ i) : hget (hset h i x) j = hget h j := by
  induction h with
  | nil => rfl
  | cons b h ih =>
    simp only [hset]
    split
    · subst_vars; simp only [hget]; rw [if_neg e, if_neg e]
    · simp only [hget, hset_length]; split
      · rfl
      · exact ih
theorem alive.lt {h : AHeap} {i : Nat} (e : alive h i) : i < h.length := by obtain ⟨b, hb, _⟩ := e; exact hget_lt hb
theorem hget_cons_old {h : AHeap} {b : ABlk} {i : Nat} (e : i < h.length) : hget (b :: h) i = hget h i := by
  simp only [hget]; rw [if_neg (by omega)]
theorem hget_cons_new (h : AHeap) (b : ABlk) : hget (b :: h) h.length = some b := by simp [hget]
theorem alive_cons {h : AHeap} {b : ABlk} {i : Nat} (e : i < h.length) : alive (b :: h) i ↔ alive h i := by simp [alive, hget_cons_old e]

/-- What can lie in one cell. -/
def AV.one : AV → Bool
  | .val v => v.oneCell'
  | .agg _ | .tup _ | .any => false
  | _ => true

/-- What abstract values are read by: where each abstract block lies, the abstract heap, the world. -/
structure Mu where
  f : Nat → Option Nat
  x : Nat → Nat → Prop
instance : CoeFun Mu (fun _ => Nat → Option Nat) := ⟨Mu.f⟩
structure Cx where
  μ : Mu
  h : AHeap
  w : World

/-- A block outside of the abstract heap; one that is not somebody else's, besides. -/
def Cx.out (c : Cx) (b : Nat) : Prop := b < c.w.heap.size ∧ ∀ i, alive c.h i → c.μ i ≠ some b
/-- A cell that nobody writes any more. -/
def Cx.still (c : Cx) (b k : Nat) : Prop := b < c.w.heap.size ∧ (∀ i x, hget c.h i = some x → x ≠ .dead → c.μ i = some b → k < x.lim) ∧ ¬ c.μ.x b k
/-- The first m cells from an address on. -/
def Cx.st (c : Cx) (a : Addr) (m : Nat) : Prop := ∀ j, j < m → c.still a.block (a.off + j)
/-- A cell reads as before. -/
def sameCell (w w' : World) (b k : Nat) : Prop := ∀ a : Addr, a.block = b → a.off = k → w'.cell? a = w.cell? a

def capOk (k : Cap) (len cap : Nat) : Prop := len ≤ cap ∧ cap ≤ maxLen ∧ (k = .full → cap = len)

mutual
def AV.rel (c : Cx) : AV → Value → Prop
  | .val v, u => u = v
  | .ro k n cells, u => ∃ a cap vs, u = .slice a n cap ∧ capOk k n cap ∧ AV.relL c cells vs ∧ cells.all AV.one = true ∧
      (vs = [] ∨ ∃ ad, a = some ad ∧ c.st ad vs.length ∧ ∀ j x, vs[j]? = some x → c.w.cell? (ad.add j) = some x)
  | .sl id off len k, u => id < c.h.length ∧ u.oneCell' = true ∧ (alive c.h id → (∃ b cap, c.μ id = some b ∧ u = .slice (some ⟨b, off, none⟩) len cap ∧ capOk k len cap ∧
      (∀ sz, k = .whole sz → off = 0 ∧ ∀ cv t fr, c.w.heap[b]? = some (.cells cv t fr) → cv.size = cap * sz)) ∨ (c.μ id = none ∧ len = 0 ∧ off = 0 ∧ ∃ a, u = .slice a 0 0))
  | .ptr id off, u => id < c.h.length ∧ u.oneCell' = true ∧ (alive c.h id → ∃ b, c.μ id = some b ∧ u = .pointer (some ⟨b, off, none⟩))
  | .rop cells, u => ∃ ad vs, u = .pointer (some ad) ∧ AV.relL c cells vs ∧ cells.all AV.one = true ∧ (vs = [] ∨ c.st ad vs.length) ∧ (∀ j x, vs[j]? = some x → c.w.cell? (ad.add j) = some x)
  | .agg cells, u => ∃ vs, u = .agg vs ∧ AV.relL c cells vs.toList ∧ cells.all AV.one = true
  | .tup cs, u => ∃ vs, u = .tuple vs ∧ AV.relL c cs vs.toList
  | .fn f first captured, u => ∃ fs cs, u = .func (.func f) fs cs ∧ AV.relL c first fs.toList ∧ AV.relL c captured cs.toList
  | .any, _ => True
def AV.relL (c : Cx) : List AV → List Value → Prop
  | [], us => us = []
  | a :: az, us => ∃ x xs, us = x :: xs ∧ AV.rel c a x ∧ AV.relL c az xs
end

def ABlk.rel (c : Cx) (m : Option Nat) : ABlk → Prop
  | .cells t cs => (∃ b cv vs rest, m = some b ∧ c.w.heap[b]? = some (.cells cv t (0, 0)) ∧ cv.toList = vs ++ rest ∧ AV.relL c cs vs ∧ cs.all AV.one = true) ∨ (m = none ∧ cs = [])
  | .row t cs => (∃ b cv vs rest, m = some b ∧ c.w.heap[b]? = some (.cells cv t (0, 0)) ∧ cv.toList = vs ++ rest ∧ AV.relL c cs vs ∧ cs.all AV.one = true) ∨ (m = none ∧ cs = [])
  | .iter s pos => ∃ b, m = some b ∧ c.w.heap[b]? = some (.stringIter s pos)
  | .dead => True

/-- An abstract heap fits. -/
structure Cx.Ok (c : Cx) : Prop where
  blk : ∀ i b, hget c.h i = some b → b.rel c (c.μ i)
  inj : ∀ i j b, alive c.h i → alive c.h j → c.μ i = some b → c.μ j = some b → i = j
  nx : ∀ i b, alive c.h i → c.μ i = some b → ∀ k, ¬ c.μ.x b k
  xlt : ∀ b k, c.μ.x b k → b < c.w.heap.size

theorem Cx.Ok.lt {c : Cx} (ok : c.Ok) {i b : Nat} (hi : alive c.h i) (hm : c.μ i = some b) : b < c.w.heap.size := by
  obtain ⟨x, hb, hd⟩ := hi
  have h := ok.blk i x hb
  cases x with
  | cells t cs =>
    rcases h with ⟨b', cv, vs, rest, e, h, _⟩ | ⟨e, _⟩
    · rw [hm] at e; cases e; exact (Array.getElem?_eq_some_iff.1 h).1
    · rw [hm] at e; cases e
  | row t cs =>
    rcases h with ⟨b', cv, vs, rest, e, h, _⟩ | ⟨e, _⟩
    · rw [hm] at e; cases e; exact (Array.getElem?_eq_some_iff.1 h).1
    · rw [hm] at e; cases e
  | iter s p => obtain ⟨b', e, h⟩ := h; rw [hm] at e; cases e; exact (Array.getElem?_eq_some_iff.1 h).1
  | dead => exact absurd rfl hd

/-- What a step may do: new blocks, and changes in blocks of the abstract heap alone; blocks that stay alive stay where they lie and keep their sizes. -/
structure Cx.Ton (n : Nat) (c d : Cx) : Prop where
  os : d.w.os = c.w.os
  tape : d.w.tape = c.w.tape
  output : d.w.output = c.w.output
  size : c.w.heap.size ≤ d.w.heap.size
  len : n ≤ d.h.length
  x : d.μ.x = c.μ.x
  keep : ∀ b, c.out b → d.w.heap[b]? = c.w.heap[b]?
  stay : ∀ b k, c.still b k → d.still b k ∧ sameCell c.w d.w b k
  old : ∀ i, i < n → alive d.h i → alive c.h i ∧ d.μ i = c.μ i
  row : ∀ i, i < n → alive d.h i → ∀ b, c.μ i = some b → ∀ cv t fr, d.w.heap[b]? = some (.cells cv t fr) → ∃ cv', c.w.heap[b]? = some (.cells cv' t fr) ∧ cv'.size = cv.size
  at_ : ∀ i, alive d.h i → ∀ b, d.μ i = some b → (∃ j, alive c.h j ∧ c.μ j = some b) ∨ c.w.heap.size ≤ b
abbrev Cx.To (c d : Cx) : Prop := Cx.Ton c.h.length c d

theorem Cx.Ton.refl {n : Nat} (c : Cx) (hn : n ≤ c.h.length) : Cx.Ton n c c :=
  ⟨rfl, rfl, rfl, Nat.le_refl _, hn, rfl, fun _ _ => rfl, fun _ _ h => ⟨h, fun _ _ _ => rfl⟩, fun _ _ h => ⟨h, rfl⟩, fun _ _ _ b _ cv t fr h => ⟨cv, h, rfl⟩, fun i h b e => .inl ⟨i, h, e⟩⟩
theorem Cx.To.refl (c : Cx) : c.To c := Cx.Ton.refl c (Nat.le_refl _)
theorem Cx.Ton.le {n m : Nat} {c d : Cx} (s : Cx.Ton m c d) (h : n ≤ m) : Cx.Ton n c d :=
  ⟨s.os, s.tape, s.output, s.size, Nat.le_trans h s.len, s.x, s.keep, s.stay, fun i hi => s.old i (Nat.lt_of_lt_of_le hi h), fun i hi => s.row i (Nat.lt_of_lt_of_le hi h), s.at_⟩
theorem Cx.Ton.out {n : Nat} {c d : Cx} (s : Cx.Ton n c d) {b : Nat} (h : c.out b) : d.out b := by
  refine ⟨Nat.lt_of_lt_of_le h.1 s.size, fun i hi e => ?_⟩
  rcases s.at_ i hi b e with ⟨j, hj, e'⟩ | hn
  · exact h.2 j hj e'
  · have := h.1; omega
theorem Cx.Ton.trans {n : Nat} {c d e : Cx} (s : Cx.Ton n c d) (t : Cx.Ton n d e) : Cx.Ton n c e := by
  refine ⟨t.os.trans s.os, t.tape.trans s.tape, t.output.trans s.output, Nat.le_trans s.size t.size, t.len, t.x.trans s.x,
    fun b hb => (t.keep b (s.out hb)).trans (s.keep b hb), fun b k hb => ⟨(t.stay b k (s.stay b k hb).1).1, fun a h1 h2 => ((t.stay b k (s.stay b k hb).1).2 a h1 h2).trans ((s.stay b k hb).2 a h1 h2)⟩, fun i hi ha => ?_, fun i hi ha b hb cv ty fr hc => ?_, fun i ha b hb => ?_⟩
  · obtain ⟨h1, e1⟩ := t.old i hi ha
    obtain ⟨h2, e2⟩ := s.old i hi h1
    exact ⟨h2, e1.trans e2⟩
  · obtain ⟨h1, e1⟩ := t.old i hi ha
    obtain ⟨h2, e2⟩ := s.old i hi h1
    obtain ⟨cv', hc', hs'⟩ := t.row i hi ha b (by rw [e2]; exact hb) cv ty fr hc
    obtain ⟨cv2, hc2, hs2⟩ := s.row i hi h1 b hb cv' ty fr hc'
    exact ⟨cv2, hc2, hs2.trans hs'⟩
  · rcases t.at_ i ha b hb with ⟨j, hj, e1⟩ | hn
    · exact s.at_ j hj b e1
    · exact .inr (Nat.le_trans s.size hn)
theorem Cx.To.trans {c d e : Cx} (s : c.To d) (t : d.To e) : c.To e := Cx.Ton.trans s (t.le s.len)

theorem cell_block {w w' : World} {b : Nat} (h : w'.heap[b]? = w.heap[b]?) {a : Addr} (e : a.block = b) : w'.cell? a = w.cell? a := by
  subst e; simp [World.cell?, h]
theorem add_block (a : Addr) (j : Nat) : (a.add j).block = a.block := by unfold Addr.add; split <;> rfl
theorem add_off (a : Addr) (j : Nat) : (a.add j).off = a.off + j := by unfold Addr.add; split <;> simp [*]
/-- Cells that stay are read alike. -/
theorem st_to {c d : Cx} (hs : ∀ b k, c.still b k → d.still b k ∧ sameCell c.w d.w b k) {a : Addr} {m : Nat} (h : c.st a m) : d.st a m ∧ ∀ j, j < m → d.w.cell? (a.add j) = c.w.cell? (a.add j) :=
  ⟨fun j hj => (hs _ _ (h j hj)).1, fun j hj => (hs _ _ (h j hj)).2 _ (add_block a j) (add_off a j)⟩
theorem st_add {c : Cx} {a : Addr} {m : Nat} (n k : Nat) (h : c.st a m) (hk : n + k ≤ m) : c.st (a.add n) k := fun j hj => by
  rw [add_block, add_off, Nat.add_assoc]; exact h (n + j) (by omega)
theorem lt_of_get {α : Type} {l : List α} {j : Nat} {x : α} (h : l[j]? = some x) : j < l.length := (List.getElem?_eq_some_iff.1 h).1

mutual
theorem AV.rel_to {c d : Cx} (s : c.To d) : ∀ (a : AV) (u : Value), a.rel c u → a.rel d u
  | .val v, u, h => h
  | .ro k n cells, u, h => by
    obtain ⟨a, cap, vs, e, hk, hl, ho, hm⟩ := h
    refine ⟨a, cap, vs, e, hk, AV.relL_to s cells vs hl, ho, ?_⟩
    rcases hm with hm | ⟨ad, ha, hs, hc⟩
    · exact .inl hm
    · exact .inr ⟨ad, ha, (st_to s.stay hs).1, fun j x hj => ((st_to s.stay hs).2 j (lt_of_get hj)).trans (hc j x hj)⟩
  | .sl id off len k, u, h => by
    obtain ⟨hi, ho, h⟩ := h
    refine ⟨Nat.lt_of_lt_of_le hi s.len, ho, fun ha => ?_⟩
    obtain ⟨h1, e1⟩ := s.old id hi ha
    rcases h h1 with ⟨b, cap, hb, e, hk, hw⟩ | ⟨hn, h2⟩
    · refine .inl ⟨b, cap, by rw [e1]; exact hb, e, hk, fun sz hsz => ⟨(hw sz hsz).1, fun cv t fr hc => ?_⟩⟩
      obtain ⟨cv', hc', hs'⟩ := s.row id hi ha b hb cv t fr hc
      exact hs'.symm.trans ((hw sz hsz).2 cv' t fr hc')
    · exact .inr ⟨by rw [e1]; exact hn, h2⟩
  | .ptr id off, u, h => by
    obtain ⟨hi, ho, h⟩ := h
    refine ⟨Nat.lt_of_lt_of_le hi s.len, ho, fun ha => ?_⟩
    obtain ⟨h1, e1⟩ := s.old id hi ha
    rw [e1]; exact h h1
  | .rop cells, u, h => by
    obtain ⟨ad, vs, e, hl, ho, hs, hc⟩ := h
    refine ⟨ad, vs, e, AV.relL_to s cells vs hl, ho, hs.imp_right fun h => (st_to s.stay h).1, fun j x hj => ?_⟩
    rcases hs with hs | hs
    · subst hs; simp at hj
    · exact ((st_to s.stay hs).2 j (lt_of_get hj)).trans (hc j x hj)
  | .agg cells, u, h => by
    obtain ⟨vs, e, hl, ho⟩ := h
    exact ⟨vs, e, AV.relL_to s cells _ hl, ho⟩
  | .tup cs, u, h => by
    obtain ⟨vs, e, hl⟩ := h
    exact ⟨vs, e, AV.relL_to s cs _ hl⟩
  | .fn f first captured, u, h => by
    obtain ⟨fs, cs, e, h1, h2⟩ := h
    exact ⟨fs, cs, e, AV.relL_to s first _ h1, AV.relL_to s captured _ h2⟩
  | .any, u, h => trivial
theorem AV.relL_to {c d : Cx} (s : c.To d) : ∀ (az : List AV) (us : List Value), AV.relL c az us → AV.relL d az us
  | [], us, h => h
  | a :: az, us, h => by
    obtain ⟨x, xs, e, h1, h2⟩ := h
    exact ⟨x, xs, e, AV.rel_to s a x h1, AV.relL_to s az xs h2⟩
end

/-! lists of abstract values -/
section
variable {c : Cx}
theorem relL_nil : AV.relL c [] [] := rfl
theorem relL_cons {a : AV} {az : List AV} {x : Value} {xs : List Value} : AV.relL c (a :: az) (x :: xs) ↔ a.rel c x ∧ AV.relL c az xs := by
  constructor
  · rintro ⟨y, ys, e, h1, h2⟩; cases e; exact ⟨h1, h2⟩
  · rintro ⟨h1, h2⟩; exact ⟨x, xs, rfl, h1, h2⟩
theorem relL_length : ∀ {az : List AV} {us : List Value}, AV.relL c az us → us.length = az.length
  | [], us, h => by have : us = [] := h; simp [this]
  | a :: az, us, h => by obtain ⟨x, xs, rfl, _, h2⟩ := h; simp [relL_length h2]
theorem relL_get : ∀ {az : List AV} {us : List Value}, AV.relL c az us → ∀ {i : Nat} {a : AV}, az[i]? = some a → ∃ u, us[i]? = some u ∧ a.rel c u
  | [], us, h, i, a, e => by simp at e
  | b :: az, us, h, i, a, e => by
    obtain ⟨x, xs, rfl, h1, h2⟩ := h
    cases i with
    | zero => simp at e; subst e; exact ⟨x, by simp, h1⟩
    | succ i => simp at e; simpa using relL_get h2 e
theorem relL_append : ∀ {az bs : List AV} {us vs : List Value}, AV.relL c az us → AV.relL c bs vs → AV.relL c (az ++ bs) (us ++ vs)
  | [], bs, us, vs, h, k => by have : us = [] := h; simpa [this] using k
  | a :: az, bs, us, vs, h, k => by obtain ⟨x, xs, rfl, h1, h2⟩ := h; exact ⟨x, xs ++ vs, rfl, h1, relL_append h2 k⟩
theorem relL_take : ∀ {az : List AV} {us : List Value}, AV.relL c az us → ∀ n, AV.relL c (az.take n) (us.take n)
  | [], us, h, n => by have : us = [] := h; subst this; simp [AV.relL]
  | a :: az, us, h, n => by
    obtain ⟨x, xs, rfl, h1, h2⟩ := h
    cases n with
    | zero => simp [AV.relL]
    | succ n => simp only [List.take_succ_cons]; exact ⟨x, _, rfl, h1, relL_take h2 n⟩
theorem relL_drop : ∀ {az : List AV} {us : List Value}, AV.relL c az us → ∀ n, AV.relL c (az.drop n) (us.drop n)
  | [], us, h, n => by have : us = [] := h; subst this; simp [AV.relL]
  | a :: az, us, h, n => by
    cases n with
    | zero => simpa using h
    | succ n => obtain ⟨x, xs, rfl, h1, h2⟩ := h; simp only [List.drop_succ_cons]; exact relL_drop h2 n
theorem relL_set : ∀ {az : List AV} {us : List Value}, AV.relL c az us → ∀ {i : Nat} {a : AV} {u : Value}, a.rel c u → AV.relL c (az.set i a) (us.set i u)
  | [], us, h, i, a, u, k => by have : us = [] := h; subst this; simp [AV.relL]
  | b :: az, us, h, i, a, u, k => by
    obtain ⟨x, xs, rfl, h1, h2⟩ := h
    cases i with
    | zero => exact ⟨u, xs, rfl, k, h2⟩
    | succ i => exact ⟨x, _, rfl, h1, relL_set h2 k⟩
end

theorem rel_one {c : Cx} {a : AV} {u : Value} (h : a.rel c u) (ho : a.one = true) : u.oneCell' = true := by
  cases a with
  | val v => rw [show u = v from h]; exact ho
  | ro k n cells => obtain ⟨a, cap, vs, e, _⟩ := h; subst e; rfl
  | sl id off len k => exact h.2.1
  | ptr id off => exact h.2.1
  | rop cells => obtain ⟨ad, vs, e, _⟩ := h; subst e; rfl
  | agg cells => cases ho
  | tup cs => cases ho
  | fn f a b => obtain ⟨fs, cs, e, _⟩ := h; subst e; rfl
  | any => cases ho
theorem relL_one {c : Cx} : ∀ {az : List AV} {us : List Value}, AV.relL c az us → az.all AV.one = true → ∀ u ∈ us, u.oneCell' = true
  | [], us, h, _, u, hu => by have : us = [] := h; subst this; simp at hu
  | a :: az, us, h, ho, u, hu => by
    obtain ⟨x, xs, rfl, h1, h2⟩ := h
    simp only [List.all_cons, Bool.and_eq_true] at ho
    rcases List.mem_cons.1 hu with rfl | hu
    · exact rel_one h1 ho.1
    · exact relL_one h2 ho.2 u hu

/-! less is known -/
def AV.le (a b : AV) : Prop := ∀ (c : Cx) (u : Value), AV.rel c a u → AV.rel c b u
def leL : List AV → List AV → Prop
  | [], bs => bs = []
  | a :: az, bs => ∃ b bs', bs = b :: bs' ∧ a.le b ∧ leL az bs'
theorem AV.le_refl (a : AV) : a.le a := fun _ _ h => h
theorem AV.le_any (a : AV) : a.le .any := fun _ _ _ => trivial
theorem AV.le_ro (k : Cap) (n : Nat) (cells : List AV) : AV.le (.ro k n cells) (.ro .unk n cells) := by
  rintro c u ⟨a, cap, vs, e, ⟨h1, h2, _⟩, hr⟩
  exact ⟨a, cap, vs, e, ⟨h1, h2, fun h => by cases h⟩, hr⟩
theorem leL_refl : ∀ az : List AV, leL az az
  | [] => rfl
  | a :: az => ⟨a, az, rfl, AV.le_refl a, leL_refl az⟩
theorem leL_cons {a b : AV} {az bs : List AV} (h : a.le b) (k : leL az bs) : leL (a :: az) (b :: bs) := ⟨b, bs, rfl, h, k⟩
theorem relL_le {c : Cx} : ∀ {az bs : List AV} {us : List Value}, leL az bs → AV.relL c az us → AV.relL c bs us
  | [], bs, us, h, k => by have : bs = [] := h; rw [this]; exact k
  | a :: az, bs, us, h, k => by
    obtain ⟨b, bs', rfl, h1, h2⟩ := h
    obtain ⟨x, xs, rfl, k1, k2⟩ := k
    exact ⟨x, xs, rfl, h1 c x k1, relL_le h2 k2⟩
/-- Only these places stay known. -/
def forgetFrom (ks : List Nat) : Nat → List AV → List AV
  | _, [] => []
  | i, a :: az => (bif ks.contains i then a else .any) :: forgetFrom ks (i + 1) az
def forget (ks : List Nat) (az : List AV) : List AV := forgetFrom ks 0 az
theorem leL_forgetFrom (ks : List Nat) : ∀ (i : Nat) (az : List AV), leL az (forgetFrom ks i az)
  | _, [] => rfl
  | i, a :: az => by
    refine leL_cons ?_ (leL_forgetFrom ks (i + 1) az)
    cases ks.contains i
    · exact AV.le_any a
    · exact AV.le_refl a
theorem leL_forget (ks : List Nat) (az : List AV) : leL az (forget ks az) := leL_forgetFrom ks 0 az
/-- A frame of n places of which these are known. -/
def frFrom (l : List (Nat × AV)) (i : Nat) : Nat → List AV
  | 0 => []
  | n + 1 => (match l.lookup i with | some v => v | none => .any) :: frFrom l (i + 1) n
def fr (n : Nat) (l : List (Nat × AV)) : List AV := frFrom l 0 n
end Go.Proofs.YtjhbobacbaikoaaGreatDoor
/- Calls and code over abstract values: what a call comes to, the rules for each form of code. -/
namespace Go.Proofs.YtjhbobacbaikoaaGreatDoor
open Go
set_option linter.unusedVariables false
set_option linter.unusedSimpArgs false

/-- What is known of the world besides the abstract heap, and stays. -/
structure Env where
  holds : Cx → Prop
  kept : ∀ c d : Cx, (∀ b k, c.still b k → d.still b k ∧ sameCell c.w d.w b k) → holds c → holds d
  glob : Nat → Option (List AV)
  globOk : ∀ c g cells, holds c → glob g = some cells → AV.rel c (.rop cells) (.pointer (some ⟨g, 0, none⟩))

theorem Env.mono (E : Env) (n : Nat) (c d : Cx) (t : Cx.Ton n c d) (h : E.holds c) : E.holds d := E.kept c d t.stay h

section
variable (P : Program) (E : Env) (n : Nat)

/-- A call of f with these arguments over this heap returns what Q tells. -/
def Sp (f : FuncId) (args : List AV) (h : AHeap) (Q : AV → AHeap → Prop) : Prop :=
  ∀ (μ : Mu) (w : World) (cargs : Array Value), E.holds ⟨μ, h, w⟩ → Cx.Ok ⟨μ, h, w⟩ → AV.relL ⟨μ, h, w⟩ args cargs.toList →
    Calls P f cargs w fun e w' => ∃ r h' μ' u, e = .returned u ∧ Q r h' ∧ Cx.Ok ⟨μ', h', w'⟩ ∧ AV.rel ⟨μ', h', w'⟩ r u ∧ Cx.To ⟨μ, h, w⟩ ⟨μ', h', w'⟩

/-- A state of a frame fits. -/
structure Fits (c : Cx) (st : List AV) (a : Act) : Prop where
  env : E.holds c
  ok : c.Ok
  tmps : AV.relL c st a.tmps.toList
  defers : a.defers = []

/-- Where a piece of code has come to. -/
def Come (c : Cx) (Q : List AV → AHeap → Prop) (a : Act) (w : World) : Prop :=
  ∃ st h μ, Q st h ∧ Fits E ⟨μ, h, w⟩ st a ∧ Cx.Ton n c ⟨μ, h, w⟩

def AWP (k : Code) (Q : Exit → List AV → AHeap → Prop) (st : List AV) (h : AHeap) : Prop :=
  ∀ (μ : Mu) (w : World) (a : Act), n ≤ h.length → Fits E ⟨μ, h, w⟩ st a → k.wp P (fun e a' w' => Come E n ⟨μ, h, w⟩ (Q e) a' w') a w

/-- One operation, before what follows. -/
def AOp (ops : Array Oper) (i : Nat) (K : List AV → AHeap → Prop) (st : List AV) (h : AHeap) : Prop :=
  ∀ (Q : Exit → Act → World → Prop) (μ : Mu) (w : World) (a : Act), n ≤ h.length → Fits E ⟨μ, h, w⟩ st a → wpOp P ops Q i (Come E n ⟨μ, h, w⟩ K) a w

/-- Operations in a given order. -/
def AOps (ops : Array Oper) (Q : List AV → AHeap → Prop) : List Nat → List AV → AHeap → Prop
  | [], st, h => ∃ st1, leL st st1 ∧ Q st1 h
  | i :: l, st, h => AOp P E n ops i (AOps ops Q l) st h
end

section
variable {P : Program} {E : Env} {n : Nat}

theorem Come.trans {c d : Cx} {Q : List AV → AHeap → Prop} {a : Act} {w : World} (h : Come E n d Q a w) (s : Cx.Ton n c d) : Come E n c Q a w := by
  obtain ⟨st, h', μ, q, f, t⟩ := h
  exact ⟨st, h', μ, q, f, s.trans t⟩
theorem Come.mono {c : Cx} {Q Q' : List AV → AHeap → Prop} {a : Act} {w : World} (h : Come E n c Q a w) (k : ∀ st h, Q st h → Q' st h) : Come E n c Q' a w := by
  obtain ⟨st, h', μ, q, f, t⟩ := h
  exact ⟨st, h', μ, k _ _ q, f, t⟩
theorem Come.here {c : Cx} {Q : List AV → AHeap → Prop} {st : List AV} {a : Act} (hn : n ≤ c.h.length) (f : Fits E c st a) (q : Q st c.h) : Come E n c Q a c.w := ⟨st, c.h, c.μ, q, f, Cx.Ton.refl c hn⟩

theorem Fits.le {c : Cx} {st st1 : List AV} {a : Act} (f : Fits E c st a) (l : leL st st1) : Fits E c st1 a := ⟨f.env, f.ok, relL_le l f.tmps, f.defers⟩
theorem AWP.le {k : Code} {Q : Exit → List AV → AHeap → Prop} {st st1 : List AV} {h : AHeap} (l : leL st st1) (s : AWP P E n k Q st1 h) : AWP P E n k Q st h :=
  fun μ w a hn f => s μ w a hn (f.le l)
theorem Sp.le {f : FuncId} {args args1 : List AV} {h : AHeap} {Q : AV → AHeap → Prop} (l : leL args args1) (s : Sp P E f args1 h Q) : Sp P E f args h Q :=
  fun μ w ca he ho hr => s μ w ca he ho (relL_le l hr)
theorem Sp.mono {f : FuncId} {args : List AV} {h : AHeap} {Q Q' : AV → AHeap → Prop} (s : Sp P E f args h Q) (k : ∀ r h', Q r h' → Q' r h') : Sp P E f args h Q' :=
  fun μ w ca he ho hr => (s μ w ca he ho hr).mono fun e w' ⟨r, h', μ', u, h1, h2, h3⟩ => ⟨r, h', μ', u, h1, k _ _ h2, h3⟩

theorem AWP.mono {k : Code} {Q Q' : Exit → List AV → AHeap → Prop} {st : List AV} {h : AHeap} (s : AWP P E n k Q st h) (q : ∀ e st h, Q e st h → Q' e st h) : AWP P E n k Q' st h :=
  fun μ w a hn f => wp_mono (s μ w a hn f) fun e a' w' hc => hc.mono (q e)

theorem AWP_skip {Q : Exit → List AV → AHeap → Prop} {st : List AV} {h : AHeap} (q : Q .normal st h) : AWP P E n .skip Q st h :=
  fun μ w a hn f => wp_skip (Come.here hn f q)
theorem AWP_label {l : Nat} {Q : Exit → List AV → AHeap → Prop} {st : List AV} {h : AHeap} (q : Q .normal st h) : AWP P E n (.label l) Q st h :=
  fun μ w a hn f => wp_label (Come.here hn f q)
theorem AWP_exit {id : Nat} {Q : Exit → List AV → AHeap → Prop} {st : List AV} {h : AHeap} (q : Q (.exit id) st h) : AWP P E n (.exit id) Q st h :=
  fun μ w a hn f => wp_exit (Come.here hn f q)
theorem AWP_ret {Q : Exit → List AV → AHeap → Prop} {st : List AV} {h : AHeap} (q : Q .ret st h) : AWP P E n .ret Q st h :=
  fun μ w a hn f => wp_ret (Come.here hn f q)

def thenA (K : List AV → AHeap → Prop) (Q : Exit → List AV → AHeap → Prop) : Exit → List AV → AHeap → Prop
  | .normal => K
  | e => Q e
theorem AWP_seq {x y : Code} {Q : Exit → List AV → AHeap → Prop} {st : List AV} {h : AHeap} (s : AWP P E n x (thenA (AWP P E n y Q) Q) st h) : AWP P E n (.seq x y) Q st h := by
  intro μ w a hn f
  refine wp_seq (wp_mono (s μ w a hn f) fun e a' w' hc => ?_)
  cases e with
  | normal =>
    obtain ⟨st', h', μ', q, f', t⟩ := hc
    exact wp_mono (q μ' w' a' t.len f') fun e2 a2 w2 hc2 => hc2.trans t
  | exit id => exact hc
  | goto l => exact hc
  | ret => exact hc
  | panic ch => exact hc
  | outgrown => exact hc

def inBlockA (id : Nat) (Q : Exit → List AV → AHeap → Prop) : Exit → List AV → AHeap → Prop
  | .exit id' => if id' = id then Q .normal else Q (.exit id')
  | e => Q e
theorem AWP_block {id : Nat} {k : Code} {Q : Exit → List AV → AHeap → Prop} {st : List AV} {h : AHeap} (s : AWP P E n k (inBlockA id Q) st h) : AWP P E n (.block id k) Q st h := by
  intro μ w a hn f
  refine wp_block (wp_mono (s μ w a hn f) fun e a' w' hc => ?_)
  cases e with
  | exit id' =>
    by_cases hi : id' = id
    · simp only [Exit.inBlock, inBlockA, hi, if_true] at hc ⊢; exact hc
    · simp only [Exit.inBlock, inBlockA, hi, if_false] at hc ⊢; exact hc
  | normal => exact hc
  | goto l => exact hc
  | ret => exact hc
  | panic ch => exact hc
  | outgrown => exact hc

/-- A loop, by what holds at its head; the number goes down. -/
theorem wp_loop_rel {c : Code} {Q : Exit → Act → World → Prop} (I : Nat → Act → World → Prop)
    (round : ∀ n a w, I n a w → c.wp P (Exit.then (fun a' w' => ∃ m, m < n ∧ I m a' w') Q) a w) : ∀ n a w, I n a w → (Code.loop c).wp P Q a w := by
  intro n0 a0 w0 h0 b k cs
  have key : ∀ n a w, I n a w →
      ∃ e a' w', Q e a' w' ∧ Arrives P (lone (b.at a (.code c :: .inLoop c :: k)) cs w) b k cs e a' w' := by
    intro n
    induction n using Nat.strongRecOn with
    | _ n ih =>
      intro a w hI
      obtain ⟨e, a₁, w₁, hq, harr⟩ := round n a w hI b (.inLoop c :: k) cs
      cases e with
      | normal =>
        obtain ⟨m, hlt, hI₁⟩ := hq
        obtain ⟨e₂, a₂, w₂, hq₂, harr₂⟩ := ih m hlt a₁ w₁ hI₁
        exact ⟨e₂, a₂, w₂, hq₂, .of_steps (Steps.trans harr (.one step_inLoop)) harr₂⟩
      | exit id => exact ⟨_, a₁, w₁, hq, .pass (x := .inLoop c) rfl (fun _ _ => .inl (by simp)) harr⟩
      | goto l => exact ⟨_, a₁, w₁, hq, .pass (x := .inLoop c) rfl (fun _ _ => .inl (by simp)) harr⟩
      | ret => exact ⟨_, a₁, w₁, hq, .pass (x := .inLoop c) rfl (fun _ _ => .inl (by simp)) harr⟩
      | panic ch => exact ⟨_, a₁, w₁, hq, .pass (x := .inLoop c) rfl (fun _ _ => .inl (by simp)) harr⟩
      | outgrown => exact ⟨_, a₁, w₁, hq, .pass (x := .inLoop c) rfl (fun _ _ => .inl (by simp)) harr⟩
  obtain ⟨e, a', w', hq, harr⟩ := key n0 a0 w0 h0
  exact ⟨e, a', w', hq, .of_steps (.one step_loop) harr⟩

theorem AWP_loop {c : Code} {Q : Exit → List AV → AHeap → Prop} (I : Nat → List AV → AHeap → Prop)
    (round : ∀ k st h, I k st h → AWP P E n c (thenA (fun st' h' => ∃ m, m < k ∧ I m st' h') Q) st h) {k : Nat} {st : List AV} {h : AHeap} (h0 : I k st h) : AWP P E n (.loop c) Q st h := by
  intro μ w a hn f
  refine wp_loop_rel (fun j a' w' => Come E n ⟨μ, h, w⟩ (I j) a' w') ?_ k a w (Come.here hn f h0)
  intro j a' w' hc
  obtain ⟨st', h', μ', q, f', t⟩ := hc
  refine wp_mono (round j st' h' q μ' w' a' t.len f') fun e a2 w2 hc2 => ?_
  cases e with
  | normal =>
    obtain ⟨st2, h2, μ2, ⟨m, hm, q2⟩, f2, t2⟩ := hc2
    exact ⟨m, hm, st2, h2, μ2, q2, f2, t.trans t2⟩
  | exit id => exact hc2.trans t
  | goto l => exact hc2.trans t
  | ret => exact hc2.trans t
  | panic ch => exact hc2.trans t
  | outgrown => exact hc2.trans t

theorem wpOp_to {ops : Array Oper} {Q : Exit → Act → World → Prop} {i : Nat} {K K' : Act → World → Prop} {a : Act} {w : World} (h : wpOp P ops Q i K a w) (k : ∀ a w, K a w → K' a w) : wpOp P ops Q i K' a w := wpOp_mono k h

theorem AOps_sound {ops : Array Oper} {K : List AV → AHeap → Prop} {Q : Exit → Act → World → Prop} : ∀ (l : List Nat) (st : List AV) (h : AHeap), AOps P E n ops K l st h →
    ∀ (μ : Mu) (w : World) (a : Act), n ≤ h.length → Fits E ⟨μ, h, w⟩ st a → (∀ a' w', Come E n ⟨μ, h, w⟩ K a' w' → Q .normal a' w') → wpOps P ops Q l a w
  | [], st, h, s, μ, w, a, hn, f, q => by
    obtain ⟨st1, hl, hq⟩ := s
    exact q a w (Come.here (c := ⟨μ, h, w⟩) hn (f.le hl) hq)
  | i :: l, st, h, s, μ, w, a, hn, f, q => by
    rw [wpOps_cons]
    refine wpOp_to (s Q μ w a hn f) fun a' w' hc => ?_
    obtain ⟨st', h', μ', k, f', t⟩ := hc
    exact AOps_sound l st' h' k μ' w' a' t.len f' fun a2 w2 hc2 => q a2 w2 (hc2.trans t)

theorem AWP_region {id : Nat} {ops : Array Oper} {Q : Exit → List AV → AHeap → Prop} {st : List AV} {h : AHeap} (s : AOps P E n ops (Q .normal) (List.range ops.size) st h) : AWP P E n (.region id ops false) Q st h :=
  fun μ w a hn f => wp_region (AOps_sound _ st h s μ w a hn f fun a' w' hc => hc)

/-! the operations' own rule: no operation at this place, one that isn't wanted, one that gives a value, one that calls -/
theorem Fits.put {c : Cx} {st : List AV} {a : Act} (f : Fits E c st a) (d : Option Tmp) {v : AV} {u : Value} (r : v.rel c u) : Fits E c (match d with | some d => st.set d v | none => st) (a.put d u) := by
  cases d with
  | none => exact f
  | some d => exact ⟨f.env, f.ok, by simpa [Act.put] using relL_set f.tmps r, f.defers⟩
theorem Fits.to {c d : Cx} {st : List AV} {a : Act} (f : Fits E c st a) (t : c.To d) (ok : d.Ok) : Fits E d st a := ⟨E.mono _ _ _ t f.env, ok, AV.relL_to t _ _ f.tmps, f.defers⟩
end

/-- What is laid into a frame. -/
def putA (st : List AV) (d : Option Tmp) (v : AV) : List AV := match d with | some d => st.set d v | none => st
@[simp] theorem putA_some (st : List AV) (d : Nat) (v : AV) : putA st (some d) v = st.set d v := rfl
@[simp] theorem putA_none (st : List AV) (v : AV) : putA st none v = st := rfl
def undefA : AV := .val undef

/-- Is an operation wanted? -/
def wantA (ops : Array Oper) (st : List AV) (o : Oper) : Option Bool :=
  match o.guard with
  | none => some true
  | some (j, b) => match ops[j]? with
    | some g => match g.dst with
      | some d => match st[d]? with
        | some (.val (.bool t)) => some (t == b)
        | some (.val (.tuple _)) => some false
        | _ => none
      | none => none
    | none => none

section
variable {P : Program} {E : Env}
theorem wantA_sound {c : Cx} {ops : Array Oper} {st : List AV} {a : Act} {o : Oper} {t : Bool} (f : Fits E c st a) (h : wantA ops st o = some t) : Region.wanted o (yielded ops a.tmps) = t := by
  unfold wantA at h
  unfold Region.wanted
  cases hg : o.guard with
  | none => simp [hg] at h; simp [h]
  | some p =>
    obtain ⟨j, b⟩ := p
    simp only [hg] at h
    cases hj : ops[j]? with
    | none => simp [hj] at h
    | some g =>
      simp only [hj] at h
      cases hd : g.dst with
      | none => simp [hd] at h
      | some d =>
        simp only [hd] at h
        cases hs : st[d]? with
        | none => simp [hs] at h
        | some v =>
          rw [hs] at h
          split at h
          · rename_i t' heq
            cases heq
            obtain ⟨u, hu, hr⟩ := relL_get f.tmps hs
            have e : u = .bool t' := hr
            subst e
            have hu' : a.tmps[d]? = some (.bool t') := by simpa using hu
            simp only [Option.some.injEq] at h
            subst h
            simp [yielded, hj, hd, hu', BEq.comm, eq_comm]
          · rename_i t' heq
            cases heq
            obtain ⟨u, hu, hr⟩ := relL_get f.tmps hs
            have e : u = .tuple t' := hr
            subst e
            have hu' : a.tmps[d]? = some (.tuple t') := by simpa using hu
            simp only [Option.some.injEq] at h
            subst h
            simp [yielded, hj, hd, hu']
          · cases h
end
end Go.Proofs.YtjhbobacbaikoaaGreatDoor
/- Operations over abstract values: what each gives, and that it gives that. -/
namespace Go.Proofs.YtjhbobacbaikoaaGreatDoor
open Go
set_option linter.unusedVariables false
set_option linter.unusedSimpArgs false

def ofCell : Value → AV
  | .slice none 0 0 => .ro .full 0 []
  | v => .val v
def ofV : Value → AV
  | .agg cs => if cs.all Value.oneCell' then .agg (cs.toList.map ofCell) else .any
  | v => ofCell v
theorem rel_ofCell (c : Cx) (v : Value) : AV.rel c (ofCell v) v := by
  unfold ofCell
  split
  · exact ⟨none, 0, [], rfl, ⟨Nat.le_refl _, Nat.zero_le _, fun _ => rfl⟩, rfl, rfl, .inl rfl⟩
  · rfl
theorem one_ofCell {v : Value} (h : v.oneCell' = true) : (ofCell v).one = true := by
  unfold ofCell
  split
  · rfl
  · exact h
theorem relL_ofCells (c : Cx) : ∀ vs : List Value, AV.relL c (vs.map ofCell) vs
  | [] => rfl
  | v :: vs => ⟨v, vs, rfl, rel_ofCell c v, relL_ofCells c vs⟩
theorem rel_ofV (c : Cx) (v : Value) : AV.rel c (ofV v) v := by
  unfold ofV
  split
  · rename_i cs
    split
    · rename_i h
      refine ⟨cs, rfl, relL_ofCells c _, ?_⟩
      rw [List.all_map, List.all_eq_true]
      intro x hx
      exact one_ofCell (Array.all_eq_true_iff_forall_mem.1 h x (by simpa using hx))
    · trivial
  · exact rel_ofCell c _

section
variable (P : Program) (E : Env)
def evA (st : List AV) : Operand → AV
  | .tmp t => st.getD t undefA
  | .const v => ofV v
  | .global g => match E.glob g with
    | some cells => .rop cells
    | none => .val (.pointer (some ⟨g, 0, none⟩))
  | .func f => .val (.func (.func f) #[] #[])
end
section
variable {P : Program} {E : Env}
theorem evA_sound {c : Cx} {st : List AV} {a : Act} (f : Fits E c st a) (x : Operand) : AV.rel c (evA E st x) (a.eval x) := by
  cases x with
  | tmp t =>
    simp only [evA, Act.eval, List.getD_eq_getElem?_getD]
    cases h : st[t]? with
    | none =>
      have hl : st.length ≤ t := List.getElem?_eq_none_iff.1 h
      have hl' : a.tmps.size = st.length := by have := relL_length f.tmps; simpa using this
      have : a.tmps.size ≤ t := by omega
      simp only [Option.getD_none]
      rw [Array.getD_eq_getD_getElem?, Array.getElem?_eq_none this]
      rfl
    | some v =>
      obtain ⟨u, hu, hr⟩ := relL_get f.tmps h
      have hu' : a.tmps[t]? = some u := by simpa using hu
      simp only [Option.getD_some]
      rw [Array.getD_eq_getD_getElem?, hu']
      exact hr
  | const v => exact rel_ofV c v
  | global g =>
    simp only [evA, Act.eval]
    cases h : E.glob g with
    | none => rfl
    | some cells => exact E.globOk c g cells f.env h
  | func g => rfl
end

/-! types -/
section
variable (P : Program)
def tsize (t : TypeId) : Nat := ((P.info? t).map (·.size)).getD 0
def tagg (t : TypeId) : Bool := match P.underlying t with | some (.struct _) => true | some (.array _ _) => true | _ => false
def tok (t : TypeId) : Bool := (P.info? t).isSome && (P.underlying t).isSome
def tfld (t : TypeId) (k : Nat) : Option (Nat × TypeId) := match P.underlying t with | some (.struct fs) => (fs[k]?).map fun f => (f.offset, f.type) | _ => none
def telem (t : TypeId) : Option TypeId := match P.underlying t with | some (.slice e) => some e | _ => none
def tarr (t : TypeId) : Option (Nat × TypeId) := match P.underlying t with | some (.array n e) => some (n, e) | _ => none
def tzero (t : TypeId) : Option Value := (P.info? t).bind (·.zero)
end
section
variable {P : Program}
theorem run_sizeOf {t : TypeId} (h : tok P t = true) (w : World) : (sizeOf t).run P w = .ok (tsize P t) w := by
  unfold tok at h
  cases hi : P.info? t with
  | none => simp [hi] at h
  | some i => simp [sizeOf, typeInfo, hi, tsize]
theorem run_isAgg {t : TypeId} (h : tok P t = true) (w : World) : (isAgg t).run P w = .ok (tagg P t) w := by
  unfold tok at h
  cases hu : P.underlying t with
  | none => simp [hu] at h
  | some d => simp only [isAgg, Sem.run_bind, run_underlying hu, Result.andThen_ok, tagg, hu]; cases d <;> rfl
end

/-- The first cells. -/
def takeN : Nat → List AV → Option (List AV)
  | 0, _ => some []
  | _ + 1, [] => none
  | n + 1, a :: l => match takeN n l with
    | some r => some (a :: r)
    | none => none
theorem takeN_spec : ∀ {n : Nat} {l r : List AV}, takeN n l = some r → r = l.take n ∧ n ≤ l.length
  | 0, l, r, h => by simp [takeN] at h; simp [← h]
  | n + 1, [], r, h => by simp [takeN] at h
  | n + 1, a :: l, r, h => by
    simp only [takeN] at h
    cases hr : takeN n l with
    | none => simp [hr] at h
    | some r' =>
      simp [hr] at h
      obtain ⟨e, hl⟩ := takeN_spec hr
      subst h
      simp [e, hl]
theorem takeN_of {n : Nat} {l : List AV} (h : n ≤ l.length) : takeN n l = some (l.take n) := by
  induction n generalizing l with
  | zero => simp [takeN]
  | succ n ih =>
    cases l with
    | nil => simp at h
    | cons a l => simp only [takeN, ih (by simpa using h), List.take_succ_cons]
/-- Cells laid over others. -/
def putN : Nat → List AV → List AV → Option (List AV)
  | 0, [], cs => some cs
  | 0, v :: vs, _ :: cs => match putN 0 vs cs with
    | some r => some (v :: r)
    | none => none
  | 0, _ :: _, [] => none
  | n + 1, vs, c :: cs => match putN n vs cs with
    | some r => some (c :: r)
    | none => none
  | _ + 1, _, [] => none
theorem putN_spec : ∀ {n : Nat} {vs cs r : List AV}, putN n vs cs = some r → r = cs.take n ++ vs ++ cs.drop (n + vs.length) ∧ n + vs.length ≤ cs.length
  | 0, [], cs, r, h => by simp [putN] at h; simp [h]
  | 0, v :: vs, [], r, h => by simp [putN] at h
  | 0, v :: vs, c :: cs, r, h => by
    simp only [putN] at h
    cases hr : putN 0 vs cs with
    | none => simp [hr] at h
    | some r' =>
      simp [hr] at h
      obtain ⟨e, hl⟩ := putN_spec hr
      subst h
      simp at e hl
      simp [e]
      omega
  | n + 1, vs, [], r, h => by simp [putN] at h
  | n + 1, vs, c :: cs, r, h => by
    simp only [putN] at h
    cases hr : putN n vs cs with
    | none => simp [hr] at h
    | some r' =>
      simp [hr] at h
      obtain ⟨e, hl⟩ := putN_spec hr
      subst h
      have : n + 1 + vs.length = (n + vs.length) + 1 := by omega
      simp [e, this]
      omega

def AV.cs : AV → List AV
  | .agg cells => cells
  | a => [a]
def blkCells (h : AHeap) (i : Nat) : Option (TypeId × List AV) := match hget h i with | some (.cells t cs) => some (t, cs) | _ => none
def live (h : AHeap) (i : Nat) : Bool := match hget h i with | some .dead => false | some _ => true | none => false
theorem live_alive {h : AHeap} {i : Nat} (e : live h i = true) : alive h i := by
  unfold live at e
  cases hb : hget h i with
  | none => simp [hb] at e
  | some b => cases b <;> simp [hb] at e <;> exact ⟨_, hb, by simp⟩
theorem blkCells_alive {h : AHeap} {i : Nat} {t : TypeId} {cs : List AV} (e : blkCells h i = some (t, cs)) : hget h i = some (.cells t cs) ∧ alive h i := by
  unfold blkCells at e
  split at e
  · rename_i t' cs' hb; cases e; exact ⟨hb, _, hb, by simp⟩
  · cases e

section
variable (P : Program)
/-- The value of a variable of type t whose cells begin here. -/
def exCells (t : TypeId) (cells : List AV) : Option AV :=
  bif tagg P t then (match takeN (tsize P t) cells with | some r => some (.agg r) | none => none) else cells[0]?
/-- A load: out of a block, or out of what came in. -/
def exLoad (t : TypeId) (a : AV) (h : AHeap) : Option AV :=
  match a with
  | .ptr id off => match blkCells h id with
    | some (_, cs) => exCells P t (cs.drop off)
    | none => none
  | .rop cells => exCells P t cells
  | _ => none
end
section
variable {P : Program}
theorem all_take {cs : List AV} (h : cs.all AV.one = true) (n : Nat) : (cs.take n).all AV.one = true := by
  rw [List.all_eq_true] at h ⊢
  exact fun x hx => h x (List.mem_of_mem_take hx)
theorem all_drop {cs : List AV} (h : cs.all AV.one = true) (n : Nat) : (cs.drop n).all AV.one = true := by
  rw [List.all_eq_true] at h ⊢
  exact fun x hx => h x (List.mem_of_mem_drop hx)
theorem all_app {az bs : List AV} (h : az.all AV.one = true) (k : bs.all AV.one = true) : (az ++ bs).all AV.one = true := by
  rw [List.all_append, h, k]; rfl
theorem add_at (b o j : Nat) : (⟨b, o, none⟩ : Addr).add j = ⟨b, o + j, none⟩ := by
  unfold Addr.add; split <;> simp_all
theorem add_add (a : Addr) (i j : Nat) : (a.add i).add j = a.add (i + j) := by
  unfold Addr.add
  by_cases hi : i = 0
  · subst hi; simp
  · by_cases hj : j = 0
    · subst hj; simp [hi]
    · simp [hi, hj]; omega

/-- Cells that lie from an address on, as a load takes them. -/
theorem run_loadVar_cells {c : Cx} {t : TypeId} {ad : Addr} {cells : List AV} {vs : List Value} {r : AV} (hok : tok P t = true)
    (hl : AV.relL c cells vs) (ho : cells.all AV.one = true) (hc : ∀ j x, vs[j]? = some x → c.w.cell? (ad.add j) = some x)
    (hr : exCells P t cells = some r) :
    ∃ u, (loadVar t ad).run P c.w = .ok u c.w ∧ AV.rel c r u := by
  simp only [loadVar, Sem.run_bind, run_isAgg hok, Result.andThen_ok]
  unfold exCells at hr
  cases hg : tagg P t with
  | true =>
    simp only [hg, cond_true] at hr
    cases hn : takeN (tsize P t) cells with
    | none => simp [hn] at hr
    | some q =>
      simp [hn] at hr
      subst hr
      obtain ⟨e, hle⟩ := takeN_spec hn
      have hlen := relL_length hl
      have hk : (loadCells ad (vs.take (tsize P t)).length).run P c.w = .ok (vs.take (tsize P t)).toArray c.w :=
        run_loadCells_list c.w ad _ fun j x hj => by
          rw [List.getElem?_take] at hj
          split at hj
          · exact hc j x hj
          · cases hj
      have hlen2 : (vs.take (tsize P t)).length = tsize P t := by simp; omega
      rw [hlen2] at hk
      refine ⟨.agg (vs.take (tsize P t)).toArray, ?_, ?_⟩
      · simp [run_sizeOf hok, hk]
      · exact ⟨_, rfl, by rw [e]; simpa using relL_take hl _, by rw [e]; exact all_take ho _⟩
  | false =>
    simp only [hg, cond_false] at hr
    obtain ⟨u, hu, hr'⟩ := relL_get hl hr
    have := hc 0 u hu
    refine ⟨u, ?_, hr'⟩
    have h0 : ad.add 0 = ad := by simp [Addr.add]
    rw [h0] at this
    simp [this]
end
end Go.Proofs.YtjhbobacbaikoaaGreatDoor
/- What becomes of a fit by a new block, by a write into a block of the abstract heap, by an append. -/
namespace Go.Proofs.YtjhbobacbaikoaaGreatDoor
open Go
set_option linter.unusedVariables false
set_option linter.unusedSimpArgs false

theorem ABlk.rel_to {c d : Cx} (s : c.To d) {b : ABlk} {m : Option Nat} (he : ∀ k, m = some k → d.w.heap[k]? = c.w.heap[k]?) (h : b.rel c m) : b.rel d m := by
  cases b with
  | cells t cs =>
    rcases h with ⟨b, cv, vs, rest, h0, h1, h2, h3, h4⟩ | h
    · exact .inl ⟨b, cv, vs, rest, h0, (he b h0).trans h1, h2, AV.relL_to s _ _ h3, h4⟩
    · exact .inr h
  | row t cs =>
    rcases h with ⟨b, cv, vs, rest, h0, h1, h2, h3, h4⟩ | h
    · exact .inl ⟨b, cv, vs, rest, h0, (he b h0).trans h1, h2, AV.relL_to s _ _ h3, h4⟩
    · exact .inr h
  | iter s p => obtain ⟨b, h0, h1⟩ := h; exact ⟨b, h0, (he b h0).trans h1⟩
  | dead => trivial
/-- A block whose cells may be written, or one whose cells stay. -/
def mkB (r : Bool) (e : TypeId) (cs : List AV) : ABlk := match r with
  | true => .row e cs
  | false => .cells e cs
theorem mkB_rel {c : Cx} {m : Option Nat} {r : Bool} {e : TypeId} {cs : List AV} : (mkB r e cs).rel c m ↔ (ABlk.cells e cs).rel c m := by cases r <;> exact Iff.rfl
theorem mkB_dead {r : Bool} {e : TypeId} {cs : List AV} : mkB r e cs ≠ .dead := by cases r <;> simp [mkB]
theorem mkB_lim {r : Bool} {e : TypeId} {cs : List AV} : (mkB r e cs).lim = if r then cs.length else 0 := by cases r <;> rfl
theorem hset_ge : ∀ {h : AHeap} {i : Nat} (x : ABlk), h.length ≤ i → hset h i x = h
  | [], i, x, _ => rfl
  | b :: h, i, x, hi => by
    simp only [List.length_cons] at hi
    simp only [hset]
    rw [if_neg (by omega), hset_ge x (by omega)]
theorem alive_kill {h : AHeap} {i j : Nat} : alive (hset h i .dead) j ↔ alive h j ∧ j ≠ i := by
  constructor
  · rintro ⟨b, hb, hd⟩
    by_cases e : j = i
    · subst e
      have hl : j < h.length := by have := hget_lt hb; simpa using this
      rw [hget_hset_same _ hl] at hb
      cases hb; exact absurd rfl hd
    · rw [hget_hset_ne _ e] at hb; exact ⟨⟨b, hb, hd⟩, e⟩
  · rintro ⟨⟨b, hb, hd⟩, e⟩
    exact ⟨b, by rw [hget_hset_ne _ e]; exact hb, hd⟩

/-- Behind a new block in place of block i (if there is one): it lies at x. -/
def Cx.app (c : Cx) (i : Nat) (x : Option Nat) (b : ABlk) (w : World) : Cx := ⟨⟨fun k => if k = c.h.length then x else c.μ k, c.μ.x⟩, b :: hset c.h i .dead, w⟩
section
variable {c : Cx} {i : Nat} {x : Option Nat} {b : ABlk} {w : World}
theorem app_mu {j : Nat} (h : j < c.h.length) : (c.app i x b w).μ j = c.μ j := by simp only [Cx.app]; rw [if_neg (by omega)]
theorem app_mu_new : (c.app i x b w).μ c.h.length = x := by simp [Cx.app]
theorem app_alive {j : Nat} (h : j < c.h.length) : alive (c.app i x b w).h j ↔ alive c.h j ∧ j ≠ i := by
  simp only [Cx.app]
  rw [alive_cons (by simpa using h), alive_kill]
theorem app_lt {j : Nat} (h : alive (c.app i x b w).h j) : j = c.h.length ∨ j < c.h.length := by have := h.lt; simp [Cx.app] at this; omega
theorem app_old {j k : Nat} (hok : c.Ok) (hx : ∀ k, x = some k → c.w.heap.size ≤ k ∨ (alive c.h i ∧ c.μ i = some k)) (hj : alive c.h j) (hji : j ≠ i) (hk : c.μ j = some k) : x ≠ some k := by
  intro e
  rcases hx k e with h | ⟨h1, h2⟩
  · have := hok.lt hj hk; omega
  · exact hji (hok.inj j i k hj h1 hk h2)
theorem app_get {j : Nat} {y : ABlk} (hl : j < c.h.length) (hj : hget (c.app i x b w).h j = some y) (hy : y ≠ .dead) : j ≠ i ∧ hget c.h j = some y := by
  have hj2 : hget (b :: hset c.h i .dead) j = some y := hj
  rw [hget_cons_old (by simpa using hl)] at hj2
  have ha : alive (hset c.h i .dead) j := ⟨y, hj2, hy⟩
  obtain ⟨_, ha2⟩ := alive_kill.1 ha
  rw [hget_hset_ne _ ha2] at hj2
  exact ⟨ha2, hj2⟩
theorem app_get_new {y : ABlk} (hj : hget (c.app i x b w).h c.h.length = some y) : y = b := by
  have hj2 : hget (b :: hset c.h i .dead) c.h.length = some y := hj
  have := hget_cons_new (hset c.h i .dead) b
  rw [hset_length] at this
  rw [this] at hj2
  cases hj2; rfl
theorem app_to (hok : c.Ok) (hos : w.os = c.w.os) (htape : w.tape = c.w.tape) (hout : w.output = c.w.output) (hsz : c.w.heap.size ≤ w.heap.size)
    (hh : ∀ k, k < c.w.heap.size → x ≠ some k → w.heap[k]? = c.w.heap[k]?) (hx : ∀ k, x = some k → c.w.heap.size ≤ k ∨ (alive c.h i ∧ c.μ i = some k))
    (hst : ∀ k q, x = some k → c.still k q → q < b.lim ∧ sameCell c.w w k q) : c.To (c.app i x b w) := by
  refine ⟨hos, htape, hout, hsz, by simp [Cx.app], rfl, fun k hk => hh k hk.1 fun e => ?_, fun k q hk => ⟨⟨Nat.lt_of_lt_of_le hk.1 hsz, fun j y hj hy e => ?_, hk.2.2⟩, ?_⟩, fun j hj ha => ⟨((app_alive hj).1 ha).1, app_mu hj⟩, fun j hj ha k hk cv t fr hc => ?_, fun j ha k hk => ?_⟩
  · rcases hx k e with h | ⟨h1, h2⟩
    · have := hk.1; omega
    · exact hk.2 i h1 h2
  · rcases app_lt ⟨y, hj, hy⟩ with rfl | hl
    · rw [app_mu_new] at e
      rw [app_get_new hj]
      exact (hst k q e hk).1
    · rw [app_mu hl] at e
      exact hk.2.1 j y (app_get hl hj hy).2 hy e
  · by_cases e : x = some k
    · exact (hst k q e hk).2
    · exact fun a h1 h2 => cell_block (hh k hk.1 e) h1
  · obtain ⟨h1, h2⟩ := (app_alive hj).1 ha
    refine ⟨cv, ?_, rfl⟩
    rw [← hh k (hok.lt h1 hk) (app_old hok hx h1 h2 hk)]
    exact hc
  · rcases app_lt ha with rfl | hl
    · rw [app_mu_new] at hk
      rcases hx k hk with h | ⟨h1, h2⟩
      · exact .inr h
      · exact .inl ⟨i, h1, h2⟩
    · rw [app_mu hl] at hk
      exact .inl ⟨j, ((app_alive hl).1 ha).1, hk⟩
theorem app_ok (t : c.To (c.app i x b w)) (hok : c.Ok) (hh : ∀ k, k < c.w.heap.size → x ≠ some k → w.heap[k]? = c.w.heap[k]?)
    (hx : ∀ k, x = some k → c.w.heap.size ≤ k ∨ (alive c.h i ∧ c.μ i = some k)) (hb : b.rel (c.app i x b w) x) : (c.app i x b w).Ok := by
  refine ⟨fun j b' hj => ?_, fun j k l hj hk e1 e2 => ?_, fun j k hj e => ?_, fun k q hk => Nat.lt_of_lt_of_le (hok.xlt k q hk) t.size⟩
  · by_cases hn : j = c.h.length
    · subst hn
      rw [app_mu_new, app_get_new hj]
      exact hb
    · have hl : j < c.h.length := by have := hget_lt hj; simp [Cx.app] at this; omega
      rw [app_mu hl]
      by_cases hd : b' = .dead
      · subst hd; trivial
      · obtain ⟨h1, h2⟩ := app_get hl hj hd
        have ha1 : alive c.h j := ⟨b', h2, hd⟩
        exact ABlk.rel_to t (fun k hk => hh k (hok.lt ha1 hk) (app_old hok hx ha1 h1 hk)) (hok.blk j b' h2)
  · rcases app_lt hj with rfl | hjl <;> rcases app_lt hk with rfl | hkl
    · rfl
    · rw [app_mu_new] at e1
      rw [app_mu hkl] at e2
      obtain ⟨h1, h2⟩ := (app_alive hkl).1 hk
      exact absurd e1 (app_old hok hx h1 h2 e2)
    · rw [app_mu_new] at e2
      rw [app_mu hjl] at e1
      obtain ⟨h1, h2⟩ := (app_alive hjl).1 hj
      exact absurd e2 (app_old hok hx h1 h2 e1)
    · rw [app_mu hjl] at e1
      rw [app_mu hkl] at e2
      exact hok.inj j k l ((app_alive hjl).1 hj).1 ((app_alive hkl).1 hk).1 e1 e2
  · rcases app_lt hj with rfl | hjl
    · rw [app_mu_new] at e
      intro q hk
      rcases hx k e with h | ⟨h1, h2⟩
      · have := hok.xlt k q hk; omega
      · exact hok.nx i k h1 h2 q hk
    · rw [app_mu hjl] at e
      exact hok.nx j k ((app_alive hjl).1 hj).1 e
end

/-- Behind a new block. -/
def Cx.new (c : Cx) (b : ABlk) (w : World) : Cx := c.app c.h.length (some c.w.heap.size) b w
theorem new_h {c : Cx} {b : ABlk} {w : World} : (c.new b w).h = b :: c.h := by simp [Cx.new, Cx.app, hset_ge]
theorem new_eq {c : Cx} {b : ABlk} {w : World} : c.new b w = ⟨(c.new b w).μ, b :: c.h, w⟩ := by
  have := new_h (c := c) (b := b) (w := w)
  show (⟨_, _, _⟩ : Cx) = _
  congr 1
theorem not_alive_len {h : AHeap} : ¬ alive h h.length := fun e => Nat.lt_irrefl _ e.lt
theorem Cx.new_blk {c : Cx} {b : ABlk} {w : World} (hok : c.Ok) (hos : w.os = c.w.os) (htape : w.tape = c.w.tape) (hout : w.output = c.w.output) {o : Obj}
    (hheap : w.heap = c.w.heap.push o) (hb : c.To (c.new b w) → b.rel (c.new b w) (some c.w.heap.size)) : (c.new b w).Ok ∧ c.To (c.new b w) := by
  have hh : ∀ i, i < c.w.heap.size → some c.w.heap.size ≠ some i → w.heap[i]? = c.w.heap[i]? := fun i hi _ => by rw [hheap]; simp [Array.getElem?_push]; omega
  have hx : ∀ k, some c.w.heap.size = some k → c.w.heap.size ≤ k ∨ (alive c.h c.h.length ∧ c.μ c.h.length = some k) := fun k e => by cases e; exact .inl (Nat.le_refl _)
  have t' : c.To (c.new b w) := app_to hok hos htape hout (by simp [hheap]) hh hx fun k q e hs => by cases e; exact absurd hs.1 (Nat.lt_irrefl _)
  exact ⟨app_ok t' hok hh hx (hb t'), t'⟩
theorem Cx.new_cells {c : Cx} {t : TypeId} {cs : List AV} {cv : Array Value} {vs rest : List Value} {w : World} (hok : c.Ok) (hos : w.os = c.w.os) (htape : w.tape = c.w.tape) (hout : w.output = c.w.output)
    (hheap : w.heap = c.w.heap.push (.cells cv t)) (hv : cv.toList = vs ++ rest) (hr : AV.relL c cs vs) (ho : cs.all AV.one = true) :
    (c.new (.cells t cs) w).Ok ∧ c.To (c.new (.cells t cs) w) :=
  Cx.new_blk hok hos htape hout hheap fun t' => .inl ⟨_, cv, vs, rest, rfl, by show w.heap[c.w.heap.size]? = _; rw [hheap]; simp, hv, AV.relL_to t' _ _ hr, ho⟩
theorem Cx.new_iter {c : Cx} {s : ByteArray} {w : World} (hok : c.Ok) (hos : w.os = c.w.os) (htape : w.tape = c.w.tape) (hout : w.output = c.w.output)
    (hheap : w.heap = c.w.heap.push (.stringIter s 0)) : (c.new (.iter s 0) w).Ok ∧ c.To (c.new (.iter s 0) w) :=
  Cx.new_blk hok hos htape hout hheap fun t' => ⟨_, rfl, by show w.heap[c.w.heap.size]? = _; rw [hheap]; simp⟩

/-- Behind a write into block i. -/
def Cx.wr (c : Cx) (i : Nat) (b : ABlk) (w : World) : Cx := ⟨c.μ, hset c.h i b, w⟩
theorem alive_hset {h : AHeap} {i j : Nat} {b : ABlk} (hb : b ≠ .dead) (hi : alive h i) : alive (hset h i b) j ↔ alive h j := by
  by_cases e : j = i
  · subst e; exact ⟨fun _ => hi, fun _ => ⟨b, hget_hset_same b hi.lt, hb⟩⟩
  · simp [alive, hget_hset_ne b e]
theorem Cx.wr_to {c : Cx} {i k : Nat} {b b0 : ABlk} {w : World} (hok : c.Ok) (hg : hget c.h i = some b0) (hl0 : b0.lim = 0) (hi : alive c.h i) (hk : c.μ i = some k) (hb : b ≠ .dead) (hos : w.os = c.w.os) (htape : w.tape = c.w.tape) (hout : w.output = c.w.output)
    (hsz : w.heap.size = c.w.heap.size) (hh : ∀ j, j ≠ k → w.heap[j]? = c.w.heap[j]?)
    (hrow : ∀ cv t fr, w.heap[k]? = some (.cells cv t fr) → ∃ cv', c.w.heap[k]? = some (.cells cv' t fr) ∧ cv'.size = cv.size) : c.To (c.wr i b w) := by
  refine ⟨hos, htape, hout, by simp [Cx.wr, hsz], by simp [Cx.wr], rfl, fun j hj => hh j fun e => hj.2 i hi (by rw [hk, e]), fun j q hj => ?_, fun j hj ha => ?_, fun j hj ha l hl cv t fr hc => ?_, fun j ha l hl => ?_⟩
  · have hne : j ≠ k := by
      rintro rfl
      have hd : b0 ≠ .dead := by obtain ⟨b1, hb1, hd1⟩ := hi; rw [hg] at hb1; cases hb1; exact hd1
      have := hj.2.1 i b0 hg hd hk
      omega
    refine ⟨⟨by simp [Cx.wr, hsz]; exact hj.1, fun z y hz hy e => ?_, hj.2.2⟩, fun a h1 h2 => cell_block (hh j hne) h1⟩
    have hzi : z ≠ i := by
      rintro rfl
      have e' : c.μ z = some j := e
      rw [hk] at e'; cases e'; exact hne rfl
    have hz' : hget (hset c.h i b) z = some y := hz
    rw [hget_hset_ne b hzi] at hz'
    exact hj.2.1 z y hz' hy e
  · exact ⟨(alive_hset hb hi).1 ha, rfl⟩
  · by_cases e : l = k
    · rw [e]; exact hrow cv t fr (by rw [← e]; exact hc)
    · exact ⟨cv, by rw [← hh _ e]; exact hc, rfl⟩
  · exact .inl ⟨j, (alive_hset hb hi).1 ha, hl⟩
theorem Cx.wr_ok {c : Cx} {i k : Nat} {b : ABlk} {w : World} (t : c.To (c.wr i b w)) (hok : c.Ok) (hi : alive c.h i) (hk : c.μ i = some k) (hb : b ≠ .dead) (hh : ∀ j, j ≠ k → w.heap[j]? = c.w.heap[j]?)
    (hrel : b.rel (c.wr i b w) (c.μ i)) : (c.wr i b w).Ok := by
  refine ⟨fun j b' hj => ?_, fun j l m hj hl e1 e2 => hok.inj j l m ((alive_hset hb hi).1 hj) ((alive_hset hb hi).1 hl) e1 e2,
    fun j l hj e => hok.nx j l ((alive_hset hb hi).1 hj) e, fun l q hl => Nat.lt_of_lt_of_le (hok.xlt l q hl) t.size⟩
  by_cases e : j = i
  · subst e
    simp only [Cx.wr] at hj
    rw [hget_hset_same b hi.lt] at hj
    cases hj
    exact hrel
  · simp only [Cx.wr] at hj
    rw [hget_hset_ne b e] at hj
    have h := hok.blk j b' hj
    cases hd : b' with
    | dead => trivial
    | _ => rw [← hd]; exact ABlk.rel_to t (fun l hl => hh _ fun e' => e (hok.inj j i l ⟨b', hj, by simp [hd]⟩ hi hl (by rw [hk, e']))) h
theorem Cx.wr_cells {c : Cx} {i k : Nat} {t : TypeId} {cs cs' : List AV} {cv' : Array Value} {vs rest : List Value} {w : World} (hok : c.Ok) (hg : hget c.h i = some (.cells t cs)) (hk : c.μ i = some k)
    (hos : w.os = c.w.os) (htape : w.tape = c.w.tape) (hout : w.output = c.w.output) (hsz : w.heap.size = c.w.heap.size) (hh : ∀ j, j ≠ k → w.heap[j]? = c.w.heap[j]?)
    (hnew : w.heap[k]? = some (.cells cv' t (0, 0))) {cv : Array Value} (hcv : c.w.heap[k]? = some (.cells cv t (0, 0))) (hsame : cv'.size = cv.size)
    (hv : cv'.toList = vs ++ rest) (hr : AV.relL c cs' vs) (ho : cs'.all AV.one = true) : (c.wr i (.cells t cs') w).Ok ∧ c.To (c.wr i (.cells t cs') w) := by
  have hi : alive c.h i := ⟨_, hg, by simp⟩
  have t' := Cx.wr_to (b := .cells t cs') (w := w) hok hg rfl hi hk (by simp) hos htape hout hsz hh fun cv1 t1 fr1 h1 => by
    rw [hnew] at h1; cases h1; exact ⟨cv, hcv, hsame.symm⟩
  exact ⟨Cx.wr_ok t' hok hi hk (by simp) hh (.inl ⟨k, cv', vs, rest, hk, hnew, hv, AV.relL_to t' _ _ hr, ho⟩), t'⟩
theorem Cx.wr_iter {c : Cx} {i k : Nat} {s : ByteArray} {p p' : Nat} {w : World} (hok : c.Ok) (hg : hget c.h i = some (.iter s p)) (hk : c.μ i = some k)
    (hos : w.os = c.w.os) (htape : w.tape = c.w.tape) (hout : w.output = c.w.output) (hsz : w.heap.size = c.w.heap.size) (hh : ∀ j, j ≠ k → w.heap[j]? = c.w.heap[j]?)
    (hnew : w.heap[k]? = some (.stringIter s p')) : (c.wr i (.iter s p') w).Ok ∧ c.To (c.wr i (.iter s p') w) := by
  have hi : alive c.h i := ⟨_, hg, by simp⟩
  have t' := Cx.wr_to (b := .iter s p') (w := w) hok hg rfl hi hk (by simp) hos htape hout hsz hh fun cv1 t1 fr1 h1 => by
    rw [hnew] at h1; cases h1
  exact ⟨Cx.wr_ok t' hok hi hk (by simp) hh ⟨k, hk, hnew⟩, t'⟩
end Go.Proofs.YtjhbobacbaikoaaGreatDoor
/- The operations: each one's value and heap. -/
namespace Go.Proofs.YtjhbobacbaikoaaGreatDoor
open Go
set_option linter.unusedVariables false
set_option linter.unusedSimpArgs false

section
variable (P : Program) (E : Env)
def Gives (o : Oper) (v : AV) (h' : AHeap) (st : List AV) (h : AHeap) : Prop :=
  ∀ (μ : Mu) (w : World) (a : Act), Fits E ⟨μ, h, w⟩ st a → ∃ nx u w' μ', (execOp a.eval o).run P w = .ok nx w' ∧ (nx = .value u ∨ (nx = .skip ∧ u = undef)) ∧
    AV.rel ⟨μ', h', w'⟩ v u ∧ Cx.Ok ⟨μ', h', w'⟩ ∧ Cx.To ⟨μ, h, w⟩ ⟨μ', h', w'⟩
end
section
variable {P : Program} {E : Env} {n : Nat}
theorem Fits.putA {c : Cx} {st : List AV} {a : Act} (f : Fits E c st a) (d : Option Tmp) {v : AV} {u : Value} (r : v.rel c u) : Fits E c (putA st d v) (a.put d u) := f.put d r

theorem AOp_none {ops : Array Oper} {i : Nat} {K : List AV → AHeap → Prop} {st : List AV} {h : AHeap} (hi : ops[i]? = none) (k : K st h) : AOp P E n ops i K st h := by
  intro Q μ w a hn f
  simp only [wpOp, hi]
  exact Come.here (c := ⟨μ, h, w⟩) hn f k
theorem AOp_off {ops : Array Oper} {i : Nat} {o : Oper} {K : List AV → AHeap → Prop} {st : List AV} {h : AHeap} (hi : ops[i]? = some o) (hw : wantA ops st o = some false) (k : K (putA st o.dst undefA) h) : AOp P E n ops i K st h := by
  intro Q μ w a hn f
  simp only [wpOp, hi, wantA_sound f hw]
  exact Come.here (c := ⟨μ, h, w⟩) hn (f.putA o.dst (v := undefA) (u := undef) rfl) k
theorem AOp_gives {ops : Array Oper} {i : Nat} {o : Oper} {v : AV} {h' : AHeap} {K : List AV → AHeap → Prop} {st : List AV} {h : AHeap} (hi : ops[i]? = some o) (hw : wantA ops st o = some true)
    (g : Gives P E o v h' st h) (k : K (putA st o.dst v) h') : AOp P E n ops i K st h := by
  intro Q μ w a hn f
  simp only [wpOp, hi, wantA_sound f hw, if_true]
  left
  obtain ⟨nx, u, w', μ', hrun, hnx, hrel, hok, hto⟩ := g μ w a f
  unfold Oper.wp
  rw [hrun]
  have f' := (f.to hto hok).putA o.dst hrel
  rcases hnx with rfl | ⟨rfl, rfl⟩
  · exact ⟨_, _, _, k, f', hto.le hn⟩
  · exact ⟨_, _, _, k, f', hto.le hn⟩

/-- Does a call of f enter f? -/
def goes (P : Program) (f : FuncId) : Bool := match P.funcs[f]? with
  | some fn => !(fn.name == "runtime.NumGoroutine") && fn.body.isSome
  | none => false
theorem goes_spec {f : FuncId} (h : goes P f = true) (args : Array Value) (w : World) : (callFunc f args).run P w = .ok (.enter f args) w := by
  unfold goes at h
  cases hf : P.funcs[f]? with
  | none => simp [hf] at h
  | some fn =>
    simp [hf] at h
    obtain ⟨h1, h2⟩ := h
    have h1' : (fn.name == "runtime.NumGoroutine") = false := by simpa using h1
    cases hb : fn.body with
    | none => simp [hb] at h2
    | some b => simp [callFunc, hf, h1, hb]

theorem relL_map {c : Cx} {st : List AV} {a : Act} (f : Fits E c st a) : ∀ xs : List Operand, AV.relL c (xs.map (evA E st)) (xs.map a.eval)
  | [] => rfl
  | x :: xs => ⟨_, _, rfl, evA_sound f x, relL_map f xs⟩

/-- Whom a value calls, and with what first and last. -/
def calleeA : AV → Option (FuncId × List AV × List AV)
  | .val (.func (.func f) a b) => bif a.size == 0 && b.size == 0 then some (f, [], []) else none
  | .fn f first captured => some (f, first, captured)
  | _ => none
theorem AOp_call {ops : Array Oper} {i : Nat} {o : Oper} {x : Operand} {args : Array Operand} {ats : Array TypeId} {g : FuncId} {first captured : List AV} {K : List AV → AHeap → Prop} {st : List AV} {h : AHeap}
    (hi : ops[i]? = some o) (hw : wantA ops st o = some true) (ho : o.op = .call { callee := .value x, args := args, argTypes := ats }) (hx : calleeA (evA E st x) = some (g, first, captured)) (hg : goes P g = true)
    (k : Sp P E g (first ++ args.toList.map (evA E st) ++ captured) h (fun r h' => K (putA st o.dst r) h')) : AOp P E n ops i K st h := by
  intro Q μ w a hn f
  simp only [wpOp, hi, wantA_sound f hw, if_true]
  left
  have hr := evA_sound f x
  obtain ⟨fs, cs, hev, h1, h2⟩ : ∃ fs cs : Array Value, a.eval x = .func (.func g) fs cs ∧ AV.relL ⟨μ, h, w⟩ first fs.toList ∧ AV.relL ⟨μ, h, w⟩ captured cs.toList := by
    generalize evA E st x = v at hx hr
    unfold calleeA at hx
    split at hx
    · rename_i g' fa fb
      by_cases hs : fa.size = 0 ∧ fb.size = 0
      · simp [hs.1, hs.2] at hx
        obtain ⟨rfl, rfl, rfl⟩ := hx
        obtain rfl : fa = #[] := Array.eq_empty_of_size_eq_zero hs.1
        obtain rfl : fb = #[] := Array.eq_empty_of_size_eq_zero hs.2
        exact ⟨#[], #[], hr, rfl, rfl⟩
      · have : (fa.size == 0 && fb.size == 0) = false := by simpa using hs
        simp [this] at hx
    · cases hx
      exact hr
    · cases hx
  have hrun : (execOp a.eval o).run P w = .ok (.enter g (fs ++ args.map a.eval ++ cs)) w := by
    simp [execOp, ho, resolve, hev, Deferred.ofValue, invoke, goes_spec hg]
  unfold Oper.wp
  rw [hrun]
  have hl : AV.relL ⟨μ, h, w⟩ (first ++ args.toList.map (evA E st) ++ captured) (fs ++ args.map a.eval ++ cs).toList := by
    rw [Array.toList_append, Array.toList_append, Array.toList_map]
    exact relL_append (relL_append h1 (relL_map f _)) h2
  refine (k μ w _ f.env f.ok hl).mono fun e w' hq => ?_
  obtain ⟨r, h', μ', u, rfl, hk, hok, hrel, hto⟩ := hq
  exact ⟨_, h', μ', hk, (f.to hto hok).putA o.dst hrel, hto.le hn⟩

/-- Nothing changes, and the value is there. -/
def Same (P : Program) (E : Env) (o : Oper) (v : AV) (st : List AV) (h : AHeap) : Prop :=
  ∀ (μ : Mu) (w : World) (a : Act), Fits E ⟨μ, h, w⟩ st a → ∃ u, (execOp a.eval o).run P w = .ok (.value u) w ∧ AV.rel ⟨μ, h, w⟩ v u
theorem Same.gives {o : Oper} {v : AV} {st : List AV} {h : AHeap} (g : Same P E o v st h) : Gives P E o v h st h := by
  intro μ w a f
  obtain ⟨u, h1, h2⟩ := g μ w a f
  exact ⟨_, u, w, μ, h1, .inl rfl, h2, f.ok, Cx.To.refl _⟩
end

/-! values of two numbers, two strings, two Bools -/
def exBin (op : BinOp) : Value → Value → Option Value
  | .int k a, .int k' b =>
    match op with
    | .shl => bif decide (b < 0) then none else some (.int k (k.wrap (a * 2 ^ min b.toNat k.bits)))
    | .shr => bif decide (b < 0) then none else some (.int k (a.fdiv (2 ^ min b.toNat k.bits)))
    | op => bif k == k' then
      (match op with
      | .add => some (.int k (k.wrap (a + b)))
      | .sub => some (.int k (k.wrap (a - b)))
      | .mul => some (.int k (k.wrap (a * b)))
      | .quo => bif b == 0 then none else some (.int k (k.wrap (a.tdiv b)))
      | .rem => bif b == 0 then none else some (.int k (a.tmod b))
      | .and => some (.int k (k.wrap (BitVec.ofInt k.bits a &&& BitVec.ofInt k.bits b).toNat))
      | .or => some (.int k (k.wrap (BitVec.ofInt k.bits a ||| BitVec.ofInt k.bits b).toNat))
      | .xor => some (.int k (k.wrap (BitVec.ofInt k.bits a ^^^ BitVec.ofInt k.bits b).toNat))
      | .andNot => some (.int k (k.wrap (BitVec.ofInt k.bits a &&& ~~~ BitVec.ofInt k.bits b).toNat))
      | .eql => some (.bool (a == b))
      | .neq => some (.bool (a != b))
      | .lss => some (.bool (decide (a < b)))
      | .leq => some (.bool (decide (a ≤ b)))
      | .gtr => some (.bool (decide (a > b)))
      | .geq => some (.bool (decide (a ≥ b)))
      | _ => none)
      else none
  | .string a, .string b =>
    match op with
    | .eql => some (.bool (a.toList == b.toList))
    | .neq => some (.bool (!(a.toList == b.toList)))
    | .lss => some (.bool (Op.bytesLess a.toList b.toList))
    | .leq => some (.bool (Op.bytesLess a.toList b.toList || a.toList == b.toList))
    | .gtr => some (.bool (!(Op.bytesLess a.toList b.toList || a.toList == b.toList)))
    | .geq => some (.bool (!(Op.bytesLess a.toList b.toList)))
    | _ => none
  | _, _ => none
theorem exBin_sound {P : Program} {op : BinOp} {t : TypeId} {x y : Operand} {a b u : Value} (h : exBin op a b = some u) (w : World) :
    (do eqGuard op t x y a b; binOp op t a b : Sem Value).run P w = .ok u w := by
  cases a <;> cases b <;> simp only [exBin] at h <;> try (cases h)
  · rename_i k a k' b
    have hguard : (eqGuard op t x y (.int k a) (.int k' b)).run P w = .ok () w := by
      unfold eqGuard; cases op <;> rfl
    simp only [Sem.run_bind, hguard, Result.andThen_ok]
    cases op <;> simp only at h <;>
      first
      | (by_cases hb : b < 0
         · simp [hb] at h
         · simp [hb] at h; subst h; simp [binOp, Op.shift, hb])
      | (by_cases hk : k = k'
         · subst hk
           cases hb : (b == 0)
           all_goals first
           | (simp [hb] at h; done)
           | (simp only [beq_self_eq_true, cond_true, hb, cond_false, Option.some.injEq] at h; subst h; have hb' : ¬ b = 0 := by simpa using hb
              simp [binOp, Op.intDiv, hb']; done)
           | (simp at h; subst h; simp [binOp, Op.intArith, Op.intBits, Op.intCmp]; done)
           | (simp at h; subst h; simp [binOp, Op.intArith, Op.intBits, Op.intCmp]; done)
           | (cases h)
         · have : (k == k') = false := by simp [hk]
           simp [this] at h)
  · rename_i a b
    have hguard : (eqGuard op t x y (.string a) (.string b)).run P w = .ok () w := by
      unfold eqGuard; cases op <;> rfl
    simp only [Sem.run_bind, hguard, Result.andThen_ok]
    cases op <;> simp only at h <;> first | (cases h; done) | (simp at h; subst h; simp [binOp, Op.stringOp])
end Go.Proofs.YtjhbobacbaikoaaGreatDoor
/- The operations that compute: one function, and that each gives what it says. -/
namespace Go.Proofs.YtjhbobacbaikoaaGreatDoor
open Go
set_option linter.unusedVariables false
set_option linter.unusedSimpArgs false

theorem all_one_cs {c : Cx} {a : AV} {u : Value} (h : AV.rel c a u) (ho : a.cs.all AV.one = true) : ∃ vs : List Value, u.cells.toList = vs ∧ AV.relL c a.cs vs ∧ (∀ x ∈ vs, x.oneCell' = true) ∧ a.cs.length = u.cells.size := by
  have key : AV.relL c a.cs u.cells.toList := by
    cases a with
    | agg cells => obtain ⟨vs, rfl, hl, _⟩ := h; exact hl
    | val v =>
      have e : u = v := h
      subst e
      have h1 : u.oneCell' = true := by simpa [AV.cs, AV.one] using ho
      have : u.cells = #[u] := by cases u <;> first | rfl | cases h1
      rw [this]; exact ⟨u, [], rfl, h, rfl⟩
    | tup vs => simp [AV.cs, AV.one] at ho
    | any => simp [AV.cs, AV.one] at ho
    | ro k n cells => obtain ⟨a, cap, vs, rfl, hr⟩ := h; exact ⟨_, [], rfl, ⟨a, cap, vs, rfl, hr⟩, rfl⟩
    | sl id off len k =>
      have h1 := h.2.1
      have : u.cells = #[u] := by cases u <;> first | rfl | cases h1
      rw [this]; exact ⟨u, [], rfl, h, rfl⟩
    | ptr id off =>
      have h1 := h.2.1
      have : u.cells = #[u] := by cases u <;> first | rfl | cases h1
      rw [this]; exact ⟨u, [], rfl, h, rfl⟩
    | rop cells => obtain ⟨ad, vs, rfl, hr⟩ := h; exact ⟨_, [], rfl, ⟨ad, vs, rfl, hr⟩, rfl⟩
    | fn f x y => obtain ⟨ad, vs, rfl, hr⟩ := h; exact ⟨_, [], rfl, ⟨ad, vs, rfl, hr⟩, rfl⟩
  exact ⟨_, rfl, key, relL_one key ho, by have := relL_length key; simpa using this.symm⟩

section
variable (P : Program) (E : Env)
def exStore (t : TypeId) (a v : AV) (h : AHeap) : Option AHeap :=
  match a with
  | .ptr id off => match blkCells h id with
    | some (ty, cs) => bif v.cs.all AV.one && v.cs.length == tsize P t && tok P t then (match putN off v.cs cs with | some cs' => some (hset h id (.cells ty cs')) | none => none) else none
    | none => none
  | _ => none
def fillA (place : Nat → Option (Nat × Nat)) (cells : List AV) : List (Nat × AV) → Option (List AV)
  | [] => some cells
  | (i, v) :: rest => match place i with
    | none => none
    | some (off, size) => bif v.cs.length == size && v.cs.all AV.one then (match putN off v.cs cells with | some cs => fillA place cs rest | none => none) else none
/-- Where the fields of a struct lie. -/
def tplaces (t : TypeId) : Option (Nat → Option (Nat × Nat)) := match P.underlying t with
  | some (.struct fs) => bif fs.toList.all (fun f => tok P f.type) then some (fun x => (fs.toList.map fun f => (f.offset, tsize P f.type))[x]?) else none
  | some (.array _ e) => bif tok P e then some (fun x => some (x * tsize P e, tsize P e)) else none
  | _ => none
def exBuild (t : TypeId) (parts : List (Nat × AV)) : Option AV :=
  match tzero P t, tplaces P t with
  | some z, some places => bif (ofV z).cs.all AV.one then (match fillA places (ofV z).cs parts with | some cs => some (.agg cs) | none => none) else none
  | _, _ => none
def repl (n : Nat) (zs : List AV) : List AV := match n with
  | 0 => []
  | n + 1 => zs ++ repl n zs
def exBuildSlice (t : TypeId) (len : Nat) (parts : List (Nat × AV)) (h : AHeap) : Option (AV × AHeap) :=
  match telem P t with
  | some e => match tzero P e with
    | some z => bif tok P e && Nat.ble (len * tsize P e) 16777216 && (ofV z).cs.all AV.one && (ofV z).cs.length == tsize P e && Nat.blt 0 (tsize P e) then
        (match fillA (fun i => some (i * tsize P e, tsize P e)) (repl len (ofV z).cs) parts with
        | some cs => some (.sl h.length 0 len (.whole (tsize P e)), .cells e cs :: h)
        | none => none) else none
    | none => none
  | none => none
/-- What an operation that only looks gives. -/
def exV (op : Op) (st : List AV) (h : AHeap) : Option AV :=
  match op with
  | .move x => some (evA E st x)
  | .assign x => some (evA E st x)
  | .pick c a b => match evA E st c with
    | .val (.bool t) => some (bif t then evA E st a else evA E st b)
    | _ => none
  | .load t a => bif tok P t then exLoad P t (evA E st a) h else none
  | .nilCheck x => match evA E st x with
    | .ptr id off => bif live h id then some (.ptr id off) else none
    | .rop cells => some (.rop cells)
    | _ => none
  | .binOp op t x y _ => match evA E st x, evA E st y with
    | .val a, .val b => match exBin op a b with | some u => some (.val u) | none => none
    | _, _ => none
  | .unOp .not _ x => match evA E st x with
    | .val (.bool b) => some (.val (.bool !b))
    | _ => none
  | .unOp .neg _ x => match evA E st x with
    | .val (.int k n) => some (.val (.int k (k.wrap (0 - n))))
    | _ => none
  | .convert src dst x => match (P.underlying src).isSome, P.underlying dst, evA E st x with
    | true, some (.int k), .val (.int _ n) => some (.val (.int k (k.wrap n)))
    | true, some .string, .val (.int _ n) => some (.val (.string (Utf8.encode n)))
    | true, some .string, .val (.string s) => some (.val (.string s))
    | _, _, _ => none
  | .fieldAddr s x f => match tfld P s f with
    | some (o, ft) => bif tok P ft && Nat.blt 0 (tsize P ft) then (match evA E st x with
      | .ptr id off => bif live h id then some (.ptr id (off + o)) else none
      | .rop cells => some (.rop (cells.drop o))
      | _ => none) else none
    | none => none
  | .field s x f => match tfld P s f with
    | some (o, ft) => bif tok P ft then (match evA E st x with
      | .agg cells => bif tagg P ft then (match takeN (tsize P ft) (cells.drop o) with | some r => some (.agg r) | none => none) else (match cells[o]? with | some v => some v | none => none)
      | _ => none) else none
    | none => none
  | .extract x k => match evA E st x with
    | .tup vs => vs[k]?
    | _ => none
  | .makeFunc (.func f) first captured => some (.fn f (first.toList.map (evA E st)) (captured.toList.map (evA E st)))
  | .build t parts => exBuild P t (parts.toList.map fun p => (p.1, evA E st p.2))
  | .call { callee := .builtin .len, args, argTypes } => match argTypes[0]?, args[0]? with
    | some t, some x => match P.underlying t, evA E st x with
      | some .string, .val (.string s) => some (.val (.int .i64 (s.size : Nat)))
      | some (.array n _), _ => some (.val (.int .i64 (n : Nat)))
      | some (.slice _), .ro _ n _ => some (.val (.int .i64 (n : Nat)))
      | some (.slice _), .sl id _ n _ => bif live h id then some (.val (.int .i64 (n : Nat))) else none
      | _, _ => none
    | _, _ => none
  | .call { callee := .builtin .min, args, argTypes } => match args.toList.map (evA E st) with
    | [.val (.int k a), .val (.int _ b)] => some (.val (.int k (if b < a then b else a)))
    | _ => none
  | .call { callee := .builtin .max, args, argTypes } => match args.toList.map (evA E st) with
    | [.val (.int k a), .val (.int _ b)] => some (.val (.int k (if b > a then b else a)))
    | _ => none
  | _ => none
/-- What an operation that makes or writes memory gives. -/
def exW (op : Op) (st : List AV) (h : AHeap) : Option (AV × AHeap) :=
  match op with
  | .alloc t => match tzero P t with
    | some z => bif (ofV z).cs.all AV.one then some (.ptr h.length 0, .cells t (ofV z).cs :: h) else none
    | none => none
  | .box t x => bif (evA E st x).cs.all AV.one then some (.ptr h.length 0, .cells t (evA E st x).cs :: h) else none
  | .store t a x => match exStore P t (evA E st a) (evA E st x) h with | some h' => some (undefA, h') | none => none
  | .buildSlice t len parts => exBuildSlice P t len (parts.toList.map fun p => (p.1, evA E st p.2)) h
  | _ => none
def exA (op : Op) (st : List AV) (h : AHeap) : Option (AV × AHeap) :=
  match exV P E op st h with
  | some v => some (v, h)
  | none => exW P E op st h
end

section
variable {P : Program} {E : Env}
theorem rel_rop_drop {c : Cx} {cells : List AV} {u : Value} (n : Nat) (h : AV.rel c (.rop cells) u) : ∃ ad, u = .pointer (some ad) ∧ AV.rel c (.rop (cells.drop n)) (.pointer (some (ad.add n))) := by
  obtain ⟨ad, vs, rfl, hl, ho, hs, hc⟩ := h
  refine ⟨ad, rfl, ad.add n, vs.drop n, rfl, relL_drop hl n, all_drop ho n, ?_, fun j x hj => ?_⟩
  · rcases hs with rfl | hs
    · left; simp
    · right; intro j hj; rw [add_block, add_off, Nat.add_assoc]; exact hs (n + j) (by simp at hj; omega)
  · rw [add_add]
    rw [List.getElem?_drop] at hj
    exact hc _ x hj
theorem blk_at {c : Cx} (ok : c.Ok) {i b : Nat} {t : TypeId} {cs : List AV} (hg : hget c.h i = some (.cells t cs)) (hm : c.μ i = some b) :
    ∃ cv vs rest, c.w.heap[b]? = some (.cells cv t (0, 0)) ∧ cv.toList = vs ++ rest ∧ AV.relL c cs vs ∧ cs.all AV.one = true := by
  rcases ok.blk i _ hg with ⟨b', cv, vs, rest, e, h⟩ | ⟨e, _⟩
  · rw [hm] at e; cases e; exact ⟨cv, vs, rest, h⟩
  · rw [hm] at e; cases e
theorem gives_load {o : Oper} {t : TypeId} {x : Operand} {v : AV} {st : List AV} {h : AHeap} (ho : o.op = .load t x) (hok : tok P t = true) (hx : exLoad P t (evA E st x) h = some v) : Same P E o v st h := by
  intro μ w a f
  have hr := evA_sound f x
  generalize hA : evA E st x = A at hx hr
  unfold exLoad at hx
  split at hx
  · rename_i id off
    cases hb : blkCells h id with
    | none => simp [hb] at hx
    | some p =>
      obtain ⟨ty, cs⟩ := p
      simp only [hb] at hx
      obtain ⟨hg, ha⟩ := blkCells_alive hb
      obtain ⟨b, hmu, he⟩ := hr.2.2 ha
      obtain ⟨cv, vs, rest, hcv, hvs, hl, hone⟩ := blk_at f.ok hg hmu
      have hcell : ∀ j x, (vs.drop off)[j]? = some x → w.cell? ((⟨b, off, none⟩ : Addr).add j) = some x := by
        intro j x hj
        rw [add_at, cell_of_row w b (off + j) cv ty (0, 0) hcv]
        rw [List.getElem?_drop] at hj
        have : cv.toList[off + j]? = some x := by rw [hvs, List.getElem?_append_left (List.getElem?_eq_some_iff.1 hj).1]; exact hj
        simpa using this
      obtain ⟨u, hu, hrel⟩ := run_loadVar_cells (P := P) (c := ⟨μ, h, w⟩) hok (relL_drop hl off) (all_drop hone off) hcell hx
      exact ⟨u, by simp [execOp, ho, he, Instr.loadAt, Instr.sureAddr, hu], hrel⟩
  · rename_i cells
    obtain ⟨ad, vs, he, hl, hone, hs, hc⟩ := hr
    obtain ⟨u, hu, hrel⟩ := run_loadVar_cells (P := P) (c := ⟨μ, h, w⟩) hok hl hone hc hx
    exact ⟨u, by simp [execOp, ho, he, Instr.loadAt, Instr.sureAddr, hu], hrel⟩
  · cases hx

theorem ptr_new {c : Cx} {b : ABlk} {w : World} : AV.rel ⟨(c.new b w).μ, b :: c.h, w⟩ (.ptr c.h.length 0) (.pointer (some ⟨c.w.heap.size, 0, none⟩)) :=
  ⟨by simp, rfl, fun _ => ⟨_, by simp [Cx.new, Cx.app], rfl⟩⟩
theorem gives_box {o : Oper} {t : TypeId} {x : Operand} {st : List AV} {h : AHeap} (ho : o.op = .box t x) (hone : (evA E st x).cs.all AV.one = true) : Gives P E o (.ptr h.length 0) (.cells t (evA E st x).cs :: h) st h := by
  intro μ w a f
  have hr := evA_sound f x
  obtain ⟨vs, hv, hl, h1, _⟩ := all_one_cs hr hone
  have hn := Cx.new_cells (c := ⟨μ, h, w⟩) (t := t) (cv := (a.eval x).cells) (rest := []) (w := { w with heap := w.heap.push (.cells (a.eval x).cells t) }) f.ok rfl rfl rfl rfl (by rw [hv, List.append_nil]) hl hone
  refine ⟨.value (.pointer (some ⟨w.heap.size, 0, none⟩)), .pointer (some ⟨w.heap.size, 0, none⟩), _, _, ?_, .inl rfl, ?_, new_eq ▸ hn.1, new_eq ▸ hn.2⟩
  · simp [execOp, ho, Instr.box, newVar, newRow]
  · exact ptr_new
theorem gives_alloc {o : Oper} {t : TypeId} {z : Value} {st : List AV} {h : AHeap} (ho : o.op = .alloc t) (hz : tzero P t = some z) (hone : (ofV z).cs.all AV.one = true) : Gives P E o (.ptr h.length 0) (.cells t (ofV z).cs :: h) st h := by
  intro μ w a f
  have hr := rel_ofV ⟨μ, h, w⟩ z
  obtain ⟨vs, hv, hl, h1, _⟩ := all_one_cs hr hone
  have hn := Cx.new_cells (c := ⟨μ, h, w⟩) (t := t) (cv := z.cells) (rest := []) (w := { w with heap := w.heap.push (.cells z.cells t) }) f.ok rfl rfl rfl rfl (by rw [hv, List.append_nil]) hl hone
  have hzero : (zeroValue t).run P w = .ok z w := by
    unfold tzero at hz
    cases hi : P.info? t with
    | none => simp [hi] at hz
    | some i => simp [hi] at hz; simp [zeroValue, typeInfo, hi, hz]
  refine ⟨.value (.pointer (some ⟨w.heap.size, 0, none⟩)), .pointer (some ⟨w.heap.size, 0, none⟩), _, _, ?_, .inl rfl, ?_, new_eq ▸ hn.1, new_eq ▸ hn.2⟩
  · simp [execOp, ho, Instr.alloc, newVar, newRow, hzero]
  · exact ptr_new
theorem gives_store {o : Oper} {t : TypeId} {x y : Operand} {st : List AV} {h h' : AHeap} (ho : o.op = .store t x y) (hx : exStore P t (evA E st x) (evA E st y) h = some h') : Gives P E o undefA h' st h := by
  intro μ w a f
  have hr := evA_sound f x
  have hy := evA_sound f y
  generalize evA E st x = A at hx hr
  generalize evA E st y = B at hx hy
  unfold exStore at hx
  split at hx
  · rename_i id off
    cases hb : blkCells h id with
    | none => simp [hb] at hx
    | some p =>
      obtain ⟨ty, cs⟩ := p
      simp only [hb] at hx
      cases hcond : (B.cs.all AV.one && B.cs.length == tsize P t && tok P t) with
      | false => simp [hcond] at hx
      | true =>
        simp only [hcond, cond_true] at hx
        simp only [Bool.and_eq_true] at hcond
        obtain ⟨⟨hone, hlen⟩, htok⟩ := hcond
        have hlen' : B.cs.length = tsize P t := by simpa using hlen
        cases hp : putN off B.cs cs with
        | none => simp [hp] at hx
        | some cs' =>
          simp only [hp, Option.some.injEq] at hx
          subst hx
          obtain ⟨e, hle⟩ := putN_spec hp
          obtain ⟨hg, ha⟩ := blkCells_alive hb
          obtain ⟨b, hmu, he⟩ := hr.2.2 ha
          obtain ⟨cv, vs, rest, hcv, hvs, hl, hone'⟩ := blk_at f.ok hg hmu
          obtain ⟨us, hus, hul, hu1, husz⟩ := all_one_cs hy hone
          have hcvs : cv.size = vs.length + rest.length := by have := congrArg List.length hvs; simpa using this
          have hvl := relL_length hl
          have hulen := relL_length hul
          have hst := run_storeCells_at P b off ty us 0 cv w hcv (by omega) hu1
          simp only [Nat.add_zero] at hst
          have hrun : (execOp a.eval o).run P w = .ok .skip (w.setRow b (cv.toList.take off ++ us ++ cv.toList.drop (off + us.length)).toArray) := by
            have h1 : (a.eval y).cells.size = tsize P t := by omega
            simp [execOp, ho, he, Instr.storeAt, Instr.sureAddr, storeVar, run_sizeOf htok, h1, hus, hst]
          have hW := Cx.wr_cells (c := ⟨μ, h, w⟩) (i := id) (t := ty) (cs := cs) (cs' := cs') (cv' := (cv.toList.take off ++ us ++ cv.toList.drop (off + us.length)).toArray)
            (vs := vs.take off ++ us ++ vs.drop (off + us.length)) (rest := rest) (w := w.setRow b (cv.toList.take off ++ us ++ cv.toList.drop (off + us.length)).toArray) f.ok hg hmu rfl rfl rfl
            (by simp [World.setRow]) (fun k hk => setRow_other w b k _ hk) (setRow_heap w b cv _ ty _ hcv) hcv
            (by simp; omega)
            (by
              simp only [hvs]
              rw [List.take_append_of_le_length (by omega), List.drop_append_of_le_length (by omega)]
              simp)
            (by rw [e, ← hulen]; exact relL_append (relL_append (relL_take hl _) hul) (relL_drop hl _))
            (by rw [e]; exact all_app (all_app (all_take hone' _) hone) (all_drop hone' _))
          exact ⟨.skip, undef, _, _, hrun, .inr ⟨rfl, rfl⟩, rfl, hW.1, hW.2⟩
  · cases hx
end
end Go.Proofs.YtjhbobacbaikoaaGreatDoor
/- The other operations that compute, and all of them together. -/
namespace Go.Proofs.YtjhbobacbaikoaaGreatDoor
open Go
set_option linter.unusedVariables false
set_option linter.unusedSimpArgs false

section
variable {P : Program} {E : Env}
theorem foldl_set (off : Nat) (l : List Value) : ∀ (k : Nat) (cells : Array Value), off + k + l.length ≤ cells.size →
    (l.zipIdx k).foldl (fun (cs : Array Value) (x : Value × Nat) => cs.setIfInBounds (off + x.2) x.1) cells = (cells.toList.take (off + k) ++ l ++ cells.toList.drop (off + k + l.length)).toArray := by
  induction l with
  | nil => intro k cells h; simp
  | cons x l ih =>
    intro k cells h
    simp only [List.length_cons] at h
    simp only [List.zipIdx_cons, List.foldl_cons]
    have h2 := ih (k + 1) (cells.setIfInBounds (off + k) x) (by simp; omega)
    rw [h2]
    congr 1
    have hk : off + (k + 1) = (off + k) + 1 := by omega
    simp only [Array.toList_setIfInBounds, hk, List.length_cons]
    have hlt : off + k < cells.toList.length := by simp; omega
    rw [List.take_set, List.drop_set]
    have : (List.take (off + k + 1) cells.toList).set (off + k) x = List.take (off + k) cells.toList ++ [x] := by
      rw [List.take_succ_eq_append_getElem hlt]
      have hm : min (off + k) cells.size = off + k := by simp at hlt; omega
      rw [List.set_append_right _ _ (by simp; omega)]
      simp [hm]
    rw [this, if_pos (by omega)]
    have e1 : off + k + 1 + l.length = off + k + (l.length + 1) := by omega
    rw [e1]
    simp
theorem fill_one {place : Nat → Option (Nat × Nat)} {i off size : Nat} (hp : place i = some (off, size)) (cells : Array Value) (v : Value) (rest : List (Nat × Value)) (hs : v.cells.size = size) (hl : off + size ≤ cells.size) :
    Instr.fill place cells ((i, v) :: rest) = Instr.fill place (cells.toList.take off ++ v.cells.toList ++ cells.toList.drop (off + v.cells.toList.length)).toArray rest := by
  simp only [Instr.fill, hp]
  have h1 : ¬ (v.cells.size ≠ size || decide (off + v.cells.size > cells.size)) = true := by simp [hs]; omega
  rw [if_neg h1]
  congr 1
  have := foldl_set off v.cells.toList 0 cells (by simp; omega)
  simp only [Nat.add_zero] at this
  rw [← this]
  rw [← Array.foldl_toList, Array.toList_zipIdx]
theorem fill_sound {c : Cx} {st : List AV} {a : Act} (f : Fits E c st a) {placeA : Nat → Option (Nat × Nat)} : ∀ (parts : List (Nat × Operand)) (cells : Array Value) (cellsA r : List AV),
    AV.relL c cellsA cells.toList → cellsA.all AV.one = true → fillA placeA cellsA (parts.map fun p => (p.1, evA E st p.2)) = some r →
    ∃ R, Instr.fill placeA cells (parts.map fun p => (p.1, a.eval p.2)) = some R ∧ AV.relL c r R.toList ∧ r.all AV.one = true
  | [], cells, cellsA, r, hl, ho, h => by simp [fillA] at h; subst h; exact ⟨cells, rfl, hl, ho⟩
  | (i, x) :: parts, cells, cellsA, r, hl, ho, h => by
    simp only [List.map_cons, fillA] at h
    cases hp : placeA i with
    | none => simp [hp] at h
    | some q =>
      obtain ⟨off, size⟩ := q
      simp only [hp] at h
      cases hc : ((evA E st x).cs.length == size && (evA E st x).cs.all AV.one) with
      | false => simp [hc] at h
      | true =>
        simp only [hc, cond_true] at h
        simp only [Bool.and_eq_true] at hc
        cases hq : putN off (evA E st x).cs cellsA with
        | none => simp [hq] at h
        | some cs =>
          simp only [hq] at h
          obtain ⟨e, hle⟩ := putN_spec hq
          obtain ⟨us, hus, hul, hu1, husz⟩ := all_one_cs (evA_sound f x) hc.2
          have hulen := relL_length hul
          have hlen := relL_length hl
          have hsz : (a.eval x).cells.size = size := by have : (evA E st x).cs.length = size := by simpa using hc.1
                                                        omega
          have hcl : cells.size = cellsA.length := by simpa using hlen
          have hx1 : (evA E st x).cs.length = size := by simpa using hc.1
          have h1 : off + size ≤ cells.size := by omega
          rw [List.map_cons, fill_one hp cells (a.eval x) _ hsz h1]
          exact fill_sound f parts _ cs r (by
            simp only [hus]
            rw [e, ← hulen]
            exact relL_append (relL_append (relL_take hl _) hul) (relL_drop hl _))
            (by rw [e]; exact all_app (all_app (all_take ho _) hc.2) (all_drop ho _)) h
theorem run_zeroValue {t : TypeId} {z : Value} (hz : tzero P t = some z) (w : World) : (zeroValue t).run P w = .ok z w := by
  unfold tzero at hz
  cases hi : P.info? t with
  | none => simp [hi] at hz
  | some i => simp [hi] at hz; simp [zeroValue, typeInfo, hi, hz]
theorem mapM_places {fs : List Field} (h : fs.all (fun f => tok P f.type) = true) (w : World) :
    (fs.mapM fun (f : Field) => (do pure (f.offset, ← sizeOf f.type) : Sem (Nat × Nat))).run P w = .ok (fs.map fun f => (f.offset, tsize P f.type)) w := by
  induction fs with
  | nil => simp
  | cons f fs ih =>
    simp only [List.all_cons, Bool.and_eq_true] at h
    simp only [List.mapM_cons, Sem.run_bind, run_sizeOf h.1, Result.andThen_ok, Sem.run_pure, ih h.2, List.map_cons]
theorem gives_build {o : Oper} {t : TypeId} {parts : Array (Nat × Operand)} {v : AV} {st : List AV} {h : AHeap} (ho : o.op = .build t parts) (hx : exBuild P t (parts.toList.map fun p => (p.1, evA E st p.2)) = some v) : Same P E o v st h := by
  intro μ w a f
  unfold exBuild at hx
  cases hz : tzero P t with
  | none => simp [hz] at hx
  | some z =>
    cases hp : tplaces P t with
    | none => simp [hz, hp] at hx
    | some places =>
      simp only [hz, hp] at hx
      cases hone : (ofV z).cs.all AV.one with
      | false => simp [hone] at hx
      | true =>
        simp only [hone, cond_true] at hx
        cases hf : fillA places (ofV z).cs (parts.toList.map fun p => (p.1, evA E st p.2)) with
        | none => simp [hf] at hx
        | some cs =>
          simp only [hf, Option.some.injEq] at hx
          subst hx
          obtain ⟨us, hus, hul, hu1, husz⟩ := all_one_cs (rel_ofV ⟨μ, h, w⟩ z) hone
          obtain ⟨R, hR, hRl, hRo⟩ := fill_sound f parts.toList z.cells _ cs (by rw [hus]; exact hul) hone hf
          unfold tplaces at hp
          cases hu : P.underlying t with
          | none => simp [hu] at hp
          | some d =>
            simp only [hu] at hp
            cases d with
            | struct fs =>
              simp only at hp
              cases hall : fs.toList.all (fun f => tok P f.type) with
              | false => simp only [hall, cond_false] at hp; cases hp
              | true =>
                simp only [hall, cond_true, Option.some.injEq] at hp
                subst hp
                have hm : (fs.mapM fun (f : Field) => (do pure (f.offset, ← sizeOf f.type) : Sem (Nat × Nat))).run P w = .ok (fs.toList.map fun f => (f.offset, tsize P f.type)).toArray w := by
                  rw [Array.mapM_eq_mapM_toList, Sem.run_map, mapM_places hall, Result.andThen_ok]
                refine ⟨.agg R, ?_, R, rfl, hRl, hRo⟩
                have hR' : Instr.fill (fun x => (fs.toList.map fun f => (f.offset, tsize P f.type)).toArray[x]?) z.cells (parts.map fun p => (p.1, a.eval p.2)).toList = some R := by
                  rw [← hR, Array.toList_map]; congr 1; funext x; exact List.getElem?_toArray
                simp only [execOp, ho, Instr.build, Sem.run_bind, run_zeroValue hz, Result.andThen_ok, run_underlying hu, hm, hR', Sem.run_pure]
            | array len e =>
              simp only at hp
              cases hk : tok P e with
              | false => simp only [hk, cond_false] at hp; cases hp
              | true =>
                simp only [hk, cond_true, Option.some.injEq] at hp
                subst hp
                refine ⟨.agg R, ?_, R, rfl, hRl, hRo⟩
                have hR' : Instr.fill (fun x => some (x * tsize P e, tsize P e)) z.cells (parts.map fun p => (p.1, a.eval p.2)).toList = some R := by
                  rw [← hR, Array.toList_map]
                simp only [execOp, ho, Instr.build, Sem.run_bind, run_zeroValue hz, Result.andThen_ok, run_underlying hu, run_sizeOf hk, hR', Sem.run_pure]
            | _ => simp at hp
theorem repl_zero (n : Nat) (zs : List AV) (vs : List Value) {c : Cx} (hr : AV.relL c zs vs) (ho : zs.all AV.one = true) (hpos : 0 < vs.length) :
    AV.relL c (repl n zs) ((List.range (n * vs.length)).map fun i => vs[i % vs.length]!) ∧ (repl n zs).all AV.one = true := by
  induction n with
  | zero => simp [repl, AV.relL]
  | succ n ih =>
    refine ⟨?_, all_app ho ih.2⟩
    have e : (List.range ((n + 1) * vs.length)).map (fun i => vs[i % vs.length]!) = vs ++ (List.range (n * vs.length)).map fun i => vs[i % vs.length]! := by
      rw [Nat.succ_mul, Nat.add_comm, List.range_add, List.map_append, List.map_map]
      congr 1
      · apply List.ext_getElem?
        intro i
        by_cases hi : i < vs.length
        · simp [hi, Nat.mod_eq_of_lt hi]
        · simp [hi, List.getElem?_eq_none (Nat.le_of_not_lt hi)]
      · apply List.map_congr_left
        intro i _
        simp
    rw [e]
    exact relL_append hr ih.1
theorem gives_buildSlice {o : Oper} {t : TypeId} {len : Nat} {parts : Array (Nat × Operand)} {v : AV} {st : List AV} {h h' : AHeap} (ho : o.op = .buildSlice t len parts)
    (hx : exBuildSlice P t len (parts.toList.map fun p => (p.1, evA E st p.2)) h = some (v, h')) : Gives P E o v h' st h := by
  intro μ w a f
  unfold exBuildSlice at hx
  cases he : telem P t with
  | none => simp [he] at hx
  | some e =>
    cases hz : tzero P e with
    | none => simp [he, hz] at hx
    | some z =>
      simp only [he, hz] at hx
      cases hc : (tok P e && Nat.ble (len * tsize P e) 16777216 && (ofV z).cs.all AV.one && (ofV z).cs.length == tsize P e && Nat.blt 0 (tsize P e)) with
      | false => simp only [hc, cond_false] at hx; cases hx
      | true =>
        simp only [hc, cond_true] at hx
        simp only [Bool.and_eq_true] at hc
        obtain ⟨⟨⟨⟨htok, hle⟩, hone⟩, hzl⟩, hpos⟩ := hc
        have hle' : len * tsize P e ≤ 16777216 := Nat.le_of_ble_eq_true hle
        have hzl' : (ofV z).cs.length = tsize P e := by simpa using hzl
        have hpos' : 0 < tsize P e := by have := Nat.le_of_ble_eq_true hpos; omega
        cases hf : fillA (fun i => some (i * tsize P e, tsize P e)) (repl len (ofV z).cs) (parts.toList.map fun p => (p.1, evA E st p.2)) with
        | none => simp [hf] at hx
        | some cs =>
          simp only [hf, Option.some.injEq, Prod.mk.injEq] at hx
          obtain ⟨rfl, rfl⟩ := hx
          obtain ⟨us, hus, hul, hu1, husz⟩ := all_one_cs (rel_ofV ⟨μ, h, w⟩ z) hone
          have hulen := relL_length hul
          have hzr := repl_zero len (ofV z).cs us hul hone (by omega)
          have hul2 : us.length = tsize P e := by omega
          obtain ⟨R, hR, hRl, hRo⟩ := fill_sound f parts.toList ((List.range (len * tsize P e)).map fun i => us[i % us.length]!).toArray _ cs (by rw [← hul2]; exact hzr.1) hzr.2 hf
          have hun : P.underlying t = some (.slice e) := by
            unfold telem at he
            cases hu : P.underlying t with
            | none => simp [hu] at he
            | some d => cases d <;> simp [hu] at he; rw [he]
          have hsz : z.cells.size = tsize P e := by omega
          have hRlen : R.size = cs.length := by have := relL_length hRl; simpa using this
          have hn := Cx.new_cells (c := ⟨μ, h, w⟩) (t := e) (cs := cs) (cv := R) (rest := []) (w := { w with heap := w.heap.push (.cells R e) }) f.ok rfl rfl rfl rfl (List.append_nil _).symm hRl hRo
          have hRsz : R.size = len * tsize P e := by
            have key : ∀ (parts : List (Nat × Value)) (cells R : Array Value) (pl : Nat → Option (Nat × Nat)), Instr.fill pl cells parts = some R → R.size = cells.size := by
              intro parts
              induction parts with
              | nil => intro cells R pl h; simp [Instr.fill] at h; rw [h]
              | cons p parts ih =>
                intro cells R pl h
                obtain ⟨i, v⟩ := p
                simp only [Instr.fill] at h
                cases hp : pl i with
                | none => simp [hp] at h
                | some q =>
                  simp only [hp] at h
                  split at h
                  · cases h
                  · have := ih _ _ _ h
                    rw [this]
                    have fold : ∀ (l : List (Value × Nat)) (cs : Array Value), (l.foldl (fun (cs : Array Value) (x : Value × Nat) => cs.setIfInBounds (q.1 + x.2) x.1) cs).size = cs.size := by
                      intro l
                      induction l with
                      | nil => intro cs; rfl
                      | cons y l ih2 => intro cs; simp only [List.foldl_cons]; rw [ih2]; simp
                    rw [← Array.foldl_toList]
                    exact fold _ _
            rw [key _ _ _ _ hR]; simp
          refine ⟨.value (.slice (some ⟨w.heap.size, 0, none⟩) len len), .slice (some ⟨w.heap.size, 0, none⟩) len len, _, _, ?_, .inl rfl, ?_, new_eq ▸ hn.1, new_eq ▸ hn.2⟩
          · have hle2 : ¬ len * tsize P e > 2 ^ 24 := by omega
            by_cases h0 : len * tsize P e = 0
            · have hR' : Instr.fill (fun i => some (i * tsize P e, tsize P e)) ((Array.range (len * tsize P e)).map fun x => (#[] : Array Value)[x % (#[] : Array Value).size]!) (parts.map fun p => (p.1, a.eval p.2)).toList = some R := by
                rw [← hR, Array.toList_map]; congr 1; simp [h0]
              simp only [execOp, ho, Instr.buildSlice, Sem.run_bind, run_underlying hun, Result.andThen_ok, run_sizeOf htok, if_neg hle2, if_pos h0, Sem.run_pure, hR', newRow, run_newObj]
            · have hR' : Instr.fill (fun i => some (i * tsize P e, tsize P e)) ((Array.range (len * tsize P e)).map fun x => z.cells[x % z.cells.size]!) (parts.map fun p => (p.1, a.eval p.2)).toList = some R := by
                rw [← hR, Array.toList_map]; congr 1
                apply Array.ext'
                simp only [Array.toList_map, Array.toList_range]
                apply List.map_congr_left
                intro i hi
                rw [← hus]
                simp [Array.getElem!_eq_getD, List.getElem!_eq_getElem?_getD, Array.getD_eq_getD_getElem?]
              simp only [execOp, ho, Instr.buildSlice, Sem.run_bind, run_underlying hun, Result.andThen_ok, run_sizeOf htok, if_neg hle2, if_neg h0, run_zeroValue hz, Sem.run_pure, hR', newRow, run_newObj]
          · refine ⟨by simp, rfl, fun _ => .inl ⟨w.heap.size, len, by simp [Cx.new, Cx.app], rfl, ⟨Nat.le_refl _, ?_, fun h => by cases h⟩, fun sz hs => ⟨rfl, fun cv t fr hcv => ?_⟩⟩⟩
            · have : len ≤ len * tsize P e := Nat.le_mul_of_pos_right _ hpos'
              unfold maxLen; omega
            · cases hs
              simp at hcv
              rw [← hcv.1]; exact hRsz
end
end Go.Proofs.YtjhbobacbaikoaaGreatDoor
/- All operations that compute, together; and those whose value hangs on a number: indexes, slices. -/
namespace Go.Proofs.YtjhbobacbaikoaaGreatDoor
open Go
set_option linter.unusedVariables false
set_option linter.unusedSimpArgs false

section
variable {P : Program} {E : Env}
theorem rel_agg_part {c : Cx} {cells : List AV} {u : Value} {o : Nat} {ft : TypeId} {v : AV} (hr : AV.rel c (.agg cells) u) (hok : tok P ft = true)
    (hx : (bif tagg P ft then (match takeN (tsize P ft) (cells.drop o) with | some r => some (AV.agg r) | none => none) else (match cells[o]? with | some v => some v | none => none)) = some v) :
    ∃ vs x, u = .agg vs ∧ (∀ w : World, (part ft vs o).run P w = .ok x w) ∧ AV.rel c v x := by
  obtain ⟨vs, rfl, hl, ho⟩ := hr
  cases hg : tagg P ft with
  | true =>
    simp only [hg, cond_true] at hx
    cases hn : takeN (tsize P ft) (cells.drop o) with
    | none => simp [hn] at hx
    | some r =>
      simp only [hn, Option.some.injEq] at hx
      subst hx
      obtain ⟨e, hle⟩ := takeN_spec hn
      refine ⟨vs, .agg (vs.extract o (o + tsize P ft)), rfl, fun w => ?_, ?_⟩
      · simp only [part, Sem.run_bind, run_isAgg hok, hg, Result.andThen_ok, if_true, run_sizeOf hok, Sem.run_pure]
      · refine ⟨_, rfl, ?_, by rw [e]; exact all_take (all_drop ho _) _⟩
        rw [e]
        have := relL_take (relL_drop hl o) (tsize P ft)
        simpa [List.extract_eq_take_drop] using this
  | false =>
    simp only [hg, cond_false] at hx
    cases hq : cells[o]? with
    | none => simp [hq] at hx
    | some q =>
      simp only [hq, Option.some.injEq] at hx
      subst hx
      obtain ⟨x, hx, hr⟩ := relL_get hl hq
      have hx' : vs[o]? = some x := by simpa using hx
      exact ⟨vs, x, rfl, fun w => by simp [part, run_isAgg hok, hg, hx'], hr⟩

theorem exV_sound {o : Oper} {st : List AV} {h : AHeap} {v : AV} (hx : exV P E o.op st h = some v) : Same P E o v st h := by
  cases ho : o.op <;> rw [ho] at hx <;> simp only [exV] at hx <;> try (cases hx; done)
  case move x =>
    cases hx
    exact fun μ w a f => ⟨_, by simp only [execOp, ho, Sem.run_pure], evA_sound f x⟩
  case assign x =>
    cases hx
    exact fun μ w a f => ⟨_, by simp only [execOp, ho, Sem.run_pure], evA_sound f x⟩
  case pick c x y =>
    split at hx
    · rename_i t ht
      cases hx
      intro μ w a f
      have hc : a.eval c = .bool t := by have := evA_sound f c; rw [ht] at this; exact this
      cases t with
      | true => exact ⟨_, by simp [execOp, ho, hc, asBool], evA_sound f x⟩
      | false => exact ⟨_, by simp [execOp, ho, hc, asBool], evA_sound f y⟩
    · cases hx
  case load t x =>
    cases hok : tok P t with
    | false => simp [hok] at hx
    | true =>
      simp only [hok, cond_true] at hx
      exact gives_load ho hok hx
  case nilCheck x =>
    split at hx
    · rename_i id off he
      cases hl : live h id with
      | false => simp [hl] at hx
      | true =>
        simp only [hl, cond_true, Option.some.injEq] at hx
        subst hx
        intro μ w a f
        have hr := evA_sound f x
        rw [he] at hr
        obtain ⟨b, hmu, e⟩ := hr.2.2 (live_alive hl)
        exact ⟨_, by simp [execOp, ho, e]; rfl, by rw [← e]; exact hr⟩
    · rename_i cells he
      cases hx
      intro μ w a f
      have hr := evA_sound f x
      rw [he] at hr
      obtain ⟨ad, vs, e, _⟩ := id hr
      exact ⟨_, by simp [execOp, ho, e]; rfl, by rw [← e]; exact hr⟩
    · cases hx
  case binOp op t x y yt =>
    split at hx
    · rename_i p q hp hq
      split at hx
      · rename_i u hu
        cases hx
        intro μ w a f
        have e1 : a.eval x = p := by have := evA_sound f x; rw [hp] at this; exact this
        have e2 : a.eval y = q := by have := evA_sound f y; rw [hq] at this; exact this
        have hs := exBin_sound (P := P) (op := op) (t := t) (x := x) (y := y) hu w
        refine ⟨u, ?_, rfl⟩
        simp only [execOp, ho, e1, e2, Sem.run_bind] at hs ⊢
        rw [hs]; rfl
      · cases hx
    · cases hx
  case unOp op t x =>
    cases op <;> simp only [exV] at hx <;> try (cases hx; done)
    case neg =>
      split at hx
      · rename_i k n hn
        cases hx
        intro μ w a f
        have e1 := evA_sound f x
        rw [hn] at e1
        have e1' : a.eval x = .int _ _ := e1
        exact ⟨_, by simp [execOp, ho, e1', Op.unary, Op.intArith], rfl⟩
      · cases hx
    case not =>
      split at hx
      · rename_i b hb
        cases hx
        intro μ w a f
        have e1 := evA_sound f x
        rw [hb] at e1
        have e1' : a.eval x = .bool _ := e1
        exact ⟨_, by simp [execOp, ho, e1', Op.unary], rfl⟩
      · cases hx
  case convert src dst x =>
    split at hx
    · rename_i k k' n hs hd hv
      cases hx
      intro μ w a f
      have e1 : a.eval x = .int k' n := by have := evA_sound f x; rw [hv] at this; exact this
      obtain ⟨d, hs'⟩ := Option.isSome_iff_exists.1 hs
      exact ⟨_, by simp [execOp, ho, e1, convert, run_underlying hs', run_underlying hd, Conv.intToInt], rfl⟩
    · rename_i k' n hs hd hv
      cases hx
      intro μ w a f
      have e1 : a.eval x = .int k' n := by have := evA_sound f x; rw [hv] at this; exact this
      obtain ⟨d, hs'⟩ := Option.isSome_iff_exists.1 hs
      exact ⟨_, by simp [execOp, ho, e1, convert, run_underlying hs', run_underlying hd, Conv.intToString], rfl⟩
    · rename_i s hs hd hv
      cases hx
      intro μ w a f
      have e1 : a.eval x = .string s := by have := evA_sound f x; rw [hv] at this; exact this
      obtain ⟨d, hs'⟩ := Option.isSome_iff_exists.1 hs
      exact ⟨_, by simp [execOp, ho, e1, convert, run_underlying hs', run_underlying hd], rfl⟩
    · cases hx
  case fieldAddr s x k =>
    split at hx
    · rename_i o' ft hf
      cases hc : (tok P ft && Nat.blt 0 (tsize P ft)) with
      | false => simp [hc] at hx
      | true =>
        simp only [hc, cond_true] at hx
        simp only [Bool.and_eq_true] at hc
        have hpos : ¬ tsize P ft = 0 := by have := Nat.le_of_ble_eq_true hc.2; omega
        obtain ⟨fs, fd, hu, hfd, rfl, rfl⟩ : ∃ fs fd, P.underlying s = some (.struct fs) ∧ fs[k]? = some fd ∧ fd.offset = o' ∧ fd.type = ft := by
          unfold tfld at hf
          cases hu : P.underlying s with
          | none => simp [hu] at hf
          | some d =>
            cases d <;> simp [hu] at hf
            rename_i fs
            obtain ⟨fd, h1, h2, h3⟩ := hf
            exact ⟨fs, fd, rfl, h1, h2, h3⟩
        split at hx
        · rename_i id off he
          cases hl : live h id with
          | false => simp [hl] at hx
          | true =>
            simp only [hl, cond_true, Option.some.injEq] at hx
            subst hx
            intro μ w a f
            have hr := evA_sound f x
            rw [he] at hr
            obtain ⟨b, hmu, e⟩ := hr.2.2 (live_alive hl)
            refine ⟨.pointer (some ⟨b, off + fd.offset, none⟩), ?_, hr.1, rfl, fun _ => ⟨b, hmu, rfl⟩⟩
            simp [execOp, ho, e, Instr.fieldAt, run_underlying hu, hfd, Instr.sureAddr, fieldPlace, run_sizeOf hc.1, hpos, add_at]
        · rename_i cells he
          cases hx
          intro μ w a f
          have hr := evA_sound f x
          rw [he] at hr
          obtain ⟨ad, e, hr'⟩ := rel_rop_drop fd.offset hr
          refine ⟨_, ?_, hr'⟩
          simp [execOp, ho, e, Instr.fieldAt, run_underlying hu, hfd, Instr.sureAddr, fieldPlace, run_sizeOf hc.1, hpos]
        · cases hx
    · cases hx
  case field s x k =>
    split at hx
    · rename_i o' ft hf
      cases hok : tok P ft with
      | false => simp [hok] at hx
      | true =>
        simp only [hok, cond_true] at hx
        obtain ⟨fs, fd, hu, hfd, rfl, rfl⟩ : ∃ fs fd, P.underlying s = some (.struct fs) ∧ fs[k]? = some fd ∧ fd.offset = o' ∧ fd.type = ft := by
          unfold tfld at hf
          cases hu : P.underlying s with
          | none => simp [hu] at hf
          | some d =>
            cases d <;> simp [hu] at hf
            rename_i fs
            obtain ⟨fd, h1, h2, h3⟩ := hf
            exact ⟨fs, fd, rfl, h1, h2, h3⟩
        split at hx
        · rename_i cells he
          intro μ w a f
          have hr := evA_sound f x
          rw [he] at hr
          obtain ⟨vs, u, e, hp, hr'⟩ := rel_agg_part hr hok hx
          exact ⟨u, by simp [execOp, ho, e, Instr.field, run_underlying hu, hfd, asAgg, hp], hr'⟩
        · cases hx
    · cases hx
  case extract x k =>
    split at hx
    · rename_i vs he
      intro μ w a f
      have hr := evA_sound f x
      rw [he] at hr
      obtain ⟨us, e, hl⟩ := hr
      obtain ⟨u, hu, hr'⟩ := relL_get hl hx
      have hu' : us[k]? = some u := by simpa using hu
      exact ⟨u, by simp [execOp, ho, e, Instr.extract, hu'], hr'⟩
    · cases hx
  case makeFunc fn first captured =>
    cases fn <;> simp only [exV] at hx <;> try (cases hx; done)
    rename_i g
    cases hx
    refine fun μ w a f => ⟨.func (.func g) (first.map a.eval) (captured.map a.eval), by simp [execOp, ho, Instr.makeFunc], _, _, rfl, ?_, ?_⟩
    · rw [Array.toList_map]; exact relL_map f _
    · rw [Array.toList_map]; exact relL_map f _
  case build t parts =>
    exact gives_build ho hx
  case call c =>
    obtain ⟨callee, args, ats⟩ := c
    cases callee <;> (try dsimp only at hx) <;> try (cases hx; done)
    rename_i b
    cases b <;> (try dsimp only at hx) <;> try (cases hx; done)
    case len =>
      split at hx
      · rename_i t x ht hx0
        have hrun : ∀ (a : Act) (w : World), (execOp a.eval o).run P w = ((Builtin.len_ ats o.type (args.map a.eval)).run P w).andThen fun u w' => .ok (.value u) w' := by
          intro a w; simp [execOp, ho, resolve, invoke, builtin]
        have harg : ∀ a : Act, (args.map a.eval)[0]? = some (a.eval x) := by intro a; simp [hx0]
        split at hx
        · rename_i s hu hv
          cases hx
          intro μ w a f
          have e1 : a.eval x = .string s := by have := evA_sound f x; rw [hv] at this; exact this
          exact ⟨.int .i64 (s.size : Nat), by rw [hrun]; simp [Builtin.len_, ht, harg, run_underlying hu, e1, goInt], rfl⟩
        · rename_i n e hu
          cases hx
          exact fun μ w a f => ⟨.int .i64 (n : Nat), by rw [hrun]; simp [Builtin.len_, ht, harg, run_underlying hu, goInt], rfl⟩
        · rename_i e k n cells hu hv
          cases hx
          intro μ w a f
          have e1 := evA_sound f x
          rw [hv] at e1
          obtain ⟨ad, cap, vs, e1, _⟩ := e1
          exact ⟨.int .i64 (n : Nat), by rw [hrun]; simp [Builtin.len_, ht, harg, run_underlying hu, e1, goInt], rfl⟩
        · rename_i e id off n k hu hv
          cases hl : live h id with
          | false => simp [hl] at hx
          | true =>
            simp only [hl, cond_true, Option.some.injEq] at hx
            subst hx
            intro μ w a f
            have e1 := evA_sound f x
            rw [hv] at e1
            obtain ⟨ad, cap, e1⟩ : ∃ ad cap, a.eval x = .slice ad n cap := by
              rcases e1.2.2 (live_alive hl) with ⟨b, cap, _, e, _⟩ | ⟨_, rfl, _, ad, e⟩
              · exact ⟨_, cap, e⟩
              · exact ⟨ad, 0, e⟩
            exact ⟨.int .i64 (n : Nat), by rw [hrun]; simp [Builtin.len_, ht, harg, run_underlying hu, e1, goInt], rfl⟩
        · cases hx
      · cases hx
    case min =>
      split at hx
      · rename_i k p k' q he
        cases hx
        intro μ w a f
        have hl := relL_map f args.toList
        rw [he] at hl
        obtain ⟨x1, xs, e1, h1, x2, xs2, e2, h2, h3⟩ := hl
        have e3 : args.toList.map a.eval = [.int k p, .int k' q] := by rw [e1, e2, show xs2 = [] from h3, show x1 = _ from h1, show x2 = _ from h2]
        have e4 : args.map a.eval = #[.int k p, .int k' q] := by apply Array.ext'; simp only [Array.toList_map]; exact e3
        exact ⟨.int k (if q < p then q else p), by simp [execOp, ho, resolve, invoke, builtin, Builtin.min_, e4, Builtin.min2], rfl⟩
      · cases hx
    case max =>
      split at hx
      · rename_i k p k' q he
        cases hx
        intro μ w a f
        have hl := relL_map f args.toList
        rw [he] at hl
        obtain ⟨x1, xs, e1, h1, x2, xs2, e2, h2, h3⟩ := hl
        have e3 : args.toList.map a.eval = [.int k p, .int k' q] := by rw [e1, e2, show xs2 = [] from h3, show x1 = _ from h1, show x2 = _ from h2]
        have e4 : args.map a.eval = #[.int k p, .int k' q] := by apply Array.ext'; simp only [Array.toList_map]; exact e3
        exact ⟨.int k (if q > p then q else p), by simp [execOp, ho, resolve, invoke, builtin, Builtin.max_, e4, Builtin.max2], rfl⟩
      · cases hx
theorem exA_sound {o : Oper} {st : List AV} {h h' : AHeap} {v : AV} (hx : exA P E o.op st h = some (v, h')) : Gives P E o v h' st h := by
  unfold exA at hx
  cases hv : exV P E o.op st h with
  | some u =>
    simp only [hv, Option.some.injEq, Prod.mk.injEq] at hx
    obtain ⟨rfl, rfl⟩ := hx
    exact (exV_sound hv).gives
  | none =>
    simp only [hv] at hx
    cases ho : o.op <;> rw [ho] at hx <;> simp only [exW] at hx <;> try (cases hx; done)
    case alloc t =>
      split at hx
      · rename_i z hz
        cases hone : (ofV z).cs.all AV.one with
        | false => simp [hone] at hx
        | true =>
          simp only [hone, cond_true, Option.some.injEq, Prod.mk.injEq] at hx
          obtain ⟨rfl, rfl⟩ := hx
          exact gives_alloc ho hz hone
      · cases hx
    case box t x =>
      cases hone : (evA E st x).cs.all AV.one with
      | false => simp [hone] at hx
      | true =>
        simp only [hone, cond_true, Option.some.injEq, Prod.mk.injEq] at hx
        obtain ⟨rfl, rfl⟩ := hx
        exact gives_box ho hone
    case store t x y =>
      split at hx
      · rename_i h1 hs
        cases hx
        exact gives_store ho hs
      · cases hx
    case buildSlice t n parts => exact gives_buildSlice ho hx
end
end Go.Proofs.YtjhbobacbaikoaaGreatDoor
/- Runs of operations; calls; what a function hands back; dropping what it made. -/
namespace Go.Proofs.YtjhbobacbaikoaaGreatDoor
open Go
set_option linter.unusedVariables false
set_option linter.unusedSimpArgs false

section
variable (P : Program) (E : Env)
def stepA (ops : Array Oper) (i : Nat) (st : List AV) (h : AHeap) : Option (List AV × AHeap) :=
  match ops[i]? with
  | none => some (st, h)
  | some o => match wantA ops st o with
    | some b => bif b then (match exA P E o.op st h with | some (v, h') => some (putA st o.dst v, h') | none => none) else some (putA st o.dst undefA, h)
    | none => none
def runA (ops : Array Oper) : List Nat → List AV → AHeap → Option (List AV × AHeap)
  | [], st, h => some (st, h)
  | i :: l, st, h => match stepA P E ops i st h with
    | some (st', h') => runA ops l st' h'
    | none => none
def runK (ks : List Nat) (ops : Array Oper) (l : List Nat) (st : List AV) (h : AHeap) : Option (List AV × AHeap) :=
  match runA P E ops l st h with
  | some (st', h') => some (forget ks st', h')
  | none => none
end
section
variable {P : Program} {E : Env} {n : Nat}
theorem AOp.le {ops : Array Oper} {i : Nat} {K : List AV → AHeap → Prop} {st st1 : List AV} {h : AHeap} (l : leL st st1) (s : AOp P E n ops i K st1 h) : AOp P E n ops i K st h :=
  fun Q μ w a hn f => s Q μ w a hn (f.le l)
theorem leL_trans : ∀ {az bs cs : List AV}, leL az bs → leL bs cs → leL az cs
  | [], bs, cs, h, k => by have : bs = [] := h; subst this; exact k
  | a :: az, bs, cs, h, k => by
    obtain ⟨b, bs', rfl, h1, h2⟩ := h
    obtain ⟨c, cs', rfl, k1, k2⟩ := k
    exact ⟨c, cs', rfl, fun x u hu => k1 x u (h1 x u hu), leL_trans h2 k2⟩
theorem AOps.le {ops : Array Oper} {Q : List AV → AHeap → Prop} {l : List Nat} {st st1 : List AV} {h : AHeap} (le : leL st st1) (s : AOps P E n ops Q l st1 h) : AOps P E n ops Q l st h := by
  cases l with
  | nil => obtain ⟨st2, h1, h2⟩ := s; exact ⟨st2, leL_trans le h1, h2⟩
  | cons i l => exact AOp.le le s
theorem AOp_step {ops : Array Oper} {i : Nat} {K : List AV → AHeap → Prop} {st st' : List AV} {h h' : AHeap} (e : stepA P E ops i st h = some (st', h')) (k : K st' h') : AOp P E n ops i K st h := by
  unfold stepA at e
  cases hi : ops[i]? with
  | none => simp only [hi] at e; cases e; exact AOp_none hi k
  | some o =>
    simp only [hi] at e
    cases hw : wantA ops st o with
    | none => simp [hw] at e
    | some b =>
      simp only [hw] at e
      cases b with
      | true =>
        simp only [cond_true] at e
        cases hx : exA P E o.op st h with
        | none => simp [hx] at e
        | some p =>
          obtain ⟨v, h1⟩ := p
          simp only [hx, Option.some.injEq, Prod.mk.injEq] at e
          obtain ⟨rfl, rfl⟩ := e
          exact AOp_gives hi hw (exA_sound hx) k
      | false =>
        simp only [cond_false, Option.some.injEq, Prod.mk.injEq] at e
        obtain ⟨rfl, rfl⟩ := e
        exact AOp_off hi hw k
theorem AOps_runA {ops : Array Oper} {Q : List AV → AHeap → Prop} {l2 : List Nat} {st' : List AV} {h' : AHeap} (k : AOps P E n ops Q l2 st' h') :
    ∀ (l1 : List Nat) (st : List AV) (h : AHeap), runA P E ops l1 st h = some (st', h') → AOps P E n ops Q (l1 ++ l2) st h
  | [], st, h, e => by simp only [runA, Option.some.injEq, Prod.mk.injEq] at e; obtain ⟨rfl, rfl⟩ := e; exact k
  | i :: l, st, h, e => by
    simp only [runA] at e
    cases hs : stepA P E ops i st h with
    | none => simp [hs] at e
    | some p =>
      obtain ⟨st1, h1⟩ := p
      simp only [hs] at e
      exact AOp_step hs (AOps_runA k l st1 h1 e)
/-- The next n operations, run; the places that stay known. -/
theorem AOps_run (m : Nat) (ks : List Nat) {ops : Array Oper} {Q : List AV → AHeap → Prop} {l : List Nat} {st st' : List AV} {h h' : AHeap}
    (e : runK P E ks ops (l.take m) st h = some (st', h')) (k : AOps P E n ops Q (l.drop m) st' h') : AOps P E n ops Q l st h := by
  unfold runK at e
  cases hr : runA P E ops (l.take m) st h with
  | none => simp [hr] at e
  | some p =>
    obtain ⟨st1, h1⟩ := p
    simp only [hr, Option.some.injEq, Prod.mk.injEq] at e
    obtain ⟨rfl, rfl⟩ := e
    have := AOps_runA (AOps.le (leL_forget ks st1) k) _ _ _ hr
    rwa [List.take_append_drop] at this
/-- The next operation calls. -/
theorem AOps_call {ops : Array Oper} {Q : List AV → AHeap → Prop} {i : Nat} {l : List Nat} {o : Oper} {x : Operand} {args : Array Operand} {ats : Array TypeId} {g : FuncId} {first captured : List AV} {st : List AV} {h : AHeap}
    (hi : ops[i]? = some o) (hw : wantA ops st o = some true) (ho : o.op = .call { callee := .value x, args := args, argTypes := ats }) (hx : calleeA (evA E st x) = some (g, first, captured)) (hg : goes P g = true)
    (k : Sp P E g (first ++ args.toList.map (evA E st) ++ captured) h (fun r h' => AOps P E n ops Q l (putA st o.dst r) h')) : AOps P E n ops Q (i :: l) st h :=
  AOp_call hi hw ho hx hg k
theorem AOps_step {ops : Array Oper} {Q : List AV → AHeap → Prop} {i : Nat} {l : List Nat} {o : Oper} {st : List AV} {h h' : AHeap} {v : AV}
    (hi : ops[i]? = some o) (hw : wantA ops st o = some true) (g : Gives P E o v h' st h) (k : AOps P E n ops Q l (putA st o.dst v) h') : AOps P E n ops Q (i :: l) st h :=
  AOp_gives hi hw g k
theorem AOps_done {ops : Array Oper} {Q : List AV → AHeap → Prop} {st : List AV} {h : AHeap} (q : Q st h) : AOps P E n ops Q [] st h := ⟨st, leL_refl st, q⟩

/-- One region, then what follows. -/
theorem AWP_reg {id : Nat} {ops : Array Oper} {y : Code} {Q : Exit → List AV → AHeap → Prop} {st : List AV} {h : AHeap} (s : AOps P E n ops (AWP P E n y Q) (List.range ops.size) st h) : AWP P E n (.seq (.region id ops false) y) Q st h :=
  AWP_seq (AWP_region s)
theorem AWP_cond {c : Operand} {x y : Code} {t : Bool} {Q : Exit → List AV → AHeap → Prop} {st : List AV} {h : AHeap} (hc : evA E st c = .val (.bool t)) (ht : t = true → AWP P E n x Q st h) (hf : t = false → AWP P E n y Q st h) : AWP P E n (.cond c x y) Q st h := by
  intro μ w a hn f
  have e : a.eval c = .bool t := by have := evA_sound f c; rw [hc] at this; exact this
  exact wp_cond_split e (fun h1 => ht h1 μ w a hn f) (fun h1 => hf h1 μ w a hn f)

/-- What a function hands back. -/
def resA (P : Program) (rs : List ResultVar) (st : List AV) (h : AHeap) : Option (List AV) :=
  match rs with
  | [] => some []
  | .tmp t :: rs => match resA P rs st h with
    | some l => some (st.getD t undefA :: l)
    | none => none
  | .cell a t :: rs => match st.getD a undefA with
    | .ptr id off => bif tok P t && live h id then (match exLoad P t (.ptr id off) h, resA P rs st h with
      | some v, some l => some (v :: l)
      | _, _ => none) else none
    | _ => none
def resV : List AV → AV
  | [v] => v
  | l => .tup l
theorem load_ptr {c : Cx} (ok : c.Ok) {t : TypeId} {id off b : Nat} {v : AV} (hmu : c.μ id = some b) (hok : tok P t = true) (hx : exLoad P t (.ptr id off) c.h = some v) :
    ∃ u, (loadVar t ⟨b, off, none⟩).run P c.w = .ok u c.w ∧ AV.rel c v u := by
  unfold exLoad at hx
  cases hb : blkCells c.h id with
  | none => simp [hb] at hx
  | some p =>
    obtain ⟨ty, cs⟩ := p
    simp only [hb] at hx
    obtain ⟨hg, ha⟩ := blkCells_alive hb
    obtain ⟨cv, vs, rest, hcv, hvs, hl, hone⟩ := blk_at ok hg hmu
    have hcell : ∀ j x, (vs.drop off)[j]? = some x → c.w.cell? ((⟨b, off, none⟩ : Addr).add j) = some x := by
      intro j x hj
      rw [add_at, cell_of_row c.w b (off + j) cv ty (0, 0) hcv]
      rw [List.getElem?_drop] at hj
      have : cv.toList[off + j]? = some x := by rw [hvs, List.getElem?_append_left (List.getElem?_eq_some_iff.1 hj).1]; exact hj
      simpa using this
    exact run_loadVar_cells (P := P) (c := c) hok (relL_drop hl off) (all_drop hone off) hcell hx
def resOne (tmps : Array Value) : ResultVar → Sem Value
  | .tmp t => pure (tmps.getD t undef)
  | .cell a t => asAddr (tmps.getD a undef) >>= fun ad => loadVar t ad
theorem results_eq (fn : Func) (tmps : Array Value) : results fn tmps = (fn.results.mapM (resOne tmps) >>= fun vs => pure (if h : vs.size = 1 then vs[0] else .tuple vs)) := by
  unfold results
  congr 1
theorem resA_sound {c : Cx} {st : List AV} {a : Act} (f : Fits E c st a) : ∀ {rs : List ResultVar} {l : List AV}, resA P rs st c.h = some l →
    ∃ us : List Value, (rs.mapM (resOne a.tmps)).run P c.w = .ok us c.w ∧ AV.relL c l us
  | [], l, h => by simp [resA] at h; subst h; exact ⟨[], by simp, rfl⟩
  | .tmp t :: rs, l, h => by
    simp only [resA] at h
    cases hr : resA P rs st c.h with
    | none => simp [hr] at h
    | some l' =>
      simp only [hr, Option.some.injEq] at h
      subst h
      obtain ⟨us, h1, h2⟩ := resA_sound f hr
      have h3 : AV.rel c (st.getD t undefA) (a.tmps.getD t undef) := evA_sound f (.tmp t)
      exact ⟨_ :: us, by simp only [List.mapM_cons, resOne, Sem.run_bind, Sem.run_pure, Result.andThen_ok, h1], _, _, rfl, h3, h2⟩
  | .cell ad t :: rs, l, h => by
    simp only [resA] at h
    split at h
    · rename_i id off he
      cases hc : (tok P t && live c.h id) with
      | false => simp only [hc, cond_false] at h; cases h
      | true =>
        simp only [hc, cond_true] at h
        simp only [Bool.and_eq_true] at hc
        split at h
        · rename_i v l' hv hr
          cases h
          obtain ⟨us, h1, h2⟩ := resA_sound f hr
          have h3 : AV.rel c (st.getD ad undefA) (a.tmps.getD ad undef) := evA_sound f (.tmp ad)
          rw [he] at h3
          obtain ⟨b, hmu, e⟩ := h3.2.2 (live_alive hc.2)
          obtain ⟨u, hl, hrel⟩ := load_ptr (P := P) f.ok hmu hc.1 hv
          exact ⟨u :: us, by rw [List.mapM_cons, Sem.run_bind, resOne, Sem.run_bind, e]; simp only [asAddr, Sem.run_bind, Sem.run_pure, Result.andThen_ok, hl, h1], u, us, rfl, hrel, h2⟩
        · cases h
    · cases h
theorem results_sound {c : Cx} {st : List AV} {a : Act} {fn : Func} (f : Fits E c st a) {l : List AV} (h : resA P fn.results.toList st c.h = some l) :
    ∃ u, (results fn a.tmps).run P c.w = .ok u c.w ∧ AV.rel c (resV l) u := by
  obtain ⟨us, h1, h2⟩ := resA_sound f h
  have hl := relL_length h2
  refine ⟨if h : us.toArray.size = 1 then us.toArray[0] else .tuple us.toArray, ?_, ?_⟩
  · rw [results_eq, Array.mapM_eq_mapM_toList]
    simp only [Sem.run_bind, Sem.run_map, h1, Result.andThen_ok, Sem.run_pure]
  · cases l with
    | nil => have : us = [] := h2; subst this; exact ⟨#[], rfl, rfl⟩
    | cons v l =>
      obtain ⟨x, xs, rfl, h3, h4⟩ := h2
      cases l with
      | nil => have : xs = [] := h4; subst this; exact h3
      | cons v2 l =>
        obtain ⟨y, ys, rfl, h5, h6⟩ := h4
        simp only [resV]
        rw [dif_neg (by simp)]
        exact ⟨_, rfl, x, y :: ys, rfl, h3, y, ys, rfl, h5, h6⟩

/-- A function by its body. What it hands back, and over which heap. -/
def Ends (P : Program) (fn : Func) (Q : AV → AHeap → Prop) : Exit → List AV → AHeap → Prop
  | .normal, st, h | .ret, st, h => ∃ l, resA P fn.results.toList st h = some l ∧ Q (resV l) h
  | _, _, _ => False
theorem Sp_body {f : FuncId} {fn : Func} {k : Code} {args : List AV} {h : AHeap} {Q : AV → AHeap → Prop} (hf : P.funcs[f]? = some fn) (hb : fn.body = some k)
    (s : AWP P E h.length k (Ends P fn Q) (args ++ List.replicate (fn.ntmps - args.length) undefA) h) : Sp P E f args h Q := by
  intro μ w ca he hok hr
  have hlen := relL_length hr
  have hst : AV.relL ⟨μ, h, w⟩ (args ++ List.replicate (fn.ntmps - args.length) undefA) (ca ++ Array.replicate (fn.ntmps - ca.size) undef).toList := by
    rw [Array.toList_append, Array.toList_replicate]
    have : ca.size = args.length := by simpa using hlen
    rw [this]
    refine relL_append hr ?_
    generalize fn.ntmps - args.length = n
    induction n with
    | zero => rfl
    | succ n ih => exact ⟨undef, _, rfl, rfl, ih⟩
  refine calls_of_wp hf hb (wp_mono (s μ w _ (Nat.le_refl _) ⟨he, hok, hst, rfl⟩) fun e a' w' hc => ?_)
  obtain ⟨st', h', μ', q, f', t⟩ := hc
  have fin : (∃ l, resA P fn.results.toList st' h' = some l ∧ Q (resV l) h') → bodyPost P fn (fun e w' => ∃ r h' μ' u, e = .returned u ∧ Q r h' ∧ Cx.Ok ⟨μ', h', w'⟩ ∧ AV.rel ⟨μ', h', w'⟩ r u ∧ Cx.To ⟨μ, h, w⟩ ⟨μ', h', w'⟩) .normal a' w' := by
    rintro ⟨l, hl, hq⟩
    obtain ⟨u, hu, hrel⟩ := results_sound (c := ⟨μ', h', w'⟩) f' hl
    exact ⟨f'.defers, u, hu, _, h', μ', u, rfl, hq, f'.ok, hrel, t⟩
  cases e with
  | normal => exact fin q
  | ret => exact fin q
  | exit id => exact q.elim
  | goto l => exact q.elim
  | panic ch => exact q.elim
  | outgrown => exact q.elim
end
end Go.Proofs.YtjhbobacbaikoaaGreatDoor
/- Dropping the blocks that a function made, and turning what it hands back into what nobody writes any more. -/
namespace Go.Proofs.YtjhbobacbaikoaaGreatDoor
open Go
set_option linter.unusedVariables false
set_option linter.unusedSimpArgs false

mutual
/-- All blocks that are named are among the first n. -/
def AV.sc (n : Nat) : AV → Prop
  | .val _ => True
  | .ro _ _ cells => scL n cells
  | .sl id _ _ _ => id < n
  | .ptr id _ => id < n
  | .rop cells => scL n cells
  | .agg cells => scL n cells
  | .tup vs => scL n vs
  | .fn _ a b => scL n a ∧ scL n b
  | .any => True
def scL (n : Nat) : List AV → Prop
  | [] => True
  | a :: az => a.sc n ∧ scL n az
end
theorem scL_app {n : Nat} : ∀ {az bs : List AV}, scL n az → scL n bs → scL n (az ++ bs)
  | [], bs, _, h => h
  | a :: az, bs, h, k => ⟨h.1, scL_app h.2 k⟩
theorem scL_mem {n : Nat} : ∀ {az : List AV}, (∀ a ∈ az, a.sc n) → scL n az
  | [], _ => trivial
  | a :: az, h => ⟨h a (by simp), scL_mem fun x hx => h x (by simp [hx])⟩
theorem scL_flatMap {α : Type} {n : Nat} {f : α → List AV} (h : ∀ x, scL n (f x)) : ∀ xs : List α, scL n (xs.flatMap f)
  | [] => trivial
  | x :: xs => by rw [List.flatMap_cons]; exact scL_app (h x) (scL_flatMap h xs)

mutual
theorem rel_sc {c : Cx} : ∀ (a : AV) (u : Value), AV.rel c a u → a.sc c.h.length
  | .val v, u, h => trivial
  | .ro k n cells, u, h => by obtain ⟨a, cap, vs, e, hk, hl, _⟩ := h; exact relL_sc cells vs hl
  | .sl id off len k, u, h => h.1
  | .ptr id off, u, h => h.1
  | .rop cells, u, h => by obtain ⟨ad, vs, e, hl, _⟩ := h; exact relL_sc cells vs hl
  | .agg cells, u, h => by obtain ⟨vs, e, hl, _⟩ := h; exact relL_sc cells _ hl
  | .tup cs, u, h => by obtain ⟨vs, e, hl⟩ := h; exact relL_sc cs _ hl
  | .fn f a b, u, h => by obtain ⟨fs, cs, e, h1, h2⟩ := h; exact ⟨relL_sc a _ h1, relL_sc b _ h2⟩
  | .any, u, h => trivial
theorem relL_sc {c : Cx} : ∀ (az : List AV) (us : List Value), AV.relL c az us → scL c.h.length az
  | [], us, h => trivial
  | a :: az, us, h => by obtain ⟨x, xs, e, h1, h2⟩ := h; exact ⟨rel_sc a x h1, relL_sc az xs h2⟩
end
def Closed (h : AHeap) : Prop := (∀ i t cs, hget h i = some (.cells t cs) → scL h.length cs) ∧ ∀ i t cs, hget h i = some (.row t cs) → scL h.length cs
theorem Cx.Ok.closed {c : Cx} (ok : c.Ok) : Closed c.h := by
  constructor <;>
  · intro i t cs hg
    rcases ok.blk i _ hg with ⟨b, cv, vs, rest, _, _, _, hl, _⟩ | ⟨_, rfl⟩
    · exact relL_sc cs vs hl
    · trivial
theorem hget_drop {h : AHeap} {m i : Nat} (hi : i < (h.drop m).length) : hget (h.drop m) i = hget h i := by
  induction m generalizing h with
  | zero => rfl
  | succ m ih =>
    cases h with
    | nil => simp at hi
    | cons b h =>
      simp only [List.drop_succ_cons] at hi ⊢
      rw [ih hi, hget_cons_old]
      have : (h.drop m).length ≤ h.length := by simp
      omega
theorem alive_drop {h : AHeap} {m i : Nat} (hi : i < (h.drop m).length) : alive (h.drop m) i ↔ alive h i := by simp [alive, hget_drop hi]

section
variable {μ : Mu} {h : AHeap} {w : World} {m : Nat}
theorem still_drop (b k : Nat) (s : (⟨μ, h, w⟩ : Cx).still b k) : (⟨μ, h.drop m, w⟩ : Cx).still b k ∧ sameCell w w b k :=
  ⟨⟨s.1, fun i x hi hx e => s.2.1 i x (by rw [← hget_drop (hget_lt hi)]; exact hi) hx e, s.2.2⟩, fun _ _ _ => rfl⟩
mutual
theorem rel_drop : ∀ (a : AV) (u : Value), AV.rel ⟨μ, h, w⟩ a u → a.sc (h.drop m).length → AV.rel ⟨μ, h.drop m, w⟩ a u
  | .val v, u, hr, _ => hr
  | .ro k n cells, u, hr, hs => by
    obtain ⟨a, cap, vs, e, hk, hl, ho, hm⟩ := hr
    refine ⟨a, cap, vs, e, hk, relL_drop' cells vs hl hs, ho, ?_⟩
    rcases hm with hm | ⟨ad, ha, hst, hc⟩
    · exact .inl hm
    · exact .inr ⟨ad, ha, (st_to (c := ⟨μ, h, w⟩) (d := ⟨μ, h.drop m, w⟩) still_drop hst).1, hc⟩
  | .sl id off len k, u, hr, hs => ⟨hs, hr.2.1, fun ha => hr.2.2 ((alive_drop hs).1 ha)⟩
  | .ptr id off, u, hr, hs => ⟨hs, hr.2.1, fun ha => hr.2.2 ((alive_drop hs).1 ha)⟩
  | .rop cells, u, hr, hs => by
    obtain ⟨ad, vs, e, hl, ho, hst, hc⟩ := hr
    exact ⟨ad, vs, e, relL_drop' cells vs hl hs, ho, hst.imp_right fun x => (st_to (c := ⟨μ, h, w⟩) (d := ⟨μ, h.drop m, w⟩) still_drop x).1, hc⟩
  | .agg cells, u, hr, hs => by obtain ⟨vs, e, hl, ho⟩ := hr; exact ⟨vs, e, relL_drop' cells _ hl hs, ho⟩
  | .tup cs, u, hr, hs => by obtain ⟨vs, e, hl⟩ := hr; exact ⟨vs, e, relL_drop' cs _ hl hs⟩
  | .fn f a b, u, hr, hs => by obtain ⟨fs, cs, e, h1, h2⟩ := hr; exact ⟨fs, cs, e, relL_drop' a _ h1 hs.1, relL_drop' b _ h2 hs.2⟩
  | .any, u, hr, _ => trivial
theorem relL_drop' : ∀ (az : List AV) (us : List Value), AV.relL ⟨μ, h, w⟩ az us → scL (h.drop m).length az → AV.relL ⟨μ, h.drop m, w⟩ az us
  | [], us, hr, _ => hr
  | a :: az, us, hr, hs => by obtain ⟨x, xs, e, h1, h2⟩ := hr; exact ⟨x, xs, e, rel_drop a x h1 hs.1, relL_drop' az xs h2 hs.2⟩
end
theorem drop_ok (ok : (⟨μ, h, w⟩ : Cx).Ok) (hc : Closed (h.drop m)) : (⟨μ, h.drop m, w⟩ : Cx).Ok := by
  refine ⟨fun i b hg => ?_, fun i j b hi hj e1 e2 => ok.inj i j b ((alive_drop hi.lt).1 hi) ((alive_drop hj.lt).1 hj) e1 e2,
    fun i b hi e => ok.nx i b ((alive_drop hi.lt).1 hi) e, ok.xlt⟩
  have hl : i < (h.drop m).length := hget_lt hg
  have hg' : hget h i = some b := by have hg2 : hget (h.drop m) i = some b := hg; rwa [hget_drop hl] at hg2
  have hb := ok.blk i b hg'
  cases b with
  | cells t cs =>
    rcases hb with ⟨b, cv, vs, rest, h0, h1, h2, h3, h4⟩ | hb
    · exact .inl ⟨b, cv, vs, rest, h0, h1, h2, relL_drop' cs vs h3 (hc.1 i t cs hg), h4⟩
    · exact .inr hb
  | row t cs =>
    rcases hb with ⟨b, cv, vs, rest, h0, h1, h2, h3, h4⟩ | hb
    · exact .inl ⟨b, cv, vs, rest, h0, h1, h2, relL_drop' cs vs h3 (hc.2 i t cs hg), h4⟩
    · exact .inr hb
  | iter s p => exact hb
  | dead => trivial
theorem drop_to {n : Nat} {c : Cx} (t : Cx.Ton n c ⟨μ, h, w⟩) (hn : n ≤ (h.drop m).length) : Cx.Ton n c ⟨μ, h.drop m, w⟩ :=
  ⟨t.os, t.tape, t.output, t.size, hn, t.x, t.keep, fun b k hb => ⟨(still_drop b k (t.stay b k hb).1).1, (t.stay b k hb).2⟩, fun i hi ha => t.old i hi ((alive_drop ha.lt).1 ha), fun i hi ha => t.row i hi ((alive_drop ha.lt).1 ha), fun i ha => t.at_ i ((alive_drop ha.lt).1 ha)⟩
theorem drop_to0 : Cx.Ton 0 ⟨μ, h, w⟩ ⟨μ, h.drop m, w⟩ := drop_to (Cx.Ton.refl _ (Nat.zero_le _)) (Nat.zero_le _)
end

section
variable {P : Program} {E : Env} {n : Nat}
/-- The newest m blocks are forgotten. -/
theorem AWP_drop (m : Nat) {k : Code} {Q : Exit → List AV → AHeap → Prop} {st : List AV} {h : AHeap} (hn : n ≤ (h.drop m).length) (hc : Closed (h.drop m)) (hs : scL (h.drop m).length st)
    (s : AWP P E n k Q st (h.drop m)) : AWP P E n k Q st h := by
  intro μ w a _ f
  have t : Cx.Ton n ⟨μ, h, w⟩ ⟨μ, h.drop m, w⟩ := drop_to (Cx.Ton.refl _ (Nat.le_trans hn (by simp))) hn
  exact wp_mono (s μ w a hn ⟨E.mono _ _ _ drop_to0 f.env, drop_ok f.ok hc, relL_drop' st _ f.tmps hs, f.defers⟩) fun e a' w' hq => hq.trans t

/-- What a value becomes when the newest blocks are forgotten. -/
def Frz (m : Nat) (h : AHeap) (a b : AV) : Prop := ∀ μ w u, (⟨μ, h, w⟩ : Cx).Ok → AV.rel ⟨μ, h, w⟩ a u → AV.rel ⟨μ, h.drop m, w⟩ b u
def FrzL (m : Nat) (h : AHeap) (az bs : List AV) : Prop := ∀ μ w us, (⟨μ, h, w⟩ : Cx).Ok → AV.relL ⟨μ, h, w⟩ az us → AV.relL ⟨μ, h.drop m, w⟩ bs us
variable {m : Nat} {h : AHeap}
theorem Frz_sc {a : AV} (hs : a.sc (h.drop m).length) : Frz m h a a := fun μ w u _ hr => rel_drop a u hr hs
theorem FrzL_sc {az : List AV} (hs : scL (h.drop m).length az) : FrzL m h az az := fun μ w u _ hr => relL_drop' az u hr hs
theorem Frz_le {a b c : AV} (f : Frz m h a b) (l : b.le c) : Frz m h a c := fun μ w u ok hr => l _ u (f μ w u ok hr)
theorem FrzL_nil : FrzL m h [] [] := fun μ w u ok hr => hr
theorem FrzL_cons {a b : AV} {az bs : List AV} (f : Frz m h a b) (g : FrzL m h az bs) : FrzL m h (a :: az) (b :: bs) := by
  rintro μ w us ok ⟨x, xs, rfl, h1, h2⟩
  exact ⟨x, xs, rfl, f μ w x ok h1, g μ w xs ok h2⟩
theorem Frz_agg {az bs : List AV} (f : FrzL m h az bs) (ho : bs.all AV.one = true) : Frz m h (.agg az) (.agg bs) := by
  rintro μ w u ok ⟨vs, rfl, hl, _⟩
  exact ⟨vs, rfl, f μ w _ ok hl, ho⟩
theorem Frz_tup {az bs : List AV} (f : FrzL m h az bs) : Frz m h (.tup az) (.tup bs) := by
  rintro μ w u ok ⟨vs, rfl, hl⟩
  exact ⟨vs, rfl, f μ w _ ok hl⟩
theorem Frz_sl {id off len : Nat} {k : Cap} {t : TypeId} {cs cs1 rest cs2 : List AV} (hg : blkCells h id = some (t, cs)) (hid : (h.drop m).length ≤ id) (hcs : cs.drop off = cs1 ++ rest)
    (f : FrzL m h cs1 cs2) (ho : cs2.all AV.one = true) : Frz m h (.sl id off len k) (.ro .unk len cs2) := by
  rintro μ w u ok ⟨_, _, hr⟩
  obtain ⟨hb, ha⟩ := blkCells_alive hg
  rcases hr ha with ⟨b, cap, hmu, rfl, hk, _⟩ | ⟨hn, rfl, rfl, ad, rfl⟩
  · obtain ⟨cv, vs, rest', hcv, hvs, hl, _⟩ := blk_at ok hb hmu
    have hl2 := relL_drop hl off
    rw [hcs] at hl2
    have hl3 := relL_take hl2 cs1.length
    rw [List.take_left] at hl3
    refine ⟨_, cap, _, rfl, ⟨hk.1, hk.2.1, fun h => by cases h⟩, f μ w _ ok hl3, ho, ?_⟩
    right
    refine ⟨_, rfl, fun j _ => ⟨(Array.getElem?_eq_some_iff.1 hcv).1, fun i y hi hy e => ?_, ok.nx id b ha hmu _⟩, fun j x hj => ?_⟩
    · have hil : i < (h.drop m).length := hget_lt hi
      have := ok.inj i id b ((alive_drop hil).1 ⟨y, hi, hy⟩) ha e hmu
      omega
    · rw [add_at]
      have hcell := cell_of_row w b (off + j) cv t (0, 0) hcv
      rw [hcell]
      rw [List.getElem?_take] at hj
      split at hj
      · rw [List.getElem?_drop] at hj
        have : cv.toList[off + j]? = some x := by rw [hvs, List.getElem?_append_left (List.getElem?_eq_some_iff.1 hj).1]; exact hj
        simpa using this
      · cases hj
  · have hcs0 : cs = [] := by
      rcases ok.blk id _ hb with ⟨b, _, _, _, e, _⟩ | ⟨_, e⟩
      · rw [hn] at e; cases e
      · exact e
    subst hcs0
    have hcs1 : cs1 = [] := by have := congrArg List.length hcs; simp at this; exact List.eq_nil_of_length_eq_zero (by omega)
    subst hcs1
    have h2 := f μ w [] ok rfl
    exact ⟨ad, 0, [], rfl, ⟨Nat.le_refl _, Nat.zero_le _, fun h => by cases h⟩, h2, ho, .inl rfl⟩

/-- The end of a function: what it hands back, the newest blocks forgotten. -/
def Fin (P : Program) (fn : Func) (n : Nat) (Q : AV → AHeap → Prop) : Exit → List AV → AHeap → Prop
  | .normal, st, h | .ret, st, h => ∃ l m r, resA P fn.results.toList st h = some l ∧ n ≤ (h.drop m).length ∧ Closed (h.drop m) ∧ Frz m h (resV l) r ∧ Q r (h.drop m)
  | _, _, _ => False
theorem Sp_fn {f : FuncId} {fn : Func} {k : Code} {args : List AV} {h : AHeap} {Q : AV → AHeap → Prop} (hf : P.funcs[f]? = some fn) (hb : fn.body = some k)
    (s : Closed h → scL h.length args → AWP P E h.length k (Fin P fn h.length Q) (args ++ List.replicate (fn.ntmps - args.length) undefA) h) : Sp P E f args h Q := by
  intro μ w ca he hok hr
  have hcl : Closed h := hok.closed
  have hsc : scL h.length args := relL_sc args _ hr
  refine (Sp_body (P := P) (E := E) (Q := fun r h' => ∃ m r', h.length ≤ (h'.drop m).length ∧ Closed (h'.drop m) ∧ Frz m h' r r' ∧ Q r' (h'.drop m)) hf hb ((s hcl hsc).mono fun e st h' hq => ?_) μ w ca he hok hr).mono fun e w' hq => ?_
  · cases e with
    | normal => obtain ⟨l, m, r, h1, h2⟩ := hq; exact ⟨l, h1, m, r, h2⟩
    | ret => obtain ⟨l, m, r, h1, h2⟩ := hq; exact ⟨l, h1, m, r, h2⟩
    | exit id => exact hq
    | goto l => exact hq
    | panic ch => exact hq
    | outgrown => exact hq
  · obtain ⟨r, h', μ', u, rfl, ⟨m, r', h1, h2, h3, h4⟩, ok', hrel, hto⟩ := hq
    exact ⟨r', h'.drop m, μ', u, rfl, h4, drop_ok ok' h2, h3 μ' w' u ok' hrel, drop_to hto h1⟩
end
end Go.Proofs.YtjhbobacbaikoaaGreatDoor
