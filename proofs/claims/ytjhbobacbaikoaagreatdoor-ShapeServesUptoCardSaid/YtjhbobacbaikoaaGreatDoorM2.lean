/- Appends. -/
import Derived.Deep.AppendSrc
import Derived.Test.YtjhbobacbaikoaaGreatDoorM1
import Derived.OrdersHeld
import Derived.Test.YtjhbobacbaikoaaGreatDoorProg
import Derived.ChangeArms
import Derived.OpenShut
namespace Go.Proofs.YtjhbobacbaikoaaGreatDoor
open Go
set_option linter.unusedVariables false
set_option linter.unusedSimpArgs false

section
variable (P : Program)
/-- What is appended: so many elements, these cells. -/
def SrcA (h : AHeap) (sz : Nat) (tx : TypeId) (v : AV) (m : Nat) (cells : List AV) : Prop :=
  ∀ μ w u, (⟨μ, h, w⟩ : Cx).Ok → AV.rel ⟨μ, h, w⟩ v u → ∃ news, Src P sz tx u m news w ∧ AV.relL ⟨μ, h, w⟩ cells news ∧ cells.all AV.one = true
end
section
variable {P : Program} {E : Env}
theorem telem_spec {t e : TypeId} (h : telem P t = some e) : P.underlying t = some (.slice e) := by
  unfold telem at h
  cases hu : P.underlying t with
  | none => simp [hu] at h
  | some d => cases d <;> simp [hu] at h; rw [h]
theorem SrcA_ro {h : AHeap} {sz : Nat} {tx e : TypeId} {k : Cap} {m : Nat} {cells : List AV} (ht : telem P tx = some e) (hl : cells.length = m * sz) (h0 : sz ≠ 0) : SrcA P h sz tx (.ro k m cells) m cells := by
  rintro μ w u ok ⟨a, cap, vs, rfl, hk, hr, ho, hm⟩
  have hvl := relL_length hr
  refine ⟨vs, ?_, hr, ho⟩
  rcases hm with rfl | ⟨ad, rfl, _, hc⟩
  · simp at hvl
    have hm0 : m = 0 := by
      have : m * sz = 0 := by omega
      rcases Nat.mul_eq_zero.1 this with h | h
      · exact h
      · exact absurd h h0
    subst hm0
    cases a with
    | none => exact Src.ofNil _ (telem_spec ht) cap
    | some a => exact Src.ofSlice _ (telem_spec ht) a 0 cap [] (by simp) (by simp) (by simp)
  · exact Src.ofSlice _ (telem_spec ht) ad m cap vs (by omega) hc (relL_one hr ho)
theorem SrcA_sl {h : AHeap} {sz : Nat} {tx e te : TypeId} {k : Cap} {id off m : Nat} {cs cells rest : List AV} (ht : telem P tx = some e) (hg : blkCells h id = some (te, cs)) (hcs : cs.drop off = cells ++ rest) (hl : cells.length = m * sz) (h0 : sz ≠ 0) :
    SrcA P h sz tx (.sl id off m k) m cells := by
  rintro μ w u ok ⟨_, _, hr⟩
  obtain ⟨hb, ha⟩ := blkCells_alive hg
  rcases hr ha with ⟨b, cap, hmu, rfl, hk, _⟩ | ⟨hn, rfl, rfl, ad, rfl⟩
  · obtain ⟨cv, vs, rest', hcv, hvs, hl1, ho⟩ := blk_at ok hb hmu
    have hl2 := relL_drop hl1 off
    rw [hcs] at hl2
    have hl3 := relL_take hl2 cells.length
    rw [List.take_left] at hl3
    have ho2 : cells.all AV.one = true := by
      have := all_drop ho off
      rw [hcs, List.all_append] at this
      simp only [Bool.and_eq_true] at this
      exact this.1
    have hvl := relL_length hl3
    refine ⟨_, Src.ofSlice _ (telem_spec ht) ⟨b, off, none⟩ m cap ((vs.drop off).take cells.length) (by omega) (fun j x hj => ?_) (relL_one hl3 ho2), hl3, ho2⟩
    rw [add_at, cell_of_row w b (off + j) cv te (0, 0) hcv]
    rw [List.getElem?_take] at hj
    split at hj
    · rw [List.getElem?_drop] at hj
      have : cv.toList[off + j]? = some x := by rw [hvs, List.getElem?_append_left (List.getElem?_eq_some_iff.1 hj).1]; exact hj
      simpa using this
    · cases hj
  · have hc0 : cells = [] := List.eq_nil_of_length_eq_zero (by simpa using hl)
    subst hc0
    refine ⟨[], ?_, rfl, rfl⟩
    cases ad with
    | none => exact Src.ofNil _ (telem_spec ht) 0
    | some a => exact Src.ofSlice _ (telem_spec ht) a 0 0 [] (by simp) (by simp) (by simp)
def strA (s : ByteArray) : List AV := s.data.toList.map fun b => .val (.int .u8 b.toNat)
theorem SrcA_str {h : AHeap} {tx : TypeId} {s : ByteArray} (ht : P.underlying tx = some .string) : SrcA P h 1 tx (.val (.string s)) s.size (strA s) := by
  rintro μ w u ok hr
  have e : u = .string s := hr
  subst e
  refine ⟨byteCells s, Src.ofString _ ht s, ?_, ?_⟩
  · unfold strA byteCells
    generalize s.data.toList = l
    induction l with
    | nil => rfl
    | cons b l ih => exact ⟨_, _, rfl, rfl, ih⟩
  · unfold strA
    rw [List.all_map, List.all_eq_true]
    intro x _; rfl

theorem run_append_room_set (w : World) (t tx ty e : TypeId) (i : TypeInfo) (ht : P.underlying t = some (.slice e)) (hi : P.info? e = some i) (g n cap : Nat) (cur : Array Value) (hg : w.heap[g]? = some (.cells cur e (0, 0))) (x : Value) (m : Nat) (news : List Value)
    (hs : Src P i.size tx x m news w) (hroom : n + m ≤ cap) (hfit : n * i.size + news.length ≤ cur.size) :
    (Builtin.append_ #[t, tx] ty #[.slice (some ⟨g, 0, none⟩) n cap, x]).run P w =
      .ok (.slice (some ⟨g, 0, none⟩) (n + m) cap) (w.setRow g (cur.toList.take (n * i.size) ++ news ++ cur.toList.drop (n * i.size + news.length)).toArray) := by
  have hst := run_storeCells_at P g (n * i.size) e news 0 cur w hg (by simpa using hfit) hs.one
  simp only [Nat.add_zero] at hst
  rcases hs.kind with ⟨e', hk⟩ | hk <;> simp [Builtin.append_, run_underlying ht, run_underlying hk, sizeOf, typeInfo, hi, hs.len, hroom, hs.cells, Addr.add_lit, hst]
theorem run_append_still (w : World) (t tx ty e : TypeId) (i : TypeInfo) (ht : P.underlying t = some (.slice e)) (hi : P.info? e = some i) (base : Option Addr) (n cap : Nat) (x : Value) (news : List Value)
    (hs : Src P i.size tx x 0 news w) (hroom : n ≤ cap) : (Builtin.append_ #[t, tx] ty #[.slice base n cap, x]).run P w = .ok (.slice base n cap) w := by
  have hn : news = [] := List.eq_nil_of_length_eq_zero (by simpa using hs.newsLen)
  subst hn
  have hst : ∀ a : Addr, (storeCells a [] 0).run P w = .ok () w := fun a => rfl
  rcases hs.kind with ⟨e', hk⟩ | hk <;> cases base <;> simp [Builtin.append_, run_underlying ht, run_underlying hk, sizeOf, typeInfo, hi, hs.len, hroom, hs.cells, hst]

theorem zeroCells_size (z : Array Value) (n : Nat) : (Builtin.zeroCells z n).size = n * z.size := by simp [Builtin.zeroCells]
/-- A row that grows: the new block. -/
theorem app_grow (rr : Bool) {c : Cx} (hok : c.Ok) (i : Nat) {e : TypeId} {sz n m : Nat} {z : Value} (hz : z.cells.size = sz) {xs cells : List AV} {olds news : List Value}
    (hx : AV.relL c xs olds) (hxo : xs.all AV.one = true) (hc : AV.relL c cells news) (hco : cells.all AV.one = true) (hxl : xs.length = n * sz) (hcl : cells.length = m * sz) (hm : n + m ≤ maxLen) (old : Nat) :
    let W := c.w.drew.alloc (.cells ((olds ++ news).toArray ++ Builtin.zeroCells z.cells (grownCap c.w (n + m) old e - (n + m))) e)
    let d := c.app i (some c.w.heap.size) (mkB rr e (xs ++ cells)) W
    d.Ok ∧ c.To d ∧ AV.rel d (.sl c.h.length 0 (n + m) (.whole sz)) (.slice (some ⟨c.w.heap.size, 0, none⟩) (n + m) (grownCap c.w (n + m) old e)) := by
  intro W d
  have hge := grownCap_ge c.w (n + m) old e
  have hcm := grownCap_le_maxLen c.w (n + m) old e hm
  have hheap : W.heap = c.w.heap.push (.cells ((olds ++ news).toArray ++ Builtin.zeroCells z.cells (grownCap c.w (n + m) old e - (n + m))) e) := rfl
  have hh : ∀ k, k < c.w.heap.size → some c.w.heap.size ≠ some k → W.heap[k]? = c.w.heap[k]? := fun k hk _ => by rw [hheap]; simp [Array.getElem?_push]; omega
  have hxx : ∀ k, some c.w.heap.size = some k → c.w.heap.size ≤ k ∨ (alive c.h i ∧ c.μ i = some k) := fun k e => by cases e; exact .inl (Nat.le_refl _)
  have t : c.To d := app_to hok rfl rfl rfl (by rw [hheap]; simp) hh hxx fun k q e hs => by cases e; exact absurd hs.1 (Nat.lt_irrefl _)
  have ol := relL_length hx
  have nl := relL_length hc
  have hnew : W.heap[c.w.heap.size]? = some (.cells ((olds ++ news).toArray ++ Builtin.zeroCells z.cells (grownCap c.w (n + m) old e - (n + m))) e (0, 0)) := by rw [hheap]; simp
  refine ⟨app_ok t hok hh hxx (mkB_rel.2 (.inl ⟨_, _, olds ++ news, (Builtin.zeroCells z.cells (grownCap c.w (n + m) old e - (n + m))).toList, rfl, hnew, by simp, relL_append (AV.relL_to t _ _ hx) (AV.relL_to t _ _ hc), all_app hxo hco⟩)), t, ?_⟩
  refine ⟨by simp [d, Cx.app], rfl, fun _ => .inl ⟨c.w.heap.size, _, app_mu_new, rfl, ⟨hge, hcm, fun h => by cases h⟩, fun s hs => ⟨rfl, fun cv t fr hcv => ?_⟩⟩⟩
  cases hs
  have hcv' : W.heap[c.w.heap.size]? = some (.cells cv t fr) := hcv
  rw [hnew] at hcv'
  cases hcv'
  simp only [Array.size_append, List.size_toArray, List.length_append, zeroCells_size, hz, ol, nl, hxl, hcl, ← Nat.add_mul]
  congr 1
  omega

theorem exec_append {o : Oper} {s x : Operand} {t tx : TypeId} (ho : o.op = .call { callee := .builtin .append, args := #[s, x], argTypes := #[t, tx] }) (a : Act) (w : World) :
    (execOp a.eval o).run P w = ((Builtin.append_ #[t, tx] o.type #[a.eval s, a.eval x]).run P w).andThen fun u w' => .ok (.value u) w' := by
  simp [execOp, ho, resolve, invoke, builtin]
theorem info_of {e : TypeId} {z : Value} (htok : tok P e = true) (hz : tzero P e = some z) : ∃ i, P.info? e = some i ∧ i.size = tsize P e ∧ i.zero = some z := by
  unfold tzero at hz
  cases hi : P.info? e with
  | none => simp [hi] at hz
  | some i => simp [hi] at hz; exact ⟨i, rfl, by simp [tsize, hi], hz⟩
def tbytes (P : Program) (t : TypeId) : Nat := ((P.info? t).map (·.bytes)).getD 0

/-- An append onto nil (or onto an empty slice without room). -/
theorem gives_append_nil (rr : Bool) {o : Oper} {s x : Operand} {t tx e : TypeId} {z : Value} {m : Nat} {cells : List AV} {st : List AV} {h : AHeap}
    (ho : o.op = .call { callee := .builtin .append, args := #[s, x], argTypes := #[t, tx] }) (ht : telem P t = some e) (htok : tok P e = true) (hz : tzero P e = some z) (hzs : z.cells.size = tsize P e)
    (hs : evA E st s = .ro .full 0 []) (hx : SrcA P h (tsize P e) tx (evA E st x) m cells) (hl : cells.length = m * tsize P e) (hm : m ≤ 4611686018427387904) (hb : m * tbytes P e ≤ 140737488355328) :
    Gives P E o (.sl h.length 0 m (.whole (tsize P e))) (mkB rr e cells :: h) st h := by
  intro μ w a f
  obtain ⟨news, src, hr, hone⟩ := hx μ w _ f.ok (evA_sound f x)
  obtain ⟨i, hi, hsz, hz'⟩ := info_of htok hz
  have hby : i.bytes = tbytes P e := by simp [tbytes, hi]
  have hsv := evA_sound f s
  rw [hs] at hsv
  obtain ⟨base, cap, vs, hev, hcap, _⟩ := hsv
  have hcap0 : cap = 0 := hcap.2.2 rfl
  subst hcap0
  have hhd : hset h h.length .dead = h := hset_ge _ (Nat.le_refl _)
  have heq : ∀ (x : Option Nat) (W : World), (⟨μ, h, w⟩ : Cx).app h.length x (mkB rr e cells) W = ⟨((⟨μ, h, w⟩ : Cx).app h.length x (mkB rr e cells) W).μ, mkB rr e cells :: h, W⟩ := by
    intro x W; show (⟨_, _, _⟩ : Cx) = _; congr 1; simp [hhd]
  by_cases hm0 : m = 0
  · subst hm0
    have hc0 : cells = [] := List.eq_nil_of_length_eq_zero (by simpa using hl)
    subst hc0
    have hrun := run_append_still (P := P) w t tx o.type e i (telem_spec ht) hi base 0 0 _ news (by rw [hsz]; exact src) (Nat.le_refl _)
    have hh : ∀ k, k < w.heap.size → (none : Option Nat) ≠ some k → w.heap[k]? = w.heap[k]? := fun _ _ _ => rfl
    have t' : Cx.To ⟨μ, h, w⟩ ((⟨μ, h, w⟩ : Cx).app h.length none (mkB rr e []) w) := app_to f.ok rfl rfl rfl (Nat.le_refl _) hh (fun k hk => by cases hk) (fun k q hk => by cases hk)
    refine ⟨_, .slice base 0 0, w, ((⟨μ, h, w⟩ : Cx).app h.length none (mkB rr e []) w).μ, by rw [exec_append ho, hev, hrun]; rfl, .inl rfl, ?_, ?_, ?_⟩
    · exact ⟨by simp, rfl, fun _ => .inr ⟨(by simp [Cx.app]), rfl, rfl, base, rfl⟩⟩
    · rw [← heq none w]; exact app_ok t' f.ok hh (fun k hk => by cases hk) (mkB_rel.2 (.inr ⟨rfl, rfl⟩))
    · rw [← heq none w]; exact t'
  · have hold : (Builtin.firstCells i.size 0 (.slice base 0 0)).run P w.drew = .ok (([] : List Value)).toArray w.drew := by
      cases base <;> simp [Builtin.firstCells, loadCells, loadCellsFrom]
    have hrun := run_append_grow_src (P := P) w t tx o.type e i z (telem_spec ht) hi hz' base 0 0 [] hold _ m news (by rw [hsz]; exact src) (by omega) (by omega) (growslice_fits (by omega) (by rw [hby]; simpa using hb))
    obtain ⟨g1, g2, g3⟩ := app_grow rr (c := ⟨μ, h, w⟩) f.ok h.length (e := e) (n := 0) (xs := []) (olds := []) hzs rfl rfl hr hone (by simp) hl (by unfold maxLen; omega) 0
    simp only [Nat.zero_add, List.nil_append] at hrun g1 g2 g3
    rw [heq] at g1 g2 g3
    exact ⟨_, _, _, _, by rw [exec_append ho, hev, hrun]; rfl, .inl rfl, g3, g1, g2⟩

/-- An append onto a row of one's own; the row as it was is gone. -/
theorem gives_append_own (rr : Bool) {o : Oper} {s x : Operand} {t tx e : TypeId} {z : Value} {id n m : Nat} {cells cs xs rest : List AV} {st : List AV} {h : AHeap}
    (ho : o.op = .call { callee := .builtin .append, args := #[s, x], argTypes := #[t, tx] }) (ht : telem P t = some e) (htok : tok P e = true) (hz : tzero P e = some z) (hzs : z.cells.size = tsize P e) (h0 : tsize P e ≠ 0)
    (hs : evA E st s = .sl id 0 n (.whole (tsize P e))) (hg : hget h id = some (mkB rr e cs)) (hcs : cs = xs ++ rest) (hrest : rr = true → rest = []) (hxl : xs.length = n * tsize P e)
    (hx : SrcA P h (tsize P e) tx (evA E st x) m cells) (hl : cells.length = m * tsize P e) (hnm : n + m ≤ 4611686018427387904) (hb : (n + m) * tbytes P e ≤ 140737488355328) :
    Gives P E o (.sl h.length 0 (n + m) (.whole (tsize P e))) (mkB rr e (xs ++ cells) :: hset h id .dead) st h := by
  intro μ w a f
  obtain ⟨news, src, hr, hone⟩ := hx μ w _ f.ok (evA_sound f x)
  obtain ⟨i, hi, hsz, hz'⟩ := info_of htok hz
  have hby : i.bytes = tbytes P e := by simp [tbytes, hi]
  have hsv := evA_sound f s
  rw [hs] at hsv
  have ha : alive h id := ⟨_, hg, mkB_dead⟩
  have hbk := mkB_rel.1 (f.ok.blk id _ hg)
  have nl := relL_length hr
  rcases hsv.2.2 ha with ⟨b, cap, hmu, hev, hcap, hw⟩ | ⟨hmu, rfl, _, base, hev⟩
  · obtain ⟨cv, vs, rest', hcv, hvs, hl1, ho1⟩ : ∃ cv vs rest', w.heap[b]? = some (.cells cv e (0, 0)) ∧ cv.toList = vs ++ rest' ∧ AV.relL ⟨μ, h, w⟩ cs vs ∧ cs.all AV.one = true := by
      rcases hbk with ⟨b', cv, vs, rest', e1, h1, h2, h3, h4⟩ | ⟨e1, _⟩
      · have e2 : μ id = some b' := e1
        rw [hmu] at e2; cases e2; exact ⟨cv, vs, rest', h1, h2, h3, h4⟩
      · have e2 : μ id = none := e1
        rw [hmu] at e2; cases e2
    have hcvs : cv.size = cap * tsize P e := (hw _ rfl).2 cv _ _ hcv
    have hvl := relL_length hl1
    have hx1 : AV.relL ⟨μ, h, w⟩ xs (vs.take xs.length) := by
      have := relL_take hl1 xs.length
      rw [hcs, List.take_left] at this
      exact this
    have hxo : xs.all AV.one = true := by rw [hcs, List.all_append] at ho1; simp only [Bool.and_eq_true] at ho1; exact ho1.1
    have hcl : xs.length ≤ vs.length := by rw [hvl, hcs]; simp
    have hcvl : cv.size = vs.length + rest'.length := by have := congrArg List.length hvs; simpa using this
    by_cases hroom : n + m ≤ cap
    · have hfit : n * i.size + news.length ≤ cv.size := by rw [hsz, nl, hl, hcvs, ← Nat.add_mul]; exact Nat.mul_le_mul_right _ hroom
      have hrun := run_append_room_set (P := P) w t tx o.type e i (telem_spec ht) hi b n cap cv hcv _ m news (by rw [hsz]; exact src) hroom hfit
      have hh : ∀ k, k < w.heap.size → some b ≠ some k → (w.setRow b (cv.toList.take (n * i.size) ++ news ++ cv.toList.drop (n * i.size + news.length)).toArray).heap[k]? = w.heap[k]? :=
        fun k hk hne => setRow_other w b k _ fun e => hne (by rw [e])
      have hxx : ∀ k, some b = some k → w.heap.size ≤ k ∨ (alive h id ∧ μ id = some k) := fun k e => by cases e; exact .inr ⟨ha, hmu⟩
      have hstay : ∀ k q, some b = some k → (⟨μ, h, w⟩ : Cx).still k q → q < (mkB rr e (xs ++ cells)).lim ∧ sameCell w (w.setRow b (cv.toList.take (n * i.size) ++ news ++ cv.toList.drop (n * i.size + news.length)).toArray) k q := by
        rintro k q hk hq
        cases hk
        have hlim := hq.2.1 id _ hg mkB_dead hmu
        cases rr with
        | false => exact absurd hlim (Nat.not_lt_zero _)
        | true =>
          have hr0 := hrest rfl
          have hq' : q < xs.length := by rw [hr0, List.append_nil] at hcs; rw [← hcs]; exact hlim
          refine ⟨by show q < (xs ++ cells).length; simp; omega, fun a h1 h2 => ?_⟩
          subst h1 h2
          have e1 := setRow_heap w a.block cv (cv.toList.take (n * i.size) ++ news ++ cv.toList.drop (n * i.size + news.length)).toArray e _ hcv
          simp only [World.cell?, e1, hcv]
          have hlt : a.off < n * i.size := by rw [hsz, ← hxl]; exact hq'
          have hlen : n * i.size ≤ cv.toList.length := by simp; omega
          congr 1
          simp only [List.getElem?_toArray]
          rw [List.append_assoc, List.getElem?_append_left (by simp; omega), List.getElem?_take_of_lt hlt]
          simp
      have t' : Cx.To ⟨μ, h, w⟩ ((⟨μ, h, w⟩ : Cx).app id (some b) (mkB rr e (xs ++ cells)) (w.setRow b (cv.toList.take (n * i.size) ++ news ++ cv.toList.drop (n * i.size + news.length)).toArray)) :=
        app_to f.ok rfl rfl rfl (by simp [World.setRow]) hh hxx hstay
      have htake : cv.toList.take (n * i.size) = vs.take xs.length := by
        rw [hvs, hsz, ← hxl, List.take_append_of_le_length hcl]
      refine ⟨_, _, _, ⟨fun k => if k = h.length then some b else μ k, μ.x⟩, by rw [exec_append ho, hev, hrun]; rfl, .inl rfl, ?_, app_ok t' f.ok hh hxx ?_, t'⟩
      · refine ⟨by simp, rfl, fun _ => .inl ⟨b, cap, (by simp [Cx.app]), rfl, ⟨hroom, hcap.2.1, fun h => by cases h⟩, fun s hs => ⟨rfl, fun cv1 t1 fr1 h1 => ?_⟩⟩⟩
        cases hs
        have := setRow_heap w b cv (cv.toList.take (n * i.size) ++ news ++ cv.toList.drop (n * i.size + news.length)).toArray e _ hcv
        rw [this] at h1
        cases h1
        rw [← hcvs]
        simp
        omega
      · refine mkB_rel.2 (.inl ⟨b, _, vs.take xs.length ++ news, cv.toList.drop (n * i.size + news.length), rfl, setRow_heap w b cv _ e _ hcv, by rw [List.toList_toArray, htake], relL_append (AV.relL_to t' _ _ hx1) (AV.relL_to t' _ _ hr), all_app hxo hone⟩)
    · have hold : (Builtin.firstCells i.size n (.slice (some ⟨b, 0, none⟩) n cap)).run P w.drew = .ok (vs.take xs.length).toArray w.drew :=
        run_firstCells_some (P := P) w.drew i.size n _ n cap (vs.take xs.length) (by rw [hsz]; simp; omega) fun j v hj => by
          rw [add_at]
          have hcell : w.drew.cell? ⟨b, 0 + j, none⟩ = cv[0 + j]? := cell_of_row w.drew b (0 + j) cv e (0, 0) hcv
          rw [hcell]
          rw [List.getElem?_take] at hj
          split at hj
          · have : cv.toList[0 + j]? = some v := by rw [hvs, Nat.zero_add, List.getElem?_append_left (List.getElem?_eq_some_iff.1 hj).1]; exact hj
            simpa using this
          · cases hj
      have hrun := run_append_grow_src (P := P) w t tx o.type e i z (telem_spec ht) hi hz' (some ⟨b, 0, none⟩) n cap (vs.take xs.length) hold _ m news (by rw [hsz]; exact src) (by omega) (by omega) (growslice_fits (by omega) (by rw [hby]; exact hb))
      obtain ⟨g1, g2, g3⟩ := app_grow rr (c := ⟨μ, h, w⟩) f.ok id (e := e) (n := n) hzs hx1 hxo hr hone hxl hl (by unfold maxLen; omega) cap
      exact ⟨_, _, _, _, by rw [exec_append ho, hev, hrun]; rfl, .inl rfl, g3, g1, g2⟩
  · have hcs0 : cs = [] := by
      rcases hbk with ⟨b, _, _, _, e, _⟩ | ⟨_, e⟩
      · have e' : μ id = some b := e
        have hmu' : μ id = none := hmu
        rw [hmu'] at e'; cases e'
      · exact e
    rw [hcs0] at hcs
    have hx0 : xs = [] := by have := congrArg List.length hcs; simp at this; exact List.eq_nil_of_length_eq_zero (by omega)
    subst hx0
    by_cases hm0 : m = 0
    · subst hm0
      have hc0 : cells = [] := List.eq_nil_of_length_eq_zero (by simpa using hl)
      subst hc0
      have hrun := run_append_still (P := P) w t tx o.type e i (telem_spec ht) hi base 0 0 _ news (by rw [hsz]; exact src) (Nat.le_refl _)
      have hh : ∀ k, k < w.heap.size → (none : Option Nat) ≠ some k → w.heap[k]? = w.heap[k]? := fun _ _ _ => rfl
      have t' : Cx.To ⟨μ, h, w⟩ ((⟨μ, h, w⟩ : Cx).app id none (mkB rr e ([] ++ [])) w) := app_to f.ok rfl rfl rfl (Nat.le_refl _) hh (fun k hk => by cases hk) (fun k q hk => by cases hk)
      exact ⟨_, .slice base 0 0, w, _, by rw [exec_append ho, hev, hrun]; rfl, .inl rfl, ⟨by simp, rfl, fun _ => .inr ⟨(by simp [Cx.app]), rfl, rfl, base, rfl⟩⟩, app_ok t' f.ok hh (fun k hk => by cases hk) (mkB_rel.2 (.inr ⟨rfl, rfl⟩)), t'⟩
    · have hold : (Builtin.firstCells i.size 0 (.slice base 0 0)).run P w.drew = .ok (([] : List Value)).toArray w.drew := by
        cases base <;> simp [Builtin.firstCells, loadCells, loadCellsFrom]
      have hrun := run_append_grow_src (P := P) w t tx o.type e i z (telem_spec ht) hi hz' base 0 0 [] hold _ m news (by rw [hsz]; exact src) (by omega) (by omega) (growslice_fits (by omega) (by rw [hby]; exact hb))
      obtain ⟨g1, g2, g3⟩ := app_grow rr (c := ⟨μ, h, w⟩) f.ok id (e := e) (n := 0) (xs := []) (olds := []) hzs rfl rfl hr hone (by simp) hl (by unfold maxLen; omega) 0
      exact ⟨_, _, _, _, by rw [exec_append ho, hev, hrun]; rfl, .inl rfl, g3, g1, g2⟩
end
end Go.Proofs.YtjhbobacbaikoaaGreatDoor
/- Indexes, slices of strings and rows, sums of strings, remainders, equal Bools, the iterator of a string. -/
namespace Go.Proofs.YtjhbobacbaikoaaGreatDoor
open Go
set_option linter.unusedVariables false
set_option linter.unusedSimpArgs false

def btA (s : ByteArray) (j : Int) : Int := if h : j.toNat < s.size then ((s[j.toNat]'h).toNat : Int) else 0

section
variable {P : Program} {E : Env}
theorem ev_int {c : Cx} {st : List AV} {a : Act} (f : Fits E c st a) {x : Operand} {v : Value} (h : evA E st x = .val v) : a.eval x = v := by
  have := evA_sound f x
  rw [h] at this
  exact this
theorem gives_index_ro {o : Oper} {t e : TypeId} {x ix : Operand} {ik : IntKind} {j : Int} {k : Cap} {n : Nat} {cells : List AV} {st : List AV} {h : AHeap} (ho : o.op = .indexAddr t x ix) (ht : telem P t = some e) (htok : tok P e = true)
    (hx : evA E st x = .ro k n cells) (hi : evA E st ix = .val (.int ik j)) (h0 : 0 ≤ j) (h1 : j < n) (hc : cells ≠ []) : Same P E o (.rop (cells.drop (j.toNat * tsize P e))) st h := by
  intro μ w a f
  have hr := evA_sound f x
  rw [hx] at hr
  obtain ⟨ad, cap, vs, e1, hk, hl, ho1, hm⟩ := hr
  have e2 := ev_int f hi
  rcases hm with rfl | ⟨ad, rfl, hst, hcell⟩
  · have := relL_length hl
    simp at this
    exact absurd (List.eq_nil_of_length_eq_zero this.symm) hc
  · refine ⟨.pointer (some (ad.add (j.toNat * tsize P e))), ?_, ?_⟩
    · have hcond : 0 ≤ j ∧ j < (n : Int) := ⟨h0, h1⟩
      simp [execOp, ho, e1, e2, Instr.indexAt, asIntOf, run_underlying (telem_spec ht), hcond, run_sizeOf htok]
    · obtain ⟨ad', e3, hr'⟩ := rel_rop_drop (c := ⟨μ, h, w⟩) (cells := cells) (u := .pointer (some ad)) (j.toNat * tsize P e) ⟨ad, vs, rfl, hl, ho1, .inr hst, hcell⟩
      cases e3
      exact hr'
theorem gives_index_sl {o : Oper} {t e : TypeId} {x ix : Operand} {ik : IntKind} {j : Int} {k : Cap} {id off n : Nat} {st : List AV} {h : AHeap} (ho : o.op = .indexAddr t x ix) (ht : telem P t = some e) (htok : tok P e = true)
    (hx : evA E st x = .sl id off n k) (hl : live h id = true) (hi : evA E st ix = .val (.int ik j)) (h0 : 0 ≤ j) (h1 : j < n) : Same P E o (.ptr id (off + j.toNat * tsize P e)) st h := by
  intro μ w a f
  have hr := evA_sound f x
  rw [hx] at hr
  have e2 := ev_int f hi
  rcases hr.2.2 (live_alive hl) with ⟨b, cap, hmu, e1, _⟩ | ⟨_, rfl, _⟩
  · refine ⟨.pointer (some ⟨b, off + j.toNat * tsize P e, none⟩), ?_, hr.1, rfl, fun _ => ⟨b, hmu, rfl⟩⟩
    have hcond : 0 ≤ j ∧ j < (n : Int) := ⟨h0, h1⟩
    simp [execOp, ho, e1, e2, Instr.indexAt, asIntOf, run_underlying (telem_spec ht), hcond, run_sizeOf htok, add_at]
  · omega
theorem tarr_spec {t e : TypeId} {n : Nat} (h : tarr P t = some (n, e)) : P.underlying t = some (.array n e) := by
  unfold tarr at h
  cases hu : P.underlying t with
  | none => simp [hu] at h
  | some d => cases d <;> simp [hu] at h; rw [h.1, h.2]
theorem gives_index_parr {o : Oper} {t e : TypeId} {x ix : Operand} {ik : IntKind} {j : Int} {id off n : Nat} {st : List AV} {h : AHeap} (ho : o.op = .indexAddr t x ix) (ht : tarr P t = some (n, e)) (htok : tok P e = true)
    (hx : evA E st x = .ptr id off) (hl : live h id = true) (hi : evA E st ix = .val (.int ik j)) (h0 : 0 ≤ j) (h1 : j < n) : Same P E o (.ptr id (off + j.toNat * tsize P e)) st h := by
  intro μ w a f
  have hr := evA_sound f x
  rw [hx] at hr
  have e2 := ev_int f hi
  obtain ⟨b, hmu, e1⟩ := hr.2.2 (live_alive hl)
  refine ⟨.pointer (some ⟨b, off + j.toNat * tsize P e, none⟩), ?_, hr.1, rfl, fun _ => ⟨b, hmu, rfl⟩⟩
  have hcond : 0 ≤ j ∧ j < (n : Int) := ⟨h0, h1⟩
  simp [execOp, ho, e1, e2, Instr.indexAt, asIntOf, run_underlying (tarr_spec ht), hcond, run_sizeOf htok, add_at, Instr.sureAddr]
theorem gives_index_rarr {o : Oper} {t e : TypeId} {x ix : Operand} {ik : IntKind} {j : Int} {n : Nat} {cells : List AV} {st : List AV} {h : AHeap} (ho : o.op = .indexAddr t x ix) (ht : tarr P t = some (n, e)) (htok : tok P e = true)
    (hx : evA E st x = .rop cells) (hi : evA E st ix = .val (.int ik j)) (h0 : 0 ≤ j) (h1 : j < n) : Same P E o (.rop (cells.drop (j.toNat * tsize P e))) st h := by
  intro μ w a f
  have hr := evA_sound f x
  rw [hx] at hr
  have e2 := ev_int f hi
  obtain ⟨ad, e1, hr'⟩ := rel_rop_drop (j.toNat * tsize P e) hr
  refine ⟨_, ?_, hr'⟩
  have hcond : 0 ≤ j ∧ j < (n : Int) := ⟨h0, h1⟩
  simp [execOp, ho, e1, e2, Instr.indexAt, asIntOf, run_underlying (tarr_spec ht), hcond, run_sizeOf htok, Instr.sureAddr]
theorem gives_index_str {o : Oper} {t : TypeId} {x ix : Operand} {ik : IntKind} {j : Int} {s : ByteArray} {st : List AV} {h : AHeap} (ho : o.op = .index t x ix) (ht : P.underlying t = some .string)
    (hx : evA E st x = .val (.string s)) (hi : evA E st ix = .val (.int ik j)) (h0 : 0 ≤ j) (h1 : j < s.size) : Same P E o (.val (.int .u8 (btA s j))) st h := by
  intro μ w a f
  have e1 := ev_int f hx
  have e2 := ev_int f hi
  have hlt : j.toNat < s.size := by omega
  refine ⟨_, ?_, rfl⟩
  have hg : s[j.toNat]? = some s[j.toNat] := by simp [hlt]
  simp [execOp, ho, e1, e2, Instr.index, asIntOf, run_underlying ht, h0, hg, btA, hlt]

/-- The bounds of a slice expression. -/
def loA (E : Env) (st : List AV) : Option Operand → Option Int
  | none => some 0
  | some x => match evA E st x with
    | .val (.int _ j) => some j
    | _ => none
def hiA (E : Env) (st : List AV) (n : Nat) : Option Operand → Option Int
  | none => some n
  | some x => match evA E st x with
    | .val (.int _ j) => some j
    | _ => none
theorem run_bounds {c : Cx} {st : List AV} {a : Act} (f : Fits E c st a) {lo hi : Option Operand} {l hh : Int} {isS : Bool} {n cap : Nat} (hl : loA E st lo = some l) (hhi : hiA E st n hi = some hh) (h0 : 0 ≤ l) (h1 : l ≤ hh) (h2 : hh ≤ cap) (w : World) :
    (Instr.sliceBounds isS n cap (lo.map a.eval) (hi.map a.eval) none).run P w = .ok (l.toNat, hh.toNat, cap) w := by
  have key : ∀ (k : IntKind) (i : Int) (y : Nat) (code : BoundsCode) (w : World), 0 ≤ i → i ≤ (y : Int) → (Instr.sliceBound (.int k i) y code).run P w = .ok i.toNat w := by
    intro k i y code w g0 g1
    have hc : 0 ≤ i ∧ i ≤ (y : Int) := ⟨g0, g1⟩
    simp [Instr.sliceBound, asIntOf, hc]
  have hL : ∀ x, lo = some x → ∃ k, a.eval x = .int k l := by
    rintro x rfl
    simp only [loA] at hl
    split at hl
    · rename_i ik j he; cases hl; exact ⟨ik, ev_int f he⟩
    · cases hl
  have hH : ∀ x, hi = some x → ∃ k, a.eval x = .int k hh := by
    rintro x rfl
    simp only [hiA] at hhi
    split at hhi
    · rename_i ik j he; cases hhi; exact ⟨ik, ev_int f he⟩
    · cases hhi
  unfold Instr.sliceBounds
  cases hi with
  | none =>
    simp only [hiA, Option.some.injEq] at hhi
    subst hhi
    cases lo with
    | none => simp only [loA, Option.some.injEq] at hl; subst hl; simp
    | some y =>
      obtain ⟨k, e⟩ := hL y rfl
      simp [e, key _ _ _ _ _ h0 h1]
  | some x =>
    obtain ⟨k, e⟩ := hH x rfl
    have g1 : 0 ≤ hh := by omega
    have g2 : hh ≤ (cap : Int) := h2
    cases lo with
    | none => simp only [loA, Option.some.injEq] at hl; subst hl; simp [e, key _ _ _ _ _ g1 g2]
    | some y =>
      obtain ⟨k2, e2⟩ := hL y rfl
      have g3 : l ≤ ((hh.toNat : Nat) : Int) := by omega
      simp [e, e2, key _ _ _ _ _ g1 g2, key _ _ _ _ _ h0 g3]
theorem gives_slice_str {o : Oper} {t : TypeId} {x : Operand} {lo hi : Option Operand} {l hh : Int} {s : ByteArray} {st : List AV} {h : AHeap} (ho : o.op = .slice t x lo hi none) (ht : P.underlying t = some .string)
    (hx : evA E st x = .val (.string s)) (hl : loA E st lo = some l) (hhi : hiA E st s.size hi = some hh) (h0 : 0 ≤ l) (h1 : l ≤ hh) (h2 : hh ≤ s.size) : Same P E o (.val (.string (s.extract l.toNat hh.toNat))) st h := by
  refine fun μ w a f => ⟨.string (s.extract l.toNat hh.toNat), ?_, rfl⟩
  have e1 := ev_int f hx
  have hb := run_bounds (P := P) f (isS := false) hl hhi h0 h1 h2 w
  simp [execOp, ho, e1, Instr.sliceAt, run_underlying ht, Instr.slice, hb]
/-- What becomes of a capacity. -/
def capCut (k : Cap) (hi : Option Operand) : Cap := match k, hi with
  | .full, none => .full
  | _, _ => .unk
theorem gives_slice_ro {o : Oper} {t e : TypeId} {x : Operand} {lo hi : Option Operand} {l hh : Int} {k : Cap} {n : Nat} {cells : List AV} {st : List AV} {h : AHeap} (ho : o.op = .slice t x lo hi none) (ht : telem P t = some e) (htok : tok P e = true)
    (hx : evA E st x = .ro k n cells) (hl : loA E st lo = some l) (hhi : hiA E st n hi = some hh) (h0 : 0 ≤ l) (h1 : l ≤ hh) (h2 : hh ≤ n) :
    Same P E o (.ro .unk (hh.toNat - l.toNat) ((cells.drop (l.toNat * tsize P e)).take ((hh.toNat - l.toNat) * tsize P e))) st h := by
  intro μ w a f
  have hr := evA_sound f x
  rw [hx] at hr
  obtain ⟨ad, cap, vs, e1, hk, hrl, ho1, hm⟩ := hr
  have hb := run_bounds (P := P) f (isS := true) (cap := cap) hl hhi h0 h1 (by have := hk.1; omega) w
  have hcap : hh.toNat ≤ cap := by have := hk.1; omega
  refine ⟨.slice (if cap = l.toNat then ad else ad.map (·.add (l.toNat * tsize P e))) (hh.toNat - l.toNat) (cap - l.toNat), ?_, ?_⟩
  · simp [execOp, ho, e1, Instr.sliceAt, run_underlying (telem_spec ht), Instr.slice, hb, run_sizeOf htok]
  · refine ⟨_, _, (vs.drop (l.toNat * tsize P e)).take ((hh.toNat - l.toNat) * tsize P e), rfl, ⟨by omega, by have := hk.2.1; omega, fun h => by cases h⟩, relL_take (relL_drop hrl _) _, all_take (all_drop ho1 _) _, ?_⟩
    by_cases hc : cap = l.toNat
    · left
      have : hh.toNat - l.toNat = 0 := by omega
      simp [this]
    · rcases hm with rfl | ⟨ad', rfl, hst, hcell⟩
      · left; simp
      · right
        refine ⟨ad'.add (l.toNat * tsize P e), by rw [if_neg hc]; rfl, fun j hj => by rw [add_block, add_off, Nat.add_assoc]; exact hst (l.toNat * tsize P e + j) (by simp at hj; omega), fun j y hj => ?_⟩
        rw [add_add]
        rw [List.getElem?_take] at hj
        split at hj
        · rw [List.getElem?_drop] at hj; exact hcell _ y hj
        · cases hj
theorem gives_slice_sl0 {o : Oper} {t e : TypeId} {x : Operand} {hi : Option Operand} {hh : Int} {k : Cap} {id off n : Nat} {st : List AV} {h : AHeap} (ho : o.op = .slice t x none hi none) (ht : telem P t = some e) (htok : tok P e = true)
    (hx : evA E st x = .sl id off n k) (hlv : live h id = true) (hhi : hiA E st n hi = some hh) (h1 : 0 ≤ hh) (h2 : hh ≤ n) (hk : k ≠ .full) : Same P E o (.sl id off hh.toNat k) st h := by
  intro μ w a f
  have hr := evA_sound f x
  rw [hx] at hr
  rcases hr.2.2 (live_alive hlv) with ⟨b, cap, hmu, e1, hc, hw⟩ | ⟨hn, rfl, rfl, ad, e1⟩
  · have hb := run_bounds (P := P) f (isS := true) (cap := cap) (lo := none) (l := 0) rfl hhi (Int.le_refl _) h1 (by have := hc.1; omega) w
    refine ⟨.slice (some ⟨b, off, none⟩) hh.toNat cap, ?_, hr.1, rfl, fun _ => .inl ⟨b, cap, hmu, rfl, ⟨by have := hc.1; omega, hc.2.1, fun h => absurd h hk⟩, hw⟩⟩
    by_cases hz : cap = 0
    · subst hz
      simp only [Option.map_none] at hb
      simp [execOp, ho, e1, Instr.sliceAt, run_underlying (telem_spec ht), Instr.slice, hb, run_sizeOf htok]
    · simp only [Option.map_none] at hb
      simp [execOp, ho, e1, Instr.sliceAt, run_underlying (telem_spec ht), Instr.slice, hb, run_sizeOf htok, hz, Addr.add]
  · have hh0 : hh.toNat = 0 := by omega
    have hb := run_bounds (P := P) f (isS := true) (cap := 0) (lo := none) (l := 0) rfl hhi (Int.le_refl _) h1 (by omega) w
    rw [hh0] at hb ⊢
    refine ⟨.slice ad 0 0, ?_, hr.1, rfl, fun _ => .inr ⟨hn, rfl, rfl, ad, rfl⟩⟩
    simp only [Option.map_none] at hb
    simp [execOp, ho, e1, Instr.sliceAt, run_underlying (telem_spec ht), Instr.slice, hb, run_sizeOf htok]
theorem gives_slice_sl1 {o : Oper} {t e : TypeId} {x : Operand} {lo hi : Option Operand} {l hh : Int} {k : Cap} {id off n : Nat} {st : List AV} {h : AHeap} (ho : o.op = .slice t x lo hi none) (ht : telem P t = some e) (htok : tok P e = true)
    (hx : evA E st x = .sl id off n k) (hlv : live h id = true) (hl : loA E st lo = some l) (hhi : hiA E st n hi = some hh) (h0 : 0 ≤ l) (h1 : l < hh) (h2 : hh ≤ n) : Same P E o (.sl id (off + l.toNat * tsize P e) (hh.toNat - l.toNat) .unk) st h := by
  intro μ w a f
  have hr := evA_sound f x
  rw [hx] at hr
  rcases hr.2.2 (live_alive hlv) with ⟨b, cap, hmu, e1, hc, hw⟩ | ⟨hn, rfl, rfl, ad, e1⟩
  · have hb := run_bounds (P := P) f (isS := true) (cap := cap) hl hhi h0 (by omega) (by have := hc.1; omega) w
    have hz : ¬ cap = l.toNat := by have := hc.1; omega
    refine ⟨.slice (some ⟨b, off + l.toNat * tsize P e, none⟩) (hh.toNat - l.toNat) (cap - l.toNat), ?_, hr.1, rfl, fun _ => .inl ⟨b, _, hmu, rfl, ⟨by have := hc.1; omega, by have := hc.2.1; omega, fun h => by cases h⟩, fun s hs => by cases hs⟩⟩
    simp [execOp, ho, e1, Instr.sliceAt, run_underlying (telem_spec ht), Instr.slice, hb, run_sizeOf htok, hz, add_at]
  · omega

theorem gives_concat {o : Oper} {t yt : TypeId} {x y : Operand} {s r : ByteArray} {st : List AV} {h : AHeap} (ho : o.op = .binOp .add t x y yt) (hx : evA E st x = .val (.string s)) (hy : evA E st y = .val (.string r)) (hb : s.size + r.size ≤ 9223372036854775807) : Same P E o (.val (.string (s ++ r))) st h := by
  refine fun μ w a f => ⟨.string (s ++ r), ?_, rfl⟩
  have e1 := ev_int f hx
  have e2 := ev_int f hy
  have hc : ¬ (((s.size + r.size : Nat) : Int) > IntKind.i64.max) := by
    have : IntKind.i64.max = 9223372036854775807 := by decide
    omega
  have hg : (eqGuard .add t x y (.string s) (.string r)).run P w = .ok () w := rfl
  simp only [execOp, ho, e1, e2, Sem.run_bind, hg, Result.andThen_ok, binOp, Op.stringOp]
  rw [if_neg hc]
  rfl
theorem gives_rem {o : Oper} {t yt : TypeId} {x y : Operand} {k : IntKind} {p q : Int} {st : List AV} {h : AHeap} (ho : o.op = .binOp .rem t x y yt) (hx : evA E st x = .val (.int k p)) (hy : evA E st y = .val (.int k q)) (hb : q ≠ 0) : Same P E o (.val (.int k (p.tmod q))) st h := by
  refine fun μ w a f => ⟨.int k (p.tmod q), ?_, rfl⟩
  have e1 := ev_int f hx
  have e2 := ev_int f hy
  have hg : (eqGuard .rem t x y (.int k p) (.int k q)).run P w = .ok () w := rfl
  simp [execOp, ho, e1, e2, hg, binOp, Op.intDiv, hb]
theorem gives_quo {o : Oper} {t yt : TypeId} {x y : Operand} {k : IntKind} {p q : Int} {st : List AV} {h : AHeap} (ho : o.op = .binOp .quo t x y yt) (hx : evA E st x = .val (.int k p)) (hy : evA E st y = .val (.int k q)) (hb : q ≠ 0) : Same P E o (.val (.int k (k.wrap (p.tdiv q)))) st h := by
  refine fun μ w a f => ⟨.int k (k.wrap (p.tdiv q)), ?_, rfl⟩
  have e1 := ev_int f hx
  have e2 := ev_int f hy
  have hg : (eqGuard .quo t x y (.int k p) (.int k q)).run P w = .ok () w := rfl
  simp [execOp, ho, e1, e2, hg, binOp, Op.intDiv, hb]
theorem run_booleq {t : TypeId} (ht : P.underlying t = some .bool) (p q : Bool) (w : World) : (Op.equal t (.bool p) (.bool q)).run P w = .ok (p == q) w := by
  have key : ∀ d, (Op.equalIn (d + 1) t (.bool p) (.bool q)).run P w = .ok (p == q) w := by
    intro d
    unfold Op.equalIn
    simp only [Sem.run_bind, run_underlying ht, Result.andThen_ok, Sem.run_pure]
  exact key 9999
theorem gives_booleq {o : Oper} {t yt : TypeId} {x y : Operand} {p q : Bool} {st : List AV} {h : AHeap} (ho : o.op = .binOp .eql t x y yt) (ht : P.underlying t = some .bool) (hx : evA E st x = .val (.bool p)) (hy : evA E st y = .val (.bool q)) : Same P E o (.val (.bool (p == q))) st h := by
  refine fun μ w a f => ⟨.bool (p == q), ?_, rfl⟩
  have e1 := ev_int f hx
  have e2 := ev_int f hy
  have hg : (eqGuard .eql t x y (.bool p) (.bool q)).run P w = .ok () w := rfl
  simp only [execOp, ho, e1, e2, Sem.run_bind, hg, Result.andThen_ok, binOp, run_booleq ht, Sem.run_pure]
theorem gives_boolne {o : Oper} {t yt : TypeId} {x y : Operand} {p q : Bool} {st : List AV} {h : AHeap} (ho : o.op = .binOp .neq t x y yt) (ht : P.underlying t = some .bool) (hx : evA E st x = .val (.bool p)) (hy : evA E st y = .val (.bool q)) : Same P E o (.val (.bool (!(p == q)))) st h := by
  refine fun μ w a f => ⟨.bool (!(p == q)), ?_, rfl⟩
  have e1 := ev_int f hx
  have e2 := ev_int f hy
  have hg : (eqGuard .neq t x y (.bool p) (.bool q)).run P w = .ok () w := rfl
  simp only [execOp, ho, e1, e2, Sem.run_bind, hg, Result.andThen_ok, binOp, run_booleq ht, Sem.run_pure]

/-! the iterator of a string -/
theorem gives_range {o : Oper} {t : TypeId} {x : Operand} {s : ByteArray} {st : List AV} {h : AHeap} (ho : o.op = .range t x) (ht : P.underlying t = some .string) (hx : evA E st x = .val (.string s)) : Gives P E o (.ptr h.length 0) (.iter s 0 :: h) st h := by
  intro μ w a f
  have e1 := ev_int f hx
  have hn := Cx.new_iter (c := ⟨μ, h, w⟩) (s := s) (w := { w with heap := w.heap.push (.stringIter s 0) }) f.ok rfl rfl rfl rfl
  refine ⟨.value (.pointer (some ⟨w.heap.size, 0, none⟩)), _, _, _, ?_, .inl rfl, ptr_new, new_eq ▸ hn.1, new_eq ▸ hn.2⟩
  simp [execOp, ho, e1, Instr.range, run_underlying ht]
theorem iter_at {c : Cx} (ok : c.Ok) {i b : Nat} {s : ByteArray} {p : Nat} (hg : hget c.h i = some (.iter s p)) (hm : c.μ i = some b) : c.w.heap[b]? = some (.stringIter s p) := by
  obtain ⟨b', e, h⟩ := ok.blk i _ hg
  rw [hm] at e; cases e; exact h
theorem gives_next {o : Oper} {x : Operand} {id p : Nat} {s : ByteArray} {st : List AV} {h : AHeap} (ho : o.op = .next x true) (hx : evA E st x = .ptr id 0) (hg : hget h id = some (.iter s p)) (hp : p < s.size) :
    Gives P E o (.tup [.val (.bool true), .val (.int .i64 (p : Nat)), .val (.int .i32 (Utf8.decode s p).1)]) (hset h id (.iter s (p + (Utf8.decode s p).2))) st h := by
  intro μ w a f
  have hr := evA_sound f x
  rw [hx] at hr
  have ha : alive h id := ⟨_, hg, by simp⟩
  obtain ⟨b, hmu, e1⟩ := hr.2.2 ha
  have hb := iter_at f.ok hg hmu
  have hlt : b < w.heap.size := (Array.getElem?_eq_some_iff.1 hb).1
  have hW := Cx.wr_iter (c := ⟨μ, h, w⟩) (i := id) (p' := p + (Utf8.decode s p).2) (w := { w with heap := w.heap.setIfInBounds b (.stringIter s (p + (Utf8.decode s p).2)) }) f.ok hg hmu rfl rfl rfl (by simp) (fun j hj => by simp [Array.getElem?_setIfInBounds_ne (Ne.symm hj)]) (by simp [hlt])
  refine ⟨.value (.tuple #[.bool true, goInt p, .int .i32 (Utf8.decode s p).1]), _, _, μ, ?_, .inl rfl, ?_, hW.1, hW.2⟩
  · have hb' : w.heap[b] = .stringIter s p := by have := hb; rw [Array.getElem?_eq_getElem hlt] at this; exact Option.some.inj this
    have hgo : (getObj b).run P w = .ok (.stringIter s p) w := by simp [getObj, Sem.run, hb]
    have hso : (setObj b (.stringIter s (p + (Utf8.decode s p).2))).run P w = .ok () { w with heap := w.heap.setIfInBounds b (.stringIter s (p + (Utf8.decode s p).2)) } := by simp [setObj, Sem.run, hb]
    simp [execOp, ho, e1, Instr.next, hgo, hp, hso]
  · exact ⟨_, rfl, _, _, rfl, rfl, _, _, rfl, rfl, _, _, rfl, rfl, rfl⟩
theorem gives_next_end {o : Oper} {x : Operand} {id p : Nat} {s : ByteArray} {st : List AV} {h : AHeap} (ho : o.op = .next x true) (hx : evA E st x = .ptr id 0) (hg : hget h id = some (.iter s p)) (hp : ¬ p < s.size) :
    Same P E o (.tup [.val (.bool false)]) st h := by
  intro μ w a f
  have hr := evA_sound f x
  rw [hx] at hr
  have ha : alive h id := ⟨_, hg, by simp⟩
  obtain ⟨b, hmu, e1⟩ := hr.2.2 ha
  have hb := iter_at f.ok hg hmu
  have hgo : (getObj b).run P w = .ok (.stringIter s p) w := by
    have hb2 : w.heap[b]? = some (.stringIter s p) := hb
    simp [getObj, Sem.run, hb2]
  exact ⟨.tuple #[.bool false], by simp [execOp, ho, e1, Instr.next, hgo, hp], _, rfl, _, _, rfl, rfl, rfl⟩
end
end Go.Proofs.YtjhbobacbaikoaaGreatDoor
/- A region whose order is open: one order is enough, where what only looks does not see what the others do. -/
namespace Go.Proofs.YtjhbobacbaikoaaGreatDoor
open Go
set_option linter.unusedVariables false
set_option linter.unusedSimpArgs false

/-- Which operations only look. -/
def looker : Op → Bool
  | .move _ | .assign _ | .pick .. | .load .. | .nilCheck _ | .binOp .. | .unOp .. | .convert .. | .fieldAddr .. | .field .. | .extract .. | .build .. | .index .. | .indexAddr .. | .slice .. => true
  | .call { callee := .builtin .len, .. } | .call { callee := .builtin .min, .. } | .call { callee := .builtin .max, .. } => true
  | _ => false
def dirB (ops : Array Oper) (i : Nat) : List Nat := match ops[i]? with
  | some o => (o.after.toList.filter fun e => Region.binds .any e).map (·.on)
  | none => []
def rowsB (ops : Array Oper) : Nat → List (List Nat)
  | 0 => []
  | n + 1 => rowsB ops n ++ [((dirB ops n) ++ (dirB ops n).flatMap fun k => (rowsB ops n).getD k []).eraseDups]
def notSelect : Op → Bool
  | .select .. => false
  | _ => true
def lookB (ops : Array Oper) (i : Nat) : Bool := match ops[i]? with
  | some o => looker o.op
  | none => false
def pairB (ops : Array Oper) (rows : List (List Nat)) (x z : Nat) : Bool :=
  !(dirB ops x).contains z && x != z && (match ops[x]?, ops[z]? with
  | some ox, some oz => (bif looker ox.op then (rows.getD z []).contains x || ox.apart ops oz else (rows.getD z []).contains x) && (ox.dst == none || ox.dst != oz.dst)
  | _, _ => false)
def pairsB (ops : Array Oper) (rows : List (List Nat)) : List Nat → Bool
  | [] => true
  | x :: l => (dirB ops x).all (fun k => k != x && Nat.blt k ops.size) && l.all (pairB ops rows x) && pairsB ops rows l
def planB (ops : Array Oper) (l : List Nat) : Bool :=
  l.all (fun i => Nat.blt i ops.size) && l.length == ops.size && (List.range ops.size).all (fun i => l.contains i) && ops.all (fun o => notSelect o.op) && pairsB ops (rowsB ops ops.size) l

theorem rowsB_length (ops : Array Oper) : ∀ n, (rowsB ops n).length = n
  | 0 => rfl
  | n + 1 => by simp [rowsB, rowsB_length ops n]
theorem rowsB_sound {ops : Array Oper} {S : Nat → Prop} (hS : ∀ i, S i → ∀ k ∈ dirB ops i, S k) : ∀ n i, i < n → (∀ k ∈ dirB ops i, S k) → ∀ j ∈ (rowsB ops n).getD i [], S j
  | 0, i, hi, _, j, hj => by omega
  | n + 1, i, hi, hd, j, hj => by
    simp only [rowsB] at hj
    have hlen := rowsB_length ops n
    by_cases e : i = n
    · subst e
      rw [List.getD_eq_getElem?_getD, List.getElem?_append_right (by omega), hlen, Nat.sub_self] at hj
      simp only [List.getElem?_cons_zero, Option.getD_some] at hj
      rw [List.mem_eraseDups] at hj
      rcases List.mem_append.1 hj with h | h
      · exact hd j h
      · obtain ⟨k, hk, hj⟩ := List.mem_flatMap.1 h
        have hkS := hd k hk
        by_cases hkn : k < i
        · exact rowsB_sound hS i k hkn (hS k hkS) j hj
        · rw [List.getD_eq_getElem?_getD, List.getElem?_eq_none (by omega)] at hj
          simp at hj
    · rw [List.getD_eq_getElem?_getD, List.getElem?_append_left (by omega)] at hj
      exact rowsB_sound hS n i (by omega) hd j (by rw [List.getD_eq_getElem?_getD]; exact hj)

section
variable (P : Program) (E : Env) (n : Nat)
/-- In every state that looks the same to it, operation i gives v (and nothing else happens): W are the blocks that it reads. -/
def Looks (ops : Array Oper) (o : Oper) (v : AV) (W : List Nat) (st : List AV) (h : AHeap) : Prop :=
  ∀ st2 h2, (∀ t ∈ o.looksAt ops, st2[t]? = st[t]?) → (∀ id ∈ W, hget h2 id = hget h id) → ∀ μ w a, Fits E ⟨μ, h2, w⟩ st2 a →
    (wantA ops st2 o = some true ∧ ∃ u, (execOp a.eval o).run P w = .ok (.value u) w ∧ AV.rel ⟨μ, h2, w⟩ v u) ∨ (wantA ops st2 o = some false ∧ v = undefA)
/-- The operations in one order, with what must not be written behind a look. -/
def AD (ops : Array Oper) (Q : List AV → AHeap → Prop) : List Nat → List (Nat × Nat) → List AV → AHeap → Prop
  | [], _, st, h => ∃ st1, leL st st1 ∧ Q st1 h
  | i :: l, pend, st, h => ∃ o, ops[i]? = some o ∧
      ((lookB ops i = true ∧ ∃ v W, Looks P E ops o v W st h ∧ AD ops Q l (W.map (fun w => (i, w)) ++ pend) (putA st o.dst v) h) ∨
       (lookB ops i = false ∧ AOp P E n ops i (fun st' h' => ∃ r, st' = putA st o.dst r ∧ (∀ p ∈ pend, p.1 ∉ (rowsB ops ops.size).getD i [] → hget h' p.2 = hget h p.2) ∧ AD ops Q l pend (putA st o.dst r) h') st h))
end
section
variable {P : Program} {E : Env} {n : Nat}
theorem AD.mono {ops : Array Oper} {Q : List AV → AHeap → Prop} : ∀ {l : List Nat} {pend pend' : List (Nat × Nat)} {st : List AV} {h : AHeap}, (∀ p ∈ pend', p ∈ pend) → AD P E n ops Q l pend st h → AD P E n ops Q l pend' st h
  | [], _, _, _, _, _, d => d
  | i :: l, pend, pend', st, h, hp, d => by
    obtain ⟨o, ho, ⟨h0, v, W, h1, h2⟩ | ⟨h0, h1⟩⟩ := d
    · exact ⟨o, ho, .inl ⟨h0, v, W, h1, AD.mono (fun p hm => by
        rcases List.mem_append.1 hm with h | h
        · exact List.mem_append_left _ h
        · exact List.mem_append_right _ (hp p h)) h2⟩⟩
    · refine ⟨o, ho, .inr ⟨h0, fun Q' μ w a hn f => wpOp_mono (fun a' w' hc => hc.mono fun st' h' hq => ?_) (h1 Q' μ w a hn f)⟩⟩
      obtain ⟨r, e, hk, hd⟩ := hq
      exact ⟨r, e, fun p hm => hk p (hp p hm), AD.mono hp hd⟩

theorem relL_set_any {c : Cx} : ∀ {az : List AV} {us : List Value} {d : Nat} {u : Value}, AV.relL c az (us.set d u) → az[d]? = some .any ∨ us.length ≤ d → AV.relL c az us
  | az, [], d, u, h, _ => by simpa using h
  | [], v :: us, d, u, h, _ => by
    have : (v :: us).set d u = [] := h
    cases d <;> simp at this
  | a :: az, v :: us, 0, u, h, e => by
    obtain ⟨x, xs, he, h1, h2⟩ := h
    simp only [List.set_cons_zero, List.cons.injEq] at he
    obtain ⟨rfl, rfl⟩ := he
    rcases e with e | e
    · simp at e; subst e; exact ⟨v, us, rfl, trivial, h2⟩
    · simp at e
  | a :: az, v :: us, d + 1, u, h, e => by
    obtain ⟨x, xs, he, h1, h2⟩ := h
    simp only [List.set_cons_succ, List.cons.injEq] at he
    obtain ⟨rfl, rfl⟩ := he
    exact ⟨v, us, rfl, h1, relL_set_any h2 (by simpa using e)⟩

theorem putA_get_ne {st : List AV} {d : Option Tmp} {v : AV} {t : Nat} (h : d ≠ some t) : (putA st d v)[t]? = st[t]? := by
  cases d with
  | none => rfl
  | some d => simp only [putA]; rw [List.getElem?_set_ne (fun e => h (by rw [e]))]
theorem putA_comm {st : List AV} {d e : Option Tmp} (v u : AV) (h : d = none ∨ d ≠ e) : putA (putA st d v) e u = putA (putA st e u) d v := by
  cases d with
  | none => rfl
  | some d =>
    cases e with
    | none => rfl
    | some e =>
      have hne : d ≠ e := fun hh => h.elim (fun g => by cases g) (fun g => g (by rw [hh]))
      simp only [putA]
      exact List.set_comm _ _ hne
/-- A place that nobody knows takes what it held. -/
theorem Fits.unput {c : Cx} {st : List AV} {a : Act} {d : Option Tmp} {u : Value} (f : Fits E c st (a.put d u)) (h : ∀ t, d = some t → st[t]? = some .any) : Fits E c st a := by
  cases d with
  | none => exact f
  | some d => exact ⟨f.env, f.ok, relL_set_any (d := d) (u := u) (by have := f.tmps; simpa [Act.put] using this) (.inl (h d rfl)), f.defers⟩

theorem leL_set_any {v : AV} : ∀ {s : List AV} {d : Nat}, s[d]? = some .any → leL (s.set d v) s
  | [], d, h => by simp at h
  | b :: s, 0, h => by simp at h; subst h; exact leL_cons (AV.le_any _) (leL_refl _)
  | b :: s, d + 1, h => by simp only [List.set_cons_succ]; exact leL_cons (AV.le_refl _) (leL_set_any (by simpa using h))
theorem AD.pull {ops : Array Oper} {Q : List AV → AHeap → Prop} {Q' : Exit → Act → World → Prop} (hQ : ∀ c a w, ¬ Q' (.panic c) a w) (hsel : ∀ (i : Nat) (o : Oper), ops[i]? = some o → notSelect o.op = true) {i : Nat} {oi : Oper} (hi : ops[i]? = some oi) :
    ∀ (pre post : List Nat) (pend : List (Nat × Nat)) (st : List AV) (h : AHeap), AD P E n ops Q (pre ++ i :: post) pend st h →
    (∀ x ∈ pre, lookB ops x = true ∧ x ∉ (rowsB ops ops.size).getD i [] ∧ ∃ ox, ops[x]? = some ox ∧ ox.apart ops oi = true ∧ (∀ t, ox.dst = some t → st[t]? = some .any)) →
    (∀ x ∈ pre, ∀ ox, ops[x]? = some ox → ∀ y ∈ pre, y ≠ x → ∀ oy, ops[y]? = some oy → ox.dst = none ∨ ox.dst ≠ oy.dst) → pre.Nodup →
    ∀ (μ : Mu) (w : World) (a : Act), n ≤ h.length → Fits E ⟨μ, h, w⟩ st a →
      wpOp P ops Q' i (fun a2 w2 => ∃ r h2 μ2, Fits E ⟨μ2, h2, w2⟩ (putA st oi.dst r) a2 ∧ Cx.Ton n ⟨μ, h, w⟩ ⟨μ2, h2, w2⟩ ∧ AD P E n ops Q (pre ++ post) pend (putA st oi.dst r) h2 ∧
        ∀ p ∈ pend, p.1 ∉ (rowsB ops ops.size).getD i [] → hget h2 p.2 = hget h p.2) a w
  | [], post, pend, st, h, d, _, _, _, μ, w, a, hn, f => by
    obtain ⟨o, ho, ⟨h0, v, W, h1, h2⟩ | ⟨h0, h1⟩⟩ := d
    · rw [hi] at ho; cases ho
      have hL := h1 st h (fun _ _ => rfl) (fun _ _ => rfl) μ w a f
      rcases hL with ⟨hw, u, hrun, hrel⟩ | ⟨hw, rfl⟩
      · simp only [wpOp, hi, wantA_sound f hw, if_true, Oper.wp, hrun]
        exact .inl ⟨v, h, μ, f.putA oi.dst hrel, Cx.Ton.refl _ hn, AD.mono (fun p hp => List.mem_append_right _ hp) h2, fun _ _ _ => rfl⟩
      · simp only [wpOp, hi, wantA_sound f hw]
        exact ⟨undefA, h, μ, f.putA oi.dst (v := undefA) (u := undef) rfl, Cx.Ton.refl _ hn, AD.mono (fun p hp => List.mem_append_right _ hp) h2, fun _ _ _ => rfl⟩
    · rw [hi] at ho; cases ho
      refine wpOp_mono (fun a2 w2 hc => ?_) (h1 Q' μ w a hn f)
      obtain ⟨st', h', μ', ⟨r, rfl, hk, hd⟩, f', t⟩ := hc
      exact ⟨r, h', μ', f', t, hd, hk⟩
  | x :: pre, post, pend, st, h, d, hpre, hdst, hnd, μ, w, a, hn, f => by
    obtain ⟨ox, hox, ⟨h0, v, W, h1, h2⟩ | ⟨h0, _⟩⟩ := d
    rotate_left
    · have := (hpre x (by simp)).1; rw [this] at h0; cases h0
    obtain ⟨hlx, hxi, ox', hox', hap, hany⟩ := hpre x (by simp)
    rw [hox] at hox'; cases hox'
    obtain ⟨hap1, hap2, hap3⟩ := Oper.apart_spec hap
    have hL := h1 st h (fun _ _ => rfl) (fun _ _ => rfl) μ w a f
    obtain ⟨u, hrel⟩ : ∃ u, AV.rel ⟨μ, h, w⟩ v u := by
      rcases hL with ⟨hw, u, hrun, hrel⟩ | ⟨hw, rfl⟩
      · exact ⟨u, hrel⟩
      · exact ⟨undef, rfl⟩
    have ih := AD.pull hQ hsel hi pre post (W.map (fun w => (x, w)) ++ pend) (putA st ox.dst v) h h2 (fun y hy => by
        obtain ⟨g1, g2, oy, g3, g4, g5⟩ := hpre y (by simp [hy])
        refine ⟨g1, g2, oy, g3, g4, fun t ht => ?_⟩
        have hyx : y ≠ x := fun e => (List.nodup_cons.1 hnd).1 (e ▸ hy)
        rcases hdst x (by simp) ox hox y (by simp [hy]) hyx oy g3 with g | g
        · rw [g]; exact g5 t ht
        · rw [putA_get_ne (fun e => g (e.trans ht.symm))]; exact g5 t ht)
      (fun y hy oy hoy z hz hne oz hoz => hdst y (by simp [hy]) oy hoy z (by simp [hz]) hne oz hoz) (List.nodup_cons.1 hnd).2 μ w (a.put ox.dst u) hn (f.putA ox.dst hrel)
    have hsx : ∀ cs b, ox.op ≠ .select cs b := fun cs b e => by have := hsel x ox hox; rw [e] at this; cases this
    have hsi : ∀ cs b, oi.op ≠ .select cs b := fun cs b e => by have := hsel i oi hi; rw [e] at this; cases this
    have hy : ∃ u', YieldsIf P ops (fun _ => False) ox u' a ∧ AV.rel ⟨μ, h, w⟩ v u' ∧ u' = u := by
      rcases hL with ⟨hw, _⟩ | ⟨hw, rfl⟩
      · exact ⟨u, .inl ⟨wantA_sound f hw, fun _ hf => hf.elim⟩, hrel, rfl⟩
      · exact ⟨u, .inr ⟨wantA_sound f hw, hrel⟩, hrel, rfl⟩
    obtain ⟨u', hy, _, rfl⟩ := hy
    refine wpOp_mono (fun a2 w2 hc => ?_) (wpOp_putIf hi hap hsx hsi (fun c a w hq => absurd hq (hQ c _ w)) hy ih)
    obtain ⟨_, r, h', μ', f', t, hd, hk⟩ := hc
    have hcomm : putA (putA st ox.dst v) oi.dst r = putA (putA st oi.dst r) ox.dst v := by
      refine putA_comm v r ?_
      cases hd2 : ox.dst with
      | none => exact .inl rfl
      | some d => exact .inr fun e => hap2 d hd2 e.symm
    have hanyi : ∀ t, ox.dst = some t → (putA st oi.dst r)[t]? = some .any := fun t ht => by rw [putA_get_ne (fun e => hap2 t ht e)]; exact hany t ht
    refine ⟨r, h', μ', ?_, t, ?_, fun p hp => hk p (List.mem_append_right _ hp)⟩
    · -- the state without x's value
      have f2 : Fits E ⟨μ', h', w2⟩ (putA st oi.dst r) (a2.put ox.dst u') := by
        rw [hcomm] at f'
        cases hd2 : ox.dst with
        | none => rw [hd2] at f'; exact f'
        | some dx =>
          rw [hd2] at f'
          have l : leL (putA (putA st oi.dst r) (some dx) v) (putA st oi.dst r) := leL_set_any (hanyi dx hd2)
          exact f'.le l
      exact f2.unput hanyi
    · refine ⟨ox, hox, .inl ⟨h0, v, W, fun st2 h2' hs2 hW2 => h1 st2 h2' (fun t ht => ?_) (fun id hid => ?_), ?_⟩⟩
      · rw [hs2 t ht, putA_get_ne (fun e => hap3 t e ht)]
      · rw [hW2 id hid]
        exact hk (x, id) (List.mem_append_left _ (List.mem_map.2 ⟨id, hid, rfl⟩)) hxi
      · rw [← hcomm]; exact hd

theorem pairsB_sub {ops : Array Oper} {rows : List (List Nat)} : ∀ {pre post : List Nat} {i : Nat}, pairsB ops rows (pre ++ i :: post) = true → pairsB ops rows (pre ++ post) = true
  | [], post, i, h => by
    simp only [List.nil_append, pairsB, Bool.and_eq_true] at h
    exact h.2
  | x :: pre, post, i, h => by
    simp only [List.cons_append, pairsB, Bool.and_eq_true, List.all_append, List.all_cons] at h ⊢
    exact ⟨⟨h.1.1, h.1.2.1, h.1.2.2.2⟩, pairsB_sub h.2⟩
theorem pairsB_pre {ops : Array Oper} {rows : List (List Nat)} : ∀ {pre post : List Nat} {i : Nat}, pairsB ops rows (pre ++ i :: post) = true → ∀ x ∈ pre, pairB ops rows x i = true
  | [], post, i, h, x, hx => by simp at hx
  | y :: pre, post, i, h, x, hx => by
    simp only [List.cons_append, pairsB, Bool.and_eq_true, List.all_append, List.all_cons] at h
    rcases List.mem_cons.1 hx with rfl | hx
    · exact h.1.2.2.1
    · exact pairsB_pre h.2 x hx
theorem pairsB_post {ops : Array Oper} {rows : List (List Nat)} : ∀ {pre post : List Nat} {i : Nat}, pairsB ops rows (pre ++ i :: post) = true → ∀ z ∈ post, pairB ops rows i z = true
  | [], post, i, h, z, hz => by
    simp only [List.nil_append, pairsB, Bool.and_eq_true] at h
    exact List.all_eq_true.1 h.1.2 z hz
  | y :: pre, post, i, h, z, hz => by
    simp only [List.cons_append, pairsB, Bool.and_eq_true] at h
    exact pairsB_post h.2 z hz
theorem pairsB_two {ops : Array Oper} {rows : List (List Nat)} : ∀ {l : List Nat}, pairsB ops rows l = true → ∀ x ∈ l, ∀ y ∈ l, y ≠ x → pairB ops rows x y = true ∨ pairB ops rows y x = true
  | [], h, x, hx, _, _, _ => by simp at hx
  | z :: l, h, x, hx, y, hy, hne => by
    simp only [pairsB, Bool.and_eq_true] at h
    have hall := List.all_eq_true.1 h.1.2
    rcases List.mem_cons.1 hx with e1 | hx' <;> rcases List.mem_cons.1 hy with e2 | hy'
    · exact absurd (e2.trans e1.symm) hne
    · exact .inl (e1 ▸ hall y hy')
    · exact .inr (e2 ▸ hall x hx')
    · exact pairsB_two h.2 x hx' y hy' hne
theorem pairB_dst {ops : Array Oper} {rows : List (List Nat)} {x z : Nat} {ox oz : Oper} (h : pairB ops rows x z = true) (hx : ops[x]? = some ox) (hz : ops[z]? = some oz) : ox.dst = none ∨ ox.dst ≠ oz.dst := by
  simp only [pairB, hx, hz, Bool.and_eq_true, Bool.or_eq_true, beq_iff_eq, bne_iff_ne] at h
  exact h.2.2
theorem dirB_mem {ops : Array Oper} {i k : Nat} {o : Oper} (h : ops[i]? = some o) : k ∈ dirB ops i ↔ ∃ e ∈ o.after, Region.binds .any e = true ∧ e.on = k := by
  simp only [dirB, h, List.mem_map, List.mem_filter, Array.mem_toList_iff]
  constructor
  · rintro ⟨e, ⟨h1, h2⟩, h3⟩; exact ⟨e, h1, h2, h3⟩
  · rintro ⟨e, h1, h2, h3⟩; exact ⟨e, ⟨h1, h2⟩, h3⟩
theorem ready_spec {ops : Array Oper} {listed : Array Bool} {i : Nat} (h : i ∈ Region.ready .any ops listed) :
    i < ops.size ∧ listed.getD i true = false ∧ ∀ k ∈ dirB ops i, listed.getD k false = true := by
  unfold Region.ready at h
  simp only [List.mem_filter, List.mem_range, Bool.and_eq_true, Bool.not_eq_true'] at h
  obtain ⟨h1, h2, h3⟩ := h
  refine ⟨h1, h2, fun k hk => ?_⟩
  have ho : ops[i]? = some ops[i] := by simp [h1]
  rw [ho] at h3
  simp only [Option.map_some, Option.getD_some, Array.all_eq_true_iff_forall_mem, Bool.or_eq_true, Bool.not_eq_true'] at h3
  obtain ⟨e, he, hb, rfl⟩ := (dirB_mem ho).1 hk
  rcases h3 e he with g | g
  · rw [hb] at g; cases g
  · exact g
theorem ready_of {ops : Array Oper} {listed : Array Bool} {i : Nat} (h1 : i < ops.size) (h2 : listed.getD i true = false) (h3 : ∀ k ∈ dirB ops i, listed.getD k false = true) : i ∈ Region.ready .any ops listed := by
  unfold Region.ready
  simp only [List.mem_filter, List.mem_range, Bool.and_eq_true, Bool.not_eq_true']
  refine ⟨h1, h2, ?_⟩
  have ho : ops[i]? = some ops[i] := by simp [h1]
  rw [ho]
  simp only [Option.map_some, Option.getD_some, Array.all_eq_true_iff_forall_mem, Bool.or_eq_true, Bool.not_eq_true']
  intro e he
  cases hb : Region.binds .any e with
  | false => exact .inl rfl
  | true => exact .inr (h3 e.on ((dirB_mem ho).2 ⟨e, he, hb, rfl⟩))

theorem AD.any {ops : Array Oper} {Q : List AV → AHeap → Prop} {Q' : Exit → Act → World → Prop} (hQ : ∀ c a w, ¬ Q' (.panic c) a w) (hsel : ∀ (i : Nat) (o : Oper), ops[i]? = some o → notSelect o.op = true) :
    ∀ (fuel : Nat) (R : List Nat) (listed : Array Bool) (st : List AV) (h : AHeap), R.length ≤ fuel → R.Nodup → listed.size = ops.size → (∀ i, i ∈ R ↔ i < ops.size ∧ listed.getD i true = false) →
      (∀ i, i < ops.size → listed.getD i true = true → ∀ k ∈ dirB ops i, listed.getD k false = true) → pairsB ops (rowsB ops ops.size) R = true →
      (∀ x ∈ R, ∀ ox, ops[x]? = some ox → ∀ t, ox.dst = some t → st[t]? = some .any) → AD P E n ops Q R [] st h →
      ∀ (μ : Mu) (w : World) (a : Act), n ≤ h.length → Fits E ⟨μ, h, w⟩ st a → (∀ a' w', Come E n ⟨μ, h, w⟩ Q a' w' → Q' .normal a' w') → wpAny P .any ops Q' fuel listed a w := by
  have nil : ∀ (R : List Nat) (listed : Array Bool) (st : List AV) (h : AHeap), listed.size = ops.size → (∀ i, i ∈ R ↔ i < ops.size ∧ listed.getD i true = false) → pairsB ops (rowsB ops ops.size) R = true →
      AD P E n ops Q R [] st h → Region.ready .any ops listed = [] → ∀ (μ : Mu) (w : World) (a : Act), n ≤ h.length → Fits E ⟨μ, h, w⟩ st a → (∀ a' w', Come E n ⟨μ, h, w⟩ Q a' w' → Q' .normal a' w') → Q' .normal a w := by
    intro R listed st h hls hR hp d hr μ w a hn f hq
    cases R with
    | nil =>
      obtain ⟨st1, l, q⟩ := d
      exact hq a w (Come.here (c := ⟨μ, h, w⟩) hn (f.le l) q)
    | cons x R =>
      exfalso
      obtain ⟨h1, h2⟩ := (hR x).1 (by simp)
      have : x ∈ Region.ready .any ops listed := ready_of h1 h2 fun k hk => by
        simp only [pairsB, Bool.and_eq_true] at hp
        have hk1 := List.all_eq_true.1 hp.1.1 k hk
        simp only [Bool.and_eq_true, bne_iff_ne] at hk1
        have hks : k < ops.size := by have := Nat.le_of_ble_eq_true hk1.2; omega
        cases hl : listed.getD k true with
        | true =>
          have hkl : k < listed.size := by omega
          simp only [Array.getD, hkl, dif_pos] at hl ⊢
          exact hl
        | false =>
          have hkR := (hR k).2 ⟨hks, hl⟩
          rcases List.mem_cons.1 hkR with e | hkR
          · exact absurd e hk1.1
          · have := List.all_eq_true.1 hp.1.2 k hkR
            simp only [pairB, Bool.and_eq_true, Bool.not_eq_true'] at this
            have h5 : (dirB ops x).contains k = true := by simpa using hk
            rw [this.1.1] at h5; cases h5
      rw [hr] at this
      simp at this
  intro fuel
  induction fuel with
  | zero =>
    intro R listed st h hlen hnd hls hR hcl hp hany d μ w a hn f hq
    have hR0 : R = [] := List.eq_nil_of_length_eq_zero (by omega)
    have hready : Region.ready .any ops listed = [] := by
      apply List.eq_nil_iff_forall_not_mem.2
      intro i hi
      obtain ⟨h1, h2, _⟩ := ready_spec hi
      have := (hR i).2 ⟨h1, h2⟩
      rw [hR0] at this; simp at this
    exact ⟨hready, nil R listed st h hls hR hp d hready μ w a hn f hq⟩
  | succ fuel ih =>
    intro R listed st h hlen hnd hls hR hcl hp hany d μ w a hn f hq
    refine ⟨fun hready => nil R listed st h hls hR hp d hready μ w a hn f hq, fun i hi => ?_⟩
    obtain ⟨h1, h2, h3⟩ := ready_spec hi
    have hiR := (hR i).2 ⟨h1, h2⟩
    obtain ⟨pre, post, rfl⟩ := List.append_of_mem hiR
    have hoi : ops[i]? = some ops[i] := by simp [h1]
    have hset : ∀ j, (listed.setIfInBounds i true).getD j true = if j = i then true else listed.getD j true := by
      intro j
      rw [Array.getD_eq_getD_getElem?, Array.getD_eq_getD_getElem?]
      by_cases e : j = i
      · subst e; simp [hls, h1]
      · rw [Array.getElem?_setIfInBounds_ne (Ne.symm e), if_neg e]
    have hset' : ∀ j, (listed.setIfInBounds i true).getD j false = if j = i then true else listed.getD j false := by
      intro j
      rw [Array.getD_eq_getD_getElem?, Array.getD_eq_getD_getElem?]
      by_cases e : j = i
      · subst e; simp [hls, h1]
      · rw [Array.getElem?_setIfInBounds_ne (Ne.symm e), if_neg e]
    have htrue : ∀ j, j < ops.size → listed.getD j true = true → listed.getD j false = true := by
      intro j hj hl
      have hkl : j < listed.size := by omega
      simp only [Array.getD, hkl, dif_pos] at hl ⊢
      exact hl
    have hfalse : ∀ j, listed.getD j false = true → listed.getD j true = true := by
      intro j hl
      by_cases hkl : j < listed.size
      · simp only [Array.getD, hkl, dif_pos] at hl ⊢; exact hl
      · simp [Array.getD, hkl] at hl
    have hS : ∀ j, listed.getD j false = true → ∀ k ∈ dirB ops j, listed.getD k false = true := by
      intro j hj
      have hjs : j < ops.size := by
        by_cases hkl : j < listed.size
        · omega
        · simp [Array.getD, hkl] at hj
      exact hcl j hjs (hfalse j hj)
    have hrow : ∀ x ∈ pre, x ∉ (rowsB ops ops.size).getD i [] := by
      intro x hx hm
      have hxl := rowsB_sound (S := fun j => listed.getD j false = true) hS ops.size i h1 h3 x hm
      have hxR := ((hR x).1 (List.mem_append_left _ hx)).2
      rw [hfalse x hxl] at hxR; cases hxR
    have hmem : ∀ x ∈ pre ++ i :: post, x < ops.size := fun x hx => ((hR x).1 hx).1
    have hpull := AD.pull (E := E) (n := n) hQ hsel hoi pre post [] st h d (fun x hx => by
        have hxs := hmem x (List.mem_append_left _ hx)
        have hox : ops[x]? = some ops[x] := by simp [hxs]
        have hpb := pairsB_pre hp x hx
        have hpb' := hpb
        simp only [pairB, hox, hoi, Bool.and_eq_true] at hpb
        have hnc : ((rowsB ops ops.size).getD i []).contains x = false := by
          cases hc : ((rowsB ops ops.size).getD i []).contains x with
          | false => rfl
          | true => exact absurd (by simpa using hc) (hrow x hx)
        cases hl : looker (ops[x]).op with
        | false => rw [hl, hnc] at hpb; simp at hpb
        | true =>
          rw [hl, hnc] at hpb
          simp only [cond_true, Bool.false_or] at hpb
          exact ⟨by simp [lookB, hox, hl], hrow x hx, _, hox, hpb.2.1, fun t ht => hany x (List.mem_append_left _ hx) _ hox t ht⟩)
      (fun x hx ox hox y hy hne oy hoy => by
        rcases pairsB_two hp x (List.mem_append_left _ hx) y (List.mem_append_left _ hy) hne with g | g
        · exact pairB_dst g hox hoy
        · rcases pairB_dst g hoy hox with g | g
          · cases hd : ox.dst with
            | none => exact .inl rfl
            | some t => exact .inr (by rw [g]; simp)
          · exact .inr (Ne.symm g))
      (List.nodup_append.1 hnd).1 μ w a hn f
    refine wpOp_mono (fun a2 w2 hc => ?_) hpull
    obtain ⟨r, h', μ', f', t, hd, _⟩ := hc
    have hnd' : (pre ++ post).Nodup := (List.Sublist.append (List.Sublist.refl pre) (List.sublist_cons_self i post)).nodup hnd
    have hi_not : i ∉ pre ++ post := by
      intro hm
      have h5 := List.nodup_append.1 hnd
      rcases List.mem_append.1 hm with g | g
      · exact h5.2.2 i g i (by simp) rfl
      · exact (List.nodup_cons.1 h5.2.1).1 g
    refine ih (pre ++ post) (listed.setIfInBounds i true) _ h' (by simp at hlen ⊢; omega) hnd' (by simp [hls]) (fun j => ?_) (fun j hj hl k hk => ?_) (pairsB_sub hp) (fun x hx ox hox t' ht => ?_) hd μ' w2 a2 t.len f' fun a3 w3 hc3 => hq a3 w3 (hc3.trans t)
    · rw [hset]
      by_cases e : j = i
      · subst e; simp [hi_not]
      · rw [if_neg e, ← hR j]
        simp only [List.mem_append, List.mem_cons]
        constructor
        · rintro (g | g)
          · exact .inl g
          · exact .inr (.inr g)
        · rintro (g | g | g)
          · exact .inl g
          · exact absurd g e
          · exact .inr g
    · rw [hset']
      by_cases e : k = i
      · rw [if_pos e]
      · rw [if_neg e]
        by_cases e2 : j = i
        · subst e2; exact h3 k hk
        · rw [hset, if_neg e2] at hl
          exact hcl j hj hl k hk
    · have hxR : x ∈ pre ++ i :: post := by
        rcases List.mem_append.1 hx with g | g
        · exact List.mem_append_left _ g
        · exact List.mem_append_right _ (List.mem_cons_of_mem _ g)
      have hne : ops[i].dst ≠ some t' := by
        intro hdi
        rcases List.mem_append.1 hx with g | g
        · rcases pairB_dst (pairsB_pre hp x g) hox hoi with g2 | g2
          · rw [g2] at ht; cases ht
          · exact g2 (ht.trans hdi.symm)
        · rcases pairB_dst (pairsB_post hp x g) hoi hox with g2 | g2
          · rw [g2] at hdi; cases hdi
          · exact g2 (hdi.trans ht.symm)
      rw [putA_get_ne hne]
      exact hany x hxR ox hox t' ht

/-- Are the places that a region fills unknown? -/
def freshB (ops : Array Oper) (st : List AV) : Prop := ∀ (x : Nat) (ox : Oper), ops[x]? = some ox → ∀ t, ox.dst = some t → st[t]? = some .any
theorem AWP_draw (l : List Nat) {id : Nat} {ops : Array Oper} {Q : Exit → List AV → AHeap → Prop} {st : List AV} {h : AHeap} (hm : P.follows .mixedOrders = true) (hplan : planB ops l = true) (hfresh : freshB ops st)
    (d : AD P E n ops (Q .normal) l [] st h) : AWP P E n (.region id ops true) Q st h := by
  intro μ w a hn f
  simp only [planB, Bool.and_eq_true] at hplan
  obtain ⟨⟨⟨⟨hblt, hlen⟩, hall⟩, hns⟩, hp⟩ := hplan
  have hlen' : l.length = ops.size := by simpa using hlen
  have hsel : ∀ (i : Nat) (o : Oper), ops[i]? = some o → notSelect o.op = true := by
    intro i o hi
    exact Array.all_eq_true_iff_forall_mem.1 hns o (Array.mem_of_getElem? hi)
  have hcont : ∀ i, i < ops.size → i ∈ l := fun i hi => by
    have := List.all_eq_true.1 hall i (List.mem_range.2 hi)
    simpa using this
  have hnd : l.Nodup := by
    have : ∀ {l : List Nat}, pairsB ops (rowsB ops ops.size) l = true → l.Nodup := by
      intro l
      induction l with
      | nil => intro _; exact List.nodup_nil
      | cons x l ih =>
        intro hh
        simp only [pairsB, Bool.and_eq_true] at hh
        refine List.nodup_cons.2 ⟨fun hx => ?_, ih hh.2⟩
        have := List.all_eq_true.1 hh.1.2 x hx
        simp [pairB] at this
    exact this hp
  have hlt : ∀ i ∈ l, i < ops.size := by
    intro i hi
    have := List.all_eq_true.1 hblt i hi
    have := Nat.le_of_ble_eq_true this
    omega
  have hany := AD.any (E := E) (n := n) (Q := Q .normal) (Q' := fun e a' w' => (∀ c, e ≠ .panic c) ∧ Come E n ⟨μ, h, { w with drawn := w.drawn + 1 }⟩ (Q e) a' w') (fun c a w hq => hq.1 c rfl) hsel ops.size l (Array.replicate ops.size false) st h (by omega) hnd (by simp)
    (fun i => ⟨fun hi => ⟨hlt i hi, by simp [Array.getD, hlt i hi]⟩, fun hi => hcont i hi.1⟩) (fun i hi hl => by simp [Array.getD, hi] at hl) hp (fun x hx ox hox t ht => hfresh x ox hox t ht) d μ { w with drawn := w.drawn + 1 } a hn
    ⟨E.mono n _ _ (Cx.Ton.mk rfl rfl rfl (Nat.le_refl _) hn rfl (fun _ _ => rfl) (fun _ _ hb => ⟨hb, fun _ _ _ => rfl⟩) (fun _ _ ha => ⟨ha, rfl⟩) (fun _ _ _ _ _ cv _ _ hh => ⟨cv, hh, rfl⟩) (fun j ha b hb => .inl ⟨j, ha, hb⟩) : Cx.Ton n ⟨μ, h, w⟩ ⟨μ, h, { w with drawn := w.drawn + 1 }⟩) f.env, ?_, ?_, f.defers⟩ (fun a' w' hc => ⟨fun c e => (by cases e), hc⟩)
  · refine wp_mono (wp_region_any hm hany) fun e a' w' hq => ?_
    exact hq.2.trans (Cx.Ton.mk rfl rfl rfl (Nat.le_refl _) hn rfl (fun _ _ => rfl) (fun _ _ hb => ⟨hb, fun _ _ _ => rfl⟩) (fun _ _ ha => ⟨ha, rfl⟩) (fun _ _ _ _ _ cv _ _ hh => ⟨cv, hh, rfl⟩) (fun j ha b hb => .inl ⟨j, ha, hb⟩))
  · have t : Cx.To ⟨μ, h, w⟩ ⟨μ, h, { w with drawn := w.drawn + 1 }⟩ := Cx.Ton.mk rfl rfl rfl (Nat.le_refl _) (Nat.le_refl _) rfl (fun _ _ => rfl) (fun _ _ hb => ⟨hb, fun _ _ _ => rfl⟩) (fun _ _ ha => ⟨ha, rfl⟩) (fun _ _ _ _ _ cv _ _ hh => ⟨cv, hh, rfl⟩) (fun j ha b hb => .inl ⟨j, ha, hb⟩)
    exact ⟨fun i b hb => ABlk.rel_to t (fun k _ => rfl) (f.ok.blk i b hb), f.ok.inj, f.ok.nx, f.ok.xlt⟩
  · have t : Cx.To ⟨μ, h, w⟩ ⟨μ, h, { w with drawn := w.drawn + 1 }⟩ := Cx.Ton.mk rfl rfl rfl (Nat.le_refl _) (Nat.le_refl _) rfl (fun _ _ => rfl) (fun _ _ hb => ⟨hb, fun _ _ _ => rfl⟩) (fun _ _ ha => ⟨ha, rfl⟩) (fun _ _ _ _ _ cv _ _ hh => ⟨cv, hh, rfl⟩) (fun j ha b hb => .inl ⟨j, ha, hb⟩)
    exact AV.relL_to t _ _ f.tmps
end
end Go.Proofs.YtjhbobacbaikoaaGreatDoor
/- In a region whose order is open: what the looking operations give, run. -/
namespace Go.Proofs.YtjhbobacbaikoaaGreatDoor
open Go
set_option linter.unusedVariables false
set_option linter.unusedSimpArgs false

def idA : AV → List Nat
  | .ptr id _ => [id]
  | .sl id _ _ _ => [id]
  | _ => []
def readsA (E : Env) (op : Op) (st : List AV) : List Nat := match op with
  | .load _ x => idA (evA E st x)
  | .nilCheck x => idA (evA E st x)
  | .fieldAddr _ x _ => idA (evA E st x)
  | .call { callee := .builtin .len, args, .. } => match args[0]? with
    | some x => idA (evA E st x)
    | none => []
  | _ => []
section
variable {P : Program} {E : Env} {n : Nat}
theorem live_congr {h h2 : AHeap} {id : Nat} (e : hget h2 id = hget h id) : live h2 id = live h id := by simp [live, e]
theorem blk_congr {h h2 : AHeap} {id : Nat} (e : hget h2 id = hget h id) : blkCells h2 id = blkCells h id := by simp [blkCells, e]
theorem evA_congr {st st2 : List AV} {x : Operand} (h : ∀ t, x = .tmp t → st2[t]? = st[t]?) : evA E st2 x = evA E st x := by
  cases x with
  | tmp t => simp only [evA, List.getD_eq_getElem?_getD, h t rfl]
  | _ => rfl
theorem exV_congr {op : Op} {st st2 : List AV} {h h2 : AHeap} (hs : ∀ x ∈ op.operands, evA E st2 x = evA E st x) (hW : ∀ id ∈ readsA E op st, hget h2 id = hget h id) : exV P E op st2 h2 = exV P E op st h := by
  cases op <;> simp only [Op.operands] at hs <;> simp only [exV]
  case move x => rw [hs x (by simp)]
  case assign x => rw [hs x (by simp)]
  case pick c a b => rw [hs c (by simp), hs a (by simp), hs b (by simp)]
  case load t x =>
    rw [hs x (by simp)]
    simp only [readsA] at hW
    cases hx : evA E st x <;> simp only [hx, idA] at hW <;> simp only [exLoad]
    rw [blk_congr (hW _ (by simp))]
  case nilCheck x =>
    rw [hs x (by simp)]
    simp only [readsA] at hW
    cases hx : evA E st x <;> simp only [hx, idA] at hW <;> (try rfl)
    try dsimp only
    rw [live_congr (hW _ (by simp))]
  case binOp op t x y yt => rw [hs x (by simp), hs y (by simp)]
  case unOp op t x => cases op <;> simp only [exV] <;> rw [hs x (by simp)]
  case convert src dst x => rw [hs x (by simp)]
  case fieldAddr s x f =>
    rw [hs x (by simp)]
    simp only [readsA] at hW
    cases hx : evA E st x <;> simp only [hx, idA] at hW <;> (try rfl)
    try dsimp only
    rw [live_congr (hW _ (by simp))]
  case field s x f => rw [hs x (by simp)]
  case extract x k => rw [hs x (by simp)]
  case makeFunc fn first captured =>
    cases fn <;> simp only [exV]
    rename_i g
    have h1 : first.toList.map (evA E st2) = first.toList.map (evA E st) := List.map_congr_left fun x hx => hs x (by simp [Array.mem_toList_iff.1 hx])
    have h2 : captured.toList.map (evA E st2) = captured.toList.map (evA E st) := List.map_congr_left fun x hx => hs x (by simp [Array.mem_toList_iff.1 hx])
    rw [h1, h2]
  case build t parts =>
    have h1 : (parts.toList.map fun p => (p.1, evA E st2 p.2)) = parts.toList.map fun p => (p.1, evA E st p.2) := List.map_congr_left fun p hp => by
      rw [hs p.2 (by simp; exact ⟨p.1, by simpa using hp⟩)]
    rw [h1]
  case call c =>
    obtain ⟨callee, args, ats⟩ := c
    have hargs : ∀ x ∈ args, evA E st2 x = evA E st x := fun x hx => hs x (by simp [Call.operands, hx])
    have hmap : args.toList.map (evA E st2) = args.toList.map (evA E st) := List.map_congr_left fun x hx => hargs x (Array.mem_toList_iff.1 hx)
    cases callee <;> (try rfl)
    rename_i b
    cases b <;> (try rfl) <;> simp only [exV]
    case len =>
      cases h0 : ats[0]? with
      | none => rfl
      | some t =>
        cases h1 : args[0]? with
        | none => rfl
        | some x =>
          try dsimp only
          rw [hargs x (Array.mem_of_getElem? h1)]
          simp only [readsA, h1] at hW
          cases hx : evA E st x with
          | val v => cases P.underlying t with
            | none => rfl
            | some d => cases d <;> cases v <;> rfl
          | sl id off k c =>
            simp only [hx, idA] at hW
            cases P.underlying t with
            | none => rfl
            | some d => cases d <;> first | rfl | (dsimp only; rw [live_congr (hW id (by simp))])
          | _ => cases P.underlying t with
            | none => rfl
            | some d => cases d <;> rfl
    case min => rw [hmap]
    case max => rw [hmap]

theorem wantA_congr {ops : Array Oper} {o : Oper} {st st2 : List AV} (h : ∀ t ∈ o.looksAt ops, st2[t]? = st[t]?) : wantA ops st2 o = wantA ops st o := by
  unfold wantA
  cases hg : o.guard with
  | none => rfl
  | some p =>
    obtain ⟨j, b⟩ := p
    try dsimp only
    cases hj : ops[j]? with
    | none => rfl
    | some g =>
      simp only []
      cases hd : g.dst with
      | none => rfl
      | some d =>
        simp only []
        rw [h d (by simp [Oper.looksAt, hg, hj, hd])]
theorem looks_operands {ops : Array Oper} {o : Oper} {st st2 : List AV} (h : ∀ t ∈ o.looksAt ops, st2[t]? = st[t]?) : ∀ x ∈ o.op.operands, evA E st2 x = evA E st x :=
  fun x hx => evA_congr fun t e => h t (List.mem_append_left _ (List.mem_filterMap.2 ⟨x, by simpa using hx, by rw [e]⟩))
theorem Looks_exV {ops : Array Oper} {o : Oper} {v : AV} {st : List AV} {h : AHeap} (hw : wantA ops st o = some true) (hx : exV P E o.op st h = some v) : Looks P E ops o v (readsA E o.op st) st h := by
  intro st2 h2 hs hW μ w a f
  have hx2 : exV P E o.op st2 h2 = some v := (exV_congr (looks_operands hs) hW).trans hx
  left
  exact ⟨(wantA_congr hs).trans hw, exV_sound hx2 μ w a f⟩
theorem Looks_same {ops : Array Oper} {o : Oper} {v : AV} {st : List AV} {h : AHeap} {W : List Nat} (hw : wantA ops st o = some true)
    (hs : ∀ st2 h2, (∀ x ∈ o.op.operands, evA E st2 x = evA E st x) → (∀ id ∈ W, hget h2 id = hget h id) → Same P E o v st2 h2) : Looks P E ops o v W st h :=
  fun st2 h2 h3 hW μ w a f => .inl ⟨(wantA_congr h3).trans hw, hs st2 h2 (looks_operands h3) hW μ w a f⟩
theorem Looks_off {ops : Array Oper} {o : Oper} {st : List AV} {h : AHeap} (hw : wantA ops st o = some false) : Looks P E ops o undefA [] st h :=
  fun st2 h2 hs hW μ w a f => .inr ⟨(wantA_congr hs).trans hw, rfl⟩

/-- The next looks, run. -/
def runD (P : Program) (E : Env) (ops : Array Oper) : List Nat → List (Nat × Nat) → List AV → AHeap → Option (List (Nat × Nat) × List AV)
  | [], pend, st, h => some (pend, st)
  | i :: l, pend, st, h => match ops[i]? with
    | none => none
    | some o => bif looker o.op then (match wantA ops st o with
      | some b => bif b then (match exV P E o.op st h with
        | some v => runD P E ops l ((readsA E o.op st).map (fun w => (i, w)) ++ pend) (putA st o.dst v) h
        | none => none) else runD P E ops l pend (putA st o.dst undefA) h
      | none => none) else none
theorem AD_runD {ops : Array Oper} {Q : List AV → AHeap → Prop} {l2 : List Nat} {h : AHeap} : ∀ {l1 : List Nat} {pend pend' : List (Nat × Nat)} {st st' : List AV},
    runD P E ops l1 pend st h = some (pend', st') → AD P E n ops Q l2 pend' st' h → AD P E n ops Q (l1 ++ l2) pend st h
  | [], pend, pend', st, st', e, d => by simp only [runD, Option.some.injEq, Prod.mk.injEq] at e; obtain ⟨rfl, rfl⟩ := e; exact d
  | i :: l, pend, pend', st, st', e, d => by
    simp only [runD] at e
    cases hi : ops[i]? with
    | none => simp [hi] at e
    | some o =>
      simp only [hi] at e
      cases hl : looker o.op with
      | false => simp [hl] at e
      | true =>
        simp only [hl, cond_true] at e
        cases hw : wantA ops st o with
        | none => simp [hw] at e
        | some b =>
          simp only [hw] at e
          have hlb : lookB ops i = true := by simp [lookB, hi, hl]
          cases b with
          | true =>
            simp only [cond_true] at e
            cases hx : exV P E o.op st h with
            | none => simp [hx] at e
            | some v =>
              simp only [hx] at e
              exact ⟨o, hi, .inl ⟨hlb, v, _, Looks_exV hw hx, AD_runD e d⟩⟩
          | false =>
            simp only [cond_false] at e
            exact ⟨o, hi, .inl ⟨hlb, undefA, [], Looks_off hw, AD_runD e d⟩⟩
/-- The next m operations look. -/
theorem AD_run (m : Nat) {ops : Array Oper} {Q : List AV → AHeap → Prop} {l : List Nat} {h : AHeap} {pend pend' : List (Nat × Nat)} {st st' : List AV}
    (e : runD P E ops (l.take m) pend st h = some (pend', st')) (d : AD P E n ops Q (l.drop m) pend' st' h) : AD P E n ops Q l pend st h := by
  have := AD_runD e d
  rwa [List.take_append_drop] at this
/-- The next operation looks by a rule of its own. -/
theorem AD_look {ops : Array Oper} {Q : List AV → AHeap → Prop} {i : Nat} {l : List Nat} {o : Oper} {v : AV} (W : List Nat) {h : AHeap} {pend : List (Nat × Nat)} {st : List AV}
    (hi : ops[i]? = some o) (hl : looker o.op = true) (hw : wantA ops st o = some true) (hs : ∀ st2 h2, (∀ x ∈ o.op.operands, evA E st2 x = evA E st x) → (∀ id ∈ W, hget h2 id = hget h id) → Same P E o v st2 h2)
    (d : AD P E n ops Q l (W.map (fun w => (i, w)) ++ pend) (putA st o.dst v) h) : AD P E n ops Q (i :: l) pend st h :=
  ⟨o, hi, .inl ⟨by simp [lookB, hi, hl], v, W, Looks_same hw hs, d⟩⟩
/-- What pending looks ask of a heap. -/
def pendOk (rows : List Nat) (h h' : AHeap) : List (Nat × Nat) → Prop
  | [] => True
  | p :: l => (bif rows.contains p.1 then True else hget h' p.2 = hget h p.2) ∧ pendOk rows h h' l
theorem pendOk_spec {rows : List Nat} {h h' : AHeap} : ∀ {l : List (Nat × Nat)}, pendOk rows h h' l → ∀ p ∈ l, p.1 ∉ rows → hget h' p.2 = hget h p.2
  | [], _, p, hp, _ => by simp at hp
  | q :: l, hk, p, hp, hn => by
    rcases List.mem_cons.1 hp with rfl | hp
    · have : rows.contains p.1 = false := by
        cases hc : rows.contains p.1 with
        | false => rfl
        | true => exact absurd (by simpa using hc) hn
      have h1 := hk.1
      rw [this] at h1
      exact h1
    · exact pendOk_spec hk.2 p hp hn
/-- The next operation calls. -/
theorem AD_call {ops : Array Oper} {Q : List AV → AHeap → Prop} {i : Nat} {l : List Nat} {o : Oper} {x : Operand} {args : Array Operand} {ats : Array TypeId} {g : FuncId} {first captured : List AV} {pend : List (Nat × Nat)} {st : List AV} {h : AHeap}
    (hi : ops[i]? = some o) (hl : looker o.op = false) (hw : wantA ops st o = some true) (ho : o.op = .call { callee := .value x, args := args, argTypes := ats }) (hx : calleeA (evA E st x) = some (g, first, captured)) (hg : goes P g = true)
    (k : Sp P E g (first ++ args.toList.map (evA E st) ++ captured) h (fun r h' => pendOk ((rowsB ops ops.size).getD i []) h h' pend ∧ AD P E n ops Q l pend (putA st o.dst r) h')) : AD P E n ops Q (i :: l) pend st h :=
  ⟨o, hi, .inr ⟨by simp [lookB, hi, hl], AOp_call hi hw ho hx hg (k.mono fun r h' hq => ⟨r, rfl, pendOk_spec hq.1, hq.2⟩)⟩⟩
/-- The next operation, a call, is not wanted. -/
theorem AD_off {ops : Array Oper} {Q : List AV → AHeap → Prop} {i : Nat} {l : List Nat} {o : Oper} {pend : List (Nat × Nat)} {st : List AV} {h : AHeap}
    (hi : ops[i]? = some o) (hl : looker o.op = false) (hw : wantA ops st o = some false) (d : AD P E n ops Q l pend (putA st o.dst undefA) h) : AD P E n ops Q (i :: l) pend st h :=
  ⟨o, hi, .inr ⟨by simp [lookB, hi, hl], AOp_off hi hw ⟨undefA, rfl, fun _ _ _ => rfl, d⟩⟩⟩
/-- The next operation makes or writes memory. -/
theorem AD_gives {ops : Array Oper} {Q : List AV → AHeap → Prop} {i : Nat} {l : List Nat} {o : Oper} {v : AV} {pend : List (Nat × Nat)} {st : List AV} {h h' : AHeap}
    (hi : ops[i]? = some o) (hl : looker o.op = false) (hw : wantA ops st o = some true) (g : Gives P E o v h' st h) (hp : pendOk ((rowsB ops ops.size).getD i []) h h' pend)
    (d : AD P E n ops Q l pend (putA st o.dst v) h') : AD P E n ops Q (i :: l) pend st h :=
  ⟨o, hi, .inr ⟨by simp [lookB, hi, hl], AOp_gives hi hw g ⟨v, rfl, pendOk_spec hp, d⟩⟩⟩
theorem AD_done {ops : Array Oper} {Q : List AV → AHeap → Prop} {pend : List (Nat × Nat)} {st : List AV} {h : AHeap} (q : Q st h) : AD P E n ops Q [] pend st h := ⟨st, leL_refl st, q⟩
theorem AD_forget (ks : List Nat) {ops : Array Oper} {Q : List AV → AHeap → Prop} {pend : List (Nat × Nat)} {st : List AV} {h : AHeap} (q : Q (forget ks st) h) : AD P E n ops Q [] pend st h := ⟨_, leL_forget ks st, q⟩
theorem AOps_forget (ks : List Nat) {ops : Array Oper} {Q : List AV → AHeap → Prop} {st : List AV} {h : AHeap} (q : Q (forget ks st) h) : AOps P E n ops Q [] st h := ⟨_, leL_forget ks st, q⟩
end
end Go.Proofs.YtjhbobacbaikoaaGreatDoor
/- A contract that is proved over the blocks it names alone holds over every heap that has them. -/
namespace Go.Proofs.YtjhbobacbaikoaaGreatDoor
open Go
set_option linter.unusedVariables false
set_option linter.unusedSimpArgs false

mutual
/-- A value that names no block of the abstract heap is read alike wherever the same blocks lie still. -/
theorem rel_free {c d : Cx} (hs : ∀ b k, c.still b k → d.still b k ∧ sameCell c.w d.w b k) : ∀ (a : AV) (u : Value), a.sc 0 → AV.rel c a u → AV.rel d a u
  | .val v, u, _, h => h
  | .ro k n cells, u, hc, h => by
    obtain ⟨a, cap, vs, e, hk, hl, ho, hm⟩ := h
    refine ⟨a, cap, vs, e, hk, relL_free hs cells vs hc hl, ho, ?_⟩
    rcases hm with hm | ⟨ad, ha, hst, hce⟩
    · exact .inl hm
    · exact .inr ⟨ad, ha, (st_to hs hst).1, fun j x hj => ((st_to hs hst).2 j (lt_of_get hj)).trans (hce j x hj)⟩
  | .sl id off len k, u, hc, h => absurd hc (Nat.not_lt_zero _)
  | .ptr id off, u, hc, h => absurd hc (Nat.not_lt_zero _)
  | .rop cells, u, hc, h => by
    obtain ⟨ad, vs, e, hl, ho, hst, hce⟩ := h
    refine ⟨ad, vs, e, relL_free hs cells vs hc hl, ho, hst.imp_right fun x => (st_to hs x).1, fun j x hj => ?_⟩
    rcases hst with hst | hst
    · subst hst; simp at hj
    · exact ((st_to hs hst).2 j (lt_of_get hj)).trans (hce j x hj)
  | .agg cells, u, hc, h => by obtain ⟨vs, e, hl, ho⟩ := h; exact ⟨vs, e, relL_free hs cells _ hc hl, ho⟩
  | .tup cs, u, hc, h => by obtain ⟨vs, e, hl⟩ := h; exact ⟨vs, e, relL_free hs cs _ hc hl⟩
  | .fn f a b, u, hc, h => by obtain ⟨fs, cs, e, h1, h2⟩ := h; exact ⟨fs, cs, e, relL_free hs a _ hc.1 h1, relL_free hs b _ hc.2 h2⟩
  | .any, u, _, h => trivial
theorem relL_free {c d : Cx} (hs : ∀ b k, c.still b k → d.still b k ∧ sameCell c.w d.w b k) : ∀ (az : List AV) (us : List Value), scL 0 az → AV.relL c az us → AV.relL d az us
  | [], us, _, h => h
  | a :: az, us, hc, h => by
    obtain ⟨x, xs, e, h1, h2⟩ := h
    exact ⟨x, xs, e, rel_free hs a x hc.1 h1, relL_free hs az xs hc.2 h2⟩
end

def ABlk.free : ABlk → Prop
  | .cells _ cs => scL 0 cs
  | .row _ cs => scL 0 cs
  | .iter _ _ => True
  | .dead => False
theorem blk_free {c d : Cx} (hs : ∀ b k, c.still b k → d.still b k ∧ sameCell c.w d.w b k) {m m' : Option Nat} (hm : m' = m) (hb : ∀ b, m = some b → d.w.heap[b]? = c.w.heap[b]?) :
    ∀ (a : ABlk), a.free → a.rel c m → a.rel d m' := by
  subst hm
  intro a hf h
  cases a with
  | cells t cs =>
    rcases h with ⟨b, cv, vs, rest, e, h1, h2, h3, h4⟩ | h
    · exact .inl ⟨b, cv, vs, rest, e, (hb b e).trans h1, h2, relL_free hs cs vs hf h3, h4⟩
    · exact .inr h
  | row t cs =>
    rcases h with ⟨b, cv, vs, rest, e, h1, h2, h3, h4⟩ | h
    · exact .inl ⟨b, cv, vs, rest, e, (hb b e).trans h1, h2, relL_free hs cs vs hf h3, h4⟩
    · exact .inr h
  | iter s p => obtain ⟨b, e, h1⟩ := h; exact ⟨b, e, (hb b e).trans h1⟩
  | dead => trivial

/-- A pointer to block i of the contract's heap is one to block ρ i. -/
def AV.mv (ρ : Nat → Nat) : AV → AV
  | .ptr id off => .ptr (ρ id) off
  | a => a
def AV.mvOk (n : Nat) : AV → Prop
  | .ptr id _ => id < n
  | a => a.sc 0

theorem Sp_frame {P : Program} {E : Env} {f : FuncId} (ρ : Nat → Nat) {args : List AV} {h0 h : AHeap} {Q : AV → AHeap → Prop} {Q' : AV → AHeap → Prop}
    (hb : ∀ i b, hget h0 i = some b → b.free ∧ hget h (ρ i) = some b) (hinj : ∀ i j, i < h0.length → j < h0.length → ρ i = ρ j → i = j)
    (hargs : ∀ a ∈ args, a.mvOk h0.length)
    (s : Sp P E f args h0 Q)
    (hQ : ∀ r k, Q r k → r.sc 0 ∧ k.length = h0.length ∧ (∀ i b, hget k i = some b → b.free) ∧ ∃ h', Q' r h' ∧ h'.length = h.length ∧
      (∀ i, i < h0.length → hget h' (ρ i) = hget k i) ∧ (∀ j, (∀ i, i < h0.length → ρ i ≠ j) → hget h' j = hget h j)) :
    Sp P E f (args.map (AV.mv ρ)) h Q' := by
  intro μ w ca he hok hr
  have hal : ∀ i, i < h0.length → alive h (ρ i) ∧ alive h0 i ∧ ∃ b, hget h0 i = some b ∧ b.free ∧ hget h (ρ i) = some b := by
    intro i hi
    obtain ⟨b, hb1⟩ := hget_some hi
    obtain ⟨h1, h2⟩ := hb i b hb1
    have hd : b ≠ .dead := by rintro rfl; exact h1
    exact ⟨⟨b, h2, hd⟩, ⟨b, hb1, hd⟩, b, hb1, h1, h2⟩
  let x0 : Nat → Nat → Prop := fun b k => μ.x b k ∨ ∃ j y, hget h j = some y ∧ y ≠ .dead ∧ (∀ i, i < h0.length → ρ i ≠ j) ∧ μ j = some b ∧ ¬ k < y.lim
  let c : Cx := ⟨μ, h, w⟩
  let c0 : Cx := ⟨⟨fun i => μ (ρ i), x0⟩, h0, w⟩
  have hst : ∀ b k, c.still b k ↔ c0.still b k := by
    intro b k
    constructor
    · rintro ⟨h1, h2, h3⟩
      refine ⟨h1, fun i y hi hy e => ?_, ?_⟩
      · obtain ⟨_, hb2⟩ := hb i y hi
        exact h2 (ρ i) y hb2 hy e
      · rintro (hx | ⟨j, y, hj, hy, _, e, hn⟩)
        · exact h3 hx
        · exact hn (h2 j y hj hy e)
    · rintro ⟨h1, h2, h3⟩
      refine ⟨h1, fun j y hj hy e => ?_, fun hx => h3 (.inl hx)⟩
      by_cases hjr : ∀ i, i < h0.length → ρ i ≠ j
      · exact Classical.byContradiction fun hn => h3 (.inr ⟨j, y, hj, hy, hjr, e, hn⟩)
      · have ⟨i, hi⟩ := Classical.not_forall.1 hjr
        obtain ⟨hil, hie⟩ := Classical.not_imp.1 hi
        have hie : ρ i = j := Classical.not_not.1 hie
        subst hie
        obtain ⟨b1, hb1⟩ := hget_some hil
        obtain ⟨_, hb2⟩ := hb i b1 hb1
        have e1 : y = b1 := by have hj' : hget h (ρ i) = some y := hj; rw [hb2] at hj'; cases hj'; rfl
        subst e1
        exact h2 i y hb1 hy e
  have hfwd : ∀ b k, c.still b k → c0.still b k ∧ sameCell c.w c0.w b k := fun b k hb => ⟨(hst b k).1 hb, fun _ _ _ => rfl⟩
  have ok0 : c0.Ok := by
    refine ⟨fun i b hg => ?_, fun i j b hi hj e1 e2 => ?_, fun i b hi e k => ?_, fun b k hx => ?_⟩
    · obtain ⟨h1, h2⟩ := hb i b hg
      exact blk_free hfwd rfl (fun _ _ => rfl) b h1 (hok.blk (ρ i) b h2)
    · exact hinj i j hi.lt hj.lt (hok.inj (ρ i) (ρ j) b (hal i hi.lt).1 (hal j hj.lt).1 e1 e2)
    · rintro (hx | ⟨j, y, hj, hy, hjr, e', _⟩)
      · exact hok.nx (ρ i) b (hal i hi.lt).1 e k hx
      · exact hjr i hi.lt (hok.inj (ρ i) j b (hal i hi.lt).1 ⟨y, hj, hy⟩ e e')
    · rcases hx with hx | ⟨j, y, hj, hy, _, e, _⟩
      · exact hok.xlt b k hx
      · exact hok.lt ⟨y, hj, hy⟩ e
  have hargs' : ∀ (az : List AV) (us : List Value), (∀ a ∈ az, a.mvOk h0.length) → AV.relL c (az.map (AV.mv ρ)) us → AV.relL c0 az us := by
    intro az
    induction az with
    | nil => intro us _ h; exact h
    | cons a az ih =>
      intro us hm hr
      obtain ⟨x, xs, e, h1, h2⟩ := hr
      refine ⟨x, xs, e, ?_, ih xs (fun b hb => hm b (by simp [hb])) h2⟩
      have ha := hm a (by simp)
      cases a with
      | ptr id off =>
        have hid : id < h0.length := ha
        obtain ⟨_, h3, h4⟩ := h1
        exact ⟨hid, h3, fun _ => h4 (hal id hid).1⟩
      | val v => exact h1
      | ro k n cells => exact rel_free hfwd _ _ ha h1
      | sl id off len k => exact absurd ha (Nat.not_lt_zero _)
      | rop cells => exact rel_free hfwd _ _ ha h1
      | agg cells => exact rel_free hfwd _ _ ha h1
      | tup vs => exact rel_free hfwd _ _ ha h1
      | fn f a b => exact rel_free hfwd _ _ ha h1
      | any => trivial
  refine (s c0.μ w ca (E.kept c c0 hfwd he) ok0 (hargs' args _ hargs hr)).mono fun e w' hq => ?_
  obtain ⟨r, k, μ', u, he', hQr, ok', hrel, hto⟩ := hq
  obtain ⟨hrs, hkl, hkf, h', hQ', hl', hin, hoff⟩ := hQ r k hQr
  let c0' : Cx := ⟨μ', k, w'⟩
  let c' : Cx := ⟨μ, h', w'⟩
  have hto : Cx.To c0 c0' := hto
  have hkal : ∀ i, i < h0.length → alive k i := fun i hi => by
    obtain ⟨b, hb1⟩ := hget_some (h := k) (i := i) (by omega)
    exact ⟨b, hb1, by rintro rfl; exact hkf i _ hb1⟩
  have hmu : ∀ i, i < h0.length → μ' i = μ (ρ i) := fun i hi => (hto.old i hi (hkal i hi)).2
  have hal' : ∀ j, alive h' j → alive h j ∧ ((∃ i, i < h0.length ∧ ρ i = j) ∨ ((∀ i, i < h0.length → ρ i ≠ j) ∧ hget h' j = hget h j)) := by
    intro j hj
    by_cases hjr : ∀ i, i < h0.length → ρ i ≠ j
    · have he := hoff j hjr
      obtain ⟨b, hb1, hb2⟩ := hj
      exact ⟨⟨b, by rw [← he]; exact hb1, hb2⟩, .inr ⟨hjr, he⟩⟩
    · have ⟨i, hi⟩ := Classical.not_forall.1 hjr
      obtain ⟨hil, hie⟩ := Classical.not_imp.1 hi
      have hie : ρ i = j := Classical.not_not.1 hie
      exact ⟨hie ▸ (hal i hil).1, .inl ⟨i, hil, hie⟩⟩
  have hkeep : ∀ b, b < w.heap.size → (∀ i, i < h0.length → μ (ρ i) ≠ some b) → w'.heap[b]? = w.heap[b]? :=
    fun b hb hn => hto.keep b ⟨hb, fun i hi => hn i hi.lt⟩
  have hout0 : ∀ j b, alive h j → (∀ i, i < h0.length → ρ i ≠ j) → μ j = some b → ∀ i, i < h0.length → μ (ρ i) ≠ some b :=
    fun j b hj hjr e i hi e' => hjr i hi (hok.inj (ρ i) j b (hal i hi).1 hj e' e)
  have hkb : ∀ i y, i < h0.length → hget h' (ρ i) = some y → hget k i = some y := fun i y hi hy => by rw [← hin i hi]; exact hy
  have hback : ∀ b q, c0'.still b q → c'.still b q ∧ sameCell c0'.w c'.w b q := by
    rintro b q ⟨h1, h2, h3⟩
    have hx : μ'.x = x0 := hto.x
    refine ⟨⟨h1, fun j y hj hy e => ?_, fun hx2 => h3 (by show μ'.x b q; rw [hx]; exact .inl hx2)⟩, fun _ _ _ => rfl⟩
    obtain ⟨ha, hcase⟩ := hal' j ⟨y, hj, hy⟩
    rcases hcase with ⟨i, hi, rfl⟩ | ⟨hjr, hje⟩
    · exact h2 i y (hkb i y hi hj) hy (by have : μ' i = some b := by rw [hmu i hi]; exact e
                                          exact this)
    · refine Classical.byContradiction fun hn => h3 ?_
      show μ'.x b q
      rw [hx]
      exact .inr ⟨j, y, by rw [← hje]; exact hj, hy, hjr, e, hn⟩
  have hst' : ∀ b q, c.still b q → c'.still b q ∧ sameCell c.w c'.w b q := by
    intro b q hb
    obtain ⟨s1, s2⟩ := hto.stay b q ((hst b q).1 hb)
    exact ⟨(hback b q s1).1, s2⟩
  have hcell : ∀ i, i < h0.length → ∀ b, μ (ρ i) = some b → ∀ cv t fr, w'.heap[b]? = some (.cells cv t fr) → ∃ cv', w.heap[b]? = some (.cells cv' t fr) ∧ cv'.size = cv.size :=
    fun i hi b e cv t fr hc => hto.row i hi (hkal i hi) b e cv t fr hc
  have hto' : Cx.To c c' := by
    refine ⟨hto.os, hto.tape, hto.output, hto.size, Nat.le_of_eq hl'.symm, rfl, fun b hb => hkeep b hb.1 fun i hi => hb.2 (ρ i) (hal i hi).1, hst', fun j hj ha => ⟨(hal' j ha).1, rfl⟩,
      fun j hj ha b e cv t fr hc => ?_, fun j ha b e => .inl ⟨j, (hal' j ha).1, e⟩⟩
    obtain ⟨ha1, hcase⟩ := hal' j ha
    rcases hcase with ⟨i, hi, rfl⟩ | ⟨hjr, _⟩
    · exact hcell i hi b e cv t fr hc
    · exact ⟨cv, by rw [← hkeep b (hok.lt ha1 e) (hout0 j b ha1 hjr e)]; exact hc, rfl⟩
  refine ⟨r, h', μ, u, he', hQ', ⟨fun j b hg => ?_, fun i j b hi hj e1 e2 => hok.inj i j b (hal' i hi).1 (hal' j hj).1 e1 e2, fun i b hi e => hok.nx i b (hal' i hi).1 e,
    fun b q hx => Nat.lt_of_lt_of_le (hok.xlt b q hx) hto.size⟩, rel_free hback r u hrs hrel, hto'⟩
  by_cases hjr : ∀ i, i < h0.length → ρ i ≠ j
  · have he := hoff j hjr
    have hg' : hget h j = some b := by rw [← he]; exact hg
    by_cases hd : b = .dead
    · subst hd; trivial
    · have ha : alive h j := ⟨b, hg', hd⟩
      exact ABlk.rel_to hto' (fun l hl => hkeep l (hok.lt ha hl) (hout0 j l ha hjr hl)) (hok.blk j b hg')
  · have ⟨i, hi⟩ := Classical.not_forall.1 hjr
    obtain ⟨hil, hie⟩ := Classical.not_imp.1 hi
    have hie : ρ i = j := Classical.not_not.1 hie
    subst hie
    have hgk : hget k i = some b := by rw [← hin i hil]; exact hg
    exact blk_free hback (hmu i hil).symm (fun _ _ => rfl) b (hkf i b hgk) (ok'.blk i b hgk)

def isA (r : AV) (h : AHeap) : AV → AHeap → Prop := fun r' h' => r' = r ∧ h' = h
section
variable {P : Program} {E : Env} {f : FuncId} {args : List AV} {r : AV} {h : AHeap}
theorem mv_self : ∀ {az : List AV}, scL 0 az → az.map (AV.mv id) = az
  | [], _ => rfl
  | a :: az, h => by
    rw [List.map_cons, mv_self h.2]
    cases a <;> rfl
/-- A contract without blocks. -/
theorem Sp_at {P : Program} {E : Env} {f : FuncId} {args : List AV} {r : AV} (s : Sp P E f args [] (isA r [])) (ha : scL 0 args) (hr : r.sc 0) (h : AHeap) : Sp P E f args h (isA r h) := by
  have k := Sp_frame (Q' := isA r h) (h := h) id (fun i b e => by simp [hget] at e) (fun i j hi => by simp at hi)
    (fun a ha' => by
      have : ∀ {az : List AV}, scL 0 az → ∀ a ∈ az, a.sc 0 := fun {az} => by
        induction az with
        | nil => intro _ a h; simp at h
        | cons b bs ih => intro h a hm; rcases List.mem_cons.1 hm with rfl | hm; exact h.1; exact ih h.2 a hm
      have h0 := this ha a ha'
      cases a <;> first | exact h0 | exact absurd h0 (Nat.not_lt_zero _)) s
    (fun r' k hk => by obtain ⟨rfl, rfl⟩ := hk; exact ⟨hr, rfl, fun i b e => by simp [hget] at e, h, ⟨rfl, rfl⟩, rfl, fun i hi => by simp at hi, fun _ _ => rfl⟩)
  rwa [mv_self ha] at k
def mvL (n : Nat) : List AV → Prop
  | [] => True
  | a :: l => a.mvOk n ∧ mvL n l
theorem mvL_mem {n : Nat} : ∀ {l : List AV}, mvL n l → ∀ a ∈ l, a.mvOk n
  | [], _, a, h => by simp at h
  | b :: l, hl, a, h => by
    rcases List.mem_cons.1 h with rfl | h
    · exact hl.1
    · exact mvL_mem hl.2 a h
/-- A contract over one block, to which arguments may point. -/
theorem Sp_at1 {b b' : ABlk} {args' : List AV} (s : Sp P E f args [b] (isA r [b'])) (hb : b.free) (hb' : b'.free) (ha : mvL 1 args) (hr : r.sc 0) {h : AHeap} {i : Nat} (hi : hget h i = some b) (e : args.map (AV.mv fun _ => i) = args') :
    Sp P E f args' h (isA r (hset h i b')) := by
  subst e
  have hlt := hget_lt hi
  exact Sp_frame (Q' := isA r (hset h i b')) (h0 := [b]) (h := h) (fun _ => i)
    (fun j x e => by
      have : j < 1 := hget_lt e
      obtain rfl : j = 0 := by omega
      simp [hget] at e; subst e; exact ⟨hb, hi⟩)
    (fun j k hj hk _ => by simp at hj hk; omega)
    (mvL_mem ha) s
    (fun r' k hk => by
      obtain ⟨rfl, rfl⟩ := hk
      refine ⟨hr, rfl, fun j x e => ?_, _, ⟨rfl, rfl⟩, by simp, fun j hj => ?_, fun j hj => ?_⟩
      · have : j < 1 := hget_lt e
        obtain rfl : j = 0 := by omega
        simp [hget] at e; subst e; exact hb'
      · simp at hj; subst hj; rw [hget_hset_same _ hlt]; simp [hget]
      · exact hget_hset_ne _ fun e => hj 0 (by simp) e.symm)
end
end Go.Proofs.YtjhbobacbaikoaaGreatDoor
/- The steps of a walk in the form in which a printed proof uses them. -/
namespace Go.Proofs.YtjhbobacbaikoaaGreatDoor
open Go
set_option linter.unusedVariables false
set_option linter.unusedSimpArgs false

def iA (x : Int) : AV := .val (.int .i64 x)
def iK (k : IntKind) (x : Int) : AV := .val (.int k x)
def bA (b : Bool) : AV := .val (.bool b)
def sA (s : ByteArray) : AV := .val (.string s)
def w64 (x : Int) : Int := IntKind.i64.wrap x
def lI {α : Type} (xs : List α) : Int := (xs.length : Nat)
def szI (s : ByteArray) : Int := (s.size : Nat)
theorem sc_ptr {n id off : Nat} (h : Nat.blt id n = true) : AV.sc n (.ptr id off) := by simpa [AV.sc] using h
def seq' (a b : ByteArray) : Bool := a.toList == b.toList
def slt' (a b : ByteArray) : Bool := Op.bytesLess a.toList b.toList
def sle' (a b : ByteArray) : Bool := Op.bytesLess a.toList b.toList || a.toList == b.toList

/-- An element at a place that a program asks for. -/
def rdO {α : Type} (xs : List α) (j : Int) : Option α := bif decide (0 ≤ j) then xs[j.toNat]? else none
theorem rdO_spec {α : Type} {xs : List α} {j : Int} {v : α} (h : rdO xs j = some v) : 0 ≤ j ∧ j < xs.length ∧ xs[j.toNat]? = some v := by
  unfold rdO at h
  by_cases hj : 0 ≤ j
  · simp only [hj, decide_true, cond_true] at h
    have := (List.getElem?_eq_some_iff.1 h).1
    exact ⟨hj, by omega, h⟩
  · simp [hj] at h
def rdS (s : ByteArray) (j : Int) : Option Int := bif decide (0 ≤ j) && decide (j < s.size) then some (btA s j) else none
theorem rdS_spec {s : ByteArray} {j : Int} {v : Int} (h : rdS s j = some v) : 0 ≤ j ∧ j < s.size ∧ v = btA s j := by
  unfold rdS at h
  by_cases hj : 0 ≤ j <;> by_cases hk : j < s.size <;> simp [hj, hk] at h
  exact ⟨hj, hk, h.symm⟩
def cutS (s : ByteArray) (l h : Int) : Option ByteArray := bif decide (0 ≤ l) && decide (l ≤ h) && decide (h ≤ s.size) then some (s.extract l.toNat h.toNat) else none
theorem cutS_spec {s r : ByteArray} {l h : Int} (e : cutS s l h = some r) : 0 ≤ l ∧ l ≤ h ∧ h ≤ s.size ∧ r = s.extract l.toNat h.toNat := by
  unfold cutS at e
  by_cases h1 : 0 ≤ l <;> by_cases h2 : l ≤ h <;> by_cases h3 : h ≤ s.size <;> simp [h1, h2, h3] at e
  exact ⟨h1, h2, h3, e.symm⟩
def cutL {α : Type} (xs : List α) (l h : Int) : Option (List α) := bif decide (0 ≤ l) && decide (l ≤ h) && decide (h ≤ xs.length) then some ((xs.take h.toNat).drop l.toNat) else none
theorem cutL_spec {α : Type} {xs r : List α} {l h : Int} (e : cutL xs l h = some r) : 0 ≤ l ∧ l ≤ h ∧ h ≤ xs.length ∧ r = (xs.take h.toNat).drop l.toNat := by
  unfold cutL at e
  by_cases h1 : 0 ≤ l <;> by_cases h2 : l ≤ h <;> by_cases h3 : h ≤ xs.length <;> simp [h1, h2, h3] at e
  exact ⟨h1, h2, h3, e.symm⟩
def remO (a b : Int) : Option Int := bif b == 0 then none else some (a.tmod b)
def quoO (k : IntKind) (a b : Int) : Option Int := bif b == 0 then none else some (k.wrap (a.tdiv b))
def catO (a b : ByteArray) : Option ByteArray := bif decide (a.size + b.size ≤ 9223372036854775807) then some (a ++ b) else none

theorem cond_t {β : Type} {b : Bool} {x y : Option β} {r : β} (h : (bif b then x else y) = some r) (e : b = true) : x = some r := by subst e; exact h
theorem cond_f {β : Type} {b : Bool} {x y : Option β} {r : β} (h : (bif b then x else y) = some r) (e : b = false) : y = some r := by subst e; exact h
theorem bind_some {α β : Type} {o : Option α} {f : α → Option β} {r : β} (h : o.bind f = some r) : ∃ v, o = some v ∧ f v = some r := by
  cases o with
  | none => cases h
  | some v => exact ⟨v, rfl, h⟩
theorem not_none {β : Type} {r : β} {p : Prop} (h : (none : Option β) = some r) : p := by cases h

mutual
theorem sc_mono {n m : Nat} (h : n ≤ m) : ∀ (a : AV), a.sc n → a.sc m
  | .val v, _ => trivial
  | .ro k n cells, hs => scL_mono h cells hs
  | .sl id off len k, hs => Nat.lt_of_lt_of_le hs h
  | .ptr id off, hs => Nat.lt_of_lt_of_le hs h
  | .rop cells, hs => scL_mono h cells hs
  | .agg cells, hs => scL_mono h cells hs
  | .tup vs, hs => scL_mono h vs hs
  | .fn f a b, hs => ⟨scL_mono h a hs.1, scL_mono h b hs.2⟩
  | .any, _ => trivial
theorem scL_mono {n m : Nat} (h : n ≤ m) : ∀ (az : List AV), scL n az → scL m az
  | [], _ => trivial
  | a :: az, hs => ⟨sc_mono h a hs.1, scL_mono h az hs.2⟩
end

section
variable (P : Program) (E : Env)
/-- What an operation that calls a function of the program calls. -/
def callB (ops : Array Oper) (i : Nat) (st : List AV) : Option (FuncId × List AV × Option Tmp) := match ops[i]? with
  | some o => match wantA ops st o, o.op with
    | some true, .call { callee := .value x, args, argTypes } => match calleeA (evA E st x) with
      | some (g, first, captured) => bif goes P g then some (g, first ++ args.toList.map (evA E st) ++ captured, o.dst) else none
      | none => none
    | _, _ => none
  | none => none
/-- What an operation that asks for an element asks for. -/
def idxB (ops : Array Oper) (i : Nat) (st : List AV) : Option (Nat × List AV × Int × Nat × Option Tmp) := match ops[i]? with
  | some o => match wantA ops st o, o.op with
    | some true, .indexAddr t x ix => match telem P t with
      | some e => bif tok P e then (match evA E st x, evA E st ix with
        | .ro _ n cells, .val (.int _ j) => some (n, cells, j, tsize P e, o.dst)
        | _, _ => none) else none
      | none => none
    | _, _ => none
  | none => none
def sidxB (ops : Array Oper) (i : Nat) (st : List AV) : Option (ByteArray × Int × Option Tmp) := match ops[i]? with
  | some o => match wantA ops st o, o.op with
    | some true, .index t x ix => match P.underlying t, evA E st x, evA E st ix with
      | some .string, .val (.string s), .val (.int _ j) => some (s, j, o.dst)
      | _, _, _ => none
    | _, _ => none
  | none => none
def scutB (ops : Array Oper) (i : Nat) (st : List AV) : Option (ByteArray × Int × Int × Option Tmp) := match ops[i]? with
  | some o => match wantA ops st o, o.op with
    | some true, .slice t x lo hi none => match P.underlying t, evA E st x with
      | some .string, .val (.string s) => match loA E st lo, hiA E st s.size hi with
        | some l, some h => some (s, l, h, o.dst)
        | _, _ => none
      | _, _ => none
    | _, _ => none
  | none => none
def lcutB (ops : Array Oper) (i : Nat) (st : List AV) : Option (Nat × List AV × Int × Int × Nat × Option Tmp) := match ops[i]? with
  | some o => match wantA ops st o, o.op with
    | some true, .slice t x lo hi none => match telem P t with
      | some e => bif tok P e then (match evA E st x with
        | .ro _ n cells => match loA E st lo, hiA E st n hi with
          | some l, some h => some (n, cells, l, h, tsize P e, o.dst)
          | _, _ => none
        | _ => none) else none
      | none => none
    | _, _ => none
  | none => none
def binB (ops : Array Oper) (i : Nat) (st : List AV) : Option (BinOp × Value × Value × Option Tmp) := match ops[i]? with
  | some o => match wantA ops st o, o.op with
    | some true, .binOp op t x y _ => match evA E st x, evA E st y with
      | .val a, .val b => some (op, a, b, o.dst)
      | _, _ => none
    | _, _ => none
  | none => none
def rngB (ops : Array Oper) (i : Nat) (st : List AV) : Option (ByteArray × Option Tmp) := match ops[i]? with
  | some o => match wantA ops st o, o.op with
    | some true, .range t x => match P.underlying t, evA E st x with
      | some .string, .val (.string s) => some (s, o.dst)
      | _, _ => none
    | _, _ => none
  | none => none
def nxtB (ops : Array Oper) (i : Nat) (st : List AV) (h : AHeap) : Option (Nat × ByteArray × Nat × Option Tmp) := match ops[i]? with
  | some o => match wantA ops st o, o.op with
    | some true, .next x true => match evA E st x with
      | .ptr id 0 => match hget h id with
        | some (.iter s p) => some (id, s, p, o.dst)
        | _ => none
      | _ => none
    | _, _ => none
  | none => none
end
section
variable {P : Program} {E : Env} {n : Nat} {ops : Array Oper} {Q : List AV → AHeap → Prop} {l : List Nat} {i : Nat} {st : List AV} {h : AHeap} {d : Option Tmp}
theorem AOps_callB {g : FuncId} {al : List AV} (hc : callB P E ops i st = some (g, al, d)) (k : Sp P E g al h (fun r h' => AOps P E n ops Q l (putA st d r) h')) : AOps P E n ops Q (i :: l) st h := by
  unfold callB at hc
  cases hi : ops[i]? with
  | none => simp [hi] at hc
  | some o =>
    simp only [hi] at hc
    split at hc
    · rename_i x args ats hw ho
      cases hx : calleeA (evA E st x) with
      | none => simp [hx] at hc
      | some p =>
        obtain ⟨g', first, captured⟩ := p
        simp only [hx] at hc
        cases hg : goes P g' with
        | false => simp [hg] at hc
        | true =>
          simp only [hg, cond_true, Option.some.injEq, Prod.mk.injEq] at hc
          obtain ⟨rfl, rfl, rfl⟩ := hc
          exact AOps_call hi hw ho hx hg k
    · cases hc
/-- A call of what has a contract without blocks. -/
theorem AOps_callp {g : FuncId} {al : List AV} {r : AV} (hc : callB P E ops i st = some (g, al, d)) (s : Sp P E g al [] (isA r [])) (ha : scL 0 al) (hr : r.sc 0) (k : AOps P E n ops Q l (putA st d r) h) : AOps P E n ops Q (i :: l) st h :=
  AOps_callB hc ((Sp_at s ha hr h).mono fun r' h' e => by obtain ⟨rfl, rfl⟩ := e; exact k)
/-- A call over one block. -/
theorem AOps_call1 {g : FuncId} {al : List AV} (al' : List AV) {r : AV} {j : Nat} {b b' : ABlk} (hc : callB P E ops i st = some (g, al', d)) (hj : hget h j = some b) (s : Sp P E g al [b] (isA r [b'])) (hb : b.free) (hb' : b'.free) (ha : mvL 1 al) (hr : r.sc 0)
    (hal : al.map (AV.mv fun _ => j) = al') {h' : AHeap} (he : hset h j b' = h') (k : AOps P E n ops Q l (putA st d r) h') : AOps P E n ops Q (i :: l) st h :=
  AOps_callB hc ((Sp_at1 s hb hb' ha hr hj hal).mono fun r' h2 e => by obtain ⟨rfl, rfl⟩ := e; rw [he]; exact k)
theorem flatMap_drop {α : Type} {c : α → List AV} {sz : Nat} (hsz : ∀ x, (c x).length = sz) : ∀ {xs : List α} {j : Nat} {v : α}, xs[j]? = some v → ∃ tl, (xs.flatMap c).drop (j * sz) = c v ++ tl
  | [], j, v, e => by simp at e
  | x :: xs, 0, v, e => by simp at e; subst e; exact ⟨xs.flatMap c, by simp⟩
  | x :: xs, j + 1, v, e => by
    simp at e
    obtain ⟨tl, h⟩ := flatMap_drop hsz e
    refine ⟨tl, ?_⟩
    rw [List.flatMap_cons, Nat.succ_mul, Nat.add_comm, ← hsz x, ← List.drop_drop, List.drop_left]
    rw [hsz x]
    exact h
theorem AOps_index {α : Type} {c : α → List AV} {xs : List α} {cells : List AV} {j : Int} {sz m : Nat} {v : α} (hop : idxB P E ops i st = some (m, cells, j, sz, d)) (hm : m = xs.length) (hcl : cells = xs.flatMap c) (hsz : ∀ x, (c x).length = sz) (hp : 0 < sz)
    (hv : rdO xs j = some v) (k : ∀ tl, AOps P E n ops Q l (putA st d (.rop (c v ++ tl))) h) : AOps P E n ops Q (i :: l) st h := by
  obtain ⟨h0, h1, h2⟩ := rdO_spec hv
  subst hcl hm
  unfold idxB at hop
  cases hi : ops[i]? with
  | none => simp [hi] at hop
  | some o =>
    simp only [hi] at hop
    split at hop
    · rename_i t x ix hw ho
      cases ht : telem P t with
      | none => simp [ht] at hop
      | some e =>
        simp only [ht] at hop
        cases hk : tok P e with
        | false => simp [hk] at hop
        | true =>
          simp only [hk, cond_true] at hop
          split at hop
          · rename_i kk n' cells ik j' hx hix
            simp only [Option.some.injEq, Prod.mk.injEq] at hop
            obtain ⟨rfl, rfl, rfl, rfl, rfl⟩ := hop
            obtain ⟨tl, he⟩ := flatMap_drop hsz h2
            refine AOps_step hi hw (Same.gives (gives_index_ro ho ht hk hx hix h0 h1 ?_)) ?_
            · intro hn
              have hl := congrArg List.length he
              rw [hn] at hl
              simp [hsz] at hl
              omega
            · rw [he]; exact k tl
          · cases hop
    · cases hop
theorem AOps_sindex {s : ByteArray} {j v : Int} (hop : sidxB P E ops i st = some (s, j, d)) (hv : rdS s j = some v) (k : AOps P E n ops Q l (putA st d (iK .u8 v)) h) : AOps P E n ops Q (i :: l) st h := by
  obtain ⟨h0, h1, rfl⟩ := rdS_spec hv
  unfold sidxB at hop
  cases hi : ops[i]? with
  | none => simp [hi] at hop
  | some o =>
    simp only [hi] at hop
    split at hop
    · rename_i t x ix hw ho
      split at hop
      · rename_i s' ik j' ht hx hix
        simp only [Option.some.injEq, Prod.mk.injEq] at hop
        obtain ⟨rfl, rfl, rfl⟩ := hop
        exact AOps_step hi hw (Same.gives (gives_index_str ho ht hx hix h0 h1)) k
      · cases hop
    · cases hop
theorem AOps_scut {s r : ByteArray} {a b : Int} (hop : scutB P E ops i st = some (s, a, b, d)) (hv : cutS s a b = some r) (k : AOps P E n ops Q l (putA st d (sA r)) h) : AOps P E n ops Q (i :: l) st h := by
  obtain ⟨h0, h1, h2, rfl⟩ := cutS_spec hv
  unfold scutB at hop
  cases hi : ops[i]? with
  | none => simp [hi] at hop
  | some o =>
    simp only [hi] at hop
    split at hop
    · rename_i t x lo hhi hw ho
      split at hop
      · rename_i s' ht hx
        split at hop
        · rename_i l1 h1' hl hh
          simp only [Option.some.injEq, Prod.mk.injEq] at hop
          obtain ⟨rfl, rfl, rfl, rfl⟩ := hop
          exact AOps_step hi hw (Same.gives (gives_slice_str ho ht hx hl hh h0 h1 h2)) k
        · cases hop
      · cases hop
    · cases hop
theorem AOps_rem {kk : IntKind} {a b v : Int} (hop : binB E ops i st = some (.rem, .int kk a, .int kk b, d)) (hv : remO a b = some v) (k : AOps P E n ops Q l (putA st d (iK kk v)) h) : AOps P E n ops Q (i :: l) st h := by
  unfold remO at hv
  cases hb : (b == 0) with
  | true => simp [hb] at hv
  | false =>
    simp [hb] at hv; subst hv
    unfold binB at hop
    cases hi : ops[i]? with
    | none => simp [hi] at hop
    | some o =>
      simp only [hi] at hop
      split at hop
      · rename_i op t x y yt hw ho
        split at hop
        · rename_i a' b' hx hy
          simp only [Option.some.injEq, Prod.mk.injEq] at hop
          obtain ⟨rfl, rfl, rfl, rfl⟩ := hop
          exact AOps_step hi hw (Same.gives (gives_rem ho hx hy (by simpa using hb))) k
        · cases hop
      · cases hop
theorem AOps_quo {kk : IntKind} {a b v : Int} (hop : binB E ops i st = some (.quo, .int kk a, .int kk b, d)) (hv : quoO kk a b = some v) (k : AOps P E n ops Q l (putA st d (iK kk v)) h) : AOps P E n ops Q (i :: l) st h := by
  unfold quoO at hv
  cases hb : (b == 0) with
  | true => simp [hb] at hv
  | false =>
    simp [hb] at hv; subst hv
    unfold binB at hop
    cases hi : ops[i]? with
    | none => simp [hi] at hop
    | some o =>
      simp only [hi] at hop
      split at hop
      · rename_i op t x y yt hw ho
        split at hop
        · rename_i a' b' hx hy
          simp only [Option.some.injEq, Prod.mk.injEq] at hop
          obtain ⟨rfl, rfl, rfl, rfl⟩ := hop
          exact AOps_step hi hw (Same.gives (gives_quo ho hx hy (by simpa using hb))) k
        · cases hop
      · cases hop
theorem AOps_cat {a b v : ByteArray} (hop : binB E ops i st = some (.add, .string a, .string b, d)) (hv : catO a b = some v) (k : AOps P E n ops Q l (putA st d (sA v)) h) : AOps P E n ops Q (i :: l) st h := by
  unfold catO at hv
  by_cases hb : a.size + b.size ≤ 9223372036854775807
  · simp only [hb, decide_true, cond_true, Option.some.injEq] at hv; subst hv
    unfold binB at hop
    cases hi : ops[i]? with
    | none => simp [hi] at hop
    | some o =>
      simp only [hi] at hop
      split at hop
      · rename_i op t x y yt hw ho
        split at hop
        · rename_i a' b' hx hy
          simp only [Option.some.injEq, Prod.mk.injEq] at hop
          obtain ⟨rfl, rfl, rfl, rfl⟩ := hop
          exact AOps_step hi hw (Same.gives (gives_concat ho hx hy hb)) k
        · cases hop
      · cases hop
  · simp [hb] at hv

/-- The first m of the operations lead to a state from which the rest goes on. -/
theorem AOps_cut (m : Nat) {st' : List AV} {h' : AHeap} (k : AOps P E n ops Q (l.drop m) st' h') (s : AOps P E n ops (fun s1 h1 => leL s1 st' ∧ h1 = h') (l.take m) st h) : AOps P E n ops Q l st h := by
  have key : ∀ (l1 l2 : List Nat) (st : List AV) (h : AHeap), AOps P E n ops Q l2 st' h' → AOps P E n ops (fun s1 h1 => leL s1 st' ∧ h1 = h') l1 st h → AOps P E n ops Q (l1 ++ l2) st h := by
    intro l1
    induction l1 with
    | nil =>
      intro l2 st h k s
      obtain ⟨s1, e1, e2, rfl⟩ := s
      exact AOps.le (leL_trans e1 e2) k
    | cons i l1 ih =>
      intro l2 st h k s
      exact fun Q' μ w a hn f => wpOp_to (s Q' μ w a hn f) fun a' w' hc => hc.mono fun st2 h2 q => ih l2 st2 h2 k q
  have := key (l.take m) (l.drop m) st h k s
  rwa [List.take_append_drop] at this
theorem AOps_here (ks : List Nat) {st' : List AV} {h' : AHeap} (e : forget ks st = st') (eh : h = h') : AOps P E n ops (fun s1 h1 => leL s1 st' ∧ h1 = h') [] st h :=
  ⟨_, leL_forget ks st, e ▸ leL_refl _, eh⟩

/-- What follows a piece of code, proved once for all states from which it is reached. -/
theorem AWP_join {α : Type} {x y : Code} {Q : Exit → List AV → AHeap → Prop} (S : α → List AV) (H : α → AHeap) (C : α → Prop) (ky : ∀ a, C a → AWP P E n y Q (S a) (H a))
    (s : AWP P E n x (thenA (fun s1 h1 => ∃ a, C a ∧ leL s1 (S a) ∧ h1 = H a) Q) st h) : AWP P E n (.seq x y) Q st h := by
  refine AWP_seq (s.mono fun e s1 h1 q => ?_)
  cases e with
  | normal => obtain ⟨a, hc, hl, rfl⟩ := q; exact AWP.le hl (ky a hc)
  | exit id => exact q
  | goto l => exact q
  | ret => exact q
  | panic ch => exact q
  | outgrown => exact q
/-- A loop by its states; the number goes down. -/
theorem AWP_loopF {α : Type} {c : Code} {Q : Exit → List AV → AHeap → Prop} (S : α → List AV) (H : α → AHeap) (C : Nat → α → Prop)
    (round : ∀ k a, C k a → AWP P E n c (thenA (fun s1 h1 => ∃ a' m, m < k ∧ C m a' ∧ leL s1 (S a') ∧ h1 = H a') Q) (S a) (H a)) {k : Nat} (a : α) (h0 : C k a) (hl : leL st (S a)) (hh : h = H a) : AWP P E n (.loop c) Q st h := by
  subst hh
  refine AWP.le hl (AWP_loop (fun k s1 h1 => ∃ a, C k a ∧ leL s1 (S a) ∧ h1 = H a) ?_ ⟨a, h0, leL_refl _, rfl⟩)
  rintro k s1 h1 ⟨a, hc, hl, rfl⟩
  refine AWP.le hl ((round k a hc).mono fun e s2 h2 q => ?_)
  cases e with
  | normal => obtain ⟨a', m, hm, hc', hl', he'⟩ := q; exact ⟨m, hm, a', hc', hl', he'⟩
  | exit id => exact q
  | goto l => exact q
  | ret => exact q
  | panic ch => exact q
  | outgrown => exact q
theorem leL_of (ks : List Nat) {s1 : List AV} (e : forget ks st = s1) : leL st s1 := e ▸ leL_forget ks st
/-- What a function hands back, as it is. -/
theorem Fin_ret {fn : Func} {R : AV → AHeap → Prop} (m : Nat) {v : AV} {r : AV} {h' : AHeap} (hres : resA P fn.results.toList st h = some [v]) (hd : h.drop m = h') (hn : n ≤ h'.length) (hcl : Closed h') (hf : Frz m h v r) (q : R r h') : Fin P fn n R .ret st h := by
  subst hd; exact ⟨[v], m, r, hres, hn, hcl, hf, q⟩
theorem Fin_retn {fn : Func} {R : AV → AHeap → Prop} (m : Nat) {l : List AV} {r : AV} {h' : AHeap} (hres : resA P fn.results.toList st h = some l) (hd : h.drop m = h') (hn : n ≤ h'.length) (hcl : Closed h') (hf : Frz m h (resV l) r) (q : R r h') : Fin P fn n R .ret st h := by
  subst hd; exact ⟨l, m, r, hres, hn, hcl, hf, q⟩
end
end Go.Proofs.YtjhbobacbaikoaaGreatDoor
/- The program's values as Lean values, and the cells that they fill. -/
namespace Go.Proofs.YtjhbobacbaikoaaGreatDoor
open Go
set_option linter.unusedVariables false
def cs_u8 (x : Int) : List AV := [iK .u8 x]
def cl_u8 (l : List Int) : List AV := l.flatMap cs_u8
theorem sc_cs_u8 (n : Nat) (x : Int) : scL n (cs_u8 x) := ⟨trivial, trivial⟩
theorem scl_cl_u8 (n : Nat) (l : List Int) : scL n (cl_u8 l) := scL_flatMap (sc_cs_u8 n) l
theorem eq_cl_u8 (l : List Int) : cl_u8 l = l.flatMap cs_u8 := rfl
def cs_str (x : ByteArray) : List AV := [sA x]
def cl_str (l : List ByteArray) : List AV := l.flatMap cs_str
theorem sc_cs_str (n : Nat) (x : ByteArray) : scL n (cs_str x) := ⟨trivial, trivial⟩
theorem scl_cl_str (n : Nat) (l : List ByteArray) : scL n (cl_str l) := scL_flatMap (sc_cs_str n) l
theorem eq_cl_str (l : List ByteArray) : cl_str l = l.flatMap cs_str := rfl
def cs_i64 (x : Int) : List AV := [iA x]
def cl_i64 (l : List Int) : List AV := l.flatMap cs_i64
theorem sc_cs_i64 (n : Nat) (x : Int) : scL n (cs_i64 x) := ⟨trivial, trivial⟩
theorem scl_cl_i64 (n : Nat) (l : List Int) : scL n (cl_i64 l) := scL_flatMap (sc_cs_i64 n) l
theorem eq_cl_i64 (l : List Int) : cl_i64 l = l.flatMap cs_i64 := rfl
structure TRange where
  gFrom : Int
  gTo : Int
  gVariation : Int
def TRange.cs (x : TRange) : List AV := [iA x.gFrom, iA x.gTo, iA x.gVariation]
def TRange.cl (l : List TRange) : List AV := l.flatMap TRange.cs
theorem sc_TRange_cs (n : Nat) (x : TRange) : scL n (TRange.cs x) := ⟨trivial, trivial, trivial, trivial⟩
theorem scl_TRange_cl (n : Nat) (l : List TRange) : scL n (TRange.cl l) := scL_flatMap (sc_TRange_cs n) l
theorem eq_TRange_cl (l : List TRange) : TRange.cl l = l.flatMap TRange.cs := rfl
def cs_l_TRange_cl (x : List TRange) : List AV := [.ro .unk x.length (TRange.cl x)]
def cl_l_TRange_cl (l : List (List TRange)) : List AV := l.flatMap cs_l_TRange_cl
theorem sc_cs_l_TRange_cl (n : Nat) (x : List TRange) : scL n (cs_l_TRange_cl x) := ⟨(scl_TRange_cl _ _), trivial⟩
theorem scl_cl_l_TRange_cl (n : Nat) (l : List (List TRange)) : scL n (cl_l_TRange_cl l) := scL_flatMap (sc_cs_l_TRange_cl n) l
theorem eq_cl_l_TRange_cl (l : List (List TRange)) : cl_l_TRange_cl l = l.flatMap cs_l_TRange_cl := rfl
structure TSpan where
  gFrom : Int
  gTo : Int
def TSpan.cs (x : TSpan) : List AV := [iA x.gFrom, iA x.gTo]
def TSpan.cl (l : List TSpan) : List AV := l.flatMap TSpan.cs
theorem sc_TSpan_cs (n : Nat) (x : TSpan) : scL n (TSpan.cs x) := ⟨trivial, trivial, trivial⟩
theorem scl_TSpan_cl (n : Nat) (l : List TSpan) : scL n (TSpan.cl l) := scL_flatMap (sc_TSpan_cs n) l
theorem eq_TSpan_cl (l : List TSpan) : TSpan.cl l = l.flatMap TSpan.cs := rfl
def cs_l_TSpan_cl (x : List TSpan) : List AV := [.ro .unk x.length (TSpan.cl x)]
def cl_l_TSpan_cl (l : List (List TSpan)) : List AV := l.flatMap cs_l_TSpan_cl
theorem sc_cs_l_TSpan_cl (n : Nat) (x : List TSpan) : scL n (cs_l_TSpan_cl x) := ⟨(scl_TSpan_cl _ _), trivial⟩
theorem scl_cl_l_TSpan_cl (n : Nat) (l : List (List TSpan)) : scL n (cl_l_TSpan_cl l) := scL_flatMap (sc_cs_l_TSpan_cl n) l
theorem eq_cl_l_TSpan_cl (l : List (List TSpan)) : cl_l_TSpan_cl l = l.flatMap cs_l_TSpan_cl := rfl
structure TValue where
  gKind : Int
  gNumber : Int
  gText : ByteArray
  gList : List ByteArray
def TValue.cs (x : TValue) : List AV := [iA x.gKind, iA x.gNumber, sA x.gText, .ro .unk x.gList.length (cl_str x.gList)]
def TValue.cl (l : List TValue) : List AV := l.flatMap TValue.cs
theorem sc_TValue_cs (n : Nat) (x : TValue) : scL n (TValue.cs x) := ⟨trivial, trivial, trivial, (scl_cl_str _ _), trivial⟩
theorem scl_TValue_cl (n : Nat) (l : List TValue) : scL n (TValue.cl l) := scL_flatMap (sc_TValue_cs n) l
theorem eq_TValue_cl (l : List TValue) : TValue.cl l = l.flatMap TValue.cs := rfl
inductive TExpr where
  | mk (gOp : Int) (gKind : ByteArray) (gName : ByteArray) (gValues : List TValue) (gKids : List TExpr)
def TExpr.gOp : TExpr → Int
  | .mk a _ _ _ _ => a
def TExpr.gKind : TExpr → ByteArray
  | .mk _ a _ _ _ => a
def TExpr.gName : TExpr → ByteArray
  | .mk _ _ a _ _ => a
def TExpr.gValues : TExpr → List TValue
  | .mk _ _ _ a _ => a
def TExpr.gKids : TExpr → List TExpr
  | .mk _ _ _ _ a => a
mutual
def TExpr.cr : TExpr → List AV
  | .mk a0 a1 a2 a3 a4 => [iA a0, sA a1, sA a2, .ro .unk a3.length (TValue.cl a3), .ro .unk a4.length (TExpr.cl a4)]
def TExpr.cl : List TExpr → List AV
  | [] => []
  | x :: xs => TExpr.cr x ++ TExpr.cl xs
end
def TExpr.cs (x : TExpr) : List AV := [iA x.gOp, sA x.gKind, sA x.gName, .ro .unk x.gValues.length (TValue.cl x.gValues), .ro .unk x.gKids.length (TExpr.cl x.gKids)]
theorem TExpr.cr_eq (x : TExpr) : x.cr = x.cs := by cases x; simp only [TExpr.cr, TExpr.cs, TExpr.gOp, TExpr.gKind, TExpr.gName, TExpr.gValues, TExpr.gKids]
mutual
theorem scr_TExpr (n : Nat) : ∀ x : TExpr, scL n x.cr
  | .mk a0 a1 a2 a3 a4 => by simp only [TExpr.cr]; exact ⟨trivial, trivial, trivial, (scl_TValue_cl _ _), (scl_TExpr_cl _ _), trivial⟩
theorem scl_TExpr_cl (n : Nat) : ∀ l : List TExpr, scL n (TExpr.cl l)
  | [] => by simp only [TExpr.cl]; trivial
  | x :: xs => by simp only [TExpr.cl]; exact scL_app (scr_TExpr n x) (scl_TExpr_cl n xs)
end
theorem sc_TExpr_cs (n : Nat) (x : TExpr) : scL n (TExpr.cs x) := ⟨trivial, trivial, trivial, (scl_TValue_cl _ _), (scl_TExpr_cl _ _), trivial⟩
theorem eq_TExpr_cl : ∀ l : List TExpr, TExpr.cl l = l.flatMap TExpr.cs
  | [] => by simp only [TExpr.cl]; rfl
  | x :: xs => by simp only [TExpr.cl, List.flatMap_cons, TExpr.cr_eq, eq_TExpr_cl xs]
structure TExperiment where
  gKey : ByteArray
  gLayer : ByteArray
  gFlag : ByteArray
  gSalt : ByteArray
  gStatus : Int
  gClaims : List TSpan
  gArms : List TRange
  gWhen : TExpr
def TExperiment.cs (x : TExperiment) : List AV := [sA x.gKey, sA x.gLayer, sA x.gFlag, sA x.gSalt, iA x.gStatus, .ro .unk x.gClaims.length (TSpan.cl x.gClaims), .ro .unk x.gArms.length (TRange.cl x.gArms), iA x.gWhen.gOp, sA x.gWhen.gKind, sA x.gWhen.gName, .ro .unk x.gWhen.gValues.length (TValue.cl x.gWhen.gValues), .ro .unk x.gWhen.gKids.length (TExpr.cl x.gWhen.gKids)]
def TExperiment.cl (l : List TExperiment) : List AV := l.flatMap TExperiment.cs
theorem sc_TExperiment_cs (n : Nat) (x : TExperiment) : scL n (TExperiment.cs x) := ⟨trivial, trivial, trivial, trivial, trivial, (scl_TSpan_cl _ _), (scl_TRange_cl _ _), trivial, trivial, trivial, (scl_TValue_cl _ _), (scl_TExpr_cl _ _), trivial⟩
theorem scl_TExperiment_cl (n : Nat) (l : List TExperiment) : scL n (TExperiment.cl l) := scL_flatMap (sc_TExperiment_cs n) l
theorem eq_TExperiment_cl (l : List TExperiment) : TExperiment.cl l = l.flatMap TExperiment.cs := rfl
structure TServe where
  gVariation : Int
  gKind : ByteArray
  gBy : ByteArray
  gSalt : ByteArray
  gSplit : List TRange
def TServe.cs (x : TServe) : List AV := [iA x.gVariation, sA x.gKind, sA x.gBy, sA x.gSalt, .ro .unk x.gSplit.length (TRange.cl x.gSplit)]
def TServe.cl (l : List TServe) : List AV := l.flatMap TServe.cs
theorem sc_TServe_cs (n : Nat) (x : TServe) : scL n (TServe.cs x) := ⟨trivial, trivial, trivial, trivial, (scl_TRange_cl _ _), trivial⟩
theorem scl_TServe_cl (n : Nat) (l : List TServe) : scL n (TServe.cl l) := scL_flatMap (sc_TServe_cs n) l
theorem eq_TServe_cl (l : List TServe) : TServe.cl l = l.flatMap TServe.cs := rfl
structure TPrerequisite where
  gFlag : ByteArray
  gVariation : Int
def TPrerequisite.cs (x : TPrerequisite) : List AV := [sA x.gFlag, iA x.gVariation]
def TPrerequisite.cl (l : List TPrerequisite) : List AV := l.flatMap TPrerequisite.cs
theorem sc_TPrerequisite_cs (n : Nat) (x : TPrerequisite) : scL n (TPrerequisite.cs x) := ⟨trivial, trivial, trivial⟩
theorem scl_TPrerequisite_cl (n : Nat) (l : List TPrerequisite) : scL n (TPrerequisite.cl l) := scL_flatMap (sc_TPrerequisite_cs n) l
theorem eq_TPrerequisite_cl (l : List TPrerequisite) : TPrerequisite.cl l = l.flatMap TPrerequisite.cs := rfl
structure TTarget where
  gKind : ByteArray
  gVariation : Int
  gKeys : List ByteArray
def TTarget.cs (x : TTarget) : List AV := [sA x.gKind, iA x.gVariation, .ro .unk x.gKeys.length (cl_str x.gKeys)]
def TTarget.cl (l : List TTarget) : List AV := l.flatMap TTarget.cs
theorem sc_TTarget_cs (n : Nat) (x : TTarget) : scL n (TTarget.cs x) := ⟨trivial, trivial, (scl_cl_str _ _), trivial⟩
theorem scl_TTarget_cl (n : Nat) (l : List TTarget) : scL n (TTarget.cl l) := scL_flatMap (sc_TTarget_cs n) l
theorem eq_TTarget_cl (l : List TTarget) : TTarget.cl l = l.flatMap TTarget.cs := rfl
structure TRule where
  gName : ByteArray
  gWhen : TExpr
  gServe : TServe
def TRule.cs (x : TRule) : List AV := [sA x.gName, iA x.gWhen.gOp, sA x.gWhen.gKind, sA x.gWhen.gName, .ro .unk x.gWhen.gValues.length (TValue.cl x.gWhen.gValues), .ro .unk x.gWhen.gKids.length (TExpr.cl x.gWhen.gKids), iA x.gServe.gVariation, sA x.gServe.gKind, sA x.gServe.gBy, sA x.gServe.gSalt, .ro .unk x.gServe.gSplit.length (TRange.cl x.gServe.gSplit)]
def TRule.cl (l : List TRule) : List AV := l.flatMap TRule.cs
theorem sc_TRule_cs (n : Nat) (x : TRule) : scL n (TRule.cs x) := ⟨trivial, trivial, trivial, trivial, (scl_TValue_cl _ _), (scl_TExpr_cl _ _), trivial, trivial, trivial, trivial, (scl_TRange_cl _ _), trivial⟩
theorem scl_TRule_cl (n : Nat) (l : List TRule) : scL n (TRule.cl l) := scL_flatMap (sc_TRule_cs n) l
theorem eq_TRule_cl (l : List TRule) : TRule.cl l = l.flatMap TRule.cs := rfl
structure TFlag where
  gKey : ByteArray
  gKind : Int
  gVariations : List TValue
  gOn : Bool
  gOff : Int
  gPrerequisites : List TPrerequisite
  gTargets : List TTarget
  gRules : List TRule
  gDefault : TServe
def TFlag.cs (x : TFlag) : List AV := [sA x.gKey, iA x.gKind, .ro .unk x.gVariations.length (TValue.cl x.gVariations), bA x.gOn, iA x.gOff, .ro .unk x.gPrerequisites.length (TPrerequisite.cl x.gPrerequisites), .ro .unk x.gTargets.length (TTarget.cl x.gTargets), .ro .unk x.gRules.length (TRule.cl x.gRules), iA x.gDefault.gVariation, sA x.gDefault.gKind, sA x.gDefault.gBy, sA x.gDefault.gSalt, .ro .unk x.gDefault.gSplit.length (TRange.cl x.gDefault.gSplit)]
def TFlag.cl (l : List TFlag) : List AV := l.flatMap TFlag.cs
theorem sc_TFlag_cs (n : Nat) (x : TFlag) : scL n (TFlag.cs x) := ⟨trivial, trivial, (scl_TValue_cl _ _), trivial, trivial, (scl_TPrerequisite_cl _ _), (scl_TTarget_cl _ _), (scl_TRule_cl _ _), trivial, trivial, trivial, trivial, (scl_TRange_cl _ _), trivial⟩
theorem scl_TFlag_cl (n : Nat) (l : List TFlag) : scL n (TFlag.cl l) := scL_flatMap (sc_TFlag_cs n) l
theorem eq_TFlag_cl (l : List TFlag) : TFlag.cl l = l.flatMap TFlag.cs := rfl
structure TSegment where
  gKey : ByteArray
  gKind : ByteArray
  gInclude : List ByteArray
  gExclude : List ByteArray
  gWhen : TExpr
def TSegment.cs (x : TSegment) : List AV := [sA x.gKey, sA x.gKind, .ro .unk x.gInclude.length (cl_str x.gInclude), .ro .unk x.gExclude.length (cl_str x.gExclude), iA x.gWhen.gOp, sA x.gWhen.gKind, sA x.gWhen.gName, .ro .unk x.gWhen.gValues.length (TValue.cl x.gWhen.gValues), .ro .unk x.gWhen.gKids.length (TExpr.cl x.gWhen.gKids)]
def TSegment.cl (l : List TSegment) : List AV := l.flatMap TSegment.cs
theorem sc_TSegment_cs (n : Nat) (x : TSegment) : scL n (TSegment.cs x) := ⟨trivial, trivial, (scl_cl_str _ _), (scl_cl_str _ _), trivial, trivial, trivial, (scl_TValue_cl _ _), (scl_TExpr_cl _ _), trivial⟩
theorem scl_TSegment_cl (n : Nat) (l : List TSegment) : scL n (TSegment.cl l) := scL_flatMap (sc_TSegment_cs n) l
theorem eq_TSegment_cl (l : List TSegment) : TSegment.cl l = l.flatMap TSegment.cs := rfl
structure TCool where
  gFrom : Int
  gTo : Int
  gUntil : Int
def TCool.cs (x : TCool) : List AV := [iA x.gFrom, iA x.gTo, iA x.gUntil]
def TCool.cl (l : List TCool) : List AV := l.flatMap TCool.cs
theorem sc_TCool_cs (n : Nat) (x : TCool) : scL n (TCool.cs x) := ⟨trivial, trivial, trivial, trivial⟩
theorem scl_TCool_cl (n : Nat) (l : List TCool) : scL n (TCool.cl l) := scL_flatMap (sc_TCool_cs n) l
theorem eq_TCool_cl (l : List TCool) : TCool.cl l = l.flatMap TCool.cs := rfl
structure TLayer where
  gKey : ByteArray
  gKind : ByteArray
  gSalt : ByteArray
  gHoldout : Int
  gCool : Int
  gCooling : List TCool
def TLayer.cs (x : TLayer) : List AV := [sA x.gKey, sA x.gKind, sA x.gSalt, iA x.gHoldout, iA x.gCool, .ro .unk x.gCooling.length (TCool.cl x.gCooling)]
def TLayer.cl (l : List TLayer) : List AV := l.flatMap TLayer.cs
theorem sc_TLayer_cs (n : Nat) (x : TLayer) : scL n (TLayer.cs x) := ⟨trivial, trivial, trivial, trivial, trivial, (scl_TCool_cl _ _), trivial⟩
theorem scl_TLayer_cl (n : Nat) (l : List TLayer) : scL n (TLayer.cl l) := scL_flatMap (sc_TLayer_cs n) l
theorem eq_TLayer_cl (l : List TLayer) : TLayer.cl l = l.flatMap TLayer.cs := rfl
structure TSettings where
  gSalt : ByteArray
  gHoldoutKind : ByteArray
  gHoldout : Int
def TSettings.cs (x : TSettings) : List AV := [sA x.gSalt, sA x.gHoldoutKind, iA x.gHoldout]
def TSettings.cl (l : List TSettings) : List AV := l.flatMap TSettings.cs
theorem sc_TSettings_cs (n : Nat) (x : TSettings) : scL n (TSettings.cs x) := ⟨trivial, trivial, trivial, trivial⟩
theorem scl_TSettings_cl (n : Nat) (l : List TSettings) : scL n (TSettings.cl l) := scL_flatMap (sc_TSettings_cs n) l
theorem eq_TSettings_cl (l : List TSettings) : TSettings.cl l = l.flatMap TSettings.cs := rfl
structure TDeclared where
  gKind : ByteArray
  gName : ByteArray
  gType : Int
def TDeclared.cs (x : TDeclared) : List AV := [sA x.gKind, sA x.gName, iA x.gType]
def TDeclared.cl (l : List TDeclared) : List AV := l.flatMap TDeclared.cs
theorem sc_TDeclared_cs (n : Nat) (x : TDeclared) : scL n (TDeclared.cs x) := ⟨trivial, trivial, trivial, trivial⟩
theorem scl_TDeclared_cl (n : Nat) (l : List TDeclared) : scL n (TDeclared.cl l) := scL_flatMap (sc_TDeclared_cs n) l
theorem eq_TDeclared_cl (l : List TDeclared) : TDeclared.cl l = l.flatMap TDeclared.cs := rfl
structure TEnvironment where
  gSettings : TSettings
  gAttributes : List TDeclared
  gSegments : List TSegment
  gFlags : List TFlag
  gLayers : List TLayer
  gExperiments : List TExperiment
def TEnvironment.cs (x : TEnvironment) : List AV := [sA x.gSettings.gSalt, sA x.gSettings.gHoldoutKind, iA x.gSettings.gHoldout, .ro .unk x.gAttributes.length (TDeclared.cl x.gAttributes), .ro .unk x.gSegments.length (TSegment.cl x.gSegments), .ro .unk x.gFlags.length (TFlag.cl x.gFlags), .ro .unk x.gLayers.length (TLayer.cl x.gLayers), .ro .unk x.gExperiments.length (TExperiment.cl x.gExperiments)]
def TEnvironment.cl (l : List TEnvironment) : List AV := l.flatMap TEnvironment.cs
theorem sc_TEnvironment_cs (n : Nat) (x : TEnvironment) : scL n (TEnvironment.cs x) := ⟨trivial, trivial, trivial, (scl_TDeclared_cl _ _), (scl_TSegment_cl _ _), (scl_TFlag_cl _ _), (scl_TLayer_cl _ _), (scl_TExperiment_cl _ _), trivial⟩
theorem scl_TEnvironment_cl (n : Nat) (l : List TEnvironment) : scL n (TEnvironment.cl l) := scL_flatMap (sc_TEnvironment_cs n) l
theorem eq_TEnvironment_cl (l : List TEnvironment) : TEnvironment.cl l = l.flatMap TEnvironment.cs := rfl
structure TCodes where
  glist : List Int
  gat : Int
def TCodes.cs (x : TCodes) : List AV := [.ro .unk x.glist.length (cl_u8 x.glist), iA x.gat]
def TCodes.cl (l : List TCodes) : List AV := l.flatMap TCodes.cs
theorem sc_TCodes_cs (n : Nat) (x : TCodes) : scL n (TCodes.cs x) := ⟨(scl_cl_u8 _ _), trivial, trivial⟩
theorem scl_TCodes_cl (n : Nat) (l : List TCodes) : scL n (TCodes.cl l) := scL_flatMap (sc_TCodes_cs n) l
theorem eq_TCodes_cl (l : List TCodes) : TCodes.cl l = l.flatMap TCodes.cs := rfl
def cs_bool (x : Bool) : List AV := [bA x]
def cl_bool (l : List Bool) : List AV := l.flatMap cs_bool
theorem sc_cs_bool (n : Nat) (x : Bool) : scL n (cs_bool x) := ⟨trivial, trivial⟩
theorem scl_cl_bool (n : Nat) (l : List Bool) : scL n (cl_bool l) := scL_flatMap (sc_cs_bool n) l
theorem eq_cl_bool (l : List Bool) : cl_bool l = l.flatMap cs_bool := rfl
structure TEdge where
  gFrom : ByteArray
  gTo : ByteArray
def TEdge.cs (x : TEdge) : List AV := [sA x.gFrom, sA x.gTo]
def TEdge.cl (l : List TEdge) : List AV := l.flatMap TEdge.cs
theorem sc_TEdge_cs (n : Nat) (x : TEdge) : scL n (TEdge.cs x) := ⟨trivial, trivial, trivial⟩
theorem scl_TEdge_cl (n : Nat) (l : List TEdge) : scL n (TEdge.cl l) := scL_flatMap (sc_TEdge_cs n) l
theorem eq_TEdge_cl (l : List TEdge) : TEdge.cl l = l.flatMap TEdge.cs := rfl
structure TRange16 where
  gLo : Int
  gHi : Int
  gStride : Int
def TRange16.cs (x : TRange16) : List AV := [iK .u16 x.gLo, iK .u16 x.gHi, iK .u16 x.gStride]
def TRange16.cl (l : List TRange16) : List AV := l.flatMap TRange16.cs
theorem sc_TRange16_cs (n : Nat) (x : TRange16) : scL n (TRange16.cs x) := ⟨trivial, trivial, trivial, trivial⟩
theorem scl_TRange16_cl (n : Nat) (l : List TRange16) : scL n (TRange16.cl l) := scL_flatMap (sc_TRange16_cs n) l
theorem eq_TRange16_cl (l : List TRange16) : TRange16.cl l = l.flatMap TRange16.cs := rfl
structure TRange32 where
  gLo : Int
  gHi : Int
  gStride : Int
def TRange32.cs (x : TRange32) : List AV := [iK .u32 x.gLo, iK .u32 x.gHi, iK .u32 x.gStride]
def TRange32.cl (l : List TRange32) : List AV := l.flatMap TRange32.cs
theorem sc_TRange32_cs (n : Nat) (x : TRange32) : scL n (TRange32.cs x) := ⟨trivial, trivial, trivial, trivial⟩
theorem scl_TRange32_cl (n : Nat) (l : List TRange32) : scL n (TRange32.cl l) := scL_flatMap (sc_TRange32_cs n) l
theorem eq_TRange32_cl (l : List TRange32) : TRange32.cl l = l.flatMap TRange32.cs := rfl
structure TRangeTable where
  gR16 : List TRange16
  gR32 : List TRange32
  gLatinOffset : Int
def TRangeTable.cs (x : TRangeTable) : List AV := [.ro .unk x.gR16.length (TRange16.cl x.gR16), .ro .unk x.gR32.length (TRange32.cl x.gR32), iA x.gLatinOffset]
def TRangeTable.cl (l : List TRangeTable) : List AV := l.flatMap TRangeTable.cs
theorem sc_TRangeTable_cs (n : Nat) (x : TRangeTable) : scL n (TRangeTable.cs x) := ⟨(scl_TRange16_cl _ _), (scl_TRange32_cl _ _), trivial, trivial⟩
theorem scl_TRangeTable_cl (n : Nat) (l : List TRangeTable) : scL n (TRangeTable.cl l) := scL_flatMap (sc_TRangeTable_cs n) l
theorem eq_TRangeTable_cl (l : List TRangeTable) : TRangeTable.cl l = l.flatMap TRangeTable.cs := rfl
structure TerrorString where
  gs : ByteArray
def TerrorString.cs (x : TerrorString) : List AV := [sA x.gs]
def TerrorString.cl (l : List TerrorString) : List AV := l.flatMap TerrorString.cs
theorem sc_TerrorString_cs (n : Nat) (x : TerrorString) : scL n (TerrorString.cs x) := ⟨trivial, trivial⟩
theorem scl_TerrorString_cl (n : Nat) (l : List TerrorString) : scL n (TerrorString.cl l) := scL_flatMap (sc_TerrorString_cs n) l
theorem eq_TerrorString_cl (l : List TerrorString) : TerrorString.cl l = l.flatMap TerrorString.cs := rfl
structure TacceptRange where
  glo : Int
  ghi : Int
def TacceptRange.cs (x : TacceptRange) : List AV := [iK .u8 x.glo, iK .u8 x.ghi]
def TacceptRange.cl (l : List TacceptRange) : List AV := l.flatMap TacceptRange.cs
theorem sc_TacceptRange_cs (n : Nat) (x : TacceptRange) : scL n (TacceptRange.cs x) := ⟨trivial, trivial, trivial⟩
theorem scl_TacceptRange_cl (n : Nat) (l : List TacceptRange) : scL n (TacceptRange.cl l) := scL_flatMap (sc_TacceptRange_cs n) l
theorem eq_TacceptRange_cl (l : List TacceptRange) : TacceptRange.cl l = l.flatMap TacceptRange.cs := rfl
def cs_l_cs_str (x : List ByteArray) : List AV := [.ro .unk x.length (cl_str x)]
def cl_l_cl_str (l : List (List ByteArray)) : List AV := l.flatMap cs_l_cs_str
theorem sc_cs_l_cs_str (n : Nat) (x : List ByteArray) : scL n (cs_l_cs_str x) := ⟨(scl_cl_str _ _), trivial⟩
theorem scl_cl_l_cl_str (n : Nat) (l : List (List ByteArray)) : scL n (cl_l_cl_str l) := scL_flatMap (sc_cs_l_cs_str n) l
theorem eq_cl_l_cl_str (l : List (List ByteArray)) : cl_l_cl_str l = l.flatMap cs_l_cs_str := rfl
def cs_u64 (x : Int) : List AV := [iK .u64 x]
def cl_u64 (l : List Int) : List AV := l.flatMap cs_u64
theorem sc_cs_u64 (n : Nat) (x : Int) : scL n (cs_u64 x) := ⟨trivial, trivial⟩
theorem scl_cl_u64 (n : Nat) (l : List Int) : scL n (cl_u64 l) := scL_flatMap (sc_cs_u64 n) l
theorem eq_cl_u64 (l : List Int) : cl_u64 l = l.flatMap cs_u64 := rfl
end Go.Proofs.YtjhbobacbaikoaaGreatDoor
/- What a call's arguments hold, read as Lean values: for each type, once. -/
namespace Go.Proofs.YtjhbobacbaikoaaGreatDoor
open Go
set_option linter.unusedVariables false
set_option linter.unusedSimpArgs false
/-- No abstract block; every cell stays. -/
def c0 (W : World) : Cx := ⟨⟨fun _ => none, fun _ _ => False⟩, [], W⟩
theorem hnil {i : Nat} {b : ABlk} (h : hget [] i = some b) : False := by
  simp [hget] at h
theorem ok0 (W : World) : (c0 W).Ok where
  blk := fun i b h => (hnil h).elim
  inj := fun i j b h => by obtain ⟨_, h, _⟩ := h; exact (hnil h).elim
  nx := fun i b h => by obtain ⟨_, h, _⟩ := h; exact (hnil h).elim
  xlt := fun b k h => False.elim h
theorem still0 {W : World} {b k : Nat} (h : b < W.heap.size) : (c0 W).still b k := by
  refine ⟨h, fun i x hx => (hnil hx).elim, ?_⟩
  intro h
  exact h
theorem cell_lt {W : World} {a : Addr} {v : Value} (h : W.cell? a = some v) : a.block < W.heap.size := by
  cases hb : W.heap[a.block]? with
  | none => simp [World.cell?, hb] at h
  | some o => exact (Array.getElem?_eq_some_iff.1 hb).1
theorem mapM_get {α β : Type} {f : α → Option β} : ∀ {l : List α} {r : List β}, l.mapM f = some r → r.length = l.length ∧ ∀ i (h : i < l.length), f l[i] = r[i]?
  | [], r, h => by simp at h; subst h; exact ⟨rfl, fun i h => by cases h⟩
  | a :: l, r, h => by
    simp only [List.mapM_cons, Option.bind_eq_bind, Option.bind_eq_some_iff, Option.pure_def, Option.some.injEq] at h
    obtain ⟨b, hb, r', hr, rfl⟩ := h
    obtain ⟨h1, h2⟩ := mapM_get hr
    refine ⟨by simp [h1], fun i hi => ?_⟩
    cases i with
    | zero => simpa using hb
    | succ i => simpa using h2 i (by simpa using hi)
theorem cells_get {W : World} {a : Addr} {n : Nat} {vs : List Value} (h : W.cells? 0 a n = some vs) : vs.length = n ∧ ∀ j x, vs[j]? = some x → W.cell? (a.add j) = some x := by
  unfold World.cells? at h
  rw [if_pos (Nat.zero_le _)] at h
  obtain ⟨h1, h2⟩ := mapM_get h
  rw [List.length_range] at h1
  refine ⟨h1, fun j x hx => ?_⟩
  have hj : j < n := by rw [← h1]; exact (List.getElem?_eq_some_iff.1 hx).1
  have := h2 j (by rw [List.length_range]; exact hj)
  rw [List.getElem_range] at this
  rw [this]; exact hx
section
variable {H : Type} (enc : TypeId × Value → H) (P : Program) (W : World) (B : Nat) (Fit : DataW H → Prop)
/-- What is asked of a datum so that sizes are known. -/
structure FitOk : Prop where
  str : ∀ l : List UInt8, l.length ≤ maxLen → Fit (.lit (.string l)) → l.length ≤ B
  sl : ∀ es sp : List (DataW H), es.length ≤ maxLen → Fit (.slice es sp) → es.length ≤ B ∧ ∀ e ∈ es, Fit e
  ag : ∀ ps : List (DataW H), Fit (.agg ps) → ∀ p ∈ ps, Fit p
/-- Whatever can be read as type t (with this fuel) is such a value. -/
def Rd (n : Nat) (t : TypeId) {α : Type} (cs : α → List AV) (ok : α → Prop) : Prop :=
  ∀ (vs : List Value) (x : DataW H × List MemPlace), DataW.trod enc P W 0 (fun _ => true) true n t vs = some x → Fit x.1 → ∃ y : α, AV.relL (c0 W) (cs y) vs ∧ ok y
end
section
variable {H : Type} {enc : TypeId × Value → H} {P : Program} {W : World} {B : Nat} {Fit : DataW H → Prop}
theorem Rd_int {n : Nat} {t : TypeId} {k : IntKind} (ht : P.underlying t = some (.int k)) : Rd enc P W Fit n t (fun x : Int => [iK k x]) (fun _ => True) := by
  intro vs x h _
  obtain ⟨m, rfl, _, _⟩ := DataW.trod_int ht h
  exact ⟨m, ⟨_, _, rfl, rfl, rfl⟩, trivial⟩
theorem Rd_bool {n : Nat} {t : TypeId} (ht : P.underlying t = some .bool) : Rd enc P W Fit n t (fun x : Bool => [bA x]) (fun _ => True) := by
  intro vs x h _
  obtain ⟨m, rfl, _⟩ := DataW.trod_bool ht h
  exact ⟨m, ⟨_, _, rfl, rfl, rfl⟩, trivial⟩
theorem Rd_str {n : Nat} {t : TypeId} (fo : FitOk B Fit) (ht : P.underlying t = some .string) : Rd enc P W Fit n t (fun x : ByteArray => [sA x]) (fun x => x.size ≤ B) := by
  intro vs x h hf
  obtain ⟨s, rfl, rfl, hs⟩ := DataW.trod_string ht h
  have e : s.size = s.data.toList.length := by rw [Array.length_toList]; rfl
  refine ⟨s, ⟨_, _, rfl, rfl, rfl⟩, ?_⟩
  show s.size ≤ B
  rw [e]; exact fo.str _ (by rw [← e]; exact hs) hf
theorem get_drop_take {α : Type} {l : List α} {o n j : Nat} (h : j < n) : ((l.drop o).take n)[j]? = l[o + j]? := by
  rw [List.getElem?_take, if_pos h, List.getElem?_drop]
/-- Slices. -/
theorem Rd_slice {n : Nat} {t e : TypeId} {α : Type} {cs : α → List AV} {cl : List α → List AV} {ok : α → Prop} {sz : Nat} (hcl : ∀ l, cl l = l.flatMap cs) (fo : FitOk B Fit) (ht : P.underlying t = some (.slice e)) (hsz : P.cellsOf e = sz) (h0 : 0 < sz)
    (h1 : ∀ x, (cs x).all AV.one = true) (he : ∀ m, m < n → Rd enc P W Fit m e cs ok) :
    Rd enc P W Fit n t (fun xs : List α => [.ro .unk xs.length (cl xs)]) (fun xs => xs.length ≤ B ∧ ∀ x ∈ xs, ok x) := by
  intro vs x h hf
  simp only [hcl]
  rcases DataW.trod_slice ht h with ⟨rfl, rfl⟩ | ⟨a, len, cap, elems, rest, m, rfl, rfl, rfl, _, hlc, hcm, hel, hget, _, _⟩
  · exact ⟨[], ⟨_, _, rfl, ⟨none, 0, [], rfl, ⟨Nat.le_refl _, Nat.zero_le _, fun h => by cases h⟩, rfl, rfl, .inl rfl⟩, rfl⟩, by simp⟩
  · rw [hsz] at hget
    have hfit := fo.sl _ _ (by rw [List.length_map, hel]; omega) hf
    rw [List.length_map, hel] at hfit
    have key : ∀ k, k ≤ len → ∃ (ys : List α) (us : List Value), ys.length = k ∧ us.length = k * sz ∧ AV.relL (c0 W) (ys.flatMap cs) us ∧ (∀ y ∈ ys, ok y) ∧ ∀ j u, us[j]? = some u → W.cell? (a.add j) = some u := by
      intro k
      induction k with
      | zero => intro _; exact ⟨[], [], rfl, by simp, rfl, by simp, by simp⟩
      | succ k ih =>
        intro hk
        obtain ⟨ys, us, e1, e2, e3, e4, e5⟩ := ih (by omega)
        have hk' : k < elems.length := by omega
        have := hget k (by omega)
        rw [List.getElem?_eq_getElem hk'] at this
        obtain ⟨cv, c1, c2⟩ := Option.bind_eq_some_iff.1 this
        obtain ⟨l1, l2⟩ := cells_get c1
        obtain ⟨y, r1, r2⟩ := he m (by omega) cv _ c2 (hfit.2 _ (List.mem_map_of_mem (List.getElem_mem hk')))
        refine ⟨ys ++ [y], us ++ cv, by simp [e1], by rw [List.length_append, e2, l1, Nat.succ_mul], ?_, ?_, ?_⟩
        · rw [List.flatMap_append]
          exact relL_append e3 (by simpa using r1)
        · intro z hz
          rcases List.mem_append.1 hz with hz | hz
          · exact e4 z hz
          · simp at hz; rw [hz]; exact r2
        · intro j u hj
          by_cases hjl : j < us.length
          · rw [List.getElem?_append_left hjl] at hj
            exact e5 j u hj
          · rw [List.getElem?_append_right (by omega)] at hj
            have := l2 _ _ hj
            rw [add_add] at this
            rw [← this]
            congr 2; omega
    obtain ⟨ys, us, e1, e2, e3, e4, e5⟩ := key len (Nat.le_refl _)
    refine ⟨ys, ⟨_, _, rfl, ⟨some a, cap, us, by rw [e1], ⟨by rw [e1]; exact hlc, hcm, fun h => by cases h⟩, e3, ?_, ?_⟩, rfl⟩, by rw [e1]; exact hfit.1, e4⟩
    · rw [List.all_eq_true]
      intro z hz
      obtain ⟨y, hy, hz⟩ := List.mem_flatMap.1 hz
      exact List.all_eq_true.1 (h1 y) z hz
    · cases hus : us with
      | nil => exact .inl rfl
      | cons u0 ut =>
        refine .inr ⟨a, rfl, fun j hj => ?_, by rw [← hus]; exact e5⟩
        rw [← hus] at hj
        have hc := e5 j (us[j]) (List.getElem?_eq_getElem hj)
        have := cell_lt hc
        rw [add_block] at this
        exact still0 this
/-- The fields of a struct. -/
theorem Rd_fields {n : Nat} {t : TypeId} {fs : Array Field} {vs : List Value} {x : DataW H × List MemPlace} (fo : FitOk B Fit) (ht : P.underlying t = some (.struct fs)) (h : DataW.trod enc P W 0 (fun _ => true) true n t vs = some x) (hf : Fit x.1) :
    ∃ m, n = m + 1 ∧ vs.length = P.cellsOf t ∧ ∀ (i o : Nat) (t' : TypeId) (k : Nat) (α : Type) (cs : α → List AV) (ok : α → Prop), (fs[i]?).map (fun f => (f.offset, f.type)) = some (o, t') → P.cellsOf t' = k →
      Rd enc P W Fit m t' cs ok → ∃ y : α, AV.relL (c0 W) (cs y) ((vs.drop o).take k) ∧ ok y := by
  obtain ⟨xs, m, rfl, rfl, hl, hlen, hget⟩ := DataW.trod_struct ht h
  refine ⟨m, rfl, hl, fun i o t' k α cs ok hi hk hr => ?_⟩
  obtain ⟨f, hj, e⟩ := Option.map_eq_some_iff.1 hi
  cases e
  subst hk
  have hil : i < xs.length := by rw [hlen]; exact (Array.getElem?_eq_some_iff.1 hj).1
  have := hget i f hj
  rw [List.getElem?_eq_getElem hil] at this
  exact hr _ _ this (fo.ag _ hf _ (List.mem_map_of_mem (List.getElem_mem hil)))
/-- One piece after the other. -/
theorem rel_piece {c : Cx} {l1 l2 : List AV} {vs : List Value} {o n : Nat} (h : AV.relL c l1 ((vs.drop o).take n)) (k : AV.relL c l2 (vs.drop (o + n))) : AV.relL c (l1 ++ l2) (vs.drop o) := by
  have : vs.drop o = (vs.drop o).take n ++ vs.drop (o + n) := by rw [← List.drop_drop, List.take_append_drop]
  rw [this]
  exact relL_append h k
theorem rel_end {c : Cx} {vs : List Value} {o : Nat} (h : vs.length = o) : AV.relL c [] (vs.drop o) := by
  rw [← h, List.drop_length]; rfl
end
end Go.Proofs.YtjhbobacbaikoaaGreatDoor
