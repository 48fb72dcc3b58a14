/- A list of one's own becomes a row that is only appended to (or the other way round, while it is empty). -/
import Derived.Test.YtjhbobacbaikoaaGreatDoorM3
import Derived.Test.YtjhbobacbaikoaaGreatDoorProg
import Derived.Test.YtjhbobacbaikoaaGreatDoorM2
import Derived.Test.YtjhbobacbaikoaaGreatDoorRows
import Derived.Lib.LaidTab
import Derived.MakeChecks
import Derived.ProofKit
import Derived.LaidMore
import Derived.WideKeyArgs
import Derived.Laws.BitsLemmas
import Derived.Lib.Strings
import Derived.Carry
import Derived.Shelf.LaysM
import Derived.Shelf.LaysC
import Derived.Shelf.Small.Strs
import Derived.Shelf.Strconv.AtoiAll
import Derived.Shelf.Strings.Split
import Derived.Shelf.Strings.SplitCore
import Derived.Shelf.Strings.Fields
import Derived.Lib.ConvBytes
namespace Go.Proofs.YtjhbobacbaikoaaGreatDoor
open Go
set_option linter.unusedVariables false
set_option linter.unusedSimpArgs false
section
variable {P : Program} {E : Env} {n : Nat} {st st' : List AV} {h h' : AHeap}
theorem kind_core {id : Nat} {b b' : ABlk} (hg : hget h id = some b) (hb : b ≠ .dead) (hb' : b' ≠ .dead) (hl : b.lim ≤ b'.lim) (hr : ∀ c m, b.rel c m → b'.rel c m) (μ : Mu) (w : World) (hn : n ≤ h.length) (ok : (⟨μ, h, w⟩ : Cx).Ok) :
    Cx.Ton n ⟨μ, h, w⟩ ⟨μ, hset h id b', w⟩ ∧ (⟨μ, hset h id b', w⟩ : Cx).Ok ∧ ∀ us, AV.relL ⟨μ, h, w⟩ st us → AV.relL ⟨μ, hset h id b', w⟩ st us := by
  have o := ok
  have hid := hget_lt hg
  let c : Cx := ⟨μ, h, w⟩
  let d : Cx := ⟨μ, hset h id b', w⟩
  have hlen : (hset h id b').length = h.length := hset_length _ _ _
  have hne : ∀ j, j ≠ id → hget d.h j = hget c.h j := fun j hj => hget_hset_ne _ hj
  have hid1 : hget c.h id = some b := hg
  have hid2 : hget d.h id = some b' := hget_hset_same _ hid
  have hal : ∀ j, alive d.h j ↔ alive c.h j := by
    intro j
    by_cases e0 : j = id
    · subst e0
      exact ⟨fun _ => ⟨_, hid1, hb⟩, fun _ => ⟨_, hid2, hb'⟩⟩
    · simp only [alive, hne j e0]
  have hst : ∀ bb q, c.still bb q → d.still bb q := by
    rintro bb q ⟨s1, s2, s3⟩
    refine ⟨s1, fun j y hj hy e0 => ?_, s3⟩
    by_cases e1 : j = id
    · subst e1
      rw [hid2] at hj; cases hj
      exact Nat.lt_of_lt_of_le (s2 j _ hid1 hb e0) hl
    · rw [hne j e1] at hj; exact s2 j y hj hy e0
  have hdl : d.h.length = c.h.length := by simp [d, c, hlen]
  have hall : ∀ (az : List AV) (us : List Value), AV.relL c az us → AV.relL d az us := fun az us hr =>
    relL_on (c := c) (d := d) (S := fun _ => True) rfl hst (fun i _ hi => ⟨by rw [hdl]; exact hi, fun ha => ⟨(hal i).1 ha, rfl⟩⟩) az us (onL_all (fun _ => trivial) az) hr
  have hblk : ∀ (y : ABlk) m, y.rel c m → y.rel d m := by
    intro y m this
    cases y with
    | cells t2 cs2 =>
      rcases this with ⟨bb, cv, vs, rest, g0, g1, g2, g3, g4⟩ | g
      · exact .inl ⟨bb, cv, vs, rest, g0, g1, g2, hall _ _ g3, g4⟩
      · exact .inr g
    | row t2 cs2 =>
      rcases this with ⟨bb, cv, vs, rest, g0, g1, g2, g3, g4⟩ | g
      · exact .inl ⟨bb, cv, vs, rest, g0, g1, g2, hall _ _ g3, g4⟩
      · exact .inr g
    | iter s p => exact this
    | dead => trivial
  refine ⟨?_, ?_, fun us hr => hall _ _ hr⟩
  · exact ⟨rfl, rfl, rfl, Nat.le_refl _, by rw [hdl]; exact hn, rfl, fun _ _ => rfl, fun bb q hb => ⟨hst bb q hb, fun _ _ _ => rfl⟩, fun j _ ha => ⟨(hal j).1 ha, rfl⟩, fun j _ _ bb _ cv ty fr hc => ⟨cv, hc, rfl⟩, fun j ha bb hb => .inl ⟨j, (hal j).1 ha, hb⟩⟩
  · refine ⟨fun j y hj => ?_, fun i j bb hi hj e1 e2 => o.inj i j bb ((hal i).1 hi) ((hal j).1 hj) e1 e2, fun i bb hi e0 q => o.nx i bb ((hal i).1 hi) e0 q, o.xlt⟩
    by_cases e1 : j = id
    · subst e1
      rw [hid2] at hj; cases hj
      exact hr _ _ (hblk _ _ (o.blk j _ hid1))
    · rw [hne j e1] at hj
      exact hblk _ _ (o.blk j y hj)
theorem Norm_kind {id : Nat} {b b' : ABlk} (hg : hget h id = some b) (hb : b ≠ .dead) (hb' : b' ≠ .dead) (hl : b.lim ≤ b'.lim) (hr : ∀ c m, b.rel c m → b'.rel c m) : Norm P E n st h st (hset h id b') :=
  Norm_of fun μ w hn ok => ⟨μ, kind_core hg hb hb' hl hr μ w hn ok⟩
/-- From here on it is only appended to. -/
theorem Norm_o2r (id : Nat) {t : TypeId} {cs : List AV} (hg : hget h id = some (.cells t cs)) (hh : hset h id (.row t cs) = h') : Norm P E n st h st h' := by
  subst hh; exact Norm_kind hg (by simp) (by simp) (Nat.zero_le _) (fun c m hr => hr)
/-- Nothing is in it: it may be written. -/
theorem Norm_r2o (id : Nat) {t : TypeId} (hg : hget h id = some (.row t [])) (hh : hset h id (.cells t []) = h') : Norm P E n st h st h' := by
  subst hh; exact Norm_kind hg (by simp) (by simp) (Nat.le_refl _) (fun c m hr => hr)
/-- A place that says less. -/
theorem Norm_weak1 (t : Nat) (v v' : AV) (hv : st[t]? = some v) (f : Frz 0 h v v') (e : st.set t v' = st') : Norm P E n st h st' h := by
  subst e; exact Norm_frz (FrzL_set0 hv f)
theorem AOps_o2r {ops : Array Oper} {Q : List AV → AHeap → Prop} {i : Nat} {l : List Nat} (id : Nat) {t : TypeId} {cs : List AV} (hg : hget h id = some (.cells t cs)) (hh : hset h id (.row t cs) = h') (k : AOps P E n ops Q (i :: l) st h') : AOps P E n ops Q (i :: l) st h := by
  subst hh
  intro Q' μ w a hn ft
  obtain ⟨t', ok', hr'⟩ := kind_core (st := st) (b' := .row t cs) hg (by simp) (by simp) (Nat.zero_le _) (fun c m hr => hr) μ w hn ft.ok
  exact wpOp_mono (fun a' w' hc => hc.trans t') (k Q' μ w a t'.len ⟨E.mono _ _ _ t' ft.env, ok', hr' _ ft.tmps, ft.defers⟩)
end
end Go.Proofs.YtjhbobacbaikoaaGreatDoor
namespace Go.Proofs.YtjhbobacbaikoaaGreatDoor
open Go
set_option linter.unusedVariables false
set_option linter.unusedSimpArgs false
mutual
theorem to0 {m i : Nat} : ∀ a : AV, a.sc 0 → a.to m i = a
  | .sl id _ _ _, h => absurd h (Nat.not_lt_zero _)
  | .ptr id _, h => absurd h (Nat.not_lt_zero _)
  | .val _, _ => rfl
  | .ro _ _ _, _ => rfl
  | .rop _, _ => rfl
  | .agg _, _ => rfl
  | .tup _, _ => rfl
  | .fn _ _ _, _ => rfl
  | .any, _ => rfl
end
theorem map_to0 {m i : Nat} : ∀ {cs : List AV}, scL 0 cs → cs.map (AV.to m i) = cs
  | [], _ => rfl
  | a :: cs, h => by rw [List.map_cons, to0 a h.1, map_to0 h.2]
theorem toOkL0 {m i : Nat} : ∀ {cs : List AV}, scL 0 cs → toOkL m i cs
  | [], _ => trivial
  | a :: cs, h => by
    refine ⟨?_, toOkL0 h.2⟩
    have h1 := h.1
    cases a with
    | sl id _ _ _ => exact absurd h1 (Nat.not_lt_zero _)
    | ptr id _ => exact absurd h1 (Nat.not_lt_zero _)
    | val _ => trivial
    | any => trivial
    | ro _ _ c => exact on0 (show scL 0 c from h1)
    | rop c => exact on0 (show scL 0 c from h1)
    | agg c => exact on0 (show scL 0 c from h1)
    | tup c => exact on0 (show scL 0 c from h1)
    | fn _ x y => exact ⟨on0 h1.1, on0 h1.2⟩
section
variable {P : Program} {E : Env} {n : Nat} {st st' : List AV} {h h' : AHeap} {ops : Array Oper} {Q : List AV → AHeap → Prop} {l : List Nat} {pend : List (Nat × Nat)}
/-- Nobody speaks of this block any more. -/
theorem Norm_kill (id : Nat) {b : ABlk} (hg : hget h id = some b) (hh : hset h id .dead = h') : Norm P E n st h st h' := by
  subst hh
  exact Norm_of fun μ w hn ok => by
    have o := ok
    have hid := hget_lt hg
    let c : Cx := ⟨μ, h, w⟩
    let d : Cx := ⟨μ, hset h id .dead, w⟩
    have hlen : (hset h id .dead).length = h.length := hset_length _ _ _
    have hne : ∀ j, j ≠ id → hget d.h j = hget c.h j := fun j hj => hget_hset_ne _ hj
    have hid2 : hget d.h id = some .dead := hget_hset_same _ hid
    have hal : ∀ j, alive d.h j → alive c.h j := by
      rintro j ⟨b, hb, hd⟩
      by_cases e0 : j = id
      · subst e0; rw [hid2] at hb; cases hb; exact absurd rfl hd
      · rw [hne j e0] at hb; exact ⟨b, hb, hd⟩
    have hst : ∀ bb q, c.still bb q → d.still bb q := by
      rintro bb q ⟨s1, s2, s3⟩
      refine ⟨s1, fun j y hj hy e0 => ?_, s3⟩
      by_cases e1 : j = id
      · subst e1; rw [hid2] at hj; cases hj; exact absurd rfl hy
      · rw [hne j e1] at hj; exact s2 j y hj hy e0
    have hdl : d.h.length = c.h.length := by simp [d, c, hlen]
    have hall : ∀ (az : List AV) (us : List Value), AV.relL c az us → AV.relL d az us := fun az us hr =>
      relL_on (c := c) (d := d) (S := fun _ => True) rfl hst (fun i _ hi => ⟨by rw [hdl]; exact hi, fun ha => ⟨hal i ha, rfl⟩⟩) az us (onL_all (fun _ => trivial) az) hr
    refine ⟨μ, ?_, ?_, fun us hr => hall _ _ hr⟩
    · exact ⟨rfl, rfl, rfl, Nat.le_refl _, by rw [hdl]; exact hn, rfl, fun _ _ => rfl, fun bb q hb => ⟨hst bb q hb, fun _ _ _ => rfl⟩, fun j _ ha => ⟨hal j ha, rfl⟩, fun j _ _ bb _ cv ty fr hc => ⟨cv, hc, rfl⟩, fun j ha bb hb => .inl ⟨j, hal j ha, hb⟩⟩
    · refine ⟨fun j y hj => ?_, fun i j bb hi hj e1 e2 => o.inj i j bb (hal i hi) (hal j hj) e1 e2, fun i bb hi e0 q => o.nx i bb (hal i hi) e0 q, o.xlt⟩
      by_cases e1 : j = id
      · subst e1; rw [hid2] at hj; cases hj; trivial
      · rw [hne j e1] at hj
        have := o.blk j y hj
        cases y with
        | cells t2 cs2 =>
          rcases this with ⟨bb, cv, vs, rest, g0, g1, g2, g3, g4⟩ | g
          · exact .inl ⟨bb, cv, vs, rest, g0, g1, g2, hall _ _ g3, g4⟩
          · exact .inr g
        | row t2 cs2 =>
          rcases this with ⟨bb, cv, vs, rest, g0, g1, g2, g3, g4⟩ | g
          · exact .inl ⟨bb, cv, vs, rest, g0, g1, g2, hall _ _ g3, g4⟩
          · exact .inr g
        | iter s p => exact this
        | dead => trivial
/-- The same state, printed otherwise. -/
theorem AOps_same (e : st = st') (e2 : h = h') (k : AOps P E n ops Q l st' h') : AOps P E n ops Q l st h := by subst e e2; exact k
theorem AD_same (e : st = st') (e2 : h = h') (k : AD P E n ops Q l pend st' h') : AD P E n ops Q l pend st h := by subst e e2; exact k
end
end Go.Proofs.YtjhbobacbaikoaaGreatDoor
namespace Go.Proofs.YtjhbobacbaikoaaGreatDoor
open Go
section
variable {P : Program} {E : Env} {n : Nat} {ops : Array Oper} {Q : List AV → AHeap → Prop} {l : List Nat} {i : Nat} {st : List AV} {h : AHeap} {d : Option Tmp} {pend : List (Nat × Nat)}
theorem AD_beq {p q : Bool} (hop : bbB P E ops i st = some (true, p, q, d)) (k : AD P E n ops Q l pend (putA st d (bA (p == q))) h) : AD P E n ops Q (i :: l) pend st h := by
  unfold bbB at hop
  cases hi : ops[i]? with
  | none => simp [hi] at hop
  | some o =>
    simp only [hi] at hop
    split at hop
    · rename_i op t x y yt hw ho
      split at hop
      · rename_i p' q' ht hx hy
        cases op <;> simp only [reduceCtorEq, Option.some.injEq, Prod.mk.injEq, Bool.false_eq_true, false_and] at hop
        obtain ⟨_, rfl, rfl, rfl⟩ := hop
        refine AD_look [] hi (by rw [ho]; rfl) hw (fun st2 h2 hs _ => ?_) k
        exact gives_booleq ho ht ((hs x (by rw [ho]; simp [Op.operands])).trans hx) ((hs y (by rw [ho]; simp [Op.operands])).trans hy)
      · cases hop
    · cases hop
theorem AD_bne {p q : Bool} (hop : bbB P E ops i st = some (false, p, q, d)) (k : AD P E n ops Q l pend (putA st d (bA (!(p == q)))) h) : AD P E n ops Q (i :: l) pend st h := by
  unfold bbB at hop
  cases hi : ops[i]? with
  | none => simp [hi] at hop
  | some o =>
    simp only [hi] at hop
    split at hop
    · rename_i op t x y yt hw ho
      split at hop
      · rename_i p' q' ht hx hy
        cases op <;> simp only [reduceCtorEq, Option.some.injEq, Prod.mk.injEq, Bool.true_eq_false, false_and] at hop
        obtain ⟨_, rfl, rfl, rfl⟩ := hop
        refine AD_look [] hi (by rw [ho]; rfl) hw (fun st2 h2 hs _ => ?_) k
        exact gives_boolne ho ht ((hs x (by rw [ho]; simp [Op.operands])).trans hx) ((hs y (by rw [ho]; simp [Op.operands])).trans hy)
      · cases hop
    · cases hop
end
end Go.Proofs.YtjhbobacbaikoaaGreatDoor
namespace Go.Proofs.YtjhbobacbaikoaaGreatDoor
open Go
set_option linter.unusedVariables false
set_option linter.unusedSimpArgs false
def wantAt (ops : Array Oper) (i : Nat) (st : List AV) : Bool := match ops[i]? with | some o => wantA ops st o == some true | none => false
section
variable {P : Program} {E : Env} {n : Nat} {ops : Array Oper} {Q : List AV → AHeap → Prop} {l : List Nat} {i : Nat} {st : List AV} {h : AHeap} {d : Option Tmp} {pend : List (Nat × Nat)}
theorem Same_weak {o : Oper} {v : AV} {st st' : List AV} {h : AHeap} (f : FrzL 0 h st st') (g : Same P E o v st' h) : Same P E o v st h :=
  fun μ w a ft => g μ w a ⟨ft.env, ft.ok, f μ w _ ft.ok ft.tmps, ft.defers⟩
theorem evA_set_ne {st : List AV} {t : Nat} {v : AV} (x : Operand) (e : x ≠ .tmp t) : evA E (st.set t v) x = evA E st x := by
  cases x with
  | tmp j =>
    have : t ≠ j := fun h => e (by rw [h])
    simp only [evA, List.getD_eq_getElem?_getD]
    rw [List.getElem?_set_ne this]
  | _ => rfl
theorem evA_set_eq {st : List AV} {t : Nat} {v : AV} (h : t < st.length) : evA E (st.set t v) (.tmp t) = v := by
  simp [evA, h]
def namesTmp (o : Oper) (t : Nat) : Bool := o.op.operands.any fun x => match x with | .tmp j => j == t | _ => false
theorem namesTmp_mem {o : Oper} {t : Nat} (h : namesTmp o t = true) : Operand.tmp t ∈ o.op.operands := by
  unfold namesTmp at h
  rw [Array.any_eq_true'] at h
  obtain ⟨x, hx, e⟩ := h
  cases x with
  | tmp j => have : j = t := by simpa using e
             rw [← this]; exact hx
  | _ => simp at e
theorem look_lcut {α : Type} {c : α → List AV} {xs r : List α} {cells cells' : List AV} {a b : Int} {sz m : Nat} (hop : lcutB P E ops i st = some (m, cells, a, b, sz, d)) (hm : m = xs.length) (hcl : cells = xs.flatMap c) (hcl' : cells' = r.flatMap c) (hsz : ∀ x, (c x).length = sz) (hp : 0 < sz)
    (hv : cutL xs a b = some r) : ∃ o, ops[i]? = some o ∧ looker o.op = true ∧ o.dst = d ∧ ∀ st2 h2, (∀ x ∈ o.op.operands, evA E st2 x = evA E st x) → Same P E o (.ro .unk r.length cells') st2 h2 := by
  obtain ⟨h0, h1, h2, hr⟩ := cutL_spec hv
  subst hcl hm hcl'
  unfold lcutB at hop
  cases hi : ops[i]? with
  | none => simp [hi] at hop
  | some o =>
    simp only [hi] at hop
    split at hop
    · rename_i t x lo hhi hw ho
      cases ht : telem P t with
      | none => simp [ht] at hop
      | some e =>
        simp only [ht] at hop
        cases hk : tok P e with
        | false => simp [hk] at hop
        | true =>
          simp only [hk, cond_true] at hop
          split at hop
          · rename_i kk n' cells hx
            split at hop
            · rename_i l1 h1' hl hh
              simp only [Option.some.injEq, Prod.mk.injEq] at hop
              obtain ⟨rfl, rfl, rfl, rfl, rfl, rfl⟩ := hop
              have hrl : r.length = h1'.toNat - l1.toNat := by rw [hr]; simp; omega
              have hrc : ((xs.flatMap c).drop (l1.toNat * tsize P e)).take ((h1'.toNat - l1.toNat) * tsize P e) = r.flatMap c := by
                rw [(flatMap_cut hsz xs _).1, (flatMap_cut hsz _ _).2, hr, List.drop_take]
              refine ⟨o, rfl, by rw [ho]; rfl, rfl, fun st2 h2' hs => ?_⟩
              have hl2 : loA E st2 lo = some l1 := by
                rw [← hl]; cases lo with
                | none => rfl
                | some y => simp only [loA]; rw [hs y (by rw [ho]; simp [Op.operands])]
              have hh2 : hiA E st2 xs.length hhi = some h1' := by
                rw [← hh]; cases hhi with
                | none => rfl
                | some y => simp only [hiA]; rw [hs y (by rw [ho]; simp [Op.operands])]
              have g := gives_slice_ro (P := P) (E := E) (h := h2') ho ht hk ((hs x (by rw [ho]; simp [Op.operands])).trans hx) hl2 hh2 h0 h1 h2
              rwa [hrc, ← hrl] at g
            · cases hop
          · cases hop
    · cases hop
/-- A look at a row, read as a list. -/
theorem AD_rowF {o : Oper} {v v2 : AV} (t : Nat) {id len : Nat} {k : Cap} {ty : TypeId} {cs : List AV} (hi : ops[i]? = some o) (hl : looker o.op = true) (hw : wantAt ops i st = true) (ht : st[t]? = some (.sl id 0 len k)) (hop : namesTmp o t = true)
    (hg : hget h id = some (.row ty cs)) (hs : scL 0 cs) (hv2 : v2 = .ro .unk len cs)
    (L : ∀ st2 h2, (∀ x ∈ o.op.operands, evA E st2 x = evA E (st.set t v2) x) → Same P E o v st2 h2)
    (d : AD P E n ops Q l ((i, id) :: pend) (putA st o.dst v) h) : AD P E n ops Q (i :: l) pend st h := by
  subst hv2
  have hw' : wantA ops st o = some true := by
    unfold wantAt at hw; rw [hi] at hw; simpa using hw
  have hmem : Operand.tmp t ∈ o.op.operands := namesTmp_mem hop
  refine AD_look [id] hi hl hw' (fun st2 h2 he hh => ?_) d
  have hx : evA E st2 (.tmp t) = .sl id 0 len k := by rw [he _ hmem]; simp [evA, ht]
  have h2t : st2[t]? = some (.sl id 0 len k) := by
    simp only [evA, List.getD_eq_getElem?_getD] at hx
    cases hq : st2[t]? with
    | none => rw [hq] at hx; simp [undefA] at hx
    | some y => rw [hq] at hx; simpa using hx
  have hg2 : hget h2 id = some (.row ty cs) := by rw [hh id (by simp)]; exact hg
  have hlt : t < st.length := lt_of_get ht
  have hlt2 : t < st2.length := lt_of_get h2t
  refine Same_weak (FrzL_set0 h2t (Frz_row hg2 (scL_mono (Nat.zero_le _) _ hs))) (L _ _ fun x hxm => ?_)
  by_cases e : x = .tmp t
  · subst e; rw [evA_set_eq hlt2, evA_set_eq hlt]
  · rw [evA_set_ne x e, evA_set_ne x e]; exact he x hxm
theorem AD_lcutR {α : Type} {c : α → List AV} {xs r : List α} {cells cells' rc : List AV} {a b : Int} {sz m id len : Nat} {k : Cap} {ty : TypeId} (t : Nat) (v2 : AV) (ht : st[t]? = some (.sl id 0 len k)) (hg : hget h id = some (.row ty rc)) (hs : scL 0 rc) (hv2 : v2 = .ro .unk len rc) (hw : wantAt ops i st = true)
    (hto : (match ops[i]? with | some o => namesTmp o t | none => false) = true)
    (hop : lcutB P E ops i (st.set t v2) = some (m, cells, a, b, sz, d)) (hm : m = xs.length) (hcl : cells = xs.flatMap c) (hcl' : cells' = r.flatMap c) (hsz : ∀ x, (c x).length = sz) (hp : 0 < sz) (hv : cutL xs a b = some r)
    (q : AD P E n ops Q l ((i, id) :: pend) (putA st d (.ro .unk r.length cells')) h) : AD P E n ops Q (i :: l) pend st h := by
  obtain ⟨o, hi, hl, rfl, L⟩ := look_lcut hop hm hcl hcl' hsz hp hv
  rw [hi] at hto
  exact AD_rowF t hi hl hw ht hto hg hs hv2 L q
end
end Go.Proofs.YtjhbobacbaikoaaGreatDoor
namespace Go.Proofs.YtjhbobacbaikoaaGreatDoor
open Go
theorem Norm_go {P : Program} {E : Env} {n : Nat} {st st' : List AV} {h h' : AHeap} {k : Code} {Q : Exit → List AV → AHeap → Prop} (a : Norm P E n st h st' h') (s : AWP P E n k Q st' h') : AWP P E n k Q st h := a k Q s
end Go.Proofs.YtjhbobacbaikoaaGreatDoor
/- The program leaves the order of evaluation open where Go does; what is known of its package variables. -/
namespace Go.Proofs.YtjhbobacbaikoaaGreatDoor
open Go
theorem mixed : Tryz.prog.follows .mixedOrders = true := by kernel_rfl
def gl_versions : List ByteArray := [⟨#[49, 46, 48, 46, 48]⟩, ⟨#[49, 46, 50, 46, 51]⟩, ⟨#[49, 46, 49, 48, 46, 48]⟩, ⟨#[50, 46, 48, 46, 49]⟩, ⟨#[48, 46, 48, 46, 48]⟩, ⟨#[57, 57, 57, 57, 57, 57, 46, 48, 46, 57, 57, 57, 57, 57, 57]⟩]
def gl_texts : List ByteArray := [⟨#[115, 101]⟩, ⟨#[100, 101]⟩, ⟨#[117, 115]⟩, ⟨#[112, 114, 111]⟩, ⟨#[102, 114, 101, 101]⟩, ⟨#[]⟩, ⟨#[97, 34, 98]⟩, ⟨#[99, 92]⟩, ⟨#[195, 169]⟩, ⟨#[112, 114, 111, 115, 101]⟩, ⟨#[120, 32, 121]⟩]
def gl_lists : List (List ByteArray) := [[], [⟨#[112, 114, 111]⟩], [⟨#[100, 101]⟩, ⟨#[115, 101]⟩], [⟨#[]⟩, ⟨#[102, 114, 101, 101]⟩, ⟨#[117, 115]⟩], [⟨#[120, 32, 121]⟩]]
def gl_asciiSpace : List Int := [0, 0, 0, 0, 0, 0, 0, 0, 0, 1, 1, 1, 1, 1, 0, 0, 0, 0, 0, 0, 0, 0, 0, 0, 0, 0, 0, 0, 0, 0, 0, 0, 1, 0, 0, 0, 0, 0, 0, 0, 0, 0, 0, 0, 0, 0, 0, 0, 0, 0, 0, 0, 0, 0, 0, 0, 0, 0, 0, 0, 0, 0, 0, 0, 0, 0, 0, 0, 0, 0, 0, 0, 0, 0, 0, 0, 0, 0, 0, 0, 0, 0, 0, 0, 0, 0, 0, 0, 0, 0, 0, 0, 0, 0, 0, 0, 0, 0, 0, 0, 0, 0, 0, 0, 0, 0, 0, 0, 0, 0, 0, 0, 0, 0, 0, 0, 0, 0, 0, 0, 0, 0, 0, 0, 0, 0, 0, 0, 0, 0, 0, 0, 0, 0, 0, 0, 0, 0, 0, 0, 0, 0, 0, 0, 0, 0, 0, 0, 0, 0, 0, 0, 0, 0, 0, 0, 0, 0, 0, 0, 0, 0, 0, 0, 0, 0, 0, 0, 0, 0, 0, 0, 0, 0, 0, 0, 0, 0, 0, 0, 0, 0, 0, 0, 0, 0, 0, 0, 0, 0, 0, 0, 0, 0, 0, 0, 0, 0, 0, 0, 0, 0, 0, 0, 0, 0, 0, 0, 0, 0, 0, 0, 0, 0, 0, 0, 0, 0, 0, 0, 0, 0, 0, 0, 0, 0, 0, 0, 0, 0, 0, 0, 0, 0, 0, 0, 0, 0, 0, 0, 0, 0, 0, 0, 0, 0, 0, 0, 0, 0, 0, 0, 0, 0, 0, 0]
def gl_first : List Int := [240, 240, 240, 240, 240, 240, 240, 240, 240, 240, 240, 240, 240, 240, 240, 240, 240, 240, 240, 240, 240, 240, 240, 240, 240, 240, 240, 240, 240, 240, 240, 240, 240, 240, 240, 240, 240, 240, 240, 240, 240, 240, 240, 240, 240, 240, 240, 240, 240, 240, 240, 240, 240, 240, 240, 240, 240, 240, 240, 240, 240, 240, 240, 240, 240, 240, 240, 240, 240, 240, 240, 240, 240, 240, 240, 240, 240, 240, 240, 240, 240, 240, 240, 240, 240, 240, 240, 240, 240, 240, 240, 240, 240, 240, 240, 240, 240, 240, 240, 240, 240, 240, 240, 240, 240, 240, 240, 240, 240, 240, 240, 240, 240, 240, 240, 240, 240, 240, 240, 240, 240, 240, 240, 240, 240, 240, 240, 240, 241, 241, 241, 241, 241, 241, 241, 241, 241, 241, 241, 241, 241, 241, 241, 241, 241, 241, 241, 241, 241, 241, 241, 241, 241, 241, 241, 241, 241, 241, 241, 241, 241, 241, 241, 241, 241, 241, 241, 241, 241, 241, 241, 241, 241, 241, 241, 241, 241, 241, 241, 241, 241, 241, 241, 241, 241, 241, 241, 241, 241, 241, 241, 241, 241, 241, 2, 2, 2, 2, 2, 2, 2, 2, 2, 2, 2, 2, 2, 2, 2, 2, 2, 2, 2, 2, 2, 2, 2, 2, 2, 2, 2, 2, 2, 2, 19, 3, 3, 3, 3, 3, 3, 3, 3, 3, 3, 3, 3, 35, 3, 3, 52, 4, 4, 4, 68, 241, 241, 241, 241, 241, 241, 241, 241, 241, 241, 241]
def gl_acceptRanges : List TacceptRange := [{ glo := 128, ghi := 191 }, { glo := 160, ghi := 191 }, { glo := 128, ghi := 159 }, { glo := 144, ghi := 191 }, { glo := 128, ghi := 143 }, { glo := 0, ghi := 0 }, { glo := 0, ghi := 0 }, { glo := 0, ghi := 0 }, { glo := 0, ghi := 0 }, { glo := 0, ghi := 0 }, { glo := 0, ghi := 0 }, { glo := 0, ghi := 0 }, { glo := 0, ghi := 0 }, { glo := 0, ghi := 0 }, { glo := 0, ghi := 0 }, { glo := 0, ghi := 0 }]
def gl_pow10 : List Int := [1, 10, 100, 1000, 10000, 100000, 1000000, 10000000, 100000000, 1000000000, 10000000000, 100000000000, 1000000000000, 10000000000000, 100000000000000, 1000000000000000, 10000000000000000, 100000000000000000, 1000000000000000000, 10000000000000000000]
structure GlobT (E : Env) : Prop where
  g3 : E.glob 3 = some (cl_u8 gl_asciiSpace)
  g4 : E.glob 4 = some (cl_u8 gl_first)
  g5 : E.glob 5 = some (TacceptRange.cl gl_acceptRanges)
  g10 : E.glob 10 = some (cl_u64 gl_pow10)
  g8 : ∃ te pe, E.glob 8 = some [.val (.iface te pe)]
  g9 : ∃ te pe, E.glob 9 = some [.val (.iface te pe)]
structure GlobD (E : Env) : Prop extends GlobT E where
  g0 : E.glob 0 = some (cl_str gl_versions)
  g1 : E.glob 1 = some (cl_l_cl_str gl_lists)
  g2 : E.glob 2 = some (cl_str gl_texts)
end Go.Proofs.YtjhbobacbaikoaaGreatDoor
/- From a row's condition to what is known of the package variables; what a call leaves as it was. -/
namespace Go.Proofs.YtjhbobacbaikoaaGreatDoor
open Go Go.ChangeShapes Go.WideShapes Go.RowKit
set_option linter.unusedVariables false
set_option maxRecDepth 100000
/-- What is known of package variables, by a table. -/
def genv (tabs : List (Nat × List AV)) : Env where
  holds := fun c => ∀ p ∈ tabs, scL 0 p.2 ∧ AV.rel c (.rop p.2) (.pointer (some ⟨p.1, 0, none⟩))
  kept := fun c d hs h p hp => ⟨(h p hp).1, rel_free hs _ _ (h p hp).1 (h p hp).2⟩
  glob := fun g => (tabs.find? fun p => p.1 == g).map (·.2)
  globOk := fun c g cells h e => by
    obtain ⟨p, hp, rfl⟩ := Option.map_eq_some_iff.1 e
    have h1 := List.mem_of_find?_eq_some hp
    have h2 := List.find?_some hp
    have h3 : p.1 = g := by simpa using h2
    rw [← h3]
    exact (h p h1).2
theorem laid_get {P : Program} {w : World} : ∀ {l : List (String × DataW Unit)} {ps : List MemPlace}, DataW.LaidVars P w l ps → ∀ {i : Nat} {nm : String} {d : DataW Unit}, l[i]? = some (nm, d) →
    ∃ g t cs fuel p, P.globalNamed nm = some g ∧ (P.globals[g]?).map (·.type) = some t ∧ w.var? P nm = some cs ∧ DataW.trod (fun _ => ()) P w 0 (fun _ => true) false fuel t cs.toList = some (d, p)
  | [], ps, h, i, nm, d, hi => by simp at hi
  | (n', d') :: l, ps, h, i, nm, d, hi => by
    obtain ⟨g, t, cs, fuel, p, q, h1, h2, h3, h4, h5, _⟩ := h
    cases i with
    | zero =>
      simp only [List.getElem?_cons_zero, Option.some.injEq, Prod.mk.injEq] at hi
      obtain ⟨rfl, rfl⟩ := hi
      exact ⟨g, t, cs, fuel, p, h1, h2, h3, h4⟩
    | succ i => exact laid_get h5 (by simpa using hi)
section
variable {P : Program} {W : World}
theorem rop_laid {l : List (String × DataW Unit)} {i : Nat} {nm : String} {d : DataW Unit} {g : Nat} {t : TypeId} {cells : List AV} (hL : laidMetH P l W) (hp : (l.all fun x => x.2.handleName?.isNone) = true) (hi : l[i]? = some (nm, d))
    (hg : P.globalNamed nm = some g) (ht : (P.globals[g]?).map (·.type) = some t)
    (hc : ∀ fuel cs p, DataW.trod (fun _ => ()) P W 0 (fun _ => true) false fuel t cs = some (d, p) → AV.relL (c0 W) cells cs) (ho : cells.all AV.one = true) :
    AV.rel (c0 W) (.rop cells) (.pointer (some ⟨g, 0, none⟩)) := by
  rw [MakeChecks.laidMetH_plain _ _ _ hp] at hL
  obtain ⟨ps, h, _, _⟩ := hL
  obtain ⟨g', t', cs, fuel, p, h1, h2, h3, h4⟩ := laid_get h hi
  obtain rfl := Option.some.inj (hg.symm.trans h1)
  obtain rfl := Option.some.inj (ht.symm.trans h2)
  have cell : ∀ j x, cs.toList[j]? = some x → W.cell? (Addr.add ⟨g, 0, none⟩ j) = some x := by
    intro j x hx
    have := World.var?_cell hg h3 j
    have e : Addr.add ⟨g, 0, none⟩ j = ⟨g, j, none⟩ := by simp [Addr.add]; exact fun h => h.symm
    rw [e, this]
    simpa using hx
  refine ⟨⟨g, 0, none⟩, cs.toList, rfl, hc _ _ _ h4, ho, ?_, cell⟩
  by_cases hn : cs.toList = []
  · exact .inl hn
  · refine .inr fun j hj => still0 ?_
    have := cell_lt (cell j _ (List.getElem?_eq_getElem hj))
    rw [add_block] at this
    exact this
theorem iface_laid {l : List (String × DataW Unit)} {i : Nat} {nm s : String} {d : DataW Unit} {g : Nat} {t : TypeId} {ms : Array (String × TypeId)} (hL : laidMetH P l W) (hp : (l.all fun x => x.2.handleName?.isNone) = true) (hi : l[i]? = some (nm, .iface s d))
    (hg : P.globalNamed nm = some g) (ht : (P.globals[g]?).map (·.type) = some t) (hu : P.underlying t = some (.interface ms)) :
    ∃ u v, AV.rel (c0 W) (.rop [.val (.iface u v)]) (.pointer (some ⟨g, 0, none⟩)) := by
  have key : ∀ fuel cs p, DataW.trod (fun _ => ()) P W 0 (fun _ => true) false fuel t cs = some (.iface s d, p) → ∃ u v, cs = [.iface u v] := by
    intro fuel cs p h
    cases fuel with
    | zero => simp [DataW.trod] at h
    | succ m =>
      unfold DataW.trod at h
      rw [hu] at h
      split at h <;> simp_all
  have hL' := hL
  rw [MakeChecks.laidMetH_plain _ _ _ hp] at hL
  obtain ⟨ps, h, _, _⟩ := hL
  obtain ⟨g', t', cs, fuel, p, h1, h2, h3, h4⟩ := laid_get h hi
  obtain rfl := Option.some.inj (hg.symm.trans h1)
  obtain rfl := Option.some.inj (ht.symm.trans h2)
  obtain ⟨u, v, e⟩ := key _ _ _ h4
  have cell : W.cell? ⟨g, 0, none⟩ = some (.iface u v) := by
    rw [World.var?_cell hg h3 0]
    have : cs.toList[0]? = some (.iface u v) := by rw [e]; rfl
    simpa using this
  refine ⟨u, v, ⟨g, 0, none⟩, [.iface u v], rfl, ⟨_, _, rfl, rfl, rfl⟩, rfl, .inr fun j hj => still0 (cell_lt cell), ?_⟩
  intro j x hx
  cases j with
  | zero =>
    simp at hx
    rw [← hx]
    exact cell
  | succ j => simp at hx
/-- Arrays. -/
theorem trod_tab {H α : Type} {enc : TypeId × Value → H} {sp : Nat → Bool} {held : Bool} {fuel : Nat} {t e : TypeId} {n sz : Nat} {cs : List Value} {d : DataW H} {p : List MemPlace} (f : α → List AV) (gd : α → DataW H) (l : List α)
    (ht : P.underlying t = some (.array n e)) (hsz : P.cellsOf e = sz) (h : DataW.trod enc P W 0 sp held fuel t cs = some (d, p)) (hct : P.cellsOf t = n * sz) (hd : d = .agg (l.map gd))
    (he : ∀ m vs y a, DataW.trod enc P W 0 sp held m e vs = some y → y.1 = gd a → AV.relL (c0 W) (f a) vs) : AV.relL (c0 W) (l.flatMap f) cs := by
  obtain ⟨xs, m, rfl, hx, hl, hlen, hget⟩ := DataW.trod_array ht h
  obtain ⟨rfl, _⟩ := Prod.mk.inj hx
  have hm : xs.map (·.1) = l.map gd := by simpa using hd
  have hll : l.length = n := by rw [← hlen]; simpa using (congrArg List.length hm).symm
  rw [hct] at hl
  rw [hsz] at hget
  have key : ∀ k, k ≤ n → AV.relL (c0 W) ((l.take k).flatMap f) (cs.take (k * sz)) := by
    intro k
    induction k with
    | zero => intro _; simp; rfl
    | succ k ih =>
      intro hk
      have hkl : k < l.length := by omega
      have hkx : k < xs.length := by omega
      have hk' := hget k (by omega)
      rw [List.getElem?_eq_getElem hkx] at hk'
      have e1 : (xs[k]).1 = gd l[k] := by
        have := congrArg (fun z => z[k]?) hm
        simpa [hkl, hkx] using this
      have r := he _ _ _ _ hk' e1
      rw [List.take_succ_eq_append_getElem hkl, List.flatMap_append, Nat.succ_mul, List.take_add]
      exact relL_append (ih (by omega)) (by simpa using r)
  have := key n (Nat.le_refl _)
  rw [← hll, List.take_length, hll, ← hl, List.take_length] at this
  exact this
theorem trod_lit_int {H : Type} {enc : TypeId × Value → H} {sp : Nat → Bool} {held : Bool} {m : Nat} {e : TypeId} {k : IntKind} (he : P.underlying e = some (.int k)) {vs : List Value} {y : DataW H × List MemPlace} {a : Int}
    (h : DataW.trod enc P W 0 sp held m e vs = some y) (hy : y.1 = .lit (.int k a)) : AV.relL (c0 W) [iK k a] vs := by
  obtain ⟨b, rfl, rfl, _⟩ := DataW.trod_int he h
  have : b = a := by simpa using hy
  subst this
  exact ⟨_, _, rfl, rfl, rfl⟩
end
/-! ## what is left as it was -/
theorem to_below {W W' : World} {μ : Mu} {h : AHeap} (t : Cx.To (c0 W) ⟨μ, h, W'⟩) : Below W.heap.size W W' :=
  ⟨t.os, t.tape, t.output, t.size, fun k hk => t.keep k ⟨hk, fun i hi => by obtain ⟨_, hx, _⟩ := hi; exact (hnil hx).elim⟩⟩
theorem trodAll_stays {H : Type} {enc : TypeId × Value → H} {P : Program} (hl : laidOutB P = true) {W W' : World} (hb : Below W.heap.size W W') {sp : Nat → Bool} :
    ∀ {ts : List TypeId} {vs : List Value} {ds : List (DataW H)} {ps : List MemPlace}, (ts.all fun t => P.readableRec t && decide (t < P.types.size)) = true → DataW.TrodAll enc P W 0 (fun _ => true) true ts vs ds ps →
      (∀ x ∈ ps, x.block < W.heap.size) → (∀ x ∈ ps, sp x.block = true) → DataW.TrodAll enc P W' 0 sp true ts vs ds ps
  | [], vs, ds, ps, _, h, _, _ => by
    obtain ⟨rfl, rfl, rfl⟩ := trodAll_nil h
    exact trodAll_mk0
  | t :: ts, vs, ds, ps, ht, h, hlt, hs => by
    obtain ⟨v, vs', d, ds', p, q, rfl, rfl, rfl, h1, h2⟩ := trodAll_cons h
    simp only [List.all_cons, Bool.and_eq_true, decide_eq_true_eq] at ht
    refine ⟨p, q, WideElems.Trod_stays hl ht.1.1 ht.1.2 h1 (fun x hx => hb.same (hlt x (List.mem_append_left _ hx))) (fun x hx => hs x (List.mem_append_left _ hx)), ?_, rfl⟩
    exact trodAll_stays hl hb ht.2 h2 (fun x hx => hlt x (List.mem_append_right _ hx)) (fun x hx => hs x (List.mem_append_right _ hx))
/-- A struct handed to a call. -/
theorem agg_rel {P : Program} {W : World} {t : TypeId} {fs : Array Field} {r : Reach} {base : Nat} {v : Value} (ht : P.underlying t = some (.struct fs)) (h : Value.okWide P W r base t v) {cells : List AV} (hr : AV.relL (c0 W) cells v.cells.toList) (ho : cells.all AV.one = true) :
    AV.rel (c0 W) (.agg cells) v := by
  obtain ⟨cs, rfl, _⟩ := okWide_struct ht h
  exact ⟨cs, rfl, hr, ho⟩
end Go.Proofs.YtjhbobacbaikoaaGreatDoor
/- Plain words: what holds from some fuel on; numbers, lists and strings as the printed functions look at them; loops over a list. -/
namespace Go.Proofs.YtjhbobacbaikoaaGreatDoor
open Go
set_option linter.unusedVariables false
set_option linter.unusedSimpArgs false

/-- From some fuel on. -/
def Al (P : Nat → Prop) : Prop := ∃ N, ∀ n, N ≤ n → P n
theorem Al.of {P : Nat → Prop} (h : ∀ n, P n) : Al P := ⟨0, fun n _ => h n⟩
theorem Al.mono {P Q : Nat → Prop} (h : Al P) (k : ∀ n, P n → Q n) : Al Q := h.imp fun _ h n hn => k n (h n hn)
theorem Al.and {P Q : Nat → Prop} (h : Al P) (k : Al Q) : Al fun n => P n ∧ Q n := by
  obtain ⟨N, h⟩ := h
  obtain ⟨M, k⟩ := k
  exact ⟨max N M, fun n hn => ⟨h n (by omega), k n (by omega)⟩⟩
theorem Al.succ {P : Nat → Prop} (h : Al fun n => P (n + 1)) : Al P := by
  obtain ⟨N, h⟩ := h
  refine ⟨N + 1, fun n hn => ?_⟩
  obtain ⟨m, rfl⟩ : ∃ m, n = m + 1 := ⟨n - 1, by omega⟩
  exact h m (by omega)
theorem Al.shift {P : Nat → Prop} (h : Al P) : Al fun n => P (n + 1) := by
  obtain ⟨N, h⟩ := h
  exact ⟨N, fun n hn => h _ (by omega)⟩
theorem Al.unshift {P : Nat → Prop} (h : Al fun n => P (n + 1)) : Al P := h.succ
theorem Al.get {P : Nat → Prop} (h : Al P) : ∃ n, P n := by obtain ⟨N, h⟩ := h; exact ⟨N, h N (Nat.le_refl _)⟩

theorem w64_of {x : Int} (h : -9223372036854775808 ≤ x) (k : x < 9223372036854775808) : w64 x = x := by
  unfold w64
  rw [IntKind.wrap_i64]
  omega
theorem w64_nat {i : Nat} (h : i < 9223372036854775808) : w64 (i : Int) = i := w64_of (by omega) (by omega)
theorem w64_add {i : Nat} (h : i + 1 < 9223372036854775808) : w64 ((i : Int) + 1) = ((i + 1 : Nat) : Int) := by rw [w64_of (by omega) (by omega)]; omega
theorem w64_pred {i : Nat} (h0 : 0 < i) (h : i < 9223372036854775808) : w64 ((i : Int) - 1) = ((i - 1 : Nat) : Int) := by rw [w64_of (by omega) (by omega)]; omega

theorem rdO_nat {α : Type} {xs : List α} {i : Nat} (h : i < xs.length) : rdO xs (i : Int) = some xs[i] := by
  simp [rdO, h]
theorem rdO_pred {α : Type} {xs : List α} {i : Nat} (h0 : 0 < i) (h : i < xs.length) (hl : xs.length < 9223372036854775808) : rdO xs (w64 ((i : Int) - 1)) = some xs[i - 1] := by
  rw [w64_pred h0 (by omega)]; exact rdO_nat (by omega)
theorem lI_lt {α : Type} {xs : List α} {i : Nat} : ((i : Int) < lI xs) = (i < xs.length) := by simp [lI]
theorem lI_le {α : Type} {xs : List α} : lI xs = (xs.length : Int) := rfl

theorem cast_beq0 (p : Nat) : ((p : Int) == 0) = decide (p = 0) := by
  by_cases h : p = 0
  · subst h; rfl
  · rw [decide_eq_false h, beq_eq_false_iff_ne]; omega
theorem dec_lt (a b : Int) : decide (a < b) = !decide (a ≥ b) := by
  by_cases h : a < b
  · rw [decide_eq_true h, decide_eq_false (by omega)]; rfl
  · rw [decide_eq_false h, decide_eq_true (by omega)]; rfl
theorem dec_gt (a b : Int) : decide (a > b) = !decide (a ≤ b) := by
  by_cases h : a > b
  · rw [decide_eq_true h, decide_eq_false (by omega)]; rfl
  · rw [decide_eq_false h, decide_eq_true (by omega)]; rfl
/-- The byte at a place. -/
theorem btA_nat {s : ByteArray} {i : Nat} (h : i < s.size) : btA s (i : Int) = ((s[i]'h).toNat : Int) := by simp [btA, h]
theorem rdS_nat {s : ByteArray} {i : Nat} (h : i < s.size) : rdS s (i : Int) = some ((s[i]'h).toNat : Int) := by
  simp [rdS, h, btA_nat]
theorem size_list (s : ByteArray) : s.size = s.data.toList.length := by rw [Array.length_toList]; rfl
theorem get_list {s : ByteArray} {i : Nat} (h : i < s.size) : s[i]'h = s.data.toList[i]'(by rw [← size_list]; exact h) := rfl
theorem drop_list {s : ByteArray} {i : Nat} (h : i < s.size) : s.data.toList.drop i = (s[i]'h) :: s.data.toList.drop (i + 1) := by
  rw [get_list h]; exact List.drop_eq_getElem_cons (by rw [← size_list]; exact h)
theorem seq_iff {a b : ByteArray} : seq' a b = true ↔ a = b := by
  unfold seq'
  rw [beq_iff_eq, Lib.toList_data, Lib.toList_data]
  constructor
  · intro h
    cases a; cases b
    simp only [ByteArray.mk.injEq]
    exact Array.ext' h
  · intro h; rw [h]
theorem seq_eq {a b : ByteArray} : seq' a b = decide (a = b) := by
  cases h : seq' a b with
  | true => simp [seq_iff.1 h]
  | false =>
    have : a ≠ b := fun e => by rw [seq_iff.2 e] at h; cases h
    simp [this]
theorem seq_empty {a : ByteArray} : seq' a ByteArray.empty = decide (a.size = 0) := by
  rw [seq_eq]
  by_cases h : a.size = 0
  · rw [decide_eq_true h, decide_eq_true]
    obtain ⟨l⟩ := a
    simp only [ByteArray.size, Array.size_eq_zero_iff] at h
    rw [h]; rfl
  · rw [decide_eq_false h, decide_eq_false]
    intro e; rw [e] at h; exact h rfl

/-- Two loops over the same places: each goes on, or both end alike. -/
theorem loop2 {β : Type} (L M : Nat → Int → Option β) (len : Nat)
    (step : ∀ i : Nat, i < len → (∃ v, Al fun n => L (n + 1) i = some v ∧ M (n + 1) i = some v) ∨ Al fun n => L (n + 1) i = L n ((i + 1 : Nat) : Int) ∧ M (n + 1) i = M n ((i + 1 : Nat) : Int))
    (fin : ∃ v, Al fun n => L (n + 1) len = some v ∧ M (n + 1) len = some v) : ∀ i : Nat, i ≤ len → ∃ v, Al fun n => L n i = some v ∧ M n i = some v := by
  intro i hi
  obtain ⟨k, hk⟩ : ∃ k, i + k = len := ⟨len - i, by omega⟩
  induction k generalizing i with
  | zero =>
    obtain rfl : i = len := by omega
    obtain ⟨v, h⟩ := fin
    exact ⟨v, h.succ⟩
  | succ k ih =>
    rcases step i (by omega) with ⟨v, h⟩ | h
    · exact ⟨v, h.succ⟩
    · obtain ⟨v, h2⟩ := ih (i + 1) (by omega) (by omega)
      exact ⟨v, Al.succ ((h.and h2).mono fun n ⟨⟨a, b⟩, c, d⟩ => ⟨a.trans c, b.trans d⟩)⟩
/-- One loop whose end is known. -/
theorem loop1 {β : Type} (L : Nat → Int → Option β) (len : Nat) (f : Nat → β)
    (step : ∀ i : Nat, i < len → Al fun n => L (n + 1) i = some (f i) ∨ (L (n + 1) i = L n ((i + 1 : Nat) : Int) ∧ f i = f (i + 1)))
    (fin : Al fun n => L (n + 1) len = some (f len)) : ∀ i : Nat, i ≤ len → Al fun n => L n i = some (f i) := by
  intro i hi
  obtain ⟨k, hk⟩ : ∃ k, i + k = len := ⟨len - i, by omega⟩
  induction k generalizing i with
  | zero =>
    obtain rfl : i = len := by omega
    exact fin.succ
  | succ k ih =>
    refine Al.succ (((step i (by omega)).and (ih (i + 1) (by omega) (by omega))).mono fun n ⟨h, h2⟩ => ?_)
    rcases h with h | ⟨h, e⟩
    · exact h
    · rw [h, h2, e]
theorem dec_ge (a b : Int) : decide (a ≥ b) = !decide (a < b) := by
  by_cases h : a < b
  · rw [decide_eq_true h, decide_eq_false (by omega)]; rfl
  · rw [decide_eq_false h, decide_eq_true (by omega)]; rfl
theorem bneT {e : Int} (h : ¬ e = 0) : (e != 0) = true := by rw [bne_iff_ne]; exact h
theorem lI_in {α : Type} {l : List α} {i : Nat} (h : i < l.length) : decide ((i : Int) < lI l) = true := decide_eq_true (by unfold lI; omega)
theorem lI_out {α : Type} {l : List α} : decide (((l.length : Nat) : Int) < lI l) = false := decide_eq_false (by unfold lI; omega)
theorem long_no {α : Type} {l : List α} {k : Nat} (h : ¬ lI l > (k : Int)) : l.length ≤ k := by unfold lI at h; omega
end Go.Proofs.YtjhbobacbaikoaaGreatDoor
/- Sizes of values and conditions. -/

namespace Go.Proofs.YtjhbobacbaikoaaGreatDoor
open Go
set_option linter.unusedVariables false
set_option linter.unusedSimpArgs false
set_option maxRecDepth 100000
def TValue.sm (x : TValue) : Prop := x.gText.size < 4294967281 ∧ x.gList.length < 4294967281 ∧ ∀ s ∈ x.gList, s.size < 4294967281
/-! sizes -/
mutual
def TExpr.sm : TExpr → Prop
  | .mk _ k nm vs ks => k.size < 4294967281 ∧ nm.size < 4294967281 ∧ (∀ v ∈ vs, v.sm) ∧ ks.length < 4294967281 ∧ TExpr.smL ks
def TExpr.smL : List TExpr → Prop
  | [] => True
  | x :: xs => x.sm ∧ TExpr.smL xs
end
theorem TExpr.smL_mem : ∀ {l : List TExpr}, TExpr.smL l → ∀ x ∈ l, x.sm
  | [], _, x, h => by cases h
  | y :: l, hl, x, h => by
    rw [TExpr.smL] at hl
    rcases List.mem_cons.1 h with rfl | h
    · exact hl.1
    · exact TExpr.smL_mem hl.2 x h
theorem TExpr.sm_parts {x : TExpr} (h : x.sm) : x.gKind.size < 4294967281 ∧ x.gName.size < 4294967281 ∧ (∀ v ∈ x.gValues, v.sm) ∧ ∀ k ∈ x.gKids, k.sm := by
  cases x with
  | mk op k nm vs ks => rw [TExpr.sm] at h; exact ⟨h.1, h.2.1, h.2.2.1, fun y hy => TExpr.smL_mem h.2.2.2.2 y hy⟩
end Go.Proofs.YtjhbobacbaikoaaGreatDoor
/- Sizes: what the bound gives; what the listed package variables hold. -/
namespace Go.Proofs.YtjhbobacbaikoaaGreatDoor
open Go Go.ChangeShapes Go.WideShapes Go.RowKit
set_option linter.unusedVariables false
set_option maxRecDepth 100000
/-! ## bulk -/
def fitU {H : Type} (d : DataW H) : Prop := Rows.uptoBulk d ≤ 1048576
theorem bulk_one {H : Type} (d : DataW H) : 1 ≤ Rows.uptoBulk d := by
  cases d with
  | lit l => cases l <;> simp [Rows.uptoBulk]
  | _ => simp [Rows.uptoBulk]
theorem bulk_part {H : Type} {d : DataW H} {l : List (DataW H)} (h : d ∈ l) : Rows.uptoBulk d ≤ Rows.uptoBulkAll l := by
  induction l with
  | nil => cases h
  | cons x r ih =>
    simp only [Rows.uptoBulkAll]
    rcases List.mem_cons.1 h with rfl | e
    · omega
    · have := ih e; omega
theorem bulk_len {H : Type} (l : List (DataW H)) : l.length ≤ Rows.uptoBulkAll l := by
  induction l with
  | nil => simp [Rows.uptoBulkAll]
  | cons x r ih => have := bulk_one x; simp only [Rows.uptoBulkAll, List.length_cons]; omega
theorem fitU_ok {H : Type} : FitOk (H := H) 1048576 fitU where
  str := fun l _ h => by
    unfold fitU at h
    simp only [Rows.uptoBulk] at h
    omega
  sl := fun es sp _ h => by
    unfold fitU at h
    simp only [Rows.uptoBulk] at h
    have := bulk_len es
    refine ⟨by omega, fun e he => ?_⟩
    have := bulk_part he
    unfold fitU; omega
  ag := fun ps h p hp => by
    unfold fitU at h ⊢
    simp only [Rows.uptoBulk] at h
    have := bulk_part hp
    omega
theorem fitU_all {H : Type} {l : List (DataW H)} (h : Rows.uptoSmall H l = true) : ∀ d ∈ l, fitU d := by
  intro d hd
  have h := of_decide_eq_true h
  have := bulk_part hd
  unfold fitU
  omega
/-! ## values of the laws' types -/
section
theorem TValue.ok_sm {B : Nat} (hB : B < 4294967281) {x : TValue} (h : x.ok B) : x.sm := ⟨by have := h.1; omega, by have := h.2.1.1; omega, fun s hs => by have := h.2.1.2 s hs; omega⟩
mutual
theorem TExpr.ok_sm {B : Nat} (hB : B < 4294967281) : ∀ x : TExpr, x.ok B → x.sm
  | .mk op k nm vs ks => fun h => by
    rw [TExpr.ok] at h
    rw [TExpr.sm]
    exact ⟨by have := h.1; omega, by have := h.2.1; omega, fun v hv => TValue.ok_sm hB (h.2.2.1.2 v hv), by have := h.2.2.2.1.1; omega, TExpr.okL_sm hB ks h.2.2.2.1.2⟩
theorem TExpr.okL_sm {B : Nat} (hB : B < 4294967281) : ∀ l : List TExpr, TExpr.okL B l → TExpr.smL l
  | [] => fun h => by rw [TExpr.smL]; trivial
  | x :: xs => fun h => by
    rw [TExpr.okL] at h
    rw [TExpr.smL]
    exact ⟨TExpr.ok_sm hB x h.1, TExpr.okL_sm hB xs h.2⟩
end
end
theorem TExpr.ok_vals {B : Nat} {x : TExpr} (h : x.ok B) : x.gValues.length ≤ B := by
  cases x with
  | mk op k nm vs ks => rw [TExpr.ok] at h; exact h.2.2.1.1
end Go.Proofs.YtjhbobacbaikoaaGreatDoor
/- What the listed package variables hold. -/
namespace Go.Proofs.YtjhbobacbaikoaaGreatDoor
open Go Go.ChangeShapes Go.WideShapes Go.RowKit
set_option linter.unusedVariables false
set_option maxRecDepth 100000
/-! ## the package variables -/
def tabsT (u8 u9 : TypeId) (v8 v9 : Value) : List (Nat × List AV) :=
  [(3, cl_u8 gl_asciiSpace), (4, cl_u8 gl_first), (5, TacceptRange.cl gl_acceptRanges), (10, cl_u64 gl_pow10), (8, [.val (.iface u8 v8)]), (9, [.val (.iface u9 v9)])]
theorem globT (u8 u9 : TypeId) (v8 v9 : Value) : GlobT (genv (tabsT u8 u9 v8 v9)) :=
  ⟨rfl, rfl, rfl, rfl, ⟨u8, v8, rfl⟩, ⟨u9, v9, rfl⟩⟩
theorem laid_holdsT {W : World} {l : List (String × DataW Unit)} (hL : laidMetH Tryz.prog l W) (hp : (l.all fun x => x.2.handleName?.isNone) = true) {i3 i4 i5 i10 : Nat}
    (h3 : l[i3]? = some ("strings.asciiSpace", Rows.laid_strings_asciiSpace)) (h4 : l[i4]? = some ("unicode/utf8.first", Rows.laid_unicode_utf8_first))
    (h5 : l[i5]? = some ("unicode/utf8.acceptRanges", Rows.laid_unicode_utf8_acceptRanges))
    (h10 : l[i10]? = some ("internal/strconv.uint64pow10", Rows.laid_internal_strconv_uint64pow10)) {u8 u9 : TypeId} {v8 v9 : Value} (r8 : AV.rel (c0 W) (.rop [.val (.iface u8 v8)]) (.pointer (some ⟨8, 0, none⟩))) (r9 : AV.rel (c0 W) (.rop [.val (.iface u9 v9)]) (.pointer (some ⟨9, 0, none⟩))) :
    ∀ p ∈ tabsT u8 u9 v8 v9, scL 0 p.2 ∧ AV.rel (c0 W) (.rop p.2) (.pointer (some ⟨p.1, 0, none⟩)) := by
  unfold tabsT
  simp only [List.forall_mem_cons]
  refine ⟨⟨scl_cl_u8 _ _, ?_⟩, ⟨scl_cl_u8 _ _, ?_⟩, ⟨scl_TacceptRange_cl _ _, ?_⟩, ⟨scl_cl_u64 _ _, ?_⟩, ⟨⟨trivial, trivial⟩, r8⟩, ⟨⟨trivial, trivial⟩, r9⟩, by simp⟩
  · exact rop_laid hL hp h3 (t := 179) (by kernel_rfl) (by kernel_rfl) (fun fuel cs p h => trod_tab cs_u8 (fun a => .lit (.int .u8 a)) gl_asciiSpace Tryz.underlying179 (sz := 1) (by kernel_rfl) h (by kernel_rfl) (by kernel_rfl) (fun m vs y a h hy => trod_lit_int Tryz.underlying5 h hy)) (by kernel_rfl)
  · exact rop_laid hL hp h4 (t := 179) (by kernel_rfl) (by kernel_rfl) (fun fuel cs p h => trod_tab cs_u8 (fun a => .lit (.int .u8 a)) gl_first Tryz.underlying179 (sz := 1) (by kernel_rfl) h (by kernel_rfl) (by kernel_rfl) (fun m vs y a h hy => trod_lit_int Tryz.underlying5 h hy)) (by kernel_rfl)
  · refine rop_laid hL hp h5 (t := 185) (by kernel_rfl) (by kernel_rfl) (fun fuel cs p h => trod_tab TacceptRange.cs (fun a => .agg [.lit (.int .u8 a.glo), .lit (.int .u8 a.ghi)]) gl_acceptRanges Tryz.underlying185 (sz := 2) (by kernel_rfl) h (by kernel_rfl) (by kernel_rfl) ?_) (by kernel_rfl)
    intro m vs y a h hy
    obtain ⟨xs, m, rfl, rfl, hl, hlen, hget⟩ := DataW.trod_struct Tryz.underlying184 h
    have hl : vs.length = 2 := hl.trans (by kernel_rfl)
    match xs, hlen with
    | [x0, x1], _ =>
      have e0 := hget 0 _ rfl
      have e1 := hget 1 _ rfl
      simp only [List.map_cons, List.map_nil, DataW.agg.injEq, List.cons.injEq, and_true] at hy
      have c5 : Tryz.prog.cellsOf 5 = 1 := by kernel_rfl
      change DataW.trod _ _ _ _ _ _ _ 5 ((vs.drop 0).take (Tryz.prog.cellsOf 5)) = some x0 at e0
      change DataW.trod _ _ _ _ _ _ _ 5 ((vs.drop 1).take (Tryz.prog.cellsOf 5)) = some x1 at e1
      rw [c5] at e0 e1
      have r0 := trod_lit_int (P := Tryz.prog) (W := W) Tryz.underlying5 e0 hy.1
      have r1 := trod_lit_int (P := Tryz.prog) (W := W) Tryz.underlying5 e1 hy.2
      exact rel_piece (o := 0) (n := 1) r0 (rel_piece (o := 1) (n := 1) r1 (rel_end hl))
  · exact rop_laid hL hp h10 (t := 300) (by kernel_rfl) (by kernel_rfl) (fun fuel cs p h => trod_tab cs_u64 (fun a => .lit (.int .u64 a)) gl_pow10 Tryz.underlying300 (sz := 1) (by kernel_rfl) h (by kernel_rfl) (by kernel_rfl) (fun m vs y a h hy => trod_lit_int Tryz.underlying215 h hy)) (by kernel_rfl)
theorem laid_env {W : World} {l : List (String × DataW Unit)} (hL : laidMetH Tryz.prog l W) (hp : (l.all fun x => x.2.handleName?.isNone) = true) {i3 i4 i5 i8 i9 i10 : Nat}
    (h3 : l[i3]? = some ("strings.asciiSpace", Rows.laid_strings_asciiSpace)) (h4 : l[i4]? = some ("unicode/utf8.first", Rows.laid_unicode_utf8_first))
    (h5 : l[i5]? = some ("unicode/utf8.acceptRanges", Rows.laid_unicode_utf8_acceptRanges)) (h8 : l[i8]? = some ("strconv.ErrSyntax", Rows.laid_strconv_ErrSyntax)) (h9 : l[i9]? = some ("strconv.ErrRange", Rows.laid_strconv_ErrRange))
    (h10 : l[i10]? = some ("internal/strconv.uint64pow10", Rows.laid_internal_strconv_uint64pow10)) : ∃ E : Env, E.holds (c0 W) ∧ GlobT E := by
  obtain ⟨u8, v8, r8⟩ := iface_laid hL hp h8 (g := 8) (t := 219) (by kernel_rfl) (by kernel_rfl) Tryz.underlying219
  obtain ⟨u9, v9, r9⟩ := iface_laid hL hp h9 (g := 9) (t := 219) (by kernel_rfl) (by kernel_rfl) Tryz.underlying219
  refine ⟨genv (tabsT u8 u9 v8 v9), ?_, globT _ _ _ _⟩
  exact laid_holdsT hL hp h3 h4 h5 h10 r8 r9
end Go.Proofs.YtjhbobacbaikoaaGreatDoor
/- Arguments that are no structs, read as Lean values; the tables of the drawn texts. -/
namespace Go.Proofs.YtjhbobacbaikoaaGreatDoor
open Go Go.ChangeShapes Go.WideShapes Go.RowKit
set_option linter.unusedVariables false
set_option maxRecDepth 100000
section
variable {H : Type} {enc : TypeId × Value → H} {P : Program} {W : World} {B : Nat} {Fit : DataW H → Prop}
theorem Rd_intR {n : Nat} {t : TypeId} {k : IntKind} (ht : P.underlying t = some (.int k)) : Rd enc P W Fit n t (fun x : Int => [iK k x]) (fun x => k.min ≤ x ∧ x ≤ k.max) := by
  intro vs x h _
  obtain ⟨m, rfl, _, hw⟩ := DataW.trod_int ht h
  refine ⟨m, ⟨_, _, rfl, rfl, rfl⟩, ?_⟩
  simpa [Lit.wf] using hw
theorem Rd_u8 {n : Nat} {t : TypeId} (ht : P.underlying t = some (.int .u8)) : Rd enc P W Fit n t cs_u8 (fun x => 0 ≤ x ∧ x ≤ 255) := by
  intro vs x h hf
  obtain ⟨m, r, h1, h2⟩ := Rd_intR ht vs x h hf
  exact ⟨m, r, by have e : IntKind.min .u8 = 0 := rfl; omega, by have e : IntKind.max .u8 = 255 := rfl; omega⟩
theorem one_rel {c : Cx} {a : AV} {v : Value} (h : v.cells = #[v]) (hr : AV.relL c [a] v.cells.toList) : AV.rel c a v := by
  rw [h] at hr
  obtain ⟨x, xs, e, h1, _⟩ := hr
  cases e
  exact h1
theorem slice_rel {t e : TypeId} {r : Reach} {base : Nat} {v : Value} {c : Cx} {a : AV} (ht : P.underlying t = some (.slice e)) (h : Value.okWide P W r base t v) (hr : AV.relL c [a] v.cells.toList) : AV.rel c a v := by
  obtain ⟨b, l, k, rfl⟩ := okWide_slice ht h
  exact one_rel rfl hr
theorem int_rel {t : TypeId} {k : IntKind} {r : Reach} {base : Nat} {v : Value} {c : Cx} {a : AV} (ht : P.underlying t = some (.int k)) (h : Value.okWide P W r base t v) (hr : AV.relL c [a] v.cells.toList) : AV.rel c a v := by
  obtain ⟨b, rfl⟩ := okWide_int ht h
  exact one_rel rfl hr
theorem bool_rel {t : TypeId} {r : Reach} {base : Nat} {v : Value} {c : Cx} {a : AV} (ht : P.underlying t = some .bool) (h : Value.okWide P W r base t v) (hr : AV.relL c [a] v.cells.toList) : AV.rel c a v := by
  obtain ⟨b, rfl⟩ := okWide_bool ht h
  exact one_rel rfl hr
theorem trod_lit_str {sp : Nat → Bool} {held : Bool} {m : Nat} {e : TypeId} (he : P.underlying e = some .string) {vs : List Value} {y : DataW H × List MemPlace} {a : ByteArray}
    (h : DataW.trod enc P W 0 sp held m e vs = some y) (hy : y.1 = .lit (.string a.data.toList)) : AV.relL (c0 W) [sA a] vs := by
  obtain ⟨s, rfl, rfl, _⟩ := DataW.trod_string he h
  have e : s.data.toList = a.data.toList := by simpa using hy
  have : s = a := by
    cases s; cases a
    simp only [ByteArray.mk.injEq]
    exact Array.ext' e
  subst this
  exact ⟨_, _, rfl, rfl, rfl⟩
theorem trod_sl_tab {α : Type} {sp : Nat → Bool} {held : Bool} {m : Nat} {t e : TypeId} {sz : Nat} {vs : List Value} {y : DataW H × List MemPlace} (f : α → List AV) (gd : α → DataW H) (l : List α) {rs : List (DataW H)}
    (ht : P.underlying t = some (.slice e)) (hsz : P.cellsOf e = sz) (h : DataW.trod enc P W 0 sp held m t vs = some y) (hy : y.1 = .slice (l.map gd) rs) (h1 : ∀ x, (f x).all AV.one = true)
    (he : ∀ m vs y a, DataW.trod enc P W 0 sp held m e vs = some y → y.1 = gd a → AV.relL (c0 W) (f a) vs) : AV.relL (c0 W) [.ro .unk l.length (l.flatMap f)] vs := by
  rcases DataW.trod_slice ht h with ⟨rfl, rfl⟩ | ⟨a, len, cap, elems, rest, m, rfl, rfl, rfl, _, hlc, hcm, hel, hget, _, _⟩
  · cases hy
  rw [hsz] at hget
  have hm : elems.map (·.1) = l.map gd := by
    have := hy
    simp only [DataW.slice.injEq] at this
    exact this.1
  have hll : l.length = len := by rw [← hel]; simpa using (congrArg List.length hm).symm
  have key : ∀ k, k ≤ len → ∃ us : List Value, us.length = k * sz ∧ AV.relL (c0 W) ((l.take k).flatMap f) us ∧ ∀ j u, us[j]? = some u → W.cell? (a.add j) = some u := by
    intro k
    induction k with
    | zero => intro _; exact ⟨[], by simp, rfl, by simp⟩
    | succ k ih =>
      intro hk
      obtain ⟨us, e2, e3, e5⟩ := ih (by omega)
      have hkl : k < l.length := by omega
      have hk' : k < elems.length := by omega
      have := hget k (by omega)
      rw [List.getElem?_eq_getElem hk'] at this
      obtain ⟨cv, c1, c2⟩ := Option.bind_eq_some_iff.1 this
      obtain ⟨l1, l2⟩ := cells_get c1
      have e1 : (elems[k]).1 = gd l[k] := by
        have := congrArg (fun z => z[k]?) hm
        simpa [hkl, hk'] using this
      have r1 := he _ _ _ _ c2 e1
      refine ⟨us ++ cv, by rw [List.length_append, e2, l1, Nat.succ_mul], ?_, ?_⟩
      · rw [List.take_succ_eq_append_getElem hkl, List.flatMap_append]
        exact relL_append e3 (by simpa using r1)
      · intro j u hj
        by_cases hjl : j < us.length
        · rw [List.getElem?_append_left hjl] at hj
          exact e5 j u hj
        · rw [List.getElem?_append_right (by omega)] at hj
          have := l2 _ _ hj
          rw [add_add] at this
          rw [← this]
          congr 2; omega
  obtain ⟨us, e2, e3, e5⟩ := key len (Nat.le_refl _)
  rw [← hll, List.take_length] at e3
  refine ⟨_, _, rfl, ⟨some a, cap, us, by rw [hll], ⟨by rw [hll]; exact hlc, hcm, fun h => by cases h⟩, e3, ?_, ?_⟩, rfl⟩
  · rw [List.all_eq_true]
    intro z hz
    obtain ⟨y, hy, hz⟩ := List.mem_flatMap.1 hz
    exact List.all_eq_true.1 (h1 y) z hz
  · cases hus : us with
    | nil => exact .inl rfl
    | cons u0 ut =>
      refine .inr ⟨a, rfl, fun j hj => ?_, by rw [← hus]; exact e5⟩
      rw [← hus] at hj
      have hc := e5 j (us[j]) (List.getElem?_eq_getElem hj)
      have := cell_lt hc
      rw [add_block] at this
      exact still0 this
end
/-! ## the tables of the drawn texts -/
def tabsD (u8 u9 : TypeId) (v8 v9 : Value) : List (Nat × List AV) := (0, cl_str gl_versions) :: (1, cl_l_cl_str gl_lists) :: (2, cl_str gl_texts) :: tabsT u8 u9 v8 v9
theorem globD (u8 u9 : TypeId) (v8 v9 : Value) : GlobD (genv (tabsD u8 u9 v8 v9)) where
  g3 := rfl
  g4 := rfl
  g5 := rfl
  g10 := rfl
  g8 := ⟨u8, v8, rfl⟩
  g9 := ⟨u9, v9, rfl⟩
  g0 := rfl
  g1 := rfl
  g2 := rfl
def strD {H : Type} (a : ByteArray) : DataW H := .lit (.string a.data.toList)
theorem laid_envD {W : World} {l : List (String × DataW Unit)} (hL : laidMetH Tryz.prog l W) (hp : (l.all fun x => x.2.handleName?.isNone) = true) {i0 i1 i2 i3 i4 i5 i8 i9 i10 : Nat}
    (h0 : l[i0]? = some ("flagstone/flagstonedraw.versions", Rows.laid_flagstone_flagstonedraw_versions)) (h1 : l[i1]? = some ("flagstone/flagstonedraw.lists", Rows.laid_flagstone_flagstonedraw_lists)) (h2 : l[i2]? = some ("flagstone/flagstonedraw.texts", Rows.laid_flagstone_flagstonedraw_texts))
    (h3 : l[i3]? = some ("strings.asciiSpace", Rows.laid_strings_asciiSpace)) (h4 : l[i4]? = some ("unicode/utf8.first", Rows.laid_unicode_utf8_first))
    (h5 : l[i5]? = some ("unicode/utf8.acceptRanges", Rows.laid_unicode_utf8_acceptRanges)) (h8 : l[i8]? = some ("strconv.ErrSyntax", Rows.laid_strconv_ErrSyntax)) (h9 : l[i9]? = some ("strconv.ErrRange", Rows.laid_strconv_ErrRange))
    (h10 : l[i10]? = some ("internal/strconv.uint64pow10", Rows.laid_internal_strconv_uint64pow10)) : ∃ E : Env, E.holds (c0 W) ∧ GlobD E := by
  obtain ⟨u8, v8, r8⟩ := iface_laid hL hp h8 (g := 8) (t := 219) (by kernel_rfl) (by kernel_rfl) Tryz.underlying219
  obtain ⟨u9, v9, r9⟩ := iface_laid hL hp h9 (g := 9) (t := 219) (by kernel_rfl) (by kernel_rfl) Tryz.underlying219
  have hT := laid_holdsT hL hp h3 h4 h5 h10 r8 r9
  refine ⟨genv (tabsD u8 u9 v8 v9), ?_, globD _ _ _ _⟩
  show ∀ p ∈ tabsD u8 u9 v8 v9, _
  unfold tabsD
  rw [List.forall_mem_cons, List.forall_mem_cons, List.forall_mem_cons]
  refine ⟨⟨scl_cl_str _ _, ?_⟩, ⟨scl_cl_l_cl_str _ _, ?_⟩, ⟨scl_cl_str _ _, ?_⟩, hT⟩
  · exact rop_laid hL hp h0 (t := 156) (by kernel_rfl) (by kernel_rfl) (fun fuel cs p h => trod_tab cs_str strD gl_versions Tryz.underlying156 (sz := 1) (by kernel_rfl) h (by kernel_rfl) (by kernel_rfl) (fun m vs y a h hy => trod_lit_str Tryz.underlying9 h hy)) (by kernel_rfl)
  · exact rop_laid hL hp h1 (t := 157) (by kernel_rfl) (by kernel_rfl) (fun fuel cs p h => trod_tab cs_l_cs_str (fun l => .slice (l.map strD) []) gl_lists Tryz.underlying157 (sz := 1) (by kernel_rfl) h (by kernel_rfl) (by kernel_rfl)
      (fun m vs y a h hy => trod_sl_tab cs_str strD a Tryz.underlying32 (sz := 1) (by kernel_rfl) h hy (fun _ => rfl) (fun m vs y a h hy => trod_lit_str Tryz.underlying9 h hy))) (by kernel_rfl)
  · exact rop_laid hL hp h2 (t := 158) (by kernel_rfl) (by kernel_rfl) (fun fuel cs p h => trod_tab cs_str strD gl_texts Tryz.underlying158 (sz := 1) (by kernel_rfl) h (by kernel_rfl) (by kernel_rfl) (fun m vs y a h hy => trod_lit_str Tryz.underlying9 h hy)) (by kernel_rfl)
end Go.Proofs.YtjhbobacbaikoaaGreatDoor
/-
  DERIVED: THE SHELF's CONTRACTS AT THIS DUMP, IN PLAIN WORDS (tools/lay-plain.mjs out of 'TryzShelf.lean', which tools/lay-shelf.mjs wrote): THE SAME DECLARATIONS UNDER THE SAME NAMES: 'import', 'namespace', 'open', 'def', 'theorem' AND NOTHING ELSE: no command of the shelf's: FOR A HAND-IN. Each laying: the table of numbers ('.._ren') and one theorem, a field a fact of the dump's own or the kernel's comparison; each contract: ONE APPLICATION.
-/
namespace Go.Proofs
open Go.Shelf
def Tryz.lays106_ren : Go.Shelf.Ren := ⟨fun | 106 => 122 | 213 => 152 | 265 => 176 | n => n, fun | 9 => 9 | 3 => 3 | n => n, fun | n => n⟩
theorem Tryz.lays106 : Go.Proofs.Lays.n106 Tryz.prog Tryz.lays106_ren := {
  mixed := by kernel_rfl
  f106 := Tryz.func122.trans (congrArg some (by kernel_rfl))
  f213 := Tryz.func152.trans (congrArg some (by kernel_rfl))
  f265 := Tryz.func176.trans (congrArg some (by kernel_rfl))
  t3 := Tryz.underlying3
  a3 := Tryz.isAgg3
  z3 := Tryz.sizeOf3
  v3 := Tryz.zeroValue3
  t9 := Tryz.underlying9
  a9 := Tryz.isAgg9
  z9 := Tryz.sizeOf9
  v9 := Tryz.zeroValue9 }
open Go.RowKit in
/-- strings.Compare: "Compare returns an integer comparing two strings lexicographically. The result will be 0 if a == b, -1 if a < b, and +1 if a > b.": IT RETURNS 'Lib.compareBytes a b'; the world is as it was. (LAID: no walk: one application.) -/
theorem Tryz.strings_Compare (a b : ByteArray) (w : World) :
    Calls Tryz.prog 122 #[.string a, .string b] w fun e w' => e = .returned (.int .i64 (Lib.compareBytes a.data.toList b.data.toList)) ∧ w' = w := Any.strings_Compare Tryz.lays106 a b w
def Tryz.laysC172_ren : Go.Shelf.Ren := ⟨fun | 172 => 156 | 244 => 183 | 245 => 184 | 247 => 198 | 279 => 199 | 280 => 200 | 281 => 201 | 282 => 202 | 287 => 212 | 316 => 213 | 171 => 215 | 205 => 214 | 321 => 219 | 322 => 220 | 243 => 221 | 246 => 223 | 283 => 224 | 284 => 225 | 285 => 226 | 286 => 227 | 129 => 229 | 317 => 228 | 318 => 230 | 319 => 231 | 320 => 232 | 337 => 233 | 338 => 234 | n => n, fun | 9 => 9 | 3 => 3 | 75 => 219 | 76 => 220 | 4 => 4 | 5 => 5 | 167 => 265 | 37 => 26 | 0 => 0 | 85 => 266 | 2 => 2 | 168 => 268 | 53 => 215 | 175 => 277 | 46 => 186 | 210 => 281 | 127 => 288 | 145 => 291 | 143 => 289 | 21 => 21 | 171 => 294 | 173 => 297 | 212 => 300 | 51 => 212 | 20 => 20 | 213 => 301 | 232 => 304 | 233 => 305 | 80 => 102 | n => n, fun | 15 => 8 | 16 => 9 | 17 => 10 | 18 => 11 | 19 => 12 | n => n⟩
theorem Tryz.laysC172 : Go.Proofs.LaysC.n172 Tryz.prog Tryz.laysC172_ren := {
  mixed := by kernel_rfl
  f129 := Tryz.func229.trans (congrArg some (by kernel_rfl))
  f171 := Tryz.func215.trans (congrArg some (by kernel_rfl))
  f172 := Tryz.func156.trans (congrArg some (by kernel_rfl))
  f205 := Tryz.func214.trans (congrArg some (by kernel_rfl))
  f243 := Tryz.func221.trans (congrArg some (by kernel_rfl))
  f244 := Tryz.func183.trans (congrArg some (by kernel_rfl))
  f245 := Tryz.func184.trans (congrArg some (by kernel_rfl))
  f246 := Tryz.func223.trans (congrArg some (by kernel_rfl))
  f247 := Tryz.func198.trans (congrArg some (by kernel_rfl))
  f279 := Tryz.func199.trans (congrArg some (by kernel_rfl))
  f280 := Tryz.func200.trans (congrArg some (by kernel_rfl))
  f281 := Tryz.func201.trans (congrArg some (by kernel_rfl))
  f282 := Tryz.func202.trans (congrArg some (by kernel_rfl))
  f283 := Tryz.func224.trans (congrArg some (by kernel_rfl))
  f284 := Tryz.func225.trans (congrArg some (by kernel_rfl))
  f285 := Tryz.func226.trans (congrArg some (by kernel_rfl))
  f286 := Tryz.func227.trans (congrArg some (by kernel_rfl))
  f287 := Tryz.func212.trans (congrArg some (by kernel_rfl))
  f316 := Tryz.func213.trans (congrArg some (by kernel_rfl))
  f317 := Tryz.func228.trans (congrArg some (by kernel_rfl))
  f318 := Tryz.func230.trans (congrArg some (by kernel_rfl))
  f319 := Tryz.func231.trans (congrArg some (by kernel_rfl))
  f320 := Tryz.func232.trans (congrArg some (by kernel_rfl))
  f321 := Tryz.func219.trans (congrArg some (by kernel_rfl))
  f322 := Tryz.func220.trans (congrArg some (by kernel_rfl))
  f337 := Tryz.func233.trans (congrArg some (by kernel_rfl))
  f338 := Tryz.func234.trans (congrArg some (by kernel_rfl))
  t0 := Tryz.underlying0
  a0 := Tryz.isAgg0
  z0 := Tryz.sizeOf0
  v0 := Tryz.zeroValue0
  t2 := Tryz.underlying2
  a2 := Tryz.isAgg2
  z2 := Tryz.sizeOf2
  v2 := Tryz.zeroValue2
  t3 := Tryz.underlying3
  a3 := Tryz.isAgg3
  z3 := Tryz.sizeOf3
  v3 := Tryz.zeroValue3
  t4 := Tryz.underlying4
  a4 := Tryz.isAgg4
  z4 := Tryz.sizeOf4
  v4 := Tryz.zeroValue4
  t5 := Tryz.underlying5
  a5 := Tryz.isAgg5
  z5 := Tryz.sizeOf5
  v5 := Tryz.zeroValue5
  t9 := Tryz.underlying9
  a9 := Tryz.isAgg9
  z9 := Tryz.sizeOf9
  v9 := Tryz.zeroValue9
  t20 := Tryz.underlying20
  a20 := Tryz.isAgg20
  z20 := Tryz.sizeOf20
  v20 := Tryz.zeroValue20
  t21 := Tryz.underlying21
  a21 := Tryz.isAgg21
  z21 := Tryz.sizeOf21
  v21 := Tryz.zeroValue21
  t37 := Tryz.underlying26
  a37 := Tryz.isAgg26
  z37 := Tryz.sizeOf26
  v37 := Tryz.zeroValue26
  t46 := Tryz.underlying186
  a46 := Tryz.isAgg186
  z46 := Tryz.sizeOf186
  v46 := Tryz.zeroValue186
  t51 := Tryz.underlying212
  a51 := Tryz.isAgg212
  z51 := Tryz.sizeOf212
  v51 := Tryz.zeroValue212
  t53 := Tryz.underlying215
  a53 := Tryz.isAgg215
  z53 := Tryz.sizeOf215
  v53 := Tryz.zeroValue215
  t75 := Tryz.underlying219
  a75 := Tryz.isAgg219
  z75 := Tryz.sizeOf219
  v75 := Tryz.zeroValue219
  t76 := Tryz.underlying220
  a76 := Tryz.isAgg220
  z76 := Tryz.sizeOf220
  v76 := Tryz.zeroValue220
  t85 := Tryz.underlying266
  a85 := Tryz.isAgg266
  z85 := Tryz.sizeOf266
  v85 := Tryz.zeroValue266
  t127 := Tryz.underlying288
  a127 := Tryz.isAgg288
  z127 := Tryz.sizeOf288
  v127 := Tryz.zeroValue288
  t143 := Tryz.underlying289
  a143 := Tryz.isAgg289
  z143 := Tryz.sizeOf289
  v143 := Tryz.zeroValue289
  t145 := Tryz.underlying291
  a145 := Tryz.isAgg291
  z145 := Tryz.sizeOf291
  v145 := Tryz.zeroValue291
  t167 := Tryz.underlying265
  a167 := Tryz.isAgg265
  z167 := Tryz.sizeOf265
  v167 := Tryz.zeroValue265
  t168 := Tryz.underlying268
  a168 := Tryz.isAgg268
  z168 := Tryz.sizeOf268
  v168 := Tryz.zeroValue268
  t171 := Tryz.underlying294
  a171 := Tryz.isAgg294
  z171 := Tryz.sizeOf294
  v171 := Tryz.zeroValue294
  t173 := Tryz.underlying297
  a173 := Tryz.isAgg297
  z173 := Tryz.sizeOf297
  v173 := Tryz.zeroValue297
  t175 := Tryz.underlying277
  a175 := Tryz.isAgg277
  z175 := Tryz.sizeOf277
  v175 := Tryz.zeroValue277
  t210 := Tryz.underlying281
  a210 := Tryz.isAgg281
  z210 := Tryz.sizeOf281
  v210 := Tryz.zeroValue281
  t212 := Tryz.underlying300
  a212 := Tryz.isAgg300
  z212 := Tryz.sizeOf300
  v212 := Tryz.zeroValue300
  t213 := Tryz.underlying301
  a213 := Tryz.isAgg301
  z213 := Tryz.sizeOf301
  t232 := Tryz.underlying304
  a232 := Tryz.isAgg304
  z232 := Tryz.sizeOf304
  v232 := Tryz.zeroValue304
  t233 := Tryz.underlying305
  a233 := Tryz.isAgg305
  z233 := Tryz.sizeOf305
  v233 := Tryz.zeroValue305
  g15 := by kernel_rfl
  g16 := by kernel_rfl
  g17 := by kernel_rfl
  g18 := by kernel_rfl
  g19 := by kernel_rfl
  t80 := Tryz.underlying102
  a80 := Tryz.isAgg102
  z80 := Tryz.sizeOf102
  v80 := Tryz.zeroValue102
  i0 := by kernel_rfl
  i2 := by kernel_rfl
  i3 := by kernel_rfl
  i4 := by kernel_rfl
  i5 := by kernel_rfl
  i9 := by kernel_rfl
  i20 := by kernel_rfl
  i21 := by kernel_rfl
  i37 := by kernel_rfl
  i46 := by kernel_rfl
  i51 := by kernel_rfl
  i53 := by kernel_rfl
  i75 := by kernel_rfl
  i76 := by kernel_rfl
  i80 := by kernel_rfl
  i85 := by kernel_rfl
  i127 := by kernel_rfl
  i143 := by kernel_rfl
  i145 := by kernel_rfl
  i167 := by kernel_rfl
  i168 := by kernel_rfl
  i171 := by kernel_rfl
  i173 := by kernel_rfl
  i175 := by kernel_rfl
  i210 := by kernel_rfl
  i212 := by kernel_rfl
  i232 := by kernel_rfl
  i233 := by kernel_rfl
  m15 := by kernel_rfl
  m16 := by kernel_rfl
  m17 := by kernel_rfl
  m18 := by kernel_rfl
  m19 := by kernel_rfl
  c0 := by kernel_rfl
  c2 := by kernel_rfl
  c3 := by kernel_rfl
  c4 := by kernel_rfl
  c5 := by kernel_rfl
  c9 := by kernel_rfl
  c20 := by kernel_rfl
  c21 := by kernel_rfl
  c37 := by kernel_rfl
  c46 := by kernel_rfl
  c51 := by kernel_rfl
  c53 := by kernel_rfl
  c75 := by kernel_rfl
  c76 := by kernel_rfl
  c80 := by kernel_rfl
  c85 := by kernel_rfl
  c127 := by kernel_rfl
  c143 := by kernel_rfl
  c145 := by kernel_rfl
  c167 := by kernel_rfl
  c168 := by kernel_rfl
  c171 := by kernel_rfl
  c173 := by kernel_rfl
  c175 := by kernel_rfl
  c210 := by kernel_rfl
  c212 := by kernel_rfl
  c213 := by kernel_rfl
  c232 := by kernel_rfl
  c233 := by kernel_rfl }
open Go.RowKit in
/-- strconv.Atoi, AT EVERY STRING THAT SPELLS AN int ('Lib.atoiAll .. = .ok v'; of whatever length: leading zeros count): v, AND NO ERROR. The world: as it was, or with the one new row that '[]byte(..)' lays. (LAID: no walk: one application.) -/
theorem Tryz.strconv_Atoi_ok (s : ByteArray) (hmax : s.size ≤ 9223372036854775806) (v : Int) (h : Lib.atoiAll s.data.toList = .ok v) (w : World) :
    Calls Tryz.prog 156 #[.string s] w fun e w' => e = .returned (.tuple #[.int .i64 v, .nilIface]) ∧ (w' = w ∨ ∃ t, w' = Lib.bytesWorld w 5 t) := Any.strconv_Atoi_ok Tryz.laysC172 s hmax v h w
open Go.RowKit in
/-- strconv.Atoi, AT EVERY STRING THAT IS NO DECIMAL NUMERAL ('.syntax'): 0, AND AN ERROR THAT IS NOT nil: a *NumError in a new block N: {Func: "Atoi", Num: s's bytes, Err: what the variable ErrSyntax holds}. Of what was there nothing has turned. (LAID: no walk: one application.) -/
theorem Tryz.strconv_Atoi_syntax (s : ByteArray) (hlim : s.size ≤ 281474976710656) (h : Lib.atoiAll s.data.toList = Lib.atoiAll []) (ev : Value) (w : World) (hv : w.cell? ⟨8, 0, none⟩ = some ev) (hev : ev = .nilIface ∨ ∃ te pe, ev = .iface te pe) :
    Calls Tryz.prog 156 #[.string s] w fun e w' => ∃ N, e = .returned (.tuple #[.int .i64 (0), .iface 268 (.pointer (some ⟨N, 0, none⟩))]) ∧ w.heap.size ≤ N ∧ w'.heap[N]? = some (.cells #[.string ⟨#[65, 116, 111, 105]⟩, .string s, ev] 281 (0, 0)) ∧ Below w.heap.size w w' := Any.strconv_Atoi_syntax Tryz.laysC172 s hlim h ev w hv hev
open Go.RowKit in
/-- strconv.Atoi, AT EVERY NUMERAL THAT NO int HOLDS ('.range'): THE GREATEST OR THE LEAST int, BY THE SIGN ('Lib.atoiSat'), AND AN ERROR THAT IS NOT nil: a *NumError in a new block N: {Func: "Atoi", Num: s's bytes, Err: what the variable ErrRange holds}. Of what was there nothing has turned. (LAID: no walk: one application.) -/
theorem Tryz.strconv_Atoi_range (s : ByteArray) (hlim : s.size ≤ 281474976710656) (h : Lib.atoiAll s.data.toList = .range) (ev : Value) (w : World) (hv : w.cell? ⟨9, 0, none⟩ = some ev) (hev : ev = .nilIface ∨ ∃ te pe, ev = .iface te pe) :
    Calls Tryz.prog 156 #[.string s] w fun e w' => ∃ N, e = .returned (.tuple #[.int .i64 (Lib.atoiSat s.data.toList), .iface 268 (.pointer (some ⟨N, 0, none⟩))]) ∧ w.heap.size ≤ N ∧ w'.heap[N]? = some (.cells #[.string ⟨#[65, 116, 111, 105]⟩, .string s, ev] 281 (0, 0)) ∧ Below w.heap.size w w' := Any.strconv_Atoi_range Tryz.laysC172 s hlim h ev w hv hev
def Tryz.lays146_ren : Go.Shelf.Ren := ⟨fun | 146 => 132 | 221 => 154 | 268 => 179 | 138 => 180 | 143 => 181 | 195 => 193 | 197 => 194 | 218 => 195 | 219 => 196 | 260 => 207 | 217 => 208 | 225 => 209 | 224 => 210 | 267 => 211 | 266 => 217 | 314 => 218 | n => n, fun | 9 => 9 | 31 => 32 | 3 => 3 | 4 => 4 | 0 => 0 | 105 => 261 | 21 => 21 | 5 => 5 | 46 => 186 | 119 => 179 | 139 => 185 | 138 => 184 | 146 => 285 | 51 => 212 | n => n, fun | 1 => 7 | 3 => 4 | 4 => 5 | n => n⟩
theorem Tryz.lays146 : Go.Proofs.Lays.n146 Tryz.prog Tryz.lays146_ren := {
  mixed := by kernel_rfl
  f138 := Tryz.func180.trans (congrArg some (by kernel_rfl))
  f143 := Tryz.func181.trans (congrArg some (by kernel_rfl))
  f146 := Tryz.func132.trans (congrArg some (by kernel_rfl))
  f195 := Tryz.func193.trans (congrArg some (by kernel_rfl))
  f197 := Tryz.func194.trans (congrArg some (by kernel_rfl))
  f217 := Tryz.func208.trans (congrArg some (by kernel_rfl))
  f218 := Tryz.func195.trans (congrArg some (by kernel_rfl))
  f219 := Tryz.func196.trans (congrArg some (by kernel_rfl))
  f221 := Tryz.func154.trans (congrArg some (by kernel_rfl))
  f224 := Tryz.func210.trans (congrArg some (by kernel_rfl))
  f225 := Tryz.func209.trans (congrArg some (by kernel_rfl))
  f260 := Tryz.func207.trans (congrArg some (by kernel_rfl))
  f266 := Tryz.func217.trans (congrArg some (by kernel_rfl))
  f267 := Tryz.func211.trans (congrArg some (by kernel_rfl))
  f268 := Tryz.func179.trans (congrArg some (by kernel_rfl))
  f314 := Tryz.func218.trans (congrArg some (by kernel_rfl))
  t0 := Tryz.underlying0
  a0 := Tryz.isAgg0
  z0 := Tryz.sizeOf0
  v0 := Tryz.zeroValue0
  t3 := Tryz.underlying3
  a3 := Tryz.isAgg3
  z3 := Tryz.sizeOf3
  v3 := Tryz.zeroValue3
  t4 := Tryz.underlying4
  a4 := Tryz.isAgg4
  z4 := Tryz.sizeOf4
  v4 := Tryz.zeroValue4
  t5 := Tryz.underlying5
  a5 := Tryz.isAgg5
  z5 := Tryz.sizeOf5
  v5 := Tryz.zeroValue5
  t9 := Tryz.underlying9
  a9 := Tryz.isAgg9
  z9 := Tryz.sizeOf9
  v9 := Tryz.zeroValue9
  t21 := Tryz.underlying21
  a21 := Tryz.isAgg21
  z21 := Tryz.sizeOf21
  v21 := Tryz.zeroValue21
  t31 := Tryz.underlying32
  a31 := Tryz.isAgg32
  z31 := Tryz.sizeOf32
  v31 := Tryz.zeroValue32
  t46 := Tryz.underlying186
  a46 := Tryz.isAgg186
  z46 := Tryz.sizeOf186
  v46 := Tryz.zeroValue186
  t51 := Tryz.underlying212
  a51 := Tryz.isAgg212
  z51 := Tryz.sizeOf212
  v51 := Tryz.zeroValue212
  t105 := Tryz.underlying261
  a105 := Tryz.isAgg261
  z105 := Tryz.sizeOf261
  v105 := Tryz.zeroValue261
  t119 := Tryz.underlying179
  a119 := Tryz.isAgg179
  z119 := Tryz.sizeOf179
  t138 := Tryz.underlying184
  a138 := Tryz.isAgg184
  z138 := Tryz.sizeOf184
  v138 := Tryz.zeroValue184
  t139 := Tryz.underlying185
  a139 := Tryz.isAgg185
  z139 := Tryz.sizeOf185
  v139 := Tryz.zeroValue185
  t146 := Tryz.underlying285
  a146 := Tryz.isAgg285
  z146 := Tryz.sizeOf285
  v146 := Tryz.zeroValue285
  g1 := by kernel_rfl
  g3 := by kernel_rfl
  g4 := by kernel_rfl }
set_option maxHeartbeats 1000000 in
open Go.RowKit Go.Lib in
/-- strings.Split at a separator of one byte. -/
theorem Tryz.strings_Split_one (s : ByteArray) (c : UInt8) (w : World) (hs : s.size < 4294967281) :
    Calls Tryz.prog 132 #[.string s, .string ⟨#[c]⟩] w fun e w' =>
      e = .returned (.slice (some ⟨w.heap.size, 0, none⟩) (Lib.countB s ⟨#[c]⟩ + 1) (Lib.countB s ⟨#[c]⟩ + 1)) ∧ w' = w.alloc (.cells ((Lib.splitB ⟨#[c]⟩ 0 (Lib.countB s ⟨#[c]⟩) s).map Value.string).toArray 9) := by
  have L := Tryz.lays146
  have h1 : 1 ≤ (⟨#[c]⟩ : ByteArray).size := Nat.le_refl 1
  have hle := Lib.countB_le ⟨#[c]⟩ h1 s.size s (Nat.le_refl _)
  have hlen := Lib.splitB_all ⟨#[c]⟩ h1 0 _ s rfl
  have cc := Any.strings_genSplit_core (P := Tryz.prog) (ρ := Tryz.lays146_ren) { L with } (by kernel_rfl) s ⟨#[c]⟩ 0 (-1) (Lib.countB s ⟨#[c]⟩ + 1) w hs h1 (Nat.zero_le _)
    (fun x d hx => (Any.strings_Index_one { L with } x c _).mono fun e w' ⟨he, hw⟩ => ⟨by rw [he]; exact congrArg (fun z => Ending.returned (Value.int .i64 z)) (Lib.index_one _ _).symm, hw⟩)
    ((Any.strings_Count_one { L with } s c w).mono fun e w' ⟨he, hw⟩ => ⟨by
      rw [he]
      show _ = Ending.returned (Value.int .i64 ((Lib.count s.data.toList [c] : Nat) : Int))
      rw [Lib.count_one]
      rfl, hw⟩) (by decide) (by decide) (by rw [if_pos (by decide)]; omega)
  rw [Nat.add_sub_cancel, hlen] at cc
  have e2 : Lib.cellsOf (Lib.splitB ⟨#[c]⟩ 0 (Lib.countB s ⟨#[c]⟩) s) (Lib.countB s ⟨#[c]⟩ + 1) = ((Lib.splitB ⟨#[c]⟩ 0 (Lib.countB s ⟨#[c]⟩) s).map Value.string).toArray := by rw [← hlen]; exact Lib.cellsOf_full _
  rw [e2] at cc
  have t3 := L.t3; have t9 := L.t9; have t31 := L.t31
  have a3 := L.a3; have a9 := L.a9; have a31 := L.a31
  have z3 := L.z3; have v3 := L.v3; have z9 := L.z9; have v9 := L.v9; have z31 := L.z31; have v31 := L.v31
  have e221 : ∀ args w, (callFunc (Tryz.lays146_ren.f 221) args).run Tryz.prog w = .ok (.enter (Tryz.lays146_ren.f 221) args) w := enters_of L.f221 (by kernel_rfl) rfl
  show Calls Tryz.prog (Tryz.lays146_ren.f 146) _ _ _
  go_enter L.f146, Body.n146_ntmps Tryz.lays146_ren
  go_wp2_with (go_at_fn (Tryz.lays146_ren.f 221); refine cc.mono ?_; rintro e w' ⟨rfl, hw⟩; rw [hw])
  go_ret
  exact ⟨rfl, rfl⟩
def Tryz.lays157_ren : Go.Shelf.Ren := ⟨fun | 157 => 109 | 229 => 129 | 199 => 130 | 261 => 153 | 311 => 177 | 312 => 178 | n => n, fun | 9 => 9 | 31 => 32 | 3 => 3 | 5 => 5 | 4 => 4 | 119 => 179 | 0 => 0 | 40 => 181 | 152 => 209 | 21 => 21 | 154 => 211 | 51 => 212 | 141 => 214 | 196 => 238 | 193 => 235 | 198 => 241 | 49 => 239 | 194 => 236 | 201 => 244 | 226 => 258 | 46 => 186 | 227 => 259 | n => n, fun | 0 => 3 | 6 => 6 | n => n⟩
theorem Tryz.lays157 : Go.Proofs.Lays.n157 Tryz.prog Tryz.lays157_ren := {
  mixed := by kernel_rfl
  f157 := Tryz.func109.trans (congrArg some (by kernel_rfl))
  f199 := Tryz.func130.trans (congrArg some (by kernel_rfl))
  f229 := Tryz.func129.trans (congrArg some (by kernel_rfl))
  f261 := Tryz.func153.trans (congrArg some (by kernel_rfl))
  f311 := Tryz.func177.trans (congrArg some (by kernel_rfl))
  f312 := Tryz.func178.trans (congrArg some (by kernel_rfl))
  t0 := Tryz.underlying0
  a0 := Tryz.isAgg0
  z0 := Tryz.sizeOf0
  v0 := Tryz.zeroValue0
  t3 := Tryz.underlying3
  a3 := Tryz.isAgg3
  z3 := Tryz.sizeOf3
  v3 := Tryz.zeroValue3
  t4 := Tryz.underlying4
  a4 := Tryz.isAgg4
  z4 := Tryz.sizeOf4
  v4 := Tryz.zeroValue4
  t5 := Tryz.underlying5
  a5 := Tryz.isAgg5
  z5 := Tryz.sizeOf5
  v5 := Tryz.zeroValue5
  t9 := Tryz.underlying9
  a9 := Tryz.isAgg9
  z9 := Tryz.sizeOf9
  v9 := Tryz.zeroValue9
  t21 := Tryz.underlying21
  a21 := Tryz.isAgg21
  z21 := Tryz.sizeOf21
  v21 := Tryz.zeroValue21
  t31 := Tryz.underlying32
  a31 := Tryz.isAgg32
  z31 := Tryz.sizeOf32
  v31 := Tryz.zeroValue32
  t40 := Tryz.underlying181
  a40 := Tryz.isAgg181
  z40 := Tryz.sizeOf181
  v40 := Tryz.zeroValue181
  t46 := Tryz.underlying186
  a46 := Tryz.isAgg186
  z46 := Tryz.sizeOf186
  v46 := Tryz.zeroValue186
  t49 := Tryz.underlying239
  a49 := Tryz.isAgg239
  z49 := Tryz.sizeOf239
  v49 := Tryz.zeroValue239
  t51 := Tryz.underlying212
  a51 := Tryz.isAgg212
  z51 := Tryz.sizeOf212
  v51 := Tryz.zeroValue212
  t119 := Tryz.underlying179
  a119 := Tryz.isAgg179
  z119 := Tryz.sizeOf179
  t141 := Tryz.underlying214
  a141 := Tryz.isAgg214
  z141 := Tryz.sizeOf214
  v141 := Tryz.zeroValue214
  t152 := Tryz.underlying209
  a152 := Tryz.isAgg209
  z152 := Tryz.sizeOf209
  v152 := Tryz.zeroValue209
  t154 := Tryz.underlying211
  a154 := Tryz.isAgg211
  z154 := Tryz.sizeOf211
  v154 := Tryz.zeroValue211
  t193 := Tryz.underlying235
  a193 := Tryz.isAgg235
  z193 := Tryz.sizeOf235
  v193 := Tryz.zeroValue235
  t194 := Tryz.underlying236
  a194 := Tryz.isAgg236
  z194 := Tryz.sizeOf236
  v194 := Tryz.zeroValue236
  t196 := Tryz.underlying238
  a196 := Tryz.isAgg238
  z196 := Tryz.sizeOf238
  v196 := Tryz.zeroValue238
  t198 := Tryz.underlying241
  a198 := Tryz.isAgg241
  z198 := Tryz.sizeOf241
  v198 := Tryz.zeroValue241
  t201 := Tryz.underlying244
  a201 := Tryz.isAgg244
  z201 := Tryz.sizeOf244
  v201 := Tryz.zeroValue244
  t226 := Tryz.underlying258
  a226 := Tryz.isAgg258
  z226 := Tryz.sizeOf258
  v226 := Tryz.zeroValue258
  t227 := Tryz.underlying259
  a227 := Tryz.isAgg259
  z227 := Tryz.sizeOf259
  v227 := Tryz.zeroValue259
  g0 := by kernel_rfl
  g6 := by kernel_rfl }
open Go.RowKit Go.Lib in
/-- strings.Fields, the table by 'Lib.TabIs' (as strings.TrimSpace's contract). 'hg': the table's number, by its name: at a dump 'by kernel_rfl'. (LAID: no walk: one application.) -/
theorem Tryz.strings_Fields (s : ByteArray) (w : World) (hs : s.size < 4294967281) (hascii : ∀ (j : Nat) b, s.data.toList[j]? = some b → b.toNat < 128) (htab : Lib.TabIs Tryz.prog w "strings.asciiSpace" .u8 Lib.asciiSpaceTab) :
    Calls Tryz.prog 109 #[.string s] w fun e w' =>
      e = .returned (.slice (some ⟨w.heap.size, 0, none⟩) (Lib.fields s.data.toList).length (Lib.fields s.data.toList).length) ∧ w' = w.alloc (.cells ((Lib.fields s.data.toList).map fun l => Value.string ⟨l.toArray⟩).toArray 9) := Any.strings_Fields Tryz.lays157 (by kernel_rfl) (by kernel_rfl) s w hs hascii htab
end Go.Proofs
/- Contracts of library functions in the form in which a printed proof uses them. -/
namespace Go.Proofs.YtjhbobacbaikoaaGreatDoor
open Go Go.RowKit
set_option linter.unusedVariables false

theorem below_sound {μ : Mu} {h : AHeap} {w w' : World} (ok : (⟨μ, h, w⟩ : Cx).Ok) (b : Below w.heap.size w w') : (⟨μ, h, w'⟩ : Cx).Ok ∧ Cx.To ⟨μ, h, w⟩ ⟨μ, h, w'⟩ := by
  have t : Cx.To ⟨μ, h, w⟩ ⟨μ, h, w'⟩ := by
    refine ⟨b.os, b.tape, b.output, b.size, Nat.le_refl _, rfl, fun k hk => b.block k hk.1, fun k q hk => ⟨⟨Nat.lt_of_lt_of_le hk.1 b.size, hk.2⟩, fun a h1 h2 => cell_block (b.block k hk.1) h1⟩,
      fun i hi ha => ⟨ha, rfl⟩, fun i hi ha k hk cv t fr hc => ⟨cv, ?_, rfl⟩, fun i ha k hk => .inl ⟨i, ha, hk⟩⟩
    rw [← b.block k (ok.lt ha hk)]; exact hc
  refine ⟨⟨fun i x hx => ?_, ok.inj, ok.nx, fun k q hk => Nat.lt_of_lt_of_le (ok.xlt k q hk) b.size⟩, t⟩
  cases hd : x with
  | dead => trivial
  | _ => rw [← hd]; exact ABlk.rel_to t (fun k hk => b.block k (ok.lt ⟨x, hx, by simp [hd]⟩ hk)) (ok.blk i x hx)

/-- A contract that leaves alone what was there. -/
theorem Sp_below {P : Program} {E : Env} {f : FuncId} {args : List AV} {h : AHeap} {Q : AV → AHeap → Prop}
    (k : ∀ (μ : Mu) (w : World) (ca : List Value), E.holds ⟨μ, h, w⟩ → Cx.Ok ⟨μ, h, w⟩ → AV.relL ⟨μ, h, w⟩ args ca →
      Calls P f ca.toArray w fun e w' => ∃ u r, e = .returned u ∧ Q r h ∧ Below w.heap.size w w' ∧ AV.rel ⟨μ, h, w'⟩ r u) : Sp P E f args h Q := by
  intro μ w ca he hok hr
  have := k μ w ca.toList he hok hr
  rw [Array.toArray_toList] at this
  refine this.mono fun e w' ⟨u, r, h1, h2, h3, h4⟩ => ?_
  obtain ⟨h5, h6⟩ := below_sound hok h3
  exact ⟨r, h, μ, u, h1, h2, h5, h4, h6⟩

theorem below_alloc (w : World) (o : Obj) : Below w.heap.size w (w.alloc o) := (Below.refl _ w).alloc (Nat.le_refl _) _

/-- A new block's cells are read as a list. -/
theorem rel_newrow {μ : Mu} {h : AHeap} {w : World} (ok : (⟨μ, h, w⟩ : Cx).Ok) (xs : List ByteArray) (t : TypeId) (hn : xs.length ≤ maxLen) :
    AV.rel ⟨μ, h, w.alloc (.cells (xs.map Value.string).toArray t)⟩ (.ro .unk xs.length (cl_str xs)) (.slice (some ⟨w.heap.size, 0, none⟩) xs.length xs.length) := by
  have hnew : (w.alloc (.cells (xs.map Value.string).toArray t)).heap = w.heap.push (.cells (xs.map Value.string).toArray t) := rfl
  refine ⟨some ⟨w.heap.size, 0, none⟩, xs.length, xs.map Value.string, rfl, ⟨Nat.le_refl _, hn, fun h => by cases h⟩, ?_, ?_, .inr ⟨_, rfl, ?_, ?_⟩⟩
  · clear hn hnew
    generalize w.alloc _ = w'
    induction xs with
    | nil => rfl
    | cons x xs ih => exact ⟨_, _, rfl, rfl, ih⟩
  · clear hn hnew
    induction xs with
    | nil => rfl
    | cons x xs ih => exact ih
  · intro j hj
    refine ⟨by show w.heap.size < _; rw [hnew]; simp, fun i x hx hd e => ?_, fun e => ?_⟩
    · have := ok.lt ⟨x, hx, hd⟩ e
      exact absurd this (Nat.lt_irrefl _)
    · have := ok.xlt _ _ e
      exact absurd this (Nat.lt_irrefl _)
  · intro j x hj
    rw [add_at, cell_of_row (w.alloc (.cells (xs.map Value.string).toArray t)) w.heap.size (0 + j) _ t (0, 0) (show (w.alloc (.cells (xs.map Value.string).toArray t)).heap[w.heap.size]? = some (.cells (xs.map Value.string).toArray t (0, 0)) by rw [hnew]; simp)]
    rw [List.getElem?_toArray, Nat.zero_add]
    exact hj

section
variable {E : Env}
/-! strings.Split -/
def p_strings_Split (n : Nat) (x0 x1 : ByteArray) : Option (List ByteArray) :=
  bif decide (x0.size < 4294967281) && decide (x1.size = 1) then some (Lib.splitB x1 0 (Lib.countB x0 x1) x0) else none
theorem s_strings_Split {n : Nat} {x0 x1 : ByteArray} {r : List ByteArray} (H : p_strings_Split n x0 x1 = some r) :
    Sp Tryz.prog E 132 [sA x0, sA x1] [] (isA (.ro .unk r.length (cl_str r)) []) := by
  unfold p_strings_Split at H
  cases hc : (decide (x0.size < 4294967281) && decide (x1.size = 1)) with
  | false => rw [hc] at H; cases H
  | true =>
    rw [hc] at H
    cases H
    simp only [Bool.and_eq_true, decide_eq_true_eq] at hc
    obtain ⟨c, rfl⟩ := Lib.one_byte x1 hc.2
    refine Sp_below fun μ w ca he hok hr => ?_
    obtain ⟨a, l1, rfl, rfl, b, bs, rfl, rfl, hn⟩ := hr
    obtain rfl : bs = [] := hn
    have h1 : 1 ≤ (⟨#[c]⟩ : ByteArray).size := Nat.le_refl 1
    have hle := Lib.countB_le ⟨#[c]⟩ h1 x0.size x0 (Nat.le_refl _)
    have hlen := Lib.splitB_all ⟨#[c]⟩ h1 0 _ x0 rfl
    refine (Tryz.strings_Split_one x0 c w hc.1).mono fun e w' ⟨h2, h3⟩ => ?_
    subst h3
    refine ⟨_, _, h2, ⟨rfl, rfl⟩, below_alloc _ _, ?_⟩
    have hl := rel_newrow hok (Lib.splitB ⟨#[c]⟩ 0 (Lib.countB x0 ⟨#[c]⟩) x0) 9 (by unfold maxLen; omega)
    rw [hlen] at hl
    rw [hlen]
    exact hl
/-! strings.Fields, of ASCII text -/
def p_strings_Fields (n : Nat) (x0 : ByteArray) : Option (List ByteArray) :=
  bif decide (x0.size < 4294967281) && x0.data.toList.all (fun b => decide (b.toNat < 128)) then some ((Lib.fields x0.data.toList).map fun l => ⟨l.toArray⟩) else none
theorem tab_cells {c : Cx} {g : Nat} {cells : List AV} (h : AV.rel c (.rop cells) (.pointer (some ⟨g, 0, none⟩))) {j : Nat} {v : Value} (hj : cells[j]? = some (.val v)) : c.w.cell? ⟨g, j, none⟩ = some v := by
  obtain ⟨ad, vs, e, hl, _, _, hc⟩ := h
  cases e
  obtain ⟨u, hu, hr⟩ := relL_get hl hj
  have e : u = v := hr
  subst e
  have := hc j u hu
  rw [add_at, Nat.zero_add] at this
  exact this
theorem tab_ascii : ∀ c : Nat, c < 256 → (cl_u8 gl_asciiSpace)[c]? = some (.val (.int .u8 (if Lib.isSp (UInt8.ofNat c) then 1 else 0))) := by
  have key : ∀ c : _root_.Fin 256, (gl_asciiSpace)[c.val]? = some (if Lib.isSp (UInt8.ofNat c.val) then 1 else 0) := by decide +kernel
  have l1 : ∀ (l : List Int) (c : Nat), (cl_u8 l)[c]? = (l[c]?).map fun x => .val (.int .u8 x) := by
    intro l
    induction l with
    | nil => intro c; rfl
    | cons x l ih => intro c; cases c with
      | zero => rfl
      | succ c => exact ih c
  intro c hc
  rw [l1, key ⟨c, hc⟩]
  rfl
theorem s_strings_Fields {n : Nat} (hG : GlobT E) {x0 : ByteArray} {r : List ByteArray} (H : p_strings_Fields n x0 = some r) :
    Sp Tryz.prog E 109 [sA x0] [] (isA (.ro .unk r.length (cl_str r)) []) := by
  unfold p_strings_Fields at H
  cases hc : (decide (x0.size < 4294967281) && x0.data.toList.all (fun b => decide (b.toNat < 128))) with
  | false => rw [hc] at H; cases H
  | true =>
    rw [hc] at H
    cases H
    simp only [Bool.and_eq_true, decide_eq_true_eq, List.all_eq_true] at hc
    refine Sp_below fun μ w ca he hok hr => ?_
    obtain ⟨a, l1, rfl, rfl, hn⟩ := hr
    obtain rfl : l1 = [] := hn
    have hT := E.globOk ⟨μ, [], w⟩ _ _ he hG.g3
    refine (Any.strings_Fields_core Tryz.lays157 (by kernel_rfl) x0 w hc.1 (fun j b hb => hc.2 b (List.mem_of_getElem? hb)) (fun c hcc => tab_cells hT (tab_ascii c hcc))).mono fun e w' ⟨h2, h3⟩ => ?_
    subst h3
    refine ⟨_, _, h2, ⟨rfl, rfl⟩, below_alloc _ _, ?_⟩
    have hN : (Lib.fields x0.data.toList).length ≤ x0.size := by
      rw [Lib.fields_length, Lib.size_eq]
      have key : ∀ (l : List UInt8) (ws : Bool), Lib.cntF ws l ≤ l.length := by
        intro l
        induction l with
        | nil => intro ws; exact Nat.le_refl _
        | cons b t ih =>
          intro ws
          have := ih (Lib.isSp b)
          simp only [Lib.cntF, List.length_cons]
          split <;> omega
      exact key _ _
    have hl := rel_newrow hok ((Lib.fields x0.data.toList).map fun l => (⟨l.toArray⟩ : ByteArray)) 9 (by unfold maxLen; simp; omega)
    rw [List.map_map, List.length_map] at hl
    rw [List.length_map]
    exact hl
/-! strings.Compare -/
def p_strings_Compare (n : Nat) (x0 x1 : ByteArray) : Option Int := some (Lib.compareBytes x0.data.toList x1.data.toList)
theorem s_strings_Compare {n : Nat} {x0 x1 : ByteArray} {r : Int} (H : p_strings_Compare n x0 x1 = some r) : Sp Tryz.prog E 122 [sA x0, sA x1] [] (isA (iA r) []) := by
  cases H
  refine Sp_below fun μ w ca he hok hr => ?_
  obtain ⟨a, l1, rfl, rfl, b, bs, rfl, rfl, hn⟩ := hr
  obtain rfl : bs = [] := hn
  refine (Tryz.strings_Compare x0 x1 w).mono fun e w' ⟨h2, h3⟩ => ?_
  subst h3
  exact ⟨_, _, h2, ⟨rfl, rfl⟩, Below.refl _ _, rfl⟩
/-! strconv.Atoi: its number, and whether there is an error -/
def p_strconv_Atoi (n : Nat) (x0 : ByteArray) : Option (Int × Bool) :=
  bif decide (x0.size ≤ 281474976710656) then (match Lib.atoiAll x0.data.toList with
    | .ok v => some (v, false)
    | .range => some (Lib.atoiSat x0.data.toList, true)
    | _ => some (0, true)) else none
theorem s_strconv_Atoi {n : Nat} (hG : GlobT E) {x0 : ByteArray} {r : Int × Bool} (H : p_strconv_Atoi n x0 = some r) (h : AHeap) :
    Sp Tryz.prog E 156 [sA x0] h (fun v h' => h' = h ∧ ∃ u, errV r.2 u ∧ v = .tup [iA r.1, .val u]) := by
  unfold p_strconv_Atoi at H
  cases hc : decide (x0.size ≤ 281474976710656) with
  | false => rw [hc] at H; cases H
  | true =>
    rw [hc] at H
    have hs := of_decide_eq_true hc
    refine Sp_below fun μ w ca he hok hr => ?_
    obtain ⟨a, l1, rfl, rfl, hn⟩ := hr
    obtain rfl : l1 = [] := hn
    simp only [cond_true] at H
    rcases ha : Lib.atoiAll x0.data.toList with v | _ | _
    · -- a number
      rw [ha] at H
      cases H
      refine (Tryz.strconv_Atoi_ok x0 (by omega) v ha w).mono fun e w' ⟨h2, h3⟩ => ?_
      refine ⟨_, _, h2, ⟨rfl, .nilIface, rfl, rfl⟩, ?_, ⟨_, rfl, _, _, rfl, rfl, _, _, rfl, rfl, rfl⟩⟩
      rcases h3 with rfl | ⟨t, rfl⟩
      · exact Below.refl _ _
      · exact Lib.bytesWorld_below _ _ _
    · -- no numeral
      rw [ha] at H
      cases H
      obtain ⟨te, pe, hg⟩ := hG.g8
      have hv : w.cell? ⟨8, 0, none⟩ = some (.iface te pe) := tab_cells (E.globOk ⟨μ, h, w⟩ _ _ he hg) (j := 0) rfl
      refine (Tryz.strconv_Atoi_syntax x0 hs ha _ w hv (.inr ⟨_, _, rfl⟩)).mono fun e w' ⟨N, h2, h3, h4, h5⟩ => ?_
      exact ⟨_, _, h2, ⟨rfl, _, ⟨_, _, rfl⟩, rfl⟩, h5, ⟨_, rfl, _, _, rfl, rfl, _, _, rfl, rfl, rfl⟩⟩
    · -- too great
      rw [ha] at H
      cases H
      obtain ⟨te, pe, hg⟩ := hG.g9
      have hv : w.cell? ⟨9, 0, none⟩ = some (.iface te pe) := tab_cells (E.globOk ⟨μ, h, w⟩ _ _ he hg) (j := 0) rfl
      refine (Tryz.strconv_Atoi_range x0 hs ha _ w hv (.inr ⟨_, _, rfl⟩)).mono fun e w' ⟨N, h2, h3, h4, h5⟩ => ?_
      exact ⟨_, _, h2, ⟨rfl, _, ⟨_, _, rfl⟩, rfl⟩, h5, ⟨_, rfl, _, _, rfl, rfl, _, _, rfl, rfl, rfl⟩⟩
end
end Go.Proofs.YtjhbobacbaikoaaGreatDoor
/- A function of the program as a pure function, and that the program computes it. -/
namespace Go.Proofs.YtjhbobacbaikoaaGreatDoor
open Go
set_option linter.unusedVariables false
set_option linter.unusedSimpArgs false
set_option maxRecDepth 100000
def p_cmp_Or_api_Errno_L1 (n : Nat) (x0 : List Int) (v8 : Int) : Option Int := match n with
| 0 => none
| n + 1 =>
(bif decide (v8 < (lI x0)) then
(rdO x0 v8).bind fun v10 =>
(bif v10 != 0 then
 some (v10)
 else
 p_cmp_Or_api_Errno_L1 n x0 (w64 (v8 + 1)))
 else
 some (0))
def p_cmp_Or_api_Errno (n : Nat) (x0 : List Int) : Option Int :=
 p_cmp_Or_api_Errno_L1 n x0 0
variable {E : Env}
theorem s_cmp_Or_api_Errno {n : Nat} {x0 : List Int} {r : Int} (H : p_cmp_Or_api_Errno n x0 = some r) :
    Sp Tryz.prog E 108 [.ro .unk x0.length (cl_i64 x0)] [] (isA (iA r) []) := by
  unfold p_cmp_Or_api_Errno at H
  refine Sp_fn Tryz.func108 rfl (fun hc hs => ?_)
  refine AWP_reg (Rh 1 18 [(0, .ro .unk x0.length (cl_i64 x0))] (AOps_done (AWP_reg (Rh 1 18 [(0, .ro .unk x0.length (cl_i64 x0)), (3, iA 0)] (AOps_done (AWP_seq (AWP_reg (Rh 3 18 [(3, iA 0), (6, .ro .unk x0.length (cl_i64 x0)), (7, iA (lI x0)), (8, iA 0)] ?_))))))))
  refine AOps_done (AWP_block ?_)
  refine AWP_loopN (α := Int) (fun v8 => fr 18 [(3, iA 0), (6, .ro .unk x0.length (cl_i64 x0)), (7, iA (lI x0)), (8, iA v8)]) (fun v8 => []) (fun k_ v8 => k_ ≤ n ∧ p_cmp_Or_api_Errno_L1 k_ x0 v8 = some r) (fun n v8 H => ?_) (k := n) 0 ⟨Nat.le_refl _, H⟩ (Norm_fd [3, 6, 7, 8] 0 (by kernel_rfl) rfl rfl trivial (by refine scL_fr ?_; exact ⟨trivial, (scl_cl_i64 _ _), trivial, trivial, trivial⟩))
  show AWP _ _ _ _ _ (fr 18 [(3, iA 0), (6, .ro .unk x0.length (cl_i64 x0)), (7, iA (lI x0)), (8, iA v8)]) []
  obtain ⟨hb_, H⟩ := H
  replace H : p_cmp_Or_api_Errno_L1 n x0 v8 = some r := H
  cases n with
  | zero => exact not_none (by simpa only [p_cmp_Or_api_Errno_L1] using H)
  | succ n =>
    unfold p_cmp_Or_api_Errno_L1 at H
    refine AWP_reg (Rh 1 18 [(3, iA 0), (6, .ro .unk x0.length (cl_i64 x0)), (7, iA (lI x0)), (8, iA v8), (9, bA (decide (v8 < (lI x0))))] (AOps_done (AWP_seq (CD H (fun hb9 H => ?_) (fun hb9 H => ?_)))))
    · refine AWP_skip ?_
      show AWP _ _ _ _ _ _ _
      refine AWP_seq (AWP_block ?_)
      refine AWP_reg ?_
      obtain ⟨v10, hv10, H⟩ := bind_some H
      refine AOps_index (d := (some 10)) (sz := 1) (c := cs_i64) (by kernel_rfl) rfl (eq_cl_i64 _) (fun _ => rfl) (by decide) hv10 (fun tl10 => ?_)
      refine Rh 2 18 [(3, iA 0), (5, iA v10), (6, .ro .unk x0.length (cl_i64 x0)), (7, iA (lI x0)), (8, iA v8)] (AOps_done (AWP_reg (Rh 3 18 [(3, iA 0), (5, iA v10), (6, .ro .unk x0.length (cl_i64 x0)), (7, iA (lI x0)), (8, iA v8), (14, bA (v10 != 0))] (AOps_done (CD H (fun hb11 H => ?_) (fun hb11 H => ?_))))))
      · refine AWP_reg (Rh 2 18 [(2, iA v10)] (AOps_done ?_))
        exact AWP_ret (FR H)
      · refine AWP_skip ?_
        show AWP _ _ _ _ _ _ _
        refine AWP_region ?_
        refine Rh 2 18 [(3, iA 0), (6, .ro .unk x0.length (cl_i64 x0)), (7, iA (lI x0)), (8, iA (w64 (v8 + 1)))] (AOps_done ?_)
        exact Exists.intro (w64 (v8 + 1)) (Exists.intro n ⟨by omega, ⟨by omega, H⟩, Norm_fd [3, 6, 7, 8] 0 (by kernel_rfl) rfl rfl trivial (by refine scL_fr ?_; exact ⟨trivial, (scl_cl_i64 _ _), trivial, trivial, trivial⟩)⟩)
    · refine AWP_exit ?_
      show AWP _ _ _ _ _ _ _
      refine AWP_reg (Rh 2 18 [(2, iA 0)] (AOps_done ?_))
      exact AWP_ret (FR H)
end Go.Proofs.YtjhbobacbaikoaaGreatDoor
/- A function of the program as a pure function, and that the program computes it. -/
namespace Go.Proofs.YtjhbobacbaikoaaGreatDoor
open Go
set_option linter.unusedVariables false
set_option linter.unusedSimpArgs false
set_option maxRecDepth 100000
def p_shape_first (n : Nat) (x0 : List Int) : Option Int :=
(p_cmp_Or_api_Errno n x0).bind fun v1 =>
 some (v1)
variable {E : Env}
theorem s_shape_first {n : Nat} {x0 : List Int} {r : Int} (H : p_shape_first n x0 = some r) :
    Sp Tryz.prog E 64 [.ro .unk x0.length (cl_i64 x0)] [] (isA (iA r) []) := by
  unfold p_shape_first at H
  refine Sp_fn Tryz.func64 rfl (fun hc hs => ?_)
  refine AWP_reg (Rh 1 5 [(0, .ro .unk x0.length (cl_i64 x0))] (AOps_done (AWP_reg (Rh 1 5 [(3, .ro .unk x0.length (cl_i64 x0))] ?_))))
  obtain ⟨v1, hv1, H⟩ := bind_some H
  refine AOps_callp (d := (some 4)) (al := [.ro .unk x0.length (cl_i64 x0)]) (r := iA v1) (by kernel_rfl) (s_cmp_Or_api_Errno hv1) ⟨(scl_cl_i64 _ _), trivial⟩ trivial ?_
  refine Rh 1 5 [(2, iA v1)] (AOps_done ?_)
  exact AWP_ret (FR H)
end Go.Proofs.YtjhbobacbaikoaaGreatDoor
/- A function of the program as a pure function, and that the program computes it. -/
namespace Go.Proofs.YtjhbobacbaikoaaGreatDoor
open Go
set_option linter.unusedVariables false
set_option linter.unusedSimpArgs false
set_option maxRecDepth 100000
def p_shape_when (n : Nat) (x0 : Bool) (x1 : Int) : Option Int :=
(bif x0 then
 some (x1)
 else
 some (0))
variable {E : Env}
theorem s_shape_when {n : Nat} {x0 : Bool} {x1 : Int} {r : Int} (H : p_shape_when n x0 x1 = some r) :
    Sp Tryz.prog E 56 [bA x0, iA x1] [] (isA (iA r) []) := by
  unfold p_shape_when at H
  refine Sp_fn Tryz.func56 rfl (fun hc hs => ?_)
  refine AWP_reg (Rh 1 7 [(0, bA x0), (1, iA x1)] (AOps_done (AWP_seq (AWP_reg (Rh 1 7 [(1, iA x1), (5, bA x0)] (AOps_done (CD H (fun hb1 H => ?_) (fun hb1 H => ?_))))))))
  · refine AWP_reg (Rh 2 7 [(4, iA x1)] (AOps_done ?_))
    exact AWP_ret (FR H)
  · refine AWP_skip ?_
    show AWP _ _ _ _ _ _ _
    refine AWP_reg (Rh 1 7 [(4, iA 0)] (AOps_done ?_))
    exact AWP_ret (FR H)
end Go.Proofs.YtjhbobacbaikoaaGreatDoor
/- The first error. -/
namespace Go.Proofs.YtjhbobacbaikoaaGreatDoor
open Go
set_option linter.unusedVariables false
set_option linter.unusedSimpArgs false
set_option maxRecDepth 100000
theorem when_eq (n : Nat) (b : Bool) (e : Int) : p_shape_when n b e = some (if b = true then e else 0) := by
  unfold p_shape_when
  cases b <;> rfl
/-- The first that is not 0. -/
def fst0 : List Int → Int
  | [] => 0
  | a :: l => if a = 0 then fst0 l else a
theorem first_al (l : List Int) (hl : l.length < 4294967281) : Al fun n => p_shape_first n l = some (fst0 l) := by
  have := loop1 (fun n i => p_cmp_Or_api_Errno_L1 n l i) l.length (fun i => fst0 (l.drop i)) (fun i hi => .of fun n => ?_) (.of fun n => ?_) 0 (by omega)
  · refine this.mono fun n h => ?_
    have h : p_cmp_Or_api_Errno_L1 n l 0 = some (fst0 (l.drop 0)) := h
    unfold p_shape_first p_cmp_Or_api_Errno
    rw [h]; rfl
  · have hd : decide ((i : Int) < lI l) = true := decide_eq_true (by unfold lI; omega)
    rw [p_cmp_Or_api_Errno_L1, hd, cond_true, rdO_nat hi, Option.bind_some, List.drop_eq_getElem_cons hi, w64_add (by omega)]
    by_cases h : l[i] = 0
    · right
      rw [h]
      exact ⟨rfl, by rw [fst0, if_pos rfl]⟩
    · left
      have : (l[i] != 0) = true := by rw [bne_iff_ne]; exact h
      rw [this, fst0, if_neg h]; rfl
  · have hd : decide (((l.length : Nat) : Int) < lI l) = false := decide_eq_false (by unfold lI; omega)
    rw [p_cmp_Or_api_Errno_L1, hd, List.drop_length]; rfl
end Go.Proofs.YtjhbobacbaikoaaGreatDoor
/- A function of the program as a pure function, and that the program computes it. -/
namespace Go.Proofs.YtjhbobacbaikoaaGreatDoor
open Go
set_option linter.unusedVariables false
set_option linter.unusedSimpArgs false
set_option maxRecDepth 100000
def p_ref6_Split_L1 (n : Nat) (x0 : List TRange) (x1 : Int) (v24 : Int) (v25 : Int) : Option Int := match n with
| 0 => none
| n + 1 =>
(bif decide (v25 < (lI x0)) then
(rdO x0 v25).bind fun v27 =>
(bif !(decide (v27.gVariation < 1)) then rdO x0 v25 else some ({ gFrom := 0, gTo := 0, gVariation := 0 } : TRange)).bind fun v28 =>
(bif (decide (v27.gVariation < 1)) || (decide (v28.gVariation > x1)) then
 some (3)
 else
(rdO x0 v25).bind fun v30 =>
(bif !(v30.gFrom != v24) then rdO x0 v25 else some ({ gFrom := 0, gTo := 0, gVariation := 0 } : TRange)).bind fun v31 =>
(bif (!((v30.gFrom != v24) || (decide (v31.gTo ≤ v24)))) && (decide (v25 > 0)) then rdO x0 v25 else some ({ gFrom := 0, gTo := 0, gVariation := 0 } : TRange)).bind fun v32 =>
(bif (!((v30.gFrom != v24) || (decide (v31.gTo ≤ v24)))) && (decide (v25 > 0)) then rdO x0 (w64 (v25 - 1)) else some ({ gFrom := 0, gTo := 0, gVariation := 0 } : TRange)).bind fun v33 =>
(bif ((v30.gFrom != v24) || (decide (v31.gTo ≤ v24))) || ((decide (v25 > 0)) && (v32.gVariation == v33.gVariation)) then
 some (9)
 else
(rdO x0 v25).bind fun v35 =>
 p_ref6_Split_L1 n x0 x1 v35.gTo (w64 (v25 + 1))))
 else
(bif v24 != 10000 then
 some (3)
 else
 some (0)))
def p_ref6_Split (n : Nat) (x0 : List TRange) (x1 : Int) : Option Int :=
(bif decide ((lI x0) > 16) then
 some (5)
 else
 p_ref6_Split_L1 n x0 x1 0 0)
variable {E : Env}
theorem s_ref6_Split {n : Nat} {x0 : List TRange} {x1 : Int} {r : Int} (H : p_ref6_Split n x0 x1 = some r) :
    Sp Tryz.prog E 24 [.ro .unk x0.length (TRange.cl x0), iA x1] [] (isA (iA r) []) := by
  unfold p_ref6_Split at H
  refine Sp_fn Tryz.func24 rfl (fun hc hs => ?_)
  refine AWP_reg (Rh 1 72 [(0, .ro .unk x0.length (TRange.cl x0)), (1, iA x1)] (AOps_done (AWP_seq (AWP_reg (Rh 3 72 [(0, .ro .unk x0.length (TRange.cl x0)), (1, iA x1), (9, bA (decide ((lI x0) > 16)))] (AOps_done (CD H (fun hb1 H => ?_) (fun hb1 H => ?_))))))))
  · refine AWP_reg (Rh 1 72 [(4, iA 5)] (AOps_done ?_))
    exact AWP_ret (FR H)
  · refine AWP_skip ?_
    show AWP _ _ _ _ _ _ _
    refine AWP_reg (Rh 1 72 [(0, .ro .unk x0.length (TRange.cl x0)), (1, iA x1), (5, iA 0)] (AOps_done (AWP_seq (AWP_reg (Rh 1 72 [(0, .ro .unk x0.length (TRange.cl x0)), (1, iA x1), (5, iA 0), (6, iA 0)] (AOps_done (AWP_block ?_)))))))
    refine AWP_loopN (α := Int × Int) (fun ⟨v24, v25⟩ => fr 72 [(0, .ro .unk x0.length (TRange.cl x0)), (1, iA x1), (5, iA v24), (6, iA v25)]) (fun ⟨v24, v25⟩ => []) (fun k_ ⟨v24, v25⟩ => k_ ≤ n ∧ p_ref6_Split_L1 k_ x0 x1 v24 v25 = some r) (fun n a H => ?_) (k := n) (0, 0) ⟨Nat.le_refl _, H⟩ (Norm_fd [0, 1, 5, 6] 0 (by kernel_rfl) rfl rfl trivial (by refine scL_fr ?_; exact ⟨(scl_TRange_cl _ _), trivial, trivial, trivial, trivial⟩))
    obtain ⟨v24, v25⟩ := a
    show AWP _ _ _ _ _ (fr 72 [(0, .ro .unk x0.length (TRange.cl x0)), (1, iA x1), (5, iA v24), (6, iA v25)]) []
    obtain ⟨hb_, H⟩ := H
    replace H : p_ref6_Split_L1 n x0 x1 v24 v25 = some r := H
    cases n with
    | zero => exact not_none (by simpa only [p_ref6_Split_L1] using H)
    | succ n =>
      unfold p_ref6_Split_L1 at H
      refine AWP_seq (AWP_reg (Rh 4 72 [(0, .ro .unk x0.length (TRange.cl x0)), (1, iA x1), (5, iA v24), (6, iA v25), (13, bA (decide (v25 < (lI x0))))] (AOps_done (CD H (fun hb26 H => ?_) (fun hb26 H => ?_)))))
      · refine AWP_skip ?_
        show AWP _ _ _ _ _ _ _
        refine AWP_seq (AWP_block ?_)
        refine AWP_seq (AWP_reg (Rh 2 72 [(0, .ro .unk x0.length (TRange.cl x0)), (1, iA x1), (5, iA v24), (6, iA v25), (16, .ro .unk x0.length (TRange.cl x0)), (17, iA v25)] ?_))
        obtain ⟨v27, hv27, H⟩ := bind_some H
        refine AOps_index (d := (some 18)) (sz := 3) (c := TRange.cs) (by kernel_rfl) rfl (eq_TRange_cl _) (fun _ => rfl) (by decide) hv27 (fun tl27 => ?_)
        refine Rh 4 72 [(0, .ro .unk x0.length (TRange.cl x0)), (1, iA x1), (5, iA v24), (6, iA v25), (22, bA (decide (v27.gVariation < 1)))] ?_
        obtain ⟨v28, hv28, H⟩ := bind_some H
        refine AOps_cut 8 (st' := fr 72 [(0, .ro .unk x0.length (TRange.cl x0)), (1, iA x1), (5, iA v24), (6, iA v25), (30, bA ((decide (v27.gVariation < 1)) || (decide (v28.gVariation > x1))))]) (h' := []) ?_ ?_
        rotate_left
        · cases c1 : (decide (v27.gVariation < 1) : Bool) with
          | true =>
            refine R 8 72 [(0, .ro .unk x0.length (TRange.cl x0)), (1, iA x1), (5, iA v24), (6, iA v25), (30, bA (true || (decide (v28.gVariation > x1))))] [] ?_
            exact AOps_here [0, 1, 5, 6, 30] (by kernel_rfl) rfl
          | false =>
            refine R 2 72 [(0, .ro .unk x0.length (TRange.cl x0)), (1, iA x1), (5, iA v24), (6, iA v25), (22, bA false), (23, .ro .unk x0.length (TRange.cl x0)), (24, iA v25)] [] ?_
            have hv28_ := cond_t hv28 (by simp only [c1] <;> rfl)
            refine AOps_index (d := (some 25)) (sz := 3) (c := TRange.cs) (by kernel_rfl) rfl (eq_TRange_cl _) (fun _ => rfl) (by decide) hv28_ (fun tl28 => ?_)
            refine R 5 72 [(0, .ro .unk x0.length (TRange.cl x0)), (1, iA x1), (5, iA v24), (6, iA v25), (30, bA (false || (decide (v28.gVariation > x1))))] [] ?_
            exact AOps_here [0, 1, 5, 6, 30] (by kernel_rfl) rfl
        refine AOps_done (CD H (fun hb29 H => ?_) (fun hb29 H => ?_))
        · refine AWP_reg (Rh 1 72 [(4, iA 3)] (AOps_done ?_))
          exact AWP_ret (FR H)
        · refine AWP_skip ?_
          show AWP _ _ _ _ _ _ _
          refine AWP_seq ?_
          obtain ⟨v30, hv30, H⟩ := bind_some H
          obtain ⟨v31, hv31, H⟩ := bind_some H
          obtain ⟨v32, hv32, H⟩ := bind_some H
          obtain ⟨v33, hv33, H⟩ := bind_some H
          refine AWP_regD1 [0, 1, 2, 3, 4, 5, 6, 7, 8, 9, 10, 11, 12, 13, 14, 15, 16, 17, 18, 19, 20, 21, 22, 23, 24, 25, 26, 27, 28, 29, 30, 31, 32, 33] (N := 72) (f := [(0, .ro .unk x0.length (TRange.cl x0)), (1, iA x1), (5, iA v24), (6, iA v25)]) (leL_of [0, 1, 5, 6] (by kernel_rfl)) mixed (by kernel_rfl) (by kernel_rfl) (st' := fr 72 [(0, .ro .unk x0.length (TRange.cl x0)), (1, iA x1), (6, iA v25), (64, bA (((v30.gFrom != v24) || (decide (v31.gTo ≤ v24))) || ((decide (v25 > 0)) && (v32.gVariation == v33.gVariation))))]) (h' := []) ?_ ?_
          rotate_left
          · refine RD 2 72 [] [(0, .ro .unk x0.length (TRange.cl x0)), (1, iA x1), (5, iA v24), (6, iA v25), (31, .ro .unk x0.length (TRange.cl x0)), (32, iA v25)] (AD_index (d := (some 33)) (sz := 3) (c := TRange.cs) (by kernel_rfl) rfl (eq_TRange_cl _) (fun _ => rfl) (by decide) hv30 (fun tl30 => ?_))
            refine RD 5 72 [] [(0, .ro .unk x0.length (TRange.cl x0)), (1, iA x1), (5, iA v24), (6, iA v25), (31, .ro .unk x0.length (TRange.cl x0)), (32, iA v25), (33, .rop ([iA v30.gFrom, iA v30.gTo, iA v30.gVariation] ++ tl30)), (34, .rop ([iA v30.gFrom, iA v30.gTo, iA v30.gVariation] ++ tl30)), (35, iA v30.gFrom), (36, iA v24), (37, bA (v30.gFrom != v24)), (38, bA (v30.gFrom != v24))] ?_
            cases c1 : (v30.gFrom != v24 : Bool) with
            | true =>
              refine RD 26 72 [] [(0, .ro .unk x0.length (TRange.cl x0)), (1, iA x1), (5, iA v24), (6, iA v25), (31, .ro .unk x0.length (TRange.cl x0)), (32, iA v25), (33, .rop ([iA v30.gFrom, iA v30.gTo, iA v30.gVariation] ++ tl30)), (34, .rop ([iA v30.gFrom, iA v30.gTo, iA v30.gVariation] ++ tl30)), (35, iA v30.gFrom), (36, iA v24), (37, bA true), (38, bA true), (39, undefA), (40, undefA), (41, undefA), (42, undefA), (43, undefA), (44, undefA), (45, undefA), (46, bA (true || (decide (v31.gTo ≤ v24)))), (47, bA (true || (decide (v31.gTo ≤ v24)))), (48, undefA), (49, undefA), (50, undefA), (51, undefA), (52, undefA), (53, undefA), (54, undefA), (55, undefA), (56, undefA), (57, undefA), (58, undefA), (59, undefA), (60, undefA), (61, undefA), (62, undefA), (63, undefA), (64, bA ((true || (decide (v31.gTo ≤ v24))) || ((decide (v25 > 0)) && (v32.gVariation == v33.gVariation))))] ?_
              exact AD_here [0, 1, 6, 64] (by kernel_rfl) rfl
            | false =>
              refine RD 2 72 [] [(0, .ro .unk x0.length (TRange.cl x0)), (1, iA x1), (5, iA v24), (6, iA v25), (31, .ro .unk x0.length (TRange.cl x0)), (32, iA v25), (33, .rop ([iA v30.gFrom, iA v30.gTo, iA v30.gVariation] ++ tl30)), (34, .rop ([iA v30.gFrom, iA v30.gTo, iA v30.gVariation] ++ tl30)), (35, iA v30.gFrom), (36, iA v24), (37, bA false), (38, bA false), (39, .ro .unk x0.length (TRange.cl x0)), (40, iA v25)] ?_
              have hv31_ := cond_t hv31 (by simp only [c1] <;> rfl)
              refine AD_index (d := (some 41)) (sz := 3) (c := TRange.cs) (by kernel_rfl) rfl (eq_TRange_cl _) (fun _ => rfl) (by decide) hv31_ (fun tl31 => ?_)
              refine RD 6 72 [] [(0, .ro .unk x0.length (TRange.cl x0)), (1, iA x1), (5, iA v24), (6, iA v25), (31, .ro .unk x0.length (TRange.cl x0)), (32, iA v25), (33, .rop ([iA v30.gFrom, iA v30.gTo, iA v30.gVariation] ++ tl30)), (34, .rop ([iA v30.gFrom, iA v30.gTo, iA v30.gVariation] ++ tl30)), (35, iA v30.gFrom), (36, iA v24), (37, bA false), (38, bA false), (39, .ro .unk x0.length (TRange.cl x0)), (40, iA v25), (41, .rop ([iA v31.gFrom, iA v31.gTo, iA v31.gVariation] ++ tl31)), (42, .rop ([iA v31.gTo, iA v31.gVariation] ++ tl31)), (43, iA v31.gTo), (44, iA v24), (45, bA (decide (v31.gTo ≤ v24))), (46, bA (false || (decide (v31.gTo ≤ v24)))), (47, bA (false || (decide (v31.gTo ≤ v24))))] ?_
              cases c2 : (decide (v31.gTo ≤ v24) : Bool) with
              | true =>
                refine RD 17 72 [] [(0, .ro .unk x0.length (TRange.cl x0)), (1, iA x1), (5, iA v24), (6, iA v25), (31, .ro .unk x0.length (TRange.cl x0)), (32, iA v25), (33, .rop ([iA v30.gFrom, iA v30.gTo, iA v30.gVariation] ++ tl30)), (34, .rop ([iA v30.gFrom, iA v30.gTo, iA v30.gVariation] ++ tl30)), (35, iA v30.gFrom), (36, iA v24), (37, bA false), (38, bA false), (39, .ro .unk x0.length (TRange.cl x0)), (40, iA v25), (41, .rop ([iA v31.gFrom, iA v31.gTo, iA v31.gVariation] ++ tl31)), (42, .rop ([iA v31.gTo, iA v31.gVariation] ++ tl31)), (43, iA v31.gTo), (44, iA v24), (45, bA true), (46, bA (false || true)), (47, bA (false || true)), (48, undefA), (49, undefA), (50, undefA), (51, undefA), (52, undefA), (53, undefA), (54, undefA), (55, undefA), (56, undefA), (57, undefA), (58, undefA), (59, undefA), (60, undefA), (61, undefA), (62, undefA), (63, undefA), (64, bA ((false || true) || ((decide (v25 > 0)) && (v32.gVariation == v33.gVariation))))] ?_
                exact AD_here [0, 1, 6, 64] (by kernel_rfl) rfl
              | false =>
                refine RD 3 72 [] [(0, .ro .unk x0.length (TRange.cl x0)), (1, iA x1), (5, iA v24), (6, iA v25), (31, .ro .unk x0.length (TRange.cl x0)), (32, iA v25), (33, .rop ([iA v30.gFrom, iA v30.gTo, iA v30.gVariation] ++ tl30)), (34, .rop ([iA v30.gFrom, iA v30.gTo, iA v30.gVariation] ++ tl30)), (35, iA v30.gFrom), (36, iA v24), (37, bA false), (38, bA false), (39, .ro .unk x0.length (TRange.cl x0)), (40, iA v25), (41, .rop ([iA v31.gFrom, iA v31.gTo, iA v31.gVariation] ++ tl31)), (42, .rop ([iA v31.gTo, iA v31.gVariation] ++ tl31)), (43, iA v31.gTo), (44, iA v24), (45, bA false), (46, bA (false || false)), (47, bA (false || false)), (48, iA v25), (49, bA (decide (v25 > 0))), (50, bA (decide (v25 > 0)))] ?_
                cases c3 : (decide (v25 > 0) : Bool) with
                | true =>
                  refine RD 2 72 [] [(0, .ro .unk x0.length (TRange.cl x0)), (1, iA x1), (5, iA v24), (6, iA v25), (31, .ro .unk x0.length (TRange.cl x0)), (32, iA v25), (33, .rop ([iA v30.gFrom, iA v30.gTo, iA v30.gVariation] ++ tl30)), (34, .rop ([iA v30.gFrom, iA v30.gTo, iA v30.gVariation] ++ tl30)), (35, iA v30.gFrom), (36, iA v24), (37, bA false), (38, bA false), (39, .ro .unk x0.length (TRange.cl x0)), (40, iA v25), (41, .rop ([iA v31.gFrom, iA v31.gTo, iA v31.gVariation] ++ tl31)), (42, .rop ([iA v31.gTo, iA v31.gVariation] ++ tl31)), (43, iA v31.gTo), (44, iA v24), (45, bA false), (46, bA (false || false)), (47, bA (false || false)), (48, iA v25), (49, bA true), (50, bA true), (51, .ro .unk x0.length (TRange.cl x0)), (52, iA v25)] ?_
                  have hv32_ := cond_t hv32 (by simp only [c1, c2, c3] <;> rfl)
                  refine AD_index (d := (some 53)) (sz := 3) (c := TRange.cs) (by kernel_rfl) rfl (eq_TRange_cl _) (fun _ => rfl) (by decide) hv32_ (fun tl32 => ?_)
                  refine RD 5 72 [] [(0, .ro .unk x0.length (TRange.cl x0)), (1, iA x1), (5, iA v24), (6, iA v25), (31, .ro .unk x0.length (TRange.cl x0)), (32, iA v25), (33, .rop ([iA v30.gFrom, iA v30.gTo, iA v30.gVariation] ++ tl30)), (34, .rop ([iA v30.gFrom, iA v30.gTo, iA v30.gVariation] ++ tl30)), (35, iA v30.gFrom), (36, iA v24), (37, bA false), (38, bA false), (39, .ro .unk x0.length (TRange.cl x0)), (40, iA v25), (41, .rop ([iA v31.gFrom, iA v31.gTo, iA v31.gVariation] ++ tl31)), (42, .rop ([iA v31.gTo, iA v31.gVariation] ++ tl31)), (43, iA v31.gTo), (44, iA v24), (45, bA false), (46, bA (false || false)), (47, bA (false || false)), (48, iA v25), (49, bA true), (50, bA true), (51, .ro .unk x0.length (TRange.cl x0)), (52, iA v25), (53, .rop ([iA v32.gFrom, iA v32.gTo, iA v32.gVariation] ++ tl32)), (54, .rop ([iA v32.gVariation] ++ tl32)), (55, iA v32.gVariation), (56, .ro .unk x0.length (TRange.cl x0)), (57, iA v25), (58, iA (w64 (v25 - 1)))] ?_
                  have hv33_ := cond_t hv33 (by simp only [c1, c2, c3] <;> rfl)
                  refine AD_index (d := (some 59)) (sz := 3) (c := TRange.cs) (by kernel_rfl) rfl (eq_TRange_cl _) (fun _ => rfl) (by decide) hv33_ (fun tl33 => ?_)
                  refine RD 5 72 [] [(0, .ro .unk x0.length (TRange.cl x0)), (1, iA x1), (5, iA v24), (6, iA v25), (31, .ro .unk x0.length (TRange.cl x0)), (32, iA v25), (33, .rop ([iA v30.gFrom, iA v30.gTo, iA v30.gVariation] ++ tl30)), (34, .rop ([iA v30.gFrom, iA v30.gTo, iA v30.gVariation] ++ tl30)), (35, iA v30.gFrom), (36, iA v24), (37, bA false), (38, bA false), (39, .ro .unk x0.length (TRange.cl x0)), (40, iA v25), (41, .rop ([iA v31.gFrom, iA v31.gTo, iA v31.gVariation] ++ tl31)), (42, .rop ([iA v31.gTo, iA v31.gVariation] ++ tl31)), (43, iA v31.gTo), (44, iA v24), (45, bA false), (46, bA (false || false)), (47, bA (false || false)), (48, iA v25), (49, bA true), (50, bA true), (51, .ro .unk x0.length (TRange.cl x0)), (52, iA v25), (53, .rop ([iA v32.gFrom, iA v32.gTo, iA v32.gVariation] ++ tl32)), (54, .rop ([iA v32.gVariation] ++ tl32)), (55, iA v32.gVariation), (56, .ro .unk x0.length (TRange.cl x0)), (57, iA v25), (58, iA (w64 (v25 - 1))), (59, .rop ([iA v33.gFrom, iA v33.gTo, iA v33.gVariation] ++ tl33)), (60, .rop ([iA v33.gVariation] ++ tl33)), (61, iA v33.gVariation), (62, bA (v32.gVariation == v33.gVariation)), (63, bA (true && (v32.gVariation == v33.gVariation))), (64, bA ((false || false) || (true && (v32.gVariation == v33.gVariation))))] ?_
                  exact AD_here [0, 1, 6, 64] (by kernel_rfl) rfl
                | false =>
                  refine RD 14 72 [] [(0, .ro .unk x0.length (TRange.cl x0)), (1, iA x1), (5, iA v24), (6, iA v25), (31, .ro .unk x0.length (TRange.cl x0)), (32, iA v25), (33, .rop ([iA v30.gFrom, iA v30.gTo, iA v30.gVariation] ++ tl30)), (34, .rop ([iA v30.gFrom, iA v30.gTo, iA v30.gVariation] ++ tl30)), (35, iA v30.gFrom), (36, iA v24), (37, bA false), (38, bA false), (39, .ro .unk x0.length (TRange.cl x0)), (40, iA v25), (41, .rop ([iA v31.gFrom, iA v31.gTo, iA v31.gVariation] ++ tl31)), (42, .rop ([iA v31.gTo, iA v31.gVariation] ++ tl31)), (43, iA v31.gTo), (44, iA v24), (45, bA false), (46, bA (false || false)), (47, bA (false || false)), (48, iA v25), (49, bA false), (50, bA false), (51, undefA), (52, undefA), (53, undefA), (54, undefA), (55, undefA), (56, undefA), (57, undefA), (58, undefA), (59, undefA), (60, undefA), (61, undefA), (62, undefA), (63, bA (false && (v32.gVariation == v33.gVariation))), (64, bA ((false || false) || (false && (v32.gVariation == v33.gVariation))))] ?_
                  exact AD_here [0, 1, 6, 64] (by kernel_rfl) rfl
          refine CD H (fun hb34 H => ?_) (fun hb34 H => ?_)
          · refine AWP_reg (Rh 1 72 [(4, iA 9)] (AOps_done ?_))
            exact AWP_ret (FR H)
          · refine AWP_skip ?_
            show AWP _ _ _ _ _ _ _
            refine AWP_region ?_
            refine Rh 2 72 [(0, .ro .unk x0.length (TRange.cl x0)), (1, iA x1), (6, iA v25), (65, .ro .unk x0.length (TRange.cl x0)), (66, iA v25)] ?_
            obtain ⟨v35, hv35, H⟩ := bind_some H
            refine AOps_index (d := (some 67)) (sz := 3) (c := TRange.cs) (by kernel_rfl) rfl (eq_TRange_cl _) (fun _ => rfl) (by decide) hv35 (fun tl35 => ?_)
            refine Rh 3 72 [(0, .ro .unk x0.length (TRange.cl x0)), (1, iA x1), (5, iA v35.gTo), (6, iA v25)] (AOps_done ?_)
            show AWP _ _ _ _ _ _ _
            refine AWP_region ?_
            refine Rh 3 72 [(0, .ro .unk x0.length (TRange.cl x0)), (1, iA x1), (5, iA v35.gTo), (6, iA (w64 (v25 + 1)))] (AOps_done ?_)
            exact Exists.intro (v35.gTo, w64 (v25 + 1)) (Exists.intro n ⟨by omega, ⟨by omega, H⟩, Norm_fd [0, 1, 5, 6] 0 (by kernel_rfl) rfl rfl trivial (by refine scL_fr ?_; exact ⟨(scl_TRange_cl _ _), trivial, trivial, trivial, trivial⟩)⟩)
      · refine AWP_exit ?_
        show AWP _ _ _ _ _ _ _
        refine AWP_seq (AWP_reg (Rh 2 72 [(71, bA (v24 != 10000))] (AOps_done (CD H (fun hb36 H => ?_) (fun hb36 H => ?_)))))
        · refine AWP_reg (Rh 1 72 [(4, iA 3)] (AOps_done ?_))
          exact AWP_ret (FR H)
        · refine AWP_skip ?_
          show AWP _ _ _ _ _ _ _
          refine AWP_reg (Rh 1 72 [(4, iA 0)] (AOps_done ?_))
          exact AWP_ret (FR H)
end Go.Proofs.YtjhbobacbaikoaaGreatDoor
/- A function of the program as a pure function, and that the program computes it. -/
namespace Go.Proofs.YtjhbobacbaikoaaGreatDoor
open Go
set_option linter.unusedVariables false
set_option linter.unusedSimpArgs false
set_option maxRecDepth 100000
def p_shape_Split_L1 (n : Nat) (x0 : List TRange) (x1 : Int) (v14 : Int) (v15 : Int) (v16 : Int) (v17 : Int) : Option Int := match n with
| 0 => none
| n + 1 =>
(bif decide (v14 < (lI x0)) then
(rdO x0 v14).bind fun v19 =>
(bif (decide (v19.gVariation < 1)) || (decide (v19.gVariation > x1)) then
 some (3)
 else
(bif ((v19.gFrom != v16) || (decide (v19.gTo ≤ v19.gFrom))) || (v19.gVariation == v17) then
 some (9)
 else
 p_shape_Split_L1 n x0 x1 (w64 (v14 + 1)) v19.gFrom v19.gTo v19.gVariation))
 else
(p_shape_when n (v16 != 10000) 3).bind fun v22 =>
 some (v22))
def p_shape_Split (n : Nat) (x0 : List TRange) (x1 : Int) : Option Int :=
(bif decide ((lI x0) > 16) then
 some (5)
 else
 p_shape_Split_L1 n x0 x1 0 0 0 0)
variable {E : Env}
theorem s_shape_Split {n : Nat} {x0 : List TRange} {x1 : Int} {r : Int} (H : p_shape_Split n x0 x1 = some r) :
    Sp Tryz.prog E 23 [.ro .unk x0.length (TRange.cl x0), iA x1] [] (isA (iA r) []) := by
  unfold p_shape_Split at H
  refine Sp_fn Tryz.func23 rfl (fun hc hs => ?_)
  refine AWP_reg (Rh 1 52 [(0, .ro .unk x0.length (TRange.cl x0)), (1, iA x1)] (AOps_done (AWP_seq (AWP_reg (Rh 3 52 [(0, .ro .unk x0.length (TRange.cl x0)), (1, iA x1), (10, bA (decide ((lI x0) > 16)))] (AOps_done (CD H (fun hb1 H => ?_) (fun hb1 H => ?_))))))))
  · refine AWP_reg (Rh 1 52 [(4, iA 5)] (AOps_done ?_))
    exact AWP_ret (FR H)
  · refine AWP_skip ?_
    show AWP _ _ _ _ _ _ _
    refine AWP_reg (R 3 52 [(0, .ro .unk x0.length (TRange.cl x0)), (1, iA x1), (5, .ptr 0 0)] [.cells 52 [iA 0, iA 0, iA 0]] (AOps_done (AWP_seq (AWP_reg (Rh 3 52 [(1, iA x1), (5, .ptr 0 0), (12, .ro .unk x0.length (TRange.cl x0)), (13, iA (lI x0)), (14, iA 0)] (AOps_done (AWP_block ?_)))))))
    refine AWP_loopN (α := Int × Int × Int × Int) (fun ⟨v14, v15, v16, v17⟩ => fr 52 [(1, iA x1), (5, .ptr 0 0), (12, .ro .unk x0.length (TRange.cl x0)), (13, iA (lI x0)), (14, iA v14)]) (fun ⟨v14, v15, v16, v17⟩ => [.cells 52 [iA v15, iA v16, iA v17]]) (fun k_ ⟨v14, v15, v16, v17⟩ => k_ ≤ n ∧ p_shape_Split_L1 k_ x0 x1 v14 v15 v16 v17 = some r) (fun n a H => ?_) (k := n) (0, 0, 0, 0) ⟨Nat.le_refl _, H⟩ (Norm_fd [1, 5, 12, 13, 14] 0 (by kernel_rfl) rfl rfl ⟨⟨trivial, trivial, trivial, trivial⟩, trivial⟩ (by refine scL_fr ?_; exact ⟨trivial, (sc_ptr rfl), (scl_TRange_cl _ _), trivial, trivial, trivial⟩))
    obtain ⟨v14, v15, v16, v17⟩ := a
    show AWP _ _ _ _ _ (fr 52 [(1, iA x1), (5, .ptr 0 0), (12, .ro .unk x0.length (TRange.cl x0)), (13, iA (lI x0)), (14, iA v14)]) [.cells 52 [iA v15, iA v16, iA v17]]
    obtain ⟨hb_, H⟩ := H
    replace H : p_shape_Split_L1 n x0 x1 v14 v15 v16 v17 = some r := H
    cases n with
    | zero => exact not_none (by simpa only [p_shape_Split_L1] using H)
    | succ n =>
      unfold p_shape_Split_L1 at H
      refine AWP_reg (Rh 1 52 [(1, iA x1), (5, .ptr 0 0), (12, .ro .unk x0.length (TRange.cl x0)), (13, iA (lI x0)), (14, iA v14), (15, bA (decide (v14 < (lI x0))))] (AOps_done (AWP_seq (CD H (fun hb18 H => ?_) (fun hb18 H => ?_)))))
      · refine AWP_skip ?_
        show AWP _ _ _ _ _ _ _
        refine AWP_seq (AWP_block ?_)
        refine AWP_reg ?_
        obtain ⟨v19, hv19, H⟩ := bind_some H
        refine AOps_index (d := (some 16)) (sz := 3) (c := TRange.cs) (by kernel_rfl) rfl (eq_TRange_cl _) (fun _ => rfl) (by decide) hv19 (fun tl19 => ?_)
        refine R 3 52 [(1, iA x1), (5, .ptr 0 0), (7, .ptr 1 0), (12, .ro .unk x0.length (TRange.cl x0)), (13, iA (lI x0)), (14, iA v14)] [.cells 52 (TRange.cs v19), .cells 52 [iA v15, iA v16, iA v17]] (AOps_done (AWP_seq (AWP_reg (Rh 4 52 [(1, iA x1), (5, .ptr 0 0), (7, .ptr 1 0), (12, .ro .unk x0.length (TRange.cl x0)), (13, iA (lI x0)), (14, iA v14), (21, bA (decide (v19.gVariation < 1)))] (AOps_run 5 [1, 5, 7, 12, 13, 14, 26] (st' := fr 52 [(1, iA x1), (5, .ptr 0 0), (7, .ptr 1 0), (12, .ro .unk x0.length (TRange.cl x0)), (13, iA (lI x0)), (14, iA v14), (26, bA ((decide (v19.gVariation < 1)) || (decide (v19.gVariation > x1))))]) (h' := [.cells 52 (TRange.cs v19), .cells 52 [iA v15, iA v16, iA v17]]) (by (generalize (decide (v19.gVariation < 1)) = t0; cases t0 <;> kernel_rfl)) ?_)))))
        refine AOps_done (CD H (fun hb20 H => ?_) (fun hb20 H => ?_))
        · refine AWP_reg (Rh 1 52 [(4, iA 3)] (AOps_done ?_))
          exact AWP_ret (FR H)
        · refine AWP_skip ?_
          show AWP _ _ _ _ _ _ _
          refine AWP_seq (AWP_reg (Rh 6 52 [(1, iA x1), (5, .ptr 0 0), (7, .ptr 1 0), (12, .ro .unk x0.length (TRange.cl x0)), (13, iA (lI x0)), (14, iA v14), (32, bA (v19.gFrom != v16))] (AOps_run 6 [1, 5, 7, 12, 13, 14, 38] (st' := fr 52 [(1, iA x1), (5, .ptr 0 0), (7, .ptr 1 0), (12, .ro .unk x0.length (TRange.cl x0)), (13, iA (lI x0)), (14, iA v14), (38, bA ((v19.gFrom != v16) || (decide (v19.gTo ≤ v19.gFrom))))]) (h' := [.cells 52 (TRange.cs v19), .cells 52 [iA v15, iA v16, iA v17]]) (by (generalize (v19.gFrom != v16) = t0; cases t0 <;> kernel_rfl)) ?_)))
          refine Rh 1 52 [(1, iA x1), (5, .ptr 0 0), (7, .ptr 1 0), (12, .ro .unk x0.length (TRange.cl x0)), (13, iA (lI x0)), (14, iA v14), (39, bA ((v19.gFrom != v16) || (decide (v19.gTo ≤ v19.gFrom))))] (AOps_run 6 [1, 5, 7, 12, 13, 14, 45] (st' := fr 52 [(1, iA x1), (5, .ptr 0 0), (7, .ptr 1 0), (12, .ro .unk x0.length (TRange.cl x0)), (13, iA (lI x0)), (14, iA v14), (45, bA (((v19.gFrom != v16) || (decide (v19.gTo ≤ v19.gFrom))) || (v19.gVariation == v17)))]) (h' := [.cells 52 (TRange.cs v19), .cells 52 [iA v15, iA v16, iA v17]]) (by (generalize (v19.gFrom != v16) = t0; generalize (decide (v19.gTo ≤ v19.gFrom)) = t1; cases t0 <;> cases t1 <;> kernel_rfl)) ?_)
          refine AOps_done (CD H (fun hb21 H => ?_) (fun hb21 H => ?_))
          · refine AWP_reg (Rh 1 52 [(4, iA 9)] (AOps_done ?_))
            exact AWP_ret (FR H)
          · refine AWP_skip ?_
            show AWP _ _ _ _ _ _ _
            refine AWP_region ?_
            refine R 2 52 [(1, iA x1), (5, .ptr 0 0), (12, .ro .unk x0.length (TRange.cl x0)), (13, iA (lI x0)), (14, iA v14)] [.cells 52 (TRange.cs v19), .cells 52 (TRange.cs v19)] (AOps_done ?_)
            show AWP _ _ _ _ _ _ _
            refine AWP_region ?_
            refine Rh 2 52 [(1, iA x1), (5, .ptr 0 0), (12, .ro .unk x0.length (TRange.cl x0)), (13, iA (lI x0)), (14, iA (w64 (v14 + 1)))] (AOps_done ?_)
            exact Exists.intro (w64 (v14 + 1), v19.gFrom, v19.gTo, v19.gVariation) (Exists.intro n ⟨by omega, ⟨by omega, H⟩, Norm_fd [1, 5, 12, 13, 14] 1 (by kernel_rfl) rfl rfl ⟨⟨trivial, trivial, trivial, trivial⟩, trivial⟩ (by refine scL_fr ?_; exact ⟨trivial, (sc_ptr rfl), (scl_TRange_cl _ _), trivial, trivial, trivial⟩)⟩)
      · refine AWP_exit ?_
        show AWP _ _ _ _ _ _ _
        refine AWP_reg (Rh 3 52 [(50, bA (v16 != 10000))] ?_)
        obtain ⟨v22, hv22, H⟩ := bind_some H
        refine AOps_callp (d := (some 51)) (al := [bA (v16 != 10000), iA 3]) (r := iA v22) (by kernel_rfl) (s_shape_when hv22) ⟨trivial, trivial, trivial⟩ trivial ?_
        refine Rh 1 52 [(4, iA v22)] (AOps_done ?_)
        exact AWP_ret (FR H)
end Go.Proofs.YtjhbobacbaikoaaGreatDoor
/- Splits: the program and the reference agree. -/
namespace Go.Proofs.YtjhbobacbaikoaaGreatDoor
open Go
set_option linter.unusedVariables false
set_option linter.unusedSimpArgs false
theorem split_bi (l : List TRange) (m : Int) : ∃ v, Al fun n => p_shape_Split n l m = some v ∧ p_ref6_Split n l m = some v := by
  unfold p_shape_Split p_ref6_Split
  by_cases hl : lI l > 16
  · exact ⟨5, .of fun n => by rw [decide_eq_true hl]; exact ⟨rfl, rfl⟩⟩
  · rw [decide_eq_false hl]
    have hlen : l.length ≤ 16 := long_no (k := 16) hl
    have key : ∀ (q i : Nat) (f a u : Int), i + q = l.length → (∀ (h : 0 < i) (hi : i - 1 < l.length), u = l[i - 1].gVariation) → (i = 0 → u = 0) → ∃ v, Al fun n => p_shape_Split_L1 n l m i f a u = some v ∧ p_ref6_Split_L1 n l m a i = some v := by
      intro q
      induction q with
      | zero =>
        intro i f a u hi _ _
        obtain rfl : i = l.length := by omega
        refine ⟨if (a != 10000) = true then 3 else 0, Al.succ (.of fun n => ?_)⟩
        rw [p_shape_Split_L1, p_ref6_Split_L1, lI_out]
        simp only [cond_false, when_eq, Option.bind_some]
        cases (a != 10000) <;> simp
      | succ q ih =>
        intro i f a u hi h0 h1
        have hil : i < l.length := by omega
        have hd := lI_in hil
        have hr := rdO_nat hil
        have hprev : ∀ h : 0 < i, rdO l (w64 ((i : Int) - 1)) = some (l[i - 1]'(by omega)) := fun h => rdO_pred h hil (by omega)
        by_cases c1 : l[i].gVariation < 1
        · refine ⟨3, Al.succ (.of fun n => ?_)⟩
          rw [p_shape_Split_L1, p_ref6_Split_L1, hd]
          simp [hr, c1]
        · by_cases c2 : l[i].gVariation > m
          · refine ⟨3, Al.succ (.of fun n => ?_)⟩
            rw [p_shape_Split_L1, p_ref6_Split_L1, hd]
            simp [hr, c1, c2]
          · have hvar : (l[i].gVariation == u) = (decide ((i : Int) > 0) && (l[i].gVariation == (if h : 0 < i then (l[i - 1]'(by omega)).gVariation else 0))) := by
              by_cases hz : 0 < i
              · rw [decide_eq_true (show (i : Int) > 0 by omega), dif_pos hz, ← h0 hz (by omega)]; rfl
              · rw [decide_eq_false (show ¬ (i : Int) > 0 by omega), h1 (by omega)]
                rw [beq_eq_false_iff_ne.2 (by omega)]; rfl
            by_cases c3 : l[i].gFrom = a
            · by_cases c4 : l[i].gTo ≤ a
              · refine ⟨9, Al.succ (.of fun n => ?_)⟩
                rw [p_shape_Split_L1, p_ref6_Split_L1, hd]
                simp [hr, c1, c2, c3, c4]
              · by_cases hz : 0 < i
                · have hz' : (i : Int) > 0 := by omega
                  have hu := h0 hz (by omega)
                  by_cases c5 : l[i].gVariation = u
                  · refine ⟨9, Al.succ (.of fun n => ?_)⟩
                    rw [p_shape_Split_L1, p_ref6_Split_L1, hd]
                    have c6 : l[i].gVariation = l[i - 1].gVariation := by rw [c5, hu]
                    rw [hprev hz, decide_eq_true hz']
                    rw [c5] at c1 c2
                    simp [hr, c1, c2, c3, c4, c5, ← hu]
                  · obtain ⟨v, hv⟩ := ih (i + 1) l[i].gFrom l[i].gTo l[i].gVariation (by omega) (fun _ _ => rfl) (fun h => by omega)
                    refine ⟨v, Al.succ (hv.mono fun n ⟨a1, a2⟩ => ?_)⟩
                    rw [p_shape_Split_L1, p_ref6_Split_L1, hd]
                    have c6 : ¬ l[i].gVariation = l[i - 1].gVariation := by rw [← hu]; exact c5
                    rw [hprev hz, decide_eq_true hz', w64_add (by omega)]
                    rw [c3] at a1
                    generalize ((i + 1 : Nat) : Int) = J at a1 a2 ⊢
                    simp [hr, c1, c2, c3, c4, beq_eq_false_iff_ne.2 c5, beq_eq_false_iff_ne.2 c6, a1, a2]
                · have hz' : ¬ (i : Int) > 0 := by omega
                  have hu := h1 (by omega)
                  have c5 : ¬ l[i].gVariation = u := by omega
                  obtain ⟨v, hv⟩ := ih (i + 1) l[i].gFrom l[i].gTo l[i].gVariation (by omega) (fun _ _ => rfl) (fun h => by omega)
                  refine ⟨v, Al.succ (hv.mono fun n ⟨a1, a2⟩ => ?_)⟩
                  rw [p_shape_Split_L1, p_ref6_Split_L1, hd]
                  rw [decide_eq_false hz', w64_add (by omega)]
                  rw [c3] at a1
                  generalize ((i + 1 : Nat) : Int) = J at a1 a2 ⊢
                  simp [hr, c1, c2, c3, c4, beq_eq_false_iff_ne.2 c5, a1, a2]
            · refine ⟨9, Al.succ (.of fun n => ?_)⟩
              have c3' : (l[i].gFrom != a) = true := by rw [bne_iff_ne]; exact c3
              rw [p_shape_Split_L1, p_ref6_Split_L1, hd]
              simp [hr, c1, c2, c3']
    simp only [cond_false]
    exact key l.length 0 0 0 0 (by omega) (fun h => absurd h (Nat.lt_irrefl _)) (fun _ => rfl)
end Go.Proofs.YtjhbobacbaikoaaGreatDoor
/- A function of the program as a pure function, and that the program computes it. -/
namespace Go.Proofs.YtjhbobacbaikoaaGreatDoor
open Go
set_option linter.unusedVariables false
set_option linter.unusedSimpArgs false
set_option maxRecDepth 100000
def p_unicode_utf8_word_string (n : Nat) (x0 : ByteArray) : Option Int :=
(rdS x0 0).bind fun v1 =>
(rdS x0 1).bind fun v2 =>
(rdS x0 2).bind fun v3 =>
(rdS x0 3).bind fun v4 =>
(rdS x0 4).bind fun v5 =>
(rdS x0 5).bind fun v6 =>
(rdS x0 6).bind fun v7 =>
(rdS x0 7).bind fun v8 =>
 some (orI .u64 (orI .u64 (orI .u64 (orI .u64 (orI .u64 (orI .u64 (orI .u64 (IntKind.u64.wrap v1) (shlI .u64 (IntKind.u64.wrap v2) 8)) (shlI .u64 (IntKind.u64.wrap v3) 16)) (shlI .u64 (IntKind.u64.wrap v4) 24)) (shlI .u64 (IntKind.u64.wrap v5) 32)) (shlI .u64 (IntKind.u64.wrap v6) 40)) (shlI .u64 (IntKind.u64.wrap v7) 48)) (shlI .u64 (IntKind.u64.wrap v8) 56))
variable {E : Env}
theorem s_unicode_utf8_word_string {n : Nat} {x0 : ByteArray} {r : Int} (H : p_unicode_utf8_word_string n x0 = some r) :
    Sp Tryz.prog E 131 [sA x0] [] (isA (iK .u64 r) []) := by
  unfold p_unicode_utf8_word_string at H
  refine Sp_fn Tryz.func131 rfl (fun hc hs => ?_)
  refine AWP_reg (Rh 1 59 [(0, sA x0)] (AOps_done (AWP_seq (AWP_cond (t := false) (by kernel_rfl) (fun hb => ?_) (fun hb => ?_)))))
  · cases hb
  · refine AWP_skip ?_
    show AWP _ _ _ _ _ _ _
    obtain ⟨v1, hv1, H⟩ := bind_some H
    obtain ⟨v2, hv2, H⟩ := bind_some H
    obtain ⟨v3, hv3, H⟩ := bind_some H
    obtain ⟨v4, hv4, H⟩ := bind_some H
    obtain ⟨v5, hv5, H⟩ := bind_some H
    obtain ⟨v6, hv6, H⟩ := bind_some H
    obtain ⟨v7, hv7, H⟩ := bind_some H
    obtain ⟨v8, hv8, H⟩ := bind_some H
    refine AWP_regD1 [0, 1, 2, 3, 4, 5, 6, 7, 8, 9, 10, 11, 12, 13, 14, 15, 16, 17, 18, 19, 20, 21, 22, 23, 24, 25, 26, 27, 28, 29, 30, 31, 32, 33, 34, 35, 36, 37, 38] (N := 59) (f := [(0, sA x0)]) (leL_of [0] (by kernel_rfl)) mixed (by kernel_rfl) (by kernel_rfl) (st' := fr 59 [(2, iK .u64 (orI .u64 (orI .u64 (orI .u64 (orI .u64 (orI .u64 (orI .u64 (orI .u64 (IntKind.u64.wrap v1) (shlI .u64 (IntKind.u64.wrap v2) 8)) (shlI .u64 (IntKind.u64.wrap v3) 16)) (shlI .u64 (IntKind.u64.wrap v4) 24)) (shlI .u64 (IntKind.u64.wrap v5) 32)) (shlI .u64 (IntKind.u64.wrap v6) 40)) (shlI .u64 (IntKind.u64.wrap v7) 48)) (shlI .u64 (IntKind.u64.wrap v8) 56)))]) (h' := []) ?_ ?_
    rotate_left
    · refine RD 1 59 [] [(0, sA x0), (21, sA x0)] (AD_sindex (d := (some 22)) (by kernel_rfl) hv1 ?_)
      refine RD 2 59 [] [(0, sA x0), (21, sA x0), (22, iK .u8 v1), (23, iK .u64 (IntKind.u64.wrap v1)), (24, sA x0)] (AD_sindex (d := (some 25)) (by kernel_rfl) hv2 ?_)
      refine RD 4 59 [] [(0, sA x0), (21, sA x0), (22, iK .u8 v1), (23, iK .u64 (IntKind.u64.wrap v1)), (24, sA x0), (25, iK .u8 v2), (26, iK .u64 (IntKind.u64.wrap v2)), (27, iK .u64 (shlI .u64 (IntKind.u64.wrap v2) 8)), (28, iK .u64 (orI .u64 (IntKind.u64.wrap v1) (shlI .u64 (IntKind.u64.wrap v2) 8))), (29, sA x0)] (AD_sindex (d := (some 30)) (by kernel_rfl) hv3 ?_)
      refine RD 4 59 [] [(0, sA x0), (21, sA x0), (22, iK .u8 v1), (23, iK .u64 (IntKind.u64.wrap v1)), (24, sA x0), (25, iK .u8 v2), (26, iK .u64 (IntKind.u64.wrap v2)), (27, iK .u64 (shlI .u64 (IntKind.u64.wrap v2) 8)), (28, iK .u64 (orI .u64 (IntKind.u64.wrap v1) (shlI .u64 (IntKind.u64.wrap v2) 8))), (29, sA x0), (30, iK .u8 v3), (31, iK .u64 (IntKind.u64.wrap v3)), (32, iK .u64 (shlI .u64 (IntKind.u64.wrap v3) 16)), (33, iK .u64 (orI .u64 (orI .u64 (IntKind.u64.wrap v1) (shlI .u64 (IntKind.u64.wrap v2) 8)) (shlI .u64 (IntKind.u64.wrap v3) 16))), (34, sA x0)] (AD_sindex (d := (some 35)) (by kernel_rfl) hv4 ?_)
      refine RD 4 59 [] [(0, sA x0), (21, sA x0), (22, iK .u8 v1), (23, iK .u64 (IntKind.u64.wrap v1)), (24, sA x0), (25, iK .u8 v2), (26, iK .u64 (IntKind.u64.wrap v2)), (27, iK .u64 (shlI .u64 (IntKind.u64.wrap v2) 8)), (28, iK .u64 (orI .u64 (IntKind.u64.wrap v1) (shlI .u64 (IntKind.u64.wrap v2) 8))), (29, sA x0), (30, iK .u8 v3), (31, iK .u64 (IntKind.u64.wrap v3)), (32, iK .u64 (shlI .u64 (IntKind.u64.wrap v3) 16)), (33, iK .u64 (orI .u64 (orI .u64 (IntKind.u64.wrap v1) (shlI .u64 (IntKind.u64.wrap v2) 8)) (shlI .u64 (IntKind.u64.wrap v3) 16))), (34, sA x0), (35, iK .u8 v4), (36, iK .u64 (IntKind.u64.wrap v4)), (37, iK .u64 (shlI .u64 (IntKind.u64.wrap v4) 24)), (38, iK .u64 (orI .u64 (orI .u64 (orI .u64 (IntKind.u64.wrap v1) (shlI .u64 (IntKind.u64.wrap v2) 8)) (shlI .u64 (IntKind.u64.wrap v3) 16)) (shlI .u64 (IntKind.u64.wrap v4) 24))), (39, sA x0)] (AD_sindex (d := (some 40)) (by kernel_rfl) hv5 ?_)
      refine RD 4 59 [] [(0, sA x0), (21, sA x0), (22, iK .u8 v1), (23, iK .u64 (IntKind.u64.wrap v1)), (24, sA x0), (25, iK .u8 v2), (26, iK .u64 (IntKind.u64.wrap v2)), (27, iK .u64 (shlI .u64 (IntKind.u64.wrap v2) 8)), (28, iK .u64 (orI .u64 (IntKind.u64.wrap v1) (shlI .u64 (IntKind.u64.wrap v2) 8))), (29, sA x0), (30, iK .u8 v3), (31, iK .u64 (IntKind.u64.wrap v3)), (32, iK .u64 (shlI .u64 (IntKind.u64.wrap v3) 16)), (33, iK .u64 (orI .u64 (orI .u64 (IntKind.u64.wrap v1) (shlI .u64 (IntKind.u64.wrap v2) 8)) (shlI .u64 (IntKind.u64.wrap v3) 16))), (34, sA x0), (35, iK .u8 v4), (36, iK .u64 (IntKind.u64.wrap v4)), (37, iK .u64 (shlI .u64 (IntKind.u64.wrap v4) 24)), (38, iK .u64 (orI .u64 (orI .u64 (orI .u64 (IntKind.u64.wrap v1) (shlI .u64 (IntKind.u64.wrap v2) 8)) (shlI .u64 (IntKind.u64.wrap v3) 16)) (shlI .u64 (IntKind.u64.wrap v4) 24))), (39, sA x0), (40, iK .u8 v5), (41, iK .u64 (IntKind.u64.wrap v5)), (42, iK .u64 (shlI .u64 (IntKind.u64.wrap v5) 32)), (43, iK .u64 (orI .u64 (orI .u64 (orI .u64 (orI .u64 (IntKind.u64.wrap v1) (shlI .u64 (IntKind.u64.wrap v2) 8)) (shlI .u64 (IntKind.u64.wrap v3) 16)) (shlI .u64 (IntKind.u64.wrap v4) 24)) (shlI .u64 (IntKind.u64.wrap v5) 32))), (44, sA x0)] (AD_sindex (d := (some 45)) (by kernel_rfl) hv6 ?_)
      refine RD 4 59 [] [(0, sA x0), (21, sA x0), (22, iK .u8 v1), (23, iK .u64 (IntKind.u64.wrap v1)), (24, sA x0), (25, iK .u8 v2), (26, iK .u64 (IntKind.u64.wrap v2)), (27, iK .u64 (shlI .u64 (IntKind.u64.wrap v2) 8)), (28, iK .u64 (orI .u64 (IntKind.u64.wrap v1) (shlI .u64 (IntKind.u64.wrap v2) 8))), (29, sA x0), (30, iK .u8 v3), (31, iK .u64 (IntKind.u64.wrap v3)), (32, iK .u64 (shlI .u64 (IntKind.u64.wrap v3) 16)), (33, iK .u64 (orI .u64 (orI .u64 (IntKind.u64.wrap v1) (shlI .u64 (IntKind.u64.wrap v2) 8)) (shlI .u64 (IntKind.u64.wrap v3) 16))), (34, sA x0), (35, iK .u8 v4), (36, iK .u64 (IntKind.u64.wrap v4)), (37, iK .u64 (shlI .u64 (IntKind.u64.wrap v4) 24)), (38, iK .u64 (orI .u64 (orI .u64 (orI .u64 (IntKind.u64.wrap v1) (shlI .u64 (IntKind.u64.wrap v2) 8)) (shlI .u64 (IntKind.u64.wrap v3) 16)) (shlI .u64 (IntKind.u64.wrap v4) 24))), (39, sA x0), (40, iK .u8 v5), (41, iK .u64 (IntKind.u64.wrap v5)), (42, iK .u64 (shlI .u64 (IntKind.u64.wrap v5) 32)), (43, iK .u64 (orI .u64 (orI .u64 (orI .u64 (orI .u64 (IntKind.u64.wrap v1) (shlI .u64 (IntKind.u64.wrap v2) 8)) (shlI .u64 (IntKind.u64.wrap v3) 16)) (shlI .u64 (IntKind.u64.wrap v4) 24)) (shlI .u64 (IntKind.u64.wrap v5) 32))), (44, sA x0), (45, iK .u8 v6), (46, iK .u64 (IntKind.u64.wrap v6)), (47, iK .u64 (shlI .u64 (IntKind.u64.wrap v6) 40)), (48, iK .u64 (orI .u64 (orI .u64 (orI .u64 (orI .u64 (orI .u64 (IntKind.u64.wrap v1) (shlI .u64 (IntKind.u64.wrap v2) 8)) (shlI .u64 (IntKind.u64.wrap v3) 16)) (shlI .u64 (IntKind.u64.wrap v4) 24)) (shlI .u64 (IntKind.u64.wrap v5) 32)) (shlI .u64 (IntKind.u64.wrap v6) 40))), (49, sA x0)] (AD_sindex (d := (some 50)) (by kernel_rfl) hv7 ?_)
      refine RD 4 59 [] [(0, sA x0), (21, sA x0), (22, iK .u8 v1), (23, iK .u64 (IntKind.u64.wrap v1)), (24, sA x0), (25, iK .u8 v2), (26, iK .u64 (IntKind.u64.wrap v2)), (27, iK .u64 (shlI .u64 (IntKind.u64.wrap v2) 8)), (28, iK .u64 (orI .u64 (IntKind.u64.wrap v1) (shlI .u64 (IntKind.u64.wrap v2) 8))), (29, sA x0), (30, iK .u8 v3), (31, iK .u64 (IntKind.u64.wrap v3)), (32, iK .u64 (shlI .u64 (IntKind.u64.wrap v3) 16)), (33, iK .u64 (orI .u64 (orI .u64 (IntKind.u64.wrap v1) (shlI .u64 (IntKind.u64.wrap v2) 8)) (shlI .u64 (IntKind.u64.wrap v3) 16))), (34, sA x0), (35, iK .u8 v4), (36, iK .u64 (IntKind.u64.wrap v4)), (37, iK .u64 (shlI .u64 (IntKind.u64.wrap v4) 24)), (38, iK .u64 (orI .u64 (orI .u64 (orI .u64 (IntKind.u64.wrap v1) (shlI .u64 (IntKind.u64.wrap v2) 8)) (shlI .u64 (IntKind.u64.wrap v3) 16)) (shlI .u64 (IntKind.u64.wrap v4) 24))), (39, sA x0), (40, iK .u8 v5), (41, iK .u64 (IntKind.u64.wrap v5)), (42, iK .u64 (shlI .u64 (IntKind.u64.wrap v5) 32)), (43, iK .u64 (orI .u64 (orI .u64 (orI .u64 (orI .u64 (IntKind.u64.wrap v1) (shlI .u64 (IntKind.u64.wrap v2) 8)) (shlI .u64 (IntKind.u64.wrap v3) 16)) (shlI .u64 (IntKind.u64.wrap v4) 24)) (shlI .u64 (IntKind.u64.wrap v5) 32))), (44, sA x0), (45, iK .u8 v6), (46, iK .u64 (IntKind.u64.wrap v6)), (47, iK .u64 (shlI .u64 (IntKind.u64.wrap v6) 40)), (48, iK .u64 (orI .u64 (orI .u64 (orI .u64 (orI .u64 (orI .u64 (IntKind.u64.wrap v1) (shlI .u64 (IntKind.u64.wrap v2) 8)) (shlI .u64 (IntKind.u64.wrap v3) 16)) (shlI .u64 (IntKind.u64.wrap v4) 24)) (shlI .u64 (IntKind.u64.wrap v5) 32)) (shlI .u64 (IntKind.u64.wrap v6) 40))), (49, sA x0), (50, iK .u8 v7), (51, iK .u64 (IntKind.u64.wrap v7)), (52, iK .u64 (shlI .u64 (IntKind.u64.wrap v7) 48)), (53, iK .u64 (orI .u64 (orI .u64 (orI .u64 (orI .u64 (orI .u64 (orI .u64 (IntKind.u64.wrap v1) (shlI .u64 (IntKind.u64.wrap v2) 8)) (shlI .u64 (IntKind.u64.wrap v3) 16)) (shlI .u64 (IntKind.u64.wrap v4) 24)) (shlI .u64 (IntKind.u64.wrap v5) 32)) (shlI .u64 (IntKind.u64.wrap v6) 40)) (shlI .u64 (IntKind.u64.wrap v7) 48))), (54, sA x0)] (AD_sindex (d := (some 55)) (by kernel_rfl) hv8 ?_)
      refine RD 4 59 [] [(0, sA x0), (2, iK .u64 (orI .u64 (orI .u64 (orI .u64 (orI .u64 (orI .u64 (orI .u64 (orI .u64 (IntKind.u64.wrap v1) (shlI .u64 (IntKind.u64.wrap v2) 8)) (shlI .u64 (IntKind.u64.wrap v3) 16)) (shlI .u64 (IntKind.u64.wrap v4) 24)) (shlI .u64 (IntKind.u64.wrap v5) 32)) (shlI .u64 (IntKind.u64.wrap v6) 40)) (shlI .u64 (IntKind.u64.wrap v7) 48)) (shlI .u64 (IntKind.u64.wrap v8) 56))), (21, sA x0), (22, iK .u8 v1), (23, iK .u64 (IntKind.u64.wrap v1)), (24, sA x0), (25, iK .u8 v2), (26, iK .u64 (IntKind.u64.wrap v2)), (27, iK .u64 (shlI .u64 (IntKind.u64.wrap v2) 8)), (28, iK .u64 (orI .u64 (IntKind.u64.wrap v1) (shlI .u64 (IntKind.u64.wrap v2) 8))), (29, sA x0), (30, iK .u8 v3), (31, iK .u64 (IntKind.u64.wrap v3)), (32, iK .u64 (shlI .u64 (IntKind.u64.wrap v3) 16)), (33, iK .u64 (orI .u64 (orI .u64 (IntKind.u64.wrap v1) (shlI .u64 (IntKind.u64.wrap v2) 8)) (shlI .u64 (IntKind.u64.wrap v3) 16))), (34, sA x0), (35, iK .u8 v4), (36, iK .u64 (IntKind.u64.wrap v4)), (37, iK .u64 (shlI .u64 (IntKind.u64.wrap v4) 24)), (38, iK .u64 (orI .u64 (orI .u64 (orI .u64 (IntKind.u64.wrap v1) (shlI .u64 (IntKind.u64.wrap v2) 8)) (shlI .u64 (IntKind.u64.wrap v3) 16)) (shlI .u64 (IntKind.u64.wrap v4) 24))), (39, sA x0), (40, iK .u8 v5), (41, iK .u64 (IntKind.u64.wrap v5)), (42, iK .u64 (shlI .u64 (IntKind.u64.wrap v5) 32)), (43, iK .u64 (orI .u64 (orI .u64 (orI .u64 (orI .u64 (IntKind.u64.wrap v1) (shlI .u64 (IntKind.u64.wrap v2) 8)) (shlI .u64 (IntKind.u64.wrap v3) 16)) (shlI .u64 (IntKind.u64.wrap v4) 24)) (shlI .u64 (IntKind.u64.wrap v5) 32))), (44, sA x0), (45, iK .u8 v6), (46, iK .u64 (IntKind.u64.wrap v6)), (47, iK .u64 (shlI .u64 (IntKind.u64.wrap v6) 40)), (48, iK .u64 (orI .u64 (orI .u64 (orI .u64 (orI .u64 (orI .u64 (IntKind.u64.wrap v1) (shlI .u64 (IntKind.u64.wrap v2) 8)) (shlI .u64 (IntKind.u64.wrap v3) 16)) (shlI .u64 (IntKind.u64.wrap v4) 24)) (shlI .u64 (IntKind.u64.wrap v5) 32)) (shlI .u64 (IntKind.u64.wrap v6) 40))), (49, sA x0), (50, iK .u8 v7), (51, iK .u64 (IntKind.u64.wrap v7)), (52, iK .u64 (shlI .u64 (IntKind.u64.wrap v7) 48)), (53, iK .u64 (orI .u64 (orI .u64 (orI .u64 (orI .u64 (orI .u64 (orI .u64 (IntKind.u64.wrap v1) (shlI .u64 (IntKind.u64.wrap v2) 8)) (shlI .u64 (IntKind.u64.wrap v3) 16)) (shlI .u64 (IntKind.u64.wrap v4) 24)) (shlI .u64 (IntKind.u64.wrap v5) 32)) (shlI .u64 (IntKind.u64.wrap v6) 40)) (shlI .u64 (IntKind.u64.wrap v7) 48))), (54, sA x0), (55, iK .u8 v8), (56, iK .u64 (IntKind.u64.wrap v8)), (57, iK .u64 (shlI .u64 (IntKind.u64.wrap v8) 56)), (58, iK .u64 (orI .u64 (orI .u64 (orI .u64 (orI .u64 (orI .u64 (orI .u64 (orI .u64 (IntKind.u64.wrap v1) (shlI .u64 (IntKind.u64.wrap v2) 8)) (shlI .u64 (IntKind.u64.wrap v3) 16)) (shlI .u64 (IntKind.u64.wrap v4) 24)) (shlI .u64 (IntKind.u64.wrap v5) 32)) (shlI .u64 (IntKind.u64.wrap v6) 40)) (shlI .u64 (IntKind.u64.wrap v7) 48)) (shlI .u64 (IntKind.u64.wrap v8) 56)))] ?_
      exact AD_here [2] (by kernel_rfl) rfl
    exact AWP_ret (FR H)
end Go.Proofs.YtjhbobacbaikoaaGreatDoor
