/- A flag in which something was changed is of bounded size. -/
import Derived.Test.YtjhbobacbaikoaaGreatDoorM7
import Derived.Test.YtjhbobacbaikoaaGreatDoorM8
import Derived.Test.YtjhbobacbaikoaaGreatDoorM9
import Derived.Test.YtjhbobacbaikoaaGreatDoorM4
import Derived.Test.YtjhbobacbaikoaaGreatDoorM5
import Derived.Test.YtjhbobacbaikoaaGreatDoorM6
import Derived.Test.YtjhbobacbaikoaaGreatDoorCards
import Derived.Test.YtjhbobacbaikoaaGreatDoorTie
import Derived.Deep.DeepHandedRow
import Derived.Deep.DeepWitnessRowRef
import Derived.OpenShut
namespace Go.Proofs.YtjhbobacbaikoaaGreatDoor
open Go
set_option linter.unusedVariables false
set_option linter.unusedSimpArgs false
set_option maxRecDepth 100000
structure TRule.bd (B : Nat) (x : TRule) : Prop where
  name : x.gName.size ≤ 100
  cond : x.gWhen.bd B
  serve : x.gServe.bd B
structure TTarget.bd (B : Nat) (x : TTarget) : Prop where
  kind : x.gKind.size ≤ 100
  len : x.gKeys.length ≤ B
  keys : ∀ s ∈ x.gKeys, s.size ≤ 100
structure TFlag.bd (B : Nat) (x : TFlag) : Prop where
  key : x.gKey.size ≤ 100
  vlen : x.gVariations.length ≤ B
  vars : ∀ v ∈ x.gVariations, v.bd
  plen : x.gPrerequisites.length ≤ B
  pre : ∀ v ∈ x.gPrerequisites, v.gFlag.size ≤ 100
  tlen : x.gTargets.length ≤ B
  tar : ∀ v ∈ x.gTargets, v.bd B
  rlen : x.gRules.length ≤ B
  rules : ∀ v ∈ x.gRules, v.bd B
  dflt : x.gDefault.bd B
theorem TRule.bd.le {B C : Nat} (h : B ≤ C) {x : TRule} (hx : x.bd B) : x.bd C := ⟨hx.name, TExpr.bd_le h _ hx.cond, hx.serve.le h⟩
theorem TTarget.bd.le {B C : Nat} (h : B ≤ C) {x : TTarget} (hx : x.bd B) : x.bd C := ⟨hx.kind, Nat.le_trans hx.len h, hx.keys⟩
theorem TFlag.bd.le {B C : Nat} (h : B ≤ C) {x : TFlag} (hx : x.bd B) : x.bd C :=
  ⟨hx.key, Nat.le_trans hx.vlen h, hx.vars, Nat.le_trans hx.plen h, hx.pre, Nat.le_trans hx.tlen h, fun v hv => (hx.tar v hv).le h, Nat.le_trans hx.rlen h, fun v hv => (hx.rules v hv).le h, hx.dflt.le h⟩
theorem mem_snoc {α : Type} {P : α → Prop} {l : List α} {y : α} (hl : ∀ x ∈ l, P x) (hy : P y) : ∀ x ∈ l ++ [y], P x := by
  intro x hx
  rcases List.mem_append.1 hx with h | h
  · exact hl x h
  · obtain rfl : x = y := by simpa using h
    exact hy
theorem mem_setl {α : Type} {P : α → Prop} {l : List α} {y : α} {j : Nat} (hl : ∀ x ∈ l, P x) (hy : P y) : ∀ x ∈ l.set j y, P x := by
  intro x hx
  rcases List.mem_or_eq_of_mem_set hx with h | rfl
  · exact hl x h
  · exact hy
theorem opT_bd {B : Nat} {op : Int} : (TExpr.mk op ByteArray.empty ByteArray.empty [] []).bd B :=
  TExpr.bd_iff.2 ⟨(by show 0 ≤ 100; decide), (by show 0 ≤ 100; decide), Nat.zero_le _, fun v hv => (by cases hv), Nat.zero_le _, fun v hv => (by cases hv)⟩
section
variable {B : Nat} {x : TFlag} {c : TCodes}
theorem flag_K1 {key : ByteArray} {kd off : Int} {vs : List TValue} {ps : List TPrerequisite} {ts : List TTarget} {rs : List TRule} {d : TServe} (hc : c.cok) (h1 : key.size ≤ 100) (h2 : vs.length ≤ B) (h3 : ∀ v ∈ vs, v.bd) (h4 : ps.length ≤ B) (h5 : ∀ v ∈ ps, v.gFlag.size ≤ 100)
    (h6 : ts.length ≤ B) (h7 : ∀ v ∈ ts, v.bd B) (h8 : rs.length ≤ B) (h9 : ∀ v ∈ rs, v.bd B) (h10 : d.bd B) :
    Gv (fun n => p_draw_Codes_Flag_K1 n x c.glist c.gat key kd vs off ps ts rs d.gVariation d.gKind d.gBy d.gSalt d.gSplit) fun r => r.1.bd B ∧ r.2.cok := by
  unfold p_draw_Codes_Flag_K1
  exact Gv.pure ⟨⟨h1, h2, h3, h4, h5, h6, h7, h8, h9, h10⟩, hc⟩
theorem flag_L1 (h20 : 20 ≤ B) (hx : x.bd B) {vs : List TValue} {ps : List TPrerequisite} {ts : List TTarget} (h2 : vs.length ≤ B) (h3 : ∀ v ∈ vs, v.bd) (h4 : ps.length ≤ B) (h5 : ∀ v ∈ ps, v.gFlag.size ≤ 100) (h6 : ts.length ≤ B) (h7 : ∀ v ∈ ts, v.bd B) :
    ∀ (q : Nat) (c : TCodes) (l : List TRule), 14 ≤ l.length + q → c.cok → l.length ≤ B → (∀ v ∈ l, v.bd B) → Gv (fun n => p_draw_Codes_Flag_L1 n x vs ts ps c.glist c.gat l) fun r => r.1.bd B ∧ r.2.cok := by
  intro q
  induction q with
  | zero =>
    intro c l hq hc hl hb
    refine Gv.succ ?_
    simp only [p_draw_Codes_Flag_L1]
    refine Gv.bind (next_gv hc (k := 2) (by decide) (by decide)) fun s hs => ?_
    rw [w64_of (show -9223372036854775808 ≤ 12 + s.1 by omega) (by omega)]
    refine Gv.cond (fun h => ?_) fun _ => flag_K1 hs.2.2 hx.key h2 h3 h4 h5 h6 h7 hl hb hx.dflt
    have h := of_decide_eq_true h
    unfold lI at h
    omega
  | succ q ih =>
    intro c l hq hc hl hb
    refine Gv.succ ?_
    simp only [p_draw_Codes_Flag_L1]
    refine Gv.bind (next_gv hc (k := 2) (by decide) (by decide)) fun s hs => ?_
    rw [w64_of (show -9223372036854775808 ≤ 12 + s.1 by omega) (by omega)]
    refine Gv.cond (fun h => ?_) fun _ => flag_K1 hs.2.2 hx.key h2 h3 h4 h5 h6 h7 hl hb hx.dflt
    have h := of_decide_eq_true h
    have hlen : l.length < 14 := by unfold lI at h; omega
    obtain ⟨w, ew, hw⟩ := cat_some (a := (⟨#[114]⟩ : ByteArray)) (b := Utf8.encode (IntKind.i32.wrap (w64 (97 + lI l)))) (by rw [enc_letter (by unfold lI; omega) (by unfold lI; omega)]; decide)
    refine Gv.bind (Gv.opt (Q := fun r => r.size = 2) ew (by rw [hw, enc_letter (by unfold lI; omega) (by unfold lI; omega)]; rfl)) fun nm hnm => ?_
    refine Gv.bind (Gv.app (Q := fun m => m = l ++ [{ gName := nm, gWhen := TExpr.mk 1 ByteArray.empty ByteArray.empty [] [], gServe := x.gDefault }]) (by simp; omega) (by decide) rfl) ?_
    rintro m rfl
    exact ih s.2 _ (by simp; omega) hs.2.2 (by simp; omega) (mem_snoc hb ⟨(by show nm.size ≤ 100; omega), opT_bd, hx.dflt⟩)
theorem flag_gv (h20 : 20 ≤ B) (hB : B ≤ 5000) (hx : x.bd B) (hc : c.cok) : Gv (fun n => p_draw_Codes_Flag n c x) fun r => r.1.bd (B + 90) ∧ r.2.cok := by
  have hy := hx.le (show B ≤ B + 90 by omega)
  have v1 := hx.vlen
  have v2 := hx.plen
  have v3 := hx.tlen
  have v4 := hx.rlen
  unfold p_draw_Codes_Flag
  refine Gv.bind (Gv.app (Q := fun m => m = x.gVariations) (by simp; omega) (by decide) (by simp)) ?_
  rintro m rfl
  refine Gv.bind (Gv.app (Q := fun m => m = x.gRules) (by simp; omega) (by decide) (by simp)) ?_
  rintro m rfl
  refine Gv.bind (Gv.app (Q := fun m => m = x.gTargets) (by simp; omega) (by decide) (by simp)) ?_
  rintro m rfl
  refine Gv.bind (Gv.app (Q := fun m => m = x.gPrerequisites) (by simp; omega) (by decide) (by simp)) ?_
  rintro m rfl
  refine Gv.bind (next_gv hc (k := 14) (by decide) (by decide)) fun v h => ?_
  have hc := h.2.2
  have dK := flag_K1 (B := B + 90) (x := x) (c := v.2) (kd := x.gKind) (off := x.gOff) hc hy.key hy.vlen hy.vars hy.plen hy.pre hy.tlen hy.tar hy.rlen hy.rules hy.dflt
  have hK2 : ∀ b, Gv (fun n => p_draw_Codes_Flag_K2 n x x.gVariations x.gRules x.gTargets x.gPrerequisites v b) fun r => r.1.bd (B + 90) ∧ r.2.cok := by
    intro b
    unfold p_draw_Codes_Flag_K2
    refine Gv.cond (fun _ => Gv.cond (fun h0 => ?_) fun _ => dK) fun _ => Gv.cond (fun _ => Gv.cond (fun h0 => ?_) fun _ => dK) fun _ => Gv.cond (fun _ => ?_) fun _ => Gv.cond (fun _ => ?_) fun _ => dK
    · have h0 := of_decide_eq_true h0
      unfold lI at h0
      refine Gv.bind (next_gv hc (k := lI x.gRules) (by unfold lI; omega) (by unfold lI; omega)) fun j hj => ?_
      refine Gv.bind (Gv.rd (Q := fun r => r.bd B) hj.1 hj.2.1 hx.rules) fun r hr => ?_
      refine Gv.bind (cond_gv h20 (by omega) _ r.gWhen j.2 (Nat.le_refl _) hr.cond hj.2.2) fun w hw => ?_
      refine Gv.bind (Gv.rd (Q := fun r => r.bd B) hj.1 hj.2.1 hx.rules) fun r2 hr2 => ?_
      exact flag_K1 hw.2 hy.key hy.vlen hy.vars hy.plen hy.pre hy.tlen hy.tar (by rw [List.length_set]; exact hy.rlen) (mem_setl hy.rules ⟨hr2.name, TExpr.bd_le (by omega) _ hw.1, hr2.serve.le (by omega)⟩) hy.dflt
    · have h0 := of_decide_eq_true h0
      unfold lI at h0
      refine Gv.bind (next_gv hc (k := lI x.gRules) (by unfold lI; omega) (by unfold lI; omega)) fun j hj => ?_
      refine Gv.bind (Gv.rd (Q := fun r => r.bd B) hj.1 hj.2.1 hx.rules) fun r hr => ?_
      refine Gv.bind (sv_gv hB hr.serve hj.2.2) fun w hw => ?_
      refine Gv.bind (Gv.rd (Q := fun r => r.bd B) hj.1 hj.2.1 hx.rules) fun r2 hr2 => ?_
      exact flag_K1 hw.2 hy.key hy.vlen hy.vars hy.plen hy.pre hy.tlen hy.tar (by rw [List.length_set]; exact hy.rlen) (mem_setl hy.rules ⟨hr2.name, TExpr.bd_le (by omega) _ hr2.cond, hw.1.le (by omega)⟩) hy.dflt
    · exact Gv.bind (sv_gv hB hx.dflt hc) fun w hw => flag_K1 hw.2 hy.key hy.vlen hy.vars hy.plen hy.pre hy.tlen hy.tar hy.rlen hy.rules (hw.1.le (by omega))
    · exact flag_L1 (by omega) hy hy.vlen hy.vars hy.plen hy.pre hy.tlen hy.tar 14 v.2 x.gRules (by omega) hc (by omega) hy.rules
  refine Gv.cond (fun _ => ?_) fun _ => Gv.cond (fun _ => ?_) fun _ => Gv.cond (fun _ => ?_) fun _ => Gv.cond (fun _ => ?_) fun _ => Gv.cond (fun _ => ?_) fun _ => Gv.cond (fun _ => ?_) fun _ => Gv.cond (fun _ => ?_) fun _ => Gv.cond (fun _ => ?_) fun _ => Gv.cond (fun _ => ?_) fun _ => Gv.cond (fun _ => hK2 _) fun _ => hK2 _
  · exact Gv.bind (name_gv hc) fun r hr => flag_K1 hr.2 (by have := hr.1; omega) hy.vlen hy.vars hy.plen hy.pre hy.tlen hy.tar hy.rlen hy.rules hy.dflt
  · exact Gv.bind (number_gv hc) fun r hr => flag_K1 hr hy.key hy.vlen hy.vars hy.plen hy.pre hy.tlen hy.tar hy.rlen hy.rules hy.dflt
  · refine Gv.bind (any_gv hc) fun r hr => ?_
    refine Gv.bind (Gv.app (Q := fun m => m = x.gVariations ++ [r.1]) (by simp; omega) (by decide) rfl) ?_
    rintro m rfl
    exact flag_K1 hr.2 hy.key (by simp; omega) (mem_snoc hy.vars (good_bd _ (good_of hr.1))) hy.plen hy.pre hy.tlen hy.tar hy.rlen hy.rules hy.dflt
  · have e : w64 (lI x.gVariations + 1) = (x.gVariations.length : Int) + 1 := by unfold lI; exact w64_of (by omega) (by omega)
    rw [e]
    refine Gv.bind (next_gv hc (k := (x.gVariations.length : Int) + 1) (by omega) (by omega)) fun r hr => ?_
    have e2 : cutL x.gVariations 0 r.1 = some ((x.gVariations.take r.1.toNat).drop 0) := by
      unfold cutL
      rw [decide_eq_true (show (0 : Int) ≤ 0 by omega), decide_eq_true hr.1, decide_eq_true (show r.1 ≤ x.gVariations.length by omega)]
      rfl
    refine Gv.bind (Gv.opt (Q := fun m => m = x.gVariations.take r.1.toNat) e2 rfl) ?_
    rintro m rfl
    exact flag_K1 hr.2.2 hy.key (by rw [List.length_take]; omega) (fun w hw => hy.vars w (List.mem_of_mem_take hw)) hy.plen hy.pre hy.tlen hy.tar hy.rlen hy.rules hy.dflt
  · exact Gv.bind (number_gv hc) fun r hr => flag_K1 hr hy.key hy.vlen hy.vars hy.plen hy.pre hy.tlen hy.tar hy.rlen hy.rules hy.dflt
  · refine Gv.bind (name_gv hc) fun r hr => Gv.bind (number_gv hr.2) fun s hs => ?_
    refine Gv.bind (Gv.app (Q := fun m => m = x.gPrerequisites ++ [{ gFlag := r.1, gVariation := s.1 }]) (by simp; omega) (by decide) rfl) ?_
    rintro m rfl
    exact flag_K1 hs hy.key hy.vlen hy.vars (by simp; omega) (mem_snoc hy.pre (by have := hr.1; show r.1.size ≤ 100; omega)) hy.tlen hy.tar hy.rlen hy.rules hy.dflt
  · refine Gv.bind (name_gv hc) fun r hr => Gv.bind (keys_gv hr.2) fun s hs => ?_
    refine Gv.bind (Gv.app (Q := fun m => m = x.gTargets ++ [{ gKind := r.1, gVariation := 1, gKeys := s.1 }]) (by simp; omega) (by decide) rfl) ?_
    rintro m rfl
    exact flag_K1 hs.2 hy.key hy.vlen hy.vars hy.plen hy.pre (by simp; omega) (mem_snoc hy.tar ⟨(by have := hr.1; show r.1.size ≤ 100; omega), (by have := hs.1.1; show s.1.length ≤ B + 90; omega), fun w hw => keys10_size _ (hs.1.2 w hw)⟩) hy.rlen hy.rules hy.dflt
  · refine Gv.bind (number_gv hc) fun r hr => Gv.bind (next_gv hr (k := 3) (by decide) (by decide)) fun s hs => ?_
    rw [w64_of (show -9223372036854775808 ≤ 39 + s.1 by omega) (by omega)]
    refine Gv.bind (long_gv (k := 39 + s.1) (by omega)) fun t ht => ?_
    refine Gv.bind (Gv.app (Q := fun m => m = x.gTargets ++ [{ gKind := (⟨#[117, 115, 101, 114]⟩ : ByteArray), gVariation := r.1, gKeys := t }]) (by simp; omega) (by decide) rfl) ?_
    rintro m rfl
    exact flag_K1 hs.2.2 hy.key hy.vlen hy.vars hy.plen hy.pre (by simp; omega) (mem_snoc hy.tar ⟨(by show 4 ≤ 100; decide), (by have := ht.1; show t.length ≤ B + 90; omega), ht.2⟩) hy.rlen hy.rules hy.dflt
  · refine Gv.bind (name_gv hc) fun r hr => ?_
    refine Gv.bind (Gv.app (Q := fun m => m = x.gRules ++ [{ gName := r.1, gWhen := TExpr.mk 1 ByteArray.empty ByteArray.empty [] [], gServe := x.gDefault }]) (by simp; omega) (by decide) rfl) ?_
    rintro m rfl
    exact flag_K1 hr.2 hy.key hy.vlen hy.vars hy.plen hy.pre hy.tlen hy.tar (by simp; omega) (mem_snoc hy.rules ⟨(by have := hr.1; show r.1.size ≤ 100; omega), opT_bd, hy.dflt⟩) hy.dflt
end
end Go.Proofs.YtjhbobacbaikoaaGreatDoor
/- A function of the program as a pure function, and that the program computes it. -/
namespace Go.Proofs.YtjhbobacbaikoaaGreatDoor
open Go
set_option linter.unusedVariables false
set_option linter.unusedSimpArgs false
set_option maxRecDepth 100000
def p_shape_Environment_1 (n : Nat) (x0 : TSegment) : Option ByteArray :=
 some (x0.gKey)
variable {E : Env}
theorem s_shape_Environment_1 {n : Nat} {x0 : TSegment} {r : ByteArray} (H : p_shape_Environment_1 n x0 = some r) :
    Sp Tryz.prog E 90 [.agg (TSegment.cs x0)] [] (isA (sA r) []) := by
  unfold p_shape_Environment_1 at H
  refine Sp_fn Tryz.func90 rfl (fun hc hs => ?_)
  refine AWP_reg (R 2 5 [(1, .ptr 0 0)] [.cells 71 (TSegment.cs x0)] (AOps_done (AWP_reg (Rh 3 5 [(2, sA x0.gKey)] (AOps_done ?_)))))
  exact AWP_ret (FR H)
end Go.Proofs.YtjhbobacbaikoaaGreatDoor
/- A function of the program as a pure function, and that the program computes it. -/
namespace Go.Proofs.YtjhbobacbaikoaaGreatDoor
open Go
set_option linter.unusedVariables false
set_option linter.unusedSimpArgs false
set_option maxRecDepth 100000
def p_shape_Environment_2 (n : Nat) (x0 : TFlag) : Option ByteArray :=
 some (x0.gKey)
variable {E : Env}
theorem s_shape_Environment_2 {n : Nat} {x0 : TFlag} {r : ByteArray} (H : p_shape_Environment_2 n x0 = some r) :
    Sp Tryz.prog E 92 [.agg (TFlag.cs x0)] [] (isA (sA r) []) := by
  unfold p_shape_Environment_2 at H
  refine Sp_fn Tryz.func92 rfl (fun hc hs => ?_)
  refine AWP_reg (R 2 5 [(1, .ptr 0 0)] [.cells 65 (TFlag.cs x0)] (AOps_done (AWP_reg (Rh 3 5 [(2, sA x0.gKey)] (AOps_done ?_)))))
  exact AWP_ret (FR H)
end Go.Proofs.YtjhbobacbaikoaaGreatDoor
/- A function of the program as a pure function, and that the program computes it. -/
namespace Go.Proofs.YtjhbobacbaikoaaGreatDoor
open Go
set_option linter.unusedVariables false
set_option linter.unusedSimpArgs false
set_option maxRecDepth 100000
def p_shape_Environment_3 (n : Nat) (x0 : TLayer) : Option ByteArray :=
 some (x0.gKey)
variable {E : Env}
theorem s_shape_Environment_3 {n : Nat} {x0 : TLayer} {r : ByteArray} (H : p_shape_Environment_3 n x0 = some r) :
    Sp Tryz.prog E 94 [.agg (TLayer.cs x0)] [] (isA (sA r) []) := by
  unfold p_shape_Environment_3 at H
  refine Sp_fn Tryz.func94 rfl (fun hc hs => ?_)
  refine AWP_reg (R 2 5 [(1, .ptr 0 0)] [.cells 74 (TLayer.cs x0)] (AOps_done (AWP_reg (Rh 3 5 [(2, sA x0.gKey)] (AOps_done ?_)))))
  exact AWP_ret (FR H)
end Go.Proofs.YtjhbobacbaikoaaGreatDoor
/- A function of the program as a pure function, and that the program computes it. -/
namespace Go.Proofs.YtjhbobacbaikoaaGreatDoor
open Go
set_option linter.unusedVariables false
set_option linter.unusedSimpArgs false
set_option maxRecDepth 100000
def p_shape_Environment_4 (n : Nat) (x0 : TExperiment) : Option ByteArray :=
 some (x0.gKey)
variable {E : Env}
theorem s_shape_Environment_4 {n : Nat} {x0 : TExperiment} {r : ByteArray} (H : p_shape_Environment_4 n x0 = some r) :
    Sp Tryz.prog E 96 [.agg (TExperiment.cs x0)] [] (isA (sA r) []) := by
  unfold p_shape_Environment_4 at H
  refine Sp_fn Tryz.func96 rfl (fun hc hs => ?_)
  refine AWP_reg (R 2 5 [(1, .ptr 0 0)] [.cells 42 (TExperiment.cs x0)] (AOps_done (AWP_reg (Rh 3 5 [(2, sA x0.gKey)] (AOps_done ?_)))))
  exact AWP_ret (FR H)
end Go.Proofs.YtjhbobacbaikoaaGreatDoor
/- A function of the program as a pure function, and that the program computes it. -/
namespace Go.Proofs.YtjhbobacbaikoaaGreatDoor
open Go
set_option linter.unusedVariables false
set_option linter.unusedSimpArgs false
set_option maxRecDepth 100000
def p_cmp_Or_int_L1 (n : Nat) (x0 : List Int) (v8 : Int) : Option Int := match n with
| 0 => none
| n + 1 =>
(bif decide (v8 < (lI x0)) then
(rdO x0 v8).bind fun v10 =>
(bif v10 != 0 then
 some (v10)
 else
 p_cmp_Or_int_L1 n x0 (w64 (v8 + 1)))
 else
 some (0))
def p_cmp_Or_int (n : Nat) (x0 : List Int) : Option Int :=
 p_cmp_Or_int_L1 n x0 0
variable {E : Env}
theorem s_cmp_Or_int {n : Nat} {x0 : List Int} {r : Int} (H : p_cmp_Or_int n x0 = some r) :
    Sp Tryz.prog E 121 [.ro .unk x0.length (cl_i64 x0)] [] (isA (iA r) []) := by
  unfold p_cmp_Or_int at H
  refine Sp_fn Tryz.func121 rfl (fun hc hs => ?_)
  refine AWP_reg (Rh 1 18 [(0, .ro .unk x0.length (cl_i64 x0))] (AOps_done (AWP_reg (Rh 1 18 [(0, .ro .unk x0.length (cl_i64 x0)), (3, iA 0)] (AOps_done (AWP_seq (AWP_reg (Rh 3 18 [(3, iA 0), (6, .ro .unk x0.length (cl_i64 x0)), (7, iA (lI x0)), (8, iA 0)] ?_))))))))
  refine AOps_done (AWP_block ?_)
  refine AWP_loopN (α := Int) (fun v8 => fr 18 [(3, iA 0), (6, .ro .unk x0.length (cl_i64 x0)), (7, iA (lI x0)), (8, iA v8)]) (fun v8 => []) (fun k_ v8 => k_ ≤ n ∧ p_cmp_Or_int_L1 k_ x0 v8 = some r) (fun n v8 H => ?_) (k := n) 0 ⟨Nat.le_refl _, H⟩ (Norm_fd [3, 6, 7, 8] 0 (by kernel_rfl) rfl rfl trivial (by refine scL_fr ?_; exact ⟨trivial, (scl_cl_i64 _ _), trivial, trivial, trivial⟩))
  show AWP _ _ _ _ _ (fr 18 [(3, iA 0), (6, .ro .unk x0.length (cl_i64 x0)), (7, iA (lI x0)), (8, iA v8)]) []
  obtain ⟨hb_, H⟩ := H
  replace H : p_cmp_Or_int_L1 n x0 v8 = some r := H
  cases n with
  | zero => exact not_none (by simpa only [p_cmp_Or_int_L1] using H)
  | succ n =>
    unfold p_cmp_Or_int_L1 at H
    refine AWP_reg (Rh 1 18 [(3, iA 0), (6, .ro .unk x0.length (cl_i64 x0)), (7, iA (lI x0)), (8, iA v8), (9, bA (decide (v8 < (lI x0))))] (AOps_done (AWP_seq (CD H (fun hb9 H => ?_) (fun hb9 H => ?_)))))
    · refine AWP_skip ?_
      show AWP _ _ _ _ _ _ _
      refine AWP_seq (AWP_block ?_)
      refine AWP_reg ?_
      obtain ⟨v10, hv10, H⟩ := bind_some H
      refine AOps_index (d := (some 10)) (sz := 1) (c := cs_i64) (by kernel_rfl) rfl (eq_cl_i64 _) (fun _ => rfl) (by decide) hv10 (fun tl10 => ?_)
      refine Rh 2 18 [(3, iA 0), (5, iA v10), (6, .ro .unk x0.length (cl_i64 x0)), (7, iA (lI x0)), (8, iA v8)] (AOps_done (AWP_reg (Rh 3 18 [(3, iA 0), (5, iA v10), (6, .ro .unk x0.length (cl_i64 x0)), (7, iA (lI x0)), (8, iA v8), (14, bA (v10 != 0))] (AOps_done (CD H (fun hb11 H => ?_) (fun hb11 H => ?_))))))
      · refine AWP_reg (Rh 2 18 [(2, iA v10)] (AOps_done ?_))
        exact AWP_ret (FR H)
      · refine AWP_skip ?_
        show AWP _ _ _ _ _ _ _
        refine AWP_region ?_
        refine Rh 2 18 [(3, iA 0), (6, .ro .unk x0.length (cl_i64 x0)), (7, iA (lI x0)), (8, iA (w64 (v8 + 1)))] (AOps_done ?_)
        exact Exists.intro (w64 (v8 + 1)) (Exists.intro n ⟨by omega, ⟨by omega, H⟩, Norm_fd [3, 6, 7, 8] 0 (by kernel_rfl) rfl rfl trivial (by refine scL_fr ?_; exact ⟨trivial, (scl_cl_i64 _ _), trivial, trivial, trivial⟩)⟩)
    · refine AWP_exit ?_
      show AWP _ _ _ _ _ _ _
      refine AWP_reg (Rh 2 18 [(2, iA 0)] (AOps_done ?_))
      exact AWP_ret (FR H)
end Go.Proofs.YtjhbobacbaikoaaGreatDoor
/- A function of the program as a pure function, and that the program computes it. -/
namespace Go.Proofs.YtjhbobacbaikoaaGreatDoor
open Go
set_option linter.unusedVariables false
set_option linter.unusedSimpArgs false
set_option maxRecDepth 100000
def p_shape_attributes_L1 (n : Nat) (x0 : List TDeclared) (v26 : Int) : Option Int := match n with
| 0 => none
| n + 1 =>
(bif decide (v26 < (lI x0)) then
(rdO x0 v26).bind fun v28 =>
(p_text_Key n v28.gKind).bind fun v29 =>
(bif !(!v29) then p_text_Key n v28.gName else some (false)).bind fun v30 =>
(bif ((!v29) || (!v30)) || (seq' v28.gName (⟨#[107, 101, 121]⟩ : ByteArray)) then
 some (6)
 else
(bif (decide (v28.gType < 1)) || (decide (v28.gType > 5)) then
 some (7)
 else
(bif decide (v26 > 0) then rdO x0 (w64 (v26 - 1)) else some ({ gKind := ByteArray.empty, gName := ByteArray.empty, gType := 0 } : TDeclared)).bind fun v33 =>
(bif decide (v26 > 0) then rdO x0 (w64 (v26 - 1)) else some ({ gKind := ByteArray.empty, gName := ByteArray.empty, gType := 0 } : TDeclared)).bind fun v34 =>
(bif decide (v26 > 0) then p_strings_Compare n v33.gKind v28.gKind else some (0)).bind fun v35 =>
(bif decide (v26 > 0) then p_strings_Compare n v34.gName v28.gName else some (0)).bind fun v36 =>
(bif decide (v26 > 0) then p_cmp_Or_int n ([v35, v36]) else some (0)).bind fun v37 =>
(bif (decide (v26 > 0)) && (decide (v37 ≥ 0)) then
 some (9)
 else
 p_shape_attributes_L1 n x0 (w64 (v26 + 1)))))
 else
 some (0))
def p_shape_attributes (n : Nat) (x0 : List TDeclared) : Option Int :=
(bif decide ((lI x0) > 30) then
 some (5)
 else
 p_shape_attributes_L1 n x0 0)
variable {E : Env}
theorem s_shape_attributes {n : Nat} (hG : GlobT E) {x0 : List TDeclared} {r : Int} (H : p_shape_attributes n x0 = some r) :
    Sp Tryz.prog E 88 [.ro .unk x0.length (TDeclared.cl x0)] [] (isA (iA r) []) := by
  unfold p_shape_attributes at H
  refine Sp_fn Tryz.func88 rfl (fun hc hs => ?_)
  refine AWP_reg (Rh 1 64 [(0, .ro .unk x0.length (TDeclared.cl x0))] (AOps_done (AWP_seq (AWP_reg (Rh 3 64 [(0, .ro .unk x0.length (TDeclared.cl x0)), (7, bA (decide ((lI x0) > 30)))] (AOps_done (CD H (fun hb1 H => ?_) (fun hb1 H => ?_))))))))
  · refine AWP_reg (Rh 1 64 [(2, iA 5)] (AOps_done ?_))
    exact AWP_ret (FR H)
  · refine AWP_skip ?_
    show AWP _ _ _ _ _ _ _
    refine AWP_seq (AWP_reg (Rh 3 64 [(0, .ro .unk x0.length (TDeclared.cl x0)), (8, .ro .unk x0.length (TDeclared.cl x0)), (9, iA (lI x0)), (10, iA 0)] (AOps_done (AWP_block ?_))))
    refine AWP_loopN (α := Int) (fun v26 => fr 64 [(0, .ro .unk x0.length (TDeclared.cl x0)), (8, .ro .unk x0.length (TDeclared.cl x0)), (9, iA (lI x0)), (10, iA v26)]) (fun v26 => []) (fun k_ v26 => k_ ≤ n ∧ p_shape_attributes_L1 k_ x0 v26 = some r) (fun n v26 H => ?_) (k := n) 0 ⟨Nat.le_refl _, H⟩ (Norm_fd [0, 8, 9, 10] 0 (by kernel_rfl) rfl rfl trivial (by refine scL_fr ?_; exact ⟨(scl_TDeclared_cl _ _), (scl_TDeclared_cl _ _), trivial, trivial, trivial⟩))
    show AWP _ _ _ _ _ (fr 64 [(0, .ro .unk x0.length (TDeclared.cl x0)), (8, .ro .unk x0.length (TDeclared.cl x0)), (9, iA (lI x0)), (10, iA v26)]) []
    obtain ⟨hb_, H⟩ := H
    replace H : p_shape_attributes_L1 n x0 v26 = some r := H
    cases n with
    | zero => exact not_none (by simpa only [p_shape_attributes_L1] using H)
    | succ n =>
      unfold p_shape_attributes_L1 at H
      refine AWP_reg (Rh 1 64 [(0, .ro .unk x0.length (TDeclared.cl x0)), (8, .ro .unk x0.length (TDeclared.cl x0)), (9, iA (lI x0)), (10, iA v26), (11, bA (decide (v26 < (lI x0))))] (AOps_done (AWP_seq (CD H (fun hb27 H => ?_) (fun hb27 H => ?_)))))
      · refine AWP_skip ?_
        show AWP _ _ _ _ _ _ _
        refine AWP_seq (AWP_block ?_)
        refine AWP_reg (Rh 1 64 [(0, .ro .unk x0.length (TDeclared.cl x0)), (8, .ro .unk x0.length (TDeclared.cl x0)), (9, iA (lI x0)), (10, iA v26), (12, iA v26)] ?_)
        obtain ⟨v28, hv28, H⟩ := bind_some H
        refine AOps_index (d := (some 13)) (sz := 3) (c := TDeclared.cs) (by kernel_rfl) rfl (eq_TDeclared_cl _) (fun _ => rfl) (by decide) hv28 (fun tl28 => ?_)
        refine R 4 64 [(0, .ro .unk x0.length (TDeclared.cl x0)), (3, iA v26), (4, .ptr 0 0), (8, .ro .unk x0.length (TDeclared.cl x0)), (9, iA (lI x0)), (10, iA v26)] [.cells 112 (TDeclared.cs v28)] (AOps_done (AWP_seq (AWP_reg (Rh 2 64 [(0, .ro .unk x0.length (TDeclared.cl x0)), (3, iA v26), (4, .ptr 0 0), (8, .ro .unk x0.length (TDeclared.cl x0)), (9, iA (lI x0)), (10, iA v26), (16, sA v28.gKind)] ?_))))
        obtain ⟨v29, hv29, H⟩ := bind_some H
        refine AOps_callp (d := (some 17)) (al := [sA v28.gKind]) (r := bA v29) (by kernel_rfl) (s_text_Key hG hv29) ⟨trivial, trivial⟩ trivial ?_
        refine Rh 2 64 [(0, .ro .unk x0.length (TDeclared.cl x0)), (3, iA v26), (4, .ptr 0 0), (8, .ro .unk x0.length (TDeclared.cl x0)), (9, iA (lI x0)), (10, iA v26), (19, bA (!v29))] ?_
        obtain ⟨v30, hv30, H⟩ := bind_some H
        refine AOps_cut 5 (st' := fr 64 [(0, .ro .unk x0.length (TDeclared.cl x0)), (3, iA v26), (4, .ptr 0 0), (8, .ro .unk x0.length (TDeclared.cl x0)), (9, iA (lI x0)), (10, iA v26), (24, bA ((!v29) || (!v30)))]) (h' := [.cells 112 (TDeclared.cs v28)]) ?_ ?_
        rotate_left
        · cases c1 : (v29 : Bool) with
          | true =>
            refine R 2 64 [(0, .ro .unk x0.length (TDeclared.cl x0)), (3, iA v26), (4, .ptr 0 0), (8, .ro .unk x0.length (TDeclared.cl x0)), (9, iA (lI x0)), (10, iA v26), (19, bA (!true)), (21, sA v28.gName)] [.cells 112 (TDeclared.cs v28)] ?_
            have hv30_ := cond_t hv30 (by simp only [c1] <;> rfl)
            refine AOps_callp (d := (some 22)) (al := [sA v28.gName]) (r := bA v30) (by kernel_rfl) (s_text_Key hG hv30_) ⟨trivial, trivial⟩ trivial ?_
            refine R 2 64 [(0, .ro .unk x0.length (TDeclared.cl x0)), (3, iA v26), (4, .ptr 0 0), (8, .ro .unk x0.length (TDeclared.cl x0)), (9, iA (lI x0)), (10, iA v26), (24, bA ((!true) || (!v30)))] [.cells 112 (TDeclared.cs v28)] ?_
            exact AOps_here [0, 3, 4, 8, 9, 10, 24] (by kernel_rfl) rfl
          | false =>
            refine R 5 64 [(0, .ro .unk x0.length (TDeclared.cl x0)), (3, iA v26), (4, .ptr 0 0), (8, .ro .unk x0.length (TDeclared.cl x0)), (9, iA (lI x0)), (10, iA v26), (24, bA ((!false) || (!v30)))] [.cells 112 (TDeclared.cs v28)] ?_
            exact AOps_here [0, 3, 4, 8, 9, 10, 24] (by kernel_rfl) rfl
        refine Rh 1 64 [(0, .ro .unk x0.length (TDeclared.cl x0)), (3, iA v26), (4, .ptr 0 0), (8, .ro .unk x0.length (TDeclared.cl x0)), (9, iA (lI x0)), (10, iA v26), (25, bA ((!v29) || (!v30)))] (AOps_run 4 [0, 3, 4, 8, 9, 10, 29] (st' := fr 64 [(0, .ro .unk x0.length (TDeclared.cl x0)), (3, iA v26), (4, .ptr 0 0), (8, .ro .unk x0.length (TDeclared.cl x0)), (9, iA (lI x0)), (10, iA v26), (29, bA (((!v29) || (!v30)) || (seq' v28.gName (⟨#[107, 101, 121]⟩ : ByteArray))))]) (h' := [.cells 112 (TDeclared.cs v28)]) (by (generalize v29 = t0; generalize v30 = t1; cases t0 <;> cases t1 <;> kernel_rfl)) ?_)
        refine AOps_done (CD H (fun hb31 H => ?_) (fun hb31 H => ?_))
        · refine AWP_reg (Rh 1 64 [(2, iA 6)] (AOps_done ?_))
          exact AWP_ret (FR H)
        · refine AWP_skip ?_
          show AWP _ _ _ _ _ _ _
          refine AWP_seq (AWP_reg (Rh 4 64 [(0, .ro .unk x0.length (TDeclared.cl x0)), (3, iA v26), (4, .ptr 0 0), (8, .ro .unk x0.length (TDeclared.cl x0)), (9, iA (lI x0)), (10, iA v26), (33, bA (decide (v28.gType < 1)))] (AOps_run 4 [0, 3, 4, 8, 9, 10, 37] (st' := fr 64 [(0, .ro .unk x0.length (TDeclared.cl x0)), (3, iA v26), (4, .ptr 0 0), (8, .ro .unk x0.length (TDeclared.cl x0)), (9, iA (lI x0)), (10, iA v26), (37, bA ((decide (v28.gType < 1)) || (decide (v28.gType > 5))))]) (h' := [.cells 112 (TDeclared.cs v28)]) (by (generalize (decide (v28.gType < 1)) = t0; cases t0 <;> kernel_rfl)) ?_)))
          refine AOps_done (CD H (fun hb32 H => ?_) (fun hb32 H => ?_))
          · refine AWP_reg (Rh 1 64 [(2, iA 7)] (AOps_done ?_))
            exact AWP_ret (FR H)
          · refine AWP_skip ?_
            show AWP _ _ _ _ _ _ _
            obtain ⟨v33, hv33, H⟩ := bind_some H
            obtain ⟨v34, hv34, H⟩ := bind_some H
            obtain ⟨v35, hv35, H⟩ := bind_some H
            obtain ⟨v36, hv36, H⟩ := bind_some H
            obtain ⟨v37, hv37, H⟩ := bind_some H
            refine AWP_regD1 [0, 1, 2, 3, 4, 5, 6, 7, 8, 9, 10, 12, 13, 14, 15, 16, 17, 18, 19, 11, 20, 21, 22, 23, 24] (N := 64) (f := [(0, .ro .unk x0.length (TDeclared.cl x0)), (3, iA v26), (4, .ptr 0 0), (8, .ro .unk x0.length (TDeclared.cl x0)), (9, iA (lI x0)), (10, iA v26)]) (leL_of [0, 3, 4, 8, 9, 10] (by kernel_rfl)) mixed (by kernel_rfl) (by kernel_rfl) (st' := fr 64 [(0, .ro .unk x0.length (TDeclared.cl x0)), (8, .ro .unk x0.length (TDeclared.cl x0)), (9, iA (lI x0)), (10, iA v26), (62, bA ((decide (v26 > 0)) && (decide (v37 ≥ 0))))]) (h' := [.cells 112 (TDeclared.cs v28)]) ?_ ?_
            rotate_left
            · refine RD 3 64 [] [(0, .ro .unk x0.length (TDeclared.cl x0)), (3, iA v26), (4, .ptr 0 0), (8, .ro .unk x0.length (TDeclared.cl x0)), (9, iA (lI x0)), (10, iA v26), (38, iA v26), (39, bA (decide (v26 > 0))), (40, bA (decide (v26 > 0)))] ?_
              cases c1 : (decide (v26 > 0) : Bool) with
              | true =>
                refine RD 3 64 [] [(0, .ro .unk x0.length (TDeclared.cl x0)), (3, iA v26), (4, .ptr 0 0), (8, .ro .unk x0.length (TDeclared.cl x0)), (9, iA (lI x0)), (10, iA v26), (38, iA v26), (39, bA true), (40, bA true), (41, .ro .unk x0.length (TDeclared.cl x0)), (42, iA v26), (43, iA (w64 (v26 - 1)))] ?_
                have hv33_ := cond_t hv33 (by simp only [c1] <;> rfl)
                refine AD_index (d := (some 44)) (sz := 3) (c := TDeclared.cs) (by kernel_rfl) rfl (eq_TDeclared_cl _) (fun _ => rfl) (by decide) hv33_ (fun tl33 => ?_)
                refine RD 7 64 [(10, 0), (9, 0)] [(0, .ro .unk x0.length (TDeclared.cl x0)), (3, iA v26), (4, .ptr 0 0), (8, .ro .unk x0.length (TDeclared.cl x0)), (9, iA (lI x0)), (10, iA v26), (38, iA v26), (39, bA true), (40, bA true), (41, .ro .unk x0.length (TDeclared.cl x0)), (42, iA v26), (43, iA (w64 (v26 - 1))), (44, .rop ([sA v33.gKind, sA v33.gName, iA v33.gType] ++ tl33)), (45, .rop ([sA v33.gKind, sA v33.gName, iA v33.gType] ++ tl33)), (46, sA v33.gKind), (47, .ptr 0 0), (48, sA v28.gKind), (50, .ro .unk x0.length (TDeclared.cl x0)), (51, iA v26), (52, iA (w64 (v26 - 1)))] ?_
                have hv34_ := cond_t hv34 (by simp only [c1] <;> rfl)
                refine AD_index (d := (some 53)) (sz := 3) (c := TDeclared.cs) (by kernel_rfl) rfl (eq_TDeclared_cl _) (fun _ => rfl) (by decide) hv34_ (fun tl34 => ?_)
                refine RD 4 64 [(19, 0), (18, 0), (10, 0), (9, 0)] [(0, .ro .unk x0.length (TDeclared.cl x0)), (3, iA v26), (4, .ptr 0 0), (8, .ro .unk x0.length (TDeclared.cl x0)), (9, iA (lI x0)), (10, iA v26), (38, iA v26), (39, bA true), (40, bA true), (41, .ro .unk x0.length (TDeclared.cl x0)), (42, iA v26), (43, iA (w64 (v26 - 1))), (44, .rop ([sA v33.gKind, sA v33.gName, iA v33.gType] ++ tl33)), (45, .rop ([sA v33.gKind, sA v33.gName, iA v33.gType] ++ tl33)), (46, sA v33.gKind), (47, .ptr 0 0), (48, sA v28.gKind), (50, .ro .unk x0.length (TDeclared.cl x0)), (51, iA v26), (52, iA (w64 (v26 - 1))), (53, .rop ([sA v34.gKind, sA v34.gName, iA v34.gType] ++ tl34)), (54, .rop ([sA v34.gName, iA v34.gType] ++ tl34)), (55, sA v34.gName), (56, .ptr 0 1), (57, sA v28.gName)] ?_
                have hv35_ := cond_t hv35 (by simp only [c1] <;> rfl)
                refine AD_callp (d := (some 49)) (al := [sA v33.gKind, sA v28.gKind]) (r := iA v35) (by kernel_rfl) (s_strings_Compare hv35_) ⟨trivial, trivial, trivial⟩ trivial ?_
                have hv36_ := cond_t hv36 (by simp only [c1] <;> rfl)
                refine AD_callp (d := (some 58)) (al := [sA v34.gName, sA v28.gName]) (r := iA v36) (by kernel_rfl) (s_strings_Compare hv36_) ⟨trivial, trivial, trivial⟩ trivial ?_
                refine AD_bsl (d := (some 59)) (m := 2) (cs := [iA v35, iA v36]) (by kernel_rfl) ⟨trivial, trivial, trivial⟩ ?_
                have hv37_ := cond_t hv37 (by simp only [c1] <;> rfl)
                refine AD_callp (d := (some 60)) (al := [.ro .unk ([v35, v36]).length (cl_i64 ([v35, v36]))]) (r := iA v37) (by kernel_rfl) (s_cmp_Or_int hv37_) ⟨(scl_cl_i64 _ _), trivial⟩ trivial ?_
                refine RD 2 64 [(19, 0), (18, 0), (10, 0), (9, 0)] [(0, .ro .unk x0.length (TDeclared.cl x0)), (3, iA v26), (4, .ptr 0 0), (8, .ro .unk x0.length (TDeclared.cl x0)), (9, iA (lI x0)), (10, iA v26), (38, iA v26), (39, bA true), (40, bA true), (41, .ro .unk x0.length (TDeclared.cl x0)), (42, iA v26), (43, iA (w64 (v26 - 1))), (44, .rop ([sA v33.gKind, sA v33.gName, iA v33.gType] ++ tl33)), (45, .rop ([sA v33.gKind, sA v33.gName, iA v33.gType] ++ tl33)), (46, sA v33.gKind), (47, .ptr 0 0), (48, sA v28.gKind), (49, iA v35), (50, .ro .unk x0.length (TDeclared.cl x0)), (51, iA v26), (52, iA (w64 (v26 - 1))), (53, .rop ([sA v34.gKind, sA v34.gName, iA v34.gType] ++ tl34)), (54, .rop ([sA v34.gName, iA v34.gType] ++ tl34)), (55, sA v34.gName), (56, .ptr 0 1), (57, sA v28.gName), (58, iA v36), (59, .ro .unk ([v35, v36]).length (cl_i64 ([v35, v36]))), (60, iA v37), (61, bA (decide (v37 ≥ 0))), (62, bA (true && (decide (v37 ≥ 0))))] ?_
                exact AD_here [0, 8, 9, 10, 62] (by kernel_rfl) rfl
              | false =>
                refine RD 16 64 [] [(0, .ro .unk x0.length (TDeclared.cl x0)), (3, iA v26), (4, .ptr 0 0), (8, .ro .unk x0.length (TDeclared.cl x0)), (9, iA (lI x0)), (10, iA v26), (38, iA v26), (39, bA false), (40, bA false), (41, undefA), (42, undefA), (43, undefA), (44, undefA), (45, undefA), (46, undefA), (47, undefA), (48, undefA), (50, undefA), (51, undefA), (52, undefA), (53, undefA), (54, undefA), (55, undefA), (56, undefA), (57, undefA)] (AD_offB (d := some 49) (by kernel_rfl) ?_)
                refine AD_offB (d := some 58) (by kernel_rfl) ?_
                refine AD_offB (d := some 59) (by kernel_rfl) ?_
                refine AD_offB (d := some 60) (by kernel_rfl) ?_
                refine RD 2 64 [] [(0, .ro .unk x0.length (TDeclared.cl x0)), (3, iA v26), (4, .ptr 0 0), (8, .ro .unk x0.length (TDeclared.cl x0)), (9, iA (lI x0)), (10, iA v26), (38, iA v26), (39, bA false), (40, bA false), (41, undefA), (42, undefA), (43, undefA), (44, undefA), (45, undefA), (46, undefA), (47, undefA), (48, undefA), (49, undefA), (50, undefA), (51, undefA), (52, undefA), (53, undefA), (54, undefA), (55, undefA), (56, undefA), (57, undefA), (58, undefA), (59, undefA), (60, undefA), (61, undefA), (62, bA (false && (decide (v37 ≥ 0))))] ?_
                exact AD_here [0, 8, 9, 10, 62] (by kernel_rfl) rfl
            refine CD H (fun hb38 H => ?_) (fun hb38 H => ?_)
            · refine AWP_reg (Rh 1 64 [(2, iA 9)] (AOps_done ?_))
              exact AWP_ret (FR H)
            · refine AWP_skip ?_
              show AWP _ _ _ _ _ _ _
              refine AWP_region ?_
              refine Rh 2 64 [(0, .ro .unk x0.length (TDeclared.cl x0)), (8, .ro .unk x0.length (TDeclared.cl x0)), (9, iA (lI x0)), (10, iA (w64 (v26 + 1)))] (AOps_done ?_)
              exact Exists.intro (w64 (v26 + 1)) (Exists.intro n ⟨by omega, ⟨by omega, H⟩, Norm_fd [0, 8, 9, 10] 1 (by kernel_rfl) rfl rfl trivial (by refine scL_fr ?_; exact ⟨(scl_TDeclared_cl _ _), (scl_TDeclared_cl _ _), trivial, trivial, trivial⟩)⟩)
      · refine AWP_exit ?_
        show AWP _ _ _ _ _ _ _
        refine AWP_reg (Rh 1 64 [(2, iA 0)] (AOps_done ?_))
        exact AWP_ret (FR H)
end Go.Proofs.YtjhbobacbaikoaaGreatDoor
/- A function of the program as a pure function, and that the program computes it. -/
namespace Go.Proofs.YtjhbobacbaikoaaGreatDoor
open Go
set_option linter.unusedVariables false
set_option linter.unusedSimpArgs false
set_option maxRecDepth 100000
def p_shape_list_api_Experiment_L1 (n : Nat) (x0 : List TExperiment) : Option Int := match n with
| 0 => none
| n + 1 =>
(bif decide (0 < (lI x0)) then
(rdO x0 0).bind fun v5 =>
 none
 else
 some (0))
def p_shape_list_api_Experiment (n : Nat) (x0 : List TExperiment) (x1 : Int) : Option Int :=
(bif decide ((lI x0) > x1) then
 some (5)
 else
 p_shape_list_api_Experiment_L1 n x0 )
variable {E : Env}
theorem s_shape_list_api_Experiment {n : Nat} (hG : GlobT E) {x0 : List TExperiment} {x1 : Int} {r : Int} (H : p_shape_list_api_Experiment n x0 x1 = some r) :
    Sp Tryz.prog E 95 [.ro .unk x0.length (TExperiment.cl x0), iA x1, .val (.func (.func 40) #[] #[]), .val (.func (.func 96) #[] #[])] [] (isA (iA r) []) := by
  unfold p_shape_list_api_Experiment at H
  refine Sp_fn Tryz.func95 rfl (fun hc hs => ?_)
  refine AWP_reg (Rh 1 45 [(0, .ro .unk x0.length (TExperiment.cl x0)), (1, iA x1), (2, .val (.func (.func 40) #[] #[])), (3, .val (.func (.func 96) #[] #[]))] (AOps_done (AWP_seq (AWP_reg (Rh 4 45 [(0, .ro .unk x0.length (TExperiment.cl x0)), (2, .val (.func (.func 40) #[] #[])), (3, .val (.func (.func 96) #[] #[])), (15, bA (decide ((lI x0) > x1)))] (AOps_done (CD H (fun hb1 H => ?_) (fun hb1 H => ?_))))))))
  · refine AWP_reg (Rh 1 45 [(8, iA 5)] (AOps_done ?_))
    exact AWP_ret (FR H)
  · refine AWP_skip ?_
    show AWP _ _ _ _ _ _ _
    refine AWP_seq (AWP_reg (Rh 3 45 [(0, .ro .unk x0.length (TExperiment.cl x0)), (2, .val (.func (.func 40) #[] #[])), (3, .val (.func (.func 96) #[] #[])), (16, .ro .unk x0.length (TExperiment.cl x0)), (17, iA (lI x0)), (18, iA 0)] (AOps_done (AWP_block ?_))))
    refine AWP_loopN (α := Unit) (fun _ => fr 45 [(0, .ro .unk x0.length (TExperiment.cl x0)), (2, .val (.func (.func 40) #[] #[])), (3, .val (.func (.func 96) #[] #[])), (16, .ro .unk x0.length (TExperiment.cl x0)), (17, iA (lI x0)), (18, iA 0)]) (fun _ => []) (fun k_ _ => k_ ≤ n ∧ p_shape_list_api_Experiment_L1 k_ x0  = some r) (fun n a H => ?_) (k := n) () ⟨Nat.le_refl _, H⟩ (Norm_fd [0, 2, 3, 16, 17, 18] 0 (by kernel_rfl) rfl rfl trivial (by refine scL_fr ?_; exact ⟨(scl_TExperiment_cl _ _), trivial, trivial, (scl_TExperiment_cl _ _), trivial, trivial, trivial⟩))
    show AWP _ _ _ _ _ (fr 45 [(0, .ro .unk x0.length (TExperiment.cl x0)), (2, .val (.func (.func 40) #[] #[])), (3, .val (.func (.func 96) #[] #[])), (16, .ro .unk x0.length (TExperiment.cl x0)), (17, iA (lI x0)), (18, iA 0)]) []
    obtain ⟨hb_, H⟩ := H
    replace H : p_shape_list_api_Experiment_L1 n x0  = some r := H
    cases n with
    | zero => exact not_none (by simpa only [p_shape_list_api_Experiment_L1] using H)
    | succ n =>
      unfold p_shape_list_api_Experiment_L1 at H
      refine AWP_reg (Rh 1 45 [(0, .ro .unk x0.length (TExperiment.cl x0)), (2, .val (.func (.func 40) #[] #[])), (3, .val (.func (.func 96) #[] #[])), (16, .ro .unk x0.length (TExperiment.cl x0)), (17, iA (lI x0)), (18, iA 0), (19, bA (decide (0 < (lI x0))))] (AOps_done (AWP_seq (CD H (fun hb4 H => ?_) (fun hb4 H => ?_)))))
      · refine AWP_skip ?_
        show AWP _ _ _ _ _ _ _
        refine AWP_seq (AWP_block ?_)
        refine AWP_reg (Rh 1 45 [(0, .ro .unk x0.length (TExperiment.cl x0)), (2, .val (.func (.func 40) #[] #[])), (3, .val (.func (.func 96) #[] #[])), (16, .ro .unk x0.length (TExperiment.cl x0)), (17, iA (lI x0)), (18, iA 0), (20, iA 0)] ?_)
        obtain ⟨v5, hv5, H⟩ := bind_some H
        refine AOps_index (d := (some 21)) (sz := 12) (c := TExperiment.cs) (by kernel_rfl) rfl (eq_TExperiment_cl _) (fun _ => rfl) (by decide) hv5 (fun tl5 => ?_)
        refine R 4 45 [(0, .ro .unk x0.length (TExperiment.cl x0)), (2, .val (.func (.func 40) #[] #[])), (3, .val (.func (.func 96) #[] #[])), (9, iA 0), (10, .ptr 0 0), (16, .ro .unk x0.length (TExperiment.cl x0)), (17, iA (lI x0)), (18, iA 0)] [.cells 42 (TExperiment.cs v5)] (AOps_done (AWP_seq ?_))
        exact not_none H
      · refine AWP_exit ?_
        show AWP _ _ _ _ _ _ _
        refine AWP_reg (Rh 1 45 [(8, iA 0)] (AOps_done ?_))
        exact AWP_ret (FR H)
end Go.Proofs.YtjhbobacbaikoaaGreatDoor
/- A function of the program as a pure function, and that the program computes it. -/
namespace Go.Proofs.YtjhbobacbaikoaaGreatDoor
open Go
set_option linter.unusedVariables false
set_option linter.unusedSimpArgs false
set_option maxRecDepth 100000
def p_shape_list_api_Flag_L1 (n : Nat) (x0 : List TFlag) : Option Int := match n with
| 0 => none
| n + 1 =>
(bif decide (0 < (lI x0)) then
(rdO x0 0).bind fun v5 =>
 none
 else
 some (0))
def p_shape_list_api_Flag (n : Nat) (x0 : List TFlag) (x1 : Int) : Option Int :=
(bif decide ((lI x0) > x1) then
 some (5)
 else
 p_shape_list_api_Flag_L1 n x0 )
variable {E : Env}
theorem s_shape_list_api_Flag {n : Nat} (hG : GlobT E) {x0 : List TFlag} {x1 : Int} {r : Int} (H : p_shape_list_api_Flag n x0 x1 = some r) :
    Sp Tryz.prog E 91 [.ro .unk x0.length (TFlag.cl x0), iA x1, .val (.func (.func 34) #[] #[]), .val (.func (.func 92) #[] #[])] [] (isA (iA r) []) := by
  unfold p_shape_list_api_Flag at H
  refine Sp_fn Tryz.func91 rfl (fun hc hs => ?_)
  refine AWP_reg (Rh 1 45 [(0, .ro .unk x0.length (TFlag.cl x0)), (1, iA x1), (2, .val (.func (.func 34) #[] #[])), (3, .val (.func (.func 92) #[] #[]))] (AOps_done (AWP_seq (AWP_reg (Rh 4 45 [(0, .ro .unk x0.length (TFlag.cl x0)), (2, .val (.func (.func 34) #[] #[])), (3, .val (.func (.func 92) #[] #[])), (15, bA (decide ((lI x0) > x1)))] (AOps_done (CD H (fun hb1 H => ?_) (fun hb1 H => ?_))))))))
  · refine AWP_reg (Rh 1 45 [(8, iA 5)] (AOps_done ?_))
    exact AWP_ret (FR H)
  · refine AWP_skip ?_
    show AWP _ _ _ _ _ _ _
    refine AWP_seq (AWP_reg (Rh 3 45 [(0, .ro .unk x0.length (TFlag.cl x0)), (2, .val (.func (.func 34) #[] #[])), (3, .val (.func (.func 92) #[] #[])), (16, .ro .unk x0.length (TFlag.cl x0)), (17, iA (lI x0)), (18, iA 0)] (AOps_done (AWP_block ?_))))
    refine AWP_loopN (α := Unit) (fun _ => fr 45 [(0, .ro .unk x0.length (TFlag.cl x0)), (2, .val (.func (.func 34) #[] #[])), (3, .val (.func (.func 92) #[] #[])), (16, .ro .unk x0.length (TFlag.cl x0)), (17, iA (lI x0)), (18, iA 0)]) (fun _ => []) (fun k_ _ => k_ ≤ n ∧ p_shape_list_api_Flag_L1 k_ x0  = some r) (fun n a H => ?_) (k := n) () ⟨Nat.le_refl _, H⟩ (Norm_fd [0, 2, 3, 16, 17, 18] 0 (by kernel_rfl) rfl rfl trivial (by refine scL_fr ?_; exact ⟨(scl_TFlag_cl _ _), trivial, trivial, (scl_TFlag_cl _ _), trivial, trivial, trivial⟩))
    show AWP _ _ _ _ _ (fr 45 [(0, .ro .unk x0.length (TFlag.cl x0)), (2, .val (.func (.func 34) #[] #[])), (3, .val (.func (.func 92) #[] #[])), (16, .ro .unk x0.length (TFlag.cl x0)), (17, iA (lI x0)), (18, iA 0)]) []
    obtain ⟨hb_, H⟩ := H
    replace H : p_shape_list_api_Flag_L1 n x0  = some r := H
    cases n with
    | zero => exact not_none (by simpa only [p_shape_list_api_Flag_L1] using H)
    | succ n =>
      unfold p_shape_list_api_Flag_L1 at H
      refine AWP_reg (Rh 1 45 [(0, .ro .unk x0.length (TFlag.cl x0)), (2, .val (.func (.func 34) #[] #[])), (3, .val (.func (.func 92) #[] #[])), (16, .ro .unk x0.length (TFlag.cl x0)), (17, iA (lI x0)), (18, iA 0), (19, bA (decide (0 < (lI x0))))] (AOps_done (AWP_seq (CD H (fun hb4 H => ?_) (fun hb4 H => ?_)))))
      · refine AWP_skip ?_
        show AWP _ _ _ _ _ _ _
        refine AWP_seq (AWP_block ?_)
        refine AWP_reg (Rh 1 45 [(0, .ro .unk x0.length (TFlag.cl x0)), (2, .val (.func (.func 34) #[] #[])), (3, .val (.func (.func 92) #[] #[])), (16, .ro .unk x0.length (TFlag.cl x0)), (17, iA (lI x0)), (18, iA 0), (20, iA 0)] ?_)
        obtain ⟨v5, hv5, H⟩ := bind_some H
        refine AOps_index (d := (some 21)) (sz := 13) (c := TFlag.cs) (by kernel_rfl) rfl (eq_TFlag_cl _) (fun _ => rfl) (by decide) hv5 (fun tl5 => ?_)
        refine R 4 45 [(0, .ro .unk x0.length (TFlag.cl x0)), (2, .val (.func (.func 34) #[] #[])), (3, .val (.func (.func 92) #[] #[])), (9, iA 0), (10, .ptr 0 0), (16, .ro .unk x0.length (TFlag.cl x0)), (17, iA (lI x0)), (18, iA 0)] [.cells 65 (TFlag.cs v5)] (AOps_done (AWP_seq ?_))
        exact not_none H
      · refine AWP_exit ?_
        show AWP _ _ _ _ _ _ _
        refine AWP_reg (Rh 1 45 [(8, iA 0)] (AOps_done ?_))
        exact AWP_ret (FR H)
end Go.Proofs.YtjhbobacbaikoaaGreatDoor
/- A function of the program as a pure function, and that the program computes it. -/
namespace Go.Proofs.YtjhbobacbaikoaaGreatDoor
open Go
set_option linter.unusedVariables false
set_option linter.unusedSimpArgs false
set_option maxRecDepth 100000
def p_shape_list_api_Layer_L1 (n : Nat) (x0 : List TLayer) : Option Int := match n with
| 0 => none
| n + 1 =>
(bif decide (0 < (lI x0)) then
(rdO x0 0).bind fun v5 =>
 none
 else
 some (0))
def p_shape_list_api_Layer (n : Nat) (x0 : List TLayer) (x1 : Int) : Option Int :=
(bif decide ((lI x0) > x1) then
 some (5)
 else
 p_shape_list_api_Layer_L1 n x0 )
variable {E : Env}
theorem s_shape_list_api_Layer {n : Nat} (hG : GlobT E) {x0 : List TLayer} {x1 : Int} {r : Int} (H : p_shape_list_api_Layer n x0 x1 = some r) :
    Sp Tryz.prog E 93 [.ro .unk x0.length (TLayer.cl x0), iA x1, .val (.func (.func 38) #[] #[]), .val (.func (.func 94) #[] #[])] [] (isA (iA r) []) := by
  unfold p_shape_list_api_Layer at H
  refine Sp_fn Tryz.func93 rfl (fun hc hs => ?_)
  refine AWP_reg (Rh 1 45 [(0, .ro .unk x0.length (TLayer.cl x0)), (1, iA x1), (2, .val (.func (.func 38) #[] #[])), (3, .val (.func (.func 94) #[] #[]))] (AOps_done (AWP_seq (AWP_reg (Rh 4 45 [(0, .ro .unk x0.length (TLayer.cl x0)), (2, .val (.func (.func 38) #[] #[])), (3, .val (.func (.func 94) #[] #[])), (15, bA (decide ((lI x0) > x1)))] (AOps_done (CD H (fun hb1 H => ?_) (fun hb1 H => ?_))))))))
  · refine AWP_reg (Rh 1 45 [(8, iA 5)] (AOps_done ?_))
    exact AWP_ret (FR H)
  · refine AWP_skip ?_
    show AWP _ _ _ _ _ _ _
    refine AWP_seq (AWP_reg (Rh 3 45 [(0, .ro .unk x0.length (TLayer.cl x0)), (2, .val (.func (.func 38) #[] #[])), (3, .val (.func (.func 94) #[] #[])), (16, .ro .unk x0.length (TLayer.cl x0)), (17, iA (lI x0)), (18, iA 0)] (AOps_done (AWP_block ?_))))
    refine AWP_loopN (α := Unit) (fun _ => fr 45 [(0, .ro .unk x0.length (TLayer.cl x0)), (2, .val (.func (.func 38) #[] #[])), (3, .val (.func (.func 94) #[] #[])), (16, .ro .unk x0.length (TLayer.cl x0)), (17, iA (lI x0)), (18, iA 0)]) (fun _ => []) (fun k_ _ => k_ ≤ n ∧ p_shape_list_api_Layer_L1 k_ x0  = some r) (fun n a H => ?_) (k := n) () ⟨Nat.le_refl _, H⟩ (Norm_fd [0, 2, 3, 16, 17, 18] 0 (by kernel_rfl) rfl rfl trivial (by refine scL_fr ?_; exact ⟨(scl_TLayer_cl _ _), trivial, trivial, (scl_TLayer_cl _ _), trivial, trivial, trivial⟩))
    show AWP _ _ _ _ _ (fr 45 [(0, .ro .unk x0.length (TLayer.cl x0)), (2, .val (.func (.func 38) #[] #[])), (3, .val (.func (.func 94) #[] #[])), (16, .ro .unk x0.length (TLayer.cl x0)), (17, iA (lI x0)), (18, iA 0)]) []
    obtain ⟨hb_, H⟩ := H
    replace H : p_shape_list_api_Layer_L1 n x0  = some r := H
    cases n with
    | zero => exact not_none (by simpa only [p_shape_list_api_Layer_L1] using H)
    | succ n =>
      unfold p_shape_list_api_Layer_L1 at H
      refine AWP_reg (Rh 1 45 [(0, .ro .unk x0.length (TLayer.cl x0)), (2, .val (.func (.func 38) #[] #[])), (3, .val (.func (.func 94) #[] #[])), (16, .ro .unk x0.length (TLayer.cl x0)), (17, iA (lI x0)), (18, iA 0), (19, bA (decide (0 < (lI x0))))] (AOps_done (AWP_seq (CD H (fun hb4 H => ?_) (fun hb4 H => ?_)))))
      · refine AWP_skip ?_
        show AWP _ _ _ _ _ _ _
        refine AWP_seq (AWP_block ?_)
        refine AWP_reg (Rh 1 45 [(0, .ro .unk x0.length (TLayer.cl x0)), (2, .val (.func (.func 38) #[] #[])), (3, .val (.func (.func 94) #[] #[])), (16, .ro .unk x0.length (TLayer.cl x0)), (17, iA (lI x0)), (18, iA 0), (20, iA 0)] ?_)
        obtain ⟨v5, hv5, H⟩ := bind_some H
        refine AOps_index (d := (some 21)) (sz := 6) (c := TLayer.cs) (by kernel_rfl) rfl (eq_TLayer_cl _) (fun _ => rfl) (by decide) hv5 (fun tl5 => ?_)
        refine R 4 45 [(0, .ro .unk x0.length (TLayer.cl x0)), (2, .val (.func (.func 38) #[] #[])), (3, .val (.func (.func 94) #[] #[])), (9, iA 0), (10, .ptr 0 0), (16, .ro .unk x0.length (TLayer.cl x0)), (17, iA (lI x0)), (18, iA 0)] [.cells 74 (TLayer.cs v5)] (AOps_done (AWP_seq ?_))
        exact not_none H
      · refine AWP_exit ?_
        show AWP _ _ _ _ _ _ _
        refine AWP_reg (Rh 1 45 [(8, iA 0)] (AOps_done ?_))
        exact AWP_ret (FR H)
end Go.Proofs.YtjhbobacbaikoaaGreatDoor
/- A function of the program as a pure function, and that the program computes it. -/
namespace Go.Proofs.YtjhbobacbaikoaaGreatDoor
open Go
set_option linter.unusedVariables false
set_option linter.unusedSimpArgs false
set_option maxRecDepth 100000
def p_shape_list_api_Segment_L1 (n : Nat) (x0 : List TSegment) : Option Int := match n with
| 0 => none
| n + 1 =>
(bif decide (0 < (lI x0)) then
(rdO x0 0).bind fun v5 =>
 none
 else
 some (0))
def p_shape_list_api_Segment (n : Nat) (x0 : List TSegment) (x1 : Int) : Option Int :=
(bif decide ((lI x0) > x1) then
 some (5)
 else
 p_shape_list_api_Segment_L1 n x0 )
variable {E : Env}
theorem s_shape_list_api_Segment {n : Nat} (hG : GlobT E) {x0 : List TSegment} {x1 : Int} {r : Int} (H : p_shape_list_api_Segment n x0 x1 = some r) :
    Sp Tryz.prog E 89 [.ro .unk x0.length (TSegment.cl x0), iA x1, .val (.func (.func 36) #[] #[]), .val (.func (.func 90) #[] #[])] [] (isA (iA r) []) := by
  unfold p_shape_list_api_Segment at H
  refine Sp_fn Tryz.func89 rfl (fun hc hs => ?_)
  refine AWP_reg (Rh 1 45 [(0, .ro .unk x0.length (TSegment.cl x0)), (1, iA x1), (2, .val (.func (.func 36) #[] #[])), (3, .val (.func (.func 90) #[] #[]))] (AOps_done (AWP_seq (AWP_reg (Rh 4 45 [(0, .ro .unk x0.length (TSegment.cl x0)), (2, .val (.func (.func 36) #[] #[])), (3, .val (.func (.func 90) #[] #[])), (15, bA (decide ((lI x0) > x1)))] (AOps_done (CD H (fun hb1 H => ?_) (fun hb1 H => ?_))))))))
  · refine AWP_reg (Rh 1 45 [(8, iA 5)] (AOps_done ?_))
    exact AWP_ret (FR H)
  · refine AWP_skip ?_
    show AWP _ _ _ _ _ _ _
    refine AWP_seq (AWP_reg (Rh 3 45 [(0, .ro .unk x0.length (TSegment.cl x0)), (2, .val (.func (.func 36) #[] #[])), (3, .val (.func (.func 90) #[] #[])), (16, .ro .unk x0.length (TSegment.cl x0)), (17, iA (lI x0)), (18, iA 0)] (AOps_done (AWP_block ?_))))
    refine AWP_loopN (α := Unit) (fun _ => fr 45 [(0, .ro .unk x0.length (TSegment.cl x0)), (2, .val (.func (.func 36) #[] #[])), (3, .val (.func (.func 90) #[] #[])), (16, .ro .unk x0.length (TSegment.cl x0)), (17, iA (lI x0)), (18, iA 0)]) (fun _ => []) (fun k_ _ => k_ ≤ n ∧ p_shape_list_api_Segment_L1 k_ x0  = some r) (fun n a H => ?_) (k := n) () ⟨Nat.le_refl _, H⟩ (Norm_fd [0, 2, 3, 16, 17, 18] 0 (by kernel_rfl) rfl rfl trivial (by refine scL_fr ?_; exact ⟨(scl_TSegment_cl _ _), trivial, trivial, (scl_TSegment_cl _ _), trivial, trivial, trivial⟩))
    show AWP _ _ _ _ _ (fr 45 [(0, .ro .unk x0.length (TSegment.cl x0)), (2, .val (.func (.func 36) #[] #[])), (3, .val (.func (.func 90) #[] #[])), (16, .ro .unk x0.length (TSegment.cl x0)), (17, iA (lI x0)), (18, iA 0)]) []
    obtain ⟨hb_, H⟩ := H
    replace H : p_shape_list_api_Segment_L1 n x0  = some r := H
    cases n with
    | zero => exact not_none (by simpa only [p_shape_list_api_Segment_L1] using H)
    | succ n =>
      unfold p_shape_list_api_Segment_L1 at H
      refine AWP_reg (Rh 1 45 [(0, .ro .unk x0.length (TSegment.cl x0)), (2, .val (.func (.func 36) #[] #[])), (3, .val (.func (.func 90) #[] #[])), (16, .ro .unk x0.length (TSegment.cl x0)), (17, iA (lI x0)), (18, iA 0), (19, bA (decide (0 < (lI x0))))] (AOps_done (AWP_seq (CD H (fun hb4 H => ?_) (fun hb4 H => ?_)))))
      · refine AWP_skip ?_
        show AWP _ _ _ _ _ _ _
        refine AWP_seq (AWP_block ?_)
        refine AWP_reg (Rh 1 45 [(0, .ro .unk x0.length (TSegment.cl x0)), (2, .val (.func (.func 36) #[] #[])), (3, .val (.func (.func 90) #[] #[])), (16, .ro .unk x0.length (TSegment.cl x0)), (17, iA (lI x0)), (18, iA 0), (20, iA 0)] ?_)
        obtain ⟨v5, hv5, H⟩ := bind_some H
        refine AOps_index (d := (some 21)) (sz := 9) (c := TSegment.cs) (by kernel_rfl) rfl (eq_TSegment_cl _) (fun _ => rfl) (by decide) hv5 (fun tl5 => ?_)
        refine R 4 45 [(0, .ro .unk x0.length (TSegment.cl x0)), (2, .val (.func (.func 36) #[] #[])), (3, .val (.func (.func 90) #[] #[])), (9, iA 0), (10, .ptr 0 0), (16, .ro .unk x0.length (TSegment.cl x0)), (17, iA (lI x0)), (18, iA 0)] [.cells 71 (TSegment.cs v5)] (AOps_done (AWP_seq ?_))
        exact not_none H
      · refine AWP_exit ?_
        show AWP _ _ _ _ _ _ _
        refine AWP_reg (Rh 1 45 [(8, iA 0)] (AOps_done ?_))
        exact AWP_ret (FR H)
end Go.Proofs.YtjhbobacbaikoaaGreatDoor
/- A function of the program as a pure function, and that the program computes it. -/
namespace Go.Proofs.YtjhbobacbaikoaaGreatDoor
open Go
set_option linter.unusedVariables false
set_option linter.unusedSimpArgs false
set_option maxRecDepth 100000
def p_shape_Environment (n : Nat) (x0 : TEnvironment) : Option Int :=
(p_text_Valid n x0.gSettings.gSalt).bind fun v1 =>
(p_shape_when n (!v1) 2).bind fun v2 =>
(p_shape_when n ((decide (x0.gSettings.gHoldout < 0)) || (decide (x0.gSettings.gHoldout > 10000))) 3).bind fun v3 =>
(p_text_Key n x0.gSettings.gHoldoutKind).bind fun v4 =>
(p_shape_when n ((!v4) && ((!(seq' x0.gSettings.gHoldoutKind ByteArray.empty)) || (x0.gSettings.gHoldout != 0))) 6).bind fun v5 =>
(p_shape_attributes n x0.gAttributes).bind fun v6 =>
(p_shape_first n ([v2, v3, v5, v6])).bind fun v7 =>
(bif v7 != 0 then
 some (v7)
 else
(p_shape_list_api_Segment n x0.gSegments 20).bind fun v9 =>
(bif v9 != 0 then
 some (v9)
 else
(p_shape_list_api_Flag n x0.gFlags 30).bind fun v11 =>
(bif v11 != 0 then
 some (v11)
 else
(p_shape_list_api_Layer n x0.gLayers 6).bind fun v13 =>
(bif v13 != 0 then
 some (v13)
 else
(p_shape_list_api_Experiment n x0.gExperiments 16).bind fun v15 =>
 some (v15)))))
variable {E : Env}
theorem s_shape_Environment {n : Nat} (hG : GlobT E) {x0 : TEnvironment} {r : Int} (H : p_shape_Environment n x0 = some r) :
    Sp Tryz.prog E 44 [.agg (TEnvironment.cs x0)] [] (isA (iA r) []) := by
  unfold p_shape_Environment at H
  refine Sp_fn Tryz.func44 rfl (fun hc hs => ?_)
  refine AWP_reg (R 2 68 [(1, .ptr 0 0)] [.cells 90 (TEnvironment.cs x0)] (AOps_done (AWP_reg (R 4 68 [(1, .ptr 0 0), (3, .ptr 1 0)] [.cells 83 (TSettings.cs x0.gSettings), .cells 90 (TEnvironment.cs x0)] (AOps_done (AWP_seq ?_))))))
  obtain ⟨v1, hv1, H⟩ := bind_some H
  obtain ⟨v2, hv2, H⟩ := bind_some H
  obtain ⟨v3, hv3, H⟩ := bind_some H
  obtain ⟨v4, hv4, H⟩ := bind_some H
  obtain ⟨v5, hv5, H⟩ := bind_some H
  obtain ⟨v6, hv6, H⟩ := bind_some H
  obtain ⟨v7, hv7, H⟩ := bind_some H
  refine AWP_regD1 [0, 1, 5, 6, 7, 14, 15, 29, 30, 2, 3, 4, 8, 9, 10, 11, 12, 13, 16, 17, 18, 19, 20, 21, 22, 23, 24, 25, 26, 27, 28, 31, 32, 33, 34] (N := 68) (f := [(1, .ptr 0 0), (3, .ptr 1 0)]) (leL_of [1, 3] (by kernel_rfl)) mixed (by kernel_rfl) (by kernel_rfl) (st' := fr 68 [(1, .ptr 0 0), (4, iA v7)]) (h' := [.cells 83 (TSettings.cs x0.gSettings), .cells 90 (TEnvironment.cs x0)]) ?_ ?_
  rotate_left
  · refine RD 9 68 [(30, 0), (29, 0), (15, 1), (14, 1), (6, 1), (5, 1), (1, 1), (0, 1)] [(1, .ptr 0 0), (3, .ptr 1 0), (10, .ptr 1 0), (11, sA x0.gSettings.gSalt), (15, .ptr 1 2), (16, iA x0.gSettings.gHoldout), (17, bA (decide (x0.gSettings.gHoldout < 0))), (24, .ptr 1 1), (25, sA x0.gSettings.gHoldoutKind), (39, .ptr 0 3), (40, .ro .unk x0.gAttributes.length (TDeclared.cl x0.gAttributes))] (AD_callp (d := (some 12)) (al := [sA x0.gSettings.gSalt]) (r := bA v1) (by kernel_rfl) (s_text_Valid hG hv1) ⟨trivial, trivial⟩ trivial ?_)
    refine RD 1 68 [(30, 0), (29, 0), (15, 1), (14, 1), (6, 1), (5, 1), (1, 1), (0, 1)] [(1, .ptr 0 0), (3, .ptr 1 0), (10, .ptr 1 0), (11, sA x0.gSettings.gSalt), (12, bA v1), (13, bA (!v1)), (15, .ptr 1 2), (16, iA x0.gSettings.gHoldout), (17, bA (decide (x0.gSettings.gHoldout < 0))), (24, .ptr 1 1), (25, sA x0.gSettings.gHoldoutKind), (39, .ptr 0 3), (40, .ro .unk x0.gAttributes.length (TDeclared.cl x0.gAttributes))] (AD_callp (d := (some 14)) (al := [bA (!v1), iA 2]) (r := iA v2) (by kernel_rfl) (s_shape_when hv2) ⟨trivial, trivial, trivial⟩ trivial ?_)
    refine RD 1 68 [(30, 0), (29, 0), (15, 1), (14, 1), (6, 1), (5, 1), (1, 1), (0, 1)] [(1, .ptr 0 0), (3, .ptr 1 0), (10, .ptr 1 0), (11, sA x0.gSettings.gSalt), (12, bA v1), (13, bA (!v1)), (14, iA v2), (15, .ptr 1 2), (16, iA x0.gSettings.gHoldout), (17, bA (decide (x0.gSettings.gHoldout < 0))), (18, bA (decide (x0.gSettings.gHoldout < 0))), (24, .ptr 1 1), (25, sA x0.gSettings.gHoldoutKind), (39, .ptr 0 3), (40, .ro .unk x0.gAttributes.length (TDeclared.cl x0.gAttributes))] ?_
    cases c1 : (decide (x0.gSettings.gHoldout < 0) : Bool) with
    | true =>
      refine RD 4 68 [(30, 0), (29, 0), (15, 1), (14, 1), (6, 1), (5, 1), (1, 1), (0, 1)] [(1, .ptr 0 0), (3, .ptr 1 0), (10, .ptr 1 0), (11, sA x0.gSettings.gSalt), (12, bA v1), (13, bA (!v1)), (14, iA v2), (15, .ptr 1 2), (16, iA x0.gSettings.gHoldout), (17, bA true), (18, bA true), (19, undefA), (20, undefA), (21, undefA), (22, bA (true || (decide (x0.gSettings.gHoldout > 10000)))), (24, .ptr 1 1), (25, sA x0.gSettings.gHoldoutKind), (39, .ptr 0 3), (40, .ro .unk x0.gAttributes.length (TDeclared.cl x0.gAttributes))] ?_
      try rw [c1] at hv3
      refine AD_callp (d := (some 23)) (al := [bA (true || (decide (x0.gSettings.gHoldout > 10000))), iA 3]) (r := iA v3) (by kernel_rfl) (s_shape_when hv3) ⟨trivial, trivial, trivial⟩ trivial ?_
      refine AD_callp (d := (some 26)) (al := [sA x0.gSettings.gHoldoutKind]) (r := bA v4) (by kernel_rfl) (s_text_Key hG hv4) ⟨trivial, trivial⟩ trivial ?_
      refine RD 2 68 [(30, 0), (29, 0), (15, 1), (14, 1), (6, 1), (5, 1), (1, 1), (0, 1)] [(1, .ptr 0 0), (3, .ptr 1 0), (10, .ptr 1 0), (11, sA x0.gSettings.gSalt), (12, bA v1), (13, bA (!v1)), (14, iA v2), (15, .ptr 1 2), (16, iA x0.gSettings.gHoldout), (17, bA true), (18, bA true), (19, undefA), (20, undefA), (21, undefA), (22, bA (true || (decide (x0.gSettings.gHoldout > 10000)))), (23, iA v3), (24, .ptr 1 1), (25, sA x0.gSettings.gHoldoutKind), (26, bA v4), (27, bA (!v4)), (28, bA (!v4)), (39, .ptr 0 3), (40, .ro .unk x0.gAttributes.length (TDeclared.cl x0.gAttributes))] ?_
      cases c2 : (v4 : Bool) with
      | true =>
        refine RD 9 68 [(30, 0), (29, 0), (15, 1), (14, 1), (6, 1), (5, 1), (1, 1), (0, 1)] [(1, .ptr 0 0), (3, .ptr 1 0), (10, .ptr 1 0), (11, sA x0.gSettings.gSalt), (12, bA v1), (13, bA (!v1)), (14, iA v2), (15, .ptr 1 2), (16, iA x0.gSettings.gHoldout), (17, bA true), (18, bA true), (19, undefA), (20, undefA), (21, undefA), (22, bA (true || (decide (x0.gSettings.gHoldout > 10000)))), (23, iA v3), (24, .ptr 1 1), (25, sA x0.gSettings.gHoldoutKind), (26, bA true), (27, bA (!true)), (28, bA (!true)), (29, undefA), (30, undefA), (31, undefA), (32, undefA), (33, undefA), (34, undefA), (35, undefA), (36, undefA), (37, bA ((!true) && ((!(seq' x0.gSettings.gHoldoutKind ByteArray.empty)) || (x0.gSettings.gHoldout != 0)))), (39, .ptr 0 3), (40, .ro .unk x0.gAttributes.length (TDeclared.cl x0.gAttributes))] ?_
        try rw [c1] at hv5
        try rw [c2] at hv5
        refine AD_callp (d := (some 38)) (al := [bA ((!true) && ((!(seq' x0.gSettings.gHoldoutKind ByteArray.empty)) || (x0.gSettings.gHoldout != 0))), iA 6]) (r := iA v5) (by kernel_rfl) (s_shape_when hv5) ⟨trivial, trivial, trivial⟩ trivial ?_
        refine AD_callp (d := (some 41)) (al := [.ro .unk x0.gAttributes.length (TDeclared.cl x0.gAttributes)]) (r := iA v6) (by kernel_rfl) (s_shape_attributes hG hv6) ⟨(scl_TDeclared_cl _ _), trivial⟩ trivial ?_
        refine AD_bsl (d := (some 42)) (m := 4) (cs := [iA v2, iA v3, iA v5, iA v6]) (by kernel_rfl) ⟨trivial, trivial, trivial, trivial, trivial⟩ ?_
        refine AD_callp (d := (some 43)) (al := [.ro .unk ([v2, v3, v5, v6]).length (cl_i64 ([v2, v3, v5, v6]))]) (r := iA v7) (by kernel_rfl) (s_shape_first hv7) ⟨(scl_cl_i64 _ _), trivial⟩ trivial ?_
        refine RD 1 68 [(30, 0), (29, 0), (15, 1), (14, 1), (6, 1), (5, 1), (1, 1), (0, 1)] [(1, .ptr 0 0), (3, .ptr 1 0), (4, iA v7), (10, .ptr 1 0), (11, sA x0.gSettings.gSalt), (12, bA v1), (13, bA (!v1)), (14, iA v2), (15, .ptr 1 2), (16, iA x0.gSettings.gHoldout), (17, bA true), (18, bA true), (19, undefA), (20, undefA), (21, undefA), (22, bA (true || (decide (x0.gSettings.gHoldout > 10000)))), (23, iA v3), (24, .ptr 1 1), (25, sA x0.gSettings.gHoldoutKind), (26, bA true), (27, bA (!true)), (28, bA (!true)), (29, undefA), (30, undefA), (31, undefA), (32, undefA), (33, undefA), (34, undefA), (35, undefA), (36, undefA), (37, bA ((!true) && ((!(seq' x0.gSettings.gHoldoutKind ByteArray.empty)) || (x0.gSettings.gHoldout != 0)))), (38, iA v5), (39, .ptr 0 3), (40, .ro .unk x0.gAttributes.length (TDeclared.cl x0.gAttributes)), (41, iA v6), (42, .ro .unk ([v2, v3, v5, v6]).length (cl_i64 ([v2, v3, v5, v6]))), (43, iA v7)] ?_
        exact AD_here [1, 4] (by kernel_rfl) rfl
      | false =>
        refine RD 4 68 [(20, 1), (19, 1), (30, 0), (29, 0), (15, 1), (14, 1), (6, 1), (5, 1), (1, 1), (0, 1)] [(1, .ptr 0 0), (3, .ptr 1 0), (10, .ptr 1 0), (11, sA x0.gSettings.gSalt), (12, bA v1), (13, bA (!v1)), (14, iA v2), (15, .ptr 1 2), (16, iA x0.gSettings.gHoldout), (17, bA true), (18, bA true), (19, undefA), (20, undefA), (21, undefA), (22, bA (true || (decide (x0.gSettings.gHoldout > 10000)))), (23, iA v3), (24, .ptr 1 1), (25, sA x0.gSettings.gHoldoutKind), (26, bA false), (27, bA (!false)), (28, bA (!false)), (29, .ptr 1 1), (30, sA x0.gSettings.gHoldoutKind), (31, bA (!(seq' x0.gSettings.gHoldoutKind ByteArray.empty))), (32, bA (!(seq' x0.gSettings.gHoldoutKind ByteArray.empty))), (39, .ptr 0 3), (40, .ro .unk x0.gAttributes.length (TDeclared.cl x0.gAttributes))] ?_
        cases c3 : (seq' x0.gSettings.gHoldoutKind ByteArray.empty : Bool) with
        | true =>
          refine RD 5 68 [(24, 1), (23, 1), (20, 1), (19, 1), (30, 0), (29, 0), (15, 1), (14, 1), (6, 1), (5, 1), (1, 1), (0, 1)] [(1, .ptr 0 0), (3, .ptr 1 0), (10, .ptr 1 0), (11, sA x0.gSettings.gSalt), (12, bA v1), (13, bA (!v1)), (14, iA v2), (15, .ptr 1 2), (16, iA x0.gSettings.gHoldout), (17, bA true), (18, bA true), (19, undefA), (20, undefA), (21, undefA), (22, bA (true || (decide (x0.gSettings.gHoldout > 10000)))), (23, iA v3), (24, .ptr 1 1), (25, sA x0.gSettings.gHoldoutKind), (26, bA false), (27, bA (!false)), (28, bA (!false)), (29, .ptr 1 1), (30, sA x0.gSettings.gHoldoutKind), (31, bA (!true)), (32, bA (!true)), (33, .ptr 1 2), (34, iA x0.gSettings.gHoldout), (35, bA (x0.gSettings.gHoldout != 0)), (36, bA ((!true) || (x0.gSettings.gHoldout != 0))), (37, bA ((!false) && ((!true) || (x0.gSettings.gHoldout != 0)))), (39, .ptr 0 3), (40, .ro .unk x0.gAttributes.length (TDeclared.cl x0.gAttributes))] ?_
          try rw [c1] at hv5
          try rw [c2] at hv5
          try rw [c3] at hv5
          refine AD_callp (d := (some 38)) (al := [bA ((!false) && ((!true) || (x0.gSettings.gHoldout != 0))), iA 6]) (r := iA v5) (by kernel_rfl) (s_shape_when hv5) ⟨trivial, trivial, trivial⟩ trivial ?_
          refine AD_callp (d := (some 41)) (al := [.ro .unk x0.gAttributes.length (TDeclared.cl x0.gAttributes)]) (r := iA v6) (by kernel_rfl) (s_shape_attributes hG hv6) ⟨(scl_TDeclared_cl _ _), trivial⟩ trivial ?_
          refine AD_bsl (d := (some 42)) (m := 4) (cs := [iA v2, iA v3, iA v5, iA v6]) (by kernel_rfl) ⟨trivial, trivial, trivial, trivial, trivial⟩ ?_
          refine AD_callp (d := (some 43)) (al := [.ro .unk ([v2, v3, v5, v6]).length (cl_i64 ([v2, v3, v5, v6]))]) (r := iA v7) (by kernel_rfl) (s_shape_first hv7) ⟨(scl_cl_i64 _ _), trivial⟩ trivial ?_
          refine RD 1 68 [(24, 1), (23, 1), (20, 1), (19, 1), (30, 0), (29, 0), (15, 1), (14, 1), (6, 1), (5, 1), (1, 1), (0, 1)] [(1, .ptr 0 0), (3, .ptr 1 0), (4, iA v7), (10, .ptr 1 0), (11, sA x0.gSettings.gSalt), (12, bA v1), (13, bA (!v1)), (14, iA v2), (15, .ptr 1 2), (16, iA x0.gSettings.gHoldout), (17, bA true), (18, bA true), (19, undefA), (20, undefA), (21, undefA), (22, bA (true || (decide (x0.gSettings.gHoldout > 10000)))), (23, iA v3), (24, .ptr 1 1), (25, sA x0.gSettings.gHoldoutKind), (26, bA false), (27, bA (!false)), (28, bA (!false)), (29, .ptr 1 1), (30, sA x0.gSettings.gHoldoutKind), (31, bA (!true)), (32, bA (!true)), (33, .ptr 1 2), (34, iA x0.gSettings.gHoldout), (35, bA (x0.gSettings.gHoldout != 0)), (36, bA ((!true) || (x0.gSettings.gHoldout != 0))), (37, bA ((!false) && ((!true) || (x0.gSettings.gHoldout != 0)))), (38, iA v5), (39, .ptr 0 3), (40, .ro .unk x0.gAttributes.length (TDeclared.cl x0.gAttributes)), (41, iA v6), (42, .ro .unk ([v2, v3, v5, v6]).length (cl_i64 ([v2, v3, v5, v6]))), (43, iA v7)] ?_
          exact AD_here [1, 4] (by kernel_rfl) rfl
        | false =>
          refine RD 5 68 [(20, 1), (19, 1), (30, 0), (29, 0), (15, 1), (14, 1), (6, 1), (5, 1), (1, 1), (0, 1)] [(1, .ptr 0 0), (3, .ptr 1 0), (10, .ptr 1 0), (11, sA x0.gSettings.gSalt), (12, bA v1), (13, bA (!v1)), (14, iA v2), (15, .ptr 1 2), (16, iA x0.gSettings.gHoldout), (17, bA true), (18, bA true), (19, undefA), (20, undefA), (21, undefA), (22, bA (true || (decide (x0.gSettings.gHoldout > 10000)))), (23, iA v3), (24, .ptr 1 1), (25, sA x0.gSettings.gHoldoutKind), (26, bA false), (27, bA (!false)), (28, bA (!false)), (29, .ptr 1 1), (30, sA x0.gSettings.gHoldoutKind), (31, bA (!false)), (32, bA (!false)), (33, undefA), (34, undefA), (35, undefA), (36, bA ((!false) || (x0.gSettings.gHoldout != 0))), (37, bA ((!false) && ((!false) || (x0.gSettings.gHoldout != 0)))), (39, .ptr 0 3), (40, .ro .unk x0.gAttributes.length (TDeclared.cl x0.gAttributes))] ?_
          try rw [c1] at hv5
          try rw [c2] at hv5
          try rw [c3] at hv5
          refine AD_callp (d := (some 38)) (al := [bA ((!false) && ((!false) || (x0.gSettings.gHoldout != 0))), iA 6]) (r := iA v5) (by kernel_rfl) (s_shape_when hv5) ⟨trivial, trivial, trivial⟩ trivial ?_
          refine AD_callp (d := (some 41)) (al := [.ro .unk x0.gAttributes.length (TDeclared.cl x0.gAttributes)]) (r := iA v6) (by kernel_rfl) (s_shape_attributes hG hv6) ⟨(scl_TDeclared_cl _ _), trivial⟩ trivial ?_
          refine AD_bsl (d := (some 42)) (m := 4) (cs := [iA v2, iA v3, iA v5, iA v6]) (by kernel_rfl) ⟨trivial, trivial, trivial, trivial, trivial⟩ ?_
          refine AD_callp (d := (some 43)) (al := [.ro .unk ([v2, v3, v5, v6]).length (cl_i64 ([v2, v3, v5, v6]))]) (r := iA v7) (by kernel_rfl) (s_shape_first hv7) ⟨(scl_cl_i64 _ _), trivial⟩ trivial ?_
          refine RD 1 68 [(20, 1), (19, 1), (30, 0), (29, 0), (15, 1), (14, 1), (6, 1), (5, 1), (1, 1), (0, 1)] [(1, .ptr 0 0), (3, .ptr 1 0), (4, iA v7), (10, .ptr 1 0), (11, sA x0.gSettings.gSalt), (12, bA v1), (13, bA (!v1)), (14, iA v2), (15, .ptr 1 2), (16, iA x0.gSettings.gHoldout), (17, bA true), (18, bA true), (19, undefA), (20, undefA), (21, undefA), (22, bA (true || (decide (x0.gSettings.gHoldout > 10000)))), (23, iA v3), (24, .ptr 1 1), (25, sA x0.gSettings.gHoldoutKind), (26, bA false), (27, bA (!false)), (28, bA (!false)), (29, .ptr 1 1), (30, sA x0.gSettings.gHoldoutKind), (31, bA (!false)), (32, bA (!false)), (33, undefA), (34, undefA), (35, undefA), (36, bA ((!false) || (x0.gSettings.gHoldout != 0))), (37, bA ((!false) && ((!false) || (x0.gSettings.gHoldout != 0)))), (38, iA v5), (39, .ptr 0 3), (40, .ro .unk x0.gAttributes.length (TDeclared.cl x0.gAttributes)), (41, iA v6), (42, .ro .unk ([v2, v3, v5, v6]).length (cl_i64 ([v2, v3, v5, v6]))), (43, iA v7)] ?_
          exact AD_here [1, 4] (by kernel_rfl) rfl
    | false =>
      refine RD 4 68 [(10, 1), (9, 1), (30, 0), (29, 0), (15, 1), (14, 1), (6, 1), (5, 1), (1, 1), (0, 1)] [(1, .ptr 0 0), (3, .ptr 1 0), (10, .ptr 1 0), (11, sA x0.gSettings.gSalt), (12, bA v1), (13, bA (!v1)), (14, iA v2), (15, .ptr 1 2), (16, iA x0.gSettings.gHoldout), (17, bA false), (18, bA false), (19, .ptr 1 2), (20, iA x0.gSettings.gHoldout), (21, bA (decide (x0.gSettings.gHoldout > 10000))), (22, bA (false || (decide (x0.gSettings.gHoldout > 10000)))), (24, .ptr 1 1), (25, sA x0.gSettings.gHoldoutKind), (39, .ptr 0 3), (40, .ro .unk x0.gAttributes.length (TDeclared.cl x0.gAttributes))] ?_
      try rw [c1] at hv3
      refine AD_callp (d := (some 23)) (al := [bA (false || (decide (x0.gSettings.gHoldout > 10000))), iA 3]) (r := iA v3) (by kernel_rfl) (s_shape_when hv3) ⟨trivial, trivial, trivial⟩ trivial ?_
      refine AD_callp (d := (some 26)) (al := [sA x0.gSettings.gHoldoutKind]) (r := bA v4) (by kernel_rfl) (s_text_Key hG hv4) ⟨trivial, trivial⟩ trivial ?_
      refine RD 2 68 [(10, 1), (9, 1), (30, 0), (29, 0), (15, 1), (14, 1), (6, 1), (5, 1), (1, 1), (0, 1)] [(1, .ptr 0 0), (3, .ptr 1 0), (10, .ptr 1 0), (11, sA x0.gSettings.gSalt), (12, bA v1), (13, bA (!v1)), (14, iA v2), (15, .ptr 1 2), (16, iA x0.gSettings.gHoldout), (17, bA false), (18, bA false), (19, .ptr 1 2), (20, iA x0.gSettings.gHoldout), (21, bA (decide (x0.gSettings.gHoldout > 10000))), (22, bA (false || (decide (x0.gSettings.gHoldout > 10000)))), (23, iA v3), (24, .ptr 1 1), (25, sA x0.gSettings.gHoldoutKind), (26, bA v4), (27, bA (!v4)), (28, bA (!v4)), (39, .ptr 0 3), (40, .ro .unk x0.gAttributes.length (TDeclared.cl x0.gAttributes))] ?_
      cases c2 : (v4 : Bool) with
      | true =>
        refine RD 9 68 [(10, 1), (9, 1), (30, 0), (29, 0), (15, 1), (14, 1), (6, 1), (5, 1), (1, 1), (0, 1)] [(1, .ptr 0 0), (3, .ptr 1 0), (10, .ptr 1 0), (11, sA x0.gSettings.gSalt), (12, bA v1), (13, bA (!v1)), (14, iA v2), (15, .ptr 1 2), (16, iA x0.gSettings.gHoldout), (17, bA false), (18, bA false), (19, .ptr 1 2), (20, iA x0.gSettings.gHoldout), (21, bA (decide (x0.gSettings.gHoldout > 10000))), (22, bA (false || (decide (x0.gSettings.gHoldout > 10000)))), (23, iA v3), (24, .ptr 1 1), (25, sA x0.gSettings.gHoldoutKind), (26, bA true), (27, bA (!true)), (28, bA (!true)), (29, undefA), (30, undefA), (31, undefA), (32, undefA), (33, undefA), (34, undefA), (35, undefA), (36, undefA), (37, bA ((!true) && ((!(seq' x0.gSettings.gHoldoutKind ByteArray.empty)) || (x0.gSettings.gHoldout != 0)))), (39, .ptr 0 3), (40, .ro .unk x0.gAttributes.length (TDeclared.cl x0.gAttributes))] ?_
        try rw [c1] at hv5
        try rw [c2] at hv5
        refine AD_callp (d := (some 38)) (al := [bA ((!true) && ((!(seq' x0.gSettings.gHoldoutKind ByteArray.empty)) || (x0.gSettings.gHoldout != 0))), iA 6]) (r := iA v5) (by kernel_rfl) (s_shape_when hv5) ⟨trivial, trivial, trivial⟩ trivial ?_
        refine AD_callp (d := (some 41)) (al := [.ro .unk x0.gAttributes.length (TDeclared.cl x0.gAttributes)]) (r := iA v6) (by kernel_rfl) (s_shape_attributes hG hv6) ⟨(scl_TDeclared_cl _ _), trivial⟩ trivial ?_
        refine AD_bsl (d := (some 42)) (m := 4) (cs := [iA v2, iA v3, iA v5, iA v6]) (by kernel_rfl) ⟨trivial, trivial, trivial, trivial, trivial⟩ ?_
        refine AD_callp (d := (some 43)) (al := [.ro .unk ([v2, v3, v5, v6]).length (cl_i64 ([v2, v3, v5, v6]))]) (r := iA v7) (by kernel_rfl) (s_shape_first hv7) ⟨(scl_cl_i64 _ _), trivial⟩ trivial ?_
        refine RD 1 68 [(10, 1), (9, 1), (30, 0), (29, 0), (15, 1), (14, 1), (6, 1), (5, 1), (1, 1), (0, 1)] [(1, .ptr 0 0), (3, .ptr 1 0), (4, iA v7), (10, .ptr 1 0), (11, sA x0.gSettings.gSalt), (12, bA v1), (13, bA (!v1)), (14, iA v2), (15, .ptr 1 2), (16, iA x0.gSettings.gHoldout), (17, bA false), (18, bA false), (19, .ptr 1 2), (20, iA x0.gSettings.gHoldout), (21, bA (decide (x0.gSettings.gHoldout > 10000))), (22, bA (false || (decide (x0.gSettings.gHoldout > 10000)))), (23, iA v3), (24, .ptr 1 1), (25, sA x0.gSettings.gHoldoutKind), (26, bA true), (27, bA (!true)), (28, bA (!true)), (29, undefA), (30, undefA), (31, undefA), (32, undefA), (33, undefA), (34, undefA), (35, undefA), (36, undefA), (37, bA ((!true) && ((!(seq' x0.gSettings.gHoldoutKind ByteArray.empty)) || (x0.gSettings.gHoldout != 0)))), (38, iA v5), (39, .ptr 0 3), (40, .ro .unk x0.gAttributes.length (TDeclared.cl x0.gAttributes)), (41, iA v6), (42, .ro .unk ([v2, v3, v5, v6]).length (cl_i64 ([v2, v3, v5, v6]))), (43, iA v7)] ?_
        exact AD_here [1, 4] (by kernel_rfl) rfl
      | false =>
        refine RD 4 68 [(20, 1), (19, 1), (10, 1), (9, 1), (30, 0), (29, 0), (15, 1), (14, 1), (6, 1), (5, 1), (1, 1), (0, 1)] [(1, .ptr 0 0), (3, .ptr 1 0), (10, .ptr 1 0), (11, sA x0.gSettings.gSalt), (12, bA v1), (13, bA (!v1)), (14, iA v2), (15, .ptr 1 2), (16, iA x0.gSettings.gHoldout), (17, bA false), (18, bA false), (19, .ptr 1 2), (20, iA x0.gSettings.gHoldout), (21, bA (decide (x0.gSettings.gHoldout > 10000))), (22, bA (false || (decide (x0.gSettings.gHoldout > 10000)))), (23, iA v3), (24, .ptr 1 1), (25, sA x0.gSettings.gHoldoutKind), (26, bA false), (27, bA (!false)), (28, bA (!false)), (29, .ptr 1 1), (30, sA x0.gSettings.gHoldoutKind), (31, bA (!(seq' x0.gSettings.gHoldoutKind ByteArray.empty))), (32, bA (!(seq' x0.gSettings.gHoldoutKind ByteArray.empty))), (39, .ptr 0 3), (40, .ro .unk x0.gAttributes.length (TDeclared.cl x0.gAttributes))] ?_
        cases c3 : (seq' x0.gSettings.gHoldoutKind ByteArray.empty : Bool) with
        | true =>
          refine RD 5 68 [(24, 1), (23, 1), (20, 1), (19, 1), (10, 1), (9, 1), (30, 0), (29, 0), (15, 1), (14, 1), (6, 1), (5, 1), (1, 1), (0, 1)] [(1, .ptr 0 0), (3, .ptr 1 0), (10, .ptr 1 0), (11, sA x0.gSettings.gSalt), (12, bA v1), (13, bA (!v1)), (14, iA v2), (15, .ptr 1 2), (16, iA x0.gSettings.gHoldout), (17, bA false), (18, bA false), (19, .ptr 1 2), (20, iA x0.gSettings.gHoldout), (21, bA (decide (x0.gSettings.gHoldout > 10000))), (22, bA (false || (decide (x0.gSettings.gHoldout > 10000)))), (23, iA v3), (24, .ptr 1 1), (25, sA x0.gSettings.gHoldoutKind), (26, bA false), (27, bA (!false)), (28, bA (!false)), (29, .ptr 1 1), (30, sA x0.gSettings.gHoldoutKind), (31, bA (!true)), (32, bA (!true)), (33, .ptr 1 2), (34, iA x0.gSettings.gHoldout), (35, bA (x0.gSettings.gHoldout != 0)), (36, bA ((!true) || (x0.gSettings.gHoldout != 0))), (37, bA ((!false) && ((!true) || (x0.gSettings.gHoldout != 0)))), (39, .ptr 0 3), (40, .ro .unk x0.gAttributes.length (TDeclared.cl x0.gAttributes))] ?_
          try rw [c1] at hv5
          try rw [c2] at hv5
          try rw [c3] at hv5
          refine AD_callp (d := (some 38)) (al := [bA ((!false) && ((!true) || (x0.gSettings.gHoldout != 0))), iA 6]) (r := iA v5) (by kernel_rfl) (s_shape_when hv5) ⟨trivial, trivial, trivial⟩ trivial ?_
          refine AD_callp (d := (some 41)) (al := [.ro .unk x0.gAttributes.length (TDeclared.cl x0.gAttributes)]) (r := iA v6) (by kernel_rfl) (s_shape_attributes hG hv6) ⟨(scl_TDeclared_cl _ _), trivial⟩ trivial ?_
          refine AD_bsl (d := (some 42)) (m := 4) (cs := [iA v2, iA v3, iA v5, iA v6]) (by kernel_rfl) ⟨trivial, trivial, trivial, trivial, trivial⟩ ?_
          refine AD_callp (d := (some 43)) (al := [.ro .unk ([v2, v3, v5, v6]).length (cl_i64 ([v2, v3, v5, v6]))]) (r := iA v7) (by kernel_rfl) (s_shape_first hv7) ⟨(scl_cl_i64 _ _), trivial⟩ trivial ?_
          refine RD 1 68 [(24, 1), (23, 1), (20, 1), (19, 1), (10, 1), (9, 1), (30, 0), (29, 0), (15, 1), (14, 1), (6, 1), (5, 1), (1, 1), (0, 1)] [(1, .ptr 0 0), (3, .ptr 1 0), (4, iA v7), (10, .ptr 1 0), (11, sA x0.gSettings.gSalt), (12, bA v1), (13, bA (!v1)), (14, iA v2), (15, .ptr 1 2), (16, iA x0.gSettings.gHoldout), (17, bA false), (18, bA false), (19, .ptr 1 2), (20, iA x0.gSettings.gHoldout), (21, bA (decide (x0.gSettings.gHoldout > 10000))), (22, bA (false || (decide (x0.gSettings.gHoldout > 10000)))), (23, iA v3), (24, .ptr 1 1), (25, sA x0.gSettings.gHoldoutKind), (26, bA false), (27, bA (!false)), (28, bA (!false)), (29, .ptr 1 1), (30, sA x0.gSettings.gHoldoutKind), (31, bA (!true)), (32, bA (!true)), (33, .ptr 1 2), (34, iA x0.gSettings.gHoldout), (35, bA (x0.gSettings.gHoldout != 0)), (36, bA ((!true) || (x0.gSettings.gHoldout != 0))), (37, bA ((!false) && ((!true) || (x0.gSettings.gHoldout != 0)))), (38, iA v5), (39, .ptr 0 3), (40, .ro .unk x0.gAttributes.length (TDeclared.cl x0.gAttributes)), (41, iA v6), (42, .ro .unk ([v2, v3, v5, v6]).length (cl_i64 ([v2, v3, v5, v6]))), (43, iA v7)] ?_
          exact AD_here [1, 4] (by kernel_rfl) rfl
        | false =>
          refine RD 5 68 [(20, 1), (19, 1), (10, 1), (9, 1), (30, 0), (29, 0), (15, 1), (14, 1), (6, 1), (5, 1), (1, 1), (0, 1)] [(1, .ptr 0 0), (3, .ptr 1 0), (10, .ptr 1 0), (11, sA x0.gSettings.gSalt), (12, bA v1), (13, bA (!v1)), (14, iA v2), (15, .ptr 1 2), (16, iA x0.gSettings.gHoldout), (17, bA false), (18, bA false), (19, .ptr 1 2), (20, iA x0.gSettings.gHoldout), (21, bA (decide (x0.gSettings.gHoldout > 10000))), (22, bA (false || (decide (x0.gSettings.gHoldout > 10000)))), (23, iA v3), (24, .ptr 1 1), (25, sA x0.gSettings.gHoldoutKind), (26, bA false), (27, bA (!false)), (28, bA (!false)), (29, .ptr 1 1), (30, sA x0.gSettings.gHoldoutKind), (31, bA (!false)), (32, bA (!false)), (33, undefA), (34, undefA), (35, undefA), (36, bA ((!false) || (x0.gSettings.gHoldout != 0))), (37, bA ((!false) && ((!false) || (x0.gSettings.gHoldout != 0)))), (39, .ptr 0 3), (40, .ro .unk x0.gAttributes.length (TDeclared.cl x0.gAttributes))] ?_
          try rw [c1] at hv5
          try rw [c2] at hv5
          try rw [c3] at hv5
          refine AD_callp (d := (some 38)) (al := [bA ((!false) && ((!false) || (x0.gSettings.gHoldout != 0))), iA 6]) (r := iA v5) (by kernel_rfl) (s_shape_when hv5) ⟨trivial, trivial, trivial⟩ trivial ?_
          refine AD_callp (d := (some 41)) (al := [.ro .unk x0.gAttributes.length (TDeclared.cl x0.gAttributes)]) (r := iA v6) (by kernel_rfl) (s_shape_attributes hG hv6) ⟨(scl_TDeclared_cl _ _), trivial⟩ trivial ?_
          refine AD_bsl (d := (some 42)) (m := 4) (cs := [iA v2, iA v3, iA v5, iA v6]) (by kernel_rfl) ⟨trivial, trivial, trivial, trivial, trivial⟩ ?_
          refine AD_callp (d := (some 43)) (al := [.ro .unk ([v2, v3, v5, v6]).length (cl_i64 ([v2, v3, v5, v6]))]) (r := iA v7) (by kernel_rfl) (s_shape_first hv7) ⟨(scl_cl_i64 _ _), trivial⟩ trivial ?_
          refine RD 1 68 [(20, 1), (19, 1), (10, 1), (9, 1), (30, 0), (29, 0), (15, 1), (14, 1), (6, 1), (5, 1), (1, 1), (0, 1)] [(1, .ptr 0 0), (3, .ptr 1 0), (4, iA v7), (10, .ptr 1 0), (11, sA x0.gSettings.gSalt), (12, bA v1), (13, bA (!v1)), (14, iA v2), (15, .ptr 1 2), (16, iA x0.gSettings.gHoldout), (17, bA false), (18, bA false), (19, .ptr 1 2), (20, iA x0.gSettings.gHoldout), (21, bA (decide (x0.gSettings.gHoldout > 10000))), (22, bA (false || (decide (x0.gSettings.gHoldout > 10000)))), (23, iA v3), (24, .ptr 1 1), (25, sA x0.gSettings.gHoldoutKind), (26, bA false), (27, bA (!false)), (28, bA (!false)), (29, .ptr 1 1), (30, sA x0.gSettings.gHoldoutKind), (31, bA (!false)), (32, bA (!false)), (33, undefA), (34, undefA), (35, undefA), (36, bA ((!false) || (x0.gSettings.gHoldout != 0))), (37, bA ((!false) && ((!false) || (x0.gSettings.gHoldout != 0)))), (38, iA v5), (39, .ptr 0 3), (40, .ro .unk x0.gAttributes.length (TDeclared.cl x0.gAttributes)), (41, iA v6), (42, .ro .unk ([v2, v3, v5, v6]).length (cl_i64 ([v2, v3, v5, v6]))), (43, iA v7)] ?_
          exact AD_here [1, 4] (by kernel_rfl) rfl
  refine AWP_reg (Rh 2 68 [(1, .ptr 0 0), (4, iA v7), (45, bA (v7 != 0))] (AOps_done (CD H (fun hb8 H => ?_) (fun hb8 H => ?_))))
  · refine AWP_reg (Rh 2 68 [(2, iA v7)] (AOps_done ?_))
    exact AWP_ret (FR H)
  · refine AWP_skip ?_
    show AWP _ _ _ _ _ _ _
    refine AWP_seq (AWP_reg (Rh 2 68 [(1, .ptr 0 0), (48, .ro .unk x0.gSegments.length (TSegment.cl x0.gSegments))] ?_))
    obtain ⟨v9, hv9, H⟩ := bind_some H
    refine AOps_callp (d := (some 49)) (al := [.ro .unk x0.gSegments.length (TSegment.cl x0.gSegments), iA 20, .val (.func (.func 36) #[] #[]), .val (.func (.func 90) #[] #[])]) (r := iA v9) (by kernel_rfl) (s_shape_list_api_Segment hG hv9) ⟨(scl_TSegment_cl _ _), trivial, trivial, trivial, trivial⟩ trivial ?_
    refine Rh 1 68 [(1, .ptr 0 0), (5, iA v9)] (AOps_done (AWP_reg (Rh 2 68 [(1, .ptr 0 0), (5, iA v9), (51, bA (v9 != 0))] (AOps_done (CD H (fun hb10 H => ?_) (fun hb10 H => ?_))))))
    · refine AWP_reg (Rh 2 68 [(2, iA v9)] (AOps_done ?_))
      exact AWP_ret (FR H)
    · refine AWP_skip ?_
      show AWP _ _ _ _ _ _ _
      refine AWP_seq (AWP_reg (Rh 2 68 [(1, .ptr 0 0), (54, .ro .unk x0.gFlags.length (TFlag.cl x0.gFlags))] ?_))
      obtain ⟨v11, hv11, H⟩ := bind_some H
      refine AOps_callp (d := (some 55)) (al := [.ro .unk x0.gFlags.length (TFlag.cl x0.gFlags), iA 30, .val (.func (.func 34) #[] #[]), .val (.func (.func 92) #[] #[])]) (r := iA v11) (by kernel_rfl) (s_shape_list_api_Flag hG hv11) ⟨(scl_TFlag_cl _ _), trivial, trivial, trivial, trivial⟩ trivial ?_
      refine Rh 1 68 [(1, .ptr 0 0), (6, iA v11)] (AOps_done (AWP_reg (Rh 2 68 [(1, .ptr 0 0), (6, iA v11), (57, bA (v11 != 0))] (AOps_done (CD H (fun hb12 H => ?_) (fun hb12 H => ?_))))))
      · refine AWP_reg (Rh 2 68 [(2, iA v11)] (AOps_done ?_))
        exact AWP_ret (FR H)
      · refine AWP_skip ?_
        show AWP _ _ _ _ _ _ _
        refine AWP_seq (AWP_reg (Rh 2 68 [(1, .ptr 0 0), (60, .ro .unk x0.gLayers.length (TLayer.cl x0.gLayers))] ?_))
        obtain ⟨v13, hv13, H⟩ := bind_some H
        refine AOps_callp (d := (some 61)) (al := [.ro .unk x0.gLayers.length (TLayer.cl x0.gLayers), iA 6, .val (.func (.func 38) #[] #[]), .val (.func (.func 94) #[] #[])]) (r := iA v13) (by kernel_rfl) (s_shape_list_api_Layer hG hv13) ⟨(scl_TLayer_cl _ _), trivial, trivial, trivial, trivial⟩ trivial ?_
        refine Rh 1 68 [(1, .ptr 0 0), (7, iA v13)] (AOps_done (AWP_reg (Rh 2 68 [(1, .ptr 0 0), (7, iA v13), (63, bA (v13 != 0))] (AOps_done (CD H (fun hb14 H => ?_) (fun hb14 H => ?_))))))
        · refine AWP_reg (Rh 2 68 [(2, iA v13)] (AOps_done ?_))
          exact AWP_ret (FR H)
        · refine AWP_skip ?_
          show AWP _ _ _ _ _ _ _
          refine AWP_reg (Rh 2 68 [(66, .ro .unk x0.gExperiments.length (TExperiment.cl x0.gExperiments))] ?_)
          obtain ⟨v15, hv15, H⟩ := bind_some H
          refine AOps_callp (d := (some 67)) (al := [.ro .unk x0.gExperiments.length (TExperiment.cl x0.gExperiments), iA 16, .val (.func (.func 40) #[] #[]), .val (.func (.func 96) #[] #[])]) (r := iA v15) (by kernel_rfl) (s_shape_list_api_Experiment hG hv15) ⟨(scl_TExperiment_cl _ _), trivial, trivial, trivial, trivial⟩ trivial ?_
          refine Rh 1 68 [(2, iA v15)] (AOps_done ?_)
          exact AWP_ret (FR H)
end Go.Proofs.YtjhbobacbaikoaaGreatDoor
/- A function of the program as a pure function, and that the program computes it. -/
namespace Go.Proofs.YtjhbobacbaikoaaGreatDoor
open Go
set_option linter.unusedVariables false
set_option linter.unusedSimpArgs false
set_option maxRecDepth 100000
def p_law6_awake (n : Nat)  : Option Bool :=
(p_shape_Environment n ({ gSettings := ({ gSalt := ByteArray.empty, gHoldoutKind := ByteArray.empty, gHoldout := 0 } : TSettings), gAttributes := [], gSegments := [], gFlags := [], gLayers := [], gExperiments := [] } : TEnvironment)).bind fun v1 =>
(bif v1 == 0 then p_shape_Split n ([({ gFrom := 0, gTo := 10000, gVariation := 2 } : TRange)]) 2 else some (0)).bind fun v2 =>
(bif (v1 == 0) && (v2 == 0) then p_shape_Split n ([({ gFrom := 0, gTo := 10000, gVariation := 2 } : TRange)]) 1 else some (0)).bind fun v3 =>
 some (((v1 == 0) && (v2 == 0)) && (v3 == 3))
variable {E : Env}
theorem s_law6_awake {n : Nat} (hG : GlobT E)  {r : Bool} (H : p_law6_awake n  = some r) :
    Sp Tryz.prog E 10 [] [] (isA (bA r) []) := by
  unfold p_law6_awake at H
  refine Sp_fn Tryz.func10 rfl (fun hc hs => ?_)
  refine AWP_reg (Rh 1 17 [] (AOps_done (AWP_reg (Rh 1 17 [(2, .agg [iA 0, iA 10000, iA 2])] (AOps_bsl (d := (some 3)) (m := 1) (cs := [iA 0, iA 10000, iA 2]) (by kernel_rfl) ⟨trivial, trivial, trivial, trivial⟩ ?_)))))
  refine Rh 1 17 [(1, .ro .unk ([({ gFrom := 0, gTo := 10000, gVariation := 2 } : TRange)]).length (TRange.cl ([({ gFrom := 0, gTo := 10000, gVariation := 2 } : TRange)])))] (AOps_done (AWP_reg (Rh 1 17 [(1, .ro .unk ([({ gFrom := 0, gTo := 10000, gVariation := 2 } : TRange)]).length (TRange.cl ([({ gFrom := 0, gTo := 10000, gVariation := 2 } : TRange)]))), (4, .agg [sA ByteArray.empty, sA ByteArray.empty, iA 0, .ro .full 0 [], .ro .full 0 [], .ro .full 0 [], .ro .full 0 [], .ro .full 0 []])] ?_)))
  obtain ⟨v1, hv1, H⟩ := bind_some H
  refine AOps_callp (d := (some 5)) (al := [.agg [sA ByteArray.empty, sA ByteArray.empty, iA 0, .ro .full 0 [], .ro .full 0 [], .ro .full 0 [], .ro .full 0 [], .ro .full 0 []]]) (r := iA v1) (by kernel_rfl) (Sp.le (leL_cons (AV.le_agg (leL_cons (AV.le_refl _) (leL_cons (AV.le_refl _) (leL_cons (AV.le_refl _) (leL_cons (AV.le_ro _ _ _) (leL_cons (AV.le_ro _ _ _) (leL_cons (AV.le_ro _ _ _) (leL_cons (AV.le_ro _ _ _) (leL_cons (AV.le_ro _ _ _) (leL_refl _))))))))) rfl) (leL_refl _)) (s_shape_Environment hG hv1)) ⟨⟨trivial, trivial, trivial, trivial, trivial, trivial, trivial, trivial, trivial⟩, trivial⟩ trivial ?_
  refine Rh 2 17 [(1, .ro .unk ([({ gFrom := 0, gTo := 10000, gVariation := 2 } : TRange)]).length (TRange.cl ([({ gFrom := 0, gTo := 10000, gVariation := 2 } : TRange)]))), (7, bA (v1 == 0))] ?_
  obtain ⟨v2, hv2, H⟩ := bind_some H
  refine AOps_cut 4 (st' := fr 17 [(1, .ro .unk ([({ gFrom := 0, gTo := 10000, gVariation := 2 } : TRange)]).length (TRange.cl ([({ gFrom := 0, gTo := 10000, gVariation := 2 } : TRange)]))), (11, bA ((v1 == 0) && (v2 == 0)))]) (h' := []) ?_ ?_
  rotate_left
  · cases c1 : (v1 == 0 : Bool) with
    | true =>
      refine R 1 17 [(1, .ro .unk ([({ gFrom := 0, gTo := 10000, gVariation := 2 } : TRange)]).length (TRange.cl ([({ gFrom := 0, gTo := 10000, gVariation := 2 } : TRange)]))), (7, bA true), (8, .ro .unk ([({ gFrom := 0, gTo := 10000, gVariation := 2 } : TRange)]).length (TRange.cl ([({ gFrom := 0, gTo := 10000, gVariation := 2 } : TRange)])))] [] ?_
      have hv2_ := cond_t hv2 (by simp only [c1] <;> rfl)
      refine AOps_callp (d := (some 9)) (al := [.ro .unk ([({ gFrom := 0, gTo := 10000, gVariation := 2 } : TRange)]).length (TRange.cl ([({ gFrom := 0, gTo := 10000, gVariation := 2 } : TRange)])), iA 2]) (r := iA v2) (by kernel_rfl) (s_shape_Split hv2_) ⟨(scl_TRange_cl _ _), trivial, trivial⟩ trivial ?_
      refine R 2 17 [(1, .ro .unk ([({ gFrom := 0, gTo := 10000, gVariation := 2 } : TRange)]).length (TRange.cl ([({ gFrom := 0, gTo := 10000, gVariation := 2 } : TRange)]))), (11, bA (true && (v2 == 0)))] [] ?_
      exact AOps_here [1, 11] (by kernel_rfl) rfl
    | false =>
      refine R 4 17 [(1, .ro .unk ([({ gFrom := 0, gTo := 10000, gVariation := 2 } : TRange)]).length (TRange.cl ([({ gFrom := 0, gTo := 10000, gVariation := 2 } : TRange)]))), (11, bA (false && (v2 == 0)))] [] ?_
      exact AOps_here [1, 11] (by kernel_rfl) rfl
  refine Rh 1 17 [(1, .ro .unk ([({ gFrom := 0, gTo := 10000, gVariation := 2 } : TRange)]).length (TRange.cl ([({ gFrom := 0, gTo := 10000, gVariation := 2 } : TRange)]))), (12, bA ((v1 == 0) && (v2 == 0)))] ?_
  obtain ⟨v3, hv3, H⟩ := bind_some H
  refine AOps_cut 4 (st' := fr 17 [(16, bA (((v1 == 0) && (v2 == 0)) && (v3 == 3)))]) (h' := []) ?_ ?_
  rotate_left
  · cases c1 : ((v1 == 0) && (v2 == 0) : Bool) with
    | true =>
      refine R 1 17 [(12, bA true), (13, .ro .unk ([({ gFrom := 0, gTo := 10000, gVariation := 2 } : TRange)]).length (TRange.cl ([({ gFrom := 0, gTo := 10000, gVariation := 2 } : TRange)])))] [] ?_
      have hv3_ := cond_t hv3 (by simp only [c1] <;> rfl)
      refine AOps_callp (d := (some 14)) (al := [.ro .unk ([({ gFrom := 0, gTo := 10000, gVariation := 2 } : TRange)]).length (TRange.cl ([({ gFrom := 0, gTo := 10000, gVariation := 2 } : TRange)])), iA 1]) (r := iA v3) (by kernel_rfl) (s_shape_Split hv3_) ⟨(scl_TRange_cl _ _), trivial, trivial⟩ trivial ?_
      refine R 2 17 [(16, bA (true && (v3 == 3)))] [] ?_
      exact AOps_here [16] (by kernel_rfl) rfl
    | false =>
      refine R 4 17 [(16, bA (false && (v3 == 3)))] [] ?_
      exact AOps_here [16] (by kernel_rfl) rfl
  refine Rh 1 17 [(0, bA (((v1 == 0) && (v2 == 0)) && (v3 == 3)))] (AOps_done ?_)
  exact AWP_ret (FR H)
end Go.Proofs.YtjhbobacbaikoaaGreatDoor
/- A function of the program as a pure function, and that the program computes it. -/
namespace Go.Proofs.YtjhbobacbaikoaaGreatDoor
open Go
set_option linter.unusedVariables false
set_option linter.unusedSimpArgs false
set_option maxRecDepth 100000
def p_law6_big_L1 (n : Nat) (self_p_law6_big : TExpr → Option Bool) (x0 : TExpr) (v10 : Int) : Option Bool := match n with
| 0 => none
| n + 1 =>
(bif (decide (v10 < (lI x0.gKids))) && (decide ((w64 ((lI x0.gKids) + (lI x0.gValues))) < 200)) then
(rdO x0.gKids v10).bind fun v12 =>
(self_p_law6_big v12).bind fun v13 =>
(bif v13 then
 some (true)
 else
 p_law6_big_L1 n self_p_law6_big x0 (w64 (v10 + 1)))
 else
 some (decide ((w64 ((lI x0.gKids) + (lI x0.gValues))) ≥ 200)))
def p_law6_big_F (self_p_law6_big : TExpr → Option Bool) (n : Nat) (x0 : TExpr) : Option Bool :=
 p_law6_big_L1 n self_p_law6_big x0 0
def p_law6_big (n : Nat) (x0 : TExpr) : Option Bool := match n with
| 0 => none
| n + 1 => p_law6_big_F (p_law6_big n) n x0
variable {E : Env}
theorem s_law6_big_F {self_p_law6_big : TExpr → Option Bool} (hself_law6_big : ∀ {x0 : TExpr}, ∀ {r : Bool}, self_p_law6_big x0 = some r → Sp Tryz.prog E 11 [.agg (TExpr.cs x0)] [] (isA (bA r) [])) {n : Nat} {x0 : TExpr} {r : Bool} (H : p_law6_big_F self_p_law6_big n x0 = some r) :
    Sp Tryz.prog E 11 [.agg (TExpr.cs x0)] [] (isA (bA r) []) := by
  unfold p_law6_big_F at H
  refine Sp_fn Tryz.func11 rfl (fun hc hs => ?_)
  refine AWP_reg (R 2 31 [(1, .ptr 0 0)] [.cells 25 (TExpr.cs x0)] (AOps_done (AWP_reg (Rh 8 31 [(1, .ptr 0 0), (3, iA (w64 ((lI x0.gKids) + (lI x0.gValues))))] (AOps_done (AWP_seq (AWP_reg (Rh 1 31 [(1, .ptr 0 0), (3, iA (w64 ((lI x0.gKids) + (lI x0.gValues)))), (4, iA 0)] ?_))))))))
  refine AOps_done (AWP_block ?_)
  refine AWP_loopN (α := Int) (fun v10 => fr 31 [(1, .ptr 0 0), (3, iA (w64 ((lI x0.gKids) + (lI x0.gValues)))), (4, iA v10)]) (fun v10 => [.cells 25 (TExpr.cs x0)]) (fun k_ v10 => k_ ≤ n ∧ p_law6_big_L1 k_ self_p_law6_big x0 v10 = some r) (fun n v10 H => ?_) (k := n) 0 ⟨Nat.le_refl _, H⟩ (Norm_fd [1, 3, 4] 0 (by kernel_rfl) rfl rfl ⟨(sc_TExpr_cs _ _), trivial⟩ (by refine scL_fr ?_; exact ⟨(sc_ptr rfl), trivial, trivial, trivial⟩))
  show AWP _ _ _ _ _ (fr 31 [(1, .ptr 0 0), (3, iA (w64 ((lI x0.gKids) + (lI x0.gValues)))), (4, iA v10)]) [.cells 25 (TExpr.cs x0)]
  obtain ⟨hb_, H⟩ := H
  replace H : p_law6_big_L1 n self_p_law6_big x0 v10 = some r := H
  cases n with
  | zero => exact not_none (by simpa only [p_law6_big_L1] using H)
  | succ n =>
    unfold p_law6_big_L1 at H
    refine AWP_seq (AWP_reg (Rh 6 31 [(1, .ptr 0 0), (3, iA (w64 ((lI x0.gKids) + (lI x0.gValues)))), (4, iA v10), (17, bA (decide (v10 < (lI x0.gKids))))] (AOps_run 3 [1, 3, 4, 20] (st' := fr 31 [(1, .ptr 0 0), (3, iA (w64 ((lI x0.gKids) + (lI x0.gValues)))), (4, iA v10), (20, bA ((decide (v10 < (lI x0.gKids))) && (decide ((w64 ((lI x0.gKids) + (lI x0.gValues))) < 200))))]) (h' := [.cells 25 (TExpr.cs x0)]) (by (generalize (decide (v10 < (lI x0.gKids))) = t0; cases t0 <;> kernel_rfl)) ?_)))
    refine AOps_done (CD H (fun hb11 H => ?_) (fun hb11 H => ?_))
    · refine AWP_skip ?_
      show AWP _ _ _ _ _ _ _
      refine AWP_seq (AWP_block ?_)
      refine AWP_reg (Rh 3 31 [(1, .ptr 0 0), (3, iA (w64 ((lI x0.gKids) + (lI x0.gValues)))), (4, iA v10), (24, .ro .unk x0.gKids.length (TExpr.cl x0.gKids)), (25, iA v10)] ?_)
      obtain ⟨v12, hv12, H⟩ := bind_some H
      refine AOps_index (d := (some 26)) (sz := 5) (c := TExpr.cs) (by kernel_rfl) rfl (eq_TExpr_cl _) (fun _ => rfl) (by decide) hv12 (fun tl12 => ?_)
      refine Rh 1 31 [(1, .ptr 0 0), (3, iA (w64 ((lI x0.gKids) + (lI x0.gValues)))), (4, iA v10), (27, .agg (TExpr.cs v12))] ?_
      obtain ⟨v13, hv13, H⟩ := bind_some H
      refine AOps_callp (d := (some 28)) (al := [.agg (TExpr.cs v12)]) (r := bA v13) (by kernel_rfl) (hself_law6_big hv13) ⟨(sc_TExpr_cs _ _), trivial⟩ trivial ?_
      refine AOps_done (CD H (fun hb14 H => ?_) (fun hb14 H => ?_))
      · refine AWP_reg (Rh 1 31 [(2, bA true)] (AOps_done ?_))
        exact AWP_ret (FR H)
      · refine AWP_skip ?_
        show AWP _ _ _ _ _ _ _
        refine AWP_region ?_
        refine Rh 3 31 [(1, .ptr 0 0), (3, iA (w64 ((lI x0.gKids) + (lI x0.gValues)))), (4, iA (w64 (v10 + 1)))] (AOps_done ?_)
        exact Exists.intro (w64 (v10 + 1)) (Exists.intro n ⟨by omega, ⟨by omega, H⟩, Norm_fd [1, 3, 4] 0 (by kernel_rfl) rfl rfl ⟨(sc_TExpr_cs _ _), trivial⟩ (by refine scL_fr ?_; exact ⟨(sc_ptr rfl), trivial, trivial, trivial⟩)⟩)
    · refine AWP_exit ?_
      show AWP _ _ _ _ _ _ _
      refine AWP_reg (Rh 3 31 [(2, bA (decide ((w64 ((lI x0.gKids) + (lI x0.gValues))) ≥ 200)))] (AOps_done ?_))
      exact AWP_ret (FR H)
theorem s_all_law6_big : ∀ n : Nat, (∀ {x0 : TExpr}, ∀ {r : Bool}, p_law6_big n x0 = some r → Sp Tryz.prog E 11 [.agg (TExpr.cs x0)] [] (isA (bA r) [])) := by
  intro n
  induction n with
  | zero => exact fun H => not_none (by simpa only [p_law6_big] using H)
  | succ n ih => exact fun H => s_law6_big_F ih (by simpa only [p_law6_big] using H)
theorem s_law6_big {n : Nat} {x0 : TExpr} {r : Bool} (H : p_law6_big n x0 = some r) :
    Sp Tryz.prog E 11 [.agg (TExpr.cs x0)] [] (isA (bA r) []) := (s_all_law6_big n) H
end Go.Proofs.YtjhbobacbaikoaaGreatDoor
/- The examples of the chapter; how large a condition is. -/
namespace Go.Proofs.YtjhbobacbaikoaaGreatDoor
open Go
set_option linter.unusedVariables false
set_option linter.unusedSimpArgs false
mutual
theorem big_tot : ∀ x : TExpr, x.sm → ∃ v, Al fun n => p_law6_big n x = some v
  | .mk op kd nm vs ks, hx => by
    have hL := big_totL ks (by rw [TExpr.sm] at hx; exact hx.2.2.2.2)
    have hlen : ks.length < 4294967281 := by rw [TExpr.sm] at hx; exact hx.2.2.2.1
    generalize hxx : TExpr.mk op kd nm vs ks = x at *
    have hks : x.gKids = ks := by rw [← hxx]; rfl
    obtain ⟨G, N, hN⟩ := hL
    have key : ∀ (q i : Nat), i + q = ks.length → ∃ v, ∀ n m, N ≤ n → q < m → p_law6_big_L1 m (p_law6_big n) x i = some v := by
      intro q
      induction q with
      | zero =>
        intro i hi
        refine ⟨decide (w64 (lI x.gKids + lI x.gValues) ≥ 200), fun n m hn hm => ?_⟩
        obtain ⟨m, rfl⟩ : ∃ k, m = k + 1 := ⟨m - 1, by omega⟩
        obtain rfl : i = ks.length := by omega
        rw [p_law6_big_L1]
        rw [← hks, lI_out]; rfl
      | succ q ih =>
        intro i hi
        have hil : i < x.gKids.length := by rw [hks]; omega
        obtain ⟨w, hw⟩ := ih (i + 1) (by omega)
        by_cases c : w64 (lI x.gKids + lI x.gValues) < 200
        · refine ⟨if G x.gKids[i] = true then true else w, fun n m hn hm => ?_⟩
          obtain ⟨m, rfl⟩ : ∃ k, m = k + 1 := ⟨m - 1, by omega⟩
          rw [p_law6_big_L1, lI_in hil, decide_eq_true c]
          simp only [Bool.and_self, cond_true, rdO_nat hil, Option.bind_some, hN n hn x.gKids[i] (by rw [← hks]; exact List.getElem_mem hil), w64_add (show i + 1 < 9223372036854775808 by omega), hw n m hn (by omega)]
          cases G x.gKids[i] <;> rfl
        · refine ⟨true, fun n m hn hm => ?_⟩
          obtain ⟨m, rfl⟩ : ∃ k, m = k + 1 := ⟨m - 1, by omega⟩
          rw [p_law6_big_L1, lI_in hil, decide_eq_false c]
          simp only [Bool.true_and, cond_false]
          rw [decide_eq_true (show w64 (lI x.gKids + lI x.gValues) ≥ 200 by omega)]
    obtain ⟨v, hv⟩ := key ks.length 0 (by omega)
    refine ⟨v, Al.succ ⟨N + ks.length + 1, fun n hn => ?_⟩⟩
    show p_law6_big_F (p_law6_big n) n x = some v
    unfold p_law6_big_F
    exact hv n n (by omega) (by omega)
theorem big_totL : ∀ l : List TExpr, TExpr.smL l → ∃ G : TExpr → Bool, Al fun n => ∀ k ∈ l, p_law6_big n k = some (G k)
  | [], _ => ⟨fun _ => false, .of fun n k hk => by cases hk⟩
  | k :: ks, h => by
    rw [TExpr.smL] at h
    obtain ⟨v, hv⟩ := big_tot k h.1
    obtain ⟨G, hG⟩ := big_totL ks h.2
    refine ⟨fun y => open Classical in if y = k then v else G y, (hv.and hG).mono fun n ⟨h1, h2⟩ y hy => ?_⟩
    by_cases e : y = k
    · simp only [e, if_true]; exact h1
    · simp only [e, if_false]
      rcases List.mem_cons.1 hy with h | h
      · exact absurd h e
      · exact h2 y h
end
theorem awake_al : Al fun n => p_law6_awake n = some true := ⟨40, fun n hn => by
  obtain ⟨m, rfl⟩ : ∃ m, n = m + 40 := ⟨n - 40, by omega⟩
  kernel_rfl⟩
end Go.Proofs.YtjhbobacbaikoaaGreatDoor
/- A function of the program as a pure function, and that the program computes it. -/
namespace Go.Proofs.YtjhbobacbaikoaaGreatDoor
open Go
set_option linter.unusedVariables false
set_option linter.unusedSimpArgs false
set_option maxRecDepth 100000
def p_law6_ShapeServes_L1 (n : Nat) (x0 : TServe) (x2 : Int) (v5 : Int × TCodes) (v7 : TServe × TCodes) (v8 : TFlag × TCodes) (v24 : Int) : Option Bool := match n with
| 0 => none
| n + 1 =>
(bif decide (v24 < (lI ([x0, v7.1, v8.1.gDefault]))) then
(rdO ([x0, v7.1, v8.1.gDefault]) v24).bind fun v26 =>
(p_shape_Serve n v26 x2).bind fun v27 =>
(p_ref6_Serve n v26 x2).bind fun v28 =>
(bif !(v27 != v28) then p_shape_Serve n v26 (w64 (1 + v5.1)) else some (0)).bind fun v29 =>
(bif !(v27 != v28) then p_ref6_Serve n v26 (w64 (1 + v5.1)) else some (0)).bind fun v30 =>
(bif (v27 != v28) || (v29 != v30) then
 some (false)
 else
 p_law6_ShapeServes_L1 n x0 x2 v5 v7 v8 (w64 (v24 + 1)))
 else
(p_shape_Serve n v7.1 (w64 (1 + v5.1))).bind fun v32 =>
 some (v32 == 0))
def p_law6_ShapeServes (n : Nat) (x0 : TServe) (x1 : List Int) (x2 : Int) : Option Bool :=
(p_law6_awake n ).bind fun v1 =>
(bif !v1 then
 some (false)
 else
(bif decide ((lI x0.gSplit) > 40) then
 some (true)
 else
(p_draw_New n x1 60).bind fun v4 =>
(p_draw_Codes_Next n v4 6).bind fun v5 =>
(p_draw_Codes_Any n v5.2).bind fun v6 =>
(p_draw_Codes_Serve n v6.2 (w64 (1 + v5.1))).bind fun v7 =>
(p_draw_Codes_Flag n v7.2 ({ gKey := ByteArray.empty, gKind := 0, gVariations := [v6.1], gOn := false, gOff := 0, gPrerequisites := [], gTargets := [], gRules := [], gDefault := v7.1 } : TFlag)).bind fun v8 =>
 p_law6_ShapeServes_L1 n x0 x2 v5 v7 v8 0))
variable {E : Env}
theorem s_law6_ShapeServes {n : Nat} (hG : GlobD E) {x0 : TServe} {x1 : List Int} {x2 : Int} {r : Bool} (H : p_law6_ShapeServes n x0 x1 x2 = some r) :
    Sp Tryz.prog E 5 [.agg (TServe.cs x0), .ro .unk x1.length (cl_u8 x1), iA x2] [] (isA (bA r) []) := by
  unfold p_law6_ShapeServes at H
  refine Sp_fn Tryz.func5 rfl (fun hc hs => ?_)
  refine AWP_reg (R 2 67 [(1, .ro .unk x1.length (cl_u8 x1)), (2, iA x2), (3, .ptr 0 0)] [.cells 56 (TServe.cs x0)] (AOps_done (AWP_seq (AWP_reg ?_))))
  obtain ⟨v1, hv1, H⟩ := bind_some H
  refine AOps_callp (d := (some 13)) (al := []) (r := bA v1) (by kernel_rfl) (s_law6_awake hG.toGlobT hv1) trivial trivial ?_
  refine Rh 1 67 [(1, .ro .unk x1.length (cl_u8 x1)), (2, iA x2), (3, .ptr 0 0), (14, bA (!v1))] (AOps_done (CD H (fun hb2 H => ?_) (fun hb2 H => ?_)))
  · refine AWP_reg (Rh 1 67 [(6, bA false)] (AOps_done ?_))
    exact AWP_ret (FR H)
  · refine AWP_skip ?_
    show AWP _ _ _ _ _ _ _
    refine AWP_seq (AWP_reg (Rh 4 67 [(1, .ro .unk x1.length (cl_u8 x1)), (2, iA x2), (3, .ptr 0 0), (18, bA (decide ((lI x0.gSplit) > 40)))] (AOps_done (CD H (fun hb3 H => ?_) (fun hb3 H => ?_)))))
    · refine AWP_reg (Rh 1 67 [(6, bA true)] (AOps_done ?_))
      exact AWP_ret (FR H)
    · refine AWP_skip ?_
      show AWP _ _ _ _ _ _ _
      refine AWP_reg (Rh 1 67 [(2, iA x2), (3, .ptr 0 0), (19, .ro .unk x1.length (cl_u8 x1))] ?_)
      obtain ⟨v4, hv4, H⟩ := bind_some H
      refine AOps_callnew (d := (some 20)) (al := [.ro .unk x1.length (cl_u8 x1), iA 60]) (b := .cells 101 (TCodes.cs v4)) (m := 1) (by kernel_rfl) (s_draw_New hv4) ⟨(scl_cl_u8 _ _), trivial, trivial⟩ (⟨(scl_cl_u8 _ _), trivial, trivial⟩) rfl ?_
      refine Rh 1 67 [(2, iA x2), (3, .ptr 0 0), (7, .ptr 1 0)] (AOps_done (AWP_reg (Rh 1 67 [(2, iA x2), (3, .ptr 0 0), (7, .ptr 1 0), (21, .ptr 1 0)] ?_)))
      obtain ⟨v5, hv5, H⟩ := bind_some H
      refine AOps_call1 (d := (some 22)) (al := [.ptr 0 0, iA 6]) ([.ptr 1 0, iA 6]) (r := iA v5.1) (j := 1) (b' := .cells 101 (TCodes.cs v5.2)) (by kernel_rfl) rfl (s_draw_Codes_Next hv5) (⟨(scl_cl_u8 _ _), trivial, trivial⟩) (⟨(scl_cl_u8 _ _), trivial, trivial⟩) ⟨Nat.zero_lt_one, trivial, trivial⟩ trivial rfl (h' := [.cells 101 (TCodes.cs v5.2), .cells 56 (TServe.cs x0)]) rfl ?_
      refine Rh 2 67 [(2, iA x2), (3, .ptr 0 0), (7, .ptr 1 0), (8, iA (w64 (1 + v5.1)))] (AOps_done (AWP_reg (Rh 1 67 [(2, iA x2), (3, .ptr 0 0), (7, .ptr 1 0), (8, iA (w64 (1 + v5.1))), (24, .ptr 1 0)] ?_)))
      obtain ⟨v6, hv6, H⟩ := bind_some H
      refine AOps_call1 (d := (some 25)) (al := [.ptr 0 0]) ([.ptr 1 0]) (r := .agg (TValue.cs v6.1)) (j := 1) (b' := .cells 101 (TCodes.cs v6.2)) (by kernel_rfl) rfl (s_draw_Codes_Any hG hv6) (⟨(scl_cl_u8 _ _), trivial, trivial⟩) (⟨(scl_cl_u8 _ _), trivial, trivial⟩) ⟨Nat.zero_lt_one, trivial⟩ (sc_TValue_cs _ _) rfl (h' := [.cells 101 (TCodes.cs v6.2), .cells 56 (TServe.cs x0)]) rfl ?_
      refine AOps_bsl (d := (some 26)) (m := 1) (cs := [iA v6.1.gKind, iA v6.1.gNumber, sA v6.1.gText, .ro .unk v6.1.gList.length (cl_str v6.1.gList)]) (by kernel_rfl) ⟨trivial, trivial, trivial, (scl_cl_str _ _), trivial⟩ ?_
      refine Rh 2 67 [(2, iA x2), (3, .ptr 0 0), (7, .ptr 1 0), (8, iA (w64 (1 + v5.1))), (26, .ro .unk ([v6.1]).length (TValue.cl ([v6.1]))), (27, .ptr 1 0), (28, iA (w64 (1 + v5.1)))] ?_
      obtain ⟨v7, hv7, H⟩ := bind_some H
      refine AOps_call1 (d := (some 29)) (al := [.ptr 0 0, iA (w64 (1 + v5.1))]) ([.ptr 1 0, iA (w64 (1 + v5.1))]) (r := .agg (TServe.cs v7.1)) (j := 1) (b' := .cells 101 (TCodes.cs v7.2)) (by kernel_rfl) rfl (s_draw_Codes_Serve hG hv7) (⟨(scl_cl_u8 _ _), trivial, trivial⟩) (⟨(scl_cl_u8 _ _), trivial, trivial⟩) ⟨Nat.zero_lt_one, trivial, trivial⟩ (sc_TServe_cs _ _) rfl (h' := [.cells 101 (TCodes.cs v7.2), .cells 56 (TServe.cs x0)]) rfl ?_
      refine R 3 67 [(2, iA x2), (3, .ptr 0 0), (7, .ptr 1 0), (8, iA (w64 (1 + v5.1))), (9, .ptr 2 0)] [.cells 65 [sA ByteArray.empty, iA 0, .ro .unk ([v6.1]).length (TValue.cl ([v6.1])), bA false, iA 0, .ro .full 0 [], .ro .full 0 [], .ro .full 0 [], iA v7.1.gVariation, sA v7.1.gKind, sA v7.1.gBy, sA v7.1.gSalt, .ro .unk v7.1.gSplit.length (TRange.cl v7.1.gSplit)], .cells 101 (TCodes.cs v7.2), .cells 56 (TServe.cs x0)] (AOps_done (AWP_reg (Rh 2 67 [(2, iA x2), (3, .ptr 0 0), (8, iA (w64 (1 + v5.1))), (9, .ptr 2 0), (31, .ptr 1 0), (32, .agg [sA ByteArray.empty, iA 0, .ro .unk ([v6.1]).length (TValue.cl ([v6.1])), bA false, iA 0, .ro .full 0 [], .ro .full 0 [], .ro .full 0 [], iA v7.1.gVariation, sA v7.1.gKind, sA v7.1.gBy, sA v7.1.gSalt, .ro .unk v7.1.gSplit.length (TRange.cl v7.1.gSplit)])] ?_)))
      obtain ⟨v8, hv8, H⟩ := bind_some H
      refine AOps_call1 (d := (some 33)) (al := [.ptr 0 0, .agg [sA ByteArray.empty, iA 0, .ro .unk ([v6.1]).length (TValue.cl ([v6.1])), bA false, iA 0, .ro .full 0 [], .ro .full 0 [], .ro .full 0 [], iA v7.1.gVariation, sA v7.1.gKind, sA v7.1.gBy, sA v7.1.gSalt, .ro .unk v7.1.gSplit.length (TRange.cl v7.1.gSplit)]]) ([.ptr 1 0, .agg [sA ByteArray.empty, iA 0, .ro .unk ([v6.1]).length (TValue.cl ([v6.1])), bA false, iA 0, .ro .full 0 [], .ro .full 0 [], .ro .full 0 [], iA v7.1.gVariation, sA v7.1.gKind, sA v7.1.gBy, sA v7.1.gSalt, .ro .unk v7.1.gSplit.length (TRange.cl v7.1.gSplit)]]) (r := .agg (TFlag.cs v8.1)) (j := 1) (b' := .cells 101 (TCodes.cs v8.2)) (by kernel_rfl) rfl (Sp.le (leL_cons (AV.le_refl _) (leL_cons (AV.le_agg (leL_cons (AV.le_refl _) (leL_cons (AV.le_refl _) (leL_cons (AV.le_refl _) (leL_cons (AV.le_refl _) (leL_cons (AV.le_refl _) (leL_cons (AV.le_ro _ _ _) (leL_cons (AV.le_ro _ _ _) (leL_cons (AV.le_ro _ _ _) (leL_refl _))))))))) rfl) (leL_refl _))) (s_draw_Codes_Flag hG hv8)) (⟨(scl_cl_u8 _ _), trivial, trivial⟩) (⟨(scl_cl_u8 _ _), trivial, trivial⟩) ⟨Nat.zero_lt_one, ⟨trivial, trivial, (scl_TValue_cl _ _), trivial, trivial, trivial, trivial, trivial, trivial, trivial, trivial, trivial, (scl_TRange_cl _ _), trivial⟩, trivial⟩ (sc_TFlag_cs _ _) rfl (h' := [.cells 65 [sA ByteArray.empty, iA 0, .ro .unk ([v6.1]).length (TValue.cl ([v6.1])), bA false, iA 0, .ro .full 0 [], .ro .full 0 [], .ro .full 0 [], iA v7.1.gVariation, sA v7.1.gKind, sA v7.1.gBy, sA v7.1.gSalt, .ro .unk v7.1.gSplit.length (TRange.cl v7.1.gSplit)], .cells 101 (TCodes.cs v8.2), .cells 56 (TServe.cs x0)]) rfl ?_
      refine R 2 67 [(2, iA x2), (3, .ptr 0 0), (8, iA (w64 (1 + v5.1))), (9, .ptr 2 0), (10, .ptr 3 0)] [.cells 65 (TFlag.cs v8.1), .cells 65 [sA ByteArray.empty, iA 0, .ro .unk ([v6.1]).length (TValue.cl ([v6.1])), bA false, iA 0, .ro .full 0 [], .ro .full 0 [], .ro .full 0 [], iA v7.1.gVariation, sA v7.1.gKind, sA v7.1.gBy, sA v7.1.gSalt, .ro .unk v7.1.gSplit.length (TRange.cl v7.1.gSplit)], .cells 101 (TCodes.cs v8.2), .cells 56 (TServe.cs x0)] (AOps_done (AWP_seq (AWP_reg (Rh 5 67 [(2, iA x2), (8, iA (w64 (1 + v5.1))), (9, .ptr 2 0), (34, .agg (TServe.cs x0)), (36, .agg (TServe.cs v7.1)), (38, .agg (TServe.cs v8.1.gDefault))] (AOps_bsl (d := (some 39)) (m := 3) (cs := [iA x0.gVariation, sA x0.gKind, sA x0.gBy, sA x0.gSalt, .ro .unk x0.gSplit.length (TRange.cl x0.gSplit), iA v7.1.gVariation, sA v7.1.gKind, sA v7.1.gBy, sA v7.1.gSalt, .ro .unk v7.1.gSplit.length (TRange.cl v7.1.gSplit), iA v8.1.gDefault.gVariation, sA v8.1.gDefault.gKind, sA v8.1.gDefault.gBy, sA v8.1.gDefault.gSalt, .ro .unk v8.1.gDefault.gSplit.length (TRange.cl v8.1.gDefault.gSplit)]) (by kernel_rfl) ⟨trivial, trivial, trivial, trivial, (scl_TRange_cl _ _), trivial, trivial, trivial, trivial, (scl_TRange_cl _ _), trivial, trivial, trivial, trivial, (scl_TRange_cl _ _), trivial⟩ ?_)))))
      refine Rh 2 67 [(2, iA x2), (8, iA (w64 (1 + v5.1))), (9, .ptr 2 0), (39, .ro .unk ([x0, v7.1, v8.1.gDefault]).length (TServe.cl ([x0, v7.1, v8.1.gDefault]))), (40, iA (lI ([x0, v7.1, v8.1.gDefault]))), (41, iA 0)] (AOps_done (AWP_block ?_))
      refine AWP_loopN (α := Int) (fun v24 => fr 67 [(2, iA x2), (8, iA (w64 (1 + v5.1))), (9, .ptr 2 0), (39, .ro .unk ([x0, v7.1, v8.1.gDefault]).length (TServe.cl ([x0, v7.1, v8.1.gDefault]))), (40, iA (lI ([x0, v7.1, v8.1.gDefault]))), (41, iA v24)]) (fun v24 => [.cells 65 (TFlag.cs v8.1), .cells 65 [sA ByteArray.empty, iA 0, .ro .unk ([v6.1]).length (TValue.cl ([v6.1])), bA false, iA 0, .ro .full 0 [], .ro .full 0 [], .ro .full 0 [], iA v7.1.gVariation, sA v7.1.gKind, sA v7.1.gBy, sA v7.1.gSalt, .ro .unk v7.1.gSplit.length (TRange.cl v7.1.gSplit)], .cells 101 (TCodes.cs v8.2), .cells 56 (TServe.cs x0)]) (fun k_ v24 => k_ ≤ n ∧ p_law6_ShapeServes_L1 k_ x0 x2 v5 v7 v8 v24 = some r) (fun n v24 H => ?_) (k := n) 0 ⟨Nat.le_refl _, H⟩ (Norm_fd [2, 8, 9, 39, 40, 41] 0 (by kernel_rfl) rfl rfl ⟨(sc_TFlag_cs _ _), ⟨trivial, trivial, (scl_TValue_cl _ _), trivial, trivial, trivial, trivial, trivial, trivial, trivial, trivial, trivial, (scl_TRange_cl _ _), trivial⟩, ⟨(scl_cl_u8 _ _), trivial, trivial⟩, (sc_TServe_cs _ _), trivial⟩ (by refine scL_fr ?_; exact ⟨trivial, trivial, (sc_ptr rfl), (scl_TServe_cl _ _), trivial, trivial, trivial⟩))
      show AWP _ _ _ _ _ (fr 67 [(2, iA x2), (8, iA (w64 (1 + v5.1))), (9, .ptr 2 0), (39, .ro .unk ([x0, v7.1, v8.1.gDefault]).length (TServe.cl ([x0, v7.1, v8.1.gDefault]))), (40, iA (lI ([x0, v7.1, v8.1.gDefault]))), (41, iA v24)]) [.cells 65 (TFlag.cs v8.1), .cells 65 [sA ByteArray.empty, iA 0, .ro .unk ([v6.1]).length (TValue.cl ([v6.1])), bA false, iA 0, .ro .full 0 [], .ro .full 0 [], .ro .full 0 [], iA v7.1.gVariation, sA v7.1.gKind, sA v7.1.gBy, sA v7.1.gSalt, .ro .unk v7.1.gSplit.length (TRange.cl v7.1.gSplit)], .cells 101 (TCodes.cs v8.2), .cells 56 (TServe.cs x0)]
      obtain ⟨hb_, H⟩ := H
      replace H : p_law6_ShapeServes_L1 n x0 x2 v5 v7 v8 v24 = some r := H
      cases n with
      | zero => exact not_none (by simpa only [p_law6_ShapeServes_L1] using H)
      | succ n =>
        unfold p_law6_ShapeServes_L1 at H
        refine AWP_reg (Rh 1 67 [(2, iA x2), (8, iA (w64 (1 + v5.1))), (9, .ptr 2 0), (39, .ro .unk ([x0, v7.1, v8.1.gDefault]).length (TServe.cl ([x0, v7.1, v8.1.gDefault]))), (40, iA (lI ([x0, v7.1, v8.1.gDefault]))), (41, iA v24), (42, bA (decide (v24 < (lI ([x0, v7.1, v8.1.gDefault])))))] (AOps_done (AWP_seq (CD H (fun hb25 H => ?_) (fun hb25 H => ?_)))))
        · refine AWP_skip ?_
          show AWP _ _ _ _ _ _ _
          refine AWP_seq (AWP_block ?_)
          refine AWP_reg ?_
          obtain ⟨v26, hv26, H⟩ := bind_some H
          refine AOps_index (d := (some 43)) (sz := 5) (c := TServe.cs) (by kernel_rfl) rfl (eq_TServe_cl _) (fun _ => rfl) (by decide) hv26 (fun tl26 => ?_)
          refine R 3 67 [(2, iA x2), (8, iA (w64 (1 + v5.1))), (9, .ptr 2 0), (12, .ptr 4 0), (39, .ro .unk ([x0, v7.1, v8.1.gDefault]).length (TServe.cl ([x0, v7.1, v8.1.gDefault]))), (40, iA (lI ([x0, v7.1, v8.1.gDefault]))), (41, iA v24)] [.cells 56 (TServe.cs v26), .cells 65 (TFlag.cs v8.1), .cells 65 [sA ByteArray.empty, iA 0, .ro .unk ([v6.1]).length (TValue.cl ([v6.1])), bA false, iA 0, .ro .full 0 [], .ro .full 0 [], .ro .full 0 [], iA v7.1.gVariation, sA v7.1.gKind, sA v7.1.gBy, sA v7.1.gSalt, .ro .unk v7.1.gSplit.length (TRange.cl v7.1.gSplit)], .cells 101 (TCodes.cs v8.2), .cells 56 (TServe.cs x0)] (AOps_done ?_)
          obtain ⟨v27, hv27, H⟩ := bind_some H
          obtain ⟨v28, hv28, H⟩ := bind_some H
          obtain ⟨v29, hv29, H⟩ := bind_some H
          obtain ⟨v30, hv30, H⟩ := bind_some H
          refine AWP_regD1 [0, 1, 3, 4, 2, 5, 6, 7, 8, 9, 11, 12, 10, 13, 14, 15] (N := 67) (f := [(2, iA x2), (8, iA (w64 (1 + v5.1))), (9, .ptr 2 0), (12, .ptr 4 0), (39, .ro .unk ([x0, v7.1, v8.1.gDefault]).length (TServe.cl ([x0, v7.1, v8.1.gDefault]))), (40, iA (lI ([x0, v7.1, v8.1.gDefault]))), (41, iA v24)]) (leL_of [2, 8, 9, 12, 39, 40, 41] (by kernel_rfl)) mixed (by kernel_rfl) (by kernel_rfl) (st' := fr 67 [(2, iA x2), (8, iA (w64 (1 + v5.1))), (9, .ptr 2 0), (39, .ro .unk ([x0, v7.1, v8.1.gDefault]).length (TServe.cl ([x0, v7.1, v8.1.gDefault]))), (40, iA (lI ([x0, v7.1, v8.1.gDefault]))), (41, iA v24), (60, bA ((v27 != v28) || (v29 != v30)))]) (h' := [.cells 56 (TServe.cs v26), .cells 65 (TFlag.cs v8.1), .cells 65 [sA ByteArray.empty, iA 0, .ro .unk ([v6.1]).length (TValue.cl ([v6.1])), bA false, iA 0, .ro .full 0 [], .ro .full 0 [], .ro .full 0 [], iA v7.1.gVariation, sA v7.1.gKind, sA v7.1.gBy, sA v7.1.gSalt, .ro .unk v7.1.gSplit.length (TRange.cl v7.1.gSplit)], .cells 101 (TCodes.cs v8.2), .cells 56 (TServe.cs x0)]) ?_ ?_
          rotate_left
          · refine RD 4 67 [(3, 4), (0, 4)] [(2, iA x2), (8, iA (w64 (1 + v5.1))), (9, .ptr 2 0), (12, .ptr 4 0), (39, .ro .unk ([x0, v7.1, v8.1.gDefault]).length (TServe.cl ([x0, v7.1, v8.1.gDefault]))), (40, iA (lI ([x0, v7.1, v8.1.gDefault]))), (41, iA v24), (45, .agg (TServe.cs v26)), (46, iA x2), (48, .agg (TServe.cs v26)), (49, iA x2)] (AD_callp (d := (some 47)) (al := [.agg (TServe.cs v26), iA x2]) (r := iA v27) (by kernel_rfl) (s_shape_Serve hG.toGlobT hv27) ⟨(sc_TServe_cs _ _), trivial, trivial⟩ trivial ?_)
            refine AD_callp (d := (some 50)) (al := [.agg (TServe.cs v26), iA x2]) (r := iA v28) (by kernel_rfl) (s_ref6_Serve hG.toGlobT hv28) ⟨(sc_TServe_cs _ _), trivial, trivial⟩ trivial ?_
            refine RD 2 67 [(3, 4), (0, 4)] [(2, iA x2), (8, iA (w64 (1 + v5.1))), (9, .ptr 2 0), (12, .ptr 4 0), (39, .ro .unk ([x0, v7.1, v8.1.gDefault]).length (TServe.cl ([x0, v7.1, v8.1.gDefault]))), (40, iA (lI ([x0, v7.1, v8.1.gDefault]))), (41, iA v24), (45, .agg (TServe.cs v26)), (46, iA x2), (47, iA v27), (48, .agg (TServe.cs v26)), (49, iA x2), (50, iA v28), (51, bA (v27 != v28)), (52, bA (v27 != v28))] ?_
            cases c1 : (v27 != v28 : Bool) with
            | true =>
              refine RD 4 67 [(3, 4), (0, 4)] [(2, iA x2), (8, iA (w64 (1 + v5.1))), (9, .ptr 2 0), (12, .ptr 4 0), (39, .ro .unk ([x0, v7.1, v8.1.gDefault]).length (TServe.cl ([x0, v7.1, v8.1.gDefault]))), (40, iA (lI ([x0, v7.1, v8.1.gDefault]))), (41, iA v24), (45, .agg (TServe.cs v26)), (46, iA x2), (47, iA v27), (48, .agg (TServe.cs v26)), (49, iA x2), (50, iA v28), (51, bA true), (52, bA true), (53, undefA), (54, undefA), (56, undefA), (57, undefA)] (AD_offB (d := some 55) (by kernel_rfl) ?_)
              refine AD_offB (d := some 58) (by kernel_rfl) ?_
              refine RD 2 67 [(3, 4), (0, 4)] [(2, iA x2), (8, iA (w64 (1 + v5.1))), (9, .ptr 2 0), (12, .ptr 4 0), (39, .ro .unk ([x0, v7.1, v8.1.gDefault]).length (TServe.cl ([x0, v7.1, v8.1.gDefault]))), (40, iA (lI ([x0, v7.1, v8.1.gDefault]))), (41, iA v24), (45, .agg (TServe.cs v26)), (46, iA x2), (47, iA v27), (48, .agg (TServe.cs v26)), (49, iA x2), (50, iA v28), (51, bA true), (52, bA true), (53, undefA), (54, undefA), (55, undefA), (56, undefA), (57, undefA), (58, undefA), (59, undefA), (60, bA (true || (v29 != v30)))] ?_
              exact AD_here [2, 8, 9, 39, 40, 41, 60] (by kernel_rfl) rfl
            | false =>
              refine RD 4 67 [(11, 4), (8, 4), (3, 4), (0, 4)] [(2, iA x2), (8, iA (w64 (1 + v5.1))), (9, .ptr 2 0), (12, .ptr 4 0), (39, .ro .unk ([x0, v7.1, v8.1.gDefault]).length (TServe.cl ([x0, v7.1, v8.1.gDefault]))), (40, iA (lI ([x0, v7.1, v8.1.gDefault]))), (41, iA v24), (45, .agg (TServe.cs v26)), (46, iA x2), (47, iA v27), (48, .agg (TServe.cs v26)), (49, iA x2), (50, iA v28), (51, bA false), (52, bA false), (53, .agg (TServe.cs v26)), (54, iA (w64 (1 + v5.1))), (56, .agg (TServe.cs v26)), (57, iA (w64 (1 + v5.1)))] ?_
              have hv29_ := cond_t hv29 (by simp only [c1] <;> rfl)
              refine AD_callp (d := (some 55)) (al := [.agg (TServe.cs v26), iA (w64 (1 + v5.1))]) (r := iA v29) (by kernel_rfl) (s_shape_Serve hG.toGlobT hv29_) ⟨(sc_TServe_cs _ _), trivial, trivial⟩ trivial ?_
              have hv30_ := cond_t hv30 (by simp only [c1] <;> rfl)
              refine AD_callp (d := (some 58)) (al := [.agg (TServe.cs v26), iA (w64 (1 + v5.1))]) (r := iA v30) (by kernel_rfl) (s_ref6_Serve hG.toGlobT hv30_) ⟨(sc_TServe_cs _ _), trivial, trivial⟩ trivial ?_
              refine RD 2 67 [(11, 4), (8, 4), (3, 4), (0, 4)] [(2, iA x2), (8, iA (w64 (1 + v5.1))), (9, .ptr 2 0), (12, .ptr 4 0), (39, .ro .unk ([x0, v7.1, v8.1.gDefault]).length (TServe.cl ([x0, v7.1, v8.1.gDefault]))), (40, iA (lI ([x0, v7.1, v8.1.gDefault]))), (41, iA v24), (45, .agg (TServe.cs v26)), (46, iA x2), (47, iA v27), (48, .agg (TServe.cs v26)), (49, iA x2), (50, iA v28), (51, bA false), (52, bA false), (53, .agg (TServe.cs v26)), (54, iA (w64 (1 + v5.1))), (55, iA v29), (56, .agg (TServe.cs v26)), (57, iA (w64 (1 + v5.1))), (58, iA v30), (59, bA (v29 != v30)), (60, bA (false || (v29 != v30)))] ?_
              exact AD_here [2, 8, 9, 39, 40, 41, 60] (by kernel_rfl) rfl
          refine CD H (fun hb31 H => ?_) (fun hb31 H => ?_)
          · refine AWP_reg (Rh 1 67 [(6, bA false)] (AOps_done ?_))
            exact AWP_ret (FR H)
          · refine AWP_skip ?_
            show AWP _ _ _ _ _ _ _
            refine AWP_region ?_
            refine Rh 2 67 [(2, iA x2), (8, iA (w64 (1 + v5.1))), (9, .ptr 2 0), (39, .ro .unk ([x0, v7.1, v8.1.gDefault]).length (TServe.cl ([x0, v7.1, v8.1.gDefault]))), (40, iA (lI ([x0, v7.1, v8.1.gDefault]))), (41, iA (w64 (v24 + 1)))] (AOps_done ?_)
            exact Exists.intro (w64 (v24 + 1)) (Exists.intro n ⟨by omega, ⟨by omega, H⟩, Norm_fd [2, 8, 9, 39, 40, 41] 1 (by kernel_rfl) rfl rfl ⟨(sc_TFlag_cs _ _), ⟨trivial, trivial, (scl_TValue_cl _ _), trivial, trivial, trivial, trivial, trivial, trivial, trivial, trivial, trivial, (scl_TRange_cl _ _), trivial⟩, ⟨(scl_cl_u8 _ _), trivial, trivial⟩, (sc_TServe_cs _ _), trivial⟩ (by refine scL_fr ?_; exact ⟨trivial, trivial, (sc_ptr rfl), (scl_TServe_cl _ _), trivial, trivial, trivial⟩)⟩)
        · refine AWP_exit ?_
          show AWP _ _ _ _ _ _ _
          refine AWP_reg (Rh 3 67 [(63, .agg (TServe.cs v7.1)), (64, iA (w64 (1 + v5.1)))] ?_)
          obtain ⟨v32, hv32, H⟩ := bind_some H
          refine AOps_callp (d := (some 65)) (al := [.agg (TServe.cs v7.1), iA (w64 (1 + v5.1))]) (r := iA v32) (by kernel_rfl) (s_shape_Serve hG.toGlobT hv32) ⟨(sc_TServe_cs _ _), trivial, trivial⟩ trivial ?_
          refine Rh 2 67 [(6, bA (v32 == 0))] (AOps_done ?_)
          exact AWP_ret (FR H)
end Go.Proofs.YtjhbobacbaikoaaGreatDoor
/- The law on Serves: it gives true. -/
namespace Go.Proofs.YtjhbobacbaikoaaGreatDoor
open Go
set_option linter.unusedVariables false
set_option linter.unusedSimpArgs false
set_option maxRecDepth 100000
theorem words_key (n : Nat) : ∀ w ∈ dkinds ++ dnames, p_text_Key (n + 60) w = some true := by
  have h : ((dkinds ++ dnames).all fun w => p_text_Key (n + 60) w == some true) = true := by kernel_rfl
  intro w hw
  exact beq_iff_eq.1 (List.all_eq_true.1 h w hw)
theorem texts_valid (n : Nat) : ∀ w ∈ gl_texts, p_text_Valid (n + 60) w = some true := by
  have h : (gl_texts.all fun w => p_text_Valid (n + 60) w == some true) = true := by kernel_rfl
  intro w hw
  exact beq_iff_eq.1 (List.all_eq_true.1 h w hw)
theorem serveG_ok {k : Int} {x : TServe} (h : ServeG k x) : Al fun n => p_shape_Serve n x k = some 0 := by
  by_cases c : x.gVariation = 0
  · obtain ⟨h1, h2, h3, ⟨w, hw⟩, h4⟩ := h.many c
    have a1 : Al fun n => p_text_Key n x.gKind = some true := Al.addk 60 fun n => words_key n _ (List.mem_append_left _ h1)
    have a2 : Al fun n => p_text_Key n x.gBy = some true := Al.addk 60 fun n => words_key n _ (List.mem_append_right _ h2)
    have a3 : Al fun n => p_text_Valid n x.gSalt = some true := Al.addk 60 fun n => texts_valid n _ h3
    have a4 := split_ok (by omega) hw
    have a5 := first_al [0, 0, 0] (by simp)
    refine (a1.and (a2.and (a3.and (a4.and a5)))).mono fun n ⟨b1, b2, b3, b4, b5⟩ => ?_
    unfold p_shape_Serve
    have e : (x.gVariation != 0) = false := by rw [c]; rfl
    simp [e, b1, b2, b3, b4, when_eq, b5]
    rfl
  · obtain ⟨g1, g2, h3, h4, h5, h6⟩ := h.one c
    have a5 := first_al [0, 0] (by simp)
    refine a5.mono fun n b5 => ?_
    unfold p_shape_Serve
    have e : (x.gVariation != 0) = true := by rw [bne_iff_ne]; exact c
    have e1 : (decide (x.gVariation < 1) || decide (x.gVariation > k)) = false := by simp; omega
    have e2 : lI x.gSplit > 0 ↔ False := by rw [h6]; simp [lI]
    have e3 : seq' ByteArray.empty ByteArray.empty = true := by kernel_rfl
    simp [e, e1, e2, e3, h3, h4, h5, when_eq, b5]
    rfl
theorem serves_law (v : TServe) (codes : List Int) (m : Int) (hv : v.sm) (hc : ∀ b ∈ codes, 0 ≤ b ∧ b ≤ 255) (hl : codes.length < 4294967281) : Al fun n => p_law6_ShapeServes n v codes m = some true := by
  have key : Gv (fun n => p_law6_ShapeServes n v codes m) fun r => r = true := by
    unfold p_law6_ShapeServes
    refine Gv.bind (Gv.al (Q := fun r => r = true) awake_al rfl) ?_
    rintro r rfl
    simp only [Bool.not_true, cond_false]
    refine Gv.cond (fun _ => Gv.pure rfl) fun _ => ?_
    refine Gv.bind (new_gv codes hc hl 60 (by decide) (by decide)) fun c hc => ?_
    refine Gv.bind (next_gv hc (k := 6) (by decide) (by decide)) fun v5 h5 => ?_
    have hk : w64 (1 + v5.1) = 1 + v5.1 := w64_of (by omega) (by omega)
    rw [hk]
    refine Gv.bind (any_gv h5.2.2) fun v6 h6 => ?_
    refine Gv.bind (serve_gv (k := 1 + v5.1) (by omega) (by omega) h6.2) fun v7 h7 => ?_
    have hf : TFlag.bd 20 { gKey := ByteArray.empty, gKind := 0, gVariations := [v6.1], gOn := false, gOff := 0, gPrerequisites := [], gTargets := [], gRules := [], gDefault := v7.1 } :=
      ⟨(by show 0 ≤ 100; decide), (by show 1 ≤ 20; decide), (fun w hw => by
        obtain rfl : w = v6.1 := by simpa using hw
        exact good_bd _ (good_of h6.1)), (by show 0 ≤ 20; decide), (fun w hw => by cases hw), (by show 0 ≤ 20; decide), (fun w hw => by cases hw), (by show 0 ≤ 20; decide), (fun w hw => by cases hw), h7.1.bd⟩
    refine Gv.bind (flag_gv (by decide) (by decide) hf h7.2) fun v8 h8 => ?_
    have hok := serveG_ok h7.1
    have bdsm : ∀ {B : Nat} {y : TServe}, y.bd B → y.sm := fun h => ⟨by have := h.kind; omega, by have := h.byk; omega⟩
    have hsm : ∀ y ∈ [v, v7.1, v8.1.gDefault], y.sm := by
      intro y hy
      have : y = v ∨ y = v7.1 ∨ y = v8.1.gDefault := by simpa using hy
      rcases this with rfl | rfl | rfl
      · exact hv
      · exact bdsm h7.1.bd
      · exact bdsm h8.1.dflt
    have loop : Al fun n => p_law6_ShapeServes_L1 n v m v5 v7 v8 ((0 : Nat) : Int) = some true := by
      refine loop1 (fun n i => p_law6_ShapeServes_L1 n v m v5 v7 v8 i) 3 (fun _ => true) (fun i hi => ?_) ?_ 0 (by omega)
      · have hil : i < [v, v7.1, v8.1.gDefault].length := hi
        obtain ⟨a, ha⟩ := serve_bi [v, v7.1, v8.1.gDefault][i] m (hsm _ (List.getElem_mem hil))
        obtain ⟨b, hb⟩ := serve_bi [v, v7.1, v8.1.gDefault][i] (1 + v5.1) (hsm _ (List.getElem_mem hil))
        refine (ha.and hb).mono fun n ⟨⟨a1, a2⟩, a3, a4⟩ => .inr ⟨?_, rfl⟩
        rw [p_law6_ShapeServes_L1, lI_in hil]
        simp only [cond_true, rdO_nat hil, Option.bind_some, a1, a2, hk, a3, a4, bne_self_eq_false, Bool.not_false, Bool.or_self, cond_false, w64_add (show i + 1 < 9223372036854775808 by omega)]
      · refine hok.mono fun n a => ?_
        have h3 : decide (((3 : Nat) : Int) < lI [v, v7.1, v8.1.gDefault]) = false := rfl
        rw [p_law6_ShapeServes_L1, h3, hk]
        simp only [cond_false, a, Option.bind_some]
        rfl
    exact Gv.al loop rfl
  obtain ⟨r, rfl, h⟩ := key
  exact h
end Go.Proofs.YtjhbobacbaikoaaGreatDoor
/- Flagstone's law ShapeServes holds for every input of bulk at most 1048576: the call returns true, and its arguments read behind it as before. The condition: the listed package variables hold what their initialisers lay. -/
namespace Go.Proofs.YtjhbobacbaikoaaGreatDoor
open Go Go.ChangeShapes Go.WideShapes Go.RowKit
set_option linter.unusedVariables false
set_option maxRecDepth 100000
theorem ownNone : ownKnob Tryz.prog.godebug = none := by kernel_rfl
theorem laidOutT : laidOutB Tryz.prog = true := by kernel_rfl
theorem shapeServes_contract (H : Type) (enc : TypeId × Value → H) (W : World) (base : Nat) (args : Array Value) (ds gs : List (DataW H)) (before : List MemPlace)
    (hval : ∀ (j : Nat) t v, Tryz.f5.params[j]? = some t → args[j]? = some v → Value.okWide Tryz.prog W .any base t v)
    (hW : DataW.Whole enc Tryz.prog Tryz.f5.params.toList Rows.shapeServesSpec.vars false W args.toList ds gs before) (hfit : ∀ d ∈ ds, fitU d) (hL : laidMetH Tryz.prog Rows.shapeServesUptoRow.laid W) :
    Calls Tryz.prog 5 args W fun e W' => ∃ v, e = .returned v ∧ Rows.shapeServesSpec.post enc Tryz.prog Tryz.f5 false true false false W args v W' := by
  have hW' := hW
  obtain ⟨p, q, hA, hV, rfl, hfz, hnd⟩ := hW
  obtain ⟨rfl, rfl⟩ := trodVars_none hV
  have hA0 : DataW.TrodAll enc Tryz.prog W 0 (fun _ => true) true [56, 26, 3] args.toList ds p := hA
  obtain ⟨v0, v1, v2, d0, d1, d2, p0, p1, p2, rfl, rfl, hp, ⟨n0, h0⟩, ⟨n1, h1⟩, ⟨n2, h2⟩⟩ := trodAll_three hA0
  obtain ⟨x0, r0, o0⟩ := (rd_TServe fitU_ok _) _ _ h0 (hfit _ (by simp))
  obtain ⟨x1, r1, o1⟩ := (Rd_slice (sz := 1) eq_cl_u8 fitU_ok Tryz.underlying26 (by kernel_rfl) (by decide) (fun _ => rfl) (fun m _ => (Rd_u8 Tryz.underlying5))) _ _ h1 (hfit _ (by simp))
  obtain ⟨x2, r2, o2⟩ := (Rd_intR Tryz.underlying3) _ _ h2 (hfit _ (by simp))
  have hB : 1048576 < 4294967281 := by decide
  obtain ⟨n, law⟩ := Al.get (serves_law x0 x1 x2 (TServe.ok_sm hB o0) o1.2 (by have := o1.1; omega))
  obtain ⟨E, hE, hG⟩ := laid_envD (i0 := 5) (i1 := 6) (i2 := 4) (i3 := 10) (i4 := 11) (i5 := 3) (i8 := 8) (i9 := 7) (i10 := 2) hL (by kernel_rfl) rfl rfl rfl rfl rfl rfl rfl rfl rfl
  have a0 := agg_rel Tryz.underlying56 (hval 0 56 v0 rfl rfl) r0 (by rfl)
  have a1 := slice_rel Tryz.underlying26 (hval 1 26 v1 rfl rfl) r1
  have a2 := int_rel Tryz.underlying3 (hval 2 3 v2 rfl rfl) r2
  refine (s_law6_ShapeServes hG law _ W #[v0, v1, v2] hE (ok0 W) ⟨_, _, rfl, a0, ⟨_, _, rfl, a1, ⟨_, _, rfl, a2, rfl⟩⟩⟩).mono fun e W' h => ?_
  obtain ⟨r, h', μ', u, rfl, ⟨rfl, rfl⟩, _, hu, tt⟩ := h
  have hu : u = .bool true := hu
  subst hu
  have bel := to_below tt
  simp only [List.append_nil] at hW'
  have hlt : ∀ x ∈ p, x.block < W.heap.size := fun x hx => by simpa using hW'.lt x hx
  exact ⟨_, rfl, ⟨_, _, _, [], p, [], hW', trodAll_mk1 (shut_bool Tryz.underlying4 _), trodAll_stays laidOutT bel (by kernel_rfl) hA hlt (fun x hx => decide_eq_true (hlt x hx)), rfl, bel.frame _, fun h => by cases h⟩⟩
end Go.Proofs.YtjhbobacbaikoaaGreatDoor
