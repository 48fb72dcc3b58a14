/- What can be read as a type is such a value: each type of the arguments. -/
import Derived.Test.YtjhbobacbaikoaaGreatDoorM2
import Derived.Scope
import Derived.WideLaws
import Derived.KernelRfl
namespace Go.Proofs.YtjhbobacbaikoaaGreatDoor
open Go
set_option linter.unusedVariables false
set_option maxRecDepth 100000
variable {H : Type} {enc : TypeId × Value → H} {W : World} {B : Nat} {Fit : DataW H → Prop}
def TValue.ok (B : Nat) (x : TValue) : Prop := x.gText.size ≤ B ∧ (x.gList.length ≤ B ∧ ∀ y ∈ x.gList, y.size ≤ B) ∧ True
theorem rd_TValue (fo : FitOk B Fit) (n : Nat) : Rd enc Tryz.prog W Fit n 58 TValue.cs (TValue.ok B) := by
  intro vs x h hf
  obtain ⟨m, rfl, hl, H⟩ := Rd_fields fo Tryz.underlying58 h hf
  have hl : vs.length = 4 := hl.trans (by kernel_rfl)
  obtain ⟨y0, a0, b0⟩ := H 0 0 3 1 _ _ _ rfl (by kernel_rfl) (Rd_int Tryz.underlying3)
  obtain ⟨y1, a1, b1⟩ := H 1 1 3 1 _ _ _ rfl (by kernel_rfl) (Rd_int Tryz.underlying3)
  obtain ⟨y2, a2, b2⟩ := H 2 2 9 1 _ _ _ rfl (by kernel_rfl) (Rd_str fo Tryz.underlying9)
  obtain ⟨y3, a3, b3⟩ := H 3 3 32 1 _ _ _ rfl (by kernel_rfl) (Rd_slice (sz := 1) eq_cl_str fo Tryz.underlying32 (by kernel_rfl) (by decide) (fun _ => rfl) (fun m _ => (Rd_str fo Tryz.underlying9)))
  exact ⟨⟨y0, y1, y2, y3⟩, rel_piece a0 (rel_piece a1 (rel_piece a2 (rel_piece a3 (rel_end hl)))), b2, b3, trivial⟩
def TPrerequisite.ok (B : Nat) (x : TPrerequisite) : Prop := x.gFlag.size ≤ B ∧ True
theorem rd_TPrerequisite (fo : FitOk B Fit) (n : Nat) : Rd enc Tryz.prog W Fit n 114 TPrerequisite.cs (TPrerequisite.ok B) := by
  intro vs x h hf
  obtain ⟨m, rfl, hl, H⟩ := Rd_fields fo Tryz.underlying114 h hf
  have hl : vs.length = 2 := hl.trans (by kernel_rfl)
  obtain ⟨y0, a0, b0⟩ := H 0 0 9 1 _ _ _ rfl (by kernel_rfl) (Rd_str fo Tryz.underlying9)
  obtain ⟨y1, a1, b1⟩ := H 1 1 3 1 _ _ _ rfl (by kernel_rfl) (Rd_int Tryz.underlying3)
  exact ⟨⟨y0, y1⟩, rel_piece a0 (rel_piece a1 (rel_end hl)), b0, trivial⟩
def TTarget.ok (B : Nat) (x : TTarget) : Prop := x.gKind.size ≤ B ∧ (x.gKeys.length ≤ B ∧ ∀ y ∈ x.gKeys, y.size ≤ B) ∧ True
theorem rd_TTarget (fo : FitOk B Fit) (n : Nat) : Rd enc Tryz.prog W Fit n 117 TTarget.cs (TTarget.ok B) := by
  intro vs x h hf
  obtain ⟨m, rfl, hl, H⟩ := Rd_fields fo Tryz.underlying117 h hf
  have hl : vs.length = 3 := hl.trans (by kernel_rfl)
  obtain ⟨y0, a0, b0⟩ := H 0 0 9 1 _ _ _ rfl (by kernel_rfl) (Rd_str fo Tryz.underlying9)
  obtain ⟨y1, a1, b1⟩ := H 1 1 3 1 _ _ _ rfl (by kernel_rfl) (Rd_int Tryz.underlying3)
  obtain ⟨y2, a2, b2⟩ := H 2 2 32 1 _ _ _ rfl (by kernel_rfl) (Rd_slice (sz := 1) eq_cl_str fo Tryz.underlying32 (by kernel_rfl) (by decide) (fun _ => rfl) (fun m _ => (Rd_str fo Tryz.underlying9)))
  exact ⟨⟨y0, y1, y2⟩, rel_piece a0 (rel_piece a1 (rel_piece a2 (rel_end hl))), b0, b2, trivial⟩
mutual
def TExpr.ok (B : Nat) : TExpr → Prop
  | .mk a0 a1 a2 a3 a4 => a1.size ≤ B ∧ a2.size ≤ B ∧ (a3.length ≤ B ∧ ∀ y ∈ a3, TValue.ok B y) ∧ (a4.length ≤ B ∧ TExpr.okL B a4) ∧ True
def TExpr.okL (B : Nat) : List TExpr → Prop
  | [] => True
  | x :: xs => x.ok B ∧ TExpr.okL B xs
end
theorem TExpr.okL_of {B : Nat} : ∀ {l : List TExpr}, (∀ x ∈ l, x.ok B) → TExpr.okL B l
  | [], _ => by rw [TExpr.okL]; trivial
  | x :: l, h => by rw [TExpr.okL]; exact ⟨h x (by simp), TExpr.okL_of fun y hy => h y (by simp [hy])⟩
theorem TExpr.okL_mem {B : Nat} : ∀ {l : List TExpr}, TExpr.okL B l → ∀ x ∈ l, x.ok B
  | [], _, x, h => by cases h
  | y :: l, hl, x, h => by
    rw [TExpr.okL] at hl
    rcases List.mem_cons.1 h with rfl | h
    · exact hl.1
    · exact TExpr.okL_mem hl.2 x h
theorem rd_TExpr (fo : FitOk B Fit) (n : Nat) : Rd enc Tryz.prog W Fit n 25 TExpr.cs (TExpr.ok B) := by
  refine Nat.strongRecOn n fun n ih => ?_
  intro vs x h hf
  obtain ⟨m, rfl, hl, H⟩ := Rd_fields fo Tryz.underlying25 h hf
  have hl : vs.length = 5 := hl.trans (by kernel_rfl)
  obtain ⟨y0, a0, b0⟩ := H 0 0 3 1 _ _ _ rfl (by kernel_rfl) (Rd_int Tryz.underlying3)
  obtain ⟨y1, a1, b1⟩ := H 1 1 9 1 _ _ _ rfl (by kernel_rfl) (Rd_str fo Tryz.underlying9)
  obtain ⟨y2, a2, b2⟩ := H 2 2 9 1 _ _ _ rfl (by kernel_rfl) (Rd_str fo Tryz.underlying9)
  obtain ⟨y3, a3, b3⟩ := H 3 3 22 1 _ _ _ rfl (by kernel_rfl) (Rd_slice (sz := 4) eq_TValue_cl fo Tryz.underlying22 (by kernel_rfl) (by decide) (fun _ => rfl) (fun m _ => (rd_TValue fo _)))
  obtain ⟨y4, a4, b4⟩ := H 4 4 23 1 _ _ _ rfl (by kernel_rfl) (Rd_slice (sz := 5) eq_TExpr_cl fo Tryz.underlying23 (by kernel_rfl) (by decide) (fun _ => rfl) (fun m hm => ih m (by omega)))
  refine ⟨.mk y0 y1 y2 y3 y4, rel_piece a0 (rel_piece a1 (rel_piece a2 (rel_piece a3 (rel_piece a4 (rel_end hl))))), ?_⟩
  rw [TExpr.ok]
  exact ⟨b1, b2, b3, ⟨b4.1, TExpr.okL_of b4.2⟩, trivial⟩
def TRange.ok (B : Nat) (x : TRange) : Prop := True
theorem rd_TRange (fo : FitOk B Fit) (n : Nat) : Rd enc Tryz.prog W Fit n 52 TRange.cs (TRange.ok B) := by
  intro vs x h hf
  obtain ⟨m, rfl, hl, H⟩ := Rd_fields fo Tryz.underlying52 h hf
  have hl : vs.length = 3 := hl.trans (by kernel_rfl)
  obtain ⟨y0, a0, b0⟩ := H 0 0 3 1 _ _ _ rfl (by kernel_rfl) (Rd_int Tryz.underlying3)
  obtain ⟨y1, a1, b1⟩ := H 1 1 3 1 _ _ _ rfl (by kernel_rfl) (Rd_int Tryz.underlying3)
  obtain ⟨y2, a2, b2⟩ := H 2 2 3 1 _ _ _ rfl (by kernel_rfl) (Rd_int Tryz.underlying3)
  exact ⟨⟨y0, y1, y2⟩, rel_piece a0 (rel_piece a1 (rel_piece a2 (rel_end hl))), trivial⟩
def TServe.ok (B : Nat) (x : TServe) : Prop := x.gKind.size ≤ B ∧ x.gBy.size ≤ B ∧ x.gSalt.size ≤ B ∧ (x.gSplit.length ≤ B ∧ ∀ y ∈ x.gSplit, TRange.ok B y) ∧ True
theorem rd_TServe (fo : FitOk B Fit) (n : Nat) : Rd enc Tryz.prog W Fit n 56 TServe.cs (TServe.ok B) := by
  intro vs x h hf
  obtain ⟨m, rfl, hl, H⟩ := Rd_fields fo Tryz.underlying56 h hf
  have hl : vs.length = 5 := hl.trans (by kernel_rfl)
  obtain ⟨y0, a0, b0⟩ := H 0 0 3 1 _ _ _ rfl (by kernel_rfl) (Rd_int Tryz.underlying3)
  obtain ⟨y1, a1, b1⟩ := H 1 1 9 1 _ _ _ rfl (by kernel_rfl) (Rd_str fo Tryz.underlying9)
  obtain ⟨y2, a2, b2⟩ := H 2 2 9 1 _ _ _ rfl (by kernel_rfl) (Rd_str fo Tryz.underlying9)
  obtain ⟨y3, a3, b3⟩ := H 3 3 9 1 _ _ _ rfl (by kernel_rfl) (Rd_str fo Tryz.underlying9)
  obtain ⟨y4, a4, b4⟩ := H 4 4 37 1 _ _ _ rfl (by kernel_rfl) (Rd_slice (sz := 3) eq_TRange_cl fo Tryz.underlying37 (by kernel_rfl) (by decide) (fun _ => rfl) (fun m _ => (rd_TRange fo _)))
  exact ⟨⟨y0, y1, y2, y3, y4⟩, rel_piece a0 (rel_piece a1 (rel_piece a2 (rel_piece a3 (rel_piece a4 (rel_end hl))))), b1, b2, b3, b4, trivial⟩
def TRule.ok (B : Nat) (x : TRule) : Prop := x.gName.size ≤ B ∧ TExpr.ok B x.gWhen ∧ TServe.ok B x.gServe ∧ True
theorem rd_TRule (fo : FitOk B Fit) (n : Nat) : Rd enc Tryz.prog W Fit n 76 TRule.cs (TRule.ok B) := by
  intro vs x h hf
  obtain ⟨m, rfl, hl, H⟩ := Rd_fields fo Tryz.underlying76 h hf
  have hl : vs.length = 11 := hl.trans (by kernel_rfl)
  obtain ⟨y0, a0, b0⟩ := H 0 0 9 1 _ _ _ rfl (by kernel_rfl) (Rd_str fo Tryz.underlying9)
  obtain ⟨y1, a1, b1⟩ := H 1 1 25 5 _ _ _ rfl (by kernel_rfl) (rd_TExpr fo _)
  obtain ⟨y2, a2, b2⟩ := H 2 6 56 5 _ _ _ rfl (by kernel_rfl) (rd_TServe fo _)
  exact ⟨⟨y0, y1, y2⟩, rel_piece a0 (rel_piece a1 (rel_piece a2 (rel_end hl))), b0, b1, b2, trivial⟩
def TFlag.ok (B : Nat) (x : TFlag) : Prop := x.gKey.size ≤ B ∧ (x.gVariations.length ≤ B ∧ ∀ y ∈ x.gVariations, TValue.ok B y) ∧ (x.gPrerequisites.length ≤ B ∧ ∀ y ∈ x.gPrerequisites, TPrerequisite.ok B y) ∧ (x.gTargets.length ≤ B ∧ ∀ y ∈ x.gTargets, TTarget.ok B y) ∧ (x.gRules.length ≤ B ∧ ∀ y ∈ x.gRules, TRule.ok B y) ∧ TServe.ok B x.gDefault ∧ True
theorem rd_TFlag (fo : FitOk B Fit) (n : Nat) : Rd enc Tryz.prog W Fit n 65 TFlag.cs (TFlag.ok B) := by
  intro vs x h hf
  obtain ⟨m, rfl, hl, H⟩ := Rd_fields fo Tryz.underlying65 h hf
  have hl : vs.length = 13 := hl.trans (by kernel_rfl)
  obtain ⟨y0, a0, b0⟩ := H 0 0 9 1 _ _ _ rfl (by kernel_rfl) (Rd_str fo Tryz.underlying9)
  obtain ⟨y1, a1, b1⟩ := H 1 1 3 1 _ _ _ rfl (by kernel_rfl) (Rd_int Tryz.underlying3)
  obtain ⟨y2, a2, b2⟩ := H 2 2 22 1 _ _ _ rfl (by kernel_rfl) (Rd_slice (sz := 4) eq_TValue_cl fo Tryz.underlying22 (by kernel_rfl) (by decide) (fun _ => rfl) (fun m _ => (rd_TValue fo _)))
  obtain ⟨y3, a3, b3⟩ := H 3 3 4 1 _ _ _ rfl (by kernel_rfl) (Rd_bool Tryz.underlying4)
  obtain ⟨y4, a4, b4⟩ := H 4 4 3 1 _ _ _ rfl (by kernel_rfl) (Rd_int Tryz.underlying3)
  obtain ⟨y5, a5, b5⟩ := H 5 5 61 1 _ _ _ rfl (by kernel_rfl) (Rd_slice (sz := 2) eq_TPrerequisite_cl fo Tryz.underlying61 (by kernel_rfl) (by decide) (fun _ => rfl) (fun m _ => (rd_TPrerequisite fo _)))
  obtain ⟨y6, a6, b6⟩ := H 6 6 62 1 _ _ _ rfl (by kernel_rfl) (Rd_slice (sz := 3) eq_TTarget_cl fo Tryz.underlying62 (by kernel_rfl) (by decide) (fun _ => rfl) (fun m _ => (rd_TTarget fo _)))
  obtain ⟨y7, a7, b7⟩ := H 7 7 63 1 _ _ _ rfl (by kernel_rfl) (Rd_slice (sz := 11) eq_TRule_cl fo Tryz.underlying63 (by kernel_rfl) (by decide) (fun _ => rfl) (fun m _ => (rd_TRule fo _)))
  obtain ⟨y8, a8, b8⟩ := H 8 8 56 5 _ _ _ rfl (by kernel_rfl) (rd_TServe fo _)
  exact ⟨⟨y0, y1, y2, y3, y4, y5, y6, y7, y8⟩, rel_piece a0 (rel_piece a1 (rel_piece a2 (rel_piece a3 (rel_piece a4 (rel_piece a5 (rel_piece a6 (rel_piece a7 (rel_piece a8 (rel_end hl))))))))), b0, b2, b5, b6, b7, b8, trivial⟩
def TSegment.ok (B : Nat) (x : TSegment) : Prop := x.gKey.size ≤ B ∧ x.gKind.size ≤ B ∧ (x.gInclude.length ≤ B ∧ ∀ y ∈ x.gInclude, y.size ≤ B) ∧ (x.gExclude.length ≤ B ∧ ∀ y ∈ x.gExclude, y.size ≤ B) ∧ TExpr.ok B x.gWhen ∧ True
theorem rd_TSegment (fo : FitOk B Fit) (n : Nat) : Rd enc Tryz.prog W Fit n 71 TSegment.cs (TSegment.ok B) := by
  intro vs x h hf
  obtain ⟨m, rfl, hl, H⟩ := Rd_fields fo Tryz.underlying71 h hf
  have hl : vs.length = 9 := hl.trans (by kernel_rfl)
  obtain ⟨y0, a0, b0⟩ := H 0 0 9 1 _ _ _ rfl (by kernel_rfl) (Rd_str fo Tryz.underlying9)
  obtain ⟨y1, a1, b1⟩ := H 1 1 9 1 _ _ _ rfl (by kernel_rfl) (Rd_str fo Tryz.underlying9)
  obtain ⟨y2, a2, b2⟩ := H 2 2 32 1 _ _ _ rfl (by kernel_rfl) (Rd_slice (sz := 1) eq_cl_str fo Tryz.underlying32 (by kernel_rfl) (by decide) (fun _ => rfl) (fun m _ => (Rd_str fo Tryz.underlying9)))
  obtain ⟨y3, a3, b3⟩ := H 3 3 32 1 _ _ _ rfl (by kernel_rfl) (Rd_slice (sz := 1) eq_cl_str fo Tryz.underlying32 (by kernel_rfl) (by decide) (fun _ => rfl) (fun m _ => (Rd_str fo Tryz.underlying9)))
  obtain ⟨y4, a4, b4⟩ := H 4 4 25 5 _ _ _ rfl (by kernel_rfl) (rd_TExpr fo _)
  exact ⟨⟨y0, y1, y2, y3, y4⟩, rel_piece a0 (rel_piece a1 (rel_piece a2 (rel_piece a3 (rel_piece a4 (rel_end hl))))), b0, b1, b2, b3, b4, trivial⟩
def TCool.ok (B : Nat) (x : TCool) : Prop := True
theorem rd_TCool (fo : FitOk B Fit) (n : Nat) : Rd enc Tryz.prog W Fit n 128 TCool.cs (TCool.ok B) := by
  intro vs x h hf
  obtain ⟨m, rfl, hl, H⟩ := Rd_fields fo Tryz.underlying128 h hf
  have hl : vs.length = 3 := hl.trans (by kernel_rfl)
  obtain ⟨y0, a0, b0⟩ := H 0 0 3 1 _ _ _ rfl (by kernel_rfl) (Rd_int Tryz.underlying3)
  obtain ⟨y1, a1, b1⟩ := H 1 1 3 1 _ _ _ rfl (by kernel_rfl) (Rd_int Tryz.underlying3)
  obtain ⟨y2, a2, b2⟩ := H 2 2 3 1 _ _ _ rfl (by kernel_rfl) (Rd_int Tryz.underlying3)
  exact ⟨⟨y0, y1, y2⟩, rel_piece a0 (rel_piece a1 (rel_piece a2 (rel_end hl))), trivial⟩
def TLayer.ok (B : Nat) (x : TLayer) : Prop := x.gKey.size ≤ B ∧ x.gKind.size ≤ B ∧ x.gSalt.size ≤ B ∧ (x.gCooling.length ≤ B ∧ ∀ y ∈ x.gCooling, TCool.ok B y) ∧ True
theorem rd_TLayer (fo : FitOk B Fit) (n : Nat) : Rd enc Tryz.prog W Fit n 74 TLayer.cs (TLayer.ok B) := by
  intro vs x h hf
  obtain ⟨m, rfl, hl, H⟩ := Rd_fields fo Tryz.underlying74 h hf
  have hl : vs.length = 6 := hl.trans (by kernel_rfl)
  obtain ⟨y0, a0, b0⟩ := H 0 0 9 1 _ _ _ rfl (by kernel_rfl) (Rd_str fo Tryz.underlying9)
  obtain ⟨y1, a1, b1⟩ := H 1 1 9 1 _ _ _ rfl (by kernel_rfl) (Rd_str fo Tryz.underlying9)
  obtain ⟨y2, a2, b2⟩ := H 2 2 9 1 _ _ _ rfl (by kernel_rfl) (Rd_str fo Tryz.underlying9)
  obtain ⟨y3, a3, b3⟩ := H 3 3 3 1 _ _ _ rfl (by kernel_rfl) (Rd_int Tryz.underlying3)
  obtain ⟨y4, a4, b4⟩ := H 4 4 3 1 _ _ _ rfl (by kernel_rfl) (Rd_int Tryz.underlying3)
  obtain ⟨y5, a5, b5⟩ := H 5 5 72 1 _ _ _ rfl (by kernel_rfl) (Rd_slice (sz := 3) eq_TCool_cl fo Tryz.underlying72 (by kernel_rfl) (by decide) (fun _ => rfl) (fun m _ => (rd_TCool fo _)))
  exact ⟨⟨y0, y1, y2, y3, y4, y5⟩, rel_piece a0 (rel_piece a1 (rel_piece a2 (rel_piece a3 (rel_piece a4 (rel_piece a5 (rel_end hl)))))), b0, b1, b2, b5, trivial⟩
def TSpan.ok (B : Nat) (x : TSpan) : Prop := True
theorem rd_TSpan (fo : FitOk B Fit) (n : Nat) : Rd enc Tryz.prog W Fit n 45 TSpan.cs (TSpan.ok B) := by
  intro vs x h hf
  obtain ⟨m, rfl, hl, H⟩ := Rd_fields fo Tryz.underlying45 h hf
  have hl : vs.length = 2 := hl.trans (by kernel_rfl)
  obtain ⟨y0, a0, b0⟩ := H 0 0 3 1 _ _ _ rfl (by kernel_rfl) (Rd_int Tryz.underlying3)
  obtain ⟨y1, a1, b1⟩ := H 1 1 3 1 _ _ _ rfl (by kernel_rfl) (Rd_int Tryz.underlying3)
  exact ⟨⟨y0, y1⟩, rel_piece a0 (rel_piece a1 (rel_end hl)), trivial⟩
def TExperiment.ok (B : Nat) (x : TExperiment) : Prop := x.gKey.size ≤ B ∧ x.gLayer.size ≤ B ∧ x.gFlag.size ≤ B ∧ x.gSalt.size ≤ B ∧ (x.gClaims.length ≤ B ∧ ∀ y ∈ x.gClaims, TSpan.ok B y) ∧ (x.gArms.length ≤ B ∧ ∀ y ∈ x.gArms, TRange.ok B y) ∧ TExpr.ok B x.gWhen ∧ True
theorem rd_TExperiment (fo : FitOk B Fit) (n : Nat) : Rd enc Tryz.prog W Fit n 42 TExperiment.cs (TExperiment.ok B) := by
  intro vs x h hf
  obtain ⟨m, rfl, hl, H⟩ := Rd_fields fo Tryz.underlying42 h hf
  have hl : vs.length = 12 := hl.trans (by kernel_rfl)
  obtain ⟨y0, a0, b0⟩ := H 0 0 9 1 _ _ _ rfl (by kernel_rfl) (Rd_str fo Tryz.underlying9)
  obtain ⟨y1, a1, b1⟩ := H 1 1 9 1 _ _ _ rfl (by kernel_rfl) (Rd_str fo Tryz.underlying9)
  obtain ⟨y2, a2, b2⟩ := H 2 2 9 1 _ _ _ rfl (by kernel_rfl) (Rd_str fo Tryz.underlying9)
  obtain ⟨y3, a3, b3⟩ := H 3 3 9 1 _ _ _ rfl (by kernel_rfl) (Rd_str fo Tryz.underlying9)
  obtain ⟨y4, a4, b4⟩ := H 4 4 3 1 _ _ _ rfl (by kernel_rfl) (Rd_int Tryz.underlying3)
  obtain ⟨y5, a5, b5⟩ := H 5 5 38 1 _ _ _ rfl (by kernel_rfl) (Rd_slice (sz := 2) eq_TSpan_cl fo Tryz.underlying38 (by kernel_rfl) (by decide) (fun _ => rfl) (fun m _ => (rd_TSpan fo _)))
  obtain ⟨y6, a6, b6⟩ := H 6 6 37 1 _ _ _ rfl (by kernel_rfl) (Rd_slice (sz := 3) eq_TRange_cl fo Tryz.underlying37 (by kernel_rfl) (by decide) (fun _ => rfl) (fun m _ => (rd_TRange fo _)))
  obtain ⟨y7, a7, b7⟩ := H 7 7 25 5 _ _ _ rfl (by kernel_rfl) (rd_TExpr fo _)
  exact ⟨⟨y0, y1, y2, y3, y4, y5, y6, y7⟩, rel_piece a0 (rel_piece a1 (rel_piece a2 (rel_piece a3 (rel_piece a4 (rel_piece a5 (rel_piece a6 (rel_piece a7 (rel_end hl)))))))), b0, b1, b2, b3, b5, b6, b7, trivial⟩
end Go.Proofs.YtjhbobacbaikoaaGreatDoor
/- More steps: rows that are handed on, cuts of lists, strings looked through, meeting places where newer blocks are forgotten. -/
namespace Go.Proofs.YtjhbobacbaikoaaGreatDoor
open Go
set_option linter.unusedVariables false
set_option linter.unusedSimpArgs false

def decR (s : ByteArray) (p : Nat) : Int := (Utf8.decode s p).1
def decW (s : ByteArray) (p : Nat) : Nat := (Utf8.decode s p).2
def shlI (k : IntKind) (a b : Int) : Int := k.wrap (a * 2 ^ min b.toNat k.bits)
def shrI (k : IntKind) (a b : Int) : Int := a.fdiv (2 ^ min b.toNat k.bits)
def andI (k : IntKind) (a b : Int) : Int := k.wrap (BitVec.ofInt k.bits a &&& BitVec.ofInt k.bits b).toNat
def orI (k : IntKind) (a b : Int) : Int := k.wrap (BitVec.ofInt k.bits a ||| BitVec.ofInt k.bits b).toNat
section
variable (P : Program) (E : Env)
def bsCells (t : TypeId) (len : Nat) (parts : List (Nat × AV)) : Option (TypeId × Nat × List AV) :=
  match telem P t with
  | some e => match tzero P e with
    | some z => bif tok P e && Nat.ble (len * tsize P e) 16777216 && (ofV z).cs.all AV.one && (ofV z).cs.length == tsize P e && Nat.blt 0 (tsize P e) then
        (match fillA (fun i => some (i * tsize P e, tsize P e)) (repl len (ofV z).cs) parts with
        | some cs => some (e, tsize P e, cs)
        | none => none) else none
    | none => none
  | none => none
theorem bsCells_ex {t : TypeId} {len : Nat} {parts : List (Nat × AV)} {e : TypeId} {sz : Nat} {cs : List AV} (hb : bsCells P t len parts = some (e, sz, cs)) (h : AHeap) :
    exBuildSlice P t len parts h = some (.sl h.length 0 len (.whole sz), .cells e cs :: h) := by
  unfold bsCells at hb
  unfold exBuildSlice
  cases ht : telem P t with
  | none => simp [ht] at hb
  | some e' =>
    simp only [ht] at hb ⊢
    cases hz : tzero P e' with
    | none => simp [hz] at hb
    | some z =>
      simp only [hz] at hb ⊢
      generalize (tok P e' && Nat.ble (len * tsize P e') 16777216 && (ofV z).cs.all AV.one && (ofV z).cs.length == tsize P e' && Nat.blt 0 (tsize P e')) = b at hb ⊢
      cases b with
      | false => cases hb
      | true =>
        simp only [cond_true] at hb ⊢
        cases hf : fillA (fun i => some (i * tsize P e', tsize P e')) (repl len (ofV z).cs) parts with
        | none => simp [hf] at hb
        | some cs' =>
          simp only [hf, Option.some.injEq, Prod.mk.injEq] at hb ⊢
          obtain ⟨rfl, rfl, rfl⟩ := hb
          exact ⟨rfl, rfl⟩
def bslB (ops : Array Oper) (i : Nat) (st : List AV) : Option (Nat × List AV × Option Tmp) := match ops[i]? with
  | some o => match wantA ops st o, o.op with
    | some true, .buildSlice t len parts => match bsCells P t len (parts.toList.map fun p => (p.1, evA E st p.2)) with
      | some (_, _, cs) => bif cs.all AV.one then some (len, cs, o.dst) else none
      | none => none
    | _, _ => none
  | none => none
end
def scP (n : Nat) : List (Nat × AV) → Prop
  | [] => True
  | p :: l => p.2.sc n ∧ scP n l
theorem scP_lookup {n : Nat} : ∀ {l : List (Nat × AV)}, scP n l → ∀ {i : Nat} {v : AV}, l.lookup i = some v → v.sc n
  | [], _, i, v, e => by simp at e
  | p :: l, h, i, v, e => by
    rw [List.lookup_cons] at e
    split at e
    · cases e; exact h.1
    · exact scP_lookup h.2 e
theorem scL_fr {n : Nat} {l : List (Nat × AV)} (h : scP n l) {m : Nat} : scL n (fr m l) := by
  have key : ∀ (k i : Nat), scL n (frFrom l i k) := by
    intro k
    induction k with
    | zero => intro i; trivial
    | succ k ih =>
      intro i
      refine ⟨?_, ih (i + 1)⟩
      show AV.sc n (match l.lookup i with | some v => v | none => .any)
      cases e : l.lookup i with
      | none => trivial
      | some v => exact scP_lookup h e
  exact key m 0
def clB (n : Nat) : AHeap → Prop
  | [] => True
  | b :: h => (match b with | .cells _ cs => scL n cs | .row _ cs => scL n cs | _ => True) ∧ clB n h
theorem Closed_of {h : AHeap} (hc : clB h.length h) : Closed h := by
  have key : ∀ (n : Nat) (h : AHeap), clB n h → (∀ i t cs, hget h i = some (.cells t cs) → scL n cs) ∧ ∀ i t cs, hget h i = some (.row t cs) → scL n cs := by
    intro n h
    induction h with
    | nil => intro _; exact ⟨fun i t cs e => by simp [hget] at e, fun i t cs e => by simp [hget] at e⟩
    | cons b h ih =>
      intro hc
      constructor
      · intro i t cs e
        simp only [hget] at e
        split at e
        · cases e; exact hc.1
        · exact (ih hc.2).1 i t cs e
      · intro i t cs e
        simp only [hget] at e
        split at e
        · cases e; exact hc.1
        · exact (ih hc.2).2 i t cs e
  exact key h.length h hc

section
variable {P : Program} {E : Env} {n : Nat} {ops : Array Oper} {Q : List AV → AHeap → Prop} {l : List Nat} {i : Nat} {st : List AV} {h : AHeap} {d : Option Tmp}
theorem gives_drop {o : Oper} {v r : AV} {b : ABlk} (g : Gives P E o v (b :: h) st h) (fz : Frz 1 (b :: h) v r) : Gives P E o r h st h := by
  intro μ w a f
  obtain ⟨x, u, w', μ', e1, e2, e3, e4, e5⟩ := g μ w a f
  have hd : (b :: h).drop 1 = h := rfl
  refine ⟨x, u, w', μ', e1, e2, ?_, ?_, ?_⟩
  · have := fz μ' w' u e4 e3; rwa [hd] at this
  · have := drop_ok (m := 1) e4 (by rw [hd]; exact f.ok.closed); rwa [hd] at this
  · have := drop_to (m := 1) e5 (by rw [hd]; exact Nat.le_refl _); rwa [hd] at this
/-- A row that a program makes and hands on. -/
theorem AOps_bsl {m : Nat} {cs : List AV} (hop : bslB P E ops i st = some (m, cs, d)) (hs : scL 0 cs) (k : AOps P E n ops Q l (putA st d (.ro .unk m cs)) h) : AOps P E n ops Q (i :: l) st h := by
  unfold bslB at hop
  cases hi : ops[i]? with
  | none => simp [hi] at hop
  | some o =>
    simp only [hi] at hop
    split at hop
    · rename_i t len parts hw ho
      cases hx : bsCells P t len (parts.toList.map fun p => (p.1, evA E st p.2)) with
      | none => simp [hx] at hop
      | some p =>
        obtain ⟨e, sz, cs'⟩ := p
        simp only [hx] at hop
        cases hone : cs'.all AV.one with
        | false => simp [hone] at hop
        | true =>
          simp only [hone, cond_true, Option.some.injEq, Prod.mk.injEq] at hop
          obtain ⟨rfl, rfl, rfl⟩ := hop
          have hex : exA P E o.op st h = some (.sl h.length 0 len (.whole sz), .cells e cs' :: h) := by
            rw [ho]
            show (match exV P E (.buildSlice t len parts) st h with | some v => some (v, h) | none => exW P E (.buildSlice t len parts) st h) = _
            exact bsCells_ex P hx h
          refine AOps_step hi hw (gives_drop (exA_sound hex) ?_) k
          exact Frz_sl (cs1 := cs') (rest := []) (t := e) (cs := cs') (by simp [blkCells, hget]) (Nat.le_refl _) (by simp) (FrzL_sc (scL_mono (Nat.zero_le _) _ hs)) hone
    · cases hop
theorem flatMap_cut {α : Type} {c : α → List AV} {sz : Nat} (hsz : ∀ x, (c x).length = sz) : ∀ (xs : List α) (a : Nat), (xs.flatMap c).drop (a * sz) = (xs.drop a).flatMap c ∧ (xs.flatMap c).take (a * sz) = (xs.take a).flatMap c
  | [], a => by simp
  | x :: xs, 0 => by simp
  | x :: xs, a + 1 => by
    obtain ⟨h1, h2⟩ := flatMap_cut hsz xs a
    rw [List.flatMap_cons, Nat.succ_mul, Nat.add_comm]
    constructor
    · rw [← List.drop_drop, ← hsz x, List.drop_left, hsz x, h1]; rfl
    · rw [← hsz x, List.take_length_add_append, hsz x, h2]; simp
/-- A list cut. -/
theorem AOps_lcut {α : Type} {c : α → List AV} {xs r : List α} {cells cells' : List AV} {a b : Int} {sz m : Nat} (hop : lcutB P E ops i st = some (m, cells, a, b, sz, d)) (hm : m = xs.length) (hcl : cells = xs.flatMap c) (hcl' : cells' = r.flatMap c) (hsz : ∀ x, (c x).length = sz) (hp : 0 < sz)
    (hv : cutL xs a b = some r) (k : AOps P E n ops Q l (putA st d (.ro .unk r.length cells')) h) : AOps P E n ops Q (i :: l) st h := by
  obtain ⟨h0, h1, h2, hr⟩ := cutL_spec hv
  subst hcl hm hcl'
  unfold lcutB at hop
  cases hi : ops[i]? with
  | none => simp [hi] at hop
  | some o =>
    simp only [hi] at hop
    split at hop
    · rename_i t x lo hhi hw ho
      cases ht : telem P t with
      | none => simp [ht] at hop
      | some e =>
        simp only [ht] at hop
        cases hk : tok P e with
        | false => simp [hk] at hop
        | true =>
          simp only [hk, cond_true] at hop
          split at hop
          · rename_i kk n' cells hx
            split at hop
            · rename_i l1 h1' hl hh
              simp only [Option.some.injEq, Prod.mk.injEq] at hop
              obtain ⟨rfl, rfl, rfl, rfl, rfl, rfl⟩ := hop
              have g := gives_slice_ro (P := P) (E := E) (h := h) ho ht hk hx hl hh h0 h1 h2
              have hrl : r.length = h1'.toNat - l1.toNat := by rw [hr]; simp; omega
              have hrc : ((xs.flatMap c).drop (l1.toNat * tsize P e)).take ((h1'.toNat - l1.toNat) * tsize P e) = r.flatMap c := by
                rw [(flatMap_cut hsz xs _).1, (flatMap_cut hsz _ _).2, hr, List.drop_take]
              rw [hrc, ← hrl] at g
              exact AOps_step hi hw (Same.gives g) k
            · cases hop
          · cases hop
    · cases hop
theorem AOps_range {s : ByteArray} (hop : rngB P E ops i st = some (s, d)) (k : AOps P E n ops Q l (putA st d (.ptr h.length 0)) (.iter s 0 :: h)) : AOps P E n ops Q (i :: l) st h := by
  unfold rngB at hop
  cases hi : ops[i]? with
  | none => simp [hi] at hop
  | some o =>
    simp only [hi] at hop
    split at hop
    · rename_i t x hw ho
      split at hop
      · rename_i s' ht hx
        simp only [Option.some.injEq, Prod.mk.injEq] at hop
        obtain ⟨rfl, rfl⟩ := hop
        exact AOps_step hi hw (gives_range ho ht hx) k
      · cases hop
    · cases hop
theorem AOps_next {id p : Nat} {s : ByteArray} {h' : AHeap} (hop : nxtB E ops i st h = some (id, s, p, d)) (hp : p < s.size) (hh : hset h id (.iter s (p + (Utf8.decode s p).2)) = h')
    (k : AOps P E n ops Q l (putA st d (.tup [bA true, iA (p : Nat), iK .i32 (Utf8.decode s p).1])) h') : AOps P E n ops Q (i :: l) st h := by
  subst hh
  unfold nxtB at hop
  cases hi : ops[i]? with
  | none => simp [hi] at hop
  | some o =>
    simp only [hi] at hop
    split at hop
    · rename_i x hw ho
      split at hop
      · rename_i id' hx
        split at hop
        · rename_i s' p' hg
          simp only [Option.some.injEq, Prod.mk.injEq] at hop
          obtain ⟨rfl, rfl, rfl, rfl⟩ := hop
          exact AOps_step hi hw (gives_next ho hx hg hp) k
        · cases hop
      · cases hop
    · cases hop
theorem AOps_next_end {id p : Nat} {s : ByteArray} (hop : nxtB E ops i st h = some (id, s, p, d)) (hp : ¬ p < s.size)
    (k : AOps P E n ops Q l (putA st d (.tup [bA false])) h) : AOps P E n ops Q (i :: l) st h := by
  unfold nxtB at hop
  cases hi : ops[i]? with
  | none => simp [hi] at hop
  | some o =>
    simp only [hi] at hop
    split at hop
    · rename_i x hw ho
      split at hop
      · rename_i id' hx
        split at hop
        · rename_i s' p' hg
          simp only [Option.some.injEq, Prod.mk.injEq] at hop
          obtain ⟨rfl, rfl, rfl, rfl⟩ := hop
          exact AOps_step hi hw (Same.gives (gives_next_end ho hx hg hp)) k
        · cases hop
      · cases hop
    · cases hop

/-- What follows a piece of code, proved once; newer blocks are forgotten on arrival. -/
theorem AWP_joinD {α : Type} {x y : Code} {Q : Exit → List AV → AHeap → Prop} (S : α → List AV) (H : α → AHeap) (C : α → Prop) (hS : ∀ a, n ≤ (H a).length ∧ Closed (H a) ∧ scL (H a).length (S a)) (ky : ∀ a, C a → AWP P E n y Q (S a) (H a))
    (s : AWP P E n x (thenA (fun s1 h1 => ∃ a m, C a ∧ h1.drop m = H a ∧ leL s1 (S a)) Q) st h) : AWP P E n (.seq x y) Q st h := by
  refine AWP_seq (s.mono fun e s1 h1 q => ?_)
  cases e with
  | normal =>
    obtain ⟨a, m, hc, hd, hl⟩ := q
    obtain ⟨k1, k2, k3⟩ := hS a
    exact AWP.le hl (AWP_drop m (by rw [hd]; exact k1) (by rw [hd]; exact k2) (by rw [hd]; exact k3) (by rw [hd]; exact ky a hc))
  | exit id => exact q
  | goto l => exact q
  | ret => exact q
  | panic ch => exact q
  | outgrown => exact q
theorem AWP_loopD {α : Type} {c : Code} {Q : Exit → List AV → AHeap → Prop} (S : α → List AV) (H : α → AHeap) (C : Nat → α → Prop) (hS : ∀ a, n ≤ (H a).length ∧ Closed (H a) ∧ scL (H a).length (S a))
    (round : ∀ k a, C k a → AWP P E n c (thenA (fun s1 h1 => ∃ a' m' m, m < k ∧ C m a' ∧ h1.drop m' = H a' ∧ leL s1 (S a')) Q) (S a) (H a)) {k : Nat} (a : α) (h0 : C k a) (m0 : Nat) (hh : h.drop m0 = H a) (hl : leL st (S a)) : AWP P E n (.loop c) Q st h := by
  obtain ⟨j1, j2, j3⟩ := hS a
  refine AWP.le hl (AWP_drop m0 (by rw [hh]; exact j1) (by rw [hh]; exact j2) (by rw [hh]; exact j3) ?_)
  rw [hh]
  refine AWP_loop (fun k s1 h1 => ∃ a m', C k a ∧ h1.drop m' = H a ∧ leL s1 (S a)) ?_ ⟨a, 0, h0, rfl, leL_refl _⟩
  rintro k s1 h1 ⟨a, m', hc, hd, hl⟩
  obtain ⟨k1, k2, k3⟩ := hS a
  refine AWP.le hl (AWP_drop m' (by rw [hd]; exact k1) (by rw [hd]; exact k2) (by rw [hd]; exact k3) ?_)
  rw [hd]
  refine (round k a hc).mono fun e s2 h2 q => ?_
  cases e with
  | normal => obtain ⟨a', m', m, hm, hc', hd', hl'⟩ := q; exact ⟨m, hm, a', m', hc', hd', hl'⟩
  | exit id => exact q
  | goto l => exact q
  | ret => exact q
  | panic ch => exact q
  | outgrown => exact q
/-- Code with labels to which nothing jumps. -/
def noGotoA (Q : Exit → List AV → AHeap → Prop) : Exit → List AV → AHeap → Prop
  | .goto _ => fun _ _ => False
  | e => Q e
theorem AWP_scope {c : Code} {Q : Exit → List AV → AHeap → Prop} (s : AWP P E n c (noGotoA Q) st h) : AWP P E n (.scope c) Q st h := by
  intro μ w a hn f
  refine wp_scope_straight (wp_mono (s μ w a hn f) fun e a' w' hc => ?_)
  cases e with
  | normal => exact hc
  | exit id => exact hc
  | goto l => obtain ⟨_, _, _, hf, _⟩ := hc; exact hf
  | ret => exact hc
  | panic ch => exact hc
  | outgrown => exact hc
end
end Go.Proofs.YtjhbobacbaikoaaGreatDoor
/- The steps of a walk through a region whose order is left open. -/
namespace Go.Proofs.YtjhbobacbaikoaaGreatDoor
open Go
set_option linter.unusedVariables false
set_option linter.unusedSimpArgs false

/-- The places that a region fills are unknown, by looking. -/
def freshC (ops : Array Oper) (ks : List Nat) (N : Nat) : Bool := ops.toList.all fun o => match o.dst with | some t => Nat.blt t N && !ks.contains t | none => true
theorem fr_get {N t : Nat} {l : List (Nat × AV)} (ht : t < N) (hl : l.lookup t = none) : (fr N l)[t]? = some .any := by
  have key : ∀ (k i t : Nat), t < k → l.lookup (i + t) = none → (frFrom l i k)[t]? = some .any := by
    intro k
    induction k with
    | zero => intro i t h; omega
    | succ k ih =>
      intro i t h e
      cases t with
      | zero => simp only [frFrom, List.getElem?_cons_zero]; rw [Nat.add_zero] at e; rw [e]
      | succ t => simp only [frFrom, List.getElem?_cons_succ]; exact ih (i + 1) t (by omega) (by rw [← e]; congr 1; omega)
  exact key N 0 t ht (by rw [Nat.zero_add]; exact hl)
theorem lookup_none {l : List (Nat × AV)} {t : Nat} (h : (l.map (·.1)).contains t = false) : l.lookup t = none := by
  induction l with
  | nil => rfl
  | cons p l ih =>
    simp only [List.map_cons, List.contains_cons, Bool.or_eq_false_iff] at h
    rw [List.lookup_cons, h.1]
    exact ih h.2
theorem fresh_of {ops : Array Oper} {N : Nat} {l : List (Nat × AV)} (h : freshC ops (l.map (·.1)) N = true) : freshB ops (fr N l) := by
  intro x ox hx t ht
  have hm : ox ∈ ops.toList := by simpa using Array.mem_of_getElem? hx
  have := List.all_eq_true.1 h ox hm
  simp only [ht, Bool.and_eq_true, Bool.not_eq_true'] at this
  exact fr_get (by simpa using this.1) (lookup_none this.2)

section
variable {P : Program} {E : Env} {n : Nat} {ops : Array Oper} {Q : List AV → AHeap → Prop} {l : List Nat} {i : Nat} {st : List AV} {h : AHeap} {d : Option Tmp} {pend : List (Nat × Nat)}
theorem pendOk_refl (rows : List Nat) (h : AHeap) : ∀ pend, pendOk rows h h pend
  | [] => trivial
  | p :: l => ⟨by cases rows.contains p.1 <;> simp, pendOk_refl rows h l⟩
theorem AD_callp {g : FuncId} {al : List AV} {r : AV} (hc : callB P E ops i st = some (g, al, d)) (s : Sp P E g al [] (isA r [])) (ha : scL 0 al) (hr : r.sc 0) (k : AD P E n ops Q l pend (putA st d r) h) : AD P E n ops Q (i :: l) pend st h := by
  unfold callB at hc
  cases hi : ops[i]? with
  | none => simp [hi] at hc
  | some o =>
    simp only [hi] at hc
    split at hc
    · rename_i x args ats hw ho
      cases hx : calleeA (evA E st x) with
      | none => simp [hx] at hc
      | some p =>
        obtain ⟨g', first, captured⟩ := p
        simp only [hx] at hc
        cases hg : goes P g' with
        | false => simp [hg] at hc
        | true =>
          simp only [hg, cond_true, Option.some.injEq, Prod.mk.injEq] at hc
          obtain ⟨rfl, rfl, rfl⟩ := hc
          refine AD_call hi (by rw [ho]; rfl) hw ho hx hg ((Sp_at s ha hr h).mono fun r' h' e => ?_)
          obtain ⟨rfl, rfl⟩ := e
          exact ⟨pendOk_refl _ _ _, k⟩
    · cases hc
def offB (ops : Array Oper) (i : Nat) (st : List AV) : Option (Option Tmp) := match ops[i]? with
  | some o => bif looker o.op then none else (match wantA ops st o with
    | some false => some o.dst
    | _ => none)
  | none => none
theorem AD_offB (hc : offB ops i st = some d) (k : AD P E n ops Q l pend (putA st d undefA) h) : AD P E n ops Q (i :: l) pend st h := by
  unfold offB at hc
  cases hi : ops[i]? with
  | none => simp [hi] at hc
  | some o =>
    simp only [hi] at hc
    cases hl : looker o.op with
    | true => simp [hl] at hc
    | false =>
      simp only [hl, cond_false] at hc
      split at hc
      · rename_i hw
        simp only [Option.some.injEq] at hc
        subst hc
        exact AD_off hi hl hw k
      · cases hc
theorem AD_index {α : Type} {c : α → List AV} {xs : List α} {cells : List AV} {j : Int} {sz m : Nat} {v : α} (hop : idxB P E ops i st = some (m, cells, j, sz, d)) (hm : m = xs.length) (hcl : cells = xs.flatMap c) (hsz : ∀ x, (c x).length = sz) (hp : 0 < sz)
    (hv : rdO xs j = some v) (k : ∀ tl, AD P E n ops Q l pend (putA st d (.rop (c v ++ tl))) h) : AD P E n ops Q (i :: l) pend st h := by
  obtain ⟨h0, h1, h2⟩ := rdO_spec hv
  subst hcl hm
  unfold idxB at hop
  cases hi : ops[i]? with
  | none => simp [hi] at hop
  | some o =>
    simp only [hi] at hop
    split at hop
    · rename_i t x ix hw ho
      cases ht : telem P t with
      | none => simp [ht] at hop
      | some e =>
        simp only [ht] at hop
        cases hk : tok P e with
        | false => simp [hk] at hop
        | true =>
          simp only [hk, cond_true] at hop
          split at hop
          · rename_i kk n' cells ik j' hx hix
            simp only [Option.some.injEq, Prod.mk.injEq] at hop
            obtain ⟨rfl, rfl, rfl, rfl, rfl⟩ := hop
            obtain ⟨tl, he⟩ := flatMap_drop hsz h2
            have hne : xs.flatMap c ≠ [] := by
              intro hn
              have hl := congrArg List.length he
              rw [hn] at hl
              simp [hsz] at hl
              omega
            refine AD_look [] hi (by rw [ho]; rfl) hw (v := .rop (c v ++ tl)) (fun st2 h2 hs _ => ?_) (k tl)
            have hx2 := (hs x (by rw [ho]; simp [Op.operands])).trans hx
            have hi2 := (hs ix (by rw [ho]; simp [Op.operands])).trans hix
            have := gives_index_ro (P := P) (E := E) (h := h2) ho ht hk hx2 hi2 h0 h1 hne
            rwa [he] at this
          · cases hop
    · cases hop
theorem AD_sindex {s : ByteArray} {j v : Int} (hop : sidxB P E ops i st = some (s, j, d)) (hv : rdS s j = some v) (k : AD P E n ops Q l pend (putA st d (iK .u8 v)) h) : AD P E n ops Q (i :: l) pend st h := by
  obtain ⟨h0, h1, rfl⟩ := rdS_spec hv
  unfold sidxB at hop
  cases hi : ops[i]? with
  | none => simp [hi] at hop
  | some o =>
    simp only [hi] at hop
    split at hop
    · rename_i t x ix hw ho
      split at hop
      · rename_i s' ik j' ht hx hix
        simp only [Option.some.injEq, Prod.mk.injEq] at hop
        obtain ⟨rfl, rfl, rfl⟩ := hop
        refine AD_look [] hi (by rw [ho]; rfl) hw (v := iK .u8 (btA s' j')) (fun st2 h2 hs _ => ?_) k
        exact gives_index_str ho ht ((hs x (by rw [ho]; simp [Op.operands])).trans hx) ((hs ix (by rw [ho]; simp [Op.operands])).trans hix) h0 h1
      · cases hop
    · cases hop
theorem AD_rem {kk : IntKind} {a b v : Int} (hop : binB E ops i st = some (.rem, .int kk a, .int kk b, d)) (hv : remO a b = some v) (k : AD P E n ops Q l pend (putA st d (iK kk v)) h) : AD P E n ops Q (i :: l) pend st h := by
  unfold remO at hv
  cases hb : (b == 0) with
  | true => simp [hb] at hv
  | false =>
    simp [hb] at hv; subst hv
    unfold binB at hop
    cases hi : ops[i]? with
    | none => simp [hi] at hop
    | some o =>
      simp only [hi] at hop
      split at hop
      · rename_i op t x y yt hw ho
        split at hop
        · rename_i a' b' hx hy
          simp only [Option.some.injEq, Prod.mk.injEq] at hop
          obtain ⟨rfl, rfl, rfl, rfl⟩ := hop
          refine AD_look [] hi (by rw [ho]; rfl) hw (v := iK kk (a.tmod b)) (fun st2 h2 hs _ => ?_) k
          exact gives_rem ho ((hs x (by rw [ho]; simp [Op.operands])).trans hx) ((hs y (by rw [ho]; simp [Op.operands])).trans hy) (by simpa using hb)
        · cases hop
      · cases hop
theorem AD_bsl {m : Nat} {cs : List AV} (hop : bslB P E ops i st = some (m, cs, d)) (hs : scL 0 cs) (k : AD P E n ops Q l pend (putA st d (.ro .unk m cs)) h) : AD P E n ops Q (i :: l) pend st h := by
  unfold bslB at hop
  cases hi : ops[i]? with
  | none => simp [hi] at hop
  | some o =>
    simp only [hi] at hop
    split at hop
    · rename_i t len parts hw ho
      cases hx : bsCells P t len (parts.toList.map fun p => (p.1, evA E st p.2)) with
      | none => simp [hx] at hop
      | some p =>
        obtain ⟨e, sz, cs'⟩ := p
        simp only [hx] at hop
        cases hone : cs'.all AV.one with
        | false => simp [hone] at hop
        | true =>
          simp only [hone, cond_true, Option.some.injEq, Prod.mk.injEq] at hop
          obtain ⟨rfl, rfl, rfl⟩ := hop
          have hex : exA P E o.op st h = some (.sl h.length 0 len (.whole sz), .cells e cs' :: h) := by
            rw [ho]
            show (match exV P E (.buildSlice t len parts) st h with | some v => some (v, h) | none => exW P E (.buildSlice t len parts) st h) = _
            exact bsCells_ex P hx h
          refine AD_gives hi (by rw [ho]; rfl) hw (gives_drop (exA_sound hex) ?_) (pendOk_refl _ _ _) k
          exact Frz_sl (cs1 := cs') (rest := []) (t := e) (cs := cs') (by simp [blkCells, hget]) (Nat.le_refl _) (by simp) (FrzL_sc (scL_mono (Nat.zero_le _) _ hs)) hone
    · cases hop
/-- A region in a given order, then what follows. -/
theorem AWP_regD (ord : List Nat) {id : Nat} {y : Code} {Q : Exit → List AV → AHeap → Prop} {N : Nat} {f : List (Nat × AV)} (hl : leL st (fr N f)) (hm : P.follows .mixedOrders = true) (hplan : planB ops ord = true) (hfresh : freshC ops (f.map (·.1)) N = true)
    (s : AD P E n ops (AWP P E n y Q) ord [] (fr N f) h) : AWP P E n (.seq (.region id ops true) y) Q st h :=
  AWP.le hl (AWP_seq (AWP_draw ord hm hplan (fresh_of hfresh) s))
/-- The same, to one state. -/
theorem AWP_regD1 (ord : List Nat) {id : Nat} {y : Code} {Q : Exit → List AV → AHeap → Prop} {N : Nat} {f : List (Nat × AV)} (hl : leL st (fr N f)) (hm : P.follows .mixedOrders = true) (hplan : planB ops ord = true) (hfresh : freshC ops (f.map (·.1)) N = true)
    {st' : List AV} {h' : AHeap} (k : AWP P E n y Q st' h') (s : AD P E n ops (fun s1 h1 => leL s1 st' ∧ h1 = h') ord [] (fr N f) h) : AWP P E n (.seq (.region id ops true) y) Q st h := by
  refine AWP.le hl (AWP_seq (AWP_draw ord hm hplan (fresh_of hfresh) ?_))
  have key : ∀ (l : List Nat) (pend : List (Nat × Nat)) (st : List AV) (h : AHeap), AD P E n ops (fun s1 h1 => leL s1 st' ∧ h1 = h') l pend st h → AD P E n ops (AWP P E n y Q) l pend st h := by
    intro l
    induction l with
    | nil =>
      intro pend st h s
      obtain ⟨s1, e1, e2, rfl⟩ := s
      exact ⟨st', leL_trans e1 e2, k⟩
    | cons i l ih =>
      intro pend st h s
      obtain ⟨o, hi, hs⟩ := s
      refine ⟨o, hi, ?_⟩
      rcases hs with ⟨h1, v, W, h2, h3⟩ | ⟨h1, h2⟩
      · exact .inl ⟨h1, v, W, h2, ih _ _ _ h3⟩
      · refine .inr ⟨h1, fun Q' μ w a hn f => wpOp_to (h2 Q' μ w a hn f) fun a' w' hc => hc.mono fun st2 h2 q => ?_⟩
        obtain ⟨r, e, hp, hd⟩ := q
        exact ⟨r, e, hp, ih _ _ _ hd⟩
  exact key ord [] _ _ s
/-- A region that nothing follows. -/
theorem AWP_regE1 (ord : List Nat) {id : Nat} {Q : Exit → List AV → AHeap → Prop} {N : Nat} {f : List (Nat × AV)} (hl : leL st (fr N f)) (hm : P.follows .mixedOrders = true) (hplan : planB ops ord = true) (hfresh : freshC ops (f.map (·.1)) N = true)
    {st' : List AV} {h' : AHeap} (k : Q .normal st' h') (s : AD P E n ops (fun s1 h1 => leL s1 st' ∧ h1 = h') ord [] (fr N f) h) : AWP P E n (.region id ops true) Q st h := by
  refine AWP.le hl (AWP_draw ord hm hplan (fresh_of hfresh) ?_)
  have key : ∀ (l : List Nat) (pend : List (Nat × Nat)) (st : List AV) (h : AHeap), AD P E n ops (fun s1 h1 => leL s1 st' ∧ h1 = h') l pend st h → AD P E n ops (Q .normal) l pend st h := by
    intro l
    induction l with
    | nil =>
      intro pend st h s
      obtain ⟨s1, e1, e2, rfl⟩ := s
      exact ⟨st', leL_trans e1 e2, k⟩
    | cons i l ih =>
      intro pend st h s
      obtain ⟨o, hi, hs⟩ := s
      refine ⟨o, hi, ?_⟩
      rcases hs with ⟨h1, v, W, h2, h3⟩ | ⟨h1, h2⟩
      · exact .inl ⟨h1, v, W, h2, ih _ _ _ h3⟩
      · refine .inr ⟨h1, fun Q' μ w a hn f => wpOp_to (h2 Q' μ w a hn f) fun a' w' hc => hc.mono fun st2 h2 q => ?_⟩
        obtain ⟨r, e, hp, hd⟩ := q
        exact ⟨r, e, hp, ih _ _ _ hd⟩
  exact key ord [] _ _ s
theorem AD_here (ks : List Nat) {st' : List AV} {h' : AHeap} (e : forget ks st = st') (eh : h = h') : AD P E n ops (fun s1 h1 => leL s1 st' ∧ h1 = h') [] pend st h :=
  ⟨_, leL_forget ks st, e ▸ leL_refl _, eh⟩
end
end Go.Proofs.YtjhbobacbaikoaaGreatDoor
/- Rows of one's own: appends, what is handed on of them, and bringing a state into a wanted form. -/
namespace Go.Proofs.YtjhbobacbaikoaaGreatDoor
open Go
set_option linter.unusedVariables false
set_option linter.unusedSimpArgs false

mutual
/-- Only such blocks are named. -/
def AV.on (S : Nat → Prop) : AV → Prop
  | .val _ => True
  | .ro _ _ cells => onL S cells
  | .sl id _ _ _ => S id
  | .ptr id _ => S id
  | .rop cells => onL S cells
  | .agg cells => onL S cells
  | .tup vs => onL S vs
  | .fn _ a b => onL S a ∧ onL S b
  | .any => True
def onL (S : Nat → Prop) : List AV → Prop
  | [] => True
  | a :: az => a.on S ∧ onL S az
end
mutual
theorem on_sc {S : Nat → Prop} {n : Nat} (h : ∀ i, i < n → S i) : ∀ a : AV, a.sc n → a.on S
  | .val _, _ => trivial
  | .ro _ _ cells, hs => onL_sc h cells hs
  | .sl id _ _ _, hs => h id hs
  | .ptr id _, hs => h id hs
  | .rop cells, hs => onL_sc h cells hs
  | .agg cells, hs => onL_sc h cells hs
  | .tup vs, hs => onL_sc h vs hs
  | .fn _ a b, hs => ⟨onL_sc h a hs.1, onL_sc h b hs.2⟩
  | .any, _ => trivial
theorem onL_sc {S : Nat → Prop} {n : Nat} (h : ∀ i, i < n → S i) : ∀ az : List AV, scL n az → onL S az
  | [], _ => trivial
  | a :: az, hs => ⟨on_sc h a hs.1, onL_sc h az hs.2⟩
end
mutual
theorem rel_on {c d : Cx} {S : Nat → Prop} (hw : d.w = c.w) (hs : ∀ b k, c.still b k → d.still b k) (hi : ∀ id, S id → id < c.h.length → id < d.h.length ∧ (alive d.h id → alive c.h id ∧ d.μ id = c.μ id)) :
    ∀ (a : AV) (u : Value), a.on S → AV.rel c a u → AV.rel d a u
  | .val v, u, _, h => h
  | .ro k n cells, u, ho, h => by
    obtain ⟨a, cap, vs, e, hk, hl, ho1, hm⟩ := h
    refine ⟨a, cap, vs, e, hk, relL_on hw hs hi cells vs ho hl, ho1, ?_⟩
    rcases hm with hm | ⟨ad, ha, hst, hce⟩
    · exact .inl hm
    · exact .inr ⟨ad, ha, fun j hj => hs _ _ (hst j hj), fun j x hj => by rw [hw]; exact hce j x hj⟩
  | .sl id off len k, u, ho, h => by
    obtain ⟨h1, h2, h3⟩ := h
    obtain ⟨g1, g2⟩ := hi id ho h1
    refine ⟨g1, h2, fun ha => ?_⟩
    obtain ⟨g3, g4⟩ := g2 ha
    rw [hw, g4]
    exact h3 g3
  | .ptr id off, u, ho, h => by
    obtain ⟨h1, h2, h3⟩ := h
    obtain ⟨g1, g2⟩ := hi id ho h1
    refine ⟨g1, h2, fun ha => ?_⟩
    obtain ⟨g3, g4⟩ := g2 ha
    rw [g4]
    exact h3 g3
  | .rop cells, u, ho, h => by
    obtain ⟨ad, vs, e, hl, ho1, hst, hce⟩ := h
    exact ⟨ad, vs, e, relL_on hw hs hi cells vs ho hl, ho1, hst.imp_right fun x j hj => hs _ _ (x j hj), fun j x hj => by rw [hw]; exact hce j x hj⟩
  | .agg cells, u, ho, h => by obtain ⟨vs, e, hl, ho1⟩ := h; exact ⟨vs, e, relL_on hw hs hi cells _ ho hl, ho1⟩
  | .tup cs, u, ho, h => by obtain ⟨vs, e, hl⟩ := h; exact ⟨vs, e, relL_on hw hs hi cs _ ho hl⟩
  | .fn f a b, u, ho, h => by obtain ⟨fs, cs, e, h1, h2⟩ := h; exact ⟨fs, cs, e, relL_on hw hs hi a _ ho.1 h1, relL_on hw hs hi b _ ho.2 h2⟩
  | .any, u, _, h => trivial
theorem relL_on {c d : Cx} {S : Nat → Prop} (hw : d.w = c.w) (hs : ∀ b k, c.still b k → d.still b k) (hi : ∀ id, S id → id < c.h.length → id < d.h.length ∧ (alive d.h id → alive c.h id ∧ d.μ id = c.μ id)) :
    ∀ (az : List AV) (us : List Value), onL S az → AV.relL c az us → AV.relL d az us
  | [], us, _, h => h
  | a :: az, us, ho, h => by obtain ⟨x, xs, e, h1, h2⟩ := h; exact ⟨x, xs, e, rel_on hw hs hi a x ho.1 h1, relL_on hw hs hi az xs ho.2 h2⟩
end

/-- From the second state one can go on wherever one can from the first. -/
def Norm (P : Program) (E : Env) (n : Nat) (st : List AV) (h : AHeap) (st' : List AV) (h' : AHeap) : Prop :=
  ∀ (k : Code) (Q : Exit → List AV → AHeap → Prop), AWP P E n k Q st' h' → AWP P E n k Q st h
section
variable {P : Program} {E : Env} {n : Nat} {st st' st2 : List AV} {h h' h2 : AHeap}
theorem Norm_refl : Norm P E n st h st h := fun _ _ s => s
theorem Norm_trans (a : Norm P E n st h st' h') (b : Norm P E n st' h' st2 h2) : Norm P E n st h st2 h2 := fun k Q s => a k Q (b k Q s)
theorem Norm_le (l : leL st st') : Norm P E n st h st' h := fun k Q s => AWP.le l s
theorem Norm_forget (ks : List Nat) (e : forget ks st = st') : Norm P E n st h st' h := Norm_le (leL_of ks e)
theorem Norm_drop (m : Nat) (e : h.drop m = h') (h1 : n ≤ h'.length) (h2 : Closed h') (h3 : scL h'.length st) : Norm P E n st h st h' := fun k Q s => by
  subst e; exact AWP_drop m h1 h2 h3 s
/-- Another reading of the same world. -/
theorem Norm_of (key : ∀ (μ : Mu) (w : World), n ≤ h.length → (⟨μ, h, w⟩ : Cx).Ok → ∃ μ', Cx.Ton n ⟨μ, h, w⟩ ⟨μ', h', w⟩ ∧ (⟨μ', h', w⟩ : Cx).Ok ∧ ∀ us, AV.relL ⟨μ, h, w⟩ st us → AV.relL ⟨μ', h', w⟩ st' us) : Norm P E n st h st' h' := by
  intro k Q s μ w a hn f
  obtain ⟨μ', t, ok, hr⟩ := key μ w hn f.ok
  exact wp_mono (s μ' w a t.len ⟨E.mono _ _ _ t f.env, ok, hr _ f.tmps, f.defers⟩) fun e a' w' hc => hc.trans t
/-- Values that say less, over a heap. -/
theorem Norm_frz (f : FrzL 0 h st st') : Norm P E n st h st' h :=
  Norm_of fun μ w hn ok => ⟨μ, Cx.Ton.refl _ hn, ok, fun us hr => f μ w us ok hr⟩
theorem Frz_row {m id len : Nat} {k : Cap} {t : TypeId} {cs : List AV} (hg : hget h id = some (.row t cs)) (hs : scL (h.drop m).length cs) : Frz m h (.sl id 0 len k) (.ro .unk len cs) := by
  rintro μ w u ok ⟨_, _, hr⟩
  have ha : alive h id := ⟨_, hg, by simp⟩
  have hb := ok.blk id _ hg
  rcases hr ha with ⟨b, cap, hmu, rfl, hk, _⟩ | ⟨hn, rfl, _, ad, rfl⟩
  · rcases hb with ⟨b', cv, vs, rest, e, h1, h2, h3, h4⟩ | ⟨e, _⟩
    · have e' : μ id = some b' := e
      rw [hmu] at e'
      cases e'
      have hvl := relL_length h3
      refine ⟨_, cap, vs, rfl, ⟨hk.1, hk.2.1, fun h => by cases h⟩, relL_drop' cs vs h3 hs, h4, .inr ⟨_, rfl, fun j hj => ⟨(Array.getElem?_eq_some_iff.1 h1).1, fun i y hi hy e2 => ?_, ok.nx id b ha hmu _⟩, fun j x hj => ?_⟩⟩
      · have hi' : hget h i = some y := by rw [← hget_drop (hget_lt hi)]; exact hi
        obtain rfl := ok.inj i id b ⟨y, hi', hy⟩ ha e2 hmu
        rw [hg] at hi'
        cases hi'
        show 0 + j < cs.length
        omega
      · rw [add_at, cell_of_row w b (0 + j) cv t (0, 0) h1, Nat.zero_add]
        have : cv.toList[j]? = some x := by rw [h2, List.getElem?_append_left (lt_of_get hj)]; exact hj
        simpa using this
    · have e' : μ id = none := e
      rw [hmu] at e'; cases e'
  · have hcs0 : cs = [] := by
      rcases hb with ⟨b, _, _, _, e, _⟩ | ⟨_, e⟩
      · have e' : μ id = some b := e
        rw [hn] at e'; cases e'
      · exact e
    subst hcs0
    exact ⟨ad, 0, [], rfl, ⟨Nat.le_refl _, Nat.zero_le _, fun h => by cases h⟩, rfl, rfl, .inl rfl⟩
/-- One place says less. -/
theorem FrzL_set {m : Nat} {t : Nat} {v v' : AV} (hv : st[t]? = some v) (hs : scL (h.drop m).length (st.set t .any)) (f : Frz m h v v') : FrzL m h st (st.set t v') := by
  induction st generalizing t with
  | nil => simp at hv
  | cons a az ih =>
    cases t with
    | zero =>
      simp at hv
      subst hv
      exact FrzL_cons f (FrzL_sc hs.2)
    | succ t =>
      simp at hv
      exact FrzL_cons (Frz_sc hs.1) (ih hv hs.2)
theorem FrzL_set0 {t : Nat} {v v' : AV} (hv : st[t]? = some v) (f : Frz 0 h v v') : FrzL 0 h st (st.set t v') := by
  intro μ w us ok hr
  have : ∀ (st : List AV) (us : List Value) (t : Nat), st[t]? = some v → AV.relL ⟨μ, h, w⟩ st us → AV.relL ⟨μ, h, w⟩ (st.set t v') us := by
    intro st
    induction st with
    | nil => intro us t hv hr; simp at hv
    | cons a az ih =>
      rintro us t hv ⟨x, xs, rfl, h1, h2⟩
      cases t with
      | zero => simp at hv; subst hv; exact ⟨x, xs, rfl, f μ w x ok h1, h2⟩
      | succ t => simp at hv; exact ⟨x, xs, rfl, h1, ih xs t hv h2⟩
  exact this st us t hv hr
theorem AOps_weak {ops : Array Oper} {Q : List AV → AHeap → Prop} {i : Nat} {l : List Nat} (f : FrzL 0 h st st') (k : AOps P E n ops Q (i :: l) st' h) : AOps P E n ops Q (i :: l) st h :=
  fun Q' μ w a hn ft => k Q' μ w a hn ⟨ft.env, ft.ok, f μ w _ ft.ok ft.tmps, ft.defers⟩
end
end Go.Proofs.YtjhbobacbaikoaaGreatDoor
/- A new row laid in the place of one that is gone; rows out of nothing; appends in the form in which a printed proof uses them. -/
namespace Go.Proofs.YtjhbobacbaikoaaGreatDoor
open Go
set_option linter.unusedVariables false
set_option linter.unusedSimpArgs false

/-- The newest block (m) is from now on block i. -/
def AV.to (m i : Nat) : AV → AV
  | .sl id off len k => bif id == m then .sl i off len k else .sl id off len k
  | .ptr id off => bif id == m then .ptr i off else .ptr id off
  | a => a
/-- Neither block i nor (but ahead) block m is named. -/
def AV.toOk (m i : Nat) : AV → Prop
  | .sl id _ _ _ => id ≠ i
  | .ptr id _ => id ≠ i
  | .ro _ _ cells => onL (fun k => k ≠ i ∧ k ≠ m) cells
  | .rop cells => onL (fun k => k ≠ i ∧ k ≠ m) cells
  | .agg cells => onL (fun k => k ≠ i ∧ k ≠ m) cells
  | .tup cells => onL (fun k => k ≠ i ∧ k ≠ m) cells
  | .fn _ a b => onL (fun k => k ≠ i ∧ k ≠ m) a ∧ onL (fun k => k ≠ i ∧ k ≠ m) b
  | _ => True
def toOkL (m i : Nat) : List AV → Prop
  | [] => True
  | a :: l => a.toOk m i ∧ toOkL m i l
def ABlk.to (m i : Nat) : ABlk → ABlk
  | .cells t cs => .cells t (cs.map (AV.to m i))
  | b => b
def ABlk.toOk (m i : Nat) : ABlk → Prop
  | .cells _ cs => toOkL m i cs
  | .row _ cs => onL (fun k => k ≠ i ∧ k ≠ m) cs
  | _ => True
def toOkH (m i : Nat) : AHeap → Prop
  | [] => True
  | b :: l => b.toOk m i ∧ toOkH m i l
theorem toOkH_get {m i : Nat} : ∀ {h : AHeap}, toOkH m i h → ∀ {j : Nat} {b : ABlk}, hget h j = some b → b.toOk m i
  | [], _, j, b, e => by simp [hget] at e
  | x :: h, ho, j, b, e => by
    simp only [hget] at e
    split at e
    · cases e; exact ho.1
    · exact toOkH_get ho.2 e
theorem hget_map {f : ABlk → ABlk} : ∀ {h : AHeap} {j : Nat}, hget (h.map f) j = (hget h j).map f
  | [], j => rfl
  | x :: h, j => by
    simp only [List.map_cons, hget, List.length_map]
    split
    · rfl
    · exact hget_map
theorem one_to {m i : Nat} (a : AV) : (a.to m i).one = a.one := by
  cases a with
  | sl id off len k => simp only [AV.to]; cases (id == m) <;> rfl
  | ptr id off => simp only [AV.to]; cases (id == m) <;> rfl
  | _ => rfl
theorem all_to {m i : Nat} : ∀ cs : List AV, (cs.map (AV.to m i)).all AV.one = cs.all AV.one
  | [] => rfl
  | a :: l => by rw [List.map_cons, List.all_cons, List.all_cons, one_to, all_to l]
section
variable {P : Program} {E : Env} {n : Nat} {st st' : List AV} {h h' : AHeap}
theorem Norm_move {b : ABlk} (i : Nat) (hi : hget h i = some .dead) (hn : n ≤ i) (hb : b ≠ .dead) (hst : toOkL h.length i st) (hh : toOkH h.length i (b :: h))
    (e1 : st.map (AV.to h.length i) = st') (e2 : hset (h.map (ABlk.to h.length i)) i (b.to h.length i) = h') : Norm P E n st (b :: h) st' h' := by
  subst e1 e2
  refine Norm_of fun μ w hnl ok => ?_
  have hil : i < h.length := hget_lt hi
  let m := h.length
  let μ' : Mu := ⟨fun k => if k = i then μ m else μ k, μ.x⟩
  let c : Cx := ⟨μ, b :: h, w⟩
  let d : Cx := ⟨μ', hset (h.map (ABlk.to m i)) i (b.to m i), w⟩
  have hbn : hget (b :: h) m = some b := hget_cons_new h b
  have hma : alive (b :: h) m := ⟨b, hbn, hb⟩
  have to_dead : ∀ x : ABlk, x.to m i = .dead → x = .dead := by intro x; cases x <;> simp [ABlk.to]
  have to_lim : ∀ x : ABlk, (x.to m i).lim = x.lim := by intro x; cases x <;> rfl
  have hdl : d.h.length = h.length := by simp [d]
  -- what lies where
  have hget' : ∀ j y, hget d.h j = some y → (j = i ∧ y = b.to m i) ∨ (j ≠ i ∧ ∃ x, hget (b :: h) j = some x ∧ j < m ∧ y = x.to m i) := by
    intro j y hj
    by_cases e : j = i
    · subst e
      have : hget d.h j = some (b.to m j) := hget_hset_same _ (by simpa using hil)
      rw [this] at hj; cases hj; exact .inl ⟨rfl, rfl⟩
    · have h1 : hget d.h j = hget (h.map (ABlk.to m i)) j := hget_hset_ne _ e
      rw [h1, hget_map] at hj
      cases hx : hget h j with
      | none => rw [hx] at hj; cases hj
      | some x =>
        rw [hx] at hj; cases hj
        exact .inr ⟨e, x, by rw [hget_cons_old (hget_lt hx)]; exact hx, hget_lt hx, rfl⟩
  have hal : ∀ j, alive d.h j → (j = i ∧ d.μ j = μ m) ∨ (j ≠ i ∧ alive c.h j ∧ j < m ∧ d.μ j = μ j) := by
    rintro j ⟨y, hj, hy⟩
    rcases hget' j y hj with ⟨rfl, _⟩ | ⟨hne, x, hx, hlt, rfl⟩
    · exact .inl ⟨rfl, by simp [d, μ']⟩
    · exact .inr ⟨hne, ⟨x, hx, fun e => hy (by rw [e]; rfl)⟩, hlt, by simp [d, μ', hne]⟩
  have hstill : ∀ bb k, c.still bb k → d.still bb k := by
    rintro bb k ⟨s1, s2, s3⟩
    refine ⟨s1, fun j y hj hy e => ?_, s3⟩
    rcases hget' j y hj with ⟨rfl, rfl⟩ | ⟨hne, x, hx, hlt, rfl⟩
    · rw [to_lim]
      exact s2 m b hbn hb (by have e' : (if j = j then μ m else μ j) = some bb := e
                              simpa using e')
    · rw [to_lim]
      refine s2 j x hx (fun e0 => hy (by rw [e0]; rfl)) ?_
      have e' : (if j = i then μ m else μ j) = some bb := e
      rwa [if_neg hne] at e'
  have hon : ∀ id, (id ≠ i ∧ id ≠ m) → id < c.h.length → id < d.h.length ∧ (alive d.h id → alive c.h id ∧ d.μ id = c.μ id) := by
    intro id hid hl
    have hl' : id < m + 1 := hl
    refine ⟨by rw [hdl]; show id < m; have := hid.2; omega, fun ha => ?_⟩
    rcases hal id ha with ⟨e, _⟩ | ⟨_, h1, _, h2⟩
    · exact absurd e hid.1
    · exact ⟨h1, h2⟩
  have hrel : ∀ (a : AV) (u : Value), a.toOk m i → AV.rel c a u → AV.rel d (a.to m i) u := by
    intro a u ho hr
    cases a with
    | sl id off len k =>
      have ho' : id ≠ i := ho
      obtain ⟨r1, r2, r3⟩ := hr
      have r1' : id < m + 1 := r1
      simp only [AV.to]
      cases hid : (id == m) with
      | true =>
        have hid' : id = m := by simpa using hid
        subst hid'
        simp only [cond_true]
        refine ⟨by rw [hdl]; exact hil, r2, fun _ => ?_⟩
        have : d.μ i = c.μ h.length := by simp [d, μ', c, m]
        rw [this]; exact r3 hma
      | false =>
        have hid' : id ≠ m := by simpa using hid
        simp only [cond_false]
        refine ⟨by rw [hdl]; show id < m; omega, r2, fun ha => ?_⟩
        obtain ⟨g1, g2⟩ := (hon id ⟨ho', hid'⟩ r1).2 ha
        rw [g2]; exact r3 g1
    | ptr id off =>
      have ho' : id ≠ i := ho
      obtain ⟨r1, r2, r3⟩ := hr
      have r1' : id < m + 1 := r1
      simp only [AV.to]
      cases hid : (id == m) with
      | true =>
        have hid' : id = m := by simpa using hid
        subst hid'
        simp only [cond_true]
        refine ⟨by rw [hdl]; exact hil, r2, fun _ => ?_⟩
        have : d.μ i = c.μ h.length := by simp [d, μ', c, m]
        rw [this]; exact r3 hma
      | false =>
        have hid' : id ≠ m := by simpa using hid
        simp only [cond_false]
        refine ⟨by rw [hdl]; show id < m; omega, r2, fun ha => ?_⟩
        obtain ⟨g1, g2⟩ := (hon id ⟨ho', hid'⟩ r1).2 ha
        rw [g2]; exact r3 g1
    | val v => exact hr
    | any => trivial
    | ro k q cells => exact rel_on (c := c) (d := d) rfl hstill hon (.ro k q cells) u ho hr
    | rop cells => exact rel_on (c := c) (d := d) rfl hstill hon (.rop cells) u ho hr
    | agg cells => exact rel_on (c := c) (d := d) rfl hstill hon (.agg cells) u ho hr
    | tup cells => exact rel_on (c := c) (d := d) rfl hstill hon (.tup cells) u ho hr
    | fn f a b => exact rel_on (c := c) (d := d) rfl hstill hon (.fn f a b) u ho hr
  have hrelL : ∀ (az : List AV) (us : List Value), toOkL m i az → AV.relL c az us → AV.relL d (az.map (AV.to m i)) us := by
    intro az
    induction az with
    | nil => intro us _ hr; exact hr
    | cons a az ih => rintro us ho ⟨x, xs, rfl, h1, h2⟩; exact ⟨x, xs, rfl, hrel a x ho.1 h1, ih xs ho.2 h2⟩
  have hblk : ∀ (x : ABlk) (q : Option Nat), x.toOk m i → x.rel c q → (x.to m i).rel d q := by
    intro x q ho hr
    cases x with
    | cells t cs =>
      rcases hr with ⟨bb, cv, vs, rest, g0, g1, g2, g3, g4⟩ | ⟨g0, rfl⟩
      · exact .inl ⟨bb, cv, vs, rest, g0, g1, g2, hrelL cs vs ho g3, by rw [all_to]; exact g4⟩
      · exact .inr ⟨g0, rfl⟩
    | row t cs =>
      rcases hr with ⟨bb, cv, vs, rest, g0, g1, g2, g3, g4⟩ | hr
      · exact .inl ⟨bb, cv, vs, rest, g0, g1, g2, relL_on (c := c) (d := d) rfl hstill hon cs vs ho g3, g4⟩
      · exact .inr hr
    | iter s p => exact hr
    | dead => trivial
  refine ⟨μ', ⟨rfl, rfl, rfl, Nat.le_refl _, by rw [hdl]; omega, rfl, fun _ _ => rfl, fun bb k hb' => ⟨hstill bb k hb', fun _ _ _ => rfl⟩, fun j hj ha => ?_, fun j hj ha bb e cv t fr hc => ⟨cv, hc, rfl⟩, fun j ha bb e => .inl ?_⟩, ⟨fun j y hj => ?_, fun j k bb hj hk e1 e2 => ?_, fun j bb hj e => ?_, ok.xlt⟩, fun us hr => hrelL st us hst hr⟩
  · rcases hal j ha with ⟨e, _⟩ | ⟨_, h1, _, h2⟩
    · omega
    · exact ⟨h1, h2⟩
  · rcases hal j ha with ⟨_, h2⟩ | ⟨_, h1, _, h2⟩
    · exact ⟨m, hma, by have e' : d.μ j = some bb := e
                        rw [h2] at e'; exact e'⟩
    · exact ⟨j, h1, by have e' : d.μ j = some bb := e
                       rw [h2] at e'; exact e'⟩
  · rcases hget' j y hj with ⟨rfl, rfl⟩ | ⟨hne, x, hx, hlt, rfl⟩
    · have : d.μ j = c.μ m := by simp [d, μ', c]
      show (b.to m j).rel d (d.μ j)
      rw [this]
      exact hblk b _ (toOkH_get hh hbn) (ok.blk m b hbn)
    · have : d.μ j = c.μ j := by simp [d, μ', c, hne]
      show (x.to m i).rel d (d.μ j)
      rw [this]
      exact hblk x _ (toOkH_get hh hx) (ok.blk j x hx)
  · have key : ∀ j, alive d.h j → d.μ j = some bb → ∃ z, alive c.h z ∧ c.μ z = some bb ∧ (z = m → j = i) ∧ (z ≠ m → j = z) := by
      intro j hj e
      rcases hal j hj with ⟨e0, h2⟩ | ⟨_, h1, hlt, h2⟩
      · exact ⟨m, hma, by rw [h2] at e; exact e, fun _ => e0, fun hne => absurd rfl hne⟩
      · exact ⟨j, h1, by rw [h2] at e; exact e, fun e0 => by omega, fun _ => rfl⟩
    obtain ⟨z1, a1, b1, c1, d1⟩ := key j hj e1
    obtain ⟨z2, a2, b2, c2, d2⟩ := key k hk e2
    have hz : z1 = z2 := ok.inj z1 z2 bb a1 a2 b1 b2
    subst hz
    by_cases e : z1 = m
    · rw [c1 e, c2 e]
    · rw [d1 e, d2 e]
  · rcases hal j hj with ⟨_, h2⟩ | ⟨_, h1, _, h2⟩
    · exact ok.nx m bb hma (by have e' : d.μ j = some bb := e
                               rw [h2] at e'; exact e')
    · exact ok.nx j bb h1 (by have e' : d.μ j = some bb := e
                              rw [h2] at e'; exact e')
end
end Go.Proofs.YtjhbobacbaikoaaGreatDoor
/- Rows out of nothing, and appends, in the form in which a printed proof uses them. -/
namespace Go.Proofs.YtjhbobacbaikoaaGreatDoor
open Go
set_option linter.unusedVariables false
set_option linter.unusedSimpArgs false

mutual
theorem on_all {S : Nat → Prop} (h : ∀ i, S i) : ∀ a : AV, a.on S
  | .val _ => trivial
  | .ro _ _ cells => onL_all h cells
  | .sl id _ _ _ => h id
  | .ptr id _ => h id
  | .rop cells => onL_all h cells
  | .agg cells => onL_all h cells
  | .tup vs => onL_all h vs
  | .fn _ a b => ⟨onL_all h a, onL_all h b⟩
  | .any => trivial
theorem onL_all {S : Nat → Prop} (h : ∀ i, S i) : ∀ az : List AV, onL S az
  | [] => trivial
  | a :: az => ⟨on_all h a, onL_all h az⟩
end
theorem app_nil_eq {μ : Mu} {h : AHeap} {b : ABlk} {w : World} : (⟨μ, h, w⟩ : Cx).app h.length none b w = ⟨((⟨μ, h, w⟩ : Cx).app h.length none b w).μ, b :: h, w⟩ := by
  show (⟨_, _, _⟩ : Cx) = _
  congr 1
  simp [hset_ge _ (Nat.le_refl _)]
theorem app_nil {μ : Mu} {h : AHeap} {w : World} (ok : (⟨μ, h, w⟩ : Cx).Ok) (e : TypeId) :
    ∃ μ' : Mu, μ' h.length = none ∧ (⟨μ', .row e [] :: h, w⟩ : Cx).Ok ∧ Cx.To ⟨μ, h, w⟩ ⟨μ', .row e [] :: h, w⟩ := by
  have hh : ∀ k, k < w.heap.size → (none : Option Nat) ≠ some k → w.heap[k]? = w.heap[k]? := fun _ _ _ => rfl
  have t : Cx.To ⟨μ, h, w⟩ ((⟨μ, h, w⟩ : Cx).app h.length none (.row e []) w) := app_to ok rfl rfl rfl (Nat.le_refl _) hh (fun k hk => by cases hk) (fun k q hk => by cases hk)
  have o := app_ok t ok hh (fun k hk => by cases hk) (.inr ⟨rfl, rfl⟩)
  have hm : ((⟨μ, h, w⟩ : Cx).app h.length none (.row e []) w).μ h.length = none := app_mu_new (c := ⟨μ, h, w⟩)
  rw [app_nil_eq] at t o
  exact ⟨_, hm, o, t⟩
theorem rel_nil {μ : Mu} {h : AHeap} {w : World} {e : TypeId} {sz : Nat} {c : Cx} {u : Value} (hm : μ h.length = none) (hr : AV.rel c (.ro .full 0 []) u) : AV.rel ⟨μ, .row e [] :: h, w⟩ (.sl h.length 0 0 (.whole sz)) u := by
  obtain ⟨a, cap, vs, rfl, hk, _⟩ := hr
  have : cap = 0 := hk.2.2 rfl
  subst this
  exact ⟨by simp, rfl, fun _ => .inr ⟨hm, rfl, rfl, a, rfl⟩⟩
section
variable {P : Program} {E : Env} {n : Nat} {st st' : List AV} {h h' : AHeap}
theorem relL_set_at {c : Cx} : ∀ {st : List AV} {us : List Value} {t : Nat} {v v' : AV}, st[t]? = some v → (∀ u, AV.rel c v u → AV.rel c v' u) → AV.relL c st us → AV.relL c (st.set t v') us
  | [], us, t, v, v', hv, _, hr => by simp at hv
  | a :: az, us, 0, v, v', hv, f, hr => by obtain ⟨x, xs, rfl, h1, h2⟩ := hr; simp at hv; subst hv; exact ⟨x, xs, rfl, f x h1, h2⟩
  | a :: az, us, t + 1, v, v', hv, f, hr => by obtain ⟨x, xs, rfl, h1, h2⟩ := hr; simp at hv; exact ⟨x, xs, rfl, h1, relL_set_at hv f h2⟩
/-- A place that holds nil holds an empty row of one's own. -/
theorem Norm_nil (t : Nat) (e : TypeId) (sz : Nat) (hv : st[t]? = some (.ro .full 0 [])) : Norm P E n st h (st.set t (.sl h.length 0 0 (.whole sz))) (.row e [] :: h) :=
  Norm_of fun μ w hn ok => by
    obtain ⟨μ', hm, o, t'⟩ := app_nil ok e
    exact ⟨μ', t'.le hn, o, fun us hr => relL_set_at hv (fun u hu => rel_nil hm hu) (AV.relL_to t' _ _ hr)⟩
/-- The same for a cell. -/
theorem Norm_nilc (id k : Nat) (e : TypeId) (sz : Nat) {ty : TypeId} {cs : List AV} (hg : hget h id = some (.cells ty cs)) (hv : cs[k]? = some (.ro .full 0 [])) :
    Norm P E n st h st (.row e [] :: hset h id (.cells ty (cs.set k (.sl h.length 0 0 (.whole sz))))) :=
  Norm_of fun μ w hn ok => by
    obtain ⟨μ', hm, o, t'⟩ := app_nil ok e
    have hid := hget_lt hg
    let c : Cx := ⟨μ', .row e [] :: h, w⟩
    let b' : ABlk := .cells ty (cs.set k (.sl h.length 0 0 (.whole sz)))
    let d : Cx := ⟨μ', .row e [] :: hset h id b', w⟩
    have hlen : (hset h id b').length = h.length := hset_length _ _ _
    have hne : ∀ j, j ≠ id → hget d.h j = hget c.h j := by
      intro j hj
      simp only [d, c, hget, hlen]
      split
      · rfl
      · exact hget_hset_ne _ hj
    have hid1 : hget c.h id = some (.cells ty cs) := by rw [hget_cons_old hid]; exact hg
    have hid2 : hget d.h id = some b' := by rw [hget_cons_old (by rw [hlen]; exact hid)]; exact hget_hset_same _ hid
    have hal : ∀ j, alive d.h j ↔ alive c.h j := by
      intro j
      by_cases e0 : j = id
      · subst e0
        exact ⟨fun _ => ⟨_, hid1, by simp⟩, fun _ => ⟨_, hid2, by simp [b']⟩⟩
      · simp only [alive, hne j e0]
    have hst : ∀ bb q, c.still bb q → d.still bb q := by
      rintro bb q ⟨s1, s2, s3⟩
      refine ⟨s1, fun j y hj hy e0 => ?_, s3⟩
      by_cases e1 : j = id
      · subst e1
        rw [hid2] at hj; cases hj
        exact (s2 j _ hid1 (by simp) e0 : q < 0)
      · rw [hne j e1] at hj; exact s2 j y hj hy e0
    have hdl : d.h.length = c.h.length := by simp [d, c, hlen]
    have hall : ∀ (az : List AV) (us : List Value), AV.relL c az us → AV.relL d az us := fun az us hr =>
      relL_on (c := c) (d := d) (S := fun _ => True) rfl hst (fun i _ hi => ⟨by rw [hdl]; exact hi, fun ha => ⟨(hal i).1 ha, rfl⟩⟩) az us (onL_all (fun _ => trivial) az) hr
    refine ⟨μ', ?_, ?_, fun us hr => hall _ _ (AV.relL_to t' _ _ hr)⟩
    · refine (t'.le hn).trans (d := c) ⟨rfl, rfl, rfl, Nat.le_refl _, by rw [hdl]; simp [c]; omega, rfl, fun _ _ => rfl, fun bb q hb => ⟨hst bb q hb, fun _ _ _ => rfl⟩, fun j _ ha => ⟨(hal j).1 ha, rfl⟩, fun j _ _ bb _ cv ty fr hc => ⟨cv, hc, rfl⟩, fun j ha bb hb => .inl ⟨j, (hal j).1 ha, hb⟩⟩
    · refine ⟨fun j y hj => ?_, fun i j bb hi hj e1 e2 => o.inj i j bb ((hal i).1 hi) ((hal j).1 hj) e1 e2, fun i bb hi e0 q => o.nx i bb ((hal i).1 hi) e0 q, o.xlt⟩
      by_cases e1 : j = id
      · subst e1
        rw [hid2] at hj; cases hj
        rcases o.blk j _ hid1 with ⟨bb, cv, vs, rest, g0, g1, g2, g3, g4⟩ | ⟨_, e2⟩
        · refine .inl ⟨bb, cv, vs, rest, g0, g1, g2, relL_set_at (c := d) hv (fun u hu => ?_) (hall _ _ g3), ?_⟩
          · have hu' : AV.rel ⟨μ', .row e [] :: hset h j b', w⟩ (.sl (hset h j b').length 0 0 (.whole sz)) u := rel_nil (by rw [hlen]; exact hm) hu
            rwa [hlen] at hu'
          · rw [List.all_eq_true] at g4 ⊢
            intro x hx
            rcases List.mem_or_eq_of_mem_set hx with hx | rfl
            · exact g4 x hx
            · rfl
        · rw [e2] at hv; simp at hv
      · rw [hne j e1] at hj
        have := o.blk j y hj
        cases y with
        | cells t2 cs2 =>
          rcases this with ⟨bb, cv, vs, rest, g0, g1, g2, g3, g4⟩ | g
          · exact .inl ⟨bb, cv, vs, rest, g0, g1, g2, hall _ _ g3, g4⟩
          · exact .inr g
        | row t2 cs2 =>
          rcases this with ⟨bb, cv, vs, rest, g0, g1, g2, g3, g4⟩ | g
          · exact .inl ⟨bb, cv, vs, rest, g0, g1, g2, hall _ _ g3, g4⟩
          · exact .inr g
        | iter s p => exact this
        | dead => trivial
end
end Go.Proofs.YtjhbobacbaikoaaGreatDoor
/- Appends onto a row of one's own, and meeting places that are reached by bringing the state into form. -/
namespace Go.Proofs.YtjhbobacbaikoaaGreatDoor
open Go
set_option linter.unusedVariables false
set_option linter.unusedSimpArgs false

def appO {α : Type} (bs : Nat) (xs ys : List α) : Option (List α) := bif decide (xs.length + ys.length ≤ 4611686018427387904) && decide ((xs.length + ys.length) * bs ≤ 140737488355328) then some (xs ++ ys) else none
theorem appO_spec {α : Type} {bs : Nat} {xs ys zs : List α} (h : appO bs xs ys = some zs) : xs.length + ys.length ≤ 4611686018427387904 ∧ (xs.length + ys.length) * bs ≤ 140737488355328 ∧ zs = xs ++ ys := by
  unfold appO at h
  by_cases h1 : xs.length + ys.length ≤ 4611686018427387904 <;> by_cases h2 : (xs.length + ys.length) * bs ≤ 140737488355328 <;> simp [h1, h2] at h
  exact ⟨h1, h2, h.symm⟩
def appB (P : Program) (E : Env) (ops : Array Oper) (i : Nat) (st : List AV) : Option (AV × Nat × List AV × TypeId × Option Tmp) := match ops[i]? with
  | some o => match wantA ops st o, o.op with
    | some true, .call { callee := .builtin .append, args, argTypes } => match args.toList, argTypes.toList with
      | [s, x], [t, tx] => match telem P t, telem P tx with
        | some e, some e' => match tzero P e, evA E st x with
          | some z, .ro _ m cells => bif tok P e && z.cells.size == tsize P e && Nat.blt 0 (tsize P e) then some (evA E st s, m, cells, e, o.dst) else none
          | _, _ => none
        | _, _ => none
      | _, _ => none
    | _, _ => none
  | none => none
section
variable {P : Program} {E : Env} {n : Nat} {ops : Array Oper} {Q : List AV → AHeap → Prop} {l : List Nat} {i : Nat} {st : List AV} {h h' : AHeap} {d : Option Tmp}
theorem appB_spec {v : AV} {m : Nat} {cells : List AV} {e : TypeId} (hop : appB P E ops i st = some (v, m, cells, e, d)) :
    ∃ o s x t tx e' z k, ops[i]? = some o ∧ wantA ops st o = some true ∧ o.op = .call { callee := .builtin .append, args := #[s, x], argTypes := #[t, tx] } ∧ telem P t = some e ∧ telem P tx = some e' ∧ tzero P e = some z ∧
      evA E st x = .ro k m cells ∧ evA E st s = v ∧ tok P e = true ∧ z.cells.size = tsize P e ∧ 0 < tsize P e ∧ o.dst = d := by
  unfold appB at hop
  cases hi : ops[i]? with
  | none => simp [hi] at hop
  | some o =>
    simp only [hi] at hop
    split at hop
    · rename_i args ats hw ho
      split at hop
      · rename_i s x t tx ha hat
        split at hop
        · rename_i e1 e2 ht htx
          split at hop
          · rename_i z k m' cells' hz hx
            cases hb : (tok P e1 && z.cells.size == tsize P e1 && Nat.blt 0 (tsize P e1)) with
            | false => simp [hb] at hop
            | true =>
              simp only [hb, cond_true, Option.some.injEq, Prod.mk.injEq] at hop
              obtain ⟨rfl, rfl, rfl, rfl, rfl⟩ := hop
              simp only [Bool.and_eq_true, beq_iff_eq] at hb
              have e1' : args = #[s, x] := by apply Array.ext'; rw [ha]
              have e2' : ats = #[t, tx] := by apply Array.ext'; rw [hat]
              subst e1' e2'
              exact ⟨o, s, x, t, tx, e2, z, k, rfl, hw, ho, ht, htx, hz, hx, rfl, hb.1.1, hb.1.2, by simpa using hb.2, rfl⟩
          · cases hop
        · cases hop
      · cases hop
    · cases hop
theorem flatMap_len {α : Type} {c : α → List AV} {sz : Nat} (hsz : ∀ x, (c x).length = sz) : ∀ xs : List α, (xs.flatMap c).length = xs.length * sz
  | [] => by simp
  | x :: xs => by rw [List.flatMap_cons, List.length_append, hsz, flatMap_len hsz xs, List.length_cons, Nat.succ_mul, Nat.add_comm]
theorem AOps_append {α : Type} {c : α → List AV} {xs ys zs : List α} {id sz bs m : Nat} {e : TypeId} {cells rc cells' : List AV} (hop : appB P E ops i st = some (.sl id 0 xs.length (.whole sz), m, cells, e, d)) (hm : m = ys.length) (hcl : cells = ys.flatMap c)
    (hg : hget h id = some (.row e rc)) (hrc : rc = xs.flatMap c) (hsz : ∀ x, (c x).length = sz) (hts : tsize P e = sz) (hbs : tbytes P e = bs) (hv : appO bs xs ys = some zs) (hcl' : cells' = zs.flatMap c)
    (hh : .row e cells' :: hset h id .dead = h') (k : AOps P E n ops Q l (putA st d (.sl h.length 0 zs.length (.whole sz))) h') : AOps P E n ops Q (i :: l) st h := by
  obtain ⟨o, s, x, t, tx, e', z, kk, hi, hw, ho, ht, htx, hz, hx, hs, htok, hzs, hpos, rfl⟩ := appB_spec hop
  obtain ⟨h1, h2, rfl⟩ := appO_spec hv
  subst hm hcl hrc hcl' hh hbs
  rw [← hts] at hs hsz k
  have hl := flatMap_len hsz ys
  have src : SrcA P h (tsize P e) tx (evA E st x) ys.length (ys.flatMap c) := by rw [hx]; exact SrcA_ro htx hl (by omega)
  refine AOps_step hi hw (gives_append_own true ho ht htok hz hzs (by omega) hs hg (List.append_nil _).symm (fun _ => rfl) (flatMap_len hsz xs) src hl h1 h2) ?_
  have e1 : mkB true e (xs.flatMap c ++ ys.flatMap c) = .row e ((xs ++ ys).flatMap c) := by rw [List.flatMap_append]; rfl
  rw [e1]
  simpa only [List.length_append] using k
theorem AOps_append_nil {α : Type} {c : α → List AV} {ys zs : List α} {sz bs m : Nat} {e : TypeId} {cells cells' : List AV} (hop : appB P E ops i st = some (.ro .full 0 [], m, cells, e, d)) (hm : m = ys.length) (hcl : cells = ys.flatMap c)
    (hsz : ∀ x, (c x).length = sz) (hts : tsize P e = sz) (hbs : tbytes P e = bs) (hv : appO bs [] ys = some zs) (hcl' : cells' = zs.flatMap c)
    (k : AOps P E n ops Q l (putA st d (.sl h.length 0 zs.length (.whole sz))) (.row e cells' :: h)) : AOps P E n ops Q (i :: l) st h := by
  obtain ⟨o, s, x, t, tx, e', z, kk, hi, hw, ho, ht, htx, hz, hx, hs, htok, hzs, hpos, rfl⟩ := appB_spec hop
  obtain ⟨h1, h2, hz'⟩ := appO_spec hv
  have hz2 : ys = zs := hz'.symm
  subst hz2
  subst hm hcl hcl' hbs
  rw [← hts] at hsz k
  have hl := flatMap_len hsz ys
  have src : SrcA P h (tsize P e) tx (evA E st x) ys.length (ys.flatMap c) := by rw [hx]; exact SrcA_ro htx hl (by omega)
  simp only [List.length_nil, Nat.zero_add] at h1 h2
  refine AOps_step hi hw (gives_append_nil true ho ht htok hz hzs hs src hl h1 h2) ?_
  exact k

/-- What follows a piece of code, proved once; on arrival the state is brought into form. -/
theorem AWP_joinN {α : Type} {x y : Code} {Q : Exit → List AV → AHeap → Prop} (S : α → List AV) (H : α → AHeap) (C : α → Prop) (ky : ∀ a, C a → AWP P E n y Q (S a) (H a))
    (s : AWP P E n x (thenA (fun s1 h1 => ∃ a, C a ∧ Norm P E n s1 h1 (S a) (H a)) Q) st h) : AWP P E n (.seq x y) Q st h := by
  refine AWP_seq (s.mono fun e s1 h1 q => ?_)
  cases e with
  | normal => obtain ⟨a, hc, hn⟩ := q; exact hn _ _ (ky a hc)
  | exit id => exact q
  | goto l => exact q
  | ret => exact q
  | panic ch => exact q
  | outgrown => exact q
theorem AWP_loopN {α : Type} {c : Code} {Q : Exit → List AV → AHeap → Prop} (S : α → List AV) (H : α → AHeap) (C : Nat → α → Prop)
    (round : ∀ k a, C k a → AWP P E n c (thenA (fun s1 h1 => ∃ a' m, m < k ∧ C m a' ∧ Norm P E n s1 h1 (S a') (H a')) Q) (S a) (H a)) {k : Nat} (a : α) (h0 : C k a) (hn : Norm P E n st h (S a) (H a)) : AWP P E n (.loop c) Q st h := by
  refine hn _ _ (AWP_loop (fun k s1 h1 => ∃ a, C k a ∧ Norm P E n s1 h1 (S a) (H a)) ?_ ⟨a, h0, Norm_refl⟩)
  rintro k s1 h1 ⟨a, hc, hn⟩
  refine hn _ _ ((round k a hc).mono fun e s2 h2 q => ?_)
  cases e with
  | normal => obtain ⟨a', m, hm, hc', hn'⟩ := q; exact ⟨m, hm, a', hc', hn'⟩
  | exit id => exact q
  | goto l => exact q
  | ret => exact q
  | panic ch => exact q
  | outgrown => exact q
end
end Go.Proofs.YtjhbobacbaikoaaGreatDoor
/- Bringing a state into form, step by step, as a printed proof does it. -/
namespace Go.Proofs.YtjhbobacbaikoaaGreatDoor
open Go
set_option linter.unusedVariables false
set_option linter.unusedSimpArgs false
def toP (m i : Nat) : List (Nat × AV) → Prop
  | [] => True
  | p :: l => p.2.toOk m i ∧ toP m i l
theorem toP_lookup {m i : Nat} : ∀ {l : List (Nat × AV)}, toP m i l → ∀ {j : Nat} {v : AV}, l.lookup j = some v → v.toOk m i
  | [], _, j, v, e => by simp at e
  | p :: l, h, j, v, e => by
    rw [List.lookup_cons] at e
    split at e
    · cases e; exact h.1
    · exact toP_lookup h.2 e
theorem toOkL_fr {m i : Nat} {l : List (Nat × AV)} (h : toP m i l) {N : Nat} : toOkL m i (fr N l) := by
  have key : ∀ (k j : Nat), toOkL m i (frFrom l j k) := by
    intro k
    induction k with
    | zero => intro j; trivial
    | succ k ih =>
      intro j
      refine ⟨?_, ih (j + 1)⟩
      show AV.toOk m i (match l.lookup j with | some v => v | none => .any)
      cases e : l.lookup j with
      | none => trivial
      | some v => exact toP_lookup h e
  exact key N 0
theorem on0 {S : Nat → Prop} {az : List AV} (h : scL 0 az) : onL S az := onL_sc (fun i hi => absurd hi (Nat.not_lt_zero _)) az h
theorem toOk_sl {m i id off len : Nat} {k : Cap} (h : Nat.beq id i = false) : AV.toOk m i (.sl id off len k) := Nat.ne_of_beq_eq_false h
theorem toOk_ptr {m i id off : Nat} (h : Nat.beq id i = false) : AV.toOk m i (.ptr id off) := Nat.ne_of_beq_eq_false h
theorem on_sl {m i id off len : Nat} {k : Cap} (h : Nat.beq id i = false) (h2 : Nat.beq id m = false) : AV.on (fun k => k ≠ i ∧ k ≠ m) (.sl id off len k) := ⟨Nat.ne_of_beq_eq_false h, Nat.ne_of_beq_eq_false h2⟩
theorem sc_sl {n id off len : Nat} {k : Cap} (h : Nat.blt id n = true) : AV.sc n (.sl id off len k) := by simpa [AV.sc] using h
section
variable {P : Program} {E : Env} {n : Nat} {st st' : List AV} {h h' : AHeap}
theorem AOps_weak1 {ops : Array Oper} {Q : List AV → AHeap → Prop} {i : Nat} {l : List Nat} (t : Nat) (v v' : AV) (hv : st[t]? = some v) (f : Frz 0 h v v') (e : st.set t v' = st') (k : AOps P E n ops Q (i :: l) st' h) : AOps P E n ops Q (i :: l) st h := by
  subst e; exact AOps_weak (FrzL_set0 hv f) k
theorem Norm_move' {b : ABlk} (i m : Nat) {h : AHeap} (hm : h.length = m) (hi : hget h i = some .dead) (hn : Nat.ble n i = true) (hb : b ≠ .dead) (hst : toOkL m i st) (hh : toOkH m i (b :: h))
    (e1 : st.map (AV.to m i) = st') (e2 : hset (h.map (ABlk.to m i)) i (b.to m i) = h') : Norm P E n st (b :: h) st' h' := by
  subst hm; exact Norm_move i hi (Nat.le_of_ble_eq_true hn) hb hst hh e1 e2
theorem Norm_nil' (t : Nat) (e : TypeId) (sz : Nat) (hv : st[t]? = some (.ro .full 0 [])) {h' : AHeap} (hh : .row e [] :: h = h') (hs : st.set t (.sl h.length 0 0 (.whole sz)) = st') : Norm P E n st h st' h' := by
  subst hh hs; exact Norm_nil t e sz hv
theorem Norm_fd (ks : List Nat) (m : Nat) (e : forget ks st = st') (eh : h.drop m = h') (h1 : Nat.ble n h'.length = true) (h2 : clB h'.length h') (h3 : scL h'.length st') : Norm P E n st h st' h' :=
  Norm_trans (Norm_forget ks e) (Norm_drop m eh (Nat.le_of_ble_eq_true h1) (Closed_of h2) h3)
theorem Norm_nilc' (id k m : Nat) (e : TypeId) (sz : Nat) {ty : TypeId} {cs : List AV} (hm : h.length = m) (hg : hget h id = some (.cells ty cs)) (hv : cs[k]? = some (.ro .full 0 []))
    (hh : .row e [] :: hset h id (.cells ty (cs.set k (.sl m 0 0 (.whole sz)))) = h') : Norm P E n st h st h' := by
  subst hm hh; exact Norm_nilc id k e sz hg hv
end
end Go.Proofs.YtjhbobacbaikoaaGreatDoor
/- Looks into a package variable that holds an array. -/
namespace Go.Proofs.YtjhbobacbaikoaaGreatDoor
open Go
set_option linter.unusedVariables false
set_option linter.unusedSimpArgs false
def gidxB (P : Program) (E : Env) (ops : Array Oper) (i : Nat) (st : List AV) : Option (Nat × Int × Nat × Nat × Option Tmp) := match ops[i]? with
  | some o => match wantA ops st o, o.op with
    | some true, .indexAddr t (.global g) ix => match tarr P t with
      | some (m, e) => bif tok P e then (match evA E st ix with
        | .val (.int _ j) => some (g, j, m, tsize P e, o.dst)
        | _ => none) else none
      | none => none
    | _, _ => none
  | none => none
section
variable {P : Program} {E : Env} {n : Nat} {ops : Array Oper} {Q : List AV → AHeap → Prop} {l : List Nat} {i : Nat} {st : List AV} {h : AHeap} {d : Option Tmp} {pend : List (Nat × Nat)}
theorem gidxB_spec {g m sz : Nat} {j : Int} (hop : gidxB P E ops i st = some (g, j, m, sz, d)) :
    ∃ o t ix e ik, ops[i]? = some o ∧ wantA ops st o = some true ∧ o.op = .indexAddr t (.global g) ix ∧ tarr P t = some (m, e) ∧ tok P e = true ∧ evA E st ix = .val (.int ik j) ∧ tsize P e = sz ∧ o.dst = d := by
  unfold gidxB at hop
  cases hi : ops[i]? with
  | none => simp [hi] at hop
  | some o =>
    simp only [hi] at hop
    split at hop
    · rename_i t g' ix hw ho
      split at hop
      · rename_i m' e ht
        cases hk : tok P e with
        | false => simp [hk] at hop
        | true =>
          simp only [hk, cond_true] at hop
          split at hop
          · rename_i ik j' hix
            simp only [Option.some.injEq, Prod.mk.injEq] at hop
            obtain ⟨rfl, rfl, rfl, rfl, rfl⟩ := hop
            exact ⟨o, t, ix, e, ik, rfl, hw, ho, ht, hk, hix, rfl, rfl⟩
          · cases hop
      · cases hop
    · cases hop
theorem ev_glob {g : Nat} {cells : List AV} (hG : E.glob g = some cells) (st : List AV) : evA E st (.global g) = .rop cells := by simp [evA, hG]
theorem AOps_gindex {α : Type} {c : α → List AV} {xs : List α} {cells : List AV} {g m sz : Nat} {j : Int} {v : α} (hop : gidxB P E ops i st = some (g, j, m, sz, d)) (hG : E.glob g = some cells) (hcl : cells = xs.flatMap c) (hm : m = xs.length) (hsz : ∀ x, (c x).length = sz)
    (hv : rdO xs j = some v) (k : ∀ tl, AOps P E n ops Q l (putA st d (.rop (c v ++ tl))) h) : AOps P E n ops Q (i :: l) st h := by
  obtain ⟨h0, h1, h2⟩ := rdO_spec hv
  obtain ⟨o, t, ix, e, ik, hi, hw, ho, ht, hk, hix, rfl, rfl⟩ := gidxB_spec hop
  subst hcl hm
  obtain ⟨tl, he⟩ := flatMap_drop hsz h2
  refine AOps_step hi hw (Same.gives (gives_index_rarr ho ht hk (ev_glob hG st) hix h0 h1)) ?_
  rw [he]; exact k tl
theorem AD_gindex {α : Type} {c : α → List AV} {xs : List α} {cells : List AV} {g m sz : Nat} {j : Int} {v : α} (hop : gidxB P E ops i st = some (g, j, m, sz, d)) (hG : E.glob g = some cells) (hcl : cells = xs.flatMap c) (hm : m = xs.length) (hsz : ∀ x, (c x).length = sz)
    (hv : rdO xs j = some v) (k : ∀ tl, AD P E n ops Q l pend (putA st d (.rop (c v ++ tl))) h) : AD P E n ops Q (i :: l) pend st h := by
  obtain ⟨h0, h1, h2⟩ := rdO_spec hv
  obtain ⟨o, t, ix, e, ik, hi, hw, ho, ht, hk, hix, rfl, rfl⟩ := gidxB_spec hop
  subst hcl hm
  obtain ⟨tl, he⟩ := flatMap_drop hsz h2
  refine AD_look [] hi (by rw [ho]; rfl) hw (v := .rop (c v ++ tl)) (fun st2 h2' hs _ => ?_) (k tl)
  have := gives_index_rarr (P := P) (E := E) (h := h2') ho ht hk (ev_glob hG st2) ((hs ix (by rw [ho]; simp [Op.operands])).trans hix) h0 h1
  rwa [he] at this
end
end Go.Proofs.YtjhbobacbaikoaaGreatDoor
/- Appends in a region whose order is left open. -/
namespace Go.Proofs.YtjhbobacbaikoaaGreatDoor
open Go
set_option linter.unusedVariables false
set_option linter.unusedSimpArgs false
def pendB (rows : List Nat) (id n : Nat) (pend : List (Nat × Nat)) : Bool := pend.all fun p => rows.contains p.1 || (!(p.2 == id) && Nat.blt p.2 n)
theorem pendOk_app {rows : List Nat} {h : AHeap} {id : Nat} {b : ABlk} : ∀ {pend : List (Nat × Nat)}, pendB rows id h.length pend = true → pendOk rows h (b :: hset h id .dead) pend
  | [], _ => trivial
  | p :: l, hp => by
    simp only [pendB, List.all_cons, Bool.and_eq_true] at hp
    refine ⟨?_, pendOk_app (by simpa [pendB] using hp.2)⟩
    cases hc : rows.contains p.1 with
    | true => simp
    | false =>
      have h1 := hp.1
      rw [hc] at h1
      simp only [Bool.false_or, Bool.and_eq_true, Bool.not_eq_true', beq_eq_false_iff_ne, ne_eq] at h1
      obtain ⟨h2, h3⟩ := h1
      have h3' : p.2 < h.length := by simpa using h3
      simp only [cond_false]
      rw [hget_cons_old (by simpa using h3'), hget_hset_ne _ h2]
section
variable {P : Program} {E : Env} {n : Nat} {ops : Array Oper} {Q : List AV → AHeap → Prop} {l : List Nat} {i : Nat} {st : List AV} {h h' : AHeap} {d : Option Tmp} {pend : List (Nat × Nat)}
theorem AD_append {α : Type} {c : α → List AV} {xs ys zs : List α} {id sz bs m : Nat} {e : TypeId} {cells rc cells' : List AV} (hop : appB P E ops i st = some (.sl id 0 xs.length (.whole sz), m, cells, e, d)) (hm : m = ys.length) (hcl : cells = ys.flatMap c)
    (hg : hget h id = some (.row e rc)) (hrc : rc = xs.flatMap c) (hsz : ∀ x, (c x).length = sz) (hts : tsize P e = sz) (hbs : tbytes P e = bs) (hv : appO bs xs ys = some zs) (hcl' : cells' = zs.flatMap c)
    (hp : pendB ((rowsB ops ops.size).getD i []) id h.length pend = true) (hh : .row e cells' :: hset h id .dead = h') (k : AD P E n ops Q l pend (putA st d (.sl h.length 0 zs.length (.whole sz))) h') : AD P E n ops Q (i :: l) pend st h := by
  obtain ⟨o, s, x, t, tx, e', z, kk, hi, hw, ho, ht, htx, hz, hx, hs, htok, hzs, hpos, rfl⟩ := appB_spec hop
  obtain ⟨h1, h2, rfl⟩ := appO_spec hv
  subst hm hcl hrc hcl' hh hbs
  rw [← hts] at hs hsz k
  have hl := flatMap_len hsz ys
  have src : SrcA P h (tsize P e) tx (evA E st x) ys.length (ys.flatMap c) := by rw [hx]; exact SrcA_ro htx hl (by omega)
  have e1 : mkB true e (xs.flatMap c ++ ys.flatMap c) = .row e ((xs ++ ys).flatMap c) := by rw [List.flatMap_append]; rfl
  have g := gives_append_own true ho ht htok hz hzs (by omega) hs hg (List.append_nil _).symm (fun _ => rfl) (flatMap_len hsz xs) src hl h1 h2
  rw [e1] at g
  refine AD_gives hi (by rw [ho]; rfl) hw g (pendOk_app hp) ?_
  simpa only [List.length_append] using k
theorem AD_append_nil {α : Type} {c : α → List AV} {ys zs : List α} {sz bs m : Nat} {e : TypeId} {cells cells' : List AV} (hop : appB P E ops i st = some (.ro .full 0 [], m, cells, e, d)) (hm : m = ys.length) (hcl : cells = ys.flatMap c)
    (hsz : ∀ x, (c x).length = sz) (hts : tsize P e = sz) (hbs : tbytes P e = bs) (hv : appO bs [] ys = some zs) (hcl' : cells' = zs.flatMap c)
    (hp : pendB ((rowsB ops ops.size).getD i []) h.length h.length pend = true) (k : AD P E n ops Q l pend (putA st d (.sl h.length 0 zs.length (.whole sz))) (.row e cells' :: h)) : AD P E n ops Q (i :: l) pend st h := by
  obtain ⟨o, s, x, t, tx, e', z, kk, hi, hw, ho, ht, htx, hz, hx, hs, htok, hzs, hpos, rfl⟩ := appB_spec hop
  obtain ⟨h1, h2, hz'⟩ := appO_spec hv
  have hz2 : ys = zs := hz'.symm
  subst hz2
  subst hm hcl hcl' hbs
  rw [← hts] at hsz k
  have hl := flatMap_len hsz ys
  have src : SrcA P h (tsize P e) tx (evA E st x) ys.length (ys.flatMap c) := by rw [hx]; exact SrcA_ro htx hl (by omega)
  simp only [List.length_nil, Nat.zero_add] at h1 h2
  have hh : hset h h.length .dead = h := hset_ge _ (Nat.le_refl _)
  have := pendOk_app (b := .row e (ys.flatMap c)) hp
  rw [hh] at this
  exact AD_gives hi (by rw [ho]; rfl) hw (gives_append_nil true ho ht htok hz hzs hs src hl h1 h2) this k
end
end Go.Proofs.YtjhbobacbaikoaaGreatDoor
/- Stores and new blocks in a region whose order is left open. -/
namespace Go.Proofs.YtjhbobacbaikoaaGreatDoor
open Go
set_option linter.unusedVariables false
set_option linter.unusedSimpArgs false
def stoB (P : Program) (E : Env) (ops : Array Oper) (i : Nat) (st : List AV) (h : AHeap) : Option (Nat × AHeap × Option Tmp) := match ops[i]? with
  | some o => match wantA ops st o, o.op with
    | some true, .store t a x => match evA E st a with
      | .ptr id off => match exStore P t (.ptr id off) (evA E st x) h with
        | some h' => some (id, h', o.dst)
        | none => none
      | _ => none
    | _, _ => none
  | none => none
def pendS (rows : List Nat) (id : Nat) (pend : List (Nat × Nat)) : Bool := pend.all fun p => rows.contains p.1 || !(p.2 == id)
theorem pendOk_set {rows : List Nat} {h : AHeap} {id : Nat} {b : ABlk} : ∀ {pend : List (Nat × Nat)}, pendS rows id pend = true → pendOk rows h (hset h id b) pend
  | [], _ => trivial
  | p :: l, hp => by
    simp only [pendS, List.all_cons, Bool.and_eq_true] at hp
    refine ⟨?_, pendOk_set (by simpa [pendS] using hp.2)⟩
    cases hc : rows.contains p.1 with
    | true => simp
    | false =>
      have h1 := hp.1
      rw [hc] at h1
      simp only [Bool.false_or, Bool.not_eq_true', beq_eq_false_iff_ne, ne_eq] at h1
      simp only [cond_false]
      rw [hget_hset_ne _ h1]
theorem exStore_set {P : Program} {t : TypeId} {id off : Nat} {v : AV} {h h' : AHeap} (e : exStore P t (.ptr id off) v h = some h') : ∃ b, h' = hset h id b := by
  unfold exStore at e
  simp only at e
  split at e
  · rename_i ty cs hb
    generalize (v.cs.all AV.one && v.cs.length == tsize P t && tok P t) = bb at e
    cases bb with
    | false => cases e
    | true =>
      simp only [cond_true] at e
      split at e
      · cases e; exact ⟨_, rfl⟩
      · cases e
  · cases e
section
variable {P : Program} {E : Env} {n : Nat} {ops : Array Oper} {Q : List AV → AHeap → Prop} {l : List Nat} {i : Nat} {st : List AV} {h h' : AHeap} {d : Option Tmp} {pend : List (Nat × Nat)}
theorem AD_store {id : Nat} (hop : stoB P E ops i st h = some (id, h', d)) (hp : pendS ((rowsB ops ops.size).getD i []) id pend = true) (k : AD P E n ops Q l pend (putA st d undefA) h') : AD P E n ops Q (i :: l) pend st h := by
  unfold stoB at hop
  cases hi : ops[i]? with
  | none => simp [hi] at hop
  | some o =>
    simp only [hi] at hop
    split at hop
    · rename_i t a x hw ho
      split at hop
      · rename_i id' off ha
        split at hop
        · rename_i h1 hx
          simp only [Option.some.injEq, Prod.mk.injEq] at hop
          obtain ⟨rfl, rfl, rfl⟩ := hop
          obtain ⟨b, hb⟩ := exStore_set hx
          have hex : exA P E o.op st h = some (undefA, h1) := by
            rw [ho]
            show (match exV P E (.store t a x) st h with | some v => some (v, h) | none => exW P E (.store t a x) st h) = _
            show exW P E (.store t a x) st h = _
            show (match exStore P t (evA E st a) (evA E st x) h with | some h' => some (undefA, h') | none => none) = _
            rw [ha, hx]
          refine AD_gives hi (by rw [ho]; rfl) hw (exA_sound hex) ?_ k
          rw [hb]
          exact pendOk_set hp
        · cases hop
      · cases hop
    · cases hop
theorem AD_lcut {α : Type} {c : α → List AV} {xs r : List α} {cells cells' : List AV} {a b : Int} {sz m : Nat} (hop : lcutB P E ops i st = some (m, cells, a, b, sz, d)) (hm : m = xs.length) (hcl : cells = xs.flatMap c) (hcl' : cells' = r.flatMap c) (hsz : ∀ x, (c x).length = sz) (hp : 0 < sz)
    (hv : cutL xs a b = some r) (k : AD P E n ops Q l pend (putA st d (.ro .unk r.length cells')) h) : AD P E n ops Q (i :: l) pend st h := by
  obtain ⟨h0, h1, h2, hr⟩ := cutL_spec hv
  subst hcl hm hcl'
  unfold lcutB at hop
  cases hi : ops[i]? with
  | none => simp [hi] at hop
  | some o =>
    simp only [hi] at hop
    split at hop
    · rename_i t x lo hhi hw ho
      cases ht : telem P t with
      | none => simp [ht] at hop
      | some e =>
        simp only [ht] at hop
        cases hk : tok P e with
        | false => simp [hk] at hop
        | true =>
          simp only [hk, cond_true] at hop
          split at hop
          · rename_i kk n' cells hx
            split at hop
            · rename_i l1 h1' hl hh
              simp only [Option.some.injEq, Prod.mk.injEq] at hop
              obtain ⟨rfl, rfl, rfl, rfl, rfl, rfl⟩ := hop
              have hrl : r.length = h1'.toNat - l1.toNat := by rw [hr]; simp; omega
              have hrc : ((xs.flatMap c).drop (l1.toNat * tsize P e)).take ((h1'.toNat - l1.toNat) * tsize P e) = r.flatMap c := by
                rw [(flatMap_cut hsz xs _).1, (flatMap_cut hsz _ _).2, hr, List.drop_take]
              refine AD_look [] hi (by rw [ho]; rfl) hw (v := .ro .unk r.length (r.flatMap c)) (fun st2 h2' hs _ => ?_) k
              have hl2 : loA E st2 lo = some l1 := by
                rw [← hl]; cases lo with
                | none => rfl
                | some y => simp only [loA]; rw [hs y (by rw [ho]; simp [Op.operands])]
              have hh2 : hiA E st2 xs.length hhi = some h1' := by
                rw [← hh]; cases hhi with
                | none => rfl
                | some y => simp only [hiA]; rw [hs y (by rw [ho]; simp [Op.operands])]
              have g := gives_slice_ro (P := P) (E := E) (h := h2') ho ht hk ((hs x (by rw [ho]; simp [Op.operands])).trans hx) hl2 hh2 h0 h1 h2
              rwa [hrc, ← hrl] at g
            · cases hop
          · cases hop
    · cases hop
theorem AD_scut {s r : ByteArray} {a b : Int} (hop : scutB P E ops i st = some (s, a, b, d)) (hv : cutS s a b = some r) (k : AD P E n ops Q l pend (putA st d (sA r)) h) : AD P E n ops Q (i :: l) pend st h := by
  obtain ⟨h0, h1, h2, rfl⟩ := cutS_spec hv
  unfold scutB at hop
  cases hi : ops[i]? with
  | none => simp [hi] at hop
  | some o =>
    simp only [hi] at hop
    split at hop
    · rename_i t x lo hhi hw ho
      split at hop
      · rename_i s' ht hx
        split at hop
        · rename_i l1 h1' hl hh
          simp only [Option.some.injEq, Prod.mk.injEq] at hop
          obtain ⟨rfl, rfl, rfl, rfl⟩ := hop
          refine AD_look [] hi (by rw [ho]; rfl) hw (v := sA (s'.extract l1.toNat h1'.toNat)) (fun st2 h2' hs _ => ?_) k
          have hl2 : loA E st2 lo = some l1 := by
            rw [← hl]; cases lo with
            | none => rfl
            | some y => simp only [loA]; rw [hs y (by rw [ho]; simp [Op.operands])]
          have hh2 : hiA E st2 s'.size hhi = some h1' := by
            rw [← hh]; cases hhi with
            | none => rfl
            | some y => simp only [hiA]; rw [hs y (by rw [ho]; simp [Op.operands])]
          exact gives_slice_str ho ht ((hs x (by rw [ho]; simp [Op.operands])).trans hx) hl2 hh2 h0 h1 h2
        · cases hop
      · cases hop
    · cases hop
end
end Go.Proofs.YtjhbobacbaikoaaGreatDoor
/- A call that hands back a pointer to a new block. -/
namespace Go.Proofs.YtjhbobacbaikoaaGreatDoor
open Go
set_option linter.unusedVariables false
set_option linter.unusedSimpArgs false
theorem Sp_new {P : Program} {E : Env} {f : FuncId} {args : List AV} {b : ABlk} (s : Sp P E f args [] (isA (.ptr 0 0) [b])) (ha : scL 0 args) (hb : b.free) (h : AHeap) :
    Sp P E f args h (isA (.ptr h.length 0) (b :: h)) := by
  intro μ w ca he hok hr
  let c : Cx := ⟨μ, h, w⟩
  let x0 : Nat → Nat → Prop := fun q k => μ.x q k ∨ ∃ j y, hget h j = some y ∧ y ≠ .dead ∧ μ j = some q ∧ ¬ k < y.lim
  let c0 : Cx := ⟨⟨fun _ => none, x0⟩, [], w⟩
  have hst : ∀ q k, c.still q k ↔ c0.still q k := by
    intro q k
    constructor
    · rintro ⟨h1, h2, h3⟩
      refine ⟨h1, fun i y hi => by simp [c0, hget] at hi, ?_⟩
      rintro (hx | ⟨j, y, hj, hy, e, hn⟩)
      · exact h3 hx
      · exact hn (h2 j y hj hy e)
    · rintro ⟨h1, _, h3⟩
      exact ⟨h1, fun j y hj hy e => Classical.byContradiction fun hn => h3 (.inr ⟨j, y, hj, hy, e, hn⟩), fun hx => h3 (.inl hx)⟩
  have hfwd : ∀ q k, c.still q k → c0.still q k ∧ sameCell c.w c0.w q k := fun q k hq => ⟨(hst q k).1 hq, fun _ _ _ => rfl⟩
  have ok0 : c0.Ok := ⟨fun i y hg => by simp [c0, hget] at hg, fun i j q hi => by simp [c0, alive, hget] at hi, fun i q hi => by simp [c0, alive, hget] at hi, fun q k hx => by
    rcases hx with hx | ⟨j, y, hj, hy, e, _⟩
    · exact hok.xlt q k hx
    · exact hok.lt ⟨y, hj, hy⟩ e⟩
  refine (s c0.μ w ca (E.kept c c0 hfwd he) ok0 (relL_free hfwd args _ ha hr)).mono fun e w' hq => ?_
  obtain ⟨r, k, μ', u, he', ⟨rfl, rfl⟩, ok', hrel, hto⟩ := hq
  let c0' : Cx := ⟨μ', [b], w'⟩
  have hto : Cx.To c0 c0' := hto
  have hbd : b ≠ .dead := by rintro rfl; exact hb
  have hb0 : hget c0'.h 0 = some b := by simp [c0', hget]
  have ha0 : alive c0'.h 0 := ⟨b, hb0, hbd⟩
  let ν : Mu := ⟨fun k => if k = h.length then μ' 0 else μ k, μ.x⟩
  let d : Cx := ⟨ν, b :: h, w'⟩
  have hx : μ'.x = x0 := hto.x
  have hnew : ∀ q, μ' 0 = some q → w.heap.size ≤ q := fun q e => by
    rcases hto.at_ 0 ha0 q e with ⟨j, hj, _⟩ | h1
    · simp [c0, alive, hget] at hj
    · exact h1
  have hkeep : ∀ q, q < w.heap.size → w'.heap[q]? = w.heap[q]? := fun q hq => hto.keep q ⟨hq, fun i hi => by simp [c0, alive, hget] at hi⟩
  have hget' : ∀ j y, hget d.h j = some y → (j = h.length ∧ y = b) ∨ (j < h.length ∧ hget h j = some y) := by
    intro j y hj
    by_cases e : j = h.length
    · subst e
      have : hget d.h h.length = some b := hget_cons_new h b
      rw [this] at hj; cases hj; exact .inl ⟨rfl, rfl⟩
    · have hl : j < h.length + 1 := by have := hget_lt hj; simpa [d] using this
      have hl' : j < h.length := by omega
      exact .inr ⟨hl', by rw [← hget_cons_old hl']; exact hj⟩
  have hν : ∀ j, j < h.length → d.μ j = μ j := fun j hj => by simp only [d, ν]; rw [if_neg (by omega)]
  have hνn : d.μ h.length = μ' 0 := by simp [d, ν]
  have hback : ∀ q k, c0'.still q k → d.still q k ∧ sameCell c0'.w d.w q k := by
    rintro q k ⟨h1, h2, h3⟩
    refine ⟨⟨h1, fun j y hj hy e => ?_, fun hx2 => h3 (by show μ'.x q k; rw [hx]; exact .inl hx2)⟩, fun _ _ _ => rfl⟩
    rcases hget' j y hj with ⟨rfl, rfl⟩ | ⟨hl, hj'⟩
    · rw [hνn] at e; exact h2 0 y hb0 hy e
    · rw [hν j hl] at e
      refine Classical.byContradiction fun hn => h3 ?_
      show μ'.x q k
      rw [hx]
      exact .inr ⟨j, y, hj', hy, e, hn⟩
  have hstay : ∀ q k, c.still q k → d.still q k ∧ sameCell c.w d.w q k := fun q k hq => by
    obtain ⟨s1, s2⟩ := hto.stay q k ((hst q k).1 hq)
    exact ⟨(hback q k s1).1, s2⟩
  have hto' : Cx.To c d := by
    refine ⟨hto.os, hto.tape, hto.output, hto.size, by simp [c, d], rfl, fun q hq => hkeep q hq.1, hstay, fun j hj ha => ?_, fun j hj ha q e cv t fr hc => ?_, fun j ha q e => ?_⟩
    · obtain ⟨y, hy, hd⟩ := ha
      rcases hget' j y hy with ⟨rfl, _⟩ | ⟨hl, hj'⟩
      · exact absurd hj (Nat.lt_irrefl _)
      · exact ⟨⟨y, hj', hd⟩, hν j hl⟩
    · obtain ⟨y, hy, hd⟩ := ha
      rcases hget' j y hy with ⟨rfl, _⟩ | ⟨hl, hj'⟩
      · exact absurd hj (Nat.lt_irrefl _)
      · exact ⟨cv, by rw [← hkeep q (hok.lt ⟨y, hj', hd⟩ e)]; exact hc, rfl⟩
    · obtain ⟨y, hy, hd⟩ := ha
      rcases hget' j y hy with ⟨rfl, _⟩ | ⟨hl, hj'⟩
      · rw [hνn] at e; exact .inr (hnew q e)
      · rw [hν j hl] at e; exact .inl ⟨j, ⟨y, hj', hd⟩, e⟩
  refine ⟨_, _, ν, u, he', ⟨rfl, rfl⟩, ⟨fun j y hj => ?_, fun i j q hi hj e1 e2 => ?_, fun i q hi e k => ?_, fun q k hq => Nat.lt_of_lt_of_le (hok.xlt q k hq) hto.size⟩, ?_, hto'⟩
  · rcases hget' j y hj with ⟨rfl, rfl⟩ | ⟨hl, hj'⟩
    · show y.rel d (d.μ h.length)
      rw [hνn]
      exact blk_free hback rfl (fun _ _ => rfl) y hb (ok'.blk 0 y hb0)
    · show y.rel d (d.μ j)
      rw [hν j hl]
      by_cases hd : y = .dead
      · subst hd; trivial
      · exact ABlk.rel_to hto' (fun q hq => hkeep q (hok.lt ⟨y, hj', hd⟩ hq)) (hok.blk j y hj')
  · have key : ∀ z, alive d.h z → d.μ z = some q → (z = h.length ∧ w.heap.size ≤ q) ∨ (z < h.length ∧ alive h z ∧ μ z = some q) := by
      rintro z ⟨y, hy, hd⟩ e
      rcases hget' z y hy with ⟨rfl, _⟩ | ⟨hl, hz⟩
      · rw [hνn] at e; exact .inl ⟨rfl, hnew q e⟩
      · rw [hν z hl] at e; exact .inr ⟨hl, ⟨y, hz, hd⟩, e⟩
    rcases key i hi e1 with ⟨rfl, g1⟩ | ⟨_, g1, g2⟩ <;> rcases key j hj e2 with ⟨rfl, k1⟩ | ⟨_, k1, k2⟩
    · rfl
    · have := hok.lt k1 k2; simp at this; omega
    · have := hok.lt g1 g2; simp at this; omega
    · exact hok.inj i j q g1 k1 g2 k2
  · obtain ⟨y, hy, hd⟩ := hi
    rcases hget' i y hy with ⟨rfl, _⟩ | ⟨hl, hz⟩
    · have e' : d.μ h.length = some q := e
      rw [hνn] at e'
      intro hq
      have h1 := hnew q e'
      have h2 := hok.xlt q k hq
      simp at h2; omega
    · have e' : d.μ i = some q := e
      rw [hν i hl] at e'
      exact hok.nx i q ⟨y, hz, hd⟩ e' k
  · obtain ⟨r1, r2, r3⟩ := hrel
    refine ⟨by simp, r2, fun _ => ?_⟩
    obtain ⟨q, g1, g2⟩ := r3 ha0
    exact ⟨q, by show d.μ h.length = some q; rw [hνn]; exact g1, g2⟩
theorem AOps_callnew {P : Program} {E : Env} {n : Nat} {ops : Array Oper} {Q : List AV → AHeap → Prop} {l : List Nat} {i : Nat} {st : List AV} {h : AHeap} {d : Option Tmp} {g : FuncId} {al : List AV} {b : ABlk}
    (hc : callB P E ops i st = some (g, al, d)) (s : Sp P E g al [] (isA (.ptr 0 0) [b])) (ha : scL 0 al) (hb : b.free) {m : Nat} (hm : h.length = m) (k : AOps P E n ops Q l (putA st d (.ptr m 0)) (b :: h)) : AOps P E n ops Q (i :: l) st h := by
  subst hm
  exact AOps_callB hc ((Sp_new s ha hb h).mono fun r' h' e => by obtain ⟨rfl, rfl⟩ := e; exact k)
end Go.Proofs.YtjhbobacbaikoaaGreatDoor
/- Comparisons of Bools and of errors with nil; places of an array of one's own that the program computes. -/
namespace Go.Proofs.YtjhbobacbaikoaaGreatDoor
open Go
set_option linter.unusedVariables false
set_option linter.unusedSimpArgs false
/-- Is there an error? -/
def errV (b : Bool) (u : Value) : Prop := match b with
  | true => ∃ te pe, u = .iface te pe
  | false => u = .nilIface
def bbB (P : Program) (E : Env) (ops : Array Oper) (i : Nat) (st : List AV) : Option (Bool × Bool × Bool × Option Tmp) := match ops[i]? with
  | some o => match wantA ops st o, o.op with
    | some true, .binOp op t x y _ => match P.underlying t, evA E st x, evA E st y with
      | some .bool, .val (.bool p), .val (.bool q) => match op with
        | .eql => some (true, p, q, o.dst)
        | .neq => some (false, p, q, o.dst)
        | _ => none
      | _, _, _ => none
    | _, _ => none
  | none => none
def inB (P : Program) (E : Env) (ops : Array Oper) (i : Nat) (st : List AV) : Option (Value × Option Tmp) := match ops[i]? with
  | some o => match wantA ops st o, o.op with
    | some true, .binOp .neq t x (.const .nilIface) _ => match P.underlying t, evA E st x with
      | some (.interface ms), .val u => bif decide (ms = P.methodsAt t) then some (u, o.dst) else none
      | _, _ => none
    | _, _ => none
  | none => none
def pidxB (P : Program) (E : Env) (ops : Array Oper) (i : Nat) (st : List AV) (h : AHeap) : Option (Nat × Nat × Int × Nat × Nat × Option Tmp) := match ops[i]? with
  | some o => match wantA ops st o, o.op with
    | some true, .indexAddr t x ix => match tarr P t with
      | some (m, e) => bif tok P e then (match evA E st x, evA E st ix with
        | .ptr id off, .val (.int _ j) => bif live h id then some (id, off, j, m, tsize P e, o.dst) else none
        | _, _ => none) else none
      | none => none
    | _, _ => none
  | none => none
def stxB (P : Program) (E : Env) (ops : Array Oper) (i : Nat) (st : List AV) (h : AHeap) : Option (Nat × Nat × TypeId × List AV × List AV × Option Tmp) := match ops[i]? with
  | some o => match wantA ops st o, o.op with
    | some true, .store t x y => match evA E st x with
      | .ptr id off => match blkCells h id with
        | some (ty, cs) => bif (evA E st y).cs.all AV.one && (evA E st y).cs.length == tsize P t && tok P t then some (id, off, ty, (evA E st y).cs, cs, o.dst) else none
        | none => none
      | _ => none
    | _, _ => none
  | none => none
section
variable {P : Program} {E : Env} {n : Nat} {ops : Array Oper} {Q : List AV → AHeap → Prop} {l : List Nat} {i : Nat} {st : List AV} {h : AHeap} {d : Option Tmp} {pend : List (Nat × Nat)}
theorem AOps_beq {p q : Bool} (hop : bbB P E ops i st = some (true, p, q, d)) (k : AOps P E n ops Q l (putA st d (bA (p == q))) h) : AOps P E n ops Q (i :: l) st h := by
  unfold bbB at hop
  cases hi : ops[i]? with
  | none => simp [hi] at hop
  | some o =>
    simp only [hi] at hop
    split at hop
    · rename_i op t x y yt hw ho
      split at hop
      · rename_i p' q' ht hx hy
        cases op <;> simp only [reduceCtorEq, Option.some.injEq, Prod.mk.injEq, Bool.false_eq_true, false_and] at hop
        obtain ⟨_, rfl, rfl, rfl⟩ := hop
        exact AOps_step hi hw (Same.gives (gives_booleq ho ht hx hy)) k
      · cases hop
    · cases hop
theorem AOps_bne {p q : Bool} (hop : bbB P E ops i st = some (false, p, q, d)) (k : AOps P E n ops Q l (putA st d (bA (!(p == q)))) h) : AOps P E n ops Q (i :: l) st h := by
  unfold bbB at hop
  cases hi : ops[i]? with
  | none => simp [hi] at hop
  | some o =>
    simp only [hi] at hop
    split at hop
    · rename_i op t x y yt hw ho
      split at hop
      · rename_i p' q' ht hx hy
        cases op <;> simp only [reduceCtorEq, Option.some.injEq, Prod.mk.injEq, Bool.true_eq_false, false_and] at hop
        obtain ⟨_, rfl, rfl, rfl⟩ := hop
        exact AOps_step hi hw (Same.gives (gives_boolne ho ht hx hy)) k
      · cases hop
    · cases hop
/-- Is an error not nil? -/
theorem AOps_inil {b : Bool} {u : Value} (hop : inB P E ops i st = some (u, d)) (hu : errV b u) (k : AOps P E n ops Q l (putA st d (bA b)) h) : AOps P E n ops Q (i :: l) st h := by
  unfold inB at hop
  cases hi : ops[i]? with
  | none => simp [hi] at hop
  | some o =>
    simp only [hi] at hop
    split at hop
    · rename_i t x yt hw ho
      split at hop
      · rename_i ms u' ht hx
        cases hm : decide (ms = P.methodsAt t) with
        | false => simp [hm] at hop
        | true =>
          simp only [hm, cond_true, Option.some.injEq, Prod.mk.injEq] at hop
          obtain ⟨rfl, rfl⟩ := hop
          rw [of_decide_eq_true hm] at ht
          refine AOps_step hi hw (Same.gives (v := bA b) fun μ w a f => ⟨.bool b, ?_, rfl⟩) k
          have e1 := ev_int f hx
          have e2 : a.eval (.const .nilIface) = .nilIface := rfl
          cases b with
          | true =>
            obtain ⟨te, pe, rfl⟩ := hu
            have hg : (eqGuard .neq t x (.const .nilIface) (.iface te pe) .nilIface).run P w = .ok () w := rfl
            simp only [execOp, ho, e1, e2, Sem.run_bind, hg, Result.andThen_ok, run_neq_held_nil w t te pe ht, Sem.run_pure]
          | false =>
            have e : u' = .nilIface := hu
            subst e
            have hg : (eqGuard .neq t x (.const .nilIface) .nilIface .nilIface).run P w = .ok () w := by
              simp [eqGuard]
            simp only [execOp, ho, e1, e2, Sem.run_bind, hg, Result.andThen_ok, run_neq_nil_nil w t ht, Sem.run_pure]
      · cases hop
    · cases hop
/-- A place of an array of one's own. -/
theorem AOps_pidx {id off m sz : Nat} {j : Int} (hop : pidxB P E ops i st h = some (id, off, j, m, sz, d)) (h0 : 0 ≤ j) (h1 : j < m) (k : AOps P E n ops Q l (putA st d (.ptr id (off + j.toNat * sz))) h) : AOps P E n ops Q (i :: l) st h := by
  unfold pidxB at hop
  cases hi : ops[i]? with
  | none => simp [hi] at hop
  | some o =>
    simp only [hi] at hop
    split at hop
    · rename_i t x ix hw ho
      split at hop
      · rename_i m' e ht
        cases hk : tok P e with
        | false => simp [hk] at hop
        | true =>
          simp only [hk, cond_true] at hop
          split at hop
          · rename_i id' off' ik j' hx hix
            cases hl : live h id' with
            | false => simp [hl] at hop
            | true =>
              simp only [hl, cond_true, Option.some.injEq, Prod.mk.injEq] at hop
              obtain ⟨rfl, rfl, rfl, rfl, rfl, rfl⟩ := hop
              exact AOps_step hi hw (Same.gives (gives_index_parr ho ht hk hx hl hix h0 h1)) k
          · cases hop
      · cases hop
    · cases hop
/-- A store whose place is computed. -/
theorem AOps_stx {id off : Nat} {ty : TypeId} {vs cs cs' : List AV} (hop : stxB P E ops i st h = some (id, off, ty, vs, cs, d)) (hp : putN off vs cs = some cs') {h' : AHeap} (hh : hset h id (.cells ty cs') = h')
    (k : AOps P E n ops Q l (putA st d undefA) h') : AOps P E n ops Q (i :: l) st h := by
  subst hh
  unfold stxB at hop
  cases hi : ops[i]? with
  | none => simp [hi] at hop
  | some o =>
    simp only [hi] at hop
    split at hop
    · rename_i t x y hw ho
      split at hop
      · rename_i id' off' hx
        cases hb : blkCells h id' with
        | none => simp [hb] at hop
        | some q =>
          obtain ⟨ty', cs1⟩ := q
          simp only [hb] at hop
          cases hc : ((evA E st y).cs.all AV.one && (evA E st y).cs.length == tsize P t && tok P t) with
          | false => simp [hc] at hop
          | true =>
            simp only [hc, cond_true, Option.some.injEq, Prod.mk.injEq] at hop
            obtain ⟨rfl, rfl, rfl, rfl, rfl, rfl⟩ := hop
            exact AOps_step hi hw (gives_store ho (by rw [hx]; simp only [exStore, hb, hc, cond_true, hp])) k
      · cases hop
    · cases hop
end
/-- A number from 0 to m - 1? -/
def inO (m : Nat) (j : Int) : Option Unit := bif decide (0 ≤ j) && decide (j < m) then some () else none
theorem inO_spec {m : Nat} {j : Int} {u : Unit} (h : inO m j = some u) : 0 ≤ j ∧ j < m := by
  unfold inO at h
  cases hc : (decide (0 ≤ j) && decide (j < (m : Int))) with
  | false => rw [hc] at h; cases h
  | true => simpa using hc
/-- An element behind a store at j. -/
def arI (k j v x : Int) : Int := bif j == k then v else x
theorem put3 {j v a b c : Int} (h : 0 ≤ j ∧ j < 3) : putN (0 + j.toNat * 1) [iA v] [iA a, iA b, iA c] = some [iA (arI 0 j v a), iA (arI 1 j v b), iA (arI 2 j v c)] := by
  have : j = 0 ∨ j = 1 ∨ j = 2 := by omega
  rcases this with rfl | rfl | rfl <;> rfl
/-- A call that may hand back an error. -/
theorem AOps_callE {P : Program} {E : Env} {n : Nat} {ops : Array Oper} {Q : List AV → AHeap → Prop} {l : List Nat} {i : Nat} {st : List AV} {h : AHeap} {d : Option Tmp} {g : FuncId} {al : List AV} {r : Int × Bool}
    (hc : callB P E ops i st = some (g, al, d)) (s : ∀ h, Sp P E g al h (fun v h' => h' = h ∧ ∃ u, errV r.2 u ∧ v = .tup [iA r.1, .val u])) (k : ∀ u, errV r.2 u → AOps P E n ops Q l (putA st d (.tup [iA r.1, .val u])) h) : AOps P E n ops Q (i :: l) st h :=
  AOps_callB hc ((s h).mono fun r' h' e => by obtain ⟨rfl, u, hu, rfl⟩ := e; exact k u hu)
/-! calls over one block in a region whose order is open -/
section
variable {P : Program} {E : Env} {n : Nat} {ops : Array Oper} {Q : List AV → AHeap → Prop} {l : List Nat} {i : Nat} {st : List AV} {h : AHeap} {d : Option Tmp} {pend : List (Nat × Nat)}
theorem AD_callB {g : FuncId} {al : List AV} (hc : callB P E ops i st = some (g, al, d)) (k : Sp P E g al h (fun r h' => pendOk ((rowsB ops ops.size).getD i []) h h' pend ∧ AD P E n ops Q l pend (putA st d r) h')) : AD P E n ops Q (i :: l) pend st h := by
  unfold callB at hc
  cases hi : ops[i]? with
  | none => simp [hi] at hc
  | some o =>
    simp only [hi] at hc
    split at hc
    · rename_i x args ats hw ho
      cases hx : calleeA (evA E st x) with
      | none => simp [hx] at hc
      | some p =>
        obtain ⟨g', first, captured⟩ := p
        simp only [hx] at hc
        cases hg : goes P g' with
        | false => simp [hg] at hc
        | true =>
          simp only [hg, cond_true, Option.some.injEq, Prod.mk.injEq] at hc
          obtain ⟨rfl, rfl, rfl⟩ := hc
          exact AD_call hi (by rw [ho]; rfl) hw ho hx hg k
    · cases hc
theorem AD_call1 {g : FuncId} {al : List AV} (al' : List AV) {r : AV} {j : Nat} {b b' : ABlk} (hc : callB P E ops i st = some (g, al', d)) (hj : hget h j = some b) (s : Sp P E g al [b] (isA r [b'])) (hb : b.free) (hb' : b'.free) (ha : mvL 1 al) (hr : r.sc 0)
    (hal : al.map (AV.mv fun _ => j) = al') {h' : AHeap} (he : hset h j b' = h') (k : AD P E n ops Q l pend (putA st d r) h') (hp : pendS ((rowsB ops ops.size).getD i []) j pend = true := by kernel_rfl) : AD P E n ops Q (i :: l) pend st h :=
  AD_callB hc ((Sp_at1 s hb hb' ha hr hj hal).mono fun r' h2 e => by
    obtain ⟨rfl, rfl⟩ := e
    subst he
    exact ⟨pendOk_set hp, k⟩)
end
/-! values that say less in their parts -/
theorem AV.le_agg {az bs : List AV} (h : leL az bs) (ho : bs.all AV.one = true) : AV.le (.agg az) (.agg bs) := by
  rintro c u ⟨vs, e, hl, _⟩
  exact ⟨vs, e, relL_le h hl, ho⟩
theorem AV.le_ros {k : Cap} {m : Nat} {az bs : List AV} (h : leL az bs) (ho : bs.all AV.one = true) : AV.le (.ro k m az) (.ro k m bs) := by
  rintro c u ⟨a, cap, vs, e, hk, hl, _, hr⟩
  exact ⟨a, cap, vs, e, hk, relL_le h hl, ho, hr⟩
section
variable {P : Program} {E : Env} {n : Nat} {ops : Array Oper} {Q : List AV → AHeap → Prop} {l : List Nat} {i : Nat} {st : List AV} {h : AHeap} {d : Option Tmp} {pend : List (Nat × Nat)}
theorem bslB_gives {m : Nat} {cs : List AV} (hop : bslB P E ops i st = some (m, cs, d)) (hs : scL 0 cs) (cs2 : List AV) (hle : leL cs cs2) (ho : cs2.all AV.one = true) :
    ∃ o, ops[i]? = some o ∧ looker o.op = false ∧ wantA ops st o = some true ∧ o.dst = d ∧ Gives P E o (.ro .unk m cs2) h st h := by
  unfold bslB at hop
  cases hi : ops[i]? with
  | none => simp [hi] at hop
  | some o =>
    simp only [hi] at hop
    split at hop
    · rename_i t len parts hw ho'
      cases hx : bsCells P t len (parts.toList.map fun p => (p.1, evA E st p.2)) with
      | none => simp [hx] at hop
      | some p =>
        obtain ⟨e, sz, cs'⟩ := p
        simp only [hx] at hop
        cases hone : cs'.all AV.one with
        | false => simp [hone] at hop
        | true =>
          simp only [hone, cond_true, Option.some.injEq, Prod.mk.injEq] at hop
          obtain ⟨rfl, rfl, rfl⟩ := hop
          have hex : exA P E o.op st h = some (.sl h.length 0 len (.whole sz), .cells e cs' :: h) := by
            rw [ho']
            show (match exV P E (.buildSlice t len parts) st h with | some v => some (v, h) | none => exW P E (.buildSlice t len parts) st h) = _
            exact bsCells_ex P hx h
          refine ⟨o, rfl, by rw [ho']; rfl, hw, rfl, gives_drop (exA_sound hex) (Frz_le ?_ (AV.le_ros hle ho))⟩
          exact Frz_sl (cs1 := cs') (rest := []) (t := e) (cs := cs') (by simp [blkCells, hget]) (Nat.le_refl _) (by simp) (FrzL_sc (scL_mono (Nat.zero_le _) _ hs)) hone
    · cases hop
theorem AOps_bsl2 {m : Nat} {cs : List AV} (cs2 : List AV) (hop : bslB P E ops i st = some (m, cs, d)) (hs : scL 0 cs) (hle : leL cs cs2) (ho : cs2.all AV.one = true) (k : AOps P E n ops Q l (putA st d (.ro .unk m cs2)) h) : AOps P E n ops Q (i :: l) st h := by
  obtain ⟨o, hi, _, hw, rfl, g⟩ := bslB_gives (h := h) hop hs cs2 hle ho
  exact AOps_step hi hw g k
theorem AD_bsl2 {m : Nat} {cs : List AV} (cs2 : List AV) (hop : bslB P E ops i st = some (m, cs, d)) (hs : scL 0 cs) (hle : leL cs cs2) (ho : cs2.all AV.one = true) (k : AD P E n ops Q l pend (putA st d (.ro .unk m cs2)) h) : AD P E n ops Q (i :: l) pend st h := by
  obtain ⟨o, hi, hl, hw, rfl, g⟩ := bslB_gives (h := h) hop hs cs2 hle ho
  exact AD_gives hi hl hw g (pendOk_refl _ _ _) k
end
end Go.Proofs.YtjhbobacbaikoaaGreatDoor
/- The steps that a printed proof takes most often, in few words. -/
namespace Go.Proofs.YtjhbobacbaikoaaGreatDoor
open Go
section
variable {P : Program} {E : Env} {n : Nat} {ops : Array Oper} {Q : List AV → AHeap → Prop} {l : List Nat} {st : List AV} {h : AHeap}
/-- The next m operations, run. -/
theorem R (m N : Nat) (s : List (Nat × AV)) (h' : AHeap) (k : AOps P E n ops Q (l.drop m) (fr N s) h') (e : runK P E (s.map (·.1)) ops (l.take m) st h = some (fr N s, h') := by kernel_rfl) : AOps P E n ops Q l st h :=
  AOps_run m _ e k
/-- The same; the heap stays. -/
theorem Rh (m N : Nat) (s : List (Nat × AV)) (k : AOps P E n ops Q (l.drop m) (fr N s) h) (e : runK P E (s.map (·.1)) ops (l.take m) st h = some (fr N s, h) := by kernel_rfl) : AOps P E n ops Q l st h :=
  AOps_run m _ e k
/-- The next m operations look. -/
theorem RD (m N : Nat) (pend' : List (Nat × Nat)) {pend : List (Nat × Nat)} (s : List (Nat × AV)) (d : AD P E n ops Q (l.drop m) pend' (fr N s) h) (e : runD P E ops (l.take m) pend st h = some (pend', fr N s) := by kernel_rfl) : AD P E n ops Q l pend st h :=
  AD_run m e d
end
section
variable {P : Program} {E : Env} {n : Nat} {Q : Exit → List AV → AHeap → Prop} {st : List AV} {h : AHeap}
/-- A branch, in the code and in the function. -/
theorem CD {β : Type} {c : Operand} {x y : Code} {t : Bool} {A B : Option β} {r : β} (H : (bif t then A else B) = some r) (ht : t = true → A = some r → AWP P E n x Q st h) (hf : t = false → B = some r → AWP P E n y Q st h)
    (hc : evA E st c = .val (.bool t) := by kernel_rfl) : AWP P E n (.cond c x y) Q st h :=
  AWP_cond hc (fun e => ht e (cond_t H e)) (fun e => hf e (cond_f H e))
/-- The call returns one plain value. -/
theorem FR {fn : Func} {α : Type} {g : α → AV} {a r : α} (H : some a = some r) (hres : resA P fn.results.toList st h = some [g a] := by kernel_rfl) (hs : (g a).sc 0 := by exact True.intro) (hn : n ≤ 0 := by exact Nat.le_refl 0) : Fin P fn n (isA (g r) []) .ret st h := by
  cases H
  exact (Fin_retn h.length (l := [g a]) (h' := []) hres (List.drop_length ..) hn (Closed_of trivial) (Frz_sc (by rw [List.drop_length]; exact hs)) ⟨rfl, rfl⟩)
end
end Go.Proofs.YtjhbobacbaikoaaGreatDoor
/- Lists of one's own: a block of cells that holds a list, and may be written at a computed place. -/
namespace Go.Proofs.YtjhbobacbaikoaaGreatDoor
open Go
set_option linter.unusedVariables false
set_option linter.unusedSimpArgs false
def oidxB (P : Program) (E : Env) (ops : Array Oper) (i : Nat) (st : List AV) (h : AHeap) : Option (Nat × Nat × Nat × Int × Nat × Option Tmp) := match ops[i]? with
  | some o => match wantA ops st o, o.op with
    | some true, .indexAddr t x ix => match telem P t with
      | some e => bif tok P e then (match evA E st x, evA E st ix with
        | .sl id off n _, .val (.int _ j) => bif live h id then some (id, off, n, j, tsize P e, o.dst) else none
        | _, _ => none) else none
      | none => none
    | _, _ => none
  | none => none
def ldxB (P : Program) (E : Env) (ops : Array Oper) (i : Nat) (st : List AV) (h : AHeap) : Option (Nat × Nat × TypeId × List AV × Option Tmp) := match ops[i]? with
  | some o => match wantA ops st o, o.op with
    | some true, .load t x => bif tok P t then (match evA E st x with
      | .ptr id off => match blkCells h id with
        | some (_, cs) => some (id, off, t, cs, o.dst)
        | none => none
      | _ => none) else none
    | _, _ => none
  | none => none
section
variable {P : Program} {E : Env} {n : Nat} {ops : Array Oper} {Q : List AV → AHeap → Prop} {l : List Nat} {i : Nat} {st : List AV} {h : AHeap} {d : Option Tmp} {pend : List (Nat × Nat)}
theorem oidxB_spec {id off m sz : Nat} {j : Int} (hop : oidxB P E ops i st h = some (id, off, m, j, sz, d)) : ∃ o t e x ix ik k, ops[i]? = some o ∧ wantA ops st o = some true ∧ o.op = .indexAddr t x ix ∧ telem P t = some e ∧ tok P e = true ∧
    evA E st x = .sl id off m k ∧ evA E st ix = .val (.int ik j) ∧ live h id = true ∧ sz = tsize P e ∧ d = o.dst := by
  unfold oidxB at hop
  cases hi : ops[i]? with
  | none => simp [hi] at hop
  | some o =>
    simp only [hi] at hop
    split at hop
    · rename_i t x ix hw ho
      split at hop
      · rename_i e ht
        cases hk : tok P e with
        | false => simp [hk] at hop
        | true =>
          simp only [hk, cond_true] at hop
          split at hop
          · rename_i id' off' n' k' ik j' hx hix
            cases hl : live h id' with
            | false => simp [hl] at hop
            | true =>
              simp only [hl, cond_true, Option.some.injEq, Prod.mk.injEq] at hop
              obtain ⟨rfl, rfl, rfl, rfl, rfl, rfl⟩ := hop
              exact ⟨o, t, e, x, ix, ik, k', rfl, hw, ho, ht, hk, hx, hix, hl, rfl, rfl⟩
          · cases hop
      · cases hop
    · cases hop
theorem ldxB_spec {id off : Nat} {t : TypeId} {cs : List AV} (hop : ldxB P E ops i st h = some (id, off, t, cs, d)) : ∃ o x ty, ops[i]? = some o ∧ wantA ops st o = some true ∧ o.op = .load t x ∧ tok P t = true ∧ evA E st x = .ptr id off ∧ blkCells h id = some (ty, cs) ∧ d = o.dst := by
  unfold ldxB at hop
  cases hi : ops[i]? with
  | none => simp [hi] at hop
  | some o =>
    simp only [hi] at hop
    split at hop
    · rename_i t' x hw ho
      cases hk : tok P t' with
      | false => simp [hk] at hop
      | true =>
        simp only [hk, cond_true] at hop
        split at hop
        · rename_i id' off' hx
          split at hop
          · rename_i ty cs' hb
            simp only [Option.some.injEq, Prod.mk.injEq] at hop
            obtain ⟨rfl, rfl, rfl, rfl, rfl⟩ := hop
            exact ⟨o, x, ty, rfl, hw, ho, hk, hx, hb, rfl⟩
          · cases hop
        · cases hop
    · cases hop
/-- A place of a list of one's own. -/
theorem AOps_oidx {id off m sz : Nat} {j : Int} (hop : oidxB P E ops i st h = some (id, off, m, j, sz, d)) (hj : 0 ≤ j ∧ j < m) (k : AOps P E n ops Q l (putA st d (.ptr id (off + j.toNat * sz))) h) : AOps P E n ops Q (i :: l) st h := by
  obtain ⟨o, t, e, x, ix, ik, kk, hi, hw, ho, ht, hk, hx, hix, hl, rfl, rfl⟩ := oidxB_spec hop
  exact AOps_step hi hw (Same.gives (gives_index_sl ho ht hk hx hl hix hj.1 hj.2)) k
theorem AD_oidx {id off m sz : Nat} {j : Int} (hop : oidxB P E ops i st h = some (id, off, m, j, sz, d)) (hj : 0 ≤ j ∧ j < m) (k : AD P E n ops Q l ((i, id) :: pend) (putA st d (.ptr id (off + j.toNat * sz))) h) : AD P E n ops Q (i :: l) pend st h := by
  obtain ⟨o, t, e, x, ix, ik, kk, hi, hw, ho, ht, hk, hx, hix, hl, rfl, rfl⟩ := oidxB_spec hop
  refine AD_look [id] hi (by rw [ho]; rfl) hw (fun st2 h2 he hh => ?_) k
  refine gives_index_sl ho ht hk ((he x (by rw [ho]; simp [Op.operands])).trans hx) ?_ ((he ix (by rw [ho]; simp [Op.operands])).trans hix) hj.1 hj.2
  have := hh id (by simp)
  unfold live at hl ⊢
  rw [this]; exact hl
/-- What stands there. -/
theorem AOps_ldx {id off : Nat} {t : TypeId} {cs : List AV} {v : AV} (hop : ldxB P E ops i st h = some (id, off, t, cs, d)) (hv : exCells P t (cs.drop off) = some v) (k : AOps P E n ops Q l (putA st d v) h) : AOps P E n ops Q (i :: l) st h := by
  obtain ⟨o, x, ty, hi, hw, ho, hk, hx, hb, rfl⟩ := ldxB_spec hop
  exact AOps_step hi hw (Same.gives (gives_load ho hk (by rw [hx]; simp only [exLoad, hb]; exact hv))) k
theorem AD_ldx {id off : Nat} {t : TypeId} {cs : List AV} {v : AV} (hop : ldxB P E ops i st h = some (id, off, t, cs, d)) (hv : exCells P t (cs.drop off) = some v) (k : AD P E n ops Q l ((i, id) :: pend) (putA st d v) h) : AD P E n ops Q (i :: l) pend st h := by
  obtain ⟨o, x, ty, hi, hw, ho, hk, hx, hb, rfl⟩ := ldxB_spec hop
  refine AD_look [id] hi (by rw [ho]; rfl) hw (fun st2 h2 he hh => ?_) k
  refine gives_load ho hk ?_
  have hb2 : blkCells h2 id = some (ty, cs) := by
    have := hh id (by simp)
    unfold blkCells at hb ⊢
    rw [this]; exact hb
  rw [he x (by rw [ho]; simp [Op.operands]), hx]
  simp only [exLoad, hb2]
  exact hv
end
/-! the cells of a list at a place -/
theorem putN_front : ∀ {n : Nat} {vs a b r : List AV}, putN n vs a = some b → putN n vs (a ++ r) = some (b ++ r)
  | 0, [], a, b, r, h => by
    have : a = b := by simpa [putN] using h
    subst this
    simp [putN]
  | 0, v :: vs, [], b, r, h => by simp [putN] at h
  | 0, v :: vs, x :: a, b, r, h => by
    simp only [putN] at h
    cases hh : putN 0 vs a with
    | none => simp [hh] at h
    | some q =>
      simp only [hh, Option.some.injEq] at h
      subst h
      simp only [List.cons_append, putN, putN_front hh]
  | n + 1, vs, [], b, r, h => by simp [putN] at h
  | n + 1, vs, x :: a, b, r, h => by
    simp only [putN] at h
    cases hh : putN n vs a with
    | none => simp [hh] at h
    | some q =>
      simp only [hh, Option.some.injEq] at h
      subst h
      simp only [List.cons_append, putN, putN_front hh]
theorem putN_behind : ∀ {p : List AV} {n : Nat} {vs a b : List AV}, putN n vs a = some b → putN (p.length + n) vs (p ++ a) = some (p ++ b)
  | [], n, vs, a, b, h => by simpa using h
  | x :: p, n, vs, a, b, h => by
    rw [List.length_cons, show p.length + 1 + n = (p.length + n) + 1 by omega, List.cons_append]
    simp only [putN, putN_behind h, List.cons_append]
section
variable {α : Type} {c : α → List AV} {xs : List α} {j : Int} {x y : α} {sz : Nat}
theorem rdO_place (h : rdO xs j = some x) : 0 ≤ j ∧ j < (xs.length : Int) := by
  obtain ⟨h0, h1, _⟩ := rdO_spec h
  exact ⟨h0, h1⟩
theorem own_drop (hsz : ∀ x, (c x).length = sz) (h : rdO xs j = some x) (fo : Nat) (hf : fo ≤ sz) : (xs.flatMap c).drop (0 + j.toNat * sz + fo) = (c x).drop fo ++ (xs.drop (j.toNat + 1)).flatMap c := by
  obtain ⟨h0, h1, h2⟩ := rdO_spec h
  have hl : j.toNat < xs.length := by omega
  have hx : xs[j.toNat] = x := by
    have := List.getElem?_eq_getElem hl
    rw [h2] at this
    exact (Option.some.inj this).symm
  have e : xs = xs.take j.toNat ++ x :: xs.drop (j.toNat + 1) := by
    rw [← hx, List.getElem_cons_drop, List.take_append_drop]
  have hlen : ((xs.take j.toNat).flatMap c).length = j.toNat * sz := by
    rw [flatMap_len hsz, List.length_take, Nat.min_eq_left (by omega)]
  conv => lhs; rw [e]
  rw [List.flatMap_append, List.flatMap_cons, Nat.zero_add, List.drop_append, hlen, List.drop_eq_nil_of_le (by omega), List.nil_append, Nat.add_sub_cancel_left, List.drop_append, hsz]
  rw [show fo - sz = 0 by omega, List.drop_zero]
theorem own_put (hsz : ∀ x, (c x).length = sz) (h : rdO xs j = some x) {fo : Nat} {vs : List AV} (hp : putN fo vs (c x) = some (c y)) : putN (0 + j.toNat * sz + fo) vs (xs.flatMap c) = some ((xs.set j.toNat y).flatMap c) := by
  obtain ⟨h0, h1, h2⟩ := rdO_spec h
  have hl : j.toNat < xs.length := by omega
  have key : ∀ (xs : List α) (k : Nat), xs[k]? = some x → putN (k * sz + fo) vs (xs.flatMap c) = some ((xs.set k y).flatMap c) := by
    intro xs
    induction xs with
    | nil => intro k e; simp at e
    | cons a xs ih =>
      intro k e
      cases k with
      | zero =>
        simp only [List.getElem?_cons_zero, Option.some.injEq] at e
        subst e
        rw [Nat.zero_mul, Nat.zero_add, List.flatMap_cons, List.set_cons_zero, List.flatMap_cons]
        exact putN_front hp
      | succ k =>
        rw [List.flatMap_cons, List.set_cons_succ, List.flatMap_cons, show (k + 1) * sz + fo = (c a).length + (k * sz + fo) by rw [hsz, Nat.succ_mul]; omega]
        exact putN_behind (ih k (by simpa using e))
  rw [Nat.zero_add]
  exact key xs _ h2
end
end Go.Proofs.YtjhbobacbaikoaaGreatDoor
/- Lists of one's own: appended to, and frozen at the end. -/
namespace Go.Proofs.YtjhbobacbaikoaaGreatDoor
open Go
set_option linter.unusedVariables false
set_option linter.unusedSimpArgs false
section
variable {P : Program} {E : Env} {n : Nat} {st : List AV} {h : AHeap}
/-- A list of one's own that nobody writes any more. -/
theorem Frz_own {m id len m2 : Nat} {k : Cap} {t : TypeId} {cs : List AV} (hg : hget h id = some (.cells t cs)) (hl : len = m2) (hm : (h.drop m).length ≤ id) (hs : scL (h.drop m).length cs) : Frz m h (.sl id 0 len k) (.ro .unk m2 cs) := by
  subst hl
  rintro μ w u ok ⟨_, _, hr⟩
  have ha : alive h id := ⟨_, hg, by simp⟩
  have hb := ok.blk id _ hg
  rcases hr ha with ⟨b, cap, hmu, rfl, hk, _⟩ | ⟨hn, rfl, _, ad, rfl⟩
  · rcases hb with ⟨b', cv, vs, rest, e, h1, h2, h3, h4⟩ | ⟨e, _⟩
    · have e' : μ id = some b' := e
      rw [hmu] at e'
      cases e'
      refine ⟨_, cap, vs, rfl, ⟨hk.1, hk.2.1, fun h => by cases h⟩, relL_drop' cs vs h3 hs, h4, .inr ⟨_, rfl, fun j hj => ⟨(Array.getElem?_eq_some_iff.1 h1).1, fun i y hi hy e2 => ?_, ok.nx id b ha hmu _⟩, fun j x hj => ?_⟩⟩
      · have hil := hget_lt hi
        have hi' : hget h i = some y := by rw [← hget_drop hil]; exact hi
        obtain rfl := ok.inj i id b ⟨y, hi', hy⟩ ha e2 hmu
        have : i < (h.drop m).length := hil
        omega
      · rw [add_at, cell_of_row w b (0 + j) cv t (0, 0) h1, Nat.zero_add]
        have : cv.toList[j]? = some x := by rw [h2, List.getElem?_append_left (lt_of_get hj)]; exact hj
        simpa using this
    · have e' : μ id = none := e
      rw [hmu] at e'; cases e'
  · have hcs0 : cs = [] := by
      rcases hb with ⟨b, _, _, _, e, _⟩ | ⟨_, e⟩
      · have e' : μ id = some b := e
        rw [hn] at e'; cases e'
      · exact e
    subst hcs0
    exact ⟨ad, 0, [], rfl, ⟨Nat.le_refl _, Nat.zero_le _, fun h => by cases h⟩, rfl, rfl, .inl rfl⟩
end
section
variable {P : Program} {E : Env} {n : Nat} {ops : Array Oper} {Q : List AV → AHeap → Prop} {l : List Nat} {i : Nat} {st : List AV} {h h' : AHeap} {d : Option Tmp} {pend : List (Nat × Nat)}
theorem AOps_appendO {α : Type} {c : α → List AV} {xs ys zs : List α} {id sz bs m : Nat} {e : TypeId} {cells rc cells' : List AV} (hop : appB P E ops i st = some (.sl id 0 xs.length (.whole sz), m, cells, e, d)) (hm : m = ys.length) (hcl : cells = ys.flatMap c)
    (hg : hget h id = some (.cells e rc)) (hrc : rc = xs.flatMap c) (hsz : ∀ x, (c x).length = sz) (hts : tsize P e = sz) (hbs : tbytes P e = bs) (hv : appO bs xs ys = some zs) (hcl' : cells' = zs.flatMap c)
    (hh : .cells e cells' :: hset h id .dead = h') (k : AOps P E n ops Q l (putA st d (.sl h.length 0 zs.length (.whole sz))) h') : AOps P E n ops Q (i :: l) st h := by
  obtain ⟨o, s, x, t, tx, e', z, kk, hi, hw, ho, ht, htx, hz, hx, hs, htok, hzs, hpos, rfl⟩ := appB_spec hop
  obtain ⟨h1, h2, rfl⟩ := appO_spec hv
  subst hm hcl hrc hcl' hh hbs
  rw [← hts] at hs hsz k
  have hl := flatMap_len hsz ys
  have src : SrcA P h (tsize P e) tx (evA E st x) ys.length (ys.flatMap c) := by rw [hx]; exact SrcA_ro htx hl (by omega)
  refine AOps_step hi hw (gives_append_own false ho ht htok hz hzs (by omega) hs hg (List.append_nil _).symm (fun _ => rfl) (flatMap_len hsz xs) src hl h1 h2) ?_
  have e1 : mkB false e (xs.flatMap c ++ ys.flatMap c) = .cells e ((xs ++ ys).flatMap c) := by rw [List.flatMap_append]; rfl
  rw [e1]
  simpa only [List.length_append] using k
theorem AOps_append_nilO {α : Type} {c : α → List AV} {ys zs : List α} {sz bs m : Nat} {e : TypeId} {cells cells' : List AV} (hop : appB P E ops i st = some (.ro .full 0 [], m, cells, e, d)) (hm : m = ys.length) (hcl : cells = ys.flatMap c)
    (hsz : ∀ x, (c x).length = sz) (hts : tsize P e = sz) (hbs : tbytes P e = bs) (hv : appO bs [] ys = some zs) (hcl' : cells' = zs.flatMap c)
    (k : AOps P E n ops Q l (putA st d (.sl h.length 0 zs.length (.whole sz))) (.cells e cells' :: h)) : AOps P E n ops Q (i :: l) st h := by
  obtain ⟨o, s, x, t, tx, e', z, kk, hi, hw, ho, ht, htx, hz, hx, hs, htok, hzs, hpos, rfl⟩ := appB_spec hop
  obtain ⟨h1, h2, hz'⟩ := appO_spec hv
  have hz2 : ys = zs := hz'.symm
  subst hz2
  subst hm hcl hcl' hbs
  rw [← hts] at hsz k
  have hl := flatMap_len hsz ys
  have src : SrcA P h (tsize P e) tx (evA E st x) ys.length (ys.flatMap c) := by rw [hx]; exact SrcA_ro htx hl (by omega)
  simp only [List.length_nil, Nat.zero_add] at h1 h2
  exact AOps_step hi hw (gives_append_nil false ho ht htok hz hzs hs src hl h1 h2) k
theorem AD_appendO {α : Type} {c : α → List AV} {xs ys zs : List α} {id sz bs m : Nat} {e : TypeId} {cells rc cells' : List AV} (hop : appB P E ops i st = some (.sl id 0 xs.length (.whole sz), m, cells, e, d)) (hm : m = ys.length) (hcl : cells = ys.flatMap c)
    (hg : hget h id = some (.cells e rc)) (hrc : rc = xs.flatMap c) (hsz : ∀ x, (c x).length = sz) (hts : tsize P e = sz) (hbs : tbytes P e = bs) (hv : appO bs xs ys = some zs) (hcl' : cells' = zs.flatMap c)
    (hp : pendB ((rowsB ops ops.size).getD i []) id h.length pend = true) (hh : .cells e cells' :: hset h id .dead = h') (k : AD P E n ops Q l pend (putA st d (.sl h.length 0 zs.length (.whole sz))) h') : AD P E n ops Q (i :: l) pend st h := by
  obtain ⟨o, s, x, t, tx, e', z, kk, hi, hw, ho, ht, htx, hz, hx, hs, htok, hzs, hpos, rfl⟩ := appB_spec hop
  obtain ⟨h1, h2, rfl⟩ := appO_spec hv
  subst hm hcl hrc hcl' hh hbs
  rw [← hts] at hs hsz k
  have hl := flatMap_len hsz ys
  have src : SrcA P h (tsize P e) tx (evA E st x) ys.length (ys.flatMap c) := by rw [hx]; exact SrcA_ro htx hl (by omega)
  have e1 : mkB false e (xs.flatMap c ++ ys.flatMap c) = .cells e ((xs ++ ys).flatMap c) := by rw [List.flatMap_append]; rfl
  have g := gives_append_own false ho ht htok hz hzs (by omega) hs hg (List.append_nil _).symm (fun _ => rfl) (flatMap_len hsz xs) src hl h1 h2
  rw [e1] at g
  refine AD_gives hi (by rw [ho]; rfl) hw g (pendOk_app hp) ?_
  simpa only [List.length_append] using k
end
end Go.Proofs.YtjhbobacbaikoaaGreatDoor
/- Cells of a block, read as less. -/
namespace Go.Proofs.YtjhbobacbaikoaaGreatDoor
open Go
set_option linter.unusedVariables false
set_option linter.unusedSimpArgs false
section
variable {P : Program} {E : Env} {n : Nat} {st st' : List AV} {h h' : AHeap}
/-- Cells of a block that say less. -/
theorem Norm_cle (id : Nat) {ty : TypeId} {cs cs' : List AV} (hg : hget h id = some (.cells ty cs)) (hv : leL cs cs') (ho' : cs'.all AV.one = true) (hh : hset h id (.cells ty cs') = h') : Norm P E n st h st h' := by
  subst hh
  exact Norm_of fun μ w hn ok => by
    have o := ok
    have hid := hget_lt hg
    let c : Cx := ⟨μ, h, w⟩
    let b' : ABlk := .cells ty cs'
    let d : Cx := ⟨μ, hset h id b', w⟩
    have hlen : (hset h id b').length = h.length := hset_length _ _ _
    have hne : ∀ j, j ≠ id → hget d.h j = hget c.h j := fun j hj => hget_hset_ne _ hj
    have hid1 : hget c.h id = some (.cells ty cs) := hg
    have hid2 : hget d.h id = some b' := hget_hset_same _ hid
    have hal : ∀ j, alive d.h j ↔ alive c.h j := by
      intro j
      by_cases e0 : j = id
      · subst e0
        exact ⟨fun _ => ⟨_, hid1, by simp⟩, fun _ => ⟨_, hid2, by simp [b']⟩⟩
      · simp only [alive, hne j e0]
    have hst : ∀ bb q, c.still bb q → d.still bb q := by
      rintro bb q ⟨s1, s2, s3⟩
      refine ⟨s1, fun j y hj hy e0 => ?_, s3⟩
      by_cases e1 : j = id
      · subst e1
        rw [hid2] at hj; cases hj
        exact (s2 j _ hid1 (by simp) e0 : q < 0)
      · rw [hne j e1] at hj; exact s2 j y hj hy e0
    have hdl : d.h.length = c.h.length := by simp [d, c, hlen]
    have hall : ∀ (az : List AV) (us : List Value), AV.relL c az us → AV.relL d az us := fun az us hr =>
      relL_on (c := c) (d := d) (S := fun _ => True) rfl hst (fun i _ hi => ⟨by rw [hdl]; exact hi, fun ha => ⟨(hal i).1 ha, rfl⟩⟩) az us (onL_all (fun _ => trivial) az) hr
    refine ⟨μ, ?_, ?_, fun us hr => hall _ _ hr⟩
    · refine ⟨rfl, rfl, rfl, Nat.le_refl _, by rw [hdl]; exact hn, rfl, fun _ _ => rfl, fun bb q hb => ⟨hst bb q hb, fun _ _ _ => rfl⟩, fun j _ ha => ⟨(hal j).1 ha, rfl⟩, fun j _ _ bb _ cv ty fr hc => ⟨cv, hc, rfl⟩, fun j ha bb hb => .inl ⟨j, (hal j).1 ha, hb⟩⟩
    · refine ⟨fun j y hj => ?_, fun i j bb hi hj e1 e2 => o.inj i j bb ((hal i).1 hi) ((hal j).1 hj) e1 e2, fun i bb hi e0 q => o.nx i bb ((hal i).1 hi) e0 q, o.xlt⟩
      by_cases e1 : j = id
      · subst e1
        rw [hid2] at hj; cases hj
        rcases o.blk j _ hid1 with ⟨bb, cv, vs, rest, g0, g1, g2, g3, g4⟩ | ⟨_, e2⟩
        · exact .inl ⟨bb, cv, vs, rest, g0, g1, g2, relL_le (c := d) hv (hall _ _ g3), ho'⟩
        · refine .inr ⟨by assumption, ?_⟩
          have g5 : AV.relL c cs' [] := relL_le (c := c) hv (by rw [e2]; rfl)
          cases cs' with
          | nil => rfl
          | cons x xs => obtain ⟨_, _, e5, _⟩ := g5; cases e5
      · rw [hne j e1] at hj
        have := o.blk j y hj
        cases y with
        | cells t2 cs2 =>
          rcases this with ⟨bb, cv, vs, rest, g0, g1, g2, g3, g4⟩ | g
          · exact .inl ⟨bb, cv, vs, rest, g0, g1, g2, hall _ _ g3, g4⟩
          · exact .inr g
        | row t2 cs2 =>
          rcases this with ⟨bb, cv, vs, rest, g0, g1, g2, g3, g4⟩ | g
          · exact .inl ⟨bb, cv, vs, rest, g0, g1, g2, hall _ _ g3, g4⟩
          · exact .inr g
        | iter s p => exact this
        | dead => trivial
end
section
variable {P : Program} {E : Env} {n : Nat} {ops : Array Oper} {Q : List AV → AHeap → Prop} {l : List Nat} {st : List AV} {h : AHeap} {d : Option Tmp} {pend : List (Nat × Nat)} {v v' : AV}
/-- The same value, named otherwise. -/
theorem AOps_cast (he : v = v') (k : AOps P E n ops Q l (putA st d v') h) : AOps P E n ops Q l (putA st d v) h := by subst he; exact k
theorem AD_cast (he : v = v') (k : AD P E n ops Q l pend (putA st d v') h) : AD P E n ops Q l pend (putA st d v) h := by subst he; exact k
end
end Go.Proofs.YtjhbobacbaikoaaGreatDoor
/- A store at a computed place in a region whose order is left open. -/
namespace Go.Proofs.YtjhbobacbaikoaaGreatDoor
open Go
set_option linter.unusedVariables false
set_option linter.unusedSimpArgs false
section
variable {P : Program} {E : Env} {n : Nat} {st st' : List AV} {h h' : AHeap}
/-- Lists in cells of a block, frozen. -/
theorem Norm_cfrz (id : Nat) {ty : TypeId} {cs cs' : List AV} (hg : hget h id = some (.cells ty cs)) (hv : FrzL 0 h cs cs') (ho' : cs'.all AV.one = true) (hh : hset h id (.cells ty cs') = h') : Norm P E n st h st h' := by
  subst hh
  exact Norm_of fun μ w hn ok => by
    have o := ok
    have hid := hget_lt hg
    let c : Cx := ⟨μ, h, w⟩
    let b' : ABlk := .cells ty cs'
    let d : Cx := ⟨μ, hset h id b', w⟩
    have hlen : (hset h id b').length = h.length := hset_length _ _ _
    have hne : ∀ j, j ≠ id → hget d.h j = hget c.h j := fun j hj => hget_hset_ne _ hj
    have hid1 : hget c.h id = some (.cells ty cs) := hg
    have hid2 : hget d.h id = some b' := hget_hset_same _ hid
    have hal : ∀ j, alive d.h j ↔ alive c.h j := by
      intro j
      by_cases e0 : j = id
      · subst e0
        exact ⟨fun _ => ⟨_, hid1, by simp⟩, fun _ => ⟨_, hid2, by simp [b']⟩⟩
      · simp only [alive, hne j e0]
    have hst : ∀ bb q, c.still bb q → d.still bb q := by
      rintro bb q ⟨s1, s2, s3⟩
      refine ⟨s1, fun j y hj hy e0 => ?_, s3⟩
      by_cases e1 : j = id
      · subst e1
        rw [hid2] at hj; cases hj
        exact (s2 j _ hid1 (by simp) e0 : q < 0)
      · rw [hne j e1] at hj; exact s2 j y hj hy e0
    have hdl : d.h.length = c.h.length := by simp [d, c, hlen]
    have hall : ∀ (az : List AV) (us : List Value), AV.relL c az us → AV.relL d az us := fun az us hr =>
      relL_on (c := c) (d := d) (S := fun _ => True) rfl hst (fun i _ hi => ⟨by rw [hdl]; exact hi, fun ha => ⟨(hal i).1 ha, rfl⟩⟩) az us (onL_all (fun _ => trivial) az) hr
    refine ⟨μ, ?_, ?_, fun us hr => hall _ _ hr⟩
    · refine ⟨rfl, rfl, rfl, Nat.le_refl _, by rw [hdl]; exact hn, rfl, fun _ _ => rfl, fun bb q hb => ⟨hst bb q hb, fun _ _ _ => rfl⟩, fun j _ ha => ⟨(hal j).1 ha, rfl⟩, fun j _ _ bb _ cv ty fr hc => ⟨cv, hc, rfl⟩, fun j ha bb hb => .inl ⟨j, (hal j).1 ha, hb⟩⟩
    · refine ⟨fun j y hj => ?_, fun i j bb hi hj e1 e2 => o.inj i j bb ((hal i).1 hi) ((hal j).1 hj) e1 e2, fun i bb hi e0 q => o.nx i bb ((hal i).1 hi) e0 q, o.xlt⟩
      by_cases e1 : j = id
      · subst e1
        rw [hid2] at hj; cases hj
        rcases o.blk j _ hid1 with ⟨bb, cv, vs, rest, g0, g1, g2, g3, g4⟩ | ⟨_, e2⟩
        · exact .inl ⟨bb, cv, vs, rest, g0, g1, g2, hall _ _ (hv μ w vs ok g3), ho'⟩
        · refine .inr ⟨by assumption, ?_⟩
          have g5 : AV.relL c cs' [] := hv μ w [] ok (by rw [e2]; rfl)
          cases cs' with
          | nil => rfl
          | cons x xs => obtain ⟨_, _, e5, _⟩ := g5; cases e5
      · rw [hne j e1] at hj
        have := o.blk j y hj
        cases y with
        | cells t2 cs2 =>
          rcases this with ⟨bb, cv, vs, rest, g0, g1, g2, g3, g4⟩ | g
          · exact .inl ⟨bb, cv, vs, rest, g0, g1, g2, hall _ _ g3, g4⟩
          · exact .inr g
        | row t2 cs2 =>
          rcases this with ⟨bb, cv, vs, rest, g0, g1, g2, g3, g4⟩ | g
          · exact .inl ⟨bb, cv, vs, rest, g0, g1, g2, hall _ _ g3, g4⟩
          · exact .inr g
        | iter s p => exact this
        | dead => trivial
end
section
variable {P : Program} {E : Env} {n : Nat} {ops : Array Oper} {Q : List AV → AHeap → Prop} {l : List Nat} {i : Nat} {st : List AV} {h : AHeap} {d : Option Tmp} {pend : List (Nat × Nat)}
theorem AD_stx {id off : Nat} {ty : TypeId} {vs cs cs' : List AV} (hop : stxB P E ops i st h = some (id, off, ty, vs, cs, d)) (hq : putN off vs cs = some cs') (hp : pendS ((rowsB ops ops.size).getD i []) id pend = true) {h' : AHeap} (hh : hset h id (.cells ty cs') = h')
    (k : AD P E n ops Q l pend (putA st d undefA) h') : AD P E n ops Q (i :: l) pend st h := by
  subst hh
  unfold stxB at hop
  cases hi : ops[i]? with
  | none => simp [hi] at hop
  | some o =>
    simp only [hi] at hop
    split at hop
    · rename_i t x y hw ho
      split at hop
      · rename_i id' off' hx
        cases hb : blkCells h id' with
        | none => simp [hb] at hop
        | some q =>
          obtain ⟨ty', cs1⟩ := q
          simp only [hb] at hop
          cases hc : ((evA E st y).cs.all AV.one && (evA E st y).cs.length == tsize P t && tok P t) with
          | false => simp [hc] at hop
          | true =>
            simp only [hc, cond_true, Option.some.injEq, Prod.mk.injEq] at hop
            obtain ⟨rfl, rfl, rfl, rfl, rfl, rfl⟩ := hop
            exact AD_gives hi (by rw [ho]; rfl) hw (gives_store ho (by rw [hx]; simp only [exStore, hb, hc, cond_true, hq])) (pendOk_set hp) k
      · cases hop
    · cases hop
end
section
variable {P : Program} {α : Type} {c : α → List AV} {cl : List α → List AV} {xs : List α} {j : Int} {x y : α} {sz : Nat} {t : TypeId} {v : AV}
/-- What a list of one's own holds at a place. -/
theorem ldx_of (hcl : ∀ l, cl l = l.flatMap c) (hsz : ∀ x, (c x).length = sz) (h : rdO xs j = some x) (fo : Nat) (hf : fo ≤ sz) (hx : ∀ r, exCells P t ((c x).drop fo ++ r) = some v) : exCells P t ((cl xs).drop (0 + j.toNat * sz + fo)) = some v := by
  rw [hcl, own_drop hsz h fo hf]; exact hx _
/-- The list behind a store. -/
theorem stx_of {vs : List AV} (hcl : ∀ l, cl l = l.flatMap c) (hsz : ∀ x, (c x).length = sz) (h : rdO xs j = some x) (fo : Nat) (hp : putN fo vs (c x) = some (c y)) : putN (0 + j.toNat * sz + fo) vs (cl xs) = some (cl (xs.set j.toNat y)) := by
  rw [hcl, hcl]; exact own_put hsz h hp
end
end Go.Proofs.YtjhbobacbaikoaaGreatDoor
