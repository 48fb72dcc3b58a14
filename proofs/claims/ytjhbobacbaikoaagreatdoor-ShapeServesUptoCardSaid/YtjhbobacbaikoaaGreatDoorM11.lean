/- Flagstone law ShapeServes holds: for every input of bulk at most 1048576 the call returns true, and its arguments read behind it as before. The condition: the listed package variables hold what their initialisers lay. -/
import Derived.Lay
import Derived.SevenTiedAt
import Derived.Stop.Joined
import Derived.Test.YtjhbobacbaikoaaGreatDoorM10
namespace Go.Proofs.YtjhbobacbaikoaaGreatDoor
open Go Go.ChangeShapes Go.WideShapes Go.RowKit
set_option linter.unusedVariables false
set_option maxRecDepth 100000
/-- There is an input that fits, over a world that is laid by hand. -/
theorem witness_laid {H : Type} {enc : TypeId × Value → H} {C : Checked} {os : Os} {f : FuncId} {fn : Func} {s : OpenSpec} {conds : List PathCond} {apart : Bool} {laid : List (String × DataW Unit)} (w0 : World) (args : Array Value) (hos : w0.os = os)
    (hsh : (w0.forCall (fun _ _ => 0) ⟨#[], args, []⟩).Shaped C.prog)
    (hok : Input.okWideB C.prog (w0.forCall (fun _ _ => 0) ⟨#[], args, []⟩) f ⟨#[], args, []⟩ = true)
    (hrow : s.preRow enc C.prog fn conds apart laid (w0.forCall (fun _ _ => 0) ⟨#[], args, []⟩).memory args) :
    ∃ (w : World) (tape : Tape) (i : Input), w.os = os ∧ (w.forCall tape i).Shaped C.prog ∧ i.vars = [] ∧ Input.okWide C.prog (w.forCall tape i) .any w.heap.size f i ∧
      s.preRow enc C.prog fn conds apart laid (w.forCall tape i).memory i.args ∧ ({} : Assume).holds C.prog (lone (Frame.enter C.prog f i.args .normal) [] (w.forCall tape i)) :=
  ⟨w0, fun _ _ => 0, ⟨#[], args, []⟩, hos, hsh, (Input.okWide_of_okWideB (base := 0) hok).1, (Input.okWide_of_okWideB hok).2, hrow, by
    simp only [Assume.holds]
    exact ⟨by simp, by simp, fun _ => Modest.zero, by simp, by simp⟩⟩
def shapeServesArgs : Array Value := #[.agg #[.int .i64 0, .string ⟨#[]⟩, .string ⟨#[]⟩, .string ⟨#[]⟩, .slice none 0 0], .slice none 0 0, .int .i64 0]
def shapeServesData {H : Type} : List (DataW H) := [.agg [.lit (.int .i64 0), .lit (.string []), .lit (.string []), .lit (.string []), .nil], .nil, .lit (.int .i64 0)]
noncomputable abbrev sfW (os : Os) : World := World.laidAll Tryz.prog os Rows.shapeServesUptoRow.laid
noncomputable abbrev sfM (os : Os) : World := (sfW os).forCall (fun _ _ => 0) ⟨#[], shapeServesArgs, []⟩
theorem sf_reads (W : World) {H : Type} (enc : TypeId × Value → H) : DataW.whole enc Tryz.prog W Tryz.f5.params.toList Rows.shapeServesSpec.vars false shapeServesArgs.toList 8 = some (shapeServesData, [], []) := by kernel_rfl
theorem sf_small {H : Type} : Rows.uptoSmall H (shapeServesData ++ []) = true := by kernel_rfl
theorem sf_zip (os : Os) : (sfM os).variablesZipB Tryz.prog = true := by kernel_rfl
theorem sf_rest (os : Os) : ((sfM os).heap.toList.drop Tryz.prog.globals.size).take ((begin Tryz.prog (fun _ _ => 0) default).world.heap.size - Tryz.prog.globals.size) =
      (begin Tryz.prog (fun _ _ => 0) default).world.heap.toList.drop Tryz.prog.globals.size := by kernel_rfl
theorem sf_okB (W : World) : Input.okWideB Tryz.prog W 5 ⟨#[], shapeServesArgs, []⟩ = true := by kernel_rfl
theorem sf_sized (W : World) {H : Type} (enc : TypeId × Value → H) : (Rows.OpenSpec.upto Rows.shapeServesSpec).bare.sizedB enc Tryz.prog Tryz.f5 false W shapeServesArgs 8 = true := by kernel_rfl
theorem sf_fits (os : Os) : (World.holding Tryz.prog os ⟨#[], #[], []⟩).layFits Tryz.prog Rows.shapeServesUptoRow.laid [] = true := by kernel_rfl
theorem sf_ifaces (os : Os) : (World.holding Tryz.prog os ⟨#[], #[], []⟩).layIfaces Tryz.prog Rows.shapeServesUptoRow.laid (sfW os) = true := by kernel_rfl
theorem sf_handles : (Rows.shapeServesUptoRow.laid.all fun x => x.2.handleName?.isNone) = true := by kernel_rfl
theorem shapeServes_lifted (os : Os) (started : os.Started) (H : Type) (enc : TypeId × Value → H) (F : Stop.Interp) :
    ReturnsInHanded {} Tryz.checked os 5 .any ((Rows.OpenSpec.upto Rows.shapeServesSpec).preRow enc Tryz.prog Tryz.f5 Rows.shapeServesUptoRow.domain false Rows.shapeServesUptoRow.laid) (((Rows.OpenSpec.upto Rows.shapeServesSpec).at F).post enc Tryz.prog Tryz.f5 false true false false) := by
  refine returnsInHanded_of_row (C := Tryz.checked) (s := Rows.OpenSpec.upto Rows.shapeServesSpec) ownNone started (by kernel_rfl) Tryz.func5
    (witness_laid (enc := enc) (C := Tryz.checked) (sfW os) shapeServesArgs (World.laidAll_os _ _ _) (World.shaped_of_ZipB (sf_zip os) (sf_rest os)) (sf_okB _)
      (OpenSpec.preRow_of_cond 8 (sf_reads _ enc) (by kernel_rfl) (fun k hk => by cases hk; exact sf_small) (sf_sized _ enc) (by rw [MakeChecks.laidMetH_plain _ _ _ sf_handles]; exact laidMet_laidAll _ (sf_fits os) (sf_ifaces os)))) ?_
  intro W base args ds gs before hval hW _ hcond _ hL _ _
  have hk := fitU_all (hcond _ rfl)
  exact shapeServes_contract H enc W base args ds gs before hval hW (fun d hd => hk d (List.mem_append_left _ hd)) hL
theorem pf_rows : mapsRowed Tryz.prog = true := by kernel_rfl
theorem pf_heard : Tryz.prog.stopsHeard = true := by kernel_rfl
theorem pf_enter : Tryz.prog.mayEnter = true := by kernel_rfl
theorem sf_lifted : (Rows.shapeServesUptoRow.lifted == Tryz.prog.liftsFinal) = true := by kernel_rfl
theorem sf_make : (Tryz.prog.make == some Rows.shapeServesUptoRow.make) = true := by kernel_rfl
theorem sf_inPlace : (Rows.shapeServesUptoRow.inPlace == Tryz.prog.inPlace 5) = true := by kernel_rfl
theorem sf_unfollowed : (Rows.shapeServesUptoRow.unfollowed == Tryz.prog.unfollowed 5) = true := by kernel_rfl
theorem sf_recurses : (Rows.shapeServesUptoRow.recurses == Tryz.prog.recurses 5) = true := by kernel_rfl
theorem sf_named : (Rows.shapeServesUptoRow.named == Tryz.prog.varsNamed 5) = true := by kernel_rfl
theorem sf_tie : namedTie Tryz.prog Rows.shapeServesUptoRow.named (Rows.OpenSpec.upto Rows.shapeServesSpec).bare.vars = true := by kernel_rfl
theorem sf_readable : Tryz.f5.params.all (Tryz.prog.readableRec ·) = true := by kernel_rfl
theorem sf_loops : (Rows.shapeServesUptoRow.loops == (Tryz.f5.params.toList ++ (Rows.OpenSpec.upto Rows.shapeServesSpec).bare.plain.varTypes Tryz.prog).any (Tryz.prog.loopsFrom ·)) = true := by kernel_rfl
theorem sf_veiled : Rows.shapeServesUptoRow.veiledFits Tryz.prog Tryz.f5.params.toList (Tryz.f5.params.toList ++ (Rows.OpenSpec.upto Rows.shapeServesSpec).bare.plain.varTypes Tryz.prog ++ Tryz.f5.resultTypes.toList) = true := by kernel_rfl
theorem sf_facts : joinedFacts Tryz.prog 5 Tryz.f5 (Rows.OpenSpec.upto Rows.shapeServesSpec).bare Rows.shapeServesUptoRow = true := by
  unfold joinedFacts
  simp only [Bool.and_eq_true]
  exact ⟨⟨⟨⟨⟨⟨⟨⟨⟨⟨⟨⟨⟨⟨⟨⟨⟨⟨⟨⟨⟨⟨⟨⟨⟨⟨⟨⟨⟨⟨⟨by kernel_rfl, laidOutT⟩, pf_rows⟩, sf_readable⟩, sf_tie⟩, by kernel_rfl⟩, by kernel_rfl⟩, by kernel_rfl⟩, by kernel_rfl⟩, sf_inPlace⟩, sf_unfollowed⟩, sf_recurses⟩, sf_named⟩, by kernel_rfl⟩, by kernel_rfl⟩, by kernel_rfl⟩, sf_loops⟩, by kernel_rfl⟩, by kernel_rfl⟩, by kernel_rfl⟩, by kernel_rfl⟩, by kernel_rfl⟩, by kernel_rfl⟩, by kernel_rfl⟩, pf_heard⟩, pf_enter⟩, sf_lifted⟩, sf_make⟩, by kernel_rfl⟩, by kernel_rfl⟩, by kernel_rfl⟩, sf_veiled⟩
theorem sf_number : Tryz.prog.funcNamed "flagstone/flagstonelaw6.ShapeServes" = some 5 := by kernel_rfl
theorem shapeServes_saidUpto : Rows.ShapeServesUptoSaid :=
  OpenClaim.holds_of_cond 5 Tryz.f5 rfl rfl rfl rfl rfl rfl rfl ⟨rfl, rfl, rfl, rfl, rfl⟩ rfl rfl rfl rfl rfl sf_number Tryz.func5 sf_facts
    (of_decide_eq_true (by kernel_rfl)) (by unfold Func.isWrapper; first | (rw [if_pos (by decide +kernel)]; kernel_rfl) | (rw [if_neg (by decide +kernel)]; exact ⟨rfl, rfl⟩))
    (fun os started H enc _ F => by rw [OpenClaim.pre_eq_preRow]; exact shapeServes_lifted os started H enc F)
theorem shapeServes_plain (f : FuncId) (fn : Func) (hf : Tryz.pinned.checked.prog.funcNamed "flagstone/flagstonelaw6.ShapeServes" = some f) (hfn : Tryz.pinned.checked.prog.funcs[f]? = some fn) :
    true = Tryz.pinned.checked.prog.looks [] ∧ ∀ (j : Nat) t, fn.params[j]? = some t → Tryz.pinned.checked.prog.wantsStandIn t = false := by
  obtain rfl : f = 5 := Option.some.inj (sf_number.symm.trans hf) |>.symm
  obtain rfl : fn = Tryz.f5 := (Option.some.inj (Tryz.func5.symm.trans hfn)).symm
  refine ⟨by kernel_rfl, fun j t ht => ?_⟩
  rw [Tryz.params5] at ht
  have hm : t ∈ [56, 26, 3] := by simpa using Array.mem_of_getElem? ht
  have hall : ([56, 26, 3].all fun u => !Tryz.prog.wantsStandIn u) = true := by kernel_rfl
  exact (show Tryz.prog.wantsStandIn t = false by simpa using List.all_eq_true.1 hall t hm)
theorem shapeServes_cardUpto : Rows.ShapeServesUptoCardSaid :=
  Claim7.holds_tied_plain_at .later [] _ _ _ _ shapeServes_saidUpto (fun _ h => by cases h) (by kernel_rfl) (fun _ h => by cases h) shapeServesUpto_row_tie rfl ⟨rfl, rfl⟩ (by kernel_rfl) rfl shapeServes_plain (by kernel_rfl)
end Go.Proofs.YtjhbobacbaikoaaGreatDoor
