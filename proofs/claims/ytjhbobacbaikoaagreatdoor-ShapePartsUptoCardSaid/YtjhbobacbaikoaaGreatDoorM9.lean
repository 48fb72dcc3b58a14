/- A function of the program as a pure function, and that the program computes it. -/
import Derived.Test.YtjhbobacbaikoaaGreatDoorM4
import Derived.Test.YtjhbobacbaikoaaGreatDoorM8
import Derived.Test.YtjhbobacbaikoaaGreatDoorM5
import Derived.Test.YtjhbobacbaikoaaGreatDoorM6
import Derived.Test.YtjhbobacbaikoaaGreatDoorM7
import Derived.Test.YtjhbobacbaikoaaGreatDoorCards
import Derived.Test.YtjhbobacbaikoaaGreatDoorTie
import Derived.Deep.DeepHandedRow
import Derived.Deep.DeepWitnessRowRef
import Derived.OpenShut
namespace Go.Proofs.YtjhbobacbaikoaaGreatDoor
open Go
set_option linter.unusedVariables false
set_option linter.unusedSimpArgs false
set_option maxRecDepth 100000
def p_shape_list_api_Flag_L1 (n : Nat) (x0 : List TFlag) : Option Int := match n with
| 0 => none
| n + 1 =>
(bif decide (0 < (lI x0)) then
(rdO x0 0).bind fun v5 =>
 none
 else
 some (0))
def p_shape_list_api_Flag (n : Nat) (x0 : List TFlag) (x1 : Int) : Option Int :=
(bif decide ((lI x0) > x1) then
 some (5)
 else
 p_shape_list_api_Flag_L1 n x0 )
variable {E : Env}
theorem s_shape_list_api_Flag {n : Nat} (hG : GlobT E) {x0 : List TFlag} {x1 : Int} {r : Int} (H : p_shape_list_api_Flag n x0 x1 = some r) :
    Sp Tryz.prog E 91 [.ro .unk x0.length (TFlag.cl x0), iA x1, .val (.func (.func 34) #[] #[]), .val (.func (.func 92) #[] #[])] [] (isA (iA r) []) := by
  unfold p_shape_list_api_Flag at H
  refine Sp_fn Tryz.func91 rfl (fun hc hs => ?_)
  refine AWP_reg (Rh 1 45 [(0, .ro .unk x0.length (TFlag.cl x0)), (1, iA x1), (2, .val (.func (.func 34) #[] #[])), (3, .val (.func (.func 92) #[] #[]))] (AOps_done (AWP_seq (AWP_reg (Rh 4 45 [(0, .ro .unk x0.length (TFlag.cl x0)), (2, .val (.func (.func 34) #[] #[])), (3, .val (.func (.func 92) #[] #[])), (15, bA (decide ((lI x0) > x1)))] (AOps_done (CD H (fun hb1 H => ?_) (fun hb1 H => ?_))))))))
  · refine AWP_reg (Rh 1 45 [(8, iA 5)] (AOps_done ?_))
    exact AWP_ret (FR H)
  · refine AWP_skip ?_
    show AWP _ _ _ _ _ _ _
    refine AWP_seq (AWP_reg (Rh 3 45 [(0, .ro .unk x0.length (TFlag.cl x0)), (2, .val (.func (.func 34) #[] #[])), (3, .val (.func (.func 92) #[] #[])), (16, .ro .unk x0.length (TFlag.cl x0)), (17, iA (lI x0)), (18, iA 0)] (AOps_done (AWP_block ?_))))
    refine AWP_loopN (α := Unit) (fun _ => fr 45 [(0, .ro .unk x0.length (TFlag.cl x0)), (2, .val (.func (.func 34) #[] #[])), (3, .val (.func (.func 92) #[] #[])), (16, .ro .unk x0.length (TFlag.cl x0)), (17, iA (lI x0)), (18, iA 0)]) (fun _ => []) (fun k_ _ => k_ ≤ n ∧ p_shape_list_api_Flag_L1 k_ x0  = some r) (fun n a H => ?_) (k := n) () ⟨Nat.le_refl _, H⟩ (Norm_fd [0, 2, 3, 16, 17, 18] 0 (by kernel_rfl) rfl rfl trivial (by refine scL_fr ?_; exact ⟨(scl_TFlag_cl _ _), trivial, trivial, (scl_TFlag_cl _ _), trivial, trivial, trivial⟩))
    show AWP _ _ _ _ _ (fr 45 [(0, .ro .unk x0.length (TFlag.cl x0)), (2, .val (.func (.func 34) #[] #[])), (3, .val (.func (.func 92) #[] #[])), (16, .ro .unk x0.length (TFlag.cl x0)), (17, iA (lI x0)), (18, iA 0)]) []
    obtain ⟨hb_, H⟩ := H
    replace H : p_shape_list_api_Flag_L1 n x0  = some r := H
    cases n with
    | zero => exact not_none (by simpa only [p_shape_list_api_Flag_L1] using H)
    | succ n =>
      unfold p_shape_list_api_Flag_L1 at H
      refine AWP_reg (Rh 1 45 [(0, .ro .unk x0.length (TFlag.cl x0)), (2, .val (.func (.func 34) #[] #[])), (3, .val (.func (.func 92) #[] #[])), (16, .ro .unk x0.length (TFlag.cl x0)), (17, iA (lI x0)), (18, iA 0), (19, bA (decide (0 < (lI x0))))] (AOps_done (AWP_seq (CD H (fun hb4 H => ?_) (fun hb4 H => ?_)))))
      · refine AWP_skip ?_
        show AWP _ _ _ _ _ _ _
        refine AWP_seq (AWP_block ?_)
        refine AWP_reg (Rh 1 45 [(0, .ro .unk x0.length (TFlag.cl x0)), (2, .val (.func (.func 34) #[] #[])), (3, .val (.func (.func 92) #[] #[])), (16, .ro .unk x0.length (TFlag.cl x0)), (17, iA (lI x0)), (18, iA 0), (20, iA 0)] ?_)
        obtain ⟨v5, hv5, H⟩ := bind_some H
        refine AOps_index (d := (some 21)) (sz := 13) (c := TFlag.cs) (by kernel_rfl) rfl (eq_TFlag_cl _) (fun _ => rfl) (by decide) hv5 (fun tl5 => ?_)
        refine R 4 45 [(0, .ro .unk x0.length (TFlag.cl x0)), (2, .val (.func (.func 34) #[] #[])), (3, .val (.func (.func 92) #[] #[])), (9, iA 0), (10, .ptr 0 0), (16, .ro .unk x0.length (TFlag.cl x0)), (17, iA (lI x0)), (18, iA 0)] [.cells 65 (TFlag.cs v5)] (AOps_done (AWP_seq ?_))
        exact not_none H
      · refine AWP_exit ?_
        show AWP _ _ _ _ _ _ _
        refine AWP_reg (Rh 1 45 [(8, iA 0)] (AOps_done ?_))
        exact AWP_ret (FR H)
end Go.Proofs.YtjhbobacbaikoaaGreatDoor
/- A function of the program as a pure function, and that the program computes it. -/
namespace Go.Proofs.YtjhbobacbaikoaaGreatDoor
open Go
set_option linter.unusedVariables false
set_option linter.unusedSimpArgs false
set_option maxRecDepth 100000
def p_shape_list_api_Layer_L1 (n : Nat) (x0 : List TLayer) : Option Int := match n with
| 0 => none
| n + 1 =>
(bif decide (0 < (lI x0)) then
(rdO x0 0).bind fun v5 =>
 none
 else
 some (0))
def p_shape_list_api_Layer (n : Nat) (x0 : List TLayer) (x1 : Int) : Option Int :=
(bif decide ((lI x0) > x1) then
 some (5)
 else
 p_shape_list_api_Layer_L1 n x0 )
variable {E : Env}
theorem s_shape_list_api_Layer {n : Nat} (hG : GlobT E) {x0 : List TLayer} {x1 : Int} {r : Int} (H : p_shape_list_api_Layer n x0 x1 = some r) :
    Sp Tryz.prog E 93 [.ro .unk x0.length (TLayer.cl x0), iA x1, .val (.func (.func 38) #[] #[]), .val (.func (.func 94) #[] #[])] [] (isA (iA r) []) := by
  unfold p_shape_list_api_Layer at H
  refine Sp_fn Tryz.func93 rfl (fun hc hs => ?_)
  refine AWP_reg (Rh 1 45 [(0, .ro .unk x0.length (TLayer.cl x0)), (1, iA x1), (2, .val (.func (.func 38) #[] #[])), (3, .val (.func (.func 94) #[] #[]))] (AOps_done (AWP_seq (AWP_reg (Rh 4 45 [(0, .ro .unk x0.length (TLayer.cl x0)), (2, .val (.func (.func 38) #[] #[])), (3, .val (.func (.func 94) #[] #[])), (15, bA (decide ((lI x0) > x1)))] (AOps_done (CD H (fun hb1 H => ?_) (fun hb1 H => ?_))))))))
  · refine AWP_reg (Rh 1 45 [(8, iA 5)] (AOps_done ?_))
    exact AWP_ret (FR H)
  · refine AWP_skip ?_
    show AWP _ _ _ _ _ _ _
    refine AWP_seq (AWP_reg (Rh 3 45 [(0, .ro .unk x0.length (TLayer.cl x0)), (2, .val (.func (.func 38) #[] #[])), (3, .val (.func (.func 94) #[] #[])), (16, .ro .unk x0.length (TLayer.cl x0)), (17, iA (lI x0)), (18, iA 0)] (AOps_done (AWP_block ?_))))
    refine AWP_loopN (α := Unit) (fun _ => fr 45 [(0, .ro .unk x0.length (TLayer.cl x0)), (2, .val (.func (.func 38) #[] #[])), (3, .val (.func (.func 94) #[] #[])), (16, .ro .unk x0.length (TLayer.cl x0)), (17, iA (lI x0)), (18, iA 0)]) (fun _ => []) (fun k_ _ => k_ ≤ n ∧ p_shape_list_api_Layer_L1 k_ x0  = some r) (fun n a H => ?_) (k := n) () ⟨Nat.le_refl _, H⟩ (Norm_fd [0, 2, 3, 16, 17, 18] 0 (by kernel_rfl) rfl rfl trivial (by refine scL_fr ?_; exact ⟨(scl_TLayer_cl _ _), trivial, trivial, (scl_TLayer_cl _ _), trivial, trivial, trivial⟩))
    show AWP _ _ _ _ _ (fr 45 [(0, .ro .unk x0.length (TLayer.cl x0)), (2, .val (.func (.func 38) #[] #[])), (3, .val (.func (.func 94) #[] #[])), (16, .ro .unk x0.length (TLayer.cl x0)), (17, iA (lI x0)), (18, iA 0)]) []
    obtain ⟨hb_, H⟩ := H
    replace H : p_shape_list_api_Layer_L1 n x0  = some r := H
    cases n with
    | zero => exact not_none (by simpa only [p_shape_list_api_Layer_L1] using H)
    | succ n =>
      unfold p_shape_list_api_Layer_L1 at H
      refine AWP_reg (Rh 1 45 [(0, .ro .unk x0.length (TLayer.cl x0)), (2, .val (.func (.func 38) #[] #[])), (3, .val (.func (.func 94) #[] #[])), (16, .ro .unk x0.length (TLayer.cl x0)), (17, iA (lI x0)), (18, iA 0), (19, bA (decide (0 < (lI x0))))] (AOps_done (AWP_seq (CD H (fun hb4 H => ?_) (fun hb4 H => ?_)))))
      · refine AWP_skip ?_
        show AWP _ _ _ _ _ _ _
        refine AWP_seq (AWP_block ?_)
        refine AWP_reg (Rh 1 45 [(0, .ro .unk x0.length (TLayer.cl x0)), (2, .val (.func (.func 38) #[] #[])), (3, .val (.func (.func 94) #[] #[])), (16, .ro .unk x0.length (TLayer.cl x0)), (17, iA (lI x0)), (18, iA 0), (20, iA 0)] ?_)
        obtain ⟨v5, hv5, H⟩ := bind_some H
        refine AOps_index (d := (some 21)) (sz := 6) (c := TLayer.cs) (by kernel_rfl) rfl (eq_TLayer_cl _) (fun _ => rfl) (by decide) hv5 (fun tl5 => ?_)
        refine R 4 45 [(0, .ro .unk x0.length (TLayer.cl x0)), (2, .val (.func (.func 38) #[] #[])), (3, .val (.func (.func 94) #[] #[])), (9, iA 0), (10, .ptr 0 0), (16, .ro .unk x0.length (TLayer.cl x0)), (17, iA (lI x0)), (18, iA 0)] [.cells 74 (TLayer.cs v5)] (AOps_done (AWP_seq ?_))
        exact not_none H
      · refine AWP_exit ?_
        show AWP _ _ _ _ _ _ _
        refine AWP_reg (Rh 1 45 [(8, iA 0)] (AOps_done ?_))
        exact AWP_ret (FR H)
end Go.Proofs.YtjhbobacbaikoaaGreatDoor
/- A function of the program as a pure function, and that the program computes it. -/
namespace Go.Proofs.YtjhbobacbaikoaaGreatDoor
open Go
set_option linter.unusedVariables false
set_option linter.unusedSimpArgs false
set_option maxRecDepth 100000
def p_shape_list_api_Segment_L1 (n : Nat) (x0 : List TSegment) : Option Int := match n with
| 0 => none
| n + 1 =>
(bif decide (0 < (lI x0)) then
(rdO x0 0).bind fun v5 =>
 none
 else
 some (0))
def p_shape_list_api_Segment (n : Nat) (x0 : List TSegment) (x1 : Int) : Option Int :=
(bif decide ((lI x0) > x1) then
 some (5)
 else
 p_shape_list_api_Segment_L1 n x0 )
variable {E : Env}
theorem s_shape_list_api_Segment {n : Nat} (hG : GlobT E) {x0 : List TSegment} {x1 : Int} {r : Int} (H : p_shape_list_api_Segment n x0 x1 = some r) :
    Sp Tryz.prog E 89 [.ro .unk x0.length (TSegment.cl x0), iA x1, .val (.func (.func 36) #[] #[]), .val (.func (.func 90) #[] #[])] [] (isA (iA r) []) := by
  unfold p_shape_list_api_Segment at H
  refine Sp_fn Tryz.func89 rfl (fun hc hs => ?_)
  refine AWP_reg (Rh 1 45 [(0, .ro .unk x0.length (TSegment.cl x0)), (1, iA x1), (2, .val (.func (.func 36) #[] #[])), (3, .val (.func (.func 90) #[] #[]))] (AOps_done (AWP_seq (AWP_reg (Rh 4 45 [(0, .ro .unk x0.length (TSegment.cl x0)), (2, .val (.func (.func 36) #[] #[])), (3, .val (.func (.func 90) #[] #[])), (15, bA (decide ((lI x0) > x1)))] (AOps_done (CD H (fun hb1 H => ?_) (fun hb1 H => ?_))))))))
  · refine AWP_reg (Rh 1 45 [(8, iA 5)] (AOps_done ?_))
    exact AWP_ret (FR H)
  · refine AWP_skip ?_
    show AWP _ _ _ _ _ _ _
    refine AWP_seq (AWP_reg (Rh 3 45 [(0, .ro .unk x0.length (TSegment.cl x0)), (2, .val (.func (.func 36) #[] #[])), (3, .val (.func (.func 90) #[] #[])), (16, .ro .unk x0.length (TSegment.cl x0)), (17, iA (lI x0)), (18, iA 0)] (AOps_done (AWP_block ?_))))
    refine AWP_loopN (α := Unit) (fun _ => fr 45 [(0, .ro .unk x0.length (TSegment.cl x0)), (2, .val (.func (.func 36) #[] #[])), (3, .val (.func (.func 90) #[] #[])), (16, .ro .unk x0.length (TSegment.cl x0)), (17, iA (lI x0)), (18, iA 0)]) (fun _ => []) (fun k_ _ => k_ ≤ n ∧ p_shape_list_api_Segment_L1 k_ x0  = some r) (fun n a H => ?_) (k := n) () ⟨Nat.le_refl _, H⟩ (Norm_fd [0, 2, 3, 16, 17, 18] 0 (by kernel_rfl) rfl rfl trivial (by refine scL_fr ?_; exact ⟨(scl_TSegment_cl _ _), trivial, trivial, (scl_TSegment_cl _ _), trivial, trivial, trivial⟩))
    show AWP _ _ _ _ _ (fr 45 [(0, .ro .unk x0.length (TSegment.cl x0)), (2, .val (.func (.func 36) #[] #[])), (3, .val (.func (.func 90) #[] #[])), (16, .ro .unk x0.length (TSegment.cl x0)), (17, iA (lI x0)), (18, iA 0)]) []
    obtain ⟨hb_, H⟩ := H
    replace H : p_shape_list_api_Segment_L1 n x0  = some r := H
    cases n with
    | zero => exact not_none (by simpa only [p_shape_list_api_Segment_L1] using H)
    | succ n =>
      unfold p_shape_list_api_Segment_L1 at H
      refine AWP_reg (Rh 1 45 [(0, .ro .unk x0.length (TSegment.cl x0)), (2, .val (.func (.func 36) #[] #[])), (3, .val (.func (.func 90) #[] #[])), (16, .ro .unk x0.length (TSegment.cl x0)), (17, iA (lI x0)), (18, iA 0), (19, bA (decide (0 < (lI x0))))] (AOps_done (AWP_seq (CD H (fun hb4 H => ?_) (fun hb4 H => ?_)))))
      · refine AWP_skip ?_
        show AWP _ _ _ _ _ _ _
        refine AWP_seq (AWP_block ?_)
        refine AWP_reg (Rh 1 45 [(0, .ro .unk x0.length (TSegment.cl x0)), (2, .val (.func (.func 36) #[] #[])), (3, .val (.func (.func 90) #[] #[])), (16, .ro .unk x0.length (TSegment.cl x0)), (17, iA (lI x0)), (18, iA 0), (20, iA 0)] ?_)
        obtain ⟨v5, hv5, H⟩ := bind_some H
        refine AOps_index (d := (some 21)) (sz := 9) (c := TSegment.cs) (by kernel_rfl) rfl (eq_TSegment_cl _) (fun _ => rfl) (by decide) hv5 (fun tl5 => ?_)
        refine R 4 45 [(0, .ro .unk x0.length (TSegment.cl x0)), (2, .val (.func (.func 36) #[] #[])), (3, .val (.func (.func 90) #[] #[])), (9, iA 0), (10, .ptr 0 0), (16, .ro .unk x0.length (TSegment.cl x0)), (17, iA (lI x0)), (18, iA 0)] [.cells 71 (TSegment.cs v5)] (AOps_done (AWP_seq ?_))
        exact not_none H
      · refine AWP_exit ?_
        show AWP _ _ _ _ _ _ _
        refine AWP_reg (Rh 1 45 [(8, iA 0)] (AOps_done ?_))
        exact AWP_ret (FR H)
end Go.Proofs.YtjhbobacbaikoaaGreatDoor
/- A function of the program as a pure function, and that the program computes it. -/
namespace Go.Proofs.YtjhbobacbaikoaaGreatDoor
open Go
set_option linter.unusedVariables false
set_option linter.unusedSimpArgs false
set_option maxRecDepth 100000
def p_shape_Environment (n : Nat) (x0 : TEnvironment) : Option Int :=
(p_text_Valid n x0.gSettings.gSalt).bind fun v1 =>
(p_shape_when n (!v1) 2).bind fun v2 =>
(p_shape_when n ((decide (x0.gSettings.gHoldout < 0)) || (decide (x0.gSettings.gHoldout > 10000))) 3).bind fun v3 =>
(p_text_Key n x0.gSettings.gHoldoutKind).bind fun v4 =>
(p_shape_when n ((!v4) && ((!(seq' x0.gSettings.gHoldoutKind ByteArray.empty)) || (x0.gSettings.gHoldout != 0))) 6).bind fun v5 =>
(p_shape_attributes n x0.gAttributes).bind fun v6 =>
(p_shape_first n ([v2, v3, v5, v6])).bind fun v7 =>
(bif v7 != 0 then
 some (v7)
 else
(p_shape_list_api_Segment n x0.gSegments 20).bind fun v9 =>
(bif v9 != 0 then
 some (v9)
 else
(p_shape_list_api_Flag n x0.gFlags 30).bind fun v11 =>
(bif v11 != 0 then
 some (v11)
 else
(p_shape_list_api_Layer n x0.gLayers 6).bind fun v13 =>
(bif v13 != 0 then
 some (v13)
 else
(p_shape_list_api_Experiment n x0.gExperiments 16).bind fun v15 =>
 some (v15)))))
variable {E : Env}
theorem s_shape_Environment {n : Nat} (hG : GlobT E) {x0 : TEnvironment} {r : Int} (H : p_shape_Environment n x0 = some r) :
    Sp Tryz.prog E 44 [.agg (TEnvironment.cs x0)] [] (isA (iA r) []) := by
  unfold p_shape_Environment at H
  refine Sp_fn Tryz.func44 rfl (fun hc hs => ?_)
  refine AWP_reg (R 2 68 [(1, .ptr 0 0)] [.cells 90 (TEnvironment.cs x0)] (AOps_done (AWP_reg (R 4 68 [(1, .ptr 0 0), (3, .ptr 1 0)] [.cells 83 (TSettings.cs x0.gSettings), .cells 90 (TEnvironment.cs x0)] (AOps_done (AWP_seq ?_))))))
  obtain ⟨v1, hv1, H⟩ := bind_some H
  obtain ⟨v2, hv2, H⟩ := bind_some H
  obtain ⟨v3, hv3, H⟩ := bind_some H
  obtain ⟨v4, hv4, H⟩ := bind_some H
  obtain ⟨v5, hv5, H⟩ := bind_some H
  obtain ⟨v6, hv6, H⟩ := bind_some H
  obtain ⟨v7, hv7, H⟩ := bind_some H
  refine AWP_regD1 [0, 1, 5, 6, 7, 14, 15, 29, 30, 2, 3, 4, 8, 9, 10, 11, 12, 13, 16, 17, 18, 19, 20, 21, 22, 23, 24, 25, 26, 27, 28, 31, 32, 33, 34] (N := 68) (f := [(1, .ptr 0 0), (3, .ptr 1 0)]) (leL_of [1, 3] (by kernel_rfl)) mixed (by kernel_rfl) (by kernel_rfl) (st' := fr 68 [(1, .ptr 0 0), (4, iA v7)]) (h' := [.cells 83 (TSettings.cs x0.gSettings), .cells 90 (TEnvironment.cs x0)]) ?_ ?_
  rotate_left
  · refine RD 9 68 [(30, 0), (29, 0), (15, 1), (14, 1), (6, 1), (5, 1), (1, 1), (0, 1)] [(1, .ptr 0 0), (3, .ptr 1 0), (10, .ptr 1 0), (11, sA x0.gSettings.gSalt), (15, .ptr 1 2), (16, iA x0.gSettings.gHoldout), (17, bA (decide (x0.gSettings.gHoldout < 0))), (24, .ptr 1 1), (25, sA x0.gSettings.gHoldoutKind), (39, .ptr 0 3), (40, .ro .unk x0.gAttributes.length (TDeclared.cl x0.gAttributes))] (AD_callp (d := (some 12)) (al := [sA x0.gSettings.gSalt]) (r := bA v1) (by kernel_rfl) (s_text_Valid hG hv1) ⟨trivial, trivial⟩ trivial ?_)
    refine RD 1 68 [(30, 0), (29, 0), (15, 1), (14, 1), (6, 1), (5, 1), (1, 1), (0, 1)] [(1, .ptr 0 0), (3, .ptr 1 0), (10, .ptr 1 0), (11, sA x0.gSettings.gSalt), (12, bA v1), (13, bA (!v1)), (15, .ptr 1 2), (16, iA x0.gSettings.gHoldout), (17, bA (decide (x0.gSettings.gHoldout < 0))), (24, .ptr 1 1), (25, sA x0.gSettings.gHoldoutKind), (39, .ptr 0 3), (40, .ro .unk x0.gAttributes.length (TDeclared.cl x0.gAttributes))] (AD_callp (d := (some 14)) (al := [bA (!v1), iA 2]) (r := iA v2) (by kernel_rfl) (s_shape_when hv2) ⟨trivial, trivial, trivial⟩ trivial ?_)
    refine RD 1 68 [(30, 0), (29, 0), (15, 1), (14, 1), (6, 1), (5, 1), (1, 1), (0, 1)] [(1, .ptr 0 0), (3, .ptr 1 0), (10, .ptr 1 0), (11, sA x0.gSettings.gSalt), (12, bA v1), (13, bA (!v1)), (14, iA v2), (15, .ptr 1 2), (16, iA x0.gSettings.gHoldout), (17, bA (decide (x0.gSettings.gHoldout < 0))), (18, bA (decide (x0.gSettings.gHoldout < 0))), (24, .ptr 1 1), (25, sA x0.gSettings.gHoldoutKind), (39, .ptr 0 3), (40, .ro .unk x0.gAttributes.length (TDeclared.cl x0.gAttributes))] ?_
    cases c1 : (decide (x0.gSettings.gHoldout < 0) : Bool) with
    | true =>
      refine RD 4 68 [(30, 0), (29, 0), (15, 1), (14, 1), (6, 1), (5, 1), (1, 1), (0, 1)] [(1, .ptr 0 0), (3, .ptr 1 0), (10, .ptr 1 0), (11, sA x0.gSettings.gSalt), (12, bA v1), (13, bA (!v1)), (14, iA v2), (15, .ptr 1 2), (16, iA x0.gSettings.gHoldout), (17, bA true), (18, bA true), (19, undefA), (20, undefA), (21, undefA), (22, bA (true || (decide (x0.gSettings.gHoldout > 10000)))), (24, .ptr 1 1), (25, sA x0.gSettings.gHoldoutKind), (39, .ptr 0 3), (40, .ro .unk x0.gAttributes.length (TDeclared.cl x0.gAttributes))] ?_
      try rw [c1] at hv3
      refine AD_callp (d := (some 23)) (al := [bA (true || (decide (x0.gSettings.gHoldout > 10000))), iA 3]) (r := iA v3) (by kernel_rfl) (s_shape_when hv3) ⟨trivial, trivial, trivial⟩ trivial ?_
      refine AD_callp (d := (some 26)) (al := [sA x0.gSettings.gHoldoutKind]) (r := bA v4) (by kernel_rfl) (s_text_Key hG hv4) ⟨trivial, trivial⟩ trivial ?_
      refine RD 2 68 [(30, 0), (29, 0), (15, 1), (14, 1), (6, 1), (5, 1), (1, 1), (0, 1)] [(1, .ptr 0 0), (3, .ptr 1 0), (10, .ptr 1 0), (11, sA x0.gSettings.gSalt), (12, bA v1), (13, bA (!v1)), (14, iA v2), (15, .ptr 1 2), (16, iA x0.gSettings.gHoldout), (17, bA true), (18, bA true), (19, undefA), (20, undefA), (21, undefA), (22, bA (true || (decide (x0.gSettings.gHoldout > 10000)))), (23, iA v3), (24, .ptr 1 1), (25, sA x0.gSettings.gHoldoutKind), (26, bA v4), (27, bA (!v4)), (28, bA (!v4)), (39, .ptr 0 3), (40, .ro .unk x0.gAttributes.length (TDeclared.cl x0.gAttributes))] ?_
      cases c2 : (v4 : Bool) with
      | true =>
        refine RD 9 68 [(30, 0), (29, 0), (15, 1), (14, 1), (6, 1), (5, 1), (1, 1), (0, 1)] [(1, .ptr 0 0), (3, .ptr 1 0), (10, .ptr 1 0), (11, sA x0.gSettings.gSalt), (12, bA v1), (13, bA (!v1)), (14, iA v2), (15, .ptr 1 2), (16, iA x0.gSettings.gHoldout), (17, bA true), (18, bA true), (19, undefA), (20, undefA), (21, undefA), (22, bA (true || (decide (x0.gSettings.gHoldout > 10000)))), (23, iA v3), (24, .ptr 1 1), (25, sA x0.gSettings.gHoldoutKind), (26, bA true), (27, bA (!true)), (28, bA (!true)), (29, undefA), (30, undefA), (31, undefA), (32, undefA), (33, undefA), (34, undefA), (35, undefA), (36, undefA), (37, bA ((!true) && ((!(seq' x0.gSettings.gHoldoutKind ByteArray.empty)) || (x0.gSettings.gHoldout != 0)))), (39, .ptr 0 3), (40, .ro .unk x0.gAttributes.length (TDeclared.cl x0.gAttributes))] ?_
        try rw [c1] at hv5
        try rw [c2] at hv5
        refine AD_callp (d := (some 38)) (al := [bA ((!true) && ((!(seq' x0.gSettings.gHoldoutKind ByteArray.empty)) || (x0.gSettings.gHoldout != 0))), iA 6]) (r := iA v5) (by kernel_rfl) (s_shape_when hv5) ⟨trivial, trivial, trivial⟩ trivial ?_
        refine AD_callp (d := (some 41)) (al := [.ro .unk x0.gAttributes.length (TDeclared.cl x0.gAttributes)]) (r := iA v6) (by kernel_rfl) (s_shape_attributes hG hv6) ⟨(scl_TDeclared_cl _ _), trivial⟩ trivial ?_
        refine AD_bsl (d := (some 42)) (m := 4) (cs := [iA v2, iA v3, iA v5, iA v6]) (by kernel_rfl) ⟨trivial, trivial, trivial, trivial, trivial⟩ ?_
        refine AD_callp (d := (some 43)) (al := [.ro .unk ([v2, v3, v5, v6]).length (cl_i64 ([v2, v3, v5, v6]))]) (r := iA v7) (by kernel_rfl) (s_shape_first hv7) ⟨(scl_cl_i64 _ _), trivial⟩ trivial ?_
        refine RD 1 68 [(30, 0), (29, 0), (15, 1), (14, 1), (6, 1), (5, 1), (1, 1), (0, 1)] [(1, .ptr 0 0), (3, .ptr 1 0), (4, iA v7), (10, .ptr 1 0), (11, sA x0.gSettings.gSalt), (12, bA v1), (13, bA (!v1)), (14, iA v2), (15, .ptr 1 2), (16, iA x0.gSettings.gHoldout), (17, bA true), (18, bA true), (19, undefA), (20, undefA), (21, undefA), (22, bA (true || (decide (x0.gSettings.gHoldout > 10000)))), (23, iA v3), (24, .ptr 1 1), (25, sA x0.gSettings.gHoldoutKind), (26, bA true), (27, bA (!true)), (28, bA (!true)), (29, undefA), (30, undefA), (31, undefA), (32, undefA), (33, undefA), (34, undefA), (35, undefA), (36, undefA), (37, bA ((!true) && ((!(seq' x0.gSettings.gHoldoutKind ByteArray.empty)) || (x0.gSettings.gHoldout != 0)))), (38, iA v5), (39, .ptr 0 3), (40, .ro .unk x0.gAttributes.length (TDeclared.cl x0.gAttributes)), (41, iA v6), (42, .ro .unk ([v2, v3, v5, v6]).length (cl_i64 ([v2, v3, v5, v6]))), (43, iA v7)] ?_
        exact AD_here [1, 4] (by kernel_rfl) rfl
      | false =>
        refine RD 4 68 [(20, 1), (19, 1), (30, 0), (29, 0), (15, 1), (14, 1), (6, 1), (5, 1), (1, 1), (0, 1)] [(1, .ptr 0 0), (3, .ptr 1 0), (10, .ptr 1 0), (11, sA x0.gSettings.gSalt), (12, bA v1), (13, bA (!v1)), (14, iA v2), (15, .ptr 1 2), (16, iA x0.gSettings.gHoldout), (17, bA true), (18, bA true), (19, undefA), (20, undefA), (21, undefA), (22, bA (true || (decide (x0.gSettings.gHoldout > 10000)))), (23, iA v3), (24, .ptr 1 1), (25, sA x0.gSettings.gHoldoutKind), (26, bA false), (27, bA (!false)), (28, bA (!false)), (29, .ptr 1 1), (30, sA x0.gSettings.gHoldoutKind), (31, bA (!(seq' x0.gSettings.gHoldoutKind ByteArray.empty))), (32, bA (!(seq' x0.gSettings.gHoldoutKind ByteArray.empty))), (39, .ptr 0 3), (40, .ro .unk x0.gAttributes.length (TDeclared.cl x0.gAttributes))] ?_
        cases c3 : (seq' x0.gSettings.gHoldoutKind ByteArray.empty : Bool) with
        | true =>
          refine RD 5 68 [(24, 1), (23, 1), (20, 1), (19, 1), (30, 0), (29, 0), (15, 1), (14, 1), (6, 1), (5, 1), (1, 1), (0, 1)] [(1, .ptr 0 0), (3, .ptr 1 0), (10, .ptr 1 0), (11, sA x0.gSettings.gSalt), (12, bA v1), (13, bA (!v1)), (14, iA v2), (15, .ptr 1 2), (16, iA x0.gSettings.gHoldout), (17, bA true), (18, bA true), (19, undefA), (20, undefA), (21, undefA), (22, bA (true || (decide (x0.gSettings.gHoldout > 10000)))), (23, iA v3), (24, .ptr 1 1), (25, sA x0.gSettings.gHoldoutKind), (26, bA false), (27, bA (!false)), (28, bA (!false)), (29, .ptr 1 1), (30, sA x0.gSettings.gHoldoutKind), (31, bA (!true)), (32, bA (!true)), (33, .ptr 1 2), (34, iA x0.gSettings.gHoldout), (35, bA (x0.gSettings.gHoldout != 0)), (36, bA ((!true) || (x0.gSettings.gHoldout != 0))), (37, bA ((!false) && ((!true) || (x0.gSettings.gHoldout != 0)))), (39, .ptr 0 3), (40, .ro .unk x0.gAttributes.length (TDeclared.cl x0.gAttributes))] ?_
          try rw [c1] at hv5
          try rw [c2] at hv5
          try rw [c3] at hv5
          refine AD_callp (d := (some 38)) (al := [bA ((!false) && ((!true) || (x0.gSettings.gHoldout != 0))), iA 6]) (r := iA v5) (by kernel_rfl) (s_shape_when hv5) ⟨trivial, trivial, trivial⟩ trivial ?_
          refine AD_callp (d := (some 41)) (al := [.ro .unk x0.gAttributes.length (TDeclared.cl x0.gAttributes)]) (r := iA v6) (by kernel_rfl) (s_shape_attributes hG hv6) ⟨(scl_TDeclared_cl _ _), trivial⟩ trivial ?_
          refine AD_bsl (d := (some 42)) (m := 4) (cs := [iA v2, iA v3, iA v5, iA v6]) (by kernel_rfl) ⟨trivial, trivial, trivial, trivial, trivial⟩ ?_
          refine AD_callp (d := (some 43)) (al := [.ro .unk ([v2, v3, v5, v6]).length (cl_i64 ([v2, v3, v5, v6]))]) (r := iA v7) (by kernel_rfl) (s_shape_first hv7) ⟨(scl_cl_i64 _ _), trivial⟩ trivial ?_
          refine RD 1 68 [(24, 1), (23, 1), (20, 1), (19, 1), (30, 0), (29, 0), (15, 1), (14, 1), (6, 1), (5, 1), (1, 1), (0, 1)] [(1, .ptr 0 0), (3, .ptr 1 0), (4, iA v7), (10, .ptr 1 0), (11, sA x0.gSettings.gSalt), (12, bA v1), (13, bA (!v1)), (14, iA v2), (15, .ptr 1 2), (16, iA x0.gSettings.gHoldout), (17, bA true), (18, bA true), (19, undefA), (20, undefA), (21, undefA), (22, bA (true || (decide (x0.gSettings.gHoldout > 10000)))), (23, iA v3), (24, .ptr 1 1), (25, sA x0.gSettings.gHoldoutKind), (26, bA false), (27, bA (!false)), (28, bA (!false)), (29, .ptr 1 1), (30, sA x0.gSettings.gHoldoutKind), (31, bA (!true)), (32, bA (!true)), (33, .ptr 1 2), (34, iA x0.gSettings.gHoldout), (35, bA (x0.gSettings.gHoldout != 0)), (36, bA ((!true) || (x0.gSettings.gHoldout != 0))), (37, bA ((!false) && ((!true) || (x0.gSettings.gHoldout != 0)))), (38, iA v5), (39, .ptr 0 3), (40, .ro .unk x0.gAttributes.length (TDeclared.cl x0.gAttributes)), (41, iA v6), (42, .ro .unk ([v2, v3, v5, v6]).length (cl_i64 ([v2, v3, v5, v6]))), (43, iA v7)] ?_
          exact AD_here [1, 4] (by kernel_rfl) rfl
        | false =>
          refine RD 5 68 [(20, 1), (19, 1), (30, 0), (29, 0), (15, 1), (14, 1), (6, 1), (5, 1), (1, 1), (0, 1)] [(1, .ptr 0 0), (3, .ptr 1 0), (10, .ptr 1 0), (11, sA x0.gSettings.gSalt), (12, bA v1), (13, bA (!v1)), (14, iA v2), (15, .ptr 1 2), (16, iA x0.gSettings.gHoldout), (17, bA true), (18, bA true), (19, undefA), (20, undefA), (21, undefA), (22, bA (true || (decide (x0.gSettings.gHoldout > 10000)))), (23, iA v3), (24, .ptr 1 1), (25, sA x0.gSettings.gHoldoutKind), (26, bA false), (27, bA (!false)), (28, bA (!false)), (29, .ptr 1 1), (30, sA x0.gSettings.gHoldoutKind), (31, bA (!false)), (32, bA (!false)), (33, undefA), (34, undefA), (35, undefA), (36, bA ((!false) || (x0.gSettings.gHoldout != 0))), (37, bA ((!false) && ((!false) || (x0.gSettings.gHoldout != 0)))), (39, .ptr 0 3), (40, .ro .unk x0.gAttributes.length (TDeclared.cl x0.gAttributes))] ?_
          try rw [c1] at hv5
          try rw [c2] at hv5
          try rw [c3] at hv5
          refine AD_callp (d := (some 38)) (al := [bA ((!false) && ((!false) || (x0.gSettings.gHoldout != 0))), iA 6]) (r := iA v5) (by kernel_rfl) (s_shape_when hv5) ⟨trivial, trivial, trivial⟩ trivial ?_
          refine AD_callp (d := (some 41)) (al := [.ro .unk x0.gAttributes.length (TDeclared.cl x0.gAttributes)]) (r := iA v6) (by kernel_rfl) (s_shape_attributes hG hv6) ⟨(scl_TDeclared_cl _ _), trivial⟩ trivial ?_
          refine AD_bsl (d := (some 42)) (m := 4) (cs := [iA v2, iA v3, iA v5, iA v6]) (by kernel_rfl) ⟨trivial, trivial, trivial, trivial, trivial⟩ ?_
          refine AD_callp (d := (some 43)) (al := [.ro .unk ([v2, v3, v5, v6]).length (cl_i64 ([v2, v3, v5, v6]))]) (r := iA v7) (by kernel_rfl) (s_shape_first hv7) ⟨(scl_cl_i64 _ _), trivial⟩ trivial ?_
          refine RD 1 68 [(20, 1), (19, 1), (30, 0), (29, 0), (15, 1), (14, 1), (6, 1), (5, 1), (1, 1), (0, 1)] [(1, .ptr 0 0), (3, .ptr 1 0), (4, iA v7), (10, .ptr 1 0), (11, sA x0.gSettings.gSalt), (12, bA v1), (13, bA (!v1)), (14, iA v2), (15, .ptr 1 2), (16, iA x0.gSettings.gHoldout), (17, bA true), (18, bA true), (19, undefA), (20, undefA), (21, undefA), (22, bA (true || (decide (x0.gSettings.gHoldout > 10000)))), (23, iA v3), (24, .ptr 1 1), (25, sA x0.gSettings.gHoldoutKind), (26, bA false), (27, bA (!false)), (28, bA (!false)), (29, .ptr 1 1), (30, sA x0.gSettings.gHoldoutKind), (31, bA (!false)), (32, bA (!false)), (33, undefA), (34, undefA), (35, undefA), (36, bA ((!false) || (x0.gSettings.gHoldout != 0))), (37, bA ((!false) && ((!false) || (x0.gSettings.gHoldout != 0)))), (38, iA v5), (39, .ptr 0 3), (40, .ro .unk x0.gAttributes.length (TDeclared.cl x0.gAttributes)), (41, iA v6), (42, .ro .unk ([v2, v3, v5, v6]).length (cl_i64 ([v2, v3, v5, v6]))), (43, iA v7)] ?_
          exact AD_here [1, 4] (by kernel_rfl) rfl
    | false =>
      refine RD 4 68 [(10, 1), (9, 1), (30, 0), (29, 0), (15, 1), (14, 1), (6, 1), (5, 1), (1, 1), (0, 1)] [(1, .ptr 0 0), (3, .ptr 1 0), (10, .ptr 1 0), (11, sA x0.gSettings.gSalt), (12, bA v1), (13, bA (!v1)), (14, iA v2), (15, .ptr 1 2), (16, iA x0.gSettings.gHoldout), (17, bA false), (18, bA false), (19, .ptr 1 2), (20, iA x0.gSettings.gHoldout), (21, bA (decide (x0.gSettings.gHoldout > 10000))), (22, bA (false || (decide (x0.gSettings.gHoldout > 10000)))), (24, .ptr 1 1), (25, sA x0.gSettings.gHoldoutKind), (39, .ptr 0 3), (40, .ro .unk x0.gAttributes.length (TDeclared.cl x0.gAttributes))] ?_
      try rw [c1] at hv3
      refine AD_callp (d := (some 23)) (al := [bA (false || (decide (x0.gSettings.gHoldout > 10000))), iA 3]) (r := iA v3) (by kernel_rfl) (s_shape_when hv3) ⟨trivial, trivial, trivial⟩ trivial ?_
      refine AD_callp (d := (some 26)) (al := [sA x0.gSettings.gHoldoutKind]) (r := bA v4) (by kernel_rfl) (s_text_Key hG hv4) ⟨trivial, trivial⟩ trivial ?_
      refine RD 2 68 [(10, 1), (9, 1), (30, 0), (29, 0), (15, 1), (14, 1), (6, 1), (5, 1), (1, 1), (0, 1)] [(1, .ptr 0 0), (3, .ptr 1 0), (10, .ptr 1 0), (11, sA x0.gSettings.gSalt), (12, bA v1), (13, bA (!v1)), (14, iA v2), (15, .ptr 1 2), (16, iA x0.gSettings.gHoldout), (17, bA false), (18, bA false), (19, .ptr 1 2), (20, iA x0.gSettings.gHoldout), (21, bA (decide (x0.gSettings.gHoldout > 10000))), (22, bA (false || (decide (x0.gSettings.gHoldout > 10000)))), (23, iA v3), (24, .ptr 1 1), (25, sA x0.gSettings.gHoldoutKind), (26, bA v4), (27, bA (!v4)), (28, bA (!v4)), (39, .ptr 0 3), (40, .ro .unk x0.gAttributes.length (TDeclared.cl x0.gAttributes))] ?_
      cases c2 : (v4 : Bool) with
      | true =>
        refine RD 9 68 [(10, 1), (9, 1), (30, 0), (29, 0), (15, 1), (14, 1), (6, 1), (5, 1), (1, 1), (0, 1)] [(1, .ptr 0 0), (3, .ptr 1 0), (10, .ptr 1 0), (11, sA x0.gSettings.gSalt), (12, bA v1), (13, bA (!v1)), (14, iA v2), (15, .ptr 1 2), (16, iA x0.gSettings.gHoldout), (17, bA false), (18, bA false), (19, .ptr 1 2), (20, iA x0.gSettings.gHoldout), (21, bA (decide (x0.gSettings.gHoldout > 10000))), (22, bA (false || (decide (x0.gSettings.gHoldout > 10000)))), (23, iA v3), (24, .ptr 1 1), (25, sA x0.gSettings.gHoldoutKind), (26, bA true), (27, bA (!true)), (28, bA (!true)), (29, undefA), (30, undefA), (31, undefA), (32, undefA), (33, undefA), (34, undefA), (35, undefA), (36, undefA), (37, bA ((!true) && ((!(seq' x0.gSettings.gHoldoutKind ByteArray.empty)) || (x0.gSettings.gHoldout != 0)))), (39, .ptr 0 3), (40, .ro .unk x0.gAttributes.length (TDeclared.cl x0.gAttributes))] ?_
        try rw [c1] at hv5
        try rw [c2] at hv5
        refine AD_callp (d := (some 38)) (al := [bA ((!true) && ((!(seq' x0.gSettings.gHoldoutKind ByteArray.empty)) || (x0.gSettings.gHoldout != 0))), iA 6]) (r := iA v5) (by kernel_rfl) (s_shape_when hv5) ⟨trivial, trivial, trivial⟩ trivial ?_
        refine AD_callp (d := (some 41)) (al := [.ro .unk x0.gAttributes.length (TDeclared.cl x0.gAttributes)]) (r := iA v6) (by kernel_rfl) (s_shape_attributes hG hv6) ⟨(scl_TDeclared_cl _ _), trivial⟩ trivial ?_
        refine AD_bsl (d := (some 42)) (m := 4) (cs := [iA v2, iA v3, iA v5, iA v6]) (by kernel_rfl) ⟨trivial, trivial, trivial, trivial, trivial⟩ ?_
        refine AD_callp (d := (some 43)) (al := [.ro .unk ([v2, v3, v5, v6]).length (cl_i64 ([v2, v3, v5, v6]))]) (r := iA v7) (by kernel_rfl) (s_shape_first hv7) ⟨(scl_cl_i64 _ _), trivial⟩ trivial ?_
        refine RD 1 68 [(10, 1), (9, 1), (30, 0), (29, 0), (15, 1), (14, 1), (6, 1), (5, 1), (1, 1), (0, 1)] [(1, .ptr 0 0), (3, .ptr 1 0), (4, iA v7), (10, .ptr 1 0), (11, sA x0.gSettings.gSalt), (12, bA v1), (13, bA (!v1)), (14, iA v2), (15, .ptr 1 2), (16, iA x0.gSettings.gHoldout), (17, bA false), (18, bA false), (19, .ptr 1 2), (20, iA x0.gSettings.gHoldout), (21, bA (decide (x0.gSettings.gHoldout > 10000))), (22, bA (false || (decide (x0.gSettings.gHoldout > 10000)))), (23, iA v3), (24, .ptr 1 1), (25, sA x0.gSettings.gHoldoutKind), (26, bA true), (27, bA (!true)), (28, bA (!true)), (29, undefA), (30, undefA), (31, undefA), (32, undefA), (33, undefA), (34, undefA), (35, undefA), (36, undefA), (37, bA ((!true) && ((!(seq' x0.gSettings.gHoldoutKind ByteArray.empty)) || (x0.gSettings.gHoldout != 0)))), (38, iA v5), (39, .ptr 0 3), (40, .ro .unk x0.gAttributes.length (TDeclared.cl x0.gAttributes)), (41, iA v6), (42, .ro .unk ([v2, v3, v5, v6]).length (cl_i64 ([v2, v3, v5, v6]))), (43, iA v7)] ?_
        exact AD_here [1, 4] (by kernel_rfl) rfl
      | false =>
        refine RD 4 68 [(20, 1), (19, 1), (10, 1), (9, 1), (30, 0), (29, 0), (15, 1), (14, 1), (6, 1), (5, 1), (1, 1), (0, 1)] [(1, .ptr 0 0), (3, .ptr 1 0), (10, .ptr 1 0), (11, sA x0.gSettings.gSalt), (12, bA v1), (13, bA (!v1)), (14, iA v2), (15, .ptr 1 2), (16, iA x0.gSettings.gHoldout), (17, bA false), (18, bA false), (19, .ptr 1 2), (20, iA x0.gSettings.gHoldout), (21, bA (decide (x0.gSettings.gHoldout > 10000))), (22, bA (false || (decide (x0.gSettings.gHoldout > 10000)))), (23, iA v3), (24, .ptr 1 1), (25, sA x0.gSettings.gHoldoutKind), (26, bA false), (27, bA (!false)), (28, bA (!false)), (29, .ptr 1 1), (30, sA x0.gSettings.gHoldoutKind), (31, bA (!(seq' x0.gSettings.gHoldoutKind ByteArray.empty))), (32, bA (!(seq' x0.gSettings.gHoldoutKind ByteArray.empty))), (39, .ptr 0 3), (40, .ro .unk x0.gAttributes.length (TDeclared.cl x0.gAttributes))] ?_
        cases c3 : (seq' x0.gSettings.gHoldoutKind ByteArray.empty : Bool) with
        | true =>
          refine RD 5 68 [(24, 1), (23, 1), (20, 1), (19, 1), (10, 1), (9, 1), (30, 0), (29, 0), (15, 1), (14, 1), (6, 1), (5, 1), (1, 1), (0, 1)] [(1, .ptr 0 0), (3, .ptr 1 0), (10, .ptr 1 0), (11, sA x0.gSettings.gSalt), (12, bA v1), (13, bA (!v1)), (14, iA v2), (15, .ptr 1 2), (16, iA x0.gSettings.gHoldout), (17, bA false), (18, bA false), (19, .ptr 1 2), (20, iA x0.gSettings.gHoldout), (21, bA (decide (x0.gSettings.gHoldout > 10000))), (22, bA (false || (decide (x0.gSettings.gHoldout > 10000)))), (23, iA v3), (24, .ptr 1 1), (25, sA x0.gSettings.gHoldoutKind), (26, bA false), (27, bA (!false)), (28, bA (!false)), (29, .ptr 1 1), (30, sA x0.gSettings.gHoldoutKind), (31, bA (!true)), (32, bA (!true)), (33, .ptr 1 2), (34, iA x0.gSettings.gHoldout), (35, bA (x0.gSettings.gHoldout != 0)), (36, bA ((!true) || (x0.gSettings.gHoldout != 0))), (37, bA ((!false) && ((!true) || (x0.gSettings.gHoldout != 0)))), (39, .ptr 0 3), (40, .ro .unk x0.gAttributes.length (TDeclared.cl x0.gAttributes))] ?_
          try rw [c1] at hv5
          try rw [c2] at hv5
          try rw [c3] at hv5
          refine AD_callp (d := (some 38)) (al := [bA ((!false) && ((!true) || (x0.gSettings.gHoldout != 0))), iA 6]) (r := iA v5) (by kernel_rfl) (s_shape_when hv5) ⟨trivial, trivial, trivial⟩ trivial ?_
          refine AD_callp (d := (some 41)) (al := [.ro .unk x0.gAttributes.length (TDeclared.cl x0.gAttributes)]) (r := iA v6) (by kernel_rfl) (s_shape_attributes hG hv6) ⟨(scl_TDeclared_cl _ _), trivial⟩ trivial ?_
          refine AD_bsl (d := (some 42)) (m := 4) (cs := [iA v2, iA v3, iA v5, iA v6]) (by kernel_rfl) ⟨trivial, trivial, trivial, trivial, trivial⟩ ?_
          refine AD_callp (d := (some 43)) (al := [.ro .unk ([v2, v3, v5, v6]).length (cl_i64 ([v2, v3, v5, v6]))]) (r := iA v7) (by kernel_rfl) (s_shape_first hv7) ⟨(scl_cl_i64 _ _), trivial⟩ trivial ?_
          refine RD 1 68 [(24, 1), (23, 1), (20, 1), (19, 1), (10, 1), (9, 1), (30, 0), (29, 0), (15, 1), (14, 1), (6, 1), (5, 1), (1, 1), (0, 1)] [(1, .ptr 0 0), (3, .ptr 1 0), (4, iA v7), (10, .ptr 1 0), (11, sA x0.gSettings.gSalt), (12, bA v1), (13, bA (!v1)), (14, iA v2), (15, .ptr 1 2), (16, iA x0.gSettings.gHoldout), (17, bA false), (18, bA false), (19, .ptr 1 2), (20, iA x0.gSettings.gHoldout), (21, bA (decide (x0.gSettings.gHoldout > 10000))), (22, bA (false || (decide (x0.gSettings.gHoldout > 10000)))), (23, iA v3), (24, .ptr 1 1), (25, sA x0.gSettings.gHoldoutKind), (26, bA false), (27, bA (!false)), (28, bA (!false)), (29, .ptr 1 1), (30, sA x0.gSettings.gHoldoutKind), (31, bA (!true)), (32, bA (!true)), (33, .ptr 1 2), (34, iA x0.gSettings.gHoldout), (35, bA (x0.gSettings.gHoldout != 0)), (36, bA ((!true) || (x0.gSettings.gHoldout != 0))), (37, bA ((!false) && ((!true) || (x0.gSettings.gHoldout != 0)))), (38, iA v5), (39, .ptr 0 3), (40, .ro .unk x0.gAttributes.length (TDeclared.cl x0.gAttributes)), (41, iA v6), (42, .ro .unk ([v2, v3, v5, v6]).length (cl_i64 ([v2, v3, v5, v6]))), (43, iA v7)] ?_
          exact AD_here [1, 4] (by kernel_rfl) rfl
        | false =>
          refine RD 5 68 [(20, 1), (19, 1), (10, 1), (9, 1), (30, 0), (29, 0), (15, 1), (14, 1), (6, 1), (5, 1), (1, 1), (0, 1)] [(1, .ptr 0 0), (3, .ptr 1 0), (10, .ptr 1 0), (11, sA x0.gSettings.gSalt), (12, bA v1), (13, bA (!v1)), (14, iA v2), (15, .ptr 1 2), (16, iA x0.gSettings.gHoldout), (17, bA false), (18, bA false), (19, .ptr 1 2), (20, iA x0.gSettings.gHoldout), (21, bA (decide (x0.gSettings.gHoldout > 10000))), (22, bA (false || (decide (x0.gSettings.gHoldout > 10000)))), (23, iA v3), (24, .ptr 1 1), (25, sA x0.gSettings.gHoldoutKind), (26, bA false), (27, bA (!false)), (28, bA (!false)), (29, .ptr 1 1), (30, sA x0.gSettings.gHoldoutKind), (31, bA (!false)), (32, bA (!false)), (33, undefA), (34, undefA), (35, undefA), (36, bA ((!false) || (x0.gSettings.gHoldout != 0))), (37, bA ((!false) && ((!false) || (x0.gSettings.gHoldout != 0)))), (39, .ptr 0 3), (40, .ro .unk x0.gAttributes.length (TDeclared.cl x0.gAttributes))] ?_
          try rw [c1] at hv5
          try rw [c2] at hv5
          try rw [c3] at hv5
          refine AD_callp (d := (some 38)) (al := [bA ((!false) && ((!false) || (x0.gSettings.gHoldout != 0))), iA 6]) (r := iA v5) (by kernel_rfl) (s_shape_when hv5) ⟨trivial, trivial, trivial⟩ trivial ?_
          refine AD_callp (d := (some 41)) (al := [.ro .unk x0.gAttributes.length (TDeclared.cl x0.gAttributes)]) (r := iA v6) (by kernel_rfl) (s_shape_attributes hG hv6) ⟨(scl_TDeclared_cl _ _), trivial⟩ trivial ?_
          refine AD_bsl (d := (some 42)) (m := 4) (cs := [iA v2, iA v3, iA v5, iA v6]) (by kernel_rfl) ⟨trivial, trivial, trivial, trivial, trivial⟩ ?_
          refine AD_callp (d := (some 43)) (al := [.ro .unk ([v2, v3, v5, v6]).length (cl_i64 ([v2, v3, v5, v6]))]) (r := iA v7) (by kernel_rfl) (s_shape_first hv7) ⟨(scl_cl_i64 _ _), trivial⟩ trivial ?_
          refine RD 1 68 [(20, 1), (19, 1), (10, 1), (9, 1), (30, 0), (29, 0), (15, 1), (14, 1), (6, 1), (5, 1), (1, 1), (0, 1)] [(1, .ptr 0 0), (3, .ptr 1 0), (4, iA v7), (10, .ptr 1 0), (11, sA x0.gSettings.gSalt), (12, bA v1), (13, bA (!v1)), (14, iA v2), (15, .ptr 1 2), (16, iA x0.gSettings.gHoldout), (17, bA false), (18, bA false), (19, .ptr 1 2), (20, iA x0.gSettings.gHoldout), (21, bA (decide (x0.gSettings.gHoldout > 10000))), (22, bA (false || (decide (x0.gSettings.gHoldout > 10000)))), (23, iA v3), (24, .ptr 1 1), (25, sA x0.gSettings.gHoldoutKind), (26, bA false), (27, bA (!false)), (28, bA (!false)), (29, .ptr 1 1), (30, sA x0.gSettings.gHoldoutKind), (31, bA (!false)), (32, bA (!false)), (33, undefA), (34, undefA), (35, undefA), (36, bA ((!false) || (x0.gSettings.gHoldout != 0))), (37, bA ((!false) && ((!false) || (x0.gSettings.gHoldout != 0)))), (38, iA v5), (39, .ptr 0 3), (40, .ro .unk x0.gAttributes.length (TDeclared.cl x0.gAttributes)), (41, iA v6), (42, .ro .unk ([v2, v3, v5, v6]).length (cl_i64 ([v2, v3, v5, v6]))), (43, iA v7)] ?_
          exact AD_here [1, 4] (by kernel_rfl) rfl
  refine AWP_reg (Rh 2 68 [(1, .ptr 0 0), (4, iA v7), (45, bA (v7 != 0))] (AOps_done (CD H (fun hb8 H => ?_) (fun hb8 H => ?_))))
  · refine AWP_reg (Rh 2 68 [(2, iA v7)] (AOps_done ?_))
    exact AWP_ret (FR H)
  · refine AWP_skip ?_
    show AWP _ _ _ _ _ _ _
    refine AWP_seq (AWP_reg (Rh 2 68 [(1, .ptr 0 0), (48, .ro .unk x0.gSegments.length (TSegment.cl x0.gSegments))] ?_))
    obtain ⟨v9, hv9, H⟩ := bind_some H
    refine AOps_callp (d := (some 49)) (al := [.ro .unk x0.gSegments.length (TSegment.cl x0.gSegments), iA 20, .val (.func (.func 36) #[] #[]), .val (.func (.func 90) #[] #[])]) (r := iA v9) (by kernel_rfl) (s_shape_list_api_Segment hG hv9) ⟨(scl_TSegment_cl _ _), trivial, trivial, trivial, trivial⟩ trivial ?_
    refine Rh 1 68 [(1, .ptr 0 0), (5, iA v9)] (AOps_done (AWP_reg (Rh 2 68 [(1, .ptr 0 0), (5, iA v9), (51, bA (v9 != 0))] (AOps_done (CD H (fun hb10 H => ?_) (fun hb10 H => ?_))))))
    · refine AWP_reg (Rh 2 68 [(2, iA v9)] (AOps_done ?_))
      exact AWP_ret (FR H)
    · refine AWP_skip ?_
      show AWP _ _ _ _ _ _ _
      refine AWP_seq (AWP_reg (Rh 2 68 [(1, .ptr 0 0), (54, .ro .unk x0.gFlags.length (TFlag.cl x0.gFlags))] ?_))
      obtain ⟨v11, hv11, H⟩ := bind_some H
      refine AOps_callp (d := (some 55)) (al := [.ro .unk x0.gFlags.length (TFlag.cl x0.gFlags), iA 30, .val (.func (.func 34) #[] #[]), .val (.func (.func 92) #[] #[])]) (r := iA v11) (by kernel_rfl) (s_shape_list_api_Flag hG hv11) ⟨(scl_TFlag_cl _ _), trivial, trivial, trivial, trivial⟩ trivial ?_
      refine Rh 1 68 [(1, .ptr 0 0), (6, iA v11)] (AOps_done (AWP_reg (Rh 2 68 [(1, .ptr 0 0), (6, iA v11), (57, bA (v11 != 0))] (AOps_done (CD H (fun hb12 H => ?_) (fun hb12 H => ?_))))))
      · refine AWP_reg (Rh 2 68 [(2, iA v11)] (AOps_done ?_))
        exact AWP_ret (FR H)
      · refine AWP_skip ?_
        show AWP _ _ _ _ _ _ _
        refine AWP_seq (AWP_reg (Rh 2 68 [(1, .ptr 0 0), (60, .ro .unk x0.gLayers.length (TLayer.cl x0.gLayers))] ?_))
        obtain ⟨v13, hv13, H⟩ := bind_some H
        refine AOps_callp (d := (some 61)) (al := [.ro .unk x0.gLayers.length (TLayer.cl x0.gLayers), iA 6, .val (.func (.func 38) #[] #[]), .val (.func (.func 94) #[] #[])]) (r := iA v13) (by kernel_rfl) (s_shape_list_api_Layer hG hv13) ⟨(scl_TLayer_cl _ _), trivial, trivial, trivial, trivial⟩ trivial ?_
        refine Rh 1 68 [(1, .ptr 0 0), (7, iA v13)] (AOps_done (AWP_reg (Rh 2 68 [(1, .ptr 0 0), (7, iA v13), (63, bA (v13 != 0))] (AOps_done (CD H (fun hb14 H => ?_) (fun hb14 H => ?_))))))
        · refine AWP_reg (Rh 2 68 [(2, iA v13)] (AOps_done ?_))
          exact AWP_ret (FR H)
        · refine AWP_skip ?_
          show AWP _ _ _ _ _ _ _
          refine AWP_reg (Rh 2 68 [(66, .ro .unk x0.gExperiments.length (TExperiment.cl x0.gExperiments))] ?_)
          obtain ⟨v15, hv15, H⟩ := bind_some H
          refine AOps_callp (d := (some 67)) (al := [.ro .unk x0.gExperiments.length (TExperiment.cl x0.gExperiments), iA 16, .val (.func (.func 40) #[] #[]), .val (.func (.func 96) #[] #[])]) (r := iA v15) (by kernel_rfl) (s_shape_list_api_Experiment hG hv15) ⟨(scl_TExperiment_cl _ _), trivial, trivial, trivial, trivial⟩ trivial ?_
          refine Rh 1 68 [(2, iA v15)] (AOps_done ?_)
          exact AWP_ret (FR H)
end Go.Proofs.YtjhbobacbaikoaaGreatDoor
/- A function of the program as a pure function, and that the program computes it. -/
namespace Go.Proofs.YtjhbobacbaikoaaGreatDoor
open Go
set_option linter.unusedVariables false
set_option linter.unusedSimpArgs false
set_option maxRecDepth 100000
def p_shape_Split_L1 (n : Nat) (x0 : List TRange) (x1 : Int) (v14 : Int) (v15 : Int) (v16 : Int) (v17 : Int) : Option Int := match n with
| 0 => none
| n + 1 =>
(bif decide (v14 < (lI x0)) then
(rdO x0 v14).bind fun v19 =>
(bif (decide (v19.gVariation < 1)) || (decide (v19.gVariation > x1)) then
 some (3)
 else
(bif ((v19.gFrom != v16) || (decide (v19.gTo ≤ v19.gFrom))) || (v19.gVariation == v17) then
 some (9)
 else
 p_shape_Split_L1 n x0 x1 (w64 (v14 + 1)) v19.gFrom v19.gTo v19.gVariation))
 else
(p_shape_when n (v16 != 10000) 3).bind fun v22 =>
 some (v22))
def p_shape_Split (n : Nat) (x0 : List TRange) (x1 : Int) : Option Int :=
(bif decide ((lI x0) > 16) then
 some (5)
 else
 p_shape_Split_L1 n x0 x1 0 0 0 0)
variable {E : Env}
theorem s_shape_Split {n : Nat} {x0 : List TRange} {x1 : Int} {r : Int} (H : p_shape_Split n x0 x1 = some r) :
    Sp Tryz.prog E 23 [.ro .unk x0.length (TRange.cl x0), iA x1] [] (isA (iA r) []) := by
  unfold p_shape_Split at H
  refine Sp_fn Tryz.func23 rfl (fun hc hs => ?_)
  refine AWP_reg (Rh 1 52 [(0, .ro .unk x0.length (TRange.cl x0)), (1, iA x1)] (AOps_done (AWP_seq (AWP_reg (Rh 3 52 [(0, .ro .unk x0.length (TRange.cl x0)), (1, iA x1), (10, bA (decide ((lI x0) > 16)))] (AOps_done (CD H (fun hb1 H => ?_) (fun hb1 H => ?_))))))))
  · refine AWP_reg (Rh 1 52 [(4, iA 5)] (AOps_done ?_))
    exact AWP_ret (FR H)
  · refine AWP_skip ?_
    show AWP _ _ _ _ _ _ _
    refine AWP_reg (R 3 52 [(0, .ro .unk x0.length (TRange.cl x0)), (1, iA x1), (5, .ptr 0 0)] [.cells 52 [iA 0, iA 0, iA 0]] (AOps_done (AWP_seq (AWP_reg (Rh 3 52 [(1, iA x1), (5, .ptr 0 0), (12, .ro .unk x0.length (TRange.cl x0)), (13, iA (lI x0)), (14, iA 0)] (AOps_done (AWP_block ?_)))))))
    refine AWP_loopN (α := Int × Int × Int × Int) (fun ⟨v14, v15, v16, v17⟩ => fr 52 [(1, iA x1), (5, .ptr 0 0), (12, .ro .unk x0.length (TRange.cl x0)), (13, iA (lI x0)), (14, iA v14)]) (fun ⟨v14, v15, v16, v17⟩ => [.cells 52 [iA v15, iA v16, iA v17]]) (fun k_ ⟨v14, v15, v16, v17⟩ => k_ ≤ n ∧ p_shape_Split_L1 k_ x0 x1 v14 v15 v16 v17 = some r) (fun n a H => ?_) (k := n) (0, 0, 0, 0) ⟨Nat.le_refl _, H⟩ (Norm_fd [1, 5, 12, 13, 14] 0 (by kernel_rfl) rfl rfl ⟨⟨trivial, trivial, trivial, trivial⟩, trivial⟩ (by refine scL_fr ?_; exact ⟨trivial, (sc_ptr rfl), (scl_TRange_cl _ _), trivial, trivial, trivial⟩))
    obtain ⟨v14, v15, v16, v17⟩ := a
    show AWP _ _ _ _ _ (fr 52 [(1, iA x1), (5, .ptr 0 0), (12, .ro .unk x0.length (TRange.cl x0)), (13, iA (lI x0)), (14, iA v14)]) [.cells 52 [iA v15, iA v16, iA v17]]
    obtain ⟨hb_, H⟩ := H
    replace H : p_shape_Split_L1 n x0 x1 v14 v15 v16 v17 = some r := H
    cases n with
    | zero => exact not_none (by simpa only [p_shape_Split_L1] using H)
    | succ n =>
      unfold p_shape_Split_L1 at H
      refine AWP_reg (Rh 1 52 [(1, iA x1), (5, .ptr 0 0), (12, .ro .unk x0.length (TRange.cl x0)), (13, iA (lI x0)), (14, iA v14), (15, bA (decide (v14 < (lI x0))))] (AOps_done (AWP_seq (CD H (fun hb18 H => ?_) (fun hb18 H => ?_)))))
      · refine AWP_skip ?_
        show AWP _ _ _ _ _ _ _
        refine AWP_seq (AWP_block ?_)
        refine AWP_reg ?_
        obtain ⟨v19, hv19, H⟩ := bind_some H
        refine AOps_index (d := (some 16)) (sz := 3) (c := TRange.cs) (by kernel_rfl) rfl (eq_TRange_cl _) (fun _ => rfl) (by decide) hv19 (fun tl19 => ?_)
        refine R 3 52 [(1, iA x1), (5, .ptr 0 0), (7, .ptr 1 0), (12, .ro .unk x0.length (TRange.cl x0)), (13, iA (lI x0)), (14, iA v14)] [.cells 52 (TRange.cs v19), .cells 52 [iA v15, iA v16, iA v17]] (AOps_done (AWP_seq (AWP_reg (Rh 4 52 [(1, iA x1), (5, .ptr 0 0), (7, .ptr 1 0), (12, .ro .unk x0.length (TRange.cl x0)), (13, iA (lI x0)), (14, iA v14), (21, bA (decide (v19.gVariation < 1)))] (AOps_run 5 [1, 5, 7, 12, 13, 14, 26] (st' := fr 52 [(1, iA x1), (5, .ptr 0 0), (7, .ptr 1 0), (12, .ro .unk x0.length (TRange.cl x0)), (13, iA (lI x0)), (14, iA v14), (26, bA ((decide (v19.gVariation < 1)) || (decide (v19.gVariation > x1))))]) (h' := [.cells 52 (TRange.cs v19), .cells 52 [iA v15, iA v16, iA v17]]) (by (generalize (decide (v19.gVariation < 1)) = t0; cases t0 <;> kernel_rfl)) ?_)))))
        refine AOps_done (CD H (fun hb20 H => ?_) (fun hb20 H => ?_))
        · refine AWP_reg (Rh 1 52 [(4, iA 3)] (AOps_done ?_))
          exact AWP_ret (FR H)
        · refine AWP_skip ?_
          show AWP _ _ _ _ _ _ _
          refine AWP_seq (AWP_reg (Rh 6 52 [(1, iA x1), (5, .ptr 0 0), (7, .ptr 1 0), (12, .ro .unk x0.length (TRange.cl x0)), (13, iA (lI x0)), (14, iA v14), (32, bA (v19.gFrom != v16))] (AOps_run 6 [1, 5, 7, 12, 13, 14, 38] (st' := fr 52 [(1, iA x1), (5, .ptr 0 0), (7, .ptr 1 0), (12, .ro .unk x0.length (TRange.cl x0)), (13, iA (lI x0)), (14, iA v14), (38, bA ((v19.gFrom != v16) || (decide (v19.gTo ≤ v19.gFrom))))]) (h' := [.cells 52 (TRange.cs v19), .cells 52 [iA v15, iA v16, iA v17]]) (by (generalize (v19.gFrom != v16) = t0; cases t0 <;> kernel_rfl)) ?_)))
          refine Rh 1 52 [(1, iA x1), (5, .ptr 0 0), (7, .ptr 1 0), (12, .ro .unk x0.length (TRange.cl x0)), (13, iA (lI x0)), (14, iA v14), (39, bA ((v19.gFrom != v16) || (decide (v19.gTo ≤ v19.gFrom))))] (AOps_run 6 [1, 5, 7, 12, 13, 14, 45] (st' := fr 52 [(1, iA x1), (5, .ptr 0 0), (7, .ptr 1 0), (12, .ro .unk x0.length (TRange.cl x0)), (13, iA (lI x0)), (14, iA v14), (45, bA (((v19.gFrom != v16) || (decide (v19.gTo ≤ v19.gFrom))) || (v19.gVariation == v17)))]) (h' := [.cells 52 (TRange.cs v19), .cells 52 [iA v15, iA v16, iA v17]]) (by (generalize (v19.gFrom != v16) = t0; generalize (decide (v19.gTo ≤ v19.gFrom)) = t1; cases t0 <;> cases t1 <;> kernel_rfl)) ?_)
          refine AOps_done (CD H (fun hb21 H => ?_) (fun hb21 H => ?_))
          · refine AWP_reg (Rh 1 52 [(4, iA 9)] (AOps_done ?_))
            exact AWP_ret (FR H)
          · refine AWP_skip ?_
            show AWP _ _ _ _ _ _ _
            refine AWP_region ?_
            refine R 2 52 [(1, iA x1), (5, .ptr 0 0), (12, .ro .unk x0.length (TRange.cl x0)), (13, iA (lI x0)), (14, iA v14)] [.cells 52 (TRange.cs v19), .cells 52 (TRange.cs v19)] (AOps_done ?_)
            show AWP _ _ _ _ _ _ _
            refine AWP_region ?_
            refine Rh 2 52 [(1, iA x1), (5, .ptr 0 0), (12, .ro .unk x0.length (TRange.cl x0)), (13, iA (lI x0)), (14, iA (w64 (v14 + 1)))] (AOps_done ?_)
            exact Exists.intro (w64 (v14 + 1), v19.gFrom, v19.gTo, v19.gVariation) (Exists.intro n ⟨by omega, ⟨by omega, H⟩, Norm_fd [1, 5, 12, 13, 14] 1 (by kernel_rfl) rfl rfl ⟨⟨trivial, trivial, trivial, trivial⟩, trivial⟩ (by refine scL_fr ?_; exact ⟨trivial, (sc_ptr rfl), (scl_TRange_cl _ _), trivial, trivial, trivial⟩)⟩)
      · refine AWP_exit ?_
        show AWP _ _ _ _ _ _ _
        refine AWP_reg (Rh 3 52 [(50, bA (v16 != 10000))] ?_)
        obtain ⟨v22, hv22, H⟩ := bind_some H
        refine AOps_callp (d := (some 51)) (al := [bA (v16 != 10000), iA 3]) (r := iA v22) (by kernel_rfl) (s_shape_when hv22) ⟨trivial, trivial, trivial⟩ trivial ?_
        refine Rh 1 52 [(4, iA v22)] (AOps_done ?_)
        exact AWP_ret (FR H)
end Go.Proofs.YtjhbobacbaikoaaGreatDoor
/- A function of the program as a pure function, and that the program computes it. -/
namespace Go.Proofs.YtjhbobacbaikoaaGreatDoor
open Go
set_option linter.unusedVariables false
set_option linter.unusedSimpArgs false
set_option maxRecDepth 100000
def p_law6_awake (n : Nat)  : Option Bool :=
(p_shape_Environment n ({ gSettings := ({ gSalt := ByteArray.empty, gHoldoutKind := ByteArray.empty, gHoldout := 0 } : TSettings), gAttributes := [], gSegments := [], gFlags := [], gLayers := [], gExperiments := [] } : TEnvironment)).bind fun v1 =>
(bif v1 == 0 then p_shape_Split n ([({ gFrom := 0, gTo := 10000, gVariation := 2 } : TRange)]) 2 else some (0)).bind fun v2 =>
(bif (v1 == 0) && (v2 == 0) then p_shape_Split n ([({ gFrom := 0, gTo := 10000, gVariation := 2 } : TRange)]) 1 else some (0)).bind fun v3 =>
 some (((v1 == 0) && (v2 == 0)) && (v3 == 3))
variable {E : Env}
theorem s_law6_awake {n : Nat} (hG : GlobT E)  {r : Bool} (H : p_law6_awake n  = some r) :
    Sp Tryz.prog E 10 [] [] (isA (bA r) []) := by
  unfold p_law6_awake at H
  refine Sp_fn Tryz.func10 rfl (fun hc hs => ?_)
  refine AWP_reg (Rh 1 17 [] (AOps_done (AWP_reg (Rh 1 17 [(2, .agg [iA 0, iA 10000, iA 2])] (AOps_bsl (d := (some 3)) (m := 1) (cs := [iA 0, iA 10000, iA 2]) (by kernel_rfl) ⟨trivial, trivial, trivial, trivial⟩ ?_)))))
  refine Rh 1 17 [(1, .ro .unk ([({ gFrom := 0, gTo := 10000, gVariation := 2 } : TRange)]).length (TRange.cl ([({ gFrom := 0, gTo := 10000, gVariation := 2 } : TRange)])))] (AOps_done (AWP_reg (Rh 1 17 [(1, .ro .unk ([({ gFrom := 0, gTo := 10000, gVariation := 2 } : TRange)]).length (TRange.cl ([({ gFrom := 0, gTo := 10000, gVariation := 2 } : TRange)]))), (4, .agg [sA ByteArray.empty, sA ByteArray.empty, iA 0, .ro .full 0 [], .ro .full 0 [], .ro .full 0 [], .ro .full 0 [], .ro .full 0 []])] ?_)))
  obtain ⟨v1, hv1, H⟩ := bind_some H
  refine AOps_callp (d := (some 5)) (al := [.agg [sA ByteArray.empty, sA ByteArray.empty, iA 0, .ro .full 0 [], .ro .full 0 [], .ro .full 0 [], .ro .full 0 [], .ro .full 0 []]]) (r := iA v1) (by kernel_rfl) (Sp.le (leL_cons (AV.le_agg (leL_cons (AV.le_refl _) (leL_cons (AV.le_refl _) (leL_cons (AV.le_refl _) (leL_cons (AV.le_ro _ _ _) (leL_cons (AV.le_ro _ _ _) (leL_cons (AV.le_ro _ _ _) (leL_cons (AV.le_ro _ _ _) (leL_cons (AV.le_ro _ _ _) (leL_refl _))))))))) rfl) (leL_refl _)) (s_shape_Environment hG hv1)) ⟨⟨trivial, trivial, trivial, trivial, trivial, trivial, trivial, trivial, trivial⟩, trivial⟩ trivial ?_
  refine Rh 2 17 [(1, .ro .unk ([({ gFrom := 0, gTo := 10000, gVariation := 2 } : TRange)]).length (TRange.cl ([({ gFrom := 0, gTo := 10000, gVariation := 2 } : TRange)]))), (7, bA (v1 == 0))] ?_
  obtain ⟨v2, hv2, H⟩ := bind_some H
  refine AOps_cut 4 (st' := fr 17 [(1, .ro .unk ([({ gFrom := 0, gTo := 10000, gVariation := 2 } : TRange)]).length (TRange.cl ([({ gFrom := 0, gTo := 10000, gVariation := 2 } : TRange)]))), (11, bA ((v1 == 0) && (v2 == 0)))]) (h' := []) ?_ ?_
  rotate_left
  · cases c1 : (v1 == 0 : Bool) with
    | true =>
      refine R 1 17 [(1, .ro .unk ([({ gFrom := 0, gTo := 10000, gVariation := 2 } : TRange)]).length (TRange.cl ([({ gFrom := 0, gTo := 10000, gVariation := 2 } : TRange)]))), (7, bA true), (8, .ro .unk ([({ gFrom := 0, gTo := 10000, gVariation := 2 } : TRange)]).length (TRange.cl ([({ gFrom := 0, gTo := 10000, gVariation := 2 } : TRange)])))] [] ?_
      have hv2_ := cond_t hv2 (by simp only [c1] <;> rfl)
      refine AOps_callp (d := (some 9)) (al := [.ro .unk ([({ gFrom := 0, gTo := 10000, gVariation := 2 } : TRange)]).length (TRange.cl ([({ gFrom := 0, gTo := 10000, gVariation := 2 } : TRange)])), iA 2]) (r := iA v2) (by kernel_rfl) (s_shape_Split hv2_) ⟨(scl_TRange_cl _ _), trivial, trivial⟩ trivial ?_
      refine R 2 17 [(1, .ro .unk ([({ gFrom := 0, gTo := 10000, gVariation := 2 } : TRange)]).length (TRange.cl ([({ gFrom := 0, gTo := 10000, gVariation := 2 } : TRange)]))), (11, bA (true && (v2 == 0)))] [] ?_
      exact AOps_here [1, 11] (by kernel_rfl) rfl
    | false =>
      refine R 4 17 [(1, .ro .unk ([({ gFrom := 0, gTo := 10000, gVariation := 2 } : TRange)]).length (TRange.cl ([({ gFrom := 0, gTo := 10000, gVariation := 2 } : TRange)]))), (11, bA (false && (v2 == 0)))] [] ?_
      exact AOps_here [1, 11] (by kernel_rfl) rfl
  refine Rh 1 17 [(1, .ro .unk ([({ gFrom := 0, gTo := 10000, gVariation := 2 } : TRange)]).length (TRange.cl ([({ gFrom := 0, gTo := 10000, gVariation := 2 } : TRange)]))), (12, bA ((v1 == 0) && (v2 == 0)))] ?_
  obtain ⟨v3, hv3, H⟩ := bind_some H
  refine AOps_cut 4 (st' := fr 17 [(16, bA (((v1 == 0) && (v2 == 0)) && (v3 == 3)))]) (h' := []) ?_ ?_
  rotate_left
  · cases c1 : ((v1 == 0) && (v2 == 0) : Bool) with
    | true =>
      refine R 1 17 [(12, bA true), (13, .ro .unk ([({ gFrom := 0, gTo := 10000, gVariation := 2 } : TRange)]).length (TRange.cl ([({ gFrom := 0, gTo := 10000, gVariation := 2 } : TRange)])))] [] ?_
      have hv3_ := cond_t hv3 (by simp only [c1] <;> rfl)
      refine AOps_callp (d := (some 14)) (al := [.ro .unk ([({ gFrom := 0, gTo := 10000, gVariation := 2 } : TRange)]).length (TRange.cl ([({ gFrom := 0, gTo := 10000, gVariation := 2 } : TRange)])), iA 1]) (r := iA v3) (by kernel_rfl) (s_shape_Split hv3_) ⟨(scl_TRange_cl _ _), trivial, trivial⟩ trivial ?_
      refine R 2 17 [(16, bA (true && (v3 == 3)))] [] ?_
      exact AOps_here [16] (by kernel_rfl) rfl
    | false =>
      refine R 4 17 [(16, bA (false && (v3 == 3)))] [] ?_
      exact AOps_here [16] (by kernel_rfl) rfl
  refine Rh 1 17 [(0, bA (((v1 == 0) && (v2 == 0)) && (v3 == 3)))] (AOps_done ?_)
  exact AWP_ret (FR H)
end Go.Proofs.YtjhbobacbaikoaaGreatDoor
/- A function of the program as a pure function, and that the program computes it. -/
namespace Go.Proofs.YtjhbobacbaikoaaGreatDoor
open Go
set_option linter.unusedVariables false
set_option linter.unusedSimpArgs false
set_option maxRecDepth 100000
def p_law6_big_L1 (n : Nat) (self_p_law6_big : TExpr → Option Bool) (x0 : TExpr) (v10 : Int) : Option Bool := match n with
| 0 => none
| n + 1 =>
(bif (decide (v10 < (lI x0.gKids))) && (decide ((w64 ((lI x0.gKids) + (lI x0.gValues))) < 200)) then
(rdO x0.gKids v10).bind fun v12 =>
(self_p_law6_big v12).bind fun v13 =>
(bif v13 then
 some (true)
 else
 p_law6_big_L1 n self_p_law6_big x0 (w64 (v10 + 1)))
 else
 some (decide ((w64 ((lI x0.gKids) + (lI x0.gValues))) ≥ 200)))
def p_law6_big_F (self_p_law6_big : TExpr → Option Bool) (n : Nat) (x0 : TExpr) : Option Bool :=
 p_law6_big_L1 n self_p_law6_big x0 0
def p_law6_big (n : Nat) (x0 : TExpr) : Option Bool := match n with
| 0 => none
| n + 1 => p_law6_big_F (p_law6_big n) n x0
variable {E : Env}
theorem s_law6_big_F {self_p_law6_big : TExpr → Option Bool} (hself_law6_big : ∀ {x0 : TExpr}, ∀ {r : Bool}, self_p_law6_big x0 = some r → Sp Tryz.prog E 11 [.agg (TExpr.cs x0)] [] (isA (bA r) [])) {n : Nat} {x0 : TExpr} {r : Bool} (H : p_law6_big_F self_p_law6_big n x0 = some r) :
    Sp Tryz.prog E 11 [.agg (TExpr.cs x0)] [] (isA (bA r) []) := by
  unfold p_law6_big_F at H
  refine Sp_fn Tryz.func11 rfl (fun hc hs => ?_)
  refine AWP_reg (R 2 31 [(1, .ptr 0 0)] [.cells 25 (TExpr.cs x0)] (AOps_done (AWP_reg (Rh 8 31 [(1, .ptr 0 0), (3, iA (w64 ((lI x0.gKids) + (lI x0.gValues))))] (AOps_done (AWP_seq (AWP_reg (Rh 1 31 [(1, .ptr 0 0), (3, iA (w64 ((lI x0.gKids) + (lI x0.gValues)))), (4, iA 0)] ?_))))))))
  refine AOps_done (AWP_block ?_)
  refine AWP_loopN (α := Int) (fun v10 => fr 31 [(1, .ptr 0 0), (3, iA (w64 ((lI x0.gKids) + (lI x0.gValues)))), (4, iA v10)]) (fun v10 => [.cells 25 (TExpr.cs x0)]) (fun k_ v10 => k_ ≤ n ∧ p_law6_big_L1 k_ self_p_law6_big x0 v10 = some r) (fun n v10 H => ?_) (k := n) 0 ⟨Nat.le_refl _, H⟩ (Norm_fd [1, 3, 4] 0 (by kernel_rfl) rfl rfl ⟨(sc_TExpr_cs _ _), trivial⟩ (by refine scL_fr ?_; exact ⟨(sc_ptr rfl), trivial, trivial, trivial⟩))
  show AWP _ _ _ _ _ (fr 31 [(1, .ptr 0 0), (3, iA (w64 ((lI x0.gKids) + (lI x0.gValues)))), (4, iA v10)]) [.cells 25 (TExpr.cs x0)]
  obtain ⟨hb_, H⟩ := H
  replace H : p_law6_big_L1 n self_p_law6_big x0 v10 = some r := H
  cases n with
  | zero => exact not_none (by simpa only [p_law6_big_L1] using H)
  | succ n =>
    unfold p_law6_big_L1 at H
    refine AWP_seq (AWP_reg (Rh 6 31 [(1, .ptr 0 0), (3, iA (w64 ((lI x0.gKids) + (lI x0.gValues)))), (4, iA v10), (17, bA (decide (v10 < (lI x0.gKids))))] (AOps_run 3 [1, 3, 4, 20] (st' := fr 31 [(1, .ptr 0 0), (3, iA (w64 ((lI x0.gKids) + (lI x0.gValues)))), (4, iA v10), (20, bA ((decide (v10 < (lI x0.gKids))) && (decide ((w64 ((lI x0.gKids) + (lI x0.gValues))) < 200))))]) (h' := [.cells 25 (TExpr.cs x0)]) (by (generalize (decide (v10 < (lI x0.gKids))) = t0; cases t0 <;> kernel_rfl)) ?_)))
    refine AOps_done (CD H (fun hb11 H => ?_) (fun hb11 H => ?_))
    · refine AWP_skip ?_
      show AWP _ _ _ _ _ _ _
      refine AWP_seq (AWP_block ?_)
      refine AWP_reg (Rh 3 31 [(1, .ptr 0 0), (3, iA (w64 ((lI x0.gKids) + (lI x0.gValues)))), (4, iA v10), (24, .ro .unk x0.gKids.length (TExpr.cl x0.gKids)), (25, iA v10)] ?_)
      obtain ⟨v12, hv12, H⟩ := bind_some H
      refine AOps_index (d := (some 26)) (sz := 5) (c := TExpr.cs) (by kernel_rfl) rfl (eq_TExpr_cl _) (fun _ => rfl) (by decide) hv12 (fun tl12 => ?_)
      refine Rh 1 31 [(1, .ptr 0 0), (3, iA (w64 ((lI x0.gKids) + (lI x0.gValues)))), (4, iA v10), (27, .agg (TExpr.cs v12))] ?_
      obtain ⟨v13, hv13, H⟩ := bind_some H
      refine AOps_callp (d := (some 28)) (al := [.agg (TExpr.cs v12)]) (r := bA v13) (by kernel_rfl) (hself_law6_big hv13) ⟨(sc_TExpr_cs _ _), trivial⟩ trivial ?_
      refine AOps_done (CD H (fun hb14 H => ?_) (fun hb14 H => ?_))
      · refine AWP_reg (Rh 1 31 [(2, bA true)] (AOps_done ?_))
        exact AWP_ret (FR H)
      · refine AWP_skip ?_
        show AWP _ _ _ _ _ _ _
        refine AWP_region ?_
        refine Rh 3 31 [(1, .ptr 0 0), (3, iA (w64 ((lI x0.gKids) + (lI x0.gValues)))), (4, iA (w64 (v10 + 1)))] (AOps_done ?_)
        exact Exists.intro (w64 (v10 + 1)) (Exists.intro n ⟨by omega, ⟨by omega, H⟩, Norm_fd [1, 3, 4] 0 (by kernel_rfl) rfl rfl ⟨(sc_TExpr_cs _ _), trivial⟩ (by refine scL_fr ?_; exact ⟨(sc_ptr rfl), trivial, trivial, trivial⟩)⟩)
    · refine AWP_exit ?_
      show AWP _ _ _ _ _ _ _
      refine AWP_reg (Rh 3 31 [(2, bA (decide ((w64 ((lI x0.gKids) + (lI x0.gValues))) ≥ 200)))] (AOps_done ?_))
      exact AWP_ret (FR H)
theorem s_all_law6_big : ∀ n : Nat, (∀ {x0 : TExpr}, ∀ {r : Bool}, p_law6_big n x0 = some r → Sp Tryz.prog E 11 [.agg (TExpr.cs x0)] [] (isA (bA r) [])) := by
  intro n
  induction n with
  | zero => exact fun H => not_none (by simpa only [p_law6_big] using H)
  | succ n ih => exact fun H => s_law6_big_F ih (by simpa only [p_law6_big] using H)
theorem s_law6_big {n : Nat} {x0 : TExpr} {r : Bool} (H : p_law6_big n x0 = some r) :
    Sp Tryz.prog E 11 [.agg (TExpr.cs x0)] [] (isA (bA r) []) := (s_all_law6_big n) H
end Go.Proofs.YtjhbobacbaikoaaGreatDoor
/- The examples of the chapter; how large a condition is. -/
namespace Go.Proofs.YtjhbobacbaikoaaGreatDoor
open Go
set_option linter.unusedVariables false
set_option linter.unusedSimpArgs false
mutual
theorem big_tot : ∀ x : TExpr, x.sm → ∃ v, Al fun n => p_law6_big n x = some v
  | .mk op kd nm vs ks, hx => by
    have hL := big_totL ks (by rw [TExpr.sm] at hx; exact hx.2.2.2.2)
    have hlen : ks.length < 4294967281 := by rw [TExpr.sm] at hx; exact hx.2.2.2.1
    generalize hxx : TExpr.mk op kd nm vs ks = x at *
    have hks : x.gKids = ks := by rw [← hxx]; rfl
    obtain ⟨G, N, hN⟩ := hL
    have key : ∀ (q i : Nat), i + q = ks.length → ∃ v, ∀ n m, N ≤ n → q < m → p_law6_big_L1 m (p_law6_big n) x i = some v := by
      intro q
      induction q with
      | zero =>
        intro i hi
        refine ⟨decide (w64 (lI x.gKids + lI x.gValues) ≥ 200), fun n m hn hm => ?_⟩
        obtain ⟨m, rfl⟩ : ∃ k, m = k + 1 := ⟨m - 1, by omega⟩
        obtain rfl : i = ks.length := by omega
        rw [p_law6_big_L1]
        rw [← hks, lI_out]; rfl
      | succ q ih =>
        intro i hi
        have hil : i < x.gKids.length := by rw [hks]; omega
        obtain ⟨w, hw⟩ := ih (i + 1) (by omega)
        by_cases c : w64 (lI x.gKids + lI x.gValues) < 200
        · refine ⟨if G x.gKids[i] = true then true else w, fun n m hn hm => ?_⟩
          obtain ⟨m, rfl⟩ : ∃ k, m = k + 1 := ⟨m - 1, by omega⟩
          rw [p_law6_big_L1, lI_in hil, decide_eq_true c]
          simp only [Bool.and_self, cond_true, rdO_nat hil, Option.bind_some, hN n hn x.gKids[i] (by rw [← hks]; exact List.getElem_mem hil), w64_add (show i + 1 < 9223372036854775808 by omega), hw n m hn (by omega)]
          cases G x.gKids[i] <;> rfl
        · refine ⟨true, fun n m hn hm => ?_⟩
          obtain ⟨m, rfl⟩ : ∃ k, m = k + 1 := ⟨m - 1, by omega⟩
          rw [p_law6_big_L1, lI_in hil, decide_eq_false c]
          simp only [Bool.true_and, cond_false]
          rw [decide_eq_true (show w64 (lI x.gKids + lI x.gValues) ≥ 200 by omega)]
    obtain ⟨v, hv⟩ := key ks.length 0 (by omega)
    refine ⟨v, Al.succ ⟨N + ks.length + 1, fun n hn => ?_⟩⟩
    show p_law6_big_F (p_law6_big n) n x = some v
    unfold p_law6_big_F
    exact hv n n (by omega) (by omega)
theorem big_totL : ∀ l : List TExpr, TExpr.smL l → ∃ G : TExpr → Bool, Al fun n => ∀ k ∈ l, p_law6_big n k = some (G k)
  | [], _ => ⟨fun _ => false, .of fun n k hk => by cases hk⟩
  | k :: ks, h => by
    rw [TExpr.smL] at h
    obtain ⟨v, hv⟩ := big_tot k h.1
    obtain ⟨G, hG⟩ := big_totL ks h.2
    refine ⟨fun y => open Classical in if y = k then v else G y, (hv.and hG).mono fun n ⟨h1, h2⟩ y hy => ?_⟩
    by_cases e : y = k
    · simp only [e, if_true]; exact h1
    · simp only [e, if_false]
      rcases List.mem_cons.1 hy with h | h
      · exact absurd h e
      · exact h2 y h
end
theorem awake_al : Al fun n => p_law6_awake n = some true := ⟨40, fun n hn => by
  obtain ⟨m, rfl⟩ : ∃ m, n = m + 40 := ⟨n - 40, by omega⟩
  kernel_rfl⟩
end Go.Proofs.YtjhbobacbaikoaaGreatDoor
/- A function of the program as a pure function, and that the program computes it. -/
namespace Go.Proofs.YtjhbobacbaikoaaGreatDoor
open Go
set_option linter.unusedVariables false
set_option linter.unusedSimpArgs false
set_option maxRecDepth 100000
def p_law6_ShapeParts_L3 (n : Nat) (v4 : TExpr × TCodes) (v5 : Int) (v6 : Int) (v28 : List TExpr) (v48 : Int) (v49 : ByteArray) (v50 : ByteArray) (v51 : List TValue) (v52 : List TExpr) (v69 : Int) : Option Bool := match n with
| 0 => none
| n + 1 =>
(bif decide (v69 < (lI ([v4.1, (TExpr.mk 3 ByteArray.empty ByteArray.empty ([]) v28), (TExpr.mk v48 v49 v50 v51 v52)]))) then
(rdO ([v4.1, (TExpr.mk 3 ByteArray.empty ByteArray.empty ([]) v28), (TExpr.mk v48 v49 v50 v51 v52)]) v69).bind fun v71 =>
(p_shape_Parts n v71).bind fun v72 =>
(p_ref6_Parts n v71).bind fun v73 =>
(bif !(v72 != v73) then p_shape_Expr n v71 else some (0)).bind fun v74 =>
(bif !(v72 != v73) then p_ref6_Expr n v71 else some (0)).bind fun v75 =>
(bif (v72 != v73) || (v74 != v75) then
 some (false)
 else
 p_law6_ShapeParts_L3 n v4 v5 v6 v28 v48 v49 v50 v51 v52 (w64 (v69 + 1)))
 else
(p_shape_Expr n (TExpr.mk v48 v49 v50 v51 v52)).bind fun v78 =>
(bif (v78 == 0) == (decide (v6 < 10)) then p_shape_Expr n (TExpr.mk 3 ByteArray.empty ByteArray.empty ([]) v28) else some (0)).bind fun v79 =>
(bif ((v78 == 0) == (decide (v6 < 10))) && (decide ((w64 (2 + v5)) ≤ 12)) then p_shape_Parts n (TExpr.mk 3 ByteArray.empty ByteArray.empty ([]) v28) else some (0)).bind fun v80 =>
 some (((v78 == 0) == (decide (v6 < 10))) && ((v79 == 0) == ((decide ((w64 (2 + v5)) ≤ 12)) && (decide (v80 ≤ 60))))))
def p_law6_ShapeParts_L2 (n : Nat) (v4 : TExpr × TCodes) (v5 : Int) (v6 : Int) (v28 : List TExpr) (v47 : Int) (v48 : Int) (v49 : ByteArray) (v50 : ByteArray) (v51 : List TValue) (v52 : List TExpr) : Option Bool := match n with
| 0 => none
| n + 1 =>
(bif decide (v47 < v6) then
 p_law6_ShapeParts_L2 n v4 v5 v6 v28 (w64 (v47 + 1)) 4 ByteArray.empty ByteArray.empty ([]) ([(TExpr.mk v48 v49 v50 v51 v52)])
 else
 p_law6_ShapeParts_L3 n v4 v5 v6 v28 v48 v49 v50 v51 v52 0)
mutual
def p_law6_ShapeParts_K1 (n : Nat) (v4 : TExpr × TCodes) (v5 : Int) (v6 : Int) (v27 : Int) (v28 : List TExpr) (v31 : Int) (v32 : ByteArray) (v33 : ByteArray) (v34 : List TValue) (v35 : List TExpr) : Option Bool := match n with
| 0 => none
| n + 1 =>
(appO 88 v28 ([(TExpr.mk v31 v32 v33 v34 v35)])).bind fun v36 =>
 p_law6_ShapeParts_L1 n v4 v5 v6 (w64 (v27 + 1)) v36
def p_law6_ShapeParts_L1 (n : Nat) (v4 : TExpr × TCodes) (v5 : Int) (v6 : Int) (v27 : Int) (v28 : List TExpr) : Option Bool := match n with
| 0 => none
| n + 1 =>
(bif decide (v27 < (w64 (2 + v5))) then
(bif v4.1.gOp == 3 then
 p_law6_ShapeParts_K1 n v4 v5 v6 v27 v28 4 ByteArray.empty ByteArray.empty ([]) ([v4.1])
 else
 p_law6_ShapeParts_K1 n v4 v5 v6 v27 v28 v4.1.gOp v4.1.gKind v4.1.gName v4.1.gValues v4.1.gKids)
 else
(p_draw_Codes_Test n v4.2).bind fun v38 =>
 p_law6_ShapeParts_L2 n v4 v5 v6 v28 0 v38.1.gOp v38.1.gKind v38.1.gName v38.1.gValues v38.1.gKids)
end
def p_law6_ShapeParts (n : Nat) (x0 : List Int) (x1 : Int) (x2 : Int) : Option Bool :=
(p_law6_awake n ).bind fun v1 =>
(bif !v1 then
 some (false)
 else
(p_draw_New n x0 120).bind fun v3 =>
(p_draw_Codes_Expr n v3 ([]) 4).bind fun v4 =>
(p_draw_Mod n x1 12).bind fun v5 =>
(p_draw_Mod n x2 12).bind fun v6 =>
 p_law6_ShapeParts_L1 n v4 v5 v6 0 ([]))
variable {E : Env}
theorem s_law6_ShapeParts {n : Nat} (hG : GlobD E) {x0 : List Int} {x1 : Int} {x2 : Int} {r : Bool} (H : p_law6_ShapeParts n x0 x1 x2 = some r) :
    Sp Tryz.prog E 9 [.ro .unk x0.length (cl_u8 x0), iA x1, iA x2] [] (isA (bA r) []) := by
  unfold p_law6_ShapeParts at H
  refine Sp_fn Tryz.func9 rfl (fun hc hs => ?_)
  refine AWP_reg (Rh 1 97 [(0, .ro .unk x0.length (cl_u8 x0)), (1, iA x1), (2, iA x2)] (AOps_done (AWP_seq (AWP_reg ?_))))
  obtain ⟨v1, hv1, H⟩ := bind_some H
  refine AOps_callp (d := (some 16)) (al := []) (r := bA v1) (by kernel_rfl) (s_law6_awake hG.toGlobT hv1) trivial trivial ?_
  refine Rh 1 97 [(0, .ro .unk x0.length (cl_u8 x0)), (1, iA x1), (2, iA x2), (17, bA (!v1))] (AOps_done (CD H (fun hb2 H => ?_) (fun hb2 H => ?_)))
  · refine AWP_reg (Rh 1 97 [(6, bA false)] (AOps_done ?_))
    exact AWP_ret (FR H)
  · refine AWP_skip ?_
    show AWP _ _ _ _ _ _ _
    refine AWP_reg (Rh 1 97 [(1, iA x1), (2, iA x2), (18, .ro .unk x0.length (cl_u8 x0))] ?_)
    obtain ⟨v3, hv3, H⟩ := bind_some H
    refine AOps_callnew (d := (some 19)) (al := [.ro .unk x0.length (cl_u8 x0), iA 120]) (b := .cells 101 (TCodes.cs v3)) (m := 0) (by kernel_rfl) (s_draw_New hv3) ⟨(scl_cl_u8 _ _), trivial, trivial⟩ (⟨(scl_cl_u8 _ _), trivial, trivial⟩) rfl ?_
    refine Rh 1 97 [(1, iA x1), (2, iA x2), (7, .ptr 0 0)] (AOps_done (AWP_reg (Rh 1 97 [(1, iA x1), (2, iA x2), (7, .ptr 0 0), (20, .ptr 0 0)] ?_)))
    obtain ⟨v4, hv4, H⟩ := bind_some H
    refine AOps_call1 (d := (some 21)) (al := [.ptr 0 0, .ro .full 0 [], iA 4]) ([.ptr 0 0, .ro .full 0 [], iA 4]) (r := .agg (TExpr.cs v4.1)) (j := 0) (b' := .cells 101 (TCodes.cs v4.2)) (by kernel_rfl) rfl (Sp.le (leL_cons (AV.le_refl _) (leL_cons (AV.le_ro _ _ _) (leL_refl _))) (s_draw_Codes_Expr hG hv4)) (⟨(scl_cl_u8 _ _), trivial, trivial⟩) (⟨(scl_cl_u8 _ _), trivial, trivial⟩) ⟨Nat.zero_lt_one, trivial, trivial, trivial⟩ (sc_TExpr_cs _ _) rfl (h' := [.cells 101 (TCodes.cs v4.2)]) rfl ?_
    refine R 2 97 [(1, iA x1), (2, iA x2), (7, .ptr 0 0), (8, .ptr 1 0)] [.cells 25 (TExpr.cs v4.1), .cells 101 (TCodes.cs v4.2)] (AOps_done (AWP_reg (Rh 1 97 [(2, iA x2), (7, .ptr 0 0), (8, .ptr 1 0), (22, iA x1)] ?_)))
    obtain ⟨v5, hv5, H⟩ := bind_some H
    refine AOps_callp (d := (some 23)) (al := [iA x1, iA 12]) (r := iA v5) (by kernel_rfl) (s_draw_Mod hv5) ⟨trivial, trivial, trivial⟩ trivial ?_
    refine Rh 2 97 [(7, .ptr 0 0), (8, .ptr 1 0), (24, iA (w64 (2 + v5))), (25, iA x2)] ?_
    obtain ⟨v6, hv6, H⟩ := bind_some H
    refine AOps_callp (d := (some 26)) (al := [iA x2, iA 12]) (r := iA v6) (by kernel_rfl) (s_draw_Mod hv6) ⟨trivial, trivial, trivial⟩ trivial ?_
    refine Rh 2 97 [(1, iA (w64 (2 + v5))), (2, iA v6), (7, .ptr 0 0), (8, .ptr 1 0)] (AOps_done (AWP_reg (R 3 97 [(1, iA (w64 (2 + v5))), (2, iA v6), (7, .ptr 0 0), (8, .ptr 1 0), (9, .ptr 2 0)] [.cells 25 [iA 3, sA ByteArray.empty, sA ByteArray.empty, .ro .full 0 [], .ro .full 0 []], .cells 25 (TExpr.cs v4.1), .cells 101 (TCodes.cs v4.2)] (AOps_done (AWP_seq (AWP_reg (Rh 1 97 [(1, iA (w64 (2 + v5))), (2, iA v6), (7, .ptr 0 0), (8, .ptr 1 0), (9, .ptr 2 0), (10, iA 0)] (AOps_done ?_))))))))
    refine AWP_block ?_
    refine AWP_loopN (α := Int × (List TExpr)) (fun ⟨v27, v28⟩ => fr 97 [(1, iA (w64 (2 + v5))), (2, iA v6), (7, .ptr 0 0), (8, .ptr 1 0), (9, .ptr 2 0), (10, iA v27)]) (fun ⟨v27, v28⟩ => [.row 25 (TExpr.cl v28), .cells 25 [iA 3, sA ByteArray.empty, sA ByteArray.empty, .ro .full 0 [], .sl 3 0 v28.length (.whole 5)], .cells 25 (TExpr.cs v4.1), .cells 101 (TCodes.cs v4.2)]) (fun k_ ⟨v27, v28⟩ => k_ ≤ n ∧ p_law6_ShapeParts_L1 k_ v4 v5 v6 v27 v28 = some r) (fun n a H => ?_) (k := n) (0, []) ⟨Nat.le_refl _, H⟩ (Norm_trans (Norm_fd (st' := fr 97 [(1, iA (w64 (2 + v5))), (2, iA v6), (7, .ptr 0 0), (8, .ptr 1 0), (9, .ptr 2 0), (10, iA 0)]) (h' := [.cells 25 [iA 3, sA ByteArray.empty, sA ByteArray.empty, .ro .full 0 [], .ro .full 0 []], .cells 25 (TExpr.cs v4.1), .cells 101 (TCodes.cs v4.2)]) [1, 2, 7, 8, 9, 10] 0 (by kernel_rfl) rfl rfl ⟨⟨trivial, trivial, trivial, trivial, trivial, trivial⟩, (sc_TExpr_cs _ _), ⟨(scl_cl_u8 _ _), trivial, trivial⟩, trivial⟩ (by refine scL_fr ?_; exact ⟨trivial, trivial, (sc_ptr rfl), (sc_ptr rfl), (sc_ptr rfl), trivial, trivial⟩)) (Norm_trans (Norm_nilc' (st := fr 97 [(1, iA (w64 (2 + v5))), (2, iA v6), (7, .ptr 0 0), (8, .ptr 1 0), (9, .ptr 2 0), (10, iA 0)]) (ty := 25) (cs := [iA 3, sA ByteArray.empty, sA ByteArray.empty, .ro .full 0 [], .ro .full 0 []]) (h' := [.row 25 (TExpr.cl ([])), .cells 25 [iA 3, sA ByteArray.empty, sA ByteArray.empty, .ro .full 0 [], .sl 3 0 ([] : List TExpr).length (.whole 5)], .cells 25 (TExpr.cs v4.1), .cells 101 (TCodes.cs v4.2)]) 2 4 3 25 5 rfl rfl (by kernel_rfl) (by kernel_rfl)) (Norm_fd [1, 2, 7, 8, 9, 10] 0 (by kernel_rfl) rfl rfl ⟨(scl_TExpr_cl _ _), ⟨trivial, trivial, trivial, trivial, (sc_sl rfl), trivial⟩, (sc_TExpr_cs _ _), ⟨(scl_cl_u8 _ _), trivial, trivial⟩, trivial⟩ (by refine scL_fr ?_; exact ⟨trivial, trivial, (sc_ptr rfl), (sc_ptr rfl), (sc_ptr rfl), trivial, trivial⟩))))
    obtain ⟨v27, v28⟩ := a
    show AWP _ _ _ _ _ (fr 97 [(1, iA (w64 (2 + v5))), (2, iA v6), (7, .ptr 0 0), (8, .ptr 1 0), (9, .ptr 2 0), (10, iA v27)]) [.row 25 (TExpr.cl v28), .cells 25 [iA 3, sA ByteArray.empty, sA ByteArray.empty, .ro .full 0 [], .sl 3 0 v28.length (.whole 5)], .cells 25 (TExpr.cs v4.1), .cells 101 (TCodes.cs v4.2)]
    obtain ⟨hb_, H⟩ := H
    replace H : p_law6_ShapeParts_L1 n v4 v5 v6 v27 v28 = some r := H
    cases n with
    | zero => exact not_none (by simpa only [p_law6_ShapeParts_L1] using H)
    | succ n =>
      unfold p_law6_ShapeParts_L1 at H
      refine AWP_seq (AWP_reg (Rh 3 97 [(1, iA (w64 (2 + v5))), (2, iA v6), (7, .ptr 0 0), (8, .ptr 1 0), (9, .ptr 2 0), (10, iA v27), (30, bA (decide (v27 < (w64 (2 + v5)))))] (AOps_done (CD H (fun hb29 H => ?_) (fun hb29 H => ?_)))))
      · refine AWP_skip ?_
        show AWP _ _ _ _ _ _ _
        refine AWP_seq (AWP_block ?_)
        refine AWP_reg (R 3 97 [(1, iA (w64 (2 + v5))), (2, iA v6), (7, .ptr 0 0), (8, .ptr 1 0), (9, .ptr 2 0), (10, iA v27), (11, .ptr 4 0)] [.cells 25 (TExpr.cs v4.1), .row 25 (TExpr.cl v28), .cells 25 [iA 3, sA ByteArray.empty, sA ByteArray.empty, .ro .full 0 [], .sl 3 0 v28.length (.whole 5)], .cells 25 (TExpr.cs v4.1), .cells 101 (TCodes.cs v4.2)] (AOps_done (AWP_joinN (α := Int × ByteArray × ByteArray × (List TValue) × (List TExpr)) (fun ⟨v31, v32, v33, v34, v35⟩ => fr 97 [(1, iA (w64 (2 + v5))), (2, iA v6), (7, .ptr 0 0), (8, .ptr 1 0), (9, .ptr 2 0), (10, iA v27), (11, .ptr 4 0)]) (fun ⟨v31, v32, v33, v34, v35⟩ => [.cells 25 [iA v31, sA v32, sA v33, .ro .unk v34.length (TValue.cl v34), .ro .unk v35.length (TExpr.cl v35)], .row 25 (TExpr.cl v28), .cells 25 [iA 3, sA ByteArray.empty, sA ByteArray.empty, .ro .full 0 [], .sl 3 0 v28.length (.whole 5)], .cells 25 (TExpr.cs v4.1), .cells 101 (TCodes.cs v4.2)]) (fun ⟨v31, v32, v33, v34, v35⟩ => ∃ q, q ≤ n ∧ p_law6_ShapeParts_K1 q v4 v5 v6 v27 v28 v31 v32 v33 v34 v35 = some r) (fun a hC => ?_) ?_)))
        · obtain ⟨v31, v32, v33, v34, v35⟩ := a
          show AWP _ _ _ _ _ (fr 97 [(1, iA (w64 (2 + v5))), (2, iA v6), (7, .ptr 0 0), (8, .ptr 1 0), (9, .ptr 2 0), (10, iA v27), (11, .ptr 4 0)]) [.cells 25 [iA v31, sA v32, sA v33, .ro .unk v34.length (TValue.cl v34), .ro .unk v35.length (TExpr.cl v35)], .row 25 (TExpr.cl v28), .cells 25 [iA 3, sA ByteArray.empty, sA ByteArray.empty, .ro .full 0 [], .sl 3 0 v28.length (.whole 5)], .cells 25 (TExpr.cs v4.1), .cells 101 (TCodes.cs v4.2)]
          obtain ⟨n, hn_, hC⟩ := hC
          replace H : p_law6_ShapeParts_K1 n v4 v5 v6 v27 v28 v31 v32 v33 v34 v35 = some r := hC
          cases n with
          | zero => exact not_none (by simpa only [p_law6_ShapeParts_K1] using H)
          | succ n =>
            unfold p_law6_ShapeParts_K1 at H
            refine AWP_region ?_
            refine Rh 3 97 [(1, iA (w64 (2 + v5))), (2, iA v6), (7, .ptr 0 0), (8, .ptr 1 0), (9, .ptr 2 0), (10, iA v27), (41, .sl 3 0 v28.length (.whole 5)), (42, .agg [iA v31, sA v32, sA v33, .ro .unk v34.length (TValue.cl v34), .ro .unk v35.length (TExpr.cl v35)])] (AOps_bsl (d := (some 43)) (m := 1) (cs := [iA v31, sA v32, sA v33, .ro .unk v34.length (TValue.cl v34), .ro .unk v35.length (TExpr.cl v35)]) (by kernel_rfl) ⟨trivial, trivial, trivial, (scl_TValue_cl _ _), (scl_TExpr_cl _ _), trivial⟩ ?_)
            refine AOps_cast (d := (some 43)) (v' := .ro .unk ([(TExpr.mk v31 v32 v33 v34 v35)]).length (TExpr.cl ([(TExpr.mk v31 v32 v33 v34 v35)]))) (congrArg (AV.ro .unk 1) (eq_TExpr_cl ([(TExpr.mk v31 v32 v33 v34 v35)])).symm) ?_
            obtain ⟨v36, hv36, H⟩ := bind_some H
            refine AOps_append (d := (some 44)) (c := TExpr.cs) (sz := 5) (bs := 88) (e := 25) (id := 3) (xs := v28) (ys := [(TExpr.mk v31 v32 v33 v34 v35)]) (by kernel_rfl) rfl (eq_TExpr_cl _) rfl (eq_TExpr_cl _) (fun _ => rfl) (by kernel_rfl) (by kernel_rfl) hv36 (eq_TExpr_cl _) (h' := [.row 25 (TExpr.cl v36), .cells 25 [iA v31, sA v32, sA v33, .ro .unk v34.length (TValue.cl v34), .ro .unk v35.length (TExpr.cl v35)], .dead, .cells 25 [iA 3, sA ByteArray.empty, sA ByteArray.empty, .ro .full 0 [], .sl 3 0 v28.length (.whole 5)], .cells 25 (TExpr.cs v4.1), .cells 101 (TCodes.cs v4.2)]) rfl ?_
            refine R 2 97 [(1, iA (w64 (2 + v5))), (2, iA v6), (7, .ptr 0 0), (8, .ptr 1 0), (9, .ptr 2 0), (10, iA v27)] [.row 25 (TExpr.cl v36), .cells 25 [iA v31, sA v32, sA v33, .ro .unk v34.length (TValue.cl v34), .ro .unk v35.length (TExpr.cl v35)], .dead, .cells 25 [iA 3, sA ByteArray.empty, sA ByteArray.empty, .ro .full 0 [], .sl 5 0 v36.length (.whole 5)], .cells 25 (TExpr.cs v4.1), .cells 101 (TCodes.cs v4.2)] (AOps_done ?_)
            show AWP _ _ _ _ _ _ _
            refine AWP_region ?_
            refine Rh 3 97 [(1, iA (w64 (2 + v5))), (2, iA v6), (7, .ptr 0 0), (8, .ptr 1 0), (9, .ptr 2 0), (10, iA (w64 (v27 + 1)))] (AOps_done ?_)
            exact Exists.intro (w64 (v27 + 1), v36) (Exists.intro n ⟨by omega, ⟨by omega, H⟩, Norm_trans (Norm_fd (st' := fr 97 [(1, iA (w64 (2 + v5))), (2, iA v6), (7, .ptr 0 0), (8, .ptr 1 0), (9, .ptr 2 0), (10, iA (w64 (v27 + 1)))]) (h' := [.row 25 (TExpr.cl v36), .cells 25 [iA v31, sA v32, sA v33, .ro .unk v34.length (TValue.cl v34), .ro .unk v35.length (TExpr.cl v35)], .dead, .cells 25 [iA 3, sA ByteArray.empty, sA ByteArray.empty, .ro .full 0 [], .sl 5 0 v36.length (.whole 5)], .cells 25 (TExpr.cs v4.1), .cells 101 (TCodes.cs v4.2)]) [1, 2, 7, 8, 9, 10] 0 (by kernel_rfl) rfl rfl ⟨(scl_TExpr_cl _ _), ⟨trivial, trivial, trivial, (scl_TValue_cl _ _), (scl_TExpr_cl _ _), trivial⟩, trivial, ⟨trivial, trivial, trivial, trivial, (sc_sl rfl), trivial⟩, (sc_TExpr_cs _ _), ⟨(scl_cl_u8 _ _), trivial, trivial⟩, trivial⟩ (by refine scL_fr ?_; exact ⟨trivial, trivial, (sc_ptr rfl), (sc_ptr rfl), (sc_ptr rfl), trivial, trivial⟩)) (Norm_trans (Norm_move' (st' := fr 97 [(1, iA (w64 (2 + v5))), (2, iA v6), (7, .ptr 0 0), (8, .ptr 1 0), (9, .ptr 2 0), (10, iA (w64 (v27 + 1)))]) (h' := [.cells 25 [iA v31, sA v32, sA v33, .ro .unk v34.length (TValue.cl v34), .ro .unk v35.length (TExpr.cl v35)], .row 25 (TExpr.cl v36), .cells 25 [iA 3, sA ByteArray.empty, sA ByteArray.empty, .ro .full 0 [], .sl 3 0 v36.length (.whole 5)], .cells 25 (TExpr.cs v4.1), .cells 101 (TCodes.cs v4.2)]) 3 5 rfl rfl rfl (fun h => by cases h) (by refine toOkL_fr ?_; exact ⟨trivial, trivial, (toOk_ptr rfl), (toOk_ptr rfl), (toOk_ptr rfl), trivial, trivial⟩) ⟨(on0 (scl_TExpr_cl _ _)), ⟨trivial, trivial, trivial, (on0 (scl_TValue_cl _ _)), (on0 (scl_TExpr_cl _ _)), trivial⟩, trivial, ⟨trivial, trivial, trivial, trivial, (toOk_sl rfl), trivial⟩, ⟨trivial, trivial, trivial, (on0 (scl_TValue_cl _ _)), (on0 (scl_TExpr_cl _ _)), trivial⟩, ⟨(on0 (scl_cl_u8 _ _)), trivial, trivial⟩, trivial⟩ (by kernel_rfl) (by kernel_rfl)) (Norm_fd [1, 2, 7, 8, 9, 10] 1 (by kernel_rfl) rfl rfl ⟨(scl_TExpr_cl _ _), ⟨trivial, trivial, trivial, trivial, (sc_sl rfl), trivial⟩, (sc_TExpr_cs _ _), ⟨(scl_cl_u8 _ _), trivial, trivial⟩, trivial⟩ (by refine scL_fr ?_; exact ⟨trivial, trivial, (sc_ptr rfl), (sc_ptr rfl), (sc_ptr rfl), trivial, trivial⟩)))⟩)
        · refine AWP_reg (Rh 3 97 [(1, iA (w64 (2 + v5))), (2, iA v6), (7, .ptr 0 0), (8, .ptr 1 0), (9, .ptr 2 0), (10, iA v27), (11, .ptr 4 0), (36, bA (v4.1.gOp == 3))] (AOps_done (CD H (fun hb37 H => ?_) (fun hb37 H => ?_))))
          · refine AWP_region ?_
            refine Rh 1 97 [(1, iA (w64 (2 + v5))), (2, iA v6), (7, .ptr 0 0), (8, .ptr 1 0), (9, .ptr 2 0), (10, iA v27), (11, .ptr 4 0), (37, .agg (TExpr.cs v4.1))] (AOps_bsl (d := (some 38)) (m := 1) (cs := [iA v4.1.gOp, sA v4.1.gKind, sA v4.1.gName, .ro .unk v4.1.gValues.length (TValue.cl v4.1.gValues), .ro .unk v4.1.gKids.length (TExpr.cl v4.1.gKids)]) (by kernel_rfl) ⟨trivial, trivial, trivial, (scl_TValue_cl _ _), (scl_TExpr_cl _ _), trivial⟩ ?_)
            refine AOps_cast (d := (some 38)) (v' := .ro .unk ([v4.1]).length (TExpr.cl ([v4.1]))) (congrArg (AV.ro .unk 1) (eq_TExpr_cl ([v4.1])).symm) ?_
            refine R 2 97 [(1, iA (w64 (2 + v5))), (2, iA v6), (7, .ptr 0 0), (8, .ptr 1 0), (9, .ptr 2 0), (10, iA v27), (11, .ptr 4 0)] [.cells 25 [iA 4, sA ByteArray.empty, sA ByteArray.empty, .ro .full 0 [], .ro .unk ([v4.1]).length (TExpr.cl ([v4.1]))], .row 25 (TExpr.cl v28), .cells 25 [iA 3, sA ByteArray.empty, sA ByteArray.empty, .ro .full 0 [], .sl 3 0 v28.length (.whole 5)], .cells 25 (TExpr.cs v4.1), .cells 101 (TCodes.cs v4.2)] (AOps_done ?_)
            exact Exists.intro (4, ByteArray.empty, ByteArray.empty, [], [v4.1]) ⟨⟨n, by omega, H⟩, Norm_trans (Norm_cle (h' := [.cells 25 [iA 4, sA ByteArray.empty, sA ByteArray.empty, .ro .unk ([] : List TValue).length (TValue.cl ([] : List TValue)), .ro .unk ([v4.1]).length (TExpr.cl ([v4.1]))], .row 25 (TExpr.cl v28), .cells 25 [iA 3, sA ByteArray.empty, sA ByteArray.empty, .ro .full 0 [], .sl 3 0 v28.length (.whole 5)], .cells 25 (TExpr.cs v4.1), .cells 101 (TCodes.cs v4.2)]) 4 rfl (leL_cons (AV.le_refl _) (leL_cons (AV.le_refl _) (leL_cons (AV.le_refl _) (leL_cons (AV.le_ro _ _ _) (leL_refl _))))) rfl rfl) (Norm_fd [1, 2, 7, 8, 9, 10, 11] 0 (by kernel_rfl) rfl rfl ⟨⟨trivial, trivial, trivial, (scl_TValue_cl _ _), (scl_TExpr_cl _ _), trivial⟩, (scl_TExpr_cl _ _), ⟨trivial, trivial, trivial, trivial, (sc_sl rfl), trivial⟩, (sc_TExpr_cs _ _), ⟨(scl_cl_u8 _ _), trivial, trivial⟩, trivial⟩ (by refine scL_fr ?_; exact ⟨trivial, trivial, (sc_ptr rfl), (sc_ptr rfl), (sc_ptr rfl), trivial, (sc_ptr rfl), trivial⟩))⟩
          · refine AWP_skip ?_
            exact Exists.intro (v4.1.gOp, v4.1.gKind, v4.1.gName, v4.1.gValues, v4.1.gKids) ⟨⟨n, by omega, H⟩, Norm_fd [1, 2, 7, 8, 9, 10, 11] 0 (by kernel_rfl) rfl rfl ⟨⟨trivial, trivial, trivial, (scl_TValue_cl _ _), (scl_TExpr_cl _ _), trivial⟩, (scl_TExpr_cl _ _), ⟨trivial, trivial, trivial, trivial, (sc_sl rfl), trivial⟩, (sc_TExpr_cs _ _), ⟨(scl_cl_u8 _ _), trivial, trivial⟩, trivial⟩ (by refine scL_fr ?_; exact ⟨trivial, trivial, (sc_ptr rfl), (sc_ptr rfl), (sc_ptr rfl), trivial, (sc_ptr rfl), trivial⟩)⟩
      · refine AWP_exit ?_
        show AWP _ _ _ _ _ _ _
        refine AWP_reg (Rh 1 97 [(1, iA (w64 (2 + v5))), (2, iA v6), (8, .ptr 1 0), (9, .ptr 2 0), (46, .ptr 0 0)] ?_)
        obtain ⟨v38, hv38, H⟩ := bind_some H
        refine AOps_call1 (d := (some 47)) (al := [.ptr 0 0]) ([.ptr 0 0]) (r := .agg (TExpr.cs v38.1)) (j := 0) (b' := .cells 101 (TCodes.cs v38.2)) (by kernel_rfl) rfl (s_draw_Codes_Test hG hv38) (⟨(scl_cl_u8 _ _), trivial, trivial⟩) (⟨(scl_cl_u8 _ _), trivial, trivial⟩) ⟨Nat.zero_lt_one, trivial⟩ (sc_TExpr_cs _ _) rfl (h' := [.row 25 (TExpr.cl v28), .cells 25 [iA 3, sA ByteArray.empty, sA ByteArray.empty, .ro .full 0 [], .sl 3 0 v28.length (.whole 5)], .cells 25 (TExpr.cs v4.1), .cells 101 (TCodes.cs v38.2)]) rfl ?_
        refine R 2 97 [(1, iA (w64 (2 + v5))), (2, iA v6), (8, .ptr 1 0), (9, .ptr 2 0), (12, .ptr 4 0)] [.cells 25 (TExpr.cs v38.1), .row 25 (TExpr.cl v28), .cells 25 [iA 3, sA ByteArray.empty, sA ByteArray.empty, .ro .full 0 [], .sl 3 0 v28.length (.whole 5)], .cells 25 (TExpr.cs v4.1), .cells 101 (TCodes.cs v38.2)] (AOps_done (AWP_seq (AWP_reg (Rh 1 97 [(1, iA (w64 (2 + v5))), (2, iA v6), (8, .ptr 1 0), (9, .ptr 2 0), (12, .ptr 4 0), (13, iA 0)] (AOps_done (AWP_block ?_))))))
        refine AWP_loopN (α := Int × Int × ByteArray × ByteArray × (List TValue) × (List TExpr)) (fun ⟨v47, v48, v49, v50, v51, v52⟩ => fr 97 [(1, iA (w64 (2 + v5))), (2, iA v6), (8, .ptr 1 0), (9, .ptr 2 0), (12, .ptr 4 0), (13, iA v47)]) (fun ⟨v47, v48, v49, v50, v51, v52⟩ => [.cells 25 [iA v48, sA v49, sA v50, .ro .unk v51.length (TValue.cl v51), .ro .unk v52.length (TExpr.cl v52)], .row 25 (TExpr.cl v28), .cells 25 [iA 3, sA ByteArray.empty, sA ByteArray.empty, .ro .full 0 [], .sl 3 0 v28.length (.whole 5)], .cells 25 (TExpr.cs v4.1), .cells 101 (TCodes.cs v38.2)]) (fun k_ ⟨v47, v48, v49, v50, v51, v52⟩ => k_ ≤ n ∧ p_law6_ShapeParts_L2 k_ v4 v5 v6 v28 v47 v48 v49 v50 v51 v52 = some r) (fun n a H => ?_) (k := n) (0, v38.1.gOp, v38.1.gKind, v38.1.gName, v38.1.gValues, v38.1.gKids) ⟨Nat.le_refl _, H⟩ (Norm_fd [1, 2, 8, 9, 12, 13] 0 (by kernel_rfl) rfl rfl ⟨⟨trivial, trivial, trivial, (scl_TValue_cl _ _), (scl_TExpr_cl _ _), trivial⟩, (scl_TExpr_cl _ _), ⟨trivial, trivial, trivial, trivial, (sc_sl rfl), trivial⟩, (sc_TExpr_cs _ _), ⟨(scl_cl_u8 _ _), trivial, trivial⟩, trivial⟩ (by refine scL_fr ?_; exact ⟨trivial, trivial, (sc_ptr rfl), (sc_ptr rfl), (sc_ptr rfl), trivial, trivial⟩))
        obtain ⟨v47, v48, v49, v50, v51, v52⟩ := a
        show AWP _ _ _ _ _ (fr 97 [(1, iA (w64 (2 + v5))), (2, iA v6), (8, .ptr 1 0), (9, .ptr 2 0), (12, .ptr 4 0), (13, iA v47)]) [.cells 25 [iA v48, sA v49, sA v50, .ro .unk v51.length (TValue.cl v51), .ro .unk v52.length (TExpr.cl v52)], .row 25 (TExpr.cl v28), .cells 25 [iA 3, sA ByteArray.empty, sA ByteArray.empty, .ro .full 0 [], .sl 3 0 v28.length (.whole 5)], .cells 25 (TExpr.cs v4.1), .cells 101 (TCodes.cs v38.2)]
        obtain ⟨hb_, H⟩ := H
        replace H : p_law6_ShapeParts_L2 n v4 v5 v6 v28 v47 v48 v49 v50 v51 v52 = some r := H
        cases n with
        | zero => exact not_none (by simpa only [p_law6_ShapeParts_L2] using H)
        | succ n =>
          unfold p_law6_ShapeParts_L2 at H
          refine AWP_seq (AWP_reg (Rh 3 97 [(1, iA (w64 (2 + v5))), (2, iA v6), (8, .ptr 1 0), (9, .ptr 2 0), (12, .ptr 4 0), (13, iA v47), (50, bA (decide (v47 < v6)))] (AOps_done (CD H (fun hb53 H => ?_) (fun hb53 H => ?_)))))
          · refine AWP_skip ?_
            show AWP _ _ _ _ _ _ _
            refine AWP_seq (AWP_block ?_)
            refine AWP_region ?_
            refine Rh 1 97 [(1, iA (w64 (2 + v5))), (2, iA v6), (8, .ptr 1 0), (9, .ptr 2 0), (12, .ptr 4 0), (13, iA v47), (53, .agg [iA v48, sA v49, sA v50, .ro .unk v51.length (TValue.cl v51), .ro .unk v52.length (TExpr.cl v52)])] (AOps_bsl (d := (some 54)) (m := 1) (cs := [iA v48, sA v49, sA v50, .ro .unk v51.length (TValue.cl v51), .ro .unk v52.length (TExpr.cl v52)]) (by kernel_rfl) ⟨trivial, trivial, trivial, (scl_TValue_cl _ _), (scl_TExpr_cl _ _), trivial⟩ ?_)
            refine AOps_cast (d := (some 54)) (v' := .ro .unk ([(TExpr.mk v48 v49 v50 v51 v52)]).length (TExpr.cl ([(TExpr.mk v48 v49 v50 v51 v52)]))) (congrArg (AV.ro .unk 1) (eq_TExpr_cl ([(TExpr.mk v48 v49 v50 v51 v52)])).symm) ?_
            refine R 2 97 [(1, iA (w64 (2 + v5))), (2, iA v6), (8, .ptr 1 0), (9, .ptr 2 0), (12, .ptr 4 0), (13, iA v47)] [.cells 25 [iA 4, sA ByteArray.empty, sA ByteArray.empty, .ro .full 0 [], .ro .unk ([(TExpr.mk v48 v49 v50 v51 v52)]).length (TExpr.cl ([(TExpr.mk v48 v49 v50 v51 v52)]))], .row 25 (TExpr.cl v28), .cells 25 [iA 3, sA ByteArray.empty, sA ByteArray.empty, .ro .full 0 [], .sl 3 0 v28.length (.whole 5)], .cells 25 (TExpr.cs v4.1), .cells 101 (TCodes.cs v38.2)] (AOps_done ?_)
            show AWP _ _ _ _ _ _ _
            refine AWP_region ?_
            refine Rh 3 97 [(1, iA (w64 (2 + v5))), (2, iA v6), (8, .ptr 1 0), (9, .ptr 2 0), (12, .ptr 4 0), (13, iA (w64 (v47 + 1)))] (AOps_done ?_)
            exact Exists.intro (w64 (v47 + 1), 4, ByteArray.empty, ByteArray.empty, [], [(TExpr.mk v48 v49 v50 v51 v52)]) (Exists.intro n ⟨by omega, ⟨by omega, H⟩, Norm_trans (Norm_cle (h' := [.cells 25 [iA 4, sA ByteArray.empty, sA ByteArray.empty, .ro .unk ([] : List TValue).length (TValue.cl ([] : List TValue)), .ro .unk ([(TExpr.mk v48 v49 v50 v51 v52)]).length (TExpr.cl ([(TExpr.mk v48 v49 v50 v51 v52)]))], .row 25 (TExpr.cl v28), .cells 25 [iA 3, sA ByteArray.empty, sA ByteArray.empty, .ro .full 0 [], .sl 3 0 v28.length (.whole 5)], .cells 25 (TExpr.cs v4.1), .cells 101 (TCodes.cs v38.2)]) 4 rfl (leL_cons (AV.le_refl _) (leL_cons (AV.le_refl _) (leL_cons (AV.le_refl _) (leL_cons (AV.le_ro _ _ _) (leL_refl _))))) rfl rfl) (Norm_fd [1, 2, 8, 9, 12, 13] 0 (by kernel_rfl) rfl rfl ⟨⟨trivial, trivial, trivial, (scl_TValue_cl _ _), (scl_TExpr_cl _ _), trivial⟩, (scl_TExpr_cl _ _), ⟨trivial, trivial, trivial, trivial, (sc_sl rfl), trivial⟩, (sc_TExpr_cs _ _), ⟨(scl_cl_u8 _ _), trivial, trivial⟩, trivial⟩ (by refine scL_fr ?_; exact ⟨trivial, trivial, (sc_ptr rfl), (sc_ptr rfl), (sc_ptr rfl), trivial, trivial⟩))⟩)
          · refine AWP_exit ?_
            show AWP _ _ _ _ _ _ _
            refine AWP_seq (AWP_reg (Rh 3 97 [(1, iA (w64 (2 + v5))), (2, iA v6), (9, .ptr 2 0), (12, .ptr 4 0), (56, .agg (TExpr.cs v4.1)), (57, .agg [iA 3, sA ByteArray.empty, sA ByteArray.empty, .ro .full 0 [], .sl 3 0 v28.length (.whole 5)]), (58, .agg [iA v48, sA v49, sA v50, .ro .unk v51.length (TValue.cl v51), .ro .unk v52.length (TExpr.cl v52)])] (AOps_weak1 (st' := fr 97 [(1, iA (w64 (2 + v5))), (2, iA v6), (9, .ptr 2 0), (12, .ptr 4 0), (56, .agg (TExpr.cs v4.1)), (57, .agg [iA 3, sA ByteArray.empty, sA ByteArray.empty, .ro .full 0 [], .ro .unk v28.length (TExpr.cl v28)]), (58, .agg [iA v48, sA v49, sA v50, .ro .unk v51.length (TValue.cl v51), .ro .unk v52.length (TExpr.cl v52)])]) 57 (.agg [iA 3, sA ByteArray.empty, sA ByteArray.empty, .ro .full 0 [], .sl 3 0 v28.length (.whole 5)]) (.agg [iA 3, sA ByteArray.empty, sA ByteArray.empty, .ro .full 0 [], .ro .unk v28.length (TExpr.cl v28)]) (by kernel_rfl) (Frz_agg (FrzL_cons (Frz_sc trivial) (FrzL_cons (Frz_sc trivial) (FrzL_cons (Frz_sc trivial) (FrzL_cons (Frz_sc trivial) (FrzL_cons (Frz_row (t := 25) (cs := TExpr.cl v28) rfl (scl_TExpr_cl _ _)) (FrzL_nil)))))) rfl) (by kernel_rfl) ?_)))
            refine AOps_bsl2 (d := (some 59)) (m := 3) (cs := [iA v4.1.gOp, sA v4.1.gKind, sA v4.1.gName, .ro .unk v4.1.gValues.length (TValue.cl v4.1.gValues), .ro .unk v4.1.gKids.length (TExpr.cl v4.1.gKids), iA 3, sA ByteArray.empty, sA ByteArray.empty, .ro .full 0 [], .ro .unk v28.length (TExpr.cl v28), iA v48, sA v49, sA v50, .ro .unk v51.length (TValue.cl v51), .ro .unk v52.length (TExpr.cl v52)]) [iA v4.1.gOp, sA v4.1.gKind, sA v4.1.gName, .ro .unk v4.1.gValues.length (TValue.cl v4.1.gValues), .ro .unk v4.1.gKids.length (TExpr.cl v4.1.gKids), iA 3, sA ByteArray.empty, sA ByteArray.empty, .ro .unk ([] : List TValue).length (TValue.cl ([] : List TValue)), .ro .unk v28.length (TExpr.cl v28), iA v48, sA v49, sA v50, .ro .unk v51.length (TValue.cl v51), .ro .unk v52.length (TExpr.cl v52)] (by kernel_rfl) ⟨trivial, trivial, trivial, (scl_TValue_cl _ _), (scl_TExpr_cl _ _), trivial, trivial, trivial, trivial, (scl_TExpr_cl _ _), trivial, trivial, trivial, (scl_TValue_cl _ _), (scl_TExpr_cl _ _), trivial⟩ (leL_cons (AV.le_refl _) (leL_cons (AV.le_refl _) (leL_cons (AV.le_refl _) (leL_cons (AV.le_refl _) (leL_cons (AV.le_refl _) (leL_cons (AV.le_refl _) (leL_cons (AV.le_refl _) (leL_cons (AV.le_refl _) (leL_cons (AV.le_ro _ _ _) (leL_refl _)))))))))) rfl ?_
            refine AOps_cast (d := (some 59)) (v' := .ro .unk ([v4.1, (TExpr.mk 3 ByteArray.empty ByteArray.empty ([]) v28), (TExpr.mk v48 v49 v50 v51 v52)]).length (TExpr.cl ([v4.1, (TExpr.mk 3 ByteArray.empty ByteArray.empty ([]) v28), (TExpr.mk v48 v49 v50 v51 v52)]))) (congrArg (AV.ro .unk 3) (eq_TExpr_cl ([v4.1, (TExpr.mk 3 ByteArray.empty ByteArray.empty ([]) v28), (TExpr.mk v48 v49 v50 v51 v52)])).symm) ?_
            refine Rh 2 97 [(1, iA (w64 (2 + v5))), (2, iA v6), (9, .ptr 2 0), (12, .ptr 4 0), (59, .ro .unk ([v4.1, (TExpr.mk 3 ByteArray.empty ByteArray.empty ([]) v28), (TExpr.mk v48 v49 v50 v51 v52)]).length (TExpr.cl ([v4.1, (TExpr.mk 3 ByteArray.empty ByteArray.empty ([]) v28), (TExpr.mk v48 v49 v50 v51 v52)]))), (60, iA (lI ([v4.1, (TExpr.mk 3 ByteArray.empty ByteArray.empty ([]) v28), (TExpr.mk v48 v49 v50 v51 v52)]))), (61, iA 0)] (AOps_done (AWP_block ?_))
            refine AWP_loopN (α := Int) (fun v69 => fr 97 [(1, iA (w64 (2 + v5))), (2, iA v6), (9, .ptr 2 0), (12, .ptr 4 0), (59, .ro .unk ([v4.1, (TExpr.mk 3 ByteArray.empty ByteArray.empty ([]) v28), (TExpr.mk v48 v49 v50 v51 v52)]).length (TExpr.cl ([v4.1, (TExpr.mk 3 ByteArray.empty ByteArray.empty ([]) v28), (TExpr.mk v48 v49 v50 v51 v52)]))), (60, iA (lI ([v4.1, (TExpr.mk 3 ByteArray.empty ByteArray.empty ([]) v28), (TExpr.mk v48 v49 v50 v51 v52)]))), (61, iA v69)]) (fun v69 => [.cells 25 [iA v48, sA v49, sA v50, .ro .unk v51.length (TValue.cl v51), .ro .unk v52.length (TExpr.cl v52)], .row 25 (TExpr.cl v28), .cells 25 [iA 3, sA ByteArray.empty, sA ByteArray.empty, .ro .full 0 [], .sl 3 0 v28.length (.whole 5)], .cells 25 (TExpr.cs v4.1), .cells 101 (TCodes.cs v38.2)]) (fun k_ v69 => k_ ≤ n ∧ p_law6_ShapeParts_L3 k_ v4 v5 v6 v28 v48 v49 v50 v51 v52 v69 = some r) (fun n v69 H => ?_) (k := n) 0 ⟨Nat.le_refl _, H⟩ (Norm_fd [1, 2, 9, 12, 59, 60, 61] 0 (by kernel_rfl) rfl rfl ⟨⟨trivial, trivial, trivial, (scl_TValue_cl _ _), (scl_TExpr_cl _ _), trivial⟩, (scl_TExpr_cl _ _), ⟨trivial, trivial, trivial, trivial, (sc_sl rfl), trivial⟩, (sc_TExpr_cs _ _), ⟨(scl_cl_u8 _ _), trivial, trivial⟩, trivial⟩ (by refine scL_fr ?_; exact ⟨trivial, trivial, (sc_ptr rfl), (sc_ptr rfl), (scl_TExpr_cl _ _), trivial, trivial, trivial⟩))
            show AWP _ _ _ _ _ (fr 97 [(1, iA (w64 (2 + v5))), (2, iA v6), (9, .ptr 2 0), (12, .ptr 4 0), (59, .ro .unk ([v4.1, (TExpr.mk 3 ByteArray.empty ByteArray.empty ([]) v28), (TExpr.mk v48 v49 v50 v51 v52)]).length (TExpr.cl ([v4.1, (TExpr.mk 3 ByteArray.empty ByteArray.empty ([]) v28), (TExpr.mk v48 v49 v50 v51 v52)]))), (60, iA (lI ([v4.1, (TExpr.mk 3 ByteArray.empty ByteArray.empty ([]) v28), (TExpr.mk v48 v49 v50 v51 v52)]))), (61, iA v69)]) [.cells 25 [iA v48, sA v49, sA v50, .ro .unk v51.length (TValue.cl v51), .ro .unk v52.length (TExpr.cl v52)], .row 25 (TExpr.cl v28), .cells 25 [iA 3, sA ByteArray.empty, sA ByteArray.empty, .ro .full 0 [], .sl 3 0 v28.length (.whole 5)], .cells 25 (TExpr.cs v4.1), .cells 101 (TCodes.cs v38.2)]
            obtain ⟨hb_, H⟩ := H
            replace H : p_law6_ShapeParts_L3 n v4 v5 v6 v28 v48 v49 v50 v51 v52 v69 = some r := H
            cases n with
            | zero => exact not_none (by simpa only [p_law6_ShapeParts_L3] using H)
            | succ n =>
              unfold p_law6_ShapeParts_L3 at H
              refine AWP_reg (Rh 1 97 [(1, iA (w64 (2 + v5))), (2, iA v6), (9, .ptr 2 0), (12, .ptr 4 0), (59, .ro .unk ([v4.1, (TExpr.mk 3 ByteArray.empty ByteArray.empty ([]) v28), (TExpr.mk v48 v49 v50 v51 v52)]).length (TExpr.cl ([v4.1, (TExpr.mk 3 ByteArray.empty ByteArray.empty ([]) v28), (TExpr.mk v48 v49 v50 v51 v52)]))), (60, iA (lI ([v4.1, (TExpr.mk 3 ByteArray.empty ByteArray.empty ([]) v28), (TExpr.mk v48 v49 v50 v51 v52)]))), (61, iA v69), (62, bA (decide (v69 < (lI ([v4.1, (TExpr.mk 3 ByteArray.empty ByteArray.empty ([]) v28), (TExpr.mk v48 v49 v50 v51 v52)])))))] (AOps_done (AWP_seq (CD H (fun hb70 H => ?_) (fun hb70 H => ?_)))))
              · refine AWP_skip ?_
                show AWP _ _ _ _ _ _ _
                refine AWP_seq (AWP_block ?_)
                refine AWP_reg ?_
                obtain ⟨v71, hv71, H⟩ := bind_some H
                refine AOps_index (d := (some 63)) (sz := 5) (c := TExpr.cs) (by kernel_rfl) rfl (eq_TExpr_cl _) (fun _ => rfl) (by decide) hv71 (fun tl71 => ?_)
                refine R 3 97 [(1, iA (w64 (2 + v5))), (2, iA v6), (9, .ptr 2 0), (12, .ptr 4 0), (15, .ptr 5 0), (59, .ro .unk ([v4.1, (TExpr.mk 3 ByteArray.empty ByteArray.empty ([]) v28), (TExpr.mk v48 v49 v50 v51 v52)]).length (TExpr.cl ([v4.1, (TExpr.mk 3 ByteArray.empty ByteArray.empty ([]) v28), (TExpr.mk v48 v49 v50 v51 v52)]))), (60, iA (lI ([v4.1, (TExpr.mk 3 ByteArray.empty ByteArray.empty ([]) v28), (TExpr.mk v48 v49 v50 v51 v52)]))), (61, iA v69)] [.cells 25 (TExpr.cs v71), .cells 25 [iA v48, sA v49, sA v50, .ro .unk v51.length (TValue.cl v51), .ro .unk v52.length (TExpr.cl v52)], .row 25 (TExpr.cl v28), .cells 25 [iA 3, sA ByteArray.empty, sA ByteArray.empty, .ro .full 0 [], .sl 3 0 v28.length (.whole 5)], .cells 25 (TExpr.cs v4.1), .cells 101 (TCodes.cs v38.2)] (AOps_done ?_)
                obtain ⟨v72, hv72, H⟩ := bind_some H
                obtain ⟨v73, hv73, H⟩ := bind_some H
                obtain ⟨v74, hv74, H⟩ := bind_some H
                obtain ⟨v75, hv75, H⟩ := bind_some H
                refine AWP_regD1 [0, 2, 1, 3, 4, 5, 6, 8, 7, 9, 10, 11] (N := 97) (f := [(1, iA (w64 (2 + v5))), (2, iA v6), (9, .ptr 2 0), (12, .ptr 4 0), (15, .ptr 5 0), (59, .ro .unk ([v4.1, (TExpr.mk 3 ByteArray.empty ByteArray.empty ([]) v28), (TExpr.mk v48 v49 v50 v51 v52)]).length (TExpr.cl ([v4.1, (TExpr.mk 3 ByteArray.empty ByteArray.empty ([]) v28), (TExpr.mk v48 v49 v50 v51 v52)]))), (60, iA (lI ([v4.1, (TExpr.mk 3 ByteArray.empty ByteArray.empty ([]) v28), (TExpr.mk v48 v49 v50 v51 v52)]))), (61, iA v69)]) (leL_of [1, 2, 9, 12, 15, 59, 60, 61] (by kernel_rfl)) mixed (by kernel_rfl) (by kernel_rfl) (st' := fr 97 [(1, iA (w64 (2 + v5))), (2, iA v6), (9, .ptr 2 0), (12, .ptr 4 0), (59, .ro .unk ([v4.1, (TExpr.mk 3 ByteArray.empty ByteArray.empty ([]) v28), (TExpr.mk v48 v49 v50 v51 v52)]).length (TExpr.cl ([v4.1, (TExpr.mk 3 ByteArray.empty ByteArray.empty ([]) v28), (TExpr.mk v48 v49 v50 v51 v52)]))), (60, iA (lI ([v4.1, (TExpr.mk 3 ByteArray.empty ByteArray.empty ([]) v28), (TExpr.mk v48 v49 v50 v51 v52)]))), (61, iA v69), (76, bA ((v72 != v73) || (v74 != v75)))]) (h' := [.cells 25 (TExpr.cs v71), .cells 25 [iA v48, sA v49, sA v50, .ro .unk v51.length (TValue.cl v51), .ro .unk v52.length (TExpr.cl v52)], .row 25 (TExpr.cl v28), .cells 25 [iA 3, sA ByteArray.empty, sA ByteArray.empty, .ro .full 0 [], .sl 3 0 v28.length (.whole 5)], .cells 25 (TExpr.cs v4.1), .cells 101 (TCodes.cs v38.2)]) ?_ ?_
                rotate_left
                · refine RD 2 97 [(2, 5), (0, 5)] [(1, iA (w64 (2 + v5))), (2, iA v6), (9, .ptr 2 0), (12, .ptr 4 0), (15, .ptr 5 0), (59, .ro .unk ([v4.1, (TExpr.mk 3 ByteArray.empty ByteArray.empty ([]) v28), (TExpr.mk v48 v49 v50 v51 v52)]).length (TExpr.cl ([v4.1, (TExpr.mk 3 ByteArray.empty ByteArray.empty ([]) v28), (TExpr.mk v48 v49 v50 v51 v52)]))), (60, iA (lI ([v4.1, (TExpr.mk 3 ByteArray.empty ByteArray.empty ([]) v28), (TExpr.mk v48 v49 v50 v51 v52)]))), (61, iA v69), (65, .agg (TExpr.cs v71)), (67, .agg (TExpr.cs v71))] (AD_callp (d := (some 66)) (al := [.agg (TExpr.cs v71)]) (r := iA v72) (by kernel_rfl) (s_shape_Parts hv72) ⟨(sc_TExpr_cs _ _), trivial⟩ trivial ?_)
                  refine AD_callp (d := (some 68)) (al := [.agg (TExpr.cs v71)]) (r := iA v73) (by kernel_rfl) (s_ref6_Parts hv73) ⟨(sc_TExpr_cs _ _), trivial⟩ trivial ?_
                  refine RD 2 97 [(2, 5), (0, 5)] [(1, iA (w64 (2 + v5))), (2, iA v6), (9, .ptr 2 0), (12, .ptr 4 0), (15, .ptr 5 0), (59, .ro .unk ([v4.1, (TExpr.mk 3 ByteArray.empty ByteArray.empty ([]) v28), (TExpr.mk v48 v49 v50 v51 v52)]).length (TExpr.cl ([v4.1, (TExpr.mk 3 ByteArray.empty ByteArray.empty ([]) v28), (TExpr.mk v48 v49 v50 v51 v52)]))), (60, iA (lI ([v4.1, (TExpr.mk 3 ByteArray.empty ByteArray.empty ([]) v28), (TExpr.mk v48 v49 v50 v51 v52)]))), (61, iA v69), (65, .agg (TExpr.cs v71)), (66, iA v72), (67, .agg (TExpr.cs v71)), (68, iA v73), (69, bA (v72 != v73)), (70, bA (v72 != v73))] ?_
                  cases c1 : (v72 != v73 : Bool) with
                  | true =>
                    refine RD 2 97 [(2, 5), (0, 5)] [(1, iA (w64 (2 + v5))), (2, iA v6), (9, .ptr 2 0), (12, .ptr 4 0), (15, .ptr 5 0), (59, .ro .unk ([v4.1, (TExpr.mk 3 ByteArray.empty ByteArray.empty ([]) v28), (TExpr.mk v48 v49 v50 v51 v52)]).length (TExpr.cl ([v4.1, (TExpr.mk 3 ByteArray.empty ByteArray.empty ([]) v28), (TExpr.mk v48 v49 v50 v51 v52)]))), (60, iA (lI ([v4.1, (TExpr.mk 3 ByteArray.empty ByteArray.empty ([]) v28), (TExpr.mk v48 v49 v50 v51 v52)]))), (61, iA v69), (65, .agg (TExpr.cs v71)), (66, iA v72), (67, .agg (TExpr.cs v71)), (68, iA v73), (69, bA true), (70, bA true), (71, undefA), (73, undefA)] (AD_offB (d := some 72) (by kernel_rfl) ?_)
                    refine AD_offB (d := some 74) (by kernel_rfl) ?_
                    refine RD 2 97 [(2, 5), (0, 5)] [(1, iA (w64 (2 + v5))), (2, iA v6), (9, .ptr 2 0), (12, .ptr 4 0), (15, .ptr 5 0), (59, .ro .unk ([v4.1, (TExpr.mk 3 ByteArray.empty ByteArray.empty ([]) v28), (TExpr.mk v48 v49 v50 v51 v52)]).length (TExpr.cl ([v4.1, (TExpr.mk 3 ByteArray.empty ByteArray.empty ([]) v28), (TExpr.mk v48 v49 v50 v51 v52)]))), (60, iA (lI ([v4.1, (TExpr.mk 3 ByteArray.empty ByteArray.empty ([]) v28), (TExpr.mk v48 v49 v50 v51 v52)]))), (61, iA v69), (65, .agg (TExpr.cs v71)), (66, iA v72), (67, .agg (TExpr.cs v71)), (68, iA v73), (69, bA true), (70, bA true), (71, undefA), (72, undefA), (73, undefA), (74, undefA), (75, undefA), (76, bA (true || (v74 != v75)))] ?_
                    exact AD_here [1, 2, 9, 12, 59, 60, 61, 76] (by kernel_rfl) rfl
                  | false =>
                    refine RD 2 97 [(8, 5), (6, 5), (2, 5), (0, 5)] [(1, iA (w64 (2 + v5))), (2, iA v6), (9, .ptr 2 0), (12, .ptr 4 0), (15, .ptr 5 0), (59, .ro .unk ([v4.1, (TExpr.mk 3 ByteArray.empty ByteArray.empty ([]) v28), (TExpr.mk v48 v49 v50 v51 v52)]).length (TExpr.cl ([v4.1, (TExpr.mk 3 ByteArray.empty ByteArray.empty ([]) v28), (TExpr.mk v48 v49 v50 v51 v52)]))), (60, iA (lI ([v4.1, (TExpr.mk 3 ByteArray.empty ByteArray.empty ([]) v28), (TExpr.mk v48 v49 v50 v51 v52)]))), (61, iA v69), (65, .agg (TExpr.cs v71)), (66, iA v72), (67, .agg (TExpr.cs v71)), (68, iA v73), (69, bA false), (70, bA false), (71, .agg (TExpr.cs v71)), (73, .agg (TExpr.cs v71))] ?_
                    have hv74_ := cond_t hv74 (by simp only [c1] <;> rfl)
                    refine AD_callp (d := (some 72)) (al := [.agg (TExpr.cs v71)]) (r := iA v74) (by kernel_rfl) (s_shape_Expr hG.toGlobT hv74_) ⟨(sc_TExpr_cs _ _), trivial⟩ trivial ?_
                    have hv75_ := cond_t hv75 (by simp only [c1] <;> rfl)
                    refine AD_callp (d := (some 74)) (al := [.agg (TExpr.cs v71)]) (r := iA v75) (by kernel_rfl) (s_ref6_Expr hG.toGlobT hv75_) ⟨(sc_TExpr_cs _ _), trivial⟩ trivial ?_
                    refine RD 2 97 [(8, 5), (6, 5), (2, 5), (0, 5)] [(1, iA (w64 (2 + v5))), (2, iA v6), (9, .ptr 2 0), (12, .ptr 4 0), (15, .ptr 5 0), (59, .ro .unk ([v4.1, (TExpr.mk 3 ByteArray.empty ByteArray.empty ([]) v28), (TExpr.mk v48 v49 v50 v51 v52)]).length (TExpr.cl ([v4.1, (TExpr.mk 3 ByteArray.empty ByteArray.empty ([]) v28), (TExpr.mk v48 v49 v50 v51 v52)]))), (60, iA (lI ([v4.1, (TExpr.mk 3 ByteArray.empty ByteArray.empty ([]) v28), (TExpr.mk v48 v49 v50 v51 v52)]))), (61, iA v69), (65, .agg (TExpr.cs v71)), (66, iA v72), (67, .agg (TExpr.cs v71)), (68, iA v73), (69, bA false), (70, bA false), (71, .agg (TExpr.cs v71)), (72, iA v74), (73, .agg (TExpr.cs v71)), (74, iA v75), (75, bA (v74 != v75)), (76, bA (false || (v74 != v75)))] ?_
                    exact AD_here [1, 2, 9, 12, 59, 60, 61, 76] (by kernel_rfl) rfl
                refine CD H (fun hb76 H => ?_) (fun hb76 H => ?_)
                · refine AWP_reg (Rh 1 97 [(6, bA false)] (AOps_done ?_))
                  exact AWP_ret (FR H)
                · refine AWP_skip ?_
                  show AWP _ _ _ _ _ _ _
                  refine AWP_region ?_
                  refine Rh 2 97 [(1, iA (w64 (2 + v5))), (2, iA v6), (9, .ptr 2 0), (12, .ptr 4 0), (59, .ro .unk ([v4.1, (TExpr.mk 3 ByteArray.empty ByteArray.empty ([]) v28), (TExpr.mk v48 v49 v50 v51 v52)]).length (TExpr.cl ([v4.1, (TExpr.mk 3 ByteArray.empty ByteArray.empty ([]) v28), (TExpr.mk v48 v49 v50 v51 v52)]))), (60, iA (lI ([v4.1, (TExpr.mk 3 ByteArray.empty ByteArray.empty ([]) v28), (TExpr.mk v48 v49 v50 v51 v52)]))), (61, iA (w64 (v69 + 1)))] (AOps_done ?_)
                  exact Exists.intro (w64 (v69 + 1)) (Exists.intro n ⟨by omega, ⟨by omega, H⟩, Norm_fd [1, 2, 9, 12, 59, 60, 61] 1 (by kernel_rfl) rfl rfl ⟨⟨trivial, trivial, trivial, (scl_TValue_cl _ _), (scl_TExpr_cl _ _), trivial⟩, (scl_TExpr_cl _ _), ⟨trivial, trivial, trivial, trivial, (sc_sl rfl), trivial⟩, (sc_TExpr_cs _ _), ⟨(scl_cl_u8 _ _), trivial, trivial⟩, trivial⟩ (by refine scL_fr ?_; exact ⟨trivial, trivial, (sc_ptr rfl), (sc_ptr rfl), (scl_TExpr_cl _ _), trivial, trivial, trivial⟩)⟩)
              · refine AWP_exit ?_
                show AWP _ _ _ _ _ _ _
                refine Norm_go (Norm_forget (st' := fr 97 [(1, iA (w64 (2 + v5))), (2, iA v6), (9, .ptr 2 0), (12, .ptr 4 0), (59, .ro .unk ([v4.1, (TExpr.mk 3 ByteArray.empty ByteArray.empty ([]) v28), (TExpr.mk v48 v49 v50 v51 v52)]).length (TExpr.cl ([v4.1, (TExpr.mk 3 ByteArray.empty ByteArray.empty ([]) v28), (TExpr.mk v48 v49 v50 v51 v52)]))), (60, iA (lI ([v4.1, (TExpr.mk 3 ByteArray.empty ByteArray.empty ([]) v28), (TExpr.mk v48 v49 v50 v51 v52)]))), (61, iA v69), (62, bA (decide (v69 < (lI ([v4.1, (TExpr.mk 3 ByteArray.empty ByteArray.empty ([]) v28), (TExpr.mk v48 v49 v50 v51 v52)])))))]) [1, 2, 9, 12, 59, 60, 61, 62] (by kernel_rfl)) ?_
                refine Norm_go (Norm_cfrz (h' := [.cells 25 [iA v48, sA v49, sA v50, .ro .unk v51.length (TValue.cl v51), .ro .unk v52.length (TExpr.cl v52)], .row 25 (TExpr.cl v28), .cells 25 [iA 3, sA ByteArray.empty, sA ByteArray.empty, .ro .full 0 [], .ro .unk v28.length (TExpr.cl v28)], .cells 25 (TExpr.cs v4.1), .cells 101 (TCodes.cs v38.2)]) 2 rfl (FrzL_cons (Frz_sc trivial) (FrzL_cons (Frz_sc trivial) (FrzL_cons (Frz_sc trivial) (FrzL_cons (Frz_sc trivial) (FrzL_cons (Frz_row (t := 25) (cs := TExpr.cl v28) rfl (scl_TExpr_cl _ _)) (FrzL_nil)))))) rfl rfl) ?_
                refine AWP_reg (Rh 1 97 [(1, iA (w64 (2 + v5))), (2, iA v6), (9, .ptr 2 0), (78, .agg [iA v48, sA v49, sA v50, .ro .unk v51.length (TValue.cl v51), .ro .unk v52.length (TExpr.cl v52)])] ?_)
                obtain ⟨v78, hv78, H⟩ := bind_some H
                refine AOps_callp (d := (some 79)) (al := [.agg [iA v48, sA v49, sA v50, .ro .unk v51.length (TValue.cl v51), .ro .unk v52.length (TExpr.cl v52)]]) (r := iA v78) (by kernel_rfl) (s_shape_Expr hG.toGlobT hv78) ⟨⟨trivial, trivial, trivial, (scl_TValue_cl _ _), (scl_TExpr_cl _ _), trivial⟩, trivial⟩ trivial ?_
                refine Rh 3 97 [(1, iA (w64 (2 + v5))), (9, .ptr 2 0), (80, bA (v78 == 0)), (82, bA (decide (v6 < 10)))] (AOps_beq (d := (some 83)) (p := v78 == 0) (q := decide (v6 < 10)) (by kernel_rfl) ?_)
                refine Rh 1 97 [(1, iA (w64 (2 + v5))), (9, .ptr 2 0), (84, bA ((v78 == 0) == (decide (v6 < 10))))] ?_
                obtain ⟨v79, hv79, H⟩ := bind_some H
                obtain ⟨v80, hv80, H⟩ := bind_some H
                refine AOps_cut 12 (st' := fr 97 [(96, bA (((v78 == 0) == (decide (v6 < 10))) && ((v79 == 0) == ((decide ((w64 (2 + v5)) ≤ 12)) && (decide (v80 ≤ 60))))))]) (h' := [.cells 25 [iA v48, sA v49, sA v50, .ro .unk v51.length (TValue.cl v51), .ro .unk v52.length (TExpr.cl v52)], .row 25 (TExpr.cl v28), .cells 25 [iA 3, sA ByteArray.empty, sA ByteArray.empty, .ro .full 0 [], .ro .unk v28.length (TExpr.cl v28)], .cells 25 (TExpr.cs v4.1), .cells 101 (TCodes.cs v38.2)]) ?_ ?_
                rotate_left
                · cases c1 : ((v78 == 0) == (decide (v6 < 10)) : Bool) with
                  | true =>
                    refine R 1 97 [(1, iA (w64 (2 + v5))), (9, .ptr 2 0), (84, bA true), (85, .agg [iA 3, sA ByteArray.empty, sA ByteArray.empty, .ro .full 0 [], .ro .unk v28.length (TExpr.cl v28)])] [.cells 25 [iA v48, sA v49, sA v50, .ro .unk v51.length (TValue.cl v51), .ro .unk v52.length (TExpr.cl v52)], .row 25 (TExpr.cl v28), .cells 25 [iA 3, sA ByteArray.empty, sA ByteArray.empty, .ro .full 0 [], .ro .unk v28.length (TExpr.cl v28)], .cells 25 (TExpr.cs v4.1), .cells 101 (TCodes.cs v38.2)] ?_
                    have hv79_ := cond_t hv79 (by simp only [c1] <;> rfl)
                    refine AOps_callp (d := (some 86)) (al := [.agg [iA 3, sA ByteArray.empty, sA ByteArray.empty, .ro .full 0 [], .ro .unk v28.length (TExpr.cl v28)]]) (r := iA v79) (by kernel_rfl) (Sp.le (leL_cons (AV.le_agg (leL_cons (AV.le_refl _) (leL_cons (AV.le_refl _) (leL_cons (AV.le_refl _) (leL_cons (AV.le_ro _ _ _) (leL_refl _))))) rfl) (leL_refl _)) (s_shape_Expr hG.toGlobT hv79_)) ⟨⟨trivial, trivial, trivial, trivial, (scl_TExpr_cl _ _), trivial⟩, trivial⟩ trivial ?_
                    refine R 4 97 [(9, .ptr 2 0), (84, bA true), (87, bA (v79 == 0)), (90, bA (decide ((w64 (2 + v5)) ≤ 12)))] [.cells 25 [iA v48, sA v49, sA v50, .ro .unk v51.length (TValue.cl v51), .ro .unk v52.length (TExpr.cl v52)], .row 25 (TExpr.cl v28), .cells 25 [iA 3, sA ByteArray.empty, sA ByteArray.empty, .ro .full 0 [], .ro .unk v28.length (TExpr.cl v28)], .cells 25 (TExpr.cs v4.1), .cells 101 (TCodes.cs v38.2)] ?_
                    cases c2 : (decide ((w64 (2 + v5)) ≤ 12) : Bool) with
                    | true =>
                      refine R 1 97 [(84, bA true), (87, bA (v79 == 0)), (90, bA true), (91, .agg [iA 3, sA ByteArray.empty, sA ByteArray.empty, .ro .full 0 [], .ro .unk v28.length (TExpr.cl v28)])] [.cells 25 [iA v48, sA v49, sA v50, .ro .unk v51.length (TValue.cl v51), .ro .unk v52.length (TExpr.cl v52)], .row 25 (TExpr.cl v28), .cells 25 [iA 3, sA ByteArray.empty, sA ByteArray.empty, .ro .full 0 [], .ro .unk v28.length (TExpr.cl v28)], .cells 25 (TExpr.cs v4.1), .cells 101 (TCodes.cs v38.2)] ?_
                      have hv80_ := cond_t hv80 (by simp only [c1, c2] <;> rfl)
                      refine AOps_callp (d := (some 92)) (al := [.agg [iA 3, sA ByteArray.empty, sA ByteArray.empty, .ro .full 0 [], .ro .unk v28.length (TExpr.cl v28)]]) (r := iA v80) (by kernel_rfl) (Sp.le (leL_cons (AV.le_agg (leL_cons (AV.le_refl _) (leL_cons (AV.le_refl _) (leL_cons (AV.le_refl _) (leL_cons (AV.le_ro _ _ _) (leL_refl _))))) rfl) (leL_refl _)) (s_shape_Parts hv80_)) ⟨⟨trivial, trivial, trivial, trivial, (scl_TExpr_cl _ _), trivial⟩, trivial⟩ trivial ?_
                      refine R 2 97 [(84, bA true), (87, bA (v79 == 0)), (94, bA (true && (decide (v80 ≤ 60))))] [.cells 25 [iA v48, sA v49, sA v50, .ro .unk v51.length (TValue.cl v51), .ro .unk v52.length (TExpr.cl v52)], .row 25 (TExpr.cl v28), .cells 25 [iA 3, sA ByteArray.empty, sA ByteArray.empty, .ro .full 0 [], .ro .unk v28.length (TExpr.cl v28)], .cells 25 (TExpr.cs v4.1), .cells 101 (TCodes.cs v38.2)] (AOps_beq (d := (some 95)) (p := v79 == 0) (q := true && (decide (v80 ≤ 60))) (by kernel_rfl) ?_)
                      refine R 1 97 [(96, bA (true && ((v79 == 0) == (true && (decide (v80 ≤ 60))))))] [.cells 25 [iA v48, sA v49, sA v50, .ro .unk v51.length (TValue.cl v51), .ro .unk v52.length (TExpr.cl v52)], .row 25 (TExpr.cl v28), .cells 25 [iA 3, sA ByteArray.empty, sA ByteArray.empty, .ro .full 0 [], .ro .unk v28.length (TExpr.cl v28)], .cells 25 (TExpr.cs v4.1), .cells 101 (TCodes.cs v38.2)] ?_
                      exact AOps_here [96] (by kernel_rfl) rfl
                    | false =>
                      refine R 4 97 [(84, bA true), (87, bA (v79 == 0)), (94, bA (false && (decide (v80 ≤ 60))))] [.cells 25 [iA v48, sA v49, sA v50, .ro .unk v51.length (TValue.cl v51), .ro .unk v52.length (TExpr.cl v52)], .row 25 (TExpr.cl v28), .cells 25 [iA 3, sA ByteArray.empty, sA ByteArray.empty, .ro .full 0 [], .ro .unk v28.length (TExpr.cl v28)], .cells 25 (TExpr.cs v4.1), .cells 101 (TCodes.cs v38.2)] (AOps_beq (d := (some 95)) (p := v79 == 0) (q := false && (decide (v80 ≤ 60))) (by kernel_rfl) ?_)
                      refine R 1 97 [(96, bA (true && ((v79 == 0) == (false && (decide (v80 ≤ 60))))))] [.cells 25 [iA v48, sA v49, sA v50, .ro .unk v51.length (TValue.cl v51), .ro .unk v52.length (TExpr.cl v52)], .row 25 (TExpr.cl v28), .cells 25 [iA 3, sA ByteArray.empty, sA ByteArray.empty, .ro .full 0 [], .ro .unk v28.length (TExpr.cl v28)], .cells 25 (TExpr.cs v4.1), .cells 101 (TCodes.cs v38.2)] ?_
                      exact AOps_here [96] (by kernel_rfl) rfl
                  | false =>
                    refine R 12 97 [(96, bA (false && ((v79 == 0) == ((decide ((w64 (2 + v5)) ≤ 12)) && (decide (v80 ≤ 60))))))] [.cells 25 [iA v48, sA v49, sA v50, .ro .unk v51.length (TValue.cl v51), .ro .unk v52.length (TExpr.cl v52)], .row 25 (TExpr.cl v28), .cells 25 [iA 3, sA ByteArray.empty, sA ByteArray.empty, .ro .full 0 [], .ro .unk v28.length (TExpr.cl v28)], .cells 25 (TExpr.cs v4.1), .cells 101 (TCodes.cs v38.2)] ?_
                    exact AOps_here [96] (by kernel_rfl) rfl
                refine Rh 1 97 [(6, bA (((v78 == 0) == (decide (v6 < 10))) && ((v79 == 0) == ((decide ((w64 (2 + v5)) ≤ 12)) && (decide (v80 ≤ 60))))))] (AOps_done ?_)
                exact AWP_ret (FR H)
end Go.Proofs.YtjhbobacbaikoaaGreatDoor
/- The law on the number of parts: it gives true. -/
namespace Go.Proofs.YtjhbobacbaikoaaGreatDoor
open Go
set_option linter.unusedVariables false
set_option linter.unusedSimpArgs false
set_option maxRecDepth 100000
/-- A part of the disjunction. -/
def kidQ (e : TExpr) : TExpr := if e.gOp = 3 then .mk 4 ByteArray.empty ByteArray.empty [] [e] else e
theorem kidQ_ex {D P : Nat} {e : TExpr} (h : ExG D P e) : ExG (D + 1) (P + 1) (kidQ e) ∧ (kidQ e).gOp ≠ 3 := by
  unfold kidQ
  split
  · have := ExG.mk' (part_not (k := e)) (by decide) (by decide) (by decide) (fun v hv => by cases hv) (by show 1 ≤ 20; decide) (fun y hy => by
      obtain rfl : y = e := by simpa using hy
      exact h)
    exact ⟨this.le (by omega) (by simp; omega), (by show (4 : Int) ≠ 3; decide)⟩
  · rename_i hne
    exact ⟨h.le (by omega) (by omega), hne⟩
theorem eta (x : TExpr) : TExpr.mk x.gOp x.gKind x.gName x.gValues x.gKids = x := by cases x; rfl
theorem bne_self {a : Int} : (a != a) = false := by simp
section
variable {e : TExpr} {c1 : TCodes} {wide deep : Int} (he : ExG 7 79 e) (hw : 0 ≤ wide ∧ wide < 12) (hd : 0 ≤ deep ∧ deep < 12)
 include he hw hd
theorem parts_end {t : TExpr} (ht : ExG 1 1 t) : Gv (fun n => p_law6_ShapeParts_L3 n (e, c1) wide deep (List.replicate (2 + wide).toNat (kidQ e)) (nots deep.toNat t).gOp (nots deep.toNat t).gKind (nots deep.toNat t).gName (nots deep.toNat t).gValues (nots deep.toNat t).gKids 0) fun r => r = true := by
  generalize hal : TExpr.mk 3 ByteArray.empty ByteArray.empty [] (List.replicate (2 + wide).toNat (kidQ e)) = al
  have hk := kidQ_ex he
  have hkid : ∀ y ∈ al.gKids, y = kidQ e := by
    intro y hy
    rw [← hal] at hy
    exact (List.mem_replicate.1 hy).2
  have hlen : al.gKids.length = (2 + wide).toNat := by rw [← hal]; exact List.length_replicate
  have hbd : al.bd 20 := by
    rw [← hal]
    refine TExpr.bd_iff.2 ⟨(by show 0 ≤ 100; decide), (by show 0 ≤ 100; decide), (by show 0 ≤ 20; decide), fun v hv => (by cases hv), ?_, fun y hy => ?_⟩
    · show (List.replicate _ _).length ≤ 20
      rw [List.length_replicate]; omega
    · rw [(List.mem_replicate.1 hy).2]; exact hk.1.bd
  have hsm := TExpr.bd_sm (by decide) _ hbd
  have hn := nots_ex ht deep.toNat
  have hnsm := TExpr.bd_sm (by decide) _ hn.bd
  have hesm := TExpr.bd_sm (by decide) _ he.bd
  -- the chain
  have hnest : ∃ v, ((v == 0) == decide (deep < 10)) = true ∧ Al fun n => p_shape_Expr n (nots deep.toNat t) = some v := by
    by_cases c : deep < 10
    · refine ⟨0, by rw [decide_eq_true c]; rfl, expr_good _ hn.gd hnsm (by have := hn.dep; omega) (by have := hn.parts; omega)⟩
    · have hne := nots_deep ht deep.toNat 0 0 (by omega) (by omega) (by omega) (by omega) (by omega)
      refine ⟨(walkV (nots deep.toNat t) 0 0).1, ?_, (ex_al _ hnsm).mono fun n h => ?_⟩
      · rw [decide_eq_false c, beq_eq_false_iff_ne.2 hne]; rfl
      · obtain ⟨h1, h2⟩ := h 0 0 (by omega) (by omega) (by omega) (by omega)
        unfold p_shape_Expr
        rw [h1]; rfl
  -- the disjunction
  have hall : ∃ v, ((v == 0) == (decide (wide + 2 ≤ 12) && decide (cap61 al.parts ≤ 60))) = true ∧ Al fun n => p_shape_Expr n al = some v := by
    by_cases c : wide + 2 ≤ 12
    · have hp : Al fun n => p_shape_part n al 0 = some 0 := by
        rw [← hal]
        refine part_and (.inr rfl) (by rw [List.length_replicate]; omega) (by rw [List.length_replicate]; omega) fun k hkk => ?_
        rw [(List.mem_replicate.1 hkk).2]; exact hk.2
      have hg : al.gd := by
        rw [← hal] at hp ⊢
        rw [TExpr.gd]
        exact ⟨hp, gdL_iff.2 fun y hy => by rw [(List.mem_replicate.1 hy).2]; exact hk.1.gd⟩
      have hdp : al.dep ≤ 10 := by
        rw [← hal, TExpr.dep]
        have := depL_le (D := 8) (l := List.replicate (2 + wide).toNat (kidQ e)) fun y hy => by rw [(List.mem_replicate.1 hy).2]; exact hk.1.dep
        omega
      refine ⟨_, ?_, expr_gen al hg hsm hdp⟩
      rw [decide_eq_true c, Bool.true_and]
      by_cases cp : (al.parts : Int) ≤ 60
      · rw [if_pos cp, cap61_le cp, decide_eq_true cp]; rfl
      · rw [if_neg cp, cap61_gt (by omega)]; rfl
    · have hp : Al fun n => p_shape_part n al 0 = some 5 := by
        refine .of fun n => ?_
        have e1 : decide (lI al.gKids > 12) = true := decide_eq_true (by unfold lI; rw [hlen]; omega)
        have e2 : p_shape_shape n al = some true := by
          have e : decide (lI al.gKids < 2) = false := decide_eq_false (by unfold lI; omega)
          subst hal
          unfold p_shape_shape p_shape_shape_K1 p_shape_test
          rw [e]
          refine Eq.trans ?_ (rfl : some true = some true)
          kernel_rfl
        unfold p_shape_part
        rw [e1, e2]
        subst hal
        refine Eq.trans ?_ (rfl : some (5 : Int) = some 5)
        kernel_rfl
      have hpv : pv al ≠ 0 := by
        obtain ⟨n, h1, h2⟩ := ((pv_al al hsm).and hp).get
        have := h1.1 0
        rw [h2, if_neg (by decide)] at this
        rw [← Option.some.inj this]; decide
      obtain ⟨v, hv, hva⟩ := expr_part_err al hsm hpv
      exact ⟨v, by rw [decide_eq_false c, Bool.false_and, beq_eq_false_iff_ne.2 hv]; rfl, hva⟩
  obtain ⟨vn, hvn, hvna⟩ := hnest
  obtain ⟨va, hva, hvaa⟩ := hall
  have hpa := parts_bi al hsm
  have ew : w64 (2 + wide) = wide + 2 := by rw [w64_of (by omega) (by omega)]; omega
  have hsm3 : ∀ y ∈ [e, al, nots deep.toNat t], y.sm := by
    intro y hy
    have : y = e ∨ y = al ∨ y = nots deep.toNat t := by simpa using hy
    rcases this with rfl | rfl | rfl
    · exact hesm
    · exact hsm
    · exact hnsm
  have loop : Al fun n => p_law6_ShapeParts_L3 n (e, c1) wide deep (List.replicate (2 + wide).toNat (kidQ e)) (nots deep.toNat t).gOp (nots deep.toNat t).gKind (nots deep.toNat t).gName (nots deep.toNat t).gValues (nots deep.toNat t).gKids ((0 : Nat) : Int) = some true := by
    refine loop1 (fun n i => p_law6_ShapeParts_L3 n (e, c1) wide deep (List.replicate (2 + wide).toNat (kidQ e)) (nots deep.toNat t).gOp (nots deep.toNat t).gKind (nots deep.toNat t).gName (nots deep.toNat t).gValues (nots deep.toNat t).gKids i) 3 (fun _ => true) (fun i hi => ?_) ?_ 0 (by omega)
    · have hil : i < [e, al, nots deep.toNat t].length := hi
      obtain ⟨x, hx⟩ := expr_bi _ (hsm3 _ (List.getElem_mem hil))
      refine ((parts_bi _ (hsm3 _ (List.getElem_mem hil))).and hx).mono fun n ⟨⟨a1, a2⟩, a3, a4⟩ => .inr ⟨?_, rfl⟩
      rw [p_law6_ShapeParts_L3]
      simp only [hal, eta, lI_in hil, cond_true, rdO_nat hil, Option.bind_some, a1, a2, a3, a4, bne_self, Bool.not_false, Bool.or_false, cond_false, w64_add (show i + 1 < 9223372036854775808 by omega)]
    · refine (hvna.and (hvaa.and hpa)).mono fun n ⟨a1, a2, a3, a4⟩ => ?_
      have h3 : decide (((3 : Nat) : Int) < lI [e, al, nots deep.toNat t]) = false := rfl
      rw [p_law6_ShapeParts_L3]
      simp only [hal, eta, h3, cond_false, Option.bind_some, a1, a2, a3, hvn, cond_true, ew, Bool.true_and]
      cases c : decide (wide + 2 ≤ 12) with
      | true =>
        simp only [cond_true, Option.bind_some, Bool.true_and]
        rw [c, Bool.true_and] at hva
        rw [hva]
      | false =>
        simp only [cond_false, Option.bind_some, Bool.false_and]
        rw [c, Bool.false_and] at hva
        rw [hva]
  exact Gv.al loop rfl
theorem parts_L2 : ∀ (q i : Nat) (t : TExpr), (i : Int) + q = deep → ExG 1 1 t → Gv (fun n => p_law6_ShapeParts_L2 n (e, c1) wide deep (List.replicate (2 + wide).toNat (kidQ e)) i (nots i t).gOp (nots i t).gKind (nots i t).gName (nots i t).gValues (nots i t).gKids) fun r => r = true := by
  intro q
  induction q with
  | zero =>
    intro i t hi ht
    refine Gv.succ ?_
    simp only [p_law6_ShapeParts_L2]
    rw [decide_eq_false (show ¬ (i : Int) < deep by omega)]
    obtain rfl : i = deep.toNat := by omega
    exact parts_end he hw hd ht
  | succ q ih =>
    intro i t hi ht
    refine Gv.succ ?_
    simp only [p_law6_ShapeParts_L2]
    rw [decide_eq_true (show (i : Int) < deep by omega), w64_add (by omega), eta]
    exact ih (i + 1) t (by omega) ht
theorem parts_L1 (hc : c1.cok) : ∀ (q i : Nat), (i : Int) + q = 2 + wide → Gv (fun n => p_law6_ShapeParts_L1 n (e, c1) wide deep i (List.replicate i (kidQ e))) fun r => r = true := by
  intro q
  have ew : w64 (2 + wide) = 2 + wide := w64_of (by omega) (by omega)
  induction q with
  | zero =>
    intro i hi
    refine Gv.succ ?_
    simp only [p_law6_ShapeParts_L1]
    rw [ew, decide_eq_false (show ¬ (i : Int) < 2 + wide by omega)]
    refine Gv.bind (test_gv hc) fun v hv => ?_
    have := parts_L2 (c1 := c1) he hw hd deep.toNat 0 v.1 (by omega) (testG_ex hv.1)
    obtain rfl : i = (2 + wide).toNat := by omega
    exact this
  | succ q ih =>
    intro i hi
    refine Gv.succ ?_
    simp only [p_law6_ShapeParts_L1]
    rw [ew, decide_eq_true (show (i : Int) < 2 + wide by omega)]
    simp only [cond_true]
    have step : ∀ (op : Int) (k nm : ByteArray) (vs : List TValue) (ks : List TExpr), TExpr.mk op k nm vs ks = kidQ e → Gv (fun n => p_law6_ShapeParts_K1 n (e, c1) wide deep i (List.replicate i (kidQ e)) op k nm vs ks) fun r => r = true := by
      intro op k nm vs ks hx
      refine Gv.succ ?_
      simp only [p_law6_ShapeParts_K1]
      rw [hx]
      refine Gv.bind (Gv.app (Q := fun m => m = List.replicate (i + 1) (kidQ e)) (by simp; omega) (by decide) (List.replicate_succ' ..).symm) ?_
      rintro m rfl
      rw [w64_add (by omega)]
      exact ih (i + 1) (by omega)
    refine Gv.cond (fun h => ?_) fun h => ?_
    · refine step 4 _ _ _ _ ?_
      unfold kidQ
      rw [if_pos (beq_iff_eq.1 h)]
    · refine step _ _ _ _ _ ?_
      unfold kidQ
      rw [if_neg (beq_eq_false_iff_ne.1 h), eta]
end
theorem parts_law (codes : List Int) (wide deep : Int) (hc : ∀ b ∈ codes, 0 ≤ b ∧ b ≤ 255) (hl : codes.length < 4294967281) : Al fun n => p_law6_ShapeParts n codes wide deep = some true := by
  have key : Gv (fun n => p_law6_ShapeParts n codes wide deep) fun r => r = true := by
    unfold p_law6_ShapeParts
    refine Gv.bind (Gv.al (Q := fun r => r = true) awake_al rfl) ?_
    rintro r rfl
    simp only [Bool.not_true, cond_false]
    refine Gv.bind (new_gv codes hc hl 120 (by decide) (by decide)) fun c hc => ?_
    refine Gv.bind (expr_gv [] ⟨by decide, fun s hs => by cases hs⟩ 3 c (by decide) hc) fun v4 h4 => ?_
    refine Gv.bind (mod_gv wide (k := 12) (by decide) (by decide)) fun v5 h5 => ?_
    refine Gv.bind (mod_gv deep (k := 12) (by decide) (by decide)) fun v6 h6 => ?_
    have he : ExG 7 79 v4.1 := h4.1.le (by decide) (by decide)
    exact parts_L1 he h5 h6 h4.2 (2 + v5).toNat 0 (by omega)
  obtain ⟨r, rfl, h⟩ := key
  exact h
end Go.Proofs.YtjhbobacbaikoaaGreatDoor
/- Flagstone's law ShapeParts holds for every input of bulk at most 1048576: the call returns true, and its arguments read behind it as before. The condition: the listed package variables hold what their initialisers lay. -/
namespace Go.Proofs.YtjhbobacbaikoaaGreatDoor
open Go Go.ChangeShapes Go.WideShapes Go.RowKit
set_option linter.unusedVariables false
set_option maxRecDepth 100000
theorem ownNone : ownKnob Tryz.prog.godebug = none := by kernel_rfl
theorem laidOutT : laidOutB Tryz.prog = true := by kernel_rfl
theorem shapeParts_contract (H : Type) (enc : TypeId × Value → H) (W : World) (base : Nat) (args : Array Value) (ds gs : List (DataW H)) (before : List MemPlace)
    (hval : ∀ (j : Nat) t v, Tryz.f9.params[j]? = some t → args[j]? = some v → Value.okWide Tryz.prog W .any base t v)
    (hW : DataW.Whole enc Tryz.prog Tryz.f9.params.toList Rows.shapePartsSpec.vars false W args.toList ds gs before) (hfit : ∀ d ∈ ds, fitU d) (hL : laidMetH Tryz.prog Rows.shapePartsUptoRow.laid W) :
    Calls Tryz.prog 9 args W fun e W' => ∃ v, e = .returned v ∧ Rows.shapePartsSpec.post enc Tryz.prog Tryz.f9 false true false false W args v W' := by
  have hW' := hW
  obtain ⟨p, q, hA, hV, rfl, hfz, hnd⟩ := hW
  obtain ⟨rfl, rfl⟩ := trodVars_none hV
  have hA0 : DataW.TrodAll enc Tryz.prog W 0 (fun _ => true) true [26, 3, 3] args.toList ds p := hA
  obtain ⟨v0, v1, v2, d0, d1, d2, p0, p1, p2, rfl, rfl, hp, ⟨n0, h0⟩, ⟨n1, h1⟩, ⟨n2, h2⟩⟩ := trodAll_three hA0
  obtain ⟨x0, r0, o0⟩ := (Rd_slice (sz := 1) eq_cl_u8 fitU_ok Tryz.underlying26 (by kernel_rfl) (by decide) (fun _ => rfl) (fun m _ => (Rd_u8 Tryz.underlying5))) _ _ h0 (hfit _ (by simp))
  obtain ⟨x1, r1, o1⟩ := (Rd_intR Tryz.underlying3) _ _ h1 (hfit _ (by simp))
  obtain ⟨x2, r2, o2⟩ := (Rd_intR Tryz.underlying3) _ _ h2 (hfit _ (by simp))
  have hB : 1048576 < 4294967281 := by decide
  obtain ⟨n, law⟩ := Al.get (parts_law x0 x1 x2 o0.2 (by have := o0.1; omega))
  obtain ⟨E, hE, hG⟩ := laid_envD (i0 := 5) (i1 := 6) (i2 := 4) (i3 := 10) (i4 := 11) (i5 := 3) (i8 := 8) (i9 := 7) (i10 := 2) hL (by kernel_rfl) rfl rfl rfl rfl rfl rfl rfl rfl rfl
  have a0 := slice_rel Tryz.underlying26 (hval 0 26 v0 rfl rfl) r0
  have a1 := int_rel Tryz.underlying3 (hval 1 3 v1 rfl rfl) r1
  have a2 := int_rel Tryz.underlying3 (hval 2 3 v2 rfl rfl) r2
  refine (s_law6_ShapeParts hG law _ W #[v0, v1, v2] hE (ok0 W) ⟨_, _, rfl, a0, ⟨_, _, rfl, a1, ⟨_, _, rfl, a2, rfl⟩⟩⟩).mono fun e W' h => ?_
  obtain ⟨r, h', μ', u, rfl, ⟨rfl, rfl⟩, _, hu, tt⟩ := h
  have hu : u = .bool true := hu
  subst hu
  have bel := to_below tt
  simp only [List.append_nil] at hW'
  have hlt : ∀ x ∈ p, x.block < W.heap.size := fun x hx => by simpa using hW'.lt x hx
  exact ⟨_, rfl, ⟨_, _, _, [], p, [], hW', trodAll_mk1 (shut_bool Tryz.underlying4 _), trodAll_stays laidOutT bel (by kernel_rfl) hA hlt (fun x hx => decide_eq_true (hlt x hx)), rfl, bel.frame _, fun h => by cases h⟩⟩
end Go.Proofs.YtjhbobacbaikoaaGreatDoor
