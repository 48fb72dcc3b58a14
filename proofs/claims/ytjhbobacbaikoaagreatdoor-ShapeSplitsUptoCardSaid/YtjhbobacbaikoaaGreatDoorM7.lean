/- A function of the program as a pure function, and that the program computes it. -/
import Derived.Test.YtjhbobacbaikoaaGreatDoorM4
import Derived.Test.YtjhbobacbaikoaaGreatDoorM6
namespace Go.Proofs.YtjhbobacbaikoaaGreatDoor
open Go
set_option linter.unusedVariables false
set_option linter.unusedSimpArgs false
set_option maxRecDepth 100000
def p_shape_Environment_2 (n : Nat) (x0 : TFlag) : Option ByteArray :=
 some (x0.gKey)
variable {E : Env}
theorem s_shape_Environment_2 {n : Nat} {x0 : TFlag} {r : ByteArray} (H : p_shape_Environment_2 n x0 = some r) :
    Sp Tryz.prog E 92 [.agg (TFlag.cs x0)] [] (isA (sA r) []) := by
  unfold p_shape_Environment_2 at H
  refine Sp_fn Tryz.func92 rfl (fun hc hs => ?_)
  refine AWP_reg (R 2 5 [(1, .ptr 0 0)] [.cells 65 (TFlag.cs x0)] (AOps_done (AWP_reg (Rh 3 5 [(2, sA x0.gKey)] (AOps_done ?_)))))
  exact AWP_ret (FR H)
end Go.Proofs.YtjhbobacbaikoaaGreatDoor
/- A function of the program as a pure function, and that the program computes it. -/
namespace Go.Proofs.YtjhbobacbaikoaaGreatDoor
open Go
set_option linter.unusedVariables false
set_option linter.unusedSimpArgs false
set_option maxRecDepth 100000
def p_shape_Environment_3 (n : Nat) (x0 : TLayer) : Option ByteArray :=
 some (x0.gKey)
variable {E : Env}
theorem s_shape_Environment_3 {n : Nat} {x0 : TLayer} {r : ByteArray} (H : p_shape_Environment_3 n x0 = some r) :
    Sp Tryz.prog E 94 [.agg (TLayer.cs x0)] [] (isA (sA r) []) := by
  unfold p_shape_Environment_3 at H
  refine Sp_fn Tryz.func94 rfl (fun hc hs => ?_)
  refine AWP_reg (R 2 5 [(1, .ptr 0 0)] [.cells 74 (TLayer.cs x0)] (AOps_done (AWP_reg (Rh 3 5 [(2, sA x0.gKey)] (AOps_done ?_)))))
  exact AWP_ret (FR H)
end Go.Proofs.YtjhbobacbaikoaaGreatDoor
/- A function of the program as a pure function, and that the program computes it. -/
namespace Go.Proofs.YtjhbobacbaikoaaGreatDoor
open Go
set_option linter.unusedVariables false
set_option linter.unusedSimpArgs false
set_option maxRecDepth 100000
def p_shape_Environment_4 (n : Nat) (x0 : TExperiment) : Option ByteArray :=
 some (x0.gKey)
variable {E : Env}
theorem s_shape_Environment_4 {n : Nat} {x0 : TExperiment} {r : ByteArray} (H : p_shape_Environment_4 n x0 = some r) :
    Sp Tryz.prog E 96 [.agg (TExperiment.cs x0)] [] (isA (sA r) []) := by
  unfold p_shape_Environment_4 at H
  refine Sp_fn Tryz.func96 rfl (fun hc hs => ?_)
  refine AWP_reg (R 2 5 [(1, .ptr 0 0)] [.cells 42 (TExperiment.cs x0)] (AOps_done (AWP_reg (Rh 3 5 [(2, sA x0.gKey)] (AOps_done ?_)))))
  exact AWP_ret (FR H)
end Go.Proofs.YtjhbobacbaikoaaGreatDoor
/- A function of the program as a pure function, and that the program computes it. -/
namespace Go.Proofs.YtjhbobacbaikoaaGreatDoor
open Go
set_option linter.unusedVariables false
set_option linter.unusedSimpArgs false
set_option maxRecDepth 100000
def p_cmp_Or_int_L1 (n : Nat) (x0 : List Int) (v8 : Int) : Option Int := match n with
| 0 => none
| n + 1 =>
(bif decide (v8 < (lI x0)) then
(rdO x0 v8).bind fun v10 =>
(bif v10 != 0 then
 some (v10)
 else
 p_cmp_Or_int_L1 n x0 (w64 (v8 + 1)))
 else
 some (0))
def p_cmp_Or_int (n : Nat) (x0 : List Int) : Option Int :=
 p_cmp_Or_int_L1 n x0 0
variable {E : Env}
theorem s_cmp_Or_int {n : Nat} {x0 : List Int} {r : Int} (H : p_cmp_Or_int n x0 = some r) :
    Sp Tryz.prog E 121 [.ro .unk x0.length (cl_i64 x0)] [] (isA (iA r) []) := by
  unfold p_cmp_Or_int at H
  refine Sp_fn Tryz.func121 rfl (fun hc hs => ?_)
  refine AWP_reg (Rh 1 18 [(0, .ro .unk x0.length (cl_i64 x0))] (AOps_done (AWP_reg (Rh 1 18 [(0, .ro .unk x0.length (cl_i64 x0)), (3, iA 0)] (AOps_done (AWP_seq (AWP_reg (Rh 3 18 [(3, iA 0), (6, .ro .unk x0.length (cl_i64 x0)), (7, iA (lI x0)), (8, iA 0)] ?_))))))))
  refine AOps_done (AWP_block ?_)
  refine AWP_loopN (α := Int) (fun v8 => fr 18 [(3, iA 0), (6, .ro .unk x0.length (cl_i64 x0)), (7, iA (lI x0)), (8, iA v8)]) (fun v8 => []) (fun k_ v8 => k_ ≤ n ∧ p_cmp_Or_int_L1 k_ x0 v8 = some r) (fun n v8 H => ?_) (k := n) 0 ⟨Nat.le_refl _, H⟩ (Norm_fd [3, 6, 7, 8] 0 (by kernel_rfl) rfl rfl trivial (by refine scL_fr ?_; exact ⟨trivial, (scl_cl_i64 _ _), trivial, trivial, trivial⟩))
  show AWP _ _ _ _ _ (fr 18 [(3, iA 0), (6, .ro .unk x0.length (cl_i64 x0)), (7, iA (lI x0)), (8, iA v8)]) []
  obtain ⟨hb_, H⟩ := H
  replace H : p_cmp_Or_int_L1 n x0 v8 = some r := H
  cases n with
  | zero => exact not_none (by simpa only [p_cmp_Or_int_L1] using H)
  | succ n =>
    unfold p_cmp_Or_int_L1 at H
    refine AWP_reg (Rh 1 18 [(3, iA 0), (6, .ro .unk x0.length (cl_i64 x0)), (7, iA (lI x0)), (8, iA v8), (9, bA (decide (v8 < (lI x0))))] (AOps_done (AWP_seq (CD H (fun hb9 H => ?_) (fun hb9 H => ?_)))))
    · refine AWP_skip ?_
      show AWP _ _ _ _ _ _ _
      refine AWP_seq (AWP_block ?_)
      refine AWP_reg ?_
      obtain ⟨v10, hv10, H⟩ := bind_some H
      refine AOps_index (d := (some 10)) (sz := 1) (c := cs_i64) (by kernel_rfl) rfl (eq_cl_i64 _) (fun _ => rfl) (by decide) hv10 (fun tl10 => ?_)
      refine Rh 2 18 [(3, iA 0), (5, iA v10), (6, .ro .unk x0.length (cl_i64 x0)), (7, iA (lI x0)), (8, iA v8)] (AOps_done (AWP_reg (Rh 3 18 [(3, iA 0), (5, iA v10), (6, .ro .unk x0.length (cl_i64 x0)), (7, iA (lI x0)), (8, iA v8), (14, bA (v10 != 0))] (AOps_done (CD H (fun hb11 H => ?_) (fun hb11 H => ?_))))))
      · refine AWP_reg (Rh 2 18 [(2, iA v10)] (AOps_done ?_))
        exact AWP_ret (FR H)
      · refine AWP_skip ?_
        show AWP _ _ _ _ _ _ _
        refine AWP_region ?_
        refine Rh 2 18 [(3, iA 0), (6, .ro .unk x0.length (cl_i64 x0)), (7, iA (lI x0)), (8, iA (w64 (v8 + 1)))] (AOps_done ?_)
        exact Exists.intro (w64 (v8 + 1)) (Exists.intro n ⟨by omega, ⟨by omega, H⟩, Norm_fd [3, 6, 7, 8] 0 (by kernel_rfl) rfl rfl trivial (by refine scL_fr ?_; exact ⟨trivial, (scl_cl_i64 _ _), trivial, trivial, trivial⟩)⟩)
    · refine AWP_exit ?_
      show AWP _ _ _ _ _ _ _
      refine AWP_reg (Rh 2 18 [(2, iA 0)] (AOps_done ?_))
      exact AWP_ret (FR H)
end Go.Proofs.YtjhbobacbaikoaaGreatDoor
/- A function of the program as a pure function, and that the program computes it. -/
namespace Go.Proofs.YtjhbobacbaikoaaGreatDoor
open Go
set_option linter.unusedVariables false
set_option linter.unusedSimpArgs false
set_option maxRecDepth 100000
def p_text_Key_L2 (n : Nat) (x0 : ByteArray) (v10 : (List ByteArray)) (v18 : Int) : Option Bool := match n with
| 0 => none
| n + 1 =>
(bif decide (v18 < (lI v10)) then
(rdO v10 v18).bind fun v20 =>
(bif seq' v20 x0 then
 some (false)
 else
 p_text_Key_L2 n x0 v10 (w64 (v18 + 1)))
 else
 some (true))
def p_text_Key_L1 (n : Nat) (x0 : ByteArray) (v7 : Nat) : Option Bool := match n with
| 0 => none
| n + 1 =>
(bif decide (v7 < x0.size) then
(bif (!((decide ((decR x0 v7) ≥ 97)) && (decide ((decR x0 v7) ≤ 122)))) && ((((v7 : Nat) : Int) == 0) || ((((decide ((decR x0 v7) < 48)) || (decide ((decR x0 v7) > 57))) && ((decR x0 v7) != 45)) && ((decR x0 v7) != 95))) then
 some (false)
 else
 p_text_Key_L1 n x0 (v7 + decW x0 v7))
 else
(p_strings_Fields n (⟨#[97, 110, 100, 32, 97, 114, 109, 115, 32, 97, 116, 116, 114, 105, 98, 117, 116, 101, 32, 98, 111, 111, 108, 32, 99, 108, 97, 105, 109, 115, 32, 99, 111, 110, 116, 97, 105, 110, 115, 32, 99, 111, 111, 108, 32, 99, 111, 111, 108, 105, 110, 103, 32, 100, 101, 102, 97, 117, 108, 116, 32, 100, 114, 97, 102, 116, 32, 101, 110, 100, 115, 32, 101, 120, 99, 108, 117, 100, 101, 32, 101, 120, 105, 115, 116, 115, 32, 101, 120, 112, 101, 114, 105, 109, 101, 110, 116, 32, 102, 97, 108, 115, 101, 32, 102, 108, 97, 103, 32, 104, 111, 108, 100, 111, 117, 116, 32, 105, 110, 32, 105, 110, 99, 108, 117, 100, 101, 32, 105, 115, 32, 108, 97, 121, 101, 114, 32, 108, 105, 115, 116, 32, 109, 101, 109, 98, 101, 114, 32, 110, 101, 101, 100, 115, 32, 110, 111, 116, 32, 110, 117, 109, 98, 101, 114, 32, 111, 102, 102, 32, 111, 110, 32, 111, 114, 32, 114, 117, 108, 101, 32, 114, 117, 110, 110, 105, 110, 103, 32, 115, 97, 108, 116, 32, 115, 101, 103, 109, 101, 110, 116, 32, 115, 101, 114, 118, 101, 32, 115, 101, 116, 116, 105, 110, 103, 115, 32, 115, 112, 108, 105, 116, 32, 115, 116, 97, 114, 116, 115, 32, 115, 116, 111, 112, 112, 101, 100, 32, 116, 97, 114, 103, 101, 116, 32, 116, 101, 120, 116, 32, 116, 111, 32, 116, 114, 117, 101, 32, 117, 110, 116, 105, 108, 32, 118, 97, 114, 105, 97, 116, 105, 111, 110, 115, 32, 118, 101, 114, 115, 105, 111, 110, 32, 119, 104, 101, 110]⟩ : ByteArray)).bind fun v10 =>
 p_text_Key_L2 n x0 v10 0)
def p_text_Key (n : Nat) (x0 : ByteArray) : Option Bool :=
(bif (decide ((szI x0) < 1)) || (decide ((szI x0) > 32)) then
 some (false)
 else
 p_text_Key_L1 n x0 0)
variable {E : Env}
theorem s_text_Key {n : Nat} (hG : GlobT E) {x0 : ByteArray} {r : Bool} (H : p_text_Key n x0 = some r) :
    Sp Tryz.prog E 65 [sA x0] [] (isA (bA r) []) := by
  unfold p_text_Key at H
  refine Sp_fn Tryz.func65 rfl (fun hc hs => ?_)
  refine AWP_reg (Rh 1 60 [(0, sA x0)] (AOps_done (AWP_seq (AWP_reg (Rh 4 60 [(0, sA x0), (11, bA (decide ((szI x0) < 1)))] (AOps_run 4 [0, 15] (st' := fr 60 [(0, sA x0), (15, bA ((decide ((szI x0) < 1)) || (decide ((szI x0) > 32))))]) (h' := []) (by (generalize (decide ((szI x0) < 1)) = t0; cases t0 <;> kernel_rfl)) ?_))))))
  refine AOps_done (CD H (fun hb1 H => ?_) (fun hb1 H => ?_))
  · refine AWP_reg (Rh 1 60 [(2, bA false)] (AOps_done ?_))
    exact AWP_ret (FR H)
  · refine AWP_skip ?_
    show AWP _ _ _ _ _ _ _
    refine AWP_seq (AWP_reg (Rh 1 60 [(0, sA x0), (16, sA x0)] (AOps_range (d := (some 17)) (s := x0) (by kernel_rfl) ?_)))
    refine AOps_done (AWP_block ?_)
    refine AWP_loopN (α := Nat) (fun v7 => fr 60 [(0, sA x0), (17, .ptr 0 0)]) (fun v7 => [.iter x0 v7]) (fun k_ v7 => k_ ≤ n ∧ p_text_Key_L1 k_ x0 v7 = some r) (fun n v7 H => ?_) (k := n) 0 ⟨Nat.le_refl _, H⟩ (Norm_fd [0, 17] 0 (by kernel_rfl) rfl rfl ⟨trivial, trivial⟩ (by refine scL_fr ?_; exact ⟨trivial, (sc_ptr rfl), trivial⟩))
    show AWP _ _ _ _ _ (fr 60 [(0, sA x0), (17, .ptr 0 0)]) [.iter x0 v7]
    obtain ⟨hb_, H⟩ := H
    replace H : p_text_Key_L1 n x0 v7 = some r := H
    cases n with
    | zero => exact not_none (by simpa only [p_text_Key_L1] using H)
    | succ n =>
      unfold p_text_Key_L1 at H
      refine AWP_reg ?_
      cases hb8 : decide (v7 < x0.size) with
      | true =>
        replace H := cond_t H hb8
        refine AOps_next (d := some 18) (id := 0) (s := x0) (p := v7) (by kernel_rfl) (of_decide_eq_true hb8) (h' := [.iter x0 (v7 + decW x0 v7)]) rfl ?_
        refine Rh 1 60 [(0, sA x0), (17, .ptr 0 0), (18, .tup [bA true, iA ((v7 : Nat) : Int), iK .i32 (decR x0 v7)]), (19, bA true)] (AOps_done (AWP_seq (AWP_cond (t := true) (by kernel_rfl) (fun hb => ?_) (fun hb => ?_))))
        · refine AWP_skip ?_
          show AWP _ _ _ _ _ _ _
          refine AWP_block ?_
          refine AWP_reg (Rh 4 60 [(0, sA x0), (3, iA ((v7 : Nat) : Int)), (4, iK .i32 (decR x0 v7)), (17, .ptr 0 0)] (AOps_done (AWP_reg (Rh 3 60 [(0, sA x0), (3, iA ((v7 : Nat) : Int)), (4, iK .i32 (decR x0 v7)), (17, .ptr 0 0), (24, bA (decide ((decR x0 v7) ≥ 97)))] (AOps_run 3 [0, 3, 4, 17, 27] (st' := fr 60 [(0, sA x0), (3, iA ((v7 : Nat) : Int)), (4, iK .i32 (decR x0 v7)), (17, .ptr 0 0), (27, bA ((decide ((decR x0 v7) ≥ 97)) && (decide ((decR x0 v7) ≤ 122))))]) (h' := [.iter x0 (v7 + decW x0 v7)]) (by (generalize (decide ((decR x0 v7) ≥ 97)) = t0; cases t0 <;> kernel_rfl)) ?_)))))
          refine Rh 1 60 [(0, sA x0), (3, iA ((v7 : Nat) : Int)), (4, iK .i32 (decR x0 v7)), (5, bA ((decide ((decR x0 v7) ≥ 97)) && (decide ((decR x0 v7) ≤ 122)))), (17, .ptr 0 0)] (AOps_done (AWP_reg (Rh 3 60 [(0, sA x0), (3, iA ((v7 : Nat) : Int)), (4, iK .i32 (decR x0 v7)), (17, .ptr 0 0), (30, bA (!((decide ((decR x0 v7) ≥ 97)) && (decide ((decR x0 v7) ≤ 122)))))] (AOps_cut 19 (st' := fr 60 [(0, sA x0), (17, .ptr 0 0), (49, bA ((!((decide ((decR x0 v7) ≥ 97)) && (decide ((decR x0 v7) ≤ 122)))) && ((((v7 : Nat) : Int) == 0) || ((((decide ((decR x0 v7) < 48)) || (decide ((decR x0 v7) > 57))) && ((decR x0 v7) != 45)) && ((decR x0 v7) != 95)))))]) (h' := [.iter x0 (v7 + decW x0 v7)]) ?_ ?_))))
          rotate_left
          · cases c1 : ((decide ((decR x0 v7) ≥ 97)) && (decide ((decR x0 v7) ≤ 122)) : Bool) with
            | true =>
              refine R 19 60 [(0, sA x0), (17, .ptr 0 0), (49, bA ((!true) && ((((v7 : Nat) : Int) == 0) || ((((decide ((decR x0 v7) < 48)) || (decide ((decR x0 v7) > 57))) && ((decR x0 v7) != 45)) && ((decR x0 v7) != 95)))))] [.iter x0 (v7 + decW x0 v7)] ?_
              exact AOps_here [0, 17, 49] (by kernel_rfl) rfl
            | false =>
              refine R 3 60 [(0, sA x0), (4, iK .i32 (decR x0 v7)), (17, .ptr 0 0), (30, bA (!false)), (33, bA (((v7 : Nat) : Int) == 0))] [.iter x0 (v7 + decW x0 v7)] ?_
              cases c2 : (((v7 : Nat) : Int) == 0 : Bool) with
              | true =>
                refine R 16 60 [(0, sA x0), (17, .ptr 0 0), (49, bA ((!false) && (true || ((((decide ((decR x0 v7) < 48)) || (decide ((decR x0 v7) > 57))) && ((decR x0 v7) != 45)) && ((decR x0 v7) != 95)))))] [.iter x0 (v7 + decW x0 v7)] ?_
                exact AOps_here [0, 17, 49] (by kernel_rfl) rfl
              | false =>
                refine R 3 60 [(0, sA x0), (4, iK .i32 (decR x0 v7)), (17, .ptr 0 0), (30, bA (!false)), (33, bA false), (36, bA (decide ((decR x0 v7) < 48)))] [.iter x0 (v7 + decW x0 v7)] ?_
                cases c3 : (decide ((decR x0 v7) < 48) : Bool) with
                | true =>
                  refine R 8 60 [(0, sA x0), (4, iK .i32 (decR x0 v7)), (17, .ptr 0 0), (30, bA (!false)), (33, bA false), (44, bA ((true || (decide ((decR x0 v7) > 57))) && ((decR x0 v7) != 45)))] [.iter x0 (v7 + decW x0 v7)] ?_
                  cases c4 : ((decR x0 v7) != 45 : Bool) with
                  | true =>
                    refine R 5 60 [(0, sA x0), (17, .ptr 0 0), (49, bA ((!false) && (false || (((true || (decide ((decR x0 v7) > 57))) && true) && ((decR x0 v7) != 95)))))] [.iter x0 (v7 + decW x0 v7)] ?_
                    exact AOps_here [0, 17, 49] (by kernel_rfl) rfl
                  | false =>
                    refine R 5 60 [(0, sA x0), (17, .ptr 0 0), (49, bA ((!false) && (false || (((true || (decide ((decR x0 v7) > 57))) && false) && ((decR x0 v7) != 95)))))] [.iter x0 (v7 + decW x0 v7)] ?_
                    exact AOps_here [0, 17, 49] (by kernel_rfl) rfl
                | false =>
                  refine R 4 60 [(0, sA x0), (4, iK .i32 (decR x0 v7)), (17, .ptr 0 0), (30, bA (!false)), (33, bA false), (40, bA (false || (decide ((decR x0 v7) > 57))))] [.iter x0 (v7 + decW x0 v7)] ?_
                  cases c4 : (decide ((decR x0 v7) > 57) : Bool) with
                  | true =>
                    refine R 4 60 [(0, sA x0), (4, iK .i32 (decR x0 v7)), (17, .ptr 0 0), (30, bA (!false)), (33, bA false), (44, bA ((false || true) && ((decR x0 v7) != 45)))] [.iter x0 (v7 + decW x0 v7)] ?_
                    cases c5 : ((decR x0 v7) != 45 : Bool) with
                    | true =>
                      refine R 5 60 [(0, sA x0), (17, .ptr 0 0), (49, bA ((!false) && (false || (((false || true) && true) && ((decR x0 v7) != 95)))))] [.iter x0 (v7 + decW x0 v7)] ?_
                      exact AOps_here [0, 17, 49] (by kernel_rfl) rfl
                    | false =>
                      refine R 5 60 [(0, sA x0), (17, .ptr 0 0), (49, bA ((!false) && (false || (((false || true) && false) && ((decR x0 v7) != 95)))))] [.iter x0 (v7 + decW x0 v7)] ?_
                      exact AOps_here [0, 17, 49] (by kernel_rfl) rfl
                  | false =>
                    refine R 9 60 [(0, sA x0), (17, .ptr 0 0), (49, bA ((!false) && (false || (((false || false) && ((decR x0 v7) != 45)) && ((decR x0 v7) != 95)))))] [.iter x0 (v7 + decW x0 v7)] ?_
                    exact AOps_here [0, 17, 49] (by kernel_rfl) rfl
          refine AOps_done (CD H (fun hb9 H => ?_) (fun hb9 H => ?_))
          · refine AWP_reg (Rh 1 60 [(2, bA false)] (AOps_done ?_))
            exact AWP_ret (FR H)
          · refine AWP_skip ?_
            exact Exists.intro (v7 + decW x0 v7) (Exists.intro n ⟨by omega, ⟨by omega, H⟩, Norm_fd [0, 17] 0 (by kernel_rfl) rfl rfl ⟨trivial, trivial⟩ (by refine scL_fr ?_; exact ⟨trivial, (sc_ptr rfl), trivial⟩)⟩)
        · cases hb
      | false =>
        replace H := cond_f H hb8
        refine AOps_next_end (d := some 18) (id := 0) (s := x0) (p := v7) (by kernel_rfl) (of_decide_eq_false hb8) ?_
        refine Rh 1 60 [(0, sA x0), (17, .ptr 0 0), (18, .tup [bA false]), (19, bA false)] (AOps_done (AWP_seq (AWP_cond (t := false) (by kernel_rfl) (fun hb => ?_) (fun hb => ?_))))
        · cases hb
        · refine AWP_exit ?_
          show AWP _ _ _ _ _ _ _
          refine AWP_seq (AWP_reg ?_)
          obtain ⟨v10, hv10, H⟩ := bind_some H
          refine AOps_callp (d := (some 50)) (al := [sA (⟨#[97, 110, 100, 32, 97, 114, 109, 115, 32, 97, 116, 116, 114, 105, 98, 117, 116, 101, 32, 98, 111, 111, 108, 32, 99, 108, 97, 105, 109, 115, 32, 99, 111, 110, 116, 97, 105, 110, 115, 32, 99, 111, 111, 108, 32, 99, 111, 111, 108, 105, 110, 103, 32, 100, 101, 102, 97, 117, 108, 116, 32, 100, 114, 97, 102, 116, 32, 101, 110, 100, 115, 32, 101, 120, 99, 108, 117, 100, 101, 32, 101, 120, 105, 115, 116, 115, 32, 101, 120, 112, 101, 114, 105, 109, 101, 110, 116, 32, 102, 97, 108, 115, 101, 32, 102, 108, 97, 103, 32, 104, 111, 108, 100, 111, 117, 116, 32, 105, 110, 32, 105, 110, 99, 108, 117, 100, 101, 32, 105, 115, 32, 108, 97, 121, 101, 114, 32, 108, 105, 115, 116, 32, 109, 101, 109, 98, 101, 114, 32, 110, 101, 101, 100, 115, 32, 110, 111, 116, 32, 110, 117, 109, 98, 101, 114, 32, 111, 102, 102, 32, 111, 110, 32, 111, 114, 32, 114, 117, 108, 101, 32, 114, 117, 110, 110, 105, 110, 103, 32, 115, 97, 108, 116, 32, 115, 101, 103, 109, 101, 110, 116, 32, 115, 101, 114, 118, 101, 32, 115, 101, 116, 116, 105, 110, 103, 115, 32, 115, 112, 108, 105, 116, 32, 115, 116, 97, 114, 116, 115, 32, 115, 116, 111, 112, 112, 101, 100, 32, 116, 97, 114, 103, 101, 116, 32, 116, 101, 120, 116, 32, 116, 111, 32, 116, 114, 117, 101, 32, 117, 110, 116, 105, 108, 32, 118, 97, 114, 105, 97, 116, 105, 111, 110, 115, 32, 118, 101, 114, 115, 105, 111, 110, 32, 119, 104, 101, 110]⟩ : ByteArray)]) (r := .ro .unk v10.length (cl_str v10)) (by kernel_rfl) (s_strings_Fields hG hv10) ⟨trivial, trivial⟩ (scl_cl_str _ _) ?_
          refine Rh 2 60 [(0, sA x0), (50, .ro .unk v10.length (cl_str v10)), (51, iA (lI v10)), (52, iA 0)] (AOps_done (AWP_block ?_))
          refine AWP_loopN (α := Int) (fun v18 => fr 60 [(0, sA x0), (50, .ro .unk v10.length (cl_str v10)), (51, iA (lI v10)), (52, iA v18)]) (fun v18 => [.iter x0 v7]) (fun k_ v18 => k_ ≤ n ∧ p_text_Key_L2 k_ x0 v10 v18 = some r) (fun n v18 H => ?_) (k := n) 0 ⟨Nat.le_refl _, H⟩ (Norm_fd [0, 50, 51, 52] 0 (by kernel_rfl) rfl rfl ⟨trivial, trivial⟩ (by refine scL_fr ?_; exact ⟨trivial, (scl_cl_str _ _), trivial, trivial, trivial⟩))
          show AWP _ _ _ _ _ (fr 60 [(0, sA x0), (50, .ro .unk v10.length (cl_str v10)), (51, iA (lI v10)), (52, iA v18)]) [.iter x0 v7]
          obtain ⟨hb_, H⟩ := H
          replace H : p_text_Key_L2 n x0 v10 v18 = some r := H
          cases n with
          | zero => exact not_none (by simpa only [p_text_Key_L2] using H)
          | succ n =>
            unfold p_text_Key_L2 at H
            refine AWP_reg (Rh 1 60 [(0, sA x0), (50, .ro .unk v10.length (cl_str v10)), (51, iA (lI v10)), (52, iA v18), (53, bA (decide (v18 < (lI v10))))] (AOps_done (AWP_seq (CD H (fun hb19 H => ?_) (fun hb19 H => ?_)))))
            · refine AWP_skip ?_
              show AWP _ _ _ _ _ _ _
              refine AWP_seq (AWP_block ?_)
              refine AWP_reg ?_
              obtain ⟨v20, hv20, H⟩ := bind_some H
              refine AOps_index (d := (some 54)) (sz := 1) (c := cs_str) (by kernel_rfl) rfl (eq_cl_str _) (fun _ => rfl) (by decide) hv20 (fun tl20 => ?_)
              refine Rh 2 60 [(0, sA x0), (7, sA v20), (50, .ro .unk v10.length (cl_str v10)), (51, iA (lI v10)), (52, iA v18)] (AOps_done (AWP_reg (Rh 3 60 [(0, sA x0), (50, .ro .unk v10.length (cl_str v10)), (51, iA (lI v10)), (52, iA v18), (58, bA (seq' v20 x0))] (AOps_done (CD H (fun hb21 H => ?_) (fun hb21 H => ?_))))))
              · refine AWP_reg (Rh 1 60 [(2, bA false)] (AOps_done ?_))
                exact AWP_ret (FR H)
              · refine AWP_skip ?_
                show AWP _ _ _ _ _ _ _
                refine AWP_region ?_
                refine Rh 2 60 [(0, sA x0), (50, .ro .unk v10.length (cl_str v10)), (51, iA (lI v10)), (52, iA (w64 (v18 + 1)))] (AOps_done ?_)
                exact Exists.intro (w64 (v18 + 1)) (Exists.intro n ⟨by omega, ⟨by omega, H⟩, Norm_fd [0, 50, 51, 52] 0 (by kernel_rfl) rfl rfl ⟨trivial, trivial⟩ (by refine scL_fr ?_; exact ⟨trivial, (scl_cl_str _ _), trivial, trivial, trivial⟩)⟩)
            · refine AWP_exit ?_
              show AWP _ _ _ _ _ _ _
              refine AWP_reg (Rh 1 60 [(2, bA true)] (AOps_done ?_))
              exact AWP_ret (FR H)
end Go.Proofs.YtjhbobacbaikoaaGreatDoor
/- A function of the program as a pure function, and that the program computes it. -/
namespace Go.Proofs.YtjhbobacbaikoaaGreatDoor
open Go
set_option linter.unusedVariables false
set_option linter.unusedSimpArgs false
set_option maxRecDepth 100000
def p_shape_attributes_L1 (n : Nat) (x0 : List TDeclared) (v26 : Int) : Option Int := match n with
| 0 => none
| n + 1 =>
(bif decide (v26 < (lI x0)) then
(rdO x0 v26).bind fun v28 =>
(p_text_Key n v28.gKind).bind fun v29 =>
(bif !(!v29) then p_text_Key n v28.gName else some (false)).bind fun v30 =>
(bif ((!v29) || (!v30)) || (seq' v28.gName (⟨#[107, 101, 121]⟩ : ByteArray)) then
 some (6)
 else
(bif (decide (v28.gType < 1)) || (decide (v28.gType > 5)) then
 some (7)
 else
(bif decide (v26 > 0) then rdO x0 (w64 (v26 - 1)) else some ({ gKind := ByteArray.empty, gName := ByteArray.empty, gType := 0 } : TDeclared)).bind fun v33 =>
(bif decide (v26 > 0) then rdO x0 (w64 (v26 - 1)) else some ({ gKind := ByteArray.empty, gName := ByteArray.empty, gType := 0 } : TDeclared)).bind fun v34 =>
(bif decide (v26 > 0) then p_strings_Compare n v33.gKind v28.gKind else some (0)).bind fun v35 =>
(bif decide (v26 > 0) then p_strings_Compare n v34.gName v28.gName else some (0)).bind fun v36 =>
(bif decide (v26 > 0) then p_cmp_Or_int n ([v35, v36]) else some (0)).bind fun v37 =>
(bif (decide (v26 > 0)) && (decide (v37 ≥ 0)) then
 some (9)
 else
 p_shape_attributes_L1 n x0 (w64 (v26 + 1)))))
 else
 some (0))
def p_shape_attributes (n : Nat) (x0 : List TDeclared) : Option Int :=
(bif decide ((lI x0) > 30) then
 some (5)
 else
 p_shape_attributes_L1 n x0 0)
variable {E : Env}
theorem s_shape_attributes {n : Nat} (hG : GlobT E) {x0 : List TDeclared} {r : Int} (H : p_shape_attributes n x0 = some r) :
    Sp Tryz.prog E 88 [.ro .unk x0.length (TDeclared.cl x0)] [] (isA (iA r) []) := by
  unfold p_shape_attributes at H
  refine Sp_fn Tryz.func88 rfl (fun hc hs => ?_)
  refine AWP_reg (Rh 1 64 [(0, .ro .unk x0.length (TDeclared.cl x0))] (AOps_done (AWP_seq (AWP_reg (Rh 3 64 [(0, .ro .unk x0.length (TDeclared.cl x0)), (7, bA (decide ((lI x0) > 30)))] (AOps_done (CD H (fun hb1 H => ?_) (fun hb1 H => ?_))))))))
  · refine AWP_reg (Rh 1 64 [(2, iA 5)] (AOps_done ?_))
    exact AWP_ret (FR H)
  · refine AWP_skip ?_
    show AWP _ _ _ _ _ _ _
    refine AWP_seq (AWP_reg (Rh 3 64 [(0, .ro .unk x0.length (TDeclared.cl x0)), (8, .ro .unk x0.length (TDeclared.cl x0)), (9, iA (lI x0)), (10, iA 0)] (AOps_done (AWP_block ?_))))
    refine AWP_loopN (α := Int) (fun v26 => fr 64 [(0, .ro .unk x0.length (TDeclared.cl x0)), (8, .ro .unk x0.length (TDeclared.cl x0)), (9, iA (lI x0)), (10, iA v26)]) (fun v26 => []) (fun k_ v26 => k_ ≤ n ∧ p_shape_attributes_L1 k_ x0 v26 = some r) (fun n v26 H => ?_) (k := n) 0 ⟨Nat.le_refl _, H⟩ (Norm_fd [0, 8, 9, 10] 0 (by kernel_rfl) rfl rfl trivial (by refine scL_fr ?_; exact ⟨(scl_TDeclared_cl _ _), (scl_TDeclared_cl _ _), trivial, trivial, trivial⟩))
    show AWP _ _ _ _ _ (fr 64 [(0, .ro .unk x0.length (TDeclared.cl x0)), (8, .ro .unk x0.length (TDeclared.cl x0)), (9, iA (lI x0)), (10, iA v26)]) []
    obtain ⟨hb_, H⟩ := H
    replace H : p_shape_attributes_L1 n x0 v26 = some r := H
    cases n with
    | zero => exact not_none (by simpa only [p_shape_attributes_L1] using H)
    | succ n =>
      unfold p_shape_attributes_L1 at H
      refine AWP_reg (Rh 1 64 [(0, .ro .unk x0.length (TDeclared.cl x0)), (8, .ro .unk x0.length (TDeclared.cl x0)), (9, iA (lI x0)), (10, iA v26), (11, bA (decide (v26 < (lI x0))))] (AOps_done (AWP_seq (CD H (fun hb27 H => ?_) (fun hb27 H => ?_)))))
      · refine AWP_skip ?_
        show AWP _ _ _ _ _ _ _
        refine AWP_seq (AWP_block ?_)
        refine AWP_reg (Rh 1 64 [(0, .ro .unk x0.length (TDeclared.cl x0)), (8, .ro .unk x0.length (TDeclared.cl x0)), (9, iA (lI x0)), (10, iA v26), (12, iA v26)] ?_)
        obtain ⟨v28, hv28, H⟩ := bind_some H
        refine AOps_index (d := (some 13)) (sz := 3) (c := TDeclared.cs) (by kernel_rfl) rfl (eq_TDeclared_cl _) (fun _ => rfl) (by decide) hv28 (fun tl28 => ?_)
        refine R 4 64 [(0, .ro .unk x0.length (TDeclared.cl x0)), (3, iA v26), (4, .ptr 0 0), (8, .ro .unk x0.length (TDeclared.cl x0)), (9, iA (lI x0)), (10, iA v26)] [.cells 112 (TDeclared.cs v28)] (AOps_done (AWP_seq (AWP_reg (Rh 2 64 [(0, .ro .unk x0.length (TDeclared.cl x0)), (3, iA v26), (4, .ptr 0 0), (8, .ro .unk x0.length (TDeclared.cl x0)), (9, iA (lI x0)), (10, iA v26), (16, sA v28.gKind)] ?_))))
        obtain ⟨v29, hv29, H⟩ := bind_some H
        refine AOps_callp (d := (some 17)) (al := [sA v28.gKind]) (r := bA v29) (by kernel_rfl) (s_text_Key hG hv29) ⟨trivial, trivial⟩ trivial ?_
        refine Rh 2 64 [(0, .ro .unk x0.length (TDeclared.cl x0)), (3, iA v26), (4, .ptr 0 0), (8, .ro .unk x0.length (TDeclared.cl x0)), (9, iA (lI x0)), (10, iA v26), (19, bA (!v29))] ?_
        obtain ⟨v30, hv30, H⟩ := bind_some H
        refine AOps_cut 5 (st' := fr 64 [(0, .ro .unk x0.length (TDeclared.cl x0)), (3, iA v26), (4, .ptr 0 0), (8, .ro .unk x0.length (TDeclared.cl x0)), (9, iA (lI x0)), (10, iA v26), (24, bA ((!v29) || (!v30)))]) (h' := [.cells 112 (TDeclared.cs v28)]) ?_ ?_
        rotate_left
        · cases c1 : (v29 : Bool) with
          | true =>
            refine R 2 64 [(0, .ro .unk x0.length (TDeclared.cl x0)), (3, iA v26), (4, .ptr 0 0), (8, .ro .unk x0.length (TDeclared.cl x0)), (9, iA (lI x0)), (10, iA v26), (19, bA (!true)), (21, sA v28.gName)] [.cells 112 (TDeclared.cs v28)] ?_
            have hv30_ := cond_t hv30 (by simp only [c1] <;> rfl)
            refine AOps_callp (d := (some 22)) (al := [sA v28.gName]) (r := bA v30) (by kernel_rfl) (s_text_Key hG hv30_) ⟨trivial, trivial⟩ trivial ?_
            refine R 2 64 [(0, .ro .unk x0.length (TDeclared.cl x0)), (3, iA v26), (4, .ptr 0 0), (8, .ro .unk x0.length (TDeclared.cl x0)), (9, iA (lI x0)), (10, iA v26), (24, bA ((!true) || (!v30)))] [.cells 112 (TDeclared.cs v28)] ?_
            exact AOps_here [0, 3, 4, 8, 9, 10, 24] (by kernel_rfl) rfl
          | false =>
            refine R 5 64 [(0, .ro .unk x0.length (TDeclared.cl x0)), (3, iA v26), (4, .ptr 0 0), (8, .ro .unk x0.length (TDeclared.cl x0)), (9, iA (lI x0)), (10, iA v26), (24, bA ((!false) || (!v30)))] [.cells 112 (TDeclared.cs v28)] ?_
            exact AOps_here [0, 3, 4, 8, 9, 10, 24] (by kernel_rfl) rfl
        refine Rh 1 64 [(0, .ro .unk x0.length (TDeclared.cl x0)), (3, iA v26), (4, .ptr 0 0), (8, .ro .unk x0.length (TDeclared.cl x0)), (9, iA (lI x0)), (10, iA v26), (25, bA ((!v29) || (!v30)))] (AOps_run 4 [0, 3, 4, 8, 9, 10, 29] (st' := fr 64 [(0, .ro .unk x0.length (TDeclared.cl x0)), (3, iA v26), (4, .ptr 0 0), (8, .ro .unk x0.length (TDeclared.cl x0)), (9, iA (lI x0)), (10, iA v26), (29, bA (((!v29) || (!v30)) || (seq' v28.gName (⟨#[107, 101, 121]⟩ : ByteArray))))]) (h' := [.cells 112 (TDeclared.cs v28)]) (by (generalize v29 = t0; generalize v30 = t1; cases t0 <;> cases t1 <;> kernel_rfl)) ?_)
        refine AOps_done (CD H (fun hb31 H => ?_) (fun hb31 H => ?_))
        · refine AWP_reg (Rh 1 64 [(2, iA 6)] (AOps_done ?_))
          exact AWP_ret (FR H)
        · refine AWP_skip ?_
          show AWP _ _ _ _ _ _ _
          refine AWP_seq (AWP_reg (Rh 4 64 [(0, .ro .unk x0.length (TDeclared.cl x0)), (3, iA v26), (4, .ptr 0 0), (8, .ro .unk x0.length (TDeclared.cl x0)), (9, iA (lI x0)), (10, iA v26), (33, bA (decide (v28.gType < 1)))] (AOps_run 4 [0, 3, 4, 8, 9, 10, 37] (st' := fr 64 [(0, .ro .unk x0.length (TDeclared.cl x0)), (3, iA v26), (4, .ptr 0 0), (8, .ro .unk x0.length (TDeclared.cl x0)), (9, iA (lI x0)), (10, iA v26), (37, bA ((decide (v28.gType < 1)) || (decide (v28.gType > 5))))]) (h' := [.cells 112 (TDeclared.cs v28)]) (by (generalize (decide (v28.gType < 1)) = t0; cases t0 <;> kernel_rfl)) ?_)))
          refine AOps_done (CD H (fun hb32 H => ?_) (fun hb32 H => ?_))
          · refine AWP_reg (Rh 1 64 [(2, iA 7)] (AOps_done ?_))
            exact AWP_ret (FR H)
          · refine AWP_skip ?_
            show AWP _ _ _ _ _ _ _
            obtain ⟨v33, hv33, H⟩ := bind_some H
            obtain ⟨v34, hv34, H⟩ := bind_some H
            obtain ⟨v35, hv35, H⟩ := bind_some H
            obtain ⟨v36, hv36, H⟩ := bind_some H
            obtain ⟨v37, hv37, H⟩ := bind_some H
            refine AWP_regD1 [0, 1, 2, 3, 4, 5, 6, 7, 8, 9, 10, 12, 13, 14, 15, 16, 17, 18, 19, 11, 20, 21, 22, 23, 24] (N := 64) (f := [(0, .ro .unk x0.length (TDeclared.cl x0)), (3, iA v26), (4, .ptr 0 0), (8, .ro .unk x0.length (TDeclared.cl x0)), (9, iA (lI x0)), (10, iA v26)]) (leL_of [0, 3, 4, 8, 9, 10] (by kernel_rfl)) mixed (by kernel_rfl) (by kernel_rfl) (st' := fr 64 [(0, .ro .unk x0.length (TDeclared.cl x0)), (8, .ro .unk x0.length (TDeclared.cl x0)), (9, iA (lI x0)), (10, iA v26), (62, bA ((decide (v26 > 0)) && (decide (v37 ≥ 0))))]) (h' := [.cells 112 (TDeclared.cs v28)]) ?_ ?_
            rotate_left
            · refine RD 3 64 [] [(0, .ro .unk x0.length (TDeclared.cl x0)), (3, iA v26), (4, .ptr 0 0), (8, .ro .unk x0.length (TDeclared.cl x0)), (9, iA (lI x0)), (10, iA v26), (38, iA v26), (39, bA (decide (v26 > 0))), (40, bA (decide (v26 > 0)))] ?_
              cases c1 : (decide (v26 > 0) : Bool) with
              | true =>
                refine RD 3 64 [] [(0, .ro .unk x0.length (TDeclared.cl x0)), (3, iA v26), (4, .ptr 0 0), (8, .ro .unk x0.length (TDeclared.cl x0)), (9, iA (lI x0)), (10, iA v26), (38, iA v26), (39, bA true), (40, bA true), (41, .ro .unk x0.length (TDeclared.cl x0)), (42, iA v26), (43, iA (w64 (v26 - 1)))] ?_
                have hv33_ := cond_t hv33 (by simp only [c1] <;> rfl)
                refine AD_index (d := (some 44)) (sz := 3) (c := TDeclared.cs) (by kernel_rfl) rfl (eq_TDeclared_cl _) (fun _ => rfl) (by decide) hv33_ (fun tl33 => ?_)
                refine RD 7 64 [(10, 0), (9, 0)] [(0, .ro .unk x0.length (TDeclared.cl x0)), (3, iA v26), (4, .ptr 0 0), (8, .ro .unk x0.length (TDeclared.cl x0)), (9, iA (lI x0)), (10, iA v26), (38, iA v26), (39, bA true), (40, bA true), (41, .ro .unk x0.length (TDeclared.cl x0)), (42, iA v26), (43, iA (w64 (v26 - 1))), (44, .rop ([sA v33.gKind, sA v33.gName, iA v33.gType] ++ tl33)), (45, .rop ([sA v33.gKind, sA v33.gName, iA v33.gType] ++ tl33)), (46, sA v33.gKind), (47, .ptr 0 0), (48, sA v28.gKind), (50, .ro .unk x0.length (TDeclared.cl x0)), (51, iA v26), (52, iA (w64 (v26 - 1)))] ?_
                have hv34_ := cond_t hv34 (by simp only [c1] <;> rfl)
                refine AD_index (d := (some 53)) (sz := 3) (c := TDeclared.cs) (by kernel_rfl) rfl (eq_TDeclared_cl _) (fun _ => rfl) (by decide) hv34_ (fun tl34 => ?_)
                refine RD 4 64 [(19, 0), (18, 0), (10, 0), (9, 0)] [(0, .ro .unk x0.length (TDeclared.cl x0)), (3, iA v26), (4, .ptr 0 0), (8, .ro .unk x0.length (TDeclared.cl x0)), (9, iA (lI x0)), (10, iA v26), (38, iA v26), (39, bA true), (40, bA true), (41, .ro .unk x0.length (TDeclared.cl x0)), (42, iA v26), (43, iA (w64 (v26 - 1))), (44, .rop ([sA v33.gKind, sA v33.gName, iA v33.gType] ++ tl33)), (45, .rop ([sA v33.gKind, sA v33.gName, iA v33.gType] ++ tl33)), (46, sA v33.gKind), (47, .ptr 0 0), (48, sA v28.gKind), (50, .ro .unk x0.length (TDeclared.cl x0)), (51, iA v26), (52, iA (w64 (v26 - 1))), (53, .rop ([sA v34.gKind, sA v34.gName, iA v34.gType] ++ tl34)), (54, .rop ([sA v34.gName, iA v34.gType] ++ tl34)), (55, sA v34.gName), (56, .ptr 0 1), (57, sA v28.gName)] ?_
                have hv35_ := cond_t hv35 (by simp only [c1] <;> rfl)
                refine AD_callp (d := (some 49)) (al := [sA v33.gKind, sA v28.gKind]) (r := iA v35) (by kernel_rfl) (s_strings_Compare hv35_) ⟨trivial, trivial, trivial⟩ trivial ?_
                have hv36_ := cond_t hv36 (by simp only [c1] <;> rfl)
                refine AD_callp (d := (some 58)) (al := [sA v34.gName, sA v28.gName]) (r := iA v36) (by kernel_rfl) (s_strings_Compare hv36_) ⟨trivial, trivial, trivial⟩ trivial ?_
                refine AD_bsl (d := (some 59)) (m := 2) (cs := [iA v35, iA v36]) (by kernel_rfl) ⟨trivial, trivial, trivial⟩ ?_
                have hv37_ := cond_t hv37 (by simp only [c1] <;> rfl)
                refine AD_callp (d := (some 60)) (al := [.ro .unk ([v35, v36]).length (cl_i64 ([v35, v36]))]) (r := iA v37) (by kernel_rfl) (s_cmp_Or_int hv37_) ⟨(scl_cl_i64 _ _), trivial⟩ trivial ?_
                refine RD 2 64 [(19, 0), (18, 0), (10, 0), (9, 0)] [(0, .ro .unk x0.length (TDeclared.cl x0)), (3, iA v26), (4, .ptr 0 0), (8, .ro .unk x0.length (TDeclared.cl x0)), (9, iA (lI x0)), (10, iA v26), (38, iA v26), (39, bA true), (40, bA true), (41, .ro .unk x0.length (TDeclared.cl x0)), (42, iA v26), (43, iA (w64 (v26 - 1))), (44, .rop ([sA v33.gKind, sA v33.gName, iA v33.gType] ++ tl33)), (45, .rop ([sA v33.gKind, sA v33.gName, iA v33.gType] ++ tl33)), (46, sA v33.gKind), (47, .ptr 0 0), (48, sA v28.gKind), (49, iA v35), (50, .ro .unk x0.length (TDeclared.cl x0)), (51, iA v26), (52, iA (w64 (v26 - 1))), (53, .rop ([sA v34.gKind, sA v34.gName, iA v34.gType] ++ tl34)), (54, .rop ([sA v34.gName, iA v34.gType] ++ tl34)), (55, sA v34.gName), (56, .ptr 0 1), (57, sA v28.gName), (58, iA v36), (59, .ro .unk ([v35, v36]).length (cl_i64 ([v35, v36]))), (60, iA v37), (61, bA (decide (v37 ≥ 0))), (62, bA (true && (decide (v37 ≥ 0))))] ?_
                exact AD_here [0, 8, 9, 10, 62] (by kernel_rfl) rfl
              | false =>
                refine RD 16 64 [] [(0, .ro .unk x0.length (TDeclared.cl x0)), (3, iA v26), (4, .ptr 0 0), (8, .ro .unk x0.length (TDeclared.cl x0)), (9, iA (lI x0)), (10, iA v26), (38, iA v26), (39, bA false), (40, bA false), (41, undefA), (42, undefA), (43, undefA), (44, undefA), (45, undefA), (46, undefA), (47, undefA), (48, undefA), (50, undefA), (51, undefA), (52, undefA), (53, undefA), (54, undefA), (55, undefA), (56, undefA), (57, undefA)] (AD_offB (d := some 49) (by kernel_rfl) ?_)
                refine AD_offB (d := some 58) (by kernel_rfl) ?_
                refine AD_offB (d := some 59) (by kernel_rfl) ?_
                refine AD_offB (d := some 60) (by kernel_rfl) ?_
                refine RD 2 64 [] [(0, .ro .unk x0.length (TDeclared.cl x0)), (3, iA v26), (4, .ptr 0 0), (8, .ro .unk x0.length (TDeclared.cl x0)), (9, iA (lI x0)), (10, iA v26), (38, iA v26), (39, bA false), (40, bA false), (41, undefA), (42, undefA), (43, undefA), (44, undefA), (45, undefA), (46, undefA), (47, undefA), (48, undefA), (49, undefA), (50, undefA), (51, undefA), (52, undefA), (53, undefA), (54, undefA), (55, undefA), (56, undefA), (57, undefA), (58, undefA), (59, undefA), (60, undefA), (61, undefA), (62, bA (false && (decide (v37 ≥ 0))))] ?_
                exact AD_here [0, 8, 9, 10, 62] (by kernel_rfl) rfl
            refine CD H (fun hb38 H => ?_) (fun hb38 H => ?_)
            · refine AWP_reg (Rh 1 64 [(2, iA 9)] (AOps_done ?_))
              exact AWP_ret (FR H)
            · refine AWP_skip ?_
              show AWP _ _ _ _ _ _ _
              refine AWP_region ?_
              refine Rh 2 64 [(0, .ro .unk x0.length (TDeclared.cl x0)), (8, .ro .unk x0.length (TDeclared.cl x0)), (9, iA (lI x0)), (10, iA (w64 (v26 + 1)))] (AOps_done ?_)
              exact Exists.intro (w64 (v26 + 1)) (Exists.intro n ⟨by omega, ⟨by omega, H⟩, Norm_fd [0, 8, 9, 10] 1 (by kernel_rfl) rfl rfl trivial (by refine scL_fr ?_; exact ⟨(scl_TDeclared_cl _ _), (scl_TDeclared_cl _ _), trivial, trivial, trivial⟩)⟩)
      · refine AWP_exit ?_
        show AWP _ _ _ _ _ _ _
        refine AWP_reg (Rh 1 64 [(2, iA 0)] (AOps_done ?_))
        exact AWP_ret (FR H)
end Go.Proofs.YtjhbobacbaikoaaGreatDoor
/- A function of the program as a pure function, and that the program computes it. -/
namespace Go.Proofs.YtjhbobacbaikoaaGreatDoor
open Go
set_option linter.unusedVariables false
set_option linter.unusedSimpArgs false
set_option maxRecDepth 100000
def p_shape_list_api_Experiment_L1 (n : Nat) (x0 : List TExperiment) : Option Int := match n with
| 0 => none
| n + 1 =>
(bif decide (0 < (lI x0)) then
(rdO x0 0).bind fun v5 =>
 none
 else
 some (0))
def p_shape_list_api_Experiment (n : Nat) (x0 : List TExperiment) (x1 : Int) : Option Int :=
(bif decide ((lI x0) > x1) then
 some (5)
 else
 p_shape_list_api_Experiment_L1 n x0 )
variable {E : Env}
theorem s_shape_list_api_Experiment {n : Nat} (hG : GlobT E) {x0 : List TExperiment} {x1 : Int} {r : Int} (H : p_shape_list_api_Experiment n x0 x1 = some r) :
    Sp Tryz.prog E 95 [.ro .unk x0.length (TExperiment.cl x0), iA x1, .val (.func (.func 40) #[] #[]), .val (.func (.func 96) #[] #[])] [] (isA (iA r) []) := by
  unfold p_shape_list_api_Experiment at H
  refine Sp_fn Tryz.func95 rfl (fun hc hs => ?_)
  refine AWP_reg (Rh 1 45 [(0, .ro .unk x0.length (TExperiment.cl x0)), (1, iA x1), (2, .val (.func (.func 40) #[] #[])), (3, .val (.func (.func 96) #[] #[]))] (AOps_done (AWP_seq (AWP_reg (Rh 4 45 [(0, .ro .unk x0.length (TExperiment.cl x0)), (2, .val (.func (.func 40) #[] #[])), (3, .val (.func (.func 96) #[] #[])), (15, bA (decide ((lI x0) > x1)))] (AOps_done (CD H (fun hb1 H => ?_) (fun hb1 H => ?_))))))))
  · refine AWP_reg (Rh 1 45 [(8, iA 5)] (AOps_done ?_))
    exact AWP_ret (FR H)
  · refine AWP_skip ?_
    show AWP _ _ _ _ _ _ _
    refine AWP_seq (AWP_reg (Rh 3 45 [(0, .ro .unk x0.length (TExperiment.cl x0)), (2, .val (.func (.func 40) #[] #[])), (3, .val (.func (.func 96) #[] #[])), (16, .ro .unk x0.length (TExperiment.cl x0)), (17, iA (lI x0)), (18, iA 0)] (AOps_done (AWP_block ?_))))
    refine AWP_loopN (α := Unit) (fun _ => fr 45 [(0, .ro .unk x0.length (TExperiment.cl x0)), (2, .val (.func (.func 40) #[] #[])), (3, .val (.func (.func 96) #[] #[])), (16, .ro .unk x0.length (TExperiment.cl x0)), (17, iA (lI x0)), (18, iA 0)]) (fun _ => []) (fun k_ _ => k_ ≤ n ∧ p_shape_list_api_Experiment_L1 k_ x0  = some r) (fun n a H => ?_) (k := n) () ⟨Nat.le_refl _, H⟩ (Norm_fd [0, 2, 3, 16, 17, 18] 0 (by kernel_rfl) rfl rfl trivial (by refine scL_fr ?_; exact ⟨(scl_TExperiment_cl _ _), trivial, trivial, (scl_TExperiment_cl _ _), trivial, trivial, trivial⟩))
    show AWP _ _ _ _ _ (fr 45 [(0, .ro .unk x0.length (TExperiment.cl x0)), (2, .val (.func (.func 40) #[] #[])), (3, .val (.func (.func 96) #[] #[])), (16, .ro .unk x0.length (TExperiment.cl x0)), (17, iA (lI x0)), (18, iA 0)]) []
    obtain ⟨hb_, H⟩ := H
    replace H : p_shape_list_api_Experiment_L1 n x0  = some r := H
    cases n with
    | zero => exact not_none (by simpa only [p_shape_list_api_Experiment_L1] using H)
    | succ n =>
      unfold p_shape_list_api_Experiment_L1 at H
      refine AWP_reg (Rh 1 45 [(0, .ro .unk x0.length (TExperiment.cl x0)), (2, .val (.func (.func 40) #[] #[])), (3, .val (.func (.func 96) #[] #[])), (16, .ro .unk x0.length (TExperiment.cl x0)), (17, iA (lI x0)), (18, iA 0), (19, bA (decide (0 < (lI x0))))] (AOps_done (AWP_seq (CD H (fun hb4 H => ?_) (fun hb4 H => ?_)))))
      · refine AWP_skip ?_
        show AWP _ _ _ _ _ _ _
        refine AWP_seq (AWP_block ?_)
        refine AWP_reg (Rh 1 45 [(0, .ro .unk x0.length (TExperiment.cl x0)), (2, .val (.func (.func 40) #[] #[])), (3, .val (.func (.func 96) #[] #[])), (16, .ro .unk x0.length (TExperiment.cl x0)), (17, iA (lI x0)), (18, iA 0), (20, iA 0)] ?_)
        obtain ⟨v5, hv5, H⟩ := bind_some H
        refine AOps_index (d := (some 21)) (sz := 12) (c := TExperiment.cs) (by kernel_rfl) rfl (eq_TExperiment_cl _) (fun _ => rfl) (by decide) hv5 (fun tl5 => ?_)
        refine R 4 45 [(0, .ro .unk x0.length (TExperiment.cl x0)), (2, .val (.func (.func 40) #[] #[])), (3, .val (.func (.func 96) #[] #[])), (9, iA 0), (10, .ptr 0 0), (16, .ro .unk x0.length (TExperiment.cl x0)), (17, iA (lI x0)), (18, iA 0)] [.cells 42 (TExperiment.cs v5)] (AOps_done (AWP_seq ?_))
        exact not_none H
      · refine AWP_exit ?_
        show AWP _ _ _ _ _ _ _
        refine AWP_reg (Rh 1 45 [(8, iA 0)] (AOps_done ?_))
        exact AWP_ret (FR H)
end Go.Proofs.YtjhbobacbaikoaaGreatDoor
/- A function of the program as a pure function, and that the program computes it. -/
namespace Go.Proofs.YtjhbobacbaikoaaGreatDoor
open Go
set_option linter.unusedVariables false
set_option linter.unusedSimpArgs false
set_option maxRecDepth 100000
def p_shape_list_api_Flag_L1 (n : Nat) (x0 : List TFlag) : Option Int := match n with
| 0 => none
| n + 1 =>
(bif decide (0 < (lI x0)) then
(rdO x0 0).bind fun v5 =>
 none
 else
 some (0))
def p_shape_list_api_Flag (n : Nat) (x0 : List TFlag) (x1 : Int) : Option Int :=
(bif decide ((lI x0) > x1) then
 some (5)
 else
 p_shape_list_api_Flag_L1 n x0 )
variable {E : Env}
theorem s_shape_list_api_Flag {n : Nat} (hG : GlobT E) {x0 : List TFlag} {x1 : Int} {r : Int} (H : p_shape_list_api_Flag n x0 x1 = some r) :
    Sp Tryz.prog E 91 [.ro .unk x0.length (TFlag.cl x0), iA x1, .val (.func (.func 34) #[] #[]), .val (.func (.func 92) #[] #[])] [] (isA (iA r) []) := by
  unfold p_shape_list_api_Flag at H
  refine Sp_fn Tryz.func91 rfl (fun hc hs => ?_)
  refine AWP_reg (Rh 1 45 [(0, .ro .unk x0.length (TFlag.cl x0)), (1, iA x1), (2, .val (.func (.func 34) #[] #[])), (3, .val (.func (.func 92) #[] #[]))] (AOps_done (AWP_seq (AWP_reg (Rh 4 45 [(0, .ro .unk x0.length (TFlag.cl x0)), (2, .val (.func (.func 34) #[] #[])), (3, .val (.func (.func 92) #[] #[])), (15, bA (decide ((lI x0) > x1)))] (AOps_done (CD H (fun hb1 H => ?_) (fun hb1 H => ?_))))))))
  · refine AWP_reg (Rh 1 45 [(8, iA 5)] (AOps_done ?_))
    exact AWP_ret (FR H)
  · refine AWP_skip ?_
    show AWP _ _ _ _ _ _ _
    refine AWP_seq (AWP_reg (Rh 3 45 [(0, .ro .unk x0.length (TFlag.cl x0)), (2, .val (.func (.func 34) #[] #[])), (3, .val (.func (.func 92) #[] #[])), (16, .ro .unk x0.length (TFlag.cl x0)), (17, iA (lI x0)), (18, iA 0)] (AOps_done (AWP_block ?_))))
    refine AWP_loopN (α := Unit) (fun _ => fr 45 [(0, .ro .unk x0.length (TFlag.cl x0)), (2, .val (.func (.func 34) #[] #[])), (3, .val (.func (.func 92) #[] #[])), (16, .ro .unk x0.length (TFlag.cl x0)), (17, iA (lI x0)), (18, iA 0)]) (fun _ => []) (fun k_ _ => k_ ≤ n ∧ p_shape_list_api_Flag_L1 k_ x0  = some r) (fun n a H => ?_) (k := n) () ⟨Nat.le_refl _, H⟩ (Norm_fd [0, 2, 3, 16, 17, 18] 0 (by kernel_rfl) rfl rfl trivial (by refine scL_fr ?_; exact ⟨(scl_TFlag_cl _ _), trivial, trivial, (scl_TFlag_cl _ _), trivial, trivial, trivial⟩))
    show AWP _ _ _ _ _ (fr 45 [(0, .ro .unk x0.length (TFlag.cl x0)), (2, .val (.func (.func 34) #[] #[])), (3, .val (.func (.func 92) #[] #[])), (16, .ro .unk x0.length (TFlag.cl x0)), (17, iA (lI x0)), (18, iA 0)]) []
    obtain ⟨hb_, H⟩ := H
    replace H : p_shape_list_api_Flag_L1 n x0  = some r := H
    cases n with
    | zero => exact not_none (by simpa only [p_shape_list_api_Flag_L1] using H)
    | succ n =>
      unfold p_shape_list_api_Flag_L1 at H
      refine AWP_reg (Rh 1 45 [(0, .ro .unk x0.length (TFlag.cl x0)), (2, .val (.func (.func 34) #[] #[])), (3, .val (.func (.func 92) #[] #[])), (16, .ro .unk x0.length (TFlag.cl x0)), (17, iA (lI x0)), (18, iA 0), (19, bA (decide (0 < (lI x0))))] (AOps_done (AWP_seq (CD H (fun hb4 H => ?_) (fun hb4 H => ?_)))))
      · refine AWP_skip ?_
        show AWP _ _ _ _ _ _ _
        refine AWP_seq (AWP_block ?_)
        refine AWP_reg (Rh 1 45 [(0, .ro .unk x0.length (TFlag.cl x0)), (2, .val (.func (.func 34) #[] #[])), (3, .val (.func (.func 92) #[] #[])), (16, .ro .unk x0.length (TFlag.cl x0)), (17, iA (lI x0)), (18, iA 0), (20, iA 0)] ?_)
        obtain ⟨v5, hv5, H⟩ := bind_some H
        refine AOps_index (d := (some 21)) (sz := 13) (c := TFlag.cs) (by kernel_rfl) rfl (eq_TFlag_cl _) (fun _ => rfl) (by decide) hv5 (fun tl5 => ?_)
        refine R 4 45 [(0, .ro .unk x0.length (TFlag.cl x0)), (2, .val (.func (.func 34) #[] #[])), (3, .val (.func (.func 92) #[] #[])), (9, iA 0), (10, .ptr 0 0), (16, .ro .unk x0.length (TFlag.cl x0)), (17, iA (lI x0)), (18, iA 0)] [.cells 65 (TFlag.cs v5)] (AOps_done (AWP_seq ?_))
        exact not_none H
      · refine AWP_exit ?_
        show AWP _ _ _ _ _ _ _
        refine AWP_reg (Rh 1 45 [(8, iA 0)] (AOps_done ?_))
        exact AWP_ret (FR H)
end Go.Proofs.YtjhbobacbaikoaaGreatDoor
/- A function of the program as a pure function, and that the program computes it. -/
namespace Go.Proofs.YtjhbobacbaikoaaGreatDoor
open Go
set_option linter.unusedVariables false
set_option linter.unusedSimpArgs false
set_option maxRecDepth 100000
def p_shape_list_api_Layer_L1 (n : Nat) (x0 : List TLayer) : Option Int := match n with
| 0 => none
| n + 1 =>
(bif decide (0 < (lI x0)) then
(rdO x0 0).bind fun v5 =>
 none
 else
 some (0))
def p_shape_list_api_Layer (n : Nat) (x0 : List TLayer) (x1 : Int) : Option Int :=
(bif decide ((lI x0) > x1) then
 some (5)
 else
 p_shape_list_api_Layer_L1 n x0 )
variable {E : Env}
theorem s_shape_list_api_Layer {n : Nat} (hG : GlobT E) {x0 : List TLayer} {x1 : Int} {r : Int} (H : p_shape_list_api_Layer n x0 x1 = some r) :
    Sp Tryz.prog E 93 [.ro .unk x0.length (TLayer.cl x0), iA x1, .val (.func (.func 38) #[] #[]), .val (.func (.func 94) #[] #[])] [] (isA (iA r) []) := by
  unfold p_shape_list_api_Layer at H
  refine Sp_fn Tryz.func93 rfl (fun hc hs => ?_)
  refine AWP_reg (Rh 1 45 [(0, .ro .unk x0.length (TLayer.cl x0)), (1, iA x1), (2, .val (.func (.func 38) #[] #[])), (3, .val (.func (.func 94) #[] #[]))] (AOps_done (AWP_seq (AWP_reg (Rh 4 45 [(0, .ro .unk x0.length (TLayer.cl x0)), (2, .val (.func (.func 38) #[] #[])), (3, .val (.func (.func 94) #[] #[])), (15, bA (decide ((lI x0) > x1)))] (AOps_done (CD H (fun hb1 H => ?_) (fun hb1 H => ?_))))))))
  · refine AWP_reg (Rh 1 45 [(8, iA 5)] (AOps_done ?_))
    exact AWP_ret (FR H)
  · refine AWP_skip ?_
    show AWP _ _ _ _ _ _ _
    refine AWP_seq (AWP_reg (Rh 3 45 [(0, .ro .unk x0.length (TLayer.cl x0)), (2, .val (.func (.func 38) #[] #[])), (3, .val (.func (.func 94) #[] #[])), (16, .ro .unk x0.length (TLayer.cl x0)), (17, iA (lI x0)), (18, iA 0)] (AOps_done (AWP_block ?_))))
    refine AWP_loopN (α := Unit) (fun _ => fr 45 [(0, .ro .unk x0.length (TLayer.cl x0)), (2, .val (.func (.func 38) #[] #[])), (3, .val (.func (.func 94) #[] #[])), (16, .ro .unk x0.length (TLayer.cl x0)), (17, iA (lI x0)), (18, iA 0)]) (fun _ => []) (fun k_ _ => k_ ≤ n ∧ p_shape_list_api_Layer_L1 k_ x0  = some r) (fun n a H => ?_) (k := n) () ⟨Nat.le_refl _, H⟩ (Norm_fd [0, 2, 3, 16, 17, 18] 0 (by kernel_rfl) rfl rfl trivial (by refine scL_fr ?_; exact ⟨(scl_TLayer_cl _ _), trivial, trivial, (scl_TLayer_cl _ _), trivial, trivial, trivial⟩))
    show AWP _ _ _ _ _ (fr 45 [(0, .ro .unk x0.length (TLayer.cl x0)), (2, .val (.func (.func 38) #[] #[])), (3, .val (.func (.func 94) #[] #[])), (16, .ro .unk x0.length (TLayer.cl x0)), (17, iA (lI x0)), (18, iA 0)]) []
    obtain ⟨hb_, H⟩ := H
    replace H : p_shape_list_api_Layer_L1 n x0  = some r := H
    cases n with
    | zero => exact not_none (by simpa only [p_shape_list_api_Layer_L1] using H)
    | succ n =>
      unfold p_shape_list_api_Layer_L1 at H
      refine AWP_reg (Rh 1 45 [(0, .ro .unk x0.length (TLayer.cl x0)), (2, .val (.func (.func 38) #[] #[])), (3, .val (.func (.func 94) #[] #[])), (16, .ro .unk x0.length (TLayer.cl x0)), (17, iA (lI x0)), (18, iA 0), (19, bA (decide (0 < (lI x0))))] (AOps_done (AWP_seq (CD H (fun hb4 H => ?_) (fun hb4 H => ?_)))))
      · refine AWP_skip ?_
        show AWP _ _ _ _ _ _ _
        refine AWP_seq (AWP_block ?_)
        refine AWP_reg (Rh 1 45 [(0, .ro .unk x0.length (TLayer.cl x0)), (2, .val (.func (.func 38) #[] #[])), (3, .val (.func (.func 94) #[] #[])), (16, .ro .unk x0.length (TLayer.cl x0)), (17, iA (lI x0)), (18, iA 0), (20, iA 0)] ?_)
        obtain ⟨v5, hv5, H⟩ := bind_some H
        refine AOps_index (d := (some 21)) (sz := 6) (c := TLayer.cs) (by kernel_rfl) rfl (eq_TLayer_cl _) (fun _ => rfl) (by decide) hv5 (fun tl5 => ?_)
        refine R 4 45 [(0, .ro .unk x0.length (TLayer.cl x0)), (2, .val (.func (.func 38) #[] #[])), (3, .val (.func (.func 94) #[] #[])), (9, iA 0), (10, .ptr 0 0), (16, .ro .unk x0.length (TLayer.cl x0)), (17, iA (lI x0)), (18, iA 0)] [.cells 74 (TLayer.cs v5)] (AOps_done (AWP_seq ?_))
        exact not_none H
      · refine AWP_exit ?_
        show AWP _ _ _ _ _ _ _
        refine AWP_reg (Rh 1 45 [(8, iA 0)] (AOps_done ?_))
        exact AWP_ret (FR H)
end Go.Proofs.YtjhbobacbaikoaaGreatDoor
/- A function of the program as a pure function, and that the program computes it. -/
namespace Go.Proofs.YtjhbobacbaikoaaGreatDoor
open Go
set_option linter.unusedVariables false
set_option linter.unusedSimpArgs false
set_option maxRecDepth 100000
def p_shape_list_api_Segment_L1 (n : Nat) (x0 : List TSegment) : Option Int := match n with
| 0 => none
| n + 1 =>
(bif decide (0 < (lI x0)) then
(rdO x0 0).bind fun v5 =>
 none
 else
 some (0))
def p_shape_list_api_Segment (n : Nat) (x0 : List TSegment) (x1 : Int) : Option Int :=
(bif decide ((lI x0) > x1) then
 some (5)
 else
 p_shape_list_api_Segment_L1 n x0 )
variable {E : Env}
theorem s_shape_list_api_Segment {n : Nat} (hG : GlobT E) {x0 : List TSegment} {x1 : Int} {r : Int} (H : p_shape_list_api_Segment n x0 x1 = some r) :
    Sp Tryz.prog E 89 [.ro .unk x0.length (TSegment.cl x0), iA x1, .val (.func (.func 36) #[] #[]), .val (.func (.func 90) #[] #[])] [] (isA (iA r) []) := by
  unfold p_shape_list_api_Segment at H
  refine Sp_fn Tryz.func89 rfl (fun hc hs => ?_)
  refine AWP_reg (Rh 1 45 [(0, .ro .unk x0.length (TSegment.cl x0)), (1, iA x1), (2, .val (.func (.func 36) #[] #[])), (3, .val (.func (.func 90) #[] #[]))] (AOps_done (AWP_seq (AWP_reg (Rh 4 45 [(0, .ro .unk x0.length (TSegment.cl x0)), (2, .val (.func (.func 36) #[] #[])), (3, .val (.func (.func 90) #[] #[])), (15, bA (decide ((lI x0) > x1)))] (AOps_done (CD H (fun hb1 H => ?_) (fun hb1 H => ?_))))))))
  · refine AWP_reg (Rh 1 45 [(8, iA 5)] (AOps_done ?_))
    exact AWP_ret (FR H)
  · refine AWP_skip ?_
    show AWP _ _ _ _ _ _ _
    refine AWP_seq (AWP_reg (Rh 3 45 [(0, .ro .unk x0.length (TSegment.cl x0)), (2, .val (.func (.func 36) #[] #[])), (3, .val (.func (.func 90) #[] #[])), (16, .ro .unk x0.length (TSegment.cl x0)), (17, iA (lI x0)), (18, iA 0)] (AOps_done (AWP_block ?_))))
    refine AWP_loopN (α := Unit) (fun _ => fr 45 [(0, .ro .unk x0.length (TSegment.cl x0)), (2, .val (.func (.func 36) #[] #[])), (3, .val (.func (.func 90) #[] #[])), (16, .ro .unk x0.length (TSegment.cl x0)), (17, iA (lI x0)), (18, iA 0)]) (fun _ => []) (fun k_ _ => k_ ≤ n ∧ p_shape_list_api_Segment_L1 k_ x0  = some r) (fun n a H => ?_) (k := n) () ⟨Nat.le_refl _, H⟩ (Norm_fd [0, 2, 3, 16, 17, 18] 0 (by kernel_rfl) rfl rfl trivial (by refine scL_fr ?_; exact ⟨(scl_TSegment_cl _ _), trivial, trivial, (scl_TSegment_cl _ _), trivial, trivial, trivial⟩))
    show AWP _ _ _ _ _ (fr 45 [(0, .ro .unk x0.length (TSegment.cl x0)), (2, .val (.func (.func 36) #[] #[])), (3, .val (.func (.func 90) #[] #[])), (16, .ro .unk x0.length (TSegment.cl x0)), (17, iA (lI x0)), (18, iA 0)]) []
    obtain ⟨hb_, H⟩ := H
    replace H : p_shape_list_api_Segment_L1 n x0  = some r := H
    cases n with
    | zero => exact not_none (by simpa only [p_shape_list_api_Segment_L1] using H)
    | succ n =>
      unfold p_shape_list_api_Segment_L1 at H
      refine AWP_reg (Rh 1 45 [(0, .ro .unk x0.length (TSegment.cl x0)), (2, .val (.func (.func 36) #[] #[])), (3, .val (.func (.func 90) #[] #[])), (16, .ro .unk x0.length (TSegment.cl x0)), (17, iA (lI x0)), (18, iA 0), (19, bA (decide (0 < (lI x0))))] (AOps_done (AWP_seq (CD H (fun hb4 H => ?_) (fun hb4 H => ?_)))))
      · refine AWP_skip ?_
        show AWP _ _ _ _ _ _ _
        refine AWP_seq (AWP_block ?_)
        refine AWP_reg (Rh 1 45 [(0, .ro .unk x0.length (TSegment.cl x0)), (2, .val (.func (.func 36) #[] #[])), (3, .val (.func (.func 90) #[] #[])), (16, .ro .unk x0.length (TSegment.cl x0)), (17, iA (lI x0)), (18, iA 0), (20, iA 0)] ?_)
        obtain ⟨v5, hv5, H⟩ := bind_some H
        refine AOps_index (d := (some 21)) (sz := 9) (c := TSegment.cs) (by kernel_rfl) rfl (eq_TSegment_cl _) (fun _ => rfl) (by decide) hv5 (fun tl5 => ?_)
        refine R 4 45 [(0, .ro .unk x0.length (TSegment.cl x0)), (2, .val (.func (.func 36) #[] #[])), (3, .val (.func (.func 90) #[] #[])), (9, iA 0), (10, .ptr 0 0), (16, .ro .unk x0.length (TSegment.cl x0)), (17, iA (lI x0)), (18, iA 0)] [.cells 71 (TSegment.cs v5)] (AOps_done (AWP_seq ?_))
        exact not_none H
      · refine AWP_exit ?_
        show AWP _ _ _ _ _ _ _
        refine AWP_reg (Rh 1 45 [(8, iA 0)] (AOps_done ?_))
        exact AWP_ret (FR H)
end Go.Proofs.YtjhbobacbaikoaaGreatDoor
/- A function of the program as a pure function, and that the program computes it. -/
namespace Go.Proofs.YtjhbobacbaikoaaGreatDoor
open Go
set_option linter.unusedVariables false
set_option linter.unusedSimpArgs false
set_option maxRecDepth 100000
def p_unicode_utf8_word_string (n : Nat) (x0 : ByteArray) : Option Int :=
(rdS x0 0).bind fun v1 =>
(rdS x0 1).bind fun v2 =>
(rdS x0 2).bind fun v3 =>
(rdS x0 3).bind fun v4 =>
(rdS x0 4).bind fun v5 =>
(rdS x0 5).bind fun v6 =>
(rdS x0 6).bind fun v7 =>
(rdS x0 7).bind fun v8 =>
 some (orI .u64 (orI .u64 (orI .u64 (orI .u64 (orI .u64 (orI .u64 (orI .u64 (IntKind.u64.wrap v1) (shlI .u64 (IntKind.u64.wrap v2) 8)) (shlI .u64 (IntKind.u64.wrap v3) 16)) (shlI .u64 (IntKind.u64.wrap v4) 24)) (shlI .u64 (IntKind.u64.wrap v5) 32)) (shlI .u64 (IntKind.u64.wrap v6) 40)) (shlI .u64 (IntKind.u64.wrap v7) 48)) (shlI .u64 (IntKind.u64.wrap v8) 56))
variable {E : Env}
theorem s_unicode_utf8_word_string {n : Nat} {x0 : ByteArray} {r : Int} (H : p_unicode_utf8_word_string n x0 = some r) :
    Sp Tryz.prog E 131 [sA x0] [] (isA (iK .u64 r) []) := by
  unfold p_unicode_utf8_word_string at H
  refine Sp_fn Tryz.func131 rfl (fun hc hs => ?_)
  refine AWP_reg (Rh 1 59 [(0, sA x0)] (AOps_done (AWP_seq (AWP_cond (t := false) (by kernel_rfl) (fun hb => ?_) (fun hb => ?_)))))
  · cases hb
  · refine AWP_skip ?_
    show AWP _ _ _ _ _ _ _
    obtain ⟨v1, hv1, H⟩ := bind_some H
    obtain ⟨v2, hv2, H⟩ := bind_some H
    obtain ⟨v3, hv3, H⟩ := bind_some H
    obtain ⟨v4, hv4, H⟩ := bind_some H
    obtain ⟨v5, hv5, H⟩ := bind_some H
    obtain ⟨v6, hv6, H⟩ := bind_some H
    obtain ⟨v7, hv7, H⟩ := bind_some H
    obtain ⟨v8, hv8, H⟩ := bind_some H
    refine AWP_regD1 [0, 1, 2, 3, 4, 5, 6, 7, 8, 9, 10, 11, 12, 13, 14, 15, 16, 17, 18, 19, 20, 21, 22, 23, 24, 25, 26, 27, 28, 29, 30, 31, 32, 33, 34, 35, 36, 37, 38] (N := 59) (f := [(0, sA x0)]) (leL_of [0] (by kernel_rfl)) mixed (by kernel_rfl) (by kernel_rfl) (st' := fr 59 [(2, iK .u64 (orI .u64 (orI .u64 (orI .u64 (orI .u64 (orI .u64 (orI .u64 (orI .u64 (IntKind.u64.wrap v1) (shlI .u64 (IntKind.u64.wrap v2) 8)) (shlI .u64 (IntKind.u64.wrap v3) 16)) (shlI .u64 (IntKind.u64.wrap v4) 24)) (shlI .u64 (IntKind.u64.wrap v5) 32)) (shlI .u64 (IntKind.u64.wrap v6) 40)) (shlI .u64 (IntKind.u64.wrap v7) 48)) (shlI .u64 (IntKind.u64.wrap v8) 56)))]) (h' := []) ?_ ?_
    rotate_left
    · refine RD 1 59 [] [(0, sA x0), (21, sA x0)] (AD_sindex (d := (some 22)) (by kernel_rfl) hv1 ?_)
      refine RD 2 59 [] [(0, sA x0), (21, sA x0), (22, iK .u8 v1), (23, iK .u64 (IntKind.u64.wrap v1)), (24, sA x0)] (AD_sindex (d := (some 25)) (by kernel_rfl) hv2 ?_)
      refine RD 4 59 [] [(0, sA x0), (21, sA x0), (22, iK .u8 v1), (23, iK .u64 (IntKind.u64.wrap v1)), (24, sA x0), (25, iK .u8 v2), (26, iK .u64 (IntKind.u64.wrap v2)), (27, iK .u64 (shlI .u64 (IntKind.u64.wrap v2) 8)), (28, iK .u64 (orI .u64 (IntKind.u64.wrap v1) (shlI .u64 (IntKind.u64.wrap v2) 8))), (29, sA x0)] (AD_sindex (d := (some 30)) (by kernel_rfl) hv3 ?_)
      refine RD 4 59 [] [(0, sA x0), (21, sA x0), (22, iK .u8 v1), (23, iK .u64 (IntKind.u64.wrap v1)), (24, sA x0), (25, iK .u8 v2), (26, iK .u64 (IntKind.u64.wrap v2)), (27, iK .u64 (shlI .u64 (IntKind.u64.wrap v2) 8)), (28, iK .u64 (orI .u64 (IntKind.u64.wrap v1) (shlI .u64 (IntKind.u64.wrap v2) 8))), (29, sA x0), (30, iK .u8 v3), (31, iK .u64 (IntKind.u64.wrap v3)), (32, iK .u64 (shlI .u64 (IntKind.u64.wrap v3) 16)), (33, iK .u64 (orI .u64 (orI .u64 (IntKind.u64.wrap v1) (shlI .u64 (IntKind.u64.wrap v2) 8)) (shlI .u64 (IntKind.u64.wrap v3) 16))), (34, sA x0)] (AD_sindex (d := (some 35)) (by kernel_rfl) hv4 ?_)
      refine RD 4 59 [] [(0, sA x0), (21, sA x0), (22, iK .u8 v1), (23, iK .u64 (IntKind.u64.wrap v1)), (24, sA x0), (25, iK .u8 v2), (26, iK .u64 (IntKind.u64.wrap v2)), (27, iK .u64 (shlI .u64 (IntKind.u64.wrap v2) 8)), (28, iK .u64 (orI .u64 (IntKind.u64.wrap v1) (shlI .u64 (IntKind.u64.wrap v2) 8))), (29, sA x0), (30, iK .u8 v3), (31, iK .u64 (IntKind.u64.wrap v3)), (32, iK .u64 (shlI .u64 (IntKind.u64.wrap v3) 16)), (33, iK .u64 (orI .u64 (orI .u64 (IntKind.u64.wrap v1) (shlI .u64 (IntKind.u64.wrap v2) 8)) (shlI .u64 (IntKind.u64.wrap v3) 16))), (34, sA x0), (35, iK .u8 v4), (36, iK .u64 (IntKind.u64.wrap v4)), (37, iK .u64 (shlI .u64 (IntKind.u64.wrap v4) 24)), (38, iK .u64 (orI .u64 (orI .u64 (orI .u64 (IntKind.u64.wrap v1) (shlI .u64 (IntKind.u64.wrap v2) 8)) (shlI .u64 (IntKind.u64.wrap v3) 16)) (shlI .u64 (IntKind.u64.wrap v4) 24))), (39, sA x0)] (AD_sindex (d := (some 40)) (by kernel_rfl) hv5 ?_)
      refine RD 4 59 [] [(0, sA x0), (21, sA x0), (22, iK .u8 v1), (23, iK .u64 (IntKind.u64.wrap v1)), (24, sA x0), (25, iK .u8 v2), (26, iK .u64 (IntKind.u64.wrap v2)), (27, iK .u64 (shlI .u64 (IntKind.u64.wrap v2) 8)), (28, iK .u64 (orI .u64 (IntKind.u64.wrap v1) (shlI .u64 (IntKind.u64.wrap v2) 8))), (29, sA x0), (30, iK .u8 v3), (31, iK .u64 (IntKind.u64.wrap v3)), (32, iK .u64 (shlI .u64 (IntKind.u64.wrap v3) 16)), (33, iK .u64 (orI .u64 (orI .u64 (IntKind.u64.wrap v1) (shlI .u64 (IntKind.u64.wrap v2) 8)) (shlI .u64 (IntKind.u64.wrap v3) 16))), (34, sA x0), (35, iK .u8 v4), (36, iK .u64 (IntKind.u64.wrap v4)), (37, iK .u64 (shlI .u64 (IntKind.u64.wrap v4) 24)), (38, iK .u64 (orI .u64 (orI .u64 (orI .u64 (IntKind.u64.wrap v1) (shlI .u64 (IntKind.u64.wrap v2) 8)) (shlI .u64 (IntKind.u64.wrap v3) 16)) (shlI .u64 (IntKind.u64.wrap v4) 24))), (39, sA x0), (40, iK .u8 v5), (41, iK .u64 (IntKind.u64.wrap v5)), (42, iK .u64 (shlI .u64 (IntKind.u64.wrap v5) 32)), (43, iK .u64 (orI .u64 (orI .u64 (orI .u64 (orI .u64 (IntKind.u64.wrap v1) (shlI .u64 (IntKind.u64.wrap v2) 8)) (shlI .u64 (IntKind.u64.wrap v3) 16)) (shlI .u64 (IntKind.u64.wrap v4) 24)) (shlI .u64 (IntKind.u64.wrap v5) 32))), (44, sA x0)] (AD_sindex (d := (some 45)) (by kernel_rfl) hv6 ?_)
      refine RD 4 59 [] [(0, sA x0), (21, sA x0), (22, iK .u8 v1), (23, iK .u64 (IntKind.u64.wrap v1)), (24, sA x0), (25, iK .u8 v2), (26, iK .u64 (IntKind.u64.wrap v2)), (27, iK .u64 (shlI .u64 (IntKind.u64.wrap v2) 8)), (28, iK .u64 (orI .u64 (IntKind.u64.wrap v1) (shlI .u64 (IntKind.u64.wrap v2) 8))), (29, sA x0), (30, iK .u8 v3), (31, iK .u64 (IntKind.u64.wrap v3)), (32, iK .u64 (shlI .u64 (IntKind.u64.wrap v3) 16)), (33, iK .u64 (orI .u64 (orI .u64 (IntKind.u64.wrap v1) (shlI .u64 (IntKind.u64.wrap v2) 8)) (shlI .u64 (IntKind.u64.wrap v3) 16))), (34, sA x0), (35, iK .u8 v4), (36, iK .u64 (IntKind.u64.wrap v4)), (37, iK .u64 (shlI .u64 (IntKind.u64.wrap v4) 24)), (38, iK .u64 (orI .u64 (orI .u64 (orI .u64 (IntKind.u64.wrap v1) (shlI .u64 (IntKind.u64.wrap v2) 8)) (shlI .u64 (IntKind.u64.wrap v3) 16)) (shlI .u64 (IntKind.u64.wrap v4) 24))), (39, sA x0), (40, iK .u8 v5), (41, iK .u64 (IntKind.u64.wrap v5)), (42, iK .u64 (shlI .u64 (IntKind.u64.wrap v5) 32)), (43, iK .u64 (orI .u64 (orI .u64 (orI .u64 (orI .u64 (IntKind.u64.wrap v1) (shlI .u64 (IntKind.u64.wrap v2) 8)) (shlI .u64 (IntKind.u64.wrap v3) 16)) (shlI .u64 (IntKind.u64.wrap v4) 24)) (shlI .u64 (IntKind.u64.wrap v5) 32))), (44, sA x0), (45, iK .u8 v6), (46, iK .u64 (IntKind.u64.wrap v6)), (47, iK .u64 (shlI .u64 (IntKind.u64.wrap v6) 40)), (48, iK .u64 (orI .u64 (orI .u64 (orI .u64 (orI .u64 (orI .u64 (IntKind.u64.wrap v1) (shlI .u64 (IntKind.u64.wrap v2) 8)) (shlI .u64 (IntKind.u64.wrap v3) 16)) (shlI .u64 (IntKind.u64.wrap v4) 24)) (shlI .u64 (IntKind.u64.wrap v5) 32)) (shlI .u64 (IntKind.u64.wrap v6) 40))), (49, sA x0)] (AD_sindex (d := (some 50)) (by kernel_rfl) hv7 ?_)
      refine RD 4 59 [] [(0, sA x0), (21, sA x0), (22, iK .u8 v1), (23, iK .u64 (IntKind.u64.wrap v1)), (24, sA x0), (25, iK .u8 v2), (26, iK .u64 (IntKind.u64.wrap v2)), (27, iK .u64 (shlI .u64 (IntKind.u64.wrap v2) 8)), (28, iK .u64 (orI .u64 (IntKind.u64.wrap v1) (shlI .u64 (IntKind.u64.wrap v2) 8))), (29, sA x0), (30, iK .u8 v3), (31, iK .u64 (IntKind.u64.wrap v3)), (32, iK .u64 (shlI .u64 (IntKind.u64.wrap v3) 16)), (33, iK .u64 (orI .u64 (orI .u64 (IntKind.u64.wrap v1) (shlI .u64 (IntKind.u64.wrap v2) 8)) (shlI .u64 (IntKind.u64.wrap v3) 16))), (34, sA x0), (35, iK .u8 v4), (36, iK .u64 (IntKind.u64.wrap v4)), (37, iK .u64 (shlI .u64 (IntKind.u64.wrap v4) 24)), (38, iK .u64 (orI .u64 (orI .u64 (orI .u64 (IntKind.u64.wrap v1) (shlI .u64 (IntKind.u64.wrap v2) 8)) (shlI .u64 (IntKind.u64.wrap v3) 16)) (shlI .u64 (IntKind.u64.wrap v4) 24))), (39, sA x0), (40, iK .u8 v5), (41, iK .u64 (IntKind.u64.wrap v5)), (42, iK .u64 (shlI .u64 (IntKind.u64.wrap v5) 32)), (43, iK .u64 (orI .u64 (orI .u64 (orI .u64 (orI .u64 (IntKind.u64.wrap v1) (shlI .u64 (IntKind.u64.wrap v2) 8)) (shlI .u64 (IntKind.u64.wrap v3) 16)) (shlI .u64 (IntKind.u64.wrap v4) 24)) (shlI .u64 (IntKind.u64.wrap v5) 32))), (44, sA x0), (45, iK .u8 v6), (46, iK .u64 (IntKind.u64.wrap v6)), (47, iK .u64 (shlI .u64 (IntKind.u64.wrap v6) 40)), (48, iK .u64 (orI .u64 (orI .u64 (orI .u64 (orI .u64 (orI .u64 (IntKind.u64.wrap v1) (shlI .u64 (IntKind.u64.wrap v2) 8)) (shlI .u64 (IntKind.u64.wrap v3) 16)) (shlI .u64 (IntKind.u64.wrap v4) 24)) (shlI .u64 (IntKind.u64.wrap v5) 32)) (shlI .u64 (IntKind.u64.wrap v6) 40))), (49, sA x0), (50, iK .u8 v7), (51, iK .u64 (IntKind.u64.wrap v7)), (52, iK .u64 (shlI .u64 (IntKind.u64.wrap v7) 48)), (53, iK .u64 (orI .u64 (orI .u64 (orI .u64 (orI .u64 (orI .u64 (orI .u64 (IntKind.u64.wrap v1) (shlI .u64 (IntKind.u64.wrap v2) 8)) (shlI .u64 (IntKind.u64.wrap v3) 16)) (shlI .u64 (IntKind.u64.wrap v4) 24)) (shlI .u64 (IntKind.u64.wrap v5) 32)) (shlI .u64 (IntKind.u64.wrap v6) 40)) (shlI .u64 (IntKind.u64.wrap v7) 48))), (54, sA x0)] (AD_sindex (d := (some 55)) (by kernel_rfl) hv8 ?_)
      refine RD 4 59 [] [(0, sA x0), (2, iK .u64 (orI .u64 (orI .u64 (orI .u64 (orI .u64 (orI .u64 (orI .u64 (orI .u64 (IntKind.u64.wrap v1) (shlI .u64 (IntKind.u64.wrap v2) 8)) (shlI .u64 (IntKind.u64.wrap v3) 16)) (shlI .u64 (IntKind.u64.wrap v4) 24)) (shlI .u64 (IntKind.u64.wrap v5) 32)) (shlI .u64 (IntKind.u64.wrap v6) 40)) (shlI .u64 (IntKind.u64.wrap v7) 48)) (shlI .u64 (IntKind.u64.wrap v8) 56))), (21, sA x0), (22, iK .u8 v1), (23, iK .u64 (IntKind.u64.wrap v1)), (24, sA x0), (25, iK .u8 v2), (26, iK .u64 (IntKind.u64.wrap v2)), (27, iK .u64 (shlI .u64 (IntKind.u64.wrap v2) 8)), (28, iK .u64 (orI .u64 (IntKind.u64.wrap v1) (shlI .u64 (IntKind.u64.wrap v2) 8))), (29, sA x0), (30, iK .u8 v3), (31, iK .u64 (IntKind.u64.wrap v3)), (32, iK .u64 (shlI .u64 (IntKind.u64.wrap v3) 16)), (33, iK .u64 (orI .u64 (orI .u64 (IntKind.u64.wrap v1) (shlI .u64 (IntKind.u64.wrap v2) 8)) (shlI .u64 (IntKind.u64.wrap v3) 16))), (34, sA x0), (35, iK .u8 v4), (36, iK .u64 (IntKind.u64.wrap v4)), (37, iK .u64 (shlI .u64 (IntKind.u64.wrap v4) 24)), (38, iK .u64 (orI .u64 (orI .u64 (orI .u64 (IntKind.u64.wrap v1) (shlI .u64 (IntKind.u64.wrap v2) 8)) (shlI .u64 (IntKind.u64.wrap v3) 16)) (shlI .u64 (IntKind.u64.wrap v4) 24))), (39, sA x0), (40, iK .u8 v5), (41, iK .u64 (IntKind.u64.wrap v5)), (42, iK .u64 (shlI .u64 (IntKind.u64.wrap v5) 32)), (43, iK .u64 (orI .u64 (orI .u64 (orI .u64 (orI .u64 (IntKind.u64.wrap v1) (shlI .u64 (IntKind.u64.wrap v2) 8)) (shlI .u64 (IntKind.u64.wrap v3) 16)) (shlI .u64 (IntKind.u64.wrap v4) 24)) (shlI .u64 (IntKind.u64.wrap v5) 32))), (44, sA x0), (45, iK .u8 v6), (46, iK .u64 (IntKind.u64.wrap v6)), (47, iK .u64 (shlI .u64 (IntKind.u64.wrap v6) 40)), (48, iK .u64 (orI .u64 (orI .u64 (orI .u64 (orI .u64 (orI .u64 (IntKind.u64.wrap v1) (shlI .u64 (IntKind.u64.wrap v2) 8)) (shlI .u64 (IntKind.u64.wrap v3) 16)) (shlI .u64 (IntKind.u64.wrap v4) 24)) (shlI .u64 (IntKind.u64.wrap v5) 32)) (shlI .u64 (IntKind.u64.wrap v6) 40))), (49, sA x0), (50, iK .u8 v7), (51, iK .u64 (IntKind.u64.wrap v7)), (52, iK .u64 (shlI .u64 (IntKind.u64.wrap v7) 48)), (53, iK .u64 (orI .u64 (orI .u64 (orI .u64 (orI .u64 (orI .u64 (orI .u64 (IntKind.u64.wrap v1) (shlI .u64 (IntKind.u64.wrap v2) 8)) (shlI .u64 (IntKind.u64.wrap v3) 16)) (shlI .u64 (IntKind.u64.wrap v4) 24)) (shlI .u64 (IntKind.u64.wrap v5) 32)) (shlI .u64 (IntKind.u64.wrap v6) 40)) (shlI .u64 (IntKind.u64.wrap v7) 48))), (54, sA x0), (55, iK .u8 v8), (56, iK .u64 (IntKind.u64.wrap v8)), (57, iK .u64 (shlI .u64 (IntKind.u64.wrap v8) 56)), (58, iK .u64 (orI .u64 (orI .u64 (orI .u64 (orI .u64 (orI .u64 (orI .u64 (orI .u64 (IntKind.u64.wrap v1) (shlI .u64 (IntKind.u64.wrap v2) 8)) (shlI .u64 (IntKind.u64.wrap v3) 16)) (shlI .u64 (IntKind.u64.wrap v4) 24)) (shlI .u64 (IntKind.u64.wrap v5) 32)) (shlI .u64 (IntKind.u64.wrap v6) 40)) (shlI .u64 (IntKind.u64.wrap v7) 48)) (shlI .u64 (IntKind.u64.wrap v8) 56)))] ?_
      exact AD_here [2] (by kernel_rfl) rfl
    exact AWP_ret (FR H)
end Go.Proofs.YtjhbobacbaikoaaGreatDoor
/- A function of the program as a pure function, and that the program computes it. -/
namespace Go.Proofs.YtjhbobacbaikoaaGreatDoor
open Go
set_option linter.unusedVariables false
set_option linter.unusedSimpArgs false
set_option maxRecDepth 100000
mutual
def p_unicode_utf8_ValidString_K1 (n : Nat) (v248 : ByteArray) : Option Bool := match n with
| 0 => none
| n + 1 =>
 p_unicode_utf8_ValidString_L1 n  v248
def p_unicode_utf8_ValidString_L2 (n : Nat) (v276 : ByteArray) : Option Bool := match n with
| 0 => none
| n + 1 =>
(bif decide ((szI v276) > 32) then cutS v276 8 (szI v276) else some ByteArray.empty).bind fun v277 =>
(bif decide ((szI v276) > 32) then cutS v276 16 (szI v276) else some ByteArray.empty).bind fun v278 =>
(bif decide ((szI v276) > 32) then cutS v276 24 (szI v276) else some ByteArray.empty).bind fun v279 =>
(bif decide ((szI v276) > 32) then p_unicode_utf8_word_string n v276 else some (0)).bind fun v280 =>
(bif decide ((szI v276) > 32) then p_unicode_utf8_word_string n v277 else some (0)).bind fun v281 =>
(bif decide ((szI v276) > 32) then p_unicode_utf8_word_string n v278 else some (0)).bind fun v282 =>
(bif decide ((szI v276) > 32) then p_unicode_utf8_word_string n v279 else some (0)).bind fun v283 =>
(bif (decide ((szI v276) > 32)) && ((andI .u64 (orI .u64 (orI .u64 v280 v281) (orI .u64 v282 v283)) 9259542123273814144) == 0) then
(cutS v276 32 (szI v276)).bind fun v285 =>
 p_unicode_utf8_ValidString_L2 n  v285
 else
 p_unicode_utf8_ValidString_K1 n  v276)
def p_unicode_utf8_ValidString_L1 (n : Nat) (v206 : ByteArray) : Option Bool := match n with
| 0 => none
| n + 1 =>
(bif decide ((szI v206) > 0) then
(rdS v206 0).bind fun v208 =>
(bif decide (v208 < 128) then
(cutS v206 1 (szI v206)).bind fun v210 =>
(bif decide ((szI v210) > 8) then p_unicode_utf8_word_string n v210 else some (0)).bind fun v249 =>
(bif (decide ((szI v210) > 8)) && ((andI .u64 v249 9259542123273814144) == 0) then
(cutS v210 8 (szI v210)).bind fun v251 =>
(bif decide ((szI v251) > 16) then cutS v251 8 (szI v251) else some ByteArray.empty).bind fun v252 =>
(bif decide ((szI v251) > 16) then p_unicode_utf8_word_string n v251 else some (0)).bind fun v253 =>
(bif decide ((szI v251) > 16) then p_unicode_utf8_word_string n v252 else some (0)).bind fun v254 =>
(bif (decide ((szI v251) > 16)) && ((andI .u64 (orI .u64 v253 v254) 9259542123273814144) == 0) then
(cutS v251 16 (szI v251)).bind fun v256 =>
 p_unicode_utf8_ValidString_L2 n  v256
 else
 p_unicode_utf8_ValidString_K1 n  v251)
 else
 p_unicode_utf8_ValidString_K1 n  v210)
 else
(rdO gl_first v208).bind fun v286 =>
(rdO gl_acceptRanges (shrI .u8 v286 4)).bind fun v287 =>
(bif (w64 (andI .u8 v286 7)) == 2 then
(bif !(decide ((szI v206) < 2)) then rdS v206 1 else some 0).bind fun v289 =>
(bif !((decide ((szI v206) < 2)) || (decide (v289 < v287.glo))) then rdS v206 1 else some 0).bind fun v290 =>
(bif ((decide ((szI v206) < 2)) || (decide (v289 < v287.glo))) || (decide (v287.ghi < v290)) then
 some (false)
 else
(cutS v206 2 (szI v206)).bind fun v292 =>
 p_unicode_utf8_ValidString_L1 n  v292)
 else
(bif (w64 (andI .u8 v286 7)) == 3 then
(bif !(decide ((szI v206) < 3)) then rdS v206 1 else some 0).bind fun v294 =>
(bif !((decide ((szI v206) < 3)) || (decide (v294 < v287.glo))) then rdS v206 1 else some 0).bind fun v295 =>
(bif !(((decide ((szI v206) < 3)) || (decide (v294 < v287.glo))) || (decide (v287.ghi < v295))) then rdS v206 2 else some 0).bind fun v296 =>
(bif !((((decide ((szI v206) < 3)) || (decide (v294 < v287.glo))) || (decide (v287.ghi < v295))) || (decide (v296 < 128))) then rdS v206 2 else some 0).bind fun v297 =>
(bif ((((decide ((szI v206) < 3)) || (decide (v294 < v287.glo))) || (decide (v287.ghi < v295))) || (decide (v296 < 128))) || (decide (191 < v297)) then
 some (false)
 else
(cutS v206 3 (szI v206)).bind fun v299 =>
 p_unicode_utf8_ValidString_L1 n  v299)
 else
(bif (w64 (andI .u8 v286 7)) == 4 then
(bif !(decide ((szI v206) < 4)) then rdS v206 1 else some 0).bind fun v301 =>
(bif !((decide ((szI v206) < 4)) || (decide (v301 < v287.glo))) then rdS v206 1 else some 0).bind fun v302 =>
(bif !(((decide ((szI v206) < 4)) || (decide (v301 < v287.glo))) || (decide (v287.ghi < v302))) then rdS v206 2 else some 0).bind fun v303 =>
(bif !((((decide ((szI v206) < 4)) || (decide (v301 < v287.glo))) || (decide (v287.ghi < v302))) || (decide (v303 < 128))) then rdS v206 2 else some 0).bind fun v304 =>
(bif !(((((decide ((szI v206) < 4)) || (decide (v301 < v287.glo))) || (decide (v287.ghi < v302))) || (decide (v303 < 128))) || (decide (191 < v304))) then rdS v206 3 else some 0).bind fun v305 =>
(bif !((((((decide ((szI v206) < 4)) || (decide (v301 < v287.glo))) || (decide (v287.ghi < v302))) || (decide (v303 < 128))) || (decide (191 < v304))) || (decide (v305 < 128))) then rdS v206 3 else some 0).bind fun v306 =>
(bif ((((((decide ((szI v206) < 4)) || (decide (v301 < v287.glo))) || (decide (v287.ghi < v302))) || (decide (v303 < 128))) || (decide (191 < v304))) || (decide (v305 < 128))) || (decide (191 < v306)) then
 some (false)
 else
(cutS v206 4 (szI v206)).bind fun v308 =>
 p_unicode_utf8_ValidString_L1 n  v308)
 else
 some (false)))))
 else
 some (true))
end
def p_unicode_utf8_ValidString (n : Nat) (x0 : ByteArray) : Option Bool :=
 p_unicode_utf8_ValidString_L1 n  x0
variable {E : Env}
theorem s_unicode_utf8_ValidString {n : Nat} (hG : GlobT E) {x0 : ByteArray} {r : Bool} (H : p_unicode_utf8_ValidString n x0 = some r) :
    Sp Tryz.prog E 110 [sA x0] [] (isA (bA r) []) := by
  unfold p_unicode_utf8_ValidString at H
  refine Sp_fn Tryz.func110 rfl (fun hc hs => ?_)
  refine AWP_reg (Rh 1 169 [(0, sA x0)] (AOps_done (AWP_seq (AWP_block ?_))))
  refine AWP_loopN (α := ByteArray) (fun v206 => fr 169 [(0, sA v206)]) (fun v206 => []) (fun k_ v206 => k_ ≤ n ∧ p_unicode_utf8_ValidString_L1 k_  v206 = some r) (fun n v206 H => ?_) (k := n) x0 ⟨Nat.le_refl _, H⟩ (Norm_fd [0] 0 (by kernel_rfl) rfl rfl trivial (by refine scL_fr ?_; exact ⟨trivial, trivial⟩))
  show AWP _ _ _ _ _ (fr 169 [(0, sA v206)]) []
  obtain ⟨hb_, H⟩ := H
  replace H : p_unicode_utf8_ValidString_L1 n  v206 = some r := H
  cases n with
  | zero => exact not_none (by simpa only [p_unicode_utf8_ValidString_L1] using H)
  | succ n =>
    unfold p_unicode_utf8_ValidString_L1 at H
    refine AWP_seq (AWP_reg (Rh 3 169 [(0, sA v206), (9, bA (decide ((szI v206) > 0)))] (AOps_done (CD H (fun hb207 H => ?_) (fun hb207 H => ?_)))))
    · refine AWP_skip ?_
      show AWP _ _ _ _ _ _ _
      refine AWP_block ?_
      refine AWP_reg (Rh 1 169 [(0, sA v206), (10, sA v206)] ?_)
      obtain ⟨v208, hv208, H⟩ := bind_some H
      refine AOps_sindex (d := (some 11)) (by kernel_rfl) hv208 ?_
      refine Rh 1 169 [(0, sA v206), (3, iK .u8 v208)] (AOps_done (AWP_seq (AWP_reg (Rh 2 169 [(0, sA v206), (3, iK .u8 v208), (13, bA (decide (v208 < 128)))] (AOps_done (CD H (fun hb209 H => ?_) (fun hb209 H => ?_)))))))
      · refine AWP_reg (Rh 1 169 [(14, sA v206)] ?_)
        obtain ⟨v210, hv210, H⟩ := bind_some H
        refine AOps_scut (d := (some 15)) (by kernel_rfl) hv210 ?_
        refine Rh 1 169 [(0, sA v210)] (AOps_done (AWP_joinN (α := ByteArray) (fun v248 => fr 169 [(0, sA v248)]) (fun v248 => []) (fun v248 => ∃ q, q ≤ n ∧ p_unicode_utf8_ValidString_K1 q  v248 = some r) (fun v248 hC => ?_) ?_))
        · show AWP _ _ _ _ _ (fr 169 [(0, sA v248)]) []
          obtain ⟨n, hn_, hC⟩ := hC
          replace H : p_unicode_utf8_ValidString_K1 n  v248 = some r := hC
          cases n with
          | zero => exact not_none (by simpa only [p_unicode_utf8_ValidString_K1] using H)
          | succ n =>
            unfold p_unicode_utf8_ValidString_K1 at H
            refine AWP_exit ?_
            exact Exists.intro v248 (Exists.intro n ⟨by omega, ⟨by omega, H⟩, Norm_fd [0] 0 (by kernel_rfl) rfl rfl trivial (by refine scL_fr ?_; exact ⟨trivial, trivial⟩)⟩)
        · refine AWP_reg (Rh 4 169 [(0, sA v210), (19, bA (decide ((szI v210) > 8)))] ?_)
          obtain ⟨v249, hv249, H⟩ := bind_some H
          refine AOps_cut 5 (st' := fr 169 [(0, sA v210), (24, bA ((decide ((szI v210) > 8)) && ((andI .u64 v249 9259542123273814144) == 0)))]) (h' := []) ?_ ?_
          rotate_left
          · cases c1 : (decide ((szI v210) > 8) : Bool) with
            | true =>
              refine R 1 169 [(0, sA v210), (19, bA true), (20, sA v210)] [] ?_
              have hv249_ := cond_t hv249 (by simp only [c1] <;> rfl)
              refine AOps_callp (d := (some 21)) (al := [sA v210]) (r := iK .u64 v249) (by kernel_rfl) (s_unicode_utf8_word_string hv249_) ⟨trivial, trivial⟩ trivial ?_
              refine R 3 169 [(0, sA v210), (24, bA (true && ((andI .u64 v249 9259542123273814144) == 0)))] [] ?_
              exact AOps_here [0, 24] (by kernel_rfl) rfl
            | false =>
              refine R 5 169 [(0, sA v210), (24, bA (false && ((andI .u64 v249 9259542123273814144) == 0)))] [] ?_
              exact AOps_here [0, 24] (by kernel_rfl) rfl
          refine AOps_done (CD H (fun hb250 H => ?_) (fun hb250 H => ?_))
          · refine AWP_reg (Rh 1 169 [(25, sA v210)] ?_)
            obtain ⟨v251, hv251, H⟩ := bind_some H
            refine AOps_scut (d := (some 26)) (by kernel_rfl) hv251 ?_
            refine Rh 1 169 [(0, sA v251)] (AOps_done ?_)
            obtain ⟨v252, hv252, H⟩ := bind_some H
            obtain ⟨v253, hv253, H⟩ := bind_some H
            obtain ⟨v254, hv254, H⟩ := bind_some H
            refine AWP_regD1 [0, 1, 2, 3, 4, 6, 7, 5, 8, 9, 10, 11, 12] (N := 169) (f := [(0, sA v251)]) (leL_of [0] (by kernel_rfl)) mixed (by kernel_rfl) (by kernel_rfl) (st' := fr 169 [(0, sA v251), (39, bA ((decide ((szI v251) > 16)) && ((andI .u64 (orI .u64 v253 v254) 9259542123273814144) == 0)))]) (h' := []) ?_ ?_
            rotate_left
            · refine RD 4 169 [] [(0, sA v251), (27, sA v251), (28, iA (szI v251)), (29, bA (decide ((szI v251) > 16))), (30, bA (decide ((szI v251) > 16)))] ?_
              cases c1 : (decide ((szI v251) > 16) : Bool) with
              | true =>
                refine RD 2 169 [] [(0, sA v251), (27, sA v251), (28, iA (szI v251)), (29, bA true), (30, bA true), (31, sA v251), (33, sA v251)] ?_
                have hv252_ := cond_t hv252 (by simp only [c1] <;> rfl)
                refine AD_scut (d := (some 34)) (by kernel_rfl) hv252_ ?_
                have hv253_ := cond_t hv253 (by simp only [c1] <;> rfl)
                refine AD_callp (d := (some 32)) (al := [sA v251]) (r := iK .u64 v253) (by kernel_rfl) (s_unicode_utf8_word_string hv253_) ⟨trivial, trivial⟩ trivial ?_
                have hv254_ := cond_t hv254 (by simp only [c1] <;> rfl)
                refine AD_callp (d := (some 35)) (al := [sA v252]) (r := iK .u64 v254) (by kernel_rfl) (s_unicode_utf8_word_string hv254_) ⟨trivial, trivial⟩ trivial ?_
                refine RD 4 169 [] [(0, sA v251), (27, sA v251), (28, iA (szI v251)), (29, bA true), (30, bA true), (31, sA v251), (32, iK .u64 v253), (33, sA v251), (34, sA v252), (35, iK .u64 v254), (36, iK .u64 (orI .u64 v253 v254)), (37, iK .u64 (andI .u64 (orI .u64 v253 v254) 9259542123273814144)), (38, bA ((andI .u64 (orI .u64 v253 v254) 9259542123273814144) == 0)), (39, bA (true && ((andI .u64 (orI .u64 v253 v254) 9259542123273814144) == 0)))] ?_
                exact AD_here [0, 39] (by kernel_rfl) rfl
              | false =>
                refine RD 3 169 [] [(0, sA v251), (27, sA v251), (28, iA (szI v251)), (29, bA false), (30, bA false), (31, undefA), (33, undefA), (34, undefA)] (AD_offB (d := some 32) (by kernel_rfl) ?_)
                refine AD_offB (d := some 35) (by kernel_rfl) ?_
                refine RD 4 169 [] [(0, sA v251), (27, sA v251), (28, iA (szI v251)), (29, bA false), (30, bA false), (31, undefA), (32, undefA), (33, undefA), (34, undefA), (35, undefA), (36, undefA), (37, undefA), (38, undefA), (39, bA (false && ((andI .u64 (orI .u64 v253 v254) 9259542123273814144) == 0)))] ?_
                exact AD_here [0, 39] (by kernel_rfl) rfl
            refine CD H (fun hb255 H => ?_) (fun hb255 H => ?_)
            · refine AWP_reg (Rh 1 169 [(40, sA v251)] ?_)
              obtain ⟨v256, hv256, H⟩ := bind_some H
              refine AOps_scut (d := (some 41)) (by kernel_rfl) hv256 ?_
              refine Rh 1 169 [(0, sA v256)] (AOps_done (AWP_block ?_))
              refine AWP_loopN (α := ByteArray) (fun v276 => fr 169 [(0, sA v276)]) (fun v276 => []) (fun k_ v276 => k_ ≤ n ∧ p_unicode_utf8_ValidString_L2 k_  v276 = some r) (fun n v276 H => ?_) (k := n) v256 ⟨Nat.le_refl _, H⟩ (Norm_fd [0] 0 (by kernel_rfl) rfl rfl trivial (by refine scL_fr ?_; exact ⟨trivial, trivial⟩))
              show AWP _ _ _ _ _ (fr 169 [(0, sA v276)]) []
              obtain ⟨hb_, H⟩ := H
              replace H : p_unicode_utf8_ValidString_L2 n  v276 = some r := H
              cases n with
              | zero => exact not_none (by simpa only [p_unicode_utf8_ValidString_L2] using H)
              | succ n =>
                unfold p_unicode_utf8_ValidString_L2 at H
                refine AWP_seq ?_
                obtain ⟨v277, hv277, H⟩ := bind_some H
                obtain ⟨v278, hv278, H⟩ := bind_some H
                obtain ⟨v279, hv279, H⟩ := bind_some H
                obtain ⟨v280, hv280, H⟩ := bind_some H
                obtain ⟨v281, hv281, H⟩ := bind_some H
                obtain ⟨v282, hv282, H⟩ := bind_some H
                obtain ⟨v283, hv283, H⟩ := bind_some H
                refine AWP_regD1 [0, 1, 2, 3, 4, 6, 7, 10, 11, 13, 14, 5, 8, 9, 12, 15, 16, 17, 18, 19, 20] (N := 169) (f := [(0, sA v276)]) (leL_of [0] (by kernel_rfl)) mixed (by kernel_rfl) (by kernel_rfl) (st' := fr 169 [(0, sA v276), (62, bA ((decide ((szI v276) > 32)) && ((andI .u64 (orI .u64 (orI .u64 v280 v281) (orI .u64 v282 v283)) 9259542123273814144) == 0)))]) (h' := []) ?_ ?_
                rotate_left
                · refine RD 4 169 [] [(0, sA v276), (42, sA v276), (43, iA (szI v276)), (44, bA (decide ((szI v276) > 32))), (45, bA (decide ((szI v276) > 32)))] ?_
                  cases c1 : (decide ((szI v276) > 32) : Bool) with
                  | true =>
                    refine RD 2 169 [] [(0, sA v276), (42, sA v276), (43, iA (szI v276)), (44, bA true), (45, bA true), (46, sA v276), (48, sA v276)] ?_
                    have hv277_ := cond_t hv277 (by simp only [c1] <;> rfl)
                    refine AD_scut (d := (some 49)) (by kernel_rfl) hv277_ ?_
                    refine RD 1 169 [] [(0, sA v276), (42, sA v276), (43, iA (szI v276)), (44, bA true), (45, bA true), (46, sA v276), (48, sA v276), (49, sA v277), (52, sA v276)] ?_
                    have hv278_ := cond_t hv278 (by simp only [c1] <;> rfl)
                    refine AD_scut (d := (some 53)) (by kernel_rfl) hv278_ ?_
                    refine RD 1 169 [] [(0, sA v276), (42, sA v276), (43, iA (szI v276)), (44, bA true), (45, bA true), (46, sA v276), (48, sA v276), (49, sA v277), (52, sA v276), (53, sA v278), (55, sA v276)] ?_
                    have hv279_ := cond_t hv279 (by simp only [c1] <;> rfl)
                    refine AD_scut (d := (some 56)) (by kernel_rfl) hv279_ ?_
                    have hv280_ := cond_t hv280 (by simp only [c1] <;> rfl)
                    refine AD_callp (d := (some 47)) (al := [sA v276]) (r := iK .u64 v280) (by kernel_rfl) (s_unicode_utf8_word_string hv280_) ⟨trivial, trivial⟩ trivial ?_
                    have hv281_ := cond_t hv281 (by simp only [c1] <;> rfl)
                    refine AD_callp (d := (some 50)) (al := [sA v277]) (r := iK .u64 v281) (by kernel_rfl) (s_unicode_utf8_word_string hv281_) ⟨trivial, trivial⟩ trivial ?_
                    refine RD 1 169 [] [(0, sA v276), (42, sA v276), (43, iA (szI v276)), (44, bA true), (45, bA true), (46, sA v276), (47, iK .u64 v280), (48, sA v276), (49, sA v277), (50, iK .u64 v281), (51, iK .u64 (orI .u64 v280 v281)), (52, sA v276), (53, sA v278), (55, sA v276), (56, sA v279)] ?_
                    have hv282_ := cond_t hv282 (by simp only [c1] <;> rfl)
                    refine AD_callp (d := (some 54)) (al := [sA v278]) (r := iK .u64 v282) (by kernel_rfl) (s_unicode_utf8_word_string hv282_) ⟨trivial, trivial⟩ trivial ?_
                    have hv283_ := cond_t hv283 (by simp only [c1] <;> rfl)
                    refine AD_callp (d := (some 57)) (al := [sA v279]) (r := iK .u64 v283) (by kernel_rfl) (s_unicode_utf8_word_string hv283_) ⟨trivial, trivial⟩ trivial ?_
                    refine RD 5 169 [] [(0, sA v276), (42, sA v276), (43, iA (szI v276)), (44, bA true), (45, bA true), (46, sA v276), (47, iK .u64 v280), (48, sA v276), (49, sA v277), (50, iK .u64 v281), (51, iK .u64 (orI .u64 v280 v281)), (52, sA v276), (53, sA v278), (54, iK .u64 v282), (55, sA v276), (56, sA v279), (57, iK .u64 v283), (58, iK .u64 (orI .u64 v282 v283)), (59, iK .u64 (orI .u64 (orI .u64 v280 v281) (orI .u64 v282 v283))), (60, iK .u64 (andI .u64 (orI .u64 (orI .u64 v280 v281) (orI .u64 v282 v283)) 9259542123273814144)), (61, bA ((andI .u64 (orI .u64 (orI .u64 v280 v281) (orI .u64 v282 v283)) 9259542123273814144) == 0)), (62, bA (true && ((andI .u64 (orI .u64 (orI .u64 v280 v281) (orI .u64 v282 v283)) 9259542123273814144) == 0)))] ?_
                    exact AD_here [0, 62] (by kernel_rfl) rfl
                  | false =>
                    refine RD 7 169 [] [(0, sA v276), (42, sA v276), (43, iA (szI v276)), (44, bA false), (45, bA false), (46, undefA), (48, undefA), (49, undefA), (52, undefA), (53, undefA), (55, undefA), (56, undefA)] (AD_offB (d := some 47) (by kernel_rfl) ?_)
                    refine AD_offB (d := some 50) (by kernel_rfl) ?_
                    refine RD 1 169 [] [(0, sA v276), (42, sA v276), (43, iA (szI v276)), (44, bA false), (45, bA false), (46, undefA), (47, undefA), (48, undefA), (49, undefA), (50, undefA), (51, undefA), (52, undefA), (53, undefA), (55, undefA), (56, undefA)] (AD_offB (d := some 54) (by kernel_rfl) ?_)
                    refine AD_offB (d := some 57) (by kernel_rfl) ?_
                    refine RD 5 169 [] [(0, sA v276), (42, sA v276), (43, iA (szI v276)), (44, bA false), (45, bA false), (46, undefA), (47, undefA), (48, undefA), (49, undefA), (50, undefA), (51, undefA), (52, undefA), (53, undefA), (54, undefA), (55, undefA), (56, undefA), (57, undefA), (58, undefA), (59, undefA), (60, undefA), (61, undefA), (62, bA (false && ((andI .u64 (orI .u64 (orI .u64 v280 v281) (orI .u64 v282 v283)) 9259542123273814144) == 0)))] ?_
                    exact AD_here [0, 62] (by kernel_rfl) rfl
                refine CD H (fun hb284 H => ?_) (fun hb284 H => ?_)
                · refine AWP_skip ?_
                  show AWP _ _ _ _ _ _ _
                  refine AWP_block ?_
                  refine AWP_region ?_
                  refine Rh 1 169 [(63, sA v276)] ?_
                  obtain ⟨v285, hv285, H⟩ := bind_some H
                  refine AOps_scut (d := (some 64)) (by kernel_rfl) hv285 ?_
                  refine Rh 1 169 [(0, sA v285)] (AOps_done ?_)
                  exact Exists.intro v285 (Exists.intro n ⟨by omega, ⟨by omega, H⟩, Norm_fd [0] 0 (by kernel_rfl) rfl rfl trivial (by refine scL_fr ?_; exact ⟨trivial, trivial⟩)⟩)
                · refine AWP_exit ?_
                  exact Exists.intro v276 ⟨⟨n, by omega, H⟩, Norm_fd [0] 0 (by kernel_rfl) rfl rfl trivial (by refine scL_fr ?_; exact ⟨trivial, trivial⟩)⟩
            · refine AWP_skip ?_
              exact Exists.intro v251 ⟨⟨n, by omega, H⟩, Norm_fd [0] 0 (by kernel_rfl) rfl rfl trivial (by refine scL_fr ?_; exact ⟨trivial, trivial⟩)⟩
          · refine AWP_skip ?_
            exact Exists.intro v210 ⟨⟨n, by omega, H⟩, Norm_fd [0] 0 (by kernel_rfl) rfl rfl trivial (by refine scL_fr ?_; exact ⟨trivial, trivial⟩)⟩
      · refine AWP_skip ?_
        show AWP _ _ _ _ _ _ _
        refine AWP_reg (Rh 1 169 [(0, sA v206), (65, iK .u8 v208)] ?_)
        obtain ⟨v286, hv286, H⟩ := bind_some H
        refine AOps_gindex (d := (some 66)) (g := 4) (c := cs_u8) (sz := 1) (xs := gl_first) (by kernel_rfl) hG.g4 (eq_cl_u8 _) rfl (fun _ => rfl) hv286 (fun tl286 => ?_)
        refine Rh 2 169 [(0, sA v206), (4, iK .u8 v286)] (AOps_done (AWP_reg (Rh 4 169 [(0, sA v206), (4, iK .u8 v286), (5, iA (w64 (andI .u8 v286 7)))] (AOps_done (AWP_reg (Rh 2 169 [(0, sA v206), (5, iA (w64 (andI .u8 v286 7))), (72, iK .u8 (shrI .u8 v286 4))] ?_))))))
        obtain ⟨v287, hv287, H⟩ := bind_some H
        refine AOps_gindex (d := (some 73)) (g := 5) (c := TacceptRange.cs) (sz := 2) (xs := gl_acceptRanges) (by kernel_rfl) hG.g5 (eq_TacceptRange_cl _) rfl (fun _ => rfl) hv287 (fun tl287 => ?_)
        refine R 3 169 [(0, sA v206), (5, iA (w64 (andI .u8 v286 7))), (6, .ptr 0 0)] [.cells 184 (TacceptRange.cs v287)] (AOps_done (AWP_reg (Rh 1 169 [(0, sA v206), (6, .ptr 0 0), (75, iA (w64 (andI .u8 v286 7)))] (AOps_done (AWP_block ?_)))))
        refine AWP_reg (Rh 2 169 [(0, sA v206), (6, .ptr 0 0), (75, iA (w64 (andI .u8 v286 7))), (76, bA ((w64 (andI .u8 v286 7)) == 2))] (AOps_done (CD H (fun hb288 H => ?_) (fun hb288 H => ?_))))
        · refine AWP_seq ?_
          obtain ⟨v289, hv289, H⟩ := bind_some H
          obtain ⟨v290, hv290, H⟩ := bind_some H
          refine AWP_regD1 [0, 1, 2, 3, 4, 5, 6, 7, 8, 9, 10, 11, 12, 13, 14, 15, 16] (N := 169) (f := [(0, sA v206), (6, .ptr 0 0)]) (leL_of [0, 6] (by kernel_rfl)) mixed (by kernel_rfl) (by kernel_rfl) (st' := fr 169 [(0, sA v206), (94, bA (((decide ((szI v206) < 2)) || (decide (v289 < v287.glo))) || (decide (v287.ghi < v290))))]) (h' := [.cells 184 (TacceptRange.cs v287)]) ?_ ?_
          rotate_left
          · refine RD 4 169 [] [(0, sA v206), (6, .ptr 0 0), (78, sA v206), (79, iA (szI v206)), (80, bA (decide ((szI v206) < 2))), (81, bA (decide ((szI v206) < 2)))] ?_
            cases c1 : (decide ((szI v206) < 2) : Bool) with
            | true =>
              refine RD 13 169 [] [(0, sA v206), (6, .ptr 0 0), (78, sA v206), (79, iA (szI v206)), (80, bA true), (81, bA true), (82, undefA), (83, undefA), (84, undefA), (85, undefA), (86, undefA), (87, bA (true || (decide (v289 < v287.glo)))), (88, bA (true || (decide (v289 < v287.glo)))), (89, undefA), (90, undefA), (91, undefA), (92, undefA), (93, undefA), (94, bA ((true || (decide (v289 < v287.glo))) || (decide (v287.ghi < v290))))] ?_
              exact AD_here [0, 94] (by kernel_rfl) rfl
            | false =>
              refine RD 1 169 [] [(0, sA v206), (6, .ptr 0 0), (78, sA v206), (79, iA (szI v206)), (80, bA false), (81, bA false), (82, sA v206)] ?_
              have hv289_ := cond_t hv289 (by simp only [c1] <;> rfl)
              refine AD_sindex (d := (some 83)) (by kernel_rfl) hv289_ ?_
              refine RD 5 169 [(7, 0), (6, 0)] [(0, sA v206), (6, .ptr 0 0), (78, sA v206), (79, iA (szI v206)), (80, bA false), (81, bA false), (82, sA v206), (83, iK .u8 v289), (84, .ptr 0 0), (85, iK .u8 v287.glo), (86, bA (decide (v289 < v287.glo))), (87, bA (false || (decide (v289 < v287.glo)))), (88, bA (false || (decide (v289 < v287.glo))))] ?_
              cases c2 : (decide (v289 < v287.glo) : Bool) with
              | true =>
                refine RD 6 169 [(7, 0), (6, 0)] [(0, sA v206), (6, .ptr 0 0), (78, sA v206), (79, iA (szI v206)), (80, bA false), (81, bA false), (82, sA v206), (83, iK .u8 v289), (84, .ptr 0 0), (85, iK .u8 v287.glo), (86, bA true), (87, bA (false || true)), (88, bA (false || true)), (89, undefA), (90, undefA), (91, undefA), (92, undefA), (93, undefA), (94, bA ((false || true) || (decide (v287.ghi < v290))))] ?_
                exact AD_here [0, 94] (by kernel_rfl) rfl
              | false =>
                refine RD 3 169 [(12, 0), (11, 0), (7, 0), (6, 0)] [(0, sA v206), (6, .ptr 0 0), (78, sA v206), (79, iA (szI v206)), (80, bA false), (81, bA false), (82, sA v206), (83, iK .u8 v289), (84, .ptr 0 0), (85, iK .u8 v287.glo), (86, bA false), (87, bA (false || false)), (88, bA (false || false)), (89, .ptr 0 1), (90, iK .u8 v287.ghi), (91, sA v206)] ?_
                have hv290_ := cond_t hv290 (by simp only [c1, c2] <;> rfl)
                refine AD_sindex (d := (some 92)) (by kernel_rfl) hv290_ ?_
                refine RD 2 169 [(12, 0), (11, 0), (7, 0), (6, 0)] [(0, sA v206), (6, .ptr 0 0), (78, sA v206), (79, iA (szI v206)), (80, bA false), (81, bA false), (82, sA v206), (83, iK .u8 v289), (84, .ptr 0 0), (85, iK .u8 v287.glo), (86, bA false), (87, bA (false || false)), (88, bA (false || false)), (89, .ptr 0 1), (90, iK .u8 v287.ghi), (91, sA v206), (92, iK .u8 v290), (93, bA (decide (v287.ghi < v290))), (94, bA ((false || false) || (decide (v287.ghi < v290))))] ?_
                exact AD_here [0, 94] (by kernel_rfl) rfl
          refine CD H (fun hb291 H => ?_) (fun hb291 H => ?_)
          · refine AWP_reg (Rh 1 169 [(2, bA false)] (AOps_done ?_))
            exact AWP_ret (FR H)
          · refine AWP_skip ?_
            show AWP _ _ _ _ _ _ _
            refine AWP_region ?_
            refine Rh 1 169 [(95, sA v206)] ?_
            obtain ⟨v292, hv292, H⟩ := bind_some H
            refine AOps_scut (d := (some 96)) (by kernel_rfl) hv292 ?_
            refine Rh 1 169 [(0, sA v292)] (AOps_done ?_)
            exact Exists.intro v292 (Exists.intro n ⟨by omega, ⟨by omega, H⟩, Norm_fd [0] 1 (by kernel_rfl) rfl rfl trivial (by refine scL_fr ?_; exact ⟨trivial, trivial⟩)⟩)
        · refine AWP_reg (Rh 2 169 [(0, sA v206), (6, .ptr 0 0), (75, iA (w64 (andI .u8 v286 7))), (97, bA ((w64 (andI .u8 v286 7)) == 3))] (AOps_done (CD H (fun hb293 H => ?_) (fun hb293 H => ?_))))
          · refine AWP_seq ?_
            obtain ⟨v294, hv294, H⟩ := bind_some H
            obtain ⟨v295, hv295, H⟩ := bind_some H
            obtain ⟨v296, hv296, H⟩ := bind_some H
            obtain ⟨v297, hv297, H⟩ := bind_some H
            refine AWP_regD1 [0, 1, 2, 3, 4, 5, 6, 7, 8, 9, 10, 11, 12, 13, 14, 15, 16, 17, 18, 19, 20, 21, 22, 23, 24, 25, 26] (N := 169) (f := [(0, sA v206), (6, .ptr 0 0)]) (leL_of [0, 6] (by kernel_rfl)) mixed (by kernel_rfl) (by kernel_rfl) (st' := fr 169 [(0, sA v206), (125, bA (((((decide ((szI v206) < 3)) || (decide (v294 < v287.glo))) || (decide (v287.ghi < v295))) || (decide (v296 < 128))) || (decide (191 < v297))))]) (h' := [.cells 184 (TacceptRange.cs v287)]) ?_ ?_
            rotate_left
            · refine RD 4 169 [] [(0, sA v206), (6, .ptr 0 0), (99, sA v206), (100, iA (szI v206)), (101, bA (decide ((szI v206) < 3))), (102, bA (decide ((szI v206) < 3)))] ?_
              cases c1 : (decide ((szI v206) < 3) : Bool) with
              | true =>
                refine RD 23 169 [] [(0, sA v206), (6, .ptr 0 0), (99, sA v206), (100, iA (szI v206)), (101, bA true), (102, bA true), (103, undefA), (104, undefA), (105, undefA), (106, undefA), (107, undefA), (108, bA (true || (decide (v294 < v287.glo)))), (109, bA (true || (decide (v294 < v287.glo)))), (110, undefA), (111, undefA), (112, undefA), (113, undefA), (114, undefA), (115, bA ((true || (decide (v294 < v287.glo))) || (decide (v287.ghi < v295)))), (116, bA ((true || (decide (v294 < v287.glo))) || (decide (v287.ghi < v295)))), (117, undefA), (118, undefA), (119, undefA), (120, bA (((true || (decide (v294 < v287.glo))) || (decide (v287.ghi < v295))) || (decide (v296 < 128)))), (121, bA (((true || (decide (v294 < v287.glo))) || (decide (v287.ghi < v295))) || (decide (v296 < 128)))), (122, undefA), (123, undefA), (124, undefA), (125, bA ((((true || (decide (v294 < v287.glo))) || (decide (v287.ghi < v295))) || (decide (v296 < 128))) || (decide (191 < v297))))] ?_
                exact AD_here [0, 125] (by kernel_rfl) rfl
              | false =>
                refine RD 1 169 [] [(0, sA v206), (6, .ptr 0 0), (99, sA v206), (100, iA (szI v206)), (101, bA false), (102, bA false), (103, sA v206)] ?_
                have hv294_ := cond_t hv294 (by simp only [c1] <;> rfl)
                refine AD_sindex (d := (some 104)) (by kernel_rfl) hv294_ ?_
                refine RD 5 169 [(7, 0), (6, 0)] [(0, sA v206), (6, .ptr 0 0), (99, sA v206), (100, iA (szI v206)), (101, bA false), (102, bA false), (103, sA v206), (104, iK .u8 v294), (105, .ptr 0 0), (106, iK .u8 v287.glo), (107, bA (decide (v294 < v287.glo))), (108, bA (false || (decide (v294 < v287.glo)))), (109, bA (false || (decide (v294 < v287.glo))))] ?_
                cases c2 : (decide (v294 < v287.glo) : Bool) with
                | true =>
                  refine RD 16 169 [(7, 0), (6, 0)] [(0, sA v206), (6, .ptr 0 0), (99, sA v206), (100, iA (szI v206)), (101, bA false), (102, bA false), (103, sA v206), (104, iK .u8 v294), (105, .ptr 0 0), (106, iK .u8 v287.glo), (107, bA true), (108, bA (false || true)), (109, bA (false || true)), (110, undefA), (111, undefA), (112, undefA), (113, undefA), (114, undefA), (115, bA ((false || true) || (decide (v287.ghi < v295)))), (116, bA ((false || true) || (decide (v287.ghi < v295)))), (117, undefA), (118, undefA), (119, undefA), (120, bA (((false || true) || (decide (v287.ghi < v295))) || (decide (v296 < 128)))), (121, bA (((false || true) || (decide (v287.ghi < v295))) || (decide (v296 < 128)))), (122, undefA), (123, undefA), (124, undefA), (125, bA ((((false || true) || (decide (v287.ghi < v295))) || (decide (v296 < 128))) || (decide (191 < v297))))] ?_
                  exact AD_here [0, 125] (by kernel_rfl) rfl
                | false =>
                  refine RD 3 169 [(12, 0), (11, 0), (7, 0), (6, 0)] [(0, sA v206), (6, .ptr 0 0), (99, sA v206), (100, iA (szI v206)), (101, bA false), (102, bA false), (103, sA v206), (104, iK .u8 v294), (105, .ptr 0 0), (106, iK .u8 v287.glo), (107, bA false), (108, bA (false || false)), (109, bA (false || false)), (110, .ptr 0 1), (111, iK .u8 v287.ghi), (112, sA v206)] ?_
                  have hv295_ := cond_t hv295 (by simp only [c1, c2] <;> rfl)
                  refine AD_sindex (d := (some 113)) (by kernel_rfl) hv295_ ?_
                  refine RD 3 169 [(12, 0), (11, 0), (7, 0), (6, 0)] [(0, sA v206), (6, .ptr 0 0), (99, sA v206), (100, iA (szI v206)), (101, bA false), (102, bA false), (103, sA v206), (104, iK .u8 v294), (105, .ptr 0 0), (106, iK .u8 v287.glo), (107, bA false), (108, bA (false || false)), (109, bA (false || false)), (110, .ptr 0 1), (111, iK .u8 v287.ghi), (112, sA v206), (113, iK .u8 v295), (114, bA (decide (v287.ghi < v295))), (115, bA ((false || false) || (decide (v287.ghi < v295)))), (116, bA ((false || false) || (decide (v287.ghi < v295))))] ?_
                  cases c3 : (decide (v287.ghi < v295) : Bool) with
                  | true =>
                    refine RD 9 169 [(12, 0), (11, 0), (7, 0), (6, 0)] [(0, sA v206), (6, .ptr 0 0), (99, sA v206), (100, iA (szI v206)), (101, bA false), (102, bA false), (103, sA v206), (104, iK .u8 v294), (105, .ptr 0 0), (106, iK .u8 v287.glo), (107, bA false), (108, bA (false || false)), (109, bA (false || false)), (110, .ptr 0 1), (111, iK .u8 v287.ghi), (112, sA v206), (113, iK .u8 v295), (114, bA true), (115, bA ((false || false) || true)), (116, bA ((false || false) || true)), (117, undefA), (118, undefA), (119, undefA), (120, bA (((false || false) || true) || (decide (v296 < 128)))), (121, bA (((false || false) || true) || (decide (v296 < 128)))), (122, undefA), (123, undefA), (124, undefA), (125, bA ((((false || false) || true) || (decide (v296 < 128))) || (decide (191 < v297))))] ?_
                    exact AD_here [0, 125] (by kernel_rfl) rfl
                  | false =>
                    refine RD 1 169 [(12, 0), (11, 0), (7, 0), (6, 0)] [(0, sA v206), (6, .ptr 0 0), (99, sA v206), (100, iA (szI v206)), (101, bA false), (102, bA false), (103, sA v206), (104, iK .u8 v294), (105, .ptr 0 0), (106, iK .u8 v287.glo), (107, bA false), (108, bA (false || false)), (109, bA (false || false)), (110, .ptr 0 1), (111, iK .u8 v287.ghi), (112, sA v206), (113, iK .u8 v295), (114, bA false), (115, bA ((false || false) || false)), (116, bA ((false || false) || false)), (117, sA v206)] ?_
                    have hv296_ := cond_t hv296 (by simp only [c1, c2, c3] <;> rfl)
                    refine AD_sindex (d := (some 118)) (by kernel_rfl) hv296_ ?_
                    refine RD 3 169 [(12, 0), (11, 0), (7, 0), (6, 0)] [(0, sA v206), (6, .ptr 0 0), (99, sA v206), (100, iA (szI v206)), (101, bA false), (102, bA false), (103, sA v206), (104, iK .u8 v294), (105, .ptr 0 0), (106, iK .u8 v287.glo), (107, bA false), (108, bA (false || false)), (109, bA (false || false)), (110, .ptr 0 1), (111, iK .u8 v287.ghi), (112, sA v206), (113, iK .u8 v295), (114, bA false), (115, bA ((false || false) || false)), (116, bA ((false || false) || false)), (117, sA v206), (118, iK .u8 v296), (119, bA (decide (v296 < 128))), (120, bA (((false || false) || false) || (decide (v296 < 128)))), (121, bA (((false || false) || false) || (decide (v296 < 128))))] ?_
                    cases c4 : (decide (v296 < 128) : Bool) with
                    | true =>
                      refine RD 4 169 [(12, 0), (11, 0), (7, 0), (6, 0)] [(0, sA v206), (6, .ptr 0 0), (99, sA v206), (100, iA (szI v206)), (101, bA false), (102, bA false), (103, sA v206), (104, iK .u8 v294), (105, .ptr 0 0), (106, iK .u8 v287.glo), (107, bA false), (108, bA (false || false)), (109, bA (false || false)), (110, .ptr 0 1), (111, iK .u8 v287.ghi), (112, sA v206), (113, iK .u8 v295), (114, bA false), (115, bA ((false || false) || false)), (116, bA ((false || false) || false)), (117, sA v206), (118, iK .u8 v296), (119, bA true), (120, bA (((false || false) || false) || true)), (121, bA (((false || false) || false) || true)), (122, undefA), (123, undefA), (124, undefA), (125, bA ((((false || false) || false) || true) || (decide (191 < v297))))] ?_
                      exact AD_here [0, 125] (by kernel_rfl) rfl
                    | false =>
                      refine RD 1 169 [(12, 0), (11, 0), (7, 0), (6, 0)] [(0, sA v206), (6, .ptr 0 0), (99, sA v206), (100, iA (szI v206)), (101, bA false), (102, bA false), (103, sA v206), (104, iK .u8 v294), (105, .ptr 0 0), (106, iK .u8 v287.glo), (107, bA false), (108, bA (false || false)), (109, bA (false || false)), (110, .ptr 0 1), (111, iK .u8 v287.ghi), (112, sA v206), (113, iK .u8 v295), (114, bA false), (115, bA ((false || false) || false)), (116, bA ((false || false) || false)), (117, sA v206), (118, iK .u8 v296), (119, bA false), (120, bA (((false || false) || false) || false)), (121, bA (((false || false) || false) || false)), (122, sA v206)] ?_
                      have hv297_ := cond_t hv297 (by simp only [c1, c2, c3, c4] <;> rfl)
                      refine AD_sindex (d := (some 123)) (by kernel_rfl) hv297_ ?_
                      refine RD 2 169 [(12, 0), (11, 0), (7, 0), (6, 0)] [(0, sA v206), (6, .ptr 0 0), (99, sA v206), (100, iA (szI v206)), (101, bA false), (102, bA false), (103, sA v206), (104, iK .u8 v294), (105, .ptr 0 0), (106, iK .u8 v287.glo), (107, bA false), (108, bA (false || false)), (109, bA (false || false)), (110, .ptr 0 1), (111, iK .u8 v287.ghi), (112, sA v206), (113, iK .u8 v295), (114, bA false), (115, bA ((false || false) || false)), (116, bA ((false || false) || false)), (117, sA v206), (118, iK .u8 v296), (119, bA false), (120, bA (((false || false) || false) || false)), (121, bA (((false || false) || false) || false)), (122, sA v206), (123, iK .u8 v297), (124, bA (decide (191 < v297))), (125, bA ((((false || false) || false) || false) || (decide (191 < v297))))] ?_
                      exact AD_here [0, 125] (by kernel_rfl) rfl
            refine CD H (fun hb298 H => ?_) (fun hb298 H => ?_)
            · refine AWP_reg (Rh 1 169 [(2, bA false)] (AOps_done ?_))
              exact AWP_ret (FR H)
            · refine AWP_skip ?_
              show AWP _ _ _ _ _ _ _
              refine AWP_region ?_
              refine Rh 1 169 [(126, sA v206)] ?_
              obtain ⟨v299, hv299, H⟩ := bind_some H
              refine AOps_scut (d := (some 127)) (by kernel_rfl) hv299 ?_
              refine Rh 1 169 [(0, sA v299)] (AOps_done ?_)
              exact Exists.intro v299 (Exists.intro n ⟨by omega, ⟨by omega, H⟩, Norm_fd [0] 1 (by kernel_rfl) rfl rfl trivial (by refine scL_fr ?_; exact ⟨trivial, trivial⟩)⟩)
          · refine AWP_reg (Rh 2 169 [(0, sA v206), (6, .ptr 0 0), (128, bA ((w64 (andI .u8 v286 7)) == 4))] (AOps_done (CD H (fun hb300 H => ?_) (fun hb300 H => ?_))))
            · refine AWP_seq ?_
              obtain ⟨v301, hv301, H⟩ := bind_some H
              obtain ⟨v302, hv302, H⟩ := bind_some H
              obtain ⟨v303, hv303, H⟩ := bind_some H
              obtain ⟨v304, hv304, H⟩ := bind_some H
              obtain ⟨v305, hv305, H⟩ := bind_some H
              obtain ⟨v306, hv306, H⟩ := bind_some H
              refine AWP_regD1 [0, 1, 2, 3, 4, 5, 6, 7, 8, 9, 10, 11, 12, 13, 14, 15, 16, 17, 18, 19, 20, 21, 22, 23, 24, 25, 26, 27, 28, 29, 30, 31, 32, 33, 34, 35, 36] (N := 169) (f := [(0, sA v206), (6, .ptr 0 0)]) (leL_of [0, 6] (by kernel_rfl)) mixed (by kernel_rfl) (by kernel_rfl) (st' := fr 169 [(0, sA v206), (166, bA (((((((decide ((szI v206) < 4)) || (decide (v301 < v287.glo))) || (decide (v287.ghi < v302))) || (decide (v303 < 128))) || (decide (191 < v304))) || (decide (v305 < 128))) || (decide (191 < v306))))]) (h' := [.cells 184 (TacceptRange.cs v287)]) ?_ ?_
              rotate_left
              · refine RD 4 169 [] [(0, sA v206), (6, .ptr 0 0), (130, sA v206), (131, iA (szI v206)), (132, bA (decide ((szI v206) < 4))), (133, bA (decide ((szI v206) < 4)))] ?_
                cases c1 : (decide ((szI v206) < 4) : Bool) with
                | true =>
                  refine RD 33 169 [] [(0, sA v206), (6, .ptr 0 0), (130, sA v206), (131, iA (szI v206)), (132, bA true), (133, bA true), (134, undefA), (135, undefA), (136, undefA), (137, undefA), (138, undefA), (139, bA (true || (decide (v301 < v287.glo)))), (140, bA (true || (decide (v301 < v287.glo)))), (141, undefA), (142, undefA), (143, undefA), (144, undefA), (145, undefA), (146, bA ((true || (decide (v301 < v287.glo))) || (decide (v287.ghi < v302)))), (147, bA ((true || (decide (v301 < v287.glo))) || (decide (v287.ghi < v302)))), (148, undefA), (149, undefA), (150, undefA), (151, bA (((true || (decide (v301 < v287.glo))) || (decide (v287.ghi < v302))) || (decide (v303 < 128)))), (152, bA (((true || (decide (v301 < v287.glo))) || (decide (v287.ghi < v302))) || (decide (v303 < 128)))), (153, undefA), (154, undefA), (155, undefA), (156, bA ((((true || (decide (v301 < v287.glo))) || (decide (v287.ghi < v302))) || (decide (v303 < 128))) || (decide (191 < v304)))), (157, bA ((((true || (decide (v301 < v287.glo))) || (decide (v287.ghi < v302))) || (decide (v303 < 128))) || (decide (191 < v304)))), (158, undefA), (159, undefA), (160, undefA), (161, bA (((((true || (decide (v301 < v287.glo))) || (decide (v287.ghi < v302))) || (decide (v303 < 128))) || (decide (191 < v304))) || (decide (v305 < 128)))), (162, bA (((((true || (decide (v301 < v287.glo))) || (decide (v287.ghi < v302))) || (decide (v303 < 128))) || (decide (191 < v304))) || (decide (v305 < 128)))), (163, undefA), (164, undefA), (165, undefA), (166, bA ((((((true || (decide (v301 < v287.glo))) || (decide (v287.ghi < v302))) || (decide (v303 < 128))) || (decide (191 < v304))) || (decide (v305 < 128))) || (decide (191 < v306))))] ?_
                  exact AD_here [0, 166] (by kernel_rfl) rfl
                | false =>
                  refine RD 1 169 [] [(0, sA v206), (6, .ptr 0 0), (130, sA v206), (131, iA (szI v206)), (132, bA false), (133, bA false), (134, sA v206)] ?_
                  have hv301_ := cond_t hv301 (by simp only [c1] <;> rfl)
                  refine AD_sindex (d := (some 135)) (by kernel_rfl) hv301_ ?_
                  refine RD 5 169 [(7, 0), (6, 0)] [(0, sA v206), (6, .ptr 0 0), (130, sA v206), (131, iA (szI v206)), (132, bA false), (133, bA false), (134, sA v206), (135, iK .u8 v301), (136, .ptr 0 0), (137, iK .u8 v287.glo), (138, bA (decide (v301 < v287.glo))), (139, bA (false || (decide (v301 < v287.glo)))), (140, bA (false || (decide (v301 < v287.glo))))] ?_
                  cases c2 : (decide (v301 < v287.glo) : Bool) with
                  | true =>
                    refine RD 26 169 [(7, 0), (6, 0)] [(0, sA v206), (6, .ptr 0 0), (130, sA v206), (131, iA (szI v206)), (132, bA false), (133, bA false), (134, sA v206), (135, iK .u8 v301), (136, .ptr 0 0), (137, iK .u8 v287.glo), (138, bA true), (139, bA (false || true)), (140, bA (false || true)), (141, undefA), (142, undefA), (143, undefA), (144, undefA), (145, undefA), (146, bA ((false || true) || (decide (v287.ghi < v302)))), (147, bA ((false || true) || (decide (v287.ghi < v302)))), (148, undefA), (149, undefA), (150, undefA), (151, bA (((false || true) || (decide (v287.ghi < v302))) || (decide (v303 < 128)))), (152, bA (((false || true) || (decide (v287.ghi < v302))) || (decide (v303 < 128)))), (153, undefA), (154, undefA), (155, undefA), (156, bA ((((false || true) || (decide (v287.ghi < v302))) || (decide (v303 < 128))) || (decide (191 < v304)))), (157, bA ((((false || true) || (decide (v287.ghi < v302))) || (decide (v303 < 128))) || (decide (191 < v304)))), (158, undefA), (159, undefA), (160, undefA), (161, bA (((((false || true) || (decide (v287.ghi < v302))) || (decide (v303 < 128))) || (decide (191 < v304))) || (decide (v305 < 128)))), (162, bA (((((false || true) || (decide (v287.ghi < v302))) || (decide (v303 < 128))) || (decide (191 < v304))) || (decide (v305 < 128)))), (163, undefA), (164, undefA), (165, undefA), (166, bA ((((((false || true) || (decide (v287.ghi < v302))) || (decide (v303 < 128))) || (decide (191 < v304))) || (decide (v305 < 128))) || (decide (191 < v306))))] ?_
                    exact AD_here [0, 166] (by kernel_rfl) rfl
                  | false =>
                    refine RD 3 169 [(12, 0), (11, 0), (7, 0), (6, 0)] [(0, sA v206), (6, .ptr 0 0), (130, sA v206), (131, iA (szI v206)), (132, bA false), (133, bA false), (134, sA v206), (135, iK .u8 v301), (136, .ptr 0 0), (137, iK .u8 v287.glo), (138, bA false), (139, bA (false || false)), (140, bA (false || false)), (141, .ptr 0 1), (142, iK .u8 v287.ghi), (143, sA v206)] ?_
                    have hv302_ := cond_t hv302 (by simp only [c1, c2] <;> rfl)
                    refine AD_sindex (d := (some 144)) (by kernel_rfl) hv302_ ?_
                    refine RD 3 169 [(12, 0), (11, 0), (7, 0), (6, 0)] [(0, sA v206), (6, .ptr 0 0), (130, sA v206), (131, iA (szI v206)), (132, bA false), (133, bA false), (134, sA v206), (135, iK .u8 v301), (136, .ptr 0 0), (137, iK .u8 v287.glo), (138, bA false), (139, bA (false || false)), (140, bA (false || false)), (141, .ptr 0 1), (142, iK .u8 v287.ghi), (143, sA v206), (144, iK .u8 v302), (145, bA (decide (v287.ghi < v302))), (146, bA ((false || false) || (decide (v287.ghi < v302)))), (147, bA ((false || false) || (decide (v287.ghi < v302))))] ?_
                    cases c3 : (decide (v287.ghi < v302) : Bool) with
                    | true =>
                      refine RD 19 169 [(12, 0), (11, 0), (7, 0), (6, 0)] [(0, sA v206), (6, .ptr 0 0), (130, sA v206), (131, iA (szI v206)), (132, bA false), (133, bA false), (134, sA v206), (135, iK .u8 v301), (136, .ptr 0 0), (137, iK .u8 v287.glo), (138, bA false), (139, bA (false || false)), (140, bA (false || false)), (141, .ptr 0 1), (142, iK .u8 v287.ghi), (143, sA v206), (144, iK .u8 v302), (145, bA true), (146, bA ((false || false) || true)), (147, bA ((false || false) || true)), (148, undefA), (149, undefA), (150, undefA), (151, bA (((false || false) || true) || (decide (v303 < 128)))), (152, bA (((false || false) || true) || (decide (v303 < 128)))), (153, undefA), (154, undefA), (155, undefA), (156, bA ((((false || false) || true) || (decide (v303 < 128))) || (decide (191 < v304)))), (157, bA ((((false || false) || true) || (decide (v303 < 128))) || (decide (191 < v304)))), (158, undefA), (159, undefA), (160, undefA), (161, bA (((((false || false) || true) || (decide (v303 < 128))) || (decide (191 < v304))) || (decide (v305 < 128)))), (162, bA (((((false || false) || true) || (decide (v303 < 128))) || (decide (191 < v304))) || (decide (v305 < 128)))), (163, undefA), (164, undefA), (165, undefA), (166, bA ((((((false || false) || true) || (decide (v303 < 128))) || (decide (191 < v304))) || (decide (v305 < 128))) || (decide (191 < v306))))] ?_
                      exact AD_here [0, 166] (by kernel_rfl) rfl
                    | false =>
                      refine RD 1 169 [(12, 0), (11, 0), (7, 0), (6, 0)] [(0, sA v206), (6, .ptr 0 0), (130, sA v206), (131, iA (szI v206)), (132, bA false), (133, bA false), (134, sA v206), (135, iK .u8 v301), (136, .ptr 0 0), (137, iK .u8 v287.glo), (138, bA false), (139, bA (false || false)), (140, bA (false || false)), (141, .ptr 0 1), (142, iK .u8 v287.ghi), (143, sA v206), (144, iK .u8 v302), (145, bA false), (146, bA ((false || false) || false)), (147, bA ((false || false) || false)), (148, sA v206)] ?_
                      have hv303_ := cond_t hv303 (by simp only [c1, c2, c3] <;> rfl)
                      refine AD_sindex (d := (some 149)) (by kernel_rfl) hv303_ ?_
                      refine RD 3 169 [(12, 0), (11, 0), (7, 0), (6, 0)] [(0, sA v206), (6, .ptr 0 0), (130, sA v206), (131, iA (szI v206)), (132, bA false), (133, bA false), (134, sA v206), (135, iK .u8 v301), (136, .ptr 0 0), (137, iK .u8 v287.glo), (138, bA false), (139, bA (false || false)), (140, bA (false || false)), (141, .ptr 0 1), (142, iK .u8 v287.ghi), (143, sA v206), (144, iK .u8 v302), (145, bA false), (146, bA ((false || false) || false)), (147, bA ((false || false) || false)), (148, sA v206), (149, iK .u8 v303), (150, bA (decide (v303 < 128))), (151, bA (((false || false) || false) || (decide (v303 < 128)))), (152, bA (((false || false) || false) || (decide (v303 < 128))))] ?_
                      cases c4 : (decide (v303 < 128) : Bool) with
                      | true =>
                        refine RD 14 169 [(12, 0), (11, 0), (7, 0), (6, 0)] [(0, sA v206), (6, .ptr 0 0), (130, sA v206), (131, iA (szI v206)), (132, bA false), (133, bA false), (134, sA v206), (135, iK .u8 v301), (136, .ptr 0 0), (137, iK .u8 v287.glo), (138, bA false), (139, bA (false || false)), (140, bA (false || false)), (141, .ptr 0 1), (142, iK .u8 v287.ghi), (143, sA v206), (144, iK .u8 v302), (145, bA false), (146, bA ((false || false) || false)), (147, bA ((false || false) || false)), (148, sA v206), (149, iK .u8 v303), (150, bA true), (151, bA (((false || false) || false) || true)), (152, bA (((false || false) || false) || true)), (153, undefA), (154, undefA), (155, undefA), (156, bA ((((false || false) || false) || true) || (decide (191 < v304)))), (157, bA ((((false || false) || false) || true) || (decide (191 < v304)))), (158, undefA), (159, undefA), (160, undefA), (161, bA (((((false || false) || false) || true) || (decide (191 < v304))) || (decide (v305 < 128)))), (162, bA (((((false || false) || false) || true) || (decide (191 < v304))) || (decide (v305 < 128)))), (163, undefA), (164, undefA), (165, undefA), (166, bA ((((((false || false) || false) || true) || (decide (191 < v304))) || (decide (v305 < 128))) || (decide (191 < v306))))] ?_
                        exact AD_here [0, 166] (by kernel_rfl) rfl
                      | false =>
                        refine RD 1 169 [(12, 0), (11, 0), (7, 0), (6, 0)] [(0, sA v206), (6, .ptr 0 0), (130, sA v206), (131, iA (szI v206)), (132, bA false), (133, bA false), (134, sA v206), (135, iK .u8 v301), (136, .ptr 0 0), (137, iK .u8 v287.glo), (138, bA false), (139, bA (false || false)), (140, bA (false || false)), (141, .ptr 0 1), (142, iK .u8 v287.ghi), (143, sA v206), (144, iK .u8 v302), (145, bA false), (146, bA ((false || false) || false)), (147, bA ((false || false) || false)), (148, sA v206), (149, iK .u8 v303), (150, bA false), (151, bA (((false || false) || false) || false)), (152, bA (((false || false) || false) || false)), (153, sA v206)] ?_
                        have hv304_ := cond_t hv304 (by simp only [c1, c2, c3, c4] <;> rfl)
                        refine AD_sindex (d := (some 154)) (by kernel_rfl) hv304_ ?_
                        refine RD 3 169 [(12, 0), (11, 0), (7, 0), (6, 0)] [(0, sA v206), (6, .ptr 0 0), (130, sA v206), (131, iA (szI v206)), (132, bA false), (133, bA false), (134, sA v206), (135, iK .u8 v301), (136, .ptr 0 0), (137, iK .u8 v287.glo), (138, bA false), (139, bA (false || false)), (140, bA (false || false)), (141, .ptr 0 1), (142, iK .u8 v287.ghi), (143, sA v206), (144, iK .u8 v302), (145, bA false), (146, bA ((false || false) || false)), (147, bA ((false || false) || false)), (148, sA v206), (149, iK .u8 v303), (150, bA false), (151, bA (((false || false) || false) || false)), (152, bA (((false || false) || false) || false)), (153, sA v206), (154, iK .u8 v304), (155, bA (decide (191 < v304))), (156, bA ((((false || false) || false) || false) || (decide (191 < v304)))), (157, bA ((((false || false) || false) || false) || (decide (191 < v304))))] ?_
                        cases c5 : (decide (191 < v304) : Bool) with
                        | true =>
                          refine RD 9 169 [(12, 0), (11, 0), (7, 0), (6, 0)] [(0, sA v206), (6, .ptr 0 0), (130, sA v206), (131, iA (szI v206)), (132, bA false), (133, bA false), (134, sA v206), (135, iK .u8 v301), (136, .ptr 0 0), (137, iK .u8 v287.glo), (138, bA false), (139, bA (false || false)), (140, bA (false || false)), (141, .ptr 0 1), (142, iK .u8 v287.ghi), (143, sA v206), (144, iK .u8 v302), (145, bA false), (146, bA ((false || false) || false)), (147, bA ((false || false) || false)), (148, sA v206), (149, iK .u8 v303), (150, bA false), (151, bA (((false || false) || false) || false)), (152, bA (((false || false) || false) || false)), (153, sA v206), (154, iK .u8 v304), (155, bA true), (156, bA ((((false || false) || false) || false) || true)), (157, bA ((((false || false) || false) || false) || true)), (158, undefA), (159, undefA), (160, undefA), (161, bA (((((false || false) || false) || false) || true) || (decide (v305 < 128)))), (162, bA (((((false || false) || false) || false) || true) || (decide (v305 < 128)))), (163, undefA), (164, undefA), (165, undefA), (166, bA ((((((false || false) || false) || false) || true) || (decide (v305 < 128))) || (decide (191 < v306))))] ?_
                          exact AD_here [0, 166] (by kernel_rfl) rfl
                        | false =>
                          refine RD 1 169 [(12, 0), (11, 0), (7, 0), (6, 0)] [(0, sA v206), (6, .ptr 0 0), (130, sA v206), (131, iA (szI v206)), (132, bA false), (133, bA false), (134, sA v206), (135, iK .u8 v301), (136, .ptr 0 0), (137, iK .u8 v287.glo), (138, bA false), (139, bA (false || false)), (140, bA (false || false)), (141, .ptr 0 1), (142, iK .u8 v287.ghi), (143, sA v206), (144, iK .u8 v302), (145, bA false), (146, bA ((false || false) || false)), (147, bA ((false || false) || false)), (148, sA v206), (149, iK .u8 v303), (150, bA false), (151, bA (((false || false) || false) || false)), (152, bA (((false || false) || false) || false)), (153, sA v206), (154, iK .u8 v304), (155, bA false), (156, bA ((((false || false) || false) || false) || false)), (157, bA ((((false || false) || false) || false) || false)), (158, sA v206)] ?_
                          have hv305_ := cond_t hv305 (by simp only [c1, c2, c3, c4, c5] <;> rfl)
                          refine AD_sindex (d := (some 159)) (by kernel_rfl) hv305_ ?_
                          refine RD 3 169 [(12, 0), (11, 0), (7, 0), (6, 0)] [(0, sA v206), (6, .ptr 0 0), (130, sA v206), (131, iA (szI v206)), (132, bA false), (133, bA false), (134, sA v206), (135, iK .u8 v301), (136, .ptr 0 0), (137, iK .u8 v287.glo), (138, bA false), (139, bA (false || false)), (140, bA (false || false)), (141, .ptr 0 1), (142, iK .u8 v287.ghi), (143, sA v206), (144, iK .u8 v302), (145, bA false), (146, bA ((false || false) || false)), (147, bA ((false || false) || false)), (148, sA v206), (149, iK .u8 v303), (150, bA false), (151, bA (((false || false) || false) || false)), (152, bA (((false || false) || false) || false)), (153, sA v206), (154, iK .u8 v304), (155, bA false), (156, bA ((((false || false) || false) || false) || false)), (157, bA ((((false || false) || false) || false) || false)), (158, sA v206), (159, iK .u8 v305), (160, bA (decide (v305 < 128))), (161, bA (((((false || false) || false) || false) || false) || (decide (v305 < 128)))), (162, bA (((((false || false) || false) || false) || false) || (decide (v305 < 128))))] ?_
                          cases c6 : (decide (v305 < 128) : Bool) with
                          | true =>
                            refine RD 4 169 [(12, 0), (11, 0), (7, 0), (6, 0)] [(0, sA v206), (6, .ptr 0 0), (130, sA v206), (131, iA (szI v206)), (132, bA false), (133, bA false), (134, sA v206), (135, iK .u8 v301), (136, .ptr 0 0), (137, iK .u8 v287.glo), (138, bA false), (139, bA (false || false)), (140, bA (false || false)), (141, .ptr 0 1), (142, iK .u8 v287.ghi), (143, sA v206), (144, iK .u8 v302), (145, bA false), (146, bA ((false || false) || false)), (147, bA ((false || false) || false)), (148, sA v206), (149, iK .u8 v303), (150, bA false), (151, bA (((false || false) || false) || false)), (152, bA (((false || false) || false) || false)), (153, sA v206), (154, iK .u8 v304), (155, bA false), (156, bA ((((false || false) || false) || false) || false)), (157, bA ((((false || false) || false) || false) || false)), (158, sA v206), (159, iK .u8 v305), (160, bA true), (161, bA (((((false || false) || false) || false) || false) || true)), (162, bA (((((false || false) || false) || false) || false) || true)), (163, undefA), (164, undefA), (165, undefA), (166, bA ((((((false || false) || false) || false) || false) || true) || (decide (191 < v306))))] ?_
                            exact AD_here [0, 166] (by kernel_rfl) rfl
                          | false =>
                            refine RD 1 169 [(12, 0), (11, 0), (7, 0), (6, 0)] [(0, sA v206), (6, .ptr 0 0), (130, sA v206), (131, iA (szI v206)), (132, bA false), (133, bA false), (134, sA v206), (135, iK .u8 v301), (136, .ptr 0 0), (137, iK .u8 v287.glo), (138, bA false), (139, bA (false || false)), (140, bA (false || false)), (141, .ptr 0 1), (142, iK .u8 v287.ghi), (143, sA v206), (144, iK .u8 v302), (145, bA false), (146, bA ((false || false) || false)), (147, bA ((false || false) || false)), (148, sA v206), (149, iK .u8 v303), (150, bA false), (151, bA (((false || false) || false) || false)), (152, bA (((false || false) || false) || false)), (153, sA v206), (154, iK .u8 v304), (155, bA false), (156, bA ((((false || false) || false) || false) || false)), (157, bA ((((false || false) || false) || false) || false)), (158, sA v206), (159, iK .u8 v305), (160, bA false), (161, bA (((((false || false) || false) || false) || false) || false)), (162, bA (((((false || false) || false) || false) || false) || false)), (163, sA v206)] ?_
                            have hv306_ := cond_t hv306 (by simp only [c1, c2, c3, c4, c5, c6] <;> rfl)
                            refine AD_sindex (d := (some 164)) (by kernel_rfl) hv306_ ?_
                            refine RD 2 169 [(12, 0), (11, 0), (7, 0), (6, 0)] [(0, sA v206), (6, .ptr 0 0), (130, sA v206), (131, iA (szI v206)), (132, bA false), (133, bA false), (134, sA v206), (135, iK .u8 v301), (136, .ptr 0 0), (137, iK .u8 v287.glo), (138, bA false), (139, bA (false || false)), (140, bA (false || false)), (141, .ptr 0 1), (142, iK .u8 v287.ghi), (143, sA v206), (144, iK .u8 v302), (145, bA false), (146, bA ((false || false) || false)), (147, bA ((false || false) || false)), (148, sA v206), (149, iK .u8 v303), (150, bA false), (151, bA (((false || false) || false) || false)), (152, bA (((false || false) || false) || false)), (153, sA v206), (154, iK .u8 v304), (155, bA false), (156, bA ((((false || false) || false) || false) || false)), (157, bA ((((false || false) || false) || false) || false)), (158, sA v206), (159, iK .u8 v305), (160, bA false), (161, bA (((((false || false) || false) || false) || false) || false)), (162, bA (((((false || false) || false) || false) || false) || false)), (163, sA v206), (164, iK .u8 v306), (165, bA (decide (191 < v306))), (166, bA ((((((false || false) || false) || false) || false) || false) || (decide (191 < v306))))] ?_
                            exact AD_here [0, 166] (by kernel_rfl) rfl
              refine CD H (fun hb307 H => ?_) (fun hb307 H => ?_)
              · refine AWP_reg (Rh 1 169 [(2, bA false)] (AOps_done ?_))
                exact AWP_ret (FR H)
              · refine AWP_skip ?_
                show AWP _ _ _ _ _ _ _
                refine AWP_region ?_
                refine Rh 1 169 [(167, sA v206)] ?_
                obtain ⟨v308, hv308, H⟩ := bind_some H
                refine AOps_scut (d := (some 168)) (by kernel_rfl) hv308 ?_
                refine Rh 1 169 [(0, sA v308)] (AOps_done ?_)
                exact Exists.intro v308 (Exists.intro n ⟨by omega, ⟨by omega, H⟩, Norm_fd [0] 1 (by kernel_rfl) rfl rfl trivial (by refine scL_fr ?_; exact ⟨trivial, trivial⟩)⟩)
            · refine AWP_reg (Rh 1 169 [(2, bA false)] (AOps_done ?_))
              exact AWP_ret (FR H)
    · refine AWP_exit ?_
      show AWP _ _ _ _ _ _ _
      refine AWP_reg (Rh 1 169 [(2, bA true)] (AOps_done ?_))
      exact AWP_ret (FR H)
end Go.Proofs.YtjhbobacbaikoaaGreatDoor
/- A function of the program as a pure function, and that the program computes it. -/
namespace Go.Proofs.YtjhbobacbaikoaaGreatDoor
open Go
set_option linter.unusedVariables false
set_option linter.unusedSimpArgs false
set_option maxRecDepth 100000
def p_text_Valid_L1 (n : Nat) (x0 : ByteArray) (v8 : Nat) : Option Bool := match n with
| 0 => none
| n + 1 =>
(bif decide (v8 < x0.size) then
(bif (decide ((decR x0 v8) < 32)) || ((decR x0 v8) == 127) then
 some (false)
 else
 p_text_Valid_L1 n x0 (v8 + decW x0 v8))
 else
 some (true))
def p_text_Valid (n : Nat) (x0 : ByteArray) : Option Bool :=
(bif !(decide ((szI x0) > 200)) then p_unicode_utf8_ValidString n x0 else some (false)).bind fun v1 =>
(bif (decide ((szI x0) > 200)) || (!v1) then
 some (false)
 else
 p_text_Valid_L1 n x0 0)
variable {E : Env}
theorem s_text_Valid {n : Nat} (hG : GlobT E) {x0 : ByteArray} {r : Bool} (H : p_text_Valid n x0 = some r) :
    Sp Tryz.prog E 66 [sA x0] [] (isA (bA r) []) := by
  unfold p_text_Valid at H
  refine Sp_fn Tryz.func66 rfl (fun hc hs => ?_)
  refine AWP_reg (Rh 1 24 [(0, sA x0)] (AOps_done (AWP_seq (AWP_reg (Rh 4 24 [(0, sA x0), (8, bA (decide ((szI x0) > 200)))] ?_)))))
  obtain ⟨v1, hv1, H⟩ := bind_some H
  refine AOps_cut 4 (st' := fr 24 [(0, sA x0), (12, bA ((decide ((szI x0) > 200)) || (!v1)))]) (h' := []) ?_ ?_
  rotate_left
  · cases c1 : (decide ((szI x0) > 200) : Bool) with
    | true =>
      refine R 4 24 [(0, sA x0), (12, bA (true || (!v1)))] [] ?_
      exact AOps_here [0, 12] (by kernel_rfl) rfl
    | false =>
      refine R 1 24 [(0, sA x0), (8, bA false), (9, sA x0)] [] ?_
      have hv1_ := cond_t hv1 (by simp only [c1] <;> rfl)
      refine AOps_callp (d := (some 10)) (al := [sA x0]) (r := bA v1) (by kernel_rfl) (s_unicode_utf8_ValidString hG hv1_) ⟨trivial, trivial⟩ trivial ?_
      refine R 2 24 [(0, sA x0), (12, bA (false || (!v1)))] [] ?_
      exact AOps_here [0, 12] (by kernel_rfl) rfl
  refine AOps_done (CD H (fun hb2 H => ?_) (fun hb2 H => ?_))
  · refine AWP_reg (Rh 1 24 [(2, bA false)] (AOps_done ?_))
    exact AWP_ret (FR H)
  · refine AWP_skip ?_
    show AWP _ _ _ _ _ _ _
    refine AWP_seq (AWP_reg (Rh 1 24 [(13, sA x0)] (AOps_range (d := (some 14)) (s := x0) (by kernel_rfl) ?_)))
    refine AOps_done (AWP_block ?_)
    refine AWP_loopN (α := Nat) (fun v8 => fr 24 [(14, .ptr 0 0)]) (fun v8 => [.iter x0 v8]) (fun k_ v8 => k_ ≤ n ∧ p_text_Valid_L1 k_ x0 v8 = some r) (fun n v8 H => ?_) (k := n) 0 ⟨Nat.le_refl _, H⟩ (Norm_fd [14] 0 (by kernel_rfl) rfl rfl ⟨trivial, trivial⟩ (by refine scL_fr ?_; exact ⟨(sc_ptr rfl), trivial⟩))
    show AWP _ _ _ _ _ (fr 24 [(14, .ptr 0 0)]) [.iter x0 v8]
    obtain ⟨hb_, H⟩ := H
    replace H : p_text_Valid_L1 n x0 v8 = some r := H
    cases n with
    | zero => exact not_none (by simpa only [p_text_Valid_L1] using H)
    | succ n =>
      unfold p_text_Valid_L1 at H
      refine AWP_reg ?_
      cases hb9 : decide (v8 < x0.size) with
      | true =>
        replace H := cond_t H hb9
        refine AOps_next (d := some 15) (id := 0) (s := x0) (p := v8) (by kernel_rfl) (of_decide_eq_true hb9) (h' := [.iter x0 (v8 + decW x0 v8)]) rfl ?_
        refine Rh 1 24 [(14, .ptr 0 0), (15, .tup [bA true, iA ((v8 : Nat) : Int), iK .i32 (decR x0 v8)]), (16, bA true)] (AOps_done (AWP_seq (AWP_cond (t := true) (by kernel_rfl) (fun hb => ?_) (fun hb => ?_))))
        · refine AWP_skip ?_
          show AWP _ _ _ _ _ _ _
          refine AWP_block ?_
          refine AWP_reg (Rh 2 24 [(4, iK .i32 (decR x0 v8)), (14, .ptr 0 0)] (AOps_done (AWP_reg (Rh 3 24 [(4, iK .i32 (decR x0 v8)), (14, .ptr 0 0), (20, bA (decide ((decR x0 v8) < 32)))] (AOps_run 3 [14, 23] (st' := fr 24 [(14, .ptr 0 0), (23, bA ((decide ((decR x0 v8) < 32)) || ((decR x0 v8) == 127)))]) (h' := [.iter x0 (v8 + decW x0 v8)]) (by (generalize (decide ((decR x0 v8) < 32)) = t0; cases t0 <;> kernel_rfl)) ?_)))))
          refine AOps_done (CD H (fun hb10 H => ?_) (fun hb10 H => ?_))
          · refine AWP_reg (Rh 1 24 [(2, bA false)] (AOps_done ?_))
            exact AWP_ret (FR H)
          · refine AWP_skip ?_
            exact Exists.intro (v8 + decW x0 v8) (Exists.intro n ⟨by omega, ⟨by omega, H⟩, Norm_fd [14] 0 (by kernel_rfl) rfl rfl ⟨trivial, trivial⟩ (by refine scL_fr ?_; exact ⟨(sc_ptr rfl), trivial⟩)⟩)
        · cases hb
      | false =>
        replace H := cond_f H hb9
        refine AOps_next_end (d := some 15) (id := 0) (s := x0) (p := v8) (by kernel_rfl) (of_decide_eq_false hb9) ?_
        refine Rh 1 24 [(14, .ptr 0 0), (15, .tup [bA false]), (16, bA false)] (AOps_done (AWP_seq (AWP_cond (t := false) (by kernel_rfl) (fun hb => ?_) (fun hb => ?_))))
        · cases hb
        · refine AWP_exit ?_
          show AWP _ _ _ _ _ _ _
          refine AWP_reg (Rh 1 24 [(2, bA true)] (AOps_done ?_))
          exact AWP_ret (FR H)
end Go.Proofs.YtjhbobacbaikoaaGreatDoor
