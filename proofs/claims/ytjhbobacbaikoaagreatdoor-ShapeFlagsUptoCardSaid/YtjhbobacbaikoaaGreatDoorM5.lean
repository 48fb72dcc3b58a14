/- Functions of the program as pure functions, and that the program computes these. -/
import Derived.Test.YtjhbobacbaikoaaGreatDoorM3
import Derived.Test.YtjhbobacbaikoaaGreatDoorM4
namespace Go.Proofs.YtjhbobacbaikoaaGreatDoor
open Go
set_option linter.unusedVariables false
set_option linter.unusedSimpArgs false
set_option maxRecDepth 100000
def p_text_Valid_L1 (n : Nat) (x0 : ByteArray) (v8 : Nat) : Option Bool := match n with
| 0 => none
| n + 1 =>
(bif decide (v8 < x0.size) then
(bif (decide ((decR x0 v8) < 32)) || ((decR x0 v8) == 127) then
 some (false)
 else
 p_text_Valid_L1 n x0 (v8 + decW x0 v8))
 else
 some (true))
def p_text_Valid (n : Nat) (x0 : ByteArray) : Option Bool :=
(bif !(decide ((szI x0) > 200)) then p_unicode_utf8_ValidString n x0 else some (false)).bind fun v1 =>
(bif (decide ((szI x0) > 200)) || (!v1) then
 some (false)
 else
 p_text_Valid_L1 n x0 0)
def p_shape_when (n : Nat) (x0 : Bool) (x1 : Int) : Option Int :=
(bif x0 then
 some (x1)
 else
 some (0))
def p_shape_Split_L1 (n : Nat) (x0 : List TRange) (x1 : Int) (v14 : Int) (v15 : Int) (v16 : Int) (v17 : Int) : Option Int := match n with
| 0 => none
| n + 1 =>
(bif decide (v14 < (lI x0)) then
(rdO x0 v14).bind fun v19 =>
(bif (decide (v19.gVariation < 1)) || (decide (v19.gVariation > x1)) then
 some (3)
 else
(bif ((v19.gFrom != v16) || (decide (v19.gTo ≤ v19.gFrom))) || (v19.gVariation == v17) then
 some (9)
 else
 p_shape_Split_L1 n x0 x1 (w64 (v14 + 1)) v19.gFrom v19.gTo v19.gVariation))
 else
(p_shape_when n (v16 != 10000) 3).bind fun v22 =>
 some (v22))
def p_shape_Split (n : Nat) (x0 : List TRange) (x1 : Int) : Option Int :=
(bif decide ((lI x0) > 16) then
 some (5)
 else
 p_shape_Split_L1 n x0 x1 0 0 0 0)
def p_shape_Serve (n : Nat) (x0 : TServe) (x1 : Int) : Option Int :=
(bif x0.gVariation != 0 then
(p_shape_when n ((decide (x0.gVariation < 1)) || (decide (x0.gVariation > x1))) 3).bind fun v2 =>
(p_shape_when n ((((!(seq' x0.gKind ByteArray.empty)) || (!(seq' x0.gBy ByteArray.empty))) || (!(seq' x0.gSalt ByteArray.empty))) || (decide ((lI x0.gSplit) > 0))) 15).bind fun v3 =>
(p_shape_first n ([v2, v3])).bind fun v4 =>
 some (v4)
 else
(p_text_Key n x0.gKind).bind fun v5 =>
(bif !(!v5) then p_text_Key n x0.gBy else some (false)).bind fun v6 =>
(p_shape_when n ((!v5) || (!v6)) 6).bind fun v7 =>
(p_text_Valid n x0.gSalt).bind fun v8 =>
(p_shape_when n (!v8) 2).bind fun v9 =>
(p_shape_Split n x0.gSplit x1).bind fun v10 =>
(p_shape_first n ([v7, v9, v10])).bind fun v11 =>
 some (v11))
def p_value_shape_K2 (n : Nat) (x0 : TValue) (v5 : Bool) : Option Bool :=
(bif v5 then
 some ((x0.gNumber == 0) && ((lI x0.gList) == 0))
 else
 some ((x0.gNumber == 0) && (seq' x0.gText ByteArray.empty)))
def p_value_shape_K1 (n : Nat) (x0 : TValue) (v2 : Bool) : Option Bool :=
(bif v2 then
 some ((seq' x0.gText ByteArray.empty) && ((lI x0.gList) == 0))
 else
(bif x0.gKind == 3 then
 p_value_shape_K2 n x0 (x0.gKind == 3)
 else
 p_value_shape_K2 n x0 (x0.gKind == 4)))
def p_value_shape (n : Nat) (x0 : TValue) : Option Bool :=
(bif x0.gKind == 1 then
 p_value_shape_K1 n x0 (x0.gKind == 1)
 else
 p_value_shape_K1 n x0 (x0.gKind == 2))
def p_internal_stringslite_HasPrefix (n : Nat) (x0 : ByteArray) (x1 : ByteArray) : Option Bool :=
(bif decide ((szI x0) ≥ (szI x1)) then cutS x0 0 (szI x1) else some ByteArray.empty).bind fun v1 =>
 some ((decide ((szI x0) ≥ (szI x1))) && (seq' v1 x1))
def p_internal_stringslite_CutPrefix (n : Nat) (x0 : ByteArray) (x1 : ByteArray) : Option (ByteArray × Bool) :=
(p_internal_stringslite_HasPrefix n x0 x1).bind fun v1 =>
(bif !v1 then
 some (x0, false)
 else
(cutS x0 (szI x1) (szI x0)).bind fun v3 =>
 some (v3, true))
def p_strings_CutPrefix (n : Nat) (x0 : ByteArray) (x1 : ByteArray) : Option (ByteArray × Bool) :=
(p_internal_stringslite_CutPrefix n x0 x1).bind fun v1 =>
 some (v1.1, v1.2)
variable {E : Env}
theorem s_text_Valid {n : Nat} (hG : GlobT E) {x0 : ByteArray} {r : Bool} (H : p_text_Valid n x0 = some r) :
    Sp Tryz.prog E 66 [sA x0] [] (isA (bA r) []) := by
  unfold p_text_Valid at H
  refine Sp_fn Tryz.func66 rfl (fun hc hs => ?_)
  refine AWP_reg (Rh 1 24 [(0, sA x0)] (AOps_done (AWP_seq (AWP_reg (Rh 4 24 [(0, sA x0), (8, bA (decide ((szI x0) > 200)))] ?_)))))
  obtain ⟨v1, hv1, H⟩ := bind_some H
  refine AOps_cut 4 (st' := fr 24 [(0, sA x0), (12, bA ((decide ((szI x0) > 200)) || (!v1)))]) (h' := []) ?_ ?_
  rotate_left
  · cases c1 : (decide ((szI x0) > 200) : Bool) with
    | true =>
      refine R 4 24 [(0, sA x0), (12, bA (true || (!v1)))] [] ?_
      exact AOps_here [0, 12] (by kernel_rfl) rfl
    | false =>
      refine R 1 24 [(0, sA x0), (8, bA false), (9, sA x0)] [] ?_
      have hv1_ := cond_t hv1 (by simp only [c1] <;> rfl)
      refine AOps_callp (d := (some 10)) (al := [sA x0]) (r := bA v1) (by kernel_rfl) (s_unicode_utf8_ValidString hG hv1_) ⟨trivial, trivial⟩ trivial ?_
      refine R 2 24 [(0, sA x0), (12, bA (false || (!v1)))] [] ?_
      exact AOps_here [0, 12] (by kernel_rfl) rfl
  refine AOps_done (CD H (fun hb2 H => ?_) (fun hb2 H => ?_))
  · refine AWP_reg (Rh 1 24 [(2, bA false)] (AOps_done ?_))
    exact AWP_ret (FR H)
  · refine AWP_skip ?_
    show AWP _ _ _ _ _ _ _
    refine AWP_seq (AWP_reg (Rh 1 24 [(13, sA x0)] (AOps_range (d := (some 14)) (s := x0) (by kernel_rfl) ?_)))
    refine AOps_done (AWP_block ?_)
    refine AWP_loopN (α := Nat) (fun v8 => fr 24 [(14, .ptr 0 0)]) (fun v8 => [.iter x0 v8]) (fun k_ v8 => k_ ≤ n ∧ p_text_Valid_L1 k_ x0 v8 = some r) (fun n v8 H => ?_) (k := n) 0 ⟨Nat.le_refl _, H⟩ (Norm_fd [14] 0 (by kernel_rfl) rfl rfl ⟨trivial, trivial⟩ (by refine scL_fr ?_; exact ⟨(sc_ptr rfl), trivial⟩))
    show AWP _ _ _ _ _ (fr 24 [(14, .ptr 0 0)]) [.iter x0 v8]
    obtain ⟨hb_, H⟩ := H
    replace H : p_text_Valid_L1 n x0 v8 = some r := H
    cases n with
    | zero => exact not_none (by simpa only [p_text_Valid_L1] using H)
    | succ n =>
      unfold p_text_Valid_L1 at H
      refine AWP_reg ?_
      cases hb9 : decide (v8 < x0.size) with
      | true =>
        replace H := cond_t H hb9
        refine AOps_next (d := some 15) (id := 0) (s := x0) (p := v8) (by kernel_rfl) (of_decide_eq_true hb9) (h' := [.iter x0 (v8 + decW x0 v8)]) rfl ?_
        refine Rh 1 24 [(14, .ptr 0 0), (15, .tup [bA true, iA ((v8 : Nat) : Int), iK .i32 (decR x0 v8)]), (16, bA true)] (AOps_done (AWP_seq (AWP_cond (t := true) (by kernel_rfl) (fun hb => ?_) (fun hb => ?_))))
        · refine AWP_skip ?_
          show AWP _ _ _ _ _ _ _
          refine AWP_block ?_
          refine AWP_reg (Rh 2 24 [(4, iK .i32 (decR x0 v8)), (14, .ptr 0 0)] (AOps_done (AWP_reg (Rh 3 24 [(4, iK .i32 (decR x0 v8)), (14, .ptr 0 0), (20, bA (decide ((decR x0 v8) < 32)))] (AOps_run 3 [14, 23] (st' := fr 24 [(14, .ptr 0 0), (23, bA ((decide ((decR x0 v8) < 32)) || ((decR x0 v8) == 127)))]) (h' := [.iter x0 (v8 + decW x0 v8)]) (by (generalize (decide ((decR x0 v8) < 32)) = t0; cases t0 <;> kernel_rfl)) ?_)))))
          refine AOps_done (CD H (fun hb10 H => ?_) (fun hb10 H => ?_))
          · refine AWP_reg (Rh 1 24 [(2, bA false)] (AOps_done ?_))
            exact AWP_ret (FR H)
          · refine AWP_skip ?_
            exact Exists.intro (v8 + decW x0 v8) (Exists.intro n ⟨by omega, ⟨by omega, H⟩, Norm_fd [14] 0 (by kernel_rfl) rfl rfl ⟨trivial, trivial⟩ (by refine scL_fr ?_; exact ⟨(sc_ptr rfl), trivial⟩)⟩)
        · cases hb
      | false =>
        replace H := cond_f H hb9
        refine AOps_next_end (d := some 15) (id := 0) (s := x0) (p := v8) (by kernel_rfl) (of_decide_eq_false hb9) ?_
        refine Rh 1 24 [(14, .ptr 0 0), (15, .tup [bA false]), (16, bA false)] (AOps_done (AWP_seq (AWP_cond (t := false) (by kernel_rfl) (fun hb => ?_) (fun hb => ?_))))
        · cases hb
        · refine AWP_exit ?_
          show AWP _ _ _ _ _ _ _
          refine AWP_reg (Rh 1 24 [(2, bA true)] (AOps_done ?_))
          exact AWP_ret (FR H)
theorem s_shape_when {n : Nat} {x0 : Bool} {x1 : Int} {r : Int} (H : p_shape_when n x0 x1 = some r) :
    Sp Tryz.prog E 56 [bA x0, iA x1] [] (isA (iA r) []) := by
  unfold p_shape_when at H
  refine Sp_fn Tryz.func56 rfl (fun hc hs => ?_)
  refine AWP_reg (Rh 1 7 [(0, bA x0), (1, iA x1)] (AOps_done (AWP_seq (AWP_reg (Rh 1 7 [(1, iA x1), (5, bA x0)] (AOps_done (CD H (fun hb1 H => ?_) (fun hb1 H => ?_))))))))
  · refine AWP_reg (Rh 2 7 [(4, iA x1)] (AOps_done ?_))
    exact AWP_ret (FR H)
  · refine AWP_skip ?_
    show AWP _ _ _ _ _ _ _
    refine AWP_reg (Rh 1 7 [(4, iA 0)] (AOps_done ?_))
    exact AWP_ret (FR H)
theorem s_shape_Split {n : Nat} {x0 : List TRange} {x1 : Int} {r : Int} (H : p_shape_Split n x0 x1 = some r) :
    Sp Tryz.prog E 23 [.ro .unk x0.length (TRange.cl x0), iA x1] [] (isA (iA r) []) := by
  unfold p_shape_Split at H
  refine Sp_fn Tryz.func23 rfl (fun hc hs => ?_)
  refine AWP_reg (Rh 1 52 [(0, .ro .unk x0.length (TRange.cl x0)), (1, iA x1)] (AOps_done (AWP_seq (AWP_reg (Rh 3 52 [(0, .ro .unk x0.length (TRange.cl x0)), (1, iA x1), (10, bA (decide ((lI x0) > 16)))] (AOps_done (CD H (fun hb1 H => ?_) (fun hb1 H => ?_))))))))
  · refine AWP_reg (Rh 1 52 [(4, iA 5)] (AOps_done ?_))
    exact AWP_ret (FR H)
  · refine AWP_skip ?_
    show AWP _ _ _ _ _ _ _
    refine AWP_reg (R 3 52 [(0, .ro .unk x0.length (TRange.cl x0)), (1, iA x1), (5, .ptr 0 0)] [.cells 52 [iA 0, iA 0, iA 0]] (AOps_done (AWP_seq (AWP_reg (Rh 3 52 [(1, iA x1), (5, .ptr 0 0), (12, .ro .unk x0.length (TRange.cl x0)), (13, iA (lI x0)), (14, iA 0)] (AOps_done (AWP_block ?_)))))))
    refine AWP_loopN (α := Int × Int × Int × Int) (fun ⟨v14, v15, v16, v17⟩ => fr 52 [(1, iA x1), (5, .ptr 0 0), (12, .ro .unk x0.length (TRange.cl x0)), (13, iA (lI x0)), (14, iA v14)]) (fun ⟨v14, v15, v16, v17⟩ => [.cells 52 [iA v15, iA v16, iA v17]]) (fun k_ ⟨v14, v15, v16, v17⟩ => k_ ≤ n ∧ p_shape_Split_L1 k_ x0 x1 v14 v15 v16 v17 = some r) (fun n a H => ?_) (k := n) (0, 0, 0, 0) ⟨Nat.le_refl _, H⟩ (Norm_fd [1, 5, 12, 13, 14] 0 (by kernel_rfl) rfl rfl ⟨⟨trivial, trivial, trivial, trivial⟩, trivial⟩ (by refine scL_fr ?_; exact ⟨trivial, (sc_ptr rfl), (scl_TRange_cl _ _), trivial, trivial, trivial⟩))
    obtain ⟨v14, v15, v16, v17⟩ := a
    show AWP _ _ _ _ _ (fr 52 [(1, iA x1), (5, .ptr 0 0), (12, .ro .unk x0.length (TRange.cl x0)), (13, iA (lI x0)), (14, iA v14)]) [.cells 52 [iA v15, iA v16, iA v17]]
    obtain ⟨hb_, H⟩ := H
    replace H : p_shape_Split_L1 n x0 x1 v14 v15 v16 v17 = some r := H
    cases n with
    | zero => exact not_none (by simpa only [p_shape_Split_L1] using H)
    | succ n =>
      unfold p_shape_Split_L1 at H
      refine AWP_reg (Rh 1 52 [(1, iA x1), (5, .ptr 0 0), (12, .ro .unk x0.length (TRange.cl x0)), (13, iA (lI x0)), (14, iA v14), (15, bA (decide (v14 < (lI x0))))] (AOps_done (AWP_seq (CD H (fun hb18 H => ?_) (fun hb18 H => ?_)))))
      · refine AWP_skip ?_
        show AWP _ _ _ _ _ _ _
        refine AWP_seq (AWP_block ?_)
        refine AWP_reg ?_
        obtain ⟨v19, hv19, H⟩ := bind_some H
        refine AOps_index (d := (some 16)) (sz := 3) (c := TRange.cs) (by kernel_rfl) rfl (eq_TRange_cl _) (fun _ => rfl) (by decide) hv19 (fun tl19 => ?_)
        refine R 3 52 [(1, iA x1), (5, .ptr 0 0), (7, .ptr 1 0), (12, .ro .unk x0.length (TRange.cl x0)), (13, iA (lI x0)), (14, iA v14)] [.cells 52 (TRange.cs v19), .cells 52 [iA v15, iA v16, iA v17]] (AOps_done (AWP_seq (AWP_reg (Rh 4 52 [(1, iA x1), (5, .ptr 0 0), (7, .ptr 1 0), (12, .ro .unk x0.length (TRange.cl x0)), (13, iA (lI x0)), (14, iA v14), (21, bA (decide (v19.gVariation < 1)))] (AOps_run 5 [1, 5, 7, 12, 13, 14, 26] (st' := fr 52 [(1, iA x1), (5, .ptr 0 0), (7, .ptr 1 0), (12, .ro .unk x0.length (TRange.cl x0)), (13, iA (lI x0)), (14, iA v14), (26, bA ((decide (v19.gVariation < 1)) || (decide (v19.gVariation > x1))))]) (h' := [.cells 52 (TRange.cs v19), .cells 52 [iA v15, iA v16, iA v17]]) (by (generalize (decide (v19.gVariation < 1)) = t0; cases t0 <;> kernel_rfl)) ?_)))))
        refine AOps_done (CD H (fun hb20 H => ?_) (fun hb20 H => ?_))
        · refine AWP_reg (Rh 1 52 [(4, iA 3)] (AOps_done ?_))
          exact AWP_ret (FR H)
        · refine AWP_skip ?_
          show AWP _ _ _ _ _ _ _
          refine AWP_seq (AWP_reg (Rh 6 52 [(1, iA x1), (5, .ptr 0 0), (7, .ptr 1 0), (12, .ro .unk x0.length (TRange.cl x0)), (13, iA (lI x0)), (14, iA v14), (32, bA (v19.gFrom != v16))] (AOps_run 6 [1, 5, 7, 12, 13, 14, 38] (st' := fr 52 [(1, iA x1), (5, .ptr 0 0), (7, .ptr 1 0), (12, .ro .unk x0.length (TRange.cl x0)), (13, iA (lI x0)), (14, iA v14), (38, bA ((v19.gFrom != v16) || (decide (v19.gTo ≤ v19.gFrom))))]) (h' := [.cells 52 (TRange.cs v19), .cells 52 [iA v15, iA v16, iA v17]]) (by (generalize (v19.gFrom != v16) = t0; cases t0 <;> kernel_rfl)) ?_)))
          refine Rh 1 52 [(1, iA x1), (5, .ptr 0 0), (7, .ptr 1 0), (12, .ro .unk x0.length (TRange.cl x0)), (13, iA (lI x0)), (14, iA v14), (39, bA ((v19.gFrom != v16) || (decide (v19.gTo ≤ v19.gFrom))))] (AOps_run 6 [1, 5, 7, 12, 13, 14, 45] (st' := fr 52 [(1, iA x1), (5, .ptr 0 0), (7, .ptr 1 0), (12, .ro .unk x0.length (TRange.cl x0)), (13, iA (lI x0)), (14, iA v14), (45, bA (((v19.gFrom != v16) || (decide (v19.gTo ≤ v19.gFrom))) || (v19.gVariation == v17)))]) (h' := [.cells 52 (TRange.cs v19), .cells 52 [iA v15, iA v16, iA v17]]) (by (generalize (v19.gFrom != v16) = t0; generalize (decide (v19.gTo ≤ v19.gFrom)) = t1; cases t0 <;> cases t1 <;> kernel_rfl)) ?_)
          refine AOps_done (CD H (fun hb21 H => ?_) (fun hb21 H => ?_))
          · refine AWP_reg (Rh 1 52 [(4, iA 9)] (AOps_done ?_))
            exact AWP_ret (FR H)
          · refine AWP_skip ?_
            show AWP _ _ _ _ _ _ _
            refine AWP_region ?_
            refine R 2 52 [(1, iA x1), (5, .ptr 0 0), (12, .ro .unk x0.length (TRange.cl x0)), (13, iA (lI x0)), (14, iA v14)] [.cells 52 (TRange.cs v19), .cells 52 (TRange.cs v19)] (AOps_done ?_)
            show AWP _ _ _ _ _ _ _
            refine AWP_region ?_
            refine Rh 2 52 [(1, iA x1), (5, .ptr 0 0), (12, .ro .unk x0.length (TRange.cl x0)), (13, iA (lI x0)), (14, iA (w64 (v14 + 1)))] (AOps_done ?_)
            exact Exists.intro (w64 (v14 + 1), v19.gFrom, v19.gTo, v19.gVariation) (Exists.intro n ⟨by omega, ⟨by omega, H⟩, Norm_fd [1, 5, 12, 13, 14] 1 (by kernel_rfl) rfl rfl ⟨⟨trivial, trivial, trivial, trivial⟩, trivial⟩ (by refine scL_fr ?_; exact ⟨trivial, (sc_ptr rfl), (scl_TRange_cl _ _), trivial, trivial, trivial⟩)⟩)
      · refine AWP_exit ?_
        show AWP _ _ _ _ _ _ _
        refine AWP_reg (Rh 3 52 [(50, bA (v16 != 10000))] ?_)
        obtain ⟨v22, hv22, H⟩ := bind_some H
        refine AOps_callp (d := (some 51)) (al := [bA (v16 != 10000), iA 3]) (r := iA v22) (by kernel_rfl) (s_shape_when hv22) ⟨trivial, trivial, trivial⟩ trivial ?_
        refine Rh 1 52 [(4, iA v22)] (AOps_done ?_)
        exact AWP_ret (FR H)
theorem s_shape_Serve {n : Nat} (hG : GlobT E) {x0 : TServe} {x1 : Int} {r : Int} (H : p_shape_Serve n x0 x1 = some r) :
    Sp Tryz.prog E 32 [.agg (TServe.cs x0), iA x1] [] (isA (iA r) []) := by
  unfold p_shape_Serve at H
  refine Sp_fn Tryz.func32 rfl (fun hc hs => ?_)
  refine AWP_reg (R 2 62 [(1, iA x1), (2, .ptr 0 0)] [.cells 56 (TServe.cs x0)] (AOps_done (AWP_seq (AWP_reg (Rh 3 62 [(1, iA x1), (2, .ptr 0 0), (7, bA (x0.gVariation != 0))] (AOps_done (CD H (fun hb1 H => ?_) (fun hb1 H => ?_))))))))
  · obtain ⟨v2, hv2, H⟩ := bind_some H
    obtain ⟨v3, hv3, H⟩ := bind_some H
    obtain ⟨v4, hv4, H⟩ := bind_some H
    refine AWP_regD1 [0, 1, 2, 3, 4, 5, 6, 7, 8, 10, 11, 12, 9, 13, 14, 15, 16, 17, 18, 19, 20, 21, 22, 23, 24, 25, 26, 27, 28, 29, 30, 31, 32] (N := 62) (f := [(1, iA x1), (2, .ptr 0 0)]) (leL_of [1, 2] (by kernel_rfl)) mixed (by kernel_rfl) (by kernel_rfl) (st' := fr 62 [(4, iA v4)]) (h' := [.cells 56 (TServe.cs x0)]) ?_ ?_
    rotate_left
    · refine RD 4 62 [(1, 0), (0, 0)] [(1, iA x1), (2, .ptr 0 0), (8, .ptr 0 0), (9, iA x0.gVariation), (10, bA (decide (x0.gVariation < 1))), (11, bA (decide (x0.gVariation < 1)))] ?_
      cases c1 : (decide (x0.gVariation < 1) : Bool) with
      | true =>
        refine RD 8 62 [(11, 0), (10, 0), (1, 0), (0, 0)] [(1, iA x1), (2, .ptr 0 0), (8, .ptr 0 0), (9, iA x0.gVariation), (10, bA true), (11, bA true), (12, undefA), (13, undefA), (14, undefA), (15, undefA), (16, bA (true || (decide (x0.gVariation > x1)))), (18, .ptr 0 1), (19, sA x0.gKind), (20, bA (!(seq' x0.gKind ByteArray.empty)))] ?_
        try rw [c1] at hv2
        refine AD_callp (d := (some 17)) (al := [bA (true || (decide (x0.gVariation > x1))), iA 3]) (r := iA v2) (by kernel_rfl) (s_shape_when hv2) ⟨trivial, trivial, trivial⟩ trivial ?_
        refine RD 1 62 [(11, 0), (10, 0), (1, 0), (0, 0)] [(1, iA x1), (2, .ptr 0 0), (8, .ptr 0 0), (9, iA x0.gVariation), (10, bA true), (11, bA true), (12, undefA), (13, undefA), (14, undefA), (15, undefA), (16, bA (true || (decide (x0.gVariation > x1)))), (17, iA v2), (18, .ptr 0 1), (19, sA x0.gKind), (20, bA (!(seq' x0.gKind ByteArray.empty))), (21, bA (!(seq' x0.gKind ByteArray.empty)))] ?_
        cases c2 : (seq' x0.gKind ByteArray.empty : Bool) with
        | true =>
          refine RD 5 62 [(15, 0), (14, 0), (11, 0), (10, 0), (1, 0), (0, 0)] [(1, iA x1), (2, .ptr 0 0), (8, .ptr 0 0), (9, iA x0.gVariation), (10, bA true), (11, bA true), (12, undefA), (13, undefA), (14, undefA), (15, undefA), (16, bA (true || (decide (x0.gVariation > x1)))), (17, iA v2), (18, .ptr 0 1), (19, sA x0.gKind), (20, bA (!true)), (21, bA (!true)), (22, .ptr 0 2), (23, sA x0.gBy), (24, bA (!(seq' x0.gBy ByteArray.empty))), (25, bA ((!true) || (!(seq' x0.gBy ByteArray.empty)))), (26, bA ((!true) || (!(seq' x0.gBy ByteArray.empty))))] ?_
          cases c3 : (seq' x0.gBy ByteArray.empty : Bool) with
          | true =>
            refine RD 5 62 [(20, 0), (19, 0), (15, 0), (14, 0), (11, 0), (10, 0), (1, 0), (0, 0)] [(1, iA x1), (2, .ptr 0 0), (8, .ptr 0 0), (9, iA x0.gVariation), (10, bA true), (11, bA true), (12, undefA), (13, undefA), (14, undefA), (15, undefA), (16, bA (true || (decide (x0.gVariation > x1)))), (17, iA v2), (18, .ptr 0 1), (19, sA x0.gKind), (20, bA (!true)), (21, bA (!true)), (22, .ptr 0 2), (23, sA x0.gBy), (24, bA (!true)), (25, bA ((!true) || (!true))), (26, bA ((!true) || (!true))), (27, .ptr 0 3), (28, sA x0.gSalt), (29, bA (!(seq' x0.gSalt ByteArray.empty))), (30, bA (((!true) || (!true)) || (!(seq' x0.gSalt ByteArray.empty)))), (31, bA (((!true) || (!true)) || (!(seq' x0.gSalt ByteArray.empty))))] ?_
            cases c4 : (seq' x0.gSalt ByteArray.empty : Bool) with
            | true =>
              refine RD 5 62 [(25, 0), (24, 0), (20, 0), (19, 0), (15, 0), (14, 0), (11, 0), (10, 0), (1, 0), (0, 0)] [(1, iA x1), (2, .ptr 0 0), (8, .ptr 0 0), (9, iA x0.gVariation), (10, bA true), (11, bA true), (12, undefA), (13, undefA), (14, undefA), (15, undefA), (16, bA (true || (decide (x0.gVariation > x1)))), (17, iA v2), (18, .ptr 0 1), (19, sA x0.gKind), (20, bA (!true)), (21, bA (!true)), (22, .ptr 0 2), (23, sA x0.gBy), (24, bA (!true)), (25, bA ((!true) || (!true))), (26, bA ((!true) || (!true))), (27, .ptr 0 3), (28, sA x0.gSalt), (29, bA (!true)), (30, bA (((!true) || (!true)) || (!true))), (31, bA (((!true) || (!true)) || (!true))), (32, .ptr 0 4), (33, .ro .unk x0.gSplit.length (TRange.cl x0.gSplit)), (34, iA (lI x0.gSplit)), (35, bA (decide ((lI x0.gSplit) > 0))), (36, bA ((((!true) || (!true)) || (!true)) || (decide ((lI x0.gSplit) > 0))))] ?_
              try rw [c1] at hv3
              try rw [c2] at hv3
              try rw [c3] at hv3
              try rw [c4] at hv3
              refine AD_callp (d := (some 37)) (al := [bA ((((!true) || (!true)) || (!true)) || (decide ((lI x0.gSplit) > 0))), iA 15]) (r := iA v3) (by kernel_rfl) (s_shape_when hv3) ⟨trivial, trivial, trivial⟩ trivial ?_
              refine AD_bsl (d := (some 38)) (m := 2) (cs := [iA v2, iA v3]) (by kernel_rfl) ⟨trivial, trivial, trivial⟩ ?_
              refine AD_callp (d := (some 39)) (al := [.ro .unk ([v2, v3]).length (cl_i64 ([v2, v3]))]) (r := iA v4) (by kernel_rfl) (s_shape_first hv4) ⟨(scl_cl_i64 _ _), trivial⟩ trivial ?_
              refine RD 1 62 [(25, 0), (24, 0), (20, 0), (19, 0), (15, 0), (14, 0), (11, 0), (10, 0), (1, 0), (0, 0)] [(1, iA x1), (2, .ptr 0 0), (4, iA v4), (8, .ptr 0 0), (9, iA x0.gVariation), (10, bA true), (11, bA true), (12, undefA), (13, undefA), (14, undefA), (15, undefA), (16, bA (true || (decide (x0.gVariation > x1)))), (17, iA v2), (18, .ptr 0 1), (19, sA x0.gKind), (20, bA (!true)), (21, bA (!true)), (22, .ptr 0 2), (23, sA x0.gBy), (24, bA (!true)), (25, bA ((!true) || (!true))), (26, bA ((!true) || (!true))), (27, .ptr 0 3), (28, sA x0.gSalt), (29, bA (!true)), (30, bA (((!true) || (!true)) || (!true))), (31, bA (((!true) || (!true)) || (!true))), (32, .ptr 0 4), (33, .ro .unk x0.gSplit.length (TRange.cl x0.gSplit)), (34, iA (lI x0.gSplit)), (35, bA (decide ((lI x0.gSplit) > 0))), (36, bA ((((!true) || (!true)) || (!true)) || (decide ((lI x0.gSplit) > 0)))), (37, iA v3), (38, .ro .unk ([v2, v3]).length (cl_i64 ([v2, v3]))), (39, iA v4)] ?_
              exact AD_here [4] (by kernel_rfl) rfl
            | false =>
              refine RD 5 62 [(20, 0), (19, 0), (15, 0), (14, 0), (11, 0), (10, 0), (1, 0), (0, 0)] [(1, iA x1), (2, .ptr 0 0), (8, .ptr 0 0), (9, iA x0.gVariation), (10, bA true), (11, bA true), (12, undefA), (13, undefA), (14, undefA), (15, undefA), (16, bA (true || (decide (x0.gVariation > x1)))), (17, iA v2), (18, .ptr 0 1), (19, sA x0.gKind), (20, bA (!true)), (21, bA (!true)), (22, .ptr 0 2), (23, sA x0.gBy), (24, bA (!true)), (25, bA ((!true) || (!true))), (26, bA ((!true) || (!true))), (27, .ptr 0 3), (28, sA x0.gSalt), (29, bA (!false)), (30, bA (((!true) || (!true)) || (!false))), (31, bA (((!true) || (!true)) || (!false))), (32, undefA), (33, undefA), (34, undefA), (35, undefA), (36, bA ((((!true) || (!true)) || (!false)) || (decide ((lI x0.gSplit) > 0))))] ?_
              try rw [c1] at hv3
              try rw [c2] at hv3
              try rw [c3] at hv3
              try rw [c4] at hv3
              refine AD_callp (d := (some 37)) (al := [bA ((((!true) || (!true)) || (!false)) || (decide ((lI x0.gSplit) > 0))), iA 15]) (r := iA v3) (by kernel_rfl) (s_shape_when hv3) ⟨trivial, trivial, trivial⟩ trivial ?_
              refine AD_bsl (d := (some 38)) (m := 2) (cs := [iA v2, iA v3]) (by kernel_rfl) ⟨trivial, trivial, trivial⟩ ?_
              refine AD_callp (d := (some 39)) (al := [.ro .unk ([v2, v3]).length (cl_i64 ([v2, v3]))]) (r := iA v4) (by kernel_rfl) (s_shape_first hv4) ⟨(scl_cl_i64 _ _), trivial⟩ trivial ?_
              refine RD 1 62 [(20, 0), (19, 0), (15, 0), (14, 0), (11, 0), (10, 0), (1, 0), (0, 0)] [(1, iA x1), (2, .ptr 0 0), (4, iA v4), (8, .ptr 0 0), (9, iA x0.gVariation), (10, bA true), (11, bA true), (12, undefA), (13, undefA), (14, undefA), (15, undefA), (16, bA (true || (decide (x0.gVariation > x1)))), (17, iA v2), (18, .ptr 0 1), (19, sA x0.gKind), (20, bA (!true)), (21, bA (!true)), (22, .ptr 0 2), (23, sA x0.gBy), (24, bA (!true)), (25, bA ((!true) || (!true))), (26, bA ((!true) || (!true))), (27, .ptr 0 3), (28, sA x0.gSalt), (29, bA (!false)), (30, bA (((!true) || (!true)) || (!false))), (31, bA (((!true) || (!true)) || (!false))), (32, undefA), (33, undefA), (34, undefA), (35, undefA), (36, bA ((((!true) || (!true)) || (!false)) || (decide ((lI x0.gSplit) > 0)))), (37, iA v3), (38, .ro .unk ([v2, v3]).length (cl_i64 ([v2, v3]))), (39, iA v4)] ?_
              exact AD_here [4] (by kernel_rfl) rfl
          | false =>
            refine RD 10 62 [(15, 0), (14, 0), (11, 0), (10, 0), (1, 0), (0, 0)] [(1, iA x1), (2, .ptr 0 0), (8, .ptr 0 0), (9, iA x0.gVariation), (10, bA true), (11, bA true), (12, undefA), (13, undefA), (14, undefA), (15, undefA), (16, bA (true || (decide (x0.gVariation > x1)))), (17, iA v2), (18, .ptr 0 1), (19, sA x0.gKind), (20, bA (!true)), (21, bA (!true)), (22, .ptr 0 2), (23, sA x0.gBy), (24, bA (!false)), (25, bA ((!true) || (!false))), (26, bA ((!true) || (!false))), (27, undefA), (28, undefA), (29, undefA), (30, bA (((!true) || (!false)) || (!(seq' x0.gSalt ByteArray.empty)))), (31, bA (((!true) || (!false)) || (!(seq' x0.gSalt ByteArray.empty)))), (32, undefA), (33, undefA), (34, undefA), (35, undefA), (36, bA ((((!true) || (!false)) || (!(seq' x0.gSalt ByteArray.empty))) || (decide ((lI x0.gSplit) > 0))))] ?_
            try rw [c1] at hv3
            try rw [c2] at hv3
            try rw [c3] at hv3
            refine AD_callp (d := (some 37)) (al := [bA ((((!true) || (!false)) || (!(seq' x0.gSalt ByteArray.empty))) || (decide ((lI x0.gSplit) > 0))), iA 15]) (r := iA v3) (by kernel_rfl) (s_shape_when hv3) ⟨trivial, trivial, trivial⟩ trivial ?_
            refine AD_bsl (d := (some 38)) (m := 2) (cs := [iA v2, iA v3]) (by kernel_rfl) ⟨trivial, trivial, trivial⟩ ?_
            refine AD_callp (d := (some 39)) (al := [.ro .unk ([v2, v3]).length (cl_i64 ([v2, v3]))]) (r := iA v4) (by kernel_rfl) (s_shape_first hv4) ⟨(scl_cl_i64 _ _), trivial⟩ trivial ?_
            refine RD 1 62 [(15, 0), (14, 0), (11, 0), (10, 0), (1, 0), (0, 0)] [(1, iA x1), (2, .ptr 0 0), (4, iA v4), (8, .ptr 0 0), (9, iA x0.gVariation), (10, bA true), (11, bA true), (12, undefA), (13, undefA), (14, undefA), (15, undefA), (16, bA (true || (decide (x0.gVariation > x1)))), (17, iA v2), (18, .ptr 0 1), (19, sA x0.gKind), (20, bA (!true)), (21, bA (!true)), (22, .ptr 0 2), (23, sA x0.gBy), (24, bA (!false)), (25, bA ((!true) || (!false))), (26, bA ((!true) || (!false))), (27, undefA), (28, undefA), (29, undefA), (30, bA (((!true) || (!false)) || (!(seq' x0.gSalt ByteArray.empty)))), (31, bA (((!true) || (!false)) || (!(seq' x0.gSalt ByteArray.empty)))), (32, undefA), (33, undefA), (34, undefA), (35, undefA), (36, bA ((((!true) || (!false)) || (!(seq' x0.gSalt ByteArray.empty))) || (decide ((lI x0.gSplit) > 0)))), (37, iA v3), (38, .ro .unk ([v2, v3]).length (cl_i64 ([v2, v3]))), (39, iA v4)] ?_
            exact AD_here [4] (by kernel_rfl) rfl
        | false =>
          refine RD 15 62 [(11, 0), (10, 0), (1, 0), (0, 0)] [(1, iA x1), (2, .ptr 0 0), (8, .ptr 0 0), (9, iA x0.gVariation), (10, bA true), (11, bA true), (12, undefA), (13, undefA), (14, undefA), (15, undefA), (16, bA (true || (decide (x0.gVariation > x1)))), (17, iA v2), (18, .ptr 0 1), (19, sA x0.gKind), (20, bA (!false)), (21, bA (!false)), (22, undefA), (23, undefA), (24, undefA), (25, bA ((!false) || (!(seq' x0.gBy ByteArray.empty)))), (26, bA ((!false) || (!(seq' x0.gBy ByteArray.empty)))), (27, undefA), (28, undefA), (29, undefA), (30, bA (((!false) || (!(seq' x0.gBy ByteArray.empty))) || (!(seq' x0.gSalt ByteArray.empty)))), (31, bA (((!false) || (!(seq' x0.gBy ByteArray.empty))) || (!(seq' x0.gSalt ByteArray.empty)))), (32, undefA), (33, undefA), (34, undefA), (35, undefA), (36, bA ((((!false) || (!(seq' x0.gBy ByteArray.empty))) || (!(seq' x0.gSalt ByteArray.empty))) || (decide ((lI x0.gSplit) > 0))))] ?_
          try rw [c1] at hv3
          try rw [c2] at hv3
          refine AD_callp (d := (some 37)) (al := [bA ((((!false) || (!(seq' x0.gBy ByteArray.empty))) || (!(seq' x0.gSalt ByteArray.empty))) || (decide ((lI x0.gSplit) > 0))), iA 15]) (r := iA v3) (by kernel_rfl) (s_shape_when hv3) ⟨trivial, trivial, trivial⟩ trivial ?_
          refine AD_bsl (d := (some 38)) (m := 2) (cs := [iA v2, iA v3]) (by kernel_rfl) ⟨trivial, trivial, trivial⟩ ?_
          refine AD_callp (d := (some 39)) (al := [.ro .unk ([v2, v3]).length (cl_i64 ([v2, v3]))]) (r := iA v4) (by kernel_rfl) (s_shape_first hv4) ⟨(scl_cl_i64 _ _), trivial⟩ trivial ?_
          refine RD 1 62 [(11, 0), (10, 0), (1, 0), (0, 0)] [(1, iA x1), (2, .ptr 0 0), (4, iA v4), (8, .ptr 0 0), (9, iA x0.gVariation), (10, bA true), (11, bA true), (12, undefA), (13, undefA), (14, undefA), (15, undefA), (16, bA (true || (decide (x0.gVariation > x1)))), (17, iA v2), (18, .ptr 0 1), (19, sA x0.gKind), (20, bA (!false)), (21, bA (!false)), (22, undefA), (23, undefA), (24, undefA), (25, bA ((!false) || (!(seq' x0.gBy ByteArray.empty)))), (26, bA ((!false) || (!(seq' x0.gBy ByteArray.empty)))), (27, undefA), (28, undefA), (29, undefA), (30, bA (((!false) || (!(seq' x0.gBy ByteArray.empty))) || (!(seq' x0.gSalt ByteArray.empty)))), (31, bA (((!false) || (!(seq' x0.gBy ByteArray.empty))) || (!(seq' x0.gSalt ByteArray.empty)))), (32, undefA), (33, undefA), (34, undefA), (35, undefA), (36, bA ((((!false) || (!(seq' x0.gBy ByteArray.empty))) || (!(seq' x0.gSalt ByteArray.empty))) || (decide ((lI x0.gSplit) > 0)))), (37, iA v3), (38, .ro .unk ([v2, v3]).length (cl_i64 ([v2, v3]))), (39, iA v4)] ?_
          exact AD_here [4] (by kernel_rfl) rfl
      | false =>
        refine RD 8 62 [(11, 0), (10, 0), (5, 0), (4, 0), (1, 0), (0, 0)] [(1, iA x1), (2, .ptr 0 0), (8, .ptr 0 0), (9, iA x0.gVariation), (10, bA false), (11, bA false), (12, .ptr 0 0), (13, iA x0.gVariation), (14, iA x1), (15, bA (decide (x0.gVariation > x1))), (16, bA (false || (decide (x0.gVariation > x1)))), (18, .ptr 0 1), (19, sA x0.gKind), (20, bA (!(seq' x0.gKind ByteArray.empty)))] ?_
        try rw [c1] at hv2
        refine AD_callp (d := (some 17)) (al := [bA (false || (decide (x0.gVariation > x1))), iA 3]) (r := iA v2) (by kernel_rfl) (s_shape_when hv2) ⟨trivial, trivial, trivial⟩ trivial ?_
        refine RD 1 62 [(11, 0), (10, 0), (5, 0), (4, 0), (1, 0), (0, 0)] [(1, iA x1), (2, .ptr 0 0), (8, .ptr 0 0), (9, iA x0.gVariation), (10, bA false), (11, bA false), (12, .ptr 0 0), (13, iA x0.gVariation), (14, iA x1), (15, bA (decide (x0.gVariation > x1))), (16, bA (false || (decide (x0.gVariation > x1)))), (17, iA v2), (18, .ptr 0 1), (19, sA x0.gKind), (20, bA (!(seq' x0.gKind ByteArray.empty))), (21, bA (!(seq' x0.gKind ByteArray.empty)))] ?_
        cases c2 : (seq' x0.gKind ByteArray.empty : Bool) with
        | true =>
          refine RD 5 62 [(15, 0), (14, 0), (11, 0), (10, 0), (5, 0), (4, 0), (1, 0), (0, 0)] [(1, iA x1), (2, .ptr 0 0), (8, .ptr 0 0), (9, iA x0.gVariation), (10, bA false), (11, bA false), (12, .ptr 0 0), (13, iA x0.gVariation), (14, iA x1), (15, bA (decide (x0.gVariation > x1))), (16, bA (false || (decide (x0.gVariation > x1)))), (17, iA v2), (18, .ptr 0 1), (19, sA x0.gKind), (20, bA (!true)), (21, bA (!true)), (22, .ptr 0 2), (23, sA x0.gBy), (24, bA (!(seq' x0.gBy ByteArray.empty))), (25, bA ((!true) || (!(seq' x0.gBy ByteArray.empty)))), (26, bA ((!true) || (!(seq' x0.gBy ByteArray.empty))))] ?_
          cases c3 : (seq' x0.gBy ByteArray.empty : Bool) with
          | true =>
            refine RD 5 62 [(20, 0), (19, 0), (15, 0), (14, 0), (11, 0), (10, 0), (5, 0), (4, 0), (1, 0), (0, 0)] [(1, iA x1), (2, .ptr 0 0), (8, .ptr 0 0), (9, iA x0.gVariation), (10, bA false), (11, bA false), (12, .ptr 0 0), (13, iA x0.gVariation), (14, iA x1), (15, bA (decide (x0.gVariation > x1))), (16, bA (false || (decide (x0.gVariation > x1)))), (17, iA v2), (18, .ptr 0 1), (19, sA x0.gKind), (20, bA (!true)), (21, bA (!true)), (22, .ptr 0 2), (23, sA x0.gBy), (24, bA (!true)), (25, bA ((!true) || (!true))), (26, bA ((!true) || (!true))), (27, .ptr 0 3), (28, sA x0.gSalt), (29, bA (!(seq' x0.gSalt ByteArray.empty))), (30, bA (((!true) || (!true)) || (!(seq' x0.gSalt ByteArray.empty)))), (31, bA (((!true) || (!true)) || (!(seq' x0.gSalt ByteArray.empty))))] ?_
            cases c4 : (seq' x0.gSalt ByteArray.empty : Bool) with
            | true =>
              refine RD 5 62 [(25, 0), (24, 0), (20, 0), (19, 0), (15, 0), (14, 0), (11, 0), (10, 0), (5, 0), (4, 0), (1, 0), (0, 0)] [(1, iA x1), (2, .ptr 0 0), (8, .ptr 0 0), (9, iA x0.gVariation), (10, bA false), (11, bA false), (12, .ptr 0 0), (13, iA x0.gVariation), (14, iA x1), (15, bA (decide (x0.gVariation > x1))), (16, bA (false || (decide (x0.gVariation > x1)))), (17, iA v2), (18, .ptr 0 1), (19, sA x0.gKind), (20, bA (!true)), (21, bA (!true)), (22, .ptr 0 2), (23, sA x0.gBy), (24, bA (!true)), (25, bA ((!true) || (!true))), (26, bA ((!true) || (!true))), (27, .ptr 0 3), (28, sA x0.gSalt), (29, bA (!true)), (30, bA (((!true) || (!true)) || (!true))), (31, bA (((!true) || (!true)) || (!true))), (32, .ptr 0 4), (33, .ro .unk x0.gSplit.length (TRange.cl x0.gSplit)), (34, iA (lI x0.gSplit)), (35, bA (decide ((lI x0.gSplit) > 0))), (36, bA ((((!true) || (!true)) || (!true)) || (decide ((lI x0.gSplit) > 0))))] ?_
              try rw [c1] at hv3
              try rw [c2] at hv3
              try rw [c3] at hv3
              try rw [c4] at hv3
              refine AD_callp (d := (some 37)) (al := [bA ((((!true) || (!true)) || (!true)) || (decide ((lI x0.gSplit) > 0))), iA 15]) (r := iA v3) (by kernel_rfl) (s_shape_when hv3) ⟨trivial, trivial, trivial⟩ trivial ?_
              refine AD_bsl (d := (some 38)) (m := 2) (cs := [iA v2, iA v3]) (by kernel_rfl) ⟨trivial, trivial, trivial⟩ ?_
              refine AD_callp (d := (some 39)) (al := [.ro .unk ([v2, v3]).length (cl_i64 ([v2, v3]))]) (r := iA v4) (by kernel_rfl) (s_shape_first hv4) ⟨(scl_cl_i64 _ _), trivial⟩ trivial ?_
              refine RD 1 62 [(25, 0), (24, 0), (20, 0), (19, 0), (15, 0), (14, 0), (11, 0), (10, 0), (5, 0), (4, 0), (1, 0), (0, 0)] [(1, iA x1), (2, .ptr 0 0), (4, iA v4), (8, .ptr 0 0), (9, iA x0.gVariation), (10, bA false), (11, bA false), (12, .ptr 0 0), (13, iA x0.gVariation), (14, iA x1), (15, bA (decide (x0.gVariation > x1))), (16, bA (false || (decide (x0.gVariation > x1)))), (17, iA v2), (18, .ptr 0 1), (19, sA x0.gKind), (20, bA (!true)), (21, bA (!true)), (22, .ptr 0 2), (23, sA x0.gBy), (24, bA (!true)), (25, bA ((!true) || (!true))), (26, bA ((!true) || (!true))), (27, .ptr 0 3), (28, sA x0.gSalt), (29, bA (!true)), (30, bA (((!true) || (!true)) || (!true))), (31, bA (((!true) || (!true)) || (!true))), (32, .ptr 0 4), (33, .ro .unk x0.gSplit.length (TRange.cl x0.gSplit)), (34, iA (lI x0.gSplit)), (35, bA (decide ((lI x0.gSplit) > 0))), (36, bA ((((!true) || (!true)) || (!true)) || (decide ((lI x0.gSplit) > 0)))), (37, iA v3), (38, .ro .unk ([v2, v3]).length (cl_i64 ([v2, v3]))), (39, iA v4)] ?_
              exact AD_here [4] (by kernel_rfl) rfl
            | false =>
              refine RD 5 62 [(20, 0), (19, 0), (15, 0), (14, 0), (11, 0), (10, 0), (5, 0), (4, 0), (1, 0), (0, 0)] [(1, iA x1), (2, .ptr 0 0), (8, .ptr 0 0), (9, iA x0.gVariation), (10, bA false), (11, bA false), (12, .ptr 0 0), (13, iA x0.gVariation), (14, iA x1), (15, bA (decide (x0.gVariation > x1))), (16, bA (false || (decide (x0.gVariation > x1)))), (17, iA v2), (18, .ptr 0 1), (19, sA x0.gKind), (20, bA (!true)), (21, bA (!true)), (22, .ptr 0 2), (23, sA x0.gBy), (24, bA (!true)), (25, bA ((!true) || (!true))), (26, bA ((!true) || (!true))), (27, .ptr 0 3), (28, sA x0.gSalt), (29, bA (!false)), (30, bA (((!true) || (!true)) || (!false))), (31, bA (((!true) || (!true)) || (!false))), (32, undefA), (33, undefA), (34, undefA), (35, undefA), (36, bA ((((!true) || (!true)) || (!false)) || (decide ((lI x0.gSplit) > 0))))] ?_
              try rw [c1] at hv3
              try rw [c2] at hv3
              try rw [c3] at hv3
              try rw [c4] at hv3
              refine AD_callp (d := (some 37)) (al := [bA ((((!true) || (!true)) || (!false)) || (decide ((lI x0.gSplit) > 0))), iA 15]) (r := iA v3) (by kernel_rfl) (s_shape_when hv3) ⟨trivial, trivial, trivial⟩ trivial ?_
              refine AD_bsl (d := (some 38)) (m := 2) (cs := [iA v2, iA v3]) (by kernel_rfl) ⟨trivial, trivial, trivial⟩ ?_
              refine AD_callp (d := (some 39)) (al := [.ro .unk ([v2, v3]).length (cl_i64 ([v2, v3]))]) (r := iA v4) (by kernel_rfl) (s_shape_first hv4) ⟨(scl_cl_i64 _ _), trivial⟩ trivial ?_
              refine RD 1 62 [(20, 0), (19, 0), (15, 0), (14, 0), (11, 0), (10, 0), (5, 0), (4, 0), (1, 0), (0, 0)] [(1, iA x1), (2, .ptr 0 0), (4, iA v4), (8, .ptr 0 0), (9, iA x0.gVariation), (10, bA false), (11, bA false), (12, .ptr 0 0), (13, iA x0.gVariation), (14, iA x1), (15, bA (decide (x0.gVariation > x1))), (16, bA (false || (decide (x0.gVariation > x1)))), (17, iA v2), (18, .ptr 0 1), (19, sA x0.gKind), (20, bA (!true)), (21, bA (!true)), (22, .ptr 0 2), (23, sA x0.gBy), (24, bA (!true)), (25, bA ((!true) || (!true))), (26, bA ((!true) || (!true))), (27, .ptr 0 3), (28, sA x0.gSalt), (29, bA (!false)), (30, bA (((!true) || (!true)) || (!false))), (31, bA (((!true) || (!true)) || (!false))), (32, undefA), (33, undefA), (34, undefA), (35, undefA), (36, bA ((((!true) || (!true)) || (!false)) || (decide ((lI x0.gSplit) > 0)))), (37, iA v3), (38, .ro .unk ([v2, v3]).length (cl_i64 ([v2, v3]))), (39, iA v4)] ?_
              exact AD_here [4] (by kernel_rfl) rfl
          | false =>
            refine RD 10 62 [(15, 0), (14, 0), (11, 0), (10, 0), (5, 0), (4, 0), (1, 0), (0, 0)] [(1, iA x1), (2, .ptr 0 0), (8, .ptr 0 0), (9, iA x0.gVariation), (10, bA false), (11, bA false), (12, .ptr 0 0), (13, iA x0.gVariation), (14, iA x1), (15, bA (decide (x0.gVariation > x1))), (16, bA (false || (decide (x0.gVariation > x1)))), (17, iA v2), (18, .ptr 0 1), (19, sA x0.gKind), (20, bA (!true)), (21, bA (!true)), (22, .ptr 0 2), (23, sA x0.gBy), (24, bA (!false)), (25, bA ((!true) || (!false))), (26, bA ((!true) || (!false))), (27, undefA), (28, undefA), (29, undefA), (30, bA (((!true) || (!false)) || (!(seq' x0.gSalt ByteArray.empty)))), (31, bA (((!true) || (!false)) || (!(seq' x0.gSalt ByteArray.empty)))), (32, undefA), (33, undefA), (34, undefA), (35, undefA), (36, bA ((((!true) || (!false)) || (!(seq' x0.gSalt ByteArray.empty))) || (decide ((lI x0.gSplit) > 0))))] ?_
            try rw [c1] at hv3
            try rw [c2] at hv3
            try rw [c3] at hv3
            refine AD_callp (d := (some 37)) (al := [bA ((((!true) || (!false)) || (!(seq' x0.gSalt ByteArray.empty))) || (decide ((lI x0.gSplit) > 0))), iA 15]) (r := iA v3) (by kernel_rfl) (s_shape_when hv3) ⟨trivial, trivial, trivial⟩ trivial ?_
            refine AD_bsl (d := (some 38)) (m := 2) (cs := [iA v2, iA v3]) (by kernel_rfl) ⟨trivial, trivial, trivial⟩ ?_
            refine AD_callp (d := (some 39)) (al := [.ro .unk ([v2, v3]).length (cl_i64 ([v2, v3]))]) (r := iA v4) (by kernel_rfl) (s_shape_first hv4) ⟨(scl_cl_i64 _ _), trivial⟩ trivial ?_
            refine RD 1 62 [(15, 0), (14, 0), (11, 0), (10, 0), (5, 0), (4, 0), (1, 0), (0, 0)] [(1, iA x1), (2, .ptr 0 0), (4, iA v4), (8, .ptr 0 0), (9, iA x0.gVariation), (10, bA false), (11, bA false), (12, .ptr 0 0), (13, iA x0.gVariation), (14, iA x1), (15, bA (decide (x0.gVariation > x1))), (16, bA (false || (decide (x0.gVariation > x1)))), (17, iA v2), (18, .ptr 0 1), (19, sA x0.gKind), (20, bA (!true)), (21, bA (!true)), (22, .ptr 0 2), (23, sA x0.gBy), (24, bA (!false)), (25, bA ((!true) || (!false))), (26, bA ((!true) || (!false))), (27, undefA), (28, undefA), (29, undefA), (30, bA (((!true) || (!false)) || (!(seq' x0.gSalt ByteArray.empty)))), (31, bA (((!true) || (!false)) || (!(seq' x0.gSalt ByteArray.empty)))), (32, undefA), (33, undefA), (34, undefA), (35, undefA), (36, bA ((((!true) || (!false)) || (!(seq' x0.gSalt ByteArray.empty))) || (decide ((lI x0.gSplit) > 0)))), (37, iA v3), (38, .ro .unk ([v2, v3]).length (cl_i64 ([v2, v3]))), (39, iA v4)] ?_
            exact AD_here [4] (by kernel_rfl) rfl
        | false =>
          refine RD 15 62 [(11, 0), (10, 0), (5, 0), (4, 0), (1, 0), (0, 0)] [(1, iA x1), (2, .ptr 0 0), (8, .ptr 0 0), (9, iA x0.gVariation), (10, bA false), (11, bA false), (12, .ptr 0 0), (13, iA x0.gVariation), (14, iA x1), (15, bA (decide (x0.gVariation > x1))), (16, bA (false || (decide (x0.gVariation > x1)))), (17, iA v2), (18, .ptr 0 1), (19, sA x0.gKind), (20, bA (!false)), (21, bA (!false)), (22, undefA), (23, undefA), (24, undefA), (25, bA ((!false) || (!(seq' x0.gBy ByteArray.empty)))), (26, bA ((!false) || (!(seq' x0.gBy ByteArray.empty)))), (27, undefA), (28, undefA), (29, undefA), (30, bA (((!false) || (!(seq' x0.gBy ByteArray.empty))) || (!(seq' x0.gSalt ByteArray.empty)))), (31, bA (((!false) || (!(seq' x0.gBy ByteArray.empty))) || (!(seq' x0.gSalt ByteArray.empty)))), (32, undefA), (33, undefA), (34, undefA), (35, undefA), (36, bA ((((!false) || (!(seq' x0.gBy ByteArray.empty))) || (!(seq' x0.gSalt ByteArray.empty))) || (decide ((lI x0.gSplit) > 0))))] ?_
          try rw [c1] at hv3
          try rw [c2] at hv3
          refine AD_callp (d := (some 37)) (al := [bA ((((!false) || (!(seq' x0.gBy ByteArray.empty))) || (!(seq' x0.gSalt ByteArray.empty))) || (decide ((lI x0.gSplit) > 0))), iA 15]) (r := iA v3) (by kernel_rfl) (s_shape_when hv3) ⟨trivial, trivial, trivial⟩ trivial ?_
          refine AD_bsl (d := (some 38)) (m := 2) (cs := [iA v2, iA v3]) (by kernel_rfl) ⟨trivial, trivial, trivial⟩ ?_
          refine AD_callp (d := (some 39)) (al := [.ro .unk ([v2, v3]).length (cl_i64 ([v2, v3]))]) (r := iA v4) (by kernel_rfl) (s_shape_first hv4) ⟨(scl_cl_i64 _ _), trivial⟩ trivial ?_
          refine RD 1 62 [(11, 0), (10, 0), (5, 0), (4, 0), (1, 0), (0, 0)] [(1, iA x1), (2, .ptr 0 0), (4, iA v4), (8, .ptr 0 0), (9, iA x0.gVariation), (10, bA false), (11, bA false), (12, .ptr 0 0), (13, iA x0.gVariation), (14, iA x1), (15, bA (decide (x0.gVariation > x1))), (16, bA (false || (decide (x0.gVariation > x1)))), (17, iA v2), (18, .ptr 0 1), (19, sA x0.gKind), (20, bA (!false)), (21, bA (!false)), (22, undefA), (23, undefA), (24, undefA), (25, bA ((!false) || (!(seq' x0.gBy ByteArray.empty)))), (26, bA ((!false) || (!(seq' x0.gBy ByteArray.empty)))), (27, undefA), (28, undefA), (29, undefA), (30, bA (((!false) || (!(seq' x0.gBy ByteArray.empty))) || (!(seq' x0.gSalt ByteArray.empty)))), (31, bA (((!false) || (!(seq' x0.gBy ByteArray.empty))) || (!(seq' x0.gSalt ByteArray.empty)))), (32, undefA), (33, undefA), (34, undefA), (35, undefA), (36, bA ((((!false) || (!(seq' x0.gBy ByteArray.empty))) || (!(seq' x0.gSalt ByteArray.empty))) || (decide ((lI x0.gSplit) > 0)))), (37, iA v3), (38, .ro .unk ([v2, v3]).length (cl_i64 ([v2, v3]))), (39, iA v4)] ?_
          exact AD_here [4] (by kernel_rfl) rfl
    exact AWP_ret (FR H)
  · refine AWP_skip ?_
    show AWP _ _ _ _ _ _ _
    obtain ⟨v5, hv5, H⟩ := bind_some H
    obtain ⟨v6, hv6, H⟩ := bind_some H
    obtain ⟨v7, hv7, H⟩ := bind_some H
    obtain ⟨v8, hv8, H⟩ := bind_some H
    obtain ⟨v9, hv9, H⟩ := bind_some H
    obtain ⟨v10, hv10, H⟩ := bind_some H
    obtain ⟨v11, hv11, H⟩ := bind_some H
    refine AWP_regD1 [0, 1, 11, 12, 16, 17, 18, 2, 3, 4, 5, 6, 7, 8, 9, 10, 13, 14, 15, 19, 20, 21, 22] (N := 62) (f := [(1, iA x1), (2, .ptr 0 0)]) (leL_of [1, 2] (by kernel_rfl)) mixed (by kernel_rfl) (by kernel_rfl) (st' := fr 62 [(4, iA v11)]) (h' := [.cells 56 (TServe.cs x0)]) ?_ ?_
    rotate_left
    · refine RD 7 62 [(17, 0), (16, 0), (12, 0), (11, 0), (1, 0), (0, 0)] [(1, iA x1), (2, .ptr 0 0), (40, .ptr 0 1), (41, sA x0.gKind), (51, .ptr 0 3), (52, sA x0.gSalt), (56, .ptr 0 4), (57, .ro .unk x0.gSplit.length (TRange.cl x0.gSplit)), (58, iA x1)] (AD_callp (d := (some 42)) (al := [sA x0.gKind]) (r := bA v5) (by kernel_rfl) (s_text_Key hG hv5) ⟨trivial, trivial⟩ trivial ?_)
      refine RD 2 62 [(17, 0), (16, 0), (12, 0), (11, 0), (1, 0), (0, 0)] [(1, iA x1), (2, .ptr 0 0), (40, .ptr 0 1), (41, sA x0.gKind), (42, bA v5), (43, bA (!v5)), (44, bA (!v5)), (51, .ptr 0 3), (52, sA x0.gSalt), (56, .ptr 0 4), (57, .ro .unk x0.gSplit.length (TRange.cl x0.gSplit)), (58, iA x1)] ?_
      cases c1 : (v5 : Bool) with
      | true =>
        refine RD 2 62 [(6, 0), (5, 0), (17, 0), (16, 0), (12, 0), (11, 0), (1, 0), (0, 0)] [(1, iA x1), (2, .ptr 0 0), (40, .ptr 0 1), (41, sA x0.gKind), (42, bA true), (43, bA (!true)), (44, bA (!true)), (45, .ptr 0 2), (46, sA x0.gBy), (51, .ptr 0 3), (52, sA x0.gSalt), (56, .ptr 0 4), (57, .ro .unk x0.gSplit.length (TRange.cl x0.gSplit)), (58, iA x1)] ?_
        have hv6_ := cond_t hv6 (by simp only [c1] <;> rfl)
        refine AD_callp (d := (some 47)) (al := [sA x0.gBy]) (r := bA v6) (by kernel_rfl) (s_text_Key hG hv6_) ⟨trivial, trivial⟩ trivial ?_
        refine RD 2 62 [(6, 0), (5, 0), (17, 0), (16, 0), (12, 0), (11, 0), (1, 0), (0, 0)] [(1, iA x1), (2, .ptr 0 0), (40, .ptr 0 1), (41, sA x0.gKind), (42, bA true), (43, bA (!true)), (44, bA (!true)), (45, .ptr 0 2), (46, sA x0.gBy), (47, bA v6), (48, bA (!v6)), (49, bA ((!true) || (!v6))), (51, .ptr 0 3), (52, sA x0.gSalt), (56, .ptr 0 4), (57, .ro .unk x0.gSplit.length (TRange.cl x0.gSplit)), (58, iA x1)] ?_
        try rw [c1] at hv7
        refine AD_callp (d := (some 50)) (al := [bA ((!true) || (!v6)), iA 6]) (r := iA v7) (by kernel_rfl) (s_shape_when hv7) ⟨trivial, trivial, trivial⟩ trivial ?_
        refine AD_callp (d := (some 53)) (al := [sA x0.gSalt]) (r := bA v8) (by kernel_rfl) (s_text_Valid hG hv8) ⟨trivial, trivial⟩ trivial ?_
        refine RD 1 62 [(6, 0), (5, 0), (17, 0), (16, 0), (12, 0), (11, 0), (1, 0), (0, 0)] [(1, iA x1), (2, .ptr 0 0), (40, .ptr 0 1), (41, sA x0.gKind), (42, bA true), (43, bA (!true)), (44, bA (!true)), (45, .ptr 0 2), (46, sA x0.gBy), (47, bA v6), (48, bA (!v6)), (49, bA ((!true) || (!v6))), (50, iA v7), (51, .ptr 0 3), (52, sA x0.gSalt), (53, bA v8), (54, bA (!v8)), (56, .ptr 0 4), (57, .ro .unk x0.gSplit.length (TRange.cl x0.gSplit)), (58, iA x1)] (AD_callp (d := (some 55)) (al := [bA (!v8), iA 2]) (r := iA v9) (by kernel_rfl) (s_shape_when hv9) ⟨trivial, trivial, trivial⟩ trivial ?_)
        refine AD_callp (d := (some 59)) (al := [.ro .unk x0.gSplit.length (TRange.cl x0.gSplit), iA x1]) (r := iA v10) (by kernel_rfl) (s_shape_Split hv10) ⟨(scl_TRange_cl _ _), trivial, trivial⟩ trivial ?_
        refine AD_bsl (d := (some 60)) (m := 3) (cs := [iA v7, iA v9, iA v10]) (by kernel_rfl) ⟨trivial, trivial, trivial, trivial⟩ ?_
        refine AD_callp (d := (some 61)) (al := [.ro .unk ([v7, v9, v10]).length (cl_i64 ([v7, v9, v10]))]) (r := iA v11) (by kernel_rfl) (s_shape_first hv11) ⟨(scl_cl_i64 _ _), trivial⟩ trivial ?_
        refine RD 1 62 [(6, 0), (5, 0), (17, 0), (16, 0), (12, 0), (11, 0), (1, 0), (0, 0)] [(1, iA x1), (2, .ptr 0 0), (4, iA v11), (40, .ptr 0 1), (41, sA x0.gKind), (42, bA true), (43, bA (!true)), (44, bA (!true)), (45, .ptr 0 2), (46, sA x0.gBy), (47, bA v6), (48, bA (!v6)), (49, bA ((!true) || (!v6))), (50, iA v7), (51, .ptr 0 3), (52, sA x0.gSalt), (53, bA v8), (54, bA (!v8)), (55, iA v9), (56, .ptr 0 4), (57, .ro .unk x0.gSplit.length (TRange.cl x0.gSplit)), (58, iA x1), (59, iA v10), (60, .ro .unk ([v7, v9, v10]).length (cl_i64 ([v7, v9, v10]))), (61, iA v11)] ?_
        exact AD_here [4] (by kernel_rfl) rfl
      | false =>
        refine RD 2 62 [(17, 0), (16, 0), (12, 0), (11, 0), (1, 0), (0, 0)] [(1, iA x1), (2, .ptr 0 0), (40, .ptr 0 1), (41, sA x0.gKind), (42, bA false), (43, bA (!false)), (44, bA (!false)), (45, undefA), (46, undefA), (51, .ptr 0 3), (52, sA x0.gSalt), (56, .ptr 0 4), (57, .ro .unk x0.gSplit.length (TRange.cl x0.gSplit)), (58, iA x1)] (AD_offB (d := some 47) (by kernel_rfl) ?_)
        refine RD 2 62 [(17, 0), (16, 0), (12, 0), (11, 0), (1, 0), (0, 0)] [(1, iA x1), (2, .ptr 0 0), (40, .ptr 0 1), (41, sA x0.gKind), (42, bA false), (43, bA (!false)), (44, bA (!false)), (45, undefA), (46, undefA), (47, undefA), (48, undefA), (49, bA ((!false) || (!v6))), (51, .ptr 0 3), (52, sA x0.gSalt), (56, .ptr 0 4), (57, .ro .unk x0.gSplit.length (TRange.cl x0.gSplit)), (58, iA x1)] ?_
        try rw [c1] at hv7
        refine AD_callp (d := (some 50)) (al := [bA ((!false) || (!v6)), iA 6]) (r := iA v7) (by kernel_rfl) (s_shape_when hv7) ⟨trivial, trivial, trivial⟩ trivial ?_
        refine AD_callp (d := (some 53)) (al := [sA x0.gSalt]) (r := bA v8) (by kernel_rfl) (s_text_Valid hG hv8) ⟨trivial, trivial⟩ trivial ?_
        refine RD 1 62 [(17, 0), (16, 0), (12, 0), (11, 0), (1, 0), (0, 0)] [(1, iA x1), (2, .ptr 0 0), (40, .ptr 0 1), (41, sA x0.gKind), (42, bA false), (43, bA (!false)), (44, bA (!false)), (45, undefA), (46, undefA), (47, undefA), (48, undefA), (49, bA ((!false) || (!v6))), (50, iA v7), (51, .ptr 0 3), (52, sA x0.gSalt), (53, bA v8), (54, bA (!v8)), (56, .ptr 0 4), (57, .ro .unk x0.gSplit.length (TRange.cl x0.gSplit)), (58, iA x1)] (AD_callp (d := (some 55)) (al := [bA (!v8), iA 2]) (r := iA v9) (by kernel_rfl) (s_shape_when hv9) ⟨trivial, trivial, trivial⟩ trivial ?_)
        refine AD_callp (d := (some 59)) (al := [.ro .unk x0.gSplit.length (TRange.cl x0.gSplit), iA x1]) (r := iA v10) (by kernel_rfl) (s_shape_Split hv10) ⟨(scl_TRange_cl _ _), trivial, trivial⟩ trivial ?_
        refine AD_bsl (d := (some 60)) (m := 3) (cs := [iA v7, iA v9, iA v10]) (by kernel_rfl) ⟨trivial, trivial, trivial, trivial⟩ ?_
        refine AD_callp (d := (some 61)) (al := [.ro .unk ([v7, v9, v10]).length (cl_i64 ([v7, v9, v10]))]) (r := iA v11) (by kernel_rfl) (s_shape_first hv11) ⟨(scl_cl_i64 _ _), trivial⟩ trivial ?_
        refine RD 1 62 [(17, 0), (16, 0), (12, 0), (11, 0), (1, 0), (0, 0)] [(1, iA x1), (2, .ptr 0 0), (4, iA v11), (40, .ptr 0 1), (41, sA x0.gKind), (42, bA false), (43, bA (!false)), (44, bA (!false)), (45, undefA), (46, undefA), (47, undefA), (48, undefA), (49, bA ((!false) || (!v6))), (50, iA v7), (51, .ptr 0 3), (52, sA x0.gSalt), (53, bA v8), (54, bA (!v8)), (55, iA v9), (56, .ptr 0 4), (57, .ro .unk x0.gSplit.length (TRange.cl x0.gSplit)), (58, iA x1), (59, iA v10), (60, .ro .unk ([v7, v9, v10]).length (cl_i64 ([v7, v9, v10]))), (61, iA v11)] ?_
        exact AD_here [4] (by kernel_rfl) rfl
    exact AWP_ret (FR H)
theorem s_value_shape {n : Nat} {x0 : TValue} {r : Bool} (H : p_value_shape n x0 = some r) :
    Sp Tryz.prog E 113 [.agg (TValue.cs x0)] [] (isA (bA r) []) := by
  unfold p_value_shape at H
  refine Sp_fn Tryz.func113 rfl (fun hc hs => ?_)
  refine AWP_reg (R 2 37 [(1, .ptr 0 0)] [.cells 58 (TValue.cs x0)] (AOps_done (AWP_seq (AWP_reg (Rh 2 37 [(1, .ptr 0 0), (4, iA x0.gKind)] (AOps_done (AWP_block ?_)))))))
  refine AWP_joinN (α := Bool) (fun v2 => fr 37 [(1, .ptr 0 0), (4, iA x0.gKind), (5, bA v2)]) (fun v2 => [.cells 58 (TValue.cs x0)]) (fun v2 => ∃ q, q ≤ q ∧ p_value_shape_K1 q x0 v2 = some r) (fun v2 hC => ?_) ?_
  · show AWP _ _ _ _ _ (fr 37 [(1, .ptr 0 0), (4, iA x0.gKind), (5, bA v2)]) [.cells 58 (TValue.cs x0)]
    obtain ⟨n, hn_, hC⟩ := hC
    replace H : p_value_shape_K1 n x0 v2 = some r := hC
    unfold p_value_shape_K1 at H
    refine CD H (fun hb3 H => ?_) (fun hb3 H => ?_)
    · refine AWP_reg (Rh 4 37 [(1, .ptr 0 0), (11, bA (seq' x0.gText ByteArray.empty))] (AOps_run 5 [16] (st' := fr 37 [(16, bA ((seq' x0.gText ByteArray.empty) && ((lI x0.gList) == 0)))]) (h' := [.cells 58 (TValue.cs x0)]) (by (generalize (seq' x0.gText ByteArray.empty) = t0; cases t0 <;> kernel_rfl)) ?_))
      refine Rh 1 37 [(2, bA ((seq' x0.gText ByteArray.empty) && ((lI x0.gList) == 0)))] (AOps_done ?_)
      exact AWP_ret (FR H)
    · refine AWP_joinN (α := Bool) (fun v5 => fr 37 [(1, .ptr 0 0), (17, bA v5)]) (fun v5 => [.cells 58 (TValue.cs x0)]) (fun v5 => ∃ q, q ≤ q ∧ p_value_shape_K2 q x0 v5 = some r) (fun v5 hC => ?_) ?_
      · show AWP _ _ _ _ _ (fr 37 [(1, .ptr 0 0), (17, bA v5)]) [.cells 58 (TValue.cs x0)]
        obtain ⟨n, hn_, hC⟩ := hC
        replace H : p_value_shape_K2 n x0 v5 = some r := hC
        unfold p_value_shape_K2 at H
        refine CD H (fun hb6 H => ?_) (fun hb6 H => ?_)
        · refine AWP_reg (Rh 4 37 [(1, .ptr 0 0), (23, bA (x0.gNumber == 0))] (AOps_run 5 [28] (st' := fr 37 [(28, bA ((x0.gNumber == 0) && ((lI x0.gList) == 0)))]) (h' := [.cells 58 (TValue.cs x0)]) (by (generalize (x0.gNumber == 0) = t0; cases t0 <;> kernel_rfl)) ?_))
          refine Rh 1 37 [(2, bA ((x0.gNumber == 0) && ((lI x0.gList) == 0)))] (AOps_done ?_)
          exact AWP_ret (FR H)
        · refine AWP_skip ?_
          show AWP _ _ _ _ _ _ _
          refine AWP_reg (Rh 4 37 [(1, .ptr 0 0), (32, bA (x0.gNumber == 0))] (AOps_run 4 [36] (st' := fr 37 [(36, bA ((x0.gNumber == 0) && (seq' x0.gText ByteArray.empty)))]) (h' := [.cells 58 (TValue.cs x0)]) (by (generalize (x0.gNumber == 0) = t0; cases t0 <;> kernel_rfl)) ?_))
          refine Rh 1 37 [(2, bA ((x0.gNumber == 0) && (seq' x0.gText ByteArray.empty)))] (AOps_done ?_)
          exact AWP_ret (FR H)
      · refine AWP_reg (Rh 2 37 [(1, .ptr 0 0), (4, iA x0.gKind), (17, bA (x0.gKind == 3))] (AOps_done (CD H (fun hb7 H => ?_) (fun hb7 H => ?_))))
        · refine AWP_skip ?_
          exact Exists.intro (x0.gKind == 3) ⟨⟨n, by omega, H⟩, Norm_fd [1, 17] 0 (by kernel_rfl) rfl rfl ⟨(sc_TValue_cs _ _), trivial⟩ (by refine scL_fr ?_; exact ⟨(sc_ptr rfl), trivial, trivial⟩)⟩
        · refine AWP_region ?_
          refine Rh 2 37 [(1, .ptr 0 0), (17, bA (x0.gKind == 4))] (AOps_done ?_)
          exact Exists.intro (x0.gKind == 4) ⟨⟨n, by omega, H⟩, Norm_fd [1, 17] 0 (by kernel_rfl) rfl rfl ⟨(sc_TValue_cs _ _), trivial⟩ (by refine scL_fr ?_; exact ⟨(sc_ptr rfl), trivial, trivial⟩)⟩
  · refine AWP_reg (Rh 2 37 [(1, .ptr 0 0), (4, iA x0.gKind), (5, bA (x0.gKind == 1))] (AOps_done (CD H (fun hb8 H => ?_) (fun hb8 H => ?_))))
    · refine AWP_skip ?_
      exact Exists.intro (x0.gKind == 1) ⟨⟨n, by omega, H⟩, Norm_fd [1, 4, 5] 0 (by kernel_rfl) rfl rfl ⟨(sc_TValue_cs _ _), trivial⟩ (by refine scL_fr ?_; exact ⟨(sc_ptr rfl), trivial, trivial, trivial⟩)⟩
    · refine AWP_region ?_
      refine Rh 2 37 [(1, .ptr 0 0), (4, iA x0.gKind), (5, bA (x0.gKind == 2))] (AOps_done ?_)
      exact Exists.intro (x0.gKind == 2) ⟨⟨n, by omega, H⟩, Norm_fd [1, 4, 5] 0 (by kernel_rfl) rfl rfl ⟨(sc_TValue_cs _ _), trivial⟩ (by refine scL_fr ?_; exact ⟨(sc_ptr rfl), trivial, trivial, trivial⟩)⟩
theorem s_internal_stringslite_HasPrefix {n : Nat} {x0 : ByteArray} {x1 : ByteArray} {r : Bool} (H : p_internal_stringslite_HasPrefix n x0 x1 = some r) :
    Sp Tryz.prog E 197 [sA x0, sA x1] [] (isA (bA r) []) := by
  unfold p_internal_stringslite_HasPrefix at H
  refine Sp_fn Tryz.func197 rfl (fun hc hs => ?_)
  refine AWP_reg (Rh 1 18 [(0, sA x0), (1, sA x1)] (AOps_done (AWP_reg (Rh 6 18 [(0, sA x0), (1, sA x1), (10, bA (decide ((szI x0) ≥ (szI x1))))] ?_))))
  obtain ⟨v1, hv1, H⟩ := bind_some H
  refine AOps_cut 7 (st' := fr 18 [(17, bA ((decide ((szI x0) ≥ (szI x1))) && (seq' v1 x1)))]) (h' := []) ?_ ?_
  rotate_left
  · cases c1 : (decide ((szI x0) ≥ (szI x1)) : Bool) with
    | true =>
      refine R 3 18 [(1, sA x1), (10, bA true), (11, sA x0), (13, iA (szI x1))] [] ?_
      have hv1_ := cond_t hv1 (by simp only [c1] <;> rfl)
      refine AOps_scut (d := (some 14)) (by kernel_rfl) hv1_ ?_
      refine R 3 18 [(17, bA (true && (seq' v1 x1)))] [] ?_
      exact AOps_here [17] (by kernel_rfl) rfl
    | false =>
      refine R 7 18 [(17, bA (false && (seq' v1 x1)))] [] ?_
      exact AOps_here [17] (by kernel_rfl) rfl
  refine Rh 1 18 [(4, bA ((decide ((szI x0) ≥ (szI x1))) && (seq' v1 x1)))] (AOps_done ?_)
  exact AWP_ret (FR H)
theorem s_internal_stringslite_CutPrefix {n : Nat} {x0 : ByteArray} {x1 : ByteArray} {r : ByteArray × Bool} (H : p_internal_stringslite_CutPrefix n x0 x1 = some r) :
    Sp Tryz.prog E 182 [sA x0, sA x1] [] (isA (.tup [sA r.1, bA r.2]) []) := by
  unfold p_internal_stringslite_CutPrefix at H
  refine Sp_fn Tryz.func182 rfl (fun hc hs => ?_)
  refine AWP_reg (Rh 2 15 [(0, sA x0), (1, sA x1)] (AOps_done (AWP_seq (AWP_reg (Rh 2 15 [(0, sA x0), (1, sA x1), (6, sA x0), (7, sA x1)] ?_)))))
  obtain ⟨v1, hv1, H⟩ := bind_some H
  refine AOps_callp (d := (some 8)) (al := [sA x0, sA x1]) (r := bA v1) (by kernel_rfl) (s_internal_stringslite_HasPrefix hv1) ⟨trivial, trivial, trivial⟩ trivial ?_
  refine Rh 1 15 [(0, sA x0), (1, sA x1), (9, bA (!v1))] (AOps_done (CD H (fun hb2 H => ?_) (fun hb2 H => ?_)))
  · refine AWP_reg (Rh 3 15 [(4, sA x0), (5, bA false)] (AOps_done (AWP_ret ?_)))
    have hr := Option.some.inj H
    subst hr
    exact Fin_retn 0 (l := [sA x0, bA false]) (h' := []) (by kernel_rfl) rfl (Nat.le_of_ble_eq_true rfl) ((by refine Closed_of ?_; exact trivial)) (Frz_sc ⟨trivial, trivial, trivial⟩) ⟨rfl, rfl⟩
  · refine AWP_skip ?_
    show AWP _ _ _ _ _ _ _
    refine AWP_reg (Rh 3 15 [(11, sA x0), (13, iA (szI x1))] ?_)
    obtain ⟨v3, hv3, H⟩ := bind_some H
    refine AOps_scut (d := (some 14)) (by kernel_rfl) hv3 ?_
    refine Rh 2 15 [(4, sA v3), (5, bA true)] (AOps_done (AWP_ret ?_))
    have hr := Option.some.inj H
    subst hr
    exact Fin_retn 0 (l := [sA v3, bA true]) (h' := []) (by kernel_rfl) rfl (Nat.le_of_ble_eq_true rfl) ((by refine Closed_of ?_; exact trivial)) (Frz_sc ⟨trivial, trivial, trivial⟩) ⟨rfl, rfl⟩
theorem s_strings_CutPrefix {n : Nat} {x0 : ByteArray} {x1 : ByteArray} {r : ByteArray × Bool} (H : p_strings_CutPrefix n x0 x1 = some r) :
    Sp Tryz.prog E 155 [sA x0, sA x1] [] (isA (.tup [sA r.1, bA r.2]) []) := by
  unfold p_strings_CutPrefix at H
  refine Sp_fn Tryz.func155 rfl (fun hc hs => ?_)
  refine AWP_reg (Rh 2 11 [(0, sA x0), (1, sA x1)] (AOps_done (AWP_reg (Rh 2 11 [(6, sA x0), (7, sA x1)] ?_))))
  obtain ⟨v1, hv1, H⟩ := bind_some H
  refine AOps_callp (d := (some 8)) (al := [sA x0, sA x1]) (r := .tup [sA v1.1, bA v1.2]) (by kernel_rfl) (s_internal_stringslite_CutPrefix hv1) ⟨trivial, trivial, trivial⟩ ⟨trivial, trivial, trivial⟩ ?_
  refine Rh 4 11 [(4, sA v1.1), (5, bA v1.2)] (AOps_done (AWP_ret ?_))
  have hr := Option.some.inj H
  subst hr
  exact Fin_retn 0 (l := [sA v1.1, bA v1.2]) (h' := []) (by kernel_rfl) rfl (Nat.le_of_ble_eq_true rfl) ((by refine Closed_of ?_; exact trivial)) (Frz_sc ⟨trivial, trivial, trivial⟩) ⟨rfl, rfl⟩
end Go.Proofs.YtjhbobacbaikoaaGreatDoor
/- Functions of the program as pure functions, and that the program computes these. -/
namespace Go.Proofs.YtjhbobacbaikoaaGreatDoor
open Go
set_option linter.unusedVariables false
set_option linter.unusedSimpArgs false
set_option maxRecDepth 100000
def p_text_ParseNumber_L1 (n : Nat) (x0 : ByteArray) (v1 : ByteArray × Bool) (v9 : Nat) : Option (Int × Int) := match n with
| 0 => none
| n + 1 =>
(bif decide (v9 < v1.1.size) then
(bif (decide ((decR v1.1 v9) < 48)) || (decide ((decR v1.1 v9) > 57)) then
 some (0, 1)
 else
 p_text_ParseNumber_L1 n x0 v1 (v9 + decW v1.1 v9))
 else
(p_strconv_Atoi n x0).bind fun v12 =>
(bif (v12.2 || (decide (v12.1 < (-1099511627776)))) || (decide (v12.1 > 1099511627776)) then
 some (0, 3)
 else
 some (v12.1, 0)))
def p_text_ParseNumber (n : Nat) (x0 : ByteArray) : Option (Int × Int) :=
(p_strings_CutPrefix n x0 (⟨#[45]⟩ : ByteArray)).bind fun v1 =>
(bif !(seq' v1.1 ByteArray.empty) then rdS v1.1 0 else some 0).bind fun v2 =>
(bif (seq' v1.1 ByteArray.empty) || ((v2 == 48) && ((decide ((szI v1.1) > 1)) || v1.2)) then
 some (0, 1)
 else
 p_text_ParseNumber_L1 n x0 v1 0)
def p_value_parts_L1 (n : Nat) (v1 : (List ByteArray)) (v17 : Int) (v18 : Int) (v19 : Int) (v20 : Int) : Option ((Int × Int × Int) × Bool) := match n with
| 0 => none
| n + 1 =>
(bif decide (v17 < (lI v1)) then
(rdO v1 v17).bind fun v22 =>
(p_text_ParseNumber n v22).bind fun v23 =>
(bif ((v23.2 != 0) || (decide (v23.1 < 0))) || (decide (v23.1 > 999999)) then
 some ((0, 0, 0), false)
 else
(inO 3 v17).bind fun v25 =>
 p_value_parts_L1 n v1 (w64 (v17 + 1)) (arI 0 v17 v23.1 v18) (arI 1 v17 v23.1 v19) (arI 2 v17 v23.1 v20))
 else
 some ((v18, v19, v20), true))
def p_value_parts (n : Nat) (x0 : ByteArray) : Option ((Int × Int × Int) × Bool) :=
(p_strings_Split n x0 (⟨#[46]⟩ : ByteArray)).bind fun v1 =>
(bif (lI v1) != 3 then
 some ((0, 0, 0), false)
 else
 p_value_parts_L1 n v1 0 0 0 0)
def p_value_Check_K1 (n : Nat)  : Option Int :=
 some (0)
def p_value_Check_L2 (n : Nat) (x0 : TValue) (v77 : Int) : Option Int := match n with
| 0 => none
| n + 1 =>
(bif decide (v77 < (lI x0.gList)) then
(bif decide (v77 > 0) then rdO x0.gList (w64 (v77 - 1)) else some ByteArray.empty).bind fun v79 =>
(bif decide (v77 > 0) then rdO x0.gList v77 else some ByteArray.empty).bind fun v80 =>
(bif (decide (v77 > 0)) && (!(slt' v79 v80)) then
 some (9)
 else
 p_value_Check_L2 n x0 (w64 (v77 + 1)))
 else
 p_value_Check_K1 n  )
def p_value_Check_L1 (n : Nat) (x0 : TValue) (v64 : Int) : Option Int := match n with
| 0 => none
| n + 1 =>
(bif decide (v64 < (lI x0.gList)) then
(rdO x0.gList v64).bind fun v66 =>
(p_text_Valid n v66).bind fun v67 =>
(bif !v67 then
 some (2)
 else
 p_value_Check_L1 n x0 (w64 (v64 + 1)))
 else
 p_value_Check_L2 n x0 0)
def p_value_Check (n : Nat) (x0 : TValue) : Option Int :=
(bif (decide (x0.gKind < 1)) || (decide (x0.gKind > 5)) then
 some (7)
 else
(p_value_shape n x0).bind fun v2 =>
(bif !v2 then
 some (15)
 else
(bif x0.gKind == 1 then
(bif (x0.gNumber != 0) && (x0.gNumber != 1) then
 some (3)
 else
 p_value_Check_K1 n  )
 else
(bif x0.gKind == 2 then
(bif (decide (x0.gNumber < (-1099511627776))) || (decide (x0.gNumber > 1099511627776)) then
 some (3)
 else
 p_value_Check_K1 n  )
 else
(bif x0.gKind == 3 then
(p_text_Valid n x0.gText).bind fun v48 =>
(bif !v48 then
 some (2)
 else
 p_value_Check_K1 n  )
 else
(bif x0.gKind == 4 then
(p_value_parts n x0.gText).bind fun v51 =>
(bif !v51.2 then
 some (1)
 else
 p_value_Check_K1 n  )
 else
(bif x0.gKind == 5 then
(bif decide ((lI x0.gList) > 20) then
 some (5)
 else
 p_value_Check_L1 n x0 0)
 else
 p_value_Check_K1 n  )))))))
def p_shape_prerequisites_L1 (n : Nat) (x0 : List TPrerequisite) (v21 : Int) : Option Int := match n with
| 0 => none
| n + 1 =>
(bif decide (v21 < (lI x0)) then
(rdO x0 v21).bind fun v23 =>
(p_text_Key n v23.gFlag).bind fun v24 =>
(p_shape_when n (!v24) 6).bind fun v25 =>
(bif decide (v21 > 0) then rdO x0 (if 0 > (w64 (v21 - 1)) then 0 else (w64 (v21 - 1))) else some ({ gFlag := ByteArray.empty, gVariation := 0 } : TPrerequisite)).bind fun v26 =>
(p_shape_when n ((decide (v21 > 0)) && (sle' v23.gFlag v26.gFlag)) 9).bind fun v27 =>
(p_shape_when n ((decide (v23.gVariation < 1)) || (decide (v23.gVariation > 8))) 3).bind fun v28 =>
(p_shape_first n ([v25, v27, v28])).bind fun v29 =>
(bif v29 != 0 then
 some (v29)
 else
 p_shape_prerequisites_L1 n x0 (w64 (v21 + 1)))
 else
 some (0))
def p_shape_prerequisites (n : Nat) (x0 : List TPrerequisite) : Option Int :=
(bif decide ((lI x0) > 4) then
 some (5)
 else
 p_shape_prerequisites_L1 n x0 0)
variable {E : Env}
theorem s_text_ParseNumber {n : Nat} (hG : GlobT E) {x0 : ByteArray} {r : Int × Int} (H : p_text_ParseNumber n x0 = some r) :
    Sp Tryz.prog E 133 [sA x0] [] (isA (.tup [iA r.1, iA r.2]) []) := by
  unfold p_text_ParseNumber at H
  refine Sp_fn Tryz.func133 rfl (fun hc hs => ?_)
  refine AWP_reg (Rh 2 57 [(0, sA x0)] (AOps_done (AWP_reg (Rh 1 57 [(0, sA x0), (11, sA x0)] ?_))))
  obtain ⟨v1, hv1, H⟩ := bind_some H
  refine AOps_callp (d := (some 12)) (al := [sA x0, sA (⟨#[45]⟩ : ByteArray)]) (r := .tup [sA v1.1, bA v1.2]) (by kernel_rfl) (s_strings_CutPrefix hv1) ⟨trivial, trivial, trivial⟩ ⟨trivial, trivial, trivial⟩ ?_
  refine Rh 5 57 [(0, sA x0), (4, sA v1.1), (5, bA v1.2)] (AOps_done (AWP_seq (AWP_reg (Rh 3 57 [(0, sA x0), (4, sA v1.1), (5, bA v1.2), (17, bA (seq' v1.1 ByteArray.empty))] ?_))))
  obtain ⟨v2, hv2, H⟩ := bind_some H
  refine AOps_cut 12 (st' := fr 57 [(0, sA x0), (4, sA v1.1), (29, bA ((seq' v1.1 ByteArray.empty) || ((v2 == 48) && ((decide ((szI v1.1) > 1)) || v1.2))))]) (h' := []) ?_ ?_
  rotate_left
  · cases c1 : (seq' v1.1 ByteArray.empty : Bool) with
    | true =>
      refine R 12 57 [(0, sA x0), (4, sA v1.1), (29, bA (true || ((v2 == 48) && ((decide ((szI v1.1) > 1)) || v1.2))))] [] ?_
      exact AOps_here [0, 4, 29] (by kernel_rfl) rfl
    | false =>
      refine R 1 57 [(0, sA x0), (4, sA v1.1), (5, bA v1.2), (17, bA false), (18, sA v1.1)] [] ?_
      have hv2_ := cond_t hv2 (by simp only [c1] <;> rfl)
      refine AOps_sindex (d := (some 19)) (by kernel_rfl) hv2_ ?_
      refine R 2 57 [(0, sA x0), (4, sA v1.1), (5, bA v1.2), (17, bA false), (21, bA (v2 == 48))] [] ?_
      cases c2 : (v2 == 48 : Bool) with
      | true =>
        refine R 4 57 [(0, sA x0), (4, sA v1.1), (5, bA v1.2), (17, bA false), (21, bA true), (25, bA (decide ((szI v1.1) > 1)))] [] ?_
        cases c3 : (decide ((szI v1.1) > 1) : Bool) with
        | true =>
          refine R 4 57 [(0, sA x0), (4, sA v1.1), (29, bA (false || (true && (true || v1.2))))] [] ?_
          exact AOps_here [0, 4, 29] (by kernel_rfl) rfl
        | false =>
          refine R 4 57 [(0, sA x0), (4, sA v1.1), (29, bA (false || (true && (false || v1.2))))] [] ?_
          exact AOps_here [0, 4, 29] (by kernel_rfl) rfl
      | false =>
        refine R 8 57 [(0, sA x0), (4, sA v1.1), (29, bA (false || (false && ((decide ((szI v1.1) > 1)) || v1.2))))] [] ?_
        exact AOps_here [0, 4, 29] (by kernel_rfl) rfl
  refine AOps_done (CD H (fun hb3 H => ?_) (fun hb3 H => ?_))
  · refine AWP_reg (Rh 2 57 [(2, iA 0), (3, iA 1)] (AOps_done (AWP_ret ?_)))
    have hr := Option.some.inj H
    subst hr
    exact Fin_retn 0 (l := [iA 0, iA 1]) (h' := []) (by kernel_rfl) rfl (Nat.le_of_ble_eq_true rfl) ((by refine Closed_of ?_; exact trivial)) (Frz_sc ⟨trivial, trivial, trivial⟩) ⟨rfl, rfl⟩
  · refine AWP_skip ?_
    show AWP _ _ _ _ _ _ _
    refine AWP_seq (AWP_reg (Rh 1 57 [(0, sA x0), (30, sA v1.1)] (AOps_range (d := (some 31)) (s := v1.1) (by kernel_rfl) ?_)))
    refine AOps_done (AWP_block ?_)
    refine AWP_loopN (α := Nat) (fun v9 => fr 57 [(0, sA x0), (31, .ptr 0 0)]) (fun v9 => [.iter v1.1 v9]) (fun k_ v9 => k_ ≤ n ∧ p_text_ParseNumber_L1 k_ x0 v1 v9 = some r) (fun n v9 H => ?_) (k := n) 0 ⟨Nat.le_refl _, H⟩ (Norm_fd [0, 31] 0 (by kernel_rfl) rfl rfl ⟨trivial, trivial⟩ (by refine scL_fr ?_; exact ⟨trivial, (sc_ptr rfl), trivial⟩))
    show AWP _ _ _ _ _ (fr 57 [(0, sA x0), (31, .ptr 0 0)]) [.iter v1.1 v9]
    obtain ⟨hb_, H⟩ := H
    replace H : p_text_ParseNumber_L1 n x0 v1 v9 = some r := H
    cases n with
    | zero => exact not_none (by simpa only [p_text_ParseNumber_L1] using H)
    | succ n =>
      unfold p_text_ParseNumber_L1 at H
      refine AWP_reg ?_
      cases hb10 : decide (v9 < v1.1.size) with
      | true =>
        replace H := cond_t H hb10
        refine AOps_next (d := some 32) (id := 0) (s := v1.1) (p := v9) (by kernel_rfl) (of_decide_eq_true hb10) (h' := [.iter v1.1 (v9 + decW v1.1 v9)]) rfl ?_
        refine Rh 1 57 [(0, sA x0), (31, .ptr 0 0), (32, .tup [bA true, iA ((v9 : Nat) : Int), iK .i32 (decR v1.1 v9)]), (33, bA true)] (AOps_done (AWP_seq (AWP_cond (t := true) (by kernel_rfl) (fun hb => ?_) (fun hb => ?_))))
        · refine AWP_skip ?_
          show AWP _ _ _ _ _ _ _
          refine AWP_block ?_
          refine AWP_reg (Rh 2 57 [(0, sA x0), (7, iK .i32 (decR v1.1 v9)), (31, .ptr 0 0)] (AOps_done (AWP_reg (Rh 3 57 [(0, sA x0), (7, iK .i32 (decR v1.1 v9)), (31, .ptr 0 0), (37, bA (decide ((decR v1.1 v9) < 48)))] (AOps_run 3 [0, 31, 40] (st' := fr 57 [(0, sA x0), (31, .ptr 0 0), (40, bA ((decide ((decR v1.1 v9) < 48)) || (decide ((decR v1.1 v9) > 57))))]) (h' := [.iter v1.1 (v9 + decW v1.1 v9)]) (by (generalize (decide ((decR v1.1 v9) < 48)) = t0; cases t0 <;> kernel_rfl)) ?_)))))
          refine AOps_done (CD H (fun hb11 H => ?_) (fun hb11 H => ?_))
          · refine AWP_reg (Rh 2 57 [(2, iA 0), (3, iA 1)] (AOps_done (AWP_ret ?_)))
            have hr := Option.some.inj H
            subst hr
            exact Fin_retn 1 (l := [iA 0, iA 1]) (h' := []) (by kernel_rfl) rfl (Nat.le_of_ble_eq_true rfl) ((by refine Closed_of ?_; exact trivial)) (Frz_sc ⟨trivial, trivial, trivial⟩) ⟨rfl, rfl⟩
          · refine AWP_skip ?_
            exact Exists.intro (v9 + decW v1.1 v9) (Exists.intro n ⟨by omega, ⟨by omega, H⟩, Norm_fd [0, 31] 0 (by kernel_rfl) rfl rfl ⟨trivial, trivial⟩ (by refine scL_fr ?_; exact ⟨trivial, (sc_ptr rfl), trivial⟩)⟩)
        · cases hb
      | false =>
        replace H := cond_f H hb10
        refine AOps_next_end (d := some 32) (id := 0) (s := v1.1) (p := v9) (by kernel_rfl) (of_decide_eq_false hb10) ?_
        refine Rh 1 57 [(0, sA x0), (31, .ptr 0 0), (32, .tup [bA false]), (33, bA false)] (AOps_done (AWP_seq (AWP_cond (t := false) (by kernel_rfl) (fun hb => ?_) (fun hb => ?_))))
        · cases hb
        · refine AWP_exit ?_
          show AWP _ _ _ _ _ _ _
          refine AWP_reg (Rh 1 57 [(42, sA x0)] ?_)
          obtain ⟨v12, hv12, H⟩ := bind_some H
          refine AOps_callE (d := (some 43)) (al := [sA x0]) (by kernel_rfl) (s_strconv_Atoi hG hv12) (fun u12 hu12 => ?_)
          refine Rh 5 57 [(8, iA v12.1), (9, .val u12)] (AOps_done (AWP_seq (AWP_reg (Rh 1 57 [(8, iA v12.1), (46, .val u12)] (AOps_inil (d := (some 47)) (by kernel_rfl) hu12 ?_)))))
          refine Rh 1 57 [(8, iA v12.1), (48, bA v12.2)] (AOps_run 3 [8, 51] (st' := fr 57 [(8, iA v12.1), (51, bA (v12.2 || (decide (v12.1 < (-1099511627776)))))]) (h' := [.iter v1.1 v9]) (by (generalize v12.2 = t0; cases t0 <;> kernel_rfl)) ?_)
          refine Rh 1 57 [(8, iA v12.1), (52, bA (v12.2 || (decide (v12.1 < (-1099511627776)))))] (AOps_run 3 [8, 55] (st' := fr 57 [(8, iA v12.1), (55, bA ((v12.2 || (decide (v12.1 < (-1099511627776)))) || (decide (v12.1 > 1099511627776))))]) (h' := [.iter v1.1 v9]) (by (generalize v12.2 = t0; generalize (decide (v12.1 < (-1099511627776))) = t1; cases t0 <;> cases t1 <;> kernel_rfl)) ?_)
          refine AOps_done (CD H (fun hb13 H => ?_) (fun hb13 H => ?_))
          · refine AWP_reg (Rh 2 57 [(2, iA 0), (3, iA 3)] (AOps_done (AWP_ret ?_)))
            have hr := Option.some.inj H
            subst hr
            exact Fin_retn 1 (l := [iA 0, iA 3]) (h' := []) (by kernel_rfl) rfl (Nat.le_of_ble_eq_true rfl) ((by refine Closed_of ?_; exact trivial)) (Frz_sc ⟨trivial, trivial, trivial⟩) ⟨rfl, rfl⟩
          · refine AWP_skip ?_
            show AWP _ _ _ _ _ _ _
            refine AWP_reg (Rh 3 57 [(2, iA v12.1), (3, iA 0)] (AOps_done (AWP_ret ?_)))
            have hr := Option.some.inj H
            subst hr
            exact Fin_retn 1 (l := [iA v12.1, iA 0]) (h' := []) (by kernel_rfl) rfl (Nat.le_of_ble_eq_true rfl) ((by refine Closed_of ?_; exact trivial)) (Frz_sc ⟨trivial, trivial, trivial⟩) ⟨rfl, rfl⟩
theorem s_value_parts {n : Nat} (hG : GlobT E) {x0 : ByteArray} {r : (Int × Int × Int) × Bool} (H : p_value_parts n x0 = some r) :
    Sp Tryz.prog E 114 [sA x0] [] (isA (.tup [.agg [iA r.1.1, iA r.1.2.1, iA r.1.2.2], bA r.2]) []) := by
  unfold p_value_parts at H
  refine Sp_fn Tryz.func114 rfl (fun hc hs => ?_)
  refine AWP_reg (R 2 44 [(0, sA x0), (2, .ptr 0 0)] [.cells 162 [iA 0, iA 0, iA 0]] (AOps_done (AWP_reg (R 1 44 [(0, sA x0), (2, .ptr 0 0), (4, .ptr 1 0)] [.cells 162 [iA 0, iA 0, iA 0], .cells 162 [iA 0, iA 0, iA 0]] (AOps_done (AWP_reg (Rh 1 44 [(2, .ptr 0 0), (4, .ptr 1 0), (10, sA x0)] ?_)))))))
  obtain ⟨v1, hv1, H⟩ := bind_some H
  refine AOps_callp (d := (some 11)) (al := [sA x0, sA (⟨#[46]⟩ : ByteArray)]) (r := .ro .unk v1.length (cl_str v1)) (by kernel_rfl) (s_strings_Split hv1) ⟨trivial, trivial, trivial⟩ (scl_cl_str _ _) ?_
  refine Rh 1 44 [(2, .ptr 0 0), (4, .ptr 1 0), (5, .ro .unk v1.length (cl_str v1))] (AOps_done (AWP_seq (AWP_reg (Rh 3 44 [(2, .ptr 0 0), (4, .ptr 1 0), (5, .ro .unk v1.length (cl_str v1)), (14, bA ((lI v1) != 3))] (AOps_done (CD H (fun hb2 H => ?_) (fun hb2 H => ?_)))))))
  · refine AWP_reg (Rh 3 44 [(2, .ptr 0 0), (3, bA false)] (AOps_done (AWP_ret ?_)))
    have hr := Option.some.inj H
    subst hr
    exact Fin_retn 2 (l := [.agg [iA 0, iA 0, iA 0], bA false]) (h' := []) (by kernel_rfl) rfl (Nat.le_of_ble_eq_true rfl) ((by refine Closed_of ?_; exact trivial)) (Frz_sc ⟨⟨trivial, trivial, trivial, trivial⟩, trivial, trivial⟩) ⟨rfl, rfl⟩
  · refine AWP_skip ?_
    show AWP _ _ _ _ _ _ _
    refine AWP_seq (AWP_reg (Rh 3 44 [(2, .ptr 0 0), (4, .ptr 1 0), (16, .ro .unk v1.length (cl_str v1)), (17, iA (lI v1)), (18, iA 0)] (AOps_done (AWP_block ?_))))
    refine AWP_loopN (α := Int × Int × Int × Int) (fun ⟨v17, v18, v19, v20⟩ => fr 44 [(2, .ptr 0 0), (4, .ptr 1 0), (16, .ro .unk v1.length (cl_str v1)), (17, iA (lI v1)), (18, iA v17)]) (fun ⟨v17, v18, v19, v20⟩ => [.cells 162 [iA v18, iA v19, iA v20], .cells 162 [iA 0, iA 0, iA 0]]) (fun k_ ⟨v17, v18, v19, v20⟩ => k_ ≤ n ∧ p_value_parts_L1 k_ v1 v17 v18 v19 v20 = some r) (fun n a H => ?_) (k := n) (0, 0, 0, 0) ⟨Nat.le_refl _, H⟩ (Norm_fd [2, 4, 16, 17, 18] 0 (by kernel_rfl) rfl rfl ⟨⟨trivial, trivial, trivial, trivial⟩, ⟨trivial, trivial, trivial, trivial⟩, trivial⟩ (by refine scL_fr ?_; exact ⟨(sc_ptr rfl), (sc_ptr rfl), (scl_cl_str _ _), trivial, trivial, trivial⟩))
    obtain ⟨v17, v18, v19, v20⟩ := a
    show AWP _ _ _ _ _ (fr 44 [(2, .ptr 0 0), (4, .ptr 1 0), (16, .ro .unk v1.length (cl_str v1)), (17, iA (lI v1)), (18, iA v17)]) [.cells 162 [iA v18, iA v19, iA v20], .cells 162 [iA 0, iA 0, iA 0]]
    obtain ⟨hb_, H⟩ := H
    replace H : p_value_parts_L1 n v1 v17 v18 v19 v20 = some r := H
    cases n with
    | zero => exact not_none (by simpa only [p_value_parts_L1] using H)
    | succ n =>
      unfold p_value_parts_L1 at H
      refine AWP_reg (Rh 1 44 [(2, .ptr 0 0), (4, .ptr 1 0), (16, .ro .unk v1.length (cl_str v1)), (17, iA (lI v1)), (18, iA v17), (19, bA (decide (v17 < (lI v1))))] (AOps_done (AWP_seq (CD H (fun hb21 H => ?_) (fun hb21 H => ?_)))))
      · refine AWP_skip ?_
        show AWP _ _ _ _ _ _ _
        refine AWP_seq (AWP_block ?_)
        refine AWP_reg (Rh 1 44 [(2, .ptr 0 0), (4, .ptr 1 0), (16, .ro .unk v1.length (cl_str v1)), (17, iA (lI v1)), (18, iA v17), (20, iA v17)] ?_)
        obtain ⟨v22, hv22, H⟩ := bind_some H
        refine AOps_index (d := (some 21)) (sz := 1) (c := cs_str) (by kernel_rfl) rfl (eq_cl_str _) (fun _ => rfl) (by decide) hv22 (fun tl22 => ?_)
        refine Rh 3 44 [(2, .ptr 0 0), (4, .ptr 1 0), (6, iA v17), (7, sA v22), (16, .ro .unk v1.length (cl_str v1)), (17, iA (lI v1)), (18, iA v17)] (AOps_done (AWP_reg (Rh 1 44 [(2, .ptr 0 0), (4, .ptr 1 0), (6, iA v17), (16, .ro .unk v1.length (cl_str v1)), (17, iA (lI v1)), (18, iA v17), (24, sA v22)] ?_)))
        obtain ⟨v23, hv23, H⟩ := bind_some H
        refine AOps_callp (d := (some 25)) (al := [sA v22]) (r := .tup [iA v23.1, iA v23.2]) (by kernel_rfl) (s_text_ParseNumber hG hv23) ⟨trivial, trivial⟩ ⟨trivial, trivial, trivial⟩ ?_
        refine Rh 5 44 [(2, .ptr 0 0), (4, .ptr 1 0), (6, iA v17), (8, iA v23.1), (9, iA v23.2), (16, .ro .unk v1.length (cl_str v1)), (17, iA (lI v1)), (18, iA v17)] (AOps_done (AWP_seq (AWP_reg (Rh 3 44 [(2, .ptr 0 0), (4, .ptr 1 0), (6, iA v17), (8, iA v23.1), (16, .ro .unk v1.length (cl_str v1)), (17, iA (lI v1)), (18, iA v17), (30, bA (v23.2 != 0))] (AOps_run 3 [2, 4, 6, 8, 16, 17, 18, 33] (st' := fr 44 [(2, .ptr 0 0), (4, .ptr 1 0), (6, iA v17), (8, iA v23.1), (16, .ro .unk v1.length (cl_str v1)), (17, iA (lI v1)), (18, iA v17), (33, bA ((v23.2 != 0) || (decide (v23.1 < 0))))]) (h' := [.cells 162 [iA v18, iA v19, iA v20], .cells 162 [iA 0, iA 0, iA 0]]) (by (generalize (v23.2 != 0) = t0; cases t0 <;> kernel_rfl)) ?_)))))
        refine Rh 1 44 [(2, .ptr 0 0), (4, .ptr 1 0), (6, iA v17), (8, iA v23.1), (16, .ro .unk v1.length (cl_str v1)), (17, iA (lI v1)), (18, iA v17), (34, bA ((v23.2 != 0) || (decide (v23.1 < 0))))] (AOps_run 3 [2, 4, 6, 8, 16, 17, 18, 37] (st' := fr 44 [(2, .ptr 0 0), (4, .ptr 1 0), (6, iA v17), (8, iA v23.1), (16, .ro .unk v1.length (cl_str v1)), (17, iA (lI v1)), (18, iA v17), (37, bA (((v23.2 != 0) || (decide (v23.1 < 0))) || (decide (v23.1 > 999999))))]) (h' := [.cells 162 [iA v18, iA v19, iA v20], .cells 162 [iA 0, iA 0, iA 0]]) (by (generalize (v23.2 != 0) = t0; generalize (decide (v23.1 < 0)) = t1; cases t0 <;> cases t1 <;> kernel_rfl)) ?_)
        refine AOps_done (CD H (fun hb24 H => ?_) (fun hb24 H => ?_))
        · refine AWP_reg (Rh 3 44 [(2, .ptr 0 0), (3, bA false)] (AOps_done (AWP_ret ?_)))
          have hr := Option.some.inj H
          subst hr
          exact Fin_retn 2 (l := [.agg [iA 0, iA 0, iA 0], bA false]) (h' := []) (by kernel_rfl) rfl (Nat.le_of_ble_eq_true rfl) ((by refine Closed_of ?_; exact trivial)) (Frz_sc ⟨⟨trivial, trivial, trivial, trivial⟩, trivial, trivial⟩) ⟨rfl, rfl⟩
        · refine AWP_skip ?_
          show AWP _ _ _ _ _ _ _
          refine AWP_region ?_
          refine Rh 2 44 [(2, .ptr 0 0), (4, .ptr 1 0), (16, .ro .unk v1.length (cl_str v1)), (17, iA (lI v1)), (18, iA v17), (39, iA v17), (40, iA v23.1)] ?_
          obtain ⟨v25, hv25, H⟩ := bind_some H
          refine AOps_pidx (d := (some 41)) (id := 1) (off := 0) (j := v17) (m := 3) (sz := 1) (by kernel_rfl) (inO_spec hv25).1 (inO_spec hv25).2 ?_
          refine AOps_stx (d := none) (id := 1) (off := 0 + (v17).toNat * 1) (ty := 162) (vs := [iA v23.1]) (cs := [iA v18, iA v19, iA v20]) (cs' := [iA (arI 0 v17 v23.1 v18), iA (arI 1 v17 v23.1 v19), iA (arI 2 v17 v23.1 v20)]) (by kernel_rfl) (put3 (inO_spec hv25)) (h' := [.cells 162 [iA (arI 0 v17 v23.1 v18), iA (arI 1 v17 v23.1 v19), iA (arI 2 v17 v23.1 v20)], .cells 162 [iA 0, iA 0, iA 0]]) rfl ?_
          refine AOps_done ?_
          show AWP _ _ _ _ _ _ _
          refine AWP_region ?_
          refine Rh 2 44 [(2, .ptr 0 0), (4, .ptr 1 0), (16, .ro .unk v1.length (cl_str v1)), (17, iA (lI v1)), (18, iA (w64 (v17 + 1)))] (AOps_done ?_)
          exact Exists.intro (w64 (v17 + 1), arI 0 v17 v23.1 v18, arI 1 v17 v23.1 v19, arI 2 v17 v23.1 v20) (Exists.intro n ⟨by omega, ⟨by omega, H⟩, Norm_fd [2, 4, 16, 17, 18] 0 (by kernel_rfl) rfl rfl ⟨⟨trivial, trivial, trivial, trivial⟩, ⟨trivial, trivial, trivial, trivial⟩, trivial⟩ (by refine scL_fr ?_; exact ⟨(sc_ptr rfl), (sc_ptr rfl), (scl_cl_str _ _), trivial, trivial, trivial⟩)⟩)
      · refine AWP_exit ?_
        show AWP _ _ _ _ _ _ _
        refine AWP_reg (R 3 44 [(2, .ptr 0 0), (3, bA true)] [.cells 162 [iA v18, iA v19, iA v20], .cells 162 [iA v18, iA v19, iA v20]] (AOps_done (AWP_ret ?_)))
        have hr := Option.some.inj H
        subst hr
        exact Fin_retn 2 (l := [.agg [iA v18, iA v19, iA v20], bA true]) (h' := []) (by kernel_rfl) rfl (Nat.le_of_ble_eq_true rfl) ((by refine Closed_of ?_; exact trivial)) (Frz_sc ⟨⟨trivial, trivial, trivial, trivial⟩, trivial, trivial⟩) ⟨rfl, rfl⟩
theorem s_value_Check {n : Nat} (hG : GlobT E) {x0 : TValue} {r : Int} (H : p_value_Check n x0 = some r) :
    Sp Tryz.prog E 69 [.agg (TValue.cs x0)] [] (isA (iA r) []) := by
  unfold p_value_Check at H
  refine Sp_fn Tryz.func69 rfl (fun hc hs => ?_)
  refine AWP_reg (R 2 97 [(1, .ptr 0 0)] [.cells 58 (TValue.cs x0)] (AOps_done (AWP_seq (AWP_reg (Rh 4 97 [(1, .ptr 0 0), (11, bA (decide (x0.gKind < 1)))] (AOps_run 4 [1, 15] (st' := fr 97 [(1, .ptr 0 0), (15, bA ((decide (x0.gKind < 1)) || (decide (x0.gKind > 5))))]) (h' := [.cells 58 (TValue.cs x0)]) (by (generalize (decide (x0.gKind < 1)) = t0; cases t0 <;> kernel_rfl)) ?_))))))
  refine AOps_done (CD H (fun hb1 H => ?_) (fun hb1 H => ?_))
  · refine AWP_reg (Rh 1 97 [(2, iA 7)] (AOps_done ?_))
    exact AWP_ret (FR H)
  · refine AWP_skip ?_
    show AWP _ _ _ _ _ _ _
    refine AWP_seq (AWP_reg (Rh 1 97 [(1, .ptr 0 0), (16, .agg (TValue.cs x0))] ?_))
    obtain ⟨v2, hv2, H⟩ := bind_some H
    refine AOps_callp (d := (some 17)) (al := [.agg (TValue.cs x0)]) (r := bA v2) (by kernel_rfl) (s_value_shape hv2) ⟨(sc_TValue_cs _ _), trivial⟩ trivial ?_
    refine Rh 1 97 [(1, .ptr 0 0), (18, bA (!v2))] (AOps_done (CD H (fun hb3 H => ?_) (fun hb3 H => ?_)))
    · refine AWP_reg (Rh 1 97 [(2, iA 15)] (AOps_done ?_))
      exact AWP_ret (FR H)
    · refine AWP_skip ?_
      show AWP _ _ _ _ _ _ _
      refine AWP_joinN (α := Unit) (fun _ => fr 97 []) (fun _ => [.cells 58 (TValue.cs x0)]) (fun _ => ∃ q, q ≤ q ∧ p_value_Check_K1 q   = some r) (fun a hC => ?_) ?_
      · show AWP _ _ _ _ _ (fr 97 []) [.cells 58 (TValue.cs x0)]
        obtain ⟨n, hn_, hC⟩ := hC
        replace H : p_value_Check_K1 n   = some r := hC
        unfold p_value_Check_K1 at H
        refine AWP_reg (Rh 1 97 [(2, iA 0)] (AOps_done ?_))
        exact AWP_ret (FR H)
      · refine AWP_reg (Rh 2 97 [(1, .ptr 0 0), (20, iA x0.gKind)] (AOps_done (AWP_block ?_)))
        refine AWP_reg (Rh 2 97 [(1, .ptr 0 0), (20, iA x0.gKind), (21, bA (x0.gKind == 1))] (AOps_done (CD H (fun hb43 H => ?_) (fun hb43 H => ?_))))
        · refine AWP_reg (Rh 4 97 [(1, .ptr 0 0), (26, bA (x0.gNumber != 0))] (AOps_run 4 [30] (st' := fr 97 [(30, bA ((x0.gNumber != 0) && (x0.gNumber != 1)))]) (h' := [.cells 58 (TValue.cs x0)]) (by (generalize (x0.gNumber != 0) = t0; cases t0 <;> kernel_rfl)) ?_))
          refine AOps_done (CD H (fun hb44 H => ?_) (fun hb44 H => ?_))
          · refine AWP_reg (Rh 1 97 [(2, iA 3)] (AOps_done ?_))
            exact AWP_ret (FR H)
          · refine AWP_skip ?_
            exact Exists.intro () ⟨⟨n, by omega, H⟩, Norm_fd [] 0 (by kernel_rfl) rfl rfl ⟨(sc_TValue_cs _ _), trivial⟩ (by refine scL_fr ?_; exact trivial)⟩
        · refine AWP_reg (Rh 2 97 [(1, .ptr 0 0), (20, iA x0.gKind), (31, bA (x0.gKind == 2))] (AOps_done (CD H (fun hb45 H => ?_) (fun hb45 H => ?_))))
          · refine AWP_reg (Rh 4 97 [(1, .ptr 0 0), (36, bA (decide (x0.gNumber < (-1099511627776))))] (AOps_run 4 [40] (st' := fr 97 [(40, bA ((decide (x0.gNumber < (-1099511627776))) || (decide (x0.gNumber > 1099511627776))))]) (h' := [.cells 58 (TValue.cs x0)]) (by (generalize (decide (x0.gNumber < (-1099511627776))) = t0; cases t0 <;> kernel_rfl)) ?_))
            refine AOps_done (CD H (fun hb46 H => ?_) (fun hb46 H => ?_))
            · refine AWP_reg (Rh 1 97 [(2, iA 3)] (AOps_done ?_))
              exact AWP_ret (FR H)
            · refine AWP_skip ?_
              exact Exists.intro () ⟨⟨n, by omega, H⟩, Norm_fd [] 0 (by kernel_rfl) rfl rfl ⟨(sc_TValue_cs _ _), trivial⟩ (by refine scL_fr ?_; exact trivial)⟩
          · refine AWP_reg (Rh 2 97 [(1, .ptr 0 0), (20, iA x0.gKind), (41, bA (x0.gKind == 3))] (AOps_done (CD H (fun hb47 H => ?_) (fun hb47 H => ?_))))
            · refine AWP_reg (Rh 2 97 [(44, sA x0.gText)] ?_)
              obtain ⟨v48, hv48, H⟩ := bind_some H
              refine AOps_callp (d := (some 45)) (al := [sA x0.gText]) (r := bA v48) (by kernel_rfl) (s_text_Valid hG hv48) ⟨trivial, trivial⟩ trivial ?_
              refine Rh 1 97 [(46, bA (!v48))] (AOps_done (CD H (fun hb49 H => ?_) (fun hb49 H => ?_)))
              · refine AWP_reg (Rh 1 97 [(2, iA 2)] (AOps_done ?_))
                exact AWP_ret (FR H)
              · refine AWP_skip ?_
                exact Exists.intro () ⟨⟨n, by omega, H⟩, Norm_fd [] 0 (by kernel_rfl) rfl rfl ⟨(sc_TValue_cs _ _), trivial⟩ (by refine scL_fr ?_; exact trivial)⟩
            · refine AWP_reg (Rh 2 97 [(1, .ptr 0 0), (20, iA x0.gKind), (47, bA (x0.gKind == 4))] (AOps_done (CD H (fun hb50 H => ?_) (fun hb50 H => ?_))))
              · refine AWP_reg (Rh 2 97 [(51, sA x0.gText)] ?_)
                obtain ⟨v51, hv51, H⟩ := bind_some H
                refine AOps_callp (d := (some 52)) (al := [sA x0.gText]) (r := .tup [.agg [iA v51.1.1, iA v51.1.2.1, iA v51.1.2.2], bA v51.2]) (by kernel_rfl) (s_value_parts hG hv51) ⟨trivial, trivial⟩ ⟨⟨trivial, trivial, trivial, trivial⟩, trivial, trivial⟩ ?_
                refine R 6 97 [(4, bA v51.2)] [.cells 162 [iA v51.1.1, iA v51.1.2.1, iA v51.1.2.2], .cells 58 (TValue.cs x0)] (AOps_done (AWP_reg (Rh 2 97 [(56, bA (!v51.2))] (AOps_done (CD H (fun hb52 H => ?_) (fun hb52 H => ?_))))))
                · refine AWP_reg (Rh 1 97 [(2, iA 1)] (AOps_done ?_))
                  exact AWP_ret (FR H)
                · refine AWP_skip ?_
                  exact Exists.intro () ⟨⟨n, by omega, H⟩, Norm_fd [] 1 (by kernel_rfl) rfl rfl ⟨(sc_TValue_cs _ _), trivial⟩ (by refine scL_fr ?_; exact trivial)⟩
              · refine AWP_reg (Rh 2 97 [(1, .ptr 0 0), (57, bA (x0.gKind == 5))] (AOps_done (CD H (fun hb53 H => ?_) (fun hb53 H => ?_))))
                · refine AWP_seq (AWP_reg (Rh 4 97 [(1, .ptr 0 0), (62, bA (decide ((lI x0.gList) > 20)))] (AOps_done (CD H (fun hb54 H => ?_) (fun hb54 H => ?_)))))
                  · refine AWP_reg (Rh 1 97 [(2, iA 5)] (AOps_done ?_))
                    exact AWP_ret (FR H)
                  · refine AWP_skip ?_
                    show AWP _ _ _ _ _ _ _
                    refine AWP_seq (AWP_reg (Rh 4 97 [(1, .ptr 0 0), (64, .ro .unk x0.gList.length (cl_str x0.gList)), (65, iA (lI x0.gList)), (66, iA 0)] (AOps_done (AWP_block ?_))))
                    refine AWP_loopN (α := Int) (fun v64 => fr 97 [(1, .ptr 0 0), (64, .ro .unk x0.gList.length (cl_str x0.gList)), (65, iA (lI x0.gList)), (66, iA v64)]) (fun v64 => [.cells 58 (TValue.cs x0)]) (fun k_ v64 => k_ ≤ n ∧ p_value_Check_L1 k_ x0 v64 = some r) (fun n v64 H => ?_) (k := n) 0 ⟨Nat.le_refl _, H⟩ (Norm_fd [1, 64, 65, 66] 0 (by kernel_rfl) rfl rfl ⟨(sc_TValue_cs _ _), trivial⟩ (by refine scL_fr ?_; exact ⟨(sc_ptr rfl), (scl_cl_str _ _), trivial, trivial, trivial⟩))
                    show AWP _ _ _ _ _ (fr 97 [(1, .ptr 0 0), (64, .ro .unk x0.gList.length (cl_str x0.gList)), (65, iA (lI x0.gList)), (66, iA v64)]) [.cells 58 (TValue.cs x0)]
                    obtain ⟨hb_, H⟩ := H
                    replace H : p_value_Check_L1 n x0 v64 = some r := H
                    cases n with
                    | zero => exact not_none (by simpa only [p_value_Check_L1] using H)
                    | succ n =>
                      unfold p_value_Check_L1 at H
                      refine AWP_reg (Rh 1 97 [(1, .ptr 0 0), (64, .ro .unk x0.gList.length (cl_str x0.gList)), (65, iA (lI x0.gList)), (66, iA v64), (67, bA (decide (v64 < (lI x0.gList))))] (AOps_done (AWP_seq (CD H (fun hb65 H => ?_) (fun hb65 H => ?_)))))
                      · refine AWP_skip ?_
                        show AWP _ _ _ _ _ _ _
                        refine AWP_seq (AWP_block ?_)
                        refine AWP_reg ?_
                        obtain ⟨v66, hv66, H⟩ := bind_some H
                        refine AOps_index (d := (some 68)) (sz := 1) (c := cs_str) (by kernel_rfl) rfl (eq_cl_str _) (fun _ => rfl) (by decide) hv66 (fun tl66 => ?_)
                        refine Rh 2 97 [(1, .ptr 0 0), (6, sA v66), (64, .ro .unk x0.gList.length (cl_str x0.gList)), (65, iA (lI x0.gList)), (66, iA v64)] (AOps_done (AWP_reg (Rh 1 97 [(1, .ptr 0 0), (64, .ro .unk x0.gList.length (cl_str x0.gList)), (65, iA (lI x0.gList)), (66, iA v64), (70, sA v66)] ?_)))
                        obtain ⟨v67, hv67, H⟩ := bind_some H
                        refine AOps_callp (d := (some 71)) (al := [sA v66]) (r := bA v67) (by kernel_rfl) (s_text_Valid hG hv67) ⟨trivial, trivial⟩ trivial ?_
                        refine Rh 1 97 [(1, .ptr 0 0), (64, .ro .unk x0.gList.length (cl_str x0.gList)), (65, iA (lI x0.gList)), (66, iA v64), (72, bA (!v67))] (AOps_done (CD H (fun hb68 H => ?_) (fun hb68 H => ?_)))
                        · refine AWP_reg (Rh 1 97 [(2, iA 2)] (AOps_done ?_))
                          exact AWP_ret (FR H)
                        · refine AWP_skip ?_
                          show AWP _ _ _ _ _ _ _
                          refine AWP_region ?_
                          refine Rh 2 97 [(1, .ptr 0 0), (64, .ro .unk x0.gList.length (cl_str x0.gList)), (65, iA (lI x0.gList)), (66, iA (w64 (v64 + 1)))] (AOps_done ?_)
                          exact Exists.intro (w64 (v64 + 1)) (Exists.intro n ⟨by omega, ⟨by omega, H⟩, Norm_fd [1, 64, 65, 66] 0 (by kernel_rfl) rfl rfl ⟨(sc_TValue_cs _ _), trivial⟩ (by refine scL_fr ?_; exact ⟨(sc_ptr rfl), (scl_cl_str _ _), trivial, trivial, trivial⟩)⟩)
                      · refine AWP_exit ?_
                        show AWP _ _ _ _ _ _ _
                        refine AWP_reg (Rh 4 97 [(1, .ptr 0 0), (76, iA (lI x0.gList)), (77, iA 0)] (AOps_done (AWP_block ?_)))
                        refine AWP_loopN (α := Int) (fun v77 => fr 97 [(1, .ptr 0 0), (76, iA (lI x0.gList)), (77, iA v77)]) (fun v77 => [.cells 58 (TValue.cs x0)]) (fun k_ v77 => k_ ≤ n ∧ p_value_Check_L2 k_ x0 v77 = some r) (fun n v77 H => ?_) (k := n) 0 ⟨Nat.le_refl _, H⟩ (Norm_fd [1, 76, 77] 0 (by kernel_rfl) rfl rfl ⟨(sc_TValue_cs _ _), trivial⟩ (by refine scL_fr ?_; exact ⟨(sc_ptr rfl), trivial, trivial, trivial⟩))
                        show AWP _ _ _ _ _ (fr 97 [(1, .ptr 0 0), (76, iA (lI x0.gList)), (77, iA v77)]) [.cells 58 (TValue.cs x0)]
                        obtain ⟨hb_, H⟩ := H
                        replace H : p_value_Check_L2 n x0 v77 = some r := H
                        cases n with
                        | zero => exact not_none (by simpa only [p_value_Check_L2] using H)
                        | succ n =>
                          unfold p_value_Check_L2 at H
                          refine AWP_reg (Rh 1 97 [(1, .ptr 0 0), (76, iA (lI x0.gList)), (77, iA v77), (78, bA (decide (v77 < (lI x0.gList))))] (AOps_done (AWP_seq (CD H (fun hb78 H => ?_) (fun hb78 H => ?_)))))
                          · refine AWP_skip ?_
                            show AWP _ _ _ _ _ _ _
                            refine AWP_seq (AWP_block ?_)
                            refine AWP_reg (Rh 2 97 [(1, .ptr 0 0), (7, iA v77), (76, iA (lI x0.gList)), (77, iA v77)] (AOps_done ?_))
                            obtain ⟨v79, hv79, H⟩ := bind_some H
                            obtain ⟨v80, hv80, H⟩ := bind_some H
                            refine AWP_regD1 [0, 1, 2, 3, 4, 5, 6, 7, 8, 9, 10, 11, 12, 13, 14, 15] (N := 97) (f := [(1, .ptr 0 0), (7, iA v77), (76, iA (lI x0.gList)), (77, iA v77)]) (leL_of [1, 7, 76, 77] (by kernel_rfl)) mixed (by kernel_rfl) (by kernel_rfl) (st' := fr 97 [(1, .ptr 0 0), (76, iA (lI x0.gList)), (77, iA v77), (95, bA ((decide (v77 > 0)) && (!(slt' v79 v80))))]) (h' := [.cells 58 (TValue.cs x0)]) ?_ ?_
                            rotate_left
                            · refine RD 3 97 [] [(1, .ptr 0 0), (7, iA v77), (76, iA (lI x0.gList)), (77, iA v77), (80, iA v77), (81, bA (decide (v77 > 0))), (82, bA (decide (v77 > 0)))] ?_
                              cases c1 : (decide (v77 > 0) : Bool) with
                              | true =>
                                refine RD 4 97 [(4, 0), (3, 0)] [(1, .ptr 0 0), (7, iA v77), (76, iA (lI x0.gList)), (77, iA v77), (80, iA v77), (81, bA true), (82, bA true), (83, .ptr 0 3), (84, .ro .unk x0.gList.length (cl_str x0.gList)), (85, iA v77), (86, iA (w64 (v77 - 1)))] ?_
                                have hv79_ := cond_t hv79 (by simp only [c1] <;> rfl)
                                refine AD_index (d := (some 87)) (sz := 1) (c := cs_str) (by kernel_rfl) rfl (eq_cl_str _) (fun _ => rfl) (by decide) hv79_ (fun tl79 => ?_)
                                refine RD 4 97 [(10, 0), (9, 0), (4, 0), (3, 0)] [(1, .ptr 0 0), (7, iA v77), (76, iA (lI x0.gList)), (77, iA v77), (80, iA v77), (81, bA true), (82, bA true), (83, .ptr 0 3), (84, .ro .unk x0.gList.length (cl_str x0.gList)), (85, iA v77), (86, iA (w64 (v77 - 1))), (87, .rop ([sA v79] ++ tl79)), (88, sA v79), (89, .ptr 0 3), (90, .ro .unk x0.gList.length (cl_str x0.gList)), (91, iA v77)] ?_
                                have hv80_ := cond_t hv80 (by simp only [c1] <;> rfl)
                                refine AD_index (d := (some 92)) (sz := 1) (c := cs_str) (by kernel_rfl) rfl (eq_cl_str _) (fun _ => rfl) (by decide) hv80_ (fun tl80 => ?_)
                                refine RD 3 97 [(10, 0), (9, 0), (4, 0), (3, 0)] [(1, .ptr 0 0), (7, iA v77), (76, iA (lI x0.gList)), (77, iA v77), (80, iA v77), (81, bA true), (82, bA true), (83, .ptr 0 3), (84, .ro .unk x0.gList.length (cl_str x0.gList)), (85, iA v77), (86, iA (w64 (v77 - 1))), (87, .rop ([sA v79] ++ tl79)), (88, sA v79), (89, .ptr 0 3), (90, .ro .unk x0.gList.length (cl_str x0.gList)), (91, iA v77), (92, .rop ([sA v80] ++ tl80)), (93, sA v80), (94, bA (!(slt' v79 v80))), (95, bA (true && (!(slt' v79 v80))))] ?_
                                exact AD_here [1, 76, 77, 95] (by kernel_rfl) rfl
                              | false =>
                                refine RD 13 97 [] [(1, .ptr 0 0), (7, iA v77), (76, iA (lI x0.gList)), (77, iA v77), (80, iA v77), (81, bA false), (82, bA false), (83, undefA), (84, undefA), (85, undefA), (86, undefA), (87, undefA), (88, undefA), (89, undefA), (90, undefA), (91, undefA), (92, undefA), (93, undefA), (94, undefA), (95, bA (false && (!(slt' v79 v80))))] ?_
                                exact AD_here [1, 76, 77, 95] (by kernel_rfl) rfl
                            refine CD H (fun hb81 H => ?_) (fun hb81 H => ?_)
                            · refine AWP_reg (Rh 1 97 [(2, iA 9)] (AOps_done ?_))
                              exact AWP_ret (FR H)
                            · refine AWP_skip ?_
                              show AWP _ _ _ _ _ _ _
                              refine AWP_region ?_
                              refine Rh 2 97 [(1, .ptr 0 0), (76, iA (lI x0.gList)), (77, iA (w64 (v77 + 1)))] (AOps_done ?_)
                              exact Exists.intro (w64 (v77 + 1)) (Exists.intro n ⟨by omega, ⟨by omega, H⟩, Norm_fd [1, 76, 77] 0 (by kernel_rfl) rfl rfl ⟨(sc_TValue_cs _ _), trivial⟩ (by refine scL_fr ?_; exact ⟨(sc_ptr rfl), trivial, trivial, trivial⟩)⟩)
                          · refine AWP_exit ?_
                            exact Exists.intro () ⟨⟨n, by omega, H⟩, Norm_fd [] 0 (by kernel_rfl) rfl rfl ⟨(sc_TValue_cs _ _), trivial⟩ (by refine scL_fr ?_; exact trivial)⟩
                · refine AWP_skip ?_
                  exact Exists.intro () ⟨⟨n, by omega, H⟩, Norm_fd [] 0 (by kernel_rfl) rfl rfl ⟨(sc_TValue_cs _ _), trivial⟩ (by refine scL_fr ?_; exact trivial)⟩
theorem s_shape_prerequisites {n : Nat} (hG : GlobT E) {x0 : List TPrerequisite} {r : Int} (H : p_shape_prerequisites n x0 = some r) :
    Sp Tryz.prog E 70 [.ro .unk x0.length (TPrerequisite.cl x0)] [] (isA (iA r) []) := by
  unfold p_shape_prerequisites at H
  refine Sp_fn Tryz.func70 rfl (fun hc hs => ?_)
  refine AWP_reg (Rh 1 51 [(0, .ro .unk x0.length (TPrerequisite.cl x0))] (AOps_done (AWP_seq (AWP_reg (Rh 3 51 [(0, .ro .unk x0.length (TPrerequisite.cl x0)), (8, bA (decide ((lI x0) > 4)))] (AOps_done (CD H (fun hb1 H => ?_) (fun hb1 H => ?_))))))))
  · refine AWP_reg (Rh 1 51 [(2, iA 5)] (AOps_done ?_))
    exact AWP_ret (FR H)
  · refine AWP_skip ?_
    show AWP _ _ _ _ _ _ _
    refine AWP_seq (AWP_reg (Rh 3 51 [(0, .ro .unk x0.length (TPrerequisite.cl x0)), (9, .ro .unk x0.length (TPrerequisite.cl x0)), (10, iA (lI x0)), (11, iA 0)] (AOps_done (AWP_block ?_))))
    refine AWP_loopN (α := Int) (fun v21 => fr 51 [(0, .ro .unk x0.length (TPrerequisite.cl x0)), (9, .ro .unk x0.length (TPrerequisite.cl x0)), (10, iA (lI x0)), (11, iA v21)]) (fun v21 => []) (fun k_ v21 => k_ ≤ n ∧ p_shape_prerequisites_L1 k_ x0 v21 = some r) (fun n v21 H => ?_) (k := n) 0 ⟨Nat.le_refl _, H⟩ (Norm_fd [0, 9, 10, 11] 0 (by kernel_rfl) rfl rfl trivial (by refine scL_fr ?_; exact ⟨(scl_TPrerequisite_cl _ _), (scl_TPrerequisite_cl _ _), trivial, trivial, trivial⟩))
    show AWP _ _ _ _ _ (fr 51 [(0, .ro .unk x0.length (TPrerequisite.cl x0)), (9, .ro .unk x0.length (TPrerequisite.cl x0)), (10, iA (lI x0)), (11, iA v21)]) []
    obtain ⟨hb_, H⟩ := H
    replace H : p_shape_prerequisites_L1 n x0 v21 = some r := H
    cases n with
    | zero => exact not_none (by simpa only [p_shape_prerequisites_L1] using H)
    | succ n =>
      unfold p_shape_prerequisites_L1 at H
      refine AWP_reg (Rh 1 51 [(0, .ro .unk x0.length (TPrerequisite.cl x0)), (9, .ro .unk x0.length (TPrerequisite.cl x0)), (10, iA (lI x0)), (11, iA v21), (12, bA (decide (v21 < (lI x0))))] (AOps_done (AWP_seq (CD H (fun hb22 H => ?_) (fun hb22 H => ?_)))))
      · refine AWP_skip ?_
        show AWP _ _ _ _ _ _ _
        refine AWP_seq (AWP_block ?_)
        refine AWP_reg (Rh 1 51 [(0, .ro .unk x0.length (TPrerequisite.cl x0)), (9, .ro .unk x0.length (TPrerequisite.cl x0)), (10, iA (lI x0)), (11, iA v21), (13, iA v21)] ?_)
        obtain ⟨v23, hv23, H⟩ := bind_some H
        refine AOps_index (d := (some 14)) (sz := 2) (c := TPrerequisite.cs) (by kernel_rfl) rfl (eq_TPrerequisite_cl _) (fun _ => rfl) (by decide) hv23 (fun tl23 => ?_)
        refine R 4 51 [(0, .ro .unk x0.length (TPrerequisite.cl x0)), (3, iA v21), (4, .ptr 0 0), (9, .ro .unk x0.length (TPrerequisite.cl x0)), (10, iA (lI x0)), (11, iA v21)] [.cells 114 (TPrerequisite.cs v23)] (AOps_done ?_)
        obtain ⟨v24, hv24, H⟩ := bind_some H
        obtain ⟨v25, hv25, H⟩ := bind_some H
        obtain ⟨v26, hv26, H⟩ := bind_some H
        obtain ⟨v27, hv27, H⟩ := bind_some H
        obtain ⟨v28, hv28, H⟩ := bind_some H
        obtain ⟨v29, hv29, H⟩ := bind_some H
        refine AWP_regD1 [0, 1, 5, 6, 20, 21, 22, 2, 3, 4, 7, 8, 9, 10, 11, 12, 13, 14, 15, 16, 17, 18, 19, 23, 24, 25, 26, 27, 28, 29, 30, 31] (N := 51) (f := [(0, .ro .unk x0.length (TPrerequisite.cl x0)), (3, iA v21), (4, .ptr 0 0), (9, .ro .unk x0.length (TPrerequisite.cl x0)), (10, iA (lI x0)), (11, iA v21)]) (leL_of [0, 3, 4, 9, 10, 11] (by kernel_rfl)) mixed (by kernel_rfl) (by kernel_rfl) (st' := fr 51 [(0, .ro .unk x0.length (TPrerequisite.cl x0)), (5, iA v29), (9, .ro .unk x0.length (TPrerequisite.cl x0)), (10, iA (lI x0)), (11, iA v21)]) (h' := [.cells 114 (TPrerequisite.cs v23)]) ?_ ?_
        rotate_left
        · refine RD 7 51 [(21, 0), (20, 0), (1, 0), (0, 0)] [(0, .ro .unk x0.length (TPrerequisite.cl x0)), (3, iA v21), (4, .ptr 0 0), (9, .ro .unk x0.length (TPrerequisite.cl x0)), (10, iA (lI x0)), (11, iA v21), (16, .ptr 0 0), (17, sA v23.gFlag), (21, iA v21), (22, bA (decide (v21 > 0))), (36, .ptr 0 1), (37, iA v23.gVariation), (38, bA (decide (v23.gVariation < 1)))] (AD_callp (d := (some 18)) (al := [sA v23.gFlag]) (r := bA v24) (by kernel_rfl) (s_text_Key hG hv24) ⟨trivial, trivial⟩ trivial ?_)
          refine RD 1 51 [(21, 0), (20, 0), (1, 0), (0, 0)] [(0, .ro .unk x0.length (TPrerequisite.cl x0)), (3, iA v21), (4, .ptr 0 0), (9, .ro .unk x0.length (TPrerequisite.cl x0)), (10, iA (lI x0)), (11, iA v21), (16, .ptr 0 0), (17, sA v23.gFlag), (18, bA v24), (19, bA (!v24)), (21, iA v21), (22, bA (decide (v21 > 0))), (36, .ptr 0 1), (37, iA v23.gVariation), (38, bA (decide (v23.gVariation < 1)))] (AD_callp (d := (some 20)) (al := [bA (!v24), iA 6]) (r := iA v25) (by kernel_rfl) (s_shape_when hv25) ⟨trivial, trivial, trivial⟩ trivial ?_)
          refine RD 1 51 [(21, 0), (20, 0), (1, 0), (0, 0)] [(0, .ro .unk x0.length (TPrerequisite.cl x0)), (3, iA v21), (4, .ptr 0 0), (9, .ro .unk x0.length (TPrerequisite.cl x0)), (10, iA (lI x0)), (11, iA v21), (16, .ptr 0 0), (17, sA v23.gFlag), (18, bA v24), (19, bA (!v24)), (20, iA v25), (21, iA v21), (22, bA (decide (v21 > 0))), (23, bA (decide (v21 > 0))), (36, .ptr 0 1), (37, iA v23.gVariation), (38, bA (decide (v23.gVariation < 1)))] ?_
          cases c1 : (decide (v21 > 0) : Bool) with
          | true =>
            refine RD 6 51 [(9, 0), (8, 0), (21, 0), (20, 0), (1, 0), (0, 0)] [(0, .ro .unk x0.length (TPrerequisite.cl x0)), (3, iA v21), (4, .ptr 0 0), (9, .ro .unk x0.length (TPrerequisite.cl x0)), (10, iA (lI x0)), (11, iA v21), (16, .ptr 0 0), (17, sA v23.gFlag), (18, bA v24), (19, bA (!v24)), (20, iA v25), (21, iA v21), (22, bA true), (23, bA true), (24, .ptr 0 0), (25, sA v23.gFlag), (26, .ro .unk x0.length (TPrerequisite.cl x0)), (27, iA v21), (28, iA (w64 (v21 - 1))), (29, iA (if 0 > (w64 (v21 - 1)) then 0 else (w64 (v21 - 1)))), (36, .ptr 0 1), (37, iA v23.gVariation), (38, bA (decide (v23.gVariation < 1)))] ?_
            have hv26_ := cond_t hv26 (by simp only [c1] <;> rfl)
            refine AD_index (d := (some 30)) (sz := 2) (c := TPrerequisite.cs) (by kernel_rfl) rfl (eq_TPrerequisite_cl _) (fun _ => rfl) (by decide) hv26_ (fun tl26 => ?_)
            refine RD 4 51 [(9, 0), (8, 0), (21, 0), (20, 0), (1, 0), (0, 0)] [(0, .ro .unk x0.length (TPrerequisite.cl x0)), (3, iA v21), (4, .ptr 0 0), (9, .ro .unk x0.length (TPrerequisite.cl x0)), (10, iA (lI x0)), (11, iA v21), (16, .ptr 0 0), (17, sA v23.gFlag), (18, bA v24), (19, bA (!v24)), (20, iA v25), (21, iA v21), (22, bA true), (23, bA true), (24, .ptr 0 0), (25, sA v23.gFlag), (26, .ro .unk x0.length (TPrerequisite.cl x0)), (27, iA v21), (28, iA (w64 (v21 - 1))), (29, iA (if 0 > (w64 (v21 - 1)) then 0 else (w64 (v21 - 1)))), (30, .rop ([sA v26.gFlag, iA v26.gVariation] ++ tl26)), (31, .rop ([sA v26.gFlag, iA v26.gVariation] ++ tl26)), (32, sA v26.gFlag), (33, bA (sle' v23.gFlag v26.gFlag)), (34, bA (true && (sle' v23.gFlag v26.gFlag))), (36, .ptr 0 1), (37, iA v23.gVariation), (38, bA (decide (v23.gVariation < 1)))] ?_
            try rw [c1] at hv27
            refine AD_callp (d := (some 35)) (al := [bA (true && (sle' v23.gFlag v26.gFlag)), iA 9]) (r := iA v27) (by kernel_rfl) (s_shape_when hv27) ⟨trivial, trivial, trivial⟩ trivial ?_
            refine RD 1 51 [(9, 0), (8, 0), (21, 0), (20, 0), (1, 0), (0, 0)] [(0, .ro .unk x0.length (TPrerequisite.cl x0)), (3, iA v21), (4, .ptr 0 0), (9, .ro .unk x0.length (TPrerequisite.cl x0)), (10, iA (lI x0)), (11, iA v21), (16, .ptr 0 0), (17, sA v23.gFlag), (18, bA v24), (19, bA (!v24)), (20, iA v25), (21, iA v21), (22, bA true), (23, bA true), (24, .ptr 0 0), (25, sA v23.gFlag), (26, .ro .unk x0.length (TPrerequisite.cl x0)), (27, iA v21), (28, iA (w64 (v21 - 1))), (29, iA (if 0 > (w64 (v21 - 1)) then 0 else (w64 (v21 - 1)))), (30, .rop ([sA v26.gFlag, iA v26.gVariation] ++ tl26)), (31, .rop ([sA v26.gFlag, iA v26.gVariation] ++ tl26)), (32, sA v26.gFlag), (33, bA (sle' v23.gFlag v26.gFlag)), (34, bA (true && (sle' v23.gFlag v26.gFlag))), (35, iA v27), (36, .ptr 0 1), (37, iA v23.gVariation), (38, bA (decide (v23.gVariation < 1))), (39, bA (decide (v23.gVariation < 1)))] ?_
            cases c2 : (decide (v23.gVariation < 1) : Bool) with
            | true =>
              refine RD 4 51 [(9, 0), (8, 0), (21, 0), (20, 0), (1, 0), (0, 0)] [(0, .ro .unk x0.length (TPrerequisite.cl x0)), (3, iA v21), (4, .ptr 0 0), (9, .ro .unk x0.length (TPrerequisite.cl x0)), (10, iA (lI x0)), (11, iA v21), (16, .ptr 0 0), (17, sA v23.gFlag), (18, bA v24), (19, bA (!v24)), (20, iA v25), (21, iA v21), (22, bA true), (23, bA true), (24, .ptr 0 0), (25, sA v23.gFlag), (26, .ro .unk x0.length (TPrerequisite.cl x0)), (27, iA v21), (28, iA (w64 (v21 - 1))), (29, iA (if 0 > (w64 (v21 - 1)) then 0 else (w64 (v21 - 1)))), (30, .rop ([sA v26.gFlag, iA v26.gVariation] ++ tl26)), (31, .rop ([sA v26.gFlag, iA v26.gVariation] ++ tl26)), (32, sA v26.gFlag), (33, bA (sle' v23.gFlag v26.gFlag)), (34, bA (true && (sle' v23.gFlag v26.gFlag))), (35, iA v27), (36, .ptr 0 1), (37, iA v23.gVariation), (38, bA true), (39, bA true), (40, undefA), (41, undefA), (42, undefA), (43, bA (true || (decide (v23.gVariation > 8))))] ?_
              try rw [c1] at hv28
              try rw [c2] at hv28
              refine AD_callp (d := (some 44)) (al := [bA (true || (decide (v23.gVariation > 8))), iA 3]) (r := iA v28) (by kernel_rfl) (s_shape_when hv28) ⟨trivial, trivial, trivial⟩ trivial ?_
              refine AD_bsl (d := (some 45)) (m := 3) (cs := [iA v25, iA v27, iA v28]) (by kernel_rfl) ⟨trivial, trivial, trivial, trivial⟩ ?_
              refine AD_callp (d := (some 46)) (al := [.ro .unk ([v25, v27, v28]).length (cl_i64 ([v25, v27, v28]))]) (r := iA v29) (by kernel_rfl) (s_shape_first hv29) ⟨(scl_cl_i64 _ _), trivial⟩ trivial ?_
              refine RD 1 51 [(9, 0), (8, 0), (21, 0), (20, 0), (1, 0), (0, 0)] [(0, .ro .unk x0.length (TPrerequisite.cl x0)), (3, iA v21), (4, .ptr 0 0), (5, iA v29), (9, .ro .unk x0.length (TPrerequisite.cl x0)), (10, iA (lI x0)), (11, iA v21), (16, .ptr 0 0), (17, sA v23.gFlag), (18, bA v24), (19, bA (!v24)), (20, iA v25), (21, iA v21), (22, bA true), (23, bA true), (24, .ptr 0 0), (25, sA v23.gFlag), (26, .ro .unk x0.length (TPrerequisite.cl x0)), (27, iA v21), (28, iA (w64 (v21 - 1))), (29, iA (if 0 > (w64 (v21 - 1)) then 0 else (w64 (v21 - 1)))), (30, .rop ([sA v26.gFlag, iA v26.gVariation] ++ tl26)), (31, .rop ([sA v26.gFlag, iA v26.gVariation] ++ tl26)), (32, sA v26.gFlag), (33, bA (sle' v23.gFlag v26.gFlag)), (34, bA (true && (sle' v23.gFlag v26.gFlag))), (35, iA v27), (36, .ptr 0 1), (37, iA v23.gVariation), (38, bA true), (39, bA true), (40, undefA), (41, undefA), (42, undefA), (43, bA (true || (decide (v23.gVariation > 8)))), (44, iA v28), (45, .ro .unk ([v25, v27, v28]).length (cl_i64 ([v25, v27, v28]))), (46, iA v29)] ?_
              exact AD_here [0, 5, 9, 10, 11] (by kernel_rfl) rfl
            | false =>
              refine RD 4 51 [(25, 0), (24, 0), (9, 0), (8, 0), (21, 0), (20, 0), (1, 0), (0, 0)] [(0, .ro .unk x0.length (TPrerequisite.cl x0)), (3, iA v21), (4, .ptr 0 0), (9, .ro .unk x0.length (TPrerequisite.cl x0)), (10, iA (lI x0)), (11, iA v21), (16, .ptr 0 0), (17, sA v23.gFlag), (18, bA v24), (19, bA (!v24)), (20, iA v25), (21, iA v21), (22, bA true), (23, bA true), (24, .ptr 0 0), (25, sA v23.gFlag), (26, .ro .unk x0.length (TPrerequisite.cl x0)), (27, iA v21), (28, iA (w64 (v21 - 1))), (29, iA (if 0 > (w64 (v21 - 1)) then 0 else (w64 (v21 - 1)))), (30, .rop ([sA v26.gFlag, iA v26.gVariation] ++ tl26)), (31, .rop ([sA v26.gFlag, iA v26.gVariation] ++ tl26)), (32, sA v26.gFlag), (33, bA (sle' v23.gFlag v26.gFlag)), (34, bA (true && (sle' v23.gFlag v26.gFlag))), (35, iA v27), (36, .ptr 0 1), (37, iA v23.gVariation), (38, bA false), (39, bA false), (40, .ptr 0 1), (41, iA v23.gVariation), (42, bA (decide (v23.gVariation > 8))), (43, bA (false || (decide (v23.gVariation > 8))))] ?_
              try rw [c1] at hv28
              try rw [c2] at hv28
              refine AD_callp (d := (some 44)) (al := [bA (false || (decide (v23.gVariation > 8))), iA 3]) (r := iA v28) (by kernel_rfl) (s_shape_when hv28) ⟨trivial, trivial, trivial⟩ trivial ?_
              refine AD_bsl (d := (some 45)) (m := 3) (cs := [iA v25, iA v27, iA v28]) (by kernel_rfl) ⟨trivial, trivial, trivial, trivial⟩ ?_
              refine AD_callp (d := (some 46)) (al := [.ro .unk ([v25, v27, v28]).length (cl_i64 ([v25, v27, v28]))]) (r := iA v29) (by kernel_rfl) (s_shape_first hv29) ⟨(scl_cl_i64 _ _), trivial⟩ trivial ?_
              refine RD 1 51 [(25, 0), (24, 0), (9, 0), (8, 0), (21, 0), (20, 0), (1, 0), (0, 0)] [(0, .ro .unk x0.length (TPrerequisite.cl x0)), (3, iA v21), (4, .ptr 0 0), (5, iA v29), (9, .ro .unk x0.length (TPrerequisite.cl x0)), (10, iA (lI x0)), (11, iA v21), (16, .ptr 0 0), (17, sA v23.gFlag), (18, bA v24), (19, bA (!v24)), (20, iA v25), (21, iA v21), (22, bA true), (23, bA true), (24, .ptr 0 0), (25, sA v23.gFlag), (26, .ro .unk x0.length (TPrerequisite.cl x0)), (27, iA v21), (28, iA (w64 (v21 - 1))), (29, iA (if 0 > (w64 (v21 - 1)) then 0 else (w64 (v21 - 1)))), (30, .rop ([sA v26.gFlag, iA v26.gVariation] ++ tl26)), (31, .rop ([sA v26.gFlag, iA v26.gVariation] ++ tl26)), (32, sA v26.gFlag), (33, bA (sle' v23.gFlag v26.gFlag)), (34, bA (true && (sle' v23.gFlag v26.gFlag))), (35, iA v27), (36, .ptr 0 1), (37, iA v23.gVariation), (38, bA false), (39, bA false), (40, .ptr 0 1), (41, iA v23.gVariation), (42, bA (decide (v23.gVariation > 8))), (43, bA (false || (decide (v23.gVariation > 8)))), (44, iA v28), (45, .ro .unk ([v25, v27, v28]).length (cl_i64 ([v25, v27, v28]))), (46, iA v29)] ?_
              exact AD_here [0, 5, 9, 10, 11] (by kernel_rfl) rfl
          | false =>
            refine RD 11 51 [(21, 0), (20, 0), (1, 0), (0, 0)] [(0, .ro .unk x0.length (TPrerequisite.cl x0)), (3, iA v21), (4, .ptr 0 0), (9, .ro .unk x0.length (TPrerequisite.cl x0)), (10, iA (lI x0)), (11, iA v21), (16, .ptr 0 0), (17, sA v23.gFlag), (18, bA v24), (19, bA (!v24)), (20, iA v25), (21, iA v21), (22, bA false), (23, bA false), (24, undefA), (25, undefA), (26, undefA), (27, undefA), (28, undefA), (29, undefA), (30, undefA), (31, undefA), (32, undefA), (33, undefA), (34, bA (false && (sle' v23.gFlag v26.gFlag))), (36, .ptr 0 1), (37, iA v23.gVariation), (38, bA (decide (v23.gVariation < 1)))] ?_
            try rw [c1] at hv27
            refine AD_callp (d := (some 35)) (al := [bA (false && (sle' v23.gFlag v26.gFlag)), iA 9]) (r := iA v27) (by kernel_rfl) (s_shape_when hv27) ⟨trivial, trivial, trivial⟩ trivial ?_
            refine RD 1 51 [(21, 0), (20, 0), (1, 0), (0, 0)] [(0, .ro .unk x0.length (TPrerequisite.cl x0)), (3, iA v21), (4, .ptr 0 0), (9, .ro .unk x0.length (TPrerequisite.cl x0)), (10, iA (lI x0)), (11, iA v21), (16, .ptr 0 0), (17, sA v23.gFlag), (18, bA v24), (19, bA (!v24)), (20, iA v25), (21, iA v21), (22, bA false), (23, bA false), (24, undefA), (25, undefA), (26, undefA), (27, undefA), (28, undefA), (29, undefA), (30, undefA), (31, undefA), (32, undefA), (33, undefA), (34, bA (false && (sle' v23.gFlag v26.gFlag))), (35, iA v27), (36, .ptr 0 1), (37, iA v23.gVariation), (38, bA (decide (v23.gVariation < 1))), (39, bA (decide (v23.gVariation < 1)))] ?_
            cases c2 : (decide (v23.gVariation < 1) : Bool) with
            | true =>
              refine RD 4 51 [(21, 0), (20, 0), (1, 0), (0, 0)] [(0, .ro .unk x0.length (TPrerequisite.cl x0)), (3, iA v21), (4, .ptr 0 0), (9, .ro .unk x0.length (TPrerequisite.cl x0)), (10, iA (lI x0)), (11, iA v21), (16, .ptr 0 0), (17, sA v23.gFlag), (18, bA v24), (19, bA (!v24)), (20, iA v25), (21, iA v21), (22, bA false), (23, bA false), (24, undefA), (25, undefA), (26, undefA), (27, undefA), (28, undefA), (29, undefA), (30, undefA), (31, undefA), (32, undefA), (33, undefA), (34, bA (false && (sle' v23.gFlag v26.gFlag))), (35, iA v27), (36, .ptr 0 1), (37, iA v23.gVariation), (38, bA true), (39, bA true), (40, undefA), (41, undefA), (42, undefA), (43, bA (true || (decide (v23.gVariation > 8))))] ?_
              try rw [c1] at hv28
              try rw [c2] at hv28
              refine AD_callp (d := (some 44)) (al := [bA (true || (decide (v23.gVariation > 8))), iA 3]) (r := iA v28) (by kernel_rfl) (s_shape_when hv28) ⟨trivial, trivial, trivial⟩ trivial ?_
              refine AD_bsl (d := (some 45)) (m := 3) (cs := [iA v25, iA v27, iA v28]) (by kernel_rfl) ⟨trivial, trivial, trivial, trivial⟩ ?_
              refine AD_callp (d := (some 46)) (al := [.ro .unk ([v25, v27, v28]).length (cl_i64 ([v25, v27, v28]))]) (r := iA v29) (by kernel_rfl) (s_shape_first hv29) ⟨(scl_cl_i64 _ _), trivial⟩ trivial ?_
              refine RD 1 51 [(21, 0), (20, 0), (1, 0), (0, 0)] [(0, .ro .unk x0.length (TPrerequisite.cl x0)), (3, iA v21), (4, .ptr 0 0), (5, iA v29), (9, .ro .unk x0.length (TPrerequisite.cl x0)), (10, iA (lI x0)), (11, iA v21), (16, .ptr 0 0), (17, sA v23.gFlag), (18, bA v24), (19, bA (!v24)), (20, iA v25), (21, iA v21), (22, bA false), (23, bA false), (24, undefA), (25, undefA), (26, undefA), (27, undefA), (28, undefA), (29, undefA), (30, undefA), (31, undefA), (32, undefA), (33, undefA), (34, bA (false && (sle' v23.gFlag v26.gFlag))), (35, iA v27), (36, .ptr 0 1), (37, iA v23.gVariation), (38, bA true), (39, bA true), (40, undefA), (41, undefA), (42, undefA), (43, bA (true || (decide (v23.gVariation > 8)))), (44, iA v28), (45, .ro .unk ([v25, v27, v28]).length (cl_i64 ([v25, v27, v28]))), (46, iA v29)] ?_
              exact AD_here [0, 5, 9, 10, 11] (by kernel_rfl) rfl
            | false =>
              refine RD 4 51 [(25, 0), (24, 0), (21, 0), (20, 0), (1, 0), (0, 0)] [(0, .ro .unk x0.length (TPrerequisite.cl x0)), (3, iA v21), (4, .ptr 0 0), (9, .ro .unk x0.length (TPrerequisite.cl x0)), (10, iA (lI x0)), (11, iA v21), (16, .ptr 0 0), (17, sA v23.gFlag), (18, bA v24), (19, bA (!v24)), (20, iA v25), (21, iA v21), (22, bA false), (23, bA false), (24, undefA), (25, undefA), (26, undefA), (27, undefA), (28, undefA), (29, undefA), (30, undefA), (31, undefA), (32, undefA), (33, undefA), (34, bA (false && (sle' v23.gFlag v26.gFlag))), (35, iA v27), (36, .ptr 0 1), (37, iA v23.gVariation), (38, bA false), (39, bA false), (40, .ptr 0 1), (41, iA v23.gVariation), (42, bA (decide (v23.gVariation > 8))), (43, bA (false || (decide (v23.gVariation > 8))))] ?_
              try rw [c1] at hv28
              try rw [c2] at hv28
              refine AD_callp (d := (some 44)) (al := [bA (false || (decide (v23.gVariation > 8))), iA 3]) (r := iA v28) (by kernel_rfl) (s_shape_when hv28) ⟨trivial, trivial, trivial⟩ trivial ?_
              refine AD_bsl (d := (some 45)) (m := 3) (cs := [iA v25, iA v27, iA v28]) (by kernel_rfl) ⟨trivial, trivial, trivial, trivial⟩ ?_
              refine AD_callp (d := (some 46)) (al := [.ro .unk ([v25, v27, v28]).length (cl_i64 ([v25, v27, v28]))]) (r := iA v29) (by kernel_rfl) (s_shape_first hv29) ⟨(scl_cl_i64 _ _), trivial⟩ trivial ?_
              refine RD 1 51 [(25, 0), (24, 0), (21, 0), (20, 0), (1, 0), (0, 0)] [(0, .ro .unk x0.length (TPrerequisite.cl x0)), (3, iA v21), (4, .ptr 0 0), (5, iA v29), (9, .ro .unk x0.length (TPrerequisite.cl x0)), (10, iA (lI x0)), (11, iA v21), (16, .ptr 0 0), (17, sA v23.gFlag), (18, bA v24), (19, bA (!v24)), (20, iA v25), (21, iA v21), (22, bA false), (23, bA false), (24, undefA), (25, undefA), (26, undefA), (27, undefA), (28, undefA), (29, undefA), (30, undefA), (31, undefA), (32, undefA), (33, undefA), (34, bA (false && (sle' v23.gFlag v26.gFlag))), (35, iA v27), (36, .ptr 0 1), (37, iA v23.gVariation), (38, bA false), (39, bA false), (40, .ptr 0 1), (41, iA v23.gVariation), (42, bA (decide (v23.gVariation > 8))), (43, bA (false || (decide (v23.gVariation > 8)))), (44, iA v28), (45, .ro .unk ([v25, v27, v28]).length (cl_i64 ([v25, v27, v28]))), (46, iA v29)] ?_
              exact AD_here [0, 5, 9, 10, 11] (by kernel_rfl) rfl
        refine AWP_reg (Rh 2 51 [(0, .ro .unk x0.length (TPrerequisite.cl x0)), (5, iA v29), (9, .ro .unk x0.length (TPrerequisite.cl x0)), (10, iA (lI x0)), (11, iA v21), (48, bA (v29 != 0))] (AOps_done (CD H (fun hb30 H => ?_) (fun hb30 H => ?_))))
        · refine AWP_reg (Rh 2 51 [(2, iA v29)] (AOps_done ?_))
          exact AWP_ret (FR H)
        · refine AWP_skip ?_
          show AWP _ _ _ _ _ _ _
          refine AWP_region ?_
          refine Rh 2 51 [(0, .ro .unk x0.length (TPrerequisite.cl x0)), (9, .ro .unk x0.length (TPrerequisite.cl x0)), (10, iA (lI x0)), (11, iA (w64 (v21 + 1)))] (AOps_done ?_)
          exact Exists.intro (w64 (v21 + 1)) (Exists.intro n ⟨by omega, ⟨by omega, H⟩, Norm_fd [0, 9, 10, 11] 1 (by kernel_rfl) rfl rfl trivial (by refine scL_fr ?_; exact ⟨(scl_TPrerequisite_cl _ _), (scl_TPrerequisite_cl _ _), trivial, trivial, trivial⟩)⟩)
      · refine AWP_exit ?_
        show AWP _ _ _ _ _ _ _
        refine AWP_reg (Rh 1 51 [(2, iA 0)] (AOps_done ?_))
        exact AWP_ret (FR H)
end Go.Proofs.YtjhbobacbaikoaaGreatDoor
