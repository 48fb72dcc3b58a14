/- A function of the program as a pure function, and that the program computes it. -/
import Derived.Test.YtjhbobacbaikoaaGreatDoorM4
import Derived.Test.YtjhbobacbaikoaaGreatDoorM5
namespace Go.Proofs.YtjhbobacbaikoaaGreatDoor
open Go
set_option linter.unusedVariables false
set_option linter.unusedSimpArgs false
set_option maxRecDepth 100000
def p_shape_Split_L1 (n : Nat) (x0 : List TRange) (x1 : Int) (v14 : Int) (v15 : Int) (v16 : Int) (v17 : Int) : Option Int := match n with
| 0 => none
| n + 1 =>
(bif decide (v14 < (lI x0)) then
(rdO x0 v14).bind fun v19 =>
(bif (decide (v19.gVariation < 1)) || (decide (v19.gVariation > x1)) then
 some (3)
 else
(bif ((v19.gFrom != v16) || (decide (v19.gTo ≤ v19.gFrom))) || (v19.gVariation == v17) then
 some (9)
 else
 p_shape_Split_L1 n x0 x1 (w64 (v14 + 1)) v19.gFrom v19.gTo v19.gVariation))
 else
(p_shape_when n (v16 != 10000) 3).bind fun v22 =>
 some (v22))
def p_shape_Split (n : Nat) (x0 : List TRange) (x1 : Int) : Option Int :=
(bif decide ((lI x0) > 16) then
 some (5)
 else
 p_shape_Split_L1 n x0 x1 0 0 0 0)
variable {E : Env}
theorem s_shape_Split {n : Nat} {x0 : List TRange} {x1 : Int} {r : Int} (H : p_shape_Split n x0 x1 = some r) :
    Sp Tryz.prog E 23 [.ro .unk x0.length (TRange.cl x0), iA x1] [] (isA (iA r) []) := by
  unfold p_shape_Split at H
  refine Sp_fn Tryz.func23 rfl (fun hc hs => ?_)
  refine AWP_reg (Rh 1 52 [(0, .ro .unk x0.length (TRange.cl x0)), (1, iA x1)] (AOps_done (AWP_seq (AWP_reg (Rh 3 52 [(0, .ro .unk x0.length (TRange.cl x0)), (1, iA x1), (10, bA (decide ((lI x0) > 16)))] (AOps_done (CD H (fun hb1 H => ?_) (fun hb1 H => ?_))))))))
  · refine AWP_reg (Rh 1 52 [(4, iA 5)] (AOps_done ?_))
    exact AWP_ret (FR H)
  · refine AWP_skip ?_
    show AWP _ _ _ _ _ _ _
    refine AWP_reg (R 3 52 [(0, .ro .unk x0.length (TRange.cl x0)), (1, iA x1), (5, .ptr 0 0)] [.cells 52 [iA 0, iA 0, iA 0]] (AOps_done (AWP_seq (AWP_reg (Rh 3 52 [(1, iA x1), (5, .ptr 0 0), (12, .ro .unk x0.length (TRange.cl x0)), (13, iA (lI x0)), (14, iA 0)] (AOps_done (AWP_block ?_)))))))
    refine AWP_loopN (α := Int × Int × Int × Int) (fun ⟨v14, v15, v16, v17⟩ => fr 52 [(1, iA x1), (5, .ptr 0 0), (12, .ro .unk x0.length (TRange.cl x0)), (13, iA (lI x0)), (14, iA v14)]) (fun ⟨v14, v15, v16, v17⟩ => [.cells 52 [iA v15, iA v16, iA v17]]) (fun k_ ⟨v14, v15, v16, v17⟩ => k_ ≤ n ∧ p_shape_Split_L1 k_ x0 x1 v14 v15 v16 v17 = some r) (fun n a H => ?_) (k := n) (0, 0, 0, 0) ⟨Nat.le_refl _, H⟩ (Norm_fd [1, 5, 12, 13, 14] 0 (by kernel_rfl) rfl rfl ⟨⟨trivial, trivial, trivial, trivial⟩, trivial⟩ (by refine scL_fr ?_; exact ⟨trivial, (sc_ptr rfl), (scl_TRange_cl _ _), trivial, trivial, trivial⟩))
    obtain ⟨v14, v15, v16, v17⟩ := a
    show AWP _ _ _ _ _ (fr 52 [(1, iA x1), (5, .ptr 0 0), (12, .ro .unk x0.length (TRange.cl x0)), (13, iA (lI x0)), (14, iA v14)]) [.cells 52 [iA v15, iA v16, iA v17]]
    obtain ⟨hb_, H⟩ := H
    replace H : p_shape_Split_L1 n x0 x1 v14 v15 v16 v17 = some r := H
    cases n with
    | zero => exact not_none (by simpa only [p_shape_Split_L1] using H)
    | succ n =>
      unfold p_shape_Split_L1 at H
      refine AWP_reg (Rh 1 52 [(1, iA x1), (5, .ptr 0 0), (12, .ro .unk x0.length (TRange.cl x0)), (13, iA (lI x0)), (14, iA v14), (15, bA (decide (v14 < (lI x0))))] (AOps_done (AWP_seq (CD H (fun hb18 H => ?_) (fun hb18 H => ?_)))))
      · refine AWP_skip ?_
        show AWP _ _ _ _ _ _ _
        refine AWP_seq (AWP_block ?_)
        refine AWP_reg ?_
        obtain ⟨v19, hv19, H⟩ := bind_some H
        refine AOps_index (d := (some 16)) (sz := 3) (c := TRange.cs) (by kernel_rfl) rfl (eq_TRange_cl _) (fun _ => rfl) (by decide) hv19 (fun tl19 => ?_)
        refine R 3 52 [(1, iA x1), (5, .ptr 0 0), (7, .ptr 1 0), (12, .ro .unk x0.length (TRange.cl x0)), (13, iA (lI x0)), (14, iA v14)] [.cells 52 (TRange.cs v19), .cells 52 [iA v15, iA v16, iA v17]] (AOps_done (AWP_seq (AWP_reg (Rh 4 52 [(1, iA x1), (5, .ptr 0 0), (7, .ptr 1 0), (12, .ro .unk x0.length (TRange.cl x0)), (13, iA (lI x0)), (14, iA v14), (21, bA (decide (v19.gVariation < 1)))] (AOps_run 5 [1, 5, 7, 12, 13, 14, 26] (st' := fr 52 [(1, iA x1), (5, .ptr 0 0), (7, .ptr 1 0), (12, .ro .unk x0.length (TRange.cl x0)), (13, iA (lI x0)), (14, iA v14), (26, bA ((decide (v19.gVariation < 1)) || (decide (v19.gVariation > x1))))]) (h' := [.cells 52 (TRange.cs v19), .cells 52 [iA v15, iA v16, iA v17]]) (by (generalize (decide (v19.gVariation < 1)) = t0; cases t0 <;> kernel_rfl)) ?_)))))
        refine AOps_done (CD H (fun hb20 H => ?_) (fun hb20 H => ?_))
        · refine AWP_reg (Rh 1 52 [(4, iA 3)] (AOps_done ?_))
          exact AWP_ret (FR H)
        · refine AWP_skip ?_
          show AWP _ _ _ _ _ _ _
          refine AWP_seq (AWP_reg (Rh 6 52 [(1, iA x1), (5, .ptr 0 0), (7, .ptr 1 0), (12, .ro .unk x0.length (TRange.cl x0)), (13, iA (lI x0)), (14, iA v14), (32, bA (v19.gFrom != v16))] (AOps_run 6 [1, 5, 7, 12, 13, 14, 38] (st' := fr 52 [(1, iA x1), (5, .ptr 0 0), (7, .ptr 1 0), (12, .ro .unk x0.length (TRange.cl x0)), (13, iA (lI x0)), (14, iA v14), (38, bA ((v19.gFrom != v16) || (decide (v19.gTo ≤ v19.gFrom))))]) (h' := [.cells 52 (TRange.cs v19), .cells 52 [iA v15, iA v16, iA v17]]) (by (generalize (v19.gFrom != v16) = t0; cases t0 <;> kernel_rfl)) ?_)))
          refine Rh 1 52 [(1, iA x1), (5, .ptr 0 0), (7, .ptr 1 0), (12, .ro .unk x0.length (TRange.cl x0)), (13, iA (lI x0)), (14, iA v14), (39, bA ((v19.gFrom != v16) || (decide (v19.gTo ≤ v19.gFrom))))] (AOps_run 6 [1, 5, 7, 12, 13, 14, 45] (st' := fr 52 [(1, iA x1), (5, .ptr 0 0), (7, .ptr 1 0), (12, .ro .unk x0.length (TRange.cl x0)), (13, iA (lI x0)), (14, iA v14), (45, bA (((v19.gFrom != v16) || (decide (v19.gTo ≤ v19.gFrom))) || (v19.gVariation == v17)))]) (h' := [.cells 52 (TRange.cs v19), .cells 52 [iA v15, iA v16, iA v17]]) (by (generalize (v19.gFrom != v16) = t0; generalize (decide (v19.gTo ≤ v19.gFrom)) = t1; cases t0 <;> cases t1 <;> kernel_rfl)) ?_)
          refine AOps_done (CD H (fun hb21 H => ?_) (fun hb21 H => ?_))
          · refine AWP_reg (Rh 1 52 [(4, iA 9)] (AOps_done ?_))
            exact AWP_ret (FR H)
          · refine AWP_skip ?_
            show AWP _ _ _ _ _ _ _
            refine AWP_region ?_
            refine R 2 52 [(1, iA x1), (5, .ptr 0 0), (12, .ro .unk x0.length (TRange.cl x0)), (13, iA (lI x0)), (14, iA v14)] [.cells 52 (TRange.cs v19), .cells 52 (TRange.cs v19)] (AOps_done ?_)
            show AWP _ _ _ _ _ _ _
            refine AWP_region ?_
            refine Rh 2 52 [(1, iA x1), (5, .ptr 0 0), (12, .ro .unk x0.length (TRange.cl x0)), (13, iA (lI x0)), (14, iA (w64 (v14 + 1)))] (AOps_done ?_)
            exact Exists.intro (w64 (v14 + 1), v19.gFrom, v19.gTo, v19.gVariation) (Exists.intro n ⟨by omega, ⟨by omega, H⟩, Norm_fd [1, 5, 12, 13, 14] 1 (by kernel_rfl) rfl rfl ⟨⟨trivial, trivial, trivial, trivial⟩, trivial⟩ (by refine scL_fr ?_; exact ⟨trivial, (sc_ptr rfl), (scl_TRange_cl _ _), trivial, trivial, trivial⟩)⟩)
      · refine AWP_exit ?_
        show AWP _ _ _ _ _ _ _
        refine AWP_reg (Rh 3 52 [(50, bA (v16 != 10000))] ?_)
        obtain ⟨v22, hv22, H⟩ := bind_some H
        refine AOps_callp (d := (some 51)) (al := [bA (v16 != 10000), iA 3]) (r := iA v22) (by kernel_rfl) (s_shape_when hv22) ⟨trivial, trivial, trivial⟩ trivial ?_
        refine Rh 1 52 [(4, iA v22)] (AOps_done ?_)
        exact AWP_ret (FR H)
end Go.Proofs.YtjhbobacbaikoaaGreatDoor
/- Splits: the program and the reference agree. -/
namespace Go.Proofs.YtjhbobacbaikoaaGreatDoor
open Go
set_option linter.unusedVariables false
set_option linter.unusedSimpArgs false
theorem split_bi (l : List TRange) (m : Int) : ∃ v, Al fun n => p_shape_Split n l m = some v ∧ p_ref6_Split n l m = some v := by
  unfold p_shape_Split p_ref6_Split
  by_cases hl : lI l > 16
  · exact ⟨5, .of fun n => by rw [decide_eq_true hl]; exact ⟨rfl, rfl⟩⟩
  · rw [decide_eq_false hl]
    have hlen : l.length ≤ 16 := long_no (k := 16) hl
    have key : ∀ (q i : Nat) (f a u : Int), i + q = l.length → (∀ (h : 0 < i) (hi : i - 1 < l.length), u = l[i - 1].gVariation) → (i = 0 → u = 0) → ∃ v, Al fun n => p_shape_Split_L1 n l m i f a u = some v ∧ p_ref6_Split_L1 n l m a i = some v := by
      intro q
      induction q with
      | zero =>
        intro i f a u hi _ _
        obtain rfl : i = l.length := by omega
        refine ⟨if (a != 10000) = true then 3 else 0, Al.succ (.of fun n => ?_)⟩
        rw [p_shape_Split_L1, p_ref6_Split_L1, lI_out]
        simp only [cond_false, when_eq, Option.bind_some]
        cases (a != 10000) <;> simp
      | succ q ih =>
        intro i f a u hi h0 h1
        have hil : i < l.length := by omega
        have hd := lI_in hil
        have hr := rdO_nat hil
        have hprev : ∀ h : 0 < i, rdO l (w64 ((i : Int) - 1)) = some (l[i - 1]'(by omega)) := fun h => rdO_pred h hil (by omega)
        by_cases c1 : l[i].gVariation < 1
        · refine ⟨3, Al.succ (.of fun n => ?_)⟩
          rw [p_shape_Split_L1, p_ref6_Split_L1, hd]
          simp [hr, c1]
        · by_cases c2 : l[i].gVariation > m
          · refine ⟨3, Al.succ (.of fun n => ?_)⟩
            rw [p_shape_Split_L1, p_ref6_Split_L1, hd]
            simp [hr, c1, c2]
          · have hvar : (l[i].gVariation == u) = (decide ((i : Int) > 0) && (l[i].gVariation == (if h : 0 < i then (l[i - 1]'(by omega)).gVariation else 0))) := by
              by_cases hz : 0 < i
              · rw [decide_eq_true (show (i : Int) > 0 by omega), dif_pos hz, ← h0 hz (by omega)]; rfl
              · rw [decide_eq_false (show ¬ (i : Int) > 0 by omega), h1 (by omega)]
                rw [beq_eq_false_iff_ne.2 (by omega)]; rfl
            by_cases c3 : l[i].gFrom = a
            · by_cases c4 : l[i].gTo ≤ a
              · refine ⟨9, Al.succ (.of fun n => ?_)⟩
                rw [p_shape_Split_L1, p_ref6_Split_L1, hd]
                simp [hr, c1, c2, c3, c4]
              · by_cases hz : 0 < i
                · have hz' : (i : Int) > 0 := by omega
                  have hu := h0 hz (by omega)
                  by_cases c5 : l[i].gVariation = u
                  · refine ⟨9, Al.succ (.of fun n => ?_)⟩
                    rw [p_shape_Split_L1, p_ref6_Split_L1, hd]
                    have c6 : l[i].gVariation = l[i - 1].gVariation := by rw [c5, hu]
                    rw [hprev hz, decide_eq_true hz']
                    rw [c5] at c1 c2
                    simp [hr, c1, c2, c3, c4, c5, ← hu]
                  · obtain ⟨v, hv⟩ := ih (i + 1) l[i].gFrom l[i].gTo l[i].gVariation (by omega) (fun _ _ => rfl) (fun h => by omega)
                    refine ⟨v, Al.succ (hv.mono fun n ⟨a1, a2⟩ => ?_)⟩
                    rw [p_shape_Split_L1, p_ref6_Split_L1, hd]
                    have c6 : ¬ l[i].gVariation = l[i - 1].gVariation := by rw [← hu]; exact c5
                    rw [hprev hz, decide_eq_true hz', w64_add (by omega)]
                    rw [c3] at a1
                    generalize ((i + 1 : Nat) : Int) = J at a1 a2 ⊢
                    simp [hr, c1, c2, c3, c4, beq_eq_false_iff_ne.2 c5, beq_eq_false_iff_ne.2 c6, a1, a2]
                · have hz' : ¬ (i : Int) > 0 := by omega
                  have hu := h1 (by omega)
                  have c5 : ¬ l[i].gVariation = u := by omega
                  obtain ⟨v, hv⟩ := ih (i + 1) l[i].gFrom l[i].gTo l[i].gVariation (by omega) (fun _ _ => rfl) (fun h => by omega)
                  refine ⟨v, Al.succ (hv.mono fun n ⟨a1, a2⟩ => ?_)⟩
                  rw [p_shape_Split_L1, p_ref6_Split_L1, hd]
                  rw [decide_eq_false hz', w64_add (by omega)]
                  rw [c3] at a1
                  generalize ((i + 1 : Nat) : Int) = J at a1 a2 ⊢
                  simp [hr, c1, c2, c3, c4, beq_eq_false_iff_ne.2 c5, a1, a2]
            · refine ⟨9, Al.succ (.of fun n => ?_)⟩
              have c3' : (l[i].gFrom != a) = true := by rw [bne_iff_ne]; exact c3
              rw [p_shape_Split_L1, p_ref6_Split_L1, hd]
              simp [hr, c1, c2, c3']
    simp only [cond_false]
    exact key l.length 0 0 0 0 (by omega) (fun h => absurd h (Nat.lt_irrefl _)) (fun _ => rfl)
end Go.Proofs.YtjhbobacbaikoaaGreatDoor
/- A function of the program as a pure function, and that the program computes it. -/
namespace Go.Proofs.YtjhbobacbaikoaaGreatDoor
open Go
set_option linter.unusedVariables false
set_option linter.unusedSimpArgs false
set_option maxRecDepth 100000
def p_draw_Codes_Wide (n : Nat) (x0 : TCodes) (x1 : Int) : Option (Int × TCodes) :=
(p_draw_Codes_Next n x0 256).bind fun v1 =>
(p_draw_Codes_Next n v1.2 256).bind fun v2 =>
(remO (w64 ((w64 (256 * v1.1)) + v2.1)) x1).bind fun v3 =>
 some (v3, v2.2)
variable {E : Env}
theorem s_draw_Codes_Wide {n : Nat} {x0 : TCodes} {x1 : Int} {r : Int × TCodes} (H : p_draw_Codes_Wide n x0 x1 = some r) :
    Sp Tryz.prog E 22 [.ptr 0 0, iA x1] [.cells 101 (TCodes.cs x0)] (isA (iA r.1) [.cells 101 (TCodes.cs r.2)]) := by
  unfold p_draw_Codes_Wide at H
  refine Sp_fn Tryz.func22 rfl (fun hc hs => ?_)
  refine AWP_reg (Rh 1 13 [(0, .ptr 0 0), (1, iA x1)] (AOps_done (AWP_reg (Rh 1 13 [(0, .ptr 0 0), (1, iA x1), (5, .ptr 0 0)] ?_))))
  obtain ⟨v1, hv1, H⟩ := bind_some H
  refine AOps_call1 (d := (some 6)) (al := [.ptr 0 0, iA 256]) ([.ptr 0 0, iA 256]) (r := iA v1.1) (j := 0) (b' := .cells 101 (TCodes.cs v1.2)) (by kernel_rfl) rfl (s_draw_Codes_Next hv1) (⟨(scl_cl_u8 _ _), trivial, trivial⟩) (⟨(scl_cl_u8 _ _), trivial, trivial⟩) ⟨Nat.zero_lt_one, trivial, trivial⟩ trivial rfl (h' := [.cells 101 (TCodes.cs v1.2)]) rfl ?_
  refine Rh 2 13 [(1, iA x1), (7, iA (w64 (256 * v1.1))), (8, .ptr 0 0)] ?_
  obtain ⟨v2, hv2, H⟩ := bind_some H
  refine AOps_call1 (d := (some 9)) (al := [.ptr 0 0, iA 256]) ([.ptr 0 0, iA 256]) (r := iA v2.1) (j := 0) (b' := .cells 101 (TCodes.cs v2.2)) (by kernel_rfl) rfl (s_draw_Codes_Next hv2) (⟨(scl_cl_u8 _ _), trivial, trivial⟩) (⟨(scl_cl_u8 _ _), trivial, trivial⟩) ⟨Nat.zero_lt_one, trivial, trivial⟩ trivial rfl (h' := [.cells 101 (TCodes.cs v2.2)]) rfl ?_
  refine Rh 2 13 [(10, iA (w64 ((w64 (256 * v1.1)) + v2.1))), (11, iA x1)] ?_
  obtain ⟨v3, hv3, H⟩ := bind_some H
  refine AOps_rem (kk := .i64) (d := (some 12)) (by kernel_rfl) hv3 ?_
  refine Rh 1 13 [(4, iA v3)] (AOps_done (AWP_ret ?_))
  have hr := Option.some.inj H
  subst hr
  exact Fin_retn 0 (l := [iA v3]) (h' := [.cells 101 (TCodes.cs v2.2)]) (by kernel_rfl) rfl (Nat.le_of_ble_eq_true rfl) ((by refine Closed_of ?_; exact ⟨⟨(scl_cl_u8 _ _), trivial, trivial⟩, trivial⟩)) (Frz_sc trivial) ⟨rfl, rfl⟩
end Go.Proofs.YtjhbobacbaikoaaGreatDoor
/- A function of the program as a pure function, and that the program computes it. -/
namespace Go.Proofs.YtjhbobacbaikoaaGreatDoor
open Go
set_option linter.unusedVariables false
set_option linter.unusedSimpArgs false
set_option maxRecDepth 100000
def p_draw_Codes_Split_K2 (n : Nat) (v46 : List TRange) (v47 : Int) (v51 : Int × TCodes) (v54 : Int) : Option ((List TRange) × TCodes) :=
(appO 24 v46 ([({ gFrom := v47, gTo := 10000, gVariation := v54 } : TRange)])).bind fun v55 =>
 some (v55, v51.2)
def p_draw_Codes_Split_K1 (n : Nat) (x1 : Int) (v46 : List TRange) (v47 : Int) (v48 : Int) (v49 : List Int) (v50 : Int) : Option ((List TRange) × TCodes) :=
(p_draw_Codes_Next n ({ glist := v49, gat := v50 } : TCodes) x1).bind fun v51 =>
(bif (w64 (1 + v51.1)) == v48 then
(remO (w64 (1 + v51.1)) x1).bind fun v57 =>
 p_draw_Codes_Split_K2 n v46 v47 v51 (w64 (1 + v57))
 else
 p_draw_Codes_Split_K2 n v46 v47 v51 (w64 (1 + v51.1)))
mutual
def p_draw_Codes_Split_K3 (n : Nat) (x1 : Int) (v86 : List TRange) (v87 : Int) (v88 : Int) (v89 : Int) (v94 : Int × TCodes) (v95 : Int × TCodes) (v98 : Int) : Option ((List TRange) × TCodes) := match n with
| 0 => none
| n + 1 =>
(bif decide ((w64 ((w64 (v87 + 1)) + v94.1)) ≥ 10000) then
 p_draw_Codes_Split_K1 n x1 v86 v87 v88 v95.2.glist v95.2.gat
 else
(appO 24 v86 ([({ gFrom := v87, gTo := w64 ((w64 (v87 + 1)) + v94.1), gVariation := v98 } : TRange)])).bind fun v100 =>
 p_draw_Codes_Split_L1 n x1 v100 (w64 ((w64 (v87 + 1)) + v94.1)) v98 (w64 (v89 + 1)) v95.2.glist v95.2.gat)
def p_draw_Codes_Split_L1 (n : Nat) (x1 : Int) (v86 : List TRange) (v87 : Int) (v88 : Int) (v89 : Int) (v90 : List Int) (v91 : Int) : Option ((List TRange) × TCodes) := match n with
| 0 => none
| n + 1 =>
(p_draw_Codes_Next n ({ glist := v90, gat := v91 } : TCodes) 4).bind fun v92 =>
(bif (decide (v89 < v92.1)) && (decide (x1 > 1)) then
(p_draw_Codes_Wide n v92.2 5000).bind fun v94 =>
(p_draw_Codes_Next n v94.2 x1).bind fun v95 =>
(bif (w64 (1 + v95.1)) == v88 then
(remO (w64 (1 + v95.1)) x1).bind fun v102 =>
 p_draw_Codes_Split_K3 n x1 v86 v87 v88 v89 v94 v95 (w64 (1 + v102))
 else
 p_draw_Codes_Split_K3 n x1 v86 v87 v88 v89 v94 v95 (w64 (1 + v95.1)))
 else
 p_draw_Codes_Split_K1 n x1 v86 v87 v88 v92.2.glist v92.2.gat)
end
def p_draw_Codes_Split (n : Nat) (x0 : TCodes) (x1 : Int) : Option ((List TRange) × TCodes) :=
 p_draw_Codes_Split_L1 n x1 ([]) 0 0 0 x0.glist x0.gat
variable {E : Env}
theorem s_draw_Codes_Split {n : Nat} {x0 : TCodes} {x1 : Int} {r : (List TRange) × TCodes} (H : p_draw_Codes_Split n x0 x1 = some r) :
    Sp Tryz.prog E 20 [.ptr 0 0, iA x1] [.cells 101 (TCodes.cs x0)] (isA (.ro .unk r.1.length (TRange.cl r.1)) [.cells 101 (TCodes.cs r.2)]) := by
  unfold p_draw_Codes_Split at H
  refine Sp_fn Tryz.func20 rfl (fun hc hs => ?_)
  refine AWP_reg (Rh 1 66 [(0, .ptr 0 0), (1, iA x1)] (AOps_done (AWP_reg (Rh 1 66 [(0, .ptr 0 0), (1, iA x1), (5, .ro .full 0 [])] (AOps_done (AWP_reg (Rh 2 66 [(0, .ptr 0 0), (1, iA x1), (5, .ro .full 0 []), (6, iA 0), (7, iA 0)] (AOps_done ?_))))))))
  refine AWP_joinN (α := (List TRange) × Int × Int × (List Int) × Int) (fun ⟨v46, v47, v48, v49, v50⟩ => fr 66 [(0, .ptr 0 0), (1, iA x1), (5, .sl 1 0 v46.length (.whole 3)), (6, iA v47), (7, iA v48)]) (fun ⟨v46, v47, v48, v49, v50⟩ => [.row 52 (TRange.cl v46), .cells 101 [.ro .unk v49.length (cl_u8 v49), iA v50]]) (fun ⟨v46, v47, v48, v49, v50⟩ => ∃ q, q ≤ q ∧ p_draw_Codes_Split_K1 q x1 v46 v47 v48 v49 v50 = some r) (fun a hC => ?_) ?_
  · obtain ⟨v46, v47, v48, v49, v50⟩ := a
    show AWP _ _ _ _ _ (fr 66 [(0, .ptr 0 0), (1, iA x1), (5, .sl 1 0 v46.length (.whole 3)), (6, iA v47), (7, iA v48)]) [.row 52 (TRange.cl v46), .cells 101 [.ro .unk v49.length (cl_u8 v49), iA v50]]
    obtain ⟨n, hn_, hC⟩ := hC
    replace H : p_draw_Codes_Split_K1 n x1 v46 v47 v48 v49 v50 = some r := hC
    unfold p_draw_Codes_Split_K1 at H
    refine AWP_reg (Rh 2 66 [(1, iA x1), (5, .sl 1 0 v46.length (.whole 3)), (6, iA v47), (7, iA v48), (49, .ptr 0 0), (50, iA x1)] ?_)
    obtain ⟨v51, hv51, H⟩ := bind_some H
    refine AOps_call1 (d := (some 51)) (al := [.ptr 0 0, iA x1]) ([.ptr 0 0, iA x1]) (r := iA v51.1) (j := 0) (b' := .cells 101 (TCodes.cs v51.2)) (by kernel_rfl) rfl (s_draw_Codes_Next hv51) (⟨(scl_cl_u8 _ _), trivial, trivial⟩) (⟨(scl_cl_u8 _ _), trivial, trivial⟩) ⟨Nat.zero_lt_one, trivial, trivial⟩ trivial rfl (h' := [.row 52 (TRange.cl v46), .cells 101 (TCodes.cs v51.2)]) rfl ?_
    refine Rh 2 66 [(1, iA x1), (5, .sl 1 0 v46.length (.whole 3)), (6, iA v47), (7, iA v48), (11, iA (w64 (1 + v51.1)))] (AOps_done (AWP_joinN (α := Int) (fun v54 => fr 66 [(5, .sl 1 0 v46.length (.whole 3)), (6, iA v47), (11, iA v54)]) (fun v54 => [.row 52 (TRange.cl v46), .cells 101 (TCodes.cs v51.2)]) (fun v54 => ∃ q, q ≤ q ∧ p_draw_Codes_Split_K2 q v46 v47 v51 v54 = some r) (fun v54 hC => ?_) ?_))
    · show AWP _ _ _ _ _ (fr 66 [(5, .sl 1 0 v46.length (.whole 3)), (6, iA v47), (11, iA v54)]) [.row 52 (TRange.cl v46), .cells 101 (TCodes.cs v51.2)]
      obtain ⟨n, hn_, hC⟩ := hC
      replace H : p_draw_Codes_Split_K2 n v46 v47 v51 v54 = some r := hC
      unfold p_draw_Codes_Split_K2 at H
      refine AWP_reg (Rh 4 66 [(60, .sl 1 0 v46.length (.whole 3)), (63, .agg [iA v47, iA 10000, iA v54])] (AOps_bsl (d := (some 64)) (m := 1) (cs := [iA v47, iA 10000, iA v54]) (by kernel_rfl) ⟨trivial, trivial, trivial, trivial⟩ ?_))
      obtain ⟨v55, hv55, H⟩ := bind_some H
      refine AOps_append (d := (some 65)) (c := TRange.cs) (sz := 3) (bs := 24) (e := 52) (id := 1) (xs := v46) (ys := [({ gFrom := v47, gTo := 10000, gVariation := v54 } : TRange)]) (by kernel_rfl) rfl (eq_TRange_cl _) rfl (eq_TRange_cl _) (fun _ => rfl) (by kernel_rfl) (by kernel_rfl) hv55 (eq_TRange_cl _) (h' := [.row 52 (TRange.cl v55), .dead, .cells 101 (TCodes.cs v51.2)]) rfl ?_
      refine Rh 1 66 [(4, .sl 2 0 v55.length (.whole 3))] (AOps_done (AWP_ret ?_))
      have hr := Option.some.inj H
      subst hr
      exact Fin_retn 2 (l := [.sl 2 0 v55.length (.whole 3)]) (h' := [.cells 101 (TCodes.cs v51.2)]) (by kernel_rfl) rfl (Nat.le_of_ble_eq_true rfl) ((by refine Closed_of ?_; exact ⟨⟨(scl_cl_u8 _ _), trivial, trivial⟩, trivial⟩)) (Frz_row (t := 52) (cs := TRange.cl v55) rfl (scl_TRange_cl _ _)) ⟨rfl, rfl⟩
    · refine AWP_reg (Rh 3 66 [(1, iA x1), (5, .sl 1 0 v46.length (.whole 3)), (6, iA v47), (11, iA (w64 (1 + v51.1))), (55, bA ((w64 (1 + v51.1)) == v48))] (AOps_done (CD H (fun hb56 H => ?_) (fun hb56 H => ?_))))
      · refine AWP_region ?_
        refine Rh 2 66 [(5, .sl 1 0 v46.length (.whole 3)), (6, iA v47), (56, iA (w64 (1 + v51.1))), (57, iA x1)] ?_
        obtain ⟨v57, hv57, H⟩ := bind_some H
        refine AOps_rem (kk := .i64) (d := (some 58)) (by kernel_rfl) hv57 ?_
        refine Rh 2 66 [(5, .sl 1 0 v46.length (.whole 3)), (6, iA v47), (11, iA (w64 (1 + v57)))] (AOps_done ?_)
        exact Exists.intro (w64 (1 + v57)) ⟨⟨n, by omega, H⟩, Norm_fd [5, 6, 11] 0 (by kernel_rfl) rfl rfl ⟨(scl_TRange_cl _ _), ⟨(scl_cl_u8 _ _), trivial, trivial⟩, trivial⟩ (by refine scL_fr ?_; exact ⟨(sc_sl rfl), trivial, trivial, trivial⟩)⟩
      · refine AWP_skip ?_
        exact Exists.intro (w64 (1 + v51.1)) ⟨⟨n, by omega, H⟩, Norm_fd [5, 6, 11] 0 (by kernel_rfl) rfl rfl ⟨(scl_TRange_cl _ _), ⟨(scl_cl_u8 _ _), trivial, trivial⟩, trivial⟩ (by refine scL_fr ?_; exact ⟨(sc_sl rfl), trivial, trivial, trivial⟩)⟩
  · refine AWP_reg (Rh 1 66 [(0, .ptr 0 0), (1, iA x1), (5, .ro .full 0 []), (6, iA 0), (7, iA 0), (8, iA 0)] (AOps_done (AWP_block ?_)))
    refine AWP_loopN (α := (List TRange) × Int × Int × Int × (List Int) × Int) (fun ⟨v86, v87, v88, v89, v90, v91⟩ => fr 66 [(0, .ptr 0 0), (1, iA x1), (5, .sl 1 0 v86.length (.whole 3)), (6, iA v87), (7, iA v88), (8, iA v89)]) (fun ⟨v86, v87, v88, v89, v90, v91⟩ => [.row 52 (TRange.cl v86), .cells 101 [.ro .unk v90.length (cl_u8 v90), iA v91]]) (fun k_ ⟨v86, v87, v88, v89, v90, v91⟩ => k_ ≤ n ∧ p_draw_Codes_Split_L1 k_ x1 v86 v87 v88 v89 v90 v91 = some r) (fun n a H => ?_) (k := n) ([], 0, 0, 0, x0.glist, x0.gat) ⟨Nat.le_refl _, H⟩ (Norm_trans (Norm_fd (st' := fr 66 [(0, .ptr 0 0), (1, iA x1), (5, .ro .full 0 []), (6, iA 0), (7, iA 0), (8, iA 0)]) (h' := [.cells 101 (TCodes.cs x0)]) [0, 1, 5, 6, 7, 8] 0 (by kernel_rfl) rfl rfl ⟨⟨(scl_cl_u8 _ _), trivial, trivial⟩, trivial⟩ (by refine scL_fr ?_; exact ⟨(sc_ptr rfl), trivial, trivial, trivial, trivial, trivial, trivial⟩)) (Norm_trans (Norm_nil' (st' := fr 66 [(0, .ptr 0 0), (1, iA x1), (5, .sl 1 0 ([] : List TRange).length (.whole 3)), (6, iA 0), (7, iA 0), (8, iA 0)]) 5 52 3 (by kernel_rfl) (h' := [.row 52 (TRange.cl ([])), .cells 101 (TCodes.cs x0)]) rfl (by kernel_rfl)) (Norm_fd [0, 1, 5, 6, 7, 8] 0 (by kernel_rfl) rfl rfl ⟨(scl_TRange_cl _ _), ⟨(scl_cl_u8 _ _), trivial, trivial⟩, trivial⟩ (by refine scL_fr ?_; exact ⟨(sc_ptr rfl), trivial, (sc_sl rfl), trivial, trivial, trivial, trivial⟩))))
    obtain ⟨v86, v87, v88, v89, v90, v91⟩ := a
    show AWP _ _ _ _ _ (fr 66 [(0, .ptr 0 0), (1, iA x1), (5, .sl 1 0 v86.length (.whole 3)), (6, iA v87), (7, iA v88), (8, iA v89)]) [.row 52 (TRange.cl v86), .cells 101 [.ro .unk v90.length (cl_u8 v90), iA v91]]
    obtain ⟨hb_, H⟩ := H
    replace H : p_draw_Codes_Split_L1 n x1 v86 v87 v88 v89 v90 v91 = some r := H
    cases n with
    | zero => exact not_none (by simpa only [p_draw_Codes_Split_L1] using H)
    | succ n =>
      unfold p_draw_Codes_Split_L1 at H
      refine AWP_seq (AWP_reg (Rh 2 66 [(0, .ptr 0 0), (1, iA x1), (5, .sl 1 0 v86.length (.whole 3)), (6, iA v87), (7, iA v88), (8, iA v89), (12, iA v89), (13, .ptr 0 0)] ?_))
      obtain ⟨v92, hv92, H⟩ := bind_some H
      refine AOps_call1 (d := (some 14)) (al := [.ptr 0 0, iA 4]) ([.ptr 0 0, iA 4]) (r := iA v92.1) (j := 0) (b' := .cells 101 (TCodes.cs v92.2)) (by kernel_rfl) rfl (s_draw_Codes_Next hv92) (⟨(scl_cl_u8 _ _), trivial, trivial⟩) (⟨(scl_cl_u8 _ _), trivial, trivial⟩) ⟨Nat.zero_lt_one, trivial, trivial⟩ trivial rfl (h' := [.row 52 (TRange.cl v86), .cells 101 (TCodes.cs v92.2)]) rfl ?_
      refine Rh 2 66 [(0, .ptr 0 0), (1, iA x1), (5, .sl 1 0 v86.length (.whole 3)), (6, iA v87), (7, iA v88), (8, iA v89), (16, bA (decide (v89 < v92.1)))] (AOps_run 3 [0, 1, 5, 6, 7, 8, 19] (st' := fr 66 [(0, .ptr 0 0), (1, iA x1), (5, .sl 1 0 v86.length (.whole 3)), (6, iA v87), (7, iA v88), (8, iA v89), (19, bA ((decide (v89 < v92.1)) && (decide (x1 > 1))))]) (h' := [.row 52 (TRange.cl v86), .cells 101 (TCodes.cs v92.2)]) (by (generalize (decide (v89 < v92.1)) = t0; cases t0 <;> kernel_rfl)) ?_)
      refine AOps_done (CD H (fun hb93 H => ?_) (fun hb93 H => ?_))
      · refine AWP_skip ?_
        show AWP _ _ _ _ _ _ _
        refine AWP_seq (AWP_block ?_)
        refine AWP_reg (Rh 3 66 [(0, .ptr 0 0), (1, iA x1), (5, .sl 1 0 v86.length (.whole 3)), (6, iA v87), (7, iA v88), (8, iA v89), (23, iA (w64 (v87 + 1))), (24, .ptr 0 0)] ?_)
        obtain ⟨v94, hv94, H⟩ := bind_some H
        refine AOps_call1 (d := (some 25)) (al := [.ptr 0 0, iA 5000]) ([.ptr 0 0, iA 5000]) (r := iA v94.1) (j := 0) (b' := .cells 101 (TCodes.cs v94.2)) (by kernel_rfl) rfl (s_draw_Codes_Wide hv94) (⟨(scl_cl_u8 _ _), trivial, trivial⟩) (⟨(scl_cl_u8 _ _), trivial, trivial⟩) ⟨Nat.zero_lt_one, trivial, trivial⟩ trivial rfl (h' := [.row 52 (TRange.cl v86), .cells 101 (TCodes.cs v94.2)]) rfl ?_
        refine Rh 2 66 [(0, .ptr 0 0), (1, iA x1), (5, .sl 1 0 v86.length (.whole 3)), (6, iA v87), (7, iA v88), (8, iA v89), (9, iA (w64 ((w64 (v87 + 1)) + v94.1)))] (AOps_done (AWP_reg (Rh 2 66 [(0, .ptr 0 0), (1, iA x1), (5, .sl 1 0 v86.length (.whole 3)), (6, iA v87), (7, iA v88), (8, iA v89), (9, iA (w64 ((w64 (v87 + 1)) + v94.1))), (27, .ptr 0 0), (28, iA x1)] ?_)))
        obtain ⟨v95, hv95, H⟩ := bind_some H
        refine AOps_call1 (d := (some 29)) (al := [.ptr 0 0, iA x1]) ([.ptr 0 0, iA x1]) (r := iA v95.1) (j := 0) (b' := .cells 101 (TCodes.cs v95.2)) (by kernel_rfl) rfl (s_draw_Codes_Next hv95) (⟨(scl_cl_u8 _ _), trivial, trivial⟩) (⟨(scl_cl_u8 _ _), trivial, trivial⟩) ⟨Nat.zero_lt_one, trivial, trivial⟩ trivial rfl (h' := [.row 52 (TRange.cl v86), .cells 101 (TCodes.cs v95.2)]) rfl ?_
        refine Rh 2 66 [(0, .ptr 0 0), (1, iA x1), (5, .sl 1 0 v86.length (.whole 3)), (6, iA v87), (7, iA v88), (8, iA v89), (9, iA (w64 ((w64 (v87 + 1)) + v94.1))), (10, iA (w64 (1 + v95.1)))] (AOps_done (AWP_joinN (α := Int) (fun v98 => fr 66 [(0, .ptr 0 0), (1, iA x1), (5, .sl 1 0 v86.length (.whole 3)), (6, iA v87), (7, iA v88), (8, iA v89), (9, iA (w64 ((w64 (v87 + 1)) + v94.1))), (10, iA v98)]) (fun v98 => [.row 52 (TRange.cl v86), .cells 101 (TCodes.cs v95.2)]) (fun v98 => ∃ q, q ≤ n ∧ p_draw_Codes_Split_K3 q x1 v86 v87 v88 v89 v94 v95 v98 = some r) (fun v98 hC => ?_) ?_))
        · show AWP _ _ _ _ _ (fr 66 [(0, .ptr 0 0), (1, iA x1), (5, .sl 1 0 v86.length (.whole 3)), (6, iA v87), (7, iA v88), (8, iA v89), (9, iA (w64 ((w64 (v87 + 1)) + v94.1))), (10, iA v98)]) [.row 52 (TRange.cl v86), .cells 101 (TCodes.cs v95.2)]
          obtain ⟨n, hn_, hC⟩ := hC
          replace H : p_draw_Codes_Split_K3 n x1 v86 v87 v88 v89 v94 v95 v98 = some r := hC
          cases n with
          | zero => exact not_none (by simpa only [p_draw_Codes_Split_K3] using H)
          | succ n =>
            unfold p_draw_Codes_Split_K3 at H
            refine AWP_seq (AWP_reg (Rh 2 66 [(0, .ptr 0 0), (1, iA x1), (5, .sl 1 0 v86.length (.whole 3)), (6, iA v87), (7, iA v88), (8, iA v89), (9, iA (w64 ((w64 (v87 + 1)) + v94.1))), (10, iA v98), (39, bA (decide ((w64 ((w64 (v87 + 1)) + v94.1)) ≥ 10000)))] (AOps_done (CD H (fun hb99 H => ?_) (fun hb99 H => ?_)))))
            · refine AWP_exit ?_
              exact Exists.intro (v86, v87, v88, v95.2.glist, v95.2.gat) ⟨⟨n, by omega, H⟩, Norm_fd [0, 1, 5, 6, 7] 0 (by kernel_rfl) rfl rfl ⟨(scl_TRange_cl _ _), ⟨(scl_cl_u8 _ _), trivial, trivial⟩, trivial⟩ (by refine scL_fr ?_; exact ⟨(sc_ptr rfl), trivial, (sc_sl rfl), trivial, trivial, trivial⟩)⟩
            · refine AWP_skip ?_
              show AWP _ _ _ _ _ _ _
              refine AWP_reg (Rh 5 66 [(0, .ptr 0 0), (1, iA x1), (8, iA v89), (9, iA (w64 ((w64 (v87 + 1)) + v94.1))), (10, iA v98), (40, .sl 1 0 v86.length (.whole 3)), (44, .agg [iA v87, iA (w64 ((w64 (v87 + 1)) + v94.1)), iA v98])] (AOps_bsl (d := (some 45)) (m := 1) (cs := [iA v87, iA (w64 ((w64 (v87 + 1)) + v94.1)), iA v98]) (by kernel_rfl) ⟨trivial, trivial, trivial, trivial⟩ ?_))
              obtain ⟨v100, hv100, H⟩ := bind_some H
              refine AOps_append (d := (some 46)) (c := TRange.cs) (sz := 3) (bs := 24) (e := 52) (id := 1) (xs := v86) (ys := [({ gFrom := v87, gTo := w64 ((w64 (v87 + 1)) + v94.1), gVariation := v98 } : TRange)]) (by kernel_rfl) rfl (eq_TRange_cl _) rfl (eq_TRange_cl _) (fun _ => rfl) (by kernel_rfl) (by kernel_rfl) hv100 (eq_TRange_cl _) (h' := [.row 52 (TRange.cl v100), .dead, .cells 101 (TCodes.cs v95.2)]) rfl ?_
              refine Rh 1 66 [(0, .ptr 0 0), (1, iA x1), (5, .sl 2 0 v100.length (.whole 3)), (8, iA v89), (9, iA (w64 ((w64 (v87 + 1)) + v94.1))), (10, iA v98)] (AOps_done (AWP_region ?_))
              refine Rh 4 66 [(0, .ptr 0 0), (1, iA x1), (5, .sl 2 0 v100.length (.whole 3)), (6, iA (w64 ((w64 (v87 + 1)) + v94.1))), (7, iA v98), (8, iA v89)] (AOps_done ?_)
              show AWP _ _ _ _ _ _ _
              refine AWP_region ?_
              refine Rh 3 66 [(0, .ptr 0 0), (1, iA x1), (5, .sl 2 0 v100.length (.whole 3)), (6, iA (w64 ((w64 (v87 + 1)) + v94.1))), (7, iA v98), (8, iA (w64 (v89 + 1)))] (AOps_done ?_)
              exact Exists.intro (v100, w64 ((w64 (v87 + 1)) + v94.1), v98, w64 (v89 + 1), v95.2.glist, v95.2.gat) (Exists.intro n ⟨by omega, ⟨by omega, H⟩, Norm_trans (Norm_fd (st' := fr 66 [(0, .ptr 0 0), (1, iA x1), (5, .sl 2 0 v100.length (.whole 3)), (6, iA (w64 ((w64 (v87 + 1)) + v94.1))), (7, iA v98), (8, iA (w64 (v89 + 1)))]) (h' := [.row 52 (TRange.cl v100), .dead, .cells 101 (TCodes.cs v95.2)]) [0, 1, 5, 6, 7, 8] 0 (by kernel_rfl) rfl rfl ⟨(scl_TRange_cl _ _), trivial, ⟨(scl_cl_u8 _ _), trivial, trivial⟩, trivial⟩ (by refine scL_fr ?_; exact ⟨(sc_ptr rfl), trivial, (sc_sl rfl), trivial, trivial, trivial, trivial⟩)) (Norm_trans (Norm_move' (st' := fr 66 [(0, .ptr 0 0), (1, iA x1), (5, .sl 1 0 v100.length (.whole 3)), (6, iA (w64 ((w64 (v87 + 1)) + v94.1))), (7, iA v98), (8, iA (w64 (v89 + 1)))]) (h' := [.row 52 (TRange.cl v100), .cells 101 (TCodes.cs v95.2)]) 1 2 rfl rfl rfl (fun h => by cases h) (by refine toOkL_fr ?_; exact ⟨(toOk_ptr rfl), trivial, (toOk_sl rfl), trivial, trivial, trivial, trivial⟩) ⟨(on0 (scl_TRange_cl _ _)), trivial, ⟨(on0 (scl_cl_u8 _ _)), trivial, trivial⟩, trivial⟩ (by kernel_rfl) (by kernel_rfl)) (Norm_fd [0, 1, 5, 6, 7, 8] 0 (by kernel_rfl) rfl rfl ⟨(scl_TRange_cl _ _), ⟨(scl_cl_u8 _ _), trivial, trivial⟩, trivial⟩ (by refine scL_fr ?_; exact ⟨(sc_ptr rfl), trivial, (sc_sl rfl), trivial, trivial, trivial, trivial⟩)))⟩)
        · refine AWP_reg (Rh 3 66 [(0, .ptr 0 0), (1, iA x1), (5, .sl 1 0 v86.length (.whole 3)), (6, iA v87), (7, iA v88), (8, iA v89), (9, iA (w64 ((w64 (v87 + 1)) + v94.1))), (10, iA (w64 (1 + v95.1))), (33, bA ((w64 (1 + v95.1)) == v88))] (AOps_done (CD H (fun hb101 H => ?_) (fun hb101 H => ?_))))
          · refine AWP_region ?_
            refine Rh 2 66 [(0, .ptr 0 0), (1, iA x1), (5, .sl 1 0 v86.length (.whole 3)), (6, iA v87), (7, iA v88), (8, iA v89), (9, iA (w64 ((w64 (v87 + 1)) + v94.1))), (34, iA (w64 (1 + v95.1))), (35, iA x1)] ?_
            obtain ⟨v102, hv102, H⟩ := bind_some H
            refine AOps_rem (kk := .i64) (d := (some 36)) (by kernel_rfl) hv102 ?_
            refine Rh 2 66 [(0, .ptr 0 0), (1, iA x1), (5, .sl 1 0 v86.length (.whole 3)), (6, iA v87), (7, iA v88), (8, iA v89), (9, iA (w64 ((w64 (v87 + 1)) + v94.1))), (10, iA (w64 (1 + v102)))] (AOps_done ?_)
            exact Exists.intro (w64 (1 + v102)) ⟨⟨n, by omega, H⟩, Norm_fd [0, 1, 5, 6, 7, 8, 9, 10] 0 (by kernel_rfl) rfl rfl ⟨(scl_TRange_cl _ _), ⟨(scl_cl_u8 _ _), trivial, trivial⟩, trivial⟩ (by refine scL_fr ?_; exact ⟨(sc_ptr rfl), trivial, (sc_sl rfl), trivial, trivial, trivial, trivial, trivial, trivial⟩)⟩
          · refine AWP_skip ?_
            exact Exists.intro (w64 (1 + v95.1)) ⟨⟨n, by omega, H⟩, Norm_fd [0, 1, 5, 6, 7, 8, 9, 10] 0 (by kernel_rfl) rfl rfl ⟨(scl_TRange_cl _ _), ⟨(scl_cl_u8 _ _), trivial, trivial⟩, trivial⟩ (by refine scL_fr ?_; exact ⟨(sc_ptr rfl), trivial, (sc_sl rfl), trivial, trivial, trivial, trivial, trivial, trivial⟩)⟩
      · refine AWP_exit ?_
        exact Exists.intro (v86, v87, v88, v92.2.glist, v92.2.gat) ⟨⟨n, by omega, H⟩, Norm_fd [0, 1, 5, 6, 7] 0 (by kernel_rfl) rfl rfl ⟨(scl_TRange_cl _ _), ⟨(scl_cl_u8 _ _), trivial, trivial⟩, trivial⟩ (by refine scL_fr ?_; exact ⟨(sc_ptr rfl), trivial, (sc_sl rfl), trivial, trivial, trivial⟩)⟩
end Go.Proofs.YtjhbobacbaikoaaGreatDoor
/- A function of the program as a pure function, and that the program computes it. -/
namespace Go.Proofs.YtjhbobacbaikoaaGreatDoor
open Go
set_option linter.unusedVariables false
set_option linter.unusedSimpArgs false
set_option maxRecDepth 100000
def p_draw_Codes_ranges_K1 (n : Nat) (v41 : List TRange) (v42 : List Int) (v43 : Int) : Option ((List TRange) × TCodes) :=
 some (v41, ({ glist := v42, gat := v43 } : TCodes))
def p_draw_Codes_ranges_L1 (n : Nat) (v72 : List TRange) (v73 : Int) (v74 : List Int) (v75 : Int) : Option ((List TRange) × TCodes) := match n with
| 0 => none
| n + 1 =>
(p_draw_Codes_Next n ({ glist := v74, gat := v75 } : TCodes) 2).bind fun v76 =>
(bif decide (v73 < (w64 (16 + v76.1))) then
(remO v73 2).bind fun v78 =>
(appO 24 v72 ([({ gFrom := v73, gTo := w64 (v73 + 1), gVariation := w64 (1 + v78) } : TRange)])).bind fun v79 =>
 p_draw_Codes_ranges_L1 n  v79 (w64 (v73 + 1)) v76.2.glist v76.2.gat
 else
(rdO v72 (w64 ((lI v72) - 1))).bind fun v80 =>
 p_draw_Codes_ranges_K1 n  (v72.set (w64 ((lI v72) - 1)).toNat ({ gFrom := v80.gFrom, gTo := 10000, gVariation := v80.gVariation } : TRange)) v76.2.glist v76.2.gat)
def p_draw_Codes_ranges (n : Nat) (x0 : TCodes) (x1 : List TRange) : Option ((List TRange) × TCodes) :=
(appO 24 ([] : List TRange) x1).bind fun v1 =>
(bif (lI v1) == 0 then
 some (v1, x0)
 else
(p_draw_Codes_Next n x0 (lI v1)).bind fun v3 =>
(p_draw_Codes_Next n v3.2 6).bind fun v44 =>
(bif v44.1 == 0 then
(p_draw_Codes_Number n v44.2).bind fun v46 =>
(rdO v1 v3.1).bind fun v47 =>
 p_draw_Codes_ranges_K1 n  (v1.set (v3.1).toNat ({ gFrom := v46.1, gTo := v47.gTo, gVariation := v47.gVariation } : TRange)) v46.2.glist v46.2.gat
 else
(bif v44.1 == 1 then
(p_draw_Codes_Number n v44.2).bind fun v49 =>
(rdO v1 v3.1).bind fun v50 =>
 p_draw_Codes_ranges_K1 n  (v1.set (v3.1).toNat ({ gFrom := v50.gFrom, gTo := v49.1, gVariation := v50.gVariation } : TRange)) v49.2.glist v49.2.gat
 else
(bif v44.1 == 2 then
(p_draw_Codes_Number n v44.2).bind fun v52 =>
(rdO v1 v3.1).bind fun v53 =>
 p_draw_Codes_ranges_K1 n  (v1.set (v3.1).toNat ({ gFrom := v53.gFrom, gTo := v53.gTo, gVariation := v52.1 } : TRange)) v52.2.glist v52.2.gat
 else
(bif v44.1 == 3 then
(cutL v1 0 v3.1).bind fun v55 =>
 p_draw_Codes_ranges_K1 n  v55 v44.2.glist v44.2.gat
 else
(bif v44.1 == 4 then
(rdO v1 v3.1).bind fun v57 =>
(appO 24 v1 ([v57])).bind fun v58 =>
 p_draw_Codes_ranges_K1 n  v58 v44.2.glist v44.2.gat
 else
(bif v44.1 == 5 then
 p_draw_Codes_ranges_L1 n  ([]) 0 v44.2.glist v44.2.gat
 else
 p_draw_Codes_ranges_K1 n  v1 v44.2.glist v44.2.gat)))))))
variable {E : Env}
theorem s_draw_Codes_ranges {n : Nat} {x0 : TCodes} {x1 : List TRange} {r : (List TRange) × TCodes} (H : p_draw_Codes_ranges n x0 x1 = some r) :
    Sp Tryz.prog E 55 [.ptr 0 0, .ro .unk x1.length (TRange.cl x1)] [.cells 101 (TCodes.cs x0)] (isA (.ro .unk r.1.length (TRange.cl r.1)) [.cells 101 (TCodes.cs r.2)]) := by
  unfold p_draw_Codes_ranges at H
  refine Sp_fn Tryz.func55 rfl (fun hc hs => ?_)
  refine AWP_reg (Rh 1 83 [(0, .ptr 0 0), (1, .ro .unk x1.length (TRange.cl x1))] (AOps_done (AWP_reg (Rh 1 83 [(0, .ptr 0 0), (7, .ro .unk x1.length (TRange.cl x1))] ?_))))
  obtain ⟨v1, hv1, H⟩ := bind_some H
  refine AOps_append_nilO (d := (some 8)) (c := TRange.cs) (sz := 3) (bs := 24) (e := 52) (ys := x1) (by kernel_rfl) rfl (eq_TRange_cl _) (fun _ => rfl) (by kernel_rfl) (by kernel_rfl) hv1 (eq_TRange_cl _) ?_
  refine Rh 1 83 [(0, .ptr 0 0), (1, .sl 1 0 v1.length (.whole 3))] (AOps_done (AWP_seq (AWP_reg (Rh 3 83 [(0, .ptr 0 0), (1, .sl 1 0 v1.length (.whole 3)), (11, bA ((lI v1) == 0))] (AOps_done (CD H (fun hb2 H => ?_) (fun hb2 H => ?_)))))))
  · refine AWP_reg (Rh 2 83 [(4, .sl 1 0 v1.length (.whole 3))] (AOps_done (AWP_ret ?_)))
    have hr := Option.some.inj H
    subst hr
    exact Fin_retn 1 (l := [.sl 1 0 v1.length (.whole 3)]) (h' := [.cells 101 (TCodes.cs x0)]) (by kernel_rfl) rfl (Nat.le_of_ble_eq_true rfl) ((by refine Closed_of ?_; exact ⟨⟨(scl_cl_u8 _ _), trivial, trivial⟩, trivial⟩)) (Frz_own (t := 52) (m2 := v1.length) (cs := TRange.cl v1) rfl rfl (Nat.le_of_ble_eq_true rfl) (scl_TRange_cl _ _)) ⟨rfl, rfl⟩
  · refine AWP_skip ?_
    show AWP _ _ _ _ _ _ _
    refine AWP_reg (Rh 3 83 [(0, .ptr 0 0), (1, .sl 1 0 v1.length (.whole 3)), (13, .ptr 0 0), (15, iA (lI v1))] ?_)
    obtain ⟨v3, hv3, H⟩ := bind_some H
    refine AOps_call1 (d := (some 16)) (al := [.ptr 0 0, iA (lI v1)]) ([.ptr 0 0, iA (lI v1)]) (r := iA v3.1) (j := 0) (b' := .cells 101 (TCodes.cs v3.2)) (by kernel_rfl) rfl (s_draw_Codes_Next hv3) (⟨(scl_cl_u8 _ _), trivial, trivial⟩) (⟨(scl_cl_u8 _ _), trivial, trivial⟩) ⟨Nat.zero_lt_one, trivial, trivial⟩ trivial rfl (h' := [.cells 52 (TRange.cl v1), .cells 101 (TCodes.cs v3.2)]) rfl ?_
    refine Rh 1 83 [(0, .ptr 0 0), (1, .sl 1 0 v1.length (.whole 3)), (5, iA v3.1)] (AOps_done (AWP_joinN (α := (List TRange) × (List Int) × Int) (fun ⟨v41, v42, v43⟩ => fr 83 [(1, .ro .unk v41.length (TRange.cl v41))]) (fun ⟨v41, v42, v43⟩ => [.cells 101 [.ro .unk v42.length (cl_u8 v42), iA v43]]) (fun ⟨v41, v42, v43⟩ => ∃ q, q ≤ q ∧ p_draw_Codes_ranges_K1 q  v41 v42 v43 = some r) (fun a hC => ?_) ?_))
    · obtain ⟨v41, v42, v43⟩ := a
      show AWP _ _ _ _ _ (fr 83 [(1, .ro .unk v41.length (TRange.cl v41))]) [.cells 101 [.ro .unk v42.length (cl_u8 v42), iA v43]]
      obtain ⟨n, hn_, hC⟩ := hC
      replace H : p_draw_Codes_ranges_K1 n  v41 v42 v43 = some r := hC
      unfold p_draw_Codes_ranges_K1 at H
      refine AWP_reg (Rh 2 83 [(4, .ro .unk v41.length (TRange.cl v41))] (AOps_done (AWP_ret ?_)))
      have hr := Option.some.inj H
      subst hr
      exact Fin_retn 0 (l := [.ro .unk v41.length (TRange.cl v41)]) (h' := [.cells 101 [.ro .unk v42.length (cl_u8 v42), iA v43]]) (by kernel_rfl) rfl (Nat.le_of_ble_eq_true rfl) ((by refine Closed_of ?_; exact ⟨⟨(scl_cl_u8 _ _), trivial, trivial⟩, trivial⟩)) (Frz_sc (scl_TRange_cl _ _)) ⟨rfl, rfl⟩
    · refine AWP_reg (Rh 1 83 [(0, .ptr 0 0), (1, .sl 1 0 v1.length (.whole 3)), (5, iA v3.1), (17, .ptr 0 0)] ?_)
      obtain ⟨v44, hv44, H⟩ := bind_some H
      refine AOps_call1 (d := (some 18)) (al := [.ptr 0 0, iA 6]) ([.ptr 0 0, iA 6]) (r := iA v44.1) (j := 0) (b' := .cells 101 (TCodes.cs v44.2)) (by kernel_rfl) rfl (s_draw_Codes_Next hv44) (⟨(scl_cl_u8 _ _), trivial, trivial⟩) (⟨(scl_cl_u8 _ _), trivial, trivial⟩) ⟨Nat.zero_lt_one, trivial, trivial⟩ trivial rfl (h' := [.cells 52 (TRange.cl v1), .cells 101 (TCodes.cs v44.2)]) rfl ?_
      refine AOps_done (AWP_block ?_)
      refine AWP_reg (Rh 2 83 [(0, .ptr 0 0), (1, .sl 1 0 v1.length (.whole 3)), (5, iA v3.1), (18, iA v44.1), (19, bA (v44.1 == 0))] (AOps_done (CD H (fun hb45 H => ?_) (fun hb45 H => ?_))))
      · refine AWP_region ?_
        refine Rh 3 83 [(1, .sl 1 0 v1.length (.whole 3)), (21, .sl 1 0 v1.length (.whole 3)), (22, iA v3.1), (23, .ptr 0 0)] ?_
        obtain ⟨v46, hv46, H⟩ := bind_some H
        refine AOps_call1 (d := (some 24)) (al := [.ptr 0 0]) ([.ptr 0 0]) (r := iA v46.1) (j := 0) (b' := .cells 101 (TCodes.cs v46.2)) (by kernel_rfl) rfl (s_draw_Codes_Number hv46) (⟨(scl_cl_u8 _ _), trivial, trivial⟩) (⟨(scl_cl_u8 _ _), trivial, trivial⟩) ⟨Nat.zero_lt_one, trivial⟩ trivial rfl (h' := [.cells 52 (TRange.cl v1), .cells 101 (TCodes.cs v46.2)]) rfl ?_
        obtain ⟨v47, hv47, H⟩ := bind_some H
        refine AOps_oidx (d := (some 25)) (id := 1) (off := 0) (j := v3.1) (m := v1.length) (sz := 3) (by kernel_rfl) (rdO_place hv47) ?_
        refine Rh 1 83 [(1, .sl 1 0 v1.length (.whole 3)), (24, iA v46.1), (26, .ptr 1 (0 + (v3.1).toNat * 3))] (AOps_stx (d := none) (id := 1) (ty := 52) (vs := [iA v46.1]) (cs' := TRange.cl (v1.set (v3.1).toNat ({ gFrom := v46.1, gTo := v47.gTo, gVariation := v47.gVariation } : TRange))) (by kernel_rfl) (stx_of (c := TRange.cs) (cl := TRange.cl) (y := ({ gFrom := v46.1, gTo := v47.gTo, gVariation := v47.gVariation } : TRange)) (sz := 3) eq_TRange_cl (fun _ => rfl) hv47 0 (by kernel_rfl)) (h' := [.cells 52 (TRange.cl (v1.set (v3.1).toNat ({ gFrom := v46.1, gTo := v47.gTo, gVariation := v47.gVariation } : TRange))), .cells 101 (TCodes.cs v46.2)]) rfl ?_)
        refine Rh 0 83 [(1, .sl 1 0 v1.length (.whole 3)), (24, iA v46.1), (26, .ptr 1 (0 + (v3.1).toNat * 3))] (AOps_same (st' := fr 83 [(1, .sl 1 0 (v1.set (v3.1).toNat ({ gFrom := v46.1, gTo := v47.gTo, gVariation := v47.gVariation } : TRange)).length (.whole 3)), (24, iA v46.1), (26, .ptr 1 (0 + (v3.1).toNat * 3))]) (h' := [.cells 52 (TRange.cl (v1.set (v3.1).toNat ({ gFrom := v46.1, gTo := v47.gTo, gVariation := v47.gVariation } : TRange))), .cells 101 (TCodes.cs v46.2)]) (by simp only [List.length_set]) (by simp only [List.length_set]) ?_)
        refine AOps_done ?_
        exact Exists.intro ((v1.set (v3.1).toNat ({ gFrom := v46.1, gTo := v47.gTo, gVariation := v47.gVariation } : TRange)), v46.2.glist, v46.2.gat) ⟨⟨n, by omega, H⟩, Norm_trans (Norm_fd (st' := fr 83 [(1, .sl 1 0 (v1.set (v3.1).toNat ({ gFrom := v46.1, gTo := v47.gTo, gVariation := v47.gVariation } : TRange)).length (.whole 3))]) (h' := [.cells 52 (TRange.cl (v1.set (v3.1).toNat ({ gFrom := v46.1, gTo := v47.gTo, gVariation := v47.gVariation } : TRange))), .cells 101 (TCodes.cs v46.2)]) [1] 0 (by kernel_rfl) rfl rfl ⟨(scl_TRange_cl _ _), ⟨(scl_cl_u8 _ _), trivial, trivial⟩, trivial⟩ (by refine scL_fr ?_; exact ⟨(sc_sl rfl), trivial⟩)) (Norm_trans (Norm_o2r 1 rfl (h' := [.row 52 (TRange.cl (v1.set (v3.1).toNat ({ gFrom := v46.1, gTo := v47.gTo, gVariation := v47.gVariation } : TRange))), .cells 101 (TCodes.cs v46.2)]) rfl) (Norm_trans (Norm_weak1 (st' := fr 83 [(1, .ro .unk (v1.set (v3.1).toNat ({ gFrom := v46.1, gTo := v47.gTo, gVariation := v47.gVariation } : TRange)).length (TRange.cl (v1.set (v3.1).toNat ({ gFrom := v46.1, gTo := v47.gTo, gVariation := v47.gVariation } : TRange))))]) 1 (.sl 1 0 (v1.set (v3.1).toNat ({ gFrom := v46.1, gTo := v47.gTo, gVariation := v47.gVariation } : TRange)).length (.whole 3)) (.ro .unk (v1.set (v3.1).toNat ({ gFrom := v46.1, gTo := v47.gTo, gVariation := v47.gVariation } : TRange)).length (TRange.cl (v1.set (v3.1).toNat ({ gFrom := v46.1, gTo := v47.gTo, gVariation := v47.gVariation } : TRange)))) (by kernel_rfl) (Frz_row (t := 52) (cs := TRange.cl (v1.set (v3.1).toNat ({ gFrom := v46.1, gTo := v47.gTo, gVariation := v47.gVariation } : TRange))) rfl (scl_TRange_cl _ _)) (by kernel_rfl)) (Norm_fd [1] 1 (by kernel_rfl) rfl rfl ⟨⟨(scl_cl_u8 _ _), trivial, trivial⟩, trivial⟩ (by refine scL_fr ?_; exact ⟨(scl_TRange_cl _ _), trivial⟩))))⟩
      · refine AWP_reg (Rh 2 83 [(0, .ptr 0 0), (1, .sl 1 0 v1.length (.whole 3)), (5, iA v3.1), (18, iA v44.1), (27, bA (v44.1 == 1))] (AOps_done (CD H (fun hb48 H => ?_) (fun hb48 H => ?_))))
        · refine AWP_region ?_
          refine Rh 3 83 [(1, .sl 1 0 v1.length (.whole 3)), (29, .sl 1 0 v1.length (.whole 3)), (30, iA v3.1), (31, .ptr 0 0)] ?_
          obtain ⟨v49, hv49, H⟩ := bind_some H
          refine AOps_call1 (d := (some 32)) (al := [.ptr 0 0]) ([.ptr 0 0]) (r := iA v49.1) (j := 0) (b' := .cells 101 (TCodes.cs v49.2)) (by kernel_rfl) rfl (s_draw_Codes_Number hv49) (⟨(scl_cl_u8 _ _), trivial, trivial⟩) (⟨(scl_cl_u8 _ _), trivial, trivial⟩) ⟨Nat.zero_lt_one, trivial⟩ trivial rfl (h' := [.cells 52 (TRange.cl v1), .cells 101 (TCodes.cs v49.2)]) rfl ?_
          obtain ⟨v50, hv50, H⟩ := bind_some H
          refine AOps_oidx (d := (some 33)) (id := 1) (off := 0) (j := v3.1) (m := v1.length) (sz := 3) (by kernel_rfl) (rdO_place hv50) ?_
          refine Rh 1 83 [(1, .sl 1 0 v1.length (.whole 3)), (32, iA v49.1), (34, .ptr 1 (0 + (v3.1).toNat * 3 + 1))] (AOps_stx (d := none) (id := 1) (ty := 52) (vs := [iA v49.1]) (cs' := TRange.cl (v1.set (v3.1).toNat ({ gFrom := v50.gFrom, gTo := v49.1, gVariation := v50.gVariation } : TRange))) (by kernel_rfl) (stx_of (c := TRange.cs) (cl := TRange.cl) (y := ({ gFrom := v50.gFrom, gTo := v49.1, gVariation := v50.gVariation } : TRange)) (sz := 3) eq_TRange_cl (fun _ => rfl) hv50 1 (by kernel_rfl)) (h' := [.cells 52 (TRange.cl (v1.set (v3.1).toNat ({ gFrom := v50.gFrom, gTo := v49.1, gVariation := v50.gVariation } : TRange))), .cells 101 (TCodes.cs v49.2)]) rfl ?_)
          refine Rh 0 83 [(1, .sl 1 0 v1.length (.whole 3)), (32, iA v49.1), (34, .ptr 1 (0 + (v3.1).toNat * 3 + 1))] (AOps_same (st' := fr 83 [(1, .sl 1 0 (v1.set (v3.1).toNat ({ gFrom := v50.gFrom, gTo := v49.1, gVariation := v50.gVariation } : TRange)).length (.whole 3)), (32, iA v49.1), (34, .ptr 1 (0 + (v3.1).toNat * 3 + 1))]) (h' := [.cells 52 (TRange.cl (v1.set (v3.1).toNat ({ gFrom := v50.gFrom, gTo := v49.1, gVariation := v50.gVariation } : TRange))), .cells 101 (TCodes.cs v49.2)]) (by simp only [List.length_set]) (by simp only [List.length_set]) ?_)
          refine AOps_done ?_
          exact Exists.intro ((v1.set (v3.1).toNat ({ gFrom := v50.gFrom, gTo := v49.1, gVariation := v50.gVariation } : TRange)), v49.2.glist, v49.2.gat) ⟨⟨n, by omega, H⟩, Norm_trans (Norm_fd (st' := fr 83 [(1, .sl 1 0 (v1.set (v3.1).toNat ({ gFrom := v50.gFrom, gTo := v49.1, gVariation := v50.gVariation } : TRange)).length (.whole 3))]) (h' := [.cells 52 (TRange.cl (v1.set (v3.1).toNat ({ gFrom := v50.gFrom, gTo := v49.1, gVariation := v50.gVariation } : TRange))), .cells 101 (TCodes.cs v49.2)]) [1] 0 (by kernel_rfl) rfl rfl ⟨(scl_TRange_cl _ _), ⟨(scl_cl_u8 _ _), trivial, trivial⟩, trivial⟩ (by refine scL_fr ?_; exact ⟨(sc_sl rfl), trivial⟩)) (Norm_trans (Norm_o2r 1 rfl (h' := [.row 52 (TRange.cl (v1.set (v3.1).toNat ({ gFrom := v50.gFrom, gTo := v49.1, gVariation := v50.gVariation } : TRange))), .cells 101 (TCodes.cs v49.2)]) rfl) (Norm_trans (Norm_weak1 (st' := fr 83 [(1, .ro .unk (v1.set (v3.1).toNat ({ gFrom := v50.gFrom, gTo := v49.1, gVariation := v50.gVariation } : TRange)).length (TRange.cl (v1.set (v3.1).toNat ({ gFrom := v50.gFrom, gTo := v49.1, gVariation := v50.gVariation } : TRange))))]) 1 (.sl 1 0 (v1.set (v3.1).toNat ({ gFrom := v50.gFrom, gTo := v49.1, gVariation := v50.gVariation } : TRange)).length (.whole 3)) (.ro .unk (v1.set (v3.1).toNat ({ gFrom := v50.gFrom, gTo := v49.1, gVariation := v50.gVariation } : TRange)).length (TRange.cl (v1.set (v3.1).toNat ({ gFrom := v50.gFrom, gTo := v49.1, gVariation := v50.gVariation } : TRange)))) (by kernel_rfl) (Frz_row (t := 52) (cs := TRange.cl (v1.set (v3.1).toNat ({ gFrom := v50.gFrom, gTo := v49.1, gVariation := v50.gVariation } : TRange))) rfl (scl_TRange_cl _ _)) (by kernel_rfl)) (Norm_fd [1] 1 (by kernel_rfl) rfl rfl ⟨⟨(scl_cl_u8 _ _), trivial, trivial⟩, trivial⟩ (by refine scL_fr ?_; exact ⟨(scl_TRange_cl _ _), trivial⟩))))⟩
        · refine AWP_reg (Rh 2 83 [(0, .ptr 0 0), (1, .sl 1 0 v1.length (.whole 3)), (5, iA v3.1), (18, iA v44.1), (35, bA (v44.1 == 2))] (AOps_done (CD H (fun hb51 H => ?_) (fun hb51 H => ?_))))
          · refine AWP_region ?_
            refine Rh 3 83 [(1, .sl 1 0 v1.length (.whole 3)), (37, .sl 1 0 v1.length (.whole 3)), (38, iA v3.1), (39, .ptr 0 0)] ?_
            obtain ⟨v52, hv52, H⟩ := bind_some H
            refine AOps_call1 (d := (some 40)) (al := [.ptr 0 0]) ([.ptr 0 0]) (r := iA v52.1) (j := 0) (b' := .cells 101 (TCodes.cs v52.2)) (by kernel_rfl) rfl (s_draw_Codes_Number hv52) (⟨(scl_cl_u8 _ _), trivial, trivial⟩) (⟨(scl_cl_u8 _ _), trivial, trivial⟩) ⟨Nat.zero_lt_one, trivial⟩ trivial rfl (h' := [.cells 52 (TRange.cl v1), .cells 101 (TCodes.cs v52.2)]) rfl ?_
            obtain ⟨v53, hv53, H⟩ := bind_some H
            refine AOps_oidx (d := (some 41)) (id := 1) (off := 0) (j := v3.1) (m := v1.length) (sz := 3) (by kernel_rfl) (rdO_place hv53) ?_
            refine Rh 1 83 [(1, .sl 1 0 v1.length (.whole 3)), (40, iA v52.1), (42, .ptr 1 (0 + (v3.1).toNat * 3 + 2))] (AOps_stx (d := none) (id := 1) (ty := 52) (vs := [iA v52.1]) (cs' := TRange.cl (v1.set (v3.1).toNat ({ gFrom := v53.gFrom, gTo := v53.gTo, gVariation := v52.1 } : TRange))) (by kernel_rfl) (stx_of (c := TRange.cs) (cl := TRange.cl) (y := ({ gFrom := v53.gFrom, gTo := v53.gTo, gVariation := v52.1 } : TRange)) (sz := 3) eq_TRange_cl (fun _ => rfl) hv53 2 (by kernel_rfl)) (h' := [.cells 52 (TRange.cl (v1.set (v3.1).toNat ({ gFrom := v53.gFrom, gTo := v53.gTo, gVariation := v52.1 } : TRange))), .cells 101 (TCodes.cs v52.2)]) rfl ?_)
            refine Rh 0 83 [(1, .sl 1 0 v1.length (.whole 3)), (40, iA v52.1), (42, .ptr 1 (0 + (v3.1).toNat * 3 + 2))] (AOps_same (st' := fr 83 [(1, .sl 1 0 (v1.set (v3.1).toNat ({ gFrom := v53.gFrom, gTo := v53.gTo, gVariation := v52.1 } : TRange)).length (.whole 3)), (40, iA v52.1), (42, .ptr 1 (0 + (v3.1).toNat * 3 + 2))]) (h' := [.cells 52 (TRange.cl (v1.set (v3.1).toNat ({ gFrom := v53.gFrom, gTo := v53.gTo, gVariation := v52.1 } : TRange))), .cells 101 (TCodes.cs v52.2)]) (by simp only [List.length_set]) (by simp only [List.length_set]) ?_)
            refine AOps_done ?_
            exact Exists.intro ((v1.set (v3.1).toNat ({ gFrom := v53.gFrom, gTo := v53.gTo, gVariation := v52.1 } : TRange)), v52.2.glist, v52.2.gat) ⟨⟨n, by omega, H⟩, Norm_trans (Norm_fd (st' := fr 83 [(1, .sl 1 0 (v1.set (v3.1).toNat ({ gFrom := v53.gFrom, gTo := v53.gTo, gVariation := v52.1 } : TRange)).length (.whole 3))]) (h' := [.cells 52 (TRange.cl (v1.set (v3.1).toNat ({ gFrom := v53.gFrom, gTo := v53.gTo, gVariation := v52.1 } : TRange))), .cells 101 (TCodes.cs v52.2)]) [1] 0 (by kernel_rfl) rfl rfl ⟨(scl_TRange_cl _ _), ⟨(scl_cl_u8 _ _), trivial, trivial⟩, trivial⟩ (by refine scL_fr ?_; exact ⟨(sc_sl rfl), trivial⟩)) (Norm_trans (Norm_o2r 1 rfl (h' := [.row 52 (TRange.cl (v1.set (v3.1).toNat ({ gFrom := v53.gFrom, gTo := v53.gTo, gVariation := v52.1 } : TRange))), .cells 101 (TCodes.cs v52.2)]) rfl) (Norm_trans (Norm_weak1 (st' := fr 83 [(1, .ro .unk (v1.set (v3.1).toNat ({ gFrom := v53.gFrom, gTo := v53.gTo, gVariation := v52.1 } : TRange)).length (TRange.cl (v1.set (v3.1).toNat ({ gFrom := v53.gFrom, gTo := v53.gTo, gVariation := v52.1 } : TRange))))]) 1 (.sl 1 0 (v1.set (v3.1).toNat ({ gFrom := v53.gFrom, gTo := v53.gTo, gVariation := v52.1 } : TRange)).length (.whole 3)) (.ro .unk (v1.set (v3.1).toNat ({ gFrom := v53.gFrom, gTo := v53.gTo, gVariation := v52.1 } : TRange)).length (TRange.cl (v1.set (v3.1).toNat ({ gFrom := v53.gFrom, gTo := v53.gTo, gVariation := v52.1 } : TRange)))) (by kernel_rfl) (Frz_row (t := 52) (cs := TRange.cl (v1.set (v3.1).toNat ({ gFrom := v53.gFrom, gTo := v53.gTo, gVariation := v52.1 } : TRange))) rfl (scl_TRange_cl _ _)) (by kernel_rfl)) (Norm_fd [1] 1 (by kernel_rfl) rfl rfl ⟨⟨(scl_cl_u8 _ _), trivial, trivial⟩, trivial⟩ (by refine scL_fr ?_; exact ⟨(scl_TRange_cl _ _), trivial⟩))))⟩
          · refine AWP_reg (Rh 2 83 [(0, .ptr 0 0), (1, .sl 1 0 v1.length (.whole 3)), (5, iA v3.1), (18, iA v44.1), (43, bA (v44.1 == 3))] (AOps_done (CD H (fun hb54 H => ?_) (fun hb54 H => ?_))))
            · refine AWP_region ?_
              refine Rh 2 83 [(45, .sl 1 0 v1.length (.whole 3)), (46, iA v3.1)] (AOps_o2r 1 rfl (h' := [.row 52 (TRange.cl v1), .cells 101 (TCodes.cs v44.2)]) rfl ?_)
              refine AOps_weak1 (st' := fr 83 [(45, .ro .unk v1.length (TRange.cl v1)), (46, iA v3.1)]) 45 (.sl 1 0 v1.length (.whole 3)) (.ro .unk v1.length (TRange.cl v1)) (by kernel_rfl) (Frz_row (t := 52) (cs := TRange.cl v1) rfl (scl_TRange_cl _ _)) (by kernel_rfl) ?_
              obtain ⟨v55, hv55, H⟩ := bind_some H
              refine AOps_lcut (d := (some 47)) (sz := 3) (c := TRange.cs) (by kernel_rfl) rfl (eq_TRange_cl _) (eq_TRange_cl _) (fun _ => rfl) (by decide) hv55 ?_
              refine Rh 1 83 [(1, .ro .unk v55.length (TRange.cl v55))] (AOps_done ?_)
              exact Exists.intro (v55, v44.2.glist, v44.2.gat) ⟨⟨n, by omega, H⟩, Norm_fd [1] 1 (by kernel_rfl) rfl rfl ⟨⟨(scl_cl_u8 _ _), trivial, trivial⟩, trivial⟩ (by refine scL_fr ?_; exact ⟨(scl_TRange_cl _ _), trivial⟩)⟩
            · refine AWP_reg (Rh 2 83 [(0, .ptr 0 0), (1, .sl 1 0 v1.length (.whole 3)), (5, iA v3.1), (18, iA v44.1), (48, bA (v44.1 == 4))] (AOps_done (CD H (fun hb56 H => ?_) (fun hb56 H => ?_))))
              · refine AWP_region ?_
                refine Rh 3 83 [(50, .sl 1 0 v1.length (.whole 3)), (51, .sl 1 0 v1.length (.whole 3)), (52, iA v3.1)] ?_
                obtain ⟨v57, hv57, H⟩ := bind_some H
                refine AOps_oidx (d := (some 53)) (id := 1) (off := 0) (j := v3.1) (m := v1.length) (sz := 3) (by kernel_rfl) (rdO_place hv57) ?_
                refine AOps_ldx (d := (some 54)) (id := 1) (t := 52) (v := .agg (TRange.cs v57)) (by kernel_rfl) (ldx_of (c := TRange.cs) (sz := 3) (eq_TRange_cl) (fun _ => rfl) hv57 0 (by decide) (fun _ => by kernel_rfl)) ?_
                refine AOps_bsl (d := (some 55)) (m := 1) (cs := [iA v57.gFrom, iA v57.gTo, iA v57.gVariation]) (by kernel_rfl) ⟨trivial, trivial, trivial, trivial⟩ ?_
                obtain ⟨v58, hv58, H⟩ := bind_some H
                refine AOps_appendO (d := (some 56)) (c := TRange.cs) (sz := 3) (bs := 24) (e := 52) (id := 1) (xs := v1) (ys := [v57]) (by kernel_rfl) rfl (eq_TRange_cl _) rfl (eq_TRange_cl _) (fun _ => rfl) (by kernel_rfl) (by kernel_rfl) hv58 (eq_TRange_cl _) (h' := [.cells 52 (TRange.cl v58), .dead, .cells 101 (TCodes.cs v44.2)]) rfl ?_
                refine Rh 1 83 [(1, .sl 2 0 v58.length (.whole 3))] (AOps_done ?_)
                exact Exists.intro (v58, v44.2.glist, v44.2.gat) ⟨⟨n, by omega, H⟩, Norm_trans (Norm_fd (st' := fr 83 [(1, .sl 2 0 v58.length (.whole 3))]) (h' := [.cells 52 (TRange.cl v58), .dead, .cells 101 (TCodes.cs v44.2)]) [1] 0 (by kernel_rfl) rfl rfl ⟨(scl_TRange_cl _ _), trivial, ⟨(scl_cl_u8 _ _), trivial, trivial⟩, trivial⟩ (by refine scL_fr ?_; exact ⟨(sc_sl rfl), trivial⟩)) (Norm_trans (Norm_o2r 2 rfl (h' := [.row 52 (TRange.cl v58), .dead, .cells 101 (TCodes.cs v44.2)]) rfl) (Norm_trans (Norm_weak1 (st' := fr 83 [(1, .ro .unk v58.length (TRange.cl v58))]) 1 (.sl 2 0 v58.length (.whole 3)) (.ro .unk v58.length (TRange.cl v58)) (by kernel_rfl) (Frz_row (t := 52) (cs := TRange.cl v58) rfl (scl_TRange_cl _ _)) (by kernel_rfl)) (Norm_fd [1] 2 (by kernel_rfl) rfl rfl ⟨⟨(scl_cl_u8 _ _), trivial, trivial⟩, trivial⟩ (by refine scL_fr ?_; exact ⟨(scl_TRange_cl _ _), trivial⟩))))⟩
              · refine AWP_reg (Rh 2 83 [(0, .ptr 0 0), (1, .sl 1 0 v1.length (.whole 3)), (57, bA (v44.1 == 5))] (AOps_done (CD H (fun hb59 H => ?_) (fun hb59 H => ?_))))
                · refine AWP_reg (Rh 1 83 [(0, .ptr 0 0), (1, .ro .full 0 [])] (AOps_done (AWP_seq (AWP_reg (Rh 1 83 [(0, .ptr 0 0), (1, .ro .full 0 []), (6, iA 0)] (AOps_done (AWP_block ?_)))))))
                  refine AWP_loopN (α := (List TRange) × Int × (List Int) × Int) (fun ⟨v72, v73, v74, v75⟩ => fr 83 [(0, .ptr 0 0), (1, .sl 2 0 v72.length (.whole 3)), (6, iA v73)]) (fun ⟨v72, v73, v74, v75⟩ => [.cells 52 (TRange.cl v72), .dead, .cells 101 [.ro .unk v74.length (cl_u8 v74), iA v75]]) (fun k_ ⟨v72, v73, v74, v75⟩ => k_ ≤ n ∧ p_draw_Codes_ranges_L1 k_  v72 v73 v74 v75 = some r) (fun n a H => ?_) (k := n) ([], 0, v44.2.glist, v44.2.gat) ⟨Nat.le_refl _, H⟩ (Norm_trans (Norm_fd (st' := fr 83 [(0, .ptr 0 0), (1, .ro .full 0 []), (6, iA 0)]) (h' := [.cells 52 (TRange.cl v1), .cells 101 (TCodes.cs v44.2)]) [0, 1, 6] 0 (by kernel_rfl) rfl rfl ⟨(scl_TRange_cl _ _), ⟨(scl_cl_u8 _ _), trivial, trivial⟩, trivial⟩ (by refine scL_fr ?_; exact ⟨(sc_ptr rfl), trivial, trivial, trivial⟩)) (Norm_trans (Norm_kill 1 (h' := [.dead, .cells 101 (TCodes.cs v44.2)]) rfl rfl) (Norm_trans (Norm_nil' (st' := fr 83 [(0, .ptr 0 0), (1, .sl 2 0 ([] : List TRange).length (.whole 3)), (6, iA 0)]) 1 52 3 (by kernel_rfl) (h' := [.row 52 (TRange.cl ([])), .dead, .cells 101 (TCodes.cs v44.2)]) rfl (by kernel_rfl)) (Norm_trans (Norm_r2o 2 rfl (h' := [.cells 52 (TRange.cl ([])), .dead, .cells 101 (TCodes.cs v44.2)]) rfl) (Norm_fd [0, 1, 6] 0 (by kernel_rfl) rfl rfl ⟨(scl_TRange_cl _ _), trivial, ⟨(scl_cl_u8 _ _), trivial, trivial⟩, trivial⟩ (by refine scL_fr ?_; exact ⟨(sc_ptr rfl), (sc_sl rfl), trivial, trivial⟩))))))
                  obtain ⟨v72, v73, v74, v75⟩ := a
                  show AWP _ _ _ _ _ (fr 83 [(0, .ptr 0 0), (1, .sl 2 0 v72.length (.whole 3)), (6, iA v73)]) [.cells 52 (TRange.cl v72), .dead, .cells 101 [.ro .unk v74.length (cl_u8 v74), iA v75]]
                  obtain ⟨hb_, H⟩ := H
                  replace H : p_draw_Codes_ranges_L1 n  v72 v73 v74 v75 = some r := H
                  cases n with
                  | zero => exact not_none (by simpa only [p_draw_Codes_ranges_L1] using H)
                  | succ n =>
                    unfold p_draw_Codes_ranges_L1 at H
                    refine AWP_seq (AWP_reg (Rh 2 83 [(0, .ptr 0 0), (1, .sl 2 0 v72.length (.whole 3)), (6, iA v73), (59, iA v73), (60, .ptr 0 0)] ?_))
                    obtain ⟨v76, hv76, H⟩ := bind_some H
                    refine AOps_call1 (d := (some 61)) (al := [.ptr 0 0, iA 2]) ([.ptr 0 0, iA 2]) (r := iA v76.1) (j := 0) (b' := .cells 101 (TCodes.cs v76.2)) (by kernel_rfl) rfl (s_draw_Codes_Next hv76) (⟨(scl_cl_u8 _ _), trivial, trivial⟩) (⟨(scl_cl_u8 _ _), trivial, trivial⟩) ⟨Nat.zero_lt_one, trivial, trivial⟩ trivial rfl (h' := [.cells 52 (TRange.cl v72), .dead, .cells 101 (TCodes.cs v76.2)]) rfl ?_
                    refine Rh 2 83 [(0, .ptr 0 0), (1, .sl 2 0 v72.length (.whole 3)), (6, iA v73), (63, bA (decide (v73 < (w64 (16 + v76.1)))))] (AOps_done (CD H (fun hb77 H => ?_) (fun hb77 H => ?_)))
                    · refine AWP_skip ?_
                      show AWP _ _ _ _ _ _ _
                      refine AWP_seq (AWP_block ?_)
                      refine AWP_region ?_
                      refine Rh 5 83 [(0, .ptr 0 0), (6, iA v73), (66, .sl 2 0 v72.length (.whole 3)), (67, iA v73), (69, iA (w64 (v73 + 1))), (70, iA v73)] ?_
                      obtain ⟨v78, hv78, H⟩ := bind_some H
                      refine AOps_rem (kk := .i64) (d := (some 71)) (by kernel_rfl) hv78 ?_
                      refine Rh 2 83 [(0, .ptr 0 0), (6, iA v73), (66, .sl 2 0 v72.length (.whole 3)), (73, .agg [iA v73, iA (w64 (v73 + 1)), iA (w64 (1 + v78))])] (AOps_bsl (d := (some 74)) (m := 1) (cs := [iA v73, iA (w64 (v73 + 1)), iA (w64 (1 + v78))]) (by kernel_rfl) ⟨trivial, trivial, trivial, trivial⟩ ?_)
                      obtain ⟨v79, hv79, H⟩ := bind_some H
                      refine AOps_appendO (d := (some 75)) (c := TRange.cs) (sz := 3) (bs := 24) (e := 52) (id := 2) (xs := v72) (ys := [({ gFrom := v73, gTo := w64 (v73 + 1), gVariation := w64 (1 + v78) } : TRange)]) (by kernel_rfl) rfl (eq_TRange_cl _) rfl (eq_TRange_cl _) (fun _ => rfl) (by kernel_rfl) (by kernel_rfl) hv79 (eq_TRange_cl _) (h' := [.cells 52 (TRange.cl v79), .dead, .dead, .cells 101 (TCodes.cs v76.2)]) rfl ?_
                      refine Rh 1 83 [(0, .ptr 0 0), (1, .sl 3 0 v79.length (.whole 3)), (6, iA v73)] (AOps_done ?_)
                      show AWP _ _ _ _ _ _ _
                      refine AWP_region ?_
                      refine Rh 3 83 [(0, .ptr 0 0), (1, .sl 3 0 v79.length (.whole 3)), (6, iA (w64 (v73 + 1)))] (AOps_done ?_)
                      exact Exists.intro (v79, w64 (v73 + 1), v76.2.glist, v76.2.gat) (Exists.intro n ⟨by omega, ⟨by omega, H⟩, Norm_trans (Norm_fd (st' := fr 83 [(0, .ptr 0 0), (1, .sl 3 0 v79.length (.whole 3)), (6, iA (w64 (v73 + 1)))]) (h' := [.cells 52 (TRange.cl v79), .dead, .dead, .cells 101 (TCodes.cs v76.2)]) [0, 1, 6] 0 (by kernel_rfl) rfl rfl ⟨(scl_TRange_cl _ _), trivial, trivial, ⟨(scl_cl_u8 _ _), trivial, trivial⟩, trivial⟩ (by refine scL_fr ?_; exact ⟨(sc_ptr rfl), (sc_sl rfl), trivial, trivial⟩)) (Norm_trans (Norm_move' (st' := fr 83 [(0, .ptr 0 0), (1, .sl 2 0 v79.length (.whole 3)), (6, iA (w64 (v73 + 1)))]) (h' := [.cells 52 (TRange.cl v79), .dead, .cells 101 (TCodes.cs v76.2)]) 2 3 rfl rfl rfl (fun h => by cases h) (by refine toOkL_fr ?_; exact ⟨(toOk_ptr rfl), (toOk_sl rfl), trivial, trivial⟩) ⟨(toOkL0 (scl_TRange_cl _ _)), trivial, trivial, ⟨(on0 (scl_cl_u8 _ _)), trivial, trivial⟩, trivial⟩ (by kernel_rfl) (by simp only [List.map_cons, List.map_nil, ABlk.to, map_to0 (scl_TRange_cl 0 _)] <;> kernel_rfl)) (Norm_fd [0, 1, 6] 0 (by kernel_rfl) rfl rfl ⟨(scl_TRange_cl _ _), trivial, ⟨(scl_cl_u8 _ _), trivial, trivial⟩, trivial⟩ (by refine scL_fr ?_; exact ⟨(sc_ptr rfl), (sc_sl rfl), trivial, trivial⟩)))⟩)
                    · refine AWP_exit ?_
                      show AWP _ _ _ _ _ _ _
                      refine AWP_region ?_
                      refine Rh 4 83 [(1, .sl 2 0 v72.length (.whole 3)), (76, .sl 2 0 v72.length (.whole 3)), (79, iA (w64 ((lI v72) - 1)))] ?_
                      obtain ⟨v80, hv80, H⟩ := bind_some H
                      refine AOps_oidx (d := (some 80)) (id := 2) (off := 0) (j := w64 ((lI v72) - 1)) (m := v72.length) (sz := 3) (by kernel_rfl) (rdO_place hv80) ?_
                      refine Rh 1 83 [(1, .sl 2 0 v72.length (.whole 3)), (81, .ptr 2 (0 + (w64 ((lI v72) - 1)).toNat * 3 + 1))] (AOps_stx (d := none) (id := 2) (ty := 52) (vs := [iA 10000]) (cs' := TRange.cl (v72.set (w64 ((lI v72) - 1)).toNat ({ gFrom := v80.gFrom, gTo := 10000, gVariation := v80.gVariation } : TRange))) (by kernel_rfl) (stx_of (c := TRange.cs) (cl := TRange.cl) (y := ({ gFrom := v80.gFrom, gTo := 10000, gVariation := v80.gVariation } : TRange)) (sz := 3) eq_TRange_cl (fun _ => rfl) hv80 1 (by kernel_rfl)) (h' := [.cells 52 (TRange.cl (v72.set (w64 ((lI v72) - 1)).toNat ({ gFrom := v80.gFrom, gTo := 10000, gVariation := v80.gVariation } : TRange))), .dead, .cells 101 (TCodes.cs v76.2)]) rfl ?_)
                      refine Rh 0 83 [(1, .sl 2 0 v72.length (.whole 3)), (81, .ptr 2 (0 + (w64 ((lI v72) - 1)).toNat * 3 + 1))] (AOps_same (st' := fr 83 [(1, .sl 2 0 (v72.set (w64 ((lI v72) - 1)).toNat ({ gFrom := v80.gFrom, gTo := 10000, gVariation := v80.gVariation } : TRange)).length (.whole 3)), (81, .ptr 2 (0 + (w64 ((lI v72) - 1)).toNat * 3 + 1))]) (h' := [.cells 52 (TRange.cl (v72.set (w64 ((lI v72) - 1)).toNat ({ gFrom := v80.gFrom, gTo := 10000, gVariation := v80.gVariation } : TRange))), .dead, .cells 101 (TCodes.cs v76.2)]) (by simp only [List.length_set]) (by simp only [List.length_set]) ?_)
                      refine AOps_done ?_
                      exact Exists.intro ((v72.set (w64 ((lI v72) - 1)).toNat ({ gFrom := v80.gFrom, gTo := 10000, gVariation := v80.gVariation } : TRange)), v76.2.glist, v76.2.gat) ⟨⟨n, by omega, H⟩, Norm_trans (Norm_fd (st' := fr 83 [(1, .sl 2 0 (v72.set (w64 ((lI v72) - 1)).toNat ({ gFrom := v80.gFrom, gTo := 10000, gVariation := v80.gVariation } : TRange)).length (.whole 3))]) (h' := [.cells 52 (TRange.cl (v72.set (w64 ((lI v72) - 1)).toNat ({ gFrom := v80.gFrom, gTo := 10000, gVariation := v80.gVariation } : TRange))), .dead, .cells 101 (TCodes.cs v76.2)]) [1] 0 (by kernel_rfl) rfl rfl ⟨(scl_TRange_cl _ _), trivial, ⟨(scl_cl_u8 _ _), trivial, trivial⟩, trivial⟩ (by refine scL_fr ?_; exact ⟨(sc_sl rfl), trivial⟩)) (Norm_trans (Norm_o2r 2 rfl (h' := [.row 52 (TRange.cl (v72.set (w64 ((lI v72) - 1)).toNat ({ gFrom := v80.gFrom, gTo := 10000, gVariation := v80.gVariation } : TRange))), .dead, .cells 101 (TCodes.cs v76.2)]) rfl) (Norm_trans (Norm_weak1 (st' := fr 83 [(1, .ro .unk (v72.set (w64 ((lI v72) - 1)).toNat ({ gFrom := v80.gFrom, gTo := 10000, gVariation := v80.gVariation } : TRange)).length (TRange.cl (v72.set (w64 ((lI v72) - 1)).toNat ({ gFrom := v80.gFrom, gTo := 10000, gVariation := v80.gVariation } : TRange))))]) 1 (.sl 2 0 (v72.set (w64 ((lI v72) - 1)).toNat ({ gFrom := v80.gFrom, gTo := 10000, gVariation := v80.gVariation } : TRange)).length (.whole 3)) (.ro .unk (v72.set (w64 ((lI v72) - 1)).toNat ({ gFrom := v80.gFrom, gTo := 10000, gVariation := v80.gVariation } : TRange)).length (TRange.cl (v72.set (w64 ((lI v72) - 1)).toNat ({ gFrom := v80.gFrom, gTo := 10000, gVariation := v80.gVariation } : TRange)))) (by kernel_rfl) (Frz_row (t := 52) (cs := TRange.cl (v72.set (w64 ((lI v72) - 1)).toNat ({ gFrom := v80.gFrom, gTo := 10000, gVariation := v80.gVariation } : TRange))) rfl (scl_TRange_cl _ _)) (by kernel_rfl)) (Norm_fd [1] 2 (by kernel_rfl) rfl rfl ⟨⟨(scl_cl_u8 _ _), trivial, trivial⟩, trivial⟩ (by refine scL_fr ?_; exact ⟨(scl_TRange_cl _ _), trivial⟩))))⟩
                · refine AWP_skip ?_
                  exact Exists.intro (v1, v44.2.glist, v44.2.gat) ⟨⟨n, by omega, H⟩, Norm_trans (Norm_fd (st' := fr 83 [(1, .sl 1 0 v1.length (.whole 3))]) (h' := [.cells 52 (TRange.cl v1), .cells 101 (TCodes.cs v44.2)]) [1] 0 (by kernel_rfl) rfl rfl ⟨(scl_TRange_cl _ _), ⟨(scl_cl_u8 _ _), trivial, trivial⟩, trivial⟩ (by refine scL_fr ?_; exact ⟨(sc_sl rfl), trivial⟩)) (Norm_trans (Norm_o2r 1 rfl (h' := [.row 52 (TRange.cl v1), .cells 101 (TCodes.cs v44.2)]) rfl) (Norm_trans (Norm_weak1 (st' := fr 83 [(1, .ro .unk v1.length (TRange.cl v1))]) 1 (.sl 1 0 v1.length (.whole 3)) (.ro .unk v1.length (TRange.cl v1)) (by kernel_rfl) (Frz_row (t := 52) (cs := TRange.cl v1) rfl (scl_TRange_cl _ _)) (by kernel_rfl)) (Norm_fd [1] 1 (by kernel_rfl) rfl rfl ⟨⟨(scl_cl_u8 _ _), trivial, trivial⟩, trivial⟩ (by refine scL_fr ?_; exact ⟨(scl_TRange_cl _ _), trivial⟩))))⟩
end Go.Proofs.YtjhbobacbaikoaaGreatDoor
/- A function of the program as a pure function, and that the program computes it. -/
namespace Go.Proofs.YtjhbobacbaikoaaGreatDoor
open Go
set_option linter.unusedVariables false
set_option linter.unusedSimpArgs false
set_option maxRecDepth 100000
def p_ref13_Pick_L1 (n : Nat) (x0 : List TRange) (x1 : Int) (v12 : Int) : Option Int := match n with
| 0 => none
| n + 1 =>
(bif decide (v12 < (lI x0)) then
(rdO x0 v12).bind fun v14 =>
(bif decide (v14.gFrom ≤ x1) then rdO x0 v12 else some ({ gFrom := 0, gTo := 0, gVariation := 0 } : TRange)).bind fun v15 =>
(bif (decide (v14.gFrom ≤ x1)) && (decide (x1 < v15.gTo)) then
(rdO x0 v12).bind fun v17 =>
 some (v17.gVariation)
 else
 p_ref13_Pick_L1 n x0 x1 (w64 (v12 + 1)))
 else
 some (0))
def p_ref13_Pick (n : Nat) (x0 : List TRange) (x1 : Int) : Option Int :=
 p_ref13_Pick_L1 n x0 x1 0
variable {E : Env}
theorem s_ref13_Pick {n : Nat} {x0 : List TRange} {x1 : Int} {r : Int} (H : p_ref13_Pick n x0 x1 = some r) :
    Sp Tryz.prog E 28 [.ro .unk x0.length (TRange.cl x0), iA x1] [] (isA (iA r) []) := by
  unfold p_ref13_Pick at H
  refine Sp_fn Tryz.func28 rfl (fun hc hs => ?_)
  refine AWP_reg (Rh 1 33 [(0, .ro .unk x0.length (TRange.cl x0)), (1, iA x1)] (AOps_done (AWP_seq (AWP_reg (Rh 1 33 [(0, .ro .unk x0.length (TRange.cl x0)), (1, iA x1), (5, iA 0)] (AOps_done (AWP_block ?_)))))))
  refine AWP_loopN (α := Int) (fun v12 => fr 33 [(0, .ro .unk x0.length (TRange.cl x0)), (1, iA x1), (5, iA v12)]) (fun v12 => []) (fun k_ v12 => k_ ≤ n ∧ p_ref13_Pick_L1 k_ x0 x1 v12 = some r) (fun n v12 H => ?_) (k := n) 0 ⟨Nat.le_refl _, H⟩ (Norm_fd [0, 1, 5] 0 (by kernel_rfl) rfl rfl trivial (by refine scL_fr ?_; exact ⟨(scl_TRange_cl _ _), trivial, trivial, trivial⟩))
  show AWP _ _ _ _ _ (fr 33 [(0, .ro .unk x0.length (TRange.cl x0)), (1, iA x1), (5, iA v12)]) []
  obtain ⟨hb_, H⟩ := H
  replace H : p_ref13_Pick_L1 n x0 x1 v12 = some r := H
  cases n with
  | zero => exact not_none (by simpa only [p_ref13_Pick_L1] using H)
  | succ n =>
    unfold p_ref13_Pick_L1 at H
    refine AWP_seq (AWP_reg (Rh 4 33 [(0, .ro .unk x0.length (TRange.cl x0)), (1, iA x1), (5, iA v12), (9, bA (decide (v12 < (lI x0))))] (AOps_done (CD H (fun hb13 H => ?_) (fun hb13 H => ?_)))))
    · refine AWP_skip ?_
      show AWP _ _ _ _ _ _ _
      refine AWP_seq (AWP_block ?_)
      refine AWP_reg (Rh 2 33 [(0, .ro .unk x0.length (TRange.cl x0)), (1, iA x1), (5, iA v12), (12, .ro .unk x0.length (TRange.cl x0)), (13, iA v12)] ?_)
      obtain ⟨v14, hv14, H⟩ := bind_some H
      refine AOps_index (d := (some 14)) (sz := 3) (c := TRange.cs) (by kernel_rfl) rfl (eq_TRange_cl _) (fun _ => rfl) (by decide) hv14 (fun tl14 => ?_)
      refine Rh 5 33 [(0, .ro .unk x0.length (TRange.cl x0)), (1, iA x1), (5, iA v12), (19, bA (decide (v14.gFrom ≤ x1)))] ?_
      obtain ⟨v15, hv15, H⟩ := bind_some H
      refine AOps_cut 8 (st' := fr 33 [(0, .ro .unk x0.length (TRange.cl x0)), (1, iA x1), (5, iA v12), (27, bA ((decide (v14.gFrom ≤ x1)) && (decide (x1 < v15.gTo))))]) (h' := []) ?_ ?_
      rotate_left
      · cases c1 : (decide (v14.gFrom ≤ x1) : Bool) with
        | true =>
          refine R 3 33 [(0, .ro .unk x0.length (TRange.cl x0)), (1, iA x1), (5, iA v12), (19, bA true), (20, iA x1), (21, .ro .unk x0.length (TRange.cl x0)), (22, iA v12)] [] ?_
          have hv15_ := cond_t hv15 (by simp only [c1] <;> rfl)
          refine AOps_index (d := (some 23)) (sz := 3) (c := TRange.cs) (by kernel_rfl) rfl (eq_TRange_cl _) (fun _ => rfl) (by decide) hv15_ (fun tl15 => ?_)
          refine R 4 33 [(0, .ro .unk x0.length (TRange.cl x0)), (1, iA x1), (5, iA v12), (27, bA (true && (decide (x1 < v15.gTo))))] [] ?_
          exact AOps_here [0, 1, 5, 27] (by kernel_rfl) rfl
        | false =>
          refine R 8 33 [(0, .ro .unk x0.length (TRange.cl x0)), (1, iA x1), (5, iA v12), (27, bA (false && (decide (x1 < v15.gTo))))] [] ?_
          exact AOps_here [0, 1, 5, 27] (by kernel_rfl) rfl
      refine AOps_done (CD H (fun hb16 H => ?_) (fun hb16 H => ?_))
      · refine AWP_reg (Rh 2 33 [(28, .ro .unk x0.length (TRange.cl x0)), (29, iA v12)] ?_)
        obtain ⟨v17, hv17, H⟩ := bind_some H
        refine AOps_index (d := (some 30)) (sz := 3) (c := TRange.cs) (by kernel_rfl) rfl (eq_TRange_cl _) (fun _ => rfl) (by decide) hv17 (fun tl17 => ?_)
        refine Rh 3 33 [(4, iA v17.gVariation)] (AOps_done ?_)
        exact AWP_ret (FR H)
      · refine AWP_skip ?_
        show AWP _ _ _ _ _ _ _
        refine AWP_region ?_
        refine Rh 3 33 [(0, .ro .unk x0.length (TRange.cl x0)), (1, iA x1), (5, iA (w64 (v12 + 1)))] (AOps_done ?_)
        exact Exists.intro (w64 (v12 + 1)) (Exists.intro n ⟨by omega, ⟨by omega, H⟩, Norm_fd [0, 1, 5] 0 (by kernel_rfl) rfl rfl trivial (by refine scL_fr ?_; exact ⟨(scl_TRange_cl _ _), trivial, trivial, trivial⟩)⟩)
    · refine AWP_exit ?_
      show AWP _ _ _ _ _ _ _
      refine AWP_reg (Rh 1 33 [(4, iA 0)] (AOps_done ?_))
      exact AWP_ret (FR H)
end Go.Proofs.YtjhbobacbaikoaaGreatDoor
/- Drawn splits: each bucket is in one of their ranges; splits in which something was changed. -/
namespace Go.Proofs.YtjhbobacbaikoaaGreatDoor
open Go
set_option linter.unusedVariables false
set_option linter.unusedSimpArgs false
set_option maxRecDepth 100000
/-- The ranges follow each other from a to b; each has a variation up to k that differs from the one before it. -/
def chain (k : Int) : Int → Int → List TRange → Int → Int → Prop
  | a, v, [], b, w => a = b ∧ v = w
  | a, v, r :: rs, b, w => 1 ≤ r.gVariation ∧ r.gVariation ≤ k ∧ r.gFrom = a ∧ a < r.gTo ∧ r.gVariation ≠ v ∧ chain k r.gTo r.gVariation rs b w
theorem chain_append {k : Int} : ∀ {l : List TRange} {a v b w : Int}, chain k a v l b w → ∀ {r : TRange}, 1 ≤ r.gVariation → r.gVariation ≤ k → r.gFrom = b → b < r.gTo → r.gVariation ≠ w → chain k a v (l ++ [r]) r.gTo r.gVariation
  | [], a, v, b, w, h, r, h1, h2, h3, h4, h5 => by
    obtain ⟨rfl, rfl⟩ := h
    exact ⟨h1, h2, h3, h4, h5, rfl, rfl⟩
  | x :: l, a, v, b, w, h, r, h1, h2, h3, h4, h5 => ⟨h.1, h.2.1, h.2.2.1, h.2.2.2.1, h.2.2.2.2.1, chain_append h.2.2.2.2.2 h1 h2 h3 h4 h5⟩
theorem drop_cons {α : Type} {l : List α} {i : Nat} {r : α} {rs : List α} (h : l.drop i = r :: rs) : ∃ hi : i < l.length, l[i] = r ∧ l.drop (i + 1) = rs := by
  have hi : i < l.length := by
    by_cases c : i < l.length
    · exact c
    · rw [List.drop_eq_nil_of_le (by omega)] at h; cases h
  rw [List.drop_eq_getElem_cons hi] at h
  obtain ⟨h1, h2⟩ := List.cons.inj h
  exact ⟨hi, h1, h2⟩
theorem drop_nil {α : Type} {l : List α} {i : Nat} (h : l.drop i = []) (hi : i ≤ l.length) : i = l.length := by
  have := congrArg List.length h
  rw [List.length_drop, List.length_nil] at this
  omega
theorem split_ok {k : Int} {l : List TRange} {w : Int} (hl : l.length ≤ 16) (h : chain k 0 0 l 10000 w) : Al fun n => p_shape_Split n l k = some 0 := by
  have key : ∀ (rest : List TRange) (i : Nat) (f a v : Int), l.drop i = rest → i ≤ l.length → chain k a v rest 10000 w → Al fun n => p_shape_Split_L1 n l k i f a v = some 0 := by
    intro rest
    induction rest with
    | nil =>
      intro i f a v hd hi hc
      obtain ⟨rfl, rfl⟩ := hc
      obtain rfl := drop_nil hd hi
      refine Al.succ (.of fun n => ?_)
      rw [p_shape_Split_L1, lI_out]
      simp only [cond_false, when_eq, Option.bind_some]
      rfl
    | cons r rs ih =>
      intro i f a v hd hi hc
      obtain ⟨hi, e1, e2⟩ := drop_cons hd
      obtain ⟨h1, h2, h3, h4, h5, h6⟩ := hc
      refine Al.succ ((ih (i + 1) r.gFrom r.gTo r.gVariation e2 (by omega) h6).mono fun n a1 => ?_)
      rw [p_shape_Split_L1, lI_in hi]
      have c1 : (decide (r.gVariation < 1) || decide (r.gVariation > k)) = false := by simp; omega
      have c2 : (((r.gFrom != a) || decide (r.gTo ≤ r.gFrom)) || (r.gVariation == v)) = false := by
        rw [h3]; simp; exact ⟨h4, h5⟩
      simp only [cond_true, rdO_nat hi, Option.bind_some, e1, c1, c2, cond_false, w64_add (show i + 1 < 9223372036854775808 by omega)]
      exact a1
  have := key l 0 0 0 0 rfl (by omega) h
  refine this.mono fun n a => ?_
  unfold p_shape_Split
  rw [decide_eq_false (show ¬ lI l > 16 by unfold lI; omega)]
  exact a
/-- How many of the ranges have a bucket. -/
def hits (b : Int) : List TRange → Int
  | [] => 0
  | r :: rs => (if r.gFrom ≤ b ∧ b < r.gTo then 1 else 0) + hits b rs
theorem hits_chain {k b : Int} : ∀ {l : List TRange} {a v e w : Int}, chain k a v l e w → b < e → hits b l = if a ≤ b then 1 else 0
  | [], a, v, e, w, h, hb => by
    obtain ⟨rfl, rfl⟩ := h
    rw [hits, if_neg (by omega)]
  | r :: rs, a, v, e, w, h, hb => by
    obtain ⟨h1, h2, h3, h4, h5, h6⟩ := h
    rw [hits, hits_chain h6 hb, h3]
    split <;> split <;> split <;> omega
theorem pick_chain {k b : Int} (l : List TRange) {e w : Int} (hb : b < e) (hll : l.length < 4294967281) : ∀ (rest : List TRange) (i : Nat) (a v : Int), l.drop i = rest → i ≤ l.length → chain k a v rest e w → a ≤ b → ∃ r, 1 ≤ r ∧ Al fun n => p_ref13_Pick_L1 n l b i = some r := by
  intro rest
  induction rest with
  | nil =>
    intro i a v hd hi hc ha
    obtain ⟨rfl, rfl⟩ := hc
    omega
  | cons r rs ih =>
    intro i a v hd hi hc ha
    obtain ⟨hi, e1, e2⟩ := drop_cons hd
    obtain ⟨h1, h2, h3, h4, h5, h6⟩ := hc
    by_cases c : b < r.gTo
    · refine ⟨r.gVariation, h1, Al.succ (.of fun n => ?_)⟩
      rw [p_ref13_Pick_L1, lI_in hi]
      simp only [cond_true, rdO_nat hi, Option.bind_some, e1, decide_eq_true (show r.gFrom ≤ b by omega), decide_eq_true c, Bool.and_self]
    · obtain ⟨q, hq, ha⟩ := ih (i + 1) r.gTo r.gVariation e2 (by omega) h6 (by omega)
      refine ⟨q, hq, Al.succ (ha.mono fun n a1 => ?_)⟩
      rw [p_ref13_Pick_L1, lI_in hi]
      simp only [cond_true, rdO_nat hi, Option.bind_some, e1, decide_eq_true (show r.gFrom ≤ b by omega), decide_eq_false c, Bool.and_false, cond_false, w64_add (show i + 1 < 9223372036854775808 by omega)]
      exact a1
/-! ## drawing -/
theorem wide_gv {c : TCodes} (hc : c.cok) {k : Int} (h0 : 0 < k) (h1 : k < 4611686018427387904) : Gv (fun n => p_draw_Codes_Wide n c k) fun r => 0 ≤ r.1 ∧ r.1 < k ∧ r.2.cok := by
  unfold p_draw_Codes_Wide
  refine Gv.bind (next_gv hc (k := 256) (by decide) (by decide)) fun a ha => ?_
  refine Gv.bind (next_gv ha.2.2 (k := 256) (by decide) (by decide)) fun b hb => ?_
  have w1 : w64 (256 * a.1) = 256 * a.1 := w64_of (by omega) (by omega)
  have w2 : w64 (256 * a.1 + b.1) = 256 * a.1 + b.1 := w64_of (by omega) (by omega)
  rw [w1, w2]
  have e : remO (256 * a.1 + b.1) k = some ((256 * a.1 + b.1).tmod k) := by
    unfold remO
    rw [beq_eq_false_iff_ne.2 (show k ≠ 0 by omega)]; rfl
  exact Gv.bind (Gv.opt (Q := fun r => 0 ≤ r ∧ r < k) e ⟨Int.tmod_nonneg _ (by omega), Int.tmod_lt_of_pos _ h0⟩) fun r hr => Gv.pure ⟨hr.1, hr.2, hb.2.2⟩
/-- The next variation. -/
theorem turn_ne {v k : Int} (h1 : 1 ≤ v) (h2 : v ≤ k) (hk : 2 ≤ k) (hk2 : k < 4611686018427387904) : ∃ u, remO v k = some u ∧ w64 (1 + u) = 1 + u ∧ 1 ≤ 1 + u ∧ 1 + u ≤ k ∧ 1 + u ≠ v := by
  by_cases c : v < k
  · refine ⟨v, ?_, ?_⟩
    · unfold remO
      rw [beq_eq_false_iff_ne.2 (show k ≠ 0 by omega), Int.tmod_eq_of_lt (by omega) c]; rfl
    · exact ⟨w64_of (by omega) (by omega), by omega, by omega, by omega⟩
  · obtain rfl : v = k := by omega
    refine ⟨0, ?_, rfl, by omega, by omega, by omega⟩
    unfold remO
    rw [beq_eq_false_iff_ne.2 (show v ≠ 0 by omega), Int.tmod_self]; rfl
theorem split_K1 {k : Int} (h0 : 0 < k) (h1 : k < 1000) {l : List TRange} {a v : Int} (hl : l.length ≤ 3) (hc0 : chain k 0 0 l a v) (ha : a < 10000) (hv : k = 1 → v = 0) {c : TCodes} (hc : c.cok) :
    Gv (fun n => p_draw_Codes_Split_K1 n k l a v c.glist c.gat) fun r => (∃ w, chain k 0 0 r.1 10000 w) ∧ r.1.length ≤ 4 ∧ r.2.cok := by
  have K2 : ∀ (s : Int × TCodes) (u : Int), s.2.cok → 1 ≤ u → u ≤ k → u ≠ v → Gv (fun n => p_draw_Codes_Split_K2 n l a s u) fun r => (∃ w, chain k 0 0 r.1 10000 w) ∧ r.1.length ≤ 4 ∧ r.2.cok := by
    intro s u hs h1 h2 h3
    unfold p_draw_Codes_Split_K2
    refine Gv.bind (Gv.app (Q := fun m => m = l ++ [{ gFrom := a, gTo := 10000, gVariation := u }]) (by simp; omega) (by decide) rfl) ?_
    rintro m rfl
    exact Gv.pure ⟨⟨u, chain_append hc0 h1 h2 rfl ha h3⟩, by simp; omega, hs⟩
  unfold p_draw_Codes_Split_K1
  refine Gv.bind (next_gv hc (k := k) h0 (by omega)) fun s hs => ?_
  rw [w64_of (show -9223372036854775808 ≤ 1 + s.1 by omega) (by omega)]
  refine Gv.cond (fun h => ?_) fun h => ?_
  · have h := beq_iff_eq.1 h
    have hk2 : 2 ≤ k := by
      by_cases c : k = 1
      · have := hv c; omega
      · omega
    obtain ⟨u, e, w, g1, g2, g3⟩ := turn_ne (v := 1 + s.1) (k := k) (by omega) (by omega) hk2 (by omega)
    refine Gv.bind (Gv.opt (Q := fun r => r = u) e rfl) ?_
    rintro r rfl
    rw [w]
    exact K2 s _ hs.2.2 g1 g2 (by omega)
  · exact K2 s _ hs.2.2 (by omega) (by omega) (beq_eq_false_iff_ne.1 h)
theorem split_L1 {k : Int} (h0 : 0 < k) (h1 : k < 1000) : ∀ (q i : Nat) (l : List TRange) (a v : Int) (c : TCodes), i + q = 3 → l.length = i → chain k 0 0 l a v → 0 ≤ a → a < 10000 → (k = 1 → v = 0) → c.cok →
    Gv (fun n => p_draw_Codes_Split_L1 n k l a v i c.glist c.gat) fun r => (∃ w, chain k 0 0 r.1 10000 w) ∧ r.1.length ≤ 4 ∧ r.2.cok := by
  intro q
  induction q with
  | zero =>
    intro i l a v c hi hl hch ha0 ha hv hc
    refine Gv.succ ?_
    simp only [p_draw_Codes_Split_L1]
    refine Gv.bind (next_gv hc (k := 4) (by decide) (by decide)) fun s hs => Gv.cond (fun h => ?_) fun h => split_K1 h0 h1 (by omega) hch ha hv hs.2.2
    have h := of_decide_eq_true (Bool.and_eq_true_iff.1 h).1
    omega
  | succ q ih =>
    intro i l a v c hi hl hch ha0 ha hv hc
    refine Gv.succ ?_
    simp only [p_draw_Codes_Split_L1]
    refine Gv.bind (next_gv hc (k := 4) (by decide) (by decide)) fun s hs => Gv.cond (fun h => ?_) fun h => split_K1 h0 h1 (by omega) hch ha hv hs.2.2
    have hk2 := of_decide_eq_true (Bool.and_eq_true_iff.1 h).2
    refine Gv.bind (wide_gv hs.2.2 (k := 5000) (by decide) (by decide)) fun x hx => ?_
    refine Gv.bind (next_gv hx.2.2 (k := k) h0 (by omega)) fun y hy => ?_
    rw [w64_of (show -9223372036854775808 ≤ 1 + y.1 by omega) (by omega)]
    have K3 : ∀ u : Int, 1 ≤ u → u ≤ k → u ≠ v → Gv (fun n => p_draw_Codes_Split_K3 n k l a v i x y u) fun r => (∃ w, chain k 0 0 r.1 10000 w) ∧ r.1.length ≤ 4 ∧ r.2.cok := by
      intro u g1 g2 g3
      refine Gv.succ ?_
      simp only [p_draw_Codes_Split_K3]
      have e : w64 (w64 (a + 1) + x.1) = a + 1 + x.1 := by rw [w64_of (show -9223372036854775808 ≤ a + 1 by omega) (by omega), w64_of (by omega) (by omega)]
      rw [e]
      refine Gv.cond (fun h => split_K1 h0 h1 (by omega) hch ha hv hy.2.2) fun h => ?_
      have h := of_decide_eq_false h
      refine Gv.bind (Gv.app (Q := fun m => m = l ++ [{ gFrom := a, gTo := a + 1 + x.1, gVariation := u }]) (by simp; omega) (by decide) rfl) ?_
      rintro m rfl
      rw [w64_add (by omega)]
      exact ih (i + 1) _ _ _ y.2 (by omega) (by simp; omega) (chain_append hch g1 g2 rfl (by show a < a + 1 + x.1; omega) g3) (by omega) (by omega) (fun h => by omega) hy.2.2
    refine Gv.cond (fun h => ?_) fun h => ?_
    · have h := beq_iff_eq.1 h
      obtain ⟨u, e, w, g1, g2, g3⟩ := turn_ne (v := 1 + y.1) (k := k) (by omega) (by omega) hk2 (by omega)
      refine Gv.bind (Gv.opt (Q := fun r => r = u) e rfl) ?_
      rintro r rfl
      rw [w]
      exact K3 _ g1 g2 (by omega)
    · exact K3 _ (by omega) (by omega) (beq_eq_false_iff_ne.1 h)
theorem split_gv {k : Int} (h0 : 0 < k) (h1 : k < 1000) {c : TCodes} (hc : c.cok) : Gv (fun n => p_draw_Codes_Split n c k) fun r => (∃ w, chain k 0 0 r.1 10000 w) ∧ r.1.length ≤ 4 ∧ r.2.cok := by
  unfold p_draw_Codes_Split
  exact split_L1 h0 h1 3 0 [] 0 0 c rfl rfl ⟨rfl, rfl⟩ (by omega) (by omega) (fun _ => rfl) hc
/-! ## a split in which something was changed -/
theorem ranges_L1 : ∀ (q i : Nat) (l : List TRange) (c : TCodes), i + q = 17 → l.length = i → c.cok → Gv (fun n => p_draw_Codes_ranges_L1 n l i c.glist c.gat) fun r => r.1.length ≤ 17 ∧ r.2.cok := by
  have fin : ∀ (i : Nat) (l : List TRange) (c : TCodes), 0 < i → i ≤ 17 → l.length = i → c.cok →
      Gv (fun n => (rdO l (w64 ((lI l) - 1))).bind fun v => p_draw_Codes_ranges_K1 n (l.set (w64 ((lI l) - 1)).toNat ({ gFrom := v.gFrom, gTo := 10000, gVariation := v.gVariation } : TRange)) c.glist c.gat) fun r => r.1.length ≤ 17 ∧ r.2.cok := by
    intro i l c h0 h1 hl hc
    have e : w64 (lI l - 1) = (l.length : Int) - 1 := by unfold lI; rw [w64_of (by omega) (by omega)]
    rw [e]
    refine Gv.bind (Gv.rd (Q := fun _ => True) (by omega) (by omega) fun _ _ => trivial) fun v _ => ?_
    unfold p_draw_Codes_ranges_K1
    exact Gv.pure ⟨by rw [List.length_set]; omega, hc⟩
  intro q
  induction q with
  | zero =>
    intro i l c hi hl hc
    refine Gv.succ ?_
    simp only [p_draw_Codes_ranges_L1]
    refine Gv.bind (next_gv hc (k := 2) (by decide) (by decide)) fun s hs => ?_
    rw [w64_of (show -9223372036854775808 ≤ 16 + s.1 by omega) (by omega)]
    refine Gv.cond (fun h => ?_) fun h => fin i l s.2 (by omega) (by omega) hl hs.2.2
    have h := of_decide_eq_true h
    omega
  | succ q ih =>
    intro i l c hi hl hc
    refine Gv.succ ?_
    simp only [p_draw_Codes_ranges_L1]
    refine Gv.bind (next_gv hc (k := 2) (by decide) (by decide)) fun s hs => ?_
    rw [w64_of (show -9223372036854775808 ≤ 16 + s.1 by omega) (by omega)]
    refine Gv.cond (fun h => ?_) fun h => ?_
    · have e : remO (i : Int) 2 = some ((i : Int).tmod 2) := rfl
      refine Gv.bind (Gv.opt (Q := fun _ => True) e trivial) fun u _ => ?_
      refine Gv.bind (Gv.app (Q := fun m => m.length = i + 1) (by simp; omega) (by decide) (by simp; omega)) fun m hm => ?_
      rw [w64_add (by omega)]
      exact ih (i + 1) m s.2 (by omega) hm hs.2.2
    · have h := of_decide_eq_false h
      exact fin i l s.2 (by omega) (by omega) hl hs.2.2
theorem ranges_gv {l : List TRange} (hl : l.length ≤ 10000) {c : TCodes} (hc : c.cok) : Gv (fun n => p_draw_Codes_ranges n c l) fun r => r.1.length ≤ l.length + 17 ∧ r.2.cok := by
  unfold p_draw_Codes_ranges
  refine Gv.bind (Gv.app (Q := fun m => m = l) (by simp; omega) (by decide) (by simp)) ?_
  rintro m rfl
  refine Gv.cond (fun _ => Gv.pure ⟨by show m.length ≤ m.length + 17; omega, hc⟩) fun h => ?_
  have h := beq_eq_false_iff_ne.1 h
  have h0 : 0 < m.length := by unfold lI at h; omega
  refine Gv.bind (next_gv hc (k := lI m) (by unfold lI; omega) (by unfold lI; omega)) fun s hs => ?_
  refine Gv.bind (next_gv hs.2.2 (k := 6) (by decide) (by decide)) fun t ht => ?_
  have rd : ∀ {Q : TRange → Prop}, (∀ x ∈ m, Q x) → Gv (fun _ => rdO m s.1) Q := fun q => Gv.rd hs.1 hs.2.1 q
  have st : ∀ {j : Nat} {x : TRange} {c' : TCodes}, c'.cok → Gv (fun n => p_draw_Codes_ranges_K1 n (m.set j x) c'.glist c'.gat) fun r => r.1.length ≤ m.length + 17 ∧ r.2.cok := fun hc' => by
    unfold p_draw_Codes_ranges_K1
    exact Gv.pure ⟨by rw [List.length_set]; omega, hc'⟩
  refine Gv.cond (fun _ => ?_) fun _ => Gv.cond (fun _ => ?_) fun _ => Gv.cond (fun _ => ?_) fun _ => Gv.cond (fun _ => ?_) fun _ => Gv.cond (fun _ => ?_) fun _ => Gv.cond (fun _ => ?_) fun _ => ?_
  · exact Gv.bind (number_gv ht.2.2) fun u hu => Gv.bind (rd (Q := fun _ => True) fun _ _ => trivial) fun x _ => st hu
  · exact Gv.bind (number_gv ht.2.2) fun u hu => Gv.bind (rd (Q := fun _ => True) fun _ _ => trivial) fun x _ => st hu
  · exact Gv.bind (number_gv ht.2.2) fun u hu => Gv.bind (rd (Q := fun _ => True) fun _ _ => trivial) fun x _ => st hu
  · have e : cutL m 0 s.1 = some ((m.take s.1.toNat).drop 0) := by
      have h2 : s.1 < (m.length : Int) := hs.2.1
      unfold cutL
      rw [decide_eq_true (show (0 : Int) ≤ 0 by omega), decide_eq_true hs.1, decide_eq_true (show s.1 ≤ m.length by omega)]
      rfl
    refine Gv.bind (Gv.opt (Q := fun r => r.length ≤ m.length) e (by simp; omega)) fun r hr => ?_
    unfold p_draw_Codes_ranges_K1
    exact Gv.pure ⟨by show r.length ≤ m.length + 17; omega, ht.2.2⟩
  · refine Gv.bind (rd (Q := fun _ => True) fun _ _ => trivial) fun x _ => ?_
    refine Gv.bind (Gv.app (Q := fun k => k.length = m.length + 1) (by simp; omega) (by decide) (by simp)) fun k hk => ?_
    unfold p_draw_Codes_ranges_K1
    exact Gv.pure ⟨by show k.length ≤ m.length + 17; omega, ht.2.2⟩
  · exact (ranges_L1 17 0 [] t.2 rfl rfl ht.2.2).mono fun r hr => ⟨by omega, hr.2⟩
  · unfold p_draw_Codes_ranges_K1
    exact Gv.pure ⟨by show m.length ≤ m.length + 17; omega, ht.2.2⟩
end Go.Proofs.YtjhbobacbaikoaaGreatDoor
/- A function of the program as a pure function, and that the program computes it. -/
namespace Go.Proofs.YtjhbobacbaikoaaGreatDoor
open Go
set_option linter.unusedVariables false
set_option linter.unusedSimpArgs false
set_option maxRecDepth 100000
def p_draw_Codes_Experiment_K1 (n : Nat) (x1 : TExperiment) (v40 : List Int) (v41 : Int) (v42 : ByteArray) (v43 : ByteArray) (v44 : ByteArray) (v45 : Int) (v46 : List TSpan) (v47 : List TRange) (v48 : Int) (v49 : ByteArray) (v50 : ByteArray) (v51 : List TValue) (v52 : List TExpr) : Option (TExperiment × TCodes) :=
 some (({ gKey := v42, gLayer := v43, gFlag := v44, gSalt := x1.gSalt, gStatus := v45, gClaims := v46, gArms := v47, gWhen := (TExpr.mk v48 v49 v50 v51 v52) } : TExperiment), ({ glist := v40, gat := v41 } : TCodes))
def p_draw_Codes_Experiment_L1 (n : Nat) (x1 : TExperiment) (v77 : Int) (v78 : List Int) (v79 : Int) (v80 : List TSpan) : Option (TExperiment × TCodes) := match n with
| 0 => none
| n + 1 =>
(p_draw_Codes_Next n ({ glist := v78, gat := v79 } : TCodes) 2).bind fun v81 =>
(bif decide (v77 < (w64 (16 + v81.1))) then
(appO 16 v80 ([({ gFrom := w64 (2 * v77), gTo := w64 ((w64 (2 * v77)) + 1) } : TSpan)])).bind fun v83 =>
 p_draw_Codes_Experiment_L1 n x1 (w64 (v77 + 1)) v81.2.glist v81.2.gat v83
 else
 p_draw_Codes_Experiment_K1 n x1 v81.2.glist v81.2.gat x1.gKey x1.gLayer x1.gFlag x1.gStatus v80 x1.gArms x1.gWhen.gOp x1.gWhen.gKind x1.gWhen.gName x1.gWhen.gValues x1.gWhen.gKids)
def p_draw_Codes_Experiment_K2 (n : Nat) (x1 : TExperiment) (v1 : List TSpan) (v53 : Int × TCodes) (v85 : Bool) : Option (TExperiment × TCodes) :=
(bif v85 then
(p_draw_Codes_ranges n v53.2 x1.gArms).bind fun v87 =>
 p_draw_Codes_Experiment_K1 n x1 v87.2.glist v87.2.gat x1.gKey x1.gLayer x1.gFlag x1.gStatus v1 v87.1 x1.gWhen.gOp x1.gWhen.gKind x1.gWhen.gName x1.gWhen.gValues x1.gWhen.gKids
 else
(bif v53.1 == 8 then
(p_draw_Codes_Condition n v53.2 x1.gWhen).bind fun v89 =>
 p_draw_Codes_Experiment_K1 n x1 v89.2.glist v89.2.gat x1.gKey x1.gLayer x1.gFlag x1.gStatus v1 x1.gArms v89.1.gOp v89.1.gKind v89.1.gName v89.1.gValues v89.1.gKids
 else
 p_draw_Codes_Experiment_K1 n x1 v53.2.glist v53.2.gat x1.gKey x1.gLayer x1.gFlag x1.gStatus v1 x1.gArms x1.gWhen.gOp x1.gWhen.gKind x1.gWhen.gName x1.gWhen.gValues x1.gWhen.gKids))
def p_draw_Codes_Experiment (n : Nat) (x0 : TCodes) (x1 : TExperiment) : Option (TExperiment × TCodes) :=
(appO 16 ([] : List TSpan) x1.gClaims).bind fun v1 =>
(p_draw_Codes_Next n x0 9).bind fun v53 =>
(bif v53.1 == 0 then
(p_draw_Codes_Name n v53.2).bind fun v55 =>
 p_draw_Codes_Experiment_K1 n x1 v55.2.glist v55.2.gat v55.1 x1.gLayer x1.gFlag x1.gStatus v1 x1.gArms x1.gWhen.gOp x1.gWhen.gKind x1.gWhen.gName x1.gWhen.gValues x1.gWhen.gKids
 else
(bif v53.1 == 1 then
(p_draw_Codes_Name n v53.2).bind fun v57 =>
 p_draw_Codes_Experiment_K1 n x1 v57.2.glist v57.2.gat x1.gKey v57.1 x1.gFlag x1.gStatus v1 x1.gArms x1.gWhen.gOp x1.gWhen.gKind x1.gWhen.gName x1.gWhen.gValues x1.gWhen.gKids
 else
(bif v53.1 == 2 then
(p_draw_Codes_Name n v53.2).bind fun v59 =>
 p_draw_Codes_Experiment_K1 n x1 v59.2.glist v59.2.gat x1.gKey x1.gLayer v59.1 x1.gStatus v1 x1.gArms x1.gWhen.gOp x1.gWhen.gKind x1.gWhen.gName x1.gWhen.gValues x1.gWhen.gKids
 else
(bif v53.1 == 3 then
(p_draw_Codes_Next n v53.2 6).bind fun v61 =>
 p_draw_Codes_Experiment_K1 n x1 v61.2.glist v61.2.gat x1.gKey x1.gLayer x1.gFlag (w64 (v61.1 - 1)) v1 x1.gArms x1.gWhen.gOp x1.gWhen.gKind x1.gWhen.gName x1.gWhen.gValues x1.gWhen.gKids
 else
(bif v53.1 == 4 then
(p_draw_Codes_Number n v53.2).bind fun v63 =>
(p_draw_Codes_Number n v63.2).bind fun v64 =>
(appO 16 v1 ([({ gFrom := v63.1, gTo := v64.1 } : TSpan)])).bind fun v65 =>
 p_draw_Codes_Experiment_K1 n x1 v64.2.glist v64.2.gat x1.gKey x1.gLayer x1.gFlag x1.gStatus v65 x1.gArms x1.gWhen.gOp x1.gWhen.gKind x1.gWhen.gName x1.gWhen.gValues x1.gWhen.gKids
 else
(bif v53.1 == 5 then
 p_draw_Codes_Experiment_L1 n x1 0 v53.2.glist v53.2.gat ([])
 else
(bif v53.1 == 6 then
 p_draw_Codes_Experiment_K2 n x1 v1 v53 (v53.1 == 6)
 else
 p_draw_Codes_Experiment_K2 n x1 v1 v53 (v53.1 == 7))))))))
variable {E : Env}
theorem s_draw_Codes_Experiment {n : Nat} (hG : GlobD E) {x0 : TCodes} {x1 : TExperiment} {r : TExperiment × TCodes} (H : p_draw_Codes_Experiment n x0 x1 = some r) :
    Sp Tryz.prog E 21 [.ptr 0 0, .agg (TExperiment.cs x1)] [.cells 101 (TCodes.cs x0)] (isA (.agg (TExperiment.cs r.1)) [.cells 101 (TCodes.cs r.2)]) := by
  unfold p_draw_Codes_Experiment at H
  refine Sp_fn Tryz.func21 rfl (fun hc hs => ?_)
  refine AWP_reg (R 2 82 [(0, .ptr 0 0), (3, .ptr 1 0), (4, .ptr 2 0)] [.cells 42 [sA ByteArray.empty, sA ByteArray.empty, sA ByteArray.empty, sA ByteArray.empty, iA 0, .ro .full 0 [], .ro .full 0 [], iA 0, sA ByteArray.empty, sA ByteArray.empty, .ro .full 0 [], .ro .full 0 []], .cells 42 (TExperiment.cs x1), .cells 101 (TCodes.cs x0)] (AOps_done (AWP_reg (Rh 2 82 [(0, .ptr 0 0), (3, .ptr 1 0), (4, .ptr 2 0), (7, .ro .unk x1.gClaims.length (TSpan.cl x1.gClaims))] ?_))))
  obtain ⟨v1, hv1, H⟩ := bind_some H
  refine AOps_append_nil (d := (some 8)) (c := TSpan.cs) (sz := 2) (bs := 16) (e := 45) (ys := x1.gClaims) (by kernel_rfl) rfl (eq_TSpan_cl _) (fun _ => rfl) (by kernel_rfl) (by kernel_rfl) hv1 (eq_TSpan_cl _) ?_
  refine R 2 82 [(0, .ptr 0 0), (3, .ptr 1 0), (4, .ptr 2 0)] [.row 45 (TSpan.cl v1), .cells 42 [sA ByteArray.empty, sA ByteArray.empty, sA ByteArray.empty, sA ByteArray.empty, iA 0, .ro .full 0 [], .ro .full 0 [], iA 0, sA ByteArray.empty, sA ByteArray.empty, .ro .full 0 [], .ro .full 0 []], .cells 42 [sA x1.gKey, sA x1.gLayer, sA x1.gFlag, sA x1.gSalt, iA x1.gStatus, .sl 3 0 v1.length (.whole 2), .ro .unk x1.gArms.length (TRange.cl x1.gArms), iA x1.gWhen.gOp, sA x1.gWhen.gKind, sA x1.gWhen.gName, .ro .unk x1.gWhen.gValues.length (TValue.cl x1.gWhen.gValues), .ro .unk x1.gWhen.gKids.length (TExpr.cl x1.gWhen.gKids)], .cells 101 (TCodes.cs x0)] (AOps_done (AWP_joinN (α := (List Int) × Int × ByteArray × ByteArray × ByteArray × Int × (List TSpan) × (List TRange) × Int × ByteArray × ByteArray × (List TValue) × (List TExpr)) (fun ⟨v40, v41, v42, v43, v44, v45, v46, v47, v48, v49, v50, v51, v52⟩ => fr 82 [(3, .ptr 1 0), (4, .ptr 2 0)]) (fun ⟨v40, v41, v42, v43, v44, v45, v46, v47, v48, v49, v50, v51, v52⟩ => [.row 45 (TSpan.cl v46), .cells 42 [sA ByteArray.empty, sA ByteArray.empty, sA ByteArray.empty, sA ByteArray.empty, iA 0, .ro .full 0 [], .ro .full 0 [], iA 0, sA ByteArray.empty, sA ByteArray.empty, .ro .full 0 [], .ro .full 0 []], .cells 42 [sA v42, sA v43, sA v44, sA x1.gSalt, iA v45, .sl 3 0 v46.length (.whole 2), .ro .unk v47.length (TRange.cl v47), iA v48, sA v49, sA v50, .ro .unk v51.length (TValue.cl v51), .ro .unk v52.length (TExpr.cl v52)], .cells 101 [.ro .unk v40.length (cl_u8 v40), iA v41]]) (fun ⟨v40, v41, v42, v43, v44, v45, v46, v47, v48, v49, v50, v51, v52⟩ => ∃ q, q ≤ q ∧ p_draw_Codes_Experiment_K1 q x1 v40 v41 v42 v43 v44 v45 v46 v47 v48 v49 v50 v51 v52 = some r) (fun a hC => ?_) ?_))
  · obtain ⟨v40, v41, v42, v43, v44, v45, v46, v47, v48, v49, v50, v51, v52⟩ := a
    show AWP _ _ _ _ _ (fr 82 [(3, .ptr 1 0), (4, .ptr 2 0)]) [.row 45 (TSpan.cl v46), .cells 42 [sA ByteArray.empty, sA ByteArray.empty, sA ByteArray.empty, sA ByteArray.empty, iA 0, .ro .full 0 [], .ro .full 0 [], iA 0, sA ByteArray.empty, sA ByteArray.empty, .ro .full 0 [], .ro .full 0 []], .cells 42 [sA v42, sA v43, sA v44, sA x1.gSalt, iA v45, .sl 3 0 v46.length (.whole 2), .ro .unk v47.length (TRange.cl v47), iA v48, sA v49, sA v50, .ro .unk v51.length (TValue.cl v51), .ro .unk v52.length (TExpr.cl v52)], .cells 101 [.ro .unk v40.length (cl_u8 v40), iA v41]]
    obtain ⟨n, hn_, hC⟩ := hC
    replace H : p_draw_Codes_Experiment_K1 n x1 v40 v41 v42 v43 v44 v45 v46 v47 v48 v49 v50 v51 v52 = some r := hC
    unfold p_draw_Codes_Experiment_K1 at H
    refine AWP_reg (R 2 82 [(4, .ptr 2 0)] [.row 45 (TSpan.cl v46), .cells 42 [sA v42, sA v43, sA v44, sA x1.gSalt, iA v45, .sl 3 0 v46.length (.whole 2), .ro .unk v47.length (TRange.cl v47), iA v48, sA v49, sA v50, .ro .unk v51.length (TValue.cl v51), .ro .unk v52.length (TExpr.cl v52)], .cells 42 [sA v42, sA v43, sA v44, sA x1.gSalt, iA v45, .sl 3 0 v46.length (.whole 2), .ro .unk v47.length (TRange.cl v47), iA v48, sA v49, sA v50, .ro .unk v51.length (TValue.cl v51), .ro .unk v52.length (TExpr.cl v52)], .cells 101 [.ro .unk v40.length (cl_u8 v40), iA v41]] (AOps_done (AWP_ret ?_)))
    have hr := Option.some.inj H
    subst hr
    exact Fin_retn 3 (l := [.agg [sA v42, sA v43, sA v44, sA x1.gSalt, iA v45, .sl 3 0 v46.length (.whole 2), .ro .unk v47.length (TRange.cl v47), iA v48, sA v49, sA v50, .ro .unk v51.length (TValue.cl v51), .ro .unk v52.length (TExpr.cl v52)]]) (h' := [.cells 101 [.ro .unk v40.length (cl_u8 v40), iA v41]]) (by kernel_rfl) rfl (Nat.le_of_ble_eq_true rfl) ((by refine Closed_of ?_; exact ⟨⟨(scl_cl_u8 _ _), trivial, trivial⟩, trivial⟩)) (Frz_agg (FrzL_cons (Frz_sc trivial) (FrzL_cons (Frz_sc trivial) (FrzL_cons (Frz_sc trivial) (FrzL_cons (Frz_sc trivial) (FrzL_cons (Frz_sc trivial) (FrzL_cons (Frz_row (t := 45) (cs := TSpan.cl v46) rfl (scl_TSpan_cl _ _)) (FrzL_cons (Frz_sc (scl_TRange_cl _ _)) (FrzL_cons (Frz_sc trivial) (FrzL_cons (Frz_sc trivial) (FrzL_cons (Frz_sc trivial) (FrzL_cons (Frz_sc (scl_TValue_cl _ _)) (FrzL_cons (Frz_sc (scl_TExpr_cl _ _)) (FrzL_nil))))))))))))) rfl) ⟨rfl, rfl⟩
  · refine AWP_reg (Rh 1 82 [(0, .ptr 0 0), (3, .ptr 1 0), (4, .ptr 2 0), (10, .ptr 0 0)] ?_)
    obtain ⟨v53, hv53, H⟩ := bind_some H
    refine AOps_call1 (d := (some 11)) (al := [.ptr 0 0, iA 9]) ([.ptr 0 0, iA 9]) (r := iA v53.1) (j := 0) (b' := .cells 101 (TCodes.cs v53.2)) (by kernel_rfl) rfl (s_draw_Codes_Next hv53) (⟨(scl_cl_u8 _ _), trivial, trivial⟩) (⟨(scl_cl_u8 _ _), trivial, trivial⟩) ⟨Nat.zero_lt_one, trivial, trivial⟩ trivial rfl (h' := [.row 45 (TSpan.cl v1), .cells 42 [sA ByteArray.empty, sA ByteArray.empty, sA ByteArray.empty, sA ByteArray.empty, iA 0, .ro .full 0 [], .ro .full 0 [], iA 0, sA ByteArray.empty, sA ByteArray.empty, .ro .full 0 [], .ro .full 0 []], .cells 42 [sA x1.gKey, sA x1.gLayer, sA x1.gFlag, sA x1.gSalt, iA x1.gStatus, .sl 3 0 v1.length (.whole 2), .ro .unk x1.gArms.length (TRange.cl x1.gArms), iA x1.gWhen.gOp, sA x1.gWhen.gKind, sA x1.gWhen.gName, .ro .unk x1.gWhen.gValues.length (TValue.cl x1.gWhen.gValues), .ro .unk x1.gWhen.gKids.length (TExpr.cl x1.gWhen.gKids)], .cells 101 (TCodes.cs v53.2)]) rfl ?_
    refine AOps_done (AWP_block ?_)
    refine AWP_reg (Rh 2 82 [(0, .ptr 0 0), (3, .ptr 1 0), (4, .ptr 2 0), (11, iA v53.1), (12, bA (v53.1 == 0))] (AOps_done (CD H (fun hb54 H => ?_) (fun hb54 H => ?_))))
    · refine AWP_region ?_
      refine Rh 1 82 [(3, .ptr 1 0), (4, .ptr 2 0), (14, .ptr 0 0)] ?_
      obtain ⟨v55, hv55, H⟩ := bind_some H
      refine AOps_call1 (d := (some 15)) (al := [.ptr 0 0]) ([.ptr 0 0]) (r := sA v55.1) (j := 0) (b' := .cells 101 (TCodes.cs v55.2)) (by kernel_rfl) rfl (s_draw_Codes_Name hv55) (⟨(scl_cl_u8 _ _), trivial, trivial⟩) (⟨(scl_cl_u8 _ _), trivial, trivial⟩) ⟨Nat.zero_lt_one, trivial⟩ trivial rfl (h' := [.row 45 (TSpan.cl v1), .cells 42 [sA ByteArray.empty, sA ByteArray.empty, sA ByteArray.empty, sA ByteArray.empty, iA 0, .ro .full 0 [], .ro .full 0 [], iA 0, sA ByteArray.empty, sA ByteArray.empty, .ro .full 0 [], .ro .full 0 []], .cells 42 [sA x1.gKey, sA x1.gLayer, sA x1.gFlag, sA x1.gSalt, iA x1.gStatus, .sl 3 0 v1.length (.whole 2), .ro .unk x1.gArms.length (TRange.cl x1.gArms), iA x1.gWhen.gOp, sA x1.gWhen.gKind, sA x1.gWhen.gName, .ro .unk x1.gWhen.gValues.length (TValue.cl x1.gWhen.gValues), .ro .unk x1.gWhen.gKids.length (TExpr.cl x1.gWhen.gKids)], .cells 101 (TCodes.cs v55.2)]) rfl ?_
      refine R 2 82 [(3, .ptr 1 0), (4, .ptr 2 0)] [.row 45 (TSpan.cl v1), .cells 42 [sA ByteArray.empty, sA ByteArray.empty, sA ByteArray.empty, sA ByteArray.empty, iA 0, .ro .full 0 [], .ro .full 0 [], iA 0, sA ByteArray.empty, sA ByteArray.empty, .ro .full 0 [], .ro .full 0 []], .cells 42 [sA v55.1, sA x1.gLayer, sA x1.gFlag, sA x1.gSalt, iA x1.gStatus, .sl 3 0 v1.length (.whole 2), .ro .unk x1.gArms.length (TRange.cl x1.gArms), iA x1.gWhen.gOp, sA x1.gWhen.gKind, sA x1.gWhen.gName, .ro .unk x1.gWhen.gValues.length (TValue.cl x1.gWhen.gValues), .ro .unk x1.gWhen.gKids.length (TExpr.cl x1.gWhen.gKids)], .cells 101 (TCodes.cs v55.2)] (AOps_done ?_)
      exact Exists.intro (v55.2.glist, v55.2.gat, v55.1, x1.gLayer, x1.gFlag, x1.gStatus, v1, x1.gArms, x1.gWhen.gOp, x1.gWhen.gKind, x1.gWhen.gName, x1.gWhen.gValues, x1.gWhen.gKids) ⟨⟨n, by omega, H⟩, Norm_fd [3, 4] 0 (by kernel_rfl) rfl rfl ⟨(scl_TSpan_cl _ _), ⟨trivial, trivial, trivial, trivial, trivial, trivial, trivial, trivial, trivial, trivial, trivial, trivial, trivial⟩, ⟨trivial, trivial, trivial, trivial, trivial, (sc_sl rfl), (scl_TRange_cl _ _), trivial, trivial, trivial, (scl_TValue_cl _ _), (scl_TExpr_cl _ _), trivial⟩, ⟨(scl_cl_u8 _ _), trivial, trivial⟩, trivial⟩ (by refine scL_fr ?_; exact ⟨(sc_ptr rfl), (sc_ptr rfl), trivial⟩)⟩
    · refine AWP_reg (Rh 2 82 [(0, .ptr 0 0), (3, .ptr 1 0), (4, .ptr 2 0), (11, iA v53.1), (17, bA (v53.1 == 1))] (AOps_done (CD H (fun hb56 H => ?_) (fun hb56 H => ?_))))
      · refine AWP_region ?_
        refine Rh 1 82 [(3, .ptr 1 0), (4, .ptr 2 0), (19, .ptr 0 0)] ?_
        obtain ⟨v57, hv57, H⟩ := bind_some H
        refine AOps_call1 (d := (some 20)) (al := [.ptr 0 0]) ([.ptr 0 0]) (r := sA v57.1) (j := 0) (b' := .cells 101 (TCodes.cs v57.2)) (by kernel_rfl) rfl (s_draw_Codes_Name hv57) (⟨(scl_cl_u8 _ _), trivial, trivial⟩) (⟨(scl_cl_u8 _ _), trivial, trivial⟩) ⟨Nat.zero_lt_one, trivial⟩ trivial rfl (h' := [.row 45 (TSpan.cl v1), .cells 42 [sA ByteArray.empty, sA ByteArray.empty, sA ByteArray.empty, sA ByteArray.empty, iA 0, .ro .full 0 [], .ro .full 0 [], iA 0, sA ByteArray.empty, sA ByteArray.empty, .ro .full 0 [], .ro .full 0 []], .cells 42 [sA x1.gKey, sA x1.gLayer, sA x1.gFlag, sA x1.gSalt, iA x1.gStatus, .sl 3 0 v1.length (.whole 2), .ro .unk x1.gArms.length (TRange.cl x1.gArms), iA x1.gWhen.gOp, sA x1.gWhen.gKind, sA x1.gWhen.gName, .ro .unk x1.gWhen.gValues.length (TValue.cl x1.gWhen.gValues), .ro .unk x1.gWhen.gKids.length (TExpr.cl x1.gWhen.gKids)], .cells 101 (TCodes.cs v57.2)]) rfl ?_
        refine R 2 82 [(3, .ptr 1 0), (4, .ptr 2 0)] [.row 45 (TSpan.cl v1), .cells 42 [sA ByteArray.empty, sA ByteArray.empty, sA ByteArray.empty, sA ByteArray.empty, iA 0, .ro .full 0 [], .ro .full 0 [], iA 0, sA ByteArray.empty, sA ByteArray.empty, .ro .full 0 [], .ro .full 0 []], .cells 42 [sA x1.gKey, sA v57.1, sA x1.gFlag, sA x1.gSalt, iA x1.gStatus, .sl 3 0 v1.length (.whole 2), .ro .unk x1.gArms.length (TRange.cl x1.gArms), iA x1.gWhen.gOp, sA x1.gWhen.gKind, sA x1.gWhen.gName, .ro .unk x1.gWhen.gValues.length (TValue.cl x1.gWhen.gValues), .ro .unk x1.gWhen.gKids.length (TExpr.cl x1.gWhen.gKids)], .cells 101 (TCodes.cs v57.2)] (AOps_done ?_)
        exact Exists.intro (v57.2.glist, v57.2.gat, x1.gKey, v57.1, x1.gFlag, x1.gStatus, v1, x1.gArms, x1.gWhen.gOp, x1.gWhen.gKind, x1.gWhen.gName, x1.gWhen.gValues, x1.gWhen.gKids) ⟨⟨n, by omega, H⟩, Norm_fd [3, 4] 0 (by kernel_rfl) rfl rfl ⟨(scl_TSpan_cl _ _), ⟨trivial, trivial, trivial, trivial, trivial, trivial, trivial, trivial, trivial, trivial, trivial, trivial, trivial⟩, ⟨trivial, trivial, trivial, trivial, trivial, (sc_sl rfl), (scl_TRange_cl _ _), trivial, trivial, trivial, (scl_TValue_cl _ _), (scl_TExpr_cl _ _), trivial⟩, ⟨(scl_cl_u8 _ _), trivial, trivial⟩, trivial⟩ (by refine scL_fr ?_; exact ⟨(sc_ptr rfl), (sc_ptr rfl), trivial⟩)⟩
      · refine AWP_reg (Rh 2 82 [(0, .ptr 0 0), (3, .ptr 1 0), (4, .ptr 2 0), (11, iA v53.1), (22, bA (v53.1 == 2))] (AOps_done (CD H (fun hb58 H => ?_) (fun hb58 H => ?_))))
        · refine AWP_region ?_
          refine Rh 1 82 [(3, .ptr 1 0), (4, .ptr 2 0), (24, .ptr 0 0)] ?_
          obtain ⟨v59, hv59, H⟩ := bind_some H
          refine AOps_call1 (d := (some 25)) (al := [.ptr 0 0]) ([.ptr 0 0]) (r := sA v59.1) (j := 0) (b' := .cells 101 (TCodes.cs v59.2)) (by kernel_rfl) rfl (s_draw_Codes_Name hv59) (⟨(scl_cl_u8 _ _), trivial, trivial⟩) (⟨(scl_cl_u8 _ _), trivial, trivial⟩) ⟨Nat.zero_lt_one, trivial⟩ trivial rfl (h' := [.row 45 (TSpan.cl v1), .cells 42 [sA ByteArray.empty, sA ByteArray.empty, sA ByteArray.empty, sA ByteArray.empty, iA 0, .ro .full 0 [], .ro .full 0 [], iA 0, sA ByteArray.empty, sA ByteArray.empty, .ro .full 0 [], .ro .full 0 []], .cells 42 [sA x1.gKey, sA x1.gLayer, sA x1.gFlag, sA x1.gSalt, iA x1.gStatus, .sl 3 0 v1.length (.whole 2), .ro .unk x1.gArms.length (TRange.cl x1.gArms), iA x1.gWhen.gOp, sA x1.gWhen.gKind, sA x1.gWhen.gName, .ro .unk x1.gWhen.gValues.length (TValue.cl x1.gWhen.gValues), .ro .unk x1.gWhen.gKids.length (TExpr.cl x1.gWhen.gKids)], .cells 101 (TCodes.cs v59.2)]) rfl ?_
          refine R 2 82 [(3, .ptr 1 0), (4, .ptr 2 0)] [.row 45 (TSpan.cl v1), .cells 42 [sA ByteArray.empty, sA ByteArray.empty, sA ByteArray.empty, sA ByteArray.empty, iA 0, .ro .full 0 [], .ro .full 0 [], iA 0, sA ByteArray.empty, sA ByteArray.empty, .ro .full 0 [], .ro .full 0 []], .cells 42 [sA x1.gKey, sA x1.gLayer, sA v59.1, sA x1.gSalt, iA x1.gStatus, .sl 3 0 v1.length (.whole 2), .ro .unk x1.gArms.length (TRange.cl x1.gArms), iA x1.gWhen.gOp, sA x1.gWhen.gKind, sA x1.gWhen.gName, .ro .unk x1.gWhen.gValues.length (TValue.cl x1.gWhen.gValues), .ro .unk x1.gWhen.gKids.length (TExpr.cl x1.gWhen.gKids)], .cells 101 (TCodes.cs v59.2)] (AOps_done ?_)
          exact Exists.intro (v59.2.glist, v59.2.gat, x1.gKey, x1.gLayer, v59.1, x1.gStatus, v1, x1.gArms, x1.gWhen.gOp, x1.gWhen.gKind, x1.gWhen.gName, x1.gWhen.gValues, x1.gWhen.gKids) ⟨⟨n, by omega, H⟩, Norm_fd [3, 4] 0 (by kernel_rfl) rfl rfl ⟨(scl_TSpan_cl _ _), ⟨trivial, trivial, trivial, trivial, trivial, trivial, trivial, trivial, trivial, trivial, trivial, trivial, trivial⟩, ⟨trivial, trivial, trivial, trivial, trivial, (sc_sl rfl), (scl_TRange_cl _ _), trivial, trivial, trivial, (scl_TValue_cl _ _), (scl_TExpr_cl _ _), trivial⟩, ⟨(scl_cl_u8 _ _), trivial, trivial⟩, trivial⟩ (by refine scL_fr ?_; exact ⟨(sc_ptr rfl), (sc_ptr rfl), trivial⟩)⟩
        · refine AWP_reg (Rh 2 82 [(0, .ptr 0 0), (3, .ptr 1 0), (4, .ptr 2 0), (11, iA v53.1), (27, bA (v53.1 == 3))] (AOps_done (CD H (fun hb60 H => ?_) (fun hb60 H => ?_))))
          · refine AWP_region ?_
            refine Rh 1 82 [(3, .ptr 1 0), (4, .ptr 2 0), (29, .ptr 0 0)] ?_
            obtain ⟨v61, hv61, H⟩ := bind_some H
            refine AOps_call1 (d := (some 30)) (al := [.ptr 0 0, iA 6]) ([.ptr 0 0, iA 6]) (r := iA v61.1) (j := 0) (b' := .cells 101 (TCodes.cs v61.2)) (by kernel_rfl) rfl (s_draw_Codes_Next hv61) (⟨(scl_cl_u8 _ _), trivial, trivial⟩) (⟨(scl_cl_u8 _ _), trivial, trivial⟩) ⟨Nat.zero_lt_one, trivial, trivial⟩ trivial rfl (h' := [.row 45 (TSpan.cl v1), .cells 42 [sA ByteArray.empty, sA ByteArray.empty, sA ByteArray.empty, sA ByteArray.empty, iA 0, .ro .full 0 [], .ro .full 0 [], iA 0, sA ByteArray.empty, sA ByteArray.empty, .ro .full 0 [], .ro .full 0 []], .cells 42 [sA x1.gKey, sA x1.gLayer, sA x1.gFlag, sA x1.gSalt, iA x1.gStatus, .sl 3 0 v1.length (.whole 2), .ro .unk x1.gArms.length (TRange.cl x1.gArms), iA x1.gWhen.gOp, sA x1.gWhen.gKind, sA x1.gWhen.gName, .ro .unk x1.gWhen.gValues.length (TValue.cl x1.gWhen.gValues), .ro .unk x1.gWhen.gKids.length (TExpr.cl x1.gWhen.gKids)], .cells 101 (TCodes.cs v61.2)]) rfl ?_
            refine R 3 82 [(3, .ptr 1 0), (4, .ptr 2 0)] [.row 45 (TSpan.cl v1), .cells 42 [sA ByteArray.empty, sA ByteArray.empty, sA ByteArray.empty, sA ByteArray.empty, iA 0, .ro .full 0 [], .ro .full 0 [], iA 0, sA ByteArray.empty, sA ByteArray.empty, .ro .full 0 [], .ro .full 0 []], .cells 42 [sA x1.gKey, sA x1.gLayer, sA x1.gFlag, sA x1.gSalt, iA (w64 (v61.1 - 1)), .sl 3 0 v1.length (.whole 2), .ro .unk x1.gArms.length (TRange.cl x1.gArms), iA x1.gWhen.gOp, sA x1.gWhen.gKind, sA x1.gWhen.gName, .ro .unk x1.gWhen.gValues.length (TValue.cl x1.gWhen.gValues), .ro .unk x1.gWhen.gKids.length (TExpr.cl x1.gWhen.gKids)], .cells 101 (TCodes.cs v61.2)] (AOps_done ?_)
            exact Exists.intro (v61.2.glist, v61.2.gat, x1.gKey, x1.gLayer, x1.gFlag, w64 (v61.1 - 1), v1, x1.gArms, x1.gWhen.gOp, x1.gWhen.gKind, x1.gWhen.gName, x1.gWhen.gValues, x1.gWhen.gKids) ⟨⟨n, by omega, H⟩, Norm_fd [3, 4] 0 (by kernel_rfl) rfl rfl ⟨(scl_TSpan_cl _ _), ⟨trivial, trivial, trivial, trivial, trivial, trivial, trivial, trivial, trivial, trivial, trivial, trivial, trivial⟩, ⟨trivial, trivial, trivial, trivial, trivial, (sc_sl rfl), (scl_TRange_cl _ _), trivial, trivial, trivial, (scl_TValue_cl _ _), (scl_TExpr_cl _ _), trivial⟩, ⟨(scl_cl_u8 _ _), trivial, trivial⟩, trivial⟩ (by refine scL_fr ?_; exact ⟨(sc_ptr rfl), (sc_ptr rfl), trivial⟩)⟩
          · refine AWP_reg (Rh 2 82 [(0, .ptr 0 0), (3, .ptr 1 0), (4, .ptr 2 0), (11, iA v53.1), (33, bA (v53.1 == 4))] (AOps_done (CD H (fun hb62 H => ?_) (fun hb62 H => ?_))))
            · obtain ⟨v63, hv63, H⟩ := bind_some H
              obtain ⟨v64, hv64, H⟩ := bind_some H
              obtain ⟨v65, hv65, H⟩ := bind_some H
              refine AWP_regE1 [0, 1, 2, 4, 3, 5, 6, 7, 8, 9, 10] (N := 82) (f := [(0, .ptr 0 0), (3, .ptr 1 0), (4, .ptr 2 0)]) (leL_of [0, 3, 4] (by kernel_rfl)) mixed (by kernel_rfl) (by kernel_rfl) (st' := fr 82 [(3, .ptr 1 0), (4, .ptr 2 0)]) (h' := [.row 45 (TSpan.cl v65), .dead, .cells 42 [sA ByteArray.empty, sA ByteArray.empty, sA ByteArray.empty, sA ByteArray.empty, iA 0, .ro .full 0 [], .ro .full 0 [], iA 0, sA ByteArray.empty, sA ByteArray.empty, .ro .full 0 [], .ro .full 0 []], .cells 42 [sA x1.gKey, sA x1.gLayer, sA x1.gFlag, sA x1.gSalt, iA x1.gStatus, .sl 4 0 v65.length (.whole 2), .ro .unk x1.gArms.length (TRange.cl x1.gArms), iA x1.gWhen.gOp, sA x1.gWhen.gKind, sA x1.gWhen.gName, .ro .unk x1.gWhen.gValues.length (TValue.cl x1.gWhen.gValues), .ro .unk x1.gWhen.gKids.length (TExpr.cl x1.gWhen.gKids)], .cells 101 (TCodes.cs v64.2)]) ?_ ?_
              rotate_left
              · refine RD 4 82 [(1, 1), (0, 1)] [(0, .ptr 0 0), (3, .ptr 1 0), (4, .ptr 2 0), (35, .ptr 1 5), (36, .sl 3 0 v1.length (.whole 2)), (37, .ptr 0 0), (39, .ptr 0 0)] (AD_call1 (d := (some 38)) (al := [.ptr 0 0]) ([.ptr 0 0]) (r := iA v63.1) (j := 0) (b' := .cells 101 (TCodes.cs v63.2)) (by kernel_rfl) rfl (s_draw_Codes_Number hv63) (⟨(scl_cl_u8 _ _), trivial, trivial⟩) (⟨(scl_cl_u8 _ _), trivial, trivial⟩) ⟨Nat.zero_lt_one, trivial⟩ trivial rfl (h' := [.row 45 (TSpan.cl v1), .cells 42 [sA ByteArray.empty, sA ByteArray.empty, sA ByteArray.empty, sA ByteArray.empty, iA 0, .ro .full 0 [], .ro .full 0 [], iA 0, sA ByteArray.empty, sA ByteArray.empty, .ro .full 0 [], .ro .full 0 []], .cells 42 [sA x1.gKey, sA x1.gLayer, sA x1.gFlag, sA x1.gSalt, iA x1.gStatus, .sl 3 0 v1.length (.whole 2), .ro .unk x1.gArms.length (TRange.cl x1.gArms), iA x1.gWhen.gOp, sA x1.gWhen.gKind, sA x1.gWhen.gName, .ro .unk x1.gWhen.gValues.length (TValue.cl x1.gWhen.gValues), .ro .unk x1.gWhen.gKids.length (TExpr.cl x1.gWhen.gKids)], .cells 101 (TCodes.cs v63.2)]) rfl ?_)
                refine AD_call1 (d := (some 40)) (al := [.ptr 0 0]) ([.ptr 0 0]) (r := iA v64.1) (j := 0) (b' := .cells 101 (TCodes.cs v64.2)) (by kernel_rfl) rfl (s_draw_Codes_Number hv64) (⟨(scl_cl_u8 _ _), trivial, trivial⟩) (⟨(scl_cl_u8 _ _), trivial, trivial⟩) ⟨Nat.zero_lt_one, trivial⟩ trivial rfl (h' := [.row 45 (TSpan.cl v1), .cells 42 [sA ByteArray.empty, sA ByteArray.empty, sA ByteArray.empty, sA ByteArray.empty, iA 0, .ro .full 0 [], .ro .full 0 [], iA 0, sA ByteArray.empty, sA ByteArray.empty, .ro .full 0 [], .ro .full 0 []], .cells 42 [sA x1.gKey, sA x1.gLayer, sA x1.gFlag, sA x1.gSalt, iA x1.gStatus, .sl 3 0 v1.length (.whole 2), .ro .unk x1.gArms.length (TRange.cl x1.gArms), iA x1.gWhen.gOp, sA x1.gWhen.gKind, sA x1.gWhen.gName, .ro .unk x1.gWhen.gValues.length (TValue.cl x1.gWhen.gValues), .ro .unk x1.gWhen.gKids.length (TExpr.cl x1.gWhen.gKids)], .cells 101 (TCodes.cs v64.2)]) rfl ?_
                refine RD 1 82 [(1, 1), (0, 1)] [(0, .ptr 0 0), (3, .ptr 1 0), (4, .ptr 2 0), (35, .ptr 1 5), (36, .sl 3 0 v1.length (.whole 2)), (37, .ptr 0 0), (38, iA v63.1), (39, .ptr 0 0), (40, iA v64.1), (41, .agg [iA v63.1, iA v64.1])] (AD_bsl (d := (some 42)) (m := 1) (cs := [iA v63.1, iA v64.1]) (by kernel_rfl) ⟨trivial, trivial, trivial⟩ ?_)
                refine AD_append (d := (some 43)) (c := TSpan.cs) (sz := 2) (bs := 16) (e := 45) (id := 3) (xs := v1) (ys := [({ gFrom := v63.1, gTo := v64.1 } : TSpan)]) (by kernel_rfl) rfl (eq_TSpan_cl _) rfl (eq_TSpan_cl _) (fun _ => rfl) (by kernel_rfl) (by kernel_rfl) hv65 (eq_TSpan_cl _) (by kernel_rfl) (h' := [.row 45 (TSpan.cl v65), .dead, .cells 42 [sA ByteArray.empty, sA ByteArray.empty, sA ByteArray.empty, sA ByteArray.empty, iA 0, .ro .full 0 [], .ro .full 0 [], iA 0, sA ByteArray.empty, sA ByteArray.empty, .ro .full 0 [], .ro .full 0 []], .cells 42 [sA x1.gKey, sA x1.gLayer, sA x1.gFlag, sA x1.gSalt, iA x1.gStatus, .sl 3 0 v1.length (.whole 2), .ro .unk x1.gArms.length (TRange.cl x1.gArms), iA x1.gWhen.gOp, sA x1.gWhen.gKind, sA x1.gWhen.gName, .ro .unk x1.gWhen.gValues.length (TValue.cl x1.gWhen.gValues), .ro .unk x1.gWhen.gKids.length (TExpr.cl x1.gWhen.gKids)], .cells 101 (TCodes.cs v64.2)]) rfl ?_
                refine RD 1 82 [(9, 1), (1, 1), (0, 1)] [(0, .ptr 0 0), (3, .ptr 1 0), (4, .ptr 2 0), (35, .ptr 1 5), (36, .sl 3 0 v1.length (.whole 2)), (37, .ptr 0 0), (38, iA v63.1), (39, .ptr 0 0), (40, iA v64.1), (41, .agg [iA v63.1, iA v64.1]), (42, .ro .unk ([({ gFrom := v63.1, gTo := v64.1 } : TSpan)]).length (TSpan.cl ([({ gFrom := v63.1, gTo := v64.1 } : TSpan)]))), (43, .sl 4 0 v65.length (.whole 2)), (44, .ptr 1 5)] (AD_store (d := none) (id := 1) (h' := [.row 45 (TSpan.cl v65), .dead, .cells 42 [sA ByteArray.empty, sA ByteArray.empty, sA ByteArray.empty, sA ByteArray.empty, iA 0, .ro .full 0 [], .ro .full 0 [], iA 0, sA ByteArray.empty, sA ByteArray.empty, .ro .full 0 [], .ro .full 0 []], .cells 42 [sA x1.gKey, sA x1.gLayer, sA x1.gFlag, sA x1.gSalt, iA x1.gStatus, .sl 4 0 v65.length (.whole 2), .ro .unk x1.gArms.length (TRange.cl x1.gArms), iA x1.gWhen.gOp, sA x1.gWhen.gKind, sA x1.gWhen.gName, .ro .unk x1.gWhen.gValues.length (TValue.cl x1.gWhen.gValues), .ro .unk x1.gWhen.gKids.length (TExpr.cl x1.gWhen.gKids)], .cells 101 (TCodes.cs v64.2)]) (by kernel_rfl) (by kernel_rfl) ?_)
                exact AD_here [3, 4] (by kernel_rfl) rfl
              exact Exists.intro (v64.2.glist, v64.2.gat, x1.gKey, x1.gLayer, x1.gFlag, x1.gStatus, v65, x1.gArms, x1.gWhen.gOp, x1.gWhen.gKind, x1.gWhen.gName, x1.gWhen.gValues, x1.gWhen.gKids) ⟨⟨n, by omega, H⟩, Norm_trans (Norm_fd (st' := fr 82 [(3, .ptr 1 0), (4, .ptr 2 0)]) (h' := [.row 45 (TSpan.cl v65), .dead, .cells 42 [sA ByteArray.empty, sA ByteArray.empty, sA ByteArray.empty, sA ByteArray.empty, iA 0, .ro .full 0 [], .ro .full 0 [], iA 0, sA ByteArray.empty, sA ByteArray.empty, .ro .full 0 [], .ro .full 0 []], .cells 42 [sA x1.gKey, sA x1.gLayer, sA x1.gFlag, sA x1.gSalt, iA x1.gStatus, .sl 4 0 v65.length (.whole 2), .ro .unk x1.gArms.length (TRange.cl x1.gArms), iA x1.gWhen.gOp, sA x1.gWhen.gKind, sA x1.gWhen.gName, .ro .unk x1.gWhen.gValues.length (TValue.cl x1.gWhen.gValues), .ro .unk x1.gWhen.gKids.length (TExpr.cl x1.gWhen.gKids)], .cells 101 (TCodes.cs v64.2)]) [3, 4] 0 (by kernel_rfl) rfl rfl ⟨(scl_TSpan_cl _ _), trivial, ⟨trivial, trivial, trivial, trivial, trivial, trivial, trivial, trivial, trivial, trivial, trivial, trivial, trivial⟩, ⟨trivial, trivial, trivial, trivial, trivial, (sc_sl rfl), (scl_TRange_cl _ _), trivial, trivial, trivial, (scl_TValue_cl _ _), (scl_TExpr_cl _ _), trivial⟩, ⟨(scl_cl_u8 _ _), trivial, trivial⟩, trivial⟩ (by refine scL_fr ?_; exact ⟨(sc_ptr rfl), (sc_ptr rfl), trivial⟩)) (Norm_trans (Norm_move' (st' := fr 82 [(3, .ptr 1 0), (4, .ptr 2 0)]) (h' := [.row 45 (TSpan.cl v65), .cells 42 [sA ByteArray.empty, sA ByteArray.empty, sA ByteArray.empty, sA ByteArray.empty, iA 0, .ro .full 0 [], .ro .full 0 [], iA 0, sA ByteArray.empty, sA ByteArray.empty, .ro .full 0 [], .ro .full 0 []], .cells 42 [sA x1.gKey, sA x1.gLayer, sA x1.gFlag, sA x1.gSalt, iA x1.gStatus, .sl 3 0 v65.length (.whole 2), .ro .unk x1.gArms.length (TRange.cl x1.gArms), iA x1.gWhen.gOp, sA x1.gWhen.gKind, sA x1.gWhen.gName, .ro .unk x1.gWhen.gValues.length (TValue.cl x1.gWhen.gValues), .ro .unk x1.gWhen.gKids.length (TExpr.cl x1.gWhen.gKids)], .cells 101 (TCodes.cs v64.2)]) 3 4 rfl rfl rfl (fun h => by cases h) (by refine toOkL_fr ?_; exact ⟨(toOk_ptr rfl), (toOk_ptr rfl), trivial⟩) ⟨(on0 (scl_TSpan_cl _ _)), trivial, ⟨trivial, trivial, trivial, trivial, trivial, trivial, trivial, trivial, trivial, trivial, trivial, trivial, trivial⟩, ⟨trivial, trivial, trivial, trivial, trivial, (toOk_sl rfl), (on0 (scl_TRange_cl _ _)), trivial, trivial, trivial, (on0 (scl_TValue_cl _ _)), (on0 (scl_TExpr_cl _ _)), trivial⟩, ⟨(on0 (scl_cl_u8 _ _)), trivial, trivial⟩, trivial⟩ (by kernel_rfl) (by kernel_rfl)) (Norm_fd [3, 4] 0 (by kernel_rfl) rfl rfl ⟨(scl_TSpan_cl _ _), ⟨trivial, trivial, trivial, trivial, trivial, trivial, trivial, trivial, trivial, trivial, trivial, trivial, trivial⟩, ⟨trivial, trivial, trivial, trivial, trivial, (sc_sl rfl), (scl_TRange_cl _ _), trivial, trivial, trivial, (scl_TValue_cl _ _), (scl_TExpr_cl _ _), trivial⟩, ⟨(scl_cl_u8 _ _), trivial, trivial⟩, trivial⟩ (by refine scL_fr ?_; exact ⟨(sc_ptr rfl), (sc_ptr rfl), trivial⟩)))⟩
            · refine AWP_reg (Rh 2 82 [(0, .ptr 0 0), (3, .ptr 1 0), (4, .ptr 2 0), (11, iA v53.1), (45, bA (v53.1 == 5))] (AOps_done (CD H (fun hb66 H => ?_) (fun hb66 H => ?_))))
              · refine AWP_reg (R 2 82 [(0, .ptr 0 0), (3, .ptr 1 0), (4, .ptr 2 0)] [.row 45 (TSpan.cl v1), .cells 42 [sA ByteArray.empty, sA ByteArray.empty, sA ByteArray.empty, sA ByteArray.empty, iA 0, .ro .full 0 [], .ro .full 0 [], iA 0, sA ByteArray.empty, sA ByteArray.empty, .ro .full 0 [], .ro .full 0 []], .cells 42 [sA x1.gKey, sA x1.gLayer, sA x1.gFlag, sA x1.gSalt, iA x1.gStatus, .ro .full 0 [], .ro .unk x1.gArms.length (TRange.cl x1.gArms), iA x1.gWhen.gOp, sA x1.gWhen.gKind, sA x1.gWhen.gName, .ro .unk x1.gWhen.gValues.length (TValue.cl x1.gWhen.gValues), .ro .unk x1.gWhen.gKids.length (TExpr.cl x1.gWhen.gKids)], .cells 101 (TCodes.cs v53.2)] (AOps_done (AWP_reg (Rh 1 82 [(0, .ptr 0 0), (3, .ptr 1 0), (4, .ptr 2 0), (5, iA 0)] (AOps_done (AWP_block ?_))))))
                refine AWP_loopN (α := Int × (List Int) × Int × (List TSpan)) (fun ⟨v77, v78, v79, v80⟩ => fr 82 [(0, .ptr 0 0), (3, .ptr 1 0), (4, .ptr 2 0), (5, iA v77)]) (fun ⟨v77, v78, v79, v80⟩ => [.row 45 (TSpan.cl v80), .dead, .cells 42 [sA ByteArray.empty, sA ByteArray.empty, sA ByteArray.empty, sA ByteArray.empty, iA 0, .ro .full 0 [], .ro .full 0 [], iA 0, sA ByteArray.empty, sA ByteArray.empty, .ro .full 0 [], .ro .full 0 []], .cells 42 [sA x1.gKey, sA x1.gLayer, sA x1.gFlag, sA x1.gSalt, iA x1.gStatus, .sl 4 0 v80.length (.whole 2), .ro .unk x1.gArms.length (TRange.cl x1.gArms), iA x1.gWhen.gOp, sA x1.gWhen.gKind, sA x1.gWhen.gName, .ro .unk x1.gWhen.gValues.length (TValue.cl x1.gWhen.gValues), .ro .unk x1.gWhen.gKids.length (TExpr.cl x1.gWhen.gKids)], .cells 101 [.ro .unk v78.length (cl_u8 v78), iA v79]]) (fun k_ ⟨v77, v78, v79, v80⟩ => k_ ≤ n ∧ p_draw_Codes_Experiment_L1 k_ x1 v77 v78 v79 v80 = some r) (fun n a H => ?_) (k := n) (0, v53.2.glist, v53.2.gat, []) ⟨Nat.le_refl _, H⟩ (Norm_trans (Norm_fd (st' := fr 82 [(0, .ptr 0 0), (3, .ptr 1 0), (4, .ptr 2 0), (5, iA 0)]) (h' := [.row 45 (TSpan.cl v1), .cells 42 [sA ByteArray.empty, sA ByteArray.empty, sA ByteArray.empty, sA ByteArray.empty, iA 0, .ro .full 0 [], .ro .full 0 [], iA 0, sA ByteArray.empty, sA ByteArray.empty, .ro .full 0 [], .ro .full 0 []], .cells 42 [sA x1.gKey, sA x1.gLayer, sA x1.gFlag, sA x1.gSalt, iA x1.gStatus, .ro .full 0 [], .ro .unk x1.gArms.length (TRange.cl x1.gArms), iA x1.gWhen.gOp, sA x1.gWhen.gKind, sA x1.gWhen.gName, .ro .unk x1.gWhen.gValues.length (TValue.cl x1.gWhen.gValues), .ro .unk x1.gWhen.gKids.length (TExpr.cl x1.gWhen.gKids)], .cells 101 (TCodes.cs v53.2)]) [0, 3, 4, 5] 0 (by kernel_rfl) rfl rfl ⟨(scl_TSpan_cl _ _), ⟨trivial, trivial, trivial, trivial, trivial, trivial, trivial, trivial, trivial, trivial, trivial, trivial, trivial⟩, ⟨trivial, trivial, trivial, trivial, trivial, trivial, (scl_TRange_cl _ _), trivial, trivial, trivial, (scl_TValue_cl _ _), (scl_TExpr_cl _ _), trivial⟩, ⟨(scl_cl_u8 _ _), trivial, trivial⟩, trivial⟩ (by refine scL_fr ?_; exact ⟨(sc_ptr rfl), (sc_ptr rfl), (sc_ptr rfl), trivial, trivial⟩)) (Norm_trans (Norm_kill 3 (h' := [.dead, .cells 42 [sA ByteArray.empty, sA ByteArray.empty, sA ByteArray.empty, sA ByteArray.empty, iA 0, .ro .full 0 [], .ro .full 0 [], iA 0, sA ByteArray.empty, sA ByteArray.empty, .ro .full 0 [], .ro .full 0 []], .cells 42 [sA x1.gKey, sA x1.gLayer, sA x1.gFlag, sA x1.gSalt, iA x1.gStatus, .ro .full 0 [], .ro .unk x1.gArms.length (TRange.cl x1.gArms), iA x1.gWhen.gOp, sA x1.gWhen.gKind, sA x1.gWhen.gName, .ro .unk x1.gWhen.gValues.length (TValue.cl x1.gWhen.gValues), .ro .unk x1.gWhen.gKids.length (TExpr.cl x1.gWhen.gKids)], .cells 101 (TCodes.cs v53.2)]) rfl rfl) (Norm_trans (Norm_nilc' (st := fr 82 [(0, .ptr 0 0), (3, .ptr 1 0), (4, .ptr 2 0), (5, iA 0)]) (ty := 42) (cs := [sA x1.gKey, sA x1.gLayer, sA x1.gFlag, sA x1.gSalt, iA x1.gStatus, .ro .full 0 [], .ro .unk x1.gArms.length (TRange.cl x1.gArms), iA x1.gWhen.gOp, sA x1.gWhen.gKind, sA x1.gWhen.gName, .ro .unk x1.gWhen.gValues.length (TValue.cl x1.gWhen.gValues), .ro .unk x1.gWhen.gKids.length (TExpr.cl x1.gWhen.gKids)]) (h' := [.row 45 (TSpan.cl ([])), .dead, .cells 42 [sA ByteArray.empty, sA ByteArray.empty, sA ByteArray.empty, sA ByteArray.empty, iA 0, .ro .full 0 [], .ro .full 0 [], iA 0, sA ByteArray.empty, sA ByteArray.empty, .ro .full 0 [], .ro .full 0 []], .cells 42 [sA x1.gKey, sA x1.gLayer, sA x1.gFlag, sA x1.gSalt, iA x1.gStatus, .sl 4 0 ([] : List TSpan).length (.whole 2), .ro .unk x1.gArms.length (TRange.cl x1.gArms), iA x1.gWhen.gOp, sA x1.gWhen.gKind, sA x1.gWhen.gName, .ro .unk x1.gWhen.gValues.length (TValue.cl x1.gWhen.gValues), .ro .unk x1.gWhen.gKids.length (TExpr.cl x1.gWhen.gKids)], .cells 101 (TCodes.cs v53.2)]) 1 5 4 45 2 rfl rfl (by kernel_rfl) (by kernel_rfl)) (Norm_fd [0, 3, 4, 5] 0 (by kernel_rfl) rfl rfl ⟨(scl_TSpan_cl _ _), trivial, ⟨trivial, trivial, trivial, trivial, trivial, trivial, trivial, trivial, trivial, trivial, trivial, trivial, trivial⟩, ⟨trivial, trivial, trivial, trivial, trivial, (sc_sl rfl), (scl_TRange_cl _ _), trivial, trivial, trivial, (scl_TValue_cl _ _), (scl_TExpr_cl _ _), trivial⟩, ⟨(scl_cl_u8 _ _), trivial, trivial⟩, trivial⟩ (by refine scL_fr ?_; exact ⟨(sc_ptr rfl), (sc_ptr rfl), (sc_ptr rfl), trivial, trivial⟩)))))
                obtain ⟨v77, v78, v79, v80⟩ := a
                show AWP _ _ _ _ _ (fr 82 [(0, .ptr 0 0), (3, .ptr 1 0), (4, .ptr 2 0), (5, iA v77)]) [.row 45 (TSpan.cl v80), .dead, .cells 42 [sA ByteArray.empty, sA ByteArray.empty, sA ByteArray.empty, sA ByteArray.empty, iA 0, .ro .full 0 [], .ro .full 0 [], iA 0, sA ByteArray.empty, sA ByteArray.empty, .ro .full 0 [], .ro .full 0 []], .cells 42 [sA x1.gKey, sA x1.gLayer, sA x1.gFlag, sA x1.gSalt, iA x1.gStatus, .sl 4 0 v80.length (.whole 2), .ro .unk x1.gArms.length (TRange.cl x1.gArms), iA x1.gWhen.gOp, sA x1.gWhen.gKind, sA x1.gWhen.gName, .ro .unk x1.gWhen.gValues.length (TValue.cl x1.gWhen.gValues), .ro .unk x1.gWhen.gKids.length (TExpr.cl x1.gWhen.gKids)], .cells 101 [.ro .unk v78.length (cl_u8 v78), iA v79]]
                obtain ⟨hb_, H⟩ := H
                replace H : p_draw_Codes_Experiment_L1 n x1 v77 v78 v79 v80 = some r := H
                cases n with
                | zero => exact not_none (by simpa only [p_draw_Codes_Experiment_L1] using H)
                | succ n =>
                  unfold p_draw_Codes_Experiment_L1 at H
                  refine AWP_seq (AWP_reg (Rh 2 82 [(0, .ptr 0 0), (3, .ptr 1 0), (4, .ptr 2 0), (5, iA v77), (48, iA v77), (49, .ptr 0 0)] ?_))
                  obtain ⟨v81, hv81, H⟩ := bind_some H
                  refine AOps_call1 (d := (some 50)) (al := [.ptr 0 0, iA 2]) ([.ptr 0 0, iA 2]) (r := iA v81.1) (j := 0) (b' := .cells 101 (TCodes.cs v81.2)) (by kernel_rfl) rfl (s_draw_Codes_Next hv81) (⟨(scl_cl_u8 _ _), trivial, trivial⟩) (⟨(scl_cl_u8 _ _), trivial, trivial⟩) ⟨Nat.zero_lt_one, trivial, trivial⟩ trivial rfl (h' := [.row 45 (TSpan.cl v80), .dead, .cells 42 [sA ByteArray.empty, sA ByteArray.empty, sA ByteArray.empty, sA ByteArray.empty, iA 0, .ro .full 0 [], .ro .full 0 [], iA 0, sA ByteArray.empty, sA ByteArray.empty, .ro .full 0 [], .ro .full 0 []], .cells 42 [sA x1.gKey, sA x1.gLayer, sA x1.gFlag, sA x1.gSalt, iA x1.gStatus, .sl 4 0 v80.length (.whole 2), .ro .unk x1.gArms.length (TRange.cl x1.gArms), iA x1.gWhen.gOp, sA x1.gWhen.gKind, sA x1.gWhen.gName, .ro .unk x1.gWhen.gValues.length (TValue.cl x1.gWhen.gValues), .ro .unk x1.gWhen.gKids.length (TExpr.cl x1.gWhen.gKids)], .cells 101 (TCodes.cs v81.2)]) rfl ?_
                  refine Rh 2 82 [(0, .ptr 0 0), (3, .ptr 1 0), (4, .ptr 2 0), (5, iA v77), (52, bA (decide (v77 < (w64 (16 + v81.1)))))] (AOps_done (CD H (fun hb82 H => ?_) (fun hb82 H => ?_)))
                  · refine AWP_skip ?_
                    show AWP _ _ _ _ _ _ _
                    refine AWP_seq (AWP_block ?_)
                    refine AWP_region ?_
                    refine Rh 8 82 [(0, .ptr 0 0), (3, .ptr 1 0), (4, .ptr 2 0), (5, iA v77), (56, .sl 4 0 v80.length (.whole 2)), (62, .agg [iA (w64 (2 * v77)), iA (w64 ((w64 (2 * v77)) + 1))])] (AOps_bsl (d := (some 63)) (m := 1) (cs := [iA (w64 (2 * v77)), iA (w64 ((w64 (2 * v77)) + 1))]) (by kernel_rfl) ⟨trivial, trivial, trivial⟩ ?_)
                    obtain ⟨v83, hv83, H⟩ := bind_some H
                    refine AOps_append (d := (some 64)) (c := TSpan.cs) (sz := 2) (bs := 16) (e := 45) (id := 4) (xs := v80) (ys := [({ gFrom := w64 (2 * v77), gTo := w64 ((w64 (2 * v77)) + 1) } : TSpan)]) (by kernel_rfl) rfl (eq_TSpan_cl _) rfl (eq_TSpan_cl _) (fun _ => rfl) (by kernel_rfl) (by kernel_rfl) hv83 (eq_TSpan_cl _) (h' := [.row 45 (TSpan.cl v83), .dead, .dead, .cells 42 [sA ByteArray.empty, sA ByteArray.empty, sA ByteArray.empty, sA ByteArray.empty, iA 0, .ro .full 0 [], .ro .full 0 [], iA 0, sA ByteArray.empty, sA ByteArray.empty, .ro .full 0 [], .ro .full 0 []], .cells 42 [sA x1.gKey, sA x1.gLayer, sA x1.gFlag, sA x1.gSalt, iA x1.gStatus, .sl 4 0 v80.length (.whole 2), .ro .unk x1.gArms.length (TRange.cl x1.gArms), iA x1.gWhen.gOp, sA x1.gWhen.gKind, sA x1.gWhen.gName, .ro .unk x1.gWhen.gValues.length (TValue.cl x1.gWhen.gValues), .ro .unk x1.gWhen.gKids.length (TExpr.cl x1.gWhen.gKids)], .cells 101 (TCodes.cs v81.2)]) rfl ?_
                    refine R 2 82 [(0, .ptr 0 0), (3, .ptr 1 0), (4, .ptr 2 0), (5, iA v77)] [.row 45 (TSpan.cl v83), .dead, .dead, .cells 42 [sA ByteArray.empty, sA ByteArray.empty, sA ByteArray.empty, sA ByteArray.empty, iA 0, .ro .full 0 [], .ro .full 0 [], iA 0, sA ByteArray.empty, sA ByteArray.empty, .ro .full 0 [], .ro .full 0 []], .cells 42 [sA x1.gKey, sA x1.gLayer, sA x1.gFlag, sA x1.gSalt, iA x1.gStatus, .sl 5 0 v83.length (.whole 2), .ro .unk x1.gArms.length (TRange.cl x1.gArms), iA x1.gWhen.gOp, sA x1.gWhen.gKind, sA x1.gWhen.gName, .ro .unk x1.gWhen.gValues.length (TValue.cl x1.gWhen.gValues), .ro .unk x1.gWhen.gKids.length (TExpr.cl x1.gWhen.gKids)], .cells 101 (TCodes.cs v81.2)] (AOps_done ?_)
                    show AWP _ _ _ _ _ _ _
                    refine AWP_region ?_
                    refine Rh 3 82 [(0, .ptr 0 0), (3, .ptr 1 0), (4, .ptr 2 0), (5, iA (w64 (v77 + 1)))] (AOps_done ?_)
                    exact Exists.intro (w64 (v77 + 1), v81.2.glist, v81.2.gat, v83) (Exists.intro n ⟨by omega, ⟨by omega, H⟩, Norm_trans (Norm_fd (st' := fr 82 [(0, .ptr 0 0), (3, .ptr 1 0), (4, .ptr 2 0), (5, iA (w64 (v77 + 1)))]) (h' := [.row 45 (TSpan.cl v83), .dead, .dead, .cells 42 [sA ByteArray.empty, sA ByteArray.empty, sA ByteArray.empty, sA ByteArray.empty, iA 0, .ro .full 0 [], .ro .full 0 [], iA 0, sA ByteArray.empty, sA ByteArray.empty, .ro .full 0 [], .ro .full 0 []], .cells 42 [sA x1.gKey, sA x1.gLayer, sA x1.gFlag, sA x1.gSalt, iA x1.gStatus, .sl 5 0 v83.length (.whole 2), .ro .unk x1.gArms.length (TRange.cl x1.gArms), iA x1.gWhen.gOp, sA x1.gWhen.gKind, sA x1.gWhen.gName, .ro .unk x1.gWhen.gValues.length (TValue.cl x1.gWhen.gValues), .ro .unk x1.gWhen.gKids.length (TExpr.cl x1.gWhen.gKids)], .cells 101 (TCodes.cs v81.2)]) [0, 3, 4, 5] 0 (by kernel_rfl) rfl rfl ⟨(scl_TSpan_cl _ _), trivial, trivial, ⟨trivial, trivial, trivial, trivial, trivial, trivial, trivial, trivial, trivial, trivial, trivial, trivial, trivial⟩, ⟨trivial, trivial, trivial, trivial, trivial, (sc_sl rfl), (scl_TRange_cl _ _), trivial, trivial, trivial, (scl_TValue_cl _ _), (scl_TExpr_cl _ _), trivial⟩, ⟨(scl_cl_u8 _ _), trivial, trivial⟩, trivial⟩ (by refine scL_fr ?_; exact ⟨(sc_ptr rfl), (sc_ptr rfl), (sc_ptr rfl), trivial, trivial⟩)) (Norm_trans (Norm_move' (st' := fr 82 [(0, .ptr 0 0), (3, .ptr 1 0), (4, .ptr 2 0), (5, iA (w64 (v77 + 1)))]) (h' := [.row 45 (TSpan.cl v83), .dead, .cells 42 [sA ByteArray.empty, sA ByteArray.empty, sA ByteArray.empty, sA ByteArray.empty, iA 0, .ro .full 0 [], .ro .full 0 [], iA 0, sA ByteArray.empty, sA ByteArray.empty, .ro .full 0 [], .ro .full 0 []], .cells 42 [sA x1.gKey, sA x1.gLayer, sA x1.gFlag, sA x1.gSalt, iA x1.gStatus, .sl 4 0 v83.length (.whole 2), .ro .unk x1.gArms.length (TRange.cl x1.gArms), iA x1.gWhen.gOp, sA x1.gWhen.gKind, sA x1.gWhen.gName, .ro .unk x1.gWhen.gValues.length (TValue.cl x1.gWhen.gValues), .ro .unk x1.gWhen.gKids.length (TExpr.cl x1.gWhen.gKids)], .cells 101 (TCodes.cs v81.2)]) 4 5 rfl rfl rfl (fun h => by cases h) (by refine toOkL_fr ?_; exact ⟨(toOk_ptr rfl), (toOk_ptr rfl), (toOk_ptr rfl), trivial, trivial⟩) ⟨(on0 (scl_TSpan_cl _ _)), trivial, trivial, ⟨trivial, trivial, trivial, trivial, trivial, trivial, trivial, trivial, trivial, trivial, trivial, trivial, trivial⟩, ⟨trivial, trivial, trivial, trivial, trivial, (toOk_sl rfl), (on0 (scl_TRange_cl _ _)), trivial, trivial, trivial, (on0 (scl_TValue_cl _ _)), (on0 (scl_TExpr_cl _ _)), trivial⟩, ⟨(on0 (scl_cl_u8 _ _)), trivial, trivial⟩, trivial⟩ (by kernel_rfl) (by kernel_rfl)) (Norm_fd [0, 3, 4, 5] 0 (by kernel_rfl) rfl rfl ⟨(scl_TSpan_cl _ _), trivial, ⟨trivial, trivial, trivial, trivial, trivial, trivial, trivial, trivial, trivial, trivial, trivial, trivial, trivial⟩, ⟨trivial, trivial, trivial, trivial, trivial, (sc_sl rfl), (scl_TRange_cl _ _), trivial, trivial, trivial, (scl_TValue_cl _ _), (scl_TExpr_cl _ _), trivial⟩, ⟨(scl_cl_u8 _ _), trivial, trivial⟩, trivial⟩ (by refine scL_fr ?_; exact ⟨(sc_ptr rfl), (sc_ptr rfl), (sc_ptr rfl), trivial, trivial⟩)))⟩)
                  · refine AWP_exit ?_
                    exact Exists.intro (v81.2.glist, v81.2.gat, x1.gKey, x1.gLayer, x1.gFlag, x1.gStatus, v80, x1.gArms, x1.gWhen.gOp, x1.gWhen.gKind, x1.gWhen.gName, x1.gWhen.gValues, x1.gWhen.gKids) ⟨⟨n, by omega, H⟩, Norm_trans (Norm_fd (st' := fr 82 [(3, .ptr 1 0), (4, .ptr 2 0)]) (h' := [.row 45 (TSpan.cl v80), .dead, .cells 42 [sA ByteArray.empty, sA ByteArray.empty, sA ByteArray.empty, sA ByteArray.empty, iA 0, .ro .full 0 [], .ro .full 0 [], iA 0, sA ByteArray.empty, sA ByteArray.empty, .ro .full 0 [], .ro .full 0 []], .cells 42 [sA x1.gKey, sA x1.gLayer, sA x1.gFlag, sA x1.gSalt, iA x1.gStatus, .sl 4 0 v80.length (.whole 2), .ro .unk x1.gArms.length (TRange.cl x1.gArms), iA x1.gWhen.gOp, sA x1.gWhen.gKind, sA x1.gWhen.gName, .ro .unk x1.gWhen.gValues.length (TValue.cl x1.gWhen.gValues), .ro .unk x1.gWhen.gKids.length (TExpr.cl x1.gWhen.gKids)], .cells 101 (TCodes.cs v81.2)]) [3, 4] 0 (by kernel_rfl) rfl rfl ⟨(scl_TSpan_cl _ _), trivial, ⟨trivial, trivial, trivial, trivial, trivial, trivial, trivial, trivial, trivial, trivial, trivial, trivial, trivial⟩, ⟨trivial, trivial, trivial, trivial, trivial, (sc_sl rfl), (scl_TRange_cl _ _), trivial, trivial, trivial, (scl_TValue_cl _ _), (scl_TExpr_cl _ _), trivial⟩, ⟨(scl_cl_u8 _ _), trivial, trivial⟩, trivial⟩ (by refine scL_fr ?_; exact ⟨(sc_ptr rfl), (sc_ptr rfl), trivial⟩)) (Norm_trans (Norm_move' (st' := fr 82 [(3, .ptr 1 0), (4, .ptr 2 0)]) (h' := [.row 45 (TSpan.cl v80), .cells 42 [sA ByteArray.empty, sA ByteArray.empty, sA ByteArray.empty, sA ByteArray.empty, iA 0, .ro .full 0 [], .ro .full 0 [], iA 0, sA ByteArray.empty, sA ByteArray.empty, .ro .full 0 [], .ro .full 0 []], .cells 42 [sA x1.gKey, sA x1.gLayer, sA x1.gFlag, sA x1.gSalt, iA x1.gStatus, .sl 3 0 v80.length (.whole 2), .ro .unk x1.gArms.length (TRange.cl x1.gArms), iA x1.gWhen.gOp, sA x1.gWhen.gKind, sA x1.gWhen.gName, .ro .unk x1.gWhen.gValues.length (TValue.cl x1.gWhen.gValues), .ro .unk x1.gWhen.gKids.length (TExpr.cl x1.gWhen.gKids)], .cells 101 (TCodes.cs v81.2)]) 3 4 rfl rfl rfl (fun h => by cases h) (by refine toOkL_fr ?_; exact ⟨(toOk_ptr rfl), (toOk_ptr rfl), trivial⟩) ⟨(on0 (scl_TSpan_cl _ _)), trivial, ⟨trivial, trivial, trivial, trivial, trivial, trivial, trivial, trivial, trivial, trivial, trivial, trivial, trivial⟩, ⟨trivial, trivial, trivial, trivial, trivial, (toOk_sl rfl), (on0 (scl_TRange_cl _ _)), trivial, trivial, trivial, (on0 (scl_TValue_cl _ _)), (on0 (scl_TExpr_cl _ _)), trivial⟩, ⟨(on0 (scl_cl_u8 _ _)), trivial, trivial⟩, trivial⟩ (by kernel_rfl) (by kernel_rfl)) (Norm_fd [3, 4] 0 (by kernel_rfl) rfl rfl ⟨(scl_TSpan_cl _ _), ⟨trivial, trivial, trivial, trivial, trivial, trivial, trivial, trivial, trivial, trivial, trivial, trivial, trivial⟩, ⟨trivial, trivial, trivial, trivial, trivial, (sc_sl rfl), (scl_TRange_cl _ _), trivial, trivial, trivial, (scl_TValue_cl _ _), (scl_TExpr_cl _ _), trivial⟩, ⟨(scl_cl_u8 _ _), trivial, trivial⟩, trivial⟩ (by refine scL_fr ?_; exact ⟨(sc_ptr rfl), (sc_ptr rfl), trivial⟩)))⟩
              · refine AWP_joinN (α := Bool) (fun v85 => fr 82 [(0, .ptr 0 0), (3, .ptr 1 0), (4, .ptr 2 0), (11, iA v53.1), (66, bA v85)]) (fun v85 => [.row 45 (TSpan.cl v1), .cells 42 [sA ByteArray.empty, sA ByteArray.empty, sA ByteArray.empty, sA ByteArray.empty, iA 0, .ro .full 0 [], .ro .full 0 [], iA 0, sA ByteArray.empty, sA ByteArray.empty, .ro .full 0 [], .ro .full 0 []], .cells 42 [sA x1.gKey, sA x1.gLayer, sA x1.gFlag, sA x1.gSalt, iA x1.gStatus, .sl 3 0 v1.length (.whole 2), .ro .unk x1.gArms.length (TRange.cl x1.gArms), iA x1.gWhen.gOp, sA x1.gWhen.gKind, sA x1.gWhen.gName, .ro .unk x1.gWhen.gValues.length (TValue.cl x1.gWhen.gValues), .ro .unk x1.gWhen.gKids.length (TExpr.cl x1.gWhen.gKids)], .cells 101 (TCodes.cs v53.2)]) (fun v85 => ∃ q, q ≤ q ∧ p_draw_Codes_Experiment_K2 q x1 v1 v53 v85 = some r) (fun v85 hC => ?_) ?_
                · show AWP _ _ _ _ _ (fr 82 [(0, .ptr 0 0), (3, .ptr 1 0), (4, .ptr 2 0), (11, iA v53.1), (66, bA v85)]) [.row 45 (TSpan.cl v1), .cells 42 [sA ByteArray.empty, sA ByteArray.empty, sA ByteArray.empty, sA ByteArray.empty, iA 0, .ro .full 0 [], .ro .full 0 [], iA 0, sA ByteArray.empty, sA ByteArray.empty, .ro .full 0 [], .ro .full 0 []], .cells 42 [sA x1.gKey, sA x1.gLayer, sA x1.gFlag, sA x1.gSalt, iA x1.gStatus, .sl 3 0 v1.length (.whole 2), .ro .unk x1.gArms.length (TRange.cl x1.gArms), iA x1.gWhen.gOp, sA x1.gWhen.gKind, sA x1.gWhen.gName, .ro .unk x1.gWhen.gValues.length (TValue.cl x1.gWhen.gValues), .ro .unk x1.gWhen.gKids.length (TExpr.cl x1.gWhen.gKids)], .cells 101 (TCodes.cs v53.2)]
                  obtain ⟨n, hn_, hC⟩ := hC
                  replace H : p_draw_Codes_Experiment_K2 n x1 v1 v53 v85 = some r := hC
                  unfold p_draw_Codes_Experiment_K2 at H
                  refine CD H (fun hb86 H => ?_) (fun hb86 H => ?_)
                  · refine AWP_region ?_
                    refine Rh 3 82 [(3, .ptr 1 0), (4, .ptr 2 0), (69, .ptr 0 0), (71, .ro .unk x1.gArms.length (TRange.cl x1.gArms))] ?_
                    obtain ⟨v87, hv87, H⟩ := bind_some H
                    refine AOps_call1 (d := (some 72)) (al := [.ptr 0 0, .ro .unk x1.gArms.length (TRange.cl x1.gArms)]) ([.ptr 0 0, .ro .unk x1.gArms.length (TRange.cl x1.gArms)]) (r := .ro .unk v87.1.length (TRange.cl v87.1)) (j := 0) (b' := .cells 101 (TCodes.cs v87.2)) (by kernel_rfl) rfl (s_draw_Codes_ranges hv87) (⟨(scl_cl_u8 _ _), trivial, trivial⟩) (⟨(scl_cl_u8 _ _), trivial, trivial⟩) ⟨Nat.zero_lt_one, (scl_TRange_cl _ _), trivial⟩ (scl_TRange_cl _ _) rfl (h' := [.row 45 (TSpan.cl v1), .cells 42 [sA ByteArray.empty, sA ByteArray.empty, sA ByteArray.empty, sA ByteArray.empty, iA 0, .ro .full 0 [], .ro .full 0 [], iA 0, sA ByteArray.empty, sA ByteArray.empty, .ro .full 0 [], .ro .full 0 []], .cells 42 [sA x1.gKey, sA x1.gLayer, sA x1.gFlag, sA x1.gSalt, iA x1.gStatus, .sl 3 0 v1.length (.whole 2), .ro .unk x1.gArms.length (TRange.cl x1.gArms), iA x1.gWhen.gOp, sA x1.gWhen.gKind, sA x1.gWhen.gName, .ro .unk x1.gWhen.gValues.length (TValue.cl x1.gWhen.gValues), .ro .unk x1.gWhen.gKids.length (TExpr.cl x1.gWhen.gKids)], .cells 101 (TCodes.cs v87.2)]) rfl ?_
                    refine R 2 82 [(3, .ptr 1 0), (4, .ptr 2 0)] [.row 45 (TSpan.cl v1), .cells 42 [sA ByteArray.empty, sA ByteArray.empty, sA ByteArray.empty, sA ByteArray.empty, iA 0, .ro .full 0 [], .ro .full 0 [], iA 0, sA ByteArray.empty, sA ByteArray.empty, .ro .full 0 [], .ro .full 0 []], .cells 42 [sA x1.gKey, sA x1.gLayer, sA x1.gFlag, sA x1.gSalt, iA x1.gStatus, .sl 3 0 v1.length (.whole 2), .ro .unk v87.1.length (TRange.cl v87.1), iA x1.gWhen.gOp, sA x1.gWhen.gKind, sA x1.gWhen.gName, .ro .unk x1.gWhen.gValues.length (TValue.cl x1.gWhen.gValues), .ro .unk x1.gWhen.gKids.length (TExpr.cl x1.gWhen.gKids)], .cells 101 (TCodes.cs v87.2)] (AOps_done ?_)
                    exact Exists.intro (v87.2.glist, v87.2.gat, x1.gKey, x1.gLayer, x1.gFlag, x1.gStatus, v1, v87.1, x1.gWhen.gOp, x1.gWhen.gKind, x1.gWhen.gName, x1.gWhen.gValues, x1.gWhen.gKids) ⟨⟨n, by omega, H⟩, Norm_fd [3, 4] 0 (by kernel_rfl) rfl rfl ⟨(scl_TSpan_cl _ _), ⟨trivial, trivial, trivial, trivial, trivial, trivial, trivial, trivial, trivial, trivial, trivial, trivial, trivial⟩, ⟨trivial, trivial, trivial, trivial, trivial, (sc_sl rfl), (scl_TRange_cl _ _), trivial, trivial, trivial, (scl_TValue_cl _ _), (scl_TExpr_cl _ _), trivial⟩, ⟨(scl_cl_u8 _ _), trivial, trivial⟩, trivial⟩ (by refine scL_fr ?_; exact ⟨(sc_ptr rfl), (sc_ptr rfl), trivial⟩)⟩
                  · refine AWP_reg (Rh 2 82 [(0, .ptr 0 0), (3, .ptr 1 0), (4, .ptr 2 0), (74, bA (v53.1 == 8))] (AOps_done (CD H (fun hb88 H => ?_) (fun hb88 H => ?_))))
                    · refine AWP_region ?_
                      refine Rh 3 82 [(3, .ptr 1 0), (4, .ptr 2 0), (76, .ptr 0 0), (78, .agg (TExpr.cs x1.gWhen))] ?_
                      obtain ⟨v89, hv89, H⟩ := bind_some H
                      refine AOps_call1 (d := (some 79)) (al := [.ptr 0 0, .agg (TExpr.cs x1.gWhen)]) ([.ptr 0 0, .agg (TExpr.cs x1.gWhen)]) (r := .agg (TExpr.cs v89.1)) (j := 0) (b' := .cells 101 (TCodes.cs v89.2)) (by kernel_rfl) rfl (s_draw_Codes_Condition hG hv89) (⟨(scl_cl_u8 _ _), trivial, trivial⟩) (⟨(scl_cl_u8 _ _), trivial, trivial⟩) ⟨Nat.zero_lt_one, (sc_TExpr_cs _ _), trivial⟩ (sc_TExpr_cs _ _) rfl (h' := [.row 45 (TSpan.cl v1), .cells 42 [sA ByteArray.empty, sA ByteArray.empty, sA ByteArray.empty, sA ByteArray.empty, iA 0, .ro .full 0 [], .ro .full 0 [], iA 0, sA ByteArray.empty, sA ByteArray.empty, .ro .full 0 [], .ro .full 0 []], .cells 42 [sA x1.gKey, sA x1.gLayer, sA x1.gFlag, sA x1.gSalt, iA x1.gStatus, .sl 3 0 v1.length (.whole 2), .ro .unk x1.gArms.length (TRange.cl x1.gArms), iA x1.gWhen.gOp, sA x1.gWhen.gKind, sA x1.gWhen.gName, .ro .unk x1.gWhen.gValues.length (TValue.cl x1.gWhen.gValues), .ro .unk x1.gWhen.gKids.length (TExpr.cl x1.gWhen.gKids)], .cells 101 (TCodes.cs v89.2)]) rfl ?_
                      refine R 2 82 [(3, .ptr 1 0), (4, .ptr 2 0)] [.row 45 (TSpan.cl v1), .cells 42 [sA ByteArray.empty, sA ByteArray.empty, sA ByteArray.empty, sA ByteArray.empty, iA 0, .ro .full 0 [], .ro .full 0 [], iA 0, sA ByteArray.empty, sA ByteArray.empty, .ro .full 0 [], .ro .full 0 []], .cells 42 [sA x1.gKey, sA x1.gLayer, sA x1.gFlag, sA x1.gSalt, iA x1.gStatus, .sl 3 0 v1.length (.whole 2), .ro .unk x1.gArms.length (TRange.cl x1.gArms), iA v89.1.gOp, sA v89.1.gKind, sA v89.1.gName, .ro .unk v89.1.gValues.length (TValue.cl v89.1.gValues), .ro .unk v89.1.gKids.length (TExpr.cl v89.1.gKids)], .cells 101 (TCodes.cs v89.2)] (AOps_done ?_)
                      exact Exists.intro (v89.2.glist, v89.2.gat, x1.gKey, x1.gLayer, x1.gFlag, x1.gStatus, v1, x1.gArms, v89.1.gOp, v89.1.gKind, v89.1.gName, v89.1.gValues, v89.1.gKids) ⟨⟨n, by omega, H⟩, Norm_fd [3, 4] 0 (by kernel_rfl) rfl rfl ⟨(scl_TSpan_cl _ _), ⟨trivial, trivial, trivial, trivial, trivial, trivial, trivial, trivial, trivial, trivial, trivial, trivial, trivial⟩, ⟨trivial, trivial, trivial, trivial, trivial, (sc_sl rfl), (scl_TRange_cl _ _), trivial, trivial, trivial, (scl_TValue_cl _ _), (scl_TExpr_cl _ _), trivial⟩, ⟨(scl_cl_u8 _ _), trivial, trivial⟩, trivial⟩ (by refine scL_fr ?_; exact ⟨(sc_ptr rfl), (sc_ptr rfl), trivial⟩)⟩
                    · refine AWP_skip ?_
                      exact Exists.intro (v53.2.glist, v53.2.gat, x1.gKey, x1.gLayer, x1.gFlag, x1.gStatus, v1, x1.gArms, x1.gWhen.gOp, x1.gWhen.gKind, x1.gWhen.gName, x1.gWhen.gValues, x1.gWhen.gKids) ⟨⟨n, by omega, H⟩, Norm_fd [3, 4] 0 (by kernel_rfl) rfl rfl ⟨(scl_TSpan_cl _ _), ⟨trivial, trivial, trivial, trivial, trivial, trivial, trivial, trivial, trivial, trivial, trivial, trivial, trivial⟩, ⟨trivial, trivial, trivial, trivial, trivial, (sc_sl rfl), (scl_TRange_cl _ _), trivial, trivial, trivial, (scl_TValue_cl _ _), (scl_TExpr_cl _ _), trivial⟩, ⟨(scl_cl_u8 _ _), trivial, trivial⟩, trivial⟩ (by refine scL_fr ?_; exact ⟨(sc_ptr rfl), (sc_ptr rfl), trivial⟩)⟩
                · refine AWP_reg (Rh 2 82 [(0, .ptr 0 0), (3, .ptr 1 0), (4, .ptr 2 0), (11, iA v53.1), (66, bA (v53.1 == 6))] (AOps_done (CD H (fun hb90 H => ?_) (fun hb90 H => ?_))))
                  · refine AWP_skip ?_
                    exact Exists.intro (v53.1 == 6) ⟨⟨n, by omega, H⟩, Norm_fd [0, 3, 4, 11, 66] 0 (by kernel_rfl) rfl rfl ⟨(scl_TSpan_cl _ _), ⟨trivial, trivial, trivial, trivial, trivial, trivial, trivial, trivial, trivial, trivial, trivial, trivial, trivial⟩, ⟨trivial, trivial, trivial, trivial, trivial, (sc_sl rfl), (scl_TRange_cl _ _), trivial, trivial, trivial, (scl_TValue_cl _ _), (scl_TExpr_cl _ _), trivial⟩, ⟨(scl_cl_u8 _ _), trivial, trivial⟩, trivial⟩ (by refine scL_fr ?_; exact ⟨(sc_ptr rfl), (sc_ptr rfl), (sc_ptr rfl), trivial, trivial, trivial⟩)⟩
                  · refine AWP_region ?_
                    refine Rh 2 82 [(0, .ptr 0 0), (3, .ptr 1 0), (4, .ptr 2 0), (11, iA v53.1), (66, bA (v53.1 == 7))] (AOps_done ?_)
                    exact Exists.intro (v53.1 == 7) ⟨⟨n, by omega, H⟩, Norm_fd [0, 3, 4, 11, 66] 0 (by kernel_rfl) rfl rfl ⟨(scl_TSpan_cl _ _), ⟨trivial, trivial, trivial, trivial, trivial, trivial, trivial, trivial, trivial, trivial, trivial, trivial, trivial⟩, ⟨trivial, trivial, trivial, trivial, trivial, (sc_sl rfl), (scl_TRange_cl _ _), trivial, trivial, trivial, (scl_TValue_cl _ _), (scl_TExpr_cl _ _), trivial⟩, ⟨(scl_cl_u8 _ _), trivial, trivial⟩, trivial⟩ (by refine scL_fr ?_; exact ⟨(sc_ptr rfl), (sc_ptr rfl), (sc_ptr rfl), trivial, trivial, trivial⟩)⟩
end Go.Proofs.YtjhbobacbaikoaaGreatDoor
/- An experiment in which something was changed is of bounded size. -/
namespace Go.Proofs.YtjhbobacbaikoaaGreatDoor
open Go
set_option linter.unusedVariables false
set_option linter.unusedSimpArgs false
set_option maxRecDepth 100000
structure TExperiment.bd (B : Nat) (x : TExperiment) : Prop where
  key : x.gKey.size ≤ 100
  layer : x.gLayer.size ≤ 100
  flag : x.gFlag.size ≤ 100
  salt : x.gSalt.size ≤ 100
  claims : x.gClaims.length ≤ B
  arms : x.gArms.length ≤ B
  cond : x.gWhen.bd B
theorem TExpr.eta (x : TExpr) : TExpr.mk x.gOp x.gKind x.gName x.gValues x.gKids = x := by cases x; rfl
theorem exp_K1 {B : Nat} {x : TExperiment} {c : TCodes} (hc : c.cok) {key layer flag : ByteArray} {st : Int} {cl : List TSpan} {ar : List TRange} {w : TExpr} (h1 : key.size ≤ 100) (h2 : layer.size ≤ 100) (h3 : flag.size ≤ 100) (h4 : x.gSalt.size ≤ 100) (h5 : cl.length ≤ B) (h6 : ar.length ≤ B) (h7 : w.bd B) :
    Gv (fun n => p_draw_Codes_Experiment_K1 n x c.glist c.gat key layer flag st cl ar w.gOp w.gKind w.gName w.gValues w.gKids) fun r => r.1.bd B ∧ r.2.cok := by
  unfold p_draw_Codes_Experiment_K1
  rw [TExpr.eta]
  exact Gv.pure ⟨⟨h1, h2, h3, h4, h5, h6, h7⟩, hc⟩
theorem exp_L1 {B : Nat} {x : TExperiment} (hx : x.bd B) (hB : 17 ≤ B) : ∀ (q i : Nat) (c : TCodes) (l : List TSpan), i + q = 17 → l.length = i → c.cok → Gv (fun n => p_draw_Codes_Experiment_L1 n x i c.glist c.gat l) fun r => r.1.bd B ∧ r.2.cok := by
  intro q
  induction q with
  | zero =>
    intro i c l hi hl hc
    refine Gv.succ ?_
    simp only [p_draw_Codes_Experiment_L1]
    refine Gv.bind (next_gv hc (k := 2) (by decide) (by decide)) fun s hs => ?_
    rw [w64_of (show -9223372036854775808 ≤ 16 + s.1 by omega) (by omega)]
    refine Gv.cond (fun h => ?_) fun h => exp_K1 hs.2.2 hx.key hx.layer hx.flag hx.salt (by omega) hx.arms hx.cond
    have h := of_decide_eq_true h
    omega
  | succ q ih =>
    intro i c l hi hl hc
    refine Gv.succ ?_
    simp only [p_draw_Codes_Experiment_L1]
    refine Gv.bind (next_gv hc (k := 2) (by decide) (by decide)) fun s hs => ?_
    refine Gv.cond (fun h => ?_) fun h => exp_K1 hs.2.2 hx.key hx.layer hx.flag hx.salt (by omega) hx.arms hx.cond
    refine Gv.bind (Gv.app (Q := fun m => m.length = i + 1) (by simp; omega) (by decide) (by simp; omega)) fun m hm => ?_
    rw [w64_add (by omega)]
    exact ih (i + 1) s.2 m (by omega) hm hs.2.2
theorem exp_gv {B : Nat} (h20 : 20 ≤ B) (hB : B ≤ 5000) {x : TExperiment} (hx : x.bd B) {c : TCodes} (hc : c.cok) : Gv (fun n => p_draw_Codes_Experiment n c x) fun r => r.1.bd (B + 20) ∧ r.2.cok := by
  have hw : x.gWhen.bd (B + 20) := TExpr.bd_le (by omega) _ hx.cond
  have ha : x.gArms.length ≤ B + 20 := by have := hx.arms; omega
  have hx2 : x.bd (B + 20) := ⟨hx.key, hx.layer, hx.flag, hx.salt, by have := hx.claims; omega, ha, hw⟩
  have hcl := hx.claims
  unfold p_draw_Codes_Experiment
  refine Gv.bind (Gv.app (Q := fun m => m = x.gClaims) (by simp; omega) (by decide) (by simp)) ?_
  rintro m rfl
  have hcl2 : x.gClaims.length ≤ B + 20 := by omega
  refine Gv.bind (next_gv hc (k := 9) (by decide) (by decide)) fun v h => ?_
  have hc := h.2.2
  have hK2 : ∀ b, Gv (fun n => p_draw_Codes_Experiment_K2 n x x.gClaims v b) fun r => r.1.bd (B + 20) ∧ r.2.cok := by
    intro b
    unfold p_draw_Codes_Experiment_K2
    refine Gv.cond (fun _ => ?_) fun _ => Gv.cond (fun _ => ?_) fun _ => ?_
    · exact Gv.bind (ranges_gv (by have := hx.arms; omega) hc) fun r hr => exp_K1 hr.2 hx.key hx.layer hx.flag hx.salt hcl2 (by have := hr.1; have := hx.arms; omega) hw
    · exact Gv.bind (cond_gv h20 (by omega) _ x.gWhen v.2 (Nat.le_refl _) hx.cond hc) fun r hr => exp_K1 hr.2 hx.key hx.layer hx.flag hx.salt hcl2 ha (TExpr.bd_le (by omega) _ hr.1)
    · exact exp_K1 hc hx.key hx.layer hx.flag hx.salt hcl2 ha hw
  refine Gv.cond (fun _ => ?_) fun _ => Gv.cond (fun _ => ?_) fun _ => Gv.cond (fun _ => ?_) fun _ => Gv.cond (fun _ => ?_) fun _ => Gv.cond (fun _ => ?_) fun _ => Gv.cond (fun _ => ?_) fun _ => Gv.cond (fun _ => hK2 _) fun _ => hK2 _
  · exact Gv.bind (name_gv hc) fun r hr => exp_K1 hr.2 (by have := hr.1; omega) hx.layer hx.flag hx.salt hcl2 ha hw
  · exact Gv.bind (name_gv hc) fun r hr => exp_K1 hr.2 hx.key (by have := hr.1; omega) hx.flag hx.salt hcl2 ha hw
  · exact Gv.bind (name_gv hc) fun r hr => exp_K1 hr.2 hx.key hx.layer (by have := hr.1; omega) hx.salt hcl2 ha hw
  · exact Gv.bind (next_gv hc (k := 6) (by decide) (by decide)) fun r hr => exp_K1 hr.2.2 hx.key hx.layer hx.flag hx.salt hcl2 ha hw
  · refine Gv.bind (number_gv hc) fun r hr => Gv.bind (number_gv hr) fun s hs => ?_
    refine Gv.bind (Gv.app (Q := fun m => m.length ≤ B + 20) (by simp; omega) (by decide) (by simp; omega)) fun m hm => ?_
    exact exp_K1 hs hx.key hx.layer hx.flag hx.salt hm ha hw
  · exact exp_L1 hx2 (by omega) 17 0 v.2 [] rfl rfl hc
end Go.Proofs.YtjhbobacbaikoaaGreatDoor
/- A function of the program as a pure function, and that the program computes it. -/
namespace Go.Proofs.YtjhbobacbaikoaaGreatDoor
open Go
set_option linter.unusedVariables false
set_option linter.unusedSimpArgs false
set_option maxRecDepth 100000
def p_shape_Environment_1 (n : Nat) (x0 : TSegment) : Option ByteArray :=
 some (x0.gKey)
variable {E : Env}
theorem s_shape_Environment_1 {n : Nat} {x0 : TSegment} {r : ByteArray} (H : p_shape_Environment_1 n x0 = some r) :
    Sp Tryz.prog E 90 [.agg (TSegment.cs x0)] [] (isA (sA r) []) := by
  unfold p_shape_Environment_1 at H
  refine Sp_fn Tryz.func90 rfl (fun hc hs => ?_)
  refine AWP_reg (R 2 5 [(1, .ptr 0 0)] [.cells 71 (TSegment.cs x0)] (AOps_done (AWP_reg (Rh 3 5 [(2, sA x0.gKey)] (AOps_done ?_)))))
  exact AWP_ret (FR H)
end Go.Proofs.YtjhbobacbaikoaaGreatDoor
