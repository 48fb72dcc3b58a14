/- A function of the program as a pure function, and that the program computes it. -/
import Derived.Test.YtjhbobacbaikoaaGreatDoorM4
import Derived.Test.YtjhbobacbaikoaaGreatDoorM7
import Derived.Test.YtjhbobacbaikoaaGreatDoorM9
import Derived.Test.YtjhbobacbaikoaaGreatDoorM8
import Derived.Test.YtjhbobacbaikoaaGreatDoorM6
import Derived.Test.YtjhbobacbaikoaaGreatDoorM5
import Derived.Test.YtjhbobacbaikoaaGreatDoorCards
import Derived.Test.YtjhbobacbaikoaaGreatDoorTie
import Derived.Deep.DeepHandedRow
import Derived.Deep.DeepWitnessRowRef
import Derived.OpenShut
namespace Go.Proofs.YtjhbobacbaikoaaGreatDoor
open Go
set_option linter.unusedVariables false
set_option linter.unusedSimpArgs false
set_option maxRecDepth 100000
def p_law6_big_L1 (n : Nat) (self_p_law6_big : TExpr → Option Bool) (x0 : TExpr) (v10 : Int) : Option Bool := match n with
| 0 => none
| n + 1 =>
(bif (decide (v10 < (lI x0.gKids))) && (decide ((w64 ((lI x0.gKids) + (lI x0.gValues))) < 200)) then
(rdO x0.gKids v10).bind fun v12 =>
(self_p_law6_big v12).bind fun v13 =>
(bif v13 then
 some (true)
 else
 p_law6_big_L1 n self_p_law6_big x0 (w64 (v10 + 1)))
 else
 some (decide ((w64 ((lI x0.gKids) + (lI x0.gValues))) ≥ 200)))
def p_law6_big_F (self_p_law6_big : TExpr → Option Bool) (n : Nat) (x0 : TExpr) : Option Bool :=
 p_law6_big_L1 n self_p_law6_big x0 0
def p_law6_big (n : Nat) (x0 : TExpr) : Option Bool := match n with
| 0 => none
| n + 1 => p_law6_big_F (p_law6_big n) n x0
variable {E : Env}
theorem s_law6_big_F {self_p_law6_big : TExpr → Option Bool} (hself_law6_big : ∀ {x0 : TExpr}, ∀ {r : Bool}, self_p_law6_big x0 = some r → Sp Tryz.prog E 11 [.agg (TExpr.cs x0)] [] (isA (bA r) [])) {n : Nat} {x0 : TExpr} {r : Bool} (H : p_law6_big_F self_p_law6_big n x0 = some r) :
    Sp Tryz.prog E 11 [.agg (TExpr.cs x0)] [] (isA (bA r) []) := by
  unfold p_law6_big_F at H
  refine Sp_fn Tryz.func11 rfl (fun hc hs => ?_)
  refine AWP_reg (R 2 31 [(1, .ptr 0 0)] [.cells 25 (TExpr.cs x0)] (AOps_done (AWP_reg (Rh 8 31 [(1, .ptr 0 0), (3, iA (w64 ((lI x0.gKids) + (lI x0.gValues))))] (AOps_done (AWP_seq (AWP_reg (Rh 1 31 [(1, .ptr 0 0), (3, iA (w64 ((lI x0.gKids) + (lI x0.gValues)))), (4, iA 0)] ?_))))))))
  refine AOps_done (AWP_block ?_)
  refine AWP_loopN (α := Int) (fun v10 => fr 31 [(1, .ptr 0 0), (3, iA (w64 ((lI x0.gKids) + (lI x0.gValues)))), (4, iA v10)]) (fun v10 => [.cells 25 (TExpr.cs x0)]) (fun k_ v10 => k_ ≤ n ∧ p_law6_big_L1 k_ self_p_law6_big x0 v10 = some r) (fun n v10 H => ?_) (k := n) 0 ⟨Nat.le_refl _, H⟩ (Norm_fd [1, 3, 4] 0 (by kernel_rfl) rfl rfl ⟨(sc_TExpr_cs _ _), trivial⟩ (by refine scL_fr ?_; exact ⟨(sc_ptr rfl), trivial, trivial, trivial⟩))
  show AWP _ _ _ _ _ (fr 31 [(1, .ptr 0 0), (3, iA (w64 ((lI x0.gKids) + (lI x0.gValues)))), (4, iA v10)]) [.cells 25 (TExpr.cs x0)]
  obtain ⟨hb_, H⟩ := H
  replace H : p_law6_big_L1 n self_p_law6_big x0 v10 = some r := H
  cases n with
  | zero => exact not_none (by simpa only [p_law6_big_L1] using H)
  | succ n =>
    unfold p_law6_big_L1 at H
    refine AWP_seq (AWP_reg (Rh 6 31 [(1, .ptr 0 0), (3, iA (w64 ((lI x0.gKids) + (lI x0.gValues)))), (4, iA v10), (17, bA (decide (v10 < (lI x0.gKids))))] (AOps_run 3 [1, 3, 4, 20] (st' := fr 31 [(1, .ptr 0 0), (3, iA (w64 ((lI x0.gKids) + (lI x0.gValues)))), (4, iA v10), (20, bA ((decide (v10 < (lI x0.gKids))) && (decide ((w64 ((lI x0.gKids) + (lI x0.gValues))) < 200))))]) (h' := [.cells 25 (TExpr.cs x0)]) (by (generalize (decide (v10 < (lI x0.gKids))) = t0; cases t0 <;> kernel_rfl)) ?_)))
    refine AOps_done (CD H (fun hb11 H => ?_) (fun hb11 H => ?_))
    · refine AWP_skip ?_
      show AWP _ _ _ _ _ _ _
      refine AWP_seq (AWP_block ?_)
      refine AWP_reg (Rh 3 31 [(1, .ptr 0 0), (3, iA (w64 ((lI x0.gKids) + (lI x0.gValues)))), (4, iA v10), (24, .ro .unk x0.gKids.length (TExpr.cl x0.gKids)), (25, iA v10)] ?_)
      obtain ⟨v12, hv12, H⟩ := bind_some H
      refine AOps_index (d := (some 26)) (sz := 5) (c := TExpr.cs) (by kernel_rfl) rfl (eq_TExpr_cl _) (fun _ => rfl) (by decide) hv12 (fun tl12 => ?_)
      refine Rh 1 31 [(1, .ptr 0 0), (3, iA (w64 ((lI x0.gKids) + (lI x0.gValues)))), (4, iA v10), (27, .agg (TExpr.cs v12))] ?_
      obtain ⟨v13, hv13, H⟩ := bind_some H
      refine AOps_callp (d := (some 28)) (al := [.agg (TExpr.cs v12)]) (r := bA v13) (by kernel_rfl) (hself_law6_big hv13) ⟨(sc_TExpr_cs _ _), trivial⟩ trivial ?_
      refine AOps_done (CD H (fun hb14 H => ?_) (fun hb14 H => ?_))
      · refine AWP_reg (Rh 1 31 [(2, bA true)] (AOps_done ?_))
        exact AWP_ret (FR H)
      · refine AWP_skip ?_
        show AWP _ _ _ _ _ _ _
        refine AWP_region ?_
        refine Rh 3 31 [(1, .ptr 0 0), (3, iA (w64 ((lI x0.gKids) + (lI x0.gValues)))), (4, iA (w64 (v10 + 1)))] (AOps_done ?_)
        exact Exists.intro (w64 (v10 + 1)) (Exists.intro n ⟨by omega, ⟨by omega, H⟩, Norm_fd [1, 3, 4] 0 (by kernel_rfl) rfl rfl ⟨(sc_TExpr_cs _ _), trivial⟩ (by refine scL_fr ?_; exact ⟨(sc_ptr rfl), trivial, trivial, trivial⟩)⟩)
    · refine AWP_exit ?_
      show AWP _ _ _ _ _ _ _
      refine AWP_reg (Rh 3 31 [(2, bA (decide ((w64 ((lI x0.gKids) + (lI x0.gValues))) ≥ 200)))] (AOps_done ?_))
      exact AWP_ret (FR H)
theorem s_all_law6_big : ∀ n : Nat, (∀ {x0 : TExpr}, ∀ {r : Bool}, p_law6_big n x0 = some r → Sp Tryz.prog E 11 [.agg (TExpr.cs x0)] [] (isA (bA r) [])) := by
  intro n
  induction n with
  | zero => exact fun H => not_none (by simpa only [p_law6_big] using H)
  | succ n ih => exact fun H => s_law6_big_F ih (by simpa only [p_law6_big] using H)
theorem s_law6_big {n : Nat} {x0 : TExpr} {r : Bool} (H : p_law6_big n x0 = some r) :
    Sp Tryz.prog E 11 [.agg (TExpr.cs x0)] [] (isA (bA r) []) := (s_all_law6_big n) H
end Go.Proofs.YtjhbobacbaikoaaGreatDoor
/- The examples of the chapter; how large a condition is. -/
namespace Go.Proofs.YtjhbobacbaikoaaGreatDoor
open Go
set_option linter.unusedVariables false
set_option linter.unusedSimpArgs false
mutual
theorem big_tot : ∀ x : TExpr, x.sm → ∃ v, Al fun n => p_law6_big n x = some v
  | .mk op kd nm vs ks, hx => by
    have hL := big_totL ks (by rw [TExpr.sm] at hx; exact hx.2.2.2.2)
    have hlen : ks.length < 4294967281 := by rw [TExpr.sm] at hx; exact hx.2.2.2.1
    generalize hxx : TExpr.mk op kd nm vs ks = x at *
    have hks : x.gKids = ks := by rw [← hxx]; rfl
    obtain ⟨G, N, hN⟩ := hL
    have key : ∀ (q i : Nat), i + q = ks.length → ∃ v, ∀ n m, N ≤ n → q < m → p_law6_big_L1 m (p_law6_big n) x i = some v := by
      intro q
      induction q with
      | zero =>
        intro i hi
        refine ⟨decide (w64 (lI x.gKids + lI x.gValues) ≥ 200), fun n m hn hm => ?_⟩
        obtain ⟨m, rfl⟩ : ∃ k, m = k + 1 := ⟨m - 1, by omega⟩
        obtain rfl : i = ks.length := by omega
        rw [p_law6_big_L1]
        rw [← hks, lI_out]; rfl
      | succ q ih =>
        intro i hi
        have hil : i < x.gKids.length := by rw [hks]; omega
        obtain ⟨w, hw⟩ := ih (i + 1) (by omega)
        by_cases c : w64 (lI x.gKids + lI x.gValues) < 200
        · refine ⟨if G x.gKids[i] = true then true else w, fun n m hn hm => ?_⟩
          obtain ⟨m, rfl⟩ : ∃ k, m = k + 1 := ⟨m - 1, by omega⟩
          rw [p_law6_big_L1, lI_in hil, decide_eq_true c]
          simp only [Bool.and_self, cond_true, rdO_nat hil, Option.bind_some, hN n hn x.gKids[i] (by rw [← hks]; exact List.getElem_mem hil), w64_add (show i + 1 < 9223372036854775808 by omega), hw n m hn (by omega)]
          cases G x.gKids[i] <;> rfl
        · refine ⟨true, fun n m hn hm => ?_⟩
          obtain ⟨m, rfl⟩ : ∃ k, m = k + 1 := ⟨m - 1, by omega⟩
          rw [p_law6_big_L1, lI_in hil, decide_eq_false c]
          simp only [Bool.true_and, cond_false]
          rw [decide_eq_true (show w64 (lI x.gKids + lI x.gValues) ≥ 200 by omega)]
    obtain ⟨v, hv⟩ := key ks.length 0 (by omega)
    refine ⟨v, Al.succ ⟨N + ks.length + 1, fun n hn => ?_⟩⟩
    show p_law6_big_F (p_law6_big n) n x = some v
    unfold p_law6_big_F
    exact hv n n (by omega) (by omega)
theorem big_totL : ∀ l : List TExpr, TExpr.smL l → ∃ G : TExpr → Bool, Al fun n => ∀ k ∈ l, p_law6_big n k = some (G k)
  | [], _ => ⟨fun _ => false, .of fun n k hk => by cases hk⟩
  | k :: ks, h => by
    rw [TExpr.smL] at h
    obtain ⟨v, hv⟩ := big_tot k h.1
    obtain ⟨G, hG⟩ := big_totL ks h.2
    refine ⟨fun y => open Classical in if y = k then v else G y, (hv.and hG).mono fun n ⟨h1, h2⟩ y hy => ?_⟩
    by_cases e : y = k
    · simp only [e, if_true]; exact h1
    · simp only [e, if_false]
      rcases List.mem_cons.1 hy with h | h
      · exact absurd h e
      · exact h2 y h
end
theorem awake_al : Al fun n => p_law6_awake n = some true := ⟨40, fun n hn => by
  obtain ⟨m, rfl⟩ : ∃ m, n = m + 40 := ⟨n - 40, by omega⟩
  kernel_rfl⟩
end Go.Proofs.YtjhbobacbaikoaaGreatDoor
/- A function of the program as a pure function, and that the program computes it. -/
namespace Go.Proofs.YtjhbobacbaikoaaGreatDoor
open Go
set_option linter.unusedVariables false
set_option linter.unusedSimpArgs false
set_option maxRecDepth 100000
def p_law6_ShapeExprs_L1 (n : Nat) (x0 : TExpr) (v7 : TExpr × TCodes) (v8 : TExpr × TCodes) (v26 : Int) : Option Bool := match n with
| 0 => none
| n + 1 =>
(bif decide (v26 < (lI ([x0, v7.1, v8.1]))) then
(rdO ([x0, v7.1, v8.1]) v26).bind fun v28 =>
(p_shape_Expr n v28).bind fun v29 =>
(p_ref6_Expr n v28).bind fun v30 =>
(bif !(v29 != v30) then p_shape_None n v28 else some (false)).bind fun v31 =>
(bif !(v29 != v30) then p_ref6_None n v28 else some (false)).bind fun v32 =>
(bif (v29 != v30) || (!(v31 == v32)) then
 some (false)
 else
 p_law6_ShapeExprs_L1 n x0 v7 v8 (w64 (v26 + 1)))
 else
 some (true))
def p_law6_ShapeExprs (n : Nat) (x0 : TExpr) (x1 : List Int) : Option Bool :=
(p_law6_awake n ).bind fun v1 =>
(bif !v1 then
 some (false)
 else
(p_law6_big n x0).bind fun v3 =>
(bif v3 then
 some (true)
 else
(p_draw_New n x1 120).bind fun v5 =>
(p_draw_Codes_Expr n v5 ([(⟨#[97, 108, 112, 104, 97]⟩ : ByteArray), (⟨#[98, 101, 116, 97]⟩ : ByteArray)]) 3).bind fun v6 =>
(p_draw_Codes_Condition n v6.2 v6.1).bind fun v7 =>
(p_draw_Codes_Condition n v7.2 v7.1).bind fun v8 =>
(p_shape_Expr n v6.1).bind fun v9 =>
(bif v9 != 0 then
 some (false)
 else
 p_law6_ShapeExprs_L1 n x0 v7 v8 0)))
variable {E : Env}
theorem s_law6_ShapeExprs {n : Nat} (hG : GlobD E) {x0 : TExpr} {x1 : List Int} {r : Bool} (H : p_law6_ShapeExprs n x0 x1 = some r) :
    Sp Tryz.prog E 3 [.agg (TExpr.cs x0), .ro .unk x1.length (cl_u8 x1)] [] (isA (bA r) []) := by
  unfold p_law6_ShapeExprs at H
  refine Sp_fn Tryz.func3 rfl (fun hc hs => ?_)
  refine AWP_reg (R 2 51 [(1, .ro .unk x1.length (cl_u8 x1)), (2, .ptr 0 0)] [.cells 25 (TExpr.cs x0)] (AOps_done (AWP_seq (AWP_reg ?_))))
  obtain ⟨v1, hv1, H⟩ := bind_some H
  refine AOps_callp (d := (some 11)) (al := []) (r := bA v1) (by kernel_rfl) (s_law6_awake hG.toGlobT hv1) trivial trivial ?_
  refine Rh 1 51 [(1, .ro .unk x1.length (cl_u8 x1)), (2, .ptr 0 0), (12, bA (!v1))] (AOps_done (CD H (fun hb2 H => ?_) (fun hb2 H => ?_)))
  · refine AWP_reg (Rh 1 51 [(4, bA false)] (AOps_done ?_))
    exact AWP_ret (FR H)
  · refine AWP_skip ?_
    show AWP _ _ _ _ _ _ _
    refine AWP_seq (AWP_reg (Rh 1 51 [(1, .ro .unk x1.length (cl_u8 x1)), (2, .ptr 0 0), (13, .agg (TExpr.cs x0))] ?_))
    obtain ⟨v3, hv3, H⟩ := bind_some H
    refine AOps_callp (d := (some 14)) (al := [.agg (TExpr.cs x0)]) (r := bA v3) (by kernel_rfl) (s_law6_big hv3) ⟨(sc_TExpr_cs _ _), trivial⟩ trivial ?_
    refine AOps_done (CD H (fun hb4 H => ?_) (fun hb4 H => ?_))
    · refine AWP_reg (Rh 1 51 [(4, bA true)] (AOps_done ?_))
      exact AWP_ret (FR H)
    · refine AWP_skip ?_
      show AWP _ _ _ _ _ _ _
      refine AWP_reg (Rh 1 51 [(2, .ptr 0 0), (15, .ro .unk x1.length (cl_u8 x1))] ?_)
      obtain ⟨v5, hv5, H⟩ := bind_some H
      refine AOps_callnew (d := (some 16)) (al := [.ro .unk x1.length (cl_u8 x1), iA 120]) (b := .cells 101 (TCodes.cs v5)) (m := 1) (by kernel_rfl) (s_draw_New hv5) ⟨(scl_cl_u8 _ _), trivial, trivial⟩ (⟨(scl_cl_u8 _ _), trivial, trivial⟩) rfl ?_
      refine Rh 1 51 [(2, .ptr 0 0), (5, .ptr 1 0)] (AOps_done (AWP_reg (Rh 1 51 [(2, .ptr 0 0), (5, .ptr 1 0), (17, .ptr 1 0)] (AOps_bsl (d := (some 18)) (m := 2) (cs := [sA (⟨#[97, 108, 112, 104, 97]⟩ : ByteArray), sA (⟨#[98, 101, 116, 97]⟩ : ByteArray)]) (by kernel_rfl) ⟨trivial, trivial, trivial⟩ ?_))))
      obtain ⟨v6, hv6, H⟩ := bind_some H
      refine AOps_call1 (d := (some 19)) (al := [.ptr 0 0, .ro .unk ([(⟨#[97, 108, 112, 104, 97]⟩ : ByteArray), (⟨#[98, 101, 116, 97]⟩ : ByteArray)]).length (cl_str ([(⟨#[97, 108, 112, 104, 97]⟩ : ByteArray), (⟨#[98, 101, 116, 97]⟩ : ByteArray)])), iA 3]) ([.ptr 1 0, .ro .unk ([(⟨#[97, 108, 112, 104, 97]⟩ : ByteArray), (⟨#[98, 101, 116, 97]⟩ : ByteArray)]).length (cl_str ([(⟨#[97, 108, 112, 104, 97]⟩ : ByteArray), (⟨#[98, 101, 116, 97]⟩ : ByteArray)])), iA 3]) (r := .agg (TExpr.cs v6.1)) (j := 1) (b' := .cells 101 (TCodes.cs v6.2)) (by kernel_rfl) rfl (s_draw_Codes_Expr hG hv6) (⟨(scl_cl_u8 _ _), trivial, trivial⟩) (⟨(scl_cl_u8 _ _), trivial, trivial⟩) ⟨Nat.zero_lt_one, (scl_cl_str _ _), trivial, trivial⟩ (sc_TExpr_cs _ _) rfl (h' := [.cells 101 (TCodes.cs v6.2), .cells 25 (TExpr.cs x0)]) rfl ?_
      refine R 2 51 [(2, .ptr 0 0), (5, .ptr 1 0), (6, .ptr 2 0)] [.cells 25 (TExpr.cs v6.1), .cells 101 (TCodes.cs v6.2), .cells 25 (TExpr.cs x0)] (AOps_done (AWP_reg (Rh 2 51 [(2, .ptr 0 0), (5, .ptr 1 0), (6, .ptr 2 0), (20, .ptr 1 0), (21, .agg (TExpr.cs v6.1))] ?_)))
      obtain ⟨v7, hv7, H⟩ := bind_some H
      refine AOps_call1 (d := (some 22)) (al := [.ptr 0 0, .agg (TExpr.cs v6.1)]) ([.ptr 1 0, .agg (TExpr.cs v6.1)]) (r := .agg (TExpr.cs v7.1)) (j := 1) (b' := .cells 101 (TCodes.cs v7.2)) (by kernel_rfl) rfl (s_draw_Codes_Condition hG hv7) (⟨(scl_cl_u8 _ _), trivial, trivial⟩) (⟨(scl_cl_u8 _ _), trivial, trivial⟩) ⟨Nat.zero_lt_one, (sc_TExpr_cs _ _), trivial⟩ (sc_TExpr_cs _ _) rfl (h' := [.cells 25 (TExpr.cs v6.1), .cells 101 (TCodes.cs v7.2), .cells 25 (TExpr.cs x0)]) rfl ?_
      refine R 2 51 [(2, .ptr 0 0), (5, .ptr 1 0), (6, .ptr 2 0), (7, .ptr 3 0)] [.cells 25 (TExpr.cs v7.1), .cells 25 (TExpr.cs v6.1), .cells 101 (TCodes.cs v7.2), .cells 25 (TExpr.cs x0)] (AOps_done (AWP_reg (Rh 2 51 [(2, .ptr 0 0), (6, .ptr 2 0), (7, .ptr 3 0), (23, .ptr 1 0), (24, .agg (TExpr.cs v7.1))] ?_)))
      obtain ⟨v8, hv8, H⟩ := bind_some H
      refine AOps_call1 (d := (some 25)) (al := [.ptr 0 0, .agg (TExpr.cs v7.1)]) ([.ptr 1 0, .agg (TExpr.cs v7.1)]) (r := .agg (TExpr.cs v8.1)) (j := 1) (b' := .cells 101 (TCodes.cs v8.2)) (by kernel_rfl) rfl (s_draw_Codes_Condition hG hv8) (⟨(scl_cl_u8 _ _), trivial, trivial⟩) (⟨(scl_cl_u8 _ _), trivial, trivial⟩) ⟨Nat.zero_lt_one, (sc_TExpr_cs _ _), trivial⟩ (sc_TExpr_cs _ _) rfl (h' := [.cells 25 (TExpr.cs v7.1), .cells 25 (TExpr.cs v6.1), .cells 101 (TCodes.cs v8.2), .cells 25 (TExpr.cs x0)]) rfl ?_
      refine R 2 51 [(2, .ptr 0 0), (6, .ptr 2 0), (7, .ptr 3 0), (8, .ptr 4 0)] [.cells 25 (TExpr.cs v8.1), .cells 25 (TExpr.cs v7.1), .cells 25 (TExpr.cs v6.1), .cells 101 (TCodes.cs v8.2), .cells 25 (TExpr.cs x0)] (AOps_done (AWP_seq (AWP_reg (Rh 1 51 [(2, .ptr 0 0), (7, .ptr 3 0), (8, .ptr 4 0), (26, .agg (TExpr.cs v6.1))] ?_))))
      obtain ⟨v9, hv9, H⟩ := bind_some H
      refine AOps_callp (d := (some 27)) (al := [.agg (TExpr.cs v6.1)]) (r := iA v9) (by kernel_rfl) (s_shape_Expr hG.toGlobT hv9) ⟨(sc_TExpr_cs _ _), trivial⟩ trivial ?_
      refine Rh 1 51 [(2, .ptr 0 0), (7, .ptr 3 0), (8, .ptr 4 0), (28, bA (v9 != 0))] (AOps_done (CD H (fun hb10 H => ?_) (fun hb10 H => ?_)))
      · refine AWP_reg (Rh 1 51 [(4, bA false)] (AOps_done ?_))
        exact AWP_ret (FR H)
      · refine AWP_skip ?_
        show AWP _ _ _ _ _ _ _
        refine AWP_seq (AWP_reg (Rh 3 51 [(29, .agg (TExpr.cs x0)), (30, .agg (TExpr.cs v7.1)), (31, .agg (TExpr.cs v8.1))] (AOps_bsl (d := (some 32)) (m := 3) (cs := [iA x0.gOp, sA x0.gKind, sA x0.gName, .ro .unk x0.gValues.length (TValue.cl x0.gValues), .ro .unk x0.gKids.length (TExpr.cl x0.gKids), iA v7.1.gOp, sA v7.1.gKind, sA v7.1.gName, .ro .unk v7.1.gValues.length (TValue.cl v7.1.gValues), .ro .unk v7.1.gKids.length (TExpr.cl v7.1.gKids), iA v8.1.gOp, sA v8.1.gKind, sA v8.1.gName, .ro .unk v8.1.gValues.length (TValue.cl v8.1.gValues), .ro .unk v8.1.gKids.length (TExpr.cl v8.1.gKids)]) (by kernel_rfl) ⟨trivial, trivial, trivial, (scl_TValue_cl _ _), (scl_TExpr_cl _ _), trivial, trivial, trivial, (scl_TValue_cl _ _), (scl_TExpr_cl _ _), trivial, trivial, trivial, (scl_TValue_cl _ _), (scl_TExpr_cl _ _), trivial⟩ ?_)))
        refine AOps_cast (d := (some 32)) (v' := .ro .unk ([x0, v7.1, v8.1]).length (TExpr.cl ([x0, v7.1, v8.1]))) (congrArg (AV.ro .unk 3) (eq_TExpr_cl ([x0, v7.1, v8.1])).symm) ?_
        refine Rh 2 51 [(32, .ro .unk ([x0, v7.1, v8.1]).length (TExpr.cl ([x0, v7.1, v8.1]))), (33, iA (lI ([x0, v7.1, v8.1]))), (34, iA 0)] (AOps_done (AWP_block ?_))
        refine AWP_loopN (α := Int) (fun v26 => fr 51 [(32, .ro .unk ([x0, v7.1, v8.1]).length (TExpr.cl ([x0, v7.1, v8.1]))), (33, iA (lI ([x0, v7.1, v8.1]))), (34, iA v26)]) (fun v26 => [.cells 25 (TExpr.cs v8.1), .cells 25 (TExpr.cs v7.1), .cells 25 (TExpr.cs v6.1), .cells 101 (TCodes.cs v8.2), .cells 25 (TExpr.cs x0)]) (fun k_ v26 => k_ ≤ n ∧ p_law6_ShapeExprs_L1 k_ x0 v7 v8 v26 = some r) (fun n v26 H => ?_) (k := n) 0 ⟨Nat.le_refl _, H⟩ (Norm_fd [32, 33, 34] 0 (by kernel_rfl) rfl rfl ⟨(sc_TExpr_cs _ _), (sc_TExpr_cs _ _), (sc_TExpr_cs _ _), ⟨(scl_cl_u8 _ _), trivial, trivial⟩, (sc_TExpr_cs _ _), trivial⟩ (by refine scL_fr ?_; exact ⟨(scl_TExpr_cl _ _), trivial, trivial, trivial⟩))
        show AWP _ _ _ _ _ (fr 51 [(32, .ro .unk ([x0, v7.1, v8.1]).length (TExpr.cl ([x0, v7.1, v8.1]))), (33, iA (lI ([x0, v7.1, v8.1]))), (34, iA v26)]) [.cells 25 (TExpr.cs v8.1), .cells 25 (TExpr.cs v7.1), .cells 25 (TExpr.cs v6.1), .cells 101 (TCodes.cs v8.2), .cells 25 (TExpr.cs x0)]
        obtain ⟨hb_, H⟩ := H
        replace H : p_law6_ShapeExprs_L1 n x0 v7 v8 v26 = some r := H
        cases n with
        | zero => exact not_none (by simpa only [p_law6_ShapeExprs_L1] using H)
        | succ n =>
          unfold p_law6_ShapeExprs_L1 at H
          refine AWP_reg (Rh 1 51 [(32, .ro .unk ([x0, v7.1, v8.1]).length (TExpr.cl ([x0, v7.1, v8.1]))), (33, iA (lI ([x0, v7.1, v8.1]))), (34, iA v26), (35, bA (decide (v26 < (lI ([x0, v7.1, v8.1])))))] (AOps_done (AWP_seq (CD H (fun hb27 H => ?_) (fun hb27 H => ?_)))))
          · refine AWP_skip ?_
            show AWP _ _ _ _ _ _ _
            refine AWP_seq (AWP_block ?_)
            refine AWP_reg ?_
            obtain ⟨v28, hv28, H⟩ := bind_some H
            refine AOps_index (d := (some 36)) (sz := 5) (c := TExpr.cs) (by kernel_rfl) rfl (eq_TExpr_cl _) (fun _ => rfl) (by decide) hv28 (fun tl28 => ?_)
            refine R 3 51 [(10, .ptr 5 0), (32, .ro .unk ([x0, v7.1, v8.1]).length (TExpr.cl ([x0, v7.1, v8.1]))), (33, iA (lI ([x0, v7.1, v8.1]))), (34, iA v26)] [.cells 25 (TExpr.cs v28), .cells 25 (TExpr.cs v8.1), .cells 25 (TExpr.cs v7.1), .cells 25 (TExpr.cs v6.1), .cells 101 (TCodes.cs v8.2), .cells 25 (TExpr.cs x0)] (AOps_done ?_)
            obtain ⟨v29, hv29, H⟩ := bind_some H
            obtain ⟨v30, hv30, H⟩ := bind_some H
            obtain ⟨v31, hv31, H⟩ := bind_some H
            obtain ⟨v32, hv32, H⟩ := bind_some H
            refine AWP_regD1 [0, 2, 1, 3, 4, 5, 6, 8, 7, 9, 10, 11] (N := 51) (f := [(10, .ptr 5 0), (32, .ro .unk ([x0, v7.1, v8.1]).length (TExpr.cl ([x0, v7.1, v8.1]))), (33, iA (lI ([x0, v7.1, v8.1]))), (34, iA v26)]) (leL_of [10, 32, 33, 34] (by kernel_rfl)) mixed (by kernel_rfl) (by kernel_rfl) (st' := fr 51 [(32, .ro .unk ([x0, v7.1, v8.1]).length (TExpr.cl ([x0, v7.1, v8.1]))), (33, iA (lI ([x0, v7.1, v8.1]))), (34, iA v26), (49, bA ((v29 != v30) || (!(v31 == v32))))]) (h' := [.cells 25 (TExpr.cs v28), .cells 25 (TExpr.cs v8.1), .cells 25 (TExpr.cs v7.1), .cells 25 (TExpr.cs v6.1), .cells 101 (TCodes.cs v8.2), .cells 25 (TExpr.cs x0)]) ?_ ?_
            rotate_left
            · refine RD 2 51 [(2, 5), (0, 5)] [(10, .ptr 5 0), (32, .ro .unk ([x0, v7.1, v8.1]).length (TExpr.cl ([x0, v7.1, v8.1]))), (33, iA (lI ([x0, v7.1, v8.1]))), (34, iA v26), (38, .agg (TExpr.cs v28)), (40, .agg (TExpr.cs v28))] (AD_callp (d := (some 39)) (al := [.agg (TExpr.cs v28)]) (r := iA v29) (by kernel_rfl) (s_shape_Expr hG.toGlobT hv29) ⟨(sc_TExpr_cs _ _), trivial⟩ trivial ?_)
              refine AD_callp (d := (some 41)) (al := [.agg (TExpr.cs v28)]) (r := iA v30) (by kernel_rfl) (s_ref6_Expr hG.toGlobT hv30) ⟨(sc_TExpr_cs _ _), trivial⟩ trivial ?_
              refine RD 2 51 [(2, 5), (0, 5)] [(10, .ptr 5 0), (32, .ro .unk ([x0, v7.1, v8.1]).length (TExpr.cl ([x0, v7.1, v8.1]))), (33, iA (lI ([x0, v7.1, v8.1]))), (34, iA v26), (38, .agg (TExpr.cs v28)), (39, iA v29), (40, .agg (TExpr.cs v28)), (41, iA v30), (42, bA (v29 != v30)), (43, bA (v29 != v30))] ?_
              cases c1 : (v29 != v30 : Bool) with
              | true =>
                refine RD 2 51 [(2, 5), (0, 5)] [(10, .ptr 5 0), (32, .ro .unk ([x0, v7.1, v8.1]).length (TExpr.cl ([x0, v7.1, v8.1]))), (33, iA (lI ([x0, v7.1, v8.1]))), (34, iA v26), (38, .agg (TExpr.cs v28)), (39, iA v29), (40, .agg (TExpr.cs v28)), (41, iA v30), (42, bA true), (43, bA true), (44, undefA), (46, undefA)] (AD_offB (d := some 45) (by kernel_rfl) ?_)
                refine AD_offB (d := some 47) (by kernel_rfl) ?_
                refine RD 2 51 [(2, 5), (0, 5)] [(10, .ptr 5 0), (32, .ro .unk ([x0, v7.1, v8.1]).length (TExpr.cl ([x0, v7.1, v8.1]))), (33, iA (lI ([x0, v7.1, v8.1]))), (34, iA v26), (38, .agg (TExpr.cs v28)), (39, iA v29), (40, .agg (TExpr.cs v28)), (41, iA v30), (42, bA true), (43, bA true), (44, undefA), (45, undefA), (46, undefA), (47, undefA), (48, undefA), (49, bA (true || (!(v31 == v32))))] ?_
                exact AD_here [32, 33, 34, 49] (by kernel_rfl) rfl
              | false =>
                refine RD 2 51 [(8, 5), (6, 5), (2, 5), (0, 5)] [(10, .ptr 5 0), (32, .ro .unk ([x0, v7.1, v8.1]).length (TExpr.cl ([x0, v7.1, v8.1]))), (33, iA (lI ([x0, v7.1, v8.1]))), (34, iA v26), (38, .agg (TExpr.cs v28)), (39, iA v29), (40, .agg (TExpr.cs v28)), (41, iA v30), (42, bA false), (43, bA false), (44, .agg (TExpr.cs v28)), (46, .agg (TExpr.cs v28))] ?_
                have hv31_ := cond_t hv31 (by simp only [c1] <;> rfl)
                refine AD_callp (d := (some 45)) (al := [.agg (TExpr.cs v28)]) (r := bA v31) (by kernel_rfl) (s_shape_None hv31_) ⟨(sc_TExpr_cs _ _), trivial⟩ trivial ?_
                have hv32_ := cond_t hv32 (by simp only [c1] <;> rfl)
                refine AD_callp (d := (some 47)) (al := [.agg (TExpr.cs v28)]) (r := bA v32) (by kernel_rfl) (s_ref6_None hv32_) ⟨(sc_TExpr_cs _ _), trivial⟩ trivial ?_
                refine AD_bne (d := (some 48)) (p := v31) (q := v32) (by kernel_rfl) ?_
                refine RD 1 51 [(8, 5), (6, 5), (2, 5), (0, 5)] [(10, .ptr 5 0), (32, .ro .unk ([x0, v7.1, v8.1]).length (TExpr.cl ([x0, v7.1, v8.1]))), (33, iA (lI ([x0, v7.1, v8.1]))), (34, iA v26), (38, .agg (TExpr.cs v28)), (39, iA v29), (40, .agg (TExpr.cs v28)), (41, iA v30), (42, bA false), (43, bA false), (44, .agg (TExpr.cs v28)), (45, bA v31), (46, .agg (TExpr.cs v28)), (47, bA v32), (48, bA (!(v31 == v32))), (49, bA (false || (!(v31 == v32))))] ?_
                exact AD_here [32, 33, 34, 49] (by kernel_rfl) rfl
            refine CD H (fun hb33 H => ?_) (fun hb33 H => ?_)
            · refine AWP_reg (Rh 1 51 [(4, bA false)] (AOps_done ?_))
              exact AWP_ret (FR H)
            · refine AWP_skip ?_
              show AWP _ _ _ _ _ _ _
              refine AWP_region ?_
              refine Rh 2 51 [(32, .ro .unk ([x0, v7.1, v8.1]).length (TExpr.cl ([x0, v7.1, v8.1]))), (33, iA (lI ([x0, v7.1, v8.1]))), (34, iA (w64 (v26 + 1)))] (AOps_done ?_)
              exact Exists.intro (w64 (v26 + 1)) (Exists.intro n ⟨by omega, ⟨by omega, H⟩, Norm_fd [32, 33, 34] 1 (by kernel_rfl) rfl rfl ⟨(sc_TExpr_cs _ _), (sc_TExpr_cs _ _), (sc_TExpr_cs _ _), ⟨(scl_cl_u8 _ _), trivial, trivial⟩, (sc_TExpr_cs _ _), trivial⟩ (by refine scL_fr ?_; exact ⟨(scl_TExpr_cl _ _), trivial, trivial, trivial⟩)⟩)
          · refine AWP_exit ?_
            show AWP _ _ _ _ _ _ _
            refine AWP_reg (Rh 1 51 [(4, bA true)] (AOps_done ?_))
            exact AWP_ret (FR H)
end Go.Proofs.YtjhbobacbaikoaaGreatDoor
/- The law on conditions: it gives true. -/
namespace Go.Proofs.YtjhbobacbaikoaaGreatDoor
open Go
set_option linter.unusedVariables false
set_option linter.unusedSimpArgs false
set_option maxRecDepth 100000
theorem none_al (x : TExpr) : ∃ b, ∀ n, p_shape_None n x = some b ∧ p_ref6_None n x = some b := by
  have h : ∃ b, ∀ n, p_shape_None n x = some b := ⟨_, fun n => rfl⟩
  obtain ⟨b, h⟩ := h
  exact ⟨b, fun n => ⟨h n, by rw [← none_eq]; exact h n⟩⟩
theorem exprs_law (x : TExpr) (codes : List Int) (hx : x.sm) (hv : x.gValues.length < 4294967281) (hc : ∀ b ∈ codes, 0 ≤ b ∧ b ≤ 255) (hl : codes.length < 4294967281) : Al fun n => p_law6_ShapeExprs n x codes = some true := by
  have key : Gv (fun n => p_law6_ShapeExprs n x codes) fun r => r = true := by
    unfold p_law6_ShapeExprs
    refine Gv.bind (Gv.al (Q := fun r => r = true) awake_al rfl) ?_
    rintro r rfl
    simp only [Bool.not_true, cond_false]
    obtain ⟨g, hg⟩ := big_tot x hx
    refine Gv.bind (Gv.al (Q := fun _ => True) hg trivial) fun b _ => ?_
    refine Gv.cond (fun _ => Gv.pure rfl) fun _ => ?_
    refine Gv.bind (new_gv codes hc hl 120 (by decide) (by decide)) fun c hc => ?_
    have hs : SegG [(⟨#[97, 108, 112, 104, 97]⟩ : ByteArray), (⟨#[98, 101, 116, 97]⟩ : ByteArray)] := by
      refine ⟨by decide, fun s hs => ?_⟩
      have h : ∀ n, (([(⟨#[97, 108, 112, 104, 97]⟩ : ByteArray), (⟨#[98, 101, 116, 97]⟩ : ByteArray)] : List ByteArray).all fun s => p_text_Key (n + 60) s == some true) = true := fun n => by kernel_rfl
      refine ⟨?_, Al.addk 60 fun n => beq_iff_eq.1 (List.all_eq_true.1 (h n) s hs)⟩
      rcases List.mem_cons.1 hs with rfl | hs
      · decide
      · obtain rfl := List.mem_singleton.1 hs
        decide
    refine Gv.bind (expr_gv _ hs 2 c (by decide) hc) fun v6 h6 => ?_
    refine Gv.bind (cond_gv (B := 20) (by decide) (by decide) _ v6.1 v6.2 (Nat.le_refl _) h6.1.bd h6.2) fun v7 h7 => ?_
    refine Gv.bind (cond_gv (B := 32) (by decide) (by decide) _ v7.1 v7.2 (Nat.le_refl _) h7.1 h7.2) fun v8 h8 => ?_
    have hok := expr_good v6.1 h6.1.gd (TExpr.bd_sm (by decide) _ h6.1.bd) (by have := h6.1.dep; omega) (by have := h6.1.parts; simp only [exP] at this; omega)
    refine Gv.bind (Gv.al (Q := fun r => r = 0) hok rfl) ?_
    rintro r rfl
    simp only [bne_self_eq_false, cond_false]
    have hsm : ∀ y ∈ [x, v7.1, v8.1], y.sm := by
      intro y hy
      have : y = x ∨ y = v7.1 ∨ y = v8.1 := by simpa using hy
      rcases this with rfl | rfl | rfl
      · exact hx
      · exact TExpr.bd_sm (by decide) _ h7.1
      · exact TExpr.bd_sm (by decide) _ h8.1
    have loop : Al fun n => p_law6_ShapeExprs_L1 n x v7 v8 ((0 : Nat) : Int) = some true := by
      refine loop1 (fun n i => p_law6_ShapeExprs_L1 n x v7 v8 i) 3 (fun _ => true) (fun i hi => ?_) ?_ 0 (by omega)
      · have hil : i < [x, v7.1, v8.1].length := hi
        obtain ⟨e, he⟩ := expr_bi _ (hsm _ (List.getElem_mem hil))
        obtain ⟨b, hb⟩ := none_al [x, v7.1, v8.1][i]
        refine he.mono fun n ⟨a1, a2⟩ => .inr ⟨?_, rfl⟩
        rw [p_law6_ShapeExprs_L1, lI_in hil]
        simp only [cond_true, rdO_nat hil, Option.bind_some, a1, a2, (hb n).1, (hb n).2, bne_self_eq_false, Bool.not_false, Bool.false_or, BEq.rfl, Bool.not_true, cond_false, w64_add (show i + 1 < 9223372036854775808 by omega)]
      · refine .of fun n => ?_
        have : decide (((3 : Nat) : Int) < lI [x, v7.1, v8.1]) = false := rfl
        rw [p_law6_ShapeExprs_L1, this]
        rfl
    exact Gv.al loop rfl
  obtain ⟨r, rfl, h⟩ := key
  exact h
end Go.Proofs.YtjhbobacbaikoaaGreatDoor
/- Flagstone's law ShapeExprs holds for every input of bulk at most 1048576: the call returns true, and its arguments read behind it as before. The condition: the listed package variables hold what their initialisers lay. -/
namespace Go.Proofs.YtjhbobacbaikoaaGreatDoor
open Go Go.ChangeShapes Go.WideShapes Go.RowKit
set_option linter.unusedVariables false
set_option maxRecDepth 100000
theorem ownNone : ownKnob Tryz.prog.godebug = none := by kernel_rfl
theorem laidOutT : laidOutB Tryz.prog = true := by kernel_rfl
theorem shapeExprs_contract (H : Type) (enc : TypeId × Value → H) (W : World) (base : Nat) (args : Array Value) (ds gs : List (DataW H)) (before : List MemPlace)
    (hval : ∀ (j : Nat) t v, Tryz.f3.params[j]? = some t → args[j]? = some v → Value.okWide Tryz.prog W .any base t v)
    (hW : DataW.Whole enc Tryz.prog Tryz.f3.params.toList Rows.shapeExprsSpec.vars false W args.toList ds gs before) (hfit : ∀ d ∈ ds, fitU d) (hL : laidMetH Tryz.prog Rows.shapeExprsUptoRow.laid W) :
    Calls Tryz.prog 3 args W fun e W' => ∃ v, e = .returned v ∧ Rows.shapeExprsSpec.post enc Tryz.prog Tryz.f3 false true false false W args v W' := by
  have hW' := hW
  obtain ⟨p, q, hA, hV, rfl, hfz, hnd⟩ := hW
  obtain ⟨rfl, rfl⟩ := trodVars_none hV
  have hA0 : DataW.TrodAll enc Tryz.prog W 0 (fun _ => true) true [25, 26] args.toList ds p := hA
  obtain ⟨v0, v1, d0, d1, p0, p1, rfl, rfl, hp, ⟨n0, h0⟩, ⟨n1, h1⟩⟩ := trodAll_two hA0
  obtain ⟨x0, r0, o0⟩ := (rd_TExpr fitU_ok _) _ _ h0 (hfit _ (by simp))
  obtain ⟨x1, r1, o1⟩ := (Rd_slice (sz := 1) eq_cl_u8 fitU_ok Tryz.underlying26 (by kernel_rfl) (by decide) (fun _ => rfl) (fun m _ => (Rd_u8 Tryz.underlying5))) _ _ h1 (hfit _ (by simp))
  have hB : 1048576 < 4294967281 := by decide
  obtain ⟨n, law⟩ := Al.get (exprs_law x0 x1 (TExpr.ok_sm hB _ o0) (by have := TExpr.ok_vals o0; omega) o1.2 (by have := o1.1; omega))
  obtain ⟨E, hE, hG⟩ := laid_envD (i0 := 5) (i1 := 6) (i2 := 4) (i3 := 10) (i4 := 11) (i5 := 3) (i8 := 8) (i9 := 7) (i10 := 2) hL (by kernel_rfl) rfl rfl rfl rfl rfl rfl rfl rfl rfl
  have a0 := agg_rel Tryz.underlying25 (hval 0 25 v0 rfl rfl) r0 (by rfl)
  have a1 := slice_rel Tryz.underlying26 (hval 1 26 v1 rfl rfl) r1
  refine (s_law6_ShapeExprs hG law _ W #[v0, v1] hE (ok0 W) ⟨_, _, rfl, a0, ⟨_, _, rfl, a1, rfl⟩⟩).mono fun e W' h => ?_
  obtain ⟨r, h', μ', u, rfl, ⟨rfl, rfl⟩, _, hu, tt⟩ := h
  have hu : u = .bool true := hu
  subst hu
  have bel := to_below tt
  simp only [List.append_nil] at hW'
  have hlt : ∀ x ∈ p, x.block < W.heap.size := fun x hx => by simpa using hW'.lt x hx
  exact ⟨_, rfl, ⟨_, _, _, [], p, [], hW', trodAll_mk1 (shut_bool Tryz.underlying4 _), trodAll_stays laidOutT bel (by kernel_rfl) hA hlt (fun x hx => decide_eq_true (hlt x hx)), rfl, bel.frame _, fun h => by cases h⟩⟩
end Go.Proofs.YtjhbobacbaikoaaGreatDoor
