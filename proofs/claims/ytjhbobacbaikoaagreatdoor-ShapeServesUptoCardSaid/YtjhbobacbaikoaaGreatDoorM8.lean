/- A function of the program as a pure function, and that the program computes it. -/
import Derived.Test.YtjhbobacbaikoaaGreatDoorM4
import Derived.Test.YtjhbobacbaikoaaGreatDoorM6
import Derived.Test.YtjhbobacbaikoaaGreatDoorM7
namespace Go.Proofs.YtjhbobacbaikoaaGreatDoor
open Go
set_option linter.unusedVariables false
set_option linter.unusedSimpArgs false
set_option maxRecDepth 100000
def p_draw_Codes_Keys_L2 (n : Nat) (v20 : Int × TCodes) (v37 : List ByteArray) (v38 : Int) : Option ((List ByteArray) × TCodes) := match n with
| 0 => none
| n + 1 =>
(bif decide (v38 < (lI v37)) then
(rdO v37 v38).bind fun v40 =>
(rdO v37 (w64 (v38 - 1))).bind fun v41 =>
(bif sle' v40 v41 then
(cutL v37 0 v38).bind fun v43 =>
 some (v43, v20.2)
 else
 p_draw_Codes_Keys_L2 n v20 v37 (w64 (v38 + 1)))
 else
 some (v37, v20.2))
def p_draw_Codes_Keys_L1 (n : Nat) (v1 : Int × TCodes) (v16 : List ByteArray) (v17 : Int) (v18 : List Int) (v19 : Int) : Option ((List ByteArray) × TCodes) := match n with
| 0 => none
| n + 1 =>
(p_draw_Codes_Next n ({ glist := v18, gat := v19 } : TCodes) 4).bind fun v20 =>
(bif decide (v17 < v20.1) then
(remO (w64 (v1.1 + v17)) 10).bind fun v22 =>
(catO (⟨#[107]⟩ : ByteArray) (Utf8.encode (IntKind.i32.wrap (w64 (48 + v22))))).bind fun v23 =>
(appO 16 v16 ([v23])).bind fun v24 =>
 p_draw_Codes_Keys_L1 n v1 v24 (w64 (v17 + 1)) v20.2.glist v20.2.gat
 else
 p_draw_Codes_Keys_L2 n v20 v16 1)
def p_draw_Codes_Keys (n : Nat) (x0 : TCodes) : Option ((List ByteArray) × TCodes) :=
(p_draw_Codes_Next n x0 10).bind fun v1 =>
 p_draw_Codes_Keys_L1 n v1 ([]) 0 v1.2.glist v1.2.gat
variable {E : Env}
theorem s_draw_Codes_Keys {n : Nat} {x0 : TCodes} {r : (List ByteArray) × TCodes} (H : p_draw_Codes_Keys n x0 = some r) :
    Sp Tryz.prog E 61 [.ptr 0 0] [.cells 101 (TCodes.cs x0)] (isA (.ro .unk r.1.length (cl_str r.1)) [.cells 101 (TCodes.cs r.2)]) := by
  unfold p_draw_Codes_Keys at H
  refine Sp_fn Tryz.func61 rfl (fun hc hs => ?_)
  refine AWP_reg (Rh 1 46 [(0, .ptr 0 0)] (AOps_done (AWP_reg (Rh 1 46 [(0, .ptr 0 0), (7, .ptr 0 0)] ?_))))
  obtain ⟨v1, hv1, H⟩ := bind_some H
  refine AOps_call1 (d := (some 8)) (al := [.ptr 0 0, iA 10]) ([.ptr 0 0, iA 10]) (r := iA v1.1) (j := 0) (b' := .cells 101 (TCodes.cs v1.2)) (by kernel_rfl) rfl (s_draw_Codes_Next hv1) (⟨(scl_cl_u8 _ _), trivial, trivial⟩) (⟨(scl_cl_u8 _ _), trivial, trivial⟩) ⟨Nat.zero_lt_one, trivial, trivial⟩ trivial rfl (h' := [.cells 101 (TCodes.cs v1.2)]) rfl ?_
  refine Rh 1 46 [(0, .ptr 0 0), (3, iA v1.1)] (AOps_done (AWP_reg (Rh 1 46 [(0, .ptr 0 0), (3, iA v1.1), (4, .ro .full 0 [])] (AOps_done (AWP_seq (AWP_reg (Rh 1 46 [(0, .ptr 0 0), (3, iA v1.1), (4, .ro .full 0 []), (5, iA 0)] (AOps_done ?_))))))))
  refine AWP_block ?_
  refine AWP_loopN (α := (List ByteArray) × Int × (List Int) × Int) (fun ⟨v16, v17, v18, v19⟩ => fr 46 [(0, .ptr 0 0), (3, iA v1.1), (4, .sl 1 0 v16.length (.whole 1)), (5, iA v17)]) (fun ⟨v16, v17, v18, v19⟩ => [.row 9 (cl_str v16), .cells 101 [.ro .unk v18.length (cl_u8 v18), iA v19]]) (fun k_ ⟨v16, v17, v18, v19⟩ => k_ ≤ n ∧ p_draw_Codes_Keys_L1 k_ v1 v16 v17 v18 v19 = some r) (fun n a H => ?_) (k := n) ([], 0, v1.2.glist, v1.2.gat) ⟨Nat.le_refl _, H⟩ (Norm_trans (Norm_fd (st' := fr 46 [(0, .ptr 0 0), (3, iA v1.1), (4, .ro .full 0 []), (5, iA 0)]) (h' := [.cells 101 (TCodes.cs v1.2)]) [0, 3, 4, 5] 0 (by kernel_rfl) rfl rfl ⟨⟨(scl_cl_u8 _ _), trivial, trivial⟩, trivial⟩ (by refine scL_fr ?_; exact ⟨(sc_ptr rfl), trivial, trivial, trivial, trivial⟩)) (Norm_trans (Norm_nil' (st' := fr 46 [(0, .ptr 0 0), (3, iA v1.1), (4, .sl 1 0 ([] : List ByteArray).length (.whole 1)), (5, iA 0)]) 4 9 1 (by kernel_rfl) (h' := [.row 9 (cl_str ([])), .cells 101 (TCodes.cs v1.2)]) rfl (by kernel_rfl)) (Norm_fd [0, 3, 4, 5] 0 (by kernel_rfl) rfl rfl ⟨(scl_cl_str _ _), ⟨(scl_cl_u8 _ _), trivial, trivial⟩, trivial⟩ (by refine scL_fr ?_; exact ⟨(sc_ptr rfl), trivial, (sc_sl rfl), trivial, trivial⟩))))
  obtain ⟨v16, v17, v18, v19⟩ := a
  show AWP _ _ _ _ _ (fr 46 [(0, .ptr 0 0), (3, iA v1.1), (4, .sl 1 0 v16.length (.whole 1)), (5, iA v17)]) [.row 9 (cl_str v16), .cells 101 [.ro .unk v18.length (cl_u8 v18), iA v19]]
  obtain ⟨hb_, H⟩ := H
  replace H : p_draw_Codes_Keys_L1 n v1 v16 v17 v18 v19 = some r := H
  cases n with
  | zero => exact not_none (by simpa only [p_draw_Codes_Keys_L1] using H)
  | succ n =>
    unfold p_draw_Codes_Keys_L1 at H
    refine AWP_seq (AWP_reg (Rh 2 46 [(0, .ptr 0 0), (3, iA v1.1), (4, .sl 1 0 v16.length (.whole 1)), (5, iA v17), (9, iA v17), (10, .ptr 0 0)] ?_))
    obtain ⟨v20, hv20, H⟩ := bind_some H
    refine AOps_call1 (d := (some 11)) (al := [.ptr 0 0, iA 4]) ([.ptr 0 0, iA 4]) (r := iA v20.1) (j := 0) (b' := .cells 101 (TCodes.cs v20.2)) (by kernel_rfl) rfl (s_draw_Codes_Next hv20) (⟨(scl_cl_u8 _ _), trivial, trivial⟩) (⟨(scl_cl_u8 _ _), trivial, trivial⟩) ⟨Nat.zero_lt_one, trivial, trivial⟩ trivial rfl (h' := [.row 9 (cl_str v16), .cells 101 (TCodes.cs v20.2)]) rfl ?_
    refine Rh 1 46 [(0, .ptr 0 0), (3, iA v1.1), (4, .sl 1 0 v16.length (.whole 1)), (5, iA v17), (12, bA (decide (v17 < v20.1)))] (AOps_done (CD H (fun hb21 H => ?_) (fun hb21 H => ?_)))
    · refine AWP_skip ?_
      show AWP _ _ _ _ _ _ _
      refine AWP_seq (AWP_block ?_)
      refine AWP_region ?_
      refine Rh 4 46 [(0, .ptr 0 0), (3, iA v1.1), (5, iA v17), (15, .sl 1 0 v16.length (.whole 1)), (18, iA (w64 (v1.1 + v17)))] ?_
      obtain ⟨v22, hv22, H⟩ := bind_some H
      refine AOps_rem (kk := .i64) (d := (some 19)) (by kernel_rfl) hv22 ?_
      refine Rh 3 46 [(0, .ptr 0 0), (3, iA v1.1), (5, iA v17), (15, .sl 1 0 v16.length (.whole 1)), (22, sA (Utf8.encode (IntKind.i32.wrap (w64 (48 + v22)))))] ?_
      obtain ⟨v23, hv23, H⟩ := bind_some H
      refine AOps_cat (d := (some 23)) (by kernel_rfl) hv23 ?_
      refine AOps_bsl (d := (some 24)) (m := 1) (cs := [sA v23]) (by kernel_rfl) ⟨trivial, trivial⟩ ?_
      obtain ⟨v24, hv24, H⟩ := bind_some H
      refine AOps_append (d := (some 25)) (c := cs_str) (sz := 1) (bs := 16) (e := 9) (id := 1) (xs := v16) (ys := [v23]) (by kernel_rfl) rfl (eq_cl_str _) rfl (eq_cl_str _) (fun _ => rfl) (by kernel_rfl) (by kernel_rfl) hv24 (eq_cl_str _) (h' := [.row 9 (cl_str v24), .dead, .cells 101 (TCodes.cs v20.2)]) rfl ?_
      refine Rh 1 46 [(0, .ptr 0 0), (3, iA v1.1), (4, .sl 2 0 v24.length (.whole 1)), (5, iA v17)] (AOps_done ?_)
      show AWP _ _ _ _ _ _ _
      refine AWP_region ?_
      refine Rh 3 46 [(0, .ptr 0 0), (3, iA v1.1), (4, .sl 2 0 v24.length (.whole 1)), (5, iA (w64 (v17 + 1)))] (AOps_done ?_)
      exact Exists.intro (v24, w64 (v17 + 1), v20.2.glist, v20.2.gat) (Exists.intro n ⟨by omega, ⟨by omega, H⟩, Norm_trans (Norm_fd (st' := fr 46 [(0, .ptr 0 0), (3, iA v1.1), (4, .sl 2 0 v24.length (.whole 1)), (5, iA (w64 (v17 + 1)))]) (h' := [.row 9 (cl_str v24), .dead, .cells 101 (TCodes.cs v20.2)]) [0, 3, 4, 5] 0 (by kernel_rfl) rfl rfl ⟨(scl_cl_str _ _), trivial, ⟨(scl_cl_u8 _ _), trivial, trivial⟩, trivial⟩ (by refine scL_fr ?_; exact ⟨(sc_ptr rfl), trivial, (sc_sl rfl), trivial, trivial⟩)) (Norm_trans (Norm_move' (st' := fr 46 [(0, .ptr 0 0), (3, iA v1.1), (4, .sl 1 0 v24.length (.whole 1)), (5, iA (w64 (v17 + 1)))]) (h' := [.row 9 (cl_str v24), .cells 101 (TCodes.cs v20.2)]) 1 2 rfl rfl rfl (fun h => by cases h) (by refine toOkL_fr ?_; exact ⟨(toOk_ptr rfl), trivial, (toOk_sl rfl), trivial, trivial⟩) ⟨(on0 (scl_cl_str _ _)), trivial, ⟨(on0 (scl_cl_u8 _ _)), trivial, trivial⟩, trivial⟩ (by kernel_rfl) (by kernel_rfl)) (Norm_fd [0, 3, 4, 5] 0 (by kernel_rfl) rfl rfl ⟨(scl_cl_str _ _), ⟨(scl_cl_u8 _ _), trivial, trivial⟩, trivial⟩ (by refine scL_fr ?_; exact ⟨(sc_ptr rfl), trivial, (sc_sl rfl), trivial, trivial⟩)))⟩)
    · refine AWP_exit ?_
      show AWP _ _ _ _ _ _ _
      refine AWP_seq (AWP_reg (Rh 1 46 [(4, .sl 1 0 v16.length (.whole 1)), (6, iA 1)] (AOps_done (AWP_block ?_))))
      refine AWP_loopN (α := (List ByteArray) × Int) (fun ⟨v37, v38⟩ => fr 46 [(4, .ro .unk v37.length (cl_str v37)), (6, iA v38)]) (fun ⟨v37, v38⟩ => [.cells 101 (TCodes.cs v20.2)]) (fun k_ ⟨v37, v38⟩ => k_ ≤ n ∧ p_draw_Codes_Keys_L2 k_ v20 v37 v38 = some r) (fun n a H => ?_) (k := n) (v16, 1) ⟨Nat.le_refl _, H⟩ (Norm_trans (Norm_fd (st' := fr 46 [(4, .sl 1 0 v16.length (.whole 1)), (6, iA 1)]) (h' := [.row 9 (cl_str v16), .cells 101 (TCodes.cs v20.2)]) [4, 6] 0 (by kernel_rfl) rfl rfl ⟨(scl_cl_str _ _), ⟨(scl_cl_u8 _ _), trivial, trivial⟩, trivial⟩ (by refine scL_fr ?_; exact ⟨(sc_sl rfl), trivial, trivial⟩)) (Norm_trans (Norm_weak1 (st' := fr 46 [(4, .ro .unk v16.length (cl_str v16)), (6, iA 1)]) 4 (.sl 1 0 v16.length (.whole 1)) (.ro .unk v16.length (cl_str v16)) (by kernel_rfl) (Frz_row (t := 9) (cs := cl_str v16) rfl (scl_cl_str _ _)) (by kernel_rfl)) (Norm_fd [4, 6] 1 (by kernel_rfl) rfl rfl ⟨⟨(scl_cl_u8 _ _), trivial, trivial⟩, trivial⟩ (by refine scL_fr ?_; exact ⟨(scl_cl_str _ _), trivial, trivial⟩))))
      obtain ⟨v37, v38⟩ := a
      show AWP _ _ _ _ _ (fr 46 [(4, .ro .unk v37.length (cl_str v37)), (6, iA v38)]) [.cells 101 (TCodes.cs v20.2)]
      obtain ⟨hb_, H⟩ := H
      replace H : p_draw_Codes_Keys_L2 n v20 v37 v38 = some r := H
      cases n with
      | zero => exact not_none (by simpa only [p_draw_Codes_Keys_L2] using H)
      | succ n =>
        unfold p_draw_Codes_Keys_L2 at H
        refine AWP_seq (AWP_reg (Rh 4 46 [(4, .ro .unk v37.length (cl_str v37)), (6, iA v38), (29, bA (decide (v38 < (lI v37))))] (AOps_done (CD H (fun hb39 H => ?_) (fun hb39 H => ?_)))))
        · refine AWP_skip ?_
          show AWP _ _ _ _ _ _ _
          refine AWP_seq (AWP_block ?_)
          obtain ⟨v40, hv40, H⟩ := bind_some H
          obtain ⟨v41, hv41, H⟩ := bind_some H
          refine AWP_regD1 [0, 1, 2, 3, 4, 5, 6, 7, 8, 9] (N := 46) (f := [(4, .ro .unk v37.length (cl_str v37)), (6, iA v38)]) (leL_of [4, 6] (by kernel_rfl)) mixed (by kernel_rfl) (by kernel_rfl) (st' := fr 46 [(4, .ro .unk v37.length (cl_str v37)), (6, iA v38), (41, bA (sle' v40 v41))]) (h' := [.cells 101 (TCodes.cs v20.2)]) ?_ ?_
          rotate_left
          · refine RD 2 46 [] [(4, .ro .unk v37.length (cl_str v37)), (6, iA v38), (32, .ro .unk v37.length (cl_str v37)), (33, iA v38)] (AD_index (d := (some 34)) (sz := 1) (c := cs_str) (by kernel_rfl) rfl (eq_cl_str _) (fun _ => rfl) (by decide) hv40 (fun tl40 => ?_))
            refine RD 4 46 [] [(4, .ro .unk v37.length (cl_str v37)), (6, iA v38), (32, .ro .unk v37.length (cl_str v37)), (33, iA v38), (34, .rop ([sA v40] ++ tl40)), (35, sA v40), (36, .ro .unk v37.length (cl_str v37)), (37, iA v38), (38, iA (w64 (v38 - 1)))] (AD_index (d := (some 39)) (sz := 1) (c := cs_str) (by kernel_rfl) rfl (eq_cl_str _) (fun _ => rfl) (by decide) hv41 (fun tl41 => ?_))
            refine RD 2 46 [] [(4, .ro .unk v37.length (cl_str v37)), (6, iA v38), (32, .ro .unk v37.length (cl_str v37)), (33, iA v38), (34, .rop ([sA v40] ++ tl40)), (35, sA v40), (36, .ro .unk v37.length (cl_str v37)), (37, iA v38), (38, iA (w64 (v38 - 1))), (39, .rop ([sA v41] ++ tl41)), (40, sA v41), (41, bA (sle' v40 v41))] ?_
            exact AD_here [4, 6, 41] (by kernel_rfl) rfl
          refine CD H (fun hb42 H => ?_) (fun hb42 H => ?_)
          · refine AWP_reg (Rh 2 46 [(42, .ro .unk v37.length (cl_str v37)), (43, iA v38)] ?_)
            obtain ⟨v43, hv43, H⟩ := bind_some H
            refine AOps_lcut (d := (some 44)) (sz := 1) (c := cs_str) (by kernel_rfl) rfl (eq_cl_str _) (eq_cl_str _) (fun _ => rfl) (by decide) hv43 ?_
            refine Rh 1 46 [(2, .ro .unk v43.length (cl_str v43))] (AOps_done (AWP_ret ?_))
            have hr := Option.some.inj H
            subst hr
            exact Fin_retn 0 (l := [.ro .unk v43.length (cl_str v43)]) (h' := [.cells 101 (TCodes.cs v20.2)]) (by kernel_rfl) rfl (Nat.le_of_ble_eq_true rfl) ((by refine Closed_of ?_; exact ⟨⟨(scl_cl_u8 _ _), trivial, trivial⟩, trivial⟩)) (Frz_sc (scl_cl_str _ _)) ⟨rfl, rfl⟩
          · refine AWP_skip ?_
            show AWP _ _ _ _ _ _ _
            refine AWP_region ?_
            refine Rh 3 46 [(4, .ro .unk v37.length (cl_str v37)), (6, iA (w64 (v38 + 1)))] (AOps_done ?_)
            exact Exists.intro (v37, w64 (v38 + 1)) (Exists.intro n ⟨by omega, ⟨by omega, H⟩, Norm_fd [4, 6] 0 (by kernel_rfl) rfl rfl ⟨⟨(scl_cl_u8 _ _), trivial, trivial⟩, trivial⟩ (by refine scL_fr ?_; exact ⟨(scl_cl_str _ _), trivial, trivial⟩)⟩)
        · refine AWP_exit ?_
          show AWP _ _ _ _ _ _ _
          refine AWP_reg (Rh 2 46 [(2, .ro .unk v37.length (cl_str v37))] (AOps_done (AWP_ret ?_)))
          have hr := Option.some.inj H
          subst hr
          exact Fin_retn 0 (l := [.ro .unk v37.length (cl_str v37)]) (h' := [.cells 101 (TCodes.cs v20.2)]) (by kernel_rfl) rfl (Nat.le_of_ble_eq_true rfl) ((by refine Closed_of ?_; exact ⟨⟨(scl_cl_u8 _ _), trivial, trivial⟩, trivial⟩)) (Frz_sc (scl_cl_str _ _)) ⟨rfl, rfl⟩
end Go.Proofs.YtjhbobacbaikoaaGreatDoor
/- A function of the program as a pure function, and that the program computes it. -/
namespace Go.Proofs.YtjhbobacbaikoaaGreatDoor
open Go
set_option linter.unusedVariables false
set_option linter.unusedSimpArgs false
set_option maxRecDepth 100000
def p_draw_Codes_Serve_K1 (n : Nat) (v4 : ByteArray × TCodes) (v5 : (List TRange) × TCodes) (v12 : List Int) (v13 : Int) (v14 : ByteArray) (v15 : ByteArray) : Option (TServe × TCodes) :=
 some (({ gVariation := 0, gKind := v14, gBy := v15, gSalt := v4.1, gSplit := v5.1 } : TServe), ({ glist := v12, gat := v13 } : TCodes))
def p_draw_Codes_Serve (n : Nat) (x0 : TCodes) (x1 : Int) : Option (TServe × TCodes) :=
(p_draw_Codes_Next n x0 2).bind fun v1 =>
(bif v1.1 == 0 then
(p_draw_Codes_Next n v1.2 x1).bind fun v3 =>
 some (({ gVariation := w64 (1 + v3.1), gKind := ByteArray.empty, gBy := ByteArray.empty, gSalt := ByteArray.empty, gSplit := [] } : TServe), v3.2)
 else
(p_draw_Codes_Text n v1.2).bind fun v4 =>
(p_draw_Codes_Split n v4.2 x1).bind fun v5 =>
(p_draw_Declared n ).bind fun v6 =>
(p_draw_Codes_Next n v5.2 12).bind fun v16 =>
(bif decide (v16.1 < (lI v6)) then rdO v6 v16.1 else some ({ gKind := ByteArray.empty, gName := ByteArray.empty, gType := 0 } : TDeclared)).bind fun v17 =>
(bif (decide (v16.1 < (lI v6))) && (v17.gType != 5) then
(rdO v6 v16.1).bind fun v19 =>
(rdO v6 v16.1).bind fun v20 =>
 p_draw_Codes_Serve_K1 n v4 v5 v16.2.glist v16.2.gat v19.gKind v20.gName
 else
 p_draw_Codes_Serve_K1 n v4 v5 v16.2.glist v16.2.gat (⟨#[117, 115, 101, 114]⟩ : ByteArray) (⟨#[107, 101, 121]⟩ : ByteArray)))
variable {E : Env}
theorem s_draw_Codes_Serve {n : Nat} (hG : GlobD E) {x0 : TCodes} {x1 : Int} {r : TServe × TCodes} (H : p_draw_Codes_Serve n x0 x1 = some r) :
    Sp Tryz.prog E 30 [.ptr 0 0, iA x1] [.cells 101 (TCodes.cs x0)] (isA (.agg (TServe.cs r.1)) [.cells 101 (TCodes.cs r.2)]) := by
  unfold p_draw_Codes_Serve at H
  refine Sp_fn Tryz.func30 rfl (fun hc hs => ?_)
  refine AWP_reg (R 1 50 [(0, .ptr 0 0), (1, iA x1), (4, .ptr 1 0)] [.cells 56 [iA 0, sA ByteArray.empty, sA ByteArray.empty, sA ByteArray.empty, .ro .full 0 []], .cells 101 (TCodes.cs x0)] (AOps_done (AWP_seq (AWP_reg (Rh 1 50 [(0, .ptr 0 0), (1, iA x1), (4, .ptr 1 0), (8, .ptr 0 0)] ?_)))))
  obtain ⟨v1, hv1, H⟩ := bind_some H
  refine AOps_call1 (d := (some 9)) (al := [.ptr 0 0, iA 2]) ([.ptr 0 0, iA 2]) (r := iA v1.1) (j := 0) (b' := .cells 101 (TCodes.cs v1.2)) (by kernel_rfl) rfl (s_draw_Codes_Next hv1) (⟨(scl_cl_u8 _ _), trivial, trivial⟩) (⟨(scl_cl_u8 _ _), trivial, trivial⟩) ⟨Nat.zero_lt_one, trivial, trivial⟩ trivial rfl (h' := [.cells 56 [iA 0, sA ByteArray.empty, sA ByteArray.empty, sA ByteArray.empty, .ro .full 0 []], .cells 101 (TCodes.cs v1.2)]) rfl ?_
  refine Rh 1 50 [(0, .ptr 0 0), (1, iA x1), (4, .ptr 1 0), (10, bA (v1.1 == 0))] (AOps_done (CD H (fun hb2 H => ?_) (fun hb2 H => ?_)))
  · refine AWP_reg (Rh 2 50 [(4, .ptr 1 0), (11, .ptr 0 0), (12, iA x1)] ?_)
    obtain ⟨v3, hv3, H⟩ := bind_some H
    refine AOps_call1 (d := (some 13)) (al := [.ptr 0 0, iA x1]) ([.ptr 0 0, iA x1]) (r := iA v3.1) (j := 0) (b' := .cells 101 (TCodes.cs v3.2)) (by kernel_rfl) rfl (s_draw_Codes_Next hv3) (⟨(scl_cl_u8 _ _), trivial, trivial⟩) (⟨(scl_cl_u8 _ _), trivial, trivial⟩) ⟨Nat.zero_lt_one, trivial, trivial⟩ trivial rfl (h' := [.cells 56 [iA 0, sA ByteArray.empty, sA ByteArray.empty, sA ByteArray.empty, .ro .full 0 []], .cells 101 (TCodes.cs v3.2)]) rfl ?_
    refine R 3 50 [(4, .ptr 1 0)] [.cells 56 [iA (w64 (1 + v3.1)), sA ByteArray.empty, sA ByteArray.empty, sA ByteArray.empty, .ro .full 0 []], .cells 101 (TCodes.cs v3.2)] (AOps_done (AWP_ret ?_))
    have hr := Option.some.inj H
    subst hr
    exact Fin_retn 1 (l := [.agg [iA (w64 (1 + v3.1)), sA ByteArray.empty, sA ByteArray.empty, sA ByteArray.empty, .ro .full 0 []]]) (h' := [.cells 101 (TCodes.cs v3.2)]) (by kernel_rfl) rfl (Nat.le_of_ble_eq_true rfl) ((by refine Closed_of ?_; exact ⟨⟨(scl_cl_u8 _ _), trivial, trivial⟩, trivial⟩)) (Frz_agg (FrzL_cons (Frz_sc trivial) (FrzL_cons (Frz_sc trivial) (FrzL_cons (Frz_sc trivial) (FrzL_cons (Frz_sc trivial) (FrzL_cons (Frz_le (Frz_sc trivial) (AV.le_ro _ _ _)) (FrzL_nil)))))) rfl) ⟨rfl, rfl⟩
  · refine AWP_skip ?_
    show AWP _ _ _ _ _ _ _
    refine AWP_reg (Rh 1 50 [(0, .ptr 0 0), (1, iA x1), (4, .ptr 1 0), (16, .ptr 0 0)] ?_)
    obtain ⟨v4, hv4, H⟩ := bind_some H
    refine AOps_call1 (d := (some 17)) (al := [.ptr 0 0]) ([.ptr 0 0]) (r := sA v4.1) (j := 0) (b' := .cells 101 (TCodes.cs v4.2)) (by kernel_rfl) rfl (s_draw_Codes_Text hG hv4) (⟨(scl_cl_u8 _ _), trivial, trivial⟩) (⟨(scl_cl_u8 _ _), trivial, trivial⟩) ⟨Nat.zero_lt_one, trivial⟩ trivial rfl (h' := [.cells 56 [iA 0, sA ByteArray.empty, sA ByteArray.empty, sA ByteArray.empty, .ro .full 0 []], .cells 101 (TCodes.cs v4.2)]) rfl ?_
    refine Rh 2 50 [(0, .ptr 0 0), (4, .ptr 1 0), (17, sA v4.1), (18, .ptr 0 0), (19, iA x1)] ?_
    obtain ⟨v5, hv5, H⟩ := bind_some H
    refine AOps_call1 (d := (some 20)) (al := [.ptr 0 0, iA x1]) ([.ptr 0 0, iA x1]) (r := .ro .unk v5.1.length (TRange.cl v5.1)) (j := 0) (b' := .cells 101 (TCodes.cs v5.2)) (by kernel_rfl) rfl (s_draw_Codes_Split hv5) (⟨(scl_cl_u8 _ _), trivial, trivial⟩) (⟨(scl_cl_u8 _ _), trivial, trivial⟩) ⟨Nat.zero_lt_one, trivial, trivial⟩ (scl_TRange_cl _ _) rfl (h' := [.cells 56 [iA 0, sA ByteArray.empty, sA ByteArray.empty, sA ByteArray.empty, .ro .full 0 []], .cells 101 (TCodes.cs v5.2)]) rfl ?_
    refine R 3 50 [(0, .ptr 0 0), (4, .ptr 1 0), (5, .ptr 2 0)] [.cells 56 [iA 0, sA (⟨#[117, 115, 101, 114]⟩ : ByteArray), sA (⟨#[107, 101, 121]⟩ : ByteArray), sA v4.1, .ro .unk v5.1.length (TRange.cl v5.1)], .cells 56 [iA 0, sA ByteArray.empty, sA ByteArray.empty, sA ByteArray.empty, .ro .full 0 []], .cells 101 (TCodes.cs v5.2)] (AOps_done (AWP_reg ?_))
    obtain ⟨v6, hv6, H⟩ := bind_some H
    refine AOps_callp (d := (some 22)) (al := []) (r := .ro .unk v6.length (TDeclared.cl v6)) (by kernel_rfl) (s_draw_Declared hv6) trivial (scl_TDeclared_cl _ _) ?_
    refine Rh 1 50 [(0, .ptr 0 0), (4, .ptr 1 0), (5, .ptr 2 0), (6, .ro .unk v6.length (TDeclared.cl v6))] (AOps_done (AWP_joinN (α := (List Int) × Int × ByteArray × ByteArray) (fun ⟨v12, v13, v14, v15⟩ => fr 50 [(4, .ptr 1 0), (5, .ptr 2 0)]) (fun ⟨v12, v13, v14, v15⟩ => [.cells 56 [iA 0, sA v14, sA v15, sA v4.1, .ro .unk v5.1.length (TRange.cl v5.1)], .cells 56 [iA 0, sA ByteArray.empty, sA ByteArray.empty, sA ByteArray.empty, .ro .full 0 []], .cells 101 [.ro .unk v12.length (cl_u8 v12), iA v13]]) (fun ⟨v12, v13, v14, v15⟩ => ∃ q, q ≤ q ∧ p_draw_Codes_Serve_K1 q v4 v5 v12 v13 v14 v15 = some r) (fun a hC => ?_) ?_))
    · obtain ⟨v12, v13, v14, v15⟩ := a
      show AWP _ _ _ _ _ (fr 50 [(4, .ptr 1 0), (5, .ptr 2 0)]) [.cells 56 [iA 0, sA v14, sA v15, sA v4.1, .ro .unk v5.1.length (TRange.cl v5.1)], .cells 56 [iA 0, sA ByteArray.empty, sA ByteArray.empty, sA ByteArray.empty, .ro .full 0 []], .cells 101 [.ro .unk v12.length (cl_u8 v12), iA v13]]
      obtain ⟨n, hn_, hC⟩ := hC
      replace H : p_draw_Codes_Serve_K1 n v4 v5 v12 v13 v14 v15 = some r := hC
      unfold p_draw_Codes_Serve_K1 at H
      refine AWP_reg (R 2 50 [(4, .ptr 1 0)] [.cells 56 [iA 0, sA v14, sA v15, sA v4.1, .ro .unk v5.1.length (TRange.cl v5.1)], .cells 56 [iA 0, sA v14, sA v15, sA v4.1, .ro .unk v5.1.length (TRange.cl v5.1)], .cells 101 [.ro .unk v12.length (cl_u8 v12), iA v13]] (AOps_done (AWP_ret ?_)))
      have hr := Option.some.inj H
      subst hr
      exact Fin_retn 2 (l := [.agg [iA 0, sA v14, sA v15, sA v4.1, .ro .unk v5.1.length (TRange.cl v5.1)]]) (h' := [.cells 101 [.ro .unk v12.length (cl_u8 v12), iA v13]]) (by kernel_rfl) rfl (Nat.le_of_ble_eq_true rfl) ((by refine Closed_of ?_; exact ⟨⟨(scl_cl_u8 _ _), trivial, trivial⟩, trivial⟩)) (Frz_sc ⟨trivial, trivial, trivial, trivial, (scl_TRange_cl _ _), trivial⟩) ⟨rfl, rfl⟩
    · refine AWP_reg (Rh 1 50 [(4, .ptr 1 0), (5, .ptr 2 0), (6, .ro .unk v6.length (TDeclared.cl v6)), (23, .ptr 0 0)] ?_)
      obtain ⟨v16, hv16, H⟩ := bind_some H
      refine AOps_call1 (d := (some 24)) (al := [.ptr 0 0, iA 12]) ([.ptr 0 0, iA 12]) (r := iA v16.1) (j := 0) (b' := .cells 101 (TCodes.cs v16.2)) (by kernel_rfl) rfl (s_draw_Codes_Next hv16) (⟨(scl_cl_u8 _ _), trivial, trivial⟩) (⟨(scl_cl_u8 _ _), trivial, trivial⟩) ⟨Nat.zero_lt_one, trivial, trivial⟩ trivial rfl (h' := [.cells 56 [iA 0, sA (⟨#[117, 115, 101, 114]⟩ : ByteArray), sA (⟨#[107, 101, 121]⟩ : ByteArray), sA v4.1, .ro .unk v5.1.length (TRange.cl v5.1)], .cells 56 [iA 0, sA ByteArray.empty, sA ByteArray.empty, sA ByteArray.empty, .ro .full 0 []], .cells 101 (TCodes.cs v16.2)]) rfl ?_
      refine Rh 1 50 [(4, .ptr 1 0), (5, .ptr 2 0), (6, .ro .unk v6.length (TDeclared.cl v6)), (7, iA v16.1)] (AOps_done (AWP_reg (Rh 5 50 [(4, .ptr 1 0), (5, .ptr 2 0), (6, .ro .unk v6.length (TDeclared.cl v6)), (7, iA v16.1), (29, bA (decide (v16.1 < (lI v6))))] ?_)))
      obtain ⟨v17, hv17, H⟩ := bind_some H
      refine AOps_cut 7 (st' := fr 50 [(4, .ptr 1 0), (5, .ptr 2 0), (6, .ro .unk v6.length (TDeclared.cl v6)), (7, iA v16.1), (36, bA ((decide (v16.1 < (lI v6))) && (v17.gType != 5)))]) (h' := [.cells 56 [iA 0, sA (⟨#[117, 115, 101, 114]⟩ : ByteArray), sA (⟨#[107, 101, 121]⟩ : ByteArray), sA v4.1, .ro .unk v5.1.length (TRange.cl v5.1)], .cells 56 [iA 0, sA ByteArray.empty, sA ByteArray.empty, sA ByteArray.empty, .ro .full 0 []], .cells 101 (TCodes.cs v16.2)]) ?_ ?_
      rotate_left
      · cases c1 : (decide (v16.1 < (lI v6)) : Bool) with
        | true =>
          refine R 2 50 [(4, .ptr 1 0), (5, .ptr 2 0), (6, .ro .unk v6.length (TDeclared.cl v6)), (7, iA v16.1), (29, bA true), (30, .ro .unk v6.length (TDeclared.cl v6)), (31, iA v16.1)] [.cells 56 [iA 0, sA (⟨#[117, 115, 101, 114]⟩ : ByteArray), sA (⟨#[107, 101, 121]⟩ : ByteArray), sA v4.1, .ro .unk v5.1.length (TRange.cl v5.1)], .cells 56 [iA 0, sA ByteArray.empty, sA ByteArray.empty, sA ByteArray.empty, .ro .full 0 []], .cells 101 (TCodes.cs v16.2)] ?_
          have hv17_ := cond_t hv17 (by simp only [c1] <;> rfl)
          refine AOps_index (d := (some 32)) (sz := 3) (c := TDeclared.cs) (by kernel_rfl) rfl (eq_TDeclared_cl _) (fun _ => rfl) (by decide) hv17_ (fun tl17 => ?_)
          refine R 4 50 [(4, .ptr 1 0), (5, .ptr 2 0), (6, .ro .unk v6.length (TDeclared.cl v6)), (7, iA v16.1), (36, bA (true && (v17.gType != 5)))] [.cells 56 [iA 0, sA (⟨#[117, 115, 101, 114]⟩ : ByteArray), sA (⟨#[107, 101, 121]⟩ : ByteArray), sA v4.1, .ro .unk v5.1.length (TRange.cl v5.1)], .cells 56 [iA 0, sA ByteArray.empty, sA ByteArray.empty, sA ByteArray.empty, .ro .full 0 []], .cells 101 (TCodes.cs v16.2)] ?_
          exact AOps_here [4, 5, 6, 7, 36] (by kernel_rfl) rfl
        | false =>
          refine R 7 50 [(4, .ptr 1 0), (5, .ptr 2 0), (6, .ro .unk v6.length (TDeclared.cl v6)), (7, iA v16.1), (36, bA (false && (v17.gType != 5)))] [.cells 56 [iA 0, sA (⟨#[117, 115, 101, 114]⟩ : ByteArray), sA (⟨#[107, 101, 121]⟩ : ByteArray), sA v4.1, .ro .unk v5.1.length (TRange.cl v5.1)], .cells 56 [iA 0, sA ByteArray.empty, sA ByteArray.empty, sA ByteArray.empty, .ro .full 0 []], .cells 101 (TCodes.cs v16.2)] ?_
          exact AOps_here [4, 5, 6, 7, 36] (by kernel_rfl) rfl
      refine AOps_done (CD H (fun hb18 H => ?_) (fun hb18 H => ?_))
      · obtain ⟨v19, hv19, H⟩ := bind_some H
        obtain ⟨v20, hv20, H⟩ := bind_some H
        refine AWP_regE1 [0, 1, 2, 3, 4, 5, 6, 7, 8, 9, 10, 11, 12, 13] (N := 50) (f := [(4, .ptr 1 0), (5, .ptr 2 0), (6, .ro .unk v6.length (TDeclared.cl v6)), (7, iA v16.1)]) (leL_of [4, 5, 6, 7] (by kernel_rfl)) mixed (by kernel_rfl) (by kernel_rfl) (st' := fr 50 [(4, .ptr 1 0), (5, .ptr 2 0)]) (h' := [.cells 56 [iA 0, sA v19.gKind, sA v20.gName, sA v4.1, .ro .unk v5.1.length (TRange.cl v5.1)], .cells 56 [iA 0, sA ByteArray.empty, sA ByteArray.empty, sA ByteArray.empty, .ro .full 0 []], .cells 101 (TCodes.cs v16.2)]) ?_ ?_
        rotate_left
        · refine RD 2 50 [] [(4, .ptr 1 0), (5, .ptr 2 0), (6, .ro .unk v6.length (TDeclared.cl v6)), (7, iA v16.1), (37, .ro .unk v6.length (TDeclared.cl v6)), (38, iA v16.1)] (AD_index (d := (some 39)) (sz := 3) (c := TDeclared.cs) (by kernel_rfl) rfl (eq_TDeclared_cl _) (fun _ => rfl) (by decide) hv19 (fun tl19 => ?_))
          refine RD 4 50 [] [(4, .ptr 1 0), (5, .ptr 2 0), (6, .ro .unk v6.length (TDeclared.cl v6)), (7, iA v16.1), (37, .ro .unk v6.length (TDeclared.cl v6)), (38, iA v16.1), (39, .rop ([sA v19.gKind, sA v19.gName, iA v19.gType] ++ tl19)), (40, .rop ([sA v19.gKind, sA v19.gName, iA v19.gType] ++ tl19)), (41, sA v19.gKind), (42, .ro .unk v6.length (TDeclared.cl v6)), (43, iA v16.1)] (AD_index (d := (some 44)) (sz := 3) (c := TDeclared.cs) (by kernel_rfl) rfl (eq_TDeclared_cl _) (fun _ => rfl) (by decide) hv20 (fun tl20 => ?_))
          refine RD 3 50 [(10, 2)] [(4, .ptr 1 0), (5, .ptr 2 0), (6, .ro .unk v6.length (TDeclared.cl v6)), (7, iA v16.1), (37, .ro .unk v6.length (TDeclared.cl v6)), (38, iA v16.1), (39, .rop ([sA v19.gKind, sA v19.gName, iA v19.gType] ++ tl19)), (40, .rop ([sA v19.gKind, sA v19.gName, iA v19.gType] ++ tl19)), (41, sA v19.gKind), (42, .ro .unk v6.length (TDeclared.cl v6)), (43, iA v16.1), (44, .rop ([sA v20.gKind, sA v20.gName, iA v20.gType] ++ tl20)), (45, .rop ([sA v20.gName, iA v20.gType] ++ tl20)), (46, sA v20.gName), (47, .ptr 2 1)] (AD_store (d := none) (id := 2) (h' := [.cells 56 [iA 0, sA v19.gKind, sA (⟨#[107, 101, 121]⟩ : ByteArray), sA v4.1, .ro .unk v5.1.length (TRange.cl v5.1)], .cells 56 [iA 0, sA ByteArray.empty, sA ByteArray.empty, sA ByteArray.empty, .ro .full 0 []], .cells 101 (TCodes.cs v16.2)]) (by kernel_rfl) (by kernel_rfl) ?_)
          refine RD 1 50 [(12, 2), (10, 2)] [(4, .ptr 1 0), (5, .ptr 2 0), (6, .ro .unk v6.length (TDeclared.cl v6)), (7, iA v16.1), (37, .ro .unk v6.length (TDeclared.cl v6)), (38, iA v16.1), (39, .rop ([sA v19.gKind, sA v19.gName, iA v19.gType] ++ tl19)), (40, .rop ([sA v19.gKind, sA v19.gName, iA v19.gType] ++ tl19)), (41, sA v19.gKind), (42, .ro .unk v6.length (TDeclared.cl v6)), (43, iA v16.1), (44, .rop ([sA v20.gKind, sA v20.gName, iA v20.gType] ++ tl20)), (45, .rop ([sA v20.gName, iA v20.gType] ++ tl20)), (46, sA v20.gName), (47, .ptr 2 1), (48, .ptr 2 2)] (AD_store (d := none) (id := 2) (h' := [.cells 56 [iA 0, sA v19.gKind, sA v20.gName, sA v4.1, .ro .unk v5.1.length (TRange.cl v5.1)], .cells 56 [iA 0, sA ByteArray.empty, sA ByteArray.empty, sA ByteArray.empty, .ro .full 0 []], .cells 101 (TCodes.cs v16.2)]) (by kernel_rfl) (by kernel_rfl) ?_)
          exact AD_here [4, 5] (by kernel_rfl) rfl
        exact Exists.intro (v16.2.glist, v16.2.gat, v19.gKind, v20.gName) ⟨⟨n, by omega, H⟩, Norm_fd [4, 5] 0 (by kernel_rfl) rfl rfl ⟨⟨trivial, trivial, trivial, trivial, (scl_TRange_cl _ _), trivial⟩, ⟨trivial, trivial, trivial, trivial, trivial, trivial⟩, ⟨(scl_cl_u8 _ _), trivial, trivial⟩, trivial⟩ (by refine scL_fr ?_; exact ⟨(sc_ptr rfl), (sc_ptr rfl), trivial⟩)⟩
      · refine AWP_skip ?_
        exact Exists.intro (v16.2.glist, v16.2.gat, (⟨#[117, 115, 101, 114]⟩ : ByteArray), (⟨#[107, 101, 121]⟩ : ByteArray)) ⟨⟨n, by omega, H⟩, Norm_fd [4, 5] 0 (by kernel_rfl) rfl rfl ⟨⟨trivial, trivial, trivial, trivial, (scl_TRange_cl _ _), trivial⟩, ⟨trivial, trivial, trivial, trivial, trivial, trivial⟩, ⟨(scl_cl_u8 _ _), trivial, trivial⟩, trivial⟩ (by refine scL_fr ?_; exact ⟨(sc_ptr rfl), (sc_ptr rfl), trivial⟩)⟩
end Go.Proofs.YtjhbobacbaikoaaGreatDoor
/- A function of the program as a pure function, and that the program computes it. -/
namespace Go.Proofs.YtjhbobacbaikoaaGreatDoor
open Go
set_option linter.unusedVariables false
set_option linter.unusedSimpArgs false
set_option maxRecDepth 100000
def p_draw_Codes_serve_K1 (n : Nat) (v10 : List Int) (v11 : Int) (v12 : Int) (v13 : ByteArray) (v14 : ByteArray) (v15 : ByteArray) (v16 : List TRange) : Option (TServe × TCodes) :=
 some (({ gVariation := v12, gKind := v13, gBy := v14, gSalt := v15, gSplit := v16 } : TServe), ({ glist := v10, gat := v11 } : TCodes))
def p_draw_Codes_serve (n : Nat) (x0 : TCodes) (x1 : TServe) : Option (TServe × TCodes) :=
(p_draw_Codes_Next n x0 6).bind fun v17 =>
(bif v17.1 == 0 then
(p_draw_Codes_Number n v17.2).bind fun v19 =>
 p_draw_Codes_serve_K1 n  v19.2.glist v19.2.gat v19.1 x1.gKind x1.gBy x1.gSalt x1.gSplit
 else
(bif v17.1 == 1 then
(p_draw_Codes_Name n v17.2).bind fun v21 =>
 p_draw_Codes_serve_K1 n  v21.2.glist v21.2.gat x1.gVariation v21.1 x1.gBy x1.gSalt x1.gSplit
 else
(bif v17.1 == 2 then
(p_draw_Codes_Name n v17.2).bind fun v23 =>
 p_draw_Codes_serve_K1 n  v23.2.glist v23.2.gat x1.gVariation x1.gKind v23.1 x1.gSalt x1.gSplit
 else
(bif v17.1 == 3 then
 p_draw_Codes_serve_K1 n  v17.2.glist v17.2.gat x1.gVariation x1.gKind x1.gBy (⟨#[127]⟩ : ByteArray) x1.gSplit
 else
(p_draw_Codes_ranges n v17.2 x1.gSplit).bind fun v25 =>
 p_draw_Codes_serve_K1 n  v25.2.glist v25.2.gat x1.gVariation x1.gKind x1.gBy x1.gSalt v25.1))))
variable {E : Env}
theorem s_draw_Codes_serve {n : Nat} {x0 : TCodes} {x1 : TServe} {r : TServe × TCodes} (H : p_draw_Codes_serve n x0 x1 = some r) :
    Sp Tryz.prog E 63 [.ptr 0 0, .agg (TServe.cs x1)] [.cells 101 (TCodes.cs x0)] (isA (.agg (TServe.cs r.1)) [.cells 101 (TCodes.cs r.2)]) := by
  unfold p_draw_Codes_serve at H
  refine Sp_fn Tryz.func63 rfl (fun hc hs => ?_)
  refine AWP_reg (R 2 31 [(0, .ptr 0 0), (3, .ptr 1 0), (4, .ptr 2 0)] [.cells 56 [iA 0, sA ByteArray.empty, sA ByteArray.empty, sA ByteArray.empty, .ro .full 0 []], .cells 56 (TServe.cs x1), .cells 101 (TCodes.cs x0)] (AOps_done (AWP_joinN (α := (List Int) × Int × Int × ByteArray × ByteArray × ByteArray × (List TRange)) (fun ⟨v10, v11, v12, v13, v14, v15, v16⟩ => fr 31 [(3, .ptr 1 0), (4, .ptr 2 0)]) (fun ⟨v10, v11, v12, v13, v14, v15, v16⟩ => [.cells 56 [iA 0, sA ByteArray.empty, sA ByteArray.empty, sA ByteArray.empty, .ro .full 0 []], .cells 56 [iA v12, sA v13, sA v14, sA v15, .ro .unk v16.length (TRange.cl v16)], .cells 101 [.ro .unk v10.length (cl_u8 v10), iA v11]]) (fun ⟨v10, v11, v12, v13, v14, v15, v16⟩ => ∃ q, q ≤ q ∧ p_draw_Codes_serve_K1 q  v10 v11 v12 v13 v14 v15 v16 = some r) (fun a hC => ?_) ?_)))
  · obtain ⟨v10, v11, v12, v13, v14, v15, v16⟩ := a
    show AWP _ _ _ _ _ (fr 31 [(3, .ptr 1 0), (4, .ptr 2 0)]) [.cells 56 [iA 0, sA ByteArray.empty, sA ByteArray.empty, sA ByteArray.empty, .ro .full 0 []], .cells 56 [iA v12, sA v13, sA v14, sA v15, .ro .unk v16.length (TRange.cl v16)], .cells 101 [.ro .unk v10.length (cl_u8 v10), iA v11]]
    obtain ⟨n, hn_, hC⟩ := hC
    replace H : p_draw_Codes_serve_K1 n  v10 v11 v12 v13 v14 v15 v16 = some r := hC
    unfold p_draw_Codes_serve_K1 at H
    refine AWP_reg (R 2 31 [(4, .ptr 2 0)] [.cells 56 [iA v12, sA v13, sA v14, sA v15, .ro .unk v16.length (TRange.cl v16)], .cells 56 [iA v12, sA v13, sA v14, sA v15, .ro .unk v16.length (TRange.cl v16)], .cells 101 [.ro .unk v10.length (cl_u8 v10), iA v11]] (AOps_done (AWP_ret ?_)))
    have hr := Option.some.inj H
    subst hr
    exact Fin_retn 2 (l := [.agg [iA v12, sA v13, sA v14, sA v15, .ro .unk v16.length (TRange.cl v16)]]) (h' := [.cells 101 [.ro .unk v10.length (cl_u8 v10), iA v11]]) (by kernel_rfl) rfl (Nat.le_of_ble_eq_true rfl) ((by refine Closed_of ?_; exact ⟨⟨(scl_cl_u8 _ _), trivial, trivial⟩, trivial⟩)) (Frz_sc ⟨trivial, trivial, trivial, trivial, (scl_TRange_cl _ _), trivial⟩) ⟨rfl, rfl⟩
  · refine AWP_reg (Rh 1 31 [(0, .ptr 0 0), (3, .ptr 1 0), (4, .ptr 2 0), (5, .ptr 0 0)] ?_)
    obtain ⟨v17, hv17, H⟩ := bind_some H
    refine AOps_call1 (d := (some 6)) (al := [.ptr 0 0, iA 6]) ([.ptr 0 0, iA 6]) (r := iA v17.1) (j := 0) (b' := .cells 101 (TCodes.cs v17.2)) (by kernel_rfl) rfl (s_draw_Codes_Next hv17) (⟨(scl_cl_u8 _ _), trivial, trivial⟩) (⟨(scl_cl_u8 _ _), trivial, trivial⟩) ⟨Nat.zero_lt_one, trivial, trivial⟩ trivial rfl (h' := [.cells 56 [iA 0, sA ByteArray.empty, sA ByteArray.empty, sA ByteArray.empty, .ro .full 0 []], .cells 56 (TServe.cs x1), .cells 101 (TCodes.cs v17.2)]) rfl ?_
    refine AOps_done (AWP_block ?_)
    refine AWP_reg (Rh 2 31 [(0, .ptr 0 0), (3, .ptr 1 0), (4, .ptr 2 0), (6, iA v17.1), (12, bA (v17.1 == 0))] (AOps_done (CD H (fun hb18 H => ?_) (fun hb18 H => ?_))))
    · refine AWP_region ?_
      refine Rh 1 31 [(3, .ptr 1 0), (4, .ptr 2 0), (14, .ptr 0 0)] ?_
      obtain ⟨v19, hv19, H⟩ := bind_some H
      refine AOps_call1 (d := (some 15)) (al := [.ptr 0 0]) ([.ptr 0 0]) (r := iA v19.1) (j := 0) (b' := .cells 101 (TCodes.cs v19.2)) (by kernel_rfl) rfl (s_draw_Codes_Number hv19) (⟨(scl_cl_u8 _ _), trivial, trivial⟩) (⟨(scl_cl_u8 _ _), trivial, trivial⟩) ⟨Nat.zero_lt_one, trivial⟩ trivial rfl (h' := [.cells 56 [iA 0, sA ByteArray.empty, sA ByteArray.empty, sA ByteArray.empty, .ro .full 0 []], .cells 56 (TServe.cs x1), .cells 101 (TCodes.cs v19.2)]) rfl ?_
      refine R 2 31 [(3, .ptr 1 0), (4, .ptr 2 0)] [.cells 56 [iA 0, sA ByteArray.empty, sA ByteArray.empty, sA ByteArray.empty, .ro .full 0 []], .cells 56 [iA v19.1, sA x1.gKind, sA x1.gBy, sA x1.gSalt, .ro .unk x1.gSplit.length (TRange.cl x1.gSplit)], .cells 101 (TCodes.cs v19.2)] (AOps_done ?_)
      exact Exists.intro (v19.2.glist, v19.2.gat, v19.1, x1.gKind, x1.gBy, x1.gSalt, x1.gSplit) ⟨⟨n, by omega, H⟩, Norm_fd [3, 4] 0 (by kernel_rfl) rfl rfl ⟨⟨trivial, trivial, trivial, trivial, trivial, trivial⟩, ⟨trivial, trivial, trivial, trivial, (scl_TRange_cl _ _), trivial⟩, ⟨(scl_cl_u8 _ _), trivial, trivial⟩, trivial⟩ (by refine scL_fr ?_; exact ⟨(sc_ptr rfl), (sc_ptr rfl), trivial⟩)⟩
    · refine AWP_reg (Rh 2 31 [(0, .ptr 0 0), (3, .ptr 1 0), (4, .ptr 2 0), (6, iA v17.1), (17, bA (v17.1 == 1))] (AOps_done (CD H (fun hb20 H => ?_) (fun hb20 H => ?_))))
      · refine AWP_region ?_
        refine Rh 1 31 [(3, .ptr 1 0), (4, .ptr 2 0), (19, .ptr 0 0)] ?_
        obtain ⟨v21, hv21, H⟩ := bind_some H
        refine AOps_call1 (d := (some 20)) (al := [.ptr 0 0]) ([.ptr 0 0]) (r := sA v21.1) (j := 0) (b' := .cells 101 (TCodes.cs v21.2)) (by kernel_rfl) rfl (s_draw_Codes_Name hv21) (⟨(scl_cl_u8 _ _), trivial, trivial⟩) (⟨(scl_cl_u8 _ _), trivial, trivial⟩) ⟨Nat.zero_lt_one, trivial⟩ trivial rfl (h' := [.cells 56 [iA 0, sA ByteArray.empty, sA ByteArray.empty, sA ByteArray.empty, .ro .full 0 []], .cells 56 (TServe.cs x1), .cells 101 (TCodes.cs v21.2)]) rfl ?_
        refine R 2 31 [(3, .ptr 1 0), (4, .ptr 2 0)] [.cells 56 [iA 0, sA ByteArray.empty, sA ByteArray.empty, sA ByteArray.empty, .ro .full 0 []], .cells 56 [iA x1.gVariation, sA v21.1, sA x1.gBy, sA x1.gSalt, .ro .unk x1.gSplit.length (TRange.cl x1.gSplit)], .cells 101 (TCodes.cs v21.2)] (AOps_done ?_)
        exact Exists.intro (v21.2.glist, v21.2.gat, x1.gVariation, v21.1, x1.gBy, x1.gSalt, x1.gSplit) ⟨⟨n, by omega, H⟩, Norm_fd [3, 4] 0 (by kernel_rfl) rfl rfl ⟨⟨trivial, trivial, trivial, trivial, trivial, trivial⟩, ⟨trivial, trivial, trivial, trivial, (scl_TRange_cl _ _), trivial⟩, ⟨(scl_cl_u8 _ _), trivial, trivial⟩, trivial⟩ (by refine scL_fr ?_; exact ⟨(sc_ptr rfl), (sc_ptr rfl), trivial⟩)⟩
      · refine AWP_reg (Rh 2 31 [(0, .ptr 0 0), (3, .ptr 1 0), (4, .ptr 2 0), (6, iA v17.1), (22, bA (v17.1 == 2))] (AOps_done (CD H (fun hb22 H => ?_) (fun hb22 H => ?_))))
        · refine AWP_region ?_
          refine Rh 1 31 [(3, .ptr 1 0), (4, .ptr 2 0), (24, .ptr 0 0)] ?_
          obtain ⟨v23, hv23, H⟩ := bind_some H
          refine AOps_call1 (d := (some 25)) (al := [.ptr 0 0]) ([.ptr 0 0]) (r := sA v23.1) (j := 0) (b' := .cells 101 (TCodes.cs v23.2)) (by kernel_rfl) rfl (s_draw_Codes_Name hv23) (⟨(scl_cl_u8 _ _), trivial, trivial⟩) (⟨(scl_cl_u8 _ _), trivial, trivial⟩) ⟨Nat.zero_lt_one, trivial⟩ trivial rfl (h' := [.cells 56 [iA 0, sA ByteArray.empty, sA ByteArray.empty, sA ByteArray.empty, .ro .full 0 []], .cells 56 (TServe.cs x1), .cells 101 (TCodes.cs v23.2)]) rfl ?_
          refine R 2 31 [(3, .ptr 1 0), (4, .ptr 2 0)] [.cells 56 [iA 0, sA ByteArray.empty, sA ByteArray.empty, sA ByteArray.empty, .ro .full 0 []], .cells 56 [iA x1.gVariation, sA x1.gKind, sA v23.1, sA x1.gSalt, .ro .unk x1.gSplit.length (TRange.cl x1.gSplit)], .cells 101 (TCodes.cs v23.2)] (AOps_done ?_)
          exact Exists.intro (v23.2.glist, v23.2.gat, x1.gVariation, x1.gKind, v23.1, x1.gSalt, x1.gSplit) ⟨⟨n, by omega, H⟩, Norm_fd [3, 4] 0 (by kernel_rfl) rfl rfl ⟨⟨trivial, trivial, trivial, trivial, trivial, trivial⟩, ⟨trivial, trivial, trivial, trivial, (scl_TRange_cl _ _), trivial⟩, ⟨(scl_cl_u8 _ _), trivial, trivial⟩, trivial⟩ (by refine scL_fr ?_; exact ⟨(sc_ptr rfl), (sc_ptr rfl), trivial⟩)⟩
        · refine AWP_reg (Rh 2 31 [(0, .ptr 0 0), (3, .ptr 1 0), (4, .ptr 2 0), (27, bA (v17.1 == 3))] (AOps_done (CD H (fun hb24 H => ?_) (fun hb24 H => ?_))))
          · refine AWP_region ?_
            refine R 2 31 [(3, .ptr 1 0), (4, .ptr 2 0)] [.cells 56 [iA 0, sA ByteArray.empty, sA ByteArray.empty, sA ByteArray.empty, .ro .full 0 []], .cells 56 [iA x1.gVariation, sA x1.gKind, sA x1.gBy, sA (⟨#[127]⟩ : ByteArray), .ro .unk x1.gSplit.length (TRange.cl x1.gSplit)], .cells 101 (TCodes.cs v17.2)] (AOps_done ?_)
            exact Exists.intro (v17.2.glist, v17.2.gat, x1.gVariation, x1.gKind, x1.gBy, (⟨#[127]⟩ : ByteArray), x1.gSplit) ⟨⟨n, by omega, H⟩, Norm_fd [3, 4] 0 (by kernel_rfl) rfl rfl ⟨⟨trivial, trivial, trivial, trivial, trivial, trivial⟩, ⟨trivial, trivial, trivial, trivial, (scl_TRange_cl _ _), trivial⟩, ⟨(scl_cl_u8 _ _), trivial, trivial⟩, trivial⟩ (by refine scL_fr ?_; exact ⟨(sc_ptr rfl), (sc_ptr rfl), trivial⟩)⟩
          · refine AWP_region ?_
            refine Rh 3 31 [(3, .ptr 1 0), (4, .ptr 2 0), (7, .ptr 0 0), (9, .ro .unk x1.gSplit.length (TRange.cl x1.gSplit))] ?_
            obtain ⟨v25, hv25, H⟩ := bind_some H
            refine AOps_call1 (d := (some 10)) (al := [.ptr 0 0, .ro .unk x1.gSplit.length (TRange.cl x1.gSplit)]) ([.ptr 0 0, .ro .unk x1.gSplit.length (TRange.cl x1.gSplit)]) (r := .ro .unk v25.1.length (TRange.cl v25.1)) (j := 0) (b' := .cells 101 (TCodes.cs v25.2)) (by kernel_rfl) rfl (s_draw_Codes_ranges hv25) (⟨(scl_cl_u8 _ _), trivial, trivial⟩) (⟨(scl_cl_u8 _ _), trivial, trivial⟩) ⟨Nat.zero_lt_one, (scl_TRange_cl _ _), trivial⟩ (scl_TRange_cl _ _) rfl (h' := [.cells 56 [iA 0, sA ByteArray.empty, sA ByteArray.empty, sA ByteArray.empty, .ro .full 0 []], .cells 56 (TServe.cs x1), .cells 101 (TCodes.cs v25.2)]) rfl ?_
            refine R 2 31 [(3, .ptr 1 0), (4, .ptr 2 0)] [.cells 56 [iA 0, sA ByteArray.empty, sA ByteArray.empty, sA ByteArray.empty, .ro .full 0 []], .cells 56 [iA x1.gVariation, sA x1.gKind, sA x1.gBy, sA x1.gSalt, .ro .unk v25.1.length (TRange.cl v25.1)], .cells 101 (TCodes.cs v25.2)] (AOps_done ?_)
            exact Exists.intro (v25.2.glist, v25.2.gat, x1.gVariation, x1.gKind, x1.gBy, x1.gSalt, v25.1) ⟨⟨n, by omega, H⟩, Norm_fd [3, 4] 0 (by kernel_rfl) rfl rfl ⟨⟨trivial, trivial, trivial, trivial, trivial, trivial⟩, ⟨trivial, trivial, trivial, trivial, (scl_TRange_cl _ _), trivial⟩, ⟨(scl_cl_u8 _ _), trivial, trivial⟩, trivial⟩ (by refine scL_fr ?_; exact ⟨(sc_ptr rfl), (sc_ptr rfl), trivial⟩)⟩
end Go.Proofs.YtjhbobacbaikoaaGreatDoor
/- A function of the program as a pure function, and that the program computes it. -/
namespace Go.Proofs.YtjhbobacbaikoaaGreatDoor
open Go
set_option linter.unusedVariables false
set_option linter.unusedSimpArgs false
set_option maxRecDepth 100000
def p_draw_long_L1 (n : Nat) (x0 : Int) (v15 : List ByteArray) (v16 : Int) : Option (List ByteArray) := match n with
| 0 => none
| n + 1 =>
(bif decide (v16 < x0) then
(quoO .i64 v16 10).bind fun v18 =>
(catO (⟨#[109]⟩ : ByteArray) (Utf8.encode (IntKind.i32.wrap (w64 (48 + v18))))).bind fun v19 =>
(remO v16 10).bind fun v20 =>
(catO v19 (Utf8.encode (IntKind.i32.wrap (w64 (48 + v20))))).bind fun v21 =>
(appO 16 v15 ([v21])).bind fun v22 =>
 p_draw_long_L1 n x0 v22 (w64 (v16 + 1))
 else
 some (v15))
def p_draw_long (n : Nat) (x0 : Int) : Option (List ByteArray) :=
 p_draw_long_L1 n x0 ([]) 0
variable {E : Env}
theorem s_draw_long {n : Nat} {x0 : Int} {r : (List ByteArray)} (H : p_draw_long n x0 = some r) :
    Sp Tryz.prog E 62 [iA x0] [] (isA (.ro .unk r.length (cl_str r)) []) := by
  unfold p_draw_long at H
  refine Sp_fn Tryz.func62 rfl (fun hc hs => ?_)
  refine AWP_reg (Rh 1 26 [(0, iA x0)] (AOps_done (AWP_reg (Rh 1 26 [(0, iA x0), (3, .ro .full 0 [])] (AOps_done (AWP_seq (AWP_reg (Rh 1 26 [(0, iA x0), (3, .ro .full 0 []), (4, iA 0)] ?_))))))))
  refine AOps_done (AWP_block ?_)
  refine AWP_loopN (α := (List ByteArray) × Int) (fun ⟨v15, v16⟩ => fr 26 [(0, iA x0), (3, .sl 0 0 v15.length (.whole 1)), (4, iA v16)]) (fun ⟨v15, v16⟩ => [.row 9 (cl_str v15)]) (fun k_ ⟨v15, v16⟩ => k_ ≤ n ∧ p_draw_long_L1 k_ x0 v15 v16 = some r) (fun n a H => ?_) (k := n) ([], 0) ⟨Nat.le_refl _, H⟩ (Norm_trans (Norm_fd (st' := fr 26 [(0, iA x0), (3, .ro .full 0 []), (4, iA 0)]) (h' := []) [0, 3, 4] 0 (by kernel_rfl) rfl rfl trivial (by refine scL_fr ?_; exact ⟨trivial, trivial, trivial, trivial⟩)) (Norm_trans (Norm_nil' (st' := fr 26 [(0, iA x0), (3, .sl 0 0 ([] : List ByteArray).length (.whole 1)), (4, iA 0)]) 3 9 1 (by kernel_rfl) (h' := [.row 9 (cl_str ([]))]) rfl (by kernel_rfl)) (Norm_fd [0, 3, 4] 0 (by kernel_rfl) rfl rfl ⟨(scl_cl_str _ _), trivial⟩ (by refine scL_fr ?_; exact ⟨trivial, (sc_sl rfl), trivial, trivial⟩))))
  obtain ⟨v15, v16⟩ := a
  show AWP _ _ _ _ _ (fr 26 [(0, iA x0), (3, .sl 0 0 v15.length (.whole 1)), (4, iA v16)]) [.row 9 (cl_str v15)]
  obtain ⟨hb_, H⟩ := H
  replace H : p_draw_long_L1 n x0 v15 v16 = some r := H
  cases n with
  | zero => exact not_none (by simpa only [p_draw_long_L1] using H)
  | succ n =>
    unfold p_draw_long_L1 at H
    refine AWP_seq (AWP_reg (Rh 3 26 [(0, iA x0), (3, .sl 0 0 v15.length (.whole 1)), (4, iA v16), (7, bA (decide (v16 < x0)))] (AOps_done (CD H (fun hb17 H => ?_) (fun hb17 H => ?_)))))
    · refine AWP_skip ?_
      show AWP _ _ _ _ _ _ _
      refine AWP_seq (AWP_block ?_)
      refine AWP_region ?_
      refine Rh 2 26 [(0, iA x0), (4, iA v16), (10, .sl 0 0 v15.length (.whole 1)), (11, iA v16)] ?_
      obtain ⟨v18, hv18, H⟩ := bind_some H
      refine AOps_quo (kk := .i64) (d := (some 12)) (by kernel_rfl) hv18 ?_
      refine Rh 3 26 [(0, iA x0), (4, iA v16), (10, .sl 0 0 v15.length (.whole 1)), (15, sA (Utf8.encode (IntKind.i32.wrap (w64 (48 + v18)))))] ?_
      obtain ⟨v19, hv19, H⟩ := bind_some H
      refine AOps_cat (d := (some 16)) (by kernel_rfl) hv19 ?_
      refine Rh 1 26 [(0, iA x0), (4, iA v16), (10, .sl 0 0 v15.length (.whole 1)), (16, sA v19), (17, iA v16)] ?_
      obtain ⟨v20, hv20, H⟩ := bind_some H
      refine AOps_rem (kk := .i64) (d := (some 18)) (by kernel_rfl) hv20 ?_
      refine Rh 3 26 [(0, iA x0), (4, iA v16), (10, .sl 0 0 v15.length (.whole 1)), (16, sA v19), (21, sA (Utf8.encode (IntKind.i32.wrap (w64 (48 + v20)))))] ?_
      obtain ⟨v21, hv21, H⟩ := bind_some H
      refine AOps_cat (d := (some 22)) (by kernel_rfl) hv21 ?_
      refine AOps_bsl (d := (some 23)) (m := 1) (cs := [sA v21]) (by kernel_rfl) ⟨trivial, trivial⟩ ?_
      obtain ⟨v22, hv22, H⟩ := bind_some H
      refine AOps_append (d := (some 24)) (c := cs_str) (sz := 1) (bs := 16) (e := 9) (id := 0) (xs := v15) (ys := [v21]) (by kernel_rfl) rfl (eq_cl_str _) rfl (eq_cl_str _) (fun _ => rfl) (by kernel_rfl) (by kernel_rfl) hv22 (eq_cl_str _) (h' := [.row 9 (cl_str v22), .dead]) rfl ?_
      refine Rh 1 26 [(0, iA x0), (3, .sl 1 0 v22.length (.whole 1)), (4, iA v16)] (AOps_done ?_)
      show AWP _ _ _ _ _ _ _
      refine AWP_region ?_
      refine Rh 3 26 [(0, iA x0), (3, .sl 1 0 v22.length (.whole 1)), (4, iA (w64 (v16 + 1)))] (AOps_done ?_)
      exact Exists.intro (v22, w64 (v16 + 1)) (Exists.intro n ⟨by omega, ⟨by omega, H⟩, Norm_trans (Norm_fd (st' := fr 26 [(0, iA x0), (3, .sl 1 0 v22.length (.whole 1)), (4, iA (w64 (v16 + 1)))]) (h' := [.row 9 (cl_str v22), .dead]) [0, 3, 4] 0 (by kernel_rfl) rfl rfl ⟨(scl_cl_str _ _), trivial, trivial⟩ (by refine scL_fr ?_; exact ⟨trivial, (sc_sl rfl), trivial, trivial⟩)) (Norm_trans (Norm_move' (st' := fr 26 [(0, iA x0), (3, .sl 0 0 v22.length (.whole 1)), (4, iA (w64 (v16 + 1)))]) (h' := [.row 9 (cl_str v22)]) 0 1 rfl rfl rfl (fun h => by cases h) (by refine toOkL_fr ?_; exact ⟨trivial, (toOk_sl rfl), trivial, trivial⟩) ⟨(on0 (scl_cl_str _ _)), trivial, trivial⟩ (by kernel_rfl) (by kernel_rfl)) (Norm_fd [0, 3, 4] 0 (by kernel_rfl) rfl rfl ⟨(scl_cl_str _ _), trivial⟩ (by refine scL_fr ?_; exact ⟨trivial, (sc_sl rfl), trivial, trivial⟩)))⟩)
    · refine AWP_exit ?_
      show AWP _ _ _ _ _ _ _
      refine AWP_reg (Rh 2 26 [(2, .sl 0 0 v15.length (.whole 1))] (AOps_done (AWP_ret ?_)))
      have hr := Option.some.inj H
      subst hr
      exact Fin_retn 1 (l := [.sl 0 0 v15.length (.whole 1)]) (h' := []) (by kernel_rfl) rfl (Nat.le_of_ble_eq_true rfl) ((by refine Closed_of ?_; exact trivial)) (Frz_row (t := 9) (cs := cl_str v15) rfl (scl_cl_str _ _)) ⟨rfl, rfl⟩
end Go.Proofs.YtjhbobacbaikoaaGreatDoor
/- Drawn Serves, keys of contexts, long lists of them. -/
namespace Go.Proofs.YtjhbobacbaikoaaGreatDoor
open Go
set_option linter.unusedVariables false
set_option linter.unusedSimpArgs false
set_option maxRecDepth 100000
theorem cat_some {a b : ByteArray} (h : a.size + b.size ≤ 100000) : ∃ s, catO a b = some s ∧ s.size = a.size + b.size := by
  refine ⟨a ++ b, ?_, ByteArray.size_append⟩
  unfold catO
  rw [decide_eq_true (by omega)]; rfl
theorem enc_digit {d : Int} (h0 : 0 ≤ d) (h1 : d < 10) : (Utf8.encode (IntKind.i32.wrap (w64 (48 + d)))).size = 1 := by
  have h : (([0, 1, 2, 3, 4, 5, 6, 7, 8, 9] : List Int).all fun d => (Utf8.encode (IntKind.i32.wrap (w64 (48 + d)))).size == 1) = true := by kernel_rfl
  exact beq_iff_eq.1 (List.all_eq_true.1 h d (by simp only [List.mem_cons, List.not_mem_nil, or_false]; omega))
theorem enc_letter {d : Int} (h0 : 0 ≤ d) (h1 : d < 14) : (Utf8.encode (IntKind.i32.wrap (w64 (97 + d)))).size = 1 := by
  have h : (([0, 1, 2, 3, 4, 5, 6, 7, 8, 9, 10, 11, 12, 13] : List Int).all fun d => (Utf8.encode (IntKind.i32.wrap (w64 (97 + d)))).size == 1) = true := by kernel_rfl
  exact beq_iff_eq.1 (List.all_eq_true.1 h d (by simp only [List.mem_cons, List.not_mem_nil, or_false]; omega))
section
variable {c : TCodes}
/-! ## keys of contexts -/
theorem keys_L2 (v : Int × TCodes) (hv : v.2.cok) {l : List ByteArray} (hl : l.length ≤ 3) (hs : ∀ s ∈ l, s ∈ keys10) : ∀ (q i : Nat), i + q = 4 → 1 ≤ i → Gv (fun n => p_draw_Codes_Keys_L2 n v l i) fun r => (r.1.length ≤ 3 ∧ ∀ s ∈ r.1, s ∈ keys10) ∧ r.2.cok := by
  intro q
  induction q with
  | zero =>
    intro i hi h1
    refine Gv.succ ?_
    simp only [p_draw_Codes_Keys_L2]
    rw [decide_eq_false (show ¬ (i : Int) < lI l by unfold lI; omega)]
    exact Gv.pure ⟨⟨hl, hs⟩, hv⟩
  | succ q ih =>
    intro i hi h1
    refine Gv.succ ?_
    simp only [p_draw_Codes_Keys_L2]
    refine Gv.cond (fun h => ?_) fun _ => Gv.pure ⟨⟨hl, hs⟩, hv⟩
    have h := of_decide_eq_true h
    unfold lI at h
    refine Gv.bind (Gv.rd (Q := fun _ => True) (by omega) h fun _ _ => trivial) fun a _ => ?_
    rw [w64_pred (by omega) (by omega)]
    refine Gv.bind (Gv.rd (Q := fun _ => True) (by omega) (by omega) fun _ _ => trivial) fun b _ => ?_
    refine Gv.cond (fun _ => ?_) fun _ => ?_
    · have e : cutL l 0 (i : Int) = some (l.take i) := by
        unfold cutL
        rw [decide_eq_true (show (0 : Int) ≤ 0 by omega), decide_eq_true (show (0 : Int) ≤ (i : Int) by omega), decide_eq_true (show (i : Int) ≤ l.length by omega)]
        simp
      refine Gv.bind (Gv.opt (Q := fun r => r = l.take i) e rfl) ?_
      rintro r rfl
      exact Gv.pure ⟨⟨by rw [List.length_take]; omega, fun s h => hs s (List.mem_of_mem_take h)⟩, hv⟩
    · rw [w64_add (by omega)]
      exact ih (i + 1) (by omega) (by omega)
theorem keys_L1 (v : Int × TCodes) (hv : 0 ≤ v.1 ∧ v.1 < 10) : ∀ (q i : Nat) (l : List ByteArray) (c : TCodes), i + q = 3 → l.length = i → (∀ s ∈ l, s ∈ keys10) → c.cok → Gv (fun n => p_draw_Codes_Keys_L1 n v l i c.glist c.gat) fun r => (r.1.length ≤ 3 ∧ ∀ s ∈ r.1, s ∈ keys10) ∧ r.2.cok := by
  intro q
  induction q with
  | zero =>
    intro i l c hi hl hs hc
    refine Gv.succ ?_
    simp only [p_draw_Codes_Keys_L1]
    refine Gv.bind (next_gv hc (k := 4) (by decide) (by decide)) fun s h => Gv.cond (fun h2 => ?_) fun _ => keys_L2 s h.2.2 (by omega) hs 3 1 rfl (by omega)
    have h2 := of_decide_eq_true h2
    omega
  | succ q ih =>
    intro i l c hi hl hs hc
    refine Gv.succ ?_
    simp only [p_draw_Codes_Keys_L1]
    refine Gv.bind (next_gv hc (k := 4) (by decide) (by decide)) fun s h => Gv.cond (fun h2 => ?_) fun _ => keys_L2 s h.2.2 (by omega) hs 3 1 rfl (by omega)
    rw [w64_of (show -9223372036854775808 ≤ v.1 + (i : Int) by omega) (by omega)]
    have e : remO (v.1 + (i : Int)) 10 = some ((v.1 + (i : Int)).tmod 10) := rfl
    refine Gv.bind (Gv.opt (Q := fun r => 0 ≤ r ∧ r < 10) e ⟨Int.tmod_nonneg _ (by omega), Int.tmod_lt_of_pos _ (by omega)⟩) fun d hd => ?_
    obtain ⟨w, ew, hw⟩ := key_cat hd.1 hd.2
    refine Gv.bind (Gv.opt (Q := fun x => x ∈ keys10) ew hw) fun x hx => ?_
    refine Gv.bind (Gv.app (Q := fun m => m = l ++ [x]) (by simp; omega) (by decide) rfl) ?_
    rintro m rfl
    rw [w64_add (by omega)]
    refine ih (i + 1) _ s.2 (by omega) (by simp; omega) (fun y hy => ?_) h.2.2
    rcases List.mem_append.1 hy with hy | hy
    · exact hs y hy
    · obtain rfl : y = x := by simpa using hy
      exact hx
theorem keys_gv (hc : c.cok) : Gv (fun n => p_draw_Codes_Keys n c) fun r => (r.1.length ≤ 3 ∧ ∀ s ∈ r.1, s ∈ keys10) ∧ r.2.cok := by
  unfold p_draw_Codes_Keys
  exact Gv.bind (next_gv hc (k := 10) (by decide) (by decide)) fun v hv => keys_L1 v ⟨hv.1, hv.2.1⟩ 3 0 [] v.2 rfl rfl (fun s h => by cases h) hv.2.2
theorem keys10_size : ∀ s ∈ keys10, s.size ≤ 100 := by
  have h : (keys10.all fun s => decide (s.size ≤ 100)) = true := by decide
  intro s hs
  simpa using List.all_eq_true.1 h s hs
theorem long_gv {k : Int} (h1 : k ≤ 90) : Gv (fun n => p_draw_long n k) fun r => r.length ≤ 90 ∧ ∀ s ∈ r, s.size ≤ 100 := by
  unfold p_draw_long
  have key : ∀ (q i : Nat) (l : List ByteArray), i + q = 90 → l.length = i → (∀ s ∈ l, s.size ≤ 100) → Gv (fun n => p_draw_long_L1 n k l i) fun r => r.length ≤ 90 ∧ ∀ s ∈ r, s.size ≤ 100 := by
    intro q
    induction q with
    | zero =>
      intro i l hi hl hs
      refine Gv.succ ?_
      simp only [p_draw_long_L1]
      refine Gv.cond (fun h => ?_) fun _ => Gv.pure ⟨by omega, hs⟩
      have h := of_decide_eq_true h
      omega
    | succ q ih =>
      intro i l hi hl hs
      refine Gv.succ ?_
      simp only [p_draw_long_L1]
      refine Gv.cond (fun h => ?_) fun _ => Gv.pure ⟨by omega, hs⟩
      have e1 : quoO .i64 (i : Int) 10 = some (((i / 10 : Nat) : Int)) := by
        unfold quoO
        rw [show ((10 : Int) == 0) = false from rfl, cond_false, show (i : Int).tdiv 10 = ((i / 10 : Nat) : Int) from rfl]
        rw [show IntKind.i64.wrap ((i / 10 : Nat) : Int) = w64 ((i / 10 : Nat) : Int) from rfl, w64_nat (by omega)]
      refine Gv.bind (Gv.opt (Q := fun r => 0 ≤ r ∧ r < 10) e1 ⟨by omega, by omega⟩) fun a ha => ?_
      obtain ⟨w, ew, hw⟩ := cat_some (a := (⟨#[109]⟩ : ByteArray)) (b := Utf8.encode (IntKind.i32.wrap (w64 (48 + a)))) (by rw [enc_digit ha.1 ha.2]; decide)
      refine Gv.bind (Gv.opt (Q := fun r => r.size = 2) ew (by rw [hw, enc_digit ha.1 ha.2]; rfl)) fun x hx => ?_
      have e2 : remO (i : Int) 10 = some ((i : Int).tmod 10) := rfl
      refine Gv.bind (Gv.opt (Q := fun r => 0 ≤ r ∧ r < 10) e2 ⟨Int.tmod_nonneg _ (by omega), Int.tmod_lt_of_pos _ (by omega)⟩) fun d hd => ?_
      obtain ⟨y, ey, hy⟩ := cat_some (a := x) (b := Utf8.encode (IntKind.i32.wrap (w64 (48 + d)))) (by rw [enc_digit hd.1 hd.2, hx]; decide)
      refine Gv.bind (Gv.opt (Q := fun r => r.size = 3) ey (by rw [hy, enc_digit hd.1 hd.2, hx])) fun z hz => ?_
      refine Gv.bind (Gv.app (Q := fun m => m = l ++ [z]) (by simp; omega) (by decide) rfl) ?_
      rintro m rfl
      rw [w64_add (by omega)]
      refine ih (i + 1) _ (by omega) (by simp; omega) fun s hsm => ?_
      rcases List.mem_append.1 hsm with h | h
      · exact hs s h
      · obtain rfl : s = z := by simpa using h
        omega
  exact key 90 0 [] rfl rfl (fun s h => by cases h)
/-! ## Serves -/
structure TServe.bd (B : Nat) (x : TServe) : Prop where
  kind : x.gKind.size ≤ 100
  byk : x.gBy.size ≤ 100
  salt : x.gSalt.size ≤ 100
  split : x.gSplit.length ≤ B
theorem TServe.bd.le {B C : Nat} (h : B ≤ C) {x : TServe} (hx : x.bd B) : x.bd C := ⟨hx.kind, hx.byk, hx.salt, Nat.le_trans hx.split h⟩
/-- A Serve as it is drawn. -/
structure ServeG (k : Int) (x : TServe) : Prop where
  one : x.gVariation ≠ 0 → 1 ≤ x.gVariation ∧ x.gVariation ≤ k ∧ x.gKind = ByteArray.empty ∧ x.gBy = ByteArray.empty ∧ x.gSalt = ByteArray.empty ∧ x.gSplit = []
  many : x.gVariation = 0 → x.gKind ∈ dkinds ∧ x.gBy ∈ dnames ∧ x.gSalt ∈ gl_texts ∧ (∃ w, chain k 0 0 x.gSplit 10000 w) ∧ x.gSplit.length ≤ 4
theorem ServeG.bd {k : Int} {x : TServe} (h : ServeG k x) : x.bd 20 := by
  by_cases c : x.gVariation = 0
  · obtain ⟨h1, h2, h3, _, h4⟩ := h.many c
    have := words_size _ (List.mem_append_left _ h1)
    have := words_size _ (List.mem_append_right _ h2)
    have ht : (gl_texts.all fun s => decide (s.size ≤ 100)) = true := by decide
    exact ⟨by omega, by omega, by simpa using List.all_eq_true.1 ht _ h3, by omega⟩
  · obtain ⟨_, _, h3, h4, h5, h6⟩ := h.one c
    exact ⟨by rw [h3]; decide, by rw [h4]; decide, by rw [h5]; decide, by rw [h6]; decide⟩
theorem serve_gv {k : Int} (h0 : 0 < k) (h1 : k < 1000) (hc : c.cok) : Gv (fun n => p_draw_Codes_Serve n c k) fun r => ServeG k r.1 ∧ r.2.cok := by
  unfold p_draw_Codes_Serve
  refine Gv.bind (next_gv hc (k := 2) (by decide) (by decide)) fun v1 hv1 => Gv.cond (fun _ => ?_) fun _ => ?_
  · refine Gv.bind (next_gv hv1.2.2 (k := k) h0 (by omega)) fun v3 h3 => ?_
    rw [w64_of (show -9223372036854775808 ≤ 1 + v3.1 by omega) (by omega)]
    exact Gv.pure ⟨⟨fun _ => ⟨by show 1 ≤ 1 + v3.1; omega, by show 1 + v3.1 ≤ k; omega, rfl, rfl, rfl, rfl⟩, fun h => by
      have h : 1 + v3.1 = 0 := h
      omega⟩, h3.2.2⟩
  · refine Gv.bind (text_gv hv1.2.2) fun v4 h4 => ?_
    refine Gv.bind (split_gv h0 h1 h4.2) fun v5 h5 => ?_
    simp only [declared_eq, Option.bind_some]
    refine Gv.bind (next_gv h5.2.2 (k := 12) (by decide) (by decide)) fun v16 h16 => ?_
    have K1 : ∀ (a b : ByteArray), a ∈ dkinds → b ∈ dnames → Gv (fun n => p_draw_Codes_Serve_K1 n v4 v5 v16.2.glist v16.2.gat a b) fun r => ServeG k r.1 ∧ r.2.cok := by
      intro a b ha hb
      unfold p_draw_Codes_Serve_K1
      exact Gv.pure ⟨⟨fun h => absurd rfl h, fun _ => ⟨ha, hb, h4.1, h5.1, h5.2.1⟩⟩, h16.2.2⟩
    by_cases cc : v16.1 < lI decl8
    · rw [decide_eq_true cc]
      simp only [cond_true, Bool.true_and]
      have rd : ∀ {Q : TDeclared → Prop}, (∀ x ∈ decl8, Q x) → Gv (fun _ => rdO decl8 v16.1) Q := fun q => Gv.rd h16.1 cc q
      refine Gv.bind (rd (Q := fun _ => True) fun _ _ => trivial) fun _ _ => Gv.cond (fun _ => ?_) fun _ => K1 _ _ (by simp [dkinds]) (by simp [dnames])
      refine Gv.bind (rd decl8_good) fun x hx => Gv.bind (rd decl8_good) fun y hy => K1 _ _ hx.1 hy.2.1
    · rw [decide_eq_false cc]
      simp only [cond_false, Bool.false_and, Option.bind_some]
      exact K1 _ _ (by simp [dkinds]) (by simp [dnames])
theorem sv_gv {B : Nat} (hB : B ≤ 5000) {x : TServe} (hx : x.bd B) (hc : c.cok) : Gv (fun n => p_draw_Codes_serve n c x) fun r => r.1.bd (B + 20) ∧ r.2.cok := by
  have hs := hx.split
  have K1 : ∀ {c : TCodes} {v : Int} {a b s : ByteArray} {l : List TRange}, c.cok → a.size ≤ 100 → b.size ≤ 100 → s.size ≤ 100 → l.length ≤ B + 20 → Gv (fun n => p_draw_Codes_serve_K1 n c.glist c.gat v a b s l) fun r => r.1.bd (B + 20) ∧ r.2.cok := by
    intro c v a b s l hc h1 h2 h3 h4
    unfold p_draw_Codes_serve_K1
    exact Gv.pure ⟨⟨h1, h2, h3, h4⟩, hc⟩
  unfold p_draw_Codes_serve
  refine Gv.bind (next_gv hc (k := 6) (by decide) (by decide)) fun v h => ?_
  refine Gv.cond (fun _ => ?_) fun _ => Gv.cond (fun _ => ?_) fun _ => Gv.cond (fun _ => ?_) fun _ => Gv.cond (fun _ => ?_) fun _ => ?_
  · exact Gv.bind (number_gv h.2.2) fun r hr => K1 hr hx.kind hx.byk hx.salt (by omega)
  · exact Gv.bind (name_gv h.2.2) fun r hr => K1 hr.2 (by have := hr.1; omega) hx.byk hx.salt (by omega)
  · exact Gv.bind (name_gv h.2.2) fun r hr => K1 hr.2 hx.kind (by have := hr.1; omega) hx.salt (by omega)
  · exact K1 h.2.2 hx.kind hx.byk (by decide) (by omega)
  · exact Gv.bind (ranges_gv (by omega) h.2.2) fun r hr => K1 hr.2 hx.kind hx.byk hx.salt (by have := hr.1; omega)
end
end Go.Proofs.YtjhbobacbaikoaaGreatDoor
