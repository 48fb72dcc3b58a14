/- A function of the program as a pure function, and that the program computes it. -/
import Derived.Test.YtjhbobacbaikoaaGreatDoorM4
import Derived.Laws.RangeAny
namespace Go.Proofs.YtjhbobacbaikoaaGreatDoor
open Go
set_option linter.unusedVariables false
set_option linter.unusedSimpArgs false
set_option maxRecDepth 100000
mutual
def p_unicode_utf8_ValidString_K1 (n : Nat) (v248 : ByteArray) : Option Bool := match n with
| 0 => none
| n + 1 =>
 p_unicode_utf8_ValidString_L1 n  v248
def p_unicode_utf8_ValidString_L2 (n : Nat) (v276 : ByteArray) : Option Bool := match n with
| 0 => none
| n + 1 =>
(bif decide ((szI v276) > 32) then cutS v276 8 (szI v276) else some ByteArray.empty).bind fun v277 =>
(bif decide ((szI v276) > 32) then cutS v276 16 (szI v276) else some ByteArray.empty).bind fun v278 =>
(bif decide ((szI v276) > 32) then cutS v276 24 (szI v276) else some ByteArray.empty).bind fun v279 =>
(bif decide ((szI v276) > 32) then p_unicode_utf8_word_string n v276 else some (0)).bind fun v280 =>
(bif decide ((szI v276) > 32) then p_unicode_utf8_word_string n v277 else some (0)).bind fun v281 =>
(bif decide ((szI v276) > 32) then p_unicode_utf8_word_string n v278 else some (0)).bind fun v282 =>
(bif decide ((szI v276) > 32) then p_unicode_utf8_word_string n v279 else some (0)).bind fun v283 =>
(bif (decide ((szI v276) > 32)) && ((andI .u64 (orI .u64 (orI .u64 v280 v281) (orI .u64 v282 v283)) 9259542123273814144) == 0) then
(cutS v276 32 (szI v276)).bind fun v285 =>
 p_unicode_utf8_ValidString_L2 n  v285
 else
 p_unicode_utf8_ValidString_K1 n  v276)
def p_unicode_utf8_ValidString_L1 (n : Nat) (v206 : ByteArray) : Option Bool := match n with
| 0 => none
| n + 1 =>
(bif decide ((szI v206) > 0) then
(rdS v206 0).bind fun v208 =>
(bif decide (v208 < 128) then
(cutS v206 1 (szI v206)).bind fun v210 =>
(bif decide ((szI v210) > 8) then p_unicode_utf8_word_string n v210 else some (0)).bind fun v249 =>
(bif (decide ((szI v210) > 8)) && ((andI .u64 v249 9259542123273814144) == 0) then
(cutS v210 8 (szI v210)).bind fun v251 =>
(bif decide ((szI v251) > 16) then cutS v251 8 (szI v251) else some ByteArray.empty).bind fun v252 =>
(bif decide ((szI v251) > 16) then p_unicode_utf8_word_string n v251 else some (0)).bind fun v253 =>
(bif decide ((szI v251) > 16) then p_unicode_utf8_word_string n v252 else some (0)).bind fun v254 =>
(bif (decide ((szI v251) > 16)) && ((andI .u64 (orI .u64 v253 v254) 9259542123273814144) == 0) then
(cutS v251 16 (szI v251)).bind fun v256 =>
 p_unicode_utf8_ValidString_L2 n  v256
 else
 p_unicode_utf8_ValidString_K1 n  v251)
 else
 p_unicode_utf8_ValidString_K1 n  v210)
 else
(rdO gl_first v208).bind fun v286 =>
(rdO gl_acceptRanges (shrI .u8 v286 4)).bind fun v287 =>
(bif (w64 (andI .u8 v286 7)) == 2 then
(bif !(decide ((szI v206) < 2)) then rdS v206 1 else some 0).bind fun v289 =>
(bif !((decide ((szI v206) < 2)) || (decide (v289 < v287.glo))) then rdS v206 1 else some 0).bind fun v290 =>
(bif ((decide ((szI v206) < 2)) || (decide (v289 < v287.glo))) || (decide (v287.ghi < v290)) then
 some (false)
 else
(cutS v206 2 (szI v206)).bind fun v292 =>
 p_unicode_utf8_ValidString_L1 n  v292)
 else
(bif (w64 (andI .u8 v286 7)) == 3 then
(bif !(decide ((szI v206) < 3)) then rdS v206 1 else some 0).bind fun v294 =>
(bif !((decide ((szI v206) < 3)) || (decide (v294 < v287.glo))) then rdS v206 1 else some 0).bind fun v295 =>
(bif !(((decide ((szI v206) < 3)) || (decide (v294 < v287.glo))) || (decide (v287.ghi < v295))) then rdS v206 2 else some 0).bind fun v296 =>
(bif !((((decide ((szI v206) < 3)) || (decide (v294 < v287.glo))) || (decide (v287.ghi < v295))) || (decide (v296 < 128))) then rdS v206 2 else some 0).bind fun v297 =>
(bif ((((decide ((szI v206) < 3)) || (decide (v294 < v287.glo))) || (decide (v287.ghi < v295))) || (decide (v296 < 128))) || (decide (191 < v297)) then
 some (false)
 else
(cutS v206 3 (szI v206)).bind fun v299 =>
 p_unicode_utf8_ValidString_L1 n  v299)
 else
(bif (w64 (andI .u8 v286 7)) == 4 then
(bif !(decide ((szI v206) < 4)) then rdS v206 1 else some 0).bind fun v301 =>
(bif !((decide ((szI v206) < 4)) || (decide (v301 < v287.glo))) then rdS v206 1 else some 0).bind fun v302 =>
(bif !(((decide ((szI v206) < 4)) || (decide (v301 < v287.glo))) || (decide (v287.ghi < v302))) then rdS v206 2 else some 0).bind fun v303 =>
(bif !((((decide ((szI v206) < 4)) || (decide (v301 < v287.glo))) || (decide (v287.ghi < v302))) || (decide (v303 < 128))) then rdS v206 2 else some 0).bind fun v304 =>
(bif !(((((decide ((szI v206) < 4)) || (decide (v301 < v287.glo))) || (decide (v287.ghi < v302))) || (decide (v303 < 128))) || (decide (191 < v304))) then rdS v206 3 else some 0).bind fun v305 =>
(bif !((((((decide ((szI v206) < 4)) || (decide (v301 < v287.glo))) || (decide (v287.ghi < v302))) || (decide (v303 < 128))) || (decide (191 < v304))) || (decide (v305 < 128))) then rdS v206 3 else some 0).bind fun v306 =>
(bif ((((((decide ((szI v206) < 4)) || (decide (v301 < v287.glo))) || (decide (v287.ghi < v302))) || (decide (v303 < 128))) || (decide (191 < v304))) || (decide (v305 < 128))) || (decide (191 < v306)) then
 some (false)
 else
(cutS v206 4 (szI v206)).bind fun v308 =>
 p_unicode_utf8_ValidString_L1 n  v308)
 else
 some (false)))))
 else
 some (true))
end
def p_unicode_utf8_ValidString (n : Nat) (x0 : ByteArray) : Option Bool :=
 p_unicode_utf8_ValidString_L1 n  x0
variable {E : Env}
theorem s_unicode_utf8_ValidString {n : Nat} (hG : GlobT E) {x0 : ByteArray} {r : Bool} (H : p_unicode_utf8_ValidString n x0 = some r) :
    Sp Tryz.prog E 110 [sA x0] [] (isA (bA r) []) := by
  unfold p_unicode_utf8_ValidString at H
  refine Sp_fn Tryz.func110 rfl (fun hc hs => ?_)
  refine AWP_reg (Rh 1 169 [(0, sA x0)] (AOps_done (AWP_seq (AWP_block ?_))))
  refine AWP_loopN (α := ByteArray) (fun v206 => fr 169 [(0, sA v206)]) (fun v206 => []) (fun k_ v206 => k_ ≤ n ∧ p_unicode_utf8_ValidString_L1 k_  v206 = some r) (fun n v206 H => ?_) (k := n) x0 ⟨Nat.le_refl _, H⟩ (Norm_fd [0] 0 (by kernel_rfl) rfl rfl trivial (by refine scL_fr ?_; exact ⟨trivial, trivial⟩))
  show AWP _ _ _ _ _ (fr 169 [(0, sA v206)]) []
  obtain ⟨hb_, H⟩ := H
  replace H : p_unicode_utf8_ValidString_L1 n  v206 = some r := H
  cases n with
  | zero => exact not_none (by simpa only [p_unicode_utf8_ValidString_L1] using H)
  | succ n =>
    unfold p_unicode_utf8_ValidString_L1 at H
    refine AWP_seq (AWP_reg (Rh 3 169 [(0, sA v206), (9, bA (decide ((szI v206) > 0)))] (AOps_done (CD H (fun hb207 H => ?_) (fun hb207 H => ?_)))))
    · refine AWP_skip ?_
      show AWP _ _ _ _ _ _ _
      refine AWP_block ?_
      refine AWP_reg (Rh 1 169 [(0, sA v206), (10, sA v206)] ?_)
      obtain ⟨v208, hv208, H⟩ := bind_some H
      refine AOps_sindex (d := (some 11)) (by kernel_rfl) hv208 ?_
      refine Rh 1 169 [(0, sA v206), (3, iK .u8 v208)] (AOps_done (AWP_seq (AWP_reg (Rh 2 169 [(0, sA v206), (3, iK .u8 v208), (13, bA (decide (v208 < 128)))] (AOps_done (CD H (fun hb209 H => ?_) (fun hb209 H => ?_)))))))
      · refine AWP_reg (Rh 1 169 [(14, sA v206)] ?_)
        obtain ⟨v210, hv210, H⟩ := bind_some H
        refine AOps_scut (d := (some 15)) (by kernel_rfl) hv210 ?_
        refine Rh 1 169 [(0, sA v210)] (AOps_done (AWP_joinN (α := ByteArray) (fun v248 => fr 169 [(0, sA v248)]) (fun v248 => []) (fun v248 => ∃ q, q ≤ n ∧ p_unicode_utf8_ValidString_K1 q  v248 = some r) (fun v248 hC => ?_) ?_))
        · show AWP _ _ _ _ _ (fr 169 [(0, sA v248)]) []
          obtain ⟨n, hn_, hC⟩ := hC
          replace H : p_unicode_utf8_ValidString_K1 n  v248 = some r := hC
          cases n with
          | zero => exact not_none (by simpa only [p_unicode_utf8_ValidString_K1] using H)
          | succ n =>
            unfold p_unicode_utf8_ValidString_K1 at H
            refine AWP_exit ?_
            exact Exists.intro v248 (Exists.intro n ⟨by omega, ⟨by omega, H⟩, Norm_fd [0] 0 (by kernel_rfl) rfl rfl trivial (by refine scL_fr ?_; exact ⟨trivial, trivial⟩)⟩)
        · refine AWP_reg (Rh 4 169 [(0, sA v210), (19, bA (decide ((szI v210) > 8)))] ?_)
          obtain ⟨v249, hv249, H⟩ := bind_some H
          refine AOps_cut 5 (st' := fr 169 [(0, sA v210), (24, bA ((decide ((szI v210) > 8)) && ((andI .u64 v249 9259542123273814144) == 0)))]) (h' := []) ?_ ?_
          rotate_left
          · cases c1 : (decide ((szI v210) > 8) : Bool) with
            | true =>
              refine R 1 169 [(0, sA v210), (19, bA true), (20, sA v210)] [] ?_
              have hv249_ := cond_t hv249 (by simp only [c1] <;> rfl)
              refine AOps_callp (d := (some 21)) (al := [sA v210]) (r := iK .u64 v249) (by kernel_rfl) (s_unicode_utf8_word_string hv249_) ⟨trivial, trivial⟩ trivial ?_
              refine R 3 169 [(0, sA v210), (24, bA (true && ((andI .u64 v249 9259542123273814144) == 0)))] [] ?_
              exact AOps_here [0, 24] (by kernel_rfl) rfl
            | false =>
              refine R 5 169 [(0, sA v210), (24, bA (false && ((andI .u64 v249 9259542123273814144) == 0)))] [] ?_
              exact AOps_here [0, 24] (by kernel_rfl) rfl
          refine AOps_done (CD H (fun hb250 H => ?_) (fun hb250 H => ?_))
          · refine AWP_reg (Rh 1 169 [(25, sA v210)] ?_)
            obtain ⟨v251, hv251, H⟩ := bind_some H
            refine AOps_scut (d := (some 26)) (by kernel_rfl) hv251 ?_
            refine Rh 1 169 [(0, sA v251)] (AOps_done ?_)
            obtain ⟨v252, hv252, H⟩ := bind_some H
            obtain ⟨v253, hv253, H⟩ := bind_some H
            obtain ⟨v254, hv254, H⟩ := bind_some H
            refine AWP_regD1 [0, 1, 2, 3, 4, 6, 7, 5, 8, 9, 10, 11, 12] (N := 169) (f := [(0, sA v251)]) (leL_of [0] (by kernel_rfl)) mixed (by kernel_rfl) (by kernel_rfl) (st' := fr 169 [(0, sA v251), (39, bA ((decide ((szI v251) > 16)) && ((andI .u64 (orI .u64 v253 v254) 9259542123273814144) == 0)))]) (h' := []) ?_ ?_
            rotate_left
            · refine RD 4 169 [] [(0, sA v251), (27, sA v251), (28, iA (szI v251)), (29, bA (decide ((szI v251) > 16))), (30, bA (decide ((szI v251) > 16)))] ?_
              cases c1 : (decide ((szI v251) > 16) : Bool) with
              | true =>
                refine RD 2 169 [] [(0, sA v251), (27, sA v251), (28, iA (szI v251)), (29, bA true), (30, bA true), (31, sA v251), (33, sA v251)] ?_
                have hv252_ := cond_t hv252 (by simp only [c1] <;> rfl)
                refine AD_scut (d := (some 34)) (by kernel_rfl) hv252_ ?_
                have hv253_ := cond_t hv253 (by simp only [c1] <;> rfl)
                refine AD_callp (d := (some 32)) (al := [sA v251]) (r := iK .u64 v253) (by kernel_rfl) (s_unicode_utf8_word_string hv253_) ⟨trivial, trivial⟩ trivial ?_
                have hv254_ := cond_t hv254 (by simp only [c1] <;> rfl)
                refine AD_callp (d := (some 35)) (al := [sA v252]) (r := iK .u64 v254) (by kernel_rfl) (s_unicode_utf8_word_string hv254_) ⟨trivial, trivial⟩ trivial ?_
                refine RD 4 169 [] [(0, sA v251), (27, sA v251), (28, iA (szI v251)), (29, bA true), (30, bA true), (31, sA v251), (32, iK .u64 v253), (33, sA v251), (34, sA v252), (35, iK .u64 v254), (36, iK .u64 (orI .u64 v253 v254)), (37, iK .u64 (andI .u64 (orI .u64 v253 v254) 9259542123273814144)), (38, bA ((andI .u64 (orI .u64 v253 v254) 9259542123273814144) == 0)), (39, bA (true && ((andI .u64 (orI .u64 v253 v254) 9259542123273814144) == 0)))] ?_
                exact AD_here [0, 39] (by kernel_rfl) rfl
              | false =>
                refine RD 3 169 [] [(0, sA v251), (27, sA v251), (28, iA (szI v251)), (29, bA false), (30, bA false), (31, undefA), (33, undefA), (34, undefA)] (AD_offB (d := some 32) (by kernel_rfl) ?_)
                refine AD_offB (d := some 35) (by kernel_rfl) ?_
                refine RD 4 169 [] [(0, sA v251), (27, sA v251), (28, iA (szI v251)), (29, bA false), (30, bA false), (31, undefA), (32, undefA), (33, undefA), (34, undefA), (35, undefA), (36, undefA), (37, undefA), (38, undefA), (39, bA (false && ((andI .u64 (orI .u64 v253 v254) 9259542123273814144) == 0)))] ?_
                exact AD_here [0, 39] (by kernel_rfl) rfl
            refine CD H (fun hb255 H => ?_) (fun hb255 H => ?_)
            · refine AWP_reg (Rh 1 169 [(40, sA v251)] ?_)
              obtain ⟨v256, hv256, H⟩ := bind_some H
              refine AOps_scut (d := (some 41)) (by kernel_rfl) hv256 ?_
              refine Rh 1 169 [(0, sA v256)] (AOps_done (AWP_block ?_))
              refine AWP_loopN (α := ByteArray) (fun v276 => fr 169 [(0, sA v276)]) (fun v276 => []) (fun k_ v276 => k_ ≤ n ∧ p_unicode_utf8_ValidString_L2 k_  v276 = some r) (fun n v276 H => ?_) (k := n) v256 ⟨Nat.le_refl _, H⟩ (Norm_fd [0] 0 (by kernel_rfl) rfl rfl trivial (by refine scL_fr ?_; exact ⟨trivial, trivial⟩))
              show AWP _ _ _ _ _ (fr 169 [(0, sA v276)]) []
              obtain ⟨hb_, H⟩ := H
              replace H : p_unicode_utf8_ValidString_L2 n  v276 = some r := H
              cases n with
              | zero => exact not_none (by simpa only [p_unicode_utf8_ValidString_L2] using H)
              | succ n =>
                unfold p_unicode_utf8_ValidString_L2 at H
                refine AWP_seq ?_
                obtain ⟨v277, hv277, H⟩ := bind_some H
                obtain ⟨v278, hv278, H⟩ := bind_some H
                obtain ⟨v279, hv279, H⟩ := bind_some H
                obtain ⟨v280, hv280, H⟩ := bind_some H
                obtain ⟨v281, hv281, H⟩ := bind_some H
                obtain ⟨v282, hv282, H⟩ := bind_some H
                obtain ⟨v283, hv283, H⟩ := bind_some H
                refine AWP_regD1 [0, 1, 2, 3, 4, 6, 7, 10, 11, 13, 14, 5, 8, 9, 12, 15, 16, 17, 18, 19, 20] (N := 169) (f := [(0, sA v276)]) (leL_of [0] (by kernel_rfl)) mixed (by kernel_rfl) (by kernel_rfl) (st' := fr 169 [(0, sA v276), (62, bA ((decide ((szI v276) > 32)) && ((andI .u64 (orI .u64 (orI .u64 v280 v281) (orI .u64 v282 v283)) 9259542123273814144) == 0)))]) (h' := []) ?_ ?_
                rotate_left
                · refine RD 4 169 [] [(0, sA v276), (42, sA v276), (43, iA (szI v276)), (44, bA (decide ((szI v276) > 32))), (45, bA (decide ((szI v276) > 32)))] ?_
                  cases c1 : (decide ((szI v276) > 32) : Bool) with
                  | true =>
                    refine RD 2 169 [] [(0, sA v276), (42, sA v276), (43, iA (szI v276)), (44, bA true), (45, bA true), (46, sA v276), (48, sA v276)] ?_
                    have hv277_ := cond_t hv277 (by simp only [c1] <;> rfl)
                    refine AD_scut (d := (some 49)) (by kernel_rfl) hv277_ ?_
                    refine RD 1 169 [] [(0, sA v276), (42, sA v276), (43, iA (szI v276)), (44, bA true), (45, bA true), (46, sA v276), (48, sA v276), (49, sA v277), (52, sA v276)] ?_
                    have hv278_ := cond_t hv278 (by simp only [c1] <;> rfl)
                    refine AD_scut (d := (some 53)) (by kernel_rfl) hv278_ ?_
                    refine RD 1 169 [] [(0, sA v276), (42, sA v276), (43, iA (szI v276)), (44, bA true), (45, bA true), (46, sA v276), (48, sA v276), (49, sA v277), (52, sA v276), (53, sA v278), (55, sA v276)] ?_
                    have hv279_ := cond_t hv279 (by simp only [c1] <;> rfl)
                    refine AD_scut (d := (some 56)) (by kernel_rfl) hv279_ ?_
                    have hv280_ := cond_t hv280 (by simp only [c1] <;> rfl)
                    refine AD_callp (d := (some 47)) (al := [sA v276]) (r := iK .u64 v280) (by kernel_rfl) (s_unicode_utf8_word_string hv280_) ⟨trivial, trivial⟩ trivial ?_
                    have hv281_ := cond_t hv281 (by simp only [c1] <;> rfl)
                    refine AD_callp (d := (some 50)) (al := [sA v277]) (r := iK .u64 v281) (by kernel_rfl) (s_unicode_utf8_word_string hv281_) ⟨trivial, trivial⟩ trivial ?_
                    refine RD 1 169 [] [(0, sA v276), (42, sA v276), (43, iA (szI v276)), (44, bA true), (45, bA true), (46, sA v276), (47, iK .u64 v280), (48, sA v276), (49, sA v277), (50, iK .u64 v281), (51, iK .u64 (orI .u64 v280 v281)), (52, sA v276), (53, sA v278), (55, sA v276), (56, sA v279)] ?_
                    have hv282_ := cond_t hv282 (by simp only [c1] <;> rfl)
                    refine AD_callp (d := (some 54)) (al := [sA v278]) (r := iK .u64 v282) (by kernel_rfl) (s_unicode_utf8_word_string hv282_) ⟨trivial, trivial⟩ trivial ?_
                    have hv283_ := cond_t hv283 (by simp only [c1] <;> rfl)
                    refine AD_callp (d := (some 57)) (al := [sA v279]) (r := iK .u64 v283) (by kernel_rfl) (s_unicode_utf8_word_string hv283_) ⟨trivial, trivial⟩ trivial ?_
                    refine RD 5 169 [] [(0, sA v276), (42, sA v276), (43, iA (szI v276)), (44, bA true), (45, bA true), (46, sA v276), (47, iK .u64 v280), (48, sA v276), (49, sA v277), (50, iK .u64 v281), (51, iK .u64 (orI .u64 v280 v281)), (52, sA v276), (53, sA v278), (54, iK .u64 v282), (55, sA v276), (56, sA v279), (57, iK .u64 v283), (58, iK .u64 (orI .u64 v282 v283)), (59, iK .u64 (orI .u64 (orI .u64 v280 v281) (orI .u64 v282 v283))), (60, iK .u64 (andI .u64 (orI .u64 (orI .u64 v280 v281) (orI .u64 v282 v283)) 9259542123273814144)), (61, bA ((andI .u64 (orI .u64 (orI .u64 v280 v281) (orI .u64 v282 v283)) 9259542123273814144) == 0)), (62, bA (true && ((andI .u64 (orI .u64 (orI .u64 v280 v281) (orI .u64 v282 v283)) 9259542123273814144) == 0)))] ?_
                    exact AD_here [0, 62] (by kernel_rfl) rfl
                  | false =>
                    refine RD 7 169 [] [(0, sA v276), (42, sA v276), (43, iA (szI v276)), (44, bA false), (45, bA false), (46, undefA), (48, undefA), (49, undefA), (52, undefA), (53, undefA), (55, undefA), (56, undefA)] (AD_offB (d := some 47) (by kernel_rfl) ?_)
                    refine AD_offB (d := some 50) (by kernel_rfl) ?_
                    refine RD 1 169 [] [(0, sA v276), (42, sA v276), (43, iA (szI v276)), (44, bA false), (45, bA false), (46, undefA), (47, undefA), (48, undefA), (49, undefA), (50, undefA), (51, undefA), (52, undefA), (53, undefA), (55, undefA), (56, undefA)] (AD_offB (d := some 54) (by kernel_rfl) ?_)
                    refine AD_offB (d := some 57) (by kernel_rfl) ?_
                    refine RD 5 169 [] [(0, sA v276), (42, sA v276), (43, iA (szI v276)), (44, bA false), (45, bA false), (46, undefA), (47, undefA), (48, undefA), (49, undefA), (50, undefA), (51, undefA), (52, undefA), (53, undefA), (54, undefA), (55, undefA), (56, undefA), (57, undefA), (58, undefA), (59, undefA), (60, undefA), (61, undefA), (62, bA (false && ((andI .u64 (orI .u64 (orI .u64 v280 v281) (orI .u64 v282 v283)) 9259542123273814144) == 0)))] ?_
                    exact AD_here [0, 62] (by kernel_rfl) rfl
                refine CD H (fun hb284 H => ?_) (fun hb284 H => ?_)
                · refine AWP_skip ?_
                  show AWP _ _ _ _ _ _ _
                  refine AWP_block ?_
                  refine AWP_region ?_
                  refine Rh 1 169 [(63, sA v276)] ?_
                  obtain ⟨v285, hv285, H⟩ := bind_some H
                  refine AOps_scut (d := (some 64)) (by kernel_rfl) hv285 ?_
                  refine Rh 1 169 [(0, sA v285)] (AOps_done ?_)
                  exact Exists.intro v285 (Exists.intro n ⟨by omega, ⟨by omega, H⟩, Norm_fd [0] 0 (by kernel_rfl) rfl rfl trivial (by refine scL_fr ?_; exact ⟨trivial, trivial⟩)⟩)
                · refine AWP_exit ?_
                  exact Exists.intro v276 ⟨⟨n, by omega, H⟩, Norm_fd [0] 0 (by kernel_rfl) rfl rfl trivial (by refine scL_fr ?_; exact ⟨trivial, trivial⟩)⟩
            · refine AWP_skip ?_
              exact Exists.intro v251 ⟨⟨n, by omega, H⟩, Norm_fd [0] 0 (by kernel_rfl) rfl rfl trivial (by refine scL_fr ?_; exact ⟨trivial, trivial⟩)⟩
          · refine AWP_skip ?_
            exact Exists.intro v210 ⟨⟨n, by omega, H⟩, Norm_fd [0] 0 (by kernel_rfl) rfl rfl trivial (by refine scL_fr ?_; exact ⟨trivial, trivial⟩)⟩
      · refine AWP_skip ?_
        show AWP _ _ _ _ _ _ _
        refine AWP_reg (Rh 1 169 [(0, sA v206), (65, iK .u8 v208)] ?_)
        obtain ⟨v286, hv286, H⟩ := bind_some H
        refine AOps_gindex (d := (some 66)) (g := 4) (c := cs_u8) (sz := 1) (xs := gl_first) (by kernel_rfl) hG.g4 (eq_cl_u8 _) rfl (fun _ => rfl) hv286 (fun tl286 => ?_)
        refine Rh 2 169 [(0, sA v206), (4, iK .u8 v286)] (AOps_done (AWP_reg (Rh 4 169 [(0, sA v206), (4, iK .u8 v286), (5, iA (w64 (andI .u8 v286 7)))] (AOps_done (AWP_reg (Rh 2 169 [(0, sA v206), (5, iA (w64 (andI .u8 v286 7))), (72, iK .u8 (shrI .u8 v286 4))] ?_))))))
        obtain ⟨v287, hv287, H⟩ := bind_some H
        refine AOps_gindex (d := (some 73)) (g := 5) (c := TacceptRange.cs) (sz := 2) (xs := gl_acceptRanges) (by kernel_rfl) hG.g5 (eq_TacceptRange_cl _) rfl (fun _ => rfl) hv287 (fun tl287 => ?_)
        refine R 3 169 [(0, sA v206), (5, iA (w64 (andI .u8 v286 7))), (6, .ptr 0 0)] [.cells 184 (TacceptRange.cs v287)] (AOps_done (AWP_reg (Rh 1 169 [(0, sA v206), (6, .ptr 0 0), (75, iA (w64 (andI .u8 v286 7)))] (AOps_done (AWP_block ?_)))))
        refine AWP_reg (Rh 2 169 [(0, sA v206), (6, .ptr 0 0), (75, iA (w64 (andI .u8 v286 7))), (76, bA ((w64 (andI .u8 v286 7)) == 2))] (AOps_done (CD H (fun hb288 H => ?_) (fun hb288 H => ?_))))
        · refine AWP_seq ?_
          obtain ⟨v289, hv289, H⟩ := bind_some H
          obtain ⟨v290, hv290, H⟩ := bind_some H
          refine AWP_regD1 [0, 1, 2, 3, 4, 5, 6, 7, 8, 9, 10, 11, 12, 13, 14, 15, 16] (N := 169) (f := [(0, sA v206), (6, .ptr 0 0)]) (leL_of [0, 6] (by kernel_rfl)) mixed (by kernel_rfl) (by kernel_rfl) (st' := fr 169 [(0, sA v206), (94, bA (((decide ((szI v206) < 2)) || (decide (v289 < v287.glo))) || (decide (v287.ghi < v290))))]) (h' := [.cells 184 (TacceptRange.cs v287)]) ?_ ?_
          rotate_left
          · refine RD 4 169 [] [(0, sA v206), (6, .ptr 0 0), (78, sA v206), (79, iA (szI v206)), (80, bA (decide ((szI v206) < 2))), (81, bA (decide ((szI v206) < 2)))] ?_
            cases c1 : (decide ((szI v206) < 2) : Bool) with
            | true =>
              refine RD 13 169 [] [(0, sA v206), (6, .ptr 0 0), (78, sA v206), (79, iA (szI v206)), (80, bA true), (81, bA true), (82, undefA), (83, undefA), (84, undefA), (85, undefA), (86, undefA), (87, bA (true || (decide (v289 < v287.glo)))), (88, bA (true || (decide (v289 < v287.glo)))), (89, undefA), (90, undefA), (91, undefA), (92, undefA), (93, undefA), (94, bA ((true || (decide (v289 < v287.glo))) || (decide (v287.ghi < v290))))] ?_
              exact AD_here [0, 94] (by kernel_rfl) rfl
            | false =>
              refine RD 1 169 [] [(0, sA v206), (6, .ptr 0 0), (78, sA v206), (79, iA (szI v206)), (80, bA false), (81, bA false), (82, sA v206)] ?_
              have hv289_ := cond_t hv289 (by simp only [c1] <;> rfl)
              refine AD_sindex (d := (some 83)) (by kernel_rfl) hv289_ ?_
              refine RD 5 169 [(7, 0), (6, 0)] [(0, sA v206), (6, .ptr 0 0), (78, sA v206), (79, iA (szI v206)), (80, bA false), (81, bA false), (82, sA v206), (83, iK .u8 v289), (84, .ptr 0 0), (85, iK .u8 v287.glo), (86, bA (decide (v289 < v287.glo))), (87, bA (false || (decide (v289 < v287.glo)))), (88, bA (false || (decide (v289 < v287.glo))))] ?_
              cases c2 : (decide (v289 < v287.glo) : Bool) with
              | true =>
                refine RD 6 169 [(7, 0), (6, 0)] [(0, sA v206), (6, .ptr 0 0), (78, sA v206), (79, iA (szI v206)), (80, bA false), (81, bA false), (82, sA v206), (83, iK .u8 v289), (84, .ptr 0 0), (85, iK .u8 v287.glo), (86, bA true), (87, bA (false || true)), (88, bA (false || true)), (89, undefA), (90, undefA), (91, undefA), (92, undefA), (93, undefA), (94, bA ((false || true) || (decide (v287.ghi < v290))))] ?_
                exact AD_here [0, 94] (by kernel_rfl) rfl
              | false =>
                refine RD 3 169 [(12, 0), (11, 0), (7, 0), (6, 0)] [(0, sA v206), (6, .ptr 0 0), (78, sA v206), (79, iA (szI v206)), (80, bA false), (81, bA false), (82, sA v206), (83, iK .u8 v289), (84, .ptr 0 0), (85, iK .u8 v287.glo), (86, bA false), (87, bA (false || false)), (88, bA (false || false)), (89, .ptr 0 1), (90, iK .u8 v287.ghi), (91, sA v206)] ?_
                have hv290_ := cond_t hv290 (by simp only [c1, c2] <;> rfl)
                refine AD_sindex (d := (some 92)) (by kernel_rfl) hv290_ ?_
                refine RD 2 169 [(12, 0), (11, 0), (7, 0), (6, 0)] [(0, sA v206), (6, .ptr 0 0), (78, sA v206), (79, iA (szI v206)), (80, bA false), (81, bA false), (82, sA v206), (83, iK .u8 v289), (84, .ptr 0 0), (85, iK .u8 v287.glo), (86, bA false), (87, bA (false || false)), (88, bA (false || false)), (89, .ptr 0 1), (90, iK .u8 v287.ghi), (91, sA v206), (92, iK .u8 v290), (93, bA (decide (v287.ghi < v290))), (94, bA ((false || false) || (decide (v287.ghi < v290))))] ?_
                exact AD_here [0, 94] (by kernel_rfl) rfl
          refine CD H (fun hb291 H => ?_) (fun hb291 H => ?_)
          · refine AWP_reg (Rh 1 169 [(2, bA false)] (AOps_done ?_))
            exact AWP_ret (FR H)
          · refine AWP_skip ?_
            show AWP _ _ _ _ _ _ _
            refine AWP_region ?_
            refine Rh 1 169 [(95, sA v206)] ?_
            obtain ⟨v292, hv292, H⟩ := bind_some H
            refine AOps_scut (d := (some 96)) (by kernel_rfl) hv292 ?_
            refine Rh 1 169 [(0, sA v292)] (AOps_done ?_)
            exact Exists.intro v292 (Exists.intro n ⟨by omega, ⟨by omega, H⟩, Norm_fd [0] 1 (by kernel_rfl) rfl rfl trivial (by refine scL_fr ?_; exact ⟨trivial, trivial⟩)⟩)
        · refine AWP_reg (Rh 2 169 [(0, sA v206), (6, .ptr 0 0), (75, iA (w64 (andI .u8 v286 7))), (97, bA ((w64 (andI .u8 v286 7)) == 3))] (AOps_done (CD H (fun hb293 H => ?_) (fun hb293 H => ?_))))
          · refine AWP_seq ?_
            obtain ⟨v294, hv294, H⟩ := bind_some H
            obtain ⟨v295, hv295, H⟩ := bind_some H
            obtain ⟨v296, hv296, H⟩ := bind_some H
            obtain ⟨v297, hv297, H⟩ := bind_some H
            refine AWP_regD1 [0, 1, 2, 3, 4, 5, 6, 7, 8, 9, 10, 11, 12, 13, 14, 15, 16, 17, 18, 19, 20, 21, 22, 23, 24, 25, 26] (N := 169) (f := [(0, sA v206), (6, .ptr 0 0)]) (leL_of [0, 6] (by kernel_rfl)) mixed (by kernel_rfl) (by kernel_rfl) (st' := fr 169 [(0, sA v206), (125, bA (((((decide ((szI v206) < 3)) || (decide (v294 < v287.glo))) || (decide (v287.ghi < v295))) || (decide (v296 < 128))) || (decide (191 < v297))))]) (h' := [.cells 184 (TacceptRange.cs v287)]) ?_ ?_
            rotate_left
            · refine RD 4 169 [] [(0, sA v206), (6, .ptr 0 0), (99, sA v206), (100, iA (szI v206)), (101, bA (decide ((szI v206) < 3))), (102, bA (decide ((szI v206) < 3)))] ?_
              cases c1 : (decide ((szI v206) < 3) : Bool) with
              | true =>
                refine RD 23 169 [] [(0, sA v206), (6, .ptr 0 0), (99, sA v206), (100, iA (szI v206)), (101, bA true), (102, bA true), (103, undefA), (104, undefA), (105, undefA), (106, undefA), (107, undefA), (108, bA (true || (decide (v294 < v287.glo)))), (109, bA (true || (decide (v294 < v287.glo)))), (110, undefA), (111, undefA), (112, undefA), (113, undefA), (114, undefA), (115, bA ((true || (decide (v294 < v287.glo))) || (decide (v287.ghi < v295)))), (116, bA ((true || (decide (v294 < v287.glo))) || (decide (v287.ghi < v295)))), (117, undefA), (118, undefA), (119, undefA), (120, bA (((true || (decide (v294 < v287.glo))) || (decide (v287.ghi < v295))) || (decide (v296 < 128)))), (121, bA (((true || (decide (v294 < v287.glo))) || (decide (v287.ghi < v295))) || (decide (v296 < 128)))), (122, undefA), (123, undefA), (124, undefA), (125, bA ((((true || (decide (v294 < v287.glo))) || (decide (v287.ghi < v295))) || (decide (v296 < 128))) || (decide (191 < v297))))] ?_
                exact AD_here [0, 125] (by kernel_rfl) rfl
              | false =>
                refine RD 1 169 [] [(0, sA v206), (6, .ptr 0 0), (99, sA v206), (100, iA (szI v206)), (101, bA false), (102, bA false), (103, sA v206)] ?_
                have hv294_ := cond_t hv294 (by simp only [c1] <;> rfl)
                refine AD_sindex (d := (some 104)) (by kernel_rfl) hv294_ ?_
                refine RD 5 169 [(7, 0), (6, 0)] [(0, sA v206), (6, .ptr 0 0), (99, sA v206), (100, iA (szI v206)), (101, bA false), (102, bA false), (103, sA v206), (104, iK .u8 v294), (105, .ptr 0 0), (106, iK .u8 v287.glo), (107, bA (decide (v294 < v287.glo))), (108, bA (false || (decide (v294 < v287.glo)))), (109, bA (false || (decide (v294 < v287.glo))))] ?_
                cases c2 : (decide (v294 < v287.glo) : Bool) with
                | true =>
                  refine RD 16 169 [(7, 0), (6, 0)] [(0, sA v206), (6, .ptr 0 0), (99, sA v206), (100, iA (szI v206)), (101, bA false), (102, bA false), (103, sA v206), (104, iK .u8 v294), (105, .ptr 0 0), (106, iK .u8 v287.glo), (107, bA true), (108, bA (false || true)), (109, bA (false || true)), (110, undefA), (111, undefA), (112, undefA), (113, undefA), (114, undefA), (115, bA ((false || true) || (decide (v287.ghi < v295)))), (116, bA ((false || true) || (decide (v287.ghi < v295)))), (117, undefA), (118, undefA), (119, undefA), (120, bA (((false || true) || (decide (v287.ghi < v295))) || (decide (v296 < 128)))), (121, bA (((false || true) || (decide (v287.ghi < v295))) || (decide (v296 < 128)))), (122, undefA), (123, undefA), (124, undefA), (125, bA ((((false || true) || (decide (v287.ghi < v295))) || (decide (v296 < 128))) || (decide (191 < v297))))] ?_
                  exact AD_here [0, 125] (by kernel_rfl) rfl
                | false =>
                  refine RD 3 169 [(12, 0), (11, 0), (7, 0), (6, 0)] [(0, sA v206), (6, .ptr 0 0), (99, sA v206), (100, iA (szI v206)), (101, bA false), (102, bA false), (103, sA v206), (104, iK .u8 v294), (105, .ptr 0 0), (106, iK .u8 v287.glo), (107, bA false), (108, bA (false || false)), (109, bA (false || false)), (110, .ptr 0 1), (111, iK .u8 v287.ghi), (112, sA v206)] ?_
                  have hv295_ := cond_t hv295 (by simp only [c1, c2] <;> rfl)
                  refine AD_sindex (d := (some 113)) (by kernel_rfl) hv295_ ?_
                  refine RD 3 169 [(12, 0), (11, 0), (7, 0), (6, 0)] [(0, sA v206), (6, .ptr 0 0), (99, sA v206), (100, iA (szI v206)), (101, bA false), (102, bA false), (103, sA v206), (104, iK .u8 v294), (105, .ptr 0 0), (106, iK .u8 v287.glo), (107, bA false), (108, bA (false || false)), (109, bA (false || false)), (110, .ptr 0 1), (111, iK .u8 v287.ghi), (112, sA v206), (113, iK .u8 v295), (114, bA (decide (v287.ghi < v295))), (115, bA ((false || false) || (decide (v287.ghi < v295)))), (116, bA ((false || false) || (decide (v287.ghi < v295))))] ?_
                  cases c3 : (decide (v287.ghi < v295) : Bool) with
                  | true =>
                    refine RD 9 169 [(12, 0), (11, 0), (7, 0), (6, 0)] [(0, sA v206), (6, .ptr 0 0), (99, sA v206), (100, iA (szI v206)), (101, bA false), (102, bA false), (103, sA v206), (104, iK .u8 v294), (105, .ptr 0 0), (106, iK .u8 v287.glo), (107, bA false), (108, bA (false || false)), (109, bA (false || false)), (110, .ptr 0 1), (111, iK .u8 v287.ghi), (112, sA v206), (113, iK .u8 v295), (114, bA true), (115, bA ((false || false) || true)), (116, bA ((false || false) || true)), (117, undefA), (118, undefA), (119, undefA), (120, bA (((false || false) || true) || (decide (v296 < 128)))), (121, bA (((false || false) || true) || (decide (v296 < 128)))), (122, undefA), (123, undefA), (124, undefA), (125, bA ((((false || false) || true) || (decide (v296 < 128))) || (decide (191 < v297))))] ?_
                    exact AD_here [0, 125] (by kernel_rfl) rfl
                  | false =>
                    refine RD 1 169 [(12, 0), (11, 0), (7, 0), (6, 0)] [(0, sA v206), (6, .ptr 0 0), (99, sA v206), (100, iA (szI v206)), (101, bA false), (102, bA false), (103, sA v206), (104, iK .u8 v294), (105, .ptr 0 0), (106, iK .u8 v287.glo), (107, bA false), (108, bA (false || false)), (109, bA (false || false)), (110, .ptr 0 1), (111, iK .u8 v287.ghi), (112, sA v206), (113, iK .u8 v295), (114, bA false), (115, bA ((false || false) || false)), (116, bA ((false || false) || false)), (117, sA v206)] ?_
                    have hv296_ := cond_t hv296 (by simp only [c1, c2, c3] <;> rfl)
                    refine AD_sindex (d := (some 118)) (by kernel_rfl) hv296_ ?_
                    refine RD 3 169 [(12, 0), (11, 0), (7, 0), (6, 0)] [(0, sA v206), (6, .ptr 0 0), (99, sA v206), (100, iA (szI v206)), (101, bA false), (102, bA false), (103, sA v206), (104, iK .u8 v294), (105, .ptr 0 0), (106, iK .u8 v287.glo), (107, bA false), (108, bA (false || false)), (109, bA (false || false)), (110, .ptr 0 1), (111, iK .u8 v287.ghi), (112, sA v206), (113, iK .u8 v295), (114, bA false), (115, bA ((false || false) || false)), (116, bA ((false || false) || false)), (117, sA v206), (118, iK .u8 v296), (119, bA (decide (v296 < 128))), (120, bA (((false || false) || false) || (decide (v296 < 128)))), (121, bA (((false || false) || false) || (decide (v296 < 128))))] ?_
                    cases c4 : (decide (v296 < 128) : Bool) with
                    | true =>
                      refine RD 4 169 [(12, 0), (11, 0), (7, 0), (6, 0)] [(0, sA v206), (6, .ptr 0 0), (99, sA v206), (100, iA (szI v206)), (101, bA false), (102, bA false), (103, sA v206), (104, iK .u8 v294), (105, .ptr 0 0), (106, iK .u8 v287.glo), (107, bA false), (108, bA (false || false)), (109, bA (false || false)), (110, .ptr 0 1), (111, iK .u8 v287.ghi), (112, sA v206), (113, iK .u8 v295), (114, bA false), (115, bA ((false || false) || false)), (116, bA ((false || false) || false)), (117, sA v206), (118, iK .u8 v296), (119, bA true), (120, bA (((false || false) || false) || true)), (121, bA (((false || false) || false) || true)), (122, undefA), (123, undefA), (124, undefA), (125, bA ((((false || false) || false) || true) || (decide (191 < v297))))] ?_
                      exact AD_here [0, 125] (by kernel_rfl) rfl
                    | false =>
                      refine RD 1 169 [(12, 0), (11, 0), (7, 0), (6, 0)] [(0, sA v206), (6, .ptr 0 0), (99, sA v206), (100, iA (szI v206)), (101, bA false), (102, bA false), (103, sA v206), (104, iK .u8 v294), (105, .ptr 0 0), (106, iK .u8 v287.glo), (107, bA false), (108, bA (false || false)), (109, bA (false || false)), (110, .ptr 0 1), (111, iK .u8 v287.ghi), (112, sA v206), (113, iK .u8 v295), (114, bA false), (115, bA ((false || false) || false)), (116, bA ((false || false) || false)), (117, sA v206), (118, iK .u8 v296), (119, bA false), (120, bA (((false || false) || false) || false)), (121, bA (((false || false) || false) || false)), (122, sA v206)] ?_
                      have hv297_ := cond_t hv297 (by simp only [c1, c2, c3, c4] <;> rfl)
                      refine AD_sindex (d := (some 123)) (by kernel_rfl) hv297_ ?_
                      refine RD 2 169 [(12, 0), (11, 0), (7, 0), (6, 0)] [(0, sA v206), (6, .ptr 0 0), (99, sA v206), (100, iA (szI v206)), (101, bA false), (102, bA false), (103, sA v206), (104, iK .u8 v294), (105, .ptr 0 0), (106, iK .u8 v287.glo), (107, bA false), (108, bA (false || false)), (109, bA (false || false)), (110, .ptr 0 1), (111, iK .u8 v287.ghi), (112, sA v206), (113, iK .u8 v295), (114, bA false), (115, bA ((false || false) || false)), (116, bA ((false || false) || false)), (117, sA v206), (118, iK .u8 v296), (119, bA false), (120, bA (((false || false) || false) || false)), (121, bA (((false || false) || false) || false)), (122, sA v206), (123, iK .u8 v297), (124, bA (decide (191 < v297))), (125, bA ((((false || false) || false) || false) || (decide (191 < v297))))] ?_
                      exact AD_here [0, 125] (by kernel_rfl) rfl
            refine CD H (fun hb298 H => ?_) (fun hb298 H => ?_)
            · refine AWP_reg (Rh 1 169 [(2, bA false)] (AOps_done ?_))
              exact AWP_ret (FR H)
            · refine AWP_skip ?_
              show AWP _ _ _ _ _ _ _
              refine AWP_region ?_
              refine Rh 1 169 [(126, sA v206)] ?_
              obtain ⟨v299, hv299, H⟩ := bind_some H
              refine AOps_scut (d := (some 127)) (by kernel_rfl) hv299 ?_
              refine Rh 1 169 [(0, sA v299)] (AOps_done ?_)
              exact Exists.intro v299 (Exists.intro n ⟨by omega, ⟨by omega, H⟩, Norm_fd [0] 1 (by kernel_rfl) rfl rfl trivial (by refine scL_fr ?_; exact ⟨trivial, trivial⟩)⟩)
          · refine AWP_reg (Rh 2 169 [(0, sA v206), (6, .ptr 0 0), (128, bA ((w64 (andI .u8 v286 7)) == 4))] (AOps_done (CD H (fun hb300 H => ?_) (fun hb300 H => ?_))))
            · refine AWP_seq ?_
              obtain ⟨v301, hv301, H⟩ := bind_some H
              obtain ⟨v302, hv302, H⟩ := bind_some H
              obtain ⟨v303, hv303, H⟩ := bind_some H
              obtain ⟨v304, hv304, H⟩ := bind_some H
              obtain ⟨v305, hv305, H⟩ := bind_some H
              obtain ⟨v306, hv306, H⟩ := bind_some H
              refine AWP_regD1 [0, 1, 2, 3, 4, 5, 6, 7, 8, 9, 10, 11, 12, 13, 14, 15, 16, 17, 18, 19, 20, 21, 22, 23, 24, 25, 26, 27, 28, 29, 30, 31, 32, 33, 34, 35, 36] (N := 169) (f := [(0, sA v206), (6, .ptr 0 0)]) (leL_of [0, 6] (by kernel_rfl)) mixed (by kernel_rfl) (by kernel_rfl) (st' := fr 169 [(0, sA v206), (166, bA (((((((decide ((szI v206) < 4)) || (decide (v301 < v287.glo))) || (decide (v287.ghi < v302))) || (decide (v303 < 128))) || (decide (191 < v304))) || (decide (v305 < 128))) || (decide (191 < v306))))]) (h' := [.cells 184 (TacceptRange.cs v287)]) ?_ ?_
              rotate_left
              · refine RD 4 169 [] [(0, sA v206), (6, .ptr 0 0), (130, sA v206), (131, iA (szI v206)), (132, bA (decide ((szI v206) < 4))), (133, bA (decide ((szI v206) < 4)))] ?_
                cases c1 : (decide ((szI v206) < 4) : Bool) with
                | true =>
                  refine RD 33 169 [] [(0, sA v206), (6, .ptr 0 0), (130, sA v206), (131, iA (szI v206)), (132, bA true), (133, bA true), (134, undefA), (135, undefA), (136, undefA), (137, undefA), (138, undefA), (139, bA (true || (decide (v301 < v287.glo)))), (140, bA (true || (decide (v301 < v287.glo)))), (141, undefA), (142, undefA), (143, undefA), (144, undefA), (145, undefA), (146, bA ((true || (decide (v301 < v287.glo))) || (decide (v287.ghi < v302)))), (147, bA ((true || (decide (v301 < v287.glo))) || (decide (v287.ghi < v302)))), (148, undefA), (149, undefA), (150, undefA), (151, bA (((true || (decide (v301 < v287.glo))) || (decide (v287.ghi < v302))) || (decide (v303 < 128)))), (152, bA (((true || (decide (v301 < v287.glo))) || (decide (v287.ghi < v302))) || (decide (v303 < 128)))), (153, undefA), (154, undefA), (155, undefA), (156, bA ((((true || (decide (v301 < v287.glo))) || (decide (v287.ghi < v302))) || (decide (v303 < 128))) || (decide (191 < v304)))), (157, bA ((((true || (decide (v301 < v287.glo))) || (decide (v287.ghi < v302))) || (decide (v303 < 128))) || (decide (191 < v304)))), (158, undefA), (159, undefA), (160, undefA), (161, bA (((((true || (decide (v301 < v287.glo))) || (decide (v287.ghi < v302))) || (decide (v303 < 128))) || (decide (191 < v304))) || (decide (v305 < 128)))), (162, bA (((((true || (decide (v301 < v287.glo))) || (decide (v287.ghi < v302))) || (decide (v303 < 128))) || (decide (191 < v304))) || (decide (v305 < 128)))), (163, undefA), (164, undefA), (165, undefA), (166, bA ((((((true || (decide (v301 < v287.glo))) || (decide (v287.ghi < v302))) || (decide (v303 < 128))) || (decide (191 < v304))) || (decide (v305 < 128))) || (decide (191 < v306))))] ?_
                  exact AD_here [0, 166] (by kernel_rfl) rfl
                | false =>
                  refine RD 1 169 [] [(0, sA v206), (6, .ptr 0 0), (130, sA v206), (131, iA (szI v206)), (132, bA false), (133, bA false), (134, sA v206)] ?_
                  have hv301_ := cond_t hv301 (by simp only [c1] <;> rfl)
                  refine AD_sindex (d := (some 135)) (by kernel_rfl) hv301_ ?_
                  refine RD 5 169 [(7, 0), (6, 0)] [(0, sA v206), (6, .ptr 0 0), (130, sA v206), (131, iA (szI v206)), (132, bA false), (133, bA false), (134, sA v206), (135, iK .u8 v301), (136, .ptr 0 0), (137, iK .u8 v287.glo), (138, bA (decide (v301 < v287.glo))), (139, bA (false || (decide (v301 < v287.glo)))), (140, bA (false || (decide (v301 < v287.glo))))] ?_
                  cases c2 : (decide (v301 < v287.glo) : Bool) with
                  | true =>
                    refine RD 26 169 [(7, 0), (6, 0)] [(0, sA v206), (6, .ptr 0 0), (130, sA v206), (131, iA (szI v206)), (132, bA false), (133, bA false), (134, sA v206), (135, iK .u8 v301), (136, .ptr 0 0), (137, iK .u8 v287.glo), (138, bA true), (139, bA (false || true)), (140, bA (false || true)), (141, undefA), (142, undefA), (143, undefA), (144, undefA), (145, undefA), (146, bA ((false || true) || (decide (v287.ghi < v302)))), (147, bA ((false || true) || (decide (v287.ghi < v302)))), (148, undefA), (149, undefA), (150, undefA), (151, bA (((false || true) || (decide (v287.ghi < v302))) || (decide (v303 < 128)))), (152, bA (((false || true) || (decide (v287.ghi < v302))) || (decide (v303 < 128)))), (153, undefA), (154, undefA), (155, undefA), (156, bA ((((false || true) || (decide (v287.ghi < v302))) || (decide (v303 < 128))) || (decide (191 < v304)))), (157, bA ((((false || true) || (decide (v287.ghi < v302))) || (decide (v303 < 128))) || (decide (191 < v304)))), (158, undefA), (159, undefA), (160, undefA), (161, bA (((((false || true) || (decide (v287.ghi < v302))) || (decide (v303 < 128))) || (decide (191 < v304))) || (decide (v305 < 128)))), (162, bA (((((false || true) || (decide (v287.ghi < v302))) || (decide (v303 < 128))) || (decide (191 < v304))) || (decide (v305 < 128)))), (163, undefA), (164, undefA), (165, undefA), (166, bA ((((((false || true) || (decide (v287.ghi < v302))) || (decide (v303 < 128))) || (decide (191 < v304))) || (decide (v305 < 128))) || (decide (191 < v306))))] ?_
                    exact AD_here [0, 166] (by kernel_rfl) rfl
                  | false =>
                    refine RD 3 169 [(12, 0), (11, 0), (7, 0), (6, 0)] [(0, sA v206), (6, .ptr 0 0), (130, sA v206), (131, iA (szI v206)), (132, bA false), (133, bA false), (134, sA v206), (135, iK .u8 v301), (136, .ptr 0 0), (137, iK .u8 v287.glo), (138, bA false), (139, bA (false || false)), (140, bA (false || false)), (141, .ptr 0 1), (142, iK .u8 v287.ghi), (143, sA v206)] ?_
                    have hv302_ := cond_t hv302 (by simp only [c1, c2] <;> rfl)
                    refine AD_sindex (d := (some 144)) (by kernel_rfl) hv302_ ?_
                    refine RD 3 169 [(12, 0), (11, 0), (7, 0), (6, 0)] [(0, sA v206), (6, .ptr 0 0), (130, sA v206), (131, iA (szI v206)), (132, bA false), (133, bA false), (134, sA v206), (135, iK .u8 v301), (136, .ptr 0 0), (137, iK .u8 v287.glo), (138, bA false), (139, bA (false || false)), (140, bA (false || false)), (141, .ptr 0 1), (142, iK .u8 v287.ghi), (143, sA v206), (144, iK .u8 v302), (145, bA (decide (v287.ghi < v302))), (146, bA ((false || false) || (decide (v287.ghi < v302)))), (147, bA ((false || false) || (decide (v287.ghi < v302))))] ?_
                    cases c3 : (decide (v287.ghi < v302) : Bool) with
                    | true =>
                      refine RD 19 169 [(12, 0), (11, 0), (7, 0), (6, 0)] [(0, sA v206), (6, .ptr 0 0), (130, sA v206), (131, iA (szI v206)), (132, bA false), (133, bA false), (134, sA v206), (135, iK .u8 v301), (136, .ptr 0 0), (137, iK .u8 v287.glo), (138, bA false), (139, bA (false || false)), (140, bA (false || false)), (141, .ptr 0 1), (142, iK .u8 v287.ghi), (143, sA v206), (144, iK .u8 v302), (145, bA true), (146, bA ((false || false) || true)), (147, bA ((false || false) || true)), (148, undefA), (149, undefA), (150, undefA), (151, bA (((false || false) || true) || (decide (v303 < 128)))), (152, bA (((false || false) || true) || (decide (v303 < 128)))), (153, undefA), (154, undefA), (155, undefA), (156, bA ((((false || false) || true) || (decide (v303 < 128))) || (decide (191 < v304)))), (157, bA ((((false || false) || true) || (decide (v303 < 128))) || (decide (191 < v304)))), (158, undefA), (159, undefA), (160, undefA), (161, bA (((((false || false) || true) || (decide (v303 < 128))) || (decide (191 < v304))) || (decide (v305 < 128)))), (162, bA (((((false || false) || true) || (decide (v303 < 128))) || (decide (191 < v304))) || (decide (v305 < 128)))), (163, undefA), (164, undefA), (165, undefA), (166, bA ((((((false || false) || true) || (decide (v303 < 128))) || (decide (191 < v304))) || (decide (v305 < 128))) || (decide (191 < v306))))] ?_
                      exact AD_here [0, 166] (by kernel_rfl) rfl
                    | false =>
                      refine RD 1 169 [(12, 0), (11, 0), (7, 0), (6, 0)] [(0, sA v206), (6, .ptr 0 0), (130, sA v206), (131, iA (szI v206)), (132, bA false), (133, bA false), (134, sA v206), (135, iK .u8 v301), (136, .ptr 0 0), (137, iK .u8 v287.glo), (138, bA false), (139, bA (false || false)), (140, bA (false || false)), (141, .ptr 0 1), (142, iK .u8 v287.ghi), (143, sA v206), (144, iK .u8 v302), (145, bA false), (146, bA ((false || false) || false)), (147, bA ((false || false) || false)), (148, sA v206)] ?_
                      have hv303_ := cond_t hv303 (by simp only [c1, c2, c3] <;> rfl)
                      refine AD_sindex (d := (some 149)) (by kernel_rfl) hv303_ ?_
                      refine RD 3 169 [(12, 0), (11, 0), (7, 0), (6, 0)] [(0, sA v206), (6, .ptr 0 0), (130, sA v206), (131, iA (szI v206)), (132, bA false), (133, bA false), (134, sA v206), (135, iK .u8 v301), (136, .ptr 0 0), (137, iK .u8 v287.glo), (138, bA false), (139, bA (false || false)), (140, bA (false || false)), (141, .ptr 0 1), (142, iK .u8 v287.ghi), (143, sA v206), (144, iK .u8 v302), (145, bA false), (146, bA ((false || false) || false)), (147, bA ((false || false) || false)), (148, sA v206), (149, iK .u8 v303), (150, bA (decide (v303 < 128))), (151, bA (((false || false) || false) || (decide (v303 < 128)))), (152, bA (((false || false) || false) || (decide (v303 < 128))))] ?_
                      cases c4 : (decide (v303 < 128) : Bool) with
                      | true =>
                        refine RD 14 169 [(12, 0), (11, 0), (7, 0), (6, 0)] [(0, sA v206), (6, .ptr 0 0), (130, sA v206), (131, iA (szI v206)), (132, bA false), (133, bA false), (134, sA v206), (135, iK .u8 v301), (136, .ptr 0 0), (137, iK .u8 v287.glo), (138, bA false), (139, bA (false || false)), (140, bA (false || false)), (141, .ptr 0 1), (142, iK .u8 v287.ghi), (143, sA v206), (144, iK .u8 v302), (145, bA false), (146, bA ((false || false) || false)), (147, bA ((false || false) || false)), (148, sA v206), (149, iK .u8 v303), (150, bA true), (151, bA (((false || false) || false) || true)), (152, bA (((false || false) || false) || true)), (153, undefA), (154, undefA), (155, undefA), (156, bA ((((false || false) || false) || true) || (decide (191 < v304)))), (157, bA ((((false || false) || false) || true) || (decide (191 < v304)))), (158, undefA), (159, undefA), (160, undefA), (161, bA (((((false || false) || false) || true) || (decide (191 < v304))) || (decide (v305 < 128)))), (162, bA (((((false || false) || false) || true) || (decide (191 < v304))) || (decide (v305 < 128)))), (163, undefA), (164, undefA), (165, undefA), (166, bA ((((((false || false) || false) || true) || (decide (191 < v304))) || (decide (v305 < 128))) || (decide (191 < v306))))] ?_
                        exact AD_here [0, 166] (by kernel_rfl) rfl
                      | false =>
                        refine RD 1 169 [(12, 0), (11, 0), (7, 0), (6, 0)] [(0, sA v206), (6, .ptr 0 0), (130, sA v206), (131, iA (szI v206)), (132, bA false), (133, bA false), (134, sA v206), (135, iK .u8 v301), (136, .ptr 0 0), (137, iK .u8 v287.glo), (138, bA false), (139, bA (false || false)), (140, bA (false || false)), (141, .ptr 0 1), (142, iK .u8 v287.ghi), (143, sA v206), (144, iK .u8 v302), (145, bA false), (146, bA ((false || false) || false)), (147, bA ((false || false) || false)), (148, sA v206), (149, iK .u8 v303), (150, bA false), (151, bA (((false || false) || false) || false)), (152, bA (((false || false) || false) || false)), (153, sA v206)] ?_
                        have hv304_ := cond_t hv304 (by simp only [c1, c2, c3, c4] <;> rfl)
                        refine AD_sindex (d := (some 154)) (by kernel_rfl) hv304_ ?_
                        refine RD 3 169 [(12, 0), (11, 0), (7, 0), (6, 0)] [(0, sA v206), (6, .ptr 0 0), (130, sA v206), (131, iA (szI v206)), (132, bA false), (133, bA false), (134, sA v206), (135, iK .u8 v301), (136, .ptr 0 0), (137, iK .u8 v287.glo), (138, bA false), (139, bA (false || false)), (140, bA (false || false)), (141, .ptr 0 1), (142, iK .u8 v287.ghi), (143, sA v206), (144, iK .u8 v302), (145, bA false), (146, bA ((false || false) || false)), (147, bA ((false || false) || false)), (148, sA v206), (149, iK .u8 v303), (150, bA false), (151, bA (((false || false) || false) || false)), (152, bA (((false || false) || false) || false)), (153, sA v206), (154, iK .u8 v304), (155, bA (decide (191 < v304))), (156, bA ((((false || false) || false) || false) || (decide (191 < v304)))), (157, bA ((((false || false) || false) || false) || (decide (191 < v304))))] ?_
                        cases c5 : (decide (191 < v304) : Bool) with
                        | true =>
                          refine RD 9 169 [(12, 0), (11, 0), (7, 0), (6, 0)] [(0, sA v206), (6, .ptr 0 0), (130, sA v206), (131, iA (szI v206)), (132, bA false), (133, bA false), (134, sA v206), (135, iK .u8 v301), (136, .ptr 0 0), (137, iK .u8 v287.glo), (138, bA false), (139, bA (false || false)), (140, bA (false || false)), (141, .ptr 0 1), (142, iK .u8 v287.ghi), (143, sA v206), (144, iK .u8 v302), (145, bA false), (146, bA ((false || false) || false)), (147, bA ((false || false) || false)), (148, sA v206), (149, iK .u8 v303), (150, bA false), (151, bA (((false || false) || false) || false)), (152, bA (((false || false) || false) || false)), (153, sA v206), (154, iK .u8 v304), (155, bA true), (156, bA ((((false || false) || false) || false) || true)), (157, bA ((((false || false) || false) || false) || true)), (158, undefA), (159, undefA), (160, undefA), (161, bA (((((false || false) || false) || false) || true) || (decide (v305 < 128)))), (162, bA (((((false || false) || false) || false) || true) || (decide (v305 < 128)))), (163, undefA), (164, undefA), (165, undefA), (166, bA ((((((false || false) || false) || false) || true) || (decide (v305 < 128))) || (decide (191 < v306))))] ?_
                          exact AD_here [0, 166] (by kernel_rfl) rfl
                        | false =>
                          refine RD 1 169 [(12, 0), (11, 0), (7, 0), (6, 0)] [(0, sA v206), (6, .ptr 0 0), (130, sA v206), (131, iA (szI v206)), (132, bA false), (133, bA false), (134, sA v206), (135, iK .u8 v301), (136, .ptr 0 0), (137, iK .u8 v287.glo), (138, bA false), (139, bA (false || false)), (140, bA (false || false)), (141, .ptr 0 1), (142, iK .u8 v287.ghi), (143, sA v206), (144, iK .u8 v302), (145, bA false), (146, bA ((false || false) || false)), (147, bA ((false || false) || false)), (148, sA v206), (149, iK .u8 v303), (150, bA false), (151, bA (((false || false) || false) || false)), (152, bA (((false || false) || false) || false)), (153, sA v206), (154, iK .u8 v304), (155, bA false), (156, bA ((((false || false) || false) || false) || false)), (157, bA ((((false || false) || false) || false) || false)), (158, sA v206)] ?_
                          have hv305_ := cond_t hv305 (by simp only [c1, c2, c3, c4, c5] <;> rfl)
                          refine AD_sindex (d := (some 159)) (by kernel_rfl) hv305_ ?_
                          refine RD 3 169 [(12, 0), (11, 0), (7, 0), (6, 0)] [(0, sA v206), (6, .ptr 0 0), (130, sA v206), (131, iA (szI v206)), (132, bA false), (133, bA false), (134, sA v206), (135, iK .u8 v301), (136, .ptr 0 0), (137, iK .u8 v287.glo), (138, bA false), (139, bA (false || false)), (140, bA (false || false)), (141, .ptr 0 1), (142, iK .u8 v287.ghi), (143, sA v206), (144, iK .u8 v302), (145, bA false), (146, bA ((false || false) || false)), (147, bA ((false || false) || false)), (148, sA v206), (149, iK .u8 v303), (150, bA false), (151, bA (((false || false) || false) || false)), (152, bA (((false || false) || false) || false)), (153, sA v206), (154, iK .u8 v304), (155, bA false), (156, bA ((((false || false) || false) || false) || false)), (157, bA ((((false || false) || false) || false) || false)), (158, sA v206), (159, iK .u8 v305), (160, bA (decide (v305 < 128))), (161, bA (((((false || false) || false) || false) || false) || (decide (v305 < 128)))), (162, bA (((((false || false) || false) || false) || false) || (decide (v305 < 128))))] ?_
                          cases c6 : (decide (v305 < 128) : Bool) with
                          | true =>
                            refine RD 4 169 [(12, 0), (11, 0), (7, 0), (6, 0)] [(0, sA v206), (6, .ptr 0 0), (130, sA v206), (131, iA (szI v206)), (132, bA false), (133, bA false), (134, sA v206), (135, iK .u8 v301), (136, .ptr 0 0), (137, iK .u8 v287.glo), (138, bA false), (139, bA (false || false)), (140, bA (false || false)), (141, .ptr 0 1), (142, iK .u8 v287.ghi), (143, sA v206), (144, iK .u8 v302), (145, bA false), (146, bA ((false || false) || false)), (147, bA ((false || false) || false)), (148, sA v206), (149, iK .u8 v303), (150, bA false), (151, bA (((false || false) || false) || false)), (152, bA (((false || false) || false) || false)), (153, sA v206), (154, iK .u8 v304), (155, bA false), (156, bA ((((false || false) || false) || false) || false)), (157, bA ((((false || false) || false) || false) || false)), (158, sA v206), (159, iK .u8 v305), (160, bA true), (161, bA (((((false || false) || false) || false) || false) || true)), (162, bA (((((false || false) || false) || false) || false) || true)), (163, undefA), (164, undefA), (165, undefA), (166, bA ((((((false || false) || false) || false) || false) || true) || (decide (191 < v306))))] ?_
                            exact AD_here [0, 166] (by kernel_rfl) rfl
                          | false =>
                            refine RD 1 169 [(12, 0), (11, 0), (7, 0), (6, 0)] [(0, sA v206), (6, .ptr 0 0), (130, sA v206), (131, iA (szI v206)), (132, bA false), (133, bA false), (134, sA v206), (135, iK .u8 v301), (136, .ptr 0 0), (137, iK .u8 v287.glo), (138, bA false), (139, bA (false || false)), (140, bA (false || false)), (141, .ptr 0 1), (142, iK .u8 v287.ghi), (143, sA v206), (144, iK .u8 v302), (145, bA false), (146, bA ((false || false) || false)), (147, bA ((false || false) || false)), (148, sA v206), (149, iK .u8 v303), (150, bA false), (151, bA (((false || false) || false) || false)), (152, bA (((false || false) || false) || false)), (153, sA v206), (154, iK .u8 v304), (155, bA false), (156, bA ((((false || false) || false) || false) || false)), (157, bA ((((false || false) || false) || false) || false)), (158, sA v206), (159, iK .u8 v305), (160, bA false), (161, bA (((((false || false) || false) || false) || false) || false)), (162, bA (((((false || false) || false) || false) || false) || false)), (163, sA v206)] ?_
                            have hv306_ := cond_t hv306 (by simp only [c1, c2, c3, c4, c5, c6] <;> rfl)
                            refine AD_sindex (d := (some 164)) (by kernel_rfl) hv306_ ?_
                            refine RD 2 169 [(12, 0), (11, 0), (7, 0), (6, 0)] [(0, sA v206), (6, .ptr 0 0), (130, sA v206), (131, iA (szI v206)), (132, bA false), (133, bA false), (134, sA v206), (135, iK .u8 v301), (136, .ptr 0 0), (137, iK .u8 v287.glo), (138, bA false), (139, bA (false || false)), (140, bA (false || false)), (141, .ptr 0 1), (142, iK .u8 v287.ghi), (143, sA v206), (144, iK .u8 v302), (145, bA false), (146, bA ((false || false) || false)), (147, bA ((false || false) || false)), (148, sA v206), (149, iK .u8 v303), (150, bA false), (151, bA (((false || false) || false) || false)), (152, bA (((false || false) || false) || false)), (153, sA v206), (154, iK .u8 v304), (155, bA false), (156, bA ((((false || false) || false) || false) || false)), (157, bA ((((false || false) || false) || false) || false)), (158, sA v206), (159, iK .u8 v305), (160, bA false), (161, bA (((((false || false) || false) || false) || false) || false)), (162, bA (((((false || false) || false) || false) || false) || false)), (163, sA v206), (164, iK .u8 v306), (165, bA (decide (191 < v306))), (166, bA ((((((false || false) || false) || false) || false) || false) || (decide (191 < v306))))] ?_
                            exact AD_here [0, 166] (by kernel_rfl) rfl
              refine CD H (fun hb307 H => ?_) (fun hb307 H => ?_)
              · refine AWP_reg (Rh 1 169 [(2, bA false)] (AOps_done ?_))
                exact AWP_ret (FR H)
              · refine AWP_skip ?_
                show AWP _ _ _ _ _ _ _
                refine AWP_region ?_
                refine Rh 1 169 [(167, sA v206)] ?_
                obtain ⟨v308, hv308, H⟩ := bind_some H
                refine AOps_scut (d := (some 168)) (by kernel_rfl) hv308 ?_
                refine Rh 1 169 [(0, sA v308)] (AOps_done ?_)
                exact Exists.intro v308 (Exists.intro n ⟨by omega, ⟨by omega, H⟩, Norm_fd [0] 1 (by kernel_rfl) rfl rfl trivial (by refine scL_fr ?_; exact ⟨trivial, trivial⟩)⟩)
            · refine AWP_reg (Rh 1 169 [(2, bA false)] (AOps_done ?_))
              exact AWP_ret (FR H)
    · refine AWP_exit ?_
      show AWP _ _ _ _ _ _ _
      refine AWP_reg (Rh 1 169 [(2, bA true)] (AOps_done ?_))
      exact AWP_ret (FR H)
end Go.Proofs.YtjhbobacbaikoaaGreatDoor
/- Texts: the program's and the reference's answers, whether a string is a text and whether it is a key, are alike. -/
namespace Go.Proofs.YtjhbobacbaikoaaGreatDoor
open Go
set_option linter.unusedVariables false
set_option linter.unusedSimpArgs false
/-! utf8.ValidString comes to an end -/
def Tot {β : Type} (F : Nat → Option β) : Prop := ∃ v, Al fun n => F n = some v
section
variable {β γ : Type}
theorem Tot.some (v : β) : Tot fun _ => some v := ⟨v, .of fun _ => rfl⟩
theorem Tot.cond {c : Bool} {F G : Nat → Option β} (h : c = true → Tot F) (k : c = false → Tot G) : Tot fun n => bif c then F n else G n := by
  cases c with
  | true => exact h rfl
  | false => exact k rfl
theorem Tot.bind {F : Nat → Option β} {G : Nat → β → Option γ} (h : Tot F) (k : ∀ v, Tot fun n => G n v) : Tot fun n => (F n).bind (G n) := by
  obtain ⟨v, h⟩ := h
  obtain ⟨u, k⟩ := k v
  exact ⟨u, (h.and k).mono fun n ⟨a, b⟩ => by show (F n).bind (G n) = _; rw [a]; exact b⟩
theorem Tot.succ {F : Nat → Option β} (h : Tot fun n => F (n + 1)) : Tot F := by obtain ⟨v, h⟩ := h; exact ⟨v, h.succ⟩
theorem btA_lt (s : ByteArray) (j : Int) : 0 ≤ btA s j ∧ btA s j < 256 := by
  unfold btA
  split
  · have := (s[j.toNat]'(by assumption)).toNat_lt; omega
  · omega
theorem rdS_some {s : ByteArray} {j : Int} (h : 0 ≤ j ∧ j < szI s) : rdS s j = .some (btA s j) := by
  unfold szI at h
  simp [rdS, h]
theorem Tot.rdS {s : ByteArray} {j : Int} {G : Nat → Int → Option γ} (h : 0 ≤ j ∧ j < szI s) (k : ∀ v, 0 ≤ v ∧ v < 256 → Tot fun n => G n v) : Tot fun n => (rdS s j).bind (G n) := by
  obtain ⟨u, k⟩ := k (btA s j) (btA_lt s j)
  exact ⟨u, k.mono fun n b => by show Option.bind _ _ = _; rw [rdS_some h]; exact b⟩
theorem Tot.rdSc {c : Bool} {s : ByteArray} {j : Int} {G : Nat → Int → Option γ} (h : c = true → 0 ≤ j ∧ j < szI s) (k : ∀ v, 0 ≤ v ∧ v < 256 → Tot fun n => G n v) : Tot fun n => (bif c then Proofs.YtjhbobacbaikoaaGreatDoor.rdS s j else .some 0).bind (G n) := by
  cases c with
  | true => exact Tot.rdS (h rfl) k
  | false => exact k 0 (by omega)
theorem cutS_some {s : ByteArray} {a : Int} (h : 0 ≤ a ∧ a ≤ szI s) : cutS s a (szI s) = .some (s.extract a.toNat s.size) := by
  unfold szI at h ⊢
  simp [cutS, h]
theorem Tot.cut {s : ByteArray} {a : Int} {G : Nat → ByteArray → Option γ} (h : 0 ≤ a ∧ a ≤ szI s) (k : ∀ r, szI r = szI s - a → Tot fun n => G n r) : Tot fun n => (cutS s a (szI s)).bind (G n) := by
  obtain ⟨u, k⟩ := k (s.extract a.toNat s.size) (by unfold szI at h ⊢; rw [ByteArray.size_extract]; omega)
  exact ⟨u, k.mono fun n b => by show Option.bind _ _ = _; rw [cutS_some h]; exact b⟩
theorem Tot.cutc {c : Bool} {s : ByteArray} {a : Int} {G : Nat → ByteArray → Option γ} (h : c = true → 0 ≤ a ∧ a ≤ szI s) (k : ∀ r, (c = true → szI r = szI s - a) → Tot fun n => G n r) : Tot fun n => (bif c then cutS s a (szI s) else .some ByteArray.empty).bind (G n) := by
  cases c with
  | true => exact Tot.cut (h rfl) fun r e => k r fun _ => e
  | false => exact k _ (fun e => by cases e)
theorem word_some {s : ByteArray} (h : 8 ≤ szI s) : Tot fun n => p_unicode_utf8_word_string n s := by
  unfold p_unicode_utf8_word_string
  repeat (refine Tot.rdS (by omega) fun _ _ => ?_)
  exact Tot.some _
theorem Tot.wordc {c : Bool} {s : ByteArray} {G : Nat → Int → Option γ} (h : c = true → 8 ≤ szI s) (k : ∀ v, Tot fun n => G n v) : Tot fun n => (bif c then p_unicode_utf8_word_string n s else .some 0).bind (G n) := by
  cases c with
  | true => exact Tot.bind (word_some (h rfl)) k
  | false => exact k 0
theorem Tot.first {j : Int} {G : Nat → Int → Option γ} (h : 0 ≤ j ∧ j < 256) (k : ∀ v, 0 ≤ v ∧ v < 256 → Tot fun n => G n v) : Tot fun n => (rdO gl_first j).bind (G n) := by
  have key : ∀ i : _root_.Fin 256, ∃ v, gl_first[i.val]? = .some v ∧ 0 ≤ v ∧ v < 256 := by decide +kernel
  obtain ⟨v, h1, h2⟩ := key ⟨j.toNat, by omega⟩
  obtain ⟨u, k⟩ := k v h2
  exact ⟨u, k.mono fun n b => by show Option.bind _ _ = _; rw [rdO, decide_eq_true h.1, h1]; exact b⟩
theorem Tot.range {j : Int} {G : Nat → TacceptRange → Option γ} (h : 0 ≤ j ∧ j < 256) (k : ∀ v, Tot fun n => G n v) : Tot fun n => (rdO gl_acceptRanges (shrI .u8 j 4)).bind (G n) := by
  have hl : gl_acceptRanges.length = 16 := by decide +kernel
  have hj : shrI .u8 j 4 = j / 16 := by
    unfold shrI
    show j.fdiv (2 ^ min (4 : Int).toNat 8) = j / 16
    rw [Int.fdiv_eq_ediv_of_nonneg _ (by decide)]; rfl
  have hx : (j / 16).toNat < gl_acceptRanges.length := by rw [hl]; omega
  obtain ⟨u, k⟩ := k (gl_acceptRanges[(j / 16).toNat])
  exact ⟨u, k.mono fun n b => by show Option.bind _ _ = _; rw [hj, rdO, decide_eq_true (by omega), List.getElem?_eq_getElem hx]; exact b⟩
end
theorem valid_tot : ∀ (k : Nat) (s : ByteArray), s.size ≤ k → (Tot fun n => p_unicode_utf8_ValidString_L1 n s) ∧ (Tot fun n => p_unicode_utf8_ValidString_K1 n s) ∧ (Tot fun n => p_unicode_utf8_ValidString_L2 n s) := by
  intro k
  induction k using Nat.strongRecOn with
  | _ k ih =>
    intro s hs
    have sm : ∀ r : ByteArray, szI r < szI s → (Tot fun n => p_unicode_utf8_ValidString_L1 n r) ∧ (Tot fun n => p_unicode_utf8_ValidString_K1 n r) ∧ (Tot fun n => p_unicode_utf8_ValidString_L2 n r) := fun r hr => by
      unfold szI at hr
      exact ih r.size (by omega) r (Nat.le_refl _)
    have h1 : Tot fun n => p_unicode_utf8_ValidString_L1 n s := by
      refine Tot.succ ?_
      simp only [p_unicode_utf8_ValidString_L1]
      refine Tot.cond (fun h0 => ?_) fun _ => Tot.some _
      have h0 := of_decide_eq_true h0
      refine Tot.rdS (by omega) fun b hb => ?_
      refine Tot.cond (fun h => ?_) fun h => ?_
      · refine Tot.cut (by omega) fun r hr => ?_
        refine Tot.wordc (fun e => by have := of_decide_eq_true e; omega) fun v => ?_
        refine Tot.cond (fun h => ?_) fun _ => (sm r (by omega)).2.1
        simp only [Bool.and_eq_true, decide_eq_true_eq] at h
        refine Tot.cut (by omega) fun r2 hr2 => ?_
        refine Tot.cutc (fun e => by have := of_decide_eq_true e; omega) fun r3 hr3 => ?_
        refine Tot.wordc (fun e => by have := of_decide_eq_true e; omega) fun v => ?_
        refine Tot.wordc (fun e => by have := of_decide_eq_true e; have := hr3 e; omega) fun v => ?_
        refine Tot.cond (fun h => ?_) fun _ => (sm r2 (by omega)).2.1
        simp only [Bool.and_eq_true, decide_eq_true_eq] at h
        exact Tot.cut (by omega) fun r4 hr4 => (sm r4 (by omega)).2.2
      · refine Tot.first hb fun x hx => ?_
        refine Tot.range hx fun a => ?_
        refine Tot.cond (fun _ => ?_) fun _ => Tot.cond (fun _ => ?_) fun _ => Tot.cond (fun _ => ?_) fun _ => Tot.some _
        all_goals
          repeat (refine Tot.rdSc (fun e => by simp only [Bool.not_eq_true', Bool.or_eq_false_iff, decide_eq_false_iff_not] at e; omega) fun _ _ => ?_)
          refine Tot.cond (fun _ => Tot.some _) fun h => ?_
          simp only [Bool.or_eq_false_iff, decide_eq_false_iff_not] at h
          exact Tot.cut (by omega) fun r hr => (sm r (by omega)).1
    have h2 : Tot fun n => p_unicode_utf8_ValidString_K1 n s := Tot.succ (by simp only [p_unicode_utf8_ValidString_K1]; exact h1)
    refine ⟨h1, h2, Tot.succ ?_⟩
    simp only [p_unicode_utf8_ValidString_L2]
    refine Tot.cutc (fun e => by have := of_decide_eq_true e; omega) fun r1 hr1 => ?_
    refine Tot.cutc (fun e => by have := of_decide_eq_true e; omega) fun r2 hr2 => ?_
    refine Tot.cutc (fun e => by have := of_decide_eq_true e; omega) fun r3 hr3 => ?_
    refine Tot.wordc (fun e => by have := of_decide_eq_true e; omega) fun v => ?_
    refine Tot.wordc (fun e => by have := of_decide_eq_true e; have := hr1 e; omega) fun v => ?_
    refine Tot.wordc (fun e => by have := of_decide_eq_true e; have := hr2 e; omega) fun v => ?_
    refine Tot.wordc (fun e => by have := of_decide_eq_true e; have := hr3 e; omega) fun v => ?_
    refine Tot.cond (fun h => ?_) fun _ => h2
    simp only [Bool.and_eq_true, decide_eq_true_eq] at h
    exact Tot.cut (by omega) fun r4 hr4 => (sm r4 (by omega)).2.2
theorem ValidString_tot (s : ByteArray) : ∃ b, Al fun n => p_unicode_utf8_ValidString n s = some b := (valid_tot _ s (Nat.le_refl _)).1
end Go.Proofs.YtjhbobacbaikoaaGreatDoor
/- A function of the program as a pure function, and that the program computes it. -/
namespace Go.Proofs.YtjhbobacbaikoaaGreatDoor
open Go
set_option linter.unusedVariables false
set_option linter.unusedSimpArgs false
set_option maxRecDepth 100000
def p_ref1_Reserved (n : Nat)  : Option (List ByteArray) :=
 some ([(⟨#[97, 110, 100]⟩ : ByteArray), (⟨#[97, 114, 109, 115]⟩ : ByteArray), (⟨#[97, 116, 116, 114, 105, 98, 117, 116, 101]⟩ : ByteArray), (⟨#[98, 111, 111, 108]⟩ : ByteArray), (⟨#[99, 108, 97, 105, 109, 115]⟩ : ByteArray), (⟨#[99, 111, 110, 116, 97, 105, 110, 115]⟩ : ByteArray), (⟨#[99, 111, 111, 108]⟩ : ByteArray), (⟨#[99, 111, 111, 108, 105, 110, 103]⟩ : ByteArray), (⟨#[100, 101, 102, 97, 117, 108, 116]⟩ : ByteArray), (⟨#[100, 114, 97, 102, 116]⟩ : ByteArray), (⟨#[101, 110, 100, 115]⟩ : ByteArray), (⟨#[101, 120, 99, 108, 117, 100, 101]⟩ : ByteArray), (⟨#[101, 120, 105, 115, 116, 115]⟩ : ByteArray), (⟨#[101, 120, 112, 101, 114, 105, 109, 101, 110, 116]⟩ : ByteArray), (⟨#[102, 97, 108, 115, 101]⟩ : ByteArray), (⟨#[102, 108, 97, 103]⟩ : ByteArray), (⟨#[104, 111, 108, 100, 111, 117, 116]⟩ : ByteArray), (⟨#[105, 110]⟩ : ByteArray), (⟨#[105, 110, 99, 108, 117, 100, 101]⟩ : ByteArray), (⟨#[105, 115]⟩ : ByteArray), (⟨#[108, 97, 121, 101, 114]⟩ : ByteArray), (⟨#[108, 105, 115, 116]⟩ : ByteArray), (⟨#[109, 101, 109, 98, 101, 114]⟩ : ByteArray), (⟨#[110, 101, 101, 100, 115]⟩ : ByteArray), (⟨#[110, 111, 116]⟩ : ByteArray), (⟨#[110, 117, 109, 98, 101, 114]⟩ : ByteArray), (⟨#[111, 102, 102]⟩ : ByteArray), (⟨#[111, 110]⟩ : ByteArray), (⟨#[111, 114]⟩ : ByteArray), (⟨#[114, 117, 108, 101]⟩ : ByteArray), (⟨#[114, 117, 110, 110, 105, 110, 103]⟩ : ByteArray), (⟨#[115, 97, 108, 116]⟩ : ByteArray), (⟨#[115, 101, 103, 109, 101, 110, 116]⟩ : ByteArray), (⟨#[115, 101, 114, 118, 101]⟩ : ByteArray), (⟨#[115, 101, 116, 116, 105, 110, 103, 115]⟩ : ByteArray), (⟨#[115, 112, 108, 105, 116]⟩ : ByteArray), (⟨#[115, 116, 97, 114, 116, 115]⟩ : ByteArray), (⟨#[115, 116, 111, 112, 112, 101, 100]⟩ : ByteArray), (⟨#[116, 97, 114, 103, 101, 116]⟩ : ByteArray), (⟨#[116, 101, 120, 116]⟩ : ByteArray), (⟨#[116, 111]⟩ : ByteArray), (⟨#[116, 114, 117, 101]⟩ : ByteArray), (⟨#[117, 110, 116, 105, 108]⟩ : ByteArray), (⟨#[118, 97, 114, 105, 97, 116, 105, 111, 110, 115]⟩ : ByteArray), (⟨#[118, 101, 114, 115, 105, 111, 110]⟩ : ByteArray), (⟨#[119, 104, 101, 110]⟩ : ByteArray)])
variable {E : Env}
theorem s_ref1_Reserved {n : Nat}  {r : (List ByteArray)} (H : p_ref1_Reserved n  = some r) :
    Sp Tryz.prog E 112 [] [] (isA (.ro .unk r.length (cl_str r)) []) := by
  unfold p_ref1_Reserved at H
  refine Sp_fn Tryz.func112 rfl (fun hc hs => ?_)
  refine AWP_reg (Rh 1 2 [] (AOps_done (AWP_reg (AOps_bsl (d := (some 1)) (m := 46) (cs := [sA (⟨#[97, 110, 100]⟩ : ByteArray), sA (⟨#[97, 114, 109, 115]⟩ : ByteArray), sA (⟨#[97, 116, 116, 114, 105, 98, 117, 116, 101]⟩ : ByteArray), sA (⟨#[98, 111, 111, 108]⟩ : ByteArray), sA (⟨#[99, 108, 97, 105, 109, 115]⟩ : ByteArray), sA (⟨#[99, 111, 110, 116, 97, 105, 110, 115]⟩ : ByteArray), sA (⟨#[99, 111, 111, 108]⟩ : ByteArray), sA (⟨#[99, 111, 111, 108, 105, 110, 103]⟩ : ByteArray), sA (⟨#[100, 101, 102, 97, 117, 108, 116]⟩ : ByteArray), sA (⟨#[100, 114, 97, 102, 116]⟩ : ByteArray), sA (⟨#[101, 110, 100, 115]⟩ : ByteArray), sA (⟨#[101, 120, 99, 108, 117, 100, 101]⟩ : ByteArray), sA (⟨#[101, 120, 105, 115, 116, 115]⟩ : ByteArray), sA (⟨#[101, 120, 112, 101, 114, 105, 109, 101, 110, 116]⟩ : ByteArray), sA (⟨#[102, 97, 108, 115, 101]⟩ : ByteArray), sA (⟨#[102, 108, 97, 103]⟩ : ByteArray), sA (⟨#[104, 111, 108, 100, 111, 117, 116]⟩ : ByteArray), sA (⟨#[105, 110]⟩ : ByteArray), sA (⟨#[105, 110, 99, 108, 117, 100, 101]⟩ : ByteArray), sA (⟨#[105, 115]⟩ : ByteArray), sA (⟨#[108, 97, 121, 101, 114]⟩ : ByteArray), sA (⟨#[108, 105, 115, 116]⟩ : ByteArray), sA (⟨#[109, 101, 109, 98, 101, 114]⟩ : ByteArray), sA (⟨#[110, 101, 101, 100, 115]⟩ : ByteArray), sA (⟨#[110, 111, 116]⟩ : ByteArray), sA (⟨#[110, 117, 109, 98, 101, 114]⟩ : ByteArray), sA (⟨#[111, 102, 102]⟩ : ByteArray), sA (⟨#[111, 110]⟩ : ByteArray), sA (⟨#[111, 114]⟩ : ByteArray), sA (⟨#[114, 117, 108, 101]⟩ : ByteArray), sA (⟨#[114, 117, 110, 110, 105, 110, 103]⟩ : ByteArray), sA (⟨#[115, 97, 108, 116]⟩ : ByteArray), sA (⟨#[115, 101, 103, 109, 101, 110, 116]⟩ : ByteArray), sA (⟨#[115, 101, 114, 118, 101]⟩ : ByteArray), sA (⟨#[115, 101, 116, 116, 105, 110, 103, 115]⟩ : ByteArray), sA (⟨#[115, 112, 108, 105, 116]⟩ : ByteArray), sA (⟨#[115, 116, 97, 114, 116, 115]⟩ : ByteArray), sA (⟨#[115, 116, 111, 112, 112, 101, 100]⟩ : ByteArray), sA (⟨#[116, 97, 114, 103, 101, 116]⟩ : ByteArray), sA (⟨#[116, 101, 120, 116]⟩ : ByteArray), sA (⟨#[116, 111]⟩ : ByteArray), sA (⟨#[116, 114, 117, 101]⟩ : ByteArray), sA (⟨#[117, 110, 116, 105, 108]⟩ : ByteArray), sA (⟨#[118, 97, 114, 105, 97, 116, 105, 111, 110, 115]⟩ : ByteArray), sA (⟨#[118, 101, 114, 115, 105, 111, 110]⟩ : ByteArray), sA (⟨#[119, 104, 101, 110]⟩ : ByteArray)]) (by kernel_rfl) ⟨trivial, trivial, trivial, trivial, trivial, trivial, trivial, trivial, trivial, trivial, trivial, trivial, trivial, trivial, trivial, trivial, trivial, trivial, trivial, trivial, trivial, trivial, trivial, trivial, trivial, trivial, trivial, trivial, trivial, trivial, trivial, trivial, trivial, trivial, trivial, trivial, trivial, trivial, trivial, trivial, trivial, trivial, trivial, trivial, trivial, trivial, trivial⟩ ?_))))
  refine Rh 1 2 [(0, .ro .unk ([(⟨#[97, 110, 100]⟩ : ByteArray), (⟨#[97, 114, 109, 115]⟩ : ByteArray), (⟨#[97, 116, 116, 114, 105, 98, 117, 116, 101]⟩ : ByteArray), (⟨#[98, 111, 111, 108]⟩ : ByteArray), (⟨#[99, 108, 97, 105, 109, 115]⟩ : ByteArray), (⟨#[99, 111, 110, 116, 97, 105, 110, 115]⟩ : ByteArray), (⟨#[99, 111, 111, 108]⟩ : ByteArray), (⟨#[99, 111, 111, 108, 105, 110, 103]⟩ : ByteArray), (⟨#[100, 101, 102, 97, 117, 108, 116]⟩ : ByteArray), (⟨#[100, 114, 97, 102, 116]⟩ : ByteArray), (⟨#[101, 110, 100, 115]⟩ : ByteArray), (⟨#[101, 120, 99, 108, 117, 100, 101]⟩ : ByteArray), (⟨#[101, 120, 105, 115, 116, 115]⟩ : ByteArray), (⟨#[101, 120, 112, 101, 114, 105, 109, 101, 110, 116]⟩ : ByteArray), (⟨#[102, 97, 108, 115, 101]⟩ : ByteArray), (⟨#[102, 108, 97, 103]⟩ : ByteArray), (⟨#[104, 111, 108, 100, 111, 117, 116]⟩ : ByteArray), (⟨#[105, 110]⟩ : ByteArray), (⟨#[105, 110, 99, 108, 117, 100, 101]⟩ : ByteArray), (⟨#[105, 115]⟩ : ByteArray), (⟨#[108, 97, 121, 101, 114]⟩ : ByteArray), (⟨#[108, 105, 115, 116]⟩ : ByteArray), (⟨#[109, 101, 109, 98, 101, 114]⟩ : ByteArray), (⟨#[110, 101, 101, 100, 115]⟩ : ByteArray), (⟨#[110, 111, 116]⟩ : ByteArray), (⟨#[110, 117, 109, 98, 101, 114]⟩ : ByteArray), (⟨#[111, 102, 102]⟩ : ByteArray), (⟨#[111, 110]⟩ : ByteArray), (⟨#[111, 114]⟩ : ByteArray), (⟨#[114, 117, 108, 101]⟩ : ByteArray), (⟨#[114, 117, 110, 110, 105, 110, 103]⟩ : ByteArray), (⟨#[115, 97, 108, 116]⟩ : ByteArray), (⟨#[115, 101, 103, 109, 101, 110, 116]⟩ : ByteArray), (⟨#[115, 101, 114, 118, 101]⟩ : ByteArray), (⟨#[115, 101, 116, 116, 105, 110, 103, 115]⟩ : ByteArray), (⟨#[115, 112, 108, 105, 116]⟩ : ByteArray), (⟨#[115, 116, 97, 114, 116, 115]⟩ : ByteArray), (⟨#[115, 116, 111, 112, 112, 101, 100]⟩ : ByteArray), (⟨#[116, 97, 114, 103, 101, 116]⟩ : ByteArray), (⟨#[116, 101, 120, 116]⟩ : ByteArray), (⟨#[116, 111]⟩ : ByteArray), (⟨#[116, 114, 117, 101]⟩ : ByteArray), (⟨#[117, 110, 116, 105, 108]⟩ : ByteArray), (⟨#[118, 97, 114, 105, 97, 116, 105, 111, 110, 115]⟩ : ByteArray), (⟨#[118, 101, 114, 115, 105, 111, 110]⟩ : ByteArray), (⟨#[119, 104, 101, 110]⟩ : ByteArray)]).length (cl_str ([(⟨#[97, 110, 100]⟩ : ByteArray), (⟨#[97, 114, 109, 115]⟩ : ByteArray), (⟨#[97, 116, 116, 114, 105, 98, 117, 116, 101]⟩ : ByteArray), (⟨#[98, 111, 111, 108]⟩ : ByteArray), (⟨#[99, 108, 97, 105, 109, 115]⟩ : ByteArray), (⟨#[99, 111, 110, 116, 97, 105, 110, 115]⟩ : ByteArray), (⟨#[99, 111, 111, 108]⟩ : ByteArray), (⟨#[99, 111, 111, 108, 105, 110, 103]⟩ : ByteArray), (⟨#[100, 101, 102, 97, 117, 108, 116]⟩ : ByteArray), (⟨#[100, 114, 97, 102, 116]⟩ : ByteArray), (⟨#[101, 110, 100, 115]⟩ : ByteArray), (⟨#[101, 120, 99, 108, 117, 100, 101]⟩ : ByteArray), (⟨#[101, 120, 105, 115, 116, 115]⟩ : ByteArray), (⟨#[101, 120, 112, 101, 114, 105, 109, 101, 110, 116]⟩ : ByteArray), (⟨#[102, 97, 108, 115, 101]⟩ : ByteArray), (⟨#[102, 108, 97, 103]⟩ : ByteArray), (⟨#[104, 111, 108, 100, 111, 117, 116]⟩ : ByteArray), (⟨#[105, 110]⟩ : ByteArray), (⟨#[105, 110, 99, 108, 117, 100, 101]⟩ : ByteArray), (⟨#[105, 115]⟩ : ByteArray), (⟨#[108, 97, 121, 101, 114]⟩ : ByteArray), (⟨#[108, 105, 115, 116]⟩ : ByteArray), (⟨#[109, 101, 109, 98, 101, 114]⟩ : ByteArray), (⟨#[110, 101, 101, 100, 115]⟩ : ByteArray), (⟨#[110, 111, 116]⟩ : ByteArray), (⟨#[110, 117, 109, 98, 101, 114]⟩ : ByteArray), (⟨#[111, 102, 102]⟩ : ByteArray), (⟨#[111, 110]⟩ : ByteArray), (⟨#[111, 114]⟩ : ByteArray), (⟨#[114, 117, 108, 101]⟩ : ByteArray), (⟨#[114, 117, 110, 110, 105, 110, 103]⟩ : ByteArray), (⟨#[115, 97, 108, 116]⟩ : ByteArray), (⟨#[115, 101, 103, 109, 101, 110, 116]⟩ : ByteArray), (⟨#[115, 101, 114, 118, 101]⟩ : ByteArray), (⟨#[115, 101, 116, 116, 105, 110, 103, 115]⟩ : ByteArray), (⟨#[115, 112, 108, 105, 116]⟩ : ByteArray), (⟨#[115, 116, 97, 114, 116, 115]⟩ : ByteArray), (⟨#[115, 116, 111, 112, 112, 101, 100]⟩ : ByteArray), (⟨#[116, 97, 114, 103, 101, 116]⟩ : ByteArray), (⟨#[116, 101, 120, 116]⟩ : ByteArray), (⟨#[116, 111]⟩ : ByteArray), (⟨#[116, 114, 117, 101]⟩ : ByteArray), (⟨#[117, 110, 116, 105, 108]⟩ : ByteArray), (⟨#[118, 97, 114, 105, 97, 116, 105, 111, 110, 115]⟩ : ByteArray), (⟨#[118, 101, 114, 115, 105, 111, 110]⟩ : ByteArray), (⟨#[119, 104, 101, 110]⟩ : ByteArray)])))] (AOps_done (AWP_ret ?_))
  have hr := Option.some.inj H
  subst hr
  exact Fin_retn 0 (l := [.ro .unk ([(⟨#[97, 110, 100]⟩ : ByteArray), (⟨#[97, 114, 109, 115]⟩ : ByteArray), (⟨#[97, 116, 116, 114, 105, 98, 117, 116, 101]⟩ : ByteArray), (⟨#[98, 111, 111, 108]⟩ : ByteArray), (⟨#[99, 108, 97, 105, 109, 115]⟩ : ByteArray), (⟨#[99, 111, 110, 116, 97, 105, 110, 115]⟩ : ByteArray), (⟨#[99, 111, 111, 108]⟩ : ByteArray), (⟨#[99, 111, 111, 108, 105, 110, 103]⟩ : ByteArray), (⟨#[100, 101, 102, 97, 117, 108, 116]⟩ : ByteArray), (⟨#[100, 114, 97, 102, 116]⟩ : ByteArray), (⟨#[101, 110, 100, 115]⟩ : ByteArray), (⟨#[101, 120, 99, 108, 117, 100, 101]⟩ : ByteArray), (⟨#[101, 120, 105, 115, 116, 115]⟩ : ByteArray), (⟨#[101, 120, 112, 101, 114, 105, 109, 101, 110, 116]⟩ : ByteArray), (⟨#[102, 97, 108, 115, 101]⟩ : ByteArray), (⟨#[102, 108, 97, 103]⟩ : ByteArray), (⟨#[104, 111, 108, 100, 111, 117, 116]⟩ : ByteArray), (⟨#[105, 110]⟩ : ByteArray), (⟨#[105, 110, 99, 108, 117, 100, 101]⟩ : ByteArray), (⟨#[105, 115]⟩ : ByteArray), (⟨#[108, 97, 121, 101, 114]⟩ : ByteArray), (⟨#[108, 105, 115, 116]⟩ : ByteArray), (⟨#[109, 101, 109, 98, 101, 114]⟩ : ByteArray), (⟨#[110, 101, 101, 100, 115]⟩ : ByteArray), (⟨#[110, 111, 116]⟩ : ByteArray), (⟨#[110, 117, 109, 98, 101, 114]⟩ : ByteArray), (⟨#[111, 102, 102]⟩ : ByteArray), (⟨#[111, 110]⟩ : ByteArray), (⟨#[111, 114]⟩ : ByteArray), (⟨#[114, 117, 108, 101]⟩ : ByteArray), (⟨#[114, 117, 110, 110, 105, 110, 103]⟩ : ByteArray), (⟨#[115, 97, 108, 116]⟩ : ByteArray), (⟨#[115, 101, 103, 109, 101, 110, 116]⟩ : ByteArray), (⟨#[115, 101, 114, 118, 101]⟩ : ByteArray), (⟨#[115, 101, 116, 116, 105, 110, 103, 115]⟩ : ByteArray), (⟨#[115, 112, 108, 105, 116]⟩ : ByteArray), (⟨#[115, 116, 97, 114, 116, 115]⟩ : ByteArray), (⟨#[115, 116, 111, 112, 112, 101, 100]⟩ : ByteArray), (⟨#[116, 97, 114, 103, 101, 116]⟩ : ByteArray), (⟨#[116, 101, 120, 116]⟩ : ByteArray), (⟨#[116, 111]⟩ : ByteArray), (⟨#[116, 114, 117, 101]⟩ : ByteArray), (⟨#[117, 110, 116, 105, 108]⟩ : ByteArray), (⟨#[118, 97, 114, 105, 97, 116, 105, 111, 110, 115]⟩ : ByteArray), (⟨#[118, 101, 114, 115, 105, 111, 110]⟩ : ByteArray), (⟨#[119, 104, 101, 110]⟩ : ByteArray)]).length (cl_str ([(⟨#[97, 110, 100]⟩ : ByteArray), (⟨#[97, 114, 109, 115]⟩ : ByteArray), (⟨#[97, 116, 116, 114, 105, 98, 117, 116, 101]⟩ : ByteArray), (⟨#[98, 111, 111, 108]⟩ : ByteArray), (⟨#[99, 108, 97, 105, 109, 115]⟩ : ByteArray), (⟨#[99, 111, 110, 116, 97, 105, 110, 115]⟩ : ByteArray), (⟨#[99, 111, 111, 108]⟩ : ByteArray), (⟨#[99, 111, 111, 108, 105, 110, 103]⟩ : ByteArray), (⟨#[100, 101, 102, 97, 117, 108, 116]⟩ : ByteArray), (⟨#[100, 114, 97, 102, 116]⟩ : ByteArray), (⟨#[101, 110, 100, 115]⟩ : ByteArray), (⟨#[101, 120, 99, 108, 117, 100, 101]⟩ : ByteArray), (⟨#[101, 120, 105, 115, 116, 115]⟩ : ByteArray), (⟨#[101, 120, 112, 101, 114, 105, 109, 101, 110, 116]⟩ : ByteArray), (⟨#[102, 97, 108, 115, 101]⟩ : ByteArray), (⟨#[102, 108, 97, 103]⟩ : ByteArray), (⟨#[104, 111, 108, 100, 111, 117, 116]⟩ : ByteArray), (⟨#[105, 110]⟩ : ByteArray), (⟨#[105, 110, 99, 108, 117, 100, 101]⟩ : ByteArray), (⟨#[105, 115]⟩ : ByteArray), (⟨#[108, 97, 121, 101, 114]⟩ : ByteArray), (⟨#[108, 105, 115, 116]⟩ : ByteArray), (⟨#[109, 101, 109, 98, 101, 114]⟩ : ByteArray), (⟨#[110, 101, 101, 100, 115]⟩ : ByteArray), (⟨#[110, 111, 116]⟩ : ByteArray), (⟨#[110, 117, 109, 98, 101, 114]⟩ : ByteArray), (⟨#[111, 102, 102]⟩ : ByteArray), (⟨#[111, 110]⟩ : ByteArray), (⟨#[111, 114]⟩ : ByteArray), (⟨#[114, 117, 108, 101]⟩ : ByteArray), (⟨#[114, 117, 110, 110, 105, 110, 103]⟩ : ByteArray), (⟨#[115, 97, 108, 116]⟩ : ByteArray), (⟨#[115, 101, 103, 109, 101, 110, 116]⟩ : ByteArray), (⟨#[115, 101, 114, 118, 101]⟩ : ByteArray), (⟨#[115, 101, 116, 116, 105, 110, 103, 115]⟩ : ByteArray), (⟨#[115, 112, 108, 105, 116]⟩ : ByteArray), (⟨#[115, 116, 97, 114, 116, 115]⟩ : ByteArray), (⟨#[115, 116, 111, 112, 112, 101, 100]⟩ : ByteArray), (⟨#[116, 97, 114, 103, 101, 116]⟩ : ByteArray), (⟨#[116, 101, 120, 116]⟩ : ByteArray), (⟨#[116, 111]⟩ : ByteArray), (⟨#[116, 114, 117, 101]⟩ : ByteArray), (⟨#[117, 110, 116, 105, 108]⟩ : ByteArray), (⟨#[118, 97, 114, 105, 97, 116, 105, 111, 110, 115]⟩ : ByteArray), (⟨#[118, 101, 114, 115, 105, 111, 110]⟩ : ByteArray), (⟨#[119, 104, 101, 110]⟩ : ByteArray)]))]) (h' := []) (by kernel_rfl) rfl (Nat.le_of_ble_eq_true rfl) ((by refine Closed_of ?_; exact trivial)) (Frz_sc (scl_cl_str _ _)) ⟨rfl, rfl⟩
end Go.Proofs.YtjhbobacbaikoaaGreatDoor
/- A function of the program as a pure function, and that the program computes it. -/
namespace Go.Proofs.YtjhbobacbaikoaaGreatDoor
open Go
set_option linter.unusedVariables false
set_option linter.unusedSimpArgs false
set_option maxRecDepth 100000
def p_ref1_Word_L1 (n : Nat) (x0 : ByteArray) (v8 : Int) : Option Bool := match n with
| 0 => none
| n + 1 =>
(bif decide (v8 < (szI x0)) then
(rdS x0 v8).bind fun v10 =>
(bif (!((decide (v10 ≥ 97)) && (decide (v10 ≤ 122)))) && ((v8 == 0) || (((!((decide (v10 ≥ 48)) && (decide (v10 ≤ 57)))) && (v10 != 45)) && (v10 != 95))) then
 some (false)
 else
 p_ref1_Word_L1 n x0 (w64 (v8 + 1)))
 else
 some (decide ((szI x0) > 0)))
def p_ref1_Word (n : Nat) (x0 : ByteArray) : Option Bool :=
 p_ref1_Word_L1 n x0 0
variable {E : Env}
theorem s_ref1_Word {n : Nat} {x0 : ByteArray} {r : Bool} (H : p_ref1_Word n x0 = some r) :
    Sp Tryz.prog E 111 [sA x0] [] (isA (bA r) []) := by
  unfold p_ref1_Word at H
  refine Sp_fn Tryz.func111 rfl (fun hc hs => ?_)
  refine AWP_reg (Rh 1 47 [(0, sA x0)] (AOps_done (AWP_seq (AWP_reg (Rh 1 47 [(0, sA x0), (3, iA 0)] (AOps_done (AWP_block ?_)))))))
  refine AWP_loopN (α := Int) (fun v8 => fr 47 [(0, sA x0), (3, iA v8)]) (fun v8 => []) (fun k_ v8 => k_ ≤ n ∧ p_ref1_Word_L1 k_ x0 v8 = some r) (fun n v8 H => ?_) (k := n) 0 ⟨Nat.le_refl _, H⟩ (Norm_fd [0, 3] 0 (by kernel_rfl) rfl rfl trivial (by refine scL_fr ?_; exact ⟨trivial, trivial, trivial⟩))
  show AWP _ _ _ _ _ (fr 47 [(0, sA x0), (3, iA v8)]) []
  obtain ⟨hb_, H⟩ := H
  replace H : p_ref1_Word_L1 n x0 v8 = some r := H
  cases n with
  | zero => exact not_none (by simpa only [p_ref1_Word_L1] using H)
  | succ n =>
    unfold p_ref1_Word_L1 at H
    refine AWP_seq (AWP_reg (Rh 4 47 [(0, sA x0), (3, iA v8), (9, bA (decide (v8 < (szI x0))))] (AOps_done (CD H (fun hb9 H => ?_) (fun hb9 H => ?_)))))
    · refine AWP_skip ?_
      show AWP _ _ _ _ _ _ _
      refine AWP_seq (AWP_block ?_)
      refine AWP_reg (Rh 2 47 [(0, sA x0), (3, iA v8), (12, sA x0), (13, iA v8)] ?_)
      obtain ⟨v10, hv10, H⟩ := bind_some H
      refine AOps_sindex (d := (some 14)) (by kernel_rfl) hv10 ?_
      refine Rh 1 47 [(0, sA x0), (3, iA v8), (4, iK .u8 v10)] (AOps_done (AWP_reg (Rh 3 47 [(0, sA x0), (3, iA v8), (4, iK .u8 v10), (17, bA (decide (v10 ≥ 97)))] (AOps_run 3 [0, 3, 4, 20] (st' := fr 47 [(0, sA x0), (3, iA v8), (4, iK .u8 v10), (20, bA ((decide (v10 ≥ 97)) && (decide (v10 ≤ 122))))]) (h' := []) (by (generalize (decide (v10 ≥ 97)) = t0; cases t0 <;> kernel_rfl)) ?_))))
      refine Rh 1 47 [(0, sA x0), (3, iA v8), (4, iK .u8 v10), (5, bA ((decide (v10 ≥ 97)) && (decide (v10 ≤ 122))))] (AOps_done (AWP_reg (Rh 3 47 [(0, sA x0), (3, iA v8), (4, iK .u8 v10), (23, bA (!((decide (v10 ≥ 97)) && (decide (v10 ≤ 122)))))] (AOps_cut 20 (st' := fr 47 [(0, sA x0), (3, iA v8), (43, bA ((!((decide (v10 ≥ 97)) && (decide (v10 ≤ 122)))) && ((v8 == 0) || (((!((decide (v10 ≥ 48)) && (decide (v10 ≤ 57)))) && (v10 != 45)) && (v10 != 95)))))]) (h' := []) ?_ ?_))))
      rotate_left
      · cases c1 : ((decide (v10 ≥ 97)) && (decide (v10 ≤ 122)) : Bool) with
        | true =>
          refine R 20 47 [(0, sA x0), (3, iA v8), (43, bA ((!true) && ((v8 == 0) || (((!((decide (v10 ≥ 48)) && (decide (v10 ≤ 57)))) && (v10 != 45)) && (v10 != 95)))))] [] ?_
          exact AOps_here [0, 3, 43] (by kernel_rfl) rfl
        | false =>
          refine R 3 47 [(0, sA x0), (3, iA v8), (4, iK .u8 v10), (23, bA (!false)), (26, bA (v8 == 0))] [] ?_
          cases c2 : (v8 == 0 : Bool) with
          | true =>
            refine R 17 47 [(0, sA x0), (3, iA v8), (43, bA ((!false) && (true || (((!((decide (v10 ≥ 48)) && (decide (v10 ≤ 57)))) && (v10 != 45)) && (v10 != 95)))))] [] ?_
            exact AOps_here [0, 3, 43] (by kernel_rfl) rfl
          | false =>
            refine R 3 47 [(0, sA x0), (3, iA v8), (4, iK .u8 v10), (23, bA (!false)), (26, bA false), (29, bA (decide (v10 ≥ 48)))] [] ?_
            cases c3 : (decide (v10 ≥ 48) : Bool) with
            | true =>
              refine R 5 47 [(0, sA x0), (3, iA v8), (4, iK .u8 v10), (23, bA (!false)), (26, bA false), (34, bA (!(true && (decide (v10 ≤ 57)))))] [] ?_
              cases c4 : (decide (v10 ≤ 57) : Bool) with
              | true =>
                refine R 9 47 [(0, sA x0), (3, iA v8), (43, bA ((!false) && (false || (((!(true && true)) && (v10 != 45)) && (v10 != 95)))))] [] ?_
                exact AOps_here [0, 3, 43] (by kernel_rfl) rfl
              | false =>
                refine R 4 47 [(0, sA x0), (3, iA v8), (4, iK .u8 v10), (23, bA (!false)), (26, bA false), (38, bA ((!(true && false)) && (v10 != 45)))] [] ?_
                cases c5 : (v10 != 45 : Bool) with
                | true =>
                  refine R 5 47 [(0, sA x0), (3, iA v8), (43, bA ((!false) && (false || (((!(true && false)) && true) && (v10 != 95)))))] [] ?_
                  exact AOps_here [0, 3, 43] (by kernel_rfl) rfl
                | false =>
                  refine R 5 47 [(0, sA x0), (3, iA v8), (43, bA ((!false) && (false || (((!(true && false)) && false) && (v10 != 95)))))] [] ?_
                  exact AOps_here [0, 3, 43] (by kernel_rfl) rfl
            | false =>
              refine R 9 47 [(0, sA x0), (3, iA v8), (4, iK .u8 v10), (23, bA (!false)), (26, bA false), (38, bA ((!(false && (decide (v10 ≤ 57)))) && (v10 != 45)))] [] ?_
              cases c4 : (v10 != 45 : Bool) with
              | true =>
                refine R 5 47 [(0, sA x0), (3, iA v8), (43, bA ((!false) && (false || (((!(false && (decide (v10 ≤ 57)))) && true) && (v10 != 95)))))] [] ?_
                exact AOps_here [0, 3, 43] (by kernel_rfl) rfl
              | false =>
                refine R 5 47 [(0, sA x0), (3, iA v8), (43, bA ((!false) && (false || (((!(false && (decide (v10 ≤ 57)))) && false) && (v10 != 95)))))] [] ?_
                exact AOps_here [0, 3, 43] (by kernel_rfl) rfl
      refine AOps_done (CD H (fun hb11 H => ?_) (fun hb11 H => ?_))
      · refine AWP_reg (Rh 1 47 [(2, bA false)] (AOps_done ?_))
        exact AWP_ret (FR H)
      · refine AWP_skip ?_
        show AWP _ _ _ _ _ _ _
        refine AWP_region ?_
        refine Rh 3 47 [(0, sA x0), (3, iA (w64 (v8 + 1)))] (AOps_done ?_)
        exact Exists.intro (w64 (v8 + 1)) (Exists.intro n ⟨by omega, ⟨by omega, H⟩, Norm_fd [0, 3] 0 (by kernel_rfl) rfl rfl trivial (by refine scL_fr ?_; exact ⟨trivial, trivial, trivial⟩)⟩)
    · refine AWP_exit ?_
      show AWP _ _ _ _ _ _ _
      refine AWP_reg (Rh 4 47 [(2, bA (decide ((szI x0) > 0)))] (AOps_done ?_))
      exact AWP_ret (FR H)
end Go.Proofs.YtjhbobacbaikoaaGreatDoor
/- A function of the program as a pure function, and that the program computes it. -/
namespace Go.Proofs.YtjhbobacbaikoaaGreatDoor
open Go
set_option linter.unusedVariables false
set_option linter.unusedSimpArgs false
set_option maxRecDepth 100000
def p_ref1_Key_L1 (n : Nat) (x0 : ByteArray) (v3 : (List ByteArray)) (v11 : Int) : Option Bool := match n with
| 0 => none
| n + 1 =>
(bif decide (v11 < (lI v3)) then
(rdO v3 v11).bind fun v13 =>
(bif seq' v13 x0 then
 some (false)
 else
 p_ref1_Key_L1 n x0 v3 (w64 (v11 + 1)))
 else
 some (true))
def p_ref1_Key (n : Nat) (x0 : ByteArray) : Option Bool :=
(p_ref1_Word n x0).bind fun v1 =>
(bif (!v1) || (decide ((szI x0) > 32)) then
 some (false)
 else
(p_ref1_Reserved n ).bind fun v3 =>
 p_ref1_Key_L1 n x0 v3 0)
variable {E : Env}
theorem s_ref1_Key {n : Nat} {x0 : ByteArray} {r : Bool} (H : p_ref1_Key n x0 = some r) :
    Sp Tryz.prog E 67 [sA x0] [] (isA (bA r) []) := by
  unfold p_ref1_Key at H
  refine Sp_fn Tryz.func67 rfl (fun hc hs => ?_)
  refine AWP_reg (Rh 1 26 [(0, sA x0)] (AOps_done (AWP_seq (AWP_reg (Rh 1 26 [(0, sA x0), (5, sA x0)] ?_)))))
  obtain ⟨v1, hv1, H⟩ := bind_some H
  refine AOps_callp (d := (some 6)) (al := [sA x0]) (r := bA v1) (by kernel_rfl) (s_ref1_Word hv1) ⟨trivial, trivial⟩ trivial ?_
  refine Rh 2 26 [(0, sA x0), (8, bA (!v1))] (AOps_run 4 [0, 12] (st' := fr 26 [(0, sA x0), (12, bA ((!v1) || (decide ((szI x0) > 32))))]) (h' := []) (by (generalize v1 = t0; cases t0 <;> kernel_rfl)) ?_)
  refine AOps_done (CD H (fun hb2 H => ?_) (fun hb2 H => ?_))
  · refine AWP_reg (Rh 1 26 [(2, bA false)] (AOps_done ?_))
    exact AWP_ret (FR H)
  · refine AWP_skip ?_
    show AWP _ _ _ _ _ _ _
    refine AWP_reg ?_
    obtain ⟨v3, hv3, H⟩ := bind_some H
    refine AOps_callp (d := (some 13)) (al := []) (r := .ro .unk v3.length (cl_str v3)) (by kernel_rfl) (s_ref1_Reserved hv3) trivial (scl_cl_str _ _) ?_
    refine Rh 1 26 [(0, sA x0), (3, .ro .unk v3.length (cl_str v3))] (AOps_done (AWP_seq (AWP_reg (Rh 1 26 [(0, sA x0), (3, .ro .unk v3.length (cl_str v3)), (4, iA 0)] (AOps_done (AWP_block ?_))))))
    refine AWP_loopN (α := Int) (fun v11 => fr 26 [(0, sA x0), (3, .ro .unk v3.length (cl_str v3)), (4, iA v11)]) (fun v11 => []) (fun k_ v11 => k_ ≤ n ∧ p_ref1_Key_L1 k_ x0 v3 v11 = some r) (fun n v11 H => ?_) (k := n) 0 ⟨Nat.le_refl _, H⟩ (Norm_fd [0, 3, 4] 0 (by kernel_rfl) rfl rfl trivial (by refine scL_fr ?_; exact ⟨trivial, (scl_cl_str _ _), trivial, trivial⟩))
    show AWP _ _ _ _ _ (fr 26 [(0, sA x0), (3, .ro .unk v3.length (cl_str v3)), (4, iA v11)]) []
    obtain ⟨hb_, H⟩ := H
    replace H : p_ref1_Key_L1 n x0 v3 v11 = some r := H
    cases n with
    | zero => exact not_none (by simpa only [p_ref1_Key_L1] using H)
    | succ n =>
      unfold p_ref1_Key_L1 at H
      refine AWP_seq (AWP_reg (Rh 4 26 [(0, sA x0), (3, .ro .unk v3.length (cl_str v3)), (4, iA v11), (17, bA (decide (v11 < (lI v3))))] (AOps_done (CD H (fun hb12 H => ?_) (fun hb12 H => ?_)))))
      · refine AWP_skip ?_
        show AWP _ _ _ _ _ _ _
        refine AWP_seq (AWP_block ?_)
        refine AWP_reg (Rh 2 26 [(0, sA x0), (3, .ro .unk v3.length (cl_str v3)), (4, iA v11), (20, .ro .unk v3.length (cl_str v3)), (21, iA v11)] ?_)
        obtain ⟨v13, hv13, H⟩ := bind_some H
        refine AOps_index (d := (some 22)) (sz := 1) (c := cs_str) (by kernel_rfl) rfl (eq_cl_str _) (fun _ => rfl) (by decide) hv13 (fun tl13 => ?_)
        refine Rh 3 26 [(0, sA x0), (3, .ro .unk v3.length (cl_str v3)), (4, iA v11), (25, bA (seq' v13 x0))] (AOps_done (CD H (fun hb14 H => ?_) (fun hb14 H => ?_)))
        · refine AWP_reg (Rh 1 26 [(2, bA false)] (AOps_done ?_))
          exact AWP_ret (FR H)
        · refine AWP_skip ?_
          show AWP _ _ _ _ _ _ _
          refine AWP_region ?_
          refine Rh 3 26 [(0, sA x0), (3, .ro .unk v3.length (cl_str v3)), (4, iA (w64 (v11 + 1)))] (AOps_done ?_)
          exact Exists.intro (w64 (v11 + 1)) (Exists.intro n ⟨by omega, ⟨by omega, H⟩, Norm_fd [0, 3, 4] 0 (by kernel_rfl) rfl rfl trivial (by refine scL_fr ?_; exact ⟨trivial, (scl_cl_str _ _), trivial, trivial⟩)⟩)
      · refine AWP_exit ?_
        show AWP _ _ _ _ _ _ _
        refine AWP_reg (Rh 1 26 [(2, bA true)] (AOps_done ?_))
        exact AWP_ret (FR H)
end Go.Proofs.YtjhbobacbaikoaaGreatDoor
/- A function of the program as a pure function, and that the program computes it. -/
namespace Go.Proofs.YtjhbobacbaikoaaGreatDoor
open Go
set_option linter.unusedVariables false
set_option linter.unusedSimpArgs false
set_option maxRecDepth 100000
def p_ref1_Valid_L1 (n : Nat) (x0 : ByteArray) (v12 : Int) : Option Bool := match n with
| 0 => none
| n + 1 =>
(bif decide (v12 < (szI x0)) then
(rdS x0 v12).bind fun v14 =>
(bif !(decide (v14 < 32)) then rdS x0 v12 else some 0).bind fun v15 =>
(bif (decide (v14 < 32)) || (v15 == 127) then
 some (false)
 else
 p_ref1_Valid_L1 n x0 (w64 (v12 + 1)))
 else
 some (true))
def p_ref1_Valid (n : Nat) (x0 : ByteArray) : Option Bool :=
(bif !(decide ((szI x0) > 200)) then p_unicode_utf8_ValidString n x0 else some (false)).bind fun v1 =>
(bif (decide ((szI x0) > 200)) || (!v1) then
 some (false)
 else
 p_ref1_Valid_L1 n x0 0)
variable {E : Env}
theorem s_ref1_Valid {n : Nat} (hG : GlobT E) {x0 : ByteArray} {r : Bool} (H : p_ref1_Valid n x0 = some r) :
    Sp Tryz.prog E 68 [sA x0] [] (isA (bA r) []) := by
  unfold p_ref1_Valid at H
  refine Sp_fn Tryz.func68 rfl (fun hc hs => ?_)
  refine AWP_reg (Rh 1 28 [(0, sA x0)] (AOps_done (AWP_seq (AWP_reg (Rh 4 28 [(0, sA x0), (7, bA (decide ((szI x0) > 200)))] ?_)))))
  obtain ⟨v1, hv1, H⟩ := bind_some H
  refine AOps_cut 4 (st' := fr 28 [(0, sA x0), (11, bA ((decide ((szI x0) > 200)) || (!v1)))]) (h' := []) ?_ ?_
  rotate_left
  · cases c1 : (decide ((szI x0) > 200) : Bool) with
    | true =>
      refine R 4 28 [(0, sA x0), (11, bA (true || (!v1)))] [] ?_
      exact AOps_here [0, 11] (by kernel_rfl) rfl
    | false =>
      refine R 1 28 [(0, sA x0), (7, bA false), (8, sA x0)] [] ?_
      have hv1_ := cond_t hv1 (by simp only [c1] <;> rfl)
      refine AOps_callp (d := (some 9)) (al := [sA x0]) (r := bA v1) (by kernel_rfl) (s_unicode_utf8_ValidString hG hv1_) ⟨trivial, trivial⟩ trivial ?_
      refine R 2 28 [(0, sA x0), (11, bA (false || (!v1)))] [] ?_
      exact AOps_here [0, 11] (by kernel_rfl) rfl
  refine AOps_done (CD H (fun hb2 H => ?_) (fun hb2 H => ?_))
  · refine AWP_reg (Rh 1 28 [(2, bA false)] (AOps_done ?_))
    exact AWP_ret (FR H)
  · refine AWP_skip ?_
    show AWP _ _ _ _ _ _ _
    refine AWP_seq (AWP_reg (Rh 1 28 [(0, sA x0), (3, iA 0)] (AOps_done (AWP_block ?_))))
    refine AWP_loopN (α := Int) (fun v12 => fr 28 [(0, sA x0), (3, iA v12)]) (fun v12 => []) (fun k_ v12 => k_ ≤ n ∧ p_ref1_Valid_L1 k_ x0 v12 = some r) (fun n v12 H => ?_) (k := n) 0 ⟨Nat.le_refl _, H⟩ (Norm_fd [0, 3] 0 (by kernel_rfl) rfl rfl trivial (by refine scL_fr ?_; exact ⟨trivial, trivial, trivial⟩))
    show AWP _ _ _ _ _ (fr 28 [(0, sA x0), (3, iA v12)]) []
    obtain ⟨hb_, H⟩ := H
    replace H : p_ref1_Valid_L1 n x0 v12 = some r := H
    cases n with
    | zero => exact not_none (by simpa only [p_ref1_Valid_L1] using H)
    | succ n =>
      unfold p_ref1_Valid_L1 at H
      refine AWP_seq (AWP_reg (Rh 4 28 [(0, sA x0), (3, iA v12), (15, bA (decide (v12 < (szI x0))))] (AOps_done (CD H (fun hb13 H => ?_) (fun hb13 H => ?_)))))
      · refine AWP_skip ?_
        show AWP _ _ _ _ _ _ _
        refine AWP_seq (AWP_block ?_)
        refine AWP_reg (Rh 2 28 [(0, sA x0), (3, iA v12), (18, sA x0), (19, iA v12)] ?_)
        obtain ⟨v14, hv14, H⟩ := bind_some H
        refine AOps_sindex (d := (some 20)) (by kernel_rfl) hv14 ?_
        refine Rh 2 28 [(0, sA x0), (3, iA v12), (22, bA (decide (v14 < 32)))] ?_
        obtain ⟨v15, hv15, H⟩ := bind_some H
        refine AOps_cut 5 (st' := fr 28 [(0, sA x0), (3, iA v12), (27, bA ((decide (v14 < 32)) || (v15 == 127)))]) (h' := []) ?_ ?_
        rotate_left
        · cases c1 : (decide (v14 < 32) : Bool) with
          | true =>
            refine R 5 28 [(0, sA x0), (3, iA v12), (27, bA (true || (v15 == 127)))] [] ?_
            exact AOps_here [0, 3, 27] (by kernel_rfl) rfl
          | false =>
            refine R 2 28 [(0, sA x0), (3, iA v12), (22, bA false), (23, sA x0), (24, iA v12)] [] ?_
            have hv15_ := cond_t hv15 (by simp only [c1] <;> rfl)
            refine AOps_sindex (d := (some 25)) (by kernel_rfl) hv15_ ?_
            refine R 2 28 [(0, sA x0), (3, iA v12), (27, bA (false || (v15 == 127)))] [] ?_
            exact AOps_here [0, 3, 27] (by kernel_rfl) rfl
        refine AOps_done (CD H (fun hb16 H => ?_) (fun hb16 H => ?_))
        · refine AWP_reg (Rh 1 28 [(2, bA false)] (AOps_done ?_))
          exact AWP_ret (FR H)
        · refine AWP_skip ?_
          show AWP _ _ _ _ _ _ _
          refine AWP_region ?_
          refine Rh 3 28 [(0, sA x0), (3, iA (w64 (v12 + 1)))] (AOps_done ?_)
          exact Exists.intro (w64 (v12 + 1)) (Exists.intro n ⟨by omega, ⟨by omega, H⟩, Norm_fd [0, 3] 0 (by kernel_rfl) rfl rfl trivial (by refine scL_fr ?_; exact ⟨trivial, trivial, trivial⟩)⟩)
      · refine AWP_exit ?_
        show AWP _ _ _ _ _ _ _
        refine AWP_reg (Rh 1 28 [(2, bA true)] (AOps_done ?_))
        exact AWP_ret (FR H)
end Go.Proofs.YtjhbobacbaikoaaGreatDoor
/- A function of the program as a pure function, and that the program computes it. -/
namespace Go.Proofs.YtjhbobacbaikoaaGreatDoor
open Go
set_option linter.unusedVariables false
set_option linter.unusedSimpArgs false
set_option maxRecDepth 100000
def p_text_Key_L2 (n : Nat) (x0 : ByteArray) (v10 : (List ByteArray)) (v18 : Int) : Option Bool := match n with
| 0 => none
| n + 1 =>
(bif decide (v18 < (lI v10)) then
(rdO v10 v18).bind fun v20 =>
(bif seq' v20 x0 then
 some (false)
 else
 p_text_Key_L2 n x0 v10 (w64 (v18 + 1)))
 else
 some (true))
def p_text_Key_L1 (n : Nat) (x0 : ByteArray) (v7 : Nat) : Option Bool := match n with
| 0 => none
| n + 1 =>
(bif decide (v7 < x0.size) then
(bif (!((decide ((decR x0 v7) ≥ 97)) && (decide ((decR x0 v7) ≤ 122)))) && ((((v7 : Nat) : Int) == 0) || ((((decide ((decR x0 v7) < 48)) || (decide ((decR x0 v7) > 57))) && ((decR x0 v7) != 45)) && ((decR x0 v7) != 95))) then
 some (false)
 else
 p_text_Key_L1 n x0 (v7 + decW x0 v7))
 else
(p_strings_Fields n (⟨#[97, 110, 100, 32, 97, 114, 109, 115, 32, 97, 116, 116, 114, 105, 98, 117, 116, 101, 32, 98, 111, 111, 108, 32, 99, 108, 97, 105, 109, 115, 32, 99, 111, 110, 116, 97, 105, 110, 115, 32, 99, 111, 111, 108, 32, 99, 111, 111, 108, 105, 110, 103, 32, 100, 101, 102, 97, 117, 108, 116, 32, 100, 114, 97, 102, 116, 32, 101, 110, 100, 115, 32, 101, 120, 99, 108, 117, 100, 101, 32, 101, 120, 105, 115, 116, 115, 32, 101, 120, 112, 101, 114, 105, 109, 101, 110, 116, 32, 102, 97, 108, 115, 101, 32, 102, 108, 97, 103, 32, 104, 111, 108, 100, 111, 117, 116, 32, 105, 110, 32, 105, 110, 99, 108, 117, 100, 101, 32, 105, 115, 32, 108, 97, 121, 101, 114, 32, 108, 105, 115, 116, 32, 109, 101, 109, 98, 101, 114, 32, 110, 101, 101, 100, 115, 32, 110, 111, 116, 32, 110, 117, 109, 98, 101, 114, 32, 111, 102, 102, 32, 111, 110, 32, 111, 114, 32, 114, 117, 108, 101, 32, 114, 117, 110, 110, 105, 110, 103, 32, 115, 97, 108, 116, 32, 115, 101, 103, 109, 101, 110, 116, 32, 115, 101, 114, 118, 101, 32, 115, 101, 116, 116, 105, 110, 103, 115, 32, 115, 112, 108, 105, 116, 32, 115, 116, 97, 114, 116, 115, 32, 115, 116, 111, 112, 112, 101, 100, 32, 116, 97, 114, 103, 101, 116, 32, 116, 101, 120, 116, 32, 116, 111, 32, 116, 114, 117, 101, 32, 117, 110, 116, 105, 108, 32, 118, 97, 114, 105, 97, 116, 105, 111, 110, 115, 32, 118, 101, 114, 115, 105, 111, 110, 32, 119, 104, 101, 110]⟩ : ByteArray)).bind fun v10 =>
 p_text_Key_L2 n x0 v10 0)
def p_text_Key (n : Nat) (x0 : ByteArray) : Option Bool :=
(bif (decide ((szI x0) < 1)) || (decide ((szI x0) > 32)) then
 some (false)
 else
 p_text_Key_L1 n x0 0)
variable {E : Env}
theorem s_text_Key {n : Nat} (hG : GlobT E) {x0 : ByteArray} {r : Bool} (H : p_text_Key n x0 = some r) :
    Sp Tryz.prog E 65 [sA x0] [] (isA (bA r) []) := by
  unfold p_text_Key at H
  refine Sp_fn Tryz.func65 rfl (fun hc hs => ?_)
  refine AWP_reg (Rh 1 60 [(0, sA x0)] (AOps_done (AWP_seq (AWP_reg (Rh 4 60 [(0, sA x0), (11, bA (decide ((szI x0) < 1)))] (AOps_run 4 [0, 15] (st' := fr 60 [(0, sA x0), (15, bA ((decide ((szI x0) < 1)) || (decide ((szI x0) > 32))))]) (h' := []) (by (generalize (decide ((szI x0) < 1)) = t0; cases t0 <;> kernel_rfl)) ?_))))))
  refine AOps_done (CD H (fun hb1 H => ?_) (fun hb1 H => ?_))
  · refine AWP_reg (Rh 1 60 [(2, bA false)] (AOps_done ?_))
    exact AWP_ret (FR H)
  · refine AWP_skip ?_
    show AWP _ _ _ _ _ _ _
    refine AWP_seq (AWP_reg (Rh 1 60 [(0, sA x0), (16, sA x0)] (AOps_range (d := (some 17)) (s := x0) (by kernel_rfl) ?_)))
    refine AOps_done (AWP_block ?_)
    refine AWP_loopN (α := Nat) (fun v7 => fr 60 [(0, sA x0), (17, .ptr 0 0)]) (fun v7 => [.iter x0 v7]) (fun k_ v7 => k_ ≤ n ∧ p_text_Key_L1 k_ x0 v7 = some r) (fun n v7 H => ?_) (k := n) 0 ⟨Nat.le_refl _, H⟩ (Norm_fd [0, 17] 0 (by kernel_rfl) rfl rfl ⟨trivial, trivial⟩ (by refine scL_fr ?_; exact ⟨trivial, (sc_ptr rfl), trivial⟩))
    show AWP _ _ _ _ _ (fr 60 [(0, sA x0), (17, .ptr 0 0)]) [.iter x0 v7]
    obtain ⟨hb_, H⟩ := H
    replace H : p_text_Key_L1 n x0 v7 = some r := H
    cases n with
    | zero => exact not_none (by simpa only [p_text_Key_L1] using H)
    | succ n =>
      unfold p_text_Key_L1 at H
      refine AWP_reg ?_
      cases hb8 : decide (v7 < x0.size) with
      | true =>
        replace H := cond_t H hb8
        refine AOps_next (d := some 18) (id := 0) (s := x0) (p := v7) (by kernel_rfl) (of_decide_eq_true hb8) (h' := [.iter x0 (v7 + decW x0 v7)]) rfl ?_
        refine Rh 1 60 [(0, sA x0), (17, .ptr 0 0), (18, .tup [bA true, iA ((v7 : Nat) : Int), iK .i32 (decR x0 v7)]), (19, bA true)] (AOps_done (AWP_seq (AWP_cond (t := true) (by kernel_rfl) (fun hb => ?_) (fun hb => ?_))))
        · refine AWP_skip ?_
          show AWP _ _ _ _ _ _ _
          refine AWP_block ?_
          refine AWP_reg (Rh 4 60 [(0, sA x0), (3, iA ((v7 : Nat) : Int)), (4, iK .i32 (decR x0 v7)), (17, .ptr 0 0)] (AOps_done (AWP_reg (Rh 3 60 [(0, sA x0), (3, iA ((v7 : Nat) : Int)), (4, iK .i32 (decR x0 v7)), (17, .ptr 0 0), (24, bA (decide ((decR x0 v7) ≥ 97)))] (AOps_run 3 [0, 3, 4, 17, 27] (st' := fr 60 [(0, sA x0), (3, iA ((v7 : Nat) : Int)), (4, iK .i32 (decR x0 v7)), (17, .ptr 0 0), (27, bA ((decide ((decR x0 v7) ≥ 97)) && (decide ((decR x0 v7) ≤ 122))))]) (h' := [.iter x0 (v7 + decW x0 v7)]) (by (generalize (decide ((decR x0 v7) ≥ 97)) = t0; cases t0 <;> kernel_rfl)) ?_)))))
          refine Rh 1 60 [(0, sA x0), (3, iA ((v7 : Nat) : Int)), (4, iK .i32 (decR x0 v7)), (5, bA ((decide ((decR x0 v7) ≥ 97)) && (decide ((decR x0 v7) ≤ 122)))), (17, .ptr 0 0)] (AOps_done (AWP_reg (Rh 3 60 [(0, sA x0), (3, iA ((v7 : Nat) : Int)), (4, iK .i32 (decR x0 v7)), (17, .ptr 0 0), (30, bA (!((decide ((decR x0 v7) ≥ 97)) && (decide ((decR x0 v7) ≤ 122)))))] (AOps_cut 19 (st' := fr 60 [(0, sA x0), (17, .ptr 0 0), (49, bA ((!((decide ((decR x0 v7) ≥ 97)) && (decide ((decR x0 v7) ≤ 122)))) && ((((v7 : Nat) : Int) == 0) || ((((decide ((decR x0 v7) < 48)) || (decide ((decR x0 v7) > 57))) && ((decR x0 v7) != 45)) && ((decR x0 v7) != 95)))))]) (h' := [.iter x0 (v7 + decW x0 v7)]) ?_ ?_))))
          rotate_left
          · cases c1 : ((decide ((decR x0 v7) ≥ 97)) && (decide ((decR x0 v7) ≤ 122)) : Bool) with
            | true =>
              refine R 19 60 [(0, sA x0), (17, .ptr 0 0), (49, bA ((!true) && ((((v7 : Nat) : Int) == 0) || ((((decide ((decR x0 v7) < 48)) || (decide ((decR x0 v7) > 57))) && ((decR x0 v7) != 45)) && ((decR x0 v7) != 95)))))] [.iter x0 (v7 + decW x0 v7)] ?_
              exact AOps_here [0, 17, 49] (by kernel_rfl) rfl
            | false =>
              refine R 3 60 [(0, sA x0), (4, iK .i32 (decR x0 v7)), (17, .ptr 0 0), (30, bA (!false)), (33, bA (((v7 : Nat) : Int) == 0))] [.iter x0 (v7 + decW x0 v7)] ?_
              cases c2 : (((v7 : Nat) : Int) == 0 : Bool) with
              | true =>
                refine R 16 60 [(0, sA x0), (17, .ptr 0 0), (49, bA ((!false) && (true || ((((decide ((decR x0 v7) < 48)) || (decide ((decR x0 v7) > 57))) && ((decR x0 v7) != 45)) && ((decR x0 v7) != 95)))))] [.iter x0 (v7 + decW x0 v7)] ?_
                exact AOps_here [0, 17, 49] (by kernel_rfl) rfl
              | false =>
                refine R 3 60 [(0, sA x0), (4, iK .i32 (decR x0 v7)), (17, .ptr 0 0), (30, bA (!false)), (33, bA false), (36, bA (decide ((decR x0 v7) < 48)))] [.iter x0 (v7 + decW x0 v7)] ?_
                cases c3 : (decide ((decR x0 v7) < 48) : Bool) with
                | true =>
                  refine R 8 60 [(0, sA x0), (4, iK .i32 (decR x0 v7)), (17, .ptr 0 0), (30, bA (!false)), (33, bA false), (44, bA ((true || (decide ((decR x0 v7) > 57))) && ((decR x0 v7) != 45)))] [.iter x0 (v7 + decW x0 v7)] ?_
                  cases c4 : ((decR x0 v7) != 45 : Bool) with
                  | true =>
                    refine R 5 60 [(0, sA x0), (17, .ptr 0 0), (49, bA ((!false) && (false || (((true || (decide ((decR x0 v7) > 57))) && true) && ((decR x0 v7) != 95)))))] [.iter x0 (v7 + decW x0 v7)] ?_
                    exact AOps_here [0, 17, 49] (by kernel_rfl) rfl
                  | false =>
                    refine R 5 60 [(0, sA x0), (17, .ptr 0 0), (49, bA ((!false) && (false || (((true || (decide ((decR x0 v7) > 57))) && false) && ((decR x0 v7) != 95)))))] [.iter x0 (v7 + decW x0 v7)] ?_
                    exact AOps_here [0, 17, 49] (by kernel_rfl) rfl
                | false =>
                  refine R 4 60 [(0, sA x0), (4, iK .i32 (decR x0 v7)), (17, .ptr 0 0), (30, bA (!false)), (33, bA false), (40, bA (false || (decide ((decR x0 v7) > 57))))] [.iter x0 (v7 + decW x0 v7)] ?_
                  cases c4 : (decide ((decR x0 v7) > 57) : Bool) with
                  | true =>
                    refine R 4 60 [(0, sA x0), (4, iK .i32 (decR x0 v7)), (17, .ptr 0 0), (30, bA (!false)), (33, bA false), (44, bA ((false || true) && ((decR x0 v7) != 45)))] [.iter x0 (v7 + decW x0 v7)] ?_
                    cases c5 : ((decR x0 v7) != 45 : Bool) with
                    | true =>
                      refine R 5 60 [(0, sA x0), (17, .ptr 0 0), (49, bA ((!false) && (false || (((false || true) && true) && ((decR x0 v7) != 95)))))] [.iter x0 (v7 + decW x0 v7)] ?_
                      exact AOps_here [0, 17, 49] (by kernel_rfl) rfl
                    | false =>
                      refine R 5 60 [(0, sA x0), (17, .ptr 0 0), (49, bA ((!false) && (false || (((false || true) && false) && ((decR x0 v7) != 95)))))] [.iter x0 (v7 + decW x0 v7)] ?_
                      exact AOps_here [0, 17, 49] (by kernel_rfl) rfl
                  | false =>
                    refine R 9 60 [(0, sA x0), (17, .ptr 0 0), (49, bA ((!false) && (false || (((false || false) && ((decR x0 v7) != 45)) && ((decR x0 v7) != 95)))))] [.iter x0 (v7 + decW x0 v7)] ?_
                    exact AOps_here [0, 17, 49] (by kernel_rfl) rfl
          refine AOps_done (CD H (fun hb9 H => ?_) (fun hb9 H => ?_))
          · refine AWP_reg (Rh 1 60 [(2, bA false)] (AOps_done ?_))
            exact AWP_ret (FR H)
          · refine AWP_skip ?_
            exact Exists.intro (v7 + decW x0 v7) (Exists.intro n ⟨by omega, ⟨by omega, H⟩, Norm_fd [0, 17] 0 (by kernel_rfl) rfl rfl ⟨trivial, trivial⟩ (by refine scL_fr ?_; exact ⟨trivial, (sc_ptr rfl), trivial⟩)⟩)
        · cases hb
      | false =>
        replace H := cond_f H hb8
        refine AOps_next_end (d := some 18) (id := 0) (s := x0) (p := v7) (by kernel_rfl) (of_decide_eq_false hb8) ?_
        refine Rh 1 60 [(0, sA x0), (17, .ptr 0 0), (18, .tup [bA false]), (19, bA false)] (AOps_done (AWP_seq (AWP_cond (t := false) (by kernel_rfl) (fun hb => ?_) (fun hb => ?_))))
        · cases hb
        · refine AWP_exit ?_
          show AWP _ _ _ _ _ _ _
          refine AWP_seq (AWP_reg ?_)
          obtain ⟨v10, hv10, H⟩ := bind_some H
          refine AOps_callp (d := (some 50)) (al := [sA (⟨#[97, 110, 100, 32, 97, 114, 109, 115, 32, 97, 116, 116, 114, 105, 98, 117, 116, 101, 32, 98, 111, 111, 108, 32, 99, 108, 97, 105, 109, 115, 32, 99, 111, 110, 116, 97, 105, 110, 115, 32, 99, 111, 111, 108, 32, 99, 111, 111, 108, 105, 110, 103, 32, 100, 101, 102, 97, 117, 108, 116, 32, 100, 114, 97, 102, 116, 32, 101, 110, 100, 115, 32, 101, 120, 99, 108, 117, 100, 101, 32, 101, 120, 105, 115, 116, 115, 32, 101, 120, 112, 101, 114, 105, 109, 101, 110, 116, 32, 102, 97, 108, 115, 101, 32, 102, 108, 97, 103, 32, 104, 111, 108, 100, 111, 117, 116, 32, 105, 110, 32, 105, 110, 99, 108, 117, 100, 101, 32, 105, 115, 32, 108, 97, 121, 101, 114, 32, 108, 105, 115, 116, 32, 109, 101, 109, 98, 101, 114, 32, 110, 101, 101, 100, 115, 32, 110, 111, 116, 32, 110, 117, 109, 98, 101, 114, 32, 111, 102, 102, 32, 111, 110, 32, 111, 114, 32, 114, 117, 108, 101, 32, 114, 117, 110, 110, 105, 110, 103, 32, 115, 97, 108, 116, 32, 115, 101, 103, 109, 101, 110, 116, 32, 115, 101, 114, 118, 101, 32, 115, 101, 116, 116, 105, 110, 103, 115, 32, 115, 112, 108, 105, 116, 32, 115, 116, 97, 114, 116, 115, 32, 115, 116, 111, 112, 112, 101, 100, 32, 116, 97, 114, 103, 101, 116, 32, 116, 101, 120, 116, 32, 116, 111, 32, 116, 114, 117, 101, 32, 117, 110, 116, 105, 108, 32, 118, 97, 114, 105, 97, 116, 105, 111, 110, 115, 32, 118, 101, 114, 115, 105, 111, 110, 32, 119, 104, 101, 110]⟩ : ByteArray)]) (r := .ro .unk v10.length (cl_str v10)) (by kernel_rfl) (s_strings_Fields hG hv10) ⟨trivial, trivial⟩ (scl_cl_str _ _) ?_
          refine Rh 2 60 [(0, sA x0), (50, .ro .unk v10.length (cl_str v10)), (51, iA (lI v10)), (52, iA 0)] (AOps_done (AWP_block ?_))
          refine AWP_loopN (α := Int) (fun v18 => fr 60 [(0, sA x0), (50, .ro .unk v10.length (cl_str v10)), (51, iA (lI v10)), (52, iA v18)]) (fun v18 => [.iter x0 v7]) (fun k_ v18 => k_ ≤ n ∧ p_text_Key_L2 k_ x0 v10 v18 = some r) (fun n v18 H => ?_) (k := n) 0 ⟨Nat.le_refl _, H⟩ (Norm_fd [0, 50, 51, 52] 0 (by kernel_rfl) rfl rfl ⟨trivial, trivial⟩ (by refine scL_fr ?_; exact ⟨trivial, (scl_cl_str _ _), trivial, trivial, trivial⟩))
          show AWP _ _ _ _ _ (fr 60 [(0, sA x0), (50, .ro .unk v10.length (cl_str v10)), (51, iA (lI v10)), (52, iA v18)]) [.iter x0 v7]
          obtain ⟨hb_, H⟩ := H
          replace H : p_text_Key_L2 n x0 v10 v18 = some r := H
          cases n with
          | zero => exact not_none (by simpa only [p_text_Key_L2] using H)
          | succ n =>
            unfold p_text_Key_L2 at H
            refine AWP_reg (Rh 1 60 [(0, sA x0), (50, .ro .unk v10.length (cl_str v10)), (51, iA (lI v10)), (52, iA v18), (53, bA (decide (v18 < (lI v10))))] (AOps_done (AWP_seq (CD H (fun hb19 H => ?_) (fun hb19 H => ?_)))))
            · refine AWP_skip ?_
              show AWP _ _ _ _ _ _ _
              refine AWP_seq (AWP_block ?_)
              refine AWP_reg ?_
              obtain ⟨v20, hv20, H⟩ := bind_some H
              refine AOps_index (d := (some 54)) (sz := 1) (c := cs_str) (by kernel_rfl) rfl (eq_cl_str _) (fun _ => rfl) (by decide) hv20 (fun tl20 => ?_)
              refine Rh 2 60 [(0, sA x0), (7, sA v20), (50, .ro .unk v10.length (cl_str v10)), (51, iA (lI v10)), (52, iA v18)] (AOps_done (AWP_reg (Rh 3 60 [(0, sA x0), (50, .ro .unk v10.length (cl_str v10)), (51, iA (lI v10)), (52, iA v18), (58, bA (seq' v20 x0))] (AOps_done (CD H (fun hb21 H => ?_) (fun hb21 H => ?_))))))
              · refine AWP_reg (Rh 1 60 [(2, bA false)] (AOps_done ?_))
                exact AWP_ret (FR H)
              · refine AWP_skip ?_
                show AWP _ _ _ _ _ _ _
                refine AWP_region ?_
                refine Rh 2 60 [(0, sA x0), (50, .ro .unk v10.length (cl_str v10)), (51, iA (lI v10)), (52, iA (w64 (v18 + 1)))] (AOps_done ?_)
                exact Exists.intro (w64 (v18 + 1)) (Exists.intro n ⟨by omega, ⟨by omega, H⟩, Norm_fd [0, 50, 51, 52] 0 (by kernel_rfl) rfl rfl ⟨trivial, trivial⟩ (by refine scL_fr ?_; exact ⟨trivial, (scl_cl_str _ _), trivial, trivial, trivial⟩)⟩)
            · refine AWP_exit ?_
              show AWP _ _ _ _ _ _ _
              refine AWP_reg (Rh 1 60 [(2, bA true)] (AOps_done ?_))
              exact AWP_ret (FR H)
end Go.Proofs.YtjhbobacbaikoaaGreatDoor
/- A function of the program as a pure function, and that the program computes it. -/
namespace Go.Proofs.YtjhbobacbaikoaaGreatDoor
open Go
set_option linter.unusedVariables false
set_option linter.unusedSimpArgs false
set_option maxRecDepth 100000
def p_text_Valid_L1 (n : Nat) (x0 : ByteArray) (v8 : Nat) : Option Bool := match n with
| 0 => none
| n + 1 =>
(bif decide (v8 < x0.size) then
(bif (decide ((decR x0 v8) < 32)) || ((decR x0 v8) == 127) then
 some (false)
 else
 p_text_Valid_L1 n x0 (v8 + decW x0 v8))
 else
 some (true))
def p_text_Valid (n : Nat) (x0 : ByteArray) : Option Bool :=
(bif !(decide ((szI x0) > 200)) then p_unicode_utf8_ValidString n x0 else some (false)).bind fun v1 =>
(bif (decide ((szI x0) > 200)) || (!v1) then
 some (false)
 else
 p_text_Valid_L1 n x0 0)
variable {E : Env}
theorem s_text_Valid {n : Nat} (hG : GlobT E) {x0 : ByteArray} {r : Bool} (H : p_text_Valid n x0 = some r) :
    Sp Tryz.prog E 66 [sA x0] [] (isA (bA r) []) := by
  unfold p_text_Valid at H
  refine Sp_fn Tryz.func66 rfl (fun hc hs => ?_)
  refine AWP_reg (Rh 1 24 [(0, sA x0)] (AOps_done (AWP_seq (AWP_reg (Rh 4 24 [(0, sA x0), (8, bA (decide ((szI x0) > 200)))] ?_)))))
  obtain ⟨v1, hv1, H⟩ := bind_some H
  refine AOps_cut 4 (st' := fr 24 [(0, sA x0), (12, bA ((decide ((szI x0) > 200)) || (!v1)))]) (h' := []) ?_ ?_
  rotate_left
  · cases c1 : (decide ((szI x0) > 200) : Bool) with
    | true =>
      refine R 4 24 [(0, sA x0), (12, bA (true || (!v1)))] [] ?_
      exact AOps_here [0, 12] (by kernel_rfl) rfl
    | false =>
      refine R 1 24 [(0, sA x0), (8, bA false), (9, sA x0)] [] ?_
      have hv1_ := cond_t hv1 (by simp only [c1] <;> rfl)
      refine AOps_callp (d := (some 10)) (al := [sA x0]) (r := bA v1) (by kernel_rfl) (s_unicode_utf8_ValidString hG hv1_) ⟨trivial, trivial⟩ trivial ?_
      refine R 2 24 [(0, sA x0), (12, bA (false || (!v1)))] [] ?_
      exact AOps_here [0, 12] (by kernel_rfl) rfl
  refine AOps_done (CD H (fun hb2 H => ?_) (fun hb2 H => ?_))
  · refine AWP_reg (Rh 1 24 [(2, bA false)] (AOps_done ?_))
    exact AWP_ret (FR H)
  · refine AWP_skip ?_
    show AWP _ _ _ _ _ _ _
    refine AWP_seq (AWP_reg (Rh 1 24 [(13, sA x0)] (AOps_range (d := (some 14)) (s := x0) (by kernel_rfl) ?_)))
    refine AOps_done (AWP_block ?_)
    refine AWP_loopN (α := Nat) (fun v8 => fr 24 [(14, .ptr 0 0)]) (fun v8 => [.iter x0 v8]) (fun k_ v8 => k_ ≤ n ∧ p_text_Valid_L1 k_ x0 v8 = some r) (fun n v8 H => ?_) (k := n) 0 ⟨Nat.le_refl _, H⟩ (Norm_fd [14] 0 (by kernel_rfl) rfl rfl ⟨trivial, trivial⟩ (by refine scL_fr ?_; exact ⟨(sc_ptr rfl), trivial⟩))
    show AWP _ _ _ _ _ (fr 24 [(14, .ptr 0 0)]) [.iter x0 v8]
    obtain ⟨hb_, H⟩ := H
    replace H : p_text_Valid_L1 n x0 v8 = some r := H
    cases n with
    | zero => exact not_none (by simpa only [p_text_Valid_L1] using H)
    | succ n =>
      unfold p_text_Valid_L1 at H
      refine AWP_reg ?_
      cases hb9 : decide (v8 < x0.size) with
      | true =>
        replace H := cond_t H hb9
        refine AOps_next (d := some 15) (id := 0) (s := x0) (p := v8) (by kernel_rfl) (of_decide_eq_true hb9) (h' := [.iter x0 (v8 + decW x0 v8)]) rfl ?_
        refine Rh 1 24 [(14, .ptr 0 0), (15, .tup [bA true, iA ((v8 : Nat) : Int), iK .i32 (decR x0 v8)]), (16, bA true)] (AOps_done (AWP_seq (AWP_cond (t := true) (by kernel_rfl) (fun hb => ?_) (fun hb => ?_))))
        · refine AWP_skip ?_
          show AWP _ _ _ _ _ _ _
          refine AWP_block ?_
          refine AWP_reg (Rh 2 24 [(4, iK .i32 (decR x0 v8)), (14, .ptr 0 0)] (AOps_done (AWP_reg (Rh 3 24 [(4, iK .i32 (decR x0 v8)), (14, .ptr 0 0), (20, bA (decide ((decR x0 v8) < 32)))] (AOps_run 3 [14, 23] (st' := fr 24 [(14, .ptr 0 0), (23, bA ((decide ((decR x0 v8) < 32)) || ((decR x0 v8) == 127)))]) (h' := [.iter x0 (v8 + decW x0 v8)]) (by (generalize (decide ((decR x0 v8) < 32)) = t0; cases t0 <;> kernel_rfl)) ?_)))))
          refine AOps_done (CD H (fun hb10 H => ?_) (fun hb10 H => ?_))
          · refine AWP_reg (Rh 1 24 [(2, bA false)] (AOps_done ?_))
            exact AWP_ret (FR H)
          · refine AWP_skip ?_
            exact Exists.intro (v8 + decW x0 v8) (Exists.intro n ⟨by omega, ⟨by omega, H⟩, Norm_fd [14] 0 (by kernel_rfl) rfl rfl ⟨trivial, trivial⟩ (by refine scL_fr ?_; exact ⟨(sc_ptr rfl), trivial⟩)⟩)
        · cases hb
      | false =>
        replace H := cond_f H hb9
        refine AOps_next_end (d := some 15) (id := 0) (s := x0) (p := v8) (by kernel_rfl) (of_decide_eq_false hb9) ?_
        refine Rh 1 24 [(14, .ptr 0 0), (15, .tup [bA false]), (16, bA false)] (AOps_done (AWP_seq (AWP_cond (t := false) (by kernel_rfl) (fun hb => ?_) (fun hb => ?_))))
        · cases hb
        · refine AWP_exit ?_
          show AWP _ _ _ _ _ _ _
          refine AWP_reg (Rh 1 24 [(2, bA true)] (AOps_done ?_))
          exact AWP_ret (FR H)
end Go.Proofs.YtjhbobacbaikoaaGreatDoor
/- Texts and keys: the program's and the reference's answers are alike. -/
namespace Go.Proofs.YtjhbobacbaikoaaGreatDoor
open Go
set_option linter.unusedVariables false
set_option linter.unusedSimpArgs false
set_option maxRecDepth 20000
/-- Behind a byte beyond ASCII the decoder takes bytes beyond ASCII alone. -/
theorem decode_span (s : ByteArray) (p : Nat) (h : p < s.size) (ha : 128 ≤ (s[p]'h).toNat) : p + decW s p ≤ s.size ∧ ∀ j, p ≤ j → (hj : j < p + decW s p) → ∀ hl : j < s.size, 128 ≤ (s[j]'hl).toNat := by
  have hg : ∀ k, (p + k < s.size && (s.get! (p + k)).toNat / 64 == 2) = true → p + k < s.size ∧ ∀ hl : p + k < s.size, 128 ≤ (s[p + k]'hl).toNat := by
    intro k hk
    simp only [Bool.and_eq_true, decide_eq_true_eq, beq_iff_eq] at hk
    refine ⟨hk.1, fun hl => ?_⟩
    have e : s.get! (p + k) = s[p + k]'hl := get_at s (p + k) hl
    rw [e] at hk
    omega
  have h0 : ∀ hl : p < s.size, 128 ≤ (s[p]'hl).toNat := fun _ => ha
  have hn : ¬ (s[p]'h).toNat < 128 := by omega
  unfold decW
  simp only [Utf8.decode, get_at s p h, hn, if_false]
  have one : p + 1 ≤ s.size ∧ ∀ j, p ≤ j → (hj : j < p + 1) → ∀ hl : j < s.size, 128 ≤ (s[j]'hl).toNat := ⟨by omega, fun j h1 h2 hl => by
    obtain rfl : j = p := by omega
    exact h0 hl⟩
  split
  · rename_i hc
    simp only [Bool.and_eq_true] at hc
    have c1 := hg 1 (by simpa using hc.2)
    split
    · refine ⟨by omega, fun j h1 h2 hl => ?_⟩
      have : j = p ∨ j = p + 1 := by omega
      rcases this with rfl | rfl
      · exact h0 hl
      · exact c1.2 hl
    · exact one
  · split
    · rename_i hc
      simp only [Bool.and_eq_true] at hc
      have c1 := hg 1 (by simpa using hc.1.2)
      have c2 := hg 2 (by simpa using hc.2)
      split
      · refine ⟨by omega, fun j h1 h2 hl => ?_⟩
        have : j = p ∨ j = p + 1 ∨ j = p + 2 := by omega
        rcases this with rfl | rfl | rfl
        · exact h0 hl
        · exact c1.2 hl
        · exact c2.2 hl
      · exact one
    · split
      · rename_i hc
        simp only [Bool.and_eq_true] at hc
        have c1 := hg 1 (by simpa using hc.1.1.2)
        have c2 := hg 2 (by simpa using hc.1.2)
        have c3 := hg 3 (by simpa using hc.2)
        split
        · refine ⟨by omega, fun j h1 h2 hl => ?_⟩
          have : j = p ∨ j = p + 1 ∨ j = p + 2 ∨ j = p + 3 := by omega
          rcases this with rfl | rfl | rfl | rfl
          · exact h0 hl
          · exact c1.2 hl
          · exact c2.2 hl
          · exact c3.2 hl
        · exact one
      · exact one
theorem dec_ascii (s : ByteArray) (p : Nat) (h : p < s.size) (ha : (s[p]'h).toNat < 128) : decR s p = ((s[p]'h).toNat : Int) ∧ decW s p = 1 := by
  unfold decR decW
  rw [decode_ascii s p h ha]
  exact ⟨rfl, rfl⟩
theorem dec_high (s : ByteArray) (p : Nat) (h : p < s.size) (ha : 128 ≤ (s[p]'h).toNat) : 128 ≤ decR s p ∧ 1 ≤ decW s p := by
  have := decode_high s p h ha
  unfold decR decW
  omega
/-! texts -/
def okV (l : List UInt8) : Bool := l.all fun b => !(decide ((b.toNat : Int) < 32) || (b.toNat : Int) == 127)
theorem okV_skip (s : ByteArray) : ∀ (w p : Nat), p + w ≤ s.size → (∀ j, p ≤ j → j < p + w → ∀ hl : j < s.size, 128 ≤ (s[j]'hl).toNat) → okV (s.data.toList.drop p) = okV (s.data.toList.drop (p + w))
  | 0, p, _, _ => rfl
  | w + 1, p, h, hh => by
    have hp : p < s.size := by omega
    have hb := hh p (Nat.le_refl _) (by omega) hp
    rw [drop_list hp]
    have ih := okV_skip s w (p + 1) (by omega) (fun j h1 h2 hl => hh j (by omega) (by omega) hl)
    rw [show p + (w + 1) = p + 1 + w by omega, ← ih]
    simp only [okV, List.all_cons]
    rw [decide_eq_false (by omega)]
    have : (((s[p]'hp).toNat : Int) == 127) = false := by simp; omega
    rw [this]
    rfl
theorem text_valid_loop (s : ByteArray) : ∀ (k p : Nat), s.size ≤ p + k → p ≤ s.size → Al fun n => p_text_Valid_L1 n s p = some (okV (s.data.toList.drop p)) := by
  intro k
  induction k with
  | zero =>
    intro p hk hp
    obtain rfl : p = s.size := by omega
    refine Al.succ (.of fun n => ?_)
    simp only [p_text_Valid_L1, Nat.lt_irrefl, decide_false, cond_false]
    rw [size_list, List.drop_length]
    rfl
  | succ k ih =>
    intro p hk hp
    by_cases hl : p < s.size
    · by_cases ha : (s[p]'hl).toNat < 128
      · obtain ⟨e1, e2⟩ := dec_ascii s p hl ha
        refine Al.succ ((ih (p + 1) (by omega) (by omega)).mono fun n h => ?_)
        simp only [p_text_Valid_L1, decide_eq_true hl, cond_true, e1, e2, h]
        rw [drop_list hl]
        simp only [okV, List.all_cons]
        cases (decide (((s[p]'hl).toNat : Int) < 32) || ((s[p]'hl).toNat : Int) == 127) <;> rfl
      · obtain ⟨e1, e2⟩ := dec_high s p hl (by omega)
        obtain ⟨s1, s2⟩ := decode_span s p hl (by omega)
        refine Al.succ ((ih (p + decW s p) (by omega) s1).mono fun n h => ?_)
        simp only [p_text_Valid_L1, decide_eq_true hl, cond_true, h]
        rw [okV_skip s _ p s1 s2, decide_eq_false (by omega)]
        have : (decR s p == 127) = false := by simp; omega
        rw [this]
        rfl
    · obtain rfl : p = s.size := by omega
      refine Al.succ (.of fun n => ?_)
      simp only [p_text_Valid_L1, Nat.lt_irrefl, decide_false, cond_false]
      rw [size_list, List.drop_length]
      rfl
theorem ref1_valid_loop (s : ByteArray) (hs : s.size < 4611686018427387904) : ∀ p : Nat, p ≤ s.size → Al fun n => p_ref1_Valid_L1 n s p = some (okV (s.data.toList.drop p)) := by
  refine loop1 _ s.size (fun p => okV (s.data.toList.drop p)) (fun i hi => .of fun n => ?_) (.of fun n => ?_)
  · simp only [p_ref1_Valid_L1]
    rw [decide_eq_true (by simpa [szI] using hi), rdS_nat hi, w64_add (by omega), drop_list hi]
    simp only [okV, List.all_cons, cond_true, Option.bind_some]
    cases h1 : decide (((s[i]'hi).toNat : Int) < 32) with
    | true => simp
    | false => cases h2 : (((s[i]'hi).toNat : Int) == 127) <;> simp [h1, h2]
  · simp only [p_ref1_Valid_L1, szI, Int.lt_irrefl, decide_false, cond_false]
    rw [size_list, List.drop_length]
    rfl
/-- Valid of both. -/
theorem valid_bi (s : ByteArray) : ∃ b, Al fun n => p_text_Valid n s = some b ∧ p_ref1_Valid n s = some b := by
  by_cases h : s.size > 200
  · refine ⟨false, .of fun n => ?_⟩
    have : decide (szI s > 200) = true := decide_eq_true (by unfold szI; omega)
    simp [p_text_Valid, p_ref1_Valid, this]
  · obtain ⟨u, hu⟩ := ValidString_tot s
    have h2 : decide (szI s > 200) = false := decide_eq_false (by unfold szI; omega)
    have a := text_valid_loop s s.size 0 (by omega) (by omega)
    have b := ref1_valid_loop s (by omega) 0 (by omega)
    refine ⟨u && okV (s.data.toList.drop 0), ((hu.and (a.and b))).mono fun n ⟨e1, e2, e3⟩ => ?_⟩
    have e3 : p_ref1_Valid_L1 n s 0 = some (okV (s.data.toList.drop 0)) := e3
    simp only [p_text_Valid, p_ref1_Valid, h2, e1, e2, e3]
    cases u <;> simp
/-! keys -/
def letterB (b : Int) : Bool := decide (b ≥ 97) && decide (b ≤ 122)
def moreB (b : Int) : Bool := (decide (b ≥ 48) && decide (b ≤ 57)) || b == 45 || b == 95
def wordB : Bool → List UInt8 → Bool
  | _, [] => true
  | f, b :: l => (letterB (b.toNat : Int) || (!f && moreB (b.toNat : Int))) && wordB false l
theorem ref_words : ∃ l : List ByteArray, l.length < 1000 ∧ (∀ n, p_ref1_Reserved n = some l) ∧ ∀ n x, p_text_Key_L1 (n + 1) x x.size = p_text_Key_L2 n x l 0 := by
  refine ⟨_, ?_, fun n => rfl, fun n x => ?_⟩
  · decide
  · simp only [p_text_Key_L1, Nat.lt_irrefl, decide_false, cond_false]
    generalize hw : p_strings_Fields n _ = f
    have e : f = p_ref1_Reserved n := by rw [← hw]; kernel_rfl
    rw [e]
    rfl
theorem words_loop1 (x : ByteArray) (l : List ByteArray) (hl : l.length < 1000) : ∀ i : Nat, i ≤ l.length → Al fun n => p_text_Key_L2 n x l i = some (!(l.drop i).any fun y => seq' y x) := by
  refine loop1 _ l.length (fun i => !(l.drop i).any fun y => seq' y x) (fun i hi => .of fun n => ?_) (.of fun n => ?_)
  · simp only [p_text_Key_L2]
    rw [decide_eq_true (by rw [lI_lt]; exact hi), rdO_nat hi, w64_add (by omega), List.drop_eq_getElem_cons hi]
    simp only [cond_true, Option.bind_some, List.any_cons]
    cases seq' l[i] x <;> simp
  · simp [p_text_Key_L2, lI]
theorem words_loop2 (x : ByteArray) (l : List ByteArray) (hl : l.length < 1000) : ∀ i : Nat, i ≤ l.length → Al fun n => p_ref1_Key_L1 n x l i = some (!(l.drop i).any fun y => seq' y x) := by
  refine loop1 _ l.length (fun i => !(l.drop i).any fun y => seq' y x) (fun i hi => .of fun n => ?_) (.of fun n => ?_)
  · simp only [p_ref1_Key_L1]
    rw [decide_eq_true (by rw [lI_lt]; exact hi), rdO_nat hi, w64_add (by omega), List.drop_eq_getElem_cons hi]
    simp only [cond_true, Option.bind_some, List.any_cons]
    cases seq' l[i] x <;> simp
  · simp [p_ref1_Key_L1, lI]
theorem text_key_loop (s : ByteArray) (b : Bool) (hb : Al fun n => p_text_Key_L1 n s s.size = some b) : ∀ (k p : Nat), p + k = s.size → Al fun n => p_text_Key_L1 n s p = some (wordB (decide (p = 0)) (s.data.toList.drop p) && b) := by
  intro k
  induction k with
  | zero =>
    intro p hk
    obtain rfl : p = s.size := by omega
    refine hb.mono fun n h => ?_
    rw [h]
    rw [show s.data.toList.drop s.size = [] by rw [size_list, List.drop_length]]
    rfl
  | succ k ih =>
    intro p hk
    have hl : p < s.size := by omega
    rw [drop_list hl]
    by_cases ha : (s[p]'hl).toNat < 128
    · obtain ⟨e1, e2⟩ := dec_ascii s p hl ha
      refine Al.succ ((ih (p + 1) (by omega)).mono fun n h => ?_)
      simp only [p_text_Key_L1, decide_eq_true hl, cond_true, e1, e2, h]
      simp only [wordB, letterB, moreB]
      have h0 := cast_beq0 p
      rw [h0, show decide (p + 1 = 0) = false from rfl]
      generalize ((s[p]'hl).toNat : Int) = c
      have e3 := dec_lt c 48
      have e4 := dec_gt c 57
      rw [e3, e4]
      simp only [bne]
      cases decide (c ≥ 97) <;> cases decide (c ≤ 122) <;> cases decide (p = 0) <;> cases decide (c ≥ 48) <;> cases decide (c ≤ 57) <;> cases (c == 45) <;> cases (c == 95) <;> simp
    · obtain ⟨e1, e2⟩ := dec_high s p hl (by omega)
      refine Al.succ (.of fun n => ?_)
      simp only [p_text_Key_L1, decide_eq_true hl, cond_true]
      have f1 : ∀ c : Int, 128 ≤ c → letterB c = false ∧ moreB c = false := by
        intro c hc
        simp only [letterB, moreB, Bool.and_eq_false_iff, Bool.or_eq_false_iff, decide_eq_false_iff_not, beq_eq_false_iff_ne]
        omega
      obtain ⟨g1, g2⟩ := f1 (decR s p) e1
      obtain ⟨g3, g4⟩ := f1 ((s[p]'hl).toNat : Int) (by omega)
      simp only [letterB, moreB] at g1 g2
      simp only [wordB, g3, g4, g1]
      simp only [Bool.or_eq_false_iff] at g2
      have e3 : (decide (decR s p < 48) || decide (decR s p > 57)) = true := by simp; omega
      rw [e3]
      simp only [bne, g2.2, g2.1.2]
      cases ((p : Int) == 0) <;> simp
theorem ref1_word_loop (s : ByteArray) (hs : s.size < 4611686018427387904) : ∀ p : Nat, p ≤ s.size → Al fun n => p_ref1_Word_L1 n s p = some (wordB (decide (p = 0)) (s.data.toList.drop p) && decide (s.size > 0)) := by
  refine loop1 _ s.size (fun p => wordB (decide (p = 0)) (s.data.toList.drop p) && decide (s.size > 0)) (fun i hi => .of fun n => ?_) (.of fun n => ?_)
  · simp only [p_ref1_Word_L1]
    rw [decide_eq_true (by simpa [szI] using hi), rdS_nat hi, w64_add (by omega), drop_list hi]
    simp only [cond_true, Option.bind_some, wordB, letterB, moreB]
    rw [show decide (i + 1 = 0) = false from rfl, decide_eq_true (show s.size > 0 by omega)]
    have h0 := cast_beq0 i
    rw [h0]
    generalize ((s[i]'hi).toNat : Int) = c
    simp only [bne]
    cases decide (c ≥ 97) <;> cases decide (c ≤ 122) <;> cases decide (i = 0) <;> cases decide (c ≥ 48) <;> cases decide (c ≤ 57) <;> cases (c == 45) <;> cases (c == 95) <;> simp
  · simp only [p_ref1_Word_L1, szI, Int.lt_irrefl, decide_false, cond_false]
    rw [show s.data.toList.drop s.size = [] by rw [size_list, List.drop_length]]
    simp [wordB]
/-- Key of both. -/
theorem key_bi (s : ByteArray) (hs : s.size < 4611686018427387904) : ∃ b, Al fun n => p_text_Key n s = some b ∧ p_ref1_Key n s = some b := by
  obtain ⟨l, hl, hR, hF⟩ := ref_words
  have w1 := words_loop1 s l hl 0 (by omega)
  have w2 := words_loop2 s l hl 0 (by omega)
  have hb : Al fun n => p_text_Key_L1 n s s.size = some (!(l.drop 0).any fun y => seq' y s) := Al.succ (w1.mono fun n h => by rw [hF]; exact h)
  have a := text_key_loop s _ hb s.size 0 (by omega)
  have b := ref1_word_loop s hs 0 (by omega)
  generalize (!(l.drop 0).any fun y => seq' y s) = q at a w2
  generalize hw : wordB (decide (0 = 0)) (s.data.toList.drop 0) = w at a b
  refine ⟨decide (s.size > 0) && decide (¬ s.size > 32) && w && q, (a.and (b.and w2)).mono fun n ⟨e1, e2, e3⟩ => ?_⟩
  have e2 : p_ref1_Word_L1 n s 0 = some (w && decide (s.size > 0)) := e2
  have e3 : p_ref1_Key_L1 n s l 0 = some q := e3
  simp only [p_text_Key, p_ref1_Key, p_ref1_Word, hR, e1, e2, e3, Option.bind_some]
  have h1 : decide (szI s < 1) = !decide (s.size > 0) := by unfold szI; by_cases h : s.size > 0 <;> simp [h] <;> omega
  have h2 : decide (szI s > 32) = decide (s.size > 32) := by unfold szI; by_cases h : s.size > 32 <;> simp [h] <;> omega
  rw [h1, h2]
  by_cases c1 : s.size > 0 <;> by_cases c2 : s.size > 32 <;> cases w <;> cases q <;> simp [c1, c2]
end Go.Proofs.YtjhbobacbaikoaaGreatDoor
/- A function of the program as a pure function, and that the program computes it. -/
namespace Go.Proofs.YtjhbobacbaikoaaGreatDoor
open Go
set_option linter.unusedVariables false
set_option linter.unusedSimpArgs false
set_option maxRecDepth 100000
def p_ref6_Serve (n : Nat) (x0 : TServe) (x1 : Int) : Option Int :=
(bif x0.gVariation != 0 then
(bif (decide (x0.gVariation < 1)) || (decide (x0.gVariation > x1)) then
 some (3)
 else
(bif (((!(seq' x0.gKind ByteArray.empty)) || (!(seq' x0.gBy ByteArray.empty))) || (!(seq' x0.gSalt ByteArray.empty))) || (decide ((lI x0.gSplit) > 0)) then
 some (15)
 else
 some (0)))
 else
(p_ref1_Key n x0.gKind).bind fun v4 =>
(bif !(!v4) then p_ref1_Key n x0.gBy else some (false)).bind fun v5 =>
(bif (!v4) || (!v5) then
 some (6)
 else
(p_ref1_Valid n x0.gSalt).bind fun v7 =>
(bif !v7 then
 some (2)
 else
(p_ref6_Split n x0.gSplit x1).bind fun v9 =>
 some (v9))))
variable {E : Env}
theorem s_ref6_Serve {n : Nat} (hG : GlobT E) {x0 : TServe} {x1 : Int} {r : Int} (H : p_ref6_Serve n x0 x1 = some r) :
    Sp Tryz.prog E 33 [.agg (TServe.cs x0), iA x1] [] (isA (iA r) []) := by
  unfold p_ref6_Serve at H
  refine Sp_fn Tryz.func33 rfl (fun hc hs => ?_)
  refine AWP_reg (R 2 54 [(1, iA x1), (2, .ptr 0 0)] [.cells 56 (TServe.cs x0)] (AOps_done (AWP_seq (AWP_reg (Rh 3 54 [(1, iA x1), (2, .ptr 0 0), (7, bA (x0.gVariation != 0))] (AOps_done (CD H (fun hb1 H => ?_) (fun hb1 H => ?_))))))))
  · refine AWP_seq (AWP_reg (Rh 4 54 [(1, iA x1), (2, .ptr 0 0), (11, bA (decide (x0.gVariation < 1)))] (AOps_run 5 [2, 16] (st' := fr 54 [(2, .ptr 0 0), (16, bA ((decide (x0.gVariation < 1)) || (decide (x0.gVariation > x1))))]) (h' := [.cells 56 (TServe.cs x0)]) (by (generalize (decide (x0.gVariation < 1)) = t0; cases t0 <;> kernel_rfl)) ?_)))
    refine AOps_done (CD H (fun hb2 H => ?_) (fun hb2 H => ?_))
    · refine AWP_reg (Rh 1 54 [(4, iA 3)] (AOps_done ?_))
      exact AWP_ret (FR H)
    · refine AWP_skip ?_
      show AWP _ _ _ _ _ _ _
      refine AWP_seq (AWP_reg (Rh 4 54 [(2, .ptr 0 0), (20, bA (!(seq' x0.gKind ByteArray.empty)))] (AOps_run 4 [2, 24] (st' := fr 54 [(2, .ptr 0 0), (24, bA ((!(seq' x0.gKind ByteArray.empty)) || (!(seq' x0.gBy ByteArray.empty))))]) (h' := [.cells 56 (TServe.cs x0)]) (by (generalize (seq' x0.gKind ByteArray.empty) = t0; cases t0 <;> kernel_rfl)) ?_)))
      refine Rh 1 54 [(2, .ptr 0 0), (25, bA ((!(seq' x0.gKind ByteArray.empty)) || (!(seq' x0.gBy ByteArray.empty))))] (AOps_run 4 [2, 29] (st' := fr 54 [(2, .ptr 0 0), (29, bA (((!(seq' x0.gKind ByteArray.empty)) || (!(seq' x0.gBy ByteArray.empty))) || (!(seq' x0.gSalt ByteArray.empty))))]) (h' := [.cells 56 (TServe.cs x0)]) (by (generalize (seq' x0.gKind ByteArray.empty) = t0; generalize (seq' x0.gBy ByteArray.empty) = t1; cases t0 <;> cases t1 <;> kernel_rfl)) ?_)
      refine Rh 1 54 [(2, .ptr 0 0), (30, bA (((!(seq' x0.gKind ByteArray.empty)) || (!(seq' x0.gBy ByteArray.empty))) || (!(seq' x0.gSalt ByteArray.empty))))] (AOps_run 5 [35] (st' := fr 54 [(35, bA ((((!(seq' x0.gKind ByteArray.empty)) || (!(seq' x0.gBy ByteArray.empty))) || (!(seq' x0.gSalt ByteArray.empty))) || (decide ((lI x0.gSplit) > 0))))]) (h' := [.cells 56 (TServe.cs x0)]) (by (generalize (seq' x0.gKind ByteArray.empty) = t0; generalize (seq' x0.gBy ByteArray.empty) = t1; generalize (seq' x0.gSalt ByteArray.empty) = t2; cases t0 <;> cases t1 <;> cases t2 <;> kernel_rfl)) ?_)
      refine AOps_done (CD H (fun hb3 H => ?_) (fun hb3 H => ?_))
      · refine AWP_reg (Rh 1 54 [(4, iA 15)] (AOps_done ?_))
        exact AWP_ret (FR H)
      · refine AWP_skip ?_
        show AWP _ _ _ _ _ _ _
        refine AWP_reg (Rh 1 54 [(4, iA 0)] (AOps_done ?_))
        exact AWP_ret (FR H)
  · refine AWP_skip ?_
    show AWP _ _ _ _ _ _ _
    refine AWP_seq (AWP_reg (Rh 2 54 [(1, iA x1), (2, .ptr 0 0), (37, sA x0.gKind)] ?_))
    obtain ⟨v4, hv4, H⟩ := bind_some H
    refine AOps_callp (d := (some 38)) (al := [sA x0.gKind]) (r := bA v4) (by kernel_rfl) (s_ref1_Key hv4) ⟨trivial, trivial⟩ trivial ?_
    refine Rh 2 54 [(1, iA x1), (2, .ptr 0 0), (40, bA (!v4))] ?_
    obtain ⟨v5, hv5, H⟩ := bind_some H
    refine AOps_cut 5 (st' := fr 54 [(1, iA x1), (2, .ptr 0 0), (45, bA ((!v4) || (!v5)))]) (h' := [.cells 56 (TServe.cs x0)]) ?_ ?_
    rotate_left
    · cases c1 : (v4 : Bool) with
      | true =>
        refine R 2 54 [(1, iA x1), (2, .ptr 0 0), (40, bA (!true)), (42, sA x0.gBy)] [.cells 56 (TServe.cs x0)] ?_
        have hv5_ := cond_t hv5 (by simp only [c1] <;> rfl)
        refine AOps_callp (d := (some 43)) (al := [sA x0.gBy]) (r := bA v5) (by kernel_rfl) (s_ref1_Key hv5_) ⟨trivial, trivial⟩ trivial ?_
        refine R 2 54 [(1, iA x1), (2, .ptr 0 0), (45, bA ((!true) || (!v5)))] [.cells 56 (TServe.cs x0)] ?_
        exact AOps_here [1, 2, 45] (by kernel_rfl) rfl
      | false =>
        refine R 5 54 [(1, iA x1), (2, .ptr 0 0), (45, bA ((!false) || (!v5)))] [.cells 56 (TServe.cs x0)] ?_
        exact AOps_here [1, 2, 45] (by kernel_rfl) rfl
    refine AOps_done (CD H (fun hb6 H => ?_) (fun hb6 H => ?_))
    · refine AWP_reg (Rh 1 54 [(4, iA 6)] (AOps_done ?_))
      exact AWP_ret (FR H)
    · refine AWP_skip ?_
      show AWP _ _ _ _ _ _ _
      refine AWP_seq (AWP_reg (Rh 2 54 [(1, iA x1), (2, .ptr 0 0), (47, sA x0.gSalt)] ?_))
      obtain ⟨v7, hv7, H⟩ := bind_some H
      refine AOps_callp (d := (some 48)) (al := [sA x0.gSalt]) (r := bA v7) (by kernel_rfl) (s_ref1_Valid hG hv7) ⟨trivial, trivial⟩ trivial ?_
      refine Rh 1 54 [(1, iA x1), (2, .ptr 0 0), (49, bA (!v7))] (AOps_done (CD H (fun hb8 H => ?_) (fun hb8 H => ?_)))
      · refine AWP_reg (Rh 1 54 [(4, iA 2)] (AOps_done ?_))
        exact AWP_ret (FR H)
      · refine AWP_skip ?_
        show AWP _ _ _ _ _ _ _
        refine AWP_reg (Rh 3 54 [(51, .ro .unk x0.gSplit.length (TRange.cl x0.gSplit)), (52, iA x1)] ?_)
        obtain ⟨v9, hv9, H⟩ := bind_some H
        refine AOps_callp (d := (some 53)) (al := [.ro .unk x0.gSplit.length (TRange.cl x0.gSplit), iA x1]) (r := iA v9) (by kernel_rfl) (s_ref6_Split hv9) ⟨(scl_TRange_cl _ _), trivial, trivial⟩ trivial ?_
        refine Rh 1 54 [(4, iA v9)] (AOps_done ?_)
        exact AWP_ret (FR H)
end Go.Proofs.YtjhbobacbaikoaaGreatDoor
