/- A function of the program as a pure function, and that the program computes it. -/
import Derived.Test.YtjhbobacbaikoaaGreatDoorM4
import Derived.Test.YtjhbobacbaikoaaGreatDoorM5
import Derived.Laws.RangeAny
namespace Go.Proofs.YtjhbobacbaikoaaGreatDoor
open Go
set_option linter.unusedVariables false
set_option linter.unusedSimpArgs false
set_option maxRecDepth 100000
def p_ref1_Reserved (n : Nat)  : Option (List ByteArray) :=
 some ([(⟨#[97, 110, 100]⟩ : ByteArray), (⟨#[97, 114, 109, 115]⟩ : ByteArray), (⟨#[97, 116, 116, 114, 105, 98, 117, 116, 101]⟩ : ByteArray), (⟨#[98, 111, 111, 108]⟩ : ByteArray), (⟨#[99, 108, 97, 105, 109, 115]⟩ : ByteArray), (⟨#[99, 111, 110, 116, 97, 105, 110, 115]⟩ : ByteArray), (⟨#[99, 111, 111, 108]⟩ : ByteArray), (⟨#[99, 111, 111, 108, 105, 110, 103]⟩ : ByteArray), (⟨#[100, 101, 102, 97, 117, 108, 116]⟩ : ByteArray), (⟨#[100, 114, 97, 102, 116]⟩ : ByteArray), (⟨#[101, 110, 100, 115]⟩ : ByteArray), (⟨#[101, 120, 99, 108, 117, 100, 101]⟩ : ByteArray), (⟨#[101, 120, 105, 115, 116, 115]⟩ : ByteArray), (⟨#[101, 120, 112, 101, 114, 105, 109, 101, 110, 116]⟩ : ByteArray), (⟨#[102, 97, 108, 115, 101]⟩ : ByteArray), (⟨#[102, 108, 97, 103]⟩ : ByteArray), (⟨#[104, 111, 108, 100, 111, 117, 116]⟩ : ByteArray), (⟨#[105, 110]⟩ : ByteArray), (⟨#[105, 110, 99, 108, 117, 100, 101]⟩ : ByteArray), (⟨#[105, 115]⟩ : ByteArray), (⟨#[108, 97, 121, 101, 114]⟩ : ByteArray), (⟨#[108, 105, 115, 116]⟩ : ByteArray), (⟨#[109, 101, 109, 98, 101, 114]⟩ : ByteArray), (⟨#[110, 101, 101, 100, 115]⟩ : ByteArray), (⟨#[110, 111, 116]⟩ : ByteArray), (⟨#[110, 117, 109, 98, 101, 114]⟩ : ByteArray), (⟨#[111, 102, 102]⟩ : ByteArray), (⟨#[111, 110]⟩ : ByteArray), (⟨#[111, 114]⟩ : ByteArray), (⟨#[114, 117, 108, 101]⟩ : ByteArray), (⟨#[114, 117, 110, 110, 105, 110, 103]⟩ : ByteArray), (⟨#[115, 97, 108, 116]⟩ : ByteArray), (⟨#[115, 101, 103, 109, 101, 110, 116]⟩ : ByteArray), (⟨#[115, 101, 114, 118, 101]⟩ : ByteArray), (⟨#[115, 101, 116, 116, 105, 110, 103, 115]⟩ : ByteArray), (⟨#[115, 112, 108, 105, 116]⟩ : ByteArray), (⟨#[115, 116, 97, 114, 116, 115]⟩ : ByteArray), (⟨#[115, 116, 111, 112, 112, 101, 100]⟩ : ByteArray), (⟨#[116, 97, 114, 103, 101, 116]⟩ : ByteArray), (⟨#[116, 101, 120, 116]⟩ : ByteArray), (⟨#[116, 111]⟩ : ByteArray), (⟨#[116, 114, 117, 101]⟩ : ByteArray), (⟨#[117, 110, 116, 105, 108]⟩ : ByteArray), (⟨#[118, 97, 114, 105, 97, 116, 105, 111, 110, 115]⟩ : ByteArray), (⟨#[118, 101, 114, 115, 105, 111, 110]⟩ : ByteArray), (⟨#[119, 104, 101, 110]⟩ : ByteArray)])
variable {E : Env}
theorem s_ref1_Reserved {n : Nat}  {r : (List ByteArray)} (H : p_ref1_Reserved n  = some r) :
    Sp Tryz.prog E 112 [] [] (isA (.ro .unk r.length (cl_str r)) []) := by
  unfold p_ref1_Reserved at H
  refine Sp_fn Tryz.func112 rfl (fun hc hs => ?_)
  refine AWP_reg (Rh 1 2 [] (AOps_done (AWP_reg (AOps_bsl (d := (some 1)) (m := 46) (cs := [sA (⟨#[97, 110, 100]⟩ : ByteArray), sA (⟨#[97, 114, 109, 115]⟩ : ByteArray), sA (⟨#[97, 116, 116, 114, 105, 98, 117, 116, 101]⟩ : ByteArray), sA (⟨#[98, 111, 111, 108]⟩ : ByteArray), sA (⟨#[99, 108, 97, 105, 109, 115]⟩ : ByteArray), sA (⟨#[99, 111, 110, 116, 97, 105, 110, 115]⟩ : ByteArray), sA (⟨#[99, 111, 111, 108]⟩ : ByteArray), sA (⟨#[99, 111, 111, 108, 105, 110, 103]⟩ : ByteArray), sA (⟨#[100, 101, 102, 97, 117, 108, 116]⟩ : ByteArray), sA (⟨#[100, 114, 97, 102, 116]⟩ : ByteArray), sA (⟨#[101, 110, 100, 115]⟩ : ByteArray), sA (⟨#[101, 120, 99, 108, 117, 100, 101]⟩ : ByteArray), sA (⟨#[101, 120, 105, 115, 116, 115]⟩ : ByteArray), sA (⟨#[101, 120, 112, 101, 114, 105, 109, 101, 110, 116]⟩ : ByteArray), sA (⟨#[102, 97, 108, 115, 101]⟩ : ByteArray), sA (⟨#[102, 108, 97, 103]⟩ : ByteArray), sA (⟨#[104, 111, 108, 100, 111, 117, 116]⟩ : ByteArray), sA (⟨#[105, 110]⟩ : ByteArray), sA (⟨#[105, 110, 99, 108, 117, 100, 101]⟩ : ByteArray), sA (⟨#[105, 115]⟩ : ByteArray), sA (⟨#[108, 97, 121, 101, 114]⟩ : ByteArray), sA (⟨#[108, 105, 115, 116]⟩ : ByteArray), sA (⟨#[109, 101, 109, 98, 101, 114]⟩ : ByteArray), sA (⟨#[110, 101, 101, 100, 115]⟩ : ByteArray), sA (⟨#[110, 111, 116]⟩ : ByteArray), sA (⟨#[110, 117, 109, 98, 101, 114]⟩ : ByteArray), sA (⟨#[111, 102, 102]⟩ : ByteArray), sA (⟨#[111, 110]⟩ : ByteArray), sA (⟨#[111, 114]⟩ : ByteArray), sA (⟨#[114, 117, 108, 101]⟩ : ByteArray), sA (⟨#[114, 117, 110, 110, 105, 110, 103]⟩ : ByteArray), sA (⟨#[115, 97, 108, 116]⟩ : ByteArray), sA (⟨#[115, 101, 103, 109, 101, 110, 116]⟩ : ByteArray), sA (⟨#[115, 101, 114, 118, 101]⟩ : ByteArray), sA (⟨#[115, 101, 116, 116, 105, 110, 103, 115]⟩ : ByteArray), sA (⟨#[115, 112, 108, 105, 116]⟩ : ByteArray), sA (⟨#[115, 116, 97, 114, 116, 115]⟩ : ByteArray), sA (⟨#[115, 116, 111, 112, 112, 101, 100]⟩ : ByteArray), sA (⟨#[116, 97, 114, 103, 101, 116]⟩ : ByteArray), sA (⟨#[116, 101, 120, 116]⟩ : ByteArray), sA (⟨#[116, 111]⟩ : ByteArray), sA (⟨#[116, 114, 117, 101]⟩ : ByteArray), sA (⟨#[117, 110, 116, 105, 108]⟩ : ByteArray), sA (⟨#[118, 97, 114, 105, 97, 116, 105, 111, 110, 115]⟩ : ByteArray), sA (⟨#[118, 101, 114, 115, 105, 111, 110]⟩ : ByteArray), sA (⟨#[119, 104, 101, 110]⟩ : ByteArray)]) (by kernel_rfl) ⟨trivial, trivial, trivial, trivial, trivial, trivial, trivial, trivial, trivial, trivial, trivial, trivial, trivial, trivial, trivial, trivial, trivial, trivial, trivial, trivial, trivial, trivial, trivial, trivial, trivial, trivial, trivial, trivial, trivial, trivial, trivial, trivial, trivial, trivial, trivial, trivial, trivial, trivial, trivial, trivial, trivial, trivial, trivial, trivial, trivial, trivial, trivial⟩ ?_))))
  refine Rh 1 2 [(0, .ro .unk ([(⟨#[97, 110, 100]⟩ : ByteArray), (⟨#[97, 114, 109, 115]⟩ : ByteArray), (⟨#[97, 116, 116, 114, 105, 98, 117, 116, 101]⟩ : ByteArray), (⟨#[98, 111, 111, 108]⟩ : ByteArray), (⟨#[99, 108, 97, 105, 109, 115]⟩ : ByteArray), (⟨#[99, 111, 110, 116, 97, 105, 110, 115]⟩ : ByteArray), (⟨#[99, 111, 111, 108]⟩ : ByteArray), (⟨#[99, 111, 111, 108, 105, 110, 103]⟩ : ByteArray), (⟨#[100, 101, 102, 97, 117, 108, 116]⟩ : ByteArray), (⟨#[100, 114, 97, 102, 116]⟩ : ByteArray), (⟨#[101, 110, 100, 115]⟩ : ByteArray), (⟨#[101, 120, 99, 108, 117, 100, 101]⟩ : ByteArray), (⟨#[101, 120, 105, 115, 116, 115]⟩ : ByteArray), (⟨#[101, 120, 112, 101, 114, 105, 109, 101, 110, 116]⟩ : ByteArray), (⟨#[102, 97, 108, 115, 101]⟩ : ByteArray), (⟨#[102, 108, 97, 103]⟩ : ByteArray), (⟨#[104, 111, 108, 100, 111, 117, 116]⟩ : ByteArray), (⟨#[105, 110]⟩ : ByteArray), (⟨#[105, 110, 99, 108, 117, 100, 101]⟩ : ByteArray), (⟨#[105, 115]⟩ : ByteArray), (⟨#[108, 97, 121, 101, 114]⟩ : ByteArray), (⟨#[108, 105, 115, 116]⟩ : ByteArray), (⟨#[109, 101, 109, 98, 101, 114]⟩ : ByteArray), (⟨#[110, 101, 101, 100, 115]⟩ : ByteArray), (⟨#[110, 111, 116]⟩ : ByteArray), (⟨#[110, 117, 109, 98, 101, 114]⟩ : ByteArray), (⟨#[111, 102, 102]⟩ : ByteArray), (⟨#[111, 110]⟩ : ByteArray), (⟨#[111, 114]⟩ : ByteArray), (⟨#[114, 117, 108, 101]⟩ : ByteArray), (⟨#[114, 117, 110, 110, 105, 110, 103]⟩ : ByteArray), (⟨#[115, 97, 108, 116]⟩ : ByteArray), (⟨#[115, 101, 103, 109, 101, 110, 116]⟩ : ByteArray), (⟨#[115, 101, 114, 118, 101]⟩ : ByteArray), (⟨#[115, 101, 116, 116, 105, 110, 103, 115]⟩ : ByteArray), (⟨#[115, 112, 108, 105, 116]⟩ : ByteArray), (⟨#[115, 116, 97, 114, 116, 115]⟩ : ByteArray), (⟨#[115, 116, 111, 112, 112, 101, 100]⟩ : ByteArray), (⟨#[116, 97, 114, 103, 101, 116]⟩ : ByteArray), (⟨#[116, 101, 120, 116]⟩ : ByteArray), (⟨#[116, 111]⟩ : ByteArray), (⟨#[116, 114, 117, 101]⟩ : ByteArray), (⟨#[117, 110, 116, 105, 108]⟩ : ByteArray), (⟨#[118, 97, 114, 105, 97, 116, 105, 111, 110, 115]⟩ : ByteArray), (⟨#[118, 101, 114, 115, 105, 111, 110]⟩ : ByteArray), (⟨#[119, 104, 101, 110]⟩ : ByteArray)]).length (cl_str ([(⟨#[97, 110, 100]⟩ : ByteArray), (⟨#[97, 114, 109, 115]⟩ : ByteArray), (⟨#[97, 116, 116, 114, 105, 98, 117, 116, 101]⟩ : ByteArray), (⟨#[98, 111, 111, 108]⟩ : ByteArray), (⟨#[99, 108, 97, 105, 109, 115]⟩ : ByteArray), (⟨#[99, 111, 110, 116, 97, 105, 110, 115]⟩ : ByteArray), (⟨#[99, 111, 111, 108]⟩ : ByteArray), (⟨#[99, 111, 111, 108, 105, 110, 103]⟩ : ByteArray), (⟨#[100, 101, 102, 97, 117, 108, 116]⟩ : ByteArray), (⟨#[100, 114, 97, 102, 116]⟩ : ByteArray), (⟨#[101, 110, 100, 115]⟩ : ByteArray), (⟨#[101, 120, 99, 108, 117, 100, 101]⟩ : ByteArray), (⟨#[101, 120, 105, 115, 116, 115]⟩ : ByteArray), (⟨#[101, 120, 112, 101, 114, 105, 109, 101, 110, 116]⟩ : ByteArray), (⟨#[102, 97, 108, 115, 101]⟩ : ByteArray), (⟨#[102, 108, 97, 103]⟩ : ByteArray), (⟨#[104, 111, 108, 100, 111, 117, 116]⟩ : ByteArray), (⟨#[105, 110]⟩ : ByteArray), (⟨#[105, 110, 99, 108, 117, 100, 101]⟩ : ByteArray), (⟨#[105, 115]⟩ : ByteArray), (⟨#[108, 97, 121, 101, 114]⟩ : ByteArray), (⟨#[108, 105, 115, 116]⟩ : ByteArray), (⟨#[109, 101, 109, 98, 101, 114]⟩ : ByteArray), (⟨#[110, 101, 101, 100, 115]⟩ : ByteArray), (⟨#[110, 111, 116]⟩ : ByteArray), (⟨#[110, 117, 109, 98, 101, 114]⟩ : ByteArray), (⟨#[111, 102, 102]⟩ : ByteArray), (⟨#[111, 110]⟩ : ByteArray), (⟨#[111, 114]⟩ : ByteArray), (⟨#[114, 117, 108, 101]⟩ : ByteArray), (⟨#[114, 117, 110, 110, 105, 110, 103]⟩ : ByteArray), (⟨#[115, 97, 108, 116]⟩ : ByteArray), (⟨#[115, 101, 103, 109, 101, 110, 116]⟩ : ByteArray), (⟨#[115, 101, 114, 118, 101]⟩ : ByteArray), (⟨#[115, 101, 116, 116, 105, 110, 103, 115]⟩ : ByteArray), (⟨#[115, 112, 108, 105, 116]⟩ : ByteArray), (⟨#[115, 116, 97, 114, 116, 115]⟩ : ByteArray), (⟨#[115, 116, 111, 112, 112, 101, 100]⟩ : ByteArray), (⟨#[116, 97, 114, 103, 101, 116]⟩ : ByteArray), (⟨#[116, 101, 120, 116]⟩ : ByteArray), (⟨#[116, 111]⟩ : ByteArray), (⟨#[116, 114, 117, 101]⟩ : ByteArray), (⟨#[117, 110, 116, 105, 108]⟩ : ByteArray), (⟨#[118, 97, 114, 105, 97, 116, 105, 111, 110, 115]⟩ : ByteArray), (⟨#[118, 101, 114, 115, 105, 111, 110]⟩ : ByteArray), (⟨#[119, 104, 101, 110]⟩ : ByteArray)])))] (AOps_done (AWP_ret ?_))
  have hr := Option.some.inj H
  subst hr
  exact Fin_retn 0 (l := [.ro .unk ([(⟨#[97, 110, 100]⟩ : ByteArray), (⟨#[97, 114, 109, 115]⟩ : ByteArray), (⟨#[97, 116, 116, 114, 105, 98, 117, 116, 101]⟩ : ByteArray), (⟨#[98, 111, 111, 108]⟩ : ByteArray), (⟨#[99, 108, 97, 105, 109, 115]⟩ : ByteArray), (⟨#[99, 111, 110, 116, 97, 105, 110, 115]⟩ : ByteArray), (⟨#[99, 111, 111, 108]⟩ : ByteArray), (⟨#[99, 111, 111, 108, 105, 110, 103]⟩ : ByteArray), (⟨#[100, 101, 102, 97, 117, 108, 116]⟩ : ByteArray), (⟨#[100, 114, 97, 102, 116]⟩ : ByteArray), (⟨#[101, 110, 100, 115]⟩ : ByteArray), (⟨#[101, 120, 99, 108, 117, 100, 101]⟩ : ByteArray), (⟨#[101, 120, 105, 115, 116, 115]⟩ : ByteArray), (⟨#[101, 120, 112, 101, 114, 105, 109, 101, 110, 116]⟩ : ByteArray), (⟨#[102, 97, 108, 115, 101]⟩ : ByteArray), (⟨#[102, 108, 97, 103]⟩ : ByteArray), (⟨#[104, 111, 108, 100, 111, 117, 116]⟩ : ByteArray), (⟨#[105, 110]⟩ : ByteArray), (⟨#[105, 110, 99, 108, 117, 100, 101]⟩ : ByteArray), (⟨#[105, 115]⟩ : ByteArray), (⟨#[108, 97, 121, 101, 114]⟩ : ByteArray), (⟨#[108, 105, 115, 116]⟩ : ByteArray), (⟨#[109, 101, 109, 98, 101, 114]⟩ : ByteArray), (⟨#[110, 101, 101, 100, 115]⟩ : ByteArray), (⟨#[110, 111, 116]⟩ : ByteArray), (⟨#[110, 117, 109, 98, 101, 114]⟩ : ByteArray), (⟨#[111, 102, 102]⟩ : ByteArray), (⟨#[111, 110]⟩ : ByteArray), (⟨#[111, 114]⟩ : ByteArray), (⟨#[114, 117, 108, 101]⟩ : ByteArray), (⟨#[114, 117, 110, 110, 105, 110, 103]⟩ : ByteArray), (⟨#[115, 97, 108, 116]⟩ : ByteArray), (⟨#[115, 101, 103, 109, 101, 110, 116]⟩ : ByteArray), (⟨#[115, 101, 114, 118, 101]⟩ : ByteArray), (⟨#[115, 101, 116, 116, 105, 110, 103, 115]⟩ : ByteArray), (⟨#[115, 112, 108, 105, 116]⟩ : ByteArray), (⟨#[115, 116, 97, 114, 116, 115]⟩ : ByteArray), (⟨#[115, 116, 111, 112, 112, 101, 100]⟩ : ByteArray), (⟨#[116, 97, 114, 103, 101, 116]⟩ : ByteArray), (⟨#[116, 101, 120, 116]⟩ : ByteArray), (⟨#[116, 111]⟩ : ByteArray), (⟨#[116, 114, 117, 101]⟩ : ByteArray), (⟨#[117, 110, 116, 105, 108]⟩ : ByteArray), (⟨#[118, 97, 114, 105, 97, 116, 105, 111, 110, 115]⟩ : ByteArray), (⟨#[118, 101, 114, 115, 105, 111, 110]⟩ : ByteArray), (⟨#[119, 104, 101, 110]⟩ : ByteArray)]).length (cl_str ([(⟨#[97, 110, 100]⟩ : ByteArray), (⟨#[97, 114, 109, 115]⟩ : ByteArray), (⟨#[97, 116, 116, 114, 105, 98, 117, 116, 101]⟩ : ByteArray), (⟨#[98, 111, 111, 108]⟩ : ByteArray), (⟨#[99, 108, 97, 105, 109, 115]⟩ : ByteArray), (⟨#[99, 111, 110, 116, 97, 105, 110, 115]⟩ : ByteArray), (⟨#[99, 111, 111, 108]⟩ : ByteArray), (⟨#[99, 111, 111, 108, 105, 110, 103]⟩ : ByteArray), (⟨#[100, 101, 102, 97, 117, 108, 116]⟩ : ByteArray), (⟨#[100, 114, 97, 102, 116]⟩ : ByteArray), (⟨#[101, 110, 100, 115]⟩ : ByteArray), (⟨#[101, 120, 99, 108, 117, 100, 101]⟩ : ByteArray), (⟨#[101, 120, 105, 115, 116, 115]⟩ : ByteArray), (⟨#[101, 120, 112, 101, 114, 105, 109, 101, 110, 116]⟩ : ByteArray), (⟨#[102, 97, 108, 115, 101]⟩ : ByteArray), (⟨#[102, 108, 97, 103]⟩ : ByteArray), (⟨#[104, 111, 108, 100, 111, 117, 116]⟩ : ByteArray), (⟨#[105, 110]⟩ : ByteArray), (⟨#[105, 110, 99, 108, 117, 100, 101]⟩ : ByteArray), (⟨#[105, 115]⟩ : ByteArray), (⟨#[108, 97, 121, 101, 114]⟩ : ByteArray), (⟨#[108, 105, 115, 116]⟩ : ByteArray), (⟨#[109, 101, 109, 98, 101, 114]⟩ : ByteArray), (⟨#[110, 101, 101, 100, 115]⟩ : ByteArray), (⟨#[110, 111, 116]⟩ : ByteArray), (⟨#[110, 117, 109, 98, 101, 114]⟩ : ByteArray), (⟨#[111, 102, 102]⟩ : ByteArray), (⟨#[111, 110]⟩ : ByteArray), (⟨#[111, 114]⟩ : ByteArray), (⟨#[114, 117, 108, 101]⟩ : ByteArray), (⟨#[114, 117, 110, 110, 105, 110, 103]⟩ : ByteArray), (⟨#[115, 97, 108, 116]⟩ : ByteArray), (⟨#[115, 101, 103, 109, 101, 110, 116]⟩ : ByteArray), (⟨#[115, 101, 114, 118, 101]⟩ : ByteArray), (⟨#[115, 101, 116, 116, 105, 110, 103, 115]⟩ : ByteArray), (⟨#[115, 112, 108, 105, 116]⟩ : ByteArray), (⟨#[115, 116, 97, 114, 116, 115]⟩ : ByteArray), (⟨#[115, 116, 111, 112, 112, 101, 100]⟩ : ByteArray), (⟨#[116, 97, 114, 103, 101, 116]⟩ : ByteArray), (⟨#[116, 101, 120, 116]⟩ : ByteArray), (⟨#[116, 111]⟩ : ByteArray), (⟨#[116, 114, 117, 101]⟩ : ByteArray), (⟨#[117, 110, 116, 105, 108]⟩ : ByteArray), (⟨#[118, 97, 114, 105, 97, 116, 105, 111, 110, 115]⟩ : ByteArray), (⟨#[118, 101, 114, 115, 105, 111, 110]⟩ : ByteArray), (⟨#[119, 104, 101, 110]⟩ : ByteArray)]))]) (h' := []) (by kernel_rfl) rfl (Nat.le_of_ble_eq_true rfl) ((by refine Closed_of ?_; exact trivial)) (Frz_sc (scl_cl_str _ _)) ⟨rfl, rfl⟩
end Go.Proofs.YtjhbobacbaikoaaGreatDoor
/- A function of the program as a pure function, and that the program computes it. -/
namespace Go.Proofs.YtjhbobacbaikoaaGreatDoor
open Go
set_option linter.unusedVariables false
set_option linter.unusedSimpArgs false
set_option maxRecDepth 100000
def p_ref1_Word_L1 (n : Nat) (x0 : ByteArray) (v8 : Int) : Option Bool := match n with
| 0 => none
| n + 1 =>
(bif decide (v8 < (szI x0)) then
(rdS x0 v8).bind fun v10 =>
(bif (!((decide (v10 ≥ 97)) && (decide (v10 ≤ 122)))) && ((v8 == 0) || (((!((decide (v10 ≥ 48)) && (decide (v10 ≤ 57)))) && (v10 != 45)) && (v10 != 95))) then
 some (false)
 else
 p_ref1_Word_L1 n x0 (w64 (v8 + 1)))
 else
 some (decide ((szI x0) > 0)))
def p_ref1_Word (n : Nat) (x0 : ByteArray) : Option Bool :=
 p_ref1_Word_L1 n x0 0
variable {E : Env}
theorem s_ref1_Word {n : Nat} {x0 : ByteArray} {r : Bool} (H : p_ref1_Word n x0 = some r) :
    Sp Tryz.prog E 111 [sA x0] [] (isA (bA r) []) := by
  unfold p_ref1_Word at H
  refine Sp_fn Tryz.func111 rfl (fun hc hs => ?_)
  refine AWP_reg (Rh 1 47 [(0, sA x0)] (AOps_done (AWP_seq (AWP_reg (Rh 1 47 [(0, sA x0), (3, iA 0)] (AOps_done (AWP_block ?_)))))))
  refine AWP_loopN (α := Int) (fun v8 => fr 47 [(0, sA x0), (3, iA v8)]) (fun v8 => []) (fun k_ v8 => k_ ≤ n ∧ p_ref1_Word_L1 k_ x0 v8 = some r) (fun n v8 H => ?_) (k := n) 0 ⟨Nat.le_refl _, H⟩ (Norm_fd [0, 3] 0 (by kernel_rfl) rfl rfl trivial (by refine scL_fr ?_; exact ⟨trivial, trivial, trivial⟩))
  show AWP _ _ _ _ _ (fr 47 [(0, sA x0), (3, iA v8)]) []
  obtain ⟨hb_, H⟩ := H
  replace H : p_ref1_Word_L1 n x0 v8 = some r := H
  cases n with
  | zero => exact not_none (by simpa only [p_ref1_Word_L1] using H)
  | succ n =>
    unfold p_ref1_Word_L1 at H
    refine AWP_seq (AWP_reg (Rh 4 47 [(0, sA x0), (3, iA v8), (9, bA (decide (v8 < (szI x0))))] (AOps_done (CD H (fun hb9 H => ?_) (fun hb9 H => ?_)))))
    · refine AWP_skip ?_
      show AWP _ _ _ _ _ _ _
      refine AWP_seq (AWP_block ?_)
      refine AWP_reg (Rh 2 47 [(0, sA x0), (3, iA v8), (12, sA x0), (13, iA v8)] ?_)
      obtain ⟨v10, hv10, H⟩ := bind_some H
      refine AOps_sindex (d := (some 14)) (by kernel_rfl) hv10 ?_
      refine Rh 1 47 [(0, sA x0), (3, iA v8), (4, iK .u8 v10)] (AOps_done (AWP_reg (Rh 3 47 [(0, sA x0), (3, iA v8), (4, iK .u8 v10), (17, bA (decide (v10 ≥ 97)))] (AOps_run 3 [0, 3, 4, 20] (st' := fr 47 [(0, sA x0), (3, iA v8), (4, iK .u8 v10), (20, bA ((decide (v10 ≥ 97)) && (decide (v10 ≤ 122))))]) (h' := []) (by (generalize (decide (v10 ≥ 97)) = t0; cases t0 <;> kernel_rfl)) ?_))))
      refine Rh 1 47 [(0, sA x0), (3, iA v8), (4, iK .u8 v10), (5, bA ((decide (v10 ≥ 97)) && (decide (v10 ≤ 122))))] (AOps_done (AWP_reg (Rh 3 47 [(0, sA x0), (3, iA v8), (4, iK .u8 v10), (23, bA (!((decide (v10 ≥ 97)) && (decide (v10 ≤ 122)))))] (AOps_cut 20 (st' := fr 47 [(0, sA x0), (3, iA v8), (43, bA ((!((decide (v10 ≥ 97)) && (decide (v10 ≤ 122)))) && ((v8 == 0) || (((!((decide (v10 ≥ 48)) && (decide (v10 ≤ 57)))) && (v10 != 45)) && (v10 != 95)))))]) (h' := []) ?_ ?_))))
      rotate_left
      · cases c1 : ((decide (v10 ≥ 97)) && (decide (v10 ≤ 122)) : Bool) with
        | true =>
          refine R 20 47 [(0, sA x0), (3, iA v8), (43, bA ((!true) && ((v8 == 0) || (((!((decide (v10 ≥ 48)) && (decide (v10 ≤ 57)))) && (v10 != 45)) && (v10 != 95)))))] [] ?_
          exact AOps_here [0, 3, 43] (by kernel_rfl) rfl
        | false =>
          refine R 3 47 [(0, sA x0), (3, iA v8), (4, iK .u8 v10), (23, bA (!false)), (26, bA (v8 == 0))] [] ?_
          cases c2 : (v8 == 0 : Bool) with
          | true =>
            refine R 17 47 [(0, sA x0), (3, iA v8), (43, bA ((!false) && (true || (((!((decide (v10 ≥ 48)) && (decide (v10 ≤ 57)))) && (v10 != 45)) && (v10 != 95)))))] [] ?_
            exact AOps_here [0, 3, 43] (by kernel_rfl) rfl
          | false =>
            refine R 3 47 [(0, sA x0), (3, iA v8), (4, iK .u8 v10), (23, bA (!false)), (26, bA false), (29, bA (decide (v10 ≥ 48)))] [] ?_
            cases c3 : (decide (v10 ≥ 48) : Bool) with
            | true =>
              refine R 5 47 [(0, sA x0), (3, iA v8), (4, iK .u8 v10), (23, bA (!false)), (26, bA false), (34, bA (!(true && (decide (v10 ≤ 57)))))] [] ?_
              cases c4 : (decide (v10 ≤ 57) : Bool) with
              | true =>
                refine R 9 47 [(0, sA x0), (3, iA v8), (43, bA ((!false) && (false || (((!(true && true)) && (v10 != 45)) && (v10 != 95)))))] [] ?_
                exact AOps_here [0, 3, 43] (by kernel_rfl) rfl
              | false =>
                refine R 4 47 [(0, sA x0), (3, iA v8), (4, iK .u8 v10), (23, bA (!false)), (26, bA false), (38, bA ((!(true && false)) && (v10 != 45)))] [] ?_
                cases c5 : (v10 != 45 : Bool) with
                | true =>
                  refine R 5 47 [(0, sA x0), (3, iA v8), (43, bA ((!false) && (false || (((!(true && false)) && true) && (v10 != 95)))))] [] ?_
                  exact AOps_here [0, 3, 43] (by kernel_rfl) rfl
                | false =>
                  refine R 5 47 [(0, sA x0), (3, iA v8), (43, bA ((!false) && (false || (((!(true && false)) && false) && (v10 != 95)))))] [] ?_
                  exact AOps_here [0, 3, 43] (by kernel_rfl) rfl
            | false =>
              refine R 9 47 [(0, sA x0), (3, iA v8), (4, iK .u8 v10), (23, bA (!false)), (26, bA false), (38, bA ((!(false && (decide (v10 ≤ 57)))) && (v10 != 45)))] [] ?_
              cases c4 : (v10 != 45 : Bool) with
              | true =>
                refine R 5 47 [(0, sA x0), (3, iA v8), (43, bA ((!false) && (false || (((!(false && (decide (v10 ≤ 57)))) && true) && (v10 != 95)))))] [] ?_
                exact AOps_here [0, 3, 43] (by kernel_rfl) rfl
              | false =>
                refine R 5 47 [(0, sA x0), (3, iA v8), (43, bA ((!false) && (false || (((!(false && (decide (v10 ≤ 57)))) && false) && (v10 != 95)))))] [] ?_
                exact AOps_here [0, 3, 43] (by kernel_rfl) rfl
      refine AOps_done (CD H (fun hb11 H => ?_) (fun hb11 H => ?_))
      · refine AWP_reg (Rh 1 47 [(2, bA false)] (AOps_done ?_))
        exact AWP_ret (FR H)
      · refine AWP_skip ?_
        show AWP _ _ _ _ _ _ _
        refine AWP_region ?_
        refine Rh 3 47 [(0, sA x0), (3, iA (w64 (v8 + 1)))] (AOps_done ?_)
        exact Exists.intro (w64 (v8 + 1)) (Exists.intro n ⟨by omega, ⟨by omega, H⟩, Norm_fd [0, 3] 0 (by kernel_rfl) rfl rfl trivial (by refine scL_fr ?_; exact ⟨trivial, trivial, trivial⟩)⟩)
    · refine AWP_exit ?_
      show AWP _ _ _ _ _ _ _
      refine AWP_reg (Rh 4 47 [(2, bA (decide ((szI x0) > 0)))] (AOps_done ?_))
      exact AWP_ret (FR H)
end Go.Proofs.YtjhbobacbaikoaaGreatDoor
/- A function of the program as a pure function, and that the program computes it. -/
namespace Go.Proofs.YtjhbobacbaikoaaGreatDoor
open Go
set_option linter.unusedVariables false
set_option linter.unusedSimpArgs false
set_option maxRecDepth 100000
def p_ref1_Key_L1 (n : Nat) (x0 : ByteArray) (v3 : (List ByteArray)) (v11 : Int) : Option Bool := match n with
| 0 => none
| n + 1 =>
(bif decide (v11 < (lI v3)) then
(rdO v3 v11).bind fun v13 =>
(bif seq' v13 x0 then
 some (false)
 else
 p_ref1_Key_L1 n x0 v3 (w64 (v11 + 1)))
 else
 some (true))
def p_ref1_Key (n : Nat) (x0 : ByteArray) : Option Bool :=
(p_ref1_Word n x0).bind fun v1 =>
(bif (!v1) || (decide ((szI x0) > 32)) then
 some (false)
 else
(p_ref1_Reserved n ).bind fun v3 =>
 p_ref1_Key_L1 n x0 v3 0)
variable {E : Env}
theorem s_ref1_Key {n : Nat} {x0 : ByteArray} {r : Bool} (H : p_ref1_Key n x0 = some r) :
    Sp Tryz.prog E 67 [sA x0] [] (isA (bA r) []) := by
  unfold p_ref1_Key at H
  refine Sp_fn Tryz.func67 rfl (fun hc hs => ?_)
  refine AWP_reg (Rh 1 26 [(0, sA x0)] (AOps_done (AWP_seq (AWP_reg (Rh 1 26 [(0, sA x0), (5, sA x0)] ?_)))))
  obtain ⟨v1, hv1, H⟩ := bind_some H
  refine AOps_callp (d := (some 6)) (al := [sA x0]) (r := bA v1) (by kernel_rfl) (s_ref1_Word hv1) ⟨trivial, trivial⟩ trivial ?_
  refine Rh 2 26 [(0, sA x0), (8, bA (!v1))] (AOps_run 4 [0, 12] (st' := fr 26 [(0, sA x0), (12, bA ((!v1) || (decide ((szI x0) > 32))))]) (h' := []) (by (generalize v1 = t0; cases t0 <;> kernel_rfl)) ?_)
  refine AOps_done (CD H (fun hb2 H => ?_) (fun hb2 H => ?_))
  · refine AWP_reg (Rh 1 26 [(2, bA false)] (AOps_done ?_))
    exact AWP_ret (FR H)
  · refine AWP_skip ?_
    show AWP _ _ _ _ _ _ _
    refine AWP_reg ?_
    obtain ⟨v3, hv3, H⟩ := bind_some H
    refine AOps_callp (d := (some 13)) (al := []) (r := .ro .unk v3.length (cl_str v3)) (by kernel_rfl) (s_ref1_Reserved hv3) trivial (scl_cl_str _ _) ?_
    refine Rh 1 26 [(0, sA x0), (3, .ro .unk v3.length (cl_str v3))] (AOps_done (AWP_seq (AWP_reg (Rh 1 26 [(0, sA x0), (3, .ro .unk v3.length (cl_str v3)), (4, iA 0)] (AOps_done (AWP_block ?_))))))
    refine AWP_loopN (α := Int) (fun v11 => fr 26 [(0, sA x0), (3, .ro .unk v3.length (cl_str v3)), (4, iA v11)]) (fun v11 => []) (fun k_ v11 => k_ ≤ n ∧ p_ref1_Key_L1 k_ x0 v3 v11 = some r) (fun n v11 H => ?_) (k := n) 0 ⟨Nat.le_refl _, H⟩ (Norm_fd [0, 3, 4] 0 (by kernel_rfl) rfl rfl trivial (by refine scL_fr ?_; exact ⟨trivial, (scl_cl_str _ _), trivial, trivial⟩))
    show AWP _ _ _ _ _ (fr 26 [(0, sA x0), (3, .ro .unk v3.length (cl_str v3)), (4, iA v11)]) []
    obtain ⟨hb_, H⟩ := H
    replace H : p_ref1_Key_L1 n x0 v3 v11 = some r := H
    cases n with
    | zero => exact not_none (by simpa only [p_ref1_Key_L1] using H)
    | succ n =>
      unfold p_ref1_Key_L1 at H
      refine AWP_seq (AWP_reg (Rh 4 26 [(0, sA x0), (3, .ro .unk v3.length (cl_str v3)), (4, iA v11), (17, bA (decide (v11 < (lI v3))))] (AOps_done (CD H (fun hb12 H => ?_) (fun hb12 H => ?_)))))
      · refine AWP_skip ?_
        show AWP _ _ _ _ _ _ _
        refine AWP_seq (AWP_block ?_)
        refine AWP_reg (Rh 2 26 [(0, sA x0), (3, .ro .unk v3.length (cl_str v3)), (4, iA v11), (20, .ro .unk v3.length (cl_str v3)), (21, iA v11)] ?_)
        obtain ⟨v13, hv13, H⟩ := bind_some H
        refine AOps_index (d := (some 22)) (sz := 1) (c := cs_str) (by kernel_rfl) rfl (eq_cl_str _) (fun _ => rfl) (by decide) hv13 (fun tl13 => ?_)
        refine Rh 3 26 [(0, sA x0), (3, .ro .unk v3.length (cl_str v3)), (4, iA v11), (25, bA (seq' v13 x0))] (AOps_done (CD H (fun hb14 H => ?_) (fun hb14 H => ?_)))
        · refine AWP_reg (Rh 1 26 [(2, bA false)] (AOps_done ?_))
          exact AWP_ret (FR H)
        · refine AWP_skip ?_
          show AWP _ _ _ _ _ _ _
          refine AWP_region ?_
          refine Rh 3 26 [(0, sA x0), (3, .ro .unk v3.length (cl_str v3)), (4, iA (w64 (v11 + 1)))] (AOps_done ?_)
          exact Exists.intro (w64 (v11 + 1)) (Exists.intro n ⟨by omega, ⟨by omega, H⟩, Norm_fd [0, 3, 4] 0 (by kernel_rfl) rfl rfl trivial (by refine scL_fr ?_; exact ⟨trivial, (scl_cl_str _ _), trivial, trivial⟩)⟩)
      · refine AWP_exit ?_
        show AWP _ _ _ _ _ _ _
        refine AWP_reg (Rh 1 26 [(2, bA true)] (AOps_done ?_))
        exact AWP_ret (FR H)
end Go.Proofs.YtjhbobacbaikoaaGreatDoor
/- A function of the program as a pure function, and that the program computes it. -/
namespace Go.Proofs.YtjhbobacbaikoaaGreatDoor
open Go
set_option linter.unusedVariables false
set_option linter.unusedSimpArgs false
set_option maxRecDepth 100000
def p_ref1_Valid_L1 (n : Nat) (x0 : ByteArray) (v12 : Int) : Option Bool := match n with
| 0 => none
| n + 1 =>
(bif decide (v12 < (szI x0)) then
(rdS x0 v12).bind fun v14 =>
(bif !(decide (v14 < 32)) then rdS x0 v12 else some 0).bind fun v15 =>
(bif (decide (v14 < 32)) || (v15 == 127) then
 some (false)
 else
 p_ref1_Valid_L1 n x0 (w64 (v12 + 1)))
 else
 some (true))
def p_ref1_Valid (n : Nat) (x0 : ByteArray) : Option Bool :=
(bif !(decide ((szI x0) > 200)) then p_unicode_utf8_ValidString n x0 else some (false)).bind fun v1 =>
(bif (decide ((szI x0) > 200)) || (!v1) then
 some (false)
 else
 p_ref1_Valid_L1 n x0 0)
variable {E : Env}
theorem s_ref1_Valid {n : Nat} (hG : GlobT E) {x0 : ByteArray} {r : Bool} (H : p_ref1_Valid n x0 = some r) :
    Sp Tryz.prog E 68 [sA x0] [] (isA (bA r) []) := by
  unfold p_ref1_Valid at H
  refine Sp_fn Tryz.func68 rfl (fun hc hs => ?_)
  refine AWP_reg (Rh 1 28 [(0, sA x0)] (AOps_done (AWP_seq (AWP_reg (Rh 4 28 [(0, sA x0), (7, bA (decide ((szI x0) > 200)))] ?_)))))
  obtain ⟨v1, hv1, H⟩ := bind_some H
  refine AOps_cut 4 (st' := fr 28 [(0, sA x0), (11, bA ((decide ((szI x0) > 200)) || (!v1)))]) (h' := []) ?_ ?_
  rotate_left
  · cases c1 : (decide ((szI x0) > 200) : Bool) with
    | true =>
      refine R 4 28 [(0, sA x0), (11, bA (true || (!v1)))] [] ?_
      exact AOps_here [0, 11] (by kernel_rfl) rfl
    | false =>
      refine R 1 28 [(0, sA x0), (7, bA false), (8, sA x0)] [] ?_
      have hv1_ := cond_t hv1 (by simp only [c1] <;> rfl)
      refine AOps_callp (d := (some 9)) (al := [sA x0]) (r := bA v1) (by kernel_rfl) (s_unicode_utf8_ValidString hG hv1_) ⟨trivial, trivial⟩ trivial ?_
      refine R 2 28 [(0, sA x0), (11, bA (false || (!v1)))] [] ?_
      exact AOps_here [0, 11] (by kernel_rfl) rfl
  refine AOps_done (CD H (fun hb2 H => ?_) (fun hb2 H => ?_))
  · refine AWP_reg (Rh 1 28 [(2, bA false)] (AOps_done ?_))
    exact AWP_ret (FR H)
  · refine AWP_skip ?_
    show AWP _ _ _ _ _ _ _
    refine AWP_seq (AWP_reg (Rh 1 28 [(0, sA x0), (3, iA 0)] (AOps_done (AWP_block ?_))))
    refine AWP_loopN (α := Int) (fun v12 => fr 28 [(0, sA x0), (3, iA v12)]) (fun v12 => []) (fun k_ v12 => k_ ≤ n ∧ p_ref1_Valid_L1 k_ x0 v12 = some r) (fun n v12 H => ?_) (k := n) 0 ⟨Nat.le_refl _, H⟩ (Norm_fd [0, 3] 0 (by kernel_rfl) rfl rfl trivial (by refine scL_fr ?_; exact ⟨trivial, trivial, trivial⟩))
    show AWP _ _ _ _ _ (fr 28 [(0, sA x0), (3, iA v12)]) []
    obtain ⟨hb_, H⟩ := H
    replace H : p_ref1_Valid_L1 n x0 v12 = some r := H
    cases n with
    | zero => exact not_none (by simpa only [p_ref1_Valid_L1] using H)
    | succ n =>
      unfold p_ref1_Valid_L1 at H
      refine AWP_seq (AWP_reg (Rh 4 28 [(0, sA x0), (3, iA v12), (15, bA (decide (v12 < (szI x0))))] (AOps_done (CD H (fun hb13 H => ?_) (fun hb13 H => ?_)))))
      · refine AWP_skip ?_
        show AWP _ _ _ _ _ _ _
        refine AWP_seq (AWP_block ?_)
        refine AWP_reg (Rh 2 28 [(0, sA x0), (3, iA v12), (18, sA x0), (19, iA v12)] ?_)
        obtain ⟨v14, hv14, H⟩ := bind_some H
        refine AOps_sindex (d := (some 20)) (by kernel_rfl) hv14 ?_
        refine Rh 2 28 [(0, sA x0), (3, iA v12), (22, bA (decide (v14 < 32)))] ?_
        obtain ⟨v15, hv15, H⟩ := bind_some H
        refine AOps_cut 5 (st' := fr 28 [(0, sA x0), (3, iA v12), (27, bA ((decide (v14 < 32)) || (v15 == 127)))]) (h' := []) ?_ ?_
        rotate_left
        · cases c1 : (decide (v14 < 32) : Bool) with
          | true =>
            refine R 5 28 [(0, sA x0), (3, iA v12), (27, bA (true || (v15 == 127)))] [] ?_
            exact AOps_here [0, 3, 27] (by kernel_rfl) rfl
          | false =>
            refine R 2 28 [(0, sA x0), (3, iA v12), (22, bA false), (23, sA x0), (24, iA v12)] [] ?_
            have hv15_ := cond_t hv15 (by simp only [c1] <;> rfl)
            refine AOps_sindex (d := (some 25)) (by kernel_rfl) hv15_ ?_
            refine R 2 28 [(0, sA x0), (3, iA v12), (27, bA (false || (v15 == 127)))] [] ?_
            exact AOps_here [0, 3, 27] (by kernel_rfl) rfl
        refine AOps_done (CD H (fun hb16 H => ?_) (fun hb16 H => ?_))
        · refine AWP_reg (Rh 1 28 [(2, bA false)] (AOps_done ?_))
          exact AWP_ret (FR H)
        · refine AWP_skip ?_
          show AWP _ _ _ _ _ _ _
          refine AWP_region ?_
          refine Rh 3 28 [(0, sA x0), (3, iA (w64 (v12 + 1)))] (AOps_done ?_)
          exact Exists.intro (w64 (v12 + 1)) (Exists.intro n ⟨by omega, ⟨by omega, H⟩, Norm_fd [0, 3] 0 (by kernel_rfl) rfl rfl trivial (by refine scL_fr ?_; exact ⟨trivial, trivial, trivial⟩)⟩)
      · refine AWP_exit ?_
        show AWP _ _ _ _ _ _ _
        refine AWP_reg (Rh 1 28 [(2, bA true)] (AOps_done ?_))
        exact AWP_ret (FR H)
end Go.Proofs.YtjhbobacbaikoaaGreatDoor
/- A function of the program as a pure function, and that the program computes it. -/
namespace Go.Proofs.YtjhbobacbaikoaaGreatDoor
open Go
set_option linter.unusedVariables false
set_option linter.unusedSimpArgs false
set_option maxRecDepth 100000
def p_text_Key_L2 (n : Nat) (x0 : ByteArray) (v10 : (List ByteArray)) (v18 : Int) : Option Bool := match n with
| 0 => none
| n + 1 =>
(bif decide (v18 < (lI v10)) then
(rdO v10 v18).bind fun v20 =>
(bif seq' v20 x0 then
 some (false)
 else
 p_text_Key_L2 n x0 v10 (w64 (v18 + 1)))
 else
 some (true))
def p_text_Key_L1 (n : Nat) (x0 : ByteArray) (v7 : Nat) : Option Bool := match n with
| 0 => none
| n + 1 =>
(bif decide (v7 < x0.size) then
(bif (!((decide ((decR x0 v7) ≥ 97)) && (decide ((decR x0 v7) ≤ 122)))) && ((((v7 : Nat) : Int) == 0) || ((((decide ((decR x0 v7) < 48)) || (decide ((decR x0 v7) > 57))) && ((decR x0 v7) != 45)) && ((decR x0 v7) != 95))) then
 some (false)
 else
 p_text_Key_L1 n x0 (v7 + decW x0 v7))
 else
(p_strings_Fields n (⟨#[97, 110, 100, 32, 97, 114, 109, 115, 32, 97, 116, 116, 114, 105, 98, 117, 116, 101, 32, 98, 111, 111, 108, 32, 99, 108, 97, 105, 109, 115, 32, 99, 111, 110, 116, 97, 105, 110, 115, 32, 99, 111, 111, 108, 32, 99, 111, 111, 108, 105, 110, 103, 32, 100, 101, 102, 97, 117, 108, 116, 32, 100, 114, 97, 102, 116, 32, 101, 110, 100, 115, 32, 101, 120, 99, 108, 117, 100, 101, 32, 101, 120, 105, 115, 116, 115, 32, 101, 120, 112, 101, 114, 105, 109, 101, 110, 116, 32, 102, 97, 108, 115, 101, 32, 102, 108, 97, 103, 32, 104, 111, 108, 100, 111, 117, 116, 32, 105, 110, 32, 105, 110, 99, 108, 117, 100, 101, 32, 105, 115, 32, 108, 97, 121, 101, 114, 32, 108, 105, 115, 116, 32, 109, 101, 109, 98, 101, 114, 32, 110, 101, 101, 100, 115, 32, 110, 111, 116, 32, 110, 117, 109, 98, 101, 114, 32, 111, 102, 102, 32, 111, 110, 32, 111, 114, 32, 114, 117, 108, 101, 32, 114, 117, 110, 110, 105, 110, 103, 32, 115, 97, 108, 116, 32, 115, 101, 103, 109, 101, 110, 116, 32, 115, 101, 114, 118, 101, 32, 115, 101, 116, 116, 105, 110, 103, 115, 32, 115, 112, 108, 105, 116, 32, 115, 116, 97, 114, 116, 115, 32, 115, 116, 111, 112, 112, 101, 100, 32, 116, 97, 114, 103, 101, 116, 32, 116, 101, 120, 116, 32, 116, 111, 32, 116, 114, 117, 101, 32, 117, 110, 116, 105, 108, 32, 118, 97, 114, 105, 97, 116, 105, 111, 110, 115, 32, 118, 101, 114, 115, 105, 111, 110, 32, 119, 104, 101, 110]⟩ : ByteArray)).bind fun v10 =>
 p_text_Key_L2 n x0 v10 0)
def p_text_Key (n : Nat) (x0 : ByteArray) : Option Bool :=
(bif (decide ((szI x0) < 1)) || (decide ((szI x0) > 32)) then
 some (false)
 else
 p_text_Key_L1 n x0 0)
variable {E : Env}
theorem s_text_Key {n : Nat} (hG : GlobT E) {x0 : ByteArray} {r : Bool} (H : p_text_Key n x0 = some r) :
    Sp Tryz.prog E 65 [sA x0] [] (isA (bA r) []) := by
  unfold p_text_Key at H
  refine Sp_fn Tryz.func65 rfl (fun hc hs => ?_)
  refine AWP_reg (Rh 1 60 [(0, sA x0)] (AOps_done (AWP_seq (AWP_reg (Rh 4 60 [(0, sA x0), (11, bA (decide ((szI x0) < 1)))] (AOps_run 4 [0, 15] (st' := fr 60 [(0, sA x0), (15, bA ((decide ((szI x0) < 1)) || (decide ((szI x0) > 32))))]) (h' := []) (by (generalize (decide ((szI x0) < 1)) = t0; cases t0 <;> kernel_rfl)) ?_))))))
  refine AOps_done (CD H (fun hb1 H => ?_) (fun hb1 H => ?_))
  · refine AWP_reg (Rh 1 60 [(2, bA false)] (AOps_done ?_))
    exact AWP_ret (FR H)
  · refine AWP_skip ?_
    show AWP _ _ _ _ _ _ _
    refine AWP_seq (AWP_reg (Rh 1 60 [(0, sA x0), (16, sA x0)] (AOps_range (d := (some 17)) (s := x0) (by kernel_rfl) ?_)))
    refine AOps_done (AWP_block ?_)
    refine AWP_loopN (α := Nat) (fun v7 => fr 60 [(0, sA x0), (17, .ptr 0 0)]) (fun v7 => [.iter x0 v7]) (fun k_ v7 => k_ ≤ n ∧ p_text_Key_L1 k_ x0 v7 = some r) (fun n v7 H => ?_) (k := n) 0 ⟨Nat.le_refl _, H⟩ (Norm_fd [0, 17] 0 (by kernel_rfl) rfl rfl ⟨trivial, trivial⟩ (by refine scL_fr ?_; exact ⟨trivial, (sc_ptr rfl), trivial⟩))
    show AWP _ _ _ _ _ (fr 60 [(0, sA x0), (17, .ptr 0 0)]) [.iter x0 v7]
    obtain ⟨hb_, H⟩ := H
    replace H : p_text_Key_L1 n x0 v7 = some r := H
    cases n with
    | zero => exact not_none (by simpa only [p_text_Key_L1] using H)
    | succ n =>
      unfold p_text_Key_L1 at H
      refine AWP_reg ?_
      cases hb8 : decide (v7 < x0.size) with
      | true =>
        replace H := cond_t H hb8
        refine AOps_next (d := some 18) (id := 0) (s := x0) (p := v7) (by kernel_rfl) (of_decide_eq_true hb8) (h' := [.iter x0 (v7 + decW x0 v7)]) rfl ?_
        refine Rh 1 60 [(0, sA x0), (17, .ptr 0 0), (18, .tup [bA true, iA ((v7 : Nat) : Int), iK .i32 (decR x0 v7)]), (19, bA true)] (AOps_done (AWP_seq (AWP_cond (t := true) (by kernel_rfl) (fun hb => ?_) (fun hb => ?_))))
        · refine AWP_skip ?_
          show AWP _ _ _ _ _ _ _
          refine AWP_block ?_
          refine AWP_reg (Rh 4 60 [(0, sA x0), (3, iA ((v7 : Nat) : Int)), (4, iK .i32 (decR x0 v7)), (17, .ptr 0 0)] (AOps_done (AWP_reg (Rh 3 60 [(0, sA x0), (3, iA ((v7 : Nat) : Int)), (4, iK .i32 (decR x0 v7)), (17, .ptr 0 0), (24, bA (decide ((decR x0 v7) ≥ 97)))] (AOps_run 3 [0, 3, 4, 17, 27] (st' := fr 60 [(0, sA x0), (3, iA ((v7 : Nat) : Int)), (4, iK .i32 (decR x0 v7)), (17, .ptr 0 0), (27, bA ((decide ((decR x0 v7) ≥ 97)) && (decide ((decR x0 v7) ≤ 122))))]) (h' := [.iter x0 (v7 + decW x0 v7)]) (by (generalize (decide ((decR x0 v7) ≥ 97)) = t0; cases t0 <;> kernel_rfl)) ?_)))))
          refine Rh 1 60 [(0, sA x0), (3, iA ((v7 : Nat) : Int)), (4, iK .i32 (decR x0 v7)), (5, bA ((decide ((decR x0 v7) ≥ 97)) && (decide ((decR x0 v7) ≤ 122)))), (17, .ptr 0 0)] (AOps_done (AWP_reg (Rh 3 60 [(0, sA x0), (3, iA ((v7 : Nat) : Int)), (4, iK .i32 (decR x0 v7)), (17, .ptr 0 0), (30, bA (!((decide ((decR x0 v7) ≥ 97)) && (decide ((decR x0 v7) ≤ 122)))))] (AOps_cut 19 (st' := fr 60 [(0, sA x0), (17, .ptr 0 0), (49, bA ((!((decide ((decR x0 v7) ≥ 97)) && (decide ((decR x0 v7) ≤ 122)))) && ((((v7 : Nat) : Int) == 0) || ((((decide ((decR x0 v7) < 48)) || (decide ((decR x0 v7) > 57))) && ((decR x0 v7) != 45)) && ((decR x0 v7) != 95)))))]) (h' := [.iter x0 (v7 + decW x0 v7)]) ?_ ?_))))
          rotate_left
          · cases c1 : ((decide ((decR x0 v7) ≥ 97)) && (decide ((decR x0 v7) ≤ 122)) : Bool) with
            | true =>
              refine R 19 60 [(0, sA x0), (17, .ptr 0 0), (49, bA ((!true) && ((((v7 : Nat) : Int) == 0) || ((((decide ((decR x0 v7) < 48)) || (decide ((decR x0 v7) > 57))) && ((decR x0 v7) != 45)) && ((decR x0 v7) != 95)))))] [.iter x0 (v7 + decW x0 v7)] ?_
              exact AOps_here [0, 17, 49] (by kernel_rfl) rfl
            | false =>
              refine R 3 60 [(0, sA x0), (4, iK .i32 (decR x0 v7)), (17, .ptr 0 0), (30, bA (!false)), (33, bA (((v7 : Nat) : Int) == 0))] [.iter x0 (v7 + decW x0 v7)] ?_
              cases c2 : (((v7 : Nat) : Int) == 0 : Bool) with
              | true =>
                refine R 16 60 [(0, sA x0), (17, .ptr 0 0), (49, bA ((!false) && (true || ((((decide ((decR x0 v7) < 48)) || (decide ((decR x0 v7) > 57))) && ((decR x0 v7) != 45)) && ((decR x0 v7) != 95)))))] [.iter x0 (v7 + decW x0 v7)] ?_
                exact AOps_here [0, 17, 49] (by kernel_rfl) rfl
              | false =>
                refine R 3 60 [(0, sA x0), (4, iK .i32 (decR x0 v7)), (17, .ptr 0 0), (30, bA (!false)), (33, bA false), (36, bA (decide ((decR x0 v7) < 48)))] [.iter x0 (v7 + decW x0 v7)] ?_
                cases c3 : (decide ((decR x0 v7) < 48) : Bool) with
                | true =>
                  refine R 8 60 [(0, sA x0), (4, iK .i32 (decR x0 v7)), (17, .ptr 0 0), (30, bA (!false)), (33, bA false), (44, bA ((true || (decide ((decR x0 v7) > 57))) && ((decR x0 v7) != 45)))] [.iter x0 (v7 + decW x0 v7)] ?_
                  cases c4 : ((decR x0 v7) != 45 : Bool) with
                  | true =>
                    refine R 5 60 [(0, sA x0), (17, .ptr 0 0), (49, bA ((!false) && (false || (((true || (decide ((decR x0 v7) > 57))) && true) && ((decR x0 v7) != 95)))))] [.iter x0 (v7 + decW x0 v7)] ?_
                    exact AOps_here [0, 17, 49] (by kernel_rfl) rfl
                  | false =>
                    refine R 5 60 [(0, sA x0), (17, .ptr 0 0), (49, bA ((!false) && (false || (((true || (decide ((decR x0 v7) > 57))) && false) && ((decR x0 v7) != 95)))))] [.iter x0 (v7 + decW x0 v7)] ?_
                    exact AOps_here [0, 17, 49] (by kernel_rfl) rfl
                | false =>
                  refine R 4 60 [(0, sA x0), (4, iK .i32 (decR x0 v7)), (17, .ptr 0 0), (30, bA (!false)), (33, bA false), (40, bA (false || (decide ((decR x0 v7) > 57))))] [.iter x0 (v7 + decW x0 v7)] ?_
                  cases c4 : (decide ((decR x0 v7) > 57) : Bool) with
                  | true =>
                    refine R 4 60 [(0, sA x0), (4, iK .i32 (decR x0 v7)), (17, .ptr 0 0), (30, bA (!false)), (33, bA false), (44, bA ((false || true) && ((decR x0 v7) != 45)))] [.iter x0 (v7 + decW x0 v7)] ?_
                    cases c5 : ((decR x0 v7) != 45 : Bool) with
                    | true =>
                      refine R 5 60 [(0, sA x0), (17, .ptr 0 0), (49, bA ((!false) && (false || (((false || true) && true) && ((decR x0 v7) != 95)))))] [.iter x0 (v7 + decW x0 v7)] ?_
                      exact AOps_here [0, 17, 49] (by kernel_rfl) rfl
                    | false =>
                      refine R 5 60 [(0, sA x0), (17, .ptr 0 0), (49, bA ((!false) && (false || (((false || true) && false) && ((decR x0 v7) != 95)))))] [.iter x0 (v7 + decW x0 v7)] ?_
                      exact AOps_here [0, 17, 49] (by kernel_rfl) rfl
                  | false =>
                    refine R 9 60 [(0, sA x0), (17, .ptr 0 0), (49, bA ((!false) && (false || (((false || false) && ((decR x0 v7) != 45)) && ((decR x0 v7) != 95)))))] [.iter x0 (v7 + decW x0 v7)] ?_
                    exact AOps_here [0, 17, 49] (by kernel_rfl) rfl
          refine AOps_done (CD H (fun hb9 H => ?_) (fun hb9 H => ?_))
          · refine AWP_reg (Rh 1 60 [(2, bA false)] (AOps_done ?_))
            exact AWP_ret (FR H)
          · refine AWP_skip ?_
            exact Exists.intro (v7 + decW x0 v7) (Exists.intro n ⟨by omega, ⟨by omega, H⟩, Norm_fd [0, 17] 0 (by kernel_rfl) rfl rfl ⟨trivial, trivial⟩ (by refine scL_fr ?_; exact ⟨trivial, (sc_ptr rfl), trivial⟩)⟩)
        · cases hb
      | false =>
        replace H := cond_f H hb8
        refine AOps_next_end (d := some 18) (id := 0) (s := x0) (p := v7) (by kernel_rfl) (of_decide_eq_false hb8) ?_
        refine Rh 1 60 [(0, sA x0), (17, .ptr 0 0), (18, .tup [bA false]), (19, bA false)] (AOps_done (AWP_seq (AWP_cond (t := false) (by kernel_rfl) (fun hb => ?_) (fun hb => ?_))))
        · cases hb
        · refine AWP_exit ?_
          show AWP _ _ _ _ _ _ _
          refine AWP_seq (AWP_reg ?_)
          obtain ⟨v10, hv10, H⟩ := bind_some H
          refine AOps_callp (d := (some 50)) (al := [sA (⟨#[97, 110, 100, 32, 97, 114, 109, 115, 32, 97, 116, 116, 114, 105, 98, 117, 116, 101, 32, 98, 111, 111, 108, 32, 99, 108, 97, 105, 109, 115, 32, 99, 111, 110, 116, 97, 105, 110, 115, 32, 99, 111, 111, 108, 32, 99, 111, 111, 108, 105, 110, 103, 32, 100, 101, 102, 97, 117, 108, 116, 32, 100, 114, 97, 102, 116, 32, 101, 110, 100, 115, 32, 101, 120, 99, 108, 117, 100, 101, 32, 101, 120, 105, 115, 116, 115, 32, 101, 120, 112, 101, 114, 105, 109, 101, 110, 116, 32, 102, 97, 108, 115, 101, 32, 102, 108, 97, 103, 32, 104, 111, 108, 100, 111, 117, 116, 32, 105, 110, 32, 105, 110, 99, 108, 117, 100, 101, 32, 105, 115, 32, 108, 97, 121, 101, 114, 32, 108, 105, 115, 116, 32, 109, 101, 109, 98, 101, 114, 32, 110, 101, 101, 100, 115, 32, 110, 111, 116, 32, 110, 117, 109, 98, 101, 114, 32, 111, 102, 102, 32, 111, 110, 32, 111, 114, 32, 114, 117, 108, 101, 32, 114, 117, 110, 110, 105, 110, 103, 32, 115, 97, 108, 116, 32, 115, 101, 103, 109, 101, 110, 116, 32, 115, 101, 114, 118, 101, 32, 115, 101, 116, 116, 105, 110, 103, 115, 32, 115, 112, 108, 105, 116, 32, 115, 116, 97, 114, 116, 115, 32, 115, 116, 111, 112, 112, 101, 100, 32, 116, 97, 114, 103, 101, 116, 32, 116, 101, 120, 116, 32, 116, 111, 32, 116, 114, 117, 101, 32, 117, 110, 116, 105, 108, 32, 118, 97, 114, 105, 97, 116, 105, 111, 110, 115, 32, 118, 101, 114, 115, 105, 111, 110, 32, 119, 104, 101, 110]⟩ : ByteArray)]) (r := .ro .unk v10.length (cl_str v10)) (by kernel_rfl) (s_strings_Fields hG hv10) ⟨trivial, trivial⟩ (scl_cl_str _ _) ?_
          refine Rh 2 60 [(0, sA x0), (50, .ro .unk v10.length (cl_str v10)), (51, iA (lI v10)), (52, iA 0)] (AOps_done (AWP_block ?_))
          refine AWP_loopN (α := Int) (fun v18 => fr 60 [(0, sA x0), (50, .ro .unk v10.length (cl_str v10)), (51, iA (lI v10)), (52, iA v18)]) (fun v18 => [.iter x0 v7]) (fun k_ v18 => k_ ≤ n ∧ p_text_Key_L2 k_ x0 v10 v18 = some r) (fun n v18 H => ?_) (k := n) 0 ⟨Nat.le_refl _, H⟩ (Norm_fd [0, 50, 51, 52] 0 (by kernel_rfl) rfl rfl ⟨trivial, trivial⟩ (by refine scL_fr ?_; exact ⟨trivial, (scl_cl_str _ _), trivial, trivial, trivial⟩))
          show AWP _ _ _ _ _ (fr 60 [(0, sA x0), (50, .ro .unk v10.length (cl_str v10)), (51, iA (lI v10)), (52, iA v18)]) [.iter x0 v7]
          obtain ⟨hb_, H⟩ := H
          replace H : p_text_Key_L2 n x0 v10 v18 = some r := H
          cases n with
          | zero => exact not_none (by simpa only [p_text_Key_L2] using H)
          | succ n =>
            unfold p_text_Key_L2 at H
            refine AWP_reg (Rh 1 60 [(0, sA x0), (50, .ro .unk v10.length (cl_str v10)), (51, iA (lI v10)), (52, iA v18), (53, bA (decide (v18 < (lI v10))))] (AOps_done (AWP_seq (CD H (fun hb19 H => ?_) (fun hb19 H => ?_)))))
            · refine AWP_skip ?_
              show AWP _ _ _ _ _ _ _
              refine AWP_seq (AWP_block ?_)
              refine AWP_reg ?_
              obtain ⟨v20, hv20, H⟩ := bind_some H
              refine AOps_index (d := (some 54)) (sz := 1) (c := cs_str) (by kernel_rfl) rfl (eq_cl_str _) (fun _ => rfl) (by decide) hv20 (fun tl20 => ?_)
              refine Rh 2 60 [(0, sA x0), (7, sA v20), (50, .ro .unk v10.length (cl_str v10)), (51, iA (lI v10)), (52, iA v18)] (AOps_done (AWP_reg (Rh 3 60 [(0, sA x0), (50, .ro .unk v10.length (cl_str v10)), (51, iA (lI v10)), (52, iA v18), (58, bA (seq' v20 x0))] (AOps_done (CD H (fun hb21 H => ?_) (fun hb21 H => ?_))))))
              · refine AWP_reg (Rh 1 60 [(2, bA false)] (AOps_done ?_))
                exact AWP_ret (FR H)
              · refine AWP_skip ?_
                show AWP _ _ _ _ _ _ _
                refine AWP_region ?_
                refine Rh 2 60 [(0, sA x0), (50, .ro .unk v10.length (cl_str v10)), (51, iA (lI v10)), (52, iA (w64 (v18 + 1)))] (AOps_done ?_)
                exact Exists.intro (w64 (v18 + 1)) (Exists.intro n ⟨by omega, ⟨by omega, H⟩, Norm_fd [0, 50, 51, 52] 0 (by kernel_rfl) rfl rfl ⟨trivial, trivial⟩ (by refine scL_fr ?_; exact ⟨trivial, (scl_cl_str _ _), trivial, trivial, trivial⟩)⟩)
            · refine AWP_exit ?_
              show AWP _ _ _ _ _ _ _
              refine AWP_reg (Rh 1 60 [(2, bA true)] (AOps_done ?_))
              exact AWP_ret (FR H)
end Go.Proofs.YtjhbobacbaikoaaGreatDoor
/- A function of the program as a pure function, and that the program computes it. -/
namespace Go.Proofs.YtjhbobacbaikoaaGreatDoor
open Go
set_option linter.unusedVariables false
set_option linter.unusedSimpArgs false
set_option maxRecDepth 100000
def p_text_Valid_L1 (n : Nat) (x0 : ByteArray) (v8 : Nat) : Option Bool := match n with
| 0 => none
| n + 1 =>
(bif decide (v8 < x0.size) then
(bif (decide ((decR x0 v8) < 32)) || ((decR x0 v8) == 127) then
 some (false)
 else
 p_text_Valid_L1 n x0 (v8 + decW x0 v8))
 else
 some (true))
def p_text_Valid (n : Nat) (x0 : ByteArray) : Option Bool :=
(bif !(decide ((szI x0) > 200)) then p_unicode_utf8_ValidString n x0 else some (false)).bind fun v1 =>
(bif (decide ((szI x0) > 200)) || (!v1) then
 some (false)
 else
 p_text_Valid_L1 n x0 0)
variable {E : Env}
theorem s_text_Valid {n : Nat} (hG : GlobT E) {x0 : ByteArray} {r : Bool} (H : p_text_Valid n x0 = some r) :
    Sp Tryz.prog E 66 [sA x0] [] (isA (bA r) []) := by
  unfold p_text_Valid at H
  refine Sp_fn Tryz.func66 rfl (fun hc hs => ?_)
  refine AWP_reg (Rh 1 24 [(0, sA x0)] (AOps_done (AWP_seq (AWP_reg (Rh 4 24 [(0, sA x0), (8, bA (decide ((szI x0) > 200)))] ?_)))))
  obtain ⟨v1, hv1, H⟩ := bind_some H
  refine AOps_cut 4 (st' := fr 24 [(0, sA x0), (12, bA ((decide ((szI x0) > 200)) || (!v1)))]) (h' := []) ?_ ?_
  rotate_left
  · cases c1 : (decide ((szI x0) > 200) : Bool) with
    | true =>
      refine R 4 24 [(0, sA x0), (12, bA (true || (!v1)))] [] ?_
      exact AOps_here [0, 12] (by kernel_rfl) rfl
    | false =>
      refine R 1 24 [(0, sA x0), (8, bA false), (9, sA x0)] [] ?_
      have hv1_ := cond_t hv1 (by simp only [c1] <;> rfl)
      refine AOps_callp (d := (some 10)) (al := [sA x0]) (r := bA v1) (by kernel_rfl) (s_unicode_utf8_ValidString hG hv1_) ⟨trivial, trivial⟩ trivial ?_
      refine R 2 24 [(0, sA x0), (12, bA (false || (!v1)))] [] ?_
      exact AOps_here [0, 12] (by kernel_rfl) rfl
  refine AOps_done (CD H (fun hb2 H => ?_) (fun hb2 H => ?_))
  · refine AWP_reg (Rh 1 24 [(2, bA false)] (AOps_done ?_))
    exact AWP_ret (FR H)
  · refine AWP_skip ?_
    show AWP _ _ _ _ _ _ _
    refine AWP_seq (AWP_reg (Rh 1 24 [(13, sA x0)] (AOps_range (d := (some 14)) (s := x0) (by kernel_rfl) ?_)))
    refine AOps_done (AWP_block ?_)
    refine AWP_loopN (α := Nat) (fun v8 => fr 24 [(14, .ptr 0 0)]) (fun v8 => [.iter x0 v8]) (fun k_ v8 => k_ ≤ n ∧ p_text_Valid_L1 k_ x0 v8 = some r) (fun n v8 H => ?_) (k := n) 0 ⟨Nat.le_refl _, H⟩ (Norm_fd [14] 0 (by kernel_rfl) rfl rfl ⟨trivial, trivial⟩ (by refine scL_fr ?_; exact ⟨(sc_ptr rfl), trivial⟩))
    show AWP _ _ _ _ _ (fr 24 [(14, .ptr 0 0)]) [.iter x0 v8]
    obtain ⟨hb_, H⟩ := H
    replace H : p_text_Valid_L1 n x0 v8 = some r := H
    cases n with
    | zero => exact not_none (by simpa only [p_text_Valid_L1] using H)
    | succ n =>
      unfold p_text_Valid_L1 at H
      refine AWP_reg ?_
      cases hb9 : decide (v8 < x0.size) with
      | true =>
        replace H := cond_t H hb9
        refine AOps_next (d := some 15) (id := 0) (s := x0) (p := v8) (by kernel_rfl) (of_decide_eq_true hb9) (h' := [.iter x0 (v8 + decW x0 v8)]) rfl ?_
        refine Rh 1 24 [(14, .ptr 0 0), (15, .tup [bA true, iA ((v8 : Nat) : Int), iK .i32 (decR x0 v8)]), (16, bA true)] (AOps_done (AWP_seq (AWP_cond (t := true) (by kernel_rfl) (fun hb => ?_) (fun hb => ?_))))
        · refine AWP_skip ?_
          show AWP _ _ _ _ _ _ _
          refine AWP_block ?_
          refine AWP_reg (Rh 2 24 [(4, iK .i32 (decR x0 v8)), (14, .ptr 0 0)] (AOps_done (AWP_reg (Rh 3 24 [(4, iK .i32 (decR x0 v8)), (14, .ptr 0 0), (20, bA (decide ((decR x0 v8) < 32)))] (AOps_run 3 [14, 23] (st' := fr 24 [(14, .ptr 0 0), (23, bA ((decide ((decR x0 v8) < 32)) || ((decR x0 v8) == 127)))]) (h' := [.iter x0 (v8 + decW x0 v8)]) (by (generalize (decide ((decR x0 v8) < 32)) = t0; cases t0 <;> kernel_rfl)) ?_)))))
          refine AOps_done (CD H (fun hb10 H => ?_) (fun hb10 H => ?_))
          · refine AWP_reg (Rh 1 24 [(2, bA false)] (AOps_done ?_))
            exact AWP_ret (FR H)
          · refine AWP_skip ?_
            exact Exists.intro (v8 + decW x0 v8) (Exists.intro n ⟨by omega, ⟨by omega, H⟩, Norm_fd [14] 0 (by kernel_rfl) rfl rfl ⟨trivial, trivial⟩ (by refine scL_fr ?_; exact ⟨(sc_ptr rfl), trivial⟩)⟩)
        · cases hb
      | false =>
        replace H := cond_f H hb9
        refine AOps_next_end (d := some 15) (id := 0) (s := x0) (p := v8) (by kernel_rfl) (of_decide_eq_false hb9) ?_
        refine Rh 1 24 [(14, .ptr 0 0), (15, .tup [bA false]), (16, bA false)] (AOps_done (AWP_seq (AWP_cond (t := false) (by kernel_rfl) (fun hb => ?_) (fun hb => ?_))))
        · cases hb
        · refine AWP_exit ?_
          show AWP _ _ _ _ _ _ _
          refine AWP_reg (Rh 1 24 [(2, bA true)] (AOps_done ?_))
          exact AWP_ret (FR H)
end Go.Proofs.YtjhbobacbaikoaaGreatDoor
/- Texts and keys: the program's and the reference's answers are alike. -/
namespace Go.Proofs.YtjhbobacbaikoaaGreatDoor
open Go
set_option linter.unusedVariables false
set_option linter.unusedSimpArgs false
set_option maxRecDepth 20000
/-- Behind a byte beyond ASCII the decoder takes bytes beyond ASCII alone. -/
theorem decode_span (s : ByteArray) (p : Nat) (h : p < s.size) (ha : 128 ≤ (s[p]'h).toNat) : p + decW s p ≤ s.size ∧ ∀ j, p ≤ j → (hj : j < p + decW s p) → ∀ hl : j < s.size, 128 ≤ (s[j]'hl).toNat := by
  have hg : ∀ k, (p + k < s.size && (s.get! (p + k)).toNat / 64 == 2) = true → p + k < s.size ∧ ∀ hl : p + k < s.size, 128 ≤ (s[p + k]'hl).toNat := by
    intro k hk
    simp only [Bool.and_eq_true, decide_eq_true_eq, beq_iff_eq] at hk
    refine ⟨hk.1, fun hl => ?_⟩
    have e : s.get! (p + k) = s[p + k]'hl := get_at s (p + k) hl
    rw [e] at hk
    omega
  have h0 : ∀ hl : p < s.size, 128 ≤ (s[p]'hl).toNat := fun _ => ha
  have hn : ¬ (s[p]'h).toNat < 128 := by omega
  unfold decW
  simp only [Utf8.decode, get_at s p h, hn, if_false]
  have one : p + 1 ≤ s.size ∧ ∀ j, p ≤ j → (hj : j < p + 1) → ∀ hl : j < s.size, 128 ≤ (s[j]'hl).toNat := ⟨by omega, fun j h1 h2 hl => by
    obtain rfl : j = p := by omega
    exact h0 hl⟩
  split
  · rename_i hc
    simp only [Bool.and_eq_true] at hc
    have c1 := hg 1 (by simpa using hc.2)
    split
    · refine ⟨by omega, fun j h1 h2 hl => ?_⟩
      have : j = p ∨ j = p + 1 := by omega
      rcases this with rfl | rfl
      · exact h0 hl
      · exact c1.2 hl
    · exact one
  · split
    · rename_i hc
      simp only [Bool.and_eq_true] at hc
      have c1 := hg 1 (by simpa using hc.1.2)
      have c2 := hg 2 (by simpa using hc.2)
      split
      · refine ⟨by omega, fun j h1 h2 hl => ?_⟩
        have : j = p ∨ j = p + 1 ∨ j = p + 2 := by omega
        rcases this with rfl | rfl | rfl
        · exact h0 hl
        · exact c1.2 hl
        · exact c2.2 hl
      · exact one
    · split
      · rename_i hc
        simp only [Bool.and_eq_true] at hc
        have c1 := hg 1 (by simpa using hc.1.1.2)
        have c2 := hg 2 (by simpa using hc.1.2)
        have c3 := hg 3 (by simpa using hc.2)
        split
        · refine ⟨by omega, fun j h1 h2 hl => ?_⟩
          have : j = p ∨ j = p + 1 ∨ j = p + 2 ∨ j = p + 3 := by omega
          rcases this with rfl | rfl | rfl | rfl
          · exact h0 hl
          · exact c1.2 hl
          · exact c2.2 hl
          · exact c3.2 hl
        · exact one
      · exact one
theorem dec_ascii (s : ByteArray) (p : Nat) (h : p < s.size) (ha : (s[p]'h).toNat < 128) : decR s p = ((s[p]'h).toNat : Int) ∧ decW s p = 1 := by
  unfold decR decW
  rw [decode_ascii s p h ha]
  exact ⟨rfl, rfl⟩
theorem dec_high (s : ByteArray) (p : Nat) (h : p < s.size) (ha : 128 ≤ (s[p]'h).toNat) : 128 ≤ decR s p ∧ 1 ≤ decW s p := by
  have := decode_high s p h ha
  unfold decR decW
  omega
/-! texts -/
def okV (l : List UInt8) : Bool := l.all fun b => !(decide ((b.toNat : Int) < 32) || (b.toNat : Int) == 127)
theorem okV_skip (s : ByteArray) : ∀ (w p : Nat), p + w ≤ s.size → (∀ j, p ≤ j → j < p + w → ∀ hl : j < s.size, 128 ≤ (s[j]'hl).toNat) → okV (s.data.toList.drop p) = okV (s.data.toList.drop (p + w))
  | 0, p, _, _ => rfl
  | w + 1, p, h, hh => by
    have hp : p < s.size := by omega
    have hb := hh p (Nat.le_refl _) (by omega) hp
    rw [drop_list hp]
    have ih := okV_skip s w (p + 1) (by omega) (fun j h1 h2 hl => hh j (by omega) (by omega) hl)
    rw [show p + (w + 1) = p + 1 + w by omega, ← ih]
    simp only [okV, List.all_cons]
    rw [decide_eq_false (by omega)]
    have : (((s[p]'hp).toNat : Int) == 127) = false := by simp; omega
    rw [this]
    rfl
theorem text_valid_loop (s : ByteArray) : ∀ (k p : Nat), s.size ≤ p + k → p ≤ s.size → Al fun n => p_text_Valid_L1 n s p = some (okV (s.data.toList.drop p)) := by
  intro k
  induction k with
  | zero =>
    intro p hk hp
    obtain rfl : p = s.size := by omega
    refine Al.succ (.of fun n => ?_)
    simp only [p_text_Valid_L1, Nat.lt_irrefl, decide_false, cond_false]
    rw [size_list, List.drop_length]
    rfl
  | succ k ih =>
    intro p hk hp
    by_cases hl : p < s.size
    · by_cases ha : (s[p]'hl).toNat < 128
      · obtain ⟨e1, e2⟩ := dec_ascii s p hl ha
        refine Al.succ ((ih (p + 1) (by omega) (by omega)).mono fun n h => ?_)
        simp only [p_text_Valid_L1, decide_eq_true hl, cond_true, e1, e2, h]
        rw [drop_list hl]
        simp only [okV, List.all_cons]
        cases (decide (((s[p]'hl).toNat : Int) < 32) || ((s[p]'hl).toNat : Int) == 127) <;> rfl
      · obtain ⟨e1, e2⟩ := dec_high s p hl (by omega)
        obtain ⟨s1, s2⟩ := decode_span s p hl (by omega)
        refine Al.succ ((ih (p + decW s p) (by omega) s1).mono fun n h => ?_)
        simp only [p_text_Valid_L1, decide_eq_true hl, cond_true, h]
        rw [okV_skip s _ p s1 s2, decide_eq_false (by omega)]
        have : (decR s p == 127) = false := by simp; omega
        rw [this]
        rfl
    · obtain rfl : p = s.size := by omega
      refine Al.succ (.of fun n => ?_)
      simp only [p_text_Valid_L1, Nat.lt_irrefl, decide_false, cond_false]
      rw [size_list, List.drop_length]
      rfl
theorem ref1_valid_loop (s : ByteArray) (hs : s.size < 4611686018427387904) : ∀ p : Nat, p ≤ s.size → Al fun n => p_ref1_Valid_L1 n s p = some (okV (s.data.toList.drop p)) := by
  refine loop1 _ s.size (fun p => okV (s.data.toList.drop p)) (fun i hi => .of fun n => ?_) (.of fun n => ?_)
  · simp only [p_ref1_Valid_L1]
    rw [decide_eq_true (by simpa [szI] using hi), rdS_nat hi, w64_add (by omega), drop_list hi]
    simp only [okV, List.all_cons, cond_true, Option.bind_some]
    cases h1 : decide (((s[i]'hi).toNat : Int) < 32) with
    | true => simp
    | false => cases h2 : (((s[i]'hi).toNat : Int) == 127) <;> simp [h1, h2]
  · simp only [p_ref1_Valid_L1, szI, Int.lt_irrefl, decide_false, cond_false]
    rw [size_list, List.drop_length]
    rfl
/-- Valid of both. -/
theorem valid_bi (s : ByteArray) : ∃ b, Al fun n => p_text_Valid n s = some b ∧ p_ref1_Valid n s = some b := by
  by_cases h : s.size > 200
  · refine ⟨false, .of fun n => ?_⟩
    have : decide (szI s > 200) = true := decide_eq_true (by unfold szI; omega)
    simp [p_text_Valid, p_ref1_Valid, this]
  · obtain ⟨u, hu⟩ := ValidString_tot s
    have h2 : decide (szI s > 200) = false := decide_eq_false (by unfold szI; omega)
    have a := text_valid_loop s s.size 0 (by omega) (by omega)
    have b := ref1_valid_loop s (by omega) 0 (by omega)
    refine ⟨u && okV (s.data.toList.drop 0), ((hu.and (a.and b))).mono fun n ⟨e1, e2, e3⟩ => ?_⟩
    have e3 : p_ref1_Valid_L1 n s 0 = some (okV (s.data.toList.drop 0)) := e3
    simp only [p_text_Valid, p_ref1_Valid, h2, e1, e2, e3]
    cases u <;> simp
/-! keys -/
def letterB (b : Int) : Bool := decide (b ≥ 97) && decide (b ≤ 122)
def moreB (b : Int) : Bool := (decide (b ≥ 48) && decide (b ≤ 57)) || b == 45 || b == 95
def wordB : Bool → List UInt8 → Bool
  | _, [] => true
  | f, b :: l => (letterB (b.toNat : Int) || (!f && moreB (b.toNat : Int))) && wordB false l
theorem ref_words : ∃ l : List ByteArray, l.length < 1000 ∧ (∀ n, p_ref1_Reserved n = some l) ∧ ∀ n x, p_text_Key_L1 (n + 1) x x.size = p_text_Key_L2 n x l 0 := by
  refine ⟨_, ?_, fun n => rfl, fun n x => ?_⟩
  · decide
  · simp only [p_text_Key_L1, Nat.lt_irrefl, decide_false, cond_false]
    generalize hw : p_strings_Fields n _ = f
    have e : f = p_ref1_Reserved n := by rw [← hw]; kernel_rfl
    rw [e]
    rfl
theorem words_loop1 (x : ByteArray) (l : List ByteArray) (hl : l.length < 1000) : ∀ i : Nat, i ≤ l.length → Al fun n => p_text_Key_L2 n x l i = some (!(l.drop i).any fun y => seq' y x) := by
  refine loop1 _ l.length (fun i => !(l.drop i).any fun y => seq' y x) (fun i hi => .of fun n => ?_) (.of fun n => ?_)
  · simp only [p_text_Key_L2]
    rw [decide_eq_true (by rw [lI_lt]; exact hi), rdO_nat hi, w64_add (by omega), List.drop_eq_getElem_cons hi]
    simp only [cond_true, Option.bind_some, List.any_cons]
    cases seq' l[i] x <;> simp
  · simp [p_text_Key_L2, lI]
theorem words_loop2 (x : ByteArray) (l : List ByteArray) (hl : l.length < 1000) : ∀ i : Nat, i ≤ l.length → Al fun n => p_ref1_Key_L1 n x l i = some (!(l.drop i).any fun y => seq' y x) := by
  refine loop1 _ l.length (fun i => !(l.drop i).any fun y => seq' y x) (fun i hi => .of fun n => ?_) (.of fun n => ?_)
  · simp only [p_ref1_Key_L1]
    rw [decide_eq_true (by rw [lI_lt]; exact hi), rdO_nat hi, w64_add (by omega), List.drop_eq_getElem_cons hi]
    simp only [cond_true, Option.bind_some, List.any_cons]
    cases seq' l[i] x <;> simp
  · simp [p_ref1_Key_L1, lI]
theorem text_key_loop (s : ByteArray) (b : Bool) (hb : Al fun n => p_text_Key_L1 n s s.size = some b) : ∀ (k p : Nat), p + k = s.size → Al fun n => p_text_Key_L1 n s p = some (wordB (decide (p = 0)) (s.data.toList.drop p) && b) := by
  intro k
  induction k with
  | zero =>
    intro p hk
    obtain rfl : p = s.size := by omega
    refine hb.mono fun n h => ?_
    rw [h]
    rw [show s.data.toList.drop s.size = [] by rw [size_list, List.drop_length]]
    rfl
  | succ k ih =>
    intro p hk
    have hl : p < s.size := by omega
    rw [drop_list hl]
    by_cases ha : (s[p]'hl).toNat < 128
    · obtain ⟨e1, e2⟩ := dec_ascii s p hl ha
      refine Al.succ ((ih (p + 1) (by omega)).mono fun n h => ?_)
      simp only [p_text_Key_L1, decide_eq_true hl, cond_true, e1, e2, h]
      simp only [wordB, letterB, moreB]
      have h0 := cast_beq0 p
      rw [h0, show decide (p + 1 = 0) = false from rfl]
      generalize ((s[p]'hl).toNat : Int) = c
      have e3 := dec_lt c 48
      have e4 := dec_gt c 57
      rw [e3, e4]
      simp only [bne]
      cases decide (c ≥ 97) <;> cases decide (c ≤ 122) <;> cases decide (p = 0) <;> cases decide (c ≥ 48) <;> cases decide (c ≤ 57) <;> cases (c == 45) <;> cases (c == 95) <;> simp
    · obtain ⟨e1, e2⟩ := dec_high s p hl (by omega)
      refine Al.succ (.of fun n => ?_)
      simp only [p_text_Key_L1, decide_eq_true hl, cond_true]
      have f1 : ∀ c : Int, 128 ≤ c → letterB c = false ∧ moreB c = false := by
        intro c hc
        simp only [letterB, moreB, Bool.and_eq_false_iff, Bool.or_eq_false_iff, decide_eq_false_iff_not, beq_eq_false_iff_ne]
        omega
      obtain ⟨g1, g2⟩ := f1 (decR s p) e1
      obtain ⟨g3, g4⟩ := f1 ((s[p]'hl).toNat : Int) (by omega)
      simp only [letterB, moreB] at g1 g2
      simp only [wordB, g3, g4, g1]
      simp only [Bool.or_eq_false_iff] at g2
      have e3 : (decide (decR s p < 48) || decide (decR s p > 57)) = true := by simp; omega
      rw [e3]
      simp only [bne, g2.2, g2.1.2]
      cases ((p : Int) == 0) <;> simp
theorem ref1_word_loop (s : ByteArray) (hs : s.size < 4611686018427387904) : ∀ p : Nat, p ≤ s.size → Al fun n => p_ref1_Word_L1 n s p = some (wordB (decide (p = 0)) (s.data.toList.drop p) && decide (s.size > 0)) := by
  refine loop1 _ s.size (fun p => wordB (decide (p = 0)) (s.data.toList.drop p) && decide (s.size > 0)) (fun i hi => .of fun n => ?_) (.of fun n => ?_)
  · simp only [p_ref1_Word_L1]
    rw [decide_eq_true (by simpa [szI] using hi), rdS_nat hi, w64_add (by omega), drop_list hi]
    simp only [cond_true, Option.bind_some, wordB, letterB, moreB]
    rw [show decide (i + 1 = 0) = false from rfl, decide_eq_true (show s.size > 0 by omega)]
    have h0 := cast_beq0 i
    rw [h0]
    generalize ((s[i]'hi).toNat : Int) = c
    simp only [bne]
    cases decide (c ≥ 97) <;> cases decide (c ≤ 122) <;> cases decide (i = 0) <;> cases decide (c ≥ 48) <;> cases decide (c ≤ 57) <;> cases (c == 45) <;> cases (c == 95) <;> simp
  · simp only [p_ref1_Word_L1, szI, Int.lt_irrefl, decide_false, cond_false]
    rw [show s.data.toList.drop s.size = [] by rw [size_list, List.drop_length]]
    simp [wordB]
/-- Key of both. -/
theorem key_bi (s : ByteArray) (hs : s.size < 4611686018427387904) : ∃ b, Al fun n => p_text_Key n s = some b ∧ p_ref1_Key n s = some b := by
  obtain ⟨l, hl, hR, hF⟩ := ref_words
  have w1 := words_loop1 s l hl 0 (by omega)
  have w2 := words_loop2 s l hl 0 (by omega)
  have hb : Al fun n => p_text_Key_L1 n s s.size = some (!(l.drop 0).any fun y => seq' y s) := Al.succ (w1.mono fun n h => by rw [hF]; exact h)
  have a := text_key_loop s _ hb s.size 0 (by omega)
  have b := ref1_word_loop s hs 0 (by omega)
  generalize (!(l.drop 0).any fun y => seq' y s) = q at a w2
  generalize hw : wordB (decide (0 = 0)) (s.data.toList.drop 0) = w at a b
  refine ⟨decide (s.size > 0) && decide (¬ s.size > 32) && w && q, (a.and (b.and w2)).mono fun n ⟨e1, e2, e3⟩ => ?_⟩
  have e2 : p_ref1_Word_L1 n s 0 = some (w && decide (s.size > 0)) := e2
  have e3 : p_ref1_Key_L1 n s l 0 = some q := e3
  simp only [p_text_Key, p_ref1_Key, p_ref1_Word, hR, e1, e2, e3, Option.bind_some]
  have h1 : decide (szI s < 1) = !decide (s.size > 0) := by unfold szI; by_cases h : s.size > 0 <;> simp [h] <;> omega
  have h2 : decide (szI s > 32) = decide (s.size > 32) := by unfold szI; by_cases h : s.size > 32 <;> simp [h] <;> omega
  rw [h1, h2]
  by_cases c1 : s.size > 0 <;> by_cases c2 : s.size > 32 <;> cases w <;> cases q <;> simp [c1, c2]
end Go.Proofs.YtjhbobacbaikoaaGreatDoor
/- A function of the program as a pure function, and that the program computes it. -/
namespace Go.Proofs.YtjhbobacbaikoaaGreatDoor
open Go
set_option linter.unusedVariables false
set_option linter.unusedSimpArgs false
set_option maxRecDepth 100000
def p_internal_stringslite_HasPrefix (n : Nat) (x0 : ByteArray) (x1 : ByteArray) : Option Bool :=
(bif decide ((szI x0) ≥ (szI x1)) then cutS x0 0 (szI x1) else some ByteArray.empty).bind fun v1 =>
 some ((decide ((szI x0) ≥ (szI x1))) && (seq' v1 x1))
variable {E : Env}
theorem s_internal_stringslite_HasPrefix {n : Nat} {x0 : ByteArray} {x1 : ByteArray} {r : Bool} (H : p_internal_stringslite_HasPrefix n x0 x1 = some r) :
    Sp Tryz.prog E 197 [sA x0, sA x1] [] (isA (bA r) []) := by
  unfold p_internal_stringslite_HasPrefix at H
  refine Sp_fn Tryz.func197 rfl (fun hc hs => ?_)
  refine AWP_reg (Rh 1 18 [(0, sA x0), (1, sA x1)] (AOps_done (AWP_reg (Rh 6 18 [(0, sA x0), (1, sA x1), (10, bA (decide ((szI x0) ≥ (szI x1))))] ?_))))
  obtain ⟨v1, hv1, H⟩ := bind_some H
  refine AOps_cut 7 (st' := fr 18 [(17, bA ((decide ((szI x0) ≥ (szI x1))) && (seq' v1 x1)))]) (h' := []) ?_ ?_
  rotate_left
  · cases c1 : (decide ((szI x0) ≥ (szI x1)) : Bool) with
    | true =>
      refine R 3 18 [(1, sA x1), (10, bA true), (11, sA x0), (13, iA (szI x1))] [] ?_
      have hv1_ := cond_t hv1 (by simp only [c1] <;> rfl)
      refine AOps_scut (d := (some 14)) (by kernel_rfl) hv1_ ?_
      refine R 3 18 [(17, bA (true && (seq' v1 x1)))] [] ?_
      exact AOps_here [17] (by kernel_rfl) rfl
    | false =>
      refine R 7 18 [(17, bA (false && (seq' v1 x1)))] [] ?_
      exact AOps_here [17] (by kernel_rfl) rfl
  refine Rh 1 18 [(4, bA ((decide ((szI x0) ≥ (szI x1))) && (seq' v1 x1)))] (AOps_done ?_)
  exact AWP_ret (FR H)
end Go.Proofs.YtjhbobacbaikoaaGreatDoor
/- A function of the program as a pure function, and that the program computes it. -/
namespace Go.Proofs.YtjhbobacbaikoaaGreatDoor
open Go
set_option linter.unusedVariables false
set_option linter.unusedSimpArgs false
set_option maxRecDepth 100000
def p_internal_stringslite_CutPrefix (n : Nat) (x0 : ByteArray) (x1 : ByteArray) : Option (ByteArray × Bool) :=
(p_internal_stringslite_HasPrefix n x0 x1).bind fun v1 =>
(bif !v1 then
 some (x0, false)
 else
(cutS x0 (szI x1) (szI x0)).bind fun v3 =>
 some (v3, true))
variable {E : Env}
theorem s_internal_stringslite_CutPrefix {n : Nat} {x0 : ByteArray} {x1 : ByteArray} {r : ByteArray × Bool} (H : p_internal_stringslite_CutPrefix n x0 x1 = some r) :
    Sp Tryz.prog E 182 [sA x0, sA x1] [] (isA (.tup [sA r.1, bA r.2]) []) := by
  unfold p_internal_stringslite_CutPrefix at H
  refine Sp_fn Tryz.func182 rfl (fun hc hs => ?_)
  refine AWP_reg (Rh 2 15 [(0, sA x0), (1, sA x1)] (AOps_done (AWP_seq (AWP_reg (Rh 2 15 [(0, sA x0), (1, sA x1), (6, sA x0), (7, sA x1)] ?_)))))
  obtain ⟨v1, hv1, H⟩ := bind_some H
  refine AOps_callp (d := (some 8)) (al := [sA x0, sA x1]) (r := bA v1) (by kernel_rfl) (s_internal_stringslite_HasPrefix hv1) ⟨trivial, trivial, trivial⟩ trivial ?_
  refine Rh 1 15 [(0, sA x0), (1, sA x1), (9, bA (!v1))] (AOps_done (CD H (fun hb2 H => ?_) (fun hb2 H => ?_)))
  · refine AWP_reg (Rh 3 15 [(4, sA x0), (5, bA false)] (AOps_done (AWP_ret ?_)))
    have hr := Option.some.inj H
    subst hr
    exact Fin_retn 0 (l := [sA x0, bA false]) (h' := []) (by kernel_rfl) rfl (Nat.le_of_ble_eq_true rfl) ((by refine Closed_of ?_; exact trivial)) (Frz_sc ⟨trivial, trivial, trivial⟩) ⟨rfl, rfl⟩
  · refine AWP_skip ?_
    show AWP _ _ _ _ _ _ _
    refine AWP_reg (Rh 3 15 [(11, sA x0), (13, iA (szI x1))] ?_)
    obtain ⟨v3, hv3, H⟩ := bind_some H
    refine AOps_scut (d := (some 14)) (by kernel_rfl) hv3 ?_
    refine Rh 2 15 [(4, sA v3), (5, bA true)] (AOps_done (AWP_ret ?_))
    have hr := Option.some.inj H
    subst hr
    exact Fin_retn 0 (l := [sA v3, bA true]) (h' := []) (by kernel_rfl) rfl (Nat.le_of_ble_eq_true rfl) ((by refine Closed_of ?_; exact trivial)) (Frz_sc ⟨trivial, trivial, trivial⟩) ⟨rfl, rfl⟩
end Go.Proofs.YtjhbobacbaikoaaGreatDoor
/- A function of the program as a pure function, and that the program computes it. -/
namespace Go.Proofs.YtjhbobacbaikoaaGreatDoor
open Go
set_option linter.unusedVariables false
set_option linter.unusedSimpArgs false
set_option maxRecDepth 100000
def p_strings_CutPrefix (n : Nat) (x0 : ByteArray) (x1 : ByteArray) : Option (ByteArray × Bool) :=
(p_internal_stringslite_CutPrefix n x0 x1).bind fun v1 =>
 some (v1.1, v1.2)
variable {E : Env}
theorem s_strings_CutPrefix {n : Nat} {x0 : ByteArray} {x1 : ByteArray} {r : ByteArray × Bool} (H : p_strings_CutPrefix n x0 x1 = some r) :
    Sp Tryz.prog E 155 [sA x0, sA x1] [] (isA (.tup [sA r.1, bA r.2]) []) := by
  unfold p_strings_CutPrefix at H
  refine Sp_fn Tryz.func155 rfl (fun hc hs => ?_)
  refine AWP_reg (Rh 2 11 [(0, sA x0), (1, sA x1)] (AOps_done (AWP_reg (Rh 2 11 [(6, sA x0), (7, sA x1)] ?_))))
  obtain ⟨v1, hv1, H⟩ := bind_some H
  refine AOps_callp (d := (some 8)) (al := [sA x0, sA x1]) (r := .tup [sA v1.1, bA v1.2]) (by kernel_rfl) (s_internal_stringslite_CutPrefix hv1) ⟨trivial, trivial, trivial⟩ ⟨trivial, trivial, trivial⟩ ?_
  refine Rh 4 11 [(4, sA v1.1), (5, bA v1.2)] (AOps_done (AWP_ret ?_))
  have hr := Option.some.inj H
  subst hr
  exact Fin_retn 0 (l := [sA v1.1, bA v1.2]) (h' := []) (by kernel_rfl) rfl (Nat.le_of_ble_eq_true rfl) ((by refine Closed_of ?_; exact trivial)) (Frz_sc ⟨trivial, trivial, trivial⟩) ⟨rfl, rfl⟩
end Go.Proofs.YtjhbobacbaikoaaGreatDoor
/- A function of the program as a pure function, and that the program computes it. -/
namespace Go.Proofs.YtjhbobacbaikoaaGreatDoor
open Go
set_option linter.unusedVariables false
set_option linter.unusedSimpArgs false
set_option maxRecDepth 100000
def p_text_ParseNumber_L1 (n : Nat) (x0 : ByteArray) (v1 : ByteArray × Bool) (v9 : Nat) : Option (Int × Int) := match n with
| 0 => none
| n + 1 =>
(bif decide (v9 < v1.1.size) then
(bif (decide ((decR v1.1 v9) < 48)) || (decide ((decR v1.1 v9) > 57)) then
 some (0, 1)
 else
 p_text_ParseNumber_L1 n x0 v1 (v9 + decW v1.1 v9))
 else
(p_strconv_Atoi n x0).bind fun v12 =>
(bif (v12.2 || (decide (v12.1 < (-1099511627776)))) || (decide (v12.1 > 1099511627776)) then
 some (0, 3)
 else
 some (v12.1, 0)))
def p_text_ParseNumber (n : Nat) (x0 : ByteArray) : Option (Int × Int) :=
(p_strings_CutPrefix n x0 (⟨#[45]⟩ : ByteArray)).bind fun v1 =>
(bif !(seq' v1.1 ByteArray.empty) then rdS v1.1 0 else some 0).bind fun v2 =>
(bif (seq' v1.1 ByteArray.empty) || ((v2 == 48) && ((decide ((szI v1.1) > 1)) || v1.2)) then
 some (0, 1)
 else
 p_text_ParseNumber_L1 n x0 v1 0)
variable {E : Env}
theorem s_text_ParseNumber {n : Nat} (hG : GlobT E) {x0 : ByteArray} {r : Int × Int} (H : p_text_ParseNumber n x0 = some r) :
    Sp Tryz.prog E 133 [sA x0] [] (isA (.tup [iA r.1, iA r.2]) []) := by
  unfold p_text_ParseNumber at H
  refine Sp_fn Tryz.func133 rfl (fun hc hs => ?_)
  refine AWP_reg (Rh 2 57 [(0, sA x0)] (AOps_done (AWP_reg (Rh 1 57 [(0, sA x0), (11, sA x0)] ?_))))
  obtain ⟨v1, hv1, H⟩ := bind_some H
  refine AOps_callp (d := (some 12)) (al := [sA x0, sA (⟨#[45]⟩ : ByteArray)]) (r := .tup [sA v1.1, bA v1.2]) (by kernel_rfl) (s_strings_CutPrefix hv1) ⟨trivial, trivial, trivial⟩ ⟨trivial, trivial, trivial⟩ ?_
  refine Rh 5 57 [(0, sA x0), (4, sA v1.1), (5, bA v1.2)] (AOps_done (AWP_seq (AWP_reg (Rh 3 57 [(0, sA x0), (4, sA v1.1), (5, bA v1.2), (17, bA (seq' v1.1 ByteArray.empty))] ?_))))
  obtain ⟨v2, hv2, H⟩ := bind_some H
  refine AOps_cut 12 (st' := fr 57 [(0, sA x0), (4, sA v1.1), (29, bA ((seq' v1.1 ByteArray.empty) || ((v2 == 48) && ((decide ((szI v1.1) > 1)) || v1.2))))]) (h' := []) ?_ ?_
  rotate_left
  · cases c1 : (seq' v1.1 ByteArray.empty : Bool) with
    | true =>
      refine R 12 57 [(0, sA x0), (4, sA v1.1), (29, bA (true || ((v2 == 48) && ((decide ((szI v1.1) > 1)) || v1.2))))] [] ?_
      exact AOps_here [0, 4, 29] (by kernel_rfl) rfl
    | false =>
      refine R 1 57 [(0, sA x0), (4, sA v1.1), (5, bA v1.2), (17, bA false), (18, sA v1.1)] [] ?_
      have hv2_ := cond_t hv2 (by simp only [c1] <;> rfl)
      refine AOps_sindex (d := (some 19)) (by kernel_rfl) hv2_ ?_
      refine R 2 57 [(0, sA x0), (4, sA v1.1), (5, bA v1.2), (17, bA false), (21, bA (v2 == 48))] [] ?_
      cases c2 : (v2 == 48 : Bool) with
      | true =>
        refine R 4 57 [(0, sA x0), (4, sA v1.1), (5, bA v1.2), (17, bA false), (21, bA true), (25, bA (decide ((szI v1.1) > 1)))] [] ?_
        cases c3 : (decide ((szI v1.1) > 1) : Bool) with
        | true =>
          refine R 4 57 [(0, sA x0), (4, sA v1.1), (29, bA (false || (true && (true || v1.2))))] [] ?_
          exact AOps_here [0, 4, 29] (by kernel_rfl) rfl
        | false =>
          refine R 4 57 [(0, sA x0), (4, sA v1.1), (29, bA (false || (true && (false || v1.2))))] [] ?_
          exact AOps_here [0, 4, 29] (by kernel_rfl) rfl
      | false =>
        refine R 8 57 [(0, sA x0), (4, sA v1.1), (29, bA (false || (false && ((decide ((szI v1.1) > 1)) || v1.2))))] [] ?_
        exact AOps_here [0, 4, 29] (by kernel_rfl) rfl
  refine AOps_done (CD H (fun hb3 H => ?_) (fun hb3 H => ?_))
  · refine AWP_reg (Rh 2 57 [(2, iA 0), (3, iA 1)] (AOps_done (AWP_ret ?_)))
    have hr := Option.some.inj H
    subst hr
    exact Fin_retn 0 (l := [iA 0, iA 1]) (h' := []) (by kernel_rfl) rfl (Nat.le_of_ble_eq_true rfl) ((by refine Closed_of ?_; exact trivial)) (Frz_sc ⟨trivial, trivial, trivial⟩) ⟨rfl, rfl⟩
  · refine AWP_skip ?_
    show AWP _ _ _ _ _ _ _
    refine AWP_seq (AWP_reg (Rh 1 57 [(0, sA x0), (30, sA v1.1)] (AOps_range (d := (some 31)) (s := v1.1) (by kernel_rfl) ?_)))
    refine AOps_done (AWP_block ?_)
    refine AWP_loopN (α := Nat) (fun v9 => fr 57 [(0, sA x0), (31, .ptr 0 0)]) (fun v9 => [.iter v1.1 v9]) (fun k_ v9 => k_ ≤ n ∧ p_text_ParseNumber_L1 k_ x0 v1 v9 = some r) (fun n v9 H => ?_) (k := n) 0 ⟨Nat.le_refl _, H⟩ (Norm_fd [0, 31] 0 (by kernel_rfl) rfl rfl ⟨trivial, trivial⟩ (by refine scL_fr ?_; exact ⟨trivial, (sc_ptr rfl), trivial⟩))
    show AWP _ _ _ _ _ (fr 57 [(0, sA x0), (31, .ptr 0 0)]) [.iter v1.1 v9]
    obtain ⟨hb_, H⟩ := H
    replace H : p_text_ParseNumber_L1 n x0 v1 v9 = some r := H
    cases n with
    | zero => exact not_none (by simpa only [p_text_ParseNumber_L1] using H)
    | succ n =>
      unfold p_text_ParseNumber_L1 at H
      refine AWP_reg ?_
      cases hb10 : decide (v9 < v1.1.size) with
      | true =>
        replace H := cond_t H hb10
        refine AOps_next (d := some 32) (id := 0) (s := v1.1) (p := v9) (by kernel_rfl) (of_decide_eq_true hb10) (h' := [.iter v1.1 (v9 + decW v1.1 v9)]) rfl ?_
        refine Rh 1 57 [(0, sA x0), (31, .ptr 0 0), (32, .tup [bA true, iA ((v9 : Nat) : Int), iK .i32 (decR v1.1 v9)]), (33, bA true)] (AOps_done (AWP_seq (AWP_cond (t := true) (by kernel_rfl) (fun hb => ?_) (fun hb => ?_))))
        · refine AWP_skip ?_
          show AWP _ _ _ _ _ _ _
          refine AWP_block ?_
          refine AWP_reg (Rh 2 57 [(0, sA x0), (7, iK .i32 (decR v1.1 v9)), (31, .ptr 0 0)] (AOps_done (AWP_reg (Rh 3 57 [(0, sA x0), (7, iK .i32 (decR v1.1 v9)), (31, .ptr 0 0), (37, bA (decide ((decR v1.1 v9) < 48)))] (AOps_run 3 [0, 31, 40] (st' := fr 57 [(0, sA x0), (31, .ptr 0 0), (40, bA ((decide ((decR v1.1 v9) < 48)) || (decide ((decR v1.1 v9) > 57))))]) (h' := [.iter v1.1 (v9 + decW v1.1 v9)]) (by (generalize (decide ((decR v1.1 v9) < 48)) = t0; cases t0 <;> kernel_rfl)) ?_)))))
          refine AOps_done (CD H (fun hb11 H => ?_) (fun hb11 H => ?_))
          · refine AWP_reg (Rh 2 57 [(2, iA 0), (3, iA 1)] (AOps_done (AWP_ret ?_)))
            have hr := Option.some.inj H
            subst hr
            exact Fin_retn 1 (l := [iA 0, iA 1]) (h' := []) (by kernel_rfl) rfl (Nat.le_of_ble_eq_true rfl) ((by refine Closed_of ?_; exact trivial)) (Frz_sc ⟨trivial, trivial, trivial⟩) ⟨rfl, rfl⟩
          · refine AWP_skip ?_
            exact Exists.intro (v9 + decW v1.1 v9) (Exists.intro n ⟨by omega, ⟨by omega, H⟩, Norm_fd [0, 31] 0 (by kernel_rfl) rfl rfl ⟨trivial, trivial⟩ (by refine scL_fr ?_; exact ⟨trivial, (sc_ptr rfl), trivial⟩)⟩)
        · cases hb
      | false =>
        replace H := cond_f H hb10
        refine AOps_next_end (d := some 32) (id := 0) (s := v1.1) (p := v9) (by kernel_rfl) (of_decide_eq_false hb10) ?_
        refine Rh 1 57 [(0, sA x0), (31, .ptr 0 0), (32, .tup [bA false]), (33, bA false)] (AOps_done (AWP_seq (AWP_cond (t := false) (by kernel_rfl) (fun hb => ?_) (fun hb => ?_))))
        · cases hb
        · refine AWP_exit ?_
          show AWP _ _ _ _ _ _ _
          refine AWP_reg (Rh 1 57 [(42, sA x0)] ?_)
          obtain ⟨v12, hv12, H⟩ := bind_some H
          refine AOps_callE (d := (some 43)) (al := [sA x0]) (by kernel_rfl) (s_strconv_Atoi hG hv12) (fun u12 hu12 => ?_)
          refine Rh 5 57 [(8, iA v12.1), (9, .val u12)] (AOps_done (AWP_seq (AWP_reg (Rh 1 57 [(8, iA v12.1), (46, .val u12)] (AOps_inil (d := (some 47)) (by kernel_rfl) hu12 ?_)))))
          refine Rh 1 57 [(8, iA v12.1), (48, bA v12.2)] (AOps_run 3 [8, 51] (st' := fr 57 [(8, iA v12.1), (51, bA (v12.2 || (decide (v12.1 < (-1099511627776)))))]) (h' := [.iter v1.1 v9]) (by (generalize v12.2 = t0; cases t0 <;> kernel_rfl)) ?_)
          refine Rh 1 57 [(8, iA v12.1), (52, bA (v12.2 || (decide (v12.1 < (-1099511627776)))))] (AOps_run 3 [8, 55] (st' := fr 57 [(8, iA v12.1), (55, bA ((v12.2 || (decide (v12.1 < (-1099511627776)))) || (decide (v12.1 > 1099511627776))))]) (h' := [.iter v1.1 v9]) (by (generalize v12.2 = t0; generalize (decide (v12.1 < (-1099511627776))) = t1; cases t0 <;> cases t1 <;> kernel_rfl)) ?_)
          refine AOps_done (CD H (fun hb13 H => ?_) (fun hb13 H => ?_))
          · refine AWP_reg (Rh 2 57 [(2, iA 0), (3, iA 3)] (AOps_done (AWP_ret ?_)))
            have hr := Option.some.inj H
            subst hr
            exact Fin_retn 1 (l := [iA 0, iA 3]) (h' := []) (by kernel_rfl) rfl (Nat.le_of_ble_eq_true rfl) ((by refine Closed_of ?_; exact trivial)) (Frz_sc ⟨trivial, trivial, trivial⟩) ⟨rfl, rfl⟩
          · refine AWP_skip ?_
            show AWP _ _ _ _ _ _ _
            refine AWP_reg (Rh 3 57 [(2, iA v12.1), (3, iA 0)] (AOps_done (AWP_ret ?_)))
            have hr := Option.some.inj H
            subst hr
            exact Fin_retn 1 (l := [iA v12.1, iA 0]) (h' := []) (by kernel_rfl) rfl (Nat.le_of_ble_eq_true rfl) ((by refine Closed_of ?_; exact trivial)) (Frz_sc ⟨trivial, trivial, trivial⟩) ⟨rfl, rfl⟩
end Go.Proofs.YtjhbobacbaikoaaGreatDoor
/- Numbers in text: the program's and the reference's ParseNumber are alike. -/
namespace Go.Proofs.YtjhbobacbaikoaaGreatDoor
open Go
set_option linter.unusedVariables false
set_option linter.unusedSimpArgs false
def isDig (b : UInt8) : Bool := !(decide ((b.toNat : Int) < 48) || decide ((b.toNat : Int) > 57))
theorem isDig_iff {b : UInt8} : isDig b = true ↔ 48 ≤ b.toNat ∧ b.toNat ≤ 57 := by
  simp [isDig]; omega
/-- What digits spell. -/
def sub48 (n : Nat) : Nat := n - 48
theorem sub48_eq (n : Nat) : sub48 n = n - 48 := by unfold sub48; exact Nat.add_zero _
def stp (acc : Nat) (b : UInt8) : Nat := acc * 10 + sub48 b.toNat
def dval (acc : Nat) (l : List UInt8) : Nat := l.foldl stp acc
theorem dval_nil (acc : Nat) : dval acc [] = acc := rfl
theorem dval_cons (acc : Nat) (b : UInt8) (l : List UInt8) : dval acc (b :: l) = dval (stp acc b) l := by unfold dval; rw [List.foldl_cons]
theorem stp_eq (acc : Nat) (b : UInt8) : stp acc b = acc * 10 + (b.toNat - 48) := by unfold stp; rw [sub48_eq]
theorem dval_ge : ∀ (l : List UInt8) (acc : Nat), acc * 10 ^ l.length ≤ dval acc l
  | [], acc => by rw [dval_nil, List.length_nil, Nat.pow_zero]; omega
  | b :: l, acc => by
    have := dval_ge l (stp acc b)
    rw [dval_cons, List.length_cons, Nat.pow_succ]
    refine Nat.le_trans ?_ this
    rw [Nat.mul_comm (10 ^ l.length) 10, ← Nat.mul_assoc]
    exact Nat.mul_le_mul_right _ (by rw [stp_eq]; omega)
theorem dval_acc (l : List UInt8) (acc : Nat) : acc ≤ dval acc l := by
  have h := dval_ge l acc
  have : 1 ≤ 10 ^ l.length := Nat.one_le_pow _ _ (by decide)
  calc acc = acc * 1 := by omega
    _ ≤ acc * 10 ^ l.length := Nat.mul_le_mul_left _ this
    _ ≤ _ := h
theorem parse_dval : ∀ (l : List UInt8) (acc : Nat), acc < 18446744073709551616 → l.all isDig = true → (Lib.parseUint10 acc l = .ok (dval acc l) ∧ dval acc l < 18446744073709551616) ∨ (Lib.parseUint10 acc l = .range ∧ 18446744073709551616 ≤ dval acc l)
  | [], acc, ha, _ => .inl ⟨rfl, ha⟩
  | b :: l, acc, ha, h => by
    simp only [List.all_cons, Bool.and_eq_true] at h
    have hb := isDig_iff.1 h.1
    have hge := dval_acc l (stp acc b)
    have hst := stp_eq acc b
    have ih := parse_dval l (stp acc b)
    rw [dval_cons]
    unfold Lib.parseUint10
    rw [if_pos hb, ← hst]
    generalize dval (stp acc b) l = q at hge ih ⊢
    generalize stp acc b = a2 at hge ih hst ⊢
    split
    · exact .inr ⟨rfl, by omega⟩
    · split
      · exact .inr ⟨rfl, by omega⟩
      · exact ih (by omega) h.2
/-- The sign, and what stands behind it. -/
def negB (l : List UInt8) : Bool := l.head? == some 45
def digs (l : List UInt8) : List UInt8 := if negB l then l.tail else l
/-- ParseNumber of both. -/
def pn (l : List UInt8) : Int × Int :=
  if (digs l).all isDig = false ∨ digs l = [] ∨ ((digs l).head? = some 48 ∧ ((digs l).length > 1 ∨ negB l = true)) then (0, 1)
  else if dval 0 (digs l) > 1099511627776 then (0, 3)
  else (if negB l then -(dval 0 (digs l) : Int) else (dval 0 (digs l) : Int), 0)
theorem atoi_digs {l : List UInt8} (h : (digs l).all isDig = true) (hne : digs l ≠ []) :
    (∃ v : Int, Lib.atoiAll l = .ok v ∧ v = (if negB l then -(dval 0 (digs l) : Int) else (dval 0 (digs l) : Int))) ∨ (Lib.atoiAll l = .range ∧ 1099511627776 < dval 0 (digs l)) := by
  cases l with
  | nil => simp [digs, negB] at hne
  | cons c r =>
    have hmag : ∀ (m : List UInt8), m = digs (c :: r) → (Lib.parseMag m = .ok (dval 0 (digs (c :: r))) ∧ dval 0 (digs (c :: r)) < 18446744073709551616) ∨ (Lib.parseMag m = .range ∧ 18446744073709551616 ≤ dval 0 (digs (c :: r))) := by
      intro m hm
      subst hm
      unfold Lib.parseMag
      rw [if_neg hne]
      exact parse_dval _ 0 (by decide) h
    by_cases hn : c = 45
    · subst hn
      have e1 : negB (45 :: r) = true := rfl
      have e2 : digs (45 :: r) = r := by simp [digs, e1]
      rcases hmag r e2.symm with ⟨hm, hlt⟩ | ⟨hm, hge⟩
      · simp only [Lib.atoiAll]
        rw [if_pos (.inr rfl), hm]
        simp only
        split
        · rename_i hc; exact absurd rfl hc.1
        · split
          · exact .inr ⟨rfl, by omega⟩
          · exact .inl ⟨_, rfl, rfl⟩
      · simp only [Lib.atoiAll]
        rw [if_pos (.inr rfl), hm]
        exact .inr ⟨rfl, by omega⟩
    · have hn' : c.toNat ≠ 45 := fun e => hn (UInt8.toNat_inj.1 e)
      have e1 : negB (c :: r) = false := by simp [negB, hn]
      have e2 : digs (c :: r) = c :: r := by simp [digs, e1]
      rw [e2] at h
      simp only [List.all_cons, Bool.and_eq_true] at h
      have hc := isDig_iff.1 h.1
      rcases hmag (c :: r) e2.symm with ⟨hm, hlt⟩ | ⟨hm, hge⟩
      · simp only [Lib.atoiAll]
        rw [if_neg (by omega), hm]
        simp only
        split
        · exact .inr ⟨rfl, by omega⟩
        · split
          · rename_i hc2; exact absurd hc2.1 hn'
          · refine .inl ⟨_, rfl, ?_⟩
            rw [e1]; simp [hn']
      · simp only [Lib.atoiAll]
        rw [if_neg (by omega), hm]
        exact .inr ⟨rfl, by omega⟩
/-- Thirteen digits are enough. -/
theorem dval_long {l : List UInt8} (h : l.all isDig = true) (hh : l.head? ≠ some 48) (hl : 13 < l.length) : 1099511627776 < dval 0 l := by
  cases l with
  | nil => simp at hl
  | cons b l =>
    simp only [List.all_cons, Bool.and_eq_true] at h
    have hb := isDig_iff.1 h.1
    have : b.toNat ≠ 48 := fun e => hh (by simp; exact UInt8.toNat_inj.1 e)
    rw [dval_cons]
    have h1 := dval_ge l (stp 0 b)
    have hst := stp_eq 0 b
    have h2 : 10 ^ 13 ≤ 10 ^ l.length := Nat.pow_le_pow_right (by decide) (by simp at hl; omega)
    have h3 : 1 * 10 ^ l.length ≤ stp 0 b * 10 ^ l.length := Nat.mul_le_mul_right _ (by omega)
    have h4 : (10 : Nat) ^ 13 = 10000000000000 := by decide
    generalize dval (stp 0 b) l = q at h1 ⊢
    generalize 10 ^ l.length = e at *
    rw [h4] at h2
    generalize stp 0 b * e = f at *
    omega
theorem dval_le : ∀ (l : List UInt8) (acc : Nat), l.all isDig = true → dval acc l < (acc + 1) * 10 ^ l.length
  | [], acc, _ => by rw [dval_nil, List.length_nil, Nat.pow_zero]; omega
  | b :: l, acc, h => by
    simp only [List.all_cons, Bool.and_eq_true] at h
    have hb := isDig_iff.1 h.1
    have := dval_le l (stp acc b) h.2
    rw [dval_cons, List.length_cons, Nat.pow_succ]
    refine Nat.lt_of_lt_of_le this ?_
    rw [Nat.mul_comm (10 ^ l.length) 10, ← Nat.mul_assoc]
    exact Nat.mul_le_mul_right _ (by rw [stp_eq]; omega)
/-! the digits as a string -/
def dgS (s : ByteArray) : ByteArray := if negB s.data.toList then s.extract 1 s.size else s
theorem ext_list (s : ByteArray) (a b : Nat) : (s.extract a b).data.toList = (s.data.toList.take b).drop a := by
  rw [ByteArray.data_extract, Array.toList_extract]; simp [List.extract, List.drop_take]
theorem dgS_list (s : ByteArray) : (dgS s).data.toList = digs s.data.toList := by
  unfold dgS digs
  split
  · rw [ext_list, size_list, List.take_length, List.drop_one]
  · rfl
theorem dgS_size (s : ByteArray) : (dgS s).size ≤ s.size := by
  unfold dgS
  split
  · rw [ByteArray.size_extract]; omega
  · omega
theorem neg_size {s : ByteArray} (h : negB s.data.toList = true) : 0 < s.size ∧ (dgS s).size + 1 = s.size := by
  have h0 : 0 < s.size := by
    rw [size_list]
    cases hl : s.data.toList with
    | nil => rw [hl] at h; cases h
    | cons _ _ => simp
  refine ⟨h0, ?_⟩
  unfold dgS
  rw [if_pos h, ByteArray.size_extract]; omega
theorem head_dg {s : ByteArray} (h : 0 < s.size) : s.data.toList.head? = some (s[0]'h) := by
  have := drop_list h
  rw [List.drop_zero] at this
  rw [this]; rfl
theorem cut_prefix (n : Nat) (s : ByteArray) : p_strings_CutPrefix n s (⟨#[45]⟩ : ByteArray) = some (dgS s, negB s.data.toList) := by
  have hz : szI (⟨#[45]⟩ : ByteArray) = 1 := rfl
  unfold p_strings_CutPrefix p_internal_stringslite_CutPrefix p_internal_stringslite_HasPrefix
  rw [hz]
  by_cases h : 0 < s.size
  · have hs : decide (szI s ≥ 1) = true := decide_eq_true (by unfold szI; omega)
    have hc : cutS s 0 1 = some (s.extract 0 1) := by
      have h1 : decide ((0 : Int) ≤ 0) = true := rfl
      have h2 : decide ((0 : Int) ≤ 1) = true := rfl
      have h3 : decide ((1 : Int) ≤ s.size) = true := decide_eq_true (by omega)
      unfold cutS; rw [h1, h2, h3]; rfl
    have hq : seq' (s.extract 0 1) ⟨#[45]⟩ = negB s.data.toList := by
      rw [seq_eq]
      unfold negB
      rw [head_dg h]
      have hl : (s.extract 0 1).data.toList = [s[0]'h] := by
        rw [ext_list, List.drop_zero]
        have := drop_list h
        rw [List.drop_zero] at this
        rw [this]; rfl
      by_cases he : s[0]'h = 45
      · rw [he]
        refine decide_eq_true ?_
        rw [he] at hl
        generalize s.extract 0 1 = e at hl
        obtain ⟨⟨l⟩⟩ := e
        simp at hl; rw [hl]
      · rw [decide_eq_false (fun e => he (by rw [e] at hl; simpa using hl.symm))]
        simp [he]
    rw [hs, cond_true, hc]
    simp only [Option.bind_some, Bool.true_and, hq]
    cases hn : negB s.data.toList with
    | true =>
      simp only [Bool.not_true, cond_false]
      rw [cutS_some (by unfold szI; omega)]
      simp [dgS, hn]
    | false => simp [dgS, hn]
  · have h0 : s.size = 0 := by omega
    have hs : decide (szI s ≥ 1) = false := decide_eq_false (by unfold szI; omega)
    have hn : negB s.data.toList = false := by
      have : s.data.toList = [] := List.length_eq_zero_iff.1 (by rw [← size_list]; exact h0)
      rw [this]; rfl
    rw [hs]
    simp [hn, dgS]
/-! the loops over the digits -/
theorem text_num_loop (x : ByteArray) (v : ByteArray × Bool) (r : Int × Int) (hb : Al fun n => p_text_ParseNumber_L1 n x v v.1.size = some r) : ∀ (k p : Nat), p + k = v.1.size → Al fun n => p_text_ParseNumber_L1 n x v p = some (if (v.1.data.toList.drop p).all isDig then r else (0, 1)) := by
  intro k
  induction k with
  | zero =>
    intro p hk
    obtain rfl : p = v.1.size := by omega
    refine hb.mono fun n h => ?_
    rw [h, show v.1.data.toList.drop v.1.size = [] by rw [size_list, List.drop_length]]
    rfl
  | succ k ih =>
    intro p hk
    have hl : p < v.1.size := by omega
    rw [drop_list hl, List.all_cons]
    by_cases ha : (v.1[p]'hl).toNat < 128
    · obtain ⟨e1, e2⟩ := dec_ascii v.1 p hl ha
      refine Al.succ ((ih (p + 1) (by omega)).mono fun n h => ?_)
      simp only [p_text_ParseNumber_L1, decide_eq_true hl, cond_true, e1, e2, h]
      have hd : (decide (((v.1[p]'hl).toNat : Int) < 48) || decide (((v.1[p]'hl).toNat : Int) > 57)) = !isDig (v.1[p]'hl) := by unfold isDig; rw [Bool.not_not]
      rw [hd]
      cases isDig (v.1[p]'hl) <;> simp
    · obtain ⟨e1, e2⟩ := dec_high v.1 p hl (by omega)
      refine Al.succ (.of fun n => ?_)
      have hd : isDig (v.1[p]'hl) = false := by
        cases hx : isDig (v.1[p]'hl) with
        | false => rfl
        | true => have := isDig_iff.1 hx; omega
      simp only [p_text_ParseNumber_L1, decide_eq_true hl, cond_true, hd]
      rw [decide_eq_true (show decR v.1 p > 57 by omega)]
      simp
theorem text_num_end (x : ByteArray) (hx : x.size ≤ 281474976710656) (hd : (digs x.data.toList).all isDig = true) (hne : digs x.data.toList ≠ []) (v : ByteArray × Bool) :
    Al fun n => p_text_ParseNumber_L1 n x v v.1.size = some (if dval 0 (digs x.data.toList) > 1099511627776 then (0, 3) else (if negB x.data.toList then -(dval 0 (digs x.data.toList) : Int) else (dval 0 (digs x.data.toList) : Int), 0)) := by
  refine Al.succ (.of fun n => ?_)
  simp only [p_text_ParseNumber_L1, Nat.lt_irrefl, decide_false, cond_false, p_strconv_Atoi, decide_eq_true hx, cond_true]
  rcases atoi_digs hd hne with ⟨w, h1, h2⟩ | ⟨h1, h2⟩
  · rw [h1]
    simp only [Option.bind_some, Bool.false_or]
    subst h2
    generalize dval 0 (digs x.data.toList) = q
    by_cases hq : q > 1099511627776
    · rw [if_pos hq]
      cases negB x.data.toList with
      | true =>
        rw [if_pos rfl, decide_eq_true (show -(q : Int) < -1099511627776 by omega)]
        rfl
      | false =>
        rw [if_neg (by decide), decide_eq_true (show (q : Int) > 1099511627776 by omega), Bool.or_true]
        rfl
    · rw [if_neg hq]
      cases negB x.data.toList with
      | true =>
        rw [if_pos rfl, decide_eq_false (show ¬ -(q : Int) < -1099511627776 by omega), decide_eq_false (show ¬ -(q : Int) > 1099511627776 by omega)]
        rfl
      | false =>
        rw [if_neg (by decide), decide_eq_false (show ¬ (q : Int) < -1099511627776 by omega), decide_eq_false (show ¬ (q : Int) > 1099511627776 by omega)]
        rfl
  · rw [h1, if_pos h2]
    simp
theorem text_num (x : ByteArray) (hx : x.size ≤ 281474976710656) : Al fun n => p_text_ParseNumber n x = some (pn x.data.toList) := by
  have hds := dgS_list x
  unfold p_text_ParseNumber
  simp only [cut_prefix, Option.bind_some]
  by_cases h0 : (dgS x).size = 0
  · have hd : digs x.data.toList = [] := by rw [← hds]; exact List.length_eq_zero_iff.1 (by rw [← size_list]; exact h0)
    refine .of fun n => ?_
    simp only [seq_empty, decide_eq_true h0]
    simp [pn, hd]
  · have hp : 0 < (dgS x).size := by omega
    have hd : digs x.data.toList ≠ [] := by
      rw [← hds]; intro e; have := congrArg List.length e; rw [← size_list] at this; exact h0 this
    simp only [seq_empty, decide_eq_false h0, Bool.not_false, cond_true, Bool.false_or]
    have hr : rdS (dgS x) 0 = some (((dgS x)[0]'hp).toNat : Int) := rdS_nat (i := 0) hp
    simp only [hr, Option.bind_some]
    have hh : (digs x.data.toList).head? = some ((dgS x)[0]'hp) := by rw [← hds]; exact head_dg hp
    have hlen : (digs x.data.toList).length = (dgS x).size := by rw [← hds, ← size_list]
    have hq : decide (szI (dgS x) > 1) = decide ((digs x.data.toList).length > 1) := by rw [hlen]; unfold szI; by_cases h : (dgS x).size > 1 <;> simp [h] <;> omega
    have h48 : ((((dgS x)[0]'hp).toNat : Int) == 48) = decide ((dgS x)[0]'hp = 48) := by
      by_cases h : (dgS x)[0]'hp = 48
      · rw [h]; rfl
      · rw [decide_eq_false h, beq_eq_false_iff_ne]
        intro e; exact h (UInt8.toNat_inj.1 (by have : (48 : UInt8).toNat = 48 := rfl; omega))
    rw [hq, h48]
    by_cases hz : (dgS x)[0]'hp = 48 ∧ ((digs x.data.toList).length > 1 ∨ negB x.data.toList = true)
    · refine .of fun n => ?_
      rw [decide_eq_true hz.1]
      have : (decide ((digs x.data.toList).length > 1) || negB x.data.toList) = true := by simpa using hz.2
      rw [this]
      simp only [Bool.and_self, cond_true]
      unfold pn
      rw [if_pos (.inr (.inr ⟨by rw [hh, hz.1], hz.2⟩))]
    · have hb : (decide ((dgS x)[0]'hp = 48) && (decide ((digs x.data.toList).length > 1) || negB x.data.toList)) = false := by
        cases hc : (decide ((dgS x)[0]'hp = 48) && (decide ((digs x.data.toList).length > 1) || negB x.data.toList)) with
        | false => rfl
        | true => exact absurd (by simpa using hc) hz
      simp only [hb, cond_false]
      have hz2 : ¬ ((digs x.data.toList).head? = some 48 ∧ ((digs x.data.toList).length > 1 ∨ negB x.data.toList = true)) := by
        rw [hh]; simpa using hz
      cases ha : (digs x.data.toList).all isDig with
      | true =>
        have := text_num_loop x (dgS x, negB x.data.toList) _ (text_num_end x hx ha hd _) (dgS x).size 0 (by simp)
        refine this.mono fun n h => ?_
        refine h.trans ?_
        rw [List.drop_zero]
        simp only [hds, ha, if_true]
        have hpn : pn x.data.toList = _ := if_neg (fun h => by
          rcases h with h | h | h
          · rw [ha] at h; cases h
          · exact hd h
          · exact hz2 h)
        rw [hpn]
      | false =>
        have hend : ∀ w : ByteArray × Bool, w.1 = dgS x → ∃ r, Al fun n => p_text_ParseNumber_L1 n x w w.1.size = some r := by
          intro w hw
          refine ⟨(match Lib.atoiAll x.data.toList with
            | .ok v => if (decide (v < -1099511627776) || decide (v > 1099511627776)) then ((0 : Int), (3 : Int)) else (v, 0)
            | _ => (0, 3)), Al.succ (.of fun n => ?_)⟩
          simp only [p_text_ParseNumber_L1, Nat.lt_irrefl, decide_false, cond_false, p_strconv_Atoi, decide_eq_true hx, cond_true]
          cases Lib.atoiAll x.data.toList with
          | ok v =>
            simp only [Option.bind_some, Bool.false_or]
            cases (decide (v < -1099511627776) || decide (v > 1099511627776)) <;> simp
          | _ => simp
        obtain ⟨r, hr⟩ := hend (dgS x, negB x.data.toList) rfl
        have := text_num_loop x (dgS x, negB x.data.toList) r hr (dgS x).size 0 (by simp)
        refine this.mono fun n h => ?_
        refine h.trans ?_
        rw [List.drop_zero]
        simp only [hds, ha]
        have hpn : pn x.data.toList = (0, 1) := if_pos (.inl ha)
        rw [hpn]
        rfl
end Go.Proofs.YtjhbobacbaikoaaGreatDoor
/- A function of the program as a pure function, and that the program computes it. -/
namespace Go.Proofs.YtjhbobacbaikoaaGreatDoor
open Go
set_option linter.unusedVariables false
set_option linter.unusedSimpArgs false
set_option maxRecDepth 100000
def p_ref1_ParseNumber_K2 (n : Nat) (v34 : Int) : Option (Int × Int) := match n with
| 0 => none
| n + 1 =>
 some (v34, 0)
def p_ref1_ParseNumber_L2 (n : Nat) (x0 : ByteArray) (v4 : ByteArray) (v28 : Int) (v29 : Int) : Option (Int × Int) := match n with
| 0 => none
| n + 1 =>
(bif decide (v29 < (szI v4)) then
(rdS v4 v29).bind fun v31 =>
 p_ref1_ParseNumber_L2 n x0 v4 (w64 ((w64 (10 * v28)) + (w64 (IntKind.u8.wrap (v31 - 48))))) (w64 (v29 + 1))
 else
(bif decide (v28 > 1099511627776) then
 some (0, 3)
 else
(bif decide ((szI v4) < (szI x0)) then
 p_ref1_ParseNumber_K2 n  (w64 (0 - v28))
 else
 p_ref1_ParseNumber_K2 n  v28)))
def p_ref1_ParseNumber_L1 (n : Nat) (x0 : ByteArray) (v4 : ByteArray) (v14 : Int) : Option (Int × Int) := match n with
| 0 => none
| n + 1 =>
(bif decide (v14 < (szI v4)) then
(rdS v4 v14).bind fun v16 =>
(bif !(decide (v16 < 48)) then rdS v4 v14 else some 0).bind fun v17 =>
(bif (decide (v16 < 48)) || (decide (v17 > 57)) then
 some (0, 1)
 else
 p_ref1_ParseNumber_L1 n x0 v4 (w64 (v14 + 1)))
 else
(bif !(seq' v4 ByteArray.empty) then rdS v4 0 else some 0).bind fun v19 =>
(bif (seq' v4 ByteArray.empty) || ((v19 == 48) && (!(seq' x0 (⟨#[48]⟩ : ByteArray)))) then
 some (0, 1)
 else
(bif decide ((szI v4) > 13) then
 some (0, 3)
 else
 p_ref1_ParseNumber_L2 n x0 v4 0 0)))
def p_ref1_ParseNumber_K1 (n : Nat) (x0 : ByteArray) (v4 : ByteArray) : Option (Int × Int) :=
 p_ref1_ParseNumber_L1 n x0 v4 0
def p_ref1_ParseNumber (n : Nat) (x0 : ByteArray) : Option (Int × Int) :=
(bif decide ((szI x0) > 0) then rdS x0 0 else some 0).bind fun v36 =>
(bif (decide ((szI x0) > 0)) && (v36 == 45) then
(cutS x0 1 (szI x0)).bind fun v38 =>
 p_ref1_ParseNumber_K1 n x0 v38
 else
 p_ref1_ParseNumber_K1 n x0 x0)
variable {E : Env}
theorem s_ref1_ParseNumber {n : Nat} {x0 : ByteArray} {r : Int × Int} (H : p_ref1_ParseNumber n x0 = some r) :
    Sp Tryz.prog E 157 [sA x0] [] (isA (.tup [iA r.1, iA r.2]) []) := by
  unfold p_ref1_ParseNumber at H
  refine Sp_fn Tryz.func157 rfl (fun hc hs => ?_)
  refine AWP_reg (Rh 2 73 [(0, sA x0)] (AOps_done (AWP_reg (Rh 2 73 [(0, sA x0), (4, sA x0)] (AOps_done (AWP_joinN (α := ByteArray) (fun v4 => fr 73 [(0, sA x0), (4, sA v4)]) (fun v4 => []) (fun v4 => ∃ q, q ≤ q ∧ p_ref1_ParseNumber_K1 q x0 v4 = some r) (fun v4 hC => ?_) ?_))))))
  · show AWP _ _ _ _ _ (fr 73 [(0, sA x0), (4, sA v4)]) []
    obtain ⟨n, hn_, hC⟩ := hC
    replace H : p_ref1_ParseNumber_K1 n x0 v4 = some r := hC
    unfold p_ref1_ParseNumber_K1 at H
    refine AWP_seq (AWP_reg (Rh 1 73 [(0, sA x0), (4, sA v4), (5, iA 0)] (AOps_done (AWP_block ?_))))
    refine AWP_loopN (α := Int) (fun v14 => fr 73 [(0, sA x0), (4, sA v4), (5, iA v14)]) (fun v14 => []) (fun k_ v14 => k_ ≤ n ∧ p_ref1_ParseNumber_L1 k_ x0 v4 v14 = some r) (fun n v14 H => ?_) (k := n) 0 ⟨Nat.le_refl _, H⟩ (Norm_fd [0, 4, 5] 0 (by kernel_rfl) rfl rfl trivial (by refine scL_fr ?_; exact ⟨trivial, trivial, trivial, trivial⟩))
    show AWP _ _ _ _ _ (fr 73 [(0, sA x0), (4, sA v4), (5, iA v14)]) []
    obtain ⟨hb_, H⟩ := H
    replace H : p_ref1_ParseNumber_L1 n x0 v4 v14 = some r := H
    cases n with
    | zero => exact not_none (by simpa only [p_ref1_ParseNumber_L1] using H)
    | succ n =>
      unfold p_ref1_ParseNumber_L1 at H
      refine AWP_seq (AWP_reg (Rh 4 73 [(0, sA x0), (4, sA v4), (5, iA v14), (22, bA (decide (v14 < (szI v4))))] (AOps_done (CD H (fun hb15 H => ?_) (fun hb15 H => ?_)))))
      · refine AWP_skip ?_
        show AWP _ _ _ _ _ _ _
        refine AWP_seq (AWP_block ?_)
        refine AWP_reg (Rh 2 73 [(0, sA x0), (4, sA v4), (5, iA v14), (25, sA v4), (26, iA v14)] ?_)
        obtain ⟨v16, hv16, H⟩ := bind_some H
        refine AOps_sindex (d := (some 27)) (by kernel_rfl) hv16 ?_
        refine Rh 2 73 [(0, sA x0), (4, sA v4), (5, iA v14), (29, bA (decide (v16 < 48)))] ?_
        obtain ⟨v17, hv17, H⟩ := bind_some H
        refine AOps_cut 5 (st' := fr 73 [(0, sA x0), (4, sA v4), (5, iA v14), (34, bA ((decide (v16 < 48)) || (decide (v17 > 57))))]) (h' := []) ?_ ?_
        rotate_left
        · cases c1 : (decide (v16 < 48) : Bool) with
          | true =>
            refine R 5 73 [(0, sA x0), (4, sA v4), (5, iA v14), (34, bA (true || (decide (v17 > 57))))] [] ?_
            exact AOps_here [0, 4, 5, 34] (by kernel_rfl) rfl
          | false =>
            refine R 2 73 [(0, sA x0), (4, sA v4), (5, iA v14), (29, bA false), (30, sA v4), (31, iA v14)] [] ?_
            have hv17_ := cond_t hv17 (by simp only [c1] <;> rfl)
            refine AOps_sindex (d := (some 32)) (by kernel_rfl) hv17_ ?_
            refine R 2 73 [(0, sA x0), (4, sA v4), (5, iA v14), (34, bA (false || (decide (v17 > 57))))] [] ?_
            exact AOps_here [0, 4, 5, 34] (by kernel_rfl) rfl
        refine AOps_done (CD H (fun hb18 H => ?_) (fun hb18 H => ?_))
        · refine AWP_reg (Rh 2 73 [(2, iA 0), (3, iA 1)] (AOps_done (AWP_ret ?_)))
          have hr := Option.some.inj H
          subst hr
          exact Fin_retn 0 (l := [iA 0, iA 1]) (h' := []) (by kernel_rfl) rfl (Nat.le_of_ble_eq_true rfl) ((by refine Closed_of ?_; exact trivial)) (Frz_sc ⟨trivial, trivial, trivial⟩) ⟨rfl, rfl⟩
        · refine AWP_skip ?_
          show AWP _ _ _ _ _ _ _
          refine AWP_region ?_
          refine Rh 3 73 [(0, sA x0), (4, sA v4), (5, iA (w64 (v14 + 1)))] (AOps_done ?_)
          exact Exists.intro (w64 (v14 + 1)) (Exists.intro n ⟨by omega, ⟨by omega, H⟩, Norm_fd [0, 4, 5] 0 (by kernel_rfl) rfl rfl trivial (by refine scL_fr ?_; exact ⟨trivial, trivial, trivial, trivial⟩)⟩)
      · refine AWP_exit ?_
        show AWP _ _ _ _ _ _ _
        refine AWP_seq (AWP_reg (Rh 3 73 [(0, sA x0), (4, sA v4), (37, bA (seq' v4 ByteArray.empty))] ?_))
        obtain ⟨v19, hv19, H⟩ := bind_some H
        refine AOps_cut 8 (st' := fr 73 [(0, sA x0), (4, sA v4), (45, bA ((seq' v4 ByteArray.empty) || ((v19 == 48) && (!(seq' x0 (⟨#[48]⟩ : ByteArray))))))]) (h' := []) ?_ ?_
        rotate_left
        · cases c1 : (seq' v4 ByteArray.empty : Bool) with
          | true =>
            refine R 8 73 [(0, sA x0), (4, sA v4), (45, bA (true || ((v19 == 48) && (!(seq' x0 (⟨#[48]⟩ : ByteArray))))))] [] ?_
            exact AOps_here [0, 4, 45] (by kernel_rfl) rfl
          | false =>
            refine R 1 73 [(0, sA x0), (4, sA v4), (37, bA false), (38, sA v4)] [] ?_
            have hv19_ := cond_t hv19 (by simp only [c1] <;> rfl)
            refine AOps_sindex (d := (some 39)) (by kernel_rfl) hv19_ ?_
            refine R 2 73 [(0, sA x0), (4, sA v4), (37, bA false), (41, bA (v19 == 48))] [] ?_
            cases c2 : (v19 == 48 : Bool) with
            | true =>
              refine R 4 73 [(0, sA x0), (4, sA v4), (45, bA (false || (true && (!(seq' x0 (⟨#[48]⟩ : ByteArray))))))] [] ?_
              exact AOps_here [0, 4, 45] (by kernel_rfl) rfl
            | false =>
              refine R 4 73 [(0, sA x0), (4, sA v4), (45, bA (false || (false && (!(seq' x0 (⟨#[48]⟩ : ByteArray))))))] [] ?_
              exact AOps_here [0, 4, 45] (by kernel_rfl) rfl
        refine AOps_done (CD H (fun hb20 H => ?_) (fun hb20 H => ?_))
        · refine AWP_reg (Rh 2 73 [(2, iA 0), (3, iA 1)] (AOps_done (AWP_ret ?_)))
          have hr := Option.some.inj H
          subst hr
          exact Fin_retn 0 (l := [iA 0, iA 1]) (h' := []) (by kernel_rfl) rfl (Nat.le_of_ble_eq_true rfl) ((by refine Closed_of ?_; exact trivial)) (Frz_sc ⟨trivial, trivial, trivial⟩) ⟨rfl, rfl⟩
        · refine AWP_skip ?_
          show AWP _ _ _ _ _ _ _
          refine AWP_seq (AWP_reg (Rh 3 73 [(0, sA x0), (4, sA v4), (48, bA (decide ((szI v4) > 13)))] (AOps_done (CD H (fun hb21 H => ?_) (fun hb21 H => ?_)))))
          · refine AWP_reg (Rh 2 73 [(2, iA 0), (3, iA 3)] (AOps_done (AWP_ret ?_)))
            have hr := Option.some.inj H
            subst hr
            exact Fin_retn 0 (l := [iA 0, iA 3]) (h' := []) (by kernel_rfl) rfl (Nat.le_of_ble_eq_true rfl) ((by refine Closed_of ?_; exact trivial)) (Frz_sc ⟨trivial, trivial, trivial⟩) ⟨rfl, rfl⟩
          · refine AWP_skip ?_
            show AWP _ _ _ _ _ _ _
            refine AWP_reg (Rh 1 73 [(0, sA x0), (4, sA v4), (6, iA 0)] (AOps_done (AWP_seq (AWP_reg (Rh 1 73 [(0, sA x0), (4, sA v4), (6, iA 0), (7, iA 0)] (AOps_done (AWP_block ?_)))))))
            refine AWP_loopN (α := Int × Int) (fun ⟨v28, v29⟩ => fr 73 [(0, sA x0), (4, sA v4), (6, iA v28), (7, iA v29)]) (fun ⟨v28, v29⟩ => []) (fun k_ ⟨v28, v29⟩ => k_ ≤ n ∧ p_ref1_ParseNumber_L2 k_ x0 v4 v28 v29 = some r) (fun n a H => ?_) (k := n) (0, 0) ⟨Nat.le_refl _, H⟩ (Norm_fd [0, 4, 6, 7] 0 (by kernel_rfl) rfl rfl trivial (by refine scL_fr ?_; exact ⟨trivial, trivial, trivial, trivial, trivial⟩))
            obtain ⟨v28, v29⟩ := a
            show AWP _ _ _ _ _ (fr 73 [(0, sA x0), (4, sA v4), (6, iA v28), (7, iA v29)]) []
            obtain ⟨hb_, H⟩ := H
            replace H : p_ref1_ParseNumber_L2 n x0 v4 v28 v29 = some r := H
            cases n with
            | zero => exact not_none (by simpa only [p_ref1_ParseNumber_L2] using H)
            | succ n =>
              unfold p_ref1_ParseNumber_L2 at H
              refine AWP_seq (AWP_reg (Rh 4 73 [(0, sA x0), (4, sA v4), (6, iA v28), (7, iA v29), (52, bA (decide (v29 < (szI v4))))] (AOps_done (CD H (fun hb30 H => ?_) (fun hb30 H => ?_)))))
              · refine AWP_skip ?_
                show AWP _ _ _ _ _ _ _
                refine AWP_seq (AWP_block ?_)
                refine AWP_region ?_
                refine Rh 4 73 [(0, sA x0), (4, sA v4), (7, iA v29), (56, iA (w64 (10 * v28))), (57, sA v4), (58, iA v29)] ?_
                obtain ⟨v31, hv31, H⟩ := bind_some H
                refine AOps_sindex (d := (some 59)) (by kernel_rfl) hv31 ?_
                refine Rh 4 73 [(0, sA x0), (4, sA v4), (6, iA (w64 ((w64 (10 * v28)) + (w64 (IntKind.u8.wrap (v31 - 48)))))), (7, iA v29)] (AOps_done ?_)
                show AWP _ _ _ _ _ _ _
                refine AWP_region ?_
                refine Rh 3 73 [(0, sA x0), (4, sA v4), (6, iA (w64 ((w64 (10 * v28)) + (w64 (IntKind.u8.wrap (v31 - 48)))))), (7, iA (w64 (v29 + 1)))] (AOps_done ?_)
                exact Exists.intro (w64 ((w64 (10 * v28)) + (w64 (IntKind.u8.wrap (v31 - 48)))), w64 (v29 + 1)) (Exists.intro n ⟨by omega, ⟨by omega, H⟩, Norm_fd [0, 4, 6, 7] 0 (by kernel_rfl) rfl rfl trivial (by refine scL_fr ?_; exact ⟨trivial, trivial, trivial, trivial, trivial⟩)⟩)
              · refine AWP_exit ?_
                show AWP _ _ _ _ _ _ _
                refine AWP_seq (AWP_reg (Rh 2 73 [(0, sA x0), (4, sA v4), (6, iA v28), (64, bA (decide (v28 > 1099511627776)))] (AOps_done (CD H (fun hb32 H => ?_) (fun hb32 H => ?_)))))
                · refine AWP_reg (Rh 2 73 [(2, iA 0), (3, iA 3)] (AOps_done (AWP_ret ?_)))
                  have hr := Option.some.inj H
                  subst hr
                  exact Fin_retn 0 (l := [iA 0, iA 3]) (h' := []) (by kernel_rfl) rfl (Nat.le_of_ble_eq_true rfl) ((by refine Closed_of ?_; exact trivial)) (Frz_sc ⟨trivial, trivial, trivial⟩) ⟨rfl, rfl⟩
                · refine AWP_skip ?_
                  show AWP _ _ _ _ _ _ _
                  refine AWP_joinN (α := Int) (fun v34 => fr 73 [(6, iA v34)]) (fun v34 => []) (fun v34 => ∃ q, q ≤ n ∧ p_ref1_ParseNumber_K2 q  v34 = some r) (fun v34 hC => ?_) ?_
                  · show AWP _ _ _ _ _ (fr 73 [(6, iA v34)]) []
                    obtain ⟨n, hn_, hC⟩ := hC
                    replace H : p_ref1_ParseNumber_K2 n  v34 = some r := hC
                    cases n with
                    | zero => exact not_none (by simpa only [p_ref1_ParseNumber_K2] using H)
                    | succ n =>
                      unfold p_ref1_ParseNumber_K2 at H
                      refine AWP_reg (Rh 3 73 [(2, iA v34), (3, iA 0)] (AOps_done (AWP_ret ?_)))
                      have hr := Option.some.inj H
                      subst hr
                      exact Fin_retn 0 (l := [iA v34, iA 0]) (h' := []) (by kernel_rfl) rfl (Nat.le_of_ble_eq_true rfl) ((by refine Closed_of ?_; exact trivial)) (Frz_sc ⟨trivial, trivial, trivial⟩) ⟨rfl, rfl⟩
                  · refine AWP_reg (Rh 5 73 [(6, iA v28), (69, bA (decide ((szI v4) < (szI x0))))] (AOps_done (CD H (fun hb35 H => ?_) (fun hb35 H => ?_))))
                    · refine AWP_region ?_
                      refine Rh 3 73 [(6, iA (w64 (0 - v28)))] (AOps_done ?_)
                      exact Exists.intro (w64 (0 - v28)) ⟨⟨n, by omega, H⟩, Norm_fd [6] 0 (by kernel_rfl) rfl rfl trivial (by refine scL_fr ?_; exact ⟨trivial, trivial⟩)⟩
                    · refine AWP_skip ?_
                      exact Exists.intro v28 ⟨⟨n, by omega, H⟩, Norm_fd [6] 0 (by kernel_rfl) rfl rfl trivial (by refine scL_fr ?_; exact ⟨trivial, trivial⟩)⟩
  · refine AWP_reg (Rh 4 73 [(0, sA x0), (4, sA x0), (12, bA (decide ((szI x0) > 0)))] ?_)
    obtain ⟨v36, hv36, H⟩ := bind_some H
    refine AOps_cut 4 (st' := fr 73 [(0, sA x0), (4, sA x0), (16, bA ((decide ((szI x0) > 0)) && (v36 == 45)))]) (h' := []) ?_ ?_
    rotate_left
    · cases c1 : (decide ((szI x0) > 0) : Bool) with
      | true =>
        refine R 1 73 [(0, sA x0), (4, sA x0), (12, bA true), (13, sA x0)] [] ?_
        have hv36_ := cond_t hv36 (by simp only [c1] <;> rfl)
        refine AOps_sindex (d := (some 14)) (by kernel_rfl) hv36_ ?_
        refine R 2 73 [(0, sA x0), (4, sA x0), (16, bA (true && (v36 == 45)))] [] ?_
        exact AOps_here [0, 4, 16] (by kernel_rfl) rfl
      | false =>
        refine R 4 73 [(0, sA x0), (4, sA x0), (16, bA (false && (v36 == 45)))] [] ?_
        exact AOps_here [0, 4, 16] (by kernel_rfl) rfl
    refine AOps_done (CD H (fun hb37 H => ?_) (fun hb37 H => ?_))
    · refine AWP_region ?_
      refine Rh 1 73 [(0, sA x0), (17, sA x0)] ?_
      obtain ⟨v38, hv38, H⟩ := bind_some H
      refine AOps_scut (d := (some 18)) (by kernel_rfl) hv38 ?_
      refine Rh 1 73 [(0, sA x0), (4, sA v38)] (AOps_done ?_)
      exact Exists.intro v38 ⟨⟨n, by omega, H⟩, Norm_fd [0, 4] 0 (by kernel_rfl) rfl rfl trivial (by refine scL_fr ?_; exact ⟨trivial, trivial, trivial⟩)⟩
    · refine AWP_skip ?_
      exact Exists.intro x0 ⟨⟨n, by omega, H⟩, Norm_fd [0, 4] 0 (by kernel_rfl) rfl rfl trivial (by refine scL_fr ?_; exact ⟨trivial, trivial, trivial⟩)⟩
end Go.Proofs.YtjhbobacbaikoaaGreatDoor
/- Numbers in text: the reference's ParseNumber. -/
namespace Go.Proofs.YtjhbobacbaikoaaGreatDoor
open Go
set_option linter.unusedVariables false
set_option linter.unusedSimpArgs false
/-- What is made of what digits spell. -/
def fin13 (neg : Bool) (q : Nat) : Int × Int := if q > 1099511627776 then (0, 3) else (if neg then -(q : Int) else (q : Int), 0)
theorem pow10_mono {a b : Nat} (h : a ≤ b) : 10 ^ a ≤ 10 ^ b := Nat.pow_le_pow_right (by decide) h
theorem ref_num_L2 (x v : ByteArray) (neg : Bool) (hn : decide (szI v < szI x) = neg) (hv : v.size ≤ 13) (hd : v.data.toList.all isDig = true) : ∀ (k p acc : Nat), p + k = v.size → acc < 10 ^ p →
    Al fun n => p_ref1_ParseNumber_L2 n x v acc p = some (fin13 neg (dval acc (v.data.toList.drop p))) := by
  have h13 : (10 : Nat) ^ 13 = 10000000000000 := by decide
  intro k
  induction k with
  | zero =>
    intro p acc hk ha
    obtain rfl : p = v.size := by omega
    have hb : acc < 10000000000000 := by have := pow10_mono hv; omega
    rw [show v.data.toList.drop v.size = [] by rw [size_list, List.drop_length], dval_nil]
    refine Al.succ (Al.succ (.of fun n => ?_))
    rw [p_ref1_ParseNumber_L2]
    have h1 : decide (((v.size : Nat) : Int) < szI v) = false := decide_eq_false (by unfold szI; omega)
    simp only [h1, cond_false, hn]
    unfold fin13
    by_cases hq : acc > 1099511627776
    · rw [if_pos hq, decide_eq_true (show (acc : Int) > 1099511627776 by omega)]; rfl
    · rw [if_neg hq, decide_eq_false (show ¬ (acc : Int) > 1099511627776 by omega)]
      cases neg with
      | true =>
        simp only [cond_false, cond_true, p_ref1_ParseNumber_K2]
        rw [w64_of (by omega) (by omega)]
        simp
      | false =>
        simp only [cond_false, p_ref1_ParseNumber_K2]
        rfl
  | succ k ih =>
    intro p acc hk ha
    have hl : p < v.size := by omega
    have hpp := pow10_mono (show p ≤ 12 by omega)
    have h12 : (10 : Nat) ^ 12 = 1000000000000 := by decide
    have hb : isDig (v[p]'hl) = true := by
      rw [List.all_eq_true] at hd
      exact hd _ (by rw [get_list hl]; exact List.getElem_mem _)
    have hb := isDig_iff.1 hb
    have hst := stp_eq acc (v[p]'hl)
    have e1 : w64 (w64 (10 * (acc : Int)) + w64 (IntKind.u8.wrap (((v[p]'hl).toNat : Int) - 48))) = ((stp acc (v[p]'hl) : Nat) : Int) := by
      rw [IntKind.wrap_u8, hst]
      generalize (v[p]'hl).toNat = b at hb
      have : ((b : Int) - 48) % 256 = ((b - 48 : Nat) : Int) := by omega
      have e0 : w64 (10 * (acc : Int)) = 10 * (acc : Int) := w64_of (by omega) (by omega)
      have e2 : w64 ((b - 48 : Nat) : Int) = ((b - 48 : Nat) : Int) := w64_nat (by omega)
      rw [this, e0, e2, w64_of (by omega) (by omega)]
      omega
    rw [drop_list hl, dval_cons]
    refine Al.succ ((ih (p + 1) (stp acc (v[p]'hl)) (by omega) (by rw [Nat.pow_succ, hst]; omega)).mono fun n h => ?_)
    rw [p_ref1_ParseNumber_L2]
    rw [decide_eq_true (by unfold szI; omega), cond_true, rdS_nat hl, Option.bind_some, e1, w64_add (by omega)]
    exact h
/-- Behind the look at the digits. -/
theorem ref_num_end (x : ByteArray) (hx : x.size < 4611686018427387904) (hd : (digs x.data.toList).all isDig = true) : Al fun n => p_ref1_ParseNumber_L1 n x (dgS x) (dgS x).size = some (pn x.data.toList) := by
  have hds := dgS_list x
  have hlen : (digs x.data.toList).length = (dgS x).size := by rw [← hds, ← size_list]
  have h1 : decide (((dgS x).size : Int) < szI (dgS x)) = false := decide_eq_false (by unfold szI; omega)
  by_cases h0 : (dgS x).size = 0
  · have he : digs x.data.toList = [] := List.length_eq_zero_iff.1 (by rw [hlen]; exact h0)
    have hpn : pn x.data.toList = (0, 1) := if_pos (.inr (.inl he))
    refine Al.succ (.of fun n => ?_)
    rw [p_ref1_ParseNumber_L1, h1]
    simp only [cond_false, seq_empty, decide_eq_true h0, Bool.not_true, Option.bind_some, Bool.true_or, cond_true]
    rw [hpn]
  · have hp : 0 < (dgS x).size := by omega
    have hne : digs x.data.toList ≠ [] := fun e => by rw [e] at hlen; simp at hlen; omega
    have hr : rdS (dgS x) 0 = some (((dgS x)[0]'hp).toNat : Int) := rdS_nat (i := 0) hp
    have hh : (digs x.data.toList).head? = some ((dgS x)[0]'hp) := by rw [← hds]; exact head_dg hp
    have h48 : ((((dgS x)[0]'hp).toNat : Int) == 48) = decide ((dgS x)[0]'hp = 48) := by
      by_cases h : (dgS x)[0]'hp = 48
      · rw [h]; rfl
      · rw [decide_eq_false h, beq_eq_false_iff_ne]
        intro e; exact h (UInt8.toNat_inj.1 (by have : (48 : UInt8).toNat = 48 := rfl; omega))
    have hneg : negB x.data.toList = decide (szI (dgS x) < szI x) := by
      cases hn : negB x.data.toList with
      | true => have := (neg_size hn).2; exact (decide_eq_true (by unfold szI; omega)).symm
      | false =>
        have : dgS x = x := by unfold dgS; rw [hn]; rfl
        rw [this]; exact (decide_eq_false (by omega)).symm
    have hzero : (dgS x)[0]'hp = 48 → (seq' x (⟨#[48]⟩ : ByteArray) = true ↔ ¬ ((digs x.data.toList).length > 1 ∨ negB x.data.toList = true)) := by
      intro h
      rw [seq_iff]
      constructor
      · intro e
        rw [e]
        decide
      · intro hc
        have hn : negB x.data.toList = false := by
          cases hn : negB x.data.toList with
          | false => rfl
          | true => exact absurd (.inr hn) hc
        have hx2 : dgS x = x := by unfold dgS; rw [hn]; rfl
        have hl1 : (digs x.data.toList).length = 1 := by
          have : ¬ (digs x.data.toList).length > 1 := fun h => hc (.inl h)
          omega
        have : digs x.data.toList = [48] := by
          obtain ⟨c, hc'⟩ := List.length_eq_one_iff.1 hl1
          rw [hc'] at hh ⊢
          simp at hh; rw [hh, h]
        rw [← hds, hx2] at this
        obtain ⟨⟨l⟩⟩ := x
        simp at this; rw [this]
    by_cases hz : (dgS x)[0]'hp = 48 ∧ ((digs x.data.toList).length > 1 ∨ negB x.data.toList = true)
    · have hpn : pn x.data.toList = (0, 1) := if_pos (.inr (.inr ⟨by rw [hh, hz.1], hz.2⟩))
      have hsq : seq' x (⟨#[48]⟩ : ByteArray) = false := by
        cases hc : seq' x (⟨#[48]⟩ : ByteArray) with
        | false => rfl
        | true => exact absurd hz.2 ((hzero hz.1).1 hc)
      refine Al.succ (.of fun n => ?_)
      rw [p_ref1_ParseNumber_L1, h1]
      simp only [cond_false, seq_empty, decide_eq_false h0, Bool.not_false, cond_true, hr, Option.bind_some, Bool.false_or, h48, decide_eq_true hz.1, hsq, Bool.and_self]
      rw [hpn]
    · have hb : (decide ((dgS x)[0]'hp = 48) && !seq' x (⟨#[48]⟩ : ByteArray)) = false := by
        by_cases h : (dgS x)[0]'hp = 48
        · rw [(hzero h).2 (fun e => hz ⟨h, e⟩)]; simp
        · rw [decide_eq_false h]; rfl
      have hpn : pn x.data.toList = fin13 (negB x.data.toList) (dval 0 (digs x.data.toList)) := if_neg (fun h => by
        rcases h with h | h | h
        · rw [hd] at h; cases h
        · exact hne h
        · rw [hh] at h; exact hz ⟨by simpa using h.1, h.2⟩)
      by_cases h13 : (dgS x).size > 13
      · have hbig : 1099511627776 < dval 0 (digs x.data.toList) := dval_long hd (fun e => hz ⟨by rw [hh] at e; simpa using e, .inl (by omega)⟩) (by omega)
        refine Al.succ (.of fun n => ?_)
        rw [p_ref1_ParseNumber_L1, h1]
        simp only [cond_false, seq_empty, decide_eq_false h0, Bool.not_false, cond_true, hr, Option.bind_some, Bool.false_or, h48, hb]
        rw [decide_eq_true (show szI (dgS x) > 13 by unfold szI; omega), cond_true, hpn]
        unfold fin13
        rw [if_pos hbig]
      · have := ref_num_L2 x (dgS x) (negB x.data.toList) hneg.symm (by omega) (by rw [hds]; exact hd) (dgS x).size 0 0 (by omega) (by simp)
        refine Al.succ (this.mono fun n h => ?_)
        rw [p_ref1_ParseNumber_L1, h1]
        simp only [cond_false, seq_empty, decide_eq_false h0, Bool.not_false, cond_true, hr, Option.bind_some, Bool.false_or, h48, hb]
        rw [decide_eq_false (show ¬ szI (dgS x) > 13 by unfold szI; omega), cond_false, hpn]
        rw [List.drop_zero, hds] at h
        exact h
theorem ref_num_L1 (x : ByteArray) (hx : x.size < 4611686018427387904) (hd : (digs x.data.toList).all isDig = true ∨ True) : ∀ (k p : Nat), p + k = (dgS x).size → ((dgS x).data.toList.take p).all isDig = true → Al fun n => p_ref1_ParseNumber_L1 n x (dgS x) p = some (pn x.data.toList) := by
  have hds := dgS_list x
  have hsz := dgS_size x
  intro k
  induction k with
  | zero =>
    intro p hk ha
    obtain rfl : p = (dgS x).size := by omega
    exact ref_num_end x hx (by rw [← hds]; rw [size_list, List.take_length] at ha; exact ha)
  | succ k ih =>
    intro p hk ha
    have hl : p < (dgS x).size := by omega
    by_cases hb : isDig ((dgS x)[p]'hl) = true
    · have ht : ((dgS x).data.toList.take (p + 1)).all isDig = true := by
        rw [List.take_add_one, List.all_append, ha, Bool.true_and, List.getElem?_eq_getElem (by rw [← size_list]; exact hl)]
        simpa [get_list hl] using hb
      refine Al.succ ((ih (p + 1) (by omega) ht).mono fun n h => ?_)
      rw [p_ref1_ParseNumber_L1, decide_eq_true (by unfold szI; omega), cond_true, rdS_nat hl, Option.bind_some, w64_add (by omega)]
      have e : (decide ((((dgS x)[p]'hl).toNat : Int) < 48) || decide ((((dgS x)[p]'hl).toNat : Int) > 57)) = false := by
        unfold isDig at hb; simpa using hb
      rw [Bool.or_eq_false_iff] at e
      simp only [e.1, Bool.not_false, cond_true, Option.bind_some, e.2, Bool.or_self, cond_false]
      exact h
    · have hpn : pn x.data.toList = (0, 1) := if_pos (.inl (by
        cases hall : (digs x.data.toList).all isDig with
        | false => rfl
        | true =>
          rw [← hds, List.all_eq_true] at hall
          exact absurd (hall _ (by rw [get_list hl]; exact List.getElem_mem _)) hb))
      refine Al.succ (.of fun n => ?_)
      rw [p_ref1_ParseNumber_L1, decide_eq_true (by unfold szI; omega), cond_true, rdS_nat hl, Option.bind_some, hpn]
      have e : (decide ((((dgS x)[p]'hl).toNat : Int) < 48) || decide ((((dgS x)[p]'hl).toNat : Int) > 57)) = true := by
        cases hX : (decide ((((dgS x)[p]'hl).toNat : Int) < 48) || decide ((((dgS x)[p]'hl).toNat : Int) > 57)) with
        | true => rfl
        | false => exact absurd (by unfold isDig; rw [hX]; rfl) hb
      cases hc : decide ((((dgS x)[p]'hl).toNat : Int) < 48) with
      | true => simp
      | false => rw [hc, Bool.false_or] at e; simp [e]
/-- ParseNumber of the reference. -/
theorem ref_num (x : ByteArray) (hx : x.size < 4611686018427387904) : Al fun n => p_ref1_ParseNumber n x = some (pn x.data.toList) := by
  refine (ref_num_L1 x hx (.inr trivial) (dgS x).size 0 (by omega) (by simp)).mono fun n h => ?_
  unfold p_ref1_ParseNumber p_ref1_ParseNumber_K1
  have h : p_ref1_ParseNumber_L1 n x (dgS x) 0 = some (pn x.data.toList) := h
  by_cases h0 : 0 < x.size
  · have hr : rdS x 0 = some ((x[0]'h0).toNat : Int) := rdS_nat (i := 0) h0
    have hn : ((((x[0]'h0).toNat : Int) == 45)) = negB x.data.toList := by
      unfold negB
      rw [head_dg h0]
      by_cases he : x[0]'h0 = 45
      · rw [he]; rfl
      · have : (some (x[0]'h0) == some (45 : UInt8)) = false := by simpa using he
        rw [this, beq_eq_false_iff_ne]
        intro e; exact he (UInt8.toNat_inj.1 (by have : (45 : UInt8).toNat = 45 := rfl; omega))
    rw [decide_eq_true (show szI x > 0 by unfold szI; omega), cond_true, hr, Option.bind_some, hn, Bool.true_and]
    cases hneg : negB x.data.toList with
    | true =>
      rw [cond_true, cutS_some (by unfold szI; omega), Option.bind_some]
      have : dgS x = x.extract 1 x.size := by unfold dgS; rw [hneg]; rfl
      rw [this] at h
      exact h
    | false =>
      rw [cond_false]
      have : dgS x = x := by unfold dgS; rw [hneg]; rfl
      rw [this] at h
      exact h
  · have hneg : negB x.data.toList = false := by
      have : x.data.toList = [] := List.length_eq_zero_iff.1 (by rw [← size_list]; omega)
      rw [this]; rfl
    have hdx : dgS x = x := by unfold dgS; rw [hneg]; rfl
    rw [hdx] at h
    rw [decide_eq_false (show ¬ szI x > 0 by unfold szI; omega), cond_false, Option.bind_some, Bool.false_and, cond_false]
    exact h
end Go.Proofs.YtjhbobacbaikoaaGreatDoor
/- A function of the program as a pure function, and that the program computes it. -/
namespace Go.Proofs.YtjhbobacbaikoaaGreatDoor
open Go
set_option linter.unusedVariables false
set_option linter.unusedSimpArgs false
set_option maxRecDepth 100000
mutual
def p_ref3_parts_L2 (n : Nat) (x0 : ByteArray) (v31 : Int) (v32 : Int) (v33 : Int) (v34 : Int) (v35 : Int) (v42 : Int) : Option ((Int × Int × Int) × Bool) := match n with
| 0 => none
| n + 1 =>
(bif decide (v42 < (szI x0)) then rdS x0 v42 else some 0).bind fun v43 =>
(bif (decide (v42 < (szI x0))) && (v43 != 46) then
 p_ref3_parts_L2 n x0 v31 v32 v33 v34 v35 (w64 (v42 + 1))
 else
(cutS x0 v31 v42).bind fun v45 =>
(p_ref1_ParseNumber n v45).bind fun v46 =>
(bif (((v46.2 != 0) || (decide (v46.1 < 0))) || (decide (v46.1 > 999999))) || (!((decide (v32 < 2)) == (decide (v42 < (szI x0))))) then
 some ((0, 0, 0), false)
 else
(inO 3 v32).bind fun v48 =>
 p_ref3_parts_L1 n x0 (w64 (v42 + 1)) (w64 (v32 + 1)) (arI 0 v32 v46.1 v33) (arI 1 v32 v46.1 v34) (arI 2 v32 v46.1 v35)))
def p_ref3_parts_L1 (n : Nat) (x0 : ByteArray) (v31 : Int) (v32 : Int) (v33 : Int) (v34 : Int) (v35 : Int) : Option ((Int × Int × Int) × Bool) := match n with
| 0 => none
| n + 1 =>
(bif decide (v32 < 3) then
 p_ref3_parts_L2 n x0 v31 v32 v33 v34 v35 v31
 else
 some ((v33, v34, v35), true))
end
def p_ref3_parts (n : Nat) (x0 : ByteArray) : Option ((Int × Int × Int) × Bool) :=
 p_ref3_parts_L1 n x0 0 0 0 0 0
variable {E : Env}
theorem s_ref3_parts {n : Nat} {x0 : ByteArray} {r : (Int × Int × Int) × Bool} (H : p_ref3_parts n x0 = some r) :
    Sp Tryz.prog E 135 [sA x0] [] (isA (.tup [.agg [iA r.1.1, iA r.1.2.1, iA r.1.2.2], bA r.2]) []) := by
  unfold p_ref3_parts at H
  refine Sp_fn Tryz.func135 rfl (fun hc hs => ?_)
  refine AWP_reg (R 2 61 [(0, sA x0), (2, .ptr 0 0)] [.cells 162 [iA 0, iA 0, iA 0]] (AOps_done (AWP_reg (R 1 61 [(0, sA x0), (2, .ptr 0 0), (4, .ptr 1 0)] [.cells 162 [iA 0, iA 0, iA 0], .cells 162 [iA 0, iA 0, iA 0]] (AOps_done (AWP_reg (Rh 1 61 [(0, sA x0), (2, .ptr 0 0), (4, .ptr 1 0), (5, iA 0)] (AOps_done ?_))))))))
  refine AWP_seq (AWP_reg (Rh 1 61 [(0, sA x0), (2, .ptr 0 0), (4, .ptr 1 0), (5, iA 0), (6, iA 0)] (AOps_done (AWP_block ?_))))
  refine AWP_loopN (α := Int × Int × Int × Int × Int) (fun ⟨v31, v32, v33, v34, v35⟩ => fr 61 [(0, sA x0), (2, .ptr 0 0), (4, .ptr 1 0), (5, iA v31), (6, iA v32)]) (fun ⟨v31, v32, v33, v34, v35⟩ => [.cells 162 [iA v33, iA v34, iA v35], .cells 162 [iA 0, iA 0, iA 0]]) (fun k_ ⟨v31, v32, v33, v34, v35⟩ => k_ ≤ n ∧ p_ref3_parts_L1 k_ x0 v31 v32 v33 v34 v35 = some r) (fun n a H => ?_) (k := n) (0, 0, 0, 0, 0) ⟨Nat.le_refl _, H⟩ (Norm_fd [0, 2, 4, 5, 6] 0 (by kernel_rfl) rfl rfl ⟨⟨trivial, trivial, trivial, trivial⟩, ⟨trivial, trivial, trivial, trivial⟩, trivial⟩ (by refine scL_fr ?_; exact ⟨trivial, (sc_ptr rfl), (sc_ptr rfl), trivial, trivial, trivial⟩))
  obtain ⟨v31, v32, v33, v34, v35⟩ := a
  show AWP _ _ _ _ _ (fr 61 [(0, sA x0), (2, .ptr 0 0), (4, .ptr 1 0), (5, iA v31), (6, iA v32)]) [.cells 162 [iA v33, iA v34, iA v35], .cells 162 [iA 0, iA 0, iA 0]]
  obtain ⟨hb_, H⟩ := H
  replace H : p_ref3_parts_L1 n x0 v31 v32 v33 v34 v35 = some r := H
  cases n with
  | zero => exact not_none (by simpa only [p_ref3_parts_L1] using H)
  | succ n =>
    unfold p_ref3_parts_L1 at H
    refine AWP_seq (AWP_reg (Rh 2 61 [(0, sA x0), (2, .ptr 0 0), (4, .ptr 1 0), (5, iA v31), (6, iA v32), (11, bA (decide (v32 < 3)))] (AOps_done (CD H (fun hb36 H => ?_) (fun hb36 H => ?_)))))
    · refine AWP_skip ?_
      show AWP _ _ _ _ _ _ _
      refine AWP_seq (AWP_block ?_)
      refine AWP_reg (Rh 2 61 [(0, sA x0), (2, .ptr 0 0), (4, .ptr 1 0), (5, iA v31), (6, iA v32), (7, iA v31)] (AOps_done (AWP_seq (AWP_block ?_))))
      refine AWP_loopN (α := Int) (fun v42 => fr 61 [(0, sA x0), (2, .ptr 0 0), (4, .ptr 1 0), (5, iA v42), (6, iA v32), (7, iA v31)]) (fun v42 => [.cells 162 [iA v33, iA v34, iA v35], .cells 162 [iA 0, iA 0, iA 0]]) (fun k_ v42 => k_ ≤ n ∧ p_ref3_parts_L2 k_ x0 v31 v32 v33 v34 v35 v42 = some r) (fun n v42 H => ?_) (k := n) v31 ⟨Nat.le_refl _, H⟩ (Norm_fd [0, 2, 4, 5, 6, 7] 0 (by kernel_rfl) rfl rfl ⟨⟨trivial, trivial, trivial, trivial⟩, ⟨trivial, trivial, trivial, trivial⟩, trivial⟩ (by refine scL_fr ?_; exact ⟨trivial, (sc_ptr rfl), (sc_ptr rfl), trivial, trivial, trivial, trivial⟩))
      show AWP _ _ _ _ _ (fr 61 [(0, sA x0), (2, .ptr 0 0), (4, .ptr 1 0), (5, iA v42), (6, iA v32), (7, iA v31)]) [.cells 162 [iA v33, iA v34, iA v35], .cells 162 [iA 0, iA 0, iA 0]]
      obtain ⟨hb_, H⟩ := H
      replace H : p_ref3_parts_L2 n x0 v31 v32 v33 v34 v35 v42 = some r := H
      cases n with
      | zero => exact not_none (by simpa only [p_ref3_parts_L2] using H)
      | succ n =>
        unfold p_ref3_parts_L2 at H
        refine AWP_seq (AWP_reg (Rh 5 61 [(0, sA x0), (2, .ptr 0 0), (4, .ptr 1 0), (5, iA v42), (6, iA v32), (7, iA v31), (19, bA (decide (v42 < (szI x0))))] ?_))
        obtain ⟨v43, hv43, H⟩ := bind_some H
        refine AOps_cut 5 (st' := fr 61 [(0, sA x0), (2, .ptr 0 0), (4, .ptr 1 0), (5, iA v42), (6, iA v32), (7, iA v31), (24, bA ((decide (v42 < (szI x0))) && (v43 != 46)))]) (h' := [.cells 162 [iA v33, iA v34, iA v35], .cells 162 [iA 0, iA 0, iA 0]]) ?_ ?_
        rotate_left
        · cases c1 : (decide (v42 < (szI x0)) : Bool) with
          | true =>
            refine R 2 61 [(0, sA x0), (2, .ptr 0 0), (4, .ptr 1 0), (5, iA v42), (6, iA v32), (7, iA v31), (19, bA true), (20, sA x0), (21, iA v42)] [.cells 162 [iA v33, iA v34, iA v35], .cells 162 [iA 0, iA 0, iA 0]] ?_
            have hv43_ := cond_t hv43 (by simp only [c1] <;> rfl)
            refine AOps_sindex (d := (some 22)) (by kernel_rfl) hv43_ ?_
            refine R 2 61 [(0, sA x0), (2, .ptr 0 0), (4, .ptr 1 0), (5, iA v42), (6, iA v32), (7, iA v31), (24, bA (true && (v43 != 46)))] [.cells 162 [iA v33, iA v34, iA v35], .cells 162 [iA 0, iA 0, iA 0]] ?_
            exact AOps_here [0, 2, 4, 5, 6, 7, 24] (by kernel_rfl) rfl
          | false =>
            refine R 5 61 [(0, sA x0), (2, .ptr 0 0), (4, .ptr 1 0), (5, iA v42), (6, iA v32), (7, iA v31), (24, bA (false && (v43 != 46)))] [.cells 162 [iA v33, iA v34, iA v35], .cells 162 [iA 0, iA 0, iA 0]] ?_
            exact AOps_here [0, 2, 4, 5, 6, 7, 24] (by kernel_rfl) rfl
        refine AOps_done (CD H (fun hb44 H => ?_) (fun hb44 H => ?_))
        · refine AWP_skip ?_
          show AWP _ _ _ _ _ _ _
          refine AWP_block ?_
          refine AWP_region ?_
          refine Rh 3 61 [(0, sA x0), (2, .ptr 0 0), (4, .ptr 1 0), (5, iA (w64 (v42 + 1))), (6, iA v32), (7, iA v31)] (AOps_done ?_)
          exact Exists.intro (w64 (v42 + 1)) (Exists.intro n ⟨by omega, ⟨by omega, H⟩, Norm_fd [0, 2, 4, 5, 6, 7] 0 (by kernel_rfl) rfl rfl ⟨⟨trivial, trivial, trivial, trivial⟩, ⟨trivial, trivial, trivial, trivial⟩, trivial⟩ (by refine scL_fr ?_; exact ⟨trivial, (sc_ptr rfl), (sc_ptr rfl), trivial, trivial, trivial, trivial⟩)⟩)
        · refine AWP_exit ?_
          show AWP _ _ _ _ _ _ _
          refine AWP_reg (Rh 3 61 [(0, sA x0), (2, .ptr 0 0), (4, .ptr 1 0), (5, iA v42), (6, iA v32), (28, sA x0), (29, iA v31), (30, iA v42)] ?_)
          obtain ⟨v45, hv45, H⟩ := bind_some H
          refine AOps_scut (d := (some 31)) (by kernel_rfl) hv45 ?_
          obtain ⟨v46, hv46, H⟩ := bind_some H
          refine AOps_callp (d := (some 32)) (al := [sA v45]) (r := .tup [iA v46.1, iA v46.2]) (by kernel_rfl) (s_ref1_ParseNumber hv46) ⟨trivial, trivial⟩ ⟨trivial, trivial, trivial⟩ ?_
          refine Rh 5 61 [(0, sA x0), (2, .ptr 0 0), (4, .ptr 1 0), (5, iA v42), (6, iA v32), (8, iA v46.1), (9, iA v46.2)] (AOps_done (AWP_seq (AWP_reg (Rh 3 61 [(0, sA x0), (2, .ptr 0 0), (4, .ptr 1 0), (5, iA v42), (6, iA v32), (8, iA v46.1), (37, bA (v46.2 != 0))] (AOps_run 3 [0, 2, 4, 5, 6, 8, 40] (st' := fr 61 [(0, sA x0), (2, .ptr 0 0), (4, .ptr 1 0), (5, iA v42), (6, iA v32), (8, iA v46.1), (40, bA ((v46.2 != 0) || (decide (v46.1 < 0))))]) (h' := [.cells 162 [iA v33, iA v34, iA v35], .cells 162 [iA 0, iA 0, iA 0]]) (by (generalize (v46.2 != 0) = t0; cases t0 <;> kernel_rfl)) ?_)))))
          refine Rh 1 61 [(0, sA x0), (2, .ptr 0 0), (4, .ptr 1 0), (5, iA v42), (6, iA v32), (8, iA v46.1), (41, bA ((v46.2 != 0) || (decide (v46.1 < 0))))] (AOps_run 3 [0, 2, 4, 5, 6, 8, 44] (st' := fr 61 [(0, sA x0), (2, .ptr 0 0), (4, .ptr 1 0), (5, iA v42), (6, iA v32), (8, iA v46.1), (44, bA (((v46.2 != 0) || (decide (v46.1 < 0))) || (decide (v46.1 > 999999))))]) (h' := [.cells 162 [iA v33, iA v34, iA v35], .cells 162 [iA 0, iA 0, iA 0]]) (by (generalize (v46.2 != 0) = t0; generalize (decide (v46.1 < 0)) = t1; cases t0 <;> cases t1 <;> kernel_rfl)) ?_)
          refine Rh 1 61 [(0, sA x0), (2, .ptr 0 0), (4, .ptr 1 0), (5, iA v42), (6, iA v32), (8, iA v46.1), (45, bA (((v46.2 != 0) || (decide (v46.1 < 0))) || (decide (v46.1 > 999999))))] (AOps_cut 8 (st' := fr 61 [(0, sA x0), (2, .ptr 0 0), (4, .ptr 1 0), (5, iA v42), (6, iA v32), (8, iA v46.1), (53, bA ((((v46.2 != 0) || (decide (v46.1 < 0))) || (decide (v46.1 > 999999))) || (!((decide (v32 < 2)) == (decide (v42 < (szI x0)))))))]) (h' := [.cells 162 [iA v33, iA v34, iA v35], .cells 162 [iA 0, iA 0, iA 0]]) ?_ ?_)
          rotate_left
          · cases c1 : (((v46.2 != 0) || (decide (v46.1 < 0))) || (decide (v46.1 > 999999)) : Bool) with
            | true =>
              refine R 8 61 [(0, sA x0), (2, .ptr 0 0), (4, .ptr 1 0), (5, iA v42), (6, iA v32), (8, iA v46.1), (53, bA (true || (!((decide (v32 < 2)) == (decide (v42 < (szI x0)))))))] [.cells 162 [iA v33, iA v34, iA v35], .cells 162 [iA 0, iA 0, iA 0]] ?_
              exact AOps_here [0, 2, 4, 5, 6, 8, 53] (by kernel_rfl) rfl
            | false =>
              refine R 6 61 [(0, sA x0), (2, .ptr 0 0), (4, .ptr 1 0), (5, iA v42), (6, iA v32), (8, iA v46.1), (45, bA false), (47, bA (decide (v32 < 2))), (51, bA (decide (v42 < (szI x0))))] [.cells 162 [iA v33, iA v34, iA v35], .cells 162 [iA 0, iA 0, iA 0]] (AOps_bne (d := (some 52)) (p := decide (v32 < 2)) (q := decide (v42 < (szI x0))) (by kernel_rfl) ?_)
              refine R 1 61 [(0, sA x0), (2, .ptr 0 0), (4, .ptr 1 0), (5, iA v42), (6, iA v32), (8, iA v46.1), (53, bA (false || (!((decide (v32 < 2)) == (decide (v42 < (szI x0)))))))] [.cells 162 [iA v33, iA v34, iA v35], .cells 162 [iA 0, iA 0, iA 0]] ?_
              exact AOps_here [0, 2, 4, 5, 6, 8, 53] (by kernel_rfl) rfl
          refine AOps_done (CD H (fun hb47 H => ?_) (fun hb47 H => ?_))
          · refine AWP_reg (Rh 3 61 [(2, .ptr 0 0), (3, bA false)] (AOps_done (AWP_ret ?_)))
            have hr := Option.some.inj H
            subst hr
            exact Fin_retn 2 (l := [.agg [iA 0, iA 0, iA 0], bA false]) (h' := []) (by kernel_rfl) rfl (Nat.le_of_ble_eq_true rfl) ((by refine Closed_of ?_; exact trivial)) (Frz_sc ⟨⟨trivial, trivial, trivial, trivial⟩, trivial, trivial⟩) ⟨rfl, rfl⟩
          · refine AWP_skip ?_
            show AWP _ _ _ _ _ _ _
            refine AWP_reg (Rh 2 61 [(0, sA x0), (2, .ptr 0 0), (4, .ptr 1 0), (5, iA v42), (6, iA v32), (55, iA v32), (56, iA v46.1)] ?_)
            obtain ⟨v48, hv48, H⟩ := bind_some H
            refine AOps_pidx (d := (some 57)) (id := 1) (off := 0) (j := v32) (m := 3) (sz := 1) (by kernel_rfl) (inO_spec hv48).1 (inO_spec hv48).2 ?_
            refine AOps_stx (d := none) (id := 1) (off := 0 + (v32).toNat * 1) (ty := 162) (vs := [iA v46.1]) (cs := [iA v33, iA v34, iA v35]) (cs' := [iA (arI 0 v32 v46.1 v33), iA (arI 1 v32 v46.1 v34), iA (arI 2 v32 v46.1 v35)]) (by kernel_rfl) (put3 (inO_spec hv48)) (h' := [.cells 162 [iA (arI 0 v32 v46.1 v33), iA (arI 1 v32 v46.1 v34), iA (arI 2 v32 v46.1 v35)], .cells 162 [iA 0, iA 0, iA 0]]) rfl ?_
            refine AOps_done (AWP_region ?_)
            refine Rh 3 61 [(0, sA x0), (2, .ptr 0 0), (4, .ptr 1 0), (5, iA (w64 (v42 + 1))), (6, iA v32)] (AOps_done ?_)
            show AWP _ _ _ _ _ _ _
            refine AWP_region ?_
            refine Rh 3 61 [(0, sA x0), (2, .ptr 0 0), (4, .ptr 1 0), (5, iA (w64 (v42 + 1))), (6, iA (w64 (v32 + 1)))] (AOps_done ?_)
            exact Exists.intro (w64 (v42 + 1), w64 (v32 + 1), arI 0 v32 v46.1 v33, arI 1 v32 v46.1 v34, arI 2 v32 v46.1 v35) (Exists.intro n ⟨by omega, ⟨by omega, H⟩, Norm_fd [0, 2, 4, 5, 6] 0 (by kernel_rfl) rfl rfl ⟨⟨trivial, trivial, trivial, trivial⟩, ⟨trivial, trivial, trivial, trivial⟩, trivial⟩ (by refine scL_fr ?_; exact ⟨trivial, (sc_ptr rfl), (sc_ptr rfl), trivial, trivial, trivial⟩)⟩)
    · refine AWP_exit ?_
      show AWP _ _ _ _ _ _ _
      refine AWP_reg (R 3 61 [(2, .ptr 0 0), (3, bA true)] [.cells 162 [iA v33, iA v34, iA v35], .cells 162 [iA v33, iA v34, iA v35]] (AOps_done (AWP_ret ?_)))
      have hr := Option.some.inj H
      subst hr
      exact Fin_retn 2 (l := [.agg [iA v33, iA v34, iA v35], bA true]) (h' := []) (by kernel_rfl) rfl (Nat.le_of_ble_eq_true rfl) ((by refine Closed_of ?_; exact trivial)) (Frz_sc ⟨⟨trivial, trivial, trivial, trivial⟩, trivial, trivial⟩) ⟨rfl, rfl⟩
end Go.Proofs.YtjhbobacbaikoaaGreatDoor
/- A function of the program as a pure function, and that the program computes it. -/
namespace Go.Proofs.YtjhbobacbaikoaaGreatDoor
open Go
set_option linter.unusedVariables false
set_option linter.unusedSimpArgs false
set_option maxRecDepth 100000
def p_value_parts_L1 (n : Nat) (v1 : (List ByteArray)) (v17 : Int) (v18 : Int) (v19 : Int) (v20 : Int) : Option ((Int × Int × Int) × Bool) := match n with
| 0 => none
| n + 1 =>
(bif decide (v17 < (lI v1)) then
(rdO v1 v17).bind fun v22 =>
(p_text_ParseNumber n v22).bind fun v23 =>
(bif ((v23.2 != 0) || (decide (v23.1 < 0))) || (decide (v23.1 > 999999)) then
 some ((0, 0, 0), false)
 else
(inO 3 v17).bind fun v25 =>
 p_value_parts_L1 n v1 (w64 (v17 + 1)) (arI 0 v17 v23.1 v18) (arI 1 v17 v23.1 v19) (arI 2 v17 v23.1 v20))
 else
 some ((v18, v19, v20), true))
def p_value_parts (n : Nat) (x0 : ByteArray) : Option ((Int × Int × Int) × Bool) :=
(p_strings_Split n x0 (⟨#[46]⟩ : ByteArray)).bind fun v1 =>
(bif (lI v1) != 3 then
 some ((0, 0, 0), false)
 else
 p_value_parts_L1 n v1 0 0 0 0)
variable {E : Env}
theorem s_value_parts {n : Nat} (hG : GlobT E) {x0 : ByteArray} {r : (Int × Int × Int) × Bool} (H : p_value_parts n x0 = some r) :
    Sp Tryz.prog E 114 [sA x0] [] (isA (.tup [.agg [iA r.1.1, iA r.1.2.1, iA r.1.2.2], bA r.2]) []) := by
  unfold p_value_parts at H
  refine Sp_fn Tryz.func114 rfl (fun hc hs => ?_)
  refine AWP_reg (R 2 44 [(0, sA x0), (2, .ptr 0 0)] [.cells 162 [iA 0, iA 0, iA 0]] (AOps_done (AWP_reg (R 1 44 [(0, sA x0), (2, .ptr 0 0), (4, .ptr 1 0)] [.cells 162 [iA 0, iA 0, iA 0], .cells 162 [iA 0, iA 0, iA 0]] (AOps_done (AWP_reg (Rh 1 44 [(2, .ptr 0 0), (4, .ptr 1 0), (10, sA x0)] ?_)))))))
  obtain ⟨v1, hv1, H⟩ := bind_some H
  refine AOps_callp (d := (some 11)) (al := [sA x0, sA (⟨#[46]⟩ : ByteArray)]) (r := .ro .unk v1.length (cl_str v1)) (by kernel_rfl) (s_strings_Split hv1) ⟨trivial, trivial, trivial⟩ (scl_cl_str _ _) ?_
  refine Rh 1 44 [(2, .ptr 0 0), (4, .ptr 1 0), (5, .ro .unk v1.length (cl_str v1))] (AOps_done (AWP_seq (AWP_reg (Rh 3 44 [(2, .ptr 0 0), (4, .ptr 1 0), (5, .ro .unk v1.length (cl_str v1)), (14, bA ((lI v1) != 3))] (AOps_done (CD H (fun hb2 H => ?_) (fun hb2 H => ?_)))))))
  · refine AWP_reg (Rh 3 44 [(2, .ptr 0 0), (3, bA false)] (AOps_done (AWP_ret ?_)))
    have hr := Option.some.inj H
    subst hr
    exact Fin_retn 2 (l := [.agg [iA 0, iA 0, iA 0], bA false]) (h' := []) (by kernel_rfl) rfl (Nat.le_of_ble_eq_true rfl) ((by refine Closed_of ?_; exact trivial)) (Frz_sc ⟨⟨trivial, trivial, trivial, trivial⟩, trivial, trivial⟩) ⟨rfl, rfl⟩
  · refine AWP_skip ?_
    show AWP _ _ _ _ _ _ _
    refine AWP_seq (AWP_reg (Rh 3 44 [(2, .ptr 0 0), (4, .ptr 1 0), (16, .ro .unk v1.length (cl_str v1)), (17, iA (lI v1)), (18, iA 0)] (AOps_done (AWP_block ?_))))
    refine AWP_loopN (α := Int × Int × Int × Int) (fun ⟨v17, v18, v19, v20⟩ => fr 44 [(2, .ptr 0 0), (4, .ptr 1 0), (16, .ro .unk v1.length (cl_str v1)), (17, iA (lI v1)), (18, iA v17)]) (fun ⟨v17, v18, v19, v20⟩ => [.cells 162 [iA v18, iA v19, iA v20], .cells 162 [iA 0, iA 0, iA 0]]) (fun k_ ⟨v17, v18, v19, v20⟩ => k_ ≤ n ∧ p_value_parts_L1 k_ v1 v17 v18 v19 v20 = some r) (fun n a H => ?_) (k := n) (0, 0, 0, 0) ⟨Nat.le_refl _, H⟩ (Norm_fd [2, 4, 16, 17, 18] 0 (by kernel_rfl) rfl rfl ⟨⟨trivial, trivial, trivial, trivial⟩, ⟨trivial, trivial, trivial, trivial⟩, trivial⟩ (by refine scL_fr ?_; exact ⟨(sc_ptr rfl), (sc_ptr rfl), (scl_cl_str _ _), trivial, trivial, trivial⟩))
    obtain ⟨v17, v18, v19, v20⟩ := a
    show AWP _ _ _ _ _ (fr 44 [(2, .ptr 0 0), (4, .ptr 1 0), (16, .ro .unk v1.length (cl_str v1)), (17, iA (lI v1)), (18, iA v17)]) [.cells 162 [iA v18, iA v19, iA v20], .cells 162 [iA 0, iA 0, iA 0]]
    obtain ⟨hb_, H⟩ := H
    replace H : p_value_parts_L1 n v1 v17 v18 v19 v20 = some r := H
    cases n with
    | zero => exact not_none (by simpa only [p_value_parts_L1] using H)
    | succ n =>
      unfold p_value_parts_L1 at H
      refine AWP_reg (Rh 1 44 [(2, .ptr 0 0), (4, .ptr 1 0), (16, .ro .unk v1.length (cl_str v1)), (17, iA (lI v1)), (18, iA v17), (19, bA (decide (v17 < (lI v1))))] (AOps_done (AWP_seq (CD H (fun hb21 H => ?_) (fun hb21 H => ?_)))))
      · refine AWP_skip ?_
        show AWP _ _ _ _ _ _ _
        refine AWP_seq (AWP_block ?_)
        refine AWP_reg (Rh 1 44 [(2, .ptr 0 0), (4, .ptr 1 0), (16, .ro .unk v1.length (cl_str v1)), (17, iA (lI v1)), (18, iA v17), (20, iA v17)] ?_)
        obtain ⟨v22, hv22, H⟩ := bind_some H
        refine AOps_index (d := (some 21)) (sz := 1) (c := cs_str) (by kernel_rfl) rfl (eq_cl_str _) (fun _ => rfl) (by decide) hv22 (fun tl22 => ?_)
        refine Rh 3 44 [(2, .ptr 0 0), (4, .ptr 1 0), (6, iA v17), (7, sA v22), (16, .ro .unk v1.length (cl_str v1)), (17, iA (lI v1)), (18, iA v17)] (AOps_done (AWP_reg (Rh 1 44 [(2, .ptr 0 0), (4, .ptr 1 0), (6, iA v17), (16, .ro .unk v1.length (cl_str v1)), (17, iA (lI v1)), (18, iA v17), (24, sA v22)] ?_)))
        obtain ⟨v23, hv23, H⟩ := bind_some H
        refine AOps_callp (d := (some 25)) (al := [sA v22]) (r := .tup [iA v23.1, iA v23.2]) (by kernel_rfl) (s_text_ParseNumber hG hv23) ⟨trivial, trivial⟩ ⟨trivial, trivial, trivial⟩ ?_
        refine Rh 5 44 [(2, .ptr 0 0), (4, .ptr 1 0), (6, iA v17), (8, iA v23.1), (9, iA v23.2), (16, .ro .unk v1.length (cl_str v1)), (17, iA (lI v1)), (18, iA v17)] (AOps_done (AWP_seq (AWP_reg (Rh 3 44 [(2, .ptr 0 0), (4, .ptr 1 0), (6, iA v17), (8, iA v23.1), (16, .ro .unk v1.length (cl_str v1)), (17, iA (lI v1)), (18, iA v17), (30, bA (v23.2 != 0))] (AOps_run 3 [2, 4, 6, 8, 16, 17, 18, 33] (st' := fr 44 [(2, .ptr 0 0), (4, .ptr 1 0), (6, iA v17), (8, iA v23.1), (16, .ro .unk v1.length (cl_str v1)), (17, iA (lI v1)), (18, iA v17), (33, bA ((v23.2 != 0) || (decide (v23.1 < 0))))]) (h' := [.cells 162 [iA v18, iA v19, iA v20], .cells 162 [iA 0, iA 0, iA 0]]) (by (generalize (v23.2 != 0) = t0; cases t0 <;> kernel_rfl)) ?_)))))
        refine Rh 1 44 [(2, .ptr 0 0), (4, .ptr 1 0), (6, iA v17), (8, iA v23.1), (16, .ro .unk v1.length (cl_str v1)), (17, iA (lI v1)), (18, iA v17), (34, bA ((v23.2 != 0) || (decide (v23.1 < 0))))] (AOps_run 3 [2, 4, 6, 8, 16, 17, 18, 37] (st' := fr 44 [(2, .ptr 0 0), (4, .ptr 1 0), (6, iA v17), (8, iA v23.1), (16, .ro .unk v1.length (cl_str v1)), (17, iA (lI v1)), (18, iA v17), (37, bA (((v23.2 != 0) || (decide (v23.1 < 0))) || (decide (v23.1 > 999999))))]) (h' := [.cells 162 [iA v18, iA v19, iA v20], .cells 162 [iA 0, iA 0, iA 0]]) (by (generalize (v23.2 != 0) = t0; generalize (decide (v23.1 < 0)) = t1; cases t0 <;> cases t1 <;> kernel_rfl)) ?_)
        refine AOps_done (CD H (fun hb24 H => ?_) (fun hb24 H => ?_))
        · refine AWP_reg (Rh 3 44 [(2, .ptr 0 0), (3, bA false)] (AOps_done (AWP_ret ?_)))
          have hr := Option.some.inj H
          subst hr
          exact Fin_retn 2 (l := [.agg [iA 0, iA 0, iA 0], bA false]) (h' := []) (by kernel_rfl) rfl (Nat.le_of_ble_eq_true rfl) ((by refine Closed_of ?_; exact trivial)) (Frz_sc ⟨⟨trivial, trivial, trivial, trivial⟩, trivial, trivial⟩) ⟨rfl, rfl⟩
        · refine AWP_skip ?_
          show AWP _ _ _ _ _ _ _
          refine AWP_region ?_
          refine Rh 2 44 [(2, .ptr 0 0), (4, .ptr 1 0), (16, .ro .unk v1.length (cl_str v1)), (17, iA (lI v1)), (18, iA v17), (39, iA v17), (40, iA v23.1)] ?_
          obtain ⟨v25, hv25, H⟩ := bind_some H
          refine AOps_pidx (d := (some 41)) (id := 1) (off := 0) (j := v17) (m := 3) (sz := 1) (by kernel_rfl) (inO_spec hv25).1 (inO_spec hv25).2 ?_
          refine AOps_stx (d := none) (id := 1) (off := 0 + (v17).toNat * 1) (ty := 162) (vs := [iA v23.1]) (cs := [iA v18, iA v19, iA v20]) (cs' := [iA (arI 0 v17 v23.1 v18), iA (arI 1 v17 v23.1 v19), iA (arI 2 v17 v23.1 v20)]) (by kernel_rfl) (put3 (inO_spec hv25)) (h' := [.cells 162 [iA (arI 0 v17 v23.1 v18), iA (arI 1 v17 v23.1 v19), iA (arI 2 v17 v23.1 v20)], .cells 162 [iA 0, iA 0, iA 0]]) rfl ?_
          refine AOps_done ?_
          show AWP _ _ _ _ _ _ _
          refine AWP_region ?_
          refine Rh 2 44 [(2, .ptr 0 0), (4, .ptr 1 0), (16, .ro .unk v1.length (cl_str v1)), (17, iA (lI v1)), (18, iA (w64 (v17 + 1)))] (AOps_done ?_)
          exact Exists.intro (w64 (v17 + 1), arI 0 v17 v23.1 v18, arI 1 v17 v23.1 v19, arI 2 v17 v23.1 v20) (Exists.intro n ⟨by omega, ⟨by omega, H⟩, Norm_fd [2, 4, 16, 17, 18] 0 (by kernel_rfl) rfl rfl ⟨⟨trivial, trivial, trivial, trivial⟩, ⟨trivial, trivial, trivial, trivial⟩, trivial⟩ (by refine scL_fr ?_; exact ⟨(sc_ptr rfl), (sc_ptr rfl), (scl_cl_str _ _), trivial, trivial, trivial⟩)⟩)
      · refine AWP_exit ?_
        show AWP _ _ _ _ _ _ _
        refine AWP_reg (R 3 44 [(2, .ptr 0 0), (3, bA true)] [.cells 162 [iA v18, iA v19, iA v20], .cells 162 [iA v18, iA v19, iA v20]] (AOps_done (AWP_ret ?_)))
        have hr := Option.some.inj H
        subst hr
        exact Fin_retn 2 (l := [.agg [iA v18, iA v19, iA v20], bA true]) (h' := []) (by kernel_rfl) rfl (Nat.le_of_ble_eq_true rfl) ((by refine Closed_of ?_; exact trivial)) (Frz_sc ⟨⟨trivial, trivial, trivial, trivial⟩, trivial, trivial⟩) ⟨rfl, rfl⟩
end Go.Proofs.YtjhbobacbaikoaaGreatDoor
