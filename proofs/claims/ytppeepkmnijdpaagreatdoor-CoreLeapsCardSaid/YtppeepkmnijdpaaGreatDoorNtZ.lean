/- The library's count of trailing zeros, as the shelf proves it. Conditions: its table lies in its variable. -/
import Derived.Test.YtppeepkmnijdpaaGreatDoorEngF
import Derived.Test.YtppeepkmnijdpaaGreatDoorNm
import Derived.Shelf.Spec.TrailingZeros
namespace Go.Proofs.YtppeepkmnijdpaaGreatDoor
open Go Go.Eng Go.Shelf
set_option linter.unusedVariables false
/-- this seat's numbers of what the function names -/
def tzr : Ren := ⟨fun _ => F.bits_TrailingZeros64, fun t => if t = 22 then 123 else if t = 25 then 223 else if t = 54 then 331 else t, fun _ => 0⟩
set_option maxRecDepth 20000 in
theorem tzl : Lays7.n29 Tryz.prog tzr := by
  constructor <;> first | kernel_rfl | (intro w; kernel_rfl)
/-- the library's table -/
abbrev Tb (w : World) : Prop := TabAt 0 Lib.deBruijn64tab w
theorem bits_TrailingZeros64.cl {x : Nat} (hx : x < 18446744073709551616) {w : World} (hT : Tb w) {K : TR [(false, [.i .i64])] → World → Prop} (hk : K (((Lib.ctz 64 x : Nat), ()), ()) w) : Ad Tryz.prog F.bits_TrailingZeros64 [.int .u64 (x : Int)] w false [(false, [.i .i64])] K := by
  refine Calls.mono (Any7.bits_TrailingZeros64 tzl x hx w fun _ => hT) ?_
  rintro e w' ⟨rfl, rfl⟩
  exact ⟨_, rfl, hk⟩
end Go.Proofs.YtppeepkmnijdpaaGreatDoor
