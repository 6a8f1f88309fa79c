/- 'known' answers true: one row tightened, valued, formatted and satisfied. -/
import Derived.Test.YtbioiodjdfcooaaDoorVGPx0
import Derived.Test.YtbioiodjdfcooaaDoorVGPx1
import Derived.Test.YtbioiodjdfcooaaDoorVGPx2
import Derived.Test.YtbioiodjdfcooaaDoorVGPx5
import Derived.Test.YtbioiodjdfcooaaDoorVGPx6
import Derived.Test.YtbioiodjdfcooaaDoorVGPx7
import Derived.Test.YtbioiodjdfcooaaDoorVGQa
namespace Go.Proofs.YtbioiodjdfcooaaDoor.P
open Go.RowKit Go.Proofs.YtbioiodjdfcooaaDoorW.PrintWords Go.Proofs.YtbioiodjdfcooaaDoorW.PrintLast Go.Proofs.YtbioiodjdfcooaaDoorW.PrintMore
set_option maxRecDepth 100000
theorem dec_one (u : Nat) (h : u < 10) : Lib.decDigits u = [UInt8.ofNat (48 + u)] := by rw [Lib.decDigits, dif_pos h]
theorem itoa_one (u : Nat) (h : u < 10) : Lib.itoa (u : Int) = [UInt8.ofNat (48 + u)] := by
  rw [Lib.itoa, if_neg (by omega), Int.toNat_natCast, dec_one u h]
theorem text_known : textOf [2, -1, 0] (-3) = [50, 42, 120, 48, 32, 45, 32, 120, 49, 32, 45, 32, 51, 32, 62, 61, 32, 48] := by
  have h0 : Lib.itoa ((0 : Nat) : Int) = [48] := itoa_one 0 (by decide)
  have h1 : Lib.itoa ((1 : Nat) : Int) = [49] := itoa_one 1 (by decide)
  have h2 : Lib.itoa (mx 2 (-2)) = [50] := itoa_one 2 (by decide)
  have h3 : Lib.itoa (mx (-3) (-(-3))) = [51] := itoa_one 3 (by decide)
  have t1 : textTo [2, -1, 0] 1 = [50, 42, 120, 48] := by
    show stepOf (textTo [2, -1, 0] 0) 0 2 = _
    rw [stepOf, if_neg (by decide), itemOf, if_neg (by decide), h0, h2]
    rfl
  have t2 : textTo [2, -1, 0] 2 = [50, 42, 120, 48, 32, 45, 32, 120, 49] := by
    show stepOf (textTo [2, -1, 0] 1) 1 (-1) = _
    rw [t1, stepOf, if_neg (by decide), itemOf, if_pos (by decide), h1]
    rfl
  have t3 : textTo [2, -1, 0] 3 = [50, 42, 120, 48, 32, 45, 32, 120, 49] := by
    show stepOf (textTo [2, -1, 0] 2) 2 0 = _
    rw [t2]
    rfl
  unfold textOf
  rw [show ([2, -1, 0] : List Int).length = 3 from rfl, t3, if_pos (.inl (by decide)), h3]
  rfl
theorem format_known : linear_FormatRow.f 40 [2, -1, 0] (-3) = some (⟨#[50, 42, 120, 48, 32, 45, 32, 120, 49, 32, 45, 32, 51, 32, 62, 61, 32, 48]⟩, 0) := by
  unfold linear_FormatRow.f
  rw [if_pos (by decide), show linear_small.f 40 [2, -1, 0] (-3) = some true from by kernel_rfl, Option.bind_some, if_pos rfl, text_known]
theorem known_ev : Ev (fun k => familychecklaw01_known.f k) true := by
  refine Ev.of familychecklaw01_known.mono (k := 40) ?_
  unfold familychecklaw01_known.f
  rw [show linear_Tighten.f 40 [2, -4] (-3) = some ([1, -2], -2) from by kernel_rfl, Option.bind_some, show linear_Value.f 40 ([1, -2], (-2 : Int)).1 ([1, -2], (-2 : Int)).2 [2, 0] = some (0, 0) from by kernel_rfl, Option.bind_some, format_known]
  kernel_rfl
theorem known_end : Ev (fun k => (familychecklaw01_known.f k).bind fun t => some t) true := ev_bind known_ev (Ev.now _)
end Go.Proofs.YtbioiodjdfcooaaDoor.P
