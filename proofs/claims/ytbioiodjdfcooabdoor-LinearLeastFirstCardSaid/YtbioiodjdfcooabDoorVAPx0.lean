import Derived.Test.YtbioiodjdfcooabDoorProg
import Derived.Test.YtbioiodjdfcooabDoorVABuild
import Derived.Test.YtbioiodjdfcooabDoorVAWWords
import Derived.Test.YtbioiodjdfcooabDoorVAWLast
import Derived.Test.YtbioiodjdfcooabDoorVAWTab
import Derived.Test.YtbioiodjdfcooabDoorVAWApart
import Derived.Test.YtbioiodjdfcooabDoorVAWFoot
import Derived.Test.YtbioiodjdfcooabDoorVAWKept
import Derived.Test.YtbioiodjdfcooabDoorVAWShare
import Derived.Test.YtbioiodjdfcooabDoorVAWN
import Derived.Test.YtbioiodjdfcooabDoorVAWRepsOne
import Derived.Test.YtbioiodjdfcooabDoorVAWGuard
import Derived.Test.YtbioiodjdfcooabDoorVAWNEv
import Derived.Test.YtbioiodjdfcooabDoorVAWMore
import Derived.Below
import Derived.Deep.Draws
import Derived.Deep.AppendLies
import Derived.Maps.AppendAt
import Derived.OwnWalk
import Derived.Laws.BytesArg
import Derived.Laws.MakeOwn
import Derived.Laws.OwnMore
import Derived.Deep.OwnRows
import Derived.Tactics
import Derived.Lib.ConvBytes
import Derived.Laws.Slices
import Derived.WalkKit
import Derived.KernelRfl
import Derived.RowKit3
import Derived.Deep.LoopGhost
import Derived.Deep.QuietTactic
import Derived.BigQuiet
import Derived.WideLaws
import Derived.Deep.DeepCutAuto
import Derived.Deep.CutBlock
import Derived.Deep.RegionHeld3
import Derived.Laws.Rows
import Derived.Lib.AppendStr
import Derived.ArgAppend
import Derived.Laws.IdiomCopy
import Derived.OrdersHeld
import Derived.Laws.BitsLemmas
import Derived.RowKit
import Derived.Laws.CopyOwn
import Derived.Lib.Hide
import Derived.Lib.ItoaLen
-- Written by a program of this session (wip/tools/doprint.sh: the kit's print, with given texts for some functions).
namespace Go.Proofs.YtbioiodjdfcooabDoor.P
open Go.RowKit Go.Proofs.YtbioiodjdfcooabDoorW.PrintWords Go.Proofs.YtbioiodjdfcooabDoorW.PrintLast Go.Proofs.YtbioiodjdfcooabDoorW.PrintMore
attribute [local go_sem] max2_int min2_int max_two min_two max_three min_three max_four min_four   -- for this text's walks alone
set_option linter.unusedVariables false
set_option linter.unusedSimpArgs false

def errW : Option Int → Value
  | none => .nilIface
  | some c => .iface 0 (.int .i64 c)
theorem errW_none : errW none = .nilIface := rfl
theorem errW_some (c : Int) : errW (some c) = .iface 0 (.int .i64 c) := rfl

theorem info3 : (Tryd.prog.info? 3).map (fun i => (i.zero, i.size, i.bytes)) = some (some (.int .i64 0), 1, 8) := by kernel_rfl
-- the values' own types
/-! #### struct type 35 -/
structure S35 where
  f0 : (List Int)
  f1 : Int
def z35 : S35 := ⟨([] : List Int), (0 : Int)⟩
def k35 : Kd S35 := Kd.iso (Kd.pair (Kd.slice 3 (Kd.int .i64)) (Kd.int .i64)) (fun x : S35 => (x.f0, x.f1))
theorem k35_open {w : World} {x : S35} {cs : List Value} (h : k35.K w x cs) : ∃ A0 c0, cs = [.slice A0 x.f0.length c0, .int .i64 x.f1] ∧ x.f0.length ≤ c0 ∧ (Kd.int .i64).C w A0 x.f0.length x.f0 := by
  obtain ⟨_, _, rfl, ⟨A0, c0, rfl, l0, g0⟩, rfl⟩ := h
  exact ⟨A0, c0, rfl, l0, g0⟩
theorem k35_mk (w : World) (x : S35) {A0 : Option Addr} {c0 : Nat} (l0 : x.f0.length ≤ c0) (g0 : (Kd.int .i64).C w A0 x.f0.length x.f0) : k35.K w x [.slice A0 x.f0.length c0, .int .i64 x.f1] := ⟨[.slice A0 x.f0.length c0], [.int .i64 x.f1], rfl, ⟨A0, c0, rfl, l0, g0⟩, rfl⟩
theorem k35_mkF (W : World) (ok : Nat → Prop) (x : S35) {A0 : Option Addr} {c0 : Nat} (l0 : x.f0.length ≤ c0) (g0 : Kd.F (Kd.int .i64) W ok A0 x.f0.length x.f0) : Kd.FK k35 W ok x [.slice A0 x.f0.length c0, .int .i64 x.f1] := fun W2 hW => k35_mk W2 x l0 (g0 W2 hW)
def rd_T35 (xs : List S35) (i : Int) : S35 := xs.getD i.toNat z35
theorem at_T35 {w : World} {A : Option Addr} {n : Nat} {xs : List S35} (h : Kd.C k35 w A n xs) (i : Int) (h0 : 0 ≤ i) (h1 : i < n) : ∃ ad A0 c0, A = some ad ∧ w.cell? (ad.add (i.toNat * 2)) = some (.slice A0 (rd_T35 xs i).f0.length c0) ∧ w.cell? ⟨(ad.add (i.toNat * 2)).block, (ad.add (i.toNat * 2)).off + 1, none⟩ = some (.int .i64 (rd_T35 xs i).f1) ∧ (rd_T35 xs i).f0.length ≤ c0 ∧ (Kd.int .i64).C w A0 (rd_T35 xs i).f0.length (rd_T35 xs i).f0 := by
  obtain ⟨ad, c, e, _, hK, hc0⟩ := Kd.C_get h z35 i h0 h1
  have hc : ∀ j u, c[j]? = some u → w.cell? (ad.add (i.toNat * 2 + j)) = some u := hc0
  obtain ⟨A0, c0, rfl, l0, g0⟩ := k35_open hK
  exact ⟨ad, A0, c0, e, hc 0 _ rfl, by rw [← add_field _ _ 1 (by omega)]; exact hc 1 _ rfl, l0, g0⟩

/-! #### struct type 135 -/
structure S135 where
  f0 : Int
  f1 : Int
  f2 : Int
/-! #### struct type 138 -/
structure S138 where
  f0 : Int
  f1 : Int
  f2 : Int
end Go.Proofs.YtbioiodjdfcooabDoor.P
