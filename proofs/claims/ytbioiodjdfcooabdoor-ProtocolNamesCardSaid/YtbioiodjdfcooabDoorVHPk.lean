/- familychecklaw02.known answers true; the laws ProtocolNames and ProtocolLinears, walked. -/
import Derived.Test.YtbioiodjdfcooabDoorVHVn
import Derived.Test.YtbioiodjdfcooabDoorVHFl
import Derived.Test.YtbioiodjdfcooabDoorVHPx0
import Derived.Test.YtbioiodjdfcooabDoorVHYTerm
import Derived.Test.YtbioiodjdfcooabDoorVHPx17
namespace Go.Proofs.YtbioiodjdfcooabDoor.P
open Go.RowKit Go.Proofs.YtbioiodjdfcooabDoorW.PrintWords Go.Proofs.YtbioiodjdfcooabDoorW.PrintLast Go.Proofs.YtbioiodjdfcooabDoorW.PrintMore
set_option linter.unusedVariables false
set_option linter.unusedSimpArgs false
theorem itoa_digit (u : Nat) (h : u < 10) : Lib.itoa (u : Int) = [UInt8.ofNat (48 + u)] := by
  rw [Lib.itoa, if_neg (by omega), Int.toNat_natCast, Lib.decDigits, dif_pos h]
theorem text_one_p : lnText (-1) 1 (-3) 0 = [110, 45, 51, 42, 116, 45, 49] := by
  have i1 : Lib.itoa (max (-1) (-(-1))) = [49] := itoa_digit 1 (by decide)
  have i3 : Lib.itoa (max (-3) (-(-3))) = [51] := itoa_digit 3 (by decide)
  have t1 : lnTo (lnList (-1) 1 (-3) 0) 1 = [110] := by
    show lnStep (lnTo (lnList (-1) 1 (-3) 0) 0) 1 [110] = _
    rw [lnStep, if_neg (by decide), lnItem, if_neg (by decide), if_pos (by decide)]
    rfl
  have t2 : lnTo (lnList (-1) 1 (-3) 0) 2 = [110, 45, 51, 42, 116] := by
    show lnStep (lnTo (lnList (-1) 1 (-3) 0) 1) (-3) [116] = _
    rw [t1, lnStep, if_neg (by decide), lnItem, if_neg (by decide), if_neg (by decide), i3]
    rfl
  have t3 : lnTo (lnList (-1) 1 (-3) 0) 3 = [110, 45, 51, 42, 116] := by
    show lnStep (lnTo (lnList (-1) 1 (-3) 0) 2) 0 [102] = _
    rw [t2]
    rfl
  have t4 : lnTo (lnList (-1) 1 (-3) 0) 4 = [110, 45, 51, 42, 116, 45, 49] := by
    show lnStep (lnTo (lnList (-1) 1 (-3) 0) 3) (-1) [] = _
    rw [t3, lnStep, if_neg (by decide), lnItem, if_pos rfl, i1]
    rfl
  rw [lnText, t4, if_neg (by decide)]
theorem known_text : protocol_FormatLinear.f (-1) 1 (-3) 0 = some ⟨#[110, 45, 51, 42, 116, 45, 49]⟩ := by
  unfold protocol_FormatLinear.f
  rw [show protocol_bounded.f (-1) 1 (-3) 0 = some true from by decide +kernel, Option.bind_some, if_pos rfl, if_pos (by decide), text_one_p]
theorem name_v0 : vname ⟨#[118, 48]⟩ = true := by decide +kernel
theorem name_line : vname ⟨#[108, 105, 110, 101]⟩ = false := by decide +kernel
theorem name_none : vname ⟨#[]⟩ = false := by decide +kernel
set_option maxHeartbeats 2000000 in
set_option maxRecDepth 100000 in
theorem knownP_any (w : World) (htab : SpTab w) :
    Calls Tryd.prog 19 #[] w fun e w' => e = .returned (.bool true) ∧ Below w.heap.size w w' := by
  have hu := Tryd.underlying42
  have HT := Aside0.mk htab
  clear htab
  go_enter Tryd.func19, Tryd.ntmps19
  go_wp2_with fail
  refine (protocol_FormatLinear.calls (-1) 1 (-3) 0 _ _ known_text).mono ?_
  rintro e w1 ⟨rfl, b1⟩
  have B1 := Aside0.mk b1
  have T1 := Aside0.mk (show SpTab w1 from Lib.tabBelow_of_tabIs HT.out _ b1)
  clear b1
  go_wp2_with fail
  refine (validName_any _ _ T1.out).mono ?_
  rintro e w2 ⟨rfl, b2⟩
  have B2 := Aside0.mk (B1.out.trans (b2.mono B1.out.size))
  have T2 := Aside0.mk (show SpTab w2 from Lib.tabBelow_of_tabIs T1.out _ b2)
  clear b2
  rw [name_v0]
  go_wp2_with fail
  refine (validName_any _ _ T2.out).mono ?_
  rintro e w3 ⟨rfl, b3⟩
  have B3 := Aside0.mk (B2.out.trans (b3.mono B2.out.size))
  have T3 := Aside0.mk (show SpTab w3 from Lib.tabBelow_of_tabIs T2.out _ b3)
  clear b3
  rw [name_line]
  go_wp2_with fail
  refine (validName_any _ _ T3.out).mono ?_
  rintro e w4 ⟨rfl, b4⟩
  have B4 := Aside0.mk (B3.out.trans (b4.mono B3.out.size))
  clear b4
  rw [name_none]
  go_wp2_with fail
  go_ret
  exact ⟨rfl, B4.out⟩
set_option maxHeartbeats 2000000 in
set_option maxRecDepth 100000 in
theorem namesP_law (s : ByteArray) (w : World) (htab : SpTab w) (k : Nat) (hk : s.size ≤ 1000 → familycheckref02_ValidName.f k s = some (vname s)) :
    Calls Tryd.prog 5 #[.string s] w fun e w' => e = .returned (.bool true) ∧ Below w.heap.size w w' := by
  have HT := Aside0.mk htab
  clear htab
  by_cases h : 1000 < s.size
  · have hd : decide (1000 < s.size) = true := decide_eq_true h
    clear hk
    go_enter Tryd.func5, Tryd.ntmps5
    go_wp2_with fail
    refine (knownP_any _ HT.out).mono ?_
    rintro e w1 ⟨rfl, b1⟩
    have B1 := Aside0.mk b1
    clear b1
    go_wp2_with fail
    go_ret
    exact ⟨rfl, B1.out⟩
  · have hd : decide (1000 < s.size) = false := decide_eq_false h
    have HK := Aside0.mk (hk (by omega))
    clear hk
    go_enter Tryd.func5, Tryd.ntmps5
    go_wp2_with fail
    refine (validName_any _ _ HT.out).mono ?_
    rintro e w1 ⟨rfl, b1⟩
    have B1 := Aside0.mk b1
    have T1 := Aside0.mk (show SpTab w1 from Lib.tabBelow_of_tabIs HT.out _ b1)
    clear b1
    go_wp2_with fail
    refine (familycheckref02_ValidName.calls k s (vname s) _ HK.out).mono ?_
    rintro e w2 ⟨rfl, b2⟩
    have B2 := Aside0.mk (B1.out.trans (b2.mono B1.out.size))
    have T2 := Aside0.mk (show SpTab w2 from Lib.tabBelow_of_tabIs T1.out _ b2)
    clear b2
    generalize vname s = v
    have hv : (v == v) = true := beq_self_eq_true v
    go_wp2_with fail
    refine (knownP_any _ T2.out).mono ?_
    rintro e w3 ⟨rfl, b3⟩
    have B3 := Aside0.mk (B2.out.trans (b3.mono B2.out.size))
    clear b3
    go_wp2_with fail
    go_ret
    exact ⟨rfl, B3.out⟩
end Go.Proofs.YtbioiodjdfcooabDoor.P
