/- FormatRow walked for every row; LinearFormats, whole. -/
import Derived.Test.YtbioiodjdfcooaaDoorVCPx0
import Derived.Test.YtbioiodjdfcooaaDoorVCPx1
import Derived.Test.YtbioiodjdfcooaaDoorVCPx6
import Derived.Test.YtbioiodjdfcooaaDoorVCQ08
import Derived.Lib.ItoaLen
namespace Go.Proofs.YtbioiodjdfcooaaDoor.P
open Go.RowKit Go.WideShapes Go.Proofs.YtbioiodjdfcooaaDoorW.PrintWords Go.Proofs.YtbioiodjdfcooaaDoorW.PrintLast Go.Proofs.YtbioiodjdfcooaaDoorW.PrintMore Build
set_option linter.unusedVariables false
set_option maxHeartbeats 4000000 in
set_option maxRecDepth 100000 in
theorem formatRow_long (A0 : Option Addr) (c0 : Nat) (l : List Int) (k : Int) (w : World) (hlen : 96 < l.length) :
    Calls Tryd.prog 31 #[.agg #[.slice A0 l.length c0, .int .i64 k]] w fun e w' => e = .returned (.tuple #[.string ⟨#[]⟩, .int .i64 1]) ∧ Below w.heap.size w w' := by
  have huR := Tryd.underlying33
  go_enter Tryd.func31, Tryd.ntmps31
  go_wp2_with fail
  go_ret2
  exact ⟨rfl, below_alloc (Below.refl _ _) _⟩
set_option maxHeartbeats 4000000 in
set_option maxRecDepth 100000 in
theorem formatRow_big (A0 : Option Addr) (c0 : Nat) (l : List Int) (k : Int) (K : Nat) (w : World) (hr : Kd.C (Kd.int .i64) w A0 l.length l) (hc : l.length ≤ c0)
    (hlen : l.length ≤ 96) (hs : linear_small.f K l k = some false) :
    Calls Tryd.prog 31 #[.agg #[.slice A0 l.length c0, .int .i64 k]] w fun e w' => e = .returned (.tuple #[.string ⟨#[]⟩, .int .i64 4]) ∧ Below w.heap.size w w' := by
  have huR := Tryd.underlying33
  have HR := Aside0.mk hr
  have HS := Aside0.mk hs
  clear hr hs
  go_enter Tryd.func31, Tryd.ntmps31
  go_wp2_with (first | (go_at_call 49; refine (linear_small.calls K A0 c0 l k false _ ?hr ?hc HS.out).mono ?_))
  case hr => exact Kd.C_below HR.out (below_alloc (Below.refl _ _) _)
  case hc => exact hc
  rintro e w1 ⟨rfl, hb1⟩
  have HB1 := Aside0.mk ((below_alloc (Below.refl w.heap.size w) (.cells #[.slice A0 l.length c0, .int .i64 k] 33 (0, 0))).trans (hb1.mono (by simp)))
  clear hb1
  go_wp2_with fail
  go_ret2
  exact ⟨rfl, HB1.out⟩
theorem formatRow_all (A0 : Option Addr) (c0 : Nat) (l : List Int) (k : Int) (w : World) (hr : Kd.C (Kd.int .i64) w A0 l.length l) (hc : l.length ≤ c0)
    (htab : Lib.TabIs Tryd.prog w "internal/strconv.uint64pow10" .u64 Lib.pow10Tab) :
    Calls Tryd.prog 31 #[.agg #[.slice A0 l.length c0, .int .i64 k]] w fun e w' => e = .returned (.tuple #[.string (fmt l k).1, .int .i64 (fmt l k).2]) ∧ Below w.heap.size w w' := by
  unfold fmt
  by_cases h : l.length > 96
  · rw [if_pos h]; exact formatRow_long A0 c0 l k w h
  · rw [if_neg h]
    obtain ⟨K, hK⟩ := (small_ev l k (by omega)).rounds
    by_cases hs : sm l k = true
    · rw [if_pos hs]
      rw [hs] at hK
      obtain ⟨hl, hk⟩ := sm_get hs
      have hat : ∀ i, i < l.length → -68719476736 ≤ l.getD i 0 ∧ l.getD i 0 ≤ 68719476736 := fun i hi => by
        have e : l.getD i 0 = l[i] := by simp [hi]
        rw [e]; exact hl _ (List.getElem_mem hi)
      refine formatRow_ok A0 c0 l k K w hr hc (by omega) hK hat hk (fun n hn W hb => ?_)
      have hn' : 0 ≤ n ∧ n ≤ 68719476736 := by
        rcases hn with rfl | ⟨h0, h1⟩ | ⟨i, hi, _, _, _, rfl⟩
        · rw [mx_natAbs]; omega
        · omega
        · have := hat i hi; rw [mx_natAbs]; omega
      refine (Tryd.strconv_Itoa n (by omega) (by omega) W (Lib.tabBelow_of_tabIs htab W hb)).mono ?_
      rintro e w' ⟨rfl, j, os, rfl⟩
      refine ⟨rfl, ?_, ?_⟩
      · obtain ⟨m, rfl⟩ : ∃ m : Nat, n = (m : Int) := ⟨n.toNat, by omega⟩
        rw [itoa_nat, Lib.decDigits_length]
        exact Nat.le_trans (Lib.nDigits_le20 m (by omega)) (by omega)
      · exact Lib.below_grow _ _ (Nat.le_refl _) _ _
    · rw [if_neg hs]
      rw [Bool.not_eq_true] at hs
      rw [hs] at hK
      exact formatRow_big A0 c0 l k K w hr hc (by omega) hK
theorem linearFormats_law (A0 : Option Addr) (c0 : Nat) (l : List Int) (k : Int) (w : World) (hr : Kd.C (Kd.int .i64) w A0 l.length l) (hc : l.length ≤ c0)
    (htab : Lib.TabIs Tryd.prog w "internal/strconv.uint64pow10" .u64 Lib.pow10Tab) :
    Calls Tryd.prog 7 #[.agg #[.slice A0 l.length c0, .int .i64 k]] w fun e w' => e = .returned (.bool true) ∧ Below w.heap.size w w' := by
  obtain ⟨K, hK⟩ := (formats_ev l k).rounds
  refine formats_calls (fun l c => some (fmt l c)) K A0 c0 l k true w hr hc (fun A c s e W hb hC hl he => ?_) hK
  obtain ⟨rfl, rfl⟩ : (fmt l k).1 = s ∧ (fmt l k).2 = e := by
    have := Option.some.inj he
    rw [this]; exact ⟨rfl, rfl⟩
  exact formatRow_all A c l k W hC hl (Lib.tabBelow_of_tabIs htab W hb)
end Go.Proofs.YtbioiodjdfcooaaDoor.P
