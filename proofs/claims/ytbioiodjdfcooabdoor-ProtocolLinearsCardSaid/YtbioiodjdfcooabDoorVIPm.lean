/- protocol.FormatLinear for every expression; the law ProtocolLinears, walked. -/
import Derived.Test.YtbioiodjdfcooabDoorVIPk
import Derived.Test.YtbioiodjdfcooabDoorVILw
import Derived.Lib.ItoaNum
namespace Go.Proofs.YtbioiodjdfcooabDoor.P
open Go.RowKit Go.WideShapes Go.Proofs.YtbioiodjdfcooabDoorW.PrintWords Go.Proofs.YtbioiodjdfcooabDoorW.PrintLast Go.Proofs.YtbioiodjdfcooabDoorW.PrintMore
set_option linter.unusedVariables false
set_option linter.unusedSimpArgs false
abbrev PwTab (w : World) : Prop := Lib.TabIs Tryd.prog w "internal/strconv.uint64pow10" .u64 Lib.pow10Tab
def inH (x : Int) : Bool := decide (-100 ≤ x) && decide (x ≤ 100)
def bdL (c n t f : Int) : Bool := inH c && (inH n && (inH t && inH f))
theorem factor_eq (x : Int) : protocol_factor.f x = some (inH x) := by
  unfold protocol_factor.f inH
  by_cases h : (-100 : Int) ≤ x
  · rw [if_pos h]; simp [h]
  · rw [if_neg h]; simp [h]
theorem bounded_eq (c n t f : Int) : protocol_bounded.f c n t f = some (bdL c n t f) := by
  unfold protocol_bounded.f bdL
  rw [factor_eq, factor_eq, factor_eq, factor_eq]
  simp only [Option.bind_some]
  cases inH c <;> cases inH n <;> cases inH t <;> cases inH f <;> rfl
theorem inH_iff {x : Int} : inH x = true ↔ -100 ≤ x ∧ x ≤ 100 := by simp [inH]
theorem bdL_get {c n t f : Int} (h : bdL c n t f = true) : (-100 ≤ c ∧ c ≤ 100) ∧ (-100 ≤ n ∧ n ≤ 100) ∧ (-100 ≤ t ∧ t ≤ 100) ∧ (-100 ≤ f ∧ f ≤ 100) := by
  simp only [bdL, Bool.and_eq_true] at h
  exact ⟨inH_iff.1 h.1, inH_iff.1 h.2.1, inH_iff.1 h.2.2.1, inH_iff.1 h.2.2.2⟩
def lnF (c n t f : Int) : ByteArray := if bdL c n t f = true then ⟨(lnText c n t f).toArray⟩ else ⟨#[]⟩
theorem formatLinear_all (c n t f : Int) (w : World) (htab : PwTab w) :
    Calls Tryd.prog 22 #[.agg #[.int .i64 c, .int .i64 n, .int .i64 t, .int .i64 f]] w fun e w' => e = .returned (.string (lnF c n t f)) ∧ Below w.heap.size w w' := by
  unfold lnF
  by_cases h : bdL c n t f = true
  · rw [if_pos h]
    have hb := bdL_get h
    refine formatLinear_ok c n t f w (fun i hi => ?_) (by rw [bounded_eq, h]) (fun m W hm hB => ?_)
    · have := lnGet c n t f i hi; omega
    · obtain ⟨i, hi, _, rfl⟩ := hm
      have := lnGet c n t f i hi
      generalize ((lnList c n t f).getD i (0, [])).1 = x at *
      refine (Tryd.strconv_Itoa (max x (-x)) (by omega) (by omega) W (Lib.tabBelow_of_tabIs htab W hB)).mono ?_
      rintro e w' ⟨rfl, j, os, rfl⟩
      exact ⟨rfl, Lib.itoa_length_le _ (by omega) (by omega), Lib.below_grow _ _ (Nat.le_refl _) _ _⟩
  · rw [if_neg h]
    exact formatLinear_no c n t f w (by rw [bounded_eq]; simpa using h)
theorem linearsP_law (c n t f : Int) (w : World) (htab : SpTab w) (hpow : PwTab w) (k : Nat) (hk : familycheckref02_FormatLinear.f k c n t f = some (lnF c n t f)) :
    Calls Tryd.prog 6 #[.agg #[.int .i64 c, .int .i64 n, .int .i64 t, .int .i64 f]] w fun e w' => e = .returned (.bool true) ∧ Below w.heap.size w w' :=
  linears_calls k c n t f (lnF c n t f) w (fun W hB => formatLinear_all c n t f W (Lib.tabBelow_of_tabIs hpow W hB)) (fun W hB => knownP_any W (Lib.tabBelow_of_tabIs htab W hB)) hk
end Go.Proofs.YtbioiodjdfcooabDoor.P
