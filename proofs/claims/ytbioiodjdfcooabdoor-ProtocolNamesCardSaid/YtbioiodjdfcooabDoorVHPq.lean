/- What the document's ValidName and FormatLinear answer; ProtocolNames and ProtocolLinears, plain. -/
import Derived.Test.YtbioiodjdfcooabDoorVHPx0
import Derived.Test.YtbioiodjdfcooabDoorVHPx16
import Derived.Test.YtbioiodjdfcooabDoorVHPx17
import Derived.Test.YtbioiodjdfcooabDoorVHYTerm
import Derived.Test.YtbioiodjdfcooabDoorVHQa
import Derived.Test.YtbioiodjdfcooabDoorVHPk
import Derived.Test.YtbioiodjdfcooabDoorVHLw
namespace Go.Proofs.YtbioiodjdfcooabDoor.P
open Go.RowKit Go.WideShapes Go.Proofs.YtbioiodjdfcooabDoorW.PrintWords Go.Proofs.YtbioiodjdfcooabDoorW.PrintLast Go.Proofs.YtbioiodjdfcooabDoorW.PrintMore Build
set_option linter.unusedVariables false
theorem bytes_eq {a b : ByteArray} (h : a.data.toList = b.data.toList) : a = b := by
  obtain ⟨⟨a⟩⟩ := a; obtain ⟨⟨b⟩⟩ := b; cases h; rfl
/-! ### bytes -/
def bs (l : List UInt8) : ByteArray := ⟨l.toArray⟩
/-! ### digits -/
/-! ### FormatLinear -/
/-! ### ValidName -/
theorem rchar (b : Int) {α : Type} (x y : α) :
    (if b ≥ 97 then (if b ≤ 122 then x else (if b ≥ 48 then (if b ≤ 57 then x else (if b = 95 then x else y)) else (if b = 95 then x else y))) else (if b ≥ 48 then (if b ≤ 57 then x else (if b = 95 then x else y)) else (if b = 95 then x else y))) = if chB false b = true then x else y := by
  by_cases h : (97 ≤ b ∧ b ≤ 122) ∨ (48 ≤ b ∧ b ≤ 57) ∨ b = 95
  · have e : chB false b = true := by
      simp only [chB, Bool.not_false, Bool.true_and, Bool.or_eq_true, Bool.and_eq_true, decide_eq_true_eq]; omega
    rw [if_pos e]
    repeat' split
    all_goals first | rfl | (exfalso; omega)
  · have e : ¬ chB false b = true := by
      simp only [chB, Bool.not_false, Bool.true_and, Bool.or_eq_true, Bool.and_eq_true, decide_eq_true_eq]; omega
    rw [if_neg e]
    repeat' split
    all_goals first | rfl | (exfalso; omega)
theorem contains_no {l : List ByteArray} {s : ByteArray} (h : ¬ s ∈ l) : Lib.containsS l s = false := by
  rw [← Bool.not_eq_true]; exact fun h2 => h ((Lib.containsS_iff _ _).1 h2)
theorem hasText_l0 (l : List ByteArray) (s : ByteArray) (hn : l.length ≤ 1000) (d : Nat) : ∀ i : Nat, i + d = l.length → Ev (fun k => familycheckref02_HasText.l0 k l s (i : Int)) (Lib.containsS (l.drop i) s) := by
  induction d with
  | zero =>
    intro i hi
    refine Ev.step (f := fun _ => some false) (fun k => ?_) (ev_eq (Ev.now _) ?_)
    · simp only [familycheckref02_HasText.l0]; rw [if_neg (by omega)]
    · rw [List.drop_eq_nil_of_le (by omega)]; exact (contains_no (fun h => by cases h)).symm
  | succ d ih =>
    intro i hi
    have hlt : i < l.length := by omega
    have e : rdOf ByteArray.empty l (i : Int) = l[i] := by simp [rdOf, hlt]
    refine Ev.step (f := fun k => if l[i].toList = s.toList then some true else familycheckref02_HasText.l0 k l s ((i + 1 : Nat) : Int)) (fun k => ?_) ?_
    · simp only [familycheckref02_HasText.l0]
      rw [if_pos (by omega), if_pos (by omega), e, wrap_next hlt (by omega)]
    · rw [List.drop_eq_getElem_cons hlt]
      refine ev_ite _ (fun h => ?_) (fun h => ?_)
      · have hs : s = l[i] := bytes_eq (by rw [Go.ByteArray.toList_eq, Go.ByteArray.toList_eq] at h; exact h.symm)
        refine ev_eq (Ev.now _) ?_
        exact ((Lib.containsS_iff _ _).2 (by rw [hs]; exact .head _)).symm
      · refine ev_eq (ih (i + 1) (by omega)) ?_
        rw [Bool.eq_iff_iff, Lib.containsS_iff, Lib.containsS_iff, List.mem_cons]
        constructor
        · exact fun h2 => .inr h2
        · rintro (h2 | h2)
          · exact absurd (by rw [h2]) h
          · exact h2
theorem resv_same : familycheckref02_reserved.f = some resvWords := by
  unfold familycheckref02_reserved.f
  exact congrArg some (by decide +kernel)
theorem chB_later {i : Nat} (h : 1 ≤ i) (b : Int) : chB (i == 0) b = chB false b := by
  rw [show (i == 0) = false by simp; omega]
theorem rname_l0 (s : ByteArray) (hn : s.size ≤ 1000) (h1 : 1 ≤ s.size) (hf : chB true (bt s 0) = true) (d : Nat) : ∀ i : Nat, i + d = s.size → chTo s i = true → Ev (fun k => familycheckref02_ValidName.l0 k s (i : Int)) (chTo s s.size && !Lib.containsS resvWords s) := by
  induction d with
  | zero =>
    intro i hi hc
    obtain rfl : i = s.size := by omega
    have hh := hasText_l0 resvWords s (by decide +kernel) resvWords.length 0 (by omega)
    rw [List.drop_zero] at hh
    refine Ev.step (f := fun k => (familycheckref02_HasText.f k resvWords s).bind fun t => some (!t)) (fun k => ?_) (ev_bind hh (ev_eq (Ev.now _) ?_))
    · simp only [familycheckref02_ValidName.l0]; rw [if_neg (by omega), resv_same]; rfl
    · rw [hc, Bool.true_and]
  | succ d ih =>
    intro i hi hc
    have hlt : i < s.size := by omega
    refine Ev.step (f := fun k => if chB false (bt s (i : Int)) = true then familycheckref02_ValidName.l0 k s ((i + 1 : Nat) : Int) else some false) (fun k => ?_) ?_
    · simp only [familycheckref02_ValidName.l0]
      rw [if_pos (by omega), if_pos (by omega), wrap_next hlt (by omega), rchar]
    · refine ev_ite _ (fun h => ?_) (fun h => ?_)
      · refine ih (i + 1) (by omega) ?_
        rw [chTo_succ, hc, Bool.true_and]
        by_cases h0 : i = 0
        · subst h0; exact hf
        · rw [chB_later (by omega)]; exact h
      · refine ev_eq (Ev.now _) ?_
        have hno : chTo s s.size = false := chTo_no hlt (by
          by_cases h0 : i = 0
          · subst h0
            exfalso
            refine h ?_
            have : chB true (bt s ((0 : Nat) : Int)) = true := hf
            simp only [chB, Bool.not_true, Bool.false_and, Bool.or_false] at this
            simp only [chB, this, Bool.true_or]
          · rw [chB_later (by omega)]; simpa using h)
        rw [hno, Bool.false_and]
theorem rname_ev (s : ByteArray) (hn : s.size ≤ 1000) : Ev (fun k => familycheckref02_ValidName.f k s) (vname s) := by
  have hbad : ∀ {b : Bool}, b = true → vname s = false → Ev (fun k => familycheckref02_ValidName.j0 k s b) (vname s) := by
    intro b hb hv
    subst hb
    refine Ev.step (f := fun _ => some false) (fun k => ?_) (ev_eq (Ev.now _) hv.symm)
    simp only [familycheckref02_ValidName.j0]; rfl
  have hw : familycheckref02_within.f (s.size : Int) 1 12 = some (decide (1 ≤ s.size) && decide (s.size ≤ 12)) := by
    unfold familycheckref02_within.f
    by_cases h : (1 : Int) ≤ (s.size : Int)
    · rw [if_pos h, decide_eq_true (show 1 ≤ s.size by omega), Bool.true_and]
      exact congrArg some (decide_eq_decide.2 (by omega))
    · rw [if_neg h, decide_eq_false (show ¬ 1 ≤ s.size by omega), Bool.false_and]
  unfold familycheckref02_ValidName.f
  rw [hw]
  simp only [Option.bind_some]
  refine ev_ite _ (fun h => ?_) (fun h => hbad rfl (by
    rw [Bool.not_eq_true] at h
    rw [vname, ← Bool.and_assoc, h, Bool.false_and]))
  simp only [Bool.and_eq_true, decide_eq_true_eq] at h
  refine Ev.congr (fun k => if_pos (by omega)) ?_
  have hno : chB true (bt s 0) = false → vname s = false := fun hc => vname_no (chTo_no (pos := 0) (by omega) hc)
  refine ev_ite _ (fun h2 => hbad rfl (hno ?_)) (fun h2 => ?_)
  · simp only [chB, Bool.not_true, Bool.false_and, Bool.or_false, Bool.and_eq_false_iff, decide_eq_false_iff_not]; omega
  · by_cases h3 : bt s 0 > 122
    · refine hbad (by simpa using h3) (hno ?_)
      simp only [chB, Bool.not_true, Bool.false_and, Bool.or_false, Bool.and_eq_false_iff, decide_eq_false_iff_not]; omega
    · have hf : chB true (bt s 0) = true := by
        simp only [chB, Bool.not_true, Bool.false_and, Bool.or_false, Bool.and_eq_true, decide_eq_true_eq]; omega
      have hl := rname_l0 s hn h.1 hf s.size 0 (by omega) rfl
      refine Ev.step (f := fun k => familycheckref02_ValidName.l0 k s 0) (fun k => ?_) (ev_eq hl ?_)
      · simp only [familycheckref02_ValidName.j0]; rw [if_neg (by simpa using h3)]
      · rw [vname, decide_eq_true h.1, decide_eq_true h.2, Bool.true_and, Bool.true_and]
theorem protocolNames_law (s : ByteArray) (w : World) (htab : SpTab w) :
    Calls Tryd.prog 5 #[.string s] w fun e w' => e = .returned (.bool true) ∧ Below w.heap.size w w' := by
  by_cases h : s.size ≤ 1000
  · obtain ⟨k, hk⟩ := (rname_ev s h).rounds
    exact namesP_law s w htab k (fun _ => hk)
  · exact namesP_law s w htab 0 (fun h2 => absurd h2 h)
end Go.Proofs.YtbioiodjdfcooabDoor.P
