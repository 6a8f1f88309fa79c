/- protocol.isReserved, protocol.ValidName: what they answer. -/
import Derived.Test.YtbioiodjdfcooabDoorVHFb
import Derived.Test.YtbioiodjdfcooabDoorVHPx0
import Derived.Laws.RangeAny
import Derived.Laws.RangeString
import Derived.LoopTactic
import Derived.Lib.AppendIntMem
namespace Go.Proofs.YtbioiodjdfcooabDoor.P
open Go.RowKit Go.Proofs.YtbioiodjdfcooabDoorW.PrintWords Go.Proofs.YtbioiodjdfcooabDoorW.PrintLast Go.Proofs.YtbioiodjdfcooabDoorW.PrintMore
set_option linter.unusedVariables false
set_option linter.unusedSimpArgs false
def resvText : ByteArray := ⟨#[112, 114, 111, 116, 111, 99, 111, 108, 32, 116, 111, 112, 111, 108, 111, 103, 121, 32, 115, 116, 97, 116, 101, 115, 32, 109, 101, 115, 115, 97, 103, 101, 115, 32, 118, 97, 108, 117, 101, 115, 32, 102, 97, 117, 108, 116, 115, 32, 114, 101, 115, 105, 108, 105, 101, 110, 99, 101, 32, 105, 110, 105, 116, 105, 97, 108, 32, 108, 101, 97, 100, 101, 114, 32, 114, 117, 108, 101, 32, 108, 111, 99, 97, 108, 32, 112, 97, 105, 114, 32, 98, 114, 111, 97, 100, 99, 97, 115, 116, 32, 110, 101, 105, 103, 104, 98, 111, 114, 32, 112, 97, 115, 115, 32, 119, 104, 101, 110, 32, 101, 120, 105, 115, 116, 115, 32, 102, 111, 114, 97, 108, 108, 32, 114, 101, 97, 100, 32, 119, 114, 105, 116, 101, 32, 115, 101, 110, 100, 32, 97, 108, 108, 32, 97, 116, 32, 102, 105, 114, 115, 116, 32, 108, 97, 115, 116, 32, 108, 101, 102, 116, 32, 114, 105, 103, 104, 116, 32, 112, 97, 114, 101, 110, 116, 32, 99, 104, 105, 108, 100, 32, 112, 114, 111, 112, 101, 114, 116, 121, 32, 110, 101, 118, 101, 114, 32, 101, 118, 101, 110, 116, 117, 97, 108, 108, 121, 32, 115, 116, 97, 114, 116, 32, 99, 111, 117, 110, 116, 32, 97, 100, 106, 97, 99, 101, 110, 116, 32, 103, 111, 97, 108, 32, 99, 108, 105, 113, 117, 101, 32, 108, 105, 110, 101, 32, 114, 105, 110, 103, 32, 116, 114, 101, 101, 32, 99, 114, 97, 115, 104, 32, 111, 109, 105, 115, 115, 105, 111, 110, 32, 97, 114, 98, 105, 116, 114, 97, 114, 121]⟩
def resvWords : List ByteArray := (Lib.fields resvText.data.toList).map fun l => ⟨l.toArray⟩
abbrev SpTab (w : World) : Prop := Lib.TabIs Tryd.prog w "strings.asciiSpace" .u8 Lib.asciiSpaceTab
theorem resv_ascii : ∀ (j : Nat) b, resvText.data.toList[j]? = some b → b.toNat < 128 := by
  have h : ∀ b ∈ resvText.data.toList, b.toNat < 128 := by decide +kernel
  intro j b hb
  exact h b (List.mem_of_getElem? hb)
theorem resv_len : (Lib.fields resvText.data.toList).length = 43 := by decide +kernel
set_option maxHeartbeats 2000000 in
set_option maxRecDepth 100000 in
theorem isReserved_any (s : ByteArray) (w : World) (htab : SpTab w) :
    Calls Tryd.prog 41 #[.string s] w fun e w' => e = .returned (.bool (Lib.containsS resvWords s)) ∧ Below w.heap.size w w' := by
  have HT := Aside0.mk htab
  clear htab
  go_enter Tryd.func41, Tryd.ntmps41
  go_wp2_with fail
  refine (Tryd.strings_Fields resvText w (by decide +kernel) resv_ascii HT.out).mono ?_
  rintro e w1 ⟨rfl, hw⟩
  have hB : Below w.heap.size w w1 := by rw [hw]; exact (Below.refl _ _).alloc (Nat.le_refl _) _
  have hC : ∀ j, j < resvWords.length → w1.cell? ⟨w.heap.size, 0 + j, none⟩ = some (.string (resvWords.getD j ByteArray.empty)) := by
    intro j hj
    rw [hw, Nat.zero_add, (blk_cell (blk_new w (.cells ((Lib.fields resvText.data.toList).map fun l => Value.string ⟨l.toArray⟩).toArray 9)) j)]
    have hj' : j < (Lib.fields resvText.data.toList).length := by simpa [resvWords] using hj
    simp [resvWords, hj']
  have HB := Aside0.mk hB
  have HC := Aside0.mk hC
  clear hw hB hC
  rw [resv_len]
  go_wp2_with fail
  refine (Tryd.slices_Contains_string w.heap.size 0 43 43 resvWords s w1 (by rw [show resvWords.length = 43 by rw [resvWords, List.length_map]; exact resv_len]; exact Nat.le_refl _) (by omega) HC.out).mono ?_
  rintro e w2 ⟨rfl, rfl⟩
  go_wp2_with fail
  go_ret
  refine ⟨?_, HB.out⟩
  rw [List.take_of_length_le (by rw [resvWords, List.length_map, resv_len]; exact Nat.le_refl _)]
  rfl
/-- May a byte stand in a name: a small letter; behind the first, a digit or '_', too. -/
def chB (first : Bool) (c : Int) : Bool := (decide (97 ≤ c) && decide (c ≤ 122)) || (!first && ((decide (48 ≤ c) && decide (c ≤ 57)) || decide (c = 95)))
def chTo (s : ByteArray) (n : Nat) : Bool := (List.range n).all fun j => chB (j == 0) (bt s j)
def vname (s : ByteArray) : Bool := decide (1 ≤ s.size) && (decide (s.size ≤ 12) && (chTo s s.size && !Lib.containsS resvWords s))
theorem chTo_succ (s : ByteArray) (n : Nat) : chTo s (n + 1) = (chTo s n && chB (n == 0) (bt s n)) := by
  simp [chTo, List.range_succ]
theorem chB_a {f : Bool} {c : Int} (h : 97 ≤ c) (h' : c ≤ 122) : chB f c = true := by simp [chB, h, h']
theorem chB_b {pos : Nat} {c : Int} (h0 : ¬ pos = 0) (h : 48 ≤ c) (h' : c ≤ 57) : chB (pos == 0) c = true := by simp [chB, h, h', h0]
theorem chB_c {pos : Nat} {c : Int} (h0 : ¬ pos = 0) (h : c = 95) : chB (pos == 0) c = true := by simp [chB, h, h0]
theorem chB_no {pos : Nat} {c : Int} (h : c < 97 ∨ 122 < c) (h0 : pos = 0) : chB (pos == 0) c = false := by
  simp only [chB, h0, Bool.or_eq_false_iff, Bool.and_eq_false_iff, decide_eq_false_iff_not]
  exact ⟨by omega, .inl rfl⟩
theorem chB_no2 {f : Bool} {c : Int} (h : c < 97 ∨ 122 < c) (h1 : c < 48 ∨ 57 < c) (h2 : c ≠ 95) : chB f c = false := by
  simp only [chB, Bool.or_eq_false_iff, Bool.and_eq_false_iff, decide_eq_false_iff_not]
  exact ⟨by omega, .inr ⟨by omega, h2⟩⟩
structure chFact (s : ByteArray) (pos : Nat) (c : Int) (wd : Nat) : Prop where
  w : 1 ≤ wd ∧ (c < 128 → pos + wd ≤ s.size)
  yes : chTo s pos = true → chB (pos == 0) c = true → chTo s (pos + wd) = true
  no : pos < s.size → chB (pos == 0) c = false → vname s = false
theorem chTo_no {s : ByteArray} {pos : Nat} (h : pos < s.size) (hb : chB (pos == 0) (bt s pos) = false) : chTo s s.size = false := by
  rw [chTo, List.all_eq_false]
  exact ⟨pos, List.mem_range.2 h, by rw [hb]; simp⟩
theorem vname_no {s : ByteArray} (h : chTo s s.size = false) : vname s = false := by simp [vname, h]
theorem chB_big {f : Bool} {c : Int} (h : 128 ≤ c) : chB f c = false := chB_no2 (by omega) (by omega) (by omega)
theorem chFact_mk (s : ByteArray) (pos : Nat) (h : pos < s.size) : chFact s pos (Utf8.decode s pos).1 (Utf8.decode s pos).2 := by
  have hb : bt s pos = ((s[pos]'h).toNat : Int) := by simp [bt, h]
  by_cases ha : (s[pos]'h).toNat < 128
  · rw [decode_ascii s pos h ha]
    refine ⟨⟨Nat.le_refl _, fun _ => by simp; omega⟩, fun h1 h2 => ?_, fun _ h2 => vname_no (chTo_no h (by rw [hb]; exact h2))⟩
    show chTo s (pos + 1) = true
    rw [chTo_succ, h1, hb]; simpa using h2
  · obtain ⟨h1, h2⟩ := decode_high s pos h (by omega)
    refine ⟨⟨h2, fun hc => by omega⟩, fun _ h3 => ?_, fun _ _ => vname_no (chTo_no h (by rw [hb]; exact chB_big (by omega)))⟩
    rw [chB_big (by omega)] at h3; cases h3
set_option maxHeartbeats 4000000 in
set_option maxRecDepth 100000 in
theorem validName_any (s : ByteArray) (w : World) (htab : SpTab w) :
    Calls Tryd.prog 20 #[.string s] w fun e w' => e = .returned (.bool (vname s)) ∧ Below w.heap.size w w' := by
  have HT := Aside0.mk htab
  clear htab
  by_cases h1 : s.size = 0
  · have he : s.toList.isEmpty = true := by rw [Go.ByteArray.toList_eq, List.isEmpty_iff]; exact List.eq_nil_of_length_eq_zero h1
    have HV := Aside0.mk (show vname s = false by simp [vname, h1])
    clear h1
    go_enter Tryd.func20, Tryd.ntmps20
    go_wp2
    go_ret
    exact ⟨by rw [HV.out]; rfl, Below.refl _ _⟩
  · have he : s.toList.isEmpty = false := by rw [Go.ByteArray.toList_eq, List.isEmpty_eq_false_iff]; exact fun e => h1 (by have := congrArg List.length e; simpa using this)
    by_cases h2 : 12 < s.size
    · have hd : decide (12 < s.size) = true := decide_eq_true h2
      have HV := Aside0.mk (show vname s = false by rw [vname, decide_eq_false (show ¬ s.size ≤ 12 by omega)]; simp)
      go_enter Tryd.func20, Tryd.ntmps20
      go_wp2
      go_ret
      exact ⟨by rw [HV.out]; rfl, Below.refl _ _⟩
    · have hd : decide (12 < s.size) = false := decide_eq_false h2
      go_enter Tryd.func20, Tryd.ntmps20
      go_wp2
      go_loopw [] (fun w' => ∃ pos : Nat, w' = w.iter s pos ∧ pos ≤ s.size ∧ Aside0 (chTo s pos = true)) (fun w' => s.size - w'.iterPos w.heap.size)
      case atStart => exact ⟨0, rfl, Nat.zero_le _, ⟨rfl⟩⟩
      case round =>
        obtain ⟨pos, rfl, hps, HC⟩ := hrel
        by_cases hp : pos < s.size
        · obtain ⟨c, wd, hcc, hnx⟩ : ∃ (c : Int) (wd : Nat), chFact s pos c wd ∧ ∀ ty, (Instr.next (.pointer (some ⟨w.heap.size, 0, none⟩)) true ty).run Tryd.prog (w.iter s pos) = .ok (.tuple #[.bool true, .int .i64 pos, .int .i32 c]) (w.iter s (pos + wd)) := ⟨_, _, chFact_mk s pos hp, fun ty => run_next_any w s pos ty hp⟩
          have HW := Aside0.mk hcc.w
          have HCH := Aside0.mk (hcc.yes HC.out)
          have HNO := Aside0.mk (hcc.no hp)
          clear hcc HC
          have hall : (c < 48) ∨ (48 ≤ c ∧ c ≤ 57) ∨ (58 ≤ c ∧ c ≤ 94) ∨ (95 ≤ c ∧ c ≤ 95) ∨ (96 ≤ c ∧ c ≤ 96) ∨ (97 ≤ c ∧ c ≤ 122) ∨ (122 < c) := by omega
          by_cases hz : pos = 0
          · have hz0 : ((pos : Int) == 0) = true := by simpa using hz
            have HZ := Aside0.mk hz
            clear hz
            rcases hall with h | h | h | h | h | h | h
            · have b0 : decide (97 ≤ c) = false := decide_eq_false (by omega)
              have b1 : decide (c ≤ 122) = true := decide_eq_true (by omega)
              have b2 : decide (c < 48) = true := decide_eq_true (by omega)
              have b3 : decide (57 < c) = false := decide_eq_false (by omega)
              have b4 : (c != 95) = true := bne_iff_ne.2 (by omega)
              have HH := Aside0.mk h
              clear h
              go_wp2
              have h := HH.out
              go_ret
              exact ⟨by rw [HNO.out (chB_no (by omega) HZ.out)]; rfl, (Below.refl _ _).alloc (Nat.le_refl _) _⟩
            · have b0 : decide (97 ≤ c) = false := decide_eq_false (by omega)
              have b1 : decide (c ≤ 122) = true := decide_eq_true (by omega)
              have b2 : decide (c < 48) = false := decide_eq_false (by omega)
              have b3 : decide (57 < c) = false := decide_eq_false (by omega)
              have b4 : (c != 95) = true := bne_iff_ne.2 (by omega)
              have HH := Aside0.mk h
              clear h
              go_wp2
              have h := HH.out
              go_ret
              exact ⟨by rw [HNO.out (chB_no (by omega) HZ.out)]; rfl, (Below.refl _ _).alloc (Nat.le_refl _) _⟩
            · have b0 : decide (97 ≤ c) = false := decide_eq_false (by omega)
              have b1 : decide (c ≤ 122) = true := decide_eq_true (by omega)
              have b2 : decide (c < 48) = false := decide_eq_false (by omega)
              have b3 : decide (57 < c) = true := decide_eq_true (by omega)
              have b4 : (c != 95) = true := bne_iff_ne.2 (by omega)
              have HH := Aside0.mk h
              clear h
              go_wp2
              have h := HH.out
              go_ret
              exact ⟨by rw [HNO.out (chB_no (by omega) HZ.out)]; rfl, (Below.refl _ _).alloc (Nat.le_refl _) _⟩
            · have b0 : decide (97 ≤ c) = false := decide_eq_false (by omega)
              have b1 : decide (c ≤ 122) = true := decide_eq_true (by omega)
              have b2 : decide (c < 48) = false := decide_eq_false (by omega)
              have b3 : decide (57 < c) = true := decide_eq_true (by omega)
              have b4 : (c != 95) = false := bne_eq_false_iff_eq.2 (by omega)
              have HH := Aside0.mk h
              clear h
              go_wp2
              have h := HH.out
              go_ret
              exact ⟨by rw [HNO.out (chB_no (by omega) HZ.out)]; rfl, (Below.refl _ _).alloc (Nat.le_refl _) _⟩
            · have b0 : decide (97 ≤ c) = false := decide_eq_false (by omega)
              have b1 : decide (c ≤ 122) = true := decide_eq_true (by omega)
              have b2 : decide (c < 48) = false := decide_eq_false (by omega)
              have b3 : decide (57 < c) = true := decide_eq_true (by omega)
              have b4 : (c != 95) = true := bne_iff_ne.2 (by omega)
              have HH := Aside0.mk h
              clear h
              go_wp2
              have h := HH.out
              go_ret
              exact ⟨by rw [HNO.out (chB_no (by omega) HZ.out)]; rfl, (Below.refl _ _).alloc (Nat.le_refl _) _⟩
            · have b0 : decide (97 ≤ c) = true := decide_eq_true (by omega)
              have b1 : decide (c ≤ 122) = true := decide_eq_true (by omega)
              have b2 : decide (c < 48) = false := decide_eq_false (by omega)
              have b3 : decide (57 < c) = true := decide_eq_true (by omega)
              have b4 : (c != 95) = true := bne_iff_ne.2 (by omega)
              have HH := Aside0.mk h
              clear h
              go_wp2
              have h := HH.out
              go_roundw
              case rel => exact ⟨pos + wd, rfl, HW.out.2 (by omega), ⟨HCH.out (chB_a (by omega) (by omega))⟩⟩
              case measure => have := HW.out.1; simp; omega
            · have b0 : decide (97 ≤ c) = true := decide_eq_true (by omega)
              have b1 : decide (c ≤ 122) = false := decide_eq_false (by omega)
              have b2 : decide (c < 48) = false := decide_eq_false (by omega)
              have b3 : decide (57 < c) = true := decide_eq_true (by omega)
              have b4 : (c != 95) = true := bne_iff_ne.2 (by omega)
              have HH := Aside0.mk h
              clear h
              go_wp2
              have h := HH.out
              go_ret
              exact ⟨by rw [HNO.out (chB_no (by omega) HZ.out)]; rfl, (Below.refl _ _).alloc (Nat.le_refl _) _⟩
          · have hz0 : ((pos : Int) == 0) = false := by simpa using hz
            have HZ := Aside0.mk hz
            clear hz
            rcases hall with h | h | h | h | h | h | h
            · have b0 : decide (97 ≤ c) = false := decide_eq_false (by omega)
              have b1 : decide (c ≤ 122) = true := decide_eq_true (by omega)
              have b2 : decide (c < 48) = true := decide_eq_true (by omega)
              have b3 : decide (57 < c) = false := decide_eq_false (by omega)
              have b4 : (c != 95) = true := bne_iff_ne.2 (by omega)
              have HH := Aside0.mk h
              clear h
              go_wp2
              have h := HH.out
              go_ret
              exact ⟨by rw [HNO.out (chB_no2 (by omega) (by omega) (by omega))]; rfl, (Below.refl _ _).alloc (Nat.le_refl _) _⟩
            · have b0 : decide (97 ≤ c) = false := decide_eq_false (by omega)
              have b1 : decide (c ≤ 122) = true := decide_eq_true (by omega)
              have b2 : decide (c < 48) = false := decide_eq_false (by omega)
              have b3 : decide (57 < c) = false := decide_eq_false (by omega)
              have b4 : (c != 95) = true := bne_iff_ne.2 (by omega)
              have HH := Aside0.mk h
              clear h
              go_wp2
              have h := HH.out
              go_roundw
              case rel => exact ⟨pos + wd, rfl, HW.out.2 (by omega), ⟨HCH.out (chB_b HZ.out (by omega) (by omega))⟩⟩
              case measure => have := HW.out.1; simp; omega
            · have b0 : decide (97 ≤ c) = false := decide_eq_false (by omega)
              have b1 : decide (c ≤ 122) = true := decide_eq_true (by omega)
              have b2 : decide (c < 48) = false := decide_eq_false (by omega)
              have b3 : decide (57 < c) = true := decide_eq_true (by omega)
              have b4 : (c != 95) = true := bne_iff_ne.2 (by omega)
              have HH := Aside0.mk h
              clear h
              go_wp2
              have h := HH.out
              go_ret
              exact ⟨by rw [HNO.out (chB_no2 (by omega) (by omega) (by omega))]; rfl, (Below.refl _ _).alloc (Nat.le_refl _) _⟩
            · have b0 : decide (97 ≤ c) = false := decide_eq_false (by omega)
              have b1 : decide (c ≤ 122) = true := decide_eq_true (by omega)
              have b2 : decide (c < 48) = false := decide_eq_false (by omega)
              have b3 : decide (57 < c) = true := decide_eq_true (by omega)
              have b4 : (c != 95) = false := bne_eq_false_iff_eq.2 (by omega)
              have HH := Aside0.mk h
              clear h
              go_wp2
              have h := HH.out
              go_roundw
              case rel => exact ⟨pos + wd, rfl, HW.out.2 (by omega), ⟨HCH.out (chB_c HZ.out (by omega))⟩⟩
              case measure => have := HW.out.1; simp; omega
            · have b0 : decide (97 ≤ c) = false := decide_eq_false (by omega)
              have b1 : decide (c ≤ 122) = true := decide_eq_true (by omega)
              have b2 : decide (c < 48) = false := decide_eq_false (by omega)
              have b3 : decide (57 < c) = true := decide_eq_true (by omega)
              have b4 : (c != 95) = true := bne_iff_ne.2 (by omega)
              have HH := Aside0.mk h
              clear h
              go_wp2
              have h := HH.out
              go_ret
              exact ⟨by rw [HNO.out (chB_no2 (by omega) (by omega) (by omega))]; rfl, (Below.refl _ _).alloc (Nat.le_refl _) _⟩
            · have b0 : decide (97 ≤ c) = true := decide_eq_true (by omega)
              have b1 : decide (c ≤ 122) = true := decide_eq_true (by omega)
              have b2 : decide (c < 48) = false := decide_eq_false (by omega)
              have b3 : decide (57 < c) = true := decide_eq_true (by omega)
              have b4 : (c != 95) = true := bne_iff_ne.2 (by omega)
              have HH := Aside0.mk h
              clear h
              go_wp2
              have h := HH.out
              go_roundw
              case rel => exact ⟨pos + wd, rfl, HW.out.2 (by omega), ⟨HCH.out (chB_a (by omega) (by omega))⟩⟩
              case measure => have := HW.out.1; simp; omega
            · have b0 : decide (97 ≤ c) = true := decide_eq_true (by omega)
              have b1 : decide (c ≤ 122) = false := decide_eq_false (by omega)
              have b2 : decide (c < 48) = false := decide_eq_false (by omega)
              have b3 : decide (57 < c) = true := decide_eq_true (by omega)
              have b4 : (c != 95) = true := bne_iff_ne.2 (by omega)
              have HH := Aside0.mk h
              clear h
              go_wp2
              have h := HH.out
              go_ret
              exact ⟨by rw [HNO.out (chB_no2 (by omega) (by omega) (by omega))]; rfl, (Below.refl _ _).alloc (Nat.le_refl _) _⟩
        · have hnx : ∀ ty, (Instr.next (.pointer (some ⟨w.heap.size, 0, none⟩)) true ty).run Tryd.prog (w.iter s pos) = _ := fun ty => run_next_end w s pos ty hp
          obtain rfl : pos = s.size := by omega
          have HV := Aside0.mk (show vname s = !Lib.containsS resvWords s by rw [vname, HC.out, decide_eq_true (show 1 ≤ s.size by omega), decide_eq_true (show s.size ≤ 12 by omega)]; simp)
          have HTI := Aside0.mk (show SpTab (w.iter s s.size) from Lib.tabBelow_of_tabIs HT.out _ ((Below.refl _ _).alloc (Nat.le_refl _) _))
          go_wp2_with fail
          refine (isReserved_any s _ HTI.out).mono ?_
          rintro e w2 ⟨rfl, hb2⟩
          have HB2 := Aside0.mk (((Below.refl w.heap.size w).alloc (Nat.le_refl _) (.stringIter s s.size)).trans (hb2.mono (by simp [World.iter])))
          clear hb2
          go_wp2_with fail
          go_ret
          exact ⟨by rw [HV.out]; rfl, HB2.out⟩
end Go.Proofs.YtbioiodjdfcooabDoor.P
