import Derived.Test.YtbioiodjdfcooaaDoorVGPx0
import Derived.Test.YtbioiodjdfcooaaDoorVGPx1
import Derived.Test.YtbioiodjdfcooaaDoorVGPx4
-- Written by a program of this session (wip/tools/doprint.sh: the kit's print, with given texts for some functions).
namespace Go.Proofs.YtbioiodjdfcooaaDoor.P
open Go.RowKit Go.Proofs.YtbioiodjdfcooaaDoorW.PrintWords Go.Proofs.YtbioiodjdfcooaaDoorW.PrintLast Go.Proofs.YtbioiodjdfcooaaDoorW.PrintMore
attribute [local go_sem] max2_int min2_int max_two min_two max_three min_three max_four min_four   -- for this text's walks alone
set_option linter.unusedVariables false
set_option linter.unusedSimpArgs false

/-! ### linear_FormatRow: function 31 -/
open Build
/-- The text of one item. -/
def itemOf (i : Nat) (c : Int) : List UInt8 := if c = 1 ∨ c = -1 then 120 :: Lib.itoa i else Lib.itoa (mx c (-c)) ++ 42 :: 120 :: Lib.itoa i
def stepOf (b : List UInt8) (i : Nat) (c : Int) : List UInt8 := if c = 0 then b else wrText b (decide (c < 0)) (itemOf i c)
def textTo (l : List Int) : Nat → List UInt8
  | 0 => []
  | i + 1 => stepOf (textTo l i) i (l.getD i 0)
def textOf (l : List Int) (k : Int) : List UInt8 :=
  (if k ≠ 0 ∨ textTo l l.length = [] then wrText (textTo l l.length) (decide (k < 0)) (Lib.itoa (mx k (-k))) else textTo l l.length) ++ [32, 62, 61, 32, 48]

theorem wr_len (b : List UInt8) (neg : Bool) (s : List UInt8) : (wrText b neg s).length ≤ b.length + 3 + s.length := by
  unfold wrText
  by_cases h : b = [] <;> cases neg <;> simp [h] <;> omega
theorem text_zero (l : List Int) (i : Nat) (h : (0 : Int) = l.getD i 0) : textTo l (i + 1) = textTo l i := by
  rw [textTo, ← h, stepOf, if_pos rfl]
theorem text_one (l : List Int) (i : Nat) (c : Int) (h : c = l.getD i 0) (h0 : c ≠ 0) : textTo l (i + 1) = wrText (textTo l i) (decide (c < 0)) (itemOf i c) := by
  rw [textTo, ← h, stepOf, if_neg h0]
theorem item_unit (i : Nat) (c : Int) (h : c = 1 ∨ c = -1) (s : ByteArray) (hs : s = ⟨#[120]⟩ ++ ⟨(Lib.itoa i).toArray⟩) : s.data.toList = itemOf i c := by
  subst hs
  rw [itemOf, if_pos h]
  simp
theorem item_more (i : Nat) (c m : Int) (hm : m = mx c (-c)) (h1 : c ≠ 1) (h2 : c ≠ -1) (s : ByteArray) (hs : s = ⟨(Lib.itoa m).toArray⟩ ++ ⟨#[42]⟩ ++ (⟨#[120]⟩ ++ ⟨(Lib.itoa i).toArray⟩)) : s.data.toList = itemOf i c := by
  subst hs hm
  rw [itemOf, if_neg (by omega)]
  simp

theorem unit_size (a : List UInt8) : ((⟨#[120]⟩ : ByteArray) ++ ⟨a.toArray⟩).size = 1 + a.length := by
  simp [ByteArray.size]; omega
theorem more_size (a b : List UInt8) : ((⟨b.toArray⟩ : ByteArray) ++ ⟨#[42]⟩ ++ (⟨#[120]⟩ ++ ⟨a.toArray⟩)).size = b.length + 1 + (1 + a.length) := by
  simp [ByteArray.size]; omega
theorem append_text (a b : List UInt8) : Ending.returned (.tuple #[.string ((⟨a.toArray⟩ : ByteArray) ++ ⟨b.toArray⟩), .int .i64 0]) = Ending.returned (.tuple #[.string ⟨(a ++ b).toArray⟩, .int .i64 0]) := by
  congr 6
set_option maxHeartbeats 4000000 in
set_option maxRecDepth 100000 in
theorem formatRow_ok (A0 : Option Addr) (c0 : Nat) (l : List Int) (k : Int) (K : Nat) (w : World) (hr : Kd.C (Kd.int .i64) w A0 l.length l) (hc : l.length ≤ c0)
    (hlen : l.length ≤ 96) (hs : linear_small.f K l k = some true) (hlo : ∀ i, i < l.length → -68719476736 ≤ l.getD i 0 ∧ l.getD i 0 ≤ 68719476736) (hk : -68719476736 ≤ k ∧ k ≤ 68719476736)
    (hI : ∀ n : Int, n = mx k (-k) ∨ (0 ≤ n ∧ n < l.length) ∨ (∃ i, i < l.length ∧ l.getD i 0 ≠ 0 ∧ l.getD i 0 ≠ 1 ∧ l.getD i 0 ≠ -1 ∧ n = mx (l.getD i 0) (-(l.getD i 0))) → ∀ W, Below w.heap.size w W →
      Calls Tryd.prog 61 #[.int .i64 n] W fun e w' => e = .returned (.string ⟨(Lib.itoa n).toArray⟩) ∧ (Lib.itoa n).length ≤ 21 ∧ Below W.heap.size W w') :
    Calls Tryd.prog 31 #[.agg #[.slice A0 l.length c0, .int .i64 k]] w fun e w' => e = .returned (.tuple #[.string ⟨(textOf l k).toArray⟩, .int .i64 0]) ∧ Below w.heap.size w w' := by
  have huR := Tryd.underlying33
  have HI := Aside0.mk hI
  have HR := Aside0.mk hr
  have HS := Aside0.mk hs
  clear hI hr hs
  go_enter Tryd.func31, Tryd.ntmps31
  go_wp2_with (first | (go_at_call 49; refine (linear_small.calls K A0 c0 l k true _ ?hr ?hc HS.out).mono ?_))
  case hr => exact Kd.C_below HR.out (below_alloc (Below.refl _ _) _)
  case hc => exact hc
  rintro e w1 ⟨rfl, hb1⟩
  have bA : w1.heap[w.heap.size]? = some (.cells #[.slice A0 l.length c0, .int .i64 k] 33 (0, 0)) := (hb1.block _ (by simp)).trans (blk_new w _)
  have s0 := (blk_cell bA 0).trans (show _ = some (Value.slice A0 l.length c0) from rfl)
  have s1 := (blk_cell bA 1).trans (show _ = some (Value.int .i64 k) from rfl)
  have hB1 : Below w.heap.size w w1 := (below_alloc (Below.refl _ _) _).trans (hb1.mono (by simp))
  have hz1 : w.heap.size < w1.heap.size := blk_lt bA
  have BA := Aside0.mk bA
  have HB1 := Aside0.mk hB1
  clear bA hB1 hb1
  go_wp2_with fail
  have hI0 : Lib.IsBuilder 74 5 w1.heap.size w1.heap.size (Lib.byteCells (textTo l 0)) (w1.alloc (.cells #[.pointer none, .slice none 0 0] 74)) := Lib.fresh_isBuilder 74 5 w1
  have HI0 := Aside0.mk hI0
  clear hI0
  go_loopw [18] (fun v18 wr => ∃ i : Nat, i ≤ l.length ∧ v18 = .int .i64 i ∧ Aside0 (Lib.IsBuilder 74 5 w1.heap.size w1.heap.size (Lib.byteCells (textTo l i)) wr) ∧ Aside0 ((textTo l i).length ≤ i * 60) ∧ Aside0 (Below w1.heap.size w1 wr)) (fun v18 _ => l.length - (intOf v18).toNat)
  case atStart => exact ⟨0, Nat.zero_le _, rfl, HI0, ⟨by simp [textTo]⟩, ⟨(Below.refl _ _).alloc (Nat.le_refl _) _⟩⟩
  case round =>
    obtain ⟨i, hi, rfl, HBu, HLe, HBe⟩ := hrel
    have bA : wr.heap[w.heap.size]? = some (.cells #[.slice A0 l.length c0, .int .i64 k] 33 (0, 0)) := (HBe.out.block _ hz1).trans BA.out
    have HBW := Aside0.mk (HB1.out.trans (HBe.out.mono (by omega)))
    have BA2 := Aside0.mk bA
    have HZ := Aside0.mk HBe.out.size
    clear bA s0 s1 HI0
    by_cases hlt : i < l.length
    · obtain ⟨ad, e, hcell⟩ := C_cells HR.out (by omega)
      subst e
      have hcw := pw_cell_below HBW.out (hcell i (.int .i64 (l.getD i 0)) (by simp [nums, hlt]))
      clear hcell
      obtain ⟨c, hcc⟩ : ∃ c, c = l.getD i 0 := ⟨_, rfl⟩
      rw [← hcc] at hcw
      have HC := Aside0.mk hcc
      clear hcc
      by_cases z0 : c = 0
      · subst z0
        go_wp2_with fail
        go_roundw
        case rel =>
          have h1 := text_zero l i HC.out
          refine ⟨i + 1, by omega, by go_num, ⟨?_⟩, ⟨?_⟩, HBe⟩
          · rw [h1]; exact HBu.out
          · rw [h1]; have := HLe.out; omega
        case measure => simp [intOf]; omega
      · have hr1 := hlo i hlt
        have hr2 := HC.out
        have hrg : -68719476736 ≤ c ∧ c ≤ 68719476736 := by rw [hr2]; exact hr1
        obtain ⟨g1, g2⟩ := hrg
        have e0 : (c == 0) = false := by simpa using z0
        have ea : (c != 0) = true := by simpa using z0
        have HI1 := Aside0.mk (HI.out i (.inr (.inl ⟨by omega, by omega⟩)))
        clear hr1 hr2
        by_cases z1 : c = 1 ∨ c = -1
        · rcases z1 with rfl | rfl
          · go_wp2_with fail
            refine (HI1.out _ HBW.out).mono ?_
            rintro e w2 ⟨rfl, hl2, hb2⟩
            go_wp2_with fail
            refine (write_any w1.heap.size w1.heap.size (textTo l i) false _ _ (builder_below HBu.out hb2) ?hlen (by have := hb2.size; have := HZ.out; omega)).mono ?_
            case hlen =>
              rw [unit_size]
              have := HLe.out
              omega
            rintro e w3 ⟨rfl, h3, hb3⟩
            rw [item_unit i (1) (by simp) _ rfl] at h3
            have H3 := Aside0.mk h3
            have HB2 := Aside0.mk ((HBe.out.trans (hb2.mono HZ.out)).trans hb3)
            clear h3 hb2 hb3
            go_wp2_with fail
            go_roundw
            case rel =>
              have h1 := text_one l i (1) HC.out (by decide)
              refine ⟨i + 1, by omega, by go_num, ⟨?_⟩, ⟨?_⟩, HB2⟩
              · rw [h1]; exact H3.out
              · rw [h1]
                refine Nat.le_trans (wr_len _ _ _) ?_
                have := HLe.out
                have h5 : (itemOf i (1)).length ≤ 22 := by rw [itemOf, if_pos (by simp)]; simp only [List.length_cons]; omega
                omega
            case measure => simp [intOf]; omega
          · go_wp2_with fail
            refine (HI1.out _ HBW.out).mono ?_
            rintro e w2 ⟨rfl, hl2, hb2⟩
            go_wp2_with fail
            refine (write_any w1.heap.size w1.heap.size (textTo l i) true _ _ (builder_below HBu.out hb2) ?hlen (by have := hb2.size; have := HZ.out; omega)).mono ?_
            case hlen =>
              rw [unit_size]
              have := HLe.out
              omega
            rintro e w3 ⟨rfl, h3, hb3⟩
            rw [item_unit i (-1) (by simp) _ rfl] at h3
            have H3 := Aside0.mk h3
            have HB2 := Aside0.mk ((HBe.out.trans (hb2.mono HZ.out)).trans hb3)
            clear h3 hb2 hb3
            go_wp2_with fail
            go_roundw
            case rel =>
              have h1 := text_one l i (-1) HC.out (by decide)
              refine ⟨i + 1, by omega, by go_num, ⟨?_⟩, ⟨?_⟩, HB2⟩
              · rw [h1]; exact H3.out
              · rw [h1]
                refine Nat.le_trans (wr_len _ _ _) ?_
                have := HLe.out
                have h5 : (itemOf i (-1)).length ≤ 22 := by rw [itemOf, if_pos (by simp)]; simp only [List.length_cons]; omega
                omega
            case measure => simp [intOf]; omega
        · have m1 : c ≠ 1 := fun h => z1 (.inl h)
          have m2 : c ≠ -1 := fun h => z1 (.inr h)
          have HI2 := Aside0.mk (HI.out (mx c (-c)) (.inr (.inr ⟨i, hlt, by rw [← HC.out]; exact z0, by rw [← HC.out]; exact m1, by rw [← HC.out]; exact m2, by rw [← HC.out]⟩)))
          have e1 : (c != 1) = true := by simpa using m1
          have e2 : (c != -1) = true := by simpa using m2
          by_cases hn : c < 0
          · have hdn := Aside0.mk (show decide (c < 0) = true by simpa using hn)
            have hm : mx c (-c) = -c := by unfold mx; rw [if_pos (by omega)]
            rw [hm] at HI2
            have HM := Aside0.mk hm.symm
            clear hm
            go_wp2_with fail
            refine (HI1.out _ HBW.out).mono ?_
            rintro e w2 ⟨rfl, hl2, hb2⟩
            have HBW2 := Aside0.mk (HBW.out.trans (hb2.mono HBW.out.size))
            go_wp2_with fail
            refine (HI2.out _ HBW2.out).mono ?_
            rintro e w3 ⟨rfl, hl3, hb3⟩
            go_wp2_with fail
            refine (write_any w1.heap.size w1.heap.size (textTo l i) true _ _ (builder_below (builder_below HBu.out hb2) hb3) ?hlen (by have := hb2.size; have := hb3.size; have := HZ.out; omega)).mono ?_
            case hlen =>
              rw [more_size]
              have := HLe.out
              omega
            rintro e w4 ⟨rfl, h4, hb4⟩
            rw [item_more i c _ HM.out m1 m2 _ rfl] at h4
            have H4 := Aside0.mk h4
            have HB2 := Aside0.mk (((HBe.out.trans (hb2.mono HZ.out)).trans (hb3.mono (Nat.le_trans HZ.out hb2.size))).trans hb4)
            clear h4 hb2 hb3 hb4
            go_wp2_with fail
            go_roundw
            case rel =>
              have h1 := text_one l i c HC.out z0
              refine ⟨i + 1, by omega, by go_num, ⟨?_⟩, ⟨?_⟩, HB2⟩
              · rw [h1, hdn.out]; exact H4.out
              · rw [h1]
                refine Nat.le_trans (wr_len _ _ _) ?_
                have := HLe.out
                have h5 : (itemOf i c).length ≤ 44 := by rw [itemOf, if_neg (by omega), ← HM.out]; simp only [List.length_cons, List.length_append]; omega
                omega
            case measure => simp [intOf]; omega
          · have hdn := Aside0.mk (show decide (c < 0) = false by simpa using hn)
            have hn2 : 2 ≤ c := by omega
            clear hn
            have hm : mx c (-c) = c := by unfold mx; rw [if_neg (by omega)]
            rw [hm] at HI2
            have HM := Aside0.mk hm.symm
            clear hm
            go_wp2_with fail
            refine (HI1.out _ HBW.out).mono ?_
            rintro e w2 ⟨rfl, hl2, hb2⟩
            have HBW2 := Aside0.mk (HBW.out.trans (hb2.mono HBW.out.size))
            go_wp2_with fail
            refine (HI2.out _ HBW2.out).mono ?_
            rintro e w3 ⟨rfl, hl3, hb3⟩
            go_wp2_with fail
            refine (write_any w1.heap.size w1.heap.size (textTo l i) (decide (c < 0)) _ _ (builder_below (builder_below HBu.out hb2) hb3) ?hlen (by have := hb2.size; have := hb3.size; have := HZ.out; omega)).mono ?_
            case hlen =>
              rw [more_size]
              have := HLe.out
              omega
            rintro e w4 ⟨rfl, h4, hb4⟩
            rw [item_more i c _ HM.out m1 m2 _ rfl] at h4
            have H4 := Aside0.mk h4
            have HB2 := Aside0.mk (((HBe.out.trans (hb2.mono HZ.out)).trans (hb3.mono (Nat.le_trans HZ.out hb2.size))).trans hb4)
            clear h4 hb2 hb3 hb4
            go_wp2_with fail
            go_roundw
            case rel =>
              have h1 := text_one l i c HC.out z0
              refine ⟨i + 1, by omega, by go_num, ⟨?_⟩, ⟨?_⟩, HB2⟩
              · rw [h1]; exact H4.out
              · rw [h1]
                refine Nat.le_trans (wr_len _ _ _) ?_
                have := HLe.out
                have h5 : (itemOf i c).length ≤ 44 := by rw [itemOf, if_neg (by omega), ← HM.out]; simp only [List.length_cons, List.length_append]; omega
                omega
            case measure => simp [intOf]; omega
    · obtain rfl : i = l.length := by omega
      have bA2 := BA2.out
      have s1 := (blk_cell bA2 1).trans (show _ = some (Value.int .i64 k) from rfl)
      clear bA2
      obtain ⟨k1, k2⟩ := hk
      by_cases z0 : k = 0
      · have e0 : (k != 0) = false := by simpa using z0
        have hd : decide (k < 0) = false := by simp; omega
        have HIk := Aside0.mk (HI.out (mx k (-k)) (.inl rfl))
        by_cases hte : textTo l l.length = []
        · have hn0 : (0 : Int) = (textTo l l.length).length := by rw [hte]; rfl
          have HN0 := Aside0.mk hn0
          have hfin : textOf l k = wrText (textTo l l.length) false (Lib.itoa (mx k (-k))) ++ [32, 62, 61, 32, 48] := by
            unfold textOf
            rw [if_pos (.inr hte), hd]
          have HF := Aside0.mk hfin
          clear hn0 hte hfin z0
          have hwk : wrap64 (-k) = -k := by unfold wrap64; omega
          go_wp2_with (first | (go_at_call 63; refine (len_any w1.heap.size w1.heap.size _ 0 HN0.out _ HBu.out).mono ?_; rintro e w' ⟨rfl, rfl⟩))
          refine start_ (n := 11) (S := fun w' => w'.cell? ⟨w.heap.size, 1, none⟩ = some (.int .i64 k)) (ds := []) #[false, false, false, false, false, false, false, false, false, false, false] (by kernel_rfl) rfl rfl ((blk_cell BA2.out 1).trans rfl) (fun hHeld => ?_)
          refine pure_ (i := 0) (N := some 54) (v := ?_) (a' := ?_) #[true, false, false, false, false, false, false, false, false, false, false] rfl rfl (by kernel_rfl) (fun _ _ _ h => h) (Or.inl ⟨by rfl, ?_⟩) ?_ ?_
          rotate_left
          · intro w'
            go_simp
            with_reducible rfl
          rotate_left
          · simp only [Act.put, List.setIfInBounds_toArray, List.set_cons_zero, List.set_cons_succ, i64_w, i32_w]
            rfl
          refine pure_ (i := 3) (N := some 57) (v := ?_) (a' := ?_) #[true, false, false, true, false, false, false, false, false, false, false] rfl rfl (by kernel_rfl) (fun _ _ _ h => h) (Or.inl ⟨by rfl, ?_⟩) ?_ ?_
          rotate_left
          · intro w'
            go_simp
            with_reducible rfl
          rotate_left
          · simp only [Act.put, List.setIfInBounds_toArray, List.set_cons_zero, List.set_cons_succ, i64_w, i32_w]
            rfl
          refine pure_ (i := 5) (N := some 59) (v := ?_) (a' := ?_) #[true, false, false, true, false, true, false, false, false, false, false] rfl rfl (by kernel_rfl) (fun _ _ _ h => h) (Or.inl ⟨by rfl, ?_⟩) ?_ ?_
          rotate_left
          · intro w'
            go_simp
            with_reducible rfl
          rotate_left
          · simp only [Act.put, List.setIfInBounds_toArray, List.set_cons_zero, List.set_cons_succ, i64_w, i32_w]
            rfl
          refine take_ (i := 1) (N := some 55) (v := ?_) (a' := ?_) #[true, true, false, true, false, true, false, false, false, false, false] rfl rfl (by kernel_rfl) (fun _ _ _ h => h) (Or.inl ⟨by rfl, ?_⟩) hHeld ?_ ?_
          rotate_left
          · rintro w' s1
            go_simp
            with_reducible rfl
          rotate_left
          · simp only [Act.put, List.setIfInBounds_toArray, List.set_cons_zero, List.set_cons_succ, i64_w, i32_w]
            rfl
          refine take_ (i := 4) (N := some 58) (v := ?_) (a' := ?_) #[true, true, false, true, true, true, false, false, false, false, false] rfl rfl (by kernel_rfl) (fun _ _ _ h => h) (Or.inl ⟨by rfl, ?_⟩) hHeld ?_ ?_
          rotate_left
          · rintro w' s1
            go_simp
            with_reducible rfl
          rotate_left
          · simp only [Act.put, List.setIfInBounds_toArray, List.set_cons_zero, List.set_cons_succ, i64_w, i32_w]
            rfl
          refine take_ (i := 6) (N := some 60) (v := ?_) (a' := ?_) #[true, true, false, true, true, true, true, false, false, false, false] rfl rfl (by kernel_rfl) (fun _ _ _ h => h) (Or.inl ⟨by rfl, ?_⟩) hHeld ?_ ?_
          rotate_left
          · rintro w' s1
            go_simp
            with_reducible rfl
          rotate_left
          · simp only [Act.put, List.setIfInBounds_toArray, List.set_cons_zero, List.set_cons_succ, i64_w, i32_w]
            rfl
          refine pure_ (i := 2) (N := some 56) (v := ?_) (a' := ?_) #[true, true, true, true, true, true, true, false, false, false, false] rfl rfl (by kernel_rfl) (fun _ _ _ h => h) (Or.inl ⟨by rfl, ?_⟩) ?_ ?_
          rotate_left
          · intro w'
            go_simp
            with_reducible rfl
          rotate_left
          · simp only [Act.put, List.setIfInBounds_toArray, List.set_cons_zero, List.set_cons_succ, i64_w, i32_w]
            rfl
          refine pure_ (i := 7) (N := some 61) (v := ?_) (a' := ?_) #[true, true, true, true, true, true, true, true, false, false, false] rfl rfl (by kernel_rfl) (fun _ _ _ h => h) (Or.inl ⟨by rfl, ?_⟩) ?_ ?_
          rotate_left
          · intro w'
            go_simp
            with_reducible rfl
          rotate_left
          · simp only [Act.put, List.setIfInBounds_toArray, List.set_cons_zero, List.set_cons_succ, i64_w, i32_w]
            rfl
          refine pure_ (i := 8) (N := some 62) (v := ?_) (a' := ?_) #[true, true, true, true, true, true, true, true, true, false, false] rfl rfl (by kernel_rfl) (fun _ _ _ h => h) (Or.inl ⟨by rfl, ?_⟩) ?_ ?_
          rotate_left
          · intro w'
            go_simp
            with_reducible rfl
          rotate_left
          · simp only [Act.put, List.setIfInBounds_toArray, List.set_cons_zero, List.set_cons_succ, i64_w, i32_w]
            rfl
          refine one_ (i := 9) (N := some 63) #[true, true, true, true, true, true, true, true, true, true, false] rfl rfl (by kernel_rfl) (by decide) (fun K hK => ?_)
          refine goes_ Tryd.func61 (by kernel_rfl) rfl #[.int .i64 (mx k (-k))] (by rfl) rfl rfl (by simp [Act.eval, mx]) ?_
          refine (HIk.out _ (by first | exact HBW.out.drew | exact HBW.out)).mono ?_
          rintro e w2 ⟨rfl, hl2, hb2⟩
          have bA2 := blk_below (w := wr.drew) BA2.out hb2
          have hb2' : Below wr.heap.size wr w2 := ⟨hb2.os, hb2.tape, hb2.output, hb2.size, hb2.block⟩
          have HZ2 := hb2'.size
          refine ⟨_, rfl, ?_⟩
          refine hK.out _ _ ((blk_cell bA2 1).trans rfl) (fun hHeld => ?_)
          clear hK K
          refine norm_ (a' := ?_) ?_ ?_
          rotate_left
          · show Act.put _ (some 63) _ = _
            simp only [Act.put, List.setIfInBounds_toArray, List.set_cons_zero, List.set_cons_succ, i64_w, i32_w]
            rfl
          refine one_ (i := 10) (N := some 64) #[true, true, true, true, true, true, true, true, true, true, true] rfl rfl (by kernel_rfl) (by decide) (fun K hK => ?_)
          refine goes_ Tryd.func62 (by kernel_rfl) rfl #[.pointer (some ⟨w1.heap.size, 0, none⟩), .bool false, .string ⟨(Lib.itoa (mx k (-k))).toArray⟩] (by rfl) rfl rfl (by simp [Act.eval, mx]) ?_
          refine (write_any w1.heap.size w1.heap.size (textTo l l.length) false _ _ (builder_below HBu.out hb2') ?hlen (by have := HZ.out; omega)).mono ?_
          case hlen =>
            have := HLe.out
            show _ + 3 + (Lib.itoa _).toArray.size ≤ _
            rw [List.size_toArray]
            omega
          rintro e w3 ⟨rfl, h3, hb3⟩
          have bA3 := (hb3.block _ hz1).trans bA2
          have HZ3 := hb3.size
          refine ⟨_, rfl, ?_⟩
          refine hK.out _ _ ((blk_cell bA3 1).trans rfl) (fun hHeld => ?_)
          clear hK K
          refine norm_ (a' := ?_) ?_ ?_
          rotate_left
          · show Act.put _ (some 64) _ = _
            simp only [Act.put, List.setIfInBounds_toArray, List.set_cons_zero, List.set_cons_succ, i64_w, i32_w]
            rfl
          refine done_ (by kernel_rfl) ?_
          have H3 := Aside0.mk h3
          have hL3 : (wrText (textTo l l.length) false (Lib.itoa (mx k (-k)))).length ≤ 10000 := by
            refine Nat.le_trans (wr_len _ _ _) ?_
            have := HLe.out
            omega
          have HB3 := Aside0.mk ((HBe.out.trans (hb2'.mono HZ.out)).trans hb3)
          clear h3 hb2 hb2' hb3 bA2 bA3 hHeld
          have hnn : -k ≤ k := by have := of_decide_eq_false hd; omega
          go_wp2_with fail
          refine (Tryd.Builder_String_any w1.heap.size w1.heap.size _ _ H3.out (by have := HZ.out; omega)).mono ?_
          rintro e w4 ⟨rfl, hb4⟩
          go_wp2_with fail
          have HB4 := Aside0.mk (HB1.out.trans ((HB3.out.trans hb4).mono (Nat.le_of_lt hz1)))
          clear hb4
          go_wp2_with fail
          go_ret2
          exact ⟨by rw [HF.out]; exact append_text _ _, HB4.out⟩
        · have hpos : 0 < (textTo l l.length).length := List.length_pos_iff.2 hte
          obtain ⟨n, hn⟩ : ∃ n : Int, n = (textTo l l.length).length := ⟨_, rfl⟩
          have hn1 : 1 ≤ n := by omega
          have hn2 : (n == 0) = false := by simp; omega
          have HN := Aside0.mk hn
          have hfin : textOf l k = textTo l l.length ++ [32, 62, 61, 32, 48] := by
            unfold textOf
            rw [if_neg (by simp [hte, z0])]
          have HF := Aside0.mk hfin
          have hL3 : (textTo l l.length).length ≤ 10000 := by have := HLe.out; omega
          clear hn hte hpos hfin z0
          go_wp2_with (first | (go_at_call 63; refine (len_any w1.heap.size w1.heap.size _ n HN.out _ HBu.out).mono ?_; rintro e w' ⟨rfl, rfl⟩))
          refine (Tryd.Builder_String_any w1.heap.size w1.heap.size _ _ HBu.out (by have := HZ.out; omega)).mono ?_
          rintro e w4 ⟨rfl, hb4⟩
          have HB4 := Aside0.mk (HB1.out.trans ((HBe.out.trans hb4).mono (Nat.le_of_lt hz1)))
          clear hb4
          go_wp2_with fail
          go_ret2
          exact ⟨by rw [HF.out]; exact append_text _ _, HB4.out⟩
      · have e0 : (k != 0) = true := by simpa using z0
        have HIk := Aside0.mk (HI.out (mx k (-k)) (.inl rfl))
        by_cases hn : k < 0
        · have hfin : textOf l k = wrText (textTo l l.length) true (Lib.itoa (mx k (-k))) ++ [32, 62, 61, 32, 48] := by
            unfold textOf
            rw [if_pos (.inl z0), show decide (k < 0) = true by simpa using hn]
          have HF := Aside0.mk hfin
          have hd : decide (k < 0) = true := by simpa using hn
          clear hfin z0
          have hwk : wrap64 (-k) = -k := by unfold wrap64; omega
          go_wp2_with fail
          refine start_ (n := 11) (S := fun w' => w'.cell? ⟨w.heap.size, 1, none⟩ = some (.int .i64 k)) (ds := []) #[false, false, false, false, false, false, false, false, false, false, false] (by kernel_rfl) rfl rfl ((blk_cell BA2.out 1).trans rfl) (fun hHeld => ?_)
          refine pure_ (i := 0) (N := some 54) (v := ?_) (a' := ?_) #[true, false, false, false, false, false, false, false, false, false, false] rfl rfl (by kernel_rfl) (fun _ _ _ h => h) (Or.inl ⟨by rfl, ?_⟩) ?_ ?_
          rotate_left
          · intro w'
            go_simp
            with_reducible rfl
          rotate_left
          · simp only [Act.put, List.setIfInBounds_toArray, List.set_cons_zero, List.set_cons_succ, i64_w, i32_w]
            rfl
          refine pure_ (i := 3) (N := some 57) (v := ?_) (a' := ?_) #[true, false, false, true, false, false, false, false, false, false, false] rfl rfl (by kernel_rfl) (fun _ _ _ h => h) (Or.inl ⟨by rfl, ?_⟩) ?_ ?_
          rotate_left
          · intro w'
            go_simp
            with_reducible rfl
          rotate_left
          · simp only [Act.put, List.setIfInBounds_toArray, List.set_cons_zero, List.set_cons_succ, i64_w, i32_w]
            rfl
          refine pure_ (i := 5) (N := some 59) (v := ?_) (a' := ?_) #[true, false, false, true, false, true, false, false, false, false, false] rfl rfl (by kernel_rfl) (fun _ _ _ h => h) (Or.inl ⟨by rfl, ?_⟩) ?_ ?_
          rotate_left
          · intro w'
            go_simp
            with_reducible rfl
          rotate_left
          · simp only [Act.put, List.setIfInBounds_toArray, List.set_cons_zero, List.set_cons_succ, i64_w, i32_w]
            rfl
          refine take_ (i := 1) (N := some 55) (v := ?_) (a' := ?_) #[true, true, false, true, false, true, false, false, false, false, false] rfl rfl (by kernel_rfl) (fun _ _ _ h => h) (Or.inl ⟨by rfl, ?_⟩) hHeld ?_ ?_
          rotate_left
          · rintro w' s1
            go_simp
            with_reducible rfl
          rotate_left
          · simp only [Act.put, List.setIfInBounds_toArray, List.set_cons_zero, List.set_cons_succ, i64_w, i32_w]
            rfl
          refine take_ (i := 4) (N := some 58) (v := ?_) (a' := ?_) #[true, true, false, true, true, true, false, false, false, false, false] rfl rfl (by kernel_rfl) (fun _ _ _ h => h) (Or.inl ⟨by rfl, ?_⟩) hHeld ?_ ?_
          rotate_left
          · rintro w' s1
            go_simp
            with_reducible rfl
          rotate_left
          · simp only [Act.put, List.setIfInBounds_toArray, List.set_cons_zero, List.set_cons_succ, i64_w, i32_w]
            rfl
          refine take_ (i := 6) (N := some 60) (v := ?_) (a' := ?_) #[true, true, false, true, true, true, true, false, false, false, false] rfl rfl (by kernel_rfl) (fun _ _ _ h => h) (Or.inl ⟨by rfl, ?_⟩) hHeld ?_ ?_
          rotate_left
          · rintro w' s1
            go_simp
            with_reducible rfl
          rotate_left
          · simp only [Act.put, List.setIfInBounds_toArray, List.set_cons_zero, List.set_cons_succ, i64_w, i32_w]
            rfl
          refine pure_ (i := 2) (N := some 56) (v := ?_) (a' := ?_) #[true, true, true, true, true, true, true, false, false, false, false] rfl rfl (by kernel_rfl) (fun _ _ _ h => h) (Or.inl ⟨by rfl, ?_⟩) ?_ ?_
          rotate_left
          · intro w'
            go_simp
            with_reducible rfl
          rotate_left
          · simp only [Act.put, List.setIfInBounds_toArray, List.set_cons_zero, List.set_cons_succ, i64_w, i32_w]
            rfl
          refine pure_ (i := 7) (N := some 61) (v := ?_) (a' := ?_) #[true, true, true, true, true, true, true, true, false, false, false] rfl rfl (by kernel_rfl) (fun _ _ _ h => h) (Or.inl ⟨by rfl, ?_⟩) ?_ ?_
          rotate_left
          · intro w'
            go_simp
            with_reducible rfl
          rotate_left
          · simp only [Act.put, List.setIfInBounds_toArray, List.set_cons_zero, List.set_cons_succ, i64_w, i32_w]
            rfl
          refine pure_ (i := 8) (N := some 62) (v := ?_) (a' := ?_) #[true, true, true, true, true, true, true, true, true, false, false] rfl rfl (by kernel_rfl) (fun _ _ _ h => h) (Or.inl ⟨by rfl, ?_⟩) ?_ ?_
          rotate_left
          · intro w'
            go_simp
            with_reducible rfl
          rotate_left
          · simp only [Act.put, List.setIfInBounds_toArray, List.set_cons_zero, List.set_cons_succ, i64_w, i32_w]
            rfl
          refine one_ (i := 9) (N := some 63) #[true, true, true, true, true, true, true, true, true, true, false] rfl rfl (by kernel_rfl) (by decide) (fun K hK => ?_)
          refine goes_ Tryd.func61 (by kernel_rfl) rfl #[.int .i64 (mx k (-k))] (by rfl) rfl rfl (by simp [Act.eval, mx]) ?_
          refine (HIk.out _ (by first | exact HBW.out.drew | exact HBW.out)).mono ?_
          rintro e w2 ⟨rfl, hl2, hb2⟩
          have bA2 := blk_below (w := wr.drew) BA2.out hb2
          have hb2' : Below wr.heap.size wr w2 := ⟨hb2.os, hb2.tape, hb2.output, hb2.size, hb2.block⟩
          have HZ2 := hb2'.size
          refine ⟨_, rfl, ?_⟩
          refine hK.out _ _ ((blk_cell bA2 1).trans rfl) (fun hHeld => ?_)
          clear hK K
          refine norm_ (a' := ?_) ?_ ?_
          rotate_left
          · show Act.put _ (some 63) _ = _
            simp only [Act.put, List.setIfInBounds_toArray, List.set_cons_zero, List.set_cons_succ, i64_w, i32_w]
            rfl
          refine one_ (i := 10) (N := some 64) #[true, true, true, true, true, true, true, true, true, true, true] rfl rfl (by kernel_rfl) (by decide) (fun K hK => ?_)
          refine goes_ Tryd.func62 (by kernel_rfl) rfl #[.pointer (some ⟨w1.heap.size, 0, none⟩), .bool true, .string ⟨(Lib.itoa (mx k (-k))).toArray⟩] (by rfl) rfl rfl (by simp [Act.eval, mx]) ?_
          refine (write_any w1.heap.size w1.heap.size (textTo l l.length) true _ _ (builder_below HBu.out hb2') ?hlen (by have := HZ.out; omega)).mono ?_
          case hlen =>
            have := HLe.out
            show _ + 3 + (Lib.itoa _).toArray.size ≤ _
            rw [List.size_toArray]
            omega
          rintro e w3 ⟨rfl, h3, hb3⟩
          have bA3 := (hb3.block _ hz1).trans bA2
          have HZ3 := hb3.size
          refine ⟨_, rfl, ?_⟩
          refine hK.out _ _ ((blk_cell bA3 1).trans rfl) (fun hHeld => ?_)
          clear hK K
          refine norm_ (a' := ?_) ?_ ?_
          rotate_left
          · show Act.put _ (some 64) _ = _
            simp only [Act.put, List.setIfInBounds_toArray, List.set_cons_zero, List.set_cons_succ, i64_w, i32_w]
            rfl
          refine done_ (by kernel_rfl) ?_
          have H3 := Aside0.mk h3
          have hL3 : (wrText (textTo l l.length) true (Lib.itoa (mx k (-k)))).length ≤ 10000 := by
            refine Nat.le_trans (wr_len _ _ _) ?_
            have := HLe.out
            omega
          have HB3 := Aside0.mk ((HBe.out.trans (hb2'.mono HZ.out)).trans hb3)
          clear h3 hb2 hb2' hb3 bA2 bA3 hHeld
          skip
          go_wp2_with fail
          refine (Tryd.Builder_String_any w1.heap.size w1.heap.size _ _ H3.out (by have := HZ.out; omega)).mono ?_
          rintro e w4 ⟨rfl, hb4⟩
          go_wp2_with fail
          have HB4 := Aside0.mk (HB1.out.trans ((HB3.out.trans hb4).mono (Nat.le_of_lt hz1)))
          clear hb4
          go_wp2_with fail
          go_ret2
          exact ⟨by rw [HF.out]; exact append_text _ _, HB4.out⟩
        · have hfin : textOf l k = wrText (textTo l l.length) false (Lib.itoa (mx k (-k))) ++ [32, 62, 61, 32, 48] := by
            unfold textOf
            rw [if_pos (.inl z0), show decide (k < 0) = false by simpa using hn]
          have HF := Aside0.mk hfin
          have hd : decide (k < 0) = false := by simpa using hn
          clear hfin z0 hn
          have hwk : wrap64 (-k) = -k := by unfold wrap64; omega
          go_wp2_with fail
          refine start_ (n := 11) (S := fun w' => w'.cell? ⟨w.heap.size, 1, none⟩ = some (.int .i64 k)) (ds := []) #[false, false, false, false, false, false, false, false, false, false, false] (by kernel_rfl) rfl rfl ((blk_cell BA2.out 1).trans rfl) (fun hHeld => ?_)
          refine pure_ (i := 0) (N := some 54) (v := ?_) (a' := ?_) #[true, false, false, false, false, false, false, false, false, false, false] rfl rfl (by kernel_rfl) (fun _ _ _ h => h) (Or.inl ⟨by rfl, ?_⟩) ?_ ?_
          rotate_left
          · intro w'
            go_simp
            with_reducible rfl
          rotate_left
          · simp only [Act.put, List.setIfInBounds_toArray, List.set_cons_zero, List.set_cons_succ, i64_w, i32_w]
            rfl
          refine pure_ (i := 3) (N := some 57) (v := ?_) (a' := ?_) #[true, false, false, true, false, false, false, false, false, false, false] rfl rfl (by kernel_rfl) (fun _ _ _ h => h) (Or.inl ⟨by rfl, ?_⟩) ?_ ?_
          rotate_left
          · intro w'
            go_simp
            with_reducible rfl
          rotate_left
          · simp only [Act.put, List.setIfInBounds_toArray, List.set_cons_zero, List.set_cons_succ, i64_w, i32_w]
            rfl
          refine pure_ (i := 5) (N := some 59) (v := ?_) (a' := ?_) #[true, false, false, true, false, true, false, false, false, false, false] rfl rfl (by kernel_rfl) (fun _ _ _ h => h) (Or.inl ⟨by rfl, ?_⟩) ?_ ?_
          rotate_left
          · intro w'
            go_simp
            with_reducible rfl
          rotate_left
          · simp only [Act.put, List.setIfInBounds_toArray, List.set_cons_zero, List.set_cons_succ, i64_w, i32_w]
            rfl
          refine take_ (i := 1) (N := some 55) (v := ?_) (a' := ?_) #[true, true, false, true, false, true, false, false, false, false, false] rfl rfl (by kernel_rfl) (fun _ _ _ h => h) (Or.inl ⟨by rfl, ?_⟩) hHeld ?_ ?_
          rotate_left
          · rintro w' s1
            go_simp
            with_reducible rfl
          rotate_left
          · simp only [Act.put, List.setIfInBounds_toArray, List.set_cons_zero, List.set_cons_succ, i64_w, i32_w]
            rfl
          refine take_ (i := 4) (N := some 58) (v := ?_) (a' := ?_) #[true, true, false, true, true, true, false, false, false, false, false] rfl rfl (by kernel_rfl) (fun _ _ _ h => h) (Or.inl ⟨by rfl, ?_⟩) hHeld ?_ ?_
          rotate_left
          · rintro w' s1
            go_simp
            with_reducible rfl
          rotate_left
          · simp only [Act.put, List.setIfInBounds_toArray, List.set_cons_zero, List.set_cons_succ, i64_w, i32_w]
            rfl
          refine take_ (i := 6) (N := some 60) (v := ?_) (a' := ?_) #[true, true, false, true, true, true, true, false, false, false, false] rfl rfl (by kernel_rfl) (fun _ _ _ h => h) (Or.inl ⟨by rfl, ?_⟩) hHeld ?_ ?_
          rotate_left
          · rintro w' s1
            go_simp
            with_reducible rfl
          rotate_left
          · simp only [Act.put, List.setIfInBounds_toArray, List.set_cons_zero, List.set_cons_succ, i64_w, i32_w]
            rfl
          refine pure_ (i := 2) (N := some 56) (v := ?_) (a' := ?_) #[true, true, true, true, true, true, true, false, false, false, false] rfl rfl (by kernel_rfl) (fun _ _ _ h => h) (Or.inl ⟨by rfl, ?_⟩) ?_ ?_
          rotate_left
          · intro w'
            go_simp
            with_reducible rfl
          rotate_left
          · simp only [Act.put, List.setIfInBounds_toArray, List.set_cons_zero, List.set_cons_succ, i64_w, i32_w]
            rfl
          refine pure_ (i := 7) (N := some 61) (v := ?_) (a' := ?_) #[true, true, true, true, true, true, true, true, false, false, false] rfl rfl (by kernel_rfl) (fun _ _ _ h => h) (Or.inl ⟨by rfl, ?_⟩) ?_ ?_
          rotate_left
          · intro w'
            go_simp
            with_reducible rfl
          rotate_left
          · simp only [Act.put, List.setIfInBounds_toArray, List.set_cons_zero, List.set_cons_succ, i64_w, i32_w]
            rfl
          refine pure_ (i := 8) (N := some 62) (v := ?_) (a' := ?_) #[true, true, true, true, true, true, true, true, true, false, false] rfl rfl (by kernel_rfl) (fun _ _ _ h => h) (Or.inl ⟨by rfl, ?_⟩) ?_ ?_
          rotate_left
          · intro w'
            go_simp
            with_reducible rfl
          rotate_left
          · simp only [Act.put, List.setIfInBounds_toArray, List.set_cons_zero, List.set_cons_succ, i64_w, i32_w]
            rfl
          refine one_ (i := 9) (N := some 63) #[true, true, true, true, true, true, true, true, true, true, false] rfl rfl (by kernel_rfl) (by decide) (fun K hK => ?_)
          refine goes_ Tryd.func61 (by kernel_rfl) rfl #[.int .i64 (mx k (-k))] (by rfl) rfl rfl (by simp [Act.eval, mx]) ?_
          refine (HIk.out _ (by first | exact HBW.out.drew | exact HBW.out)).mono ?_
          rintro e w2 ⟨rfl, hl2, hb2⟩
          have bA2 := blk_below (w := wr.drew) BA2.out hb2
          have hb2' : Below wr.heap.size wr w2 := ⟨hb2.os, hb2.tape, hb2.output, hb2.size, hb2.block⟩
          have HZ2 := hb2'.size
          refine ⟨_, rfl, ?_⟩
          refine hK.out _ _ ((blk_cell bA2 1).trans rfl) (fun hHeld => ?_)
          clear hK K
          refine norm_ (a' := ?_) ?_ ?_
          rotate_left
          · show Act.put _ (some 63) _ = _
            simp only [Act.put, List.setIfInBounds_toArray, List.set_cons_zero, List.set_cons_succ, i64_w, i32_w]
            rfl
          refine one_ (i := 10) (N := some 64) #[true, true, true, true, true, true, true, true, true, true, true] rfl rfl (by kernel_rfl) (by decide) (fun K hK => ?_)
          refine goes_ Tryd.func62 (by kernel_rfl) rfl #[.pointer (some ⟨w1.heap.size, 0, none⟩), .bool false, .string ⟨(Lib.itoa (mx k (-k))).toArray⟩] (by rfl) rfl rfl (by simp [Act.eval, mx]) ?_
          refine (write_any w1.heap.size w1.heap.size (textTo l l.length) false _ _ (builder_below HBu.out hb2') ?hlen (by have := HZ.out; omega)).mono ?_
          case hlen =>
            have := HLe.out
            show _ + 3 + (Lib.itoa _).toArray.size ≤ _
            rw [List.size_toArray]
            omega
          rintro e w3 ⟨rfl, h3, hb3⟩
          have bA3 := (hb3.block _ hz1).trans bA2
          have HZ3 := hb3.size
          refine ⟨_, rfl, ?_⟩
          refine hK.out _ _ ((blk_cell bA3 1).trans rfl) (fun hHeld => ?_)
          clear hK K
          refine norm_ (a' := ?_) ?_ ?_
          rotate_left
          · show Act.put _ (some 64) _ = _
            simp only [Act.put, List.setIfInBounds_toArray, List.set_cons_zero, List.set_cons_succ, i64_w, i32_w]
            rfl
          refine done_ (by kernel_rfl) ?_
          have H3 := Aside0.mk h3
          have hL3 : (wrText (textTo l l.length) false (Lib.itoa (mx k (-k)))).length ≤ 10000 := by
            refine Nat.le_trans (wr_len _ _ _) ?_
            have := HLe.out
            omega
          have HB3 := Aside0.mk ((HBe.out.trans (hb2'.mono HZ.out)).trans hb3)
          clear h3 hb2 hb2' hb3 bA2 bA3 hHeld
          have hnn : -k ≤ k := by have := of_decide_eq_false hd; omega
          go_wp2_with fail
          refine (Tryd.Builder_String_any w1.heap.size w1.heap.size _ _ H3.out (by have := HZ.out; omega)).mono ?_
          rintro e w4 ⟨rfl, hb4⟩
          go_wp2_with fail
          have HB4 := Aside0.mk (HB1.out.trans ((HB3.out.trans hb4).mono (Nat.le_of_lt hz1)))
          clear hb4
          go_wp2_with fail
          go_ret2
          exact ⟨by rw [HF.out]; exact append_text _ _, HB4.out⟩

theorem itoa_small (n : Int) (h0 : 0 ≤ n) (h1 : n ≤ 99) (W : World) :
    Calls Tryd.prog 61 #[.int .i64 n] W fun e w' => e = .returned (.string ⟨(Lib.itoa n).toArray⟩) ∧ (Lib.itoa n).length ≤ 21 ∧ Below W.heap.size W w' := by
  obtain ⟨m, rfl⟩ := Int.eq_ofNat_of_zero_le h0
  refine (Tryd.strconv_Itoa_small m (by omega) W).mono ?_
  rintro e w' ⟨rfl, rfl⟩
  refine ⟨?_, Lib.itoa_length_le _ (by omega) (by omega), Below.refl _ _⟩
  rw [show Lib.itoa (m : Int) = Lib.decDigits m by rw [Lib.itoa, if_neg (by omega), Int.toNat_natCast]]
def linear_FormatRow.f (k : Nat) (l0_0 : List Int) (a0_1 : Int) : Option (ByteArray × Int) :=
  if l0_0.length ≤ 96 ∧ (∀ x ∈ l0_0, -99 ≤ x ∧ x ≤ 99) ∧ -99 ≤ a0_1 ∧ a0_1 ≤ 99 then ((linear_small.f k l0_0 a0_1).bind fun b => if b = true then some (⟨(textOf l0_0 a0_1).toArray⟩, 0) else none) else none
theorem linear_FormatRow.mono : ∀ a0 a1 k, LeO (linear_FormatRow.f k a0 a1) (linear_FormatRow.f (k + 1) a0 a1) := by
  intro a0 a1 k
  unfold linear_FormatRow.f
  exact LeO.ite (LeO.bind (linear_small.mono _ _ _) (fun _ => LeO.refl _)) (LeO.refl _)
theorem linear_FormatRow.calls (k : Nat) (A0_0 : Option Addr) (c0_0 : Nat) (l0_0 : List Int) (a0_1 : Int) (r1 : ByteArray) (r2 : Int) (w : World) (hr0_0 : Kd.C (Kd.int .i64) w A0_0 l0_0.length l0_0) (hc0_0 : l0_0.length ≤ c0_0) (h : linear_FormatRow.f k l0_0 a0_1 = some (r1, r2)) :
    Calls Tryd.prog 31 #[.agg #[.slice A0_0 l0_0.length c0_0, .int .i64 a0_1]] w fun e w' => e = .returned (.tuple #[.string r1, .int .i64 r2]) ∧ Below w.heap.size w w' := by
  unfold linear_FormatRow.f at h
  by_cases hc : l0_0.length ≤ 96 ∧ (∀ x ∈ l0_0, -99 ≤ x ∧ x ≤ 99) ∧ -99 ≤ a0_1 ∧ a0_1 ≤ 99
  · rw [if_pos hc] at h
    obtain ⟨hl, hx, h1, h2⟩ := hc
    obtain ⟨b, hb, h3⟩ := Option.bind_eq_some_iff.1 h
    cases b
    · simp at h3
    · simp only [if_true, Option.some.injEq, Prod.mk.injEq] at h3
      obtain ⟨rfl, rfl⟩ := h3
      have hx' : ∀ i, i < l0_0.length → -99 ≤ l0_0.getD i 0 ∧ l0_0.getD i 0 ≤ 99 := by
        intro i hi
        rw [List.getD_eq_getElem?_getD, List.getElem?_eq_getElem hi]
        exact hx _ (List.getElem_mem hi)
      refine formatRow_ok A0_0 c0_0 l0_0 a0_1 k w hr0_0 hc0_0 hl hb (fun i hi => by have := hx' i hi; omega) (by omega) ?_
      intro n hn W _
      refine itoa_small n ?_ ?_ W
      · rcases hn with rfl | ⟨h4, _⟩ | ⟨i, hi, _, _, _, rfl⟩
        · unfold mx; split <;> omega
        · exact h4
        · have := hx' i hi; unfold mx; split <;> omega
      · rcases hn with rfl | ⟨_, h4⟩ | ⟨i, hi, _, _, _, rfl⟩
        · unfold mx; split <;> omega
        · omega
        · have := hx' i hi; unfold mx; split <;> omega
  · rw [if_neg hc] at h
    exact absurd h (by simp)

end Go.Proofs.YtbioiodjdfcooaaDoor.P
