/- protocol.FormatLinear: what it answers. -/
import Derived.Test.YtbioiodjdfcooabDoorVHFb
import Derived.Test.YtbioiodjdfcooabDoorVHPx0
import Derived.Test.YtbioiodjdfcooabDoorVHPx16
namespace Go.Proofs.YtbioiodjdfcooabDoor.P
open Go.RowKit Go.Proofs.YtbioiodjdfcooabDoorW.PrintWords Go.Proofs.YtbioiodjdfcooabDoorW.PrintLast Go.Proofs.YtbioiodjdfcooabDoorW.PrintMore
set_option linter.unusedVariables false
set_option linter.unusedSimpArgs false
open Build
def lnItem (f : Int) (nm : List UInt8) : List UInt8 := if nm = [] then Lib.itoa (max f (-f)) else if max f (-f) = 1 then nm else Lib.itoa (max f (-f)) ++ 42 :: nm
def lnSign (b : List UInt8) (f : Int) : List UInt8 := if f < 0 then b ++ [45] else if b = [] then b else b ++ [43]
def lnStep (b : List UInt8) (f : Int) (nm : List UInt8) : List UInt8 := if f = 0 then b else lnSign b f ++ lnItem f nm
def lnTo (l : List (Int × List UInt8)) : Nat → List UInt8
  | 0 => []
  | i + 1 => lnStep (lnTo l i) (l.getD i (0, [])).1 (l.getD i (0, [])).2
def lnList (c n t f : Int) : List (Int × List UInt8) := [(n, [110]), (t, [116]), (f, [102]), (c, [])]
def lnText (c n t f : Int) : List UInt8 := if lnTo (lnList c n t f) 4 = [] then [48] else lnTo (lnList c n t f) 4
def lnCells (c n t f : Int) : Array Value := #[.int .i64 n, .string ⟨#[110]⟩, .int .i64 t, .string ⟨#[116]⟩, .int .i64 f, .string ⟨#[102]⟩, .int .i64 c, .string ⟨#[]⟩]
theorem lnAt (c n t f : Int) (i : Nat) (h : i < 4) : ∃ (fi : Int) (nm : ByteArray), (lnCells c n t f)[i * 2]? = some (.int .i64 fi) ∧ (lnCells c n t f)[i * 2 + 1]? = some (.string nm) ∧ ((lnList c n t f).getD i (0, [])).1 = fi ∧ ((lnList c n t f).getD i (0, [])).2 = nm.data.toList ∧ nm.size ≤ 1 := by
  match i, h with
  | 0, _ => exact ⟨n, ⟨#[110]⟩, rfl, rfl, rfl, rfl, by decide⟩
  | 1, _ => exact ⟨t, ⟨#[116]⟩, rfl, rfl, rfl, rfl, by decide⟩
  | 2, _ => exact ⟨f, ⟨#[102]⟩, rfl, rfl, rfl, rfl, by decide⟩
  | 3, _ => exact ⟨c, ⟨#[]⟩, rfl, rfl, rfl, rfl, by decide⟩
theorem lnTo_zero {l : List (Int × List UInt8)} {i : Nat} (h : (l.getD i (0, [])).1 = 0) : lnTo l (i + 1) = lnTo l i := by rw [lnTo, h, lnStep, if_pos rfl]
theorem lnTo_more {l : List (Int × List UInt8)} {i : Nat} {f : Int} {nm b s : List UInt8} (h1 : (l.getD i (0, [])).1 = f) (h2 : (l.getD i (0, [])).2 = nm) (h0 : f ≠ 0) (hb : b = lnSign (lnTo l i) f) (hs : s = lnItem f nm) : lnTo l (i + 1) = b ++ s := by
  rw [lnTo, h1, h2, lnStep, if_neg h0, hb, hs]
theorem size_list (s : ByteArray) : s.data.toList.length = s.size := rfl
theorem item_a {f : Int} {nm : ByteArray} (h : nm.toList.isEmpty = true) : (⟨(Lib.itoa (max f (-f))).toArray⟩ : ByteArray).data.toList = lnItem f nm.data.toList := by
  rw [Go.ByteArray.toList_eq, List.isEmpty_iff] at h
  rw [lnItem, if_pos h]
theorem item_b {f : Int} {nm : ByteArray} (h : nm.toList.isEmpty = false) (h1 : (max f (-f) == 1) = true) : nm.data.toList = lnItem f nm.data.toList := by
  rw [Go.ByteArray.toList_eq, List.isEmpty_eq_false_iff] at h
  rw [lnItem, if_neg h, if_pos (by simpa using h1)]
theorem app_data (a : List UInt8) (nm : ByteArray) : ((⟨a.toArray⟩ : ByteArray) ++ ⟨#[42]⟩ ++ nm).data.toList = a ++ 42 :: nm.data.toList := by
  simp
theorem item_c {f : Int} {nm : ByteArray} (h : nm.toList.isEmpty = false) (h1 : (max f (-f) == 1) = false) : ((⟨(Lib.itoa (max f (-f))).toArray⟩ : ByteArray) ++ ⟨#[42]⟩ ++ nm).data.toList = lnItem f nm.data.toList := by
  rw [Go.ByteArray.toList_eq, List.isEmpty_eq_false_iff] at h
  rw [lnItem, if_neg h, if_neg (by simpa using h1)]
  generalize Lib.itoa (max f (-f)) = a
  exact app_data a nm
theorem size_c (a : List UInt8) (nm : ByteArray) : ((⟨a.toArray⟩ : ByteArray) ++ ⟨#[42]⟩ ++ nm).size = a.length + 1 + nm.size := by
  rw [← size_list, app_data, List.length_append, List.length_cons]; show _ + (nm.size + 1) = _; omega
set_option maxHeartbeats 4000000 in
set_option maxRecDepth 100000 in
theorem formatLinear_ok (c n t f : Int) (w : World) (hlo : ∀ i, i < 4 → -100 ≤ ((lnList c n t f).getD i (0, [])).1 ∧ ((lnList c n t f).getD i (0, [])).1 ≤ 100) (hb : protocol_bounded.f c n t f = some true)
    (hI : ∀ (m : Int) (W : World), (∃ i, i < 4 ∧ ((lnList c n t f).getD i (0, [])).1 ≠ 0 ∧ m = max ((lnList c n t f).getD i (0, [])).1 (-((lnList c n t f).getD i (0, [])).1)) → Below w.heap.size w W →
      Calls Tryd.prog 49 #[.int .i64 m] W fun e w' => e = .returned (.string ⟨(Lib.itoa m).toArray⟩) ∧ (Lib.itoa m).length ≤ 21 ∧ Below W.heap.size W w') :
    Calls Tryd.prog 22 #[.agg #[.int .i64 c, .int .i64 n, .int .i64 t, .int .i64 f]] w fun e w' => e = .returned (.string ⟨(lnText c n t f).toArray⟩) ∧ Below w.heap.size w w' := by
  have hu := Tryd.underlying42
  have hu2 := Tryd.underlying77
  have HBo := Aside0.mk hb
  have HLO := Aside0.mk hlo
  have HI := Aside0.mk hI
  clear hb hlo hI
  go_enter Tryd.func22, Tryd.ntmps22
  go_wp2_with (first | (go_at_call 45; refine (protocol_bounded.calls c n t f true _ HBo.out).mono ?_))
  rintro e w1 ⟨rfl, hb1⟩
  have bA : w1.heap[w.heap.size]? = some (.cells #[.int .i64 c, .int .i64 n, .int .i64 t, .int .i64 f] 42 (0, 0)) := (hb1.block _ (by simp)).trans (blk_new w _)
  have s0 := (blk_cell bA 0).trans (show _ = some (Value.int .i64 c) from rfl)
  have s1 := (blk_cell bA 1).trans (show _ = some (Value.int .i64 n) from rfl)
  have s2 := (blk_cell bA 2).trans (show _ = some (Value.int .i64 t) from rfl)
  have s3 := (blk_cell bA 3).trans (show _ = some (Value.int .i64 f) from rfl)
  have hB1 : Below w.heap.size w w1 := (below_alloc (Below.refl _ _) _).trans (hb1.mono (by simp))
  have hz1 : w.heap.size < w1.heap.size := blk_lt bA
  have HB1 := Aside0.mk hB1
  have HZ1 := Aside0.mk hz1
  clear bA hB1 hb1
  go_wp2_with fail
  have hI0 : Lib.IsBuilder 76 5 w1.heap.size w1.heap.size (Lib.byteCells (lnTo (lnList c n t f) 0)) ((w1.alloc (.cells #[.pointer none, .slice none 0 0] 76)).alloc (.cells (lnCells c n t f) 77)) :=
    builder_below (Lib.fresh_isBuilder 76 5 w1) (below_alloc (Below.refl _ _) _)
  have HI0 := Aside0.mk hI0
  have HL0 := Aside0.mk (show ((w1.alloc (.cells #[.pointer none, .slice none 0 0] 76)).alloc (.cells (lnCells c n t f) 77)).heap[w1.heap.size + 1]? = some (.cells (lnCells c n t f) 77 (0, 0)) by have := blk_new (w1.alloc (.cells #[.pointer none, .slice none 0 0] 76)) (.cells (lnCells c n t f) 77); simpa using this)
  clear hI0 s0 s1 s2 s3 hz1
  go_loopw [24] (fun v24 wr => ∃ i : Nat, i ≤ 4 ∧ v24 = .int .i64 i ∧ Aside0 (Lib.IsBuilder 76 5 w1.heap.size w1.heap.size (Lib.byteCells (lnTo (lnList c n t f) i)) wr) ∧ Aside0 ((lnTo (lnList c n t f) i).length ≤ i * 60) ∧ Aside0 (wr.heap[w1.heap.size + 1]? = some (.cells (lnCells c n t f) 77 (0, 0))) ∧ Aside0 (Below w1.heap.size w1 wr)) (fun v24 _ => 4 - (intOf v24).toNat)
  case atStart => exact ⟨0, Nat.zero_le _, rfl, HI0, ⟨by simp [lnTo]⟩, HL0, ⟨((Below.refl _ _).alloc (Nat.le_refl _) _).alloc (by simp) _⟩⟩
  case round =>
    obtain ⟨i, hi, rfl, HBu, HLe, HLi, HBe⟩ := hrel
    clear HI0 HL0
    by_cases hlt : i < 4
    · obtain ⟨fi, nm, hci, hcs, hfi, hnm, hns⟩ := lnAt c n t f i hlt
      have c0 := (blk_cell HLi.out (i * 2)).trans hci
      have c1 := (blk_cell HLi.out (i * 2 + 1)).trans hcs
      clear hci hcs
      have g1 : -100 ≤ fi := by have := HLO.out i hlt; omega
      have g2 : fi ≤ 100 := by have := HLO.out i hlt; omega
      have HFI := Aside0.mk hfi
      have HNM := Aside0.mk hnm
      clear hfi hnm
      by_cases z0 : fi = 0
      · subst z0
        go_wp2_with fail
        go_roundw
        case rel =>
          have h1 := lnTo_zero HFI.out
          refine ⟨i + 1, by omega, by go_num, ⟨?_⟩, ⟨?_⟩, ⟨blk_alloc HLi.out _⟩, ⟨HBe.out.alloc HBe.out.size _⟩⟩
          · rw [h1]; exact builder_below HBu.out (below_alloc (Below.refl _ _) _)
          · rw [h1]; have := HLe.out; omega
        case measure => simp [intOf]; omega
      · have e0 : (fi == 0) = false := by simpa using z0
        have HZ0 := Aside0.mk z0
        have HIm := Aside0.mk (HI.out (max fi (-fi)) · ⟨i, hlt, by rw [HFI.out]; exact z0, by rw [HFI.out]⟩)
        clear z0
        have hsz := blk_lt HLi.out
        have HA3 := Aside0.mk (blk_new wr (.cells #[.int .i64 fi, .string nm] 77))
        have HA4 := Aside0.mk (blk_alloc HLi.out (.cells #[.int .i64 fi, .string nm] 77))
        have HA5 := Aside0.mk (HBe.out.alloc HBe.out.size (.cells #[.int .i64 fi, .string nm] 77))
        have HA6 := Aside0.mk (builder_below HBu.out (below_alloc (Below.refl wr.heap.size wr) (.cells #[.int .i64 fi, .string nm] 77)))
        clear HLi HBe HBu
        by_cases zs : fi < 0
        · have hd : decide (fi < 0) = true := decide_eq_true zs
          have zn : ¬ 0 ≤ fi := by omega
          go_wp2_with fail
          refine (byte_k w1.heap.size w1.heap.size _ 45 45 rfl _ HA6.out (by have := HLe.out; omega) (by have := HA5.out.size; omega)).mono ?_
          rintro e w3 ⟨rfl, h3, b3, k3⟩
          have hX3 := others_cells k3 HA3.out (by omega) (by decide)
          have hL3 := others_cells k3 HA4.out (by omega) (by decide)
          have hB3 := HA5.out.trans b3
          have hb3 : lnTo (lnList c n t f) i ++ [45] = lnSign (lnTo (lnList c n t f) i) fi := by rw [lnSign, if_pos zs]
          have hn3 : (lnTo (lnList c n t f) i ++ [45]).length ≤ i * 60 + 1 := by rw [List.length_append]; have := HLe.out; simp; omega
          clear b3 k3
          have x0 := (blk_cell hX3 0).trans (show _ = some (Value.int .i64 fi) from rfl)
          have x1 := (blk_cell hX3 1).trans (show _ = some (Value.string nm) from rfl)
          have hS3 := blk_lt hX3
          have H3 := Aside0.mk h3
          have HX3 := Aside0.mk hX3
          have HL3 := Aside0.mk hL3
          have HB3 := Aside0.mk hB3
          have HW3 := Aside0.mk (HB1.out.trans (hB3.mono (Nat.le_of_lt HZ1.out)))
          have HS3 := Aside0.mk hb3
          have HN3 := Aside0.mk hn3
          clear h3 hX3 hL3 hB3 hb3 hn3 c0 c1
          by_cases zi : nm.toList.isEmpty = true
          · go_wp2_with fail
            refine (HIm.out _ HW3.out).mono ?_
            rintro e w4 ⟨rfl, hl4, hb4⟩
            have HL4 := Aside0.mk (blk_below HL3.out hb4)
            have hB4 := Aside0.mk (HB3.out.trans (hb4.mono (by have := HB3.out.size; omega)))
            have H4 := Aside0.mk (builder_below H3.out hb4)
            have hS4 := blk_lt HL4.out
            clear hb4
            go_wp2_with fail
            refine (put_k w1.heap.size w1.heap.size _ _ _ H4.out (by have := HN3.out; show _ + (Lib.itoa (max fi (-fi))).length ≤ _; omega) (by have := hB4.out.size; omega)).mono ?_
            rintro e w5 ⟨rfl, h5, b5, k5⟩
            have hL5 := Aside0.mk (others_cells k5 HL4.out (by omega) (by decide))
            have hB5 := Aside0.mk (hB4.out.trans b5)
            have H5 := Aside0.mk h5
            clear h5 b5 k5
            go_wp2_with fail
            go_roundw
            case rel =>
              have h1 := lnTo_more HFI.out HNM.out HZ0.out HS3.out (item_a zi)
              refine ⟨i + 1, by omega, by go_num, ⟨by rw [h1]; exact H5.out⟩, ⟨?_⟩, hL5, hB5⟩
              rw [h1, List.length_append]
              have := HN3.out
              show _ + (Lib.itoa (max fi (-fi))).length ≤ _; omega
            case measure => simp [intOf]; omega
          · replace zi : nm.toList.isEmpty = false := by simpa using zi
            by_cases zm : (max fi (-fi) == 1) = true
            · go_wp2_with fail
              refine (put_k w1.heap.size w1.heap.size _ _ _ H3.out (by have := HN3.out; omega) (by have := HB3.out.size; omega)).mono ?_
              rintro e w5 ⟨rfl, h5, b5, k5⟩
              have hL5 := Aside0.mk (others_cells k5 HL3.out (by omega) (by decide))
              have hB5 := Aside0.mk (HB3.out.trans b5)
              have H5 := Aside0.mk h5
              clear h5 b5 k5
              go_wp2_with fail
              go_roundw
              case rel =>
                have h1 := lnTo_more HFI.out HNM.out HZ0.out HS3.out (item_b zi zm)
                refine ⟨i + 1, by omega, by go_num, ⟨by rw [h1]; exact H5.out⟩, ⟨?_⟩, hL5, hB5⟩
                rw [h1, List.length_append]
                have := HN3.out
                rw [size_list]; omega
              case measure => simp [intOf]; omega
            · replace zm : (max fi (-fi) == 1) = false := by simpa using zm
              go_wp2_with fail
              have HLd := Aside0.mk (blk_drew HL3.out)
              have HBd := Aside0.mk (below_drew1 HB3.out)
              have HWd := Aside0.mk (below_drew1 HW3.out)
              have HDd := Aside0.mk (builder_below H3.out (below_drew1 (Below.refl w3.heap.size w3)))
              refine start_ (n := 7) (S := fun w' => w'.cell? ⟨wr.heap.size, 1, none⟩ = some (.string nm)) (ds := []) #[false, false, false, false, false, false, false] (by kernel_rfl) rfl rfl ((blk_cell HX3.out 1).trans rfl) (fun hHeld => ?_)
              refine pure_ (i := 0) (N := some 44) (v := ?_) (a' := ?_) #[true, false, false, false, false, false, false] rfl rfl (by kernel_rfl) (fun _ _ _ h => h) (Or.inl ⟨by rfl, ?_⟩) ?_ ?_
              rotate_left
              · intro w'
                go_simp
                with_reducible rfl
              rotate_left
              · simp only [Act.put, List.setIfInBounds_toArray, List.set_cons_zero, List.set_cons_succ, i64_w, i32_w]
                rfl
              refine pure_ (i := 3) (N := some 47) (v := ?_) (a' := ?_) #[true, false, false, true, false, false, false] rfl rfl (by kernel_rfl) (fun _ _ _ h => h) (Or.inl ⟨by rfl, ?_⟩) ?_ ?_
              rotate_left
              · intro w'
                go_simp
                with_reducible rfl
              rotate_left
              · simp only [Act.put, List.setIfInBounds_toArray, List.set_cons_zero, List.set_cons_succ, i64_w, i32_w]
                rfl
              refine take_ (i := 4) (N := some 48) (v := ?_) (a' := ?_) #[true, false, false, true, true, false, false] rfl rfl (by kernel_rfl) (fun _ _ _ h => h) (Or.inl ⟨by rfl, ?_⟩) hHeld ?_ ?_
              rotate_left
              · rintro w' s1
                go_simp
                with_reducible rfl
              rotate_left
              · simp only [Act.put, List.setIfInBounds_toArray, List.set_cons_zero, List.set_cons_succ, i64_w, i32_w]
                rfl
              refine one_ (i := 1) (N := some 45) #[true, true, false, true, true, false, false] rfl rfl (by kernel_rfl) (by decide) (fun K hK => ?_)
              refine goes_ Tryd.func49 (by kernel_rfl) rfl #[.int .i64 (max fi (-fi))] (by rfl) rfl rfl (by simp [Act.eval]) ?_
              refine (HIm.out _ HWd.out).mono ?_
              rintro e w4 ⟨rfl, hl4, hb4⟩
              have HX4 := Aside0.mk (blk_below (blk_drew HX3.out) hb4)
              have HL4 := Aside0.mk (blk_below HLd.out hb4)
              have hB4 := Aside0.mk (HBd.out.trans (hb4.mono (by have := HBd.out.size; omega)))
              have H4 := Aside0.mk (builder_below HDd.out hb4)
              have hS4 := blk_lt HL4.out
              clear hb4
              refine ⟨_, rfl, ?_⟩
              refine hK.out _ _ ((blk_cell HX4.out 1).trans rfl) (fun hHeld => ?_)
              clear hK K
              refine norm_ (a' := ?_) ?_ ?_
              rotate_left
              · show Act.put _ (some 45) _ = _
                simp only [Act.put, List.setIfInBounds_toArray, List.set_cons_zero, List.set_cons_succ, i64_w, i32_w]
                rfl
              have hq1 : ¬ (9223372036854775807 < (Lib.itoa (max fi (-fi))).length + 1) := by omega
              have hq2 : ¬ (9223372036854775807 < (Lib.itoa (max fi (-fi))).length + 1 + nm.size) := by omega
              refine pure_ (i := 2) (N := some 46) (v := ?_) (a' := ?_) #[true, true, true, true, true, false, false] rfl rfl (by kernel_rfl) (fun _ _ _ h => h) (Or.inl ⟨by rfl, ?_⟩) ?_ ?_
              rotate_left
              · intro w'
                go_simp
                with_reducible rfl
              rotate_left
              · simp only [Act.put, List.setIfInBounds_toArray, List.set_cons_zero, List.set_cons_succ, i64_w, i32_w]
                rfl
              refine pure_ (i := 5) (N := some 49) (v := ?_) (a' := ?_) #[true, true, true, true, true, true, false] rfl rfl (by kernel_rfl) (fun _ _ _ h => h) (Or.inl ⟨by rfl, ?_⟩) ?_ ?_
              rotate_left
              · intro w'
                go_simp
                with_reducible rfl
              rotate_left
              · simp only [Act.put, List.setIfInBounds_toArray, List.set_cons_zero, List.set_cons_succ, i64_w, i32_w]
                rfl
              refine one_ (i := 6) (N := some 50) #[true, true, true, true, true, true, true] rfl rfl (by kernel_rfl) (by decide) (fun K hK => ?_)
              refine goes_ Tryd.func48 (by kernel_rfl) rfl #[.pointer (some ⟨w1.heap.size, 0, none⟩), .string (⟨(Lib.itoa (max fi (-fi))).toArray⟩ ++ ⟨#[42]⟩ ++ nm)] (by rfl) rfl rfl (by simp [Act.eval]) ?_
              refine (put_k w1.heap.size w1.heap.size _ _ _ H4.out (by have := HN3.out; rw [size_c]; omega) (by have := hB4.out.size; omega)).mono ?_
              rintro e w5 ⟨rfl, h5, b5, k5⟩
              have hx5 := (blk_cell (others_cells k5 HX4.out (by omega) (by decide)) 1).trans (show _ = some (Value.string nm) from rfl)
              refine ⟨_, rfl, ?_⟩
              refine hK.out _ _ hx5 (fun hHeld => ?_)
              clear hK K
              refine norm_ (a' := ?_) ?_ ?_
              rotate_left
              · show Act.put _ (some 50) _ = _
                simp only [Act.put, List.setIfInBounds_toArray, List.set_cons_zero, List.set_cons_succ, i64_w, i32_w]
                rfl
              refine done_ (by kernel_rfl) ?_
              clear hHeld hx5
              have hL5 := Aside0.mk (others_cells k5 HL4.out (by omega) (by decide))
              have hB5 := Aside0.mk (hB4.out.trans b5)
              have H5 := Aside0.mk h5
              clear h5 b5 k5
              go_wp2_with fail
              go_roundw
              case rel =>
                have h1 := lnTo_more HFI.out HNM.out HZ0.out HS3.out (item_c zi zm)
                refine ⟨i + 1, by omega, by go_num, ⟨by rw [h1]; exact H5.out⟩, ⟨?_⟩, hL5, hB5⟩
                rw [h1, List.length_append]
                have := HN3.out
                rw [size_list, size_c]; omega
              case measure => simp [intOf]; omega
        · have zn : 0 ≤ fi := by omega
          by_cases zb : Aside0 (lnTo (lnList c n t f) i = [])
          · have hd : decide (fi < 0) = false := decide_eq_false zs
            have HZS := Aside0.mk zs
            clear zs
            have hz : (decide ((0 : Int) < 0)) = false := rfl
            go_wp2_with fail
            refine (len_any w1.heap.size w1.heap.size (lnTo (lnList c n t f) i) 0 (by rw [zb.out]; rfl) _ HA6.out).mono ?_
            rintro e w3 ⟨rfl, hw3⟩
            have hX3 := hw3 ▸ HA3.out
            have hL3 := hw3 ▸ HA4.out
            have hB3 := hw3 ▸ HA5.out
            have h3 := hw3 ▸ HA6.out
            have hb3 : lnTo (lnList c n t f) i = lnSign (lnTo (lnList c n t f) i) fi := by rw [lnSign, if_neg (show ¬ fi < 0 by omega), if_pos zb.out]
            have hn3 : (lnTo (lnList c n t f) i).length ≤ i * 60 + 1 := by have := HLe.out; omega
            clear hw3
            have x0 := (blk_cell hX3 0).trans (show _ = some (Value.int .i64 fi) from rfl)
            have x1 := (blk_cell hX3 1).trans (show _ = some (Value.string nm) from rfl)
            have hS3 := blk_lt hX3
            have H3 := Aside0.mk h3
            have HX3 := Aside0.mk hX3
            have HL3 := Aside0.mk hL3
            have HB3 := Aside0.mk hB3
            have HW3 := Aside0.mk (HB1.out.trans (hB3.mono (Nat.le_of_lt HZ1.out)))
            have HS3 := Aside0.mk hb3
            have HN3 := Aside0.mk hn3
            clear h3 hX3 hL3 hB3 hb3 hn3 c0 c1
            by_cases zi : nm.toList.isEmpty = true
            · go_wp2_with fail
              refine (HIm.out _ HW3.out).mono ?_
              rintro e w4 ⟨rfl, hl4, hb4⟩
              have HL4 := Aside0.mk (blk_below HL3.out hb4)
              have hB4 := Aside0.mk (HB3.out.trans (hb4.mono (by have := HB3.out.size; omega)))
              have H4 := Aside0.mk (builder_below H3.out hb4)
              have hS4 := blk_lt HL4.out
              clear hb4
              go_wp2_with fail
              refine (put_k w1.heap.size w1.heap.size _ _ _ H4.out (by have := HN3.out; show _ + (Lib.itoa (max fi (-fi))).length ≤ _; omega) (by have := hB4.out.size; omega)).mono ?_
              rintro e w5 ⟨rfl, h5, b5, k5⟩
              have hL5 := Aside0.mk (others_cells k5 HL4.out (by omega) (by decide))
              have hB5 := Aside0.mk (hB4.out.trans b5)
              have H5 := Aside0.mk h5
              clear h5 b5 k5
              go_wp2_with fail
              go_roundw
              case rel =>
                have h1 := lnTo_more HFI.out HNM.out HZ0.out HS3.out (item_a zi)
                refine ⟨i + 1, by omega, by go_num, ⟨by rw [h1]; exact H5.out⟩, ⟨?_⟩, hL5, hB5⟩
                rw [h1, List.length_append]
                have := HN3.out
                show _ + (Lib.itoa (max fi (-fi))).length ≤ _; omega
              case measure => simp [intOf]; omega
            · replace zi : nm.toList.isEmpty = false := by simpa using zi
              by_cases zm : (max fi (-fi) == 1) = true
              · go_wp2_with fail
                refine (put_k w1.heap.size w1.heap.size _ _ _ H3.out (by have := HN3.out; omega) (by have := HB3.out.size; omega)).mono ?_
                rintro e w5 ⟨rfl, h5, b5, k5⟩
                have hL5 := Aside0.mk (others_cells k5 HL3.out (by omega) (by decide))
                have hB5 := Aside0.mk (HB3.out.trans b5)
                have H5 := Aside0.mk h5
                clear h5 b5 k5
                go_wp2_with fail
                go_roundw
                case rel =>
                  have h1 := lnTo_more HFI.out HNM.out HZ0.out HS3.out (item_b zi zm)
                  refine ⟨i + 1, by omega, by go_num, ⟨by rw [h1]; exact H5.out⟩, ⟨?_⟩, hL5, hB5⟩
                  rw [h1, List.length_append]
                  have := HN3.out
                  rw [size_list]; omega
                case measure => simp [intOf]; omega
              · replace zm : (max fi (-fi) == 1) = false := by simpa using zm
                go_wp2_with fail
                have HLd := Aside0.mk (blk_drew HL3.out)
                have HBd := Aside0.mk (below_drew1 HB3.out)
                have HWd := Aside0.mk (below_drew1 HW3.out)
                have HDd := Aside0.mk (builder_below H3.out (below_drew1 (Below.refl w3.heap.size w3)))
                refine start_ (n := 7) (S := fun w' => w'.cell? ⟨wr.heap.size, 1, none⟩ = some (.string nm)) (ds := []) #[false, false, false, false, false, false, false] (by kernel_rfl) rfl rfl ((blk_cell HX3.out 1).trans rfl) (fun hHeld => ?_)
                refine pure_ (i := 0) (N := some 44) (v := ?_) (a' := ?_) #[true, false, false, false, false, false, false] rfl rfl (by kernel_rfl) (fun _ _ _ h => h) (Or.inl ⟨by rfl, ?_⟩) ?_ ?_
                rotate_left
                · intro w'
                  go_simp
                  with_reducible rfl
                rotate_left
                · simp only [Act.put, List.setIfInBounds_toArray, List.set_cons_zero, List.set_cons_succ, i64_w, i32_w]
                  rfl
                refine pure_ (i := 3) (N := some 47) (v := ?_) (a' := ?_) #[true, false, false, true, false, false, false] rfl rfl (by kernel_rfl) (fun _ _ _ h => h) (Or.inl ⟨by rfl, ?_⟩) ?_ ?_
                rotate_left
                · intro w'
                  go_simp
                  with_reducible rfl
                rotate_left
                · simp only [Act.put, List.setIfInBounds_toArray, List.set_cons_zero, List.set_cons_succ, i64_w, i32_w]
                  rfl
                refine take_ (i := 4) (N := some 48) (v := ?_) (a' := ?_) #[true, false, false, true, true, false, false] rfl rfl (by kernel_rfl) (fun _ _ _ h => h) (Or.inl ⟨by rfl, ?_⟩) hHeld ?_ ?_
                rotate_left
                · rintro w' s1
                  go_simp
                  with_reducible rfl
                rotate_left
                · simp only [Act.put, List.setIfInBounds_toArray, List.set_cons_zero, List.set_cons_succ, i64_w, i32_w]
                  rfl
                refine one_ (i := 1) (N := some 45) #[true, true, false, true, true, false, false] rfl rfl (by kernel_rfl) (by decide) (fun K hK => ?_)
                refine goes_ Tryd.func49 (by kernel_rfl) rfl #[.int .i64 (max fi (-fi))] (by rfl) rfl rfl (by simp [Act.eval]) ?_
                refine (HIm.out _ HWd.out).mono ?_
                rintro e w4 ⟨rfl, hl4, hb4⟩
                have HX4 := Aside0.mk (blk_below (blk_drew HX3.out) hb4)
                have HL4 := Aside0.mk (blk_below HLd.out hb4)
                have hB4 := Aside0.mk (HBd.out.trans (hb4.mono (by have := HBd.out.size; omega)))
                have H4 := Aside0.mk (builder_below HDd.out hb4)
                have hS4 := blk_lt HL4.out
                clear hb4
                refine ⟨_, rfl, ?_⟩
                refine hK.out _ _ ((blk_cell HX4.out 1).trans rfl) (fun hHeld => ?_)
                clear hK K
                refine norm_ (a' := ?_) ?_ ?_
                rotate_left
                · show Act.put _ (some 45) _ = _
                  simp only [Act.put, List.setIfInBounds_toArray, List.set_cons_zero, List.set_cons_succ, i64_w, i32_w]
                  rfl
                have hq1 : ¬ (9223372036854775807 < (Lib.itoa (max fi (-fi))).length + 1) := by omega
                have hq2 : ¬ (9223372036854775807 < (Lib.itoa (max fi (-fi))).length + 1 + nm.size) := by omega
                refine pure_ (i := 2) (N := some 46) (v := ?_) (a' := ?_) #[true, true, true, true, true, false, false] rfl rfl (by kernel_rfl) (fun _ _ _ h => h) (Or.inl ⟨by rfl, ?_⟩) ?_ ?_
                rotate_left
                · intro w'
                  go_simp
                  with_reducible rfl
                rotate_left
                · simp only [Act.put, List.setIfInBounds_toArray, List.set_cons_zero, List.set_cons_succ, i64_w, i32_w]
                  rfl
                refine pure_ (i := 5) (N := some 49) (v := ?_) (a' := ?_) #[true, true, true, true, true, true, false] rfl rfl (by kernel_rfl) (fun _ _ _ h => h) (Or.inl ⟨by rfl, ?_⟩) ?_ ?_
                rotate_left
                · intro w'
                  go_simp
                  with_reducible rfl
                rotate_left
                · simp only [Act.put, List.setIfInBounds_toArray, List.set_cons_zero, List.set_cons_succ, i64_w, i32_w]
                  rfl
                refine one_ (i := 6) (N := some 50) #[true, true, true, true, true, true, true] rfl rfl (by kernel_rfl) (by decide) (fun K hK => ?_)
                refine goes_ Tryd.func48 (by kernel_rfl) rfl #[.pointer (some ⟨w1.heap.size, 0, none⟩), .string (⟨(Lib.itoa (max fi (-fi))).toArray⟩ ++ ⟨#[42]⟩ ++ nm)] (by rfl) rfl rfl (by simp [Act.eval]) ?_
                refine (put_k w1.heap.size w1.heap.size _ _ _ H4.out (by have := HN3.out; rw [size_c]; omega) (by have := hB4.out.size; omega)).mono ?_
                rintro e w5 ⟨rfl, h5, b5, k5⟩
                have hx5 := (blk_cell (others_cells k5 HX4.out (by omega) (by decide)) 1).trans (show _ = some (Value.string nm) from rfl)
                refine ⟨_, rfl, ?_⟩
                refine hK.out _ _ hx5 (fun hHeld => ?_)
                clear hK K
                refine norm_ (a' := ?_) ?_ ?_
                rotate_left
                · show Act.put _ (some 50) _ = _
                  simp only [Act.put, List.setIfInBounds_toArray, List.set_cons_zero, List.set_cons_succ, i64_w, i32_w]
                  rfl
                refine done_ (by kernel_rfl) ?_
                clear hHeld hx5
                have hL5 := Aside0.mk (others_cells k5 HL4.out (by omega) (by decide))
                have hB5 := Aside0.mk (hB4.out.trans b5)
                have H5 := Aside0.mk h5
                clear h5 b5 k5
                go_wp2_with fail
                go_roundw
                case rel =>
                  have h1 := lnTo_more HFI.out HNM.out HZ0.out HS3.out (item_c zi zm)
                  refine ⟨i + 1, by omega, by go_num, ⟨by rw [h1]; exact H5.out⟩, ⟨?_⟩, hL5, hB5⟩
                  rw [h1, List.length_append]
                  have := HN3.out
                  rw [size_list, size_c]; omega
                case measure => simp [intOf]; omega
          · replace zb : Aside0 (lnTo (lnList c n t f) i ≠ []) := ⟨fun h => zb ⟨h⟩⟩
            have hd : decide (fi < 0) = false := decide_eq_false zs
            have HZS := Aside0.mk zs
            clear zs
            obtain ⟨bl, hbl⟩ : ∃ bl : Int, bl = (lnTo (lnList c n t f) i).length := ⟨_, rfl⟩
            have hp : 0 < bl := by have := List.length_pos_iff.2 zb.out; omega
            have hdp : decide (0 < bl) = true := decide_eq_true hp
            have HBL := Aside0.mk hbl
            clear hbl
            go_wp2_with fail
            refine (len_any w1.heap.size w1.heap.size (lnTo (lnList c n t f) i) bl HBL.out _ HA6.out).mono ?_
            rintro e w2 ⟨rfl, hw2⟩
            have hX2 := Aside0.mk (hw2 ▸ HA3.out)
            have hL2 := Aside0.mk (hw2 ▸ HA4.out)
            have hB2 := Aside0.mk (hw2 ▸ HA5.out)
            have h2 := Aside0.mk (hw2 ▸ HA6.out)
            clear hw2
            go_wp2_with fail
            refine (byte_k w1.heap.size w1.heap.size _ 43 43 rfl _ h2.out (by have := HLe.out; omega) (by have := hB2.out.size; omega)).mono ?_
            rintro e w3 ⟨rfl, h3, b3, k3⟩
            have hX3 := others_cells k3 hX2.out (by omega) (by decide)
            have hL3 := others_cells k3 hL2.out (by omega) (by decide)
            have hB3 := hB2.out.trans b3
            have hb3 : lnTo (lnList c n t f) i ++ [43] = lnSign (lnTo (lnList c n t f) i) fi := by rw [lnSign, if_neg (show ¬ fi < 0 by omega), if_neg zb.out]
            have hn3 : (lnTo (lnList c n t f) i ++ [43]).length ≤ i * 60 + 1 := by rw [List.length_append]; have := HLe.out; simp; omega
            clear b3 k3 hX2 hL2 hB2 h2
            have x0 := (blk_cell hX3 0).trans (show _ = some (Value.int .i64 fi) from rfl)
            have x1 := (blk_cell hX3 1).trans (show _ = some (Value.string nm) from rfl)
            have hS3 := blk_lt hX3
            have H3 := Aside0.mk h3
            have HX3 := Aside0.mk hX3
            have HL3 := Aside0.mk hL3
            have HB3 := Aside0.mk hB3
            have HW3 := Aside0.mk (HB1.out.trans (hB3.mono (Nat.le_of_lt HZ1.out)))
            have HS3 := Aside0.mk hb3
            have HN3 := Aside0.mk hn3
            clear h3 hX3 hL3 hB3 hb3 hn3 c0 c1
            by_cases zi : nm.toList.isEmpty = true
            · go_wp2_with fail
              refine (HIm.out _ HW3.out).mono ?_
              rintro e w4 ⟨rfl, hl4, hb4⟩
              have HL4 := Aside0.mk (blk_below HL3.out hb4)
              have hB4 := Aside0.mk (HB3.out.trans (hb4.mono (by have := HB3.out.size; omega)))
              have H4 := Aside0.mk (builder_below H3.out hb4)
              have hS4 := blk_lt HL4.out
              clear hb4
              go_wp2_with fail
              refine (put_k w1.heap.size w1.heap.size _ _ _ H4.out (by have := HN3.out; show _ + (Lib.itoa (max fi (-fi))).length ≤ _; omega) (by have := hB4.out.size; omega)).mono ?_
              rintro e w5 ⟨rfl, h5, b5, k5⟩
              have hL5 := Aside0.mk (others_cells k5 HL4.out (by omega) (by decide))
              have hB5 := Aside0.mk (hB4.out.trans b5)
              have H5 := Aside0.mk h5
              clear h5 b5 k5
              go_wp2_with fail
              go_roundw
              case rel =>
                have h1 := lnTo_more HFI.out HNM.out HZ0.out HS3.out (item_a zi)
                refine ⟨i + 1, by omega, by go_num, ⟨by rw [h1]; exact H5.out⟩, ⟨?_⟩, hL5, hB5⟩
                rw [h1, List.length_append]
                have := HN3.out
                show _ + (Lib.itoa (max fi (-fi))).length ≤ _; omega
              case measure => simp [intOf]; omega
            · replace zi : nm.toList.isEmpty = false := by simpa using zi
              by_cases zm : (max fi (-fi) == 1) = true
              · go_wp2_with fail
                refine (put_k w1.heap.size w1.heap.size _ _ _ H3.out (by have := HN3.out; omega) (by have := HB3.out.size; omega)).mono ?_
                rintro e w5 ⟨rfl, h5, b5, k5⟩
                have hL5 := Aside0.mk (others_cells k5 HL3.out (by omega) (by decide))
                have hB5 := Aside0.mk (HB3.out.trans b5)
                have H5 := Aside0.mk h5
                clear h5 b5 k5
                go_wp2_with fail
                go_roundw
                case rel =>
                  have h1 := lnTo_more HFI.out HNM.out HZ0.out HS3.out (item_b zi zm)
                  refine ⟨i + 1, by omega, by go_num, ⟨by rw [h1]; exact H5.out⟩, ⟨?_⟩, hL5, hB5⟩
                  rw [h1, List.length_append]
                  have := HN3.out
                  rw [size_list]; omega
                case measure => simp [intOf]; omega
              · replace zm : (max fi (-fi) == 1) = false := by simpa using zm
                go_wp2_with fail
                have HLd := Aside0.mk (blk_drew HL3.out)
                have HBd := Aside0.mk (below_drew1 HB3.out)
                have HWd := Aside0.mk (below_drew1 HW3.out)
                have HDd := Aside0.mk (builder_below H3.out (below_drew1 (Below.refl w3.heap.size w3)))
                refine start_ (n := 7) (S := fun w' => w'.cell? ⟨wr.heap.size, 1, none⟩ = some (.string nm)) (ds := []) #[false, false, false, false, false, false, false] (by kernel_rfl) rfl rfl ((blk_cell HX3.out 1).trans rfl) (fun hHeld => ?_)
                refine pure_ (i := 0) (N := some 44) (v := ?_) (a' := ?_) #[true, false, false, false, false, false, false] rfl rfl (by kernel_rfl) (fun _ _ _ h => h) (Or.inl ⟨by rfl, ?_⟩) ?_ ?_
                rotate_left
                · intro w'
                  go_simp
                  with_reducible rfl
                rotate_left
                · simp only [Act.put, List.setIfInBounds_toArray, List.set_cons_zero, List.set_cons_succ, i64_w, i32_w]
                  rfl
                refine pure_ (i := 3) (N := some 47) (v := ?_) (a' := ?_) #[true, false, false, true, false, false, false] rfl rfl (by kernel_rfl) (fun _ _ _ h => h) (Or.inl ⟨by rfl, ?_⟩) ?_ ?_
                rotate_left
                · intro w'
                  go_simp
                  with_reducible rfl
                rotate_left
                · simp only [Act.put, List.setIfInBounds_toArray, List.set_cons_zero, List.set_cons_succ, i64_w, i32_w]
                  rfl
                refine take_ (i := 4) (N := some 48) (v := ?_) (a' := ?_) #[true, false, false, true, true, false, false] rfl rfl (by kernel_rfl) (fun _ _ _ h => h) (Or.inl ⟨by rfl, ?_⟩) hHeld ?_ ?_
                rotate_left
                · rintro w' s1
                  go_simp
                  with_reducible rfl
                rotate_left
                · simp only [Act.put, List.setIfInBounds_toArray, List.set_cons_zero, List.set_cons_succ, i64_w, i32_w]
                  rfl
                refine one_ (i := 1) (N := some 45) #[true, true, false, true, true, false, false] rfl rfl (by kernel_rfl) (by decide) (fun K hK => ?_)
                refine goes_ Tryd.func49 (by kernel_rfl) rfl #[.int .i64 (max fi (-fi))] (by rfl) rfl rfl (by simp [Act.eval]) ?_
                refine (HIm.out _ HWd.out).mono ?_
                rintro e w4 ⟨rfl, hl4, hb4⟩
                have HX4 := Aside0.mk (blk_below (blk_drew HX3.out) hb4)
                have HL4 := Aside0.mk (blk_below HLd.out hb4)
                have hB4 := Aside0.mk (HBd.out.trans (hb4.mono (by have := HBd.out.size; omega)))
                have H4 := Aside0.mk (builder_below HDd.out hb4)
                have hS4 := blk_lt HL4.out
                clear hb4
                refine ⟨_, rfl, ?_⟩
                refine hK.out _ _ ((blk_cell HX4.out 1).trans rfl) (fun hHeld => ?_)
                clear hK K
                refine norm_ (a' := ?_) ?_ ?_
                rotate_left
                · show Act.put _ (some 45) _ = _
                  simp only [Act.put, List.setIfInBounds_toArray, List.set_cons_zero, List.set_cons_succ, i64_w, i32_w]
                  rfl
                have hq1 : ¬ (9223372036854775807 < (Lib.itoa (max fi (-fi))).length + 1) := by omega
                have hq2 : ¬ (9223372036854775807 < (Lib.itoa (max fi (-fi))).length + 1 + nm.size) := by omega
                refine pure_ (i := 2) (N := some 46) (v := ?_) (a' := ?_) #[true, true, true, true, true, false, false] rfl rfl (by kernel_rfl) (fun _ _ _ h => h) (Or.inl ⟨by rfl, ?_⟩) ?_ ?_
                rotate_left
                · intro w'
                  go_simp
                  with_reducible rfl
                rotate_left
                · simp only [Act.put, List.setIfInBounds_toArray, List.set_cons_zero, List.set_cons_succ, i64_w, i32_w]
                  rfl
                refine pure_ (i := 5) (N := some 49) (v := ?_) (a' := ?_) #[true, true, true, true, true, true, false] rfl rfl (by kernel_rfl) (fun _ _ _ h => h) (Or.inl ⟨by rfl, ?_⟩) ?_ ?_
                rotate_left
                · intro w'
                  go_simp
                  with_reducible rfl
                rotate_left
                · simp only [Act.put, List.setIfInBounds_toArray, List.set_cons_zero, List.set_cons_succ, i64_w, i32_w]
                  rfl
                refine one_ (i := 6) (N := some 50) #[true, true, true, true, true, true, true] rfl rfl (by kernel_rfl) (by decide) (fun K hK => ?_)
                refine goes_ Tryd.func48 (by kernel_rfl) rfl #[.pointer (some ⟨w1.heap.size, 0, none⟩), .string (⟨(Lib.itoa (max fi (-fi))).toArray⟩ ++ ⟨#[42]⟩ ++ nm)] (by rfl) rfl rfl (by simp [Act.eval]) ?_
                refine (put_k w1.heap.size w1.heap.size _ _ _ H4.out (by have := HN3.out; rw [size_c]; omega) (by have := hB4.out.size; omega)).mono ?_
                rintro e w5 ⟨rfl, h5, b5, k5⟩
                have hx5 := (blk_cell (others_cells k5 HX4.out (by omega) (by decide)) 1).trans (show _ = some (Value.string nm) from rfl)
                refine ⟨_, rfl, ?_⟩
                refine hK.out _ _ hx5 (fun hHeld => ?_)
                clear hK K
                refine norm_ (a' := ?_) ?_ ?_
                rotate_left
                · show Act.put _ (some 50) _ = _
                  simp only [Act.put, List.setIfInBounds_toArray, List.set_cons_zero, List.set_cons_succ, i64_w, i32_w]
                  rfl
                refine done_ (by kernel_rfl) ?_
                clear hHeld hx5
                have hL5 := Aside0.mk (others_cells k5 HL4.out (by omega) (by decide))
                have hB5 := Aside0.mk (hB4.out.trans b5)
                have H5 := Aside0.mk h5
                clear h5 b5 k5
                go_wp2_with fail
                go_roundw
                case rel =>
                  have h1 := lnTo_more HFI.out HNM.out HZ0.out HS3.out (item_c zi zm)
                  refine ⟨i + 1, by omega, by go_num, ⟨by rw [h1]; exact H5.out⟩, ⟨?_⟩, hL5, hB5⟩
                  rw [h1, List.length_append]
                  have := HN3.out
                  rw [size_list, size_c]; omega
                case measure => simp [intOf]; omega
    · obtain rfl : i = 4 := by omega
      obtain ⟨bl, hbl⟩ : ∃ bl : Int, bl = (lnTo (lnList c n t f) 4).length := ⟨_, rfl⟩
      have HBL := Aside0.mk hbl
      have HWR := Aside0.mk (HB1.out.trans (HBe.out.mono (Nat.le_of_lt HZ1.out)))
      by_cases hp : 0 < bl
      · have hbe : (bl == 0) = false := by simp; omega
        have hne : lnTo (lnList c n t f) 4 ≠ [] := fun e => by rw [hbl, e] at hp; exact absurd hp (by decide)
        have HF := Aside0.mk (show lnText c n t f = lnTo (lnList c n t f) 4 by rw [lnText, if_neg hne])
        clear hbl hne
        go_wp2_with fail
        refine (len_any w1.heap.size w1.heap.size (lnTo (lnList c n t f) 4) bl HBL.out _ HBu.out).mono ?_
        rintro e w2 ⟨rfl, hw2⟩
        have H2 := Aside0.mk (hw2 ▸ HBu.out)
        have HB2 := Aside0.mk (hw2 ▸ HBe.out)
        have HW2 := Aside0.mk (hw2 ▸ HWR.out)
        clear hw2
        go_wp2_with fail
        refine (Tryd.Builder_String_any w1.heap.size w1.heap.size _ _ H2.out (by have := HB2.out.size; omega)).mono ?_
        rintro e w4 ⟨rfl, hb4⟩
        have HB4 := Aside0.mk (HW2.out.trans (hb4.mono (Nat.le_of_lt HZ1.out)))
        clear hb4
        go_wp2_with fail
        go_ret
        exact ⟨by rw [HF.out]; rfl, HB4.out⟩
      · have hb0 : bl = 0 := by omega
        have hne : lnTo (lnList c n t f) 4 = [] := List.eq_nil_of_length_eq_zero (by omega)
        have HF := Aside0.mk (show lnText c n t f = [48] by rw [lnText, if_pos hne])
        subst hb0
        have hbe : ((0 : Int) == 0) = true := rfl
        clear hbl hne hp
        go_wp2_with fail
        refine (len_any w1.heap.size w1.heap.size (lnTo (lnList c n t f) 4) 0 HBL.out _ HBu.out).mono ?_
        rintro e w2 ⟨rfl, hw2⟩
        have HW2 := Aside0.mk (hw2 ▸ HWR.out)
        clear hw2
        go_wp2_with fail
        go_ret
        exact ⟨by rw [HF.out]; rfl, HW2.out⟩
set_option maxHeartbeats 1000000 in
set_option maxRecDepth 100000 in
theorem formatLinear_no (c n t f : Int) (w : World) (hb : protocol_bounded.f c n t f = some false) :
    Calls Tryd.prog 22 #[.agg #[.int .i64 c, .int .i64 n, .int .i64 t, .int .i64 f]] w fun e w' => e = .returned (.string ⟨#[]⟩) ∧ Below w.heap.size w w' := by
  have hu := Tryd.underlying42
  have HBo := Aside0.mk hb
  clear hb
  go_enter Tryd.func22, Tryd.ntmps22
  go_wp2_with (first | (go_at_call 45; refine (protocol_bounded.calls c n t f false _ HBo.out).mono ?_))
  rintro e w1 ⟨rfl, hb1⟩
  have HB1 := Aside0.mk ((below_alloc (Below.refl w.heap.size w) (.cells #[.int .i64 c, .int .i64 n, .int .i64 t, .int .i64 f] 42 (0, 0))).trans (hb1.mono (by simp)))
  clear hb1
  go_wp2_with fail
  go_ret
  exact ⟨rfl, HB1.out⟩
theorem lnGet (c n t f : Int) (i : Nat) (h : i < 4) : ((lnList c n t f).getD i (0, [])).1 = n ∨ ((lnList c n t f).getD i (0, [])).1 = t ∨ ((lnList c n t f).getD i (0, [])).1 = f ∨ ((lnList c n t f).getD i (0, [])).1 = c := by
  match i, h with
  | 0, _ => exact .inl rfl
  | 1, _ => exact .inr (.inl rfl)
  | 2, _ => exact .inr (.inr (.inl rfl))
  | 3, _ => exact .inr (.inr (.inr rfl))
def protocol_FormatLinear.f (a0_0 a0_1 a0_2 a0_3 : Int) : Option ByteArray :=
  (protocol_bounded.f a0_0 a0_1 a0_2 a0_3).bind fun b => if b = true then (if (-99 ≤ a0_0 ∧ a0_0 ≤ 99) ∧ (-99 ≤ a0_1 ∧ a0_1 ≤ 99) ∧ (-99 ≤ a0_2 ∧ a0_2 ≤ 99) ∧ (-99 ≤ a0_3 ∧ a0_3 ≤ 99) then some ⟨(lnText a0_0 a0_1 a0_2 a0_3).toArray⟩ else none) else some ⟨#[]⟩
theorem protocol_FormatLinear.calls (a0_0 : Int) (a0_1 : Int) (a0_2 : Int) (a0_3 : Int) (r : ByteArray) (w : World) (h : protocol_FormatLinear.f a0_0 a0_1 a0_2 a0_3 = some r) :
    Calls Tryd.prog 22 #[.agg #[.int .i64 a0_0, .int .i64 a0_1, .int .i64 a0_2, .int .i64 a0_3]] w fun e w' => e = .returned (.string r) ∧ Below w.heap.size w w' := by
  obtain ⟨b, hb, h3⟩ := Option.bind_eq_some_iff.1 h
  cases b
  · simp only [Bool.false_eq_true, if_false, Option.some.injEq] at h3
    subst h3
    exact formatLinear_no _ _ _ _ w hb
  · simp only [if_true] at h3
    by_cases hs : (-99 ≤ a0_0 ∧ a0_0 ≤ 99) ∧ (-99 ≤ a0_1 ∧ a0_1 ≤ 99) ∧ (-99 ≤ a0_2 ∧ a0_2 ≤ 99) ∧ (-99 ≤ a0_3 ∧ a0_3 ≤ 99)
    · rw [if_pos hs] at h3
      obtain rfl := Option.some.inj h3
      refine formatLinear_ok _ _ _ _ w (fun i hi => ?_) hb (fun m W hm _ => ?_)
      · have := lnGet a0_0 a0_1 a0_2 a0_3 i hi; omega
      · obtain ⟨i, hi, _, rfl⟩ := hm
        have := lnGet a0_0 a0_1 a0_2 a0_3 i hi
        exact itoa_low _ (by omega) (by omega) W
    · rw [if_neg hs] at h3; exact absurd h3 (by simp)

end Go.Proofs.YtbioiodjdfcooabDoor.P
