/- What the program's texts use of strings.Builder: copyCheck, WriteString (the shelf's proofs of them, turned to this translation, in which the panic of copyCheck is a refusal). -/
import Derived.Test.YtbioiodjdfcooaaDoorProg
import Derived.Test.YtbioiodjdfcooaaDoorVGShelf
import Derived.Shelf.RegionOpenPlain
import Derived.Lib.Strings
import Derived.Lib.Slices
import Derived.Lib.Walk
import Derived.Lib.Builder
import Derived.Lib.AppendStr
import Derived.Lib.UnsafeStr
import Derived.WalkKit
import Derived.OwnWalk
import Derived.Laws.Externs
import Derived.Laws.IdiomCopy
import Derived.Laws.BitsLemmas
import Derived.KernelRfl
import Derived.Lib.Hide
set_option linter.unusedVariables false
namespace Go.Proofs.YtbioiodjdfcooaaDoor.Build
open Go.RowKit
theorem sizeBuilder : (Tryd.prog.info? 74).map (·.size) = some 2 := by kernel_rfl
theorem liesBuilder : liesAt Tryd.prog Tryd.prog.depth 74 (2 / Tryd.prog.cellsOf 74) 0 74 1 = true := by kernel_rfl
theorem infoByte : (Tryd.prog.info? 5).map (fun i => (i.zero, i.size, i.bytes)) = some (some (.int .u8 0), 1, 1) := by kernel_rfl

set_option maxHeartbeats 1000000 in
set_option maxRecDepth 100000 in
theorem copyCheck_used (b : Nat) (w : World) (h0 : w.cell? ⟨b, 0, none⟩ = some (.pointer (some ⟨b, 0, none⟩))) :
    Calls Tryd.prog 76 #[.pointer (some ⟨b, 0, none⟩)] w fun e w' => e = .returned (.tuple #[]) ∧ w' = w := by
  obtain ⟨j, hj, _⟩ := Option.map_eq_some_iff.1 sizeBuilder
  go_enter Tryd.func76, Tryd.ntmps76
  go_wp2
  rw [Lib.run_neq_ptr_same w _ Tryd.underlying71 hj]
  go_wp2
  go_end0
  exact ⟨rfl, rfl⟩

set_option maxHeartbeats 1000000 in
set_option maxRecDepth 100000 in
theorem copyCheck_fresh (b : Nat) (w : World) (h0 : w.cell? ⟨b, 0, none⟩ = some (.pointer none)) (hsh : w.shape? b = some (74, 2)) (hfz : w.frozen? ⟨b, 0, none⟩ = false) :
    Calls Tryd.prog 76 #[.pointer (some ⟨b, 0, none⟩)] w fun e w' => e = .returned (.tuple #[]) ∧ w' = w.setCell ⟨b, 0, none⟩ (.pointer (some ⟨b, 0, none⟩)) := by
  obtain ⟨j, hj, hjs⟩ := Option.map_eq_some_iff.1 sizeBuilder
  go_enter Tryd.func76, Tryd.ntmps76
  go_wp2
  rw [Lib.run_to_unsafe w ⟨b, 0, none⟩ Tryd.underlying71 Tryd.underlying96 hj (by rw [hjs]; decide) hsh (Nat.zero_lt_succ 1)]
  simp only [Result.andThen]
  rw [Oper.upon_value]
  go_wp2
  rw [run_callFunc_extern Tryd.func81 (by kernel_rfl) (by kernel_rfl) (by kernel_rfl) (e := Extern.AbiNoEscape.same) (by kernel_rfl)]
  rw [Lib.run_noEscape]
  simp only [Result.andThen]
  rw [Oper.upon_value]
  go_wp2
  rw [Lib.run_from_unsafe w ⟨b, 0, none⟩ Tryd.underlying96 Tryd.underlying71 hj hsh liesBuilder]
  simp only [Result.andThen]
  rw [Oper.upon_value]
  go_wp2
  go_end0
  exact ⟨rfl, rfl⟩

/-- (*strings.Builder).copyCheck: behind it the builder is 'used'; its bytes are as they were. -/
theorem copyCheck (B b : Nat) (bs : List Value) (w : World) (h : Lib.IsBuilder 74 5 B b bs w) :
    Calls Tryd.prog 76 #[.pointer (some ⟨b, 0, none⟩)] w fun e w' => e = .returned (.tuple #[]) ∧ (Lib.BuilderAt 74 5 B b (.pointer (some ⟨b, 0, none⟩)) bs w' ∧ Below B w w') := by
  rcases h with h | h
  · refine (copyCheck_fresh b w h.cell0 h.shape h.frozen0).mono ?_
    rintro e w' ⟨rfl, rfl⟩
    exact ⟨rfl, h.used _, (Below.refl B w).setCell (p := ⟨b, 0, none⟩) h.1 _⟩
  · refine (copyCheck_used b w h.cell0).mono ?_
    rintro e w' ⟨rfl, rfl⟩
    exact ⟨rfl, h, Below.refl B _⟩

set_option maxHeartbeats 2000000 in
set_option maxRecDepth 100000 in
/-- (*strings.Builder).WriteString. -/
theorem writeString (B b : Nat) (bs : List Value) (s : ByteArray) (w : World) (h : Lib.IsBuilder 74 5 B b bs w) (hlen : bs.length + s.size ≤ 140737488355328) (hBw : B ≤ w.heap.size) :
    Calls Tryd.prog 74 #[.pointer (some ⟨b, 0, none⟩), .string s] w fun e w' => e = .returned (.tuple #[.int .i64 s.size, .nilIface]) ∧ (Lib.BuilderAt 74 5 B b (.pointer (some ⟨b, 0, none⟩)) (bs ++ Lib.strCells s) w' ∧ Below B w w') := by
  obtain ⟨i0, hi, hz0, hz1, hz2⟩ := info_parts infoByte
  have e240 : ∀ args w, (callFunc 76 args).run Tryd.prog w = .ok (.enter 76 args) w := enters_of Tryd.func76 (by kernel_rfl) rfl
  go_enter Tryd.func74, Tryd.ntmps74
  go_wp2_with (go_at_call 76; refine (copyCheck B b bs _ h).mono ?_)
  rintro e w1 ⟨rfl, h1, hb1⟩
  obtain ⟨hB, v, hbk, hown, hne⟩ := h1
  have c0 : w1.cell? ⟨b, 0, none⟩ = some (.pointer (some ⟨b, 0, none⟩)) := by rw [Lib.cell_of_heap hbk]; rfl
  have c1 : w1.cell? ⟨b, 1, none⟩ = some v := by rw [Lib.cell_of_heap hbk]; rfl
  go_wp2_with (at_builtin; refine Lib.wpList_append_own_string _ rfl _ _ 72 9 rfl B 5 i0 Tryd.underlying72 Tryd.underlying9 hi hz0 hz1 hz2 _ _ _ rfl hown s rfl ?c3 ?c4 ?c5 ?_)
  case c3 => unfold maxLen; omega
  case c4 => omega
  case c5 => have := hb1.size; omega
  intro v' w2 hown' hgrow _
  have hlt : b < w1.heap.size := by
    rcases Nat.lt_or_ge b w1.heap.size with h' | h'
    · exact h'
    · simp [Array.getElem?_eq_none h'] at hbk
  have hb2 : w2.heap[b]? = some (.cells #[.pointer (some ⟨b, 0, none⟩), v] 74 (0, 0)) := by
    rw [hgrow.block b hlt (fun e => hne e.symm)]
    exact hbk
  have d0 : w2.cell? ⟨b, 0, none⟩ = some (.pointer (some ⟨b, 0, none⟩)) := by rw [Lib.cell_of_heap hb2]; rfl
  have d1 : w2.cell? ⟨b, 1, none⟩ = some v := by rw [Lib.cell_of_heap hb2]; rfl
  have f1 : w2.frozen? ⟨b, 1, none⟩ = false := Lib.frozen_of_heap hb2 1
  obtain ⟨ao, n', cap, rfl⟩ : ∃ ao n' cap, v' = .slice ao n' cap := by
    rcases hown'.2 with ⟨hv, _⟩ | ⟨g, cap, cur, hv, _⟩
    · exact ⟨_, _, _, hv⟩
    · exact ⟨_, _, _, hv⟩
  go_wp2
  go_ret2
  refine ⟨rfl, ?_, ?_⟩
  · exact Lib.BuilderAt.put (T := 74) (e := 5) hB hb2 (bs' := bs ++ Lib.strCells s) (by simpa [Lib.strCells_length] using hown') (by decide)
  · exact (hb1.grown hgrow (by have := hb1.size; omega) (fun k hk => (hown.lt k hk).1)).setCell (p := ⟨b, 1, none⟩) hB _
/-- What 'write' leaves in the builder. -/
def wrText (b : List UInt8) (neg : Bool) (item : List UInt8) : List UInt8 :=
  b ++ (if b = [] then (if neg then [45] else []) else if neg then [32, 45, 32] else [32, 43, 32]) ++ item
theorem len_any (B b : Nat) (bs : List UInt8) (n : Int) (hn : n = bs.length) (w : World) (h : Lib.IsBuilder 74 5 B b (Lib.byteCells bs) w) :
    Calls Tryd.prog 63 #[.pointer (some ⟨b, 0, none⟩)] w fun e w' => e = .returned (.int .i64 n) ∧ w = w' := by
  refine (Tryd.Builder_Len B b _ w h).mono ?_
  rintro e w' ⟨rfl, rfl⟩
  refine ⟨?_, rfl⟩
  rw [Lib.byteCells_length, hn]
theorem put_any (B b : Nat) (bs : List UInt8) (s : ByteArray) (w : World) (h : Lib.IsBuilder 74 5 B b (Lib.byteCells bs) w) (hlen : bs.length + s.size ≤ 140737488355328) (hBw : B ≤ w.heap.size) :
    Calls Tryd.prog 74 #[.pointer (some ⟨b, 0, none⟩), .string s] w fun e w' => e = .returned (.tuple #[.int .i64 s.size, .nilIface]) ∧ (Lib.IsBuilder 74 5 B b (Lib.byteCells (bs ++ s.data.toList)) w' ∧ Below B w w') := by
  refine (writeString B b _ s w h (by rw [Lib.byteCells_length]; exact hlen) hBw).mono ?_
  rintro e w' ⟨rfl, h1, h2⟩
  refine ⟨rfl, .inr ?_, h2⟩
  rwa [show Lib.byteCells (bs ++ s.data.toList) = Lib.byteCells bs ++ Lib.strCells s by simp [Lib.byteCells, Lib.strCells]]

set_option maxHeartbeats 2000000 in
set_option maxRecDepth 100000 in
theorem write_any (B b : Nat) (bs : List UInt8) (neg : Bool) (s : ByteArray) (w : World) (h : Lib.IsBuilder 74 5 B b (Lib.byteCells bs) w) (hlen : bs.length + 3 + s.size ≤ 140737488355328) (hBw : B ≤ w.heap.size) :
    Calls Tryd.prog 62 #[.pointer (some ⟨b, 0, none⟩), .bool neg, .string s] w fun e w' => e = .returned (.tuple #[]) ∧ Lib.IsBuilder 74 5 B b (Lib.byteCells (wrText bs neg s.data.toList)) w' ∧ Below B w w' := by
  obtain ⟨n, hn⟩ : ∃ n : Int, n = bs.length := ⟨_, rfl⟩
  have Hn := Lib.hid hn
  have HL := Lib.hid hlen
  by_cases h0 : bs = []
  · have HW : Hid (wrText bs neg s.data.toList = (bs ++ (if neg then [45] else [])) ++ s.data.toList) := by
      refine Lib.hid ?_
      simp [wrText, h0]
    obtain rfl : n = 0 := by rw [hn, h0]; rfl
    clear hn h0 hlen
    cases neg
    · go_enter Tryd.func62, Tryd.ntmps62
      go_wp2_with (first | (go_at_call 63; refine (len_any B b bs 0 Hn.out _ h).mono ?_; rintro e w' ⟨rfl, rfl⟩) | (go_at_call 74; refine (put_any B b bs s _ h (by have := HL.out; omega) hBw).mono ?_; rintro e w' ⟨rfl, h1, h2⟩))
      go_end0
      refine ⟨rfl, ?_, h2⟩
      rw [HW.out]
      simpa using h1
    · go_enter Tryd.func62, Tryd.ntmps62
      go_wp2_with fail
      refine (len_any B b bs 0 Hn.out _ h).mono ?_
      rintro e w' ⟨rfl, rfl⟩
      go_wp2_with fail
      refine (put_any B b bs ⟨#[45]⟩ _ h (by have := HL.out; show _ + 1 ≤ _; omega) hBw).mono ?_
      rintro e w' ⟨rfl, h1, h2⟩
      have h2s := h2.size
      go_wp2_with fail
      refine (put_any B b (bs ++ [45]) s _ h1 (by have := HL.out; simp; omega) (by omega)).mono ?_
      rintro e w' ⟨rfl, h3, h4⟩
      go_wp2_with fail
      go_end0
      refine ⟨rfl, ?_, h2.trans h4⟩
      rw [HW.out]
      simpa using h3
  · have hp : 0 < n := by
      rw [hn]
      have := List.length_pos_iff.2 h0
      omega
    have HW : Hid (wrText bs neg s.data.toList = (bs ++ (if neg then [32, 45, 32] else [32, 43, 32])) ++ s.data.toList) := by
      refine Lib.hid ?_
      simp [wrText, h0]
    have hb : (n == 0) = false := by simp; omega
    have hd : decide (0 < n) = true := by simp; omega
    clear hn h0 hlen
    cases neg
    · go_enter Tryd.func62, Tryd.ntmps62
      go_wp2_with (first | (go_at_call 63; refine (len_any B b bs n Hn.out _ h).mono ?_; rintro e w' ⟨rfl, rfl⟩))
      refine (put_any B b bs ⟨#[32, 43, 32]⟩ _ h (by have := HL.out; show _ + 3 ≤ _; omega) hBw).mono ?_
      rintro e w' ⟨rfl, h1, h2⟩
      have h2s := h2.size
      go_wp2_with fail
      refine (put_any B b (bs ++ [32, 43, 32]) s _ h1 (by have := HL.out; simp; omega) (by omega)).mono ?_
      rintro e w' ⟨rfl, h3, h4⟩
      go_wp2_with fail
      go_end0
      refine ⟨rfl, ?_, h2.trans h4⟩
      rw [HW.out]
      simpa using h3
    · go_enter Tryd.func62, Tryd.ntmps62
      go_wp2_with (first | (go_at_call 63; refine (len_any B b bs n Hn.out _ h).mono ?_; rintro e w' ⟨rfl, rfl⟩))
      refine (put_any B b bs ⟨#[32, 45, 32]⟩ _ h (by have := HL.out; show _ + 3 ≤ _; omega) hBw).mono ?_
      rintro e w' ⟨rfl, h1, h2⟩
      have h2s := h2.size
      go_wp2_with fail
      refine (put_any B b (bs ++ [32, 45, 32]) s _ h1 (by have := HL.out; simp; omega) (by omega)).mono ?_
      rintro e w' ⟨rfl, h3, h4⟩
      go_wp2_with fail
      go_end0
      refine ⟨rfl, ?_, h2.trans h4⟩
      rw [HW.out]
      simpa using h3

theorem builder_below {B b : Nat} {bs : List Value} {w w' : World} (h : Lib.IsBuilder 74 5 B b bs w) (hb : Below w.heap.size w w') : Lib.IsBuilder 74 5 B b bs w' := by
  have go : ∀ p, Lib.BuilderAt 74 5 B b p bs w → Lib.BuilderAt 74 5 B b p bs w' := by
    rintro p ⟨h1, v, h2, h3, h4⟩
    have hlt : b < w.heap.size := (Array.getElem?_eq_some_iff.1 h2).1
    exact ⟨h1, v, (hb.block b hlt).trans h2, h3.kept (row := none) ⟨hb.os, hb.tape, hb.output, hb.size, fun k hk _ => hb.block k hk⟩ (by cases v.ownBlock <;> simp), h4⟩
  rcases h with h | h
  · exact .inl (go _ h)
  · exact .inr (go _ h)
end Go.Proofs.YtbioiodjdfcooaaDoor.Build
