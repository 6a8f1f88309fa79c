import Derived.Test.YtbioiodjdfcooaaDoorVGPx0
import Derived.Test.YtbioiodjdfcooaaDoorVGPx1
-- Written by a program of this session (wip/tools/doprint.sh: the kit's print, with given texts for some functions).
namespace Go.Proofs.YtbioiodjdfcooaaDoor.P
open Go.RowKit Go.Proofs.YtbioiodjdfcooaaDoorW.PrintWords Go.Proofs.YtbioiodjdfcooaaDoorW.PrintLast Go.Proofs.YtbioiodjdfcooaaDoorW.PrintMore
attribute [local go_sem] max2_int min2_int max_two min_two max_three min_three max_four min_four   -- for this text's walks alone
set_option linter.unusedVariables false
set_option linter.unusedSimpArgs false

/-! ### linear_Validate: function 18 -/
mutual
def linear_Validate.j0 : Nat → Bool → Int → List (S33) → Option (Int)
  | 0, _, _, _ => none
  | k + 1, x14, x116000, x116001 => if x14 = true then (some 1) else (linear_Validate.l0 k x116001 (x116001.length : Int) 0 x116000 x116001)
def linear_Validate.l0 : Nat → List (S33) → Int → Int → Int → List (S33) → Option (Int)
  | 0, _, _, _, _, _ => none
  | k + 1, x16, x17, x18, x116000, x116001 => if x18 < x17 then (if 0 ≤ x18 then (if x18 < (x16.length : Int) then (if (((rd_T33 x16 x18).f0).length : Int) = x116000 then (linear_Validate.l0 k x16 x17 (wrap64 (x18 + 1)) x116000 x116001) else (some 1)) else (none)) else (none)) else (if (x116001.length : Int) > 192 then (some 4) else (linear_Validate.l1 k x116001 (x116001.length : Int) 0))
def linear_Validate.l1 : Nat → List (S33) → Int → Int → Option (Int)
  | 0, _, _, _ => none
  | k + 1, x34, x35, x36 => if x36 < x35 then (if 0 ≤ x36 then (if x36 < (x34.length : Int) then ((linear_small.f k ((rd_T33 x34 x36).f0) ((rd_T33 x34 x36).f1)).bind fun t120 => (if t120 = true then (linear_Validate.l1 k x34 x35 (wrap64 (x36 + 1))) else (some 4))) else (none)) else (none)) else (some 0)
end
def linear_Validate.f (k : Nat) (a0_0 : Int) (l0_1 : List (S33)) : Option (Int) := if a0_0 < 0 then (linear_Validate.j0 k true a0_0 l0_1) else (linear_Validate.j0 k (decide (a0_0 > 96)) a0_0 l0_1)
theorem linear_Validate.mono_l : ∀ k, (∀ y0 y1 y2, LeO (linear_Validate.j0 k y0 y1 y2) (linear_Validate.j0 (k + 1) y0 y1 y2)) ∧ (∀ y0 y1 y2 y3 y4, LeO (linear_Validate.l0 k y0 y1 y2 y3 y4) (linear_Validate.l0 (k + 1) y0 y1 y2 y3 y4)) ∧ (∀ y0 y1 y2, LeO (linear_Validate.l1 k y0 y1 y2) (linear_Validate.l1 (k + 1) y0 y1 y2))
  | 0 => ⟨fun _ _ _ r h => by simp [linear_Validate.j0] at h, fun _ _ _ _ _ r h => by simp [linear_Validate.l0] at h, fun _ _ _ r h => by simp [linear_Validate.l1] at h⟩
  | k + 1 => by
    obtain ⟨ih0, ih1, ih2⟩ := linear_Validate.mono_l k
    refine ⟨?_, ?_, ?_⟩
    · intro y0 y1 y2
      unfold linear_Validate.j0
      repeat' first
      | (with_reducible exact ih0 _ _ _)
      | (with_reducible exact ih1 _ _ _ _ _)
      | (with_reducible exact ih2 _ _ _)
      | (with_reducible exact linear_small.mono _ _ _)
      | (with_reducible exact LeO.refl _)
      | (with_reducible exact LeO.none _)
      | (with_reducible refine LeO.ite ?_ ?_)
      | (with_reducible refine LeO.bind ?_ (fun _ => ?_))
      | exact ih0 _ _ _
      | exact ih1 _ _ _ _ _
      | exact ih2 _ _ _
      | exact linear_small.mono _ _ _
      | exact LeO.none _
      | refine LeO.ite ?_ ?_
      | refine LeO.bind ?_ (fun _ => ?_)
    · intro y0 y1 y2 y3 y4
      unfold linear_Validate.l0
      repeat' first
      | (with_reducible exact ih0 _ _ _)
      | (with_reducible exact ih1 _ _ _ _ _)
      | (with_reducible exact ih2 _ _ _)
      | (with_reducible exact linear_small.mono _ _ _)
      | (with_reducible exact LeO.refl _)
      | (with_reducible exact LeO.none _)
      | (with_reducible refine LeO.ite ?_ ?_)
      | (with_reducible refine LeO.bind ?_ (fun _ => ?_))
      | exact ih0 _ _ _
      | exact ih1 _ _ _ _ _
      | exact ih2 _ _ _
      | exact linear_small.mono _ _ _
      | exact LeO.none _
      | refine LeO.ite ?_ ?_
      | refine LeO.bind ?_ (fun _ => ?_)
    · intro y0 y1 y2
      unfold linear_Validate.l1
      repeat' first
      | (with_reducible exact ih0 _ _ _)
      | (with_reducible exact ih1 _ _ _ _ _)
      | (with_reducible exact ih2 _ _ _)
      | (with_reducible exact linear_small.mono _ _ _)
      | (with_reducible exact LeO.refl _)
      | (with_reducible exact LeO.none _)
      | (with_reducible refine LeO.ite ?_ ?_)
      | (with_reducible refine LeO.bind ?_ (fun _ => ?_))
      | exact ih0 _ _ _
      | exact ih1 _ _ _ _ _
      | exact ih2 _ _ _
      | exact linear_small.mono _ _ _
      | exact LeO.none _
      | refine LeO.ite ?_ ?_
      | refine LeO.bind ?_ (fun _ => ?_)
theorem linear_Validate.mono : ∀ a0 a1 k, LeO (linear_Validate.f k a0 a1) (linear_Validate.f (k + 1) a0 a1) := by
  intro a0 a1 k
  obtain ⟨ih0, ih1, ih2⟩ := linear_Validate.mono_l k
  unfold linear_Validate.f
  repeat' first
      | (with_reducible exact ih0 _ _ _)
      | (with_reducible exact ih1 _ _ _ _ _)
      | (with_reducible exact ih2 _ _ _)
      | (with_reducible exact linear_small.mono _ _ _)
      | (with_reducible exact LeO.refl _)
      | (with_reducible exact LeO.none _)
      | (with_reducible refine LeO.ite ?_ ?_)
      | (with_reducible refine LeO.bind ?_ (fun _ => ?_))
      | exact ih0 _ _ _
      | exact ih1 _ _ _ _ _
      | exact ih2 _ _ _
      | exact linear_small.mono _ _ _
      | exact LeO.none _
      | refine LeO.ite ?_ ?_
      | refine LeO.bind ?_ (fun _ => ?_)
set_option maxHeartbeats 8000000 in
set_option maxRecDepth 100000 in
theorem linear_Validate.calls (k : Nat) (a0_0 : Int) (A0_1 : Option Addr) (c0_1 : Nat) (l0_1 : List (S33)) (r : Int) (w : World) (hr0_1 : Kd.C k33 w A0_1 l0_1.length l0_1) (hc0_1 : l0_1.length ≤ c0_1) (h : linear_Validate.f k a0_0 l0_1 = some r) :
    Calls Tryd.prog 18 #[.agg #[.int .i64 a0_0, .slice A0_1 l0_1.length c0_1]] w fun e w' => e = .returned (.int .i64 r) ∧ Below w.heap.size w w' := by
  have hu24 := Tryd.underlying24
  have hu33 := Tryd.underlying33
  have HR0_1 := Aside0.mk hr0_1
  have HC0_1 := Aside0.mk hc0_1
  clear hr0_1 hc0_1
  have HB := Aside0.mk (Below.refl w.heap.size w)
  have H : (if a0_0 < 0 then (linear_Validate.j0 k true a0_0 l0_1) else (linear_Validate.j0 k (decide (a0_0 > 96)) a0_0 l0_1)) = some r := h
  clear h
  have HC2 := Aside0.mk H
  clear H
  go_enter Tryd.func18, Tryd.ntmps18
  go_upto_region 1 with (first | ((with_reducible refine gate_dst (N := 1) rfl ?_); refine box_event ?hg (N := 1) ?hd (cs := #[.int .i64 a0_0, .slice A0_1 l0_1.length c0_1]) (t := 24) ?hr ?_; (case hd => rfl); (case hg => rfl); (case hr => first | (go_simp; done) | (go_simp; rfl)); intro gb115 hg w3 hbox hb; have n0_ := Aside0.mk (below_step (by repeat (first | (with_reducible first | exact HB.out | apply below_alloc | apply pw_below_drewN | apply below_drew1) | exact HB.out)) hb); have n1_ := Aside0.mk (hbox); have n2_ := Aside0.mk ((by rw [hg]; exact (below_size (by repeat (first | (with_reducible first | exact HB.out | apply below_alloc | apply pw_below_drewN | apply below_drew1) | exact HB.out))) : w.heap.size ≤ gb115)); have n3_ := Aside0.mk ((by rw [hg]; exact (below_size (by repeat (first | (with_reducible first | exact HB.out | apply below_alloc | apply pw_below_drewN | apply below_drew1) | exact HB.out))) : w.heap.size ≤ gb115)); clear HB; have HB := n0_; have BK115 := n1_; have GW115 := n2_; have GE115 := n3_; clear n0_ n1_ n2_ n3_; clear hb hbox hg))
  (try simp only [Act.put, List.setIfInBounds_toArray, List.set_cons_zero, List.set_cons_succ])
  go_cut [14] (fun v14 wc => ∃ (kq : Nat) (x14_1 : Bool), v14 = .bool x14_1 ∧ Aside0 (linear_Validate.j0 kq x14_1 a0_0 l0_1 = some r) ∧ Aside0 (kq ≤ k) ∧ Aside0 (wc.heap[gb115]? = some (.cells #[.int .i64 a0_0, (.slice A0_1 l0_1.length c0_1)] 24 (0, 0))) ∧ Aside0 (Below w.heap.size w wc))
  case first =>
    have H := HC2.out
    clear HC2
    by_cases c4 : a0_0 < 0
    · rw [if_pos c4] at H
      have c4b0 : decide (a0_0 < 0) = true := decide_eq_true c4
      clear c4
      (first | rw [c4b0] | (simp only [i64_w, i32_w]; rw [c4b0]) | skip)
      have H' := Aside0.mk H
      clear H
      have hcz5_0 : w3.cell? ⟨gb115, 0, none⟩ = some (.int .i64 a0_0) := (blk_cell BK115.out 0).trans rfl
      have hcz5_1 : w3.cell? ⟨gb115, 1, none⟩ = some (.slice A0_1 l0_1.length c0_1) := (blk_cell BK115.out 1).trans rfl
      have hfz5_0 := blk_frozen BK115.out 0
      have hfz5_1 := blk_frozen BK115.out 1
      go_wp2
      go_meet
      case rel => exact ⟨_, (true), (by first | rfl | (simp; done) | (simp [*]; done)), H', ⟨by first | omega | exact Nat.le_refl _⟩, ⟨by (with_reducible repeat (first | refine blk_drewN ?_ _ | refine blk_drew ?_ | refine blk_alloc ?_ _)); exact BK115.out⟩, ⟨by repeat (first | (with_reducible first | exact HB.out | apply below_alloc | apply pw_below_drewN | apply below_drew1 | refine below_set ?_ GE115.out) | exact HB.out)⟩⟩
    · rw [if_neg c4] at H
      have c4b0 : decide (a0_0 < 0) = false := decide_eq_false c4
      clear c4
      (first | rw [c4b0] | (simp only [i64_w, i32_w]; rw [c4b0]) | skip)
      have H' := Aside0.mk H
      clear H
      have hcz6_0 : w3.cell? ⟨gb115, 0, none⟩ = some (.int .i64 a0_0) := (blk_cell BK115.out 0).trans rfl
      have hcz6_1 : w3.cell? ⟨gb115, 1, none⟩ = some (.slice A0_1 l0_1.length c0_1) := (blk_cell BK115.out 1).trans rfl
      have hfz6_0 := blk_frozen BK115.out 0
      have hfz6_1 := blk_frozen BK115.out 1
      go_wp2
      go_meet
      case rel => exact ⟨_, (decide (a0_0 > 96)), (by first | rfl | (simp; done) | (simp [*]; done)), H', ⟨by first | omega | exact Nat.le_refl _⟩, ⟨by (with_reducible repeat (first | refine blk_drewN ?_ _ | refine blk_drew ?_ | refine blk_alloc ?_ _)); exact BK115.out⟩, ⟨by repeat (first | (with_reducible first | exact HB.out | apply below_alloc | apply pw_below_drewN | apply below_drew1 | refine below_set ?_ GE115.out) | exact HB.out)⟩⟩
  case rest =>
    clear HC2
    try clear c1
    try clear p2
    try clear c4
    try clear c4b0
    try clear hcz5_0
    try clear hcz5_1
    try clear hcz6_0
    try clear hcz6_1
    try clear hfz5_0
    try clear hfz5_1
    try clear hfz6_0
    try clear hfz6_1
    obtain ⟨kq, x14_1, rfl, HA, HJ1, BK115, HB⟩ := hcut
    cases kq with
    | zero => exact absurd HA.out (by simp [linear_Validate.j0])
    | succ kj1 =>
      have H := HA.out
      clear HA
      simp only [linear_Validate.j0] at H
      by_cases c7 : x14_1 = true
      · subst c7
        have H1 : (some 1) = some r := by rw [if_pos rfl] at H; exact H
        clear H
        have H := H1
        clear H1
        obtain rfl := Option.some.inj H
        go_wp2
        go_ret
        exact ⟨by first | rfl | (simp [errW_none, errW_some] <;> rfl) | (simp [*, errW_none, errW_some] <;> rfl), by repeat (first | (with_reducible first | exact HB.out | apply below_alloc | apply pw_below_drewN | apply below_drew1 | refine below_set ?_ GE115.out) | exact HB.out)⟩
      · replace c7 := Bool.eq_false_iff.mpr c7
        subst c7
        have H1 : (linear_Validate.l0 kj1 l0_1 (l0_1.length : Int) 0 a0_0 l0_1) = some r := by rw [if_neg (show ¬ (false = true) by decide)] at H; exact H
        clear H
        have H := H1
        clear H1
        have H' := Aside0.mk H
        clear H
        have hcz8_0 : wc.cell? ⟨gb115, 0, none⟩ = some (.int .i64 a0_0) := (blk_cell BK115.out 0).trans rfl
        have hcz8_1 : wc.cell? ⟨gb115, 1, none⟩ = some (.slice A0_1 l0_1.length c0_1) := (blk_cell BK115.out 1).trans rfl
        have hfz8_0 := blk_frozen BK115.out 0
        have hfz8_1 := blk_frozen BK115.out 1
        go_wp2
        go_loopg [18] kj1 (fun kq v18 w' => ∃ (x18_2 : Int), v18 = .int .i64 x18_2 ∧ Aside0 (linear_Validate.l0 kq l0_1 (l0_1.length : Int) x18_2 a0_0 l0_1 = some r) ∧ Aside0 (kq ≤ kj1) ∧ Aside0 (w'.heap[gb115]? = some (.cells #[.int .i64 a0_0, (.slice A0_1 l0_1.length c0_1)] 24 (0, 0))) ∧ Aside0 (Below w.heap.size w w'))
        case atStart => exact ⟨(0), (by first | rfl | (simp; done) | (simp [*]; done)), H', ⟨Nat.le_refl _⟩, ⟨by (with_reducible repeat (first | refine blk_drewN ?_ _ | refine blk_drew ?_ | refine blk_alloc ?_ _)); exact BK115.out⟩, ⟨by repeat (first | (with_reducible first | exact HB.out | apply below_alloc | apply pw_below_drewN | apply below_drew1 | refine below_set ?_ GE115.out) | exact HB.out)⟩⟩
        case round =>
          clear H'
          try clear c1
          try clear p2
          try clear c4
          try clear c4b0
          try clear c7
          try clear hcz5_0
          try clear hcz5_1
          try clear hcz6_0
          try clear hcz6_1
          try clear hcz8_0
          try clear hcz8_1
          try clear hfz5_0
          try clear hfz5_1
          try clear hfz6_0
          try clear hfz6_1
          try clear hfz8_0
          try clear hfz8_1
          try clear p2
          obtain ⟨x18_2, rfl, HA, HK2, BK115, HB⟩ := hrel
          cases gk with
          | zero => exact absurd HA.out (by simp [linear_Validate.l0])
          | succ k2 =>
            have H := HA.out
            clear HA
            simp only [linear_Validate.l0] at H
            by_cases c9 : x18_2 < (l0_1.length : Int)
            · rw [if_pos c9] at H
              have c9b0 : decide (x18_2 < (l0_1.length : Int)) = true := decide_eq_true c9
              clear c9
              by_cases c10 : 0 ≤ x18_2
              · rw [if_pos c10] at H
                have c10b0 : decide (0 ≤ x18_2) = true := decide_eq_true c10
                clear c10
                by_cases c11 : x18_2 < (l0_1.length : Int)
                · rw [if_pos c11] at H
                  have c11b0 : decide (x18_2 < (l0_1.length : Int)) = true := decide_eq_true c11
                  clear c11
                  by_cases c12 : (((rd_T33 l0_1 x18_2).f0).length : Int) = a0_0
                  · rw [if_pos c12] at H
                    have c12b0 : ((((rd_T33 l0_1 x18_2).f0).length : Int) == a0_0) = true := beq_iff_eq.mpr c12
                    have c12b1 : ((((rd_T33 l0_1 x18_2).f0).length : Int) != a0_0) = false := bne_eq_false_iff_eq.mpr c12
                    clear c12
                    have H' := Aside0.mk H
                    clear H
                    have p116 : 0 ≤ (x18_2 : Int) := of_decide_eq_true (by first | (with_reducible assumption) | assumption)
                    have q116 : x18_2 < (l0_1.length : Int) := of_decide_eq_true (by first | (with_reducible assumption) | assumption)
                    obtain ⟨ad116, A116_0, c116_0, e116, hx116_0, hx116_1, hl116_0, hi116_0⟩ := at_T33 HR0_1.out x18_2 p116 q116
                    cases e116
                    replace hx116_0 := (HB.out.cell (World.block_lt_of_cell? w _ hx116_0)).trans hx116_0
                    replace hx116_1 := (HB.out.cell (World.block_lt_of_cell? w _ hx116_1)).trans hx116_1
                    have HR116_0 := Aside0.mk hi116_0
                    have HC116_0 := Aside0.mk hl116_0
                    clear hi116_0 hl116_0
                    replace p116 := eq_true p116
                    replace q116 := eq_true q116
                    go_wp2_with (first | ((with_reducible refine gate_dst (N := 4) rfl ?_); refine box_event ?hg (N := 4) ?hd (cs := #[.slice none 0 0, .int .i64 0]) (t := 33) ?hr ?_; (case hd => rfl); (case hg => rfl); (case hr => first | (go_simp; done) | (go_simp; rfl)); intro gb117 hg w13 hbox hb; have n0_ := Aside0.mk (blk_below (g := gb115) (o := .cells #[.int .i64 a0_0, .slice (some ad116) l0_1.length c0_1] 24 (0, 0)) (by (with_reducible repeat (first | refine blk_drewN ?_ _ | refine blk_drew ?_ | refine blk_alloc ?_ _)); exact BK115.out) hb); have n1_ := Aside0.mk (below_step (by repeat (first | (with_reducible first | exact HB.out | apply below_alloc | apply pw_below_drewN | apply below_drew1 | refine below_set ?_ GE115.out) | exact HB.out)) hb); have n2_ := Aside0.mk (hbox); have n3_ := Aside0.mk ((by rw [hg]; exact (below_size (by repeat (first | (with_reducible first | exact HB.out | apply below_alloc | apply pw_below_drewN | apply below_drew1 | refine below_set ?_ GE115.out) | exact HB.out))) : w.heap.size ≤ gb117)); have n4_ := Aside0.mk ((by rw [hg]; exact (below_size (by repeat (first | (with_reducible first | exact HB.out | apply below_alloc | apply pw_below_drewN | apply below_drew1 | refine below_set ?_ GE115.out) | exact HB.out))) : w.heap.size ≤ gb117)); have n5_ := Aside0.mk ((by rw [hg]; exact Nat.ne_of_lt (blk_lt (g := gb115) (o := .cells #[.int .i64 a0_0, .slice (some ad116) l0_1.length c0_1] 24 (0, 0)) (by (with_reducible repeat (first | refine blk_drewN ?_ _ | refine blk_drew ?_ | refine blk_alloc ?_ _)); exact BK115.out)) : gb115 ≠ gb117)); have n6_ := Aside0.mk ((by rw [hg]; exact Nat.ne_of_gt (blk_lt (g := gb115) (o := .cells #[.int .i64 a0_0, .slice (some ad116) l0_1.length c0_1] 24 (0, 0)) (by (with_reducible repeat (first | refine blk_drewN ?_ _ | refine blk_drew ?_ | refine blk_alloc ?_ _)); exact BK115.out)) : gb117 ≠ gb115)); clear BK115; clear HB; have BK115 := n0_; have HB := n1_; have BK117 := n2_; have GW117 := n3_; have GE117 := n4_; have NB115_117 := n5_; have NB117_115 := n6_; clear n0_ n1_ n2_ n3_ n4_ n5_ n6_; clear hb hbox hg; have hnb14 := NB117_115.out; have hnc14 := NB115_117.out; have hcz15_0 : w13.cell? ⟨gb117, 0, none⟩ = some (.slice none 0 0) := (blk_cell BK117.out 0).trans rfl; have hcz15_1 : w13.cell? ⟨gb117, 1, none⟩ = some (.int .i64 0) := (blk_cell BK117.out 1).trans rfl; have hfz15_0 := blk_frozen BK117.out 0; have hfz15_1 := blk_frozen BK117.out 1; have hcz16_0 : w13.cell? ⟨gb115, 0, none⟩ = some (.int .i64 a0_0) := (blk_cell BK115.out 0).trans rfl; have hcz16_1 : w13.cell? ⟨gb115, 1, none⟩ = some (.slice (some ad116) l0_1.length c0_1) := (blk_cell BK115.out 1).trans rfl; have hfz16_0 := blk_frozen BK115.out 0; have hfz16_1 := blk_frozen BK115.out 1))
                    go_roundg k2
                    case measure => have := HJ1.out; have := HK2.out; omega
                    case rel => exact ⟨(wrap64 (x18_2 + 1)), (by first | rfl | (simp; done) | (simp [*]; done)), H', ⟨by have := HJ1.out; have := HK2.out; omega⟩, ⟨by (with_reducible repeat (first | refine blk_drewN ?_ _ | refine blk_drew ?_ | refine blk_alloc ?_ _)); refine blk_far ?_ NB115_117.out _; (with_reducible repeat (first | refine blk_drewN ?_ _ | refine blk_drew ?_ | refine blk_alloc ?_ _)); refine blk_far ?_ NB115_117.out _; (with_reducible repeat (first | refine blk_drewN ?_ _ | refine blk_drew ?_ | refine blk_alloc ?_ _)); exact BK115.out⟩, ⟨by repeat (first | (with_reducible first | exact HB.out | apply below_alloc | apply pw_below_drewN | apply below_drew1 | refine below_set ?_ GE115.out | refine below_set ?_ GE117.out) | exact HB.out)⟩⟩
                  · rw [if_neg c12] at H
                    have c12b0 : ((((rd_T33 l0_1 x18_2).f0).length : Int) == a0_0) = false := beq_eq_false_iff_ne.mpr c12
                    have c12b1 : ((((rd_T33 l0_1 x18_2).f0).length : Int) != a0_0) = true := bne_iff_ne.mpr c12
                    obtain rfl := Option.some.inj H
                    have p116 : 0 ≤ (x18_2 : Int) := of_decide_eq_true (by first | (with_reducible assumption) | assumption)
                    have q116 : x18_2 < (l0_1.length : Int) := of_decide_eq_true (by first | (with_reducible assumption) | assumption)
                    obtain ⟨ad116, A116_0, c116_0, e116, hx116_0, hx116_1, hl116_0, hi116_0⟩ := at_T33 HR0_1.out x18_2 p116 q116
                    cases e116
                    replace hx116_0 := (HB.out.cell (World.block_lt_of_cell? w _ hx116_0)).trans hx116_0
                    replace hx116_1 := (HB.out.cell (World.block_lt_of_cell? w _ hx116_1)).trans hx116_1
                    have HR116_0 := Aside0.mk hi116_0
                    have HC116_0 := Aside0.mk hl116_0
                    clear hi116_0 hl116_0
                    replace p116 := eq_true p116
                    replace q116 := eq_true q116
                    go_wp2_with (first | ((with_reducible refine gate_dst (N := 4) rfl ?_); refine box_event ?hg (N := 4) ?hd (cs := #[.slice none 0 0, .int .i64 0]) (t := 33) ?hr ?_; (case hd => rfl); (case hg => rfl); (case hr => first | (go_simp; done) | (go_simp; rfl)); intro gb117 hg w17 hbox hb; have n0_ := Aside0.mk (blk_below (g := gb115) (o := .cells #[.int .i64 a0_0, .slice (some ad116) l0_1.length c0_1] 24 (0, 0)) (by (with_reducible repeat (first | refine blk_drewN ?_ _ | refine blk_drew ?_ | refine blk_alloc ?_ _)); exact BK115.out) hb); have n1_ := Aside0.mk (below_step (by repeat (first | (with_reducible first | exact HB.out | apply below_alloc | apply pw_below_drewN | apply below_drew1 | refine below_set ?_ GE115.out) | exact HB.out)) hb); have n2_ := Aside0.mk (hbox); have n3_ := Aside0.mk ((by rw [hg]; exact (below_size (by repeat (first | (with_reducible first | exact HB.out | apply below_alloc | apply pw_below_drewN | apply below_drew1 | refine below_set ?_ GE115.out) | exact HB.out))) : w.heap.size ≤ gb117)); have n4_ := Aside0.mk ((by rw [hg]; exact (below_size (by repeat (first | (with_reducible first | exact HB.out | apply below_alloc | apply pw_below_drewN | apply below_drew1 | refine below_set ?_ GE115.out) | exact HB.out))) : w.heap.size ≤ gb117)); have n5_ := Aside0.mk ((by rw [hg]; exact Nat.ne_of_lt (blk_lt (g := gb115) (o := .cells #[.int .i64 a0_0, .slice (some ad116) l0_1.length c0_1] 24 (0, 0)) (by (with_reducible repeat (first | refine blk_drewN ?_ _ | refine blk_drew ?_ | refine blk_alloc ?_ _)); exact BK115.out)) : gb115 ≠ gb117)); have n6_ := Aside0.mk ((by rw [hg]; exact Nat.ne_of_gt (blk_lt (g := gb115) (o := .cells #[.int .i64 a0_0, .slice (some ad116) l0_1.length c0_1] 24 (0, 0)) (by (with_reducible repeat (first | refine blk_drewN ?_ _ | refine blk_drew ?_ | refine blk_alloc ?_ _)); exact BK115.out)) : gb117 ≠ gb115)); clear BK115; clear HB; have BK115 := n0_; have HB := n1_; have BK117 := n2_; have GW117 := n3_; have GE117 := n4_; have NB115_117 := n5_; have NB117_115 := n6_; clear n0_ n1_ n2_ n3_ n4_ n5_ n6_; clear hb hbox hg; have hnb18 := NB117_115.out; have hnc18 := NB115_117.out; have hcz19_0 : w17.cell? ⟨gb117, 0, none⟩ = some (.slice none 0 0) := (blk_cell BK117.out 0).trans rfl; have hcz19_1 : w17.cell? ⟨gb117, 1, none⟩ = some (.int .i64 0) := (blk_cell BK117.out 1).trans rfl; have hfz19_0 := blk_frozen BK117.out 0; have hfz19_1 := blk_frozen BK117.out 1; have hcz20_0 : w17.cell? ⟨gb115, 0, none⟩ = some (.int .i64 a0_0) := (blk_cell BK115.out 0).trans rfl; have hcz20_1 : w17.cell? ⟨gb115, 1, none⟩ = some (.slice (some ad116) l0_1.length c0_1) := (blk_cell BK115.out 1).trans rfl; have hfz20_0 := blk_frozen BK115.out 0; have hfz20_1 := blk_frozen BK115.out 1))
                    go_ret
                    exact ⟨by first | rfl | (simp [errW_none, errW_some] <;> rfl) | (simp [*, errW_none, errW_some] <;> rfl), by repeat (first | (with_reducible first | exact HB.out | apply below_alloc | apply pw_below_drewN | apply below_drew1 | refine below_set ?_ GE115.out | refine below_set ?_ GE117.out) | exact HB.out)⟩
                · rw [if_neg c11] at H
                  exact absurd H (by simp)
              · rw [if_neg c10] at H
                exact absurd H (by simp)
            · rw [if_neg c9] at H
              have c9b0 : decide (x18_2 < (l0_1.length : Int)) = false := decide_eq_false c9
              clear c9
              by_cases c21 : (l0_1.length : Int) > 192
              · rw [if_pos c21] at H
                have c21b0 : decide (192 < (l0_1.length : Int)) = true := decide_eq_true c21
                have c21b1 : decide (192 < l0_1.length) = true := decide_eq_true (by omega)
                clear c21
                obtain rfl := Option.some.inj H
                have hcz22_0 : wr.cell? ⟨gb115, 0, none⟩ = some (.int .i64 a0_0) := (blk_cell BK115.out 0).trans rfl
                have hcz22_1 : wr.cell? ⟨gb115, 1, none⟩ = some (.slice A0_1 l0_1.length c0_1) := (blk_cell BK115.out 1).trans rfl
                have hfz22_0 := blk_frozen BK115.out 0
                have hfz22_1 := blk_frozen BK115.out 1
                go_wp2
                go_ret
                exact ⟨by first | rfl | (simp [errW_none, errW_some] <;> rfl) | (simp [*, errW_none, errW_some] <;> rfl), by repeat (first | (with_reducible first | exact HB.out | apply below_alloc | apply pw_below_drewN | apply below_drew1 | refine below_set ?_ GE115.out) | exact HB.out)⟩
              · rw [if_neg c21] at H
                have c21b0 : decide (192 < (l0_1.length : Int)) = false := decide_eq_false c21
                have c21b1 : decide (192 < l0_1.length) = false := decide_eq_false (by omega)
                clear c21
                have H' := Aside0.mk H
                clear H
                have hcz23_0 : wr.cell? ⟨gb115, 0, none⟩ = some (.int .i64 a0_0) := (blk_cell BK115.out 0).trans rfl
                have hcz23_1 : wr.cell? ⟨gb115, 1, none⟩ = some (.slice A0_1 l0_1.length c0_1) := (blk_cell BK115.out 1).trans rfl
                have hfz23_0 := blk_frozen BK115.out 0
                have hfz23_1 := blk_frozen BK115.out 1
                go_wp2
                go_loopg [36] k2 (fun kq v36 w' => ∃ (x36_3 : Int), v36 = .int .i64 x36_3 ∧ Aside0 (linear_Validate.l1 kq l0_1 (l0_1.length : Int) x36_3 = some r) ∧ Aside0 (kq ≤ k2) ∧ Aside0 (w'.heap[gb115]? = some (.cells #[.int .i64 a0_0, (.slice A0_1 l0_1.length c0_1)] 24 (0, 0))) ∧ Aside0 (Below w.heap.size w w'))
                case atStart => exact ⟨(0), (by first | rfl | (simp; done) | (simp [*]; done)), H', ⟨Nat.le_refl _⟩, ⟨by (with_reducible repeat (first | refine blk_drewN ?_ _ | refine blk_drew ?_ | refine blk_alloc ?_ _)); exact BK115.out⟩, ⟨by repeat (first | (with_reducible first | exact HB.out | apply below_alloc | apply pw_below_drewN | apply below_drew1 | refine below_set ?_ GE115.out) | exact HB.out)⟩⟩
                case round =>
                  clear H'
                  try clear c1
                  try clear p1
                  try clear q1
                  try clear hx1
                  try clear c2
                  try clear p2
                  try clear c4
                  try clear c4b0
                  try clear p6
                  try clear c7
                  try clear c9
                  try clear c9b0
                  try clear c10
                  try clear c10b0
                  try clear c11
                  try clear c11b0
                  try clear p11
                  try clear q11
                  try clear hx11
                  try clear c12
                  try clear c12b0
                  try clear c12b1
                  try clear c14
                  try clear c18
                  try clear c21
                  try clear c21b0
                  try clear c21b1
                  try clear hcz15_0
                  try clear hcz15_1
                  try clear hcz16_0
                  try clear hcz16_1
                  try clear hcz19_0
                  try clear hcz19_1
                  try clear hcz20_0
                  try clear hcz20_1
                  try clear hcz22_0
                  try clear hcz22_1
                  try clear hcz23_0
                  try clear hcz23_1
                  try clear hcz5_0
                  try clear hcz5_1
                  try clear hcz6_0
                  try clear hcz6_1
                  try clear hcz8_0
                  try clear hcz8_1
                  try clear hfz15_0
                  try clear hfz15_1
                  try clear hfz16_0
                  try clear hfz16_1
                  try clear hfz19_0
                  try clear hfz19_1
                  try clear hfz20_0
                  try clear hfz20_1
                  try clear hfz22_0
                  try clear hfz22_1
                  try clear hfz23_0
                  try clear hfz23_1
                  try clear hfz5_0
                  try clear hfz5_1
                  try clear hfz6_0
                  try clear hfz6_1
                  try clear hfz8_0
                  try clear hfz8_1
                  try clear hx116_0
                  try clear hx116_1
                  try clear p116
                  try clear p2
                  try clear q116
                  obtain ⟨x36_3, rfl, HA, HK3, BK115, HB⟩ := hrel
                  cases gk with
                  | zero => exact absurd HA.out (by simp [linear_Validate.l1])
                  | succ k3 =>
                    have H := HA.out
                    clear HA
                    simp only [linear_Validate.l1] at H
                    by_cases c24 : x36_3 < (l0_1.length : Int)
                    · rw [if_pos c24] at H
                      have c24b0 : decide (x36_3 < (l0_1.length : Int)) = true := decide_eq_true c24
                      clear c24
                      by_cases c25 : 0 ≤ x36_3
                      · rw [if_pos c25] at H
                        have c25b0 : decide (0 ≤ x36_3) = true := decide_eq_true c25
                        clear c25
                        by_cases c26 : x36_3 < (l0_1.length : Int)
                        · rw [if_pos c26] at H
                          have c26b0 : decide (x36_3 < (l0_1.length : Int)) = true := decide_eq_true c26
                          clear c26
                          replace H := Option.bind_eq_some_iff.mp H
                          obtain ⟨t120, A270, H⟩ := H
                          replace H : (if t120 = true then (linear_Validate.l1 k3 l0_1 (l0_1.length : Int) (wrap64 (x36_3 + 1))) else (some 4)) = some r := H
                          have A27 := Aside0.mk A270
                          clear A270
                          by_cases c28 : t120 = true
                          · subst c28
                            have H1 : (linear_Validate.l1 k3 l0_1 (l0_1.length : Int) (wrap64 (x36_3 + 1))) = some r := by rw [if_pos rfl] at H; exact H
                            clear H
                            have H := H1
                            clear H1
                            have H' := Aside0.mk H
                            clear H
                            have p118 : 0 ≤ (x36_3 : Int) := of_decide_eq_true (by first | (with_reducible assumption) | assumption)
                            have q118 : x36_3 < (l0_1.length : Int) := of_decide_eq_true (by first | (with_reducible assumption) | assumption)
                            obtain ⟨ad118, A118_0, c118_0, e118, hx118_0, hx118_1, hl118_0, hi118_0⟩ := at_T33 HR0_1.out x36_3 p118 q118
                            cases e118
                            replace hx118_0 := (HB.out.cell (World.block_lt_of_cell? w _ hx118_0)).trans hx118_0
                            replace hx118_1 := (HB.out.cell (World.block_lt_of_cell? w _ hx118_1)).trans hx118_1
                            have HR118_0 := Aside0.mk hi118_0
                            have HC118_0 := Aside0.mk hl118_0
                            clear hi118_0 hl118_0
                            replace p118 := eq_true p118
                            replace q118 := eq_true q118
                            go_wp2_with (first | ((with_reducible refine gate_dst (N := 6) rfl ?_); refine box_event ?hg (N := 6) ?hd (cs := #[.slice none 0 0, .int .i64 0]) (t := 33) ?hr ?_; (case hd => rfl); (case hg => rfl); (case hr => first | (go_simp; done) | (go_simp; rfl)); intro gb119 hg w29 hbox hb; have n0_ := Aside0.mk (blk_below (g := gb115) (o := .cells #[.int .i64 a0_0, .slice (some ad118) l0_1.length c0_1] 24 (0, 0)) (by (with_reducible repeat (first | refine blk_drewN ?_ _ | refine blk_drew ?_ | refine blk_alloc ?_ _)); exact BK115.out) hb); have n1_ := Aside0.mk (below_step (by repeat (first | (with_reducible first | exact HB.out | apply below_alloc | apply pw_below_drewN | apply below_drew1 | refine below_set ?_ GE115.out) | exact HB.out)) hb); have n2_ := Aside0.mk (hbox); have n3_ := Aside0.mk ((by rw [hg]; exact (below_size (by repeat (first | (with_reducible first | exact HB.out | apply below_alloc | apply pw_below_drewN | apply below_drew1 | refine below_set ?_ GE115.out) | exact HB.out))) : w.heap.size ≤ gb119)); have n4_ := Aside0.mk ((by rw [hg]; exact (below_size (by repeat (first | (with_reducible first | exact HB.out | apply below_alloc | apply pw_below_drewN | apply below_drew1 | refine below_set ?_ GE115.out) | exact HB.out))) : w.heap.size ≤ gb119)); have n5_ := Aside0.mk ((by rw [hg]; exact Nat.ne_of_lt (blk_lt (g := gb115) (o := .cells #[.int .i64 a0_0, .slice (some ad118) l0_1.length c0_1] 24 (0, 0)) (by (with_reducible repeat (first | refine blk_drewN ?_ _ | refine blk_drew ?_ | refine blk_alloc ?_ _)); exact BK115.out)) : gb115 ≠ gb119)); have n6_ := Aside0.mk ((by rw [hg]; exact Nat.ne_of_gt (blk_lt (g := gb115) (o := .cells #[.int .i64 a0_0, .slice (some ad118) l0_1.length c0_1] 24 (0, 0)) (by (with_reducible repeat (first | refine blk_drewN ?_ _ | refine blk_drew ?_ | refine blk_alloc ?_ _)); exact BK115.out)) : gb119 ≠ gb115)); clear BK115; clear HB; have BK115 := n0_; have HB := n1_; have BK119 := n2_; have GW119 := n3_; have GE119 := n4_; have NB115_119 := n5_; have NB119_115 := n6_; clear n0_ n1_ n2_ n3_ n4_ n5_ n6_; clear hb hbox hg; have hnb30 := NB119_115.out; have hnc30 := NB115_119.out; have hcz31_0 : w29.cell? ⟨gb119, 0, none⟩ = some (.slice none 0 0) := (blk_cell BK119.out 0).trans rfl; have hcz31_1 : w29.cell? ⟨gb119, 1, none⟩ = some (.int .i64 0) := (blk_cell BK119.out 1).trans rfl; have hfz31_0 := blk_frozen BK119.out 0; have hfz31_1 := blk_frozen BK119.out 1) | ((with_reducible refine gate_callee (f := 49) rfl ?_); refine goesL_ (some 41) rfl rfl Tryd.func49 (by kernel_rfl) rfl #[.agg #[.slice A118_0 ((rd_T33 l0_1 x36_3).f0).length c118_0, .int .i64 ((rd_T33 l0_1 x36_3).f1)]] rfl (by (try simp only [List.map_toArray, List.map_cons, List.map_nil]); first | done | rfl | (simp only [List.length_drop, List.length_take]; rfl)) ?_; (with_reducible refine (linear_small.calls k3 _ _ ((rd_T33 l0_1 x36_3).f0) ((rd_T33 l0_1 x36_3).f1) true _ ?side1 ?side2 A27.out).mono ?_); (case side1 => exact Kd.C_below HR118_0.out (by repeat (first | (with_reducible first | exact HB.out | apply below_alloc | apply pw_below_drewN | apply below_drew1 | refine below_set ?_ GE115.out | refine below_set ?_ GE119.out) | exact HB.out))); (case side2 => exact HC118_0.out); rintro e w32 ⟨rfl, hb⟩; refine ⟨_, rfl, ?_⟩; have n0_ := Aside0.mk (blk_below (g := gb115) (o := .cells #[.int .i64 a0_0, .slice (some ad118) l0_1.length c0_1] 24 (0, 0)) (by (with_reducible repeat (first | refine blk_drewN ?_ _ | refine blk_drew ?_ | refine blk_alloc ?_ _)); refine blk_far ?_ NB115_119.out _; (with_reducible repeat (first | refine blk_drewN ?_ _ | refine blk_drew ?_ | refine blk_alloc ?_ _)); refine blk_far ?_ NB115_119.out _; (with_reducible repeat (first | refine blk_drewN ?_ _ | refine blk_drew ?_ | refine blk_alloc ?_ _)); exact BK115.out) hb); have n1_ := Aside0.mk (blk_below (g := gb119) (o := .cells #[.slice A118_0 ((rd_T33 l0_1 x36_3).f0).length c118_0, .int .i64 ((rd_T33 l0_1 x36_3).f1)] 33 (0, 0)) (by (with_reducible repeat (first | refine blk_drewN ?_ _ | refine blk_drew ?_ | refine blk_alloc ?_ _)); refine blk_put (cs := #[.slice A118_0 ((rd_T33 l0_1 x36_3).f0).length c118_0, .int .i64 0]) ?_ 1 _ rfl; (with_reducible repeat (first | refine blk_drewN ?_ _ | refine blk_drew ?_ | refine blk_alloc ?_ _)); refine blk_put (cs := #[.slice none 0 0, .int .i64 0]) ?_ 0 _ rfl; (with_reducible repeat (first | refine blk_drewN ?_ _ | refine blk_drew ?_ | refine blk_alloc ?_ _)); exact BK119.out) hb); have n2_ := Aside0.mk (below_step (by repeat (first | (with_reducible first | exact HB.out | apply below_alloc | apply pw_below_drewN | apply below_drew1 | refine below_set ?_ GE115.out | refine below_set ?_ GE119.out) | exact HB.out)) hb); clear BK115; clear BK119; clear HB; have BK115 := n0_; have BK119 := n1_; have HB := n2_; clear n0_ n1_ n2_; (try clear hb); (try clear hb2); (try clear hk); (try clear hi)))
                            go_roundg k3
                            case measure => have := HJ1.out; have := HK2.out; have := HK3.out; omega
                            case rel => exact ⟨(wrap64 (x36_3 + 1)), (by first | rfl | (simp; done) | (simp [*]; done)), H', ⟨by have := HJ1.out; have := HK2.out; have := HK3.out; omega⟩, ⟨by (with_reducible repeat (first | refine blk_drewN ?_ _ | refine blk_drew ?_ | refine blk_alloc ?_ _)); exact BK115.out⟩, ⟨by repeat (first | (with_reducible first | exact HB.out | apply below_alloc | apply pw_below_drewN | apply below_drew1 | refine below_set ?_ GE115.out | refine below_set ?_ GE119.out) | exact HB.out)⟩⟩
                          · replace c28 := Bool.eq_false_iff.mpr c28
                            subst c28
                            have H1 : (some 4) = some r := by rw [if_neg (show ¬ (false = true) by decide)] at H; exact H
                            clear H
                            have H := H1
                            clear H1
                            obtain rfl := Option.some.inj H
                            have p118 : 0 ≤ (x36_3 : Int) := of_decide_eq_true (by first | (with_reducible assumption) | assumption)
                            have q118 : x36_3 < (l0_1.length : Int) := of_decide_eq_true (by first | (with_reducible assumption) | assumption)
                            obtain ⟨ad118, A118_0, c118_0, e118, hx118_0, hx118_1, hl118_0, hi118_0⟩ := at_T33 HR0_1.out x36_3 p118 q118
                            cases e118
                            replace hx118_0 := (HB.out.cell (World.block_lt_of_cell? w _ hx118_0)).trans hx118_0
                            replace hx118_1 := (HB.out.cell (World.block_lt_of_cell? w _ hx118_1)).trans hx118_1
                            have HR118_0 := Aside0.mk hi118_0
                            have HC118_0 := Aside0.mk hl118_0
                            clear hi118_0 hl118_0
                            replace p118 := eq_true p118
                            replace q118 := eq_true q118
                            go_wp2_with (first | ((with_reducible refine gate_dst (N := 6) rfl ?_); refine box_event ?hg (N := 6) ?hd (cs := #[.slice none 0 0, .int .i64 0]) (t := 33) ?hr ?_; (case hd => rfl); (case hg => rfl); (case hr => first | (go_simp; done) | (go_simp; rfl)); intro gb119 hg w33 hbox hb; have n0_ := Aside0.mk (blk_below (g := gb115) (o := .cells #[.int .i64 a0_0, .slice (some ad118) l0_1.length c0_1] 24 (0, 0)) (by (with_reducible repeat (first | refine blk_drewN ?_ _ | refine blk_drew ?_ | refine blk_alloc ?_ _)); exact BK115.out) hb); have n1_ := Aside0.mk (below_step (by repeat (first | (with_reducible first | exact HB.out | apply below_alloc | apply pw_below_drewN | apply below_drew1 | refine below_set ?_ GE115.out) | exact HB.out)) hb); have n2_ := Aside0.mk (hbox); have n3_ := Aside0.mk ((by rw [hg]; exact (below_size (by repeat (first | (with_reducible first | exact HB.out | apply below_alloc | apply pw_below_drewN | apply below_drew1 | refine below_set ?_ GE115.out) | exact HB.out))) : w.heap.size ≤ gb119)); have n4_ := Aside0.mk ((by rw [hg]; exact (below_size (by repeat (first | (with_reducible first | exact HB.out | apply below_alloc | apply pw_below_drewN | apply below_drew1 | refine below_set ?_ GE115.out) | exact HB.out))) : w.heap.size ≤ gb119)); have n5_ := Aside0.mk ((by rw [hg]; exact Nat.ne_of_lt (blk_lt (g := gb115) (o := .cells #[.int .i64 a0_0, .slice (some ad118) l0_1.length c0_1] 24 (0, 0)) (by (with_reducible repeat (first | refine blk_drewN ?_ _ | refine blk_drew ?_ | refine blk_alloc ?_ _)); exact BK115.out)) : gb115 ≠ gb119)); have n6_ := Aside0.mk ((by rw [hg]; exact Nat.ne_of_gt (blk_lt (g := gb115) (o := .cells #[.int .i64 a0_0, .slice (some ad118) l0_1.length c0_1] 24 (0, 0)) (by (with_reducible repeat (first | refine blk_drewN ?_ _ | refine blk_drew ?_ | refine blk_alloc ?_ _)); exact BK115.out)) : gb119 ≠ gb115)); clear BK115; clear HB; have BK115 := n0_; have HB := n1_; have BK119 := n2_; have GW119 := n3_; have GE119 := n4_; have NB115_119 := n5_; have NB119_115 := n6_; clear n0_ n1_ n2_ n3_ n4_ n5_ n6_; clear hb hbox hg; have hnb34 := NB119_115.out; have hnc34 := NB115_119.out; have hcz35_0 : w33.cell? ⟨gb119, 0, none⟩ = some (.slice none 0 0) := (blk_cell BK119.out 0).trans rfl; have hcz35_1 : w33.cell? ⟨gb119, 1, none⟩ = some (.int .i64 0) := (blk_cell BK119.out 1).trans rfl; have hfz35_0 := blk_frozen BK119.out 0; have hfz35_1 := blk_frozen BK119.out 1) | ((with_reducible refine gate_callee (f := 49) rfl ?_); refine goesL_ (some 41) rfl rfl Tryd.func49 (by kernel_rfl) rfl #[.agg #[.slice A118_0 ((rd_T33 l0_1 x36_3).f0).length c118_0, .int .i64 ((rd_T33 l0_1 x36_3).f1)]] rfl (by (try simp only [List.map_toArray, List.map_cons, List.map_nil]); first | done | rfl | (simp only [List.length_drop, List.length_take]; rfl)) ?_; (with_reducible refine (linear_small.calls k3 _ _ ((rd_T33 l0_1 x36_3).f0) ((rd_T33 l0_1 x36_3).f1) false _ ?side1 ?side2 A27.out).mono ?_); (case side1 => exact Kd.C_below HR118_0.out (by repeat (first | (with_reducible first | exact HB.out | apply below_alloc | apply pw_below_drewN | apply below_drew1 | refine below_set ?_ GE115.out | refine below_set ?_ GE119.out) | exact HB.out))); (case side2 => exact HC118_0.out); rintro e w36 ⟨rfl, hb⟩; refine ⟨_, rfl, ?_⟩; have n0_ := Aside0.mk (blk_below (g := gb115) (o := .cells #[.int .i64 a0_0, .slice (some ad118) l0_1.length c0_1] 24 (0, 0)) (by (with_reducible repeat (first | refine blk_drewN ?_ _ | refine blk_drew ?_ | refine blk_alloc ?_ _)); refine blk_far ?_ NB115_119.out _; (with_reducible repeat (first | refine blk_drewN ?_ _ | refine blk_drew ?_ | refine blk_alloc ?_ _)); refine blk_far ?_ NB115_119.out _; (with_reducible repeat (first | refine blk_drewN ?_ _ | refine blk_drew ?_ | refine blk_alloc ?_ _)); exact BK115.out) hb); have n1_ := Aside0.mk (blk_below (g := gb119) (o := .cells #[.slice A118_0 ((rd_T33 l0_1 x36_3).f0).length c118_0, .int .i64 ((rd_T33 l0_1 x36_3).f1)] 33 (0, 0)) (by (with_reducible repeat (first | refine blk_drewN ?_ _ | refine blk_drew ?_ | refine blk_alloc ?_ _)); refine blk_put (cs := #[.slice A118_0 ((rd_T33 l0_1 x36_3).f0).length c118_0, .int .i64 0]) ?_ 1 _ rfl; (with_reducible repeat (first | refine blk_drewN ?_ _ | refine blk_drew ?_ | refine blk_alloc ?_ _)); refine blk_put (cs := #[.slice none 0 0, .int .i64 0]) ?_ 0 _ rfl; (with_reducible repeat (first | refine blk_drewN ?_ _ | refine blk_drew ?_ | refine blk_alloc ?_ _)); exact BK119.out) hb); have n2_ := Aside0.mk (below_step (by repeat (first | (with_reducible first | exact HB.out | apply below_alloc | apply pw_below_drewN | apply below_drew1 | refine below_set ?_ GE115.out | refine below_set ?_ GE119.out) | exact HB.out)) hb); clear BK115; clear BK119; clear HB; have BK115 := n0_; have BK119 := n1_; have HB := n2_; clear n0_ n1_ n2_; (try clear hb); (try clear hb2); (try clear hk); (try clear hi)))
                            go_ret
                            exact ⟨by first | rfl | (simp [errW_none, errW_some] <;> rfl) | (simp [*, errW_none, errW_some] <;> rfl), by repeat (first | (with_reducible first | exact HB.out | apply below_alloc | apply pw_below_drewN | apply below_drew1 | refine below_set ?_ GE115.out | refine below_set ?_ GE119.out) | exact HB.out)⟩
                        · rw [if_neg c26] at H
                          exact absurd H (by simp)
                      · rw [if_neg c25] at H
                        exact absurd H (by simp)
                    · rw [if_neg c24] at H
                      have c24b0 : decide (x36_3 < (l0_1.length : Int)) = false := decide_eq_false c24
                      clear c24
                      obtain rfl := Option.some.inj H
                      go_wp2
                      go_ret
                      exact ⟨by first | rfl | (simp [errW_none, errW_some] <;> rfl) | (simp [*, errW_none, errW_some] <;> rfl), by repeat (first | (with_reducible first | exact HB.out | apply below_alloc | apply pw_below_drewN | apply below_drew1 | refine below_set ?_ GE115.out) | exact HB.out)⟩

end Go.Proofs.YtbioiodjdfcooaaDoor.P
