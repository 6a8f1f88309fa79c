-- Written by a program of this session (wip/tools/doprint.sh: the kit's print, with given texts for some functions).
import Derived.Test.YtbioiodjdfcooaaDoorPx0
import Derived.Test.YtbioiodjdfcooaaDoorPx8
namespace Go.Proofs.YtbioiodjdfcooaaDoor.P
open Go.RowKit Go.Proofs.YtbioiodjdfcooaaDoorW.PrintWords Go.Proofs.YtbioiodjdfcooaaDoorW.PrintLast Go.Proofs.YtbioiodjdfcooaaDoorW.PrintMore
attribute [local go_sem] max2_int min2_int max_two min_two max_three min_three max_four min_four   -- for this text's walks alone
set_option linter.unusedVariables false
set_option linter.unusedSimpArgs false

/-! ### familycheckref01_isPoint: function 53 -/
def familycheckref01_isPoint.l0 : Nat → List Int → Int → Option (Bool)
  | 0, _, _ => none
  | k + 1, x0, x3 => if x3 < (x0.length : Int) then (if 0 ≤ x3 then ((familycheckref01_within.f (rd x0 x3) 0 1048576).bind fun t225 => (if t225 = true then (familycheckref01_isPoint.l0 k x0 (wrap64 (x3 + 1))) else (some false))) else (none)) else (some true)
def familycheckref01_isPoint.f (k : Nat) (l0 : List Int) : Option (Bool) := familycheckref01_isPoint.l0 k l0 0
theorem familycheckref01_isPoint.mono_l : ∀ k, (∀ y0 y1, LeO (familycheckref01_isPoint.l0 k y0 y1) (familycheckref01_isPoint.l0 (k + 1) y0 y1))
  | 0 => fun _ _ r h => by simp [familycheckref01_isPoint.l0] at h
  | k + 1 => by
    have ih0 := familycheckref01_isPoint.mono_l k
    · intro y0 y1
      unfold familycheckref01_isPoint.l0
      repeat' first
      | (with_reducible exact ih0 _ _)
      | (with_reducible exact LeO.refl _)
      | (with_reducible exact LeO.none _)
      | (with_reducible refine LeO.ite ?_ ?_)
      | (with_reducible refine LeO.bind ?_ (fun _ => ?_))
      | exact ih0 _ _
      | exact LeO.none _
      | refine LeO.ite ?_ ?_
      | refine LeO.bind ?_ (fun _ => ?_)
theorem familycheckref01_isPoint.mono : ∀ a0 k, LeO (familycheckref01_isPoint.f k a0) (familycheckref01_isPoint.f (k + 1) a0) := by
  intro a0 k
  have ih0 := familycheckref01_isPoint.mono_l k
  unfold familycheckref01_isPoint.f
  repeat' first
      | (with_reducible exact ih0 _ _)
      | (with_reducible exact LeO.refl _)
      | (with_reducible exact LeO.none _)
      | (with_reducible refine LeO.ite ?_ ?_)
      | (with_reducible refine LeO.bind ?_ (fun _ => ?_))
      | exact ih0 _ _
      | exact LeO.none _
      | refine LeO.ite ?_ ?_
      | refine LeO.bind ?_ (fun _ => ?_)
set_option maxHeartbeats 8000000 in
set_option maxRecDepth 100000 in
theorem familycheckref01_isPoint.calls (k : Nat) (A0 : Option Addr) (c0 : Nat) (l0 : List Int) (r : Bool) (w : World) (hr0 : Kd.C (Kd.int .i64) w A0 l0.length l0) (hc0 : l0.length ≤ c0) (h : familycheckref01_isPoint.f k l0 = some r) :
    Calls Tryd.prog 53 #[.slice A0 l0.length c0] w fun e w' => e = .returned (.bool r) ∧ Drawn0 w w' := by
  have HR0 := Aside0.mk hr0
  have HC0 := Aside0.mk hc0
  clear hr0 hc0
  have H : (familycheckref01_isPoint.l0 k l0 0) = some r := h
  clear h
  have H' := Aside0.mk H
  clear H
  go_enter Tryd.func53, Tryd.ntmps53
  go_wp2
  go_loopg [3] k (fun kq v3 w' => ∃ (x3_1 : Int), v3 = .int .i64 x3_1 ∧ Aside0 (familycheckref01_isPoint.l0 kq l0 x3_1 = some r) ∧ Aside0 (kq ≤ k) ∧ Drawn0 w w')
  case atStart => exact ⟨(0), (by first | rfl | (simp; done) | (simp [*]; done)), H', ⟨Nat.le_refl _⟩, by repeat (first | exact Drawn0.refl _ | apply Drawn0.step)⟩
  case round =>
    clear H'
    obtain ⟨x3_1, rfl, HA, HK1, ⟨m1, rfl⟩⟩ := hrel
    cases gk with
    | zero => exact absurd HA.out (by simp [familycheckref01_isPoint.l0])
    | succ k1 =>
      have H := HA.out
      clear HA
      simp only [familycheckref01_isPoint.l0] at H
      by_cases c2 : x3_1 < (l0.length : Int)
      · rw [if_pos c2] at H
        have c2b0 : decide (x3_1 < (l0.length : Int)) = true := decide_eq_true c2
        clear c2
        by_cases c3 : 0 ≤ x3_1
        · rw [if_pos c3] at H
          have c3b0 : decide (0 ≤ x3_1) = true := decide_eq_true c3
          clear c3
          replace H := Option.bind_eq_some_iff.mp H
          obtain ⟨t225, A40, H⟩ := H
          replace H : (if t225 = true then (familycheckref01_isPoint.l0 k1 l0 (wrap64 (x3_1 + 1))) else (some false)) = some r := H
          have A4 := Aside0.mk A40
          clear A40
          by_cases c5 : t225 = true
          · subst c5
            have H1 : (familycheckref01_isPoint.l0 k1 l0 (wrap64 (x3_1 + 1))) = some r := by rw [if_pos rfl] at H; exact H
            clear H
            have H := H1
            clear H1
            have H' := Aside0.mk H
            clear H
            have p224 : 0 ≤ (x3_1 : Int) := of_decide_eq_true (by first | (with_reducible assumption) | assumption)
            have q224 : x3_1 < (l0.length : Int) := of_decide_eq_true (by first | (with_reducible assumption) | assumption)
            obtain ⟨ad224, e224, hx224_0⟩ := Kd.at_int HR0.out x3_1 p224 q224
            cases e224
            replace p224 := eq_true p224
            replace q224 := eq_true q224
            go_wp2_with (first | ((with_reducible refine gate_callee (f := 50) rfl ?_); refine goesL_ (some 14) rfl rfl Tryd.func50 (by kernel_rfl) rfl #[.int .i64 (rd l0 x3_1), .int .i64 0, .int .i64 1048576] rfl (by (try simp only [List.map_toArray, List.map_cons, List.map_nil]); first | done | rfl | (simp only [List.length_drop, List.length_take]; rfl)) ?_; (with_reducible refine (familycheckref01_within.calls (rd l0 x3_1) 0 1048576 true _ A4.out).mono ?_); rintro e w' ⟨rfl, ⟨nd, rfl⟩⟩; refine ⟨_, rfl, ?_⟩))
            go_roundg k1
            case measure => have := HK1.out; omega
            case rel => exact ⟨(wrap64 (x3_1 + 1)), (by first | rfl | (simp; done) | (simp [*]; done)), H', ⟨by have := HK1.out; omega⟩, by repeat (first | exact Drawn0.refl _ | apply Drawn0.step)⟩
          · replace c5 := Bool.eq_false_iff.mpr c5
            subst c5
            have H1 : (some false) = some r := by rw [if_neg (show ¬ (false = true) by decide)] at H; exact H
            clear H
            have H := H1
            clear H1
            obtain rfl := Option.some.inj H
            have p224 : 0 ≤ (x3_1 : Int) := of_decide_eq_true (by first | (with_reducible assumption) | assumption)
            have q224 : x3_1 < (l0.length : Int) := of_decide_eq_true (by first | (with_reducible assumption) | assumption)
            obtain ⟨ad224, e224, hx224_0⟩ := Kd.at_int HR0.out x3_1 p224 q224
            cases e224
            replace p224 := eq_true p224
            replace q224 := eq_true q224
            go_wp2_with (first | ((with_reducible refine gate_callee (f := 50) rfl ?_); refine goesL_ (some 14) rfl rfl Tryd.func50 (by kernel_rfl) rfl #[.int .i64 (rd l0 x3_1), .int .i64 0, .int .i64 1048576] rfl (by (try simp only [List.map_toArray, List.map_cons, List.map_nil]); first | done | rfl | (simp only [List.length_drop, List.length_take]; rfl)) ?_; (with_reducible refine (familycheckref01_within.calls (rd l0 x3_1) 0 1048576 false _ A4.out).mono ?_); rintro e w' ⟨rfl, ⟨nd, rfl⟩⟩; refine ⟨_, rfl, ?_⟩))
            go_ret
            exact ⟨by first | rfl | (simp; done) | (simp [*]; done), by repeat (first | exact Drawn0.refl _ | apply Drawn0.step)⟩
        · rw [if_neg c3] at H
          exact absurd H (by simp)
      · rw [if_neg c2] at H
        have c2b0 : decide (x3_1 < (l0.length : Int)) = false := decide_eq_false c2
        clear c2
        obtain rfl := Option.some.inj H
        go_wp2
        go_ret
        exact ⟨by first | rfl | (simp; done) | (simp [*]; done), by repeat (first | exact Drawn0.refl _ | apply Drawn0.step)⟩

/-! ### familycheckref01_left: function 54 -/
def familycheckref01_left.l0 : Nat → List Int → Int → Int → List Int → Int → Option (Int)
  | 0, _, _, _, _, _ => none
  | k + 1, x1, x5, x6, x227000, x227001 => if x6 < (x227000.length : Int) then (if 0 ≤ x6 then (if x6 < (x1.length : Int) then (familycheckref01_left.l0 k x1 (wrap64 (x5 + (wrap64 ((rd x227000 x6) * (rd x1 x6))))) (wrap64 (x6 + 1)) x227000 x227001) else (none)) else (none)) else (some x5)
def familycheckref01_left.f (k : Nat) (l0_0 : List Int) (a0_1 : Int) (l1 : List Int) : Option (Int) := familycheckref01_left.l0 k l1 a0_1 0 l0_0 a0_1
theorem familycheckref01_left.mono_l : ∀ k, (∀ y0 y1 y2 y3 y4, LeO (familycheckref01_left.l0 k y0 y1 y2 y3 y4) (familycheckref01_left.l0 (k + 1) y0 y1 y2 y3 y4))
  | 0 => fun _ _ _ _ _ r h => by simp [familycheckref01_left.l0] at h
  | k + 1 => by
    have ih0 := familycheckref01_left.mono_l k
    · intro y0 y1 y2 y3 y4
      unfold familycheckref01_left.l0
      repeat' first
      | (with_reducible exact ih0 _ _ _ _ _)
      | (with_reducible exact LeO.refl _)
      | (with_reducible exact LeO.none _)
      | (with_reducible refine LeO.ite ?_ ?_)
      | (with_reducible refine LeO.bind ?_ (fun _ => ?_))
      | exact ih0 _ _ _ _ _
      | exact LeO.none _
      | refine LeO.ite ?_ ?_
      | refine LeO.bind ?_ (fun _ => ?_)
theorem familycheckref01_left.mono : ∀ a0 a1 a2 k, LeO (familycheckref01_left.f k a0 a1 a2) (familycheckref01_left.f (k + 1) a0 a1 a2) := by
  intro a0 a1 a2 k
  have ih0 := familycheckref01_left.mono_l k
  unfold familycheckref01_left.f
  repeat' first
      | (with_reducible exact ih0 _ _ _ _ _)
      | (with_reducible exact LeO.refl _)
      | (with_reducible exact LeO.none _)
      | (with_reducible refine LeO.ite ?_ ?_)
      | (with_reducible refine LeO.bind ?_ (fun _ => ?_))
      | exact ih0 _ _ _ _ _
      | exact LeO.none _
      | refine LeO.ite ?_ ?_
      | refine LeO.bind ?_ (fun _ => ?_)
set_option maxHeartbeats 8000000 in
set_option maxRecDepth 100000 in
theorem familycheckref01_left.calls (k : Nat) (A0_0 : Option Addr) (c0_0 : Nat) (l0_0 : List Int) (a0_1 : Int) (A1 : Option Addr) (c1 : Nat) (l1 : List Int) (r : Int) (w : World) (hr0_0 : Kd.C (Kd.int .i64) w A0_0 l0_0.length l0_0) (hc0_0 : l0_0.length ≤ c0_0) (hr1 : Kd.C (Kd.int .i64) w A1 l1.length l1) (hc1 : l1.length ≤ c1) (h : familycheckref01_left.f k l0_0 a0_1 l1 = some r) :
    Calls Tryd.prog 54 #[.agg #[.slice A0_0 l0_0.length c0_0, .int .i64 a0_1], .slice A1 l1.length c1] w fun e w' => e = .returned (.int .i64 r) ∧ Below w.heap.size w w' := by
  have hu33 := Tryd.underlying33
  have HR0_0 := Aside0.mk hr0_0
  have HC0_0 := Aside0.mk hc0_0
  clear hr0_0 hc0_0
  have HR1 := Aside0.mk hr1
  have HC1 := Aside0.mk hc1
  clear hr1 hc1
  have HB := Aside0.mk (Below.refl w.heap.size w)
  have H : (familycheckref01_left.l0 k l1 a0_1 0 l0_0 a0_1) = some r := h
  clear h
  have H' := Aside0.mk H
  clear H
  go_enter Tryd.func54, Tryd.ntmps54
  go_wp2_with (first | ((with_reducible refine gate_dst (N := 2) rfl ?_); refine box_event ?hg (N := 2) ?hd (cs := #[.slice A0_0 l0_0.length c0_0, .int .i64 a0_1]) (t := 33) ?hr ?_; (case hd => rfl); (case hg => rfl); (case hr => first | (go_simp; done) | (go_simp; rfl)); intro gb226 hg w3 hbox hb; have n0_ := Aside0.mk (below_step (by repeat (first | (with_reducible first | exact HB.out | apply below_alloc | apply pw_below_drewN | apply below_drew1) | exact HB.out)) hb); have n1_ := Aside0.mk (hbox); have n2_ := Aside0.mk ((by rw [hg]; exact (below_size (by repeat (first | (with_reducible first | exact HB.out | apply below_alloc | apply pw_below_drewN | apply below_drew1) | exact HB.out))) : w.heap.size ≤ gb226)); have n3_ := Aside0.mk ((by rw [hg]; exact (below_size (by repeat (first | (with_reducible first | exact HB.out | apply below_alloc | apply pw_below_drewN | apply below_drew1) | exact HB.out))) : w.heap.size ≤ gb226)); clear HB; have HB := n0_; have BK226 := n1_; have GW226 := n2_; have GE226 := n3_; clear n0_ n1_ n2_ n3_; clear hb hbox hg; have hcz4_0 : w3.cell? ⟨gb226, 0, none⟩ = some (.slice A0_0 l0_0.length c0_0) := (blk_cell BK226.out 0).trans rfl; have hcz4_1 : w3.cell? ⟨gb226, 1, none⟩ = some (.int .i64 a0_1) := (blk_cell BK226.out 1).trans rfl; have hfz4_0 := blk_frozen BK226.out 0; have hfz4_1 := blk_frozen BK226.out 1))
  repeat (go_quiet (first | ((with_reducible refine gate_dst (N := 2) rfl ?_); refine box_event ?hg (N := 2) ?hd (cs := #[.slice A0_0 l0_0.length c0_0, .int .i64 a0_1]) (t := 33) ?hr ?_; (case hd => rfl); (case hg => rfl); (case hr => first | (go_simp; done) | (go_simp; rfl)); intro gb226 hg w3 hbox hb; have n0_ := Aside0.mk (below_step (by repeat (first | (with_reducible first | exact HB.out | apply below_alloc | apply pw_below_drewN | apply below_drew1) | exact HB.out)) hb); have n1_ := Aside0.mk (hbox); have n2_ := Aside0.mk ((by rw [hg]; exact (below_size (by repeat (first | (with_reducible first | exact HB.out | apply below_alloc | apply pw_below_drewN | apply below_drew1) | exact HB.out))) : w.heap.size ≤ gb226)); have n3_ := Aside0.mk ((by rw [hg]; exact (below_size (by repeat (first | (with_reducible first | exact HB.out | apply below_alloc | apply pw_below_drewN | apply below_drew1) | exact HB.out))) : w.heap.size ≤ gb226)); clear HB; have HB := n0_; have BK226 := n1_; have GW226 := n2_; have GE226 := n3_; clear n0_ n1_ n2_ n3_; clear hb hbox hg; have hcz4_0 : w3.cell? ⟨gb226, 0, none⟩ = some (.slice A0_0 l0_0.length c0_0) := (blk_cell BK226.out 0).trans rfl; have hcz4_1 : w3.cell? ⟨gb226, 1, none⟩ = some (.int .i64 a0_1) := (blk_cell BK226.out 1).trans rfl; have hfz4_0 := blk_frozen BK226.out 0; have hfz4_1 := blk_frozen BK226.out 1)); try go_wp2_with (first | ((with_reducible refine gate_dst (N := 2) rfl ?_); refine box_event ?hg (N := 2) ?hd (cs := #[.slice A0_0 l0_0.length c0_0, .int .i64 a0_1]) (t := 33) ?hr ?_; (case hd => rfl); (case hg => rfl); (case hr => first | (go_simp; done) | (go_simp; rfl)); intro gb226 hg w3 hbox hb; have n0_ := Aside0.mk (below_step (by repeat (first | (with_reducible first | exact HB.out | apply below_alloc | apply pw_below_drewN | apply below_drew1) | exact HB.out)) hb); have n1_ := Aside0.mk (hbox); have n2_ := Aside0.mk ((by rw [hg]; exact (below_size (by repeat (first | (with_reducible first | exact HB.out | apply below_alloc | apply pw_below_drewN | apply below_drew1) | exact HB.out))) : w.heap.size ≤ gb226)); have n3_ := Aside0.mk ((by rw [hg]; exact (below_size (by repeat (first | (with_reducible first | exact HB.out | apply below_alloc | apply pw_below_drewN | apply below_drew1) | exact HB.out))) : w.heap.size ≤ gb226)); clear HB; have HB := n0_; have BK226 := n1_; have GW226 := n2_; have GE226 := n3_; clear n0_ n1_ n2_ n3_; clear hb hbox hg; have hcz4_0 : w3.cell? ⟨gb226, 0, none⟩ = some (.slice A0_0 l0_0.length c0_0) := (blk_cell BK226.out 0).trans rfl; have hcz4_1 : w3.cell? ⟨gb226, 1, none⟩ = some (.int .i64 a0_1) := (blk_cell BK226.out 1).trans rfl; have hfz4_0 := blk_frozen BK226.out 0; have hfz4_1 := blk_frozen BK226.out 1)))
  go_loopg [5, 6] k (fun kq v5 v6 w' => ∃ (x5_1 : Int) (x6_1 : Int), v5 = .int .i64 x5_1 ∧ v6 = .int .i64 x6_1 ∧ Aside0 (familycheckref01_left.l0 kq l1 x5_1 x6_1 l0_0 a0_1 = some r) ∧ Aside0 (kq ≤ k) ∧ Aside0 (w'.heap[gb226]? = some (.cells #[(.slice A0_0 l0_0.length c0_0), .int .i64 a0_1] 33 (0, 0))) ∧ Aside0 (Below w.heap.size w w'))
  case atStart => exact ⟨(a0_1), (0), (by first | rfl | (simp; done) | (simp [*]; done)), (by first | rfl | (simp; done) | (simp [*]; done)), H', ⟨Nat.le_refl _⟩, ⟨by (with_reducible repeat (first | refine blk_drewN ?_ _ | refine blk_drew ?_ | refine blk_alloc ?_ _)); exact BK226.out⟩, ⟨by repeat (first | (with_reducible first | exact HB.out | apply below_alloc | apply pw_below_drewN | apply below_drew1 | refine below_set ?_ GE226.out) | exact HB.out)⟩⟩
  case round =>
    clear H'
    try clear c1
    try clear p2
    try clear hcz4_0
    try clear hcz4_1
    try clear hfz4_0
    try clear hfz4_1
    obtain ⟨x5_1, x6_1, rfl, rfl, HA, HK1, BK226, HB⟩ := hrel
    cases gk with
    | zero => exact absurd HA.out (by simp [familycheckref01_left.l0])
    | succ k1 =>
      have H := HA.out
      clear HA
      simp only [familycheckref01_left.l0] at H
      by_cases c5 : x6_1 < (l0_0.length : Int)
      · rw [if_pos c5] at H
        have c5b0 : decide (x6_1 < (l0_0.length : Int)) = true := decide_eq_true c5
        clear c5
        by_cases c6 : 0 ≤ x6_1
        · rw [if_pos c6] at H
          have c6b0 : decide (0 ≤ x6_1) = true := decide_eq_true c6
          clear c6
          by_cases c7 : x6_1 < (l1.length : Int)
          · rw [if_pos c7] at H
            have c7b0 : decide (x6_1 < (l1.length : Int)) = true := decide_eq_true c7
            clear c7
            have H' := Aside0.mk H
            clear H
            have hcz8_0 : wr.cell? ⟨gb226, 0, none⟩ = some (.slice A0_0 l0_0.length c0_0) := (blk_cell BK226.out 0).trans rfl
            have hcz8_1 : wr.cell? ⟨gb226, 1, none⟩ = some (.int .i64 a0_1) := (blk_cell BK226.out 1).trans rfl
            have hfz8_0 := blk_frozen BK226.out 0
            have hfz8_1 := blk_frozen BK226.out 1
            have p227 : 0 ≤ (x6_1 : Int) := of_decide_eq_true (by first | (with_reducible assumption) | assumption)
            have q227 : x6_1 < (l0_0.length : Int) := of_decide_eq_true (by first | (with_reducible assumption) | assumption)
            obtain ⟨ad227, e227, hx227_0⟩ := Kd.at_int HR0_0.out x6_1 p227 q227
            cases e227
            replace hx227_0 := (HB.out.cell (World.block_lt_of_cell? w _ hx227_0)).trans hx227_0
            replace p227 := eq_true p227
            replace q227 := eq_true q227
            have p228 : 0 ≤ (x6_1 : Int) := of_decide_eq_true (by first | (with_reducible assumption) | assumption)
            have q228 : x6_1 < (l1.length : Int) := of_decide_eq_true (by first | (with_reducible assumption) | assumption)
            obtain ⟨ad228, e228, hx228_0⟩ := Kd.at_int HR1.out x6_1 p228 q228
            cases e228
            replace hx228_0 := (HB.out.cell (World.block_lt_of_cell? w _ hx228_0)).trans hx228_0
            replace p228 := eq_true p228
            replace q228 := eq_true q228
            go_wp2
            repeat (go_quiet (fail); try go_wp2)
            go_roundg k1
            case measure => have := HK1.out; omega
            case rel => exact ⟨(wrap64 (x5_1 + (wrap64 ((rd l0_0 x6_1) * (rd l1 x6_1))))), (wrap64 (x6_1 + 1)), (by first | rfl | (simp; done) | (simp [*]; done)), (by first | rfl | (simp; done) | (simp [*]; done)), H', ⟨by have := HK1.out; omega⟩, ⟨by (with_reducible repeat (first | refine blk_drewN ?_ _ | refine blk_drew ?_ | refine blk_alloc ?_ _)); exact BK226.out⟩, ⟨by repeat (first | (with_reducible first | exact HB.out | apply below_alloc | apply pw_below_drewN | apply below_drew1 | refine below_set ?_ GE226.out) | exact HB.out)⟩⟩
          · rw [if_neg c7] at H
            exact absurd H (by simp)
        · rw [if_neg c6] at H
          exact absurd H (by simp)
      · rw [if_neg c5] at H
        have c5b0 : decide (x6_1 < (l0_0.length : Int)) = false := decide_eq_false c5
        clear c5
        obtain rfl := Option.some.inj H
        have hcz9_0 : wr.cell? ⟨gb226, 0, none⟩ = some (.slice A0_0 l0_0.length c0_0) := (blk_cell BK226.out 0).trans rfl
        have hcz9_1 : wr.cell? ⟨gb226, 1, none⟩ = some (.int .i64 a0_1) := (blk_cell BK226.out 1).trans rfl
        have hfz9_0 := blk_frozen BK226.out 0
        have hfz9_1 := blk_frozen BK226.out 1
        go_wp2
        repeat (go_quiet (fail); try go_wp2)
        go_ret
        exact ⟨by first | rfl | (simp [errW_none, errW_some] <;> rfl) | (simp [*, errW_none, errW_some] <;> rfl), by repeat (first | (with_reducible first | exact HB.out | apply below_alloc | apply pw_below_drewN | apply below_drew1 | refine below_set ?_ GE226.out) | exact HB.out)⟩

/-! ### familycheckref01_Value: function 23 -/
def familycheckref01_Value.j0 : Nat → List Int → Bool → List Int → Int → Option (Int × Int)
  | 0, _, _, _, _ => none
  | k + 1, x1, x21, x230000, x230001 => if x21 = true then (some (0, 1)) else ((familycheckref01_Small.f k x230000 x230001).bind fun t231 => (if t231 = true then ((familycheckref01_left.f k x230000 x230001 x1).bind fun t232 => (some (t232, 0))) else (some (0, 4))))
def familycheckref01_Value.f (k : Nat) (l0_0 : List Int) (a0_1 : Int) (l1 : List Int) : Option (Int × Int) := if (l0_0.length : Int) = (l1.length : Int) then (if (l1.length : Int) > 96 then (familycheckref01_Value.j0 k l1 true l0_0 a0_1) else ((familycheckref01_isPoint.f k l1).bind fun t230 => (familycheckref01_Value.j0 k l1 (!t230) l0_0 a0_1))) else (familycheckref01_Value.j0 k l1 true l0_0 a0_1)
theorem familycheckref01_Value.mono_l : ∀ k, (∀ y0 y1 y2 y3, LeO (familycheckref01_Value.j0 k y0 y1 y2 y3) (familycheckref01_Value.j0 (k + 1) y0 y1 y2 y3))
  | 0 => fun _ _ _ _ r h => by simp [familycheckref01_Value.j0] at h
  | k + 1 => by
    have ih0 := familycheckref01_Value.mono_l k
    · intro y0 y1 y2 y3
      unfold familycheckref01_Value.j0
      repeat' first
      | (with_reducible exact ih0 _ _ _ _)
      | (with_reducible exact familycheckref01_Small.mono _ _ _)
      | (with_reducible exact familycheckref01_isPoint.mono _ _)
      | (with_reducible exact familycheckref01_left.mono _ _ _ _)
      | (with_reducible exact LeO.refl _)
      | (with_reducible exact LeO.none _)
      | (with_reducible refine LeO.ite ?_ ?_)
      | (with_reducible refine LeO.bind ?_ (fun _ => ?_))
      | exact ih0 _ _ _ _
      | exact familycheckref01_Small.mono _ _ _
      | exact familycheckref01_isPoint.mono _ _
      | exact familycheckref01_left.mono _ _ _ _
      | exact LeO.none _
      | refine LeO.ite ?_ ?_
      | refine LeO.bind ?_ (fun _ => ?_)
theorem familycheckref01_Value.mono : ∀ a0 a1 a2 k, LeO (familycheckref01_Value.f k a0 a1 a2) (familycheckref01_Value.f (k + 1) a0 a1 a2) := by
  intro a0 a1 a2 k
  have ih0 := familycheckref01_Value.mono_l k
  unfold familycheckref01_Value.f
  repeat' first
      | (with_reducible exact ih0 _ _ _ _)
      | (with_reducible exact familycheckref01_Small.mono _ _ _)
      | (with_reducible exact familycheckref01_isPoint.mono _ _)
      | (with_reducible exact familycheckref01_left.mono _ _ _ _)
      | (with_reducible exact LeO.refl _)
      | (with_reducible exact LeO.none _)
      | (with_reducible refine LeO.ite ?_ ?_)
      | (with_reducible refine LeO.bind ?_ (fun _ => ?_))
      | exact ih0 _ _ _ _
      | exact familycheckref01_Small.mono _ _ _
      | exact familycheckref01_isPoint.mono _ _
      | exact familycheckref01_left.mono _ _ _ _
      | exact LeO.none _
      | refine LeO.ite ?_ ?_
      | refine LeO.bind ?_ (fun _ => ?_)
set_option maxHeartbeats 8000000 in
set_option maxRecDepth 100000 in
theorem familycheckref01_Value.calls (k : Nat) (A0_0 : Option Addr) (c0_0 : Nat) (l0_0 : List Int) (a0_1 : Int) (A1 : Option Addr) (c1 : Nat) (l1 : List Int) (r1 : Int) (r2 : Int) (w : World) (hr0_0 : Kd.C (Kd.int .i64) w A0_0 l0_0.length l0_0) (hc0_0 : l0_0.length ≤ c0_0) (hr1 : Kd.C (Kd.int .i64) w A1 l1.length l1) (hc1 : l1.length ≤ c1) (h : familycheckref01_Value.f k l0_0 a0_1 l1 = some (r1, r2)) :
    Calls Tryd.prog 23 #[.agg #[.slice A0_0 l0_0.length c0_0, .int .i64 a0_1], .slice A1 l1.length c1] w fun e w' => e = .returned (.tuple #[.int .i64 r1, .int .i64 r2]) ∧ Below w.heap.size w w' := by
  have hu33 := Tryd.underlying33
  have HR0_0 := Aside0.mk hr0_0
  have HC0_0 := Aside0.mk hc0_0
  clear hr0_0 hc0_0
  have HR1 := Aside0.mk hr1
  have HC1 := Aside0.mk hc1
  clear hr1 hc1
  have HB := Aside0.mk (Below.refl w.heap.size w)
  have H : (if (l0_0.length : Int) = (l1.length : Int) then (if (l1.length : Int) > 96 then (familycheckref01_Value.j0 k l1 true l0_0 a0_1) else ((familycheckref01_isPoint.f k l1).bind fun t230 => (familycheckref01_Value.j0 k l1 (!t230) l0_0 a0_1))) else (familycheckref01_Value.j0 k l1 true l0_0 a0_1)) = some (r1, r2) := h
  clear h
  have HC3 := Aside0.mk H
  clear H
  go_enter Tryd.func23, Tryd.ntmps23
  go_upto_region 1 with (first | ((with_reducible refine gate_dst (N := 2) rfl ?_); (try (refine gate_guard (by rfl) ?_; dsimp only)); refine box_event ?hg (N := 2) ?hd (cs := #[.slice A0_0 l0_0.length c0_0, .int .i64 a0_1]) (t := 33) ?hr ?_; (case hd => rfl); (case hg => rfl); (case hr => first | (go_simp; done) | (go_simp; rfl)); intro gb229 hg w4 hbox hb; have n0_ := Aside0.mk (below_step (by repeat (first | (with_reducible first | exact HB.out | apply below_alloc | apply pw_below_drewN | apply below_drew1) | exact HB.out)) hb); have n1_ := Aside0.mk (hbox); have n2_ := Aside0.mk ((by rw [hg]; exact (below_size (by repeat (first | (with_reducible first | exact HB.out | apply below_alloc | apply pw_below_drewN | apply below_drew1) | exact HB.out))) : w.heap.size ≤ gb229)); have n3_ := Aside0.mk ((by rw [hg]; exact (below_size (by repeat (first | (with_reducible first | exact HB.out | apply below_alloc | apply pw_below_drewN | apply below_drew1) | exact HB.out))) : w.heap.size ≤ gb229)); clear HB; have HB := n0_; have BK229 := n1_; have GW229 := n2_; have GE229 := n3_; clear n0_ n1_ n2_ n3_; clear hb hbox hg))
  (try simp only [Act.put, List.setIfInBounds_toArray, List.set_cons_zero, List.set_cons_succ])
  go_cut [21] (fun v21 wc => ∃ (kq : Nat) (x21_2 : Bool), v21 = .bool x21_2 ∧ Aside0 (familycheckref01_Value.j0 kq l1 x21_2 l0_0 a0_1 = some (r1, r2)) ∧ Aside0 (kq ≤ k) ∧ Aside0 (wc.heap[gb229]? = some (.cells #[(.slice A0_0 l0_0.length c0_0), .int .i64 a0_1] 33 (0, 0))) ∧ Aside0 (Below w.heap.size w wc))
  case first =>
    have H := HC3.out
    clear HC3
    by_cases c5 : (l0_0.length : Int) = (l1.length : Int)
    · rw [if_pos c5] at H
      have c5b0 : ((l0_0.length : Int) == (l1.length : Int)) = true := beq_iff_eq.mpr c5
      have c5b1 : ((l0_0.length : Int) != (l1.length : Int)) = false := bne_eq_false_iff_eq.mpr c5
      have c5b2 : (l0_0.length == l1.length) = true := by first | simpa using c5 | (simp at c5 ⊢; omega)
      clear c5
      (first | rw [c5b0] | (simp only [i64_w, i32_w]; rw [c5b0]) | skip)
      by_cases c6 : (l1.length : Int) > 96
      · rw [if_pos c6] at H
        have c6b0 : decide (96 < (l1.length : Int)) = true := decide_eq_true c6
        have c6b1 : decide (96 < l1.length) = true := decide_eq_true (by omega)
        clear c6
        have H' := Aside0.mk H
        clear H
        have hcz7_0 : w4.cell? ⟨gb229, 0, none⟩ = some (.slice A0_0 l0_0.length c0_0) := (blk_cell BK229.out 0).trans rfl
        have hcz7_1 : w4.cell? ⟨gb229, 1, none⟩ = some (.int .i64 a0_1) := (blk_cell BK229.out 1).trans rfl
        have hfz7_0 := blk_frozen BK229.out 0
        have hfz7_1 := blk_frozen BK229.out 1
        go_wp2
        go_meet
        case rel => exact ⟨_, (true), (by first | rfl | (simp; done) | (simp [*]; done)), H', ⟨by first | omega | exact Nat.le_refl _⟩, ⟨by (with_reducible repeat (first | refine blk_drewN ?_ _ | refine blk_drew ?_ | refine blk_alloc ?_ _)); exact BK229.out⟩, ⟨by repeat (first | (with_reducible first | exact HB.out | apply below_alloc | apply pw_below_drewN | apply below_drew1 | refine below_set ?_ GE229.out) | exact HB.out)⟩⟩
      · rw [if_neg c6] at H
        have c6b0 : decide (96 < (l1.length : Int)) = false := decide_eq_false c6
        have c6b1 : decide (96 < l1.length) = false := decide_eq_false (by omega)
        clear c6
        replace H := Option.bind_eq_some_iff.mp H
        obtain ⟨t230, A80, H⟩ := H
        replace H : (familycheckref01_Value.j0 k l1 (!t230) l0_0 a0_1) = some (r1, r2) := H
        have A8 := Aside0.mk A80
        clear A80
        have H' := Aside0.mk H
        clear H
        have hcz9_0 : w4.cell? ⟨gb229, 0, none⟩ = some (.slice A0_0 l0_0.length c0_0) := (blk_cell BK229.out 0).trans rfl
        have hcz9_1 : w4.cell? ⟨gb229, 1, none⟩ = some (.int .i64 a0_1) := (blk_cell BK229.out 1).trans rfl
        have hfz9_0 := blk_frozen BK229.out 0
        have hfz9_1 := blk_frozen BK229.out 1
        go_wp2_with (first | (go_at_call 53; (with_reducible refine (familycheckref01_isPoint.calls k _ _ l1 t230 _ ?side1 ?side2 A8.out).mono ?_); (case side1 => repeat (first | exact (Kd.C_below HR1.out HB.out) | (with_reducible refine Kd.C_alloc ?_ _) | (with_reducible refine Kd.C_drewN ?_ _) | (with_reducible refine Kd.C_drew ?_))); (case side2 => exact HC1.out); rintro e w' ⟨rfl, ⟨nd, rfl⟩⟩))
        go_meet
        case rel => exact ⟨_, (!t230), (by first | rfl | (simp; done) | (simp [*]; done)), H', ⟨by first | omega | exact Nat.le_refl _⟩, ⟨by (with_reducible repeat (first | refine blk_drewN ?_ _ | refine blk_drew ?_ | refine blk_alloc ?_ _)); exact BK229.out⟩, ⟨by repeat (first | (with_reducible first | exact HB.out | apply below_alloc | apply pw_below_drewN | apply below_drew1 | refine below_set ?_ GE229.out) | exact HB.out)⟩⟩
    · rw [if_neg c5] at H
      have c5b0 : ((l0_0.length : Int) == (l1.length : Int)) = false := beq_eq_false_iff_ne.mpr c5
      have c5b1 : ((l0_0.length : Int) != (l1.length : Int)) = true := bne_iff_ne.mpr c5
      have c5b2 : (l0_0.length == l1.length) = false := by first | simpa using c5 | (simp at c5 ⊢; omega)
      (first | rw [c5b0] | (simp only [i64_w, i32_w]; rw [c5b0]) | skip)
      have H' := Aside0.mk H
      clear H
      have hcz10_0 : w4.cell? ⟨gb229, 0, none⟩ = some (.slice A0_0 l0_0.length c0_0) := (blk_cell BK229.out 0).trans rfl
      have hcz10_1 : w4.cell? ⟨gb229, 1, none⟩ = some (.int .i64 a0_1) := (blk_cell BK229.out 1).trans rfl
      have hfz10_0 := blk_frozen BK229.out 0
      have hfz10_1 := blk_frozen BK229.out 1
      go_wp2
      go_meet
      case rel => exact ⟨_, (true), (by first | rfl | (simp; done) | (simp [*]; done)), H', ⟨by first | omega | exact Nat.le_refl _⟩, ⟨by (with_reducible repeat (first | refine blk_drewN ?_ _ | refine blk_drew ?_ | refine blk_alloc ?_ _)); exact BK229.out⟩, ⟨by repeat (first | (with_reducible first | exact HB.out | apply below_alloc | apply pw_below_drewN | apply below_drew1 | refine below_set ?_ GE229.out) | exact HB.out)⟩⟩
  case rest =>
    clear HC3
    try clear c1
    try clear c2
    try clear p2
    try clear c5
    try clear c5b0
    try clear c5b1
    try clear c5b2
    try clear c6
    try clear c6b0
    try clear c6b1
    try clear hcz10_0
    try clear hcz10_1
    try clear hcz7_0
    try clear hcz7_1
    try clear hcz9_0
    try clear hcz9_1
    try clear hfz10_0
    try clear hfz10_1
    try clear hfz7_0
    try clear hfz7_1
    try clear hfz9_0
    try clear hfz9_1
    obtain ⟨kq, x21_2, rfl, HA, HJ2, BK229, HB⟩ := hcut
    cases kq with
    | zero => exact absurd HA.out (by simp [familycheckref01_Value.j0])
    | succ kj2 =>
      have H := HA.out
      clear HA
      simp only [familycheckref01_Value.j0] at H
      by_cases c11 : x21_2 = true
      · subst c11
        have H1 : (some (0, 1)) = some (r1, r2) := by rw [if_pos rfl] at H; exact H
        clear H
        have H := H1
        clear H1
        simp only [Option.some.injEq, Prod.mk.injEq] at H
        obtain ⟨rfl, rfl⟩ := H
        go_wp2
        go_ret2
        exact ⟨by first | rfl | (simp [errW_none, errW_some] <;> rfl) | (simp [*, errW_none, errW_some] <;> rfl), by repeat (first | (with_reducible first | exact HB.out | apply below_alloc | apply pw_below_drewN | apply below_drew1 | refine below_set ?_ GE229.out) | exact HB.out)⟩
      · replace c11 := Bool.eq_false_iff.mpr c11
        subst c11
        have H1 : ((familycheckref01_Small.f kj2 l0_0 a0_1).bind fun t231 => (if t231 = true then ((familycheckref01_left.f kj2 l0_0 a0_1 l1).bind fun t232 => (some (t232, 0))) else (some (0, 4)))) = some (r1, r2) := by rw [if_neg (show ¬ (false = true) by decide)] at H; exact H
        clear H
        have H := H1
        clear H1
        replace H := Option.bind_eq_some_iff.mp H
        obtain ⟨t231, A120, H⟩ := H
        replace H : (if t231 = true then ((familycheckref01_left.f kj2 l0_0 a0_1 l1).bind fun t232 => (some (t232, 0))) else (some (0, 4))) = some (r1, r2) := H
        have A12 := Aside0.mk A120
        clear A120
        by_cases c13 : t231 = true
        · subst c13
          have H1 : ((familycheckref01_left.f kj2 l0_0 a0_1 l1).bind fun t232 => (some (t232, 0))) = some (r1, r2) := by rw [if_pos rfl] at H; exact H
          clear H
          have H := H1
          clear H1
          replace H := Option.bind_eq_some_iff.mp H
          obtain ⟨t232, A140, H⟩ := H
          replace H : (some (t232, 0)) = some (r1, r2) := H
          have A14 := Aside0.mk A140
          clear A140
          simp only [Option.some.injEq, Prod.mk.injEq] at H
          obtain ⟨rfl, rfl⟩ := H
          have hcz15_0 : wc.cell? ⟨gb229, 0, none⟩ = some (.slice A0_0 l0_0.length c0_0) := (blk_cell BK229.out 0).trans rfl
          have hcz15_1 : wc.cell? ⟨gb229, 1, none⟩ = some (.int .i64 a0_1) := (blk_cell BK229.out 1).trans rfl
          have hfz15_0 := blk_frozen BK229.out 0
          have hfz15_1 := blk_frozen BK229.out 1
          go_wp2_with (first | ((with_reducible refine gate_callee (f := 51) rfl ?_); refine goesL_ (some 23) rfl rfl Tryd.func51 (by kernel_rfl) rfl #[.agg #[.slice A0_0 l0_0.length c0_0, .int .i64 a0_1]] rfl (by (try simp only [List.map_toArray, List.map_cons, List.map_nil]); first | done | rfl | (simp only [List.length_drop, List.length_take]; rfl)) ?_; (with_reducible refine (familycheckref01_Small.calls kj2 _ _ l0_0 a0_1 true _ ?side1 ?side2 A12.out).mono ?_); (case side1 => repeat (first | exact (Kd.C_below HR0_0.out HB.out) | (with_reducible refine Kd.C_alloc ?_ _) | (with_reducible refine Kd.C_drewN ?_ _) | (with_reducible refine Kd.C_drew ?_))); (case side2 => exact HC0_0.out); rintro e w16 ⟨rfl, hb⟩; refine ⟨_, rfl, ?_⟩; have n0_ := Aside0.mk (blk_below (g := gb229) (o := .cells #[.slice A0_0 l0_0.length c0_0, .int .i64 a0_1] 33 (0, 0)) (by (with_reducible repeat (first | refine blk_drewN ?_ _ | refine blk_drew ?_ | refine blk_alloc ?_ _)); exact BK229.out) hb); have n1_ := Aside0.mk (below_step (by repeat (first | (with_reducible first | exact HB.out | apply below_alloc | apply pw_below_drewN | apply below_drew1 | refine below_set ?_ GE229.out) | exact HB.out)) hb); clear BK229; clear HB; have BK229 := n0_; have HB := n1_; clear n0_ n1_; (try clear hb); (try clear hb2); (try clear hk); (try clear hi); have hcz17_0 : w16.cell? ⟨gb229, 0, none⟩ = some (.slice A0_0 l0_0.length c0_0) := (blk_cell BK229.out 0).trans rfl; have hcz17_1 : w16.cell? ⟨gb229, 1, none⟩ = some (.int .i64 a0_1) := (blk_cell BK229.out 1).trans rfl; have hfz17_0 := blk_frozen BK229.out 0; have hfz17_1 := blk_frozen BK229.out 1) | ((with_reducible refine gate_callee (f := 54) rfl ?_); refine goesL_ (some 27) rfl rfl Tryd.func54 (by kernel_rfl) rfl #[.agg #[.slice A0_0 l0_0.length c0_0, .int .i64 a0_1], .slice A1 l1.length c1] rfl (by (try simp only [List.map_toArray, List.map_cons, List.map_nil]); first | done | rfl | (simp only [List.length_drop, List.length_take]; rfl)) ?_; (with_reducible refine (familycheckref01_left.calls kj2 _ _ l0_0 a0_1 _ _ l1 t232 _ ?side1 ?side2 ?side3 ?side4 A14.out).mono ?_); (case side1 => repeat (first | exact (Kd.C_below HR0_0.out HB.out) | (with_reducible refine Kd.C_alloc ?_ _) | (with_reducible refine Kd.C_drewN ?_ _) | (with_reducible refine Kd.C_drew ?_))); (case side2 => exact HC0_0.out); (case side3 => repeat (first | exact (Kd.C_below HR1.out HB.out) | (with_reducible refine Kd.C_alloc ?_ _) | (with_reducible refine Kd.C_drewN ?_ _) | (with_reducible refine Kd.C_drew ?_))); (case side4 => exact HC1.out); rintro e w18 ⟨rfl, hb⟩; refine ⟨_, rfl, ?_⟩; have n0_ := Aside0.mk (blk_below (g := gb229) (o := .cells #[.slice A0_0 l0_0.length c0_0, .int .i64 a0_1] 33 (0, 0)) (by (with_reducible repeat (first | refine blk_drewN ?_ _ | refine blk_drew ?_ | refine blk_alloc ?_ _)); exact BK229.out) hb); have n1_ := Aside0.mk (below_step (by repeat (first | (with_reducible first | exact HB.out | apply below_alloc | apply pw_below_drewN | apply below_drew1 | refine below_set ?_ GE229.out) | exact HB.out)) hb); clear BK229; clear HB; have BK229 := n0_; have HB := n1_; clear n0_ n1_; (try clear hb); (try clear hb2); (try clear hk); (try clear hi)))
          go_ret2
          exact ⟨by first | rfl | (simp [errW_none, errW_some] <;> rfl) | (simp [*, errW_none, errW_some] <;> rfl), by repeat (first | (with_reducible first | exact HB.out | apply below_alloc | apply pw_below_drewN | apply below_drew1 | refine below_set ?_ GE229.out) | exact HB.out)⟩
        · replace c13 := Bool.eq_false_iff.mpr c13
          subst c13
          have H1 : (some (0, 4)) = some (r1, r2) := by rw [if_neg (show ¬ (false = true) by decide)] at H; exact H
          clear H
          have H := H1
          clear H1
          simp only [Option.some.injEq, Prod.mk.injEq] at H
          obtain ⟨rfl, rfl⟩ := H
          have hcz19_0 : wc.cell? ⟨gb229, 0, none⟩ = some (.slice A0_0 l0_0.length c0_0) := (blk_cell BK229.out 0).trans rfl
          have hcz19_1 : wc.cell? ⟨gb229, 1, none⟩ = some (.int .i64 a0_1) := (blk_cell BK229.out 1).trans rfl
          have hfz19_0 := blk_frozen BK229.out 0
          have hfz19_1 := blk_frozen BK229.out 1
          go_wp2_with (first | ((with_reducible refine gate_callee (f := 51) rfl ?_); refine goesL_ (some 23) rfl rfl Tryd.func51 (by kernel_rfl) rfl #[.agg #[.slice A0_0 l0_0.length c0_0, .int .i64 a0_1]] rfl (by (try simp only [List.map_toArray, List.map_cons, List.map_nil]); first | done | rfl | (simp only [List.length_drop, List.length_take]; rfl)) ?_; (with_reducible refine (familycheckref01_Small.calls kj2 _ _ l0_0 a0_1 false _ ?side1 ?side2 A12.out).mono ?_); (case side1 => repeat (first | exact (Kd.C_below HR0_0.out HB.out) | (with_reducible refine Kd.C_alloc ?_ _) | (with_reducible refine Kd.C_drewN ?_ _) | (with_reducible refine Kd.C_drew ?_))); (case side2 => exact HC0_0.out); rintro e w20 ⟨rfl, hb⟩; refine ⟨_, rfl, ?_⟩; have n0_ := Aside0.mk (blk_below (g := gb229) (o := .cells #[.slice A0_0 l0_0.length c0_0, .int .i64 a0_1] 33 (0, 0)) (by (with_reducible repeat (first | refine blk_drewN ?_ _ | refine blk_drew ?_ | refine blk_alloc ?_ _)); exact BK229.out) hb); have n1_ := Aside0.mk (below_step (by repeat (first | (with_reducible first | exact HB.out | apply below_alloc | apply pw_below_drewN | apply below_drew1 | refine below_set ?_ GE229.out) | exact HB.out)) hb); clear BK229; clear HB; have BK229 := n0_; have HB := n1_; clear n0_ n1_; (try clear hb); (try clear hb2); (try clear hk); (try clear hi)))
          go_ret2
          exact ⟨by first | rfl | (simp [errW_none, errW_some] <;> rfl) | (simp [*, errW_none, errW_some] <;> rfl), by repeat (first | (with_reducible first | exact HB.out | apply below_alloc | apply pw_below_drewN | apply below_drew1 | refine below_set ?_ GE229.out) | exact HB.out)⟩

end Go.Proofs.YtbioiodjdfcooaaDoor.P
