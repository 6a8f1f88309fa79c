import Derived.Test.YtbioiodjdfcooaaDoorVAPx0
import Derived.Test.YtbioiodjdfcooaaDoorVAPx1
import Derived.Test.YtbioiodjdfcooaaDoorVAPx4
-- Written by a program of this session (wip/tools/doprint.sh: the kit's print, with given texts for some functions).
namespace Go.Proofs.YtbioiodjdfcooaaDoor.P
open Go.RowKit Go.Proofs.YtbioiodjdfcooaaDoorW.PrintWords Go.Proofs.YtbioiodjdfcooaaDoorW.PrintLast Go.Proofs.YtbioiodjdfcooaaDoorW.PrintMore
attribute [local go_sem] max2_int min2_int max_two min_two max_three min_three max_four min_four   -- for this text's walks alone
set_option linter.unusedVariables false
set_option linter.unusedSimpArgs false

/-! ### linear_Negate: function 33 -/
def linear_Negate.l0 : Nat → Int → Int → List Int → Int → Option (List Int × Int × Int)
  | 0, _, _, _, _ => none
  | k + 1, x14, x15, x332000, x332001 => if x15 < x14 then (if 0 ≤ x15 then (if x15 < (x332000.length : Int) then (linear_Negate.l0 k x14 (wrap64 (x15 + 1)) (x332000.set (x15 : Int).toNat (wrap64 (-(rd x332000 x15)))) x332001) else (none)) else (none)) else ((linear_small.f k x332000 (wrap64 ((wrap64 (-x332001)) - 1))).bind fun t334 => (if t334 = true then (some (x332000, wrap64 ((wrap64 (-x332001)) - 1), 0)) else (some (([] : List Int), 0, 4))))
def linear_Negate.f (k : Nat) (l0_0 : List Int) (a0_1 : Int) : Option (List Int × Int × Int) := (linear_small.f k l0_0 a0_1).bind fun t326 => (if t326 = true then ((linear_clone.f l0_0 a0_1).bind fun bt327 => (linear_Negate.l0 k (bt327.1.length : Int) 0 bt327.1 bt327.2)) else (some (([] : List Int), 0, 4)))
def linear_Negate.T7 : Bool × List (List Nat × List Nat) := (true, [([], []), ([0], [0]), ([], []), ([], []), ([3], [3]), ([], []), ([4, 5], [4, 5]), ([6], [6]), ([7], [7]), ([1, 2, 0, 1, 2, 3, 4, 5, 6, 7, 8], [1, 2]), ([9, 8, 0, 1, 2, 3, 4, 5, 6, 7, 8], [8, 9])])
def linear_Negate.B7 : List Nat := [0, 1, 0, 0, 8, 0, 56, 120, 248, 511, 1023]
theorem linear_Negate.tab7 : rtab .any (opsOf Tryd.f33 7) = linear_Negate.T7 := by kernel_rfl
theorem linear_Negate.bits7 : waitsOk linear_Negate.T7.2 linear_Negate.B7 = true := by kernel_rfl
set_option maxHeartbeats 8000000 in
set_option maxRecDepth 100000 in
theorem linear_Negate.calls (k : Nat) (A0_0 : Option Addr) (c0_0 : Nat) (l0_0 : List Int) (a0_1 : Int) (r1 : List Int) (r2 : Int) (r3 : Int) (w : World) (hr0_0 : Kd.C (Kd.int .i64) w A0_0 l0_0.length l0_0) (hc0_0 : l0_0.length ≤ c0_0) (h : linear_Negate.f k l0_0 a0_1 = some (r1, r2, r3)) :
    Calls Tryd.prog 33 #[.agg #[.slice A0_0 l0_0.length c0_0, .int .i64 a0_1]] w fun e w' => ∃ v0_ : Value, e = .returned (.tuple #[.agg #[v0_, .int .i64 r2], .int .i64 r3]) ∧ Kd.R (Kd.int .i64) 3 w' w.heap.size (fun _ => True) v0_ r1 ∧ Below w.heap.size w w' := by
  have hu33 := Tryd.underlying33
  have HR0_0 := Aside0.mk hr0_0
  have HC0_0 := Aside0.mk hc0_0
  clear hr0_0 hc0_0
  have HB := Aside0.mk (Below.refl w.heap.size w)
  have H : ((linear_small.f k l0_0 a0_1).bind fun t326 => (if t326 = true then ((linear_clone.f l0_0 a0_1).bind fun bt327 => (linear_Negate.l0 k (bt327.1.length : Int) 0 bt327.1 bt327.2)) else (some (([] : List Int), 0, 4)))) = some (r1, r2, r3) := h
  clear h
  replace H := Option.bind_eq_some_iff.mp H
  obtain ⟨t326, A20, H⟩ := H
  replace H : (if t326 = true then ((linear_clone.f l0_0 a0_1).bind fun bt327 => (linear_Negate.l0 k (bt327.1.length : Int) 0 bt327.1 bt327.2)) else (some (([] : List Int), 0, 4))) = some (r1, r2, r3) := H
  have A2 := Aside0.mk A20
  clear A20
  by_cases c3 : t326 = true
  · subst c3
    have H1 : ((linear_clone.f l0_0 a0_1).bind fun bt327 => (linear_Negate.l0 k (bt327.1.length : Int) 0 bt327.1 bt327.2)) = some (r1, r2, r3) := by rw [if_pos rfl] at H; exact H
    clear H
    have H := H1
    clear H1
    replace H := Option.bind_eq_some_iff.mp H
    obtain ⟨⟨t327, t330⟩, A40, H⟩ := H
    replace H : (linear_Negate.l0 k (t327.length : Int) 0 t327 t330) = some (r1, r2, r3) := H
    have A4 := Aside0.mk A40
    clear A40
    have H' := Aside0.mk H
    clear H
    go_enter Tryd.func33, Tryd.ntmps33
    go_wp2_with (first | ((with_reducible refine gate_dst (N := 1) rfl ?_); refine box_event ?hg (N := 1) ?hd (cs := #[.slice A0_0 l0_0.length c0_0, .int .i64 a0_1]) (t := 33) ?hr ?_; (case hd => rfl); (case hg => rfl); (case hr => first | (go_simp; done) | (go_simp; rfl)); intro gb324 hg w5 hbox hb; have n0_ := Aside0.mk (below_step (by repeat (first | (with_reducible first | exact HB.out | apply below_alloc | apply pw_below_drewN | apply below_drew1) | exact HB.out)) hb); have n1_ := Aside0.mk (hbox); have n2_ := Aside0.mk ((by rw [hg]; exact (below_size (by repeat (first | (with_reducible first | exact HB.out | apply below_alloc | apply pw_below_drewN | apply below_drew1) | exact HB.out))) : w.heap.size ≤ gb324)); have n3_ := Aside0.mk ((by rw [hg]; exact (below_size (by repeat (first | (with_reducible first | exact HB.out | apply below_alloc | apply pw_below_drewN | apply below_drew1) | exact HB.out))) : w.heap.size ≤ gb324)); clear HB; have HB := n0_; have BK324 := n1_; have GW324 := n2_; have GE324 := n3_; clear n0_ n1_ n2_ n3_; clear hb hbox hg) | ((with_reducible refine gate_dst (N := 2) rfl ?_); refine box_event ?hg (N := 2) ?hd (cs := #[.slice none 0 0, .int .i64 0]) (t := 33) ?hr ?_; (case hd => rfl); (case hg => rfl); (case hr => first | (go_simp; done) | (go_simp; rfl)); intro gb325 hg w6 hbox hb; have n0_ := Aside0.mk (blk_below (g := gb324) (o := .cells #[.slice A0_0 l0_0.length c0_0, .int .i64 a0_1] 33 (0, 0)) (by (with_reducible repeat (first | refine blk_drewN ?_ _ | refine blk_drew ?_ | refine blk_alloc ?_ _)); exact BK324.out) hb); have n1_ := Aside0.mk (below_step (by repeat (first | (with_reducible first | exact HB.out | apply below_alloc | apply pw_below_drewN | apply below_drew1 | refine below_set ?_ GE324.out) | exact HB.out)) hb); have n2_ := Aside0.mk (hbox); have n3_ := Aside0.mk ((by rw [hg]; exact (below_size (by repeat (first | (with_reducible first | exact HB.out | apply below_alloc | apply pw_below_drewN | apply below_drew1 | refine below_set ?_ GE324.out) | exact HB.out))) : w.heap.size ≤ gb325)); have n4_ := Aside0.mk ((by rw [hg]; exact (below_size (by repeat (first | (with_reducible first | exact HB.out | apply below_alloc | apply pw_below_drewN | apply below_drew1 | refine below_set ?_ GE324.out) | exact HB.out))) : w.heap.size ≤ gb325)); have n5_ := Aside0.mk ((by rw [hg]; exact Nat.ne_of_lt (blk_lt (g := gb324) (o := .cells #[.slice A0_0 l0_0.length c0_0, .int .i64 a0_1] 33 (0, 0)) (by (with_reducible repeat (first | refine blk_drewN ?_ _ | refine blk_drew ?_ | refine blk_alloc ?_ _)); exact BK324.out)) : gb324 ≠ gb325)); have n6_ := Aside0.mk ((by rw [hg]; exact Nat.ne_of_gt (blk_lt (g := gb324) (o := .cells #[.slice A0_0 l0_0.length c0_0, .int .i64 a0_1] 33 (0, 0)) (by (with_reducible repeat (first | refine blk_drewN ?_ _ | refine blk_drew ?_ | refine blk_alloc ?_ _)); exact BK324.out)) : gb325 ≠ gb324)); clear BK324; clear HB; have BK324 := n0_; have HB := n1_; have BK325 := n2_; have GW325 := n3_; have GE325 := n4_; have NB324_325 := n5_; have NB325_324 := n6_; clear n0_ n1_ n2_ n3_ n4_ n5_ n6_; clear hb hbox hg; have hnb7 := NB324_325.out; have hnc7 := NB325_324.out; have hcz8_0 : w6.cell? ⟨gb324, 0, none⟩ = some (.slice A0_0 l0_0.length c0_0) := (blk_cell BK324.out 0).trans rfl; have hcz8_1 : w6.cell? ⟨gb324, 1, none⟩ = some (.int .i64 a0_1) := (blk_cell BK324.out 1).trans rfl; have hfz8_0 := blk_frozen BK324.out 0; have hfz8_1 := blk_frozen BK324.out 1) | ((with_reducible refine gate_callee (f := 49) rfl ?_); refine goesL_ (some 7) rfl rfl Tryd.func49 (by kernel_rfl) rfl #[.agg #[.slice A0_0 l0_0.length c0_0, .int .i64 a0_1]] rfl (by (try simp only [List.map_toArray, List.map_cons, List.map_nil]); first | done | rfl | (simp only [List.length_drop, List.length_take]; rfl)) ?_; (with_reducible refine (linear_small.calls k _ _ l0_0 a0_1 true _ ?side1 ?side2 A2.out).mono ?_); (case side1 => repeat (first | exact (Kd.C_below HR0_0.out HB.out) | (with_reducible refine Kd.C_alloc ?_ _) | (with_reducible refine Kd.C_drewN ?_ _) | (with_reducible refine Kd.C_drew ?_))); (case side2 => exact HC0_0.out); rintro e w9 ⟨rfl, hb⟩; refine ⟨_, rfl, ?_⟩; have n0_ := Aside0.mk (blk_below (g := gb324) (o := .cells #[.slice A0_0 l0_0.length c0_0, .int .i64 a0_1] 33 (0, 0)) (by (with_reducible repeat (first | refine blk_drewN ?_ _ | refine blk_drew ?_ | refine blk_alloc ?_ _)); exact BK324.out) hb); have n1_ := Aside0.mk (blk_below (g := gb325) (o := .cells #[.slice none 0 0, .int .i64 0] 33 (0, 0)) (by (with_reducible repeat (first | refine blk_drewN ?_ _ | refine blk_drew ?_ | refine blk_alloc ?_ _)); exact BK325.out) hb); have n2_ := Aside0.mk (below_step (by repeat (first | (with_reducible first | exact HB.out | apply below_alloc | apply pw_below_drewN | apply below_drew1 | refine below_set ?_ GE324.out | refine below_set ?_ GE325.out) | exact HB.out)) hb); clear BK324; clear BK325; clear HB; have BK324 := n0_; have BK325 := n1_; have HB := n2_; clear n0_ n1_ n2_; (try clear hb); (try clear hb2); (try clear hk); (try clear hi); have hcz10_0 : w9.cell? ⟨gb324, 0, none⟩ = some (.slice A0_0 l0_0.length c0_0) := (blk_cell BK324.out 0).trans rfl; have hcz10_1 : w9.cell? ⟨gb324, 1, none⟩ = some (.int .i64 a0_1) := (blk_cell BK324.out 1).trans rfl; have hfz10_0 := blk_frozen BK324.out 0; have hfz10_1 := blk_frozen BK324.out 1) | ((with_reducible refine gate_callee (f := 55) rfl ?_); refine goesL_ (some 11) rfl rfl Tryd.func55 (by kernel_rfl) rfl #[.agg #[.slice A0_0 l0_0.length c0_0, .int .i64 a0_1]] rfl (by (try simp only [List.map_toArray, List.map_cons, List.map_nil]); first | done | rfl | (simp only [List.length_drop, List.length_take]; rfl)) ?_; (with_reducible refine (linear_clone.calls _ _ l0_0 a0_1 t327 t330 _ ?side1 ?side2 A4.out).mono ?_); (case side1 => repeat (first | exact (Kd.C_below HR0_0.out HB.out) | (with_reducible refine Kd.C_alloc ?_ _) | (with_reducible refine Kd.C_drewN ?_ _) | (with_reducible refine Kd.C_drew ?_))); (case side2 => exact HC0_0.out); rintro e w11 ⟨v328, rfl, ho0, hb⟩; refine ⟨_, rfl, ?_⟩; have n0_ := Aside0.mk (Kd.R_lower ho0 (below_size (by repeat (first | (with_reducible first | exact HB.out | apply below_alloc | apply pw_below_drewN | apply below_drew1 | refine below_set ?_ GE324.out | refine below_set ?_ GE325.out) | exact HB.out)))); have n1_ := Aside0.mk (blk_below (g := gb324) (o := .cells #[.slice A0_0 l0_0.length c0_0, .int .i64 a0_1] 33 (0, 0)) (by (with_reducible repeat (first | refine blk_drewN ?_ _ | refine blk_drew ?_ | refine blk_alloc ?_ _)); exact BK324.out) hb); have n2_ := Aside0.mk (blk_below (g := gb325) (o := .cells #[.slice none 0 0, .int .i64 0] 33 (0, 0)) (by (with_reducible repeat (first | refine blk_drewN ?_ _ | refine blk_drew ?_ | refine blk_alloc ?_ _)); exact BK325.out) hb); have n3_ := Aside0.mk (below_step (by repeat (first | (with_reducible first | exact HB.out | apply below_alloc | apply pw_below_drewN | apply below_drew1 | refine below_set ?_ GE324.out | refine below_set ?_ GE325.out) | exact HB.out)) hb); clear BK324; clear BK325; clear HB; have HO329 := n0_; have BK324 := n1_; have BK325 := n2_; have HB := n3_; clear n0_ n1_ n2_ n3_; (try clear hb); (try clear hb2); (try clear hk); (try clear hi); (try clear ho0)) | ((with_reducible refine gate_dst (N := 4) rfl ?_); refine box_event ?hg (N := 4) ?hd (cs := #[.slice none 0 0, .int .i64 0]) (t := 33) ?hr ?_; (case hd => rfl); (case hg => rfl); (case hr => first | (go_simp; done) | (go_simp; rfl)); intro gb331 hg w12 hbox hb; have n0_ := Aside0.mk (Kd.R_below (by (with_reducible repeat (first | apply Kd.R_alloc | apply Kd.R_drewN | apply Kd.R_drew)); exact HO329.out) hb); have n1_ := Aside0.mk (blk_below (g := gb324) (o := .cells #[.slice A0_0 l0_0.length c0_0, .int .i64 a0_1] 33 (0, 0)) (by (with_reducible repeat (first | refine blk_drewN ?_ _ | refine blk_drew ?_ | refine blk_alloc ?_ _)); exact BK324.out) hb); have n2_ := Aside0.mk (blk_below (g := gb325) (o := .cells #[.slice none 0 0, .int .i64 0] 33 (0, 0)) (by (with_reducible repeat (first | refine blk_drewN ?_ _ | refine blk_drew ?_ | refine blk_alloc ?_ _)); exact BK325.out) hb); have n3_ := Aside0.mk (below_step (by repeat (first | (with_reducible first | exact HB.out | apply below_alloc | apply pw_below_drewN | apply below_drew1 | refine below_set ?_ GE324.out | refine below_set ?_ GE325.out) | exact HB.out)) hb); have n4_ := Aside0.mk (hbox); have n5_ := Aside0.mk ((by rw [hg]; exact (below_size (by repeat (first | (with_reducible first | exact HB.out | apply below_alloc | apply pw_below_drewN | apply below_drew1 | refine below_set ?_ GE324.out | refine below_set ?_ GE325.out) | exact HB.out))) : w.heap.size ≤ gb331)); have n6_ := Aside0.mk ((by rw [hg]; exact (below_size (by repeat (first | (with_reducible first | exact HB.out | apply below_alloc | apply pw_below_drewN | apply below_drew1 | refine below_set ?_ GE324.out | refine below_set ?_ GE325.out) | exact HB.out))) : w.heap.size ≤ gb331)); have n7_ := Aside0.mk ((by rw [hg]; exact Nat.ne_of_lt (blk_lt (g := gb324) (o := .cells #[.slice A0_0 l0_0.length c0_0, .int .i64 a0_1] 33 (0, 0)) (by (with_reducible repeat (first | refine blk_drewN ?_ _ | refine blk_drew ?_ | refine blk_alloc ?_ _)); exact BK324.out)) : gb324 ≠ gb331)); have n8_ := Aside0.mk ((by rw [hg]; exact Nat.ne_of_gt (blk_lt (g := gb324) (o := .cells #[.slice A0_0 l0_0.length c0_0, .int .i64 a0_1] 33 (0, 0)) (by (with_reducible repeat (first | refine blk_drewN ?_ _ | refine blk_drew ?_ | refine blk_alloc ?_ _)); exact BK324.out)) : gb331 ≠ gb324)); have n9_ := Aside0.mk ((by rw [hg]; exact Nat.ne_of_lt (blk_lt (g := gb325) (o := .cells #[.slice none 0 0, .int .i64 0] 33 (0, 0)) (by (with_reducible repeat (first | refine blk_drewN ?_ _ | refine blk_drew ?_ | refine blk_alloc ?_ _)); exact BK325.out)) : gb325 ≠ gb331)); have n10_ := Aside0.mk ((by rw [hg]; exact Nat.ne_of_gt (blk_lt (g := gb325) (o := .cells #[.slice none 0 0, .int .i64 0] 33 (0, 0)) (by (with_reducible repeat (first | refine blk_drewN ?_ _ | refine blk_drew ?_ | refine blk_alloc ?_ _)); exact BK325.out)) : gb331 ≠ gb325)); clear HO329; clear BK324; clear BK325; clear HB; have HO329 := n0_; have BK324 := n1_; have BK325 := n2_; have HB := n3_; have BK331 := n4_; have GW331 := n5_; have GE331 := n6_; have NB324_331 := n7_; have NB331_324 := n8_; have NB325_331 := n9_; have NB331_325 := n10_; clear n0_ n1_ n2_ n3_ n4_ n5_ n6_ n7_ n8_ n9_ n10_; clear hb hbox hg; obtain ⟨Ao13, co13, eo13⟩ := Kd.R_slice HO329.out; subst eo13; have hnb14 := NB331_324.out; have hnc14 := NB324_331.out; have hnb15 := NB331_325.out; have hnc15 := NB325_331.out; have hcz16_0 : w12.cell? ⟨gb331, 0, none⟩ = some (.slice none 0 0) := (blk_cell BK331.out 0).trans rfl; have hcz16_1 : w12.cell? ⟨gb331, 1, none⟩ = some (.int .i64 0) := (blk_cell BK331.out 1).trans rfl; have hfz16_0 := blk_frozen BK331.out 0; have hfz16_1 := blk_frozen BK331.out 1))
    go_loopg [15] k (fun kq v15 w' => ∃ (x15_1 : Int) (x332000_1 : List Int) (u332000 : Value), v15 = .int .i64 x15_1 ∧ Aside0 (linear_Negate.l0 kq (t327.length : Int) x15_1 x332000_1 t330 = some (r1, r2, r3)) ∧ Aside0 (kq ≤ k) ∧ Aside0 (Kd.R (Kd.int .i64) 3 w' w.heap.size (fun _ => True) u332000 x332000_1) ∧ Aside0 (w'.heap[gb324]? = some (.cells #[(.slice A0_0 l0_0.length c0_0), .int .i64 a0_1] 33 (0, 0))) ∧ Aside0 (w'.heap[gb325]? = some (.cells #[(.slice none 0 0), .int .i64 0] 33 (0, 0))) ∧ Aside0 (w'.heap[gb331]? = some (.cells #[u332000, .int .i64 t330] 33 (0, 0))) ∧ Aside0 (Below w.heap.size w w'))
    case atStart => exact ⟨(0), (t327), (.slice Ao13 t327.length co13), (by first | rfl | (simp; done) | (simp [*]; done)), H', ⟨Nat.le_refl _⟩, ⟨by (with_reducible repeat (first | apply Kd.R_alloc | apply Kd.R_drewN | apply Kd.R_drew)); exact Kd.R_mono (Kd.R_far (p := ⟨gb331, 1, none⟩) (Kd.R_far (p := ⟨gb331, 0, none⟩) (Kd.R_types HO329.out BK331.out (by decide)) (fun _ hk => hk.2) (.slice Ao13 t327.length co13)) (fun _ hk => hk.2) (.int .i64 t330)) (fun _ hk => trivial)⟩, ⟨by (with_reducible repeat (first | refine blk_drewN ?_ _ | refine blk_drew ?_ | refine blk_alloc ?_ _)); refine blk_far ?_ NB324_331.out _; (with_reducible repeat (first | refine blk_drewN ?_ _ | refine blk_drew ?_ | refine blk_alloc ?_ _)); refine blk_far ?_ NB324_331.out _; (with_reducible repeat (first | refine blk_drewN ?_ _ | refine blk_drew ?_ | refine blk_alloc ?_ _)); exact BK324.out⟩, ⟨by (with_reducible repeat (first | refine blk_drewN ?_ _ | refine blk_drew ?_ | refine blk_alloc ?_ _)); refine blk_far ?_ NB325_331.out _; (with_reducible repeat (first | refine blk_drewN ?_ _ | refine blk_drew ?_ | refine blk_alloc ?_ _)); refine blk_far ?_ NB325_331.out _; (with_reducible repeat (first | refine blk_drewN ?_ _ | refine blk_drew ?_ | refine blk_alloc ?_ _)); exact BK325.out⟩, ⟨by (with_reducible repeat (first | refine blk_drewN ?_ _ | refine blk_drew ?_ | refine blk_alloc ?_ _)); refine blk_put (cs := #[.slice Ao13 t327.length co13, .int .i64 0]) ?_ 1 _ rfl; (with_reducible repeat (first | refine blk_drewN ?_ _ | refine blk_drew ?_ | refine blk_alloc ?_ _)); refine blk_put (cs := #[.slice none 0 0, .int .i64 0]) ?_ 0 _ rfl; (with_reducible repeat (first | refine blk_drewN ?_ _ | refine blk_drew ?_ | refine blk_alloc ?_ _)); exact BK331.out⟩, ⟨by repeat (first | (with_reducible first | exact HB.out | apply below_alloc | apply pw_below_drewN | apply below_drew1 | refine below_set ?_ GE324.out | refine below_set ?_ GE325.out | refine below_set ?_ GE331.out) | exact HB.out)⟩⟩
    case round =>
      clear H'
      try clear c1
      try clear p2
      try clear c3
      try clear c4
      try clear c5
      try clear c7
      try clear c14
      try clear c15
      try clear hcz10_0
      try clear hcz10_1
      try clear hcz16_0
      try clear hcz16_1
      try clear hcz8_0
      try clear hcz8_1
      try clear hfz10_0
      try clear hfz10_1
      try clear hfz16_0
      try clear hfz16_1
      try clear hfz8_0
      try clear hfz8_1
      obtain ⟨x15_1, x332000_1, u332000, rfl, HA, HK1, HO_332000, BK324, BK325, BK331, HB⟩ := hrel
      cases gk with
      | zero => exact absurd HA.out (by simp [linear_Negate.l0])
      | succ k1 =>
        have H := HA.out
        clear HA
        simp only [linear_Negate.l0] at H
        by_cases c17 : x15_1 < (t327.length : Int)
        · rw [if_pos c17] at H
          have c17b0 : decide (x15_1 < (t327.length : Int)) = true := decide_eq_true c17
          clear c17
          by_cases c18 : 0 ≤ x15_1
          · rw [if_pos c18] at H
            have c18b0 : decide (0 ≤ x15_1) = true := decide_eq_true c18
            clear c18
            by_cases c19 : x15_1 < (x332000_1.length : Int)
            · rw [if_pos c19] at H
              have c19b0 : decide (x15_1 < (x332000_1.length : Int)) = true := decide_eq_true c19
              clear c19
              obtain ⟨y333, hy333⟩ : ∃ y_ : List Int, y_ = (x332000_1.set (x15_1 : Int).toNat (wrap64 (-(rd x332000_1 x15_1)))) := ⟨_, rfl⟩
              replace H : (linear_Negate.l0 k1 (t327.length : Int) (wrap64 (x15_1 + 1)) y333 t330) = some (r1, r2, r3) := by first | (rw [hy333]; with_reducible exact H) | (have H2_ := (Option.bind_some _ _).symm.trans H; rw [hy333]; with_reducible exact H2_) | (have H2_ := (Option.bind_some _ _).symm.trans H; with_reducible exact H2_) | with_reducible exact H | (rw [hy333]; exact H) | exact H
              have Ny333 := Aside0.mk hy333
              clear hy333
              have H' := Aside0.mk H
              clear H
              try go_wp2
              have n0_ := Aside0.mk (Kd.R_drew HO_332000.out)
              have n1_ := Aside0.mk (blk_drew BK324.out)
              have n2_ := Aside0.mk (blk_drew BK325.out)
              have n3_ := Aside0.mk (blk_drew BK331.out)
              have n4_ := Aside0.mk (below_drew1 HB.out)
              clear HO_332000
              clear BK324
              clear BK325
              clear BK331
              clear HB
              have HO_332000 := n0_
              have BK324 := n1_
              have BK325 := n2_
              have BK331 := n3_
              have HB := n4_
              clear n0_ n1_ n2_ n3_ n4_
              obtain ⟨Ao22, co22, eo22⟩ := Kd.R_slice HO_332000.out
              (first | subst eo22 | (injection eo22 with f1_ f2_ f3_; have f4_ := f1_.symm; have f5_ := f3_.symm; clear f1_ f2_ f3_; subst f4_; subst f5_))
              have p332 : 0 ≤ (x15_1 : Int) := of_decide_eq_true (by first | (with_reducible assumption) | assumption)
              have q332 : x15_1 < (x332000_1.length : Int) := of_decide_eq_true (by first | (with_reducible assumption) | assumption)
              obtain ⟨ad332, e332, hx332_0⟩ := Kd.at_int (Kd.R_reads' HO_332000.out).2.2 x15_1 p332 q332
              cases e332
              replace p332 := eq_true p332
              replace q332 := eq_true q332
              have p20 : 0 ≤ (x15_1 : Int) := of_decide_eq_true (by first | (with_reducible assumption) | assumption)
              have q20 : (x15_1 : Int) < ((x332000_1.length : Int) : Int) := of_decide_eq_true (by first | (with_reducible assumption) | assumption)
              obtain ⟨go20, co20, eo20, gb20, gl20, cl20, HG20⟩ := Kd.R_form HO_332000.out (by omega)
              (first | cases eo20 | (injection eo20 with ea_ en_ ec_; (first | subst ea_ | (injection ea_ with ea_; subst ea_)); subst ec_; clear en_))
              have GB20 := Aside0.mk gb20
              have GG20 := Aside0.mk HG20
              clear gb20 gl20 HG20
              (first | simp only [add_plain] at hx332_0 | skip)
              obtain ⟨hx20_0, hf20_0⟩ := Kd.R_celln 0 HO_332000.out (x15_1 : Int) p20 q20
              replace p20 := eq_true p20
              replace q20 := eq_true q20
              have HP23 := Kd.R_putn HO_332000.out (x15_1 : Int) (wrap64 (-(rd x332000_1 x15_1)))
              rw [← Ny333.out] at HP23
              have HQ23 := Aside0.mk HP23
              clear HP23
              refine start_ (n := 11) (S := fun w' => w'.cell? ⟨gb331, 0, none⟩ = some (.slice (some ⟨go20, 0, none⟩) x332000_1.length co22) ∧ w'.cell? ⟨gb331, 1, none⟩ = some (.int .i64 t330) ∧ w'.cell? ⟨go20, (x15_1).toNat, none⟩ = some (.int .i64 (rd x332000_1 x15_1))) (ds := [10]) #[false, false, false, false, false, false, false, false, false, false, false] (by kernel_rfl) rfl rfl ⟨(blk_cell BK331.out 0).trans rfl, (blk_cell BK331.out 1).trans rfl, hx332_0⟩ (fun hHeld => ?_); refine with_tabW linear_Negate.tab7 linear_Negate.bits7 (fun HT_ HW_ => ?_)
              generalize wr.drew = w21 at HO_332000 BK324 BK325 BK331 HB GG20 HQ23 hf20_0 hx20_0 hx332_0 hHeld ⊢
              refine pure_ (i := 0) (N := some 18) (v := ?_) (a' := ?_) #[true, false, false, false, false, false, false, false, false, false, false] rfl rfl (any_of HT_.out (by kernel_rfl)) (fun _ _ _ h => h) (Or.inl ⟨by rfl, ?_⟩) ?_ ?_
              rotate_left
              · intro w'
                go_simp
                with_reducible rfl
              rotate_left
              · simp only [Act.put, List.setIfInBounds_toArray, List.set_cons_zero, List.set_cons_succ, i64_w, i32_w]
                rfl
              refine pure_ (i := 2) (N := some 20) (v := ?_) (a' := ?_) #[true, false, true, false, false, false, false, false, false, false, false] rfl rfl (any_of HT_.out (by kernel_rfl)) (fun _ _ _ h => h) (Or.inl ⟨by rfl, ?_⟩) ?_ ?_
              rotate_left
              · intro w'
                go_simp
                with_reducible rfl
              rotate_left
              · simp only [Act.put, List.setIfInBounds_toArray, List.set_cons_zero, List.set_cons_succ, i64_w, i32_w]
                rfl
              refine pure_ (i := 3) (N := some 21) (v := ?_) (a' := ?_) #[true, false, true, true, false, false, false, false, false, false, false] rfl rfl (any_of HT_.out (by kernel_rfl)) (fun _ _ _ h => h) (Or.inl ⟨by rfl, ?_⟩) ?_ ?_
              rotate_left
              · intro w'
                go_simp
                with_reducible rfl
              rotate_left
              · simp only [Act.put, List.setIfInBounds_toArray, List.set_cons_zero, List.set_cons_succ, i64_w, i32_w]
                rfl
              refine pure_ (i := 5) (N := some 23) (v := ?_) (a' := ?_) #[true, false, true, true, false, true, false, false, false, false, false] rfl rfl (any_of HT_.out (by kernel_rfl)) (fun _ _ _ h => h) (Or.inl ⟨by rfl, ?_⟩) ?_ ?_
              rotate_left
              · intro w'
                go_simp
                with_reducible rfl
              rotate_left
              · simp only [Act.put, List.setIfInBounds_toArray, List.set_cons_zero, List.set_cons_succ, i64_w, i32_w]
                rfl
              refine take_ (i := 1) (N := some 19) (v := ?_) (a' := ?_) #[true, true, true, true, false, true, false, false, false, false, false] rfl rfl (take_ofW HT_.out HW_.out (by kernel_rfl)) (fun _ _ _ h => h) (Or.inl ⟨by rfl, ?_⟩) hHeld ?_ ?_
              rotate_left
              · rintro w' ⟨s0, s1, s2⟩
                go_simp
                with_reducible rfl
              rotate_left
              · simp only [Act.put, List.setIfInBounds_toArray, List.set_cons_zero, List.set_cons_succ, i64_w, i32_w]
                rfl
              refine take_ (i := 4) (N := some 22) (v := ?_) (a' := ?_) #[true, true, true, true, true, true, false, false, false, false, false] rfl rfl (take_ofW HT_.out HW_.out (by kernel_rfl)) (fun _ _ _ h => h) (Or.inl ⟨by rfl, ?_⟩) hHeld ?_ ?_
              rotate_left
              · rintro w' ⟨s0, s1, s2⟩
                go_simp
                with_reducible rfl
              rotate_left
              · simp only [Act.put, List.setIfInBounds_toArray, List.set_cons_zero, List.set_cons_succ, i64_w, i32_w]
                rfl
              refine pure_ (i := 6) (N := some 24) (v := ?_) (a' := ?_) #[true, true, true, true, true, true, true, false, false, false, false] rfl rfl (any_of HT_.out (by kernel_rfl)) (fun _ _ _ h => h) (Or.inl ⟨by rfl, ?_⟩) ?_ ?_
              rotate_left
              · intro w'
                go_simp
                with_reducible rfl
              rotate_left
              · simp only [Act.put, List.setIfInBounds_toArray, List.set_cons_zero, List.set_cons_succ, i64_w, i32_w]
                rfl
              refine take_ (i := 7) (N := some 25) (v := ?_) (a' := ?_) #[true, true, true, true, true, true, true, true, false, false, false] rfl rfl (take_ofW HT_.out HW_.out (by kernel_rfl)) (fun _ _ _ h => h) (Or.inl ⟨by rfl, ?_⟩) hHeld ?_ ?_
              rotate_left
              · rintro w' ⟨s0, s1, s2⟩
                go_simp
                with_reducible rfl
              rotate_left
              · simp only [Act.put, List.setIfInBounds_toArray, List.set_cons_zero, List.set_cons_succ, i64_w, i32_w]
                rfl
              refine pure_ (i := 8) (N := some 26) (v := ?_) (a' := ?_) #[true, true, true, true, true, true, true, true, true, false, false] rfl rfl (any_of HT_.out (by kernel_rfl)) (fun _ _ _ h => h) (Or.inl ⟨by rfl, ?_⟩) ?_ ?_
              rotate_left
              · intro w'
                go_simp
                with_reducible rfl
              rotate_left
              · simp only [Act.put, List.setIfInBounds_toArray, List.set_cons_zero, List.set_cons_succ, i64_w, i32_w]
                rfl
              refine pure_ (i := 9) (N := some 27) (v := ?_) (a' := ?_) #[true, true, true, true, true, true, true, true, true, true, false] rfl rfl (any_of HT_.out (by kernel_rfl)) (fun _ _ _ h => h) (Or.inl ⟨by rfl, ?_⟩) ?_ ?_
              rotate_left
              · intro w'
                go_simp
                with_reducible rfl
              rotate_left
              · simp only [Act.put, List.setIfInBounds_toArray, List.set_cons_zero, List.set_cons_succ, i64_w, i32_w]
                rfl
              refine last_ (i := 10) (N := none) #[true, true, true, true, true, true, true, true, true, true, true] rfl rfl (one_of HT_.out (by kernel_rfl)) (by decide) (fun K hK => ?_)
              refine skip_ (w1 := ?_) (by rfl) rfl ?_ ?_
              rotate_left
              · go_simp
                rfl
              refine hK.out _ _ ?_
              clear hK K
              refine done_ (done_of HT_.out (by kernel_rfl)) ?_
              try go_wp2
              go_roundg k1
              case measure => have := HK1.out; omega
              case rel => exact ⟨(wrap64 (x15_1 + 1)), (y333), (.slice (some ⟨go20, 0, none⟩) x332000_1.length co22), (by first | rfl | (simp; done) | (simp [*]; done)), H', ⟨by have := HK1.out; omega⟩, ⟨by (with_reducible repeat (first | apply Kd.R_alloc | apply Kd.R_drewN | apply Kd.R_drew)); exact HQ23.out⟩, ⟨by (with_reducible repeat (first | refine blk_drewN ?_ _ | refine blk_drew ?_ | refine blk_alloc ?_ _)); refine blk_far ?_ (by have h_ := Kd.R_ne HO_332000.out BK324.out (by decide); intro e_; exact h_ (by rw [e_]; rfl)) _; (with_reducible repeat (first | refine blk_drewN ?_ _ | refine blk_drew ?_ | refine blk_alloc ?_ _)); exact BK324.out⟩, ⟨by (with_reducible repeat (first | refine blk_drewN ?_ _ | refine blk_drew ?_ | refine blk_alloc ?_ _)); refine blk_far ?_ (by have h_ := Kd.R_ne HO_332000.out BK325.out (by decide); intro e_; exact h_ (by rw [e_]; rfl)) _; (with_reducible repeat (first | refine blk_drewN ?_ _ | refine blk_drew ?_ | refine blk_alloc ?_ _)); exact BK325.out⟩, ⟨by (with_reducible repeat (first | refine blk_drewN ?_ _ | refine blk_drew ?_ | refine blk_alloc ?_ _)); refine blk_far ?_ (by have h_ := Kd.R_ne HO_332000.out BK331.out (by decide); intro e_; exact h_ (by rw [e_]; rfl)) _; (with_reducible repeat (first | refine blk_drewN ?_ _ | refine blk_drew ?_ | refine blk_alloc ?_ _)); exact BK331.out⟩, ⟨by repeat (first | (with_reducible first | exact HB.out | apply below_alloc | apply pw_below_drewN | apply below_drew1 | refine below_set ?_ GB20.out | refine below_set ?_ GE324.out | refine below_set ?_ GE325.out | refine below_set ?_ GE331.out) | exact HB.out)⟩⟩
            · rw [if_neg c19] at H
              exact absurd H (by simp)
          · rw [if_neg c18] at H
            exact absurd H (by simp)
        · rw [if_neg c17] at H
          have c17b0 : decide (x15_1 < (t327.length : Int)) = false := decide_eq_false c17
          clear c17
          replace H := Option.bind_eq_some_iff.mp H
          obtain ⟨t334, A240, H⟩ := H
          replace H : (if t334 = true then (some (x332000_1, wrap64 ((wrap64 (-t330)) - 1), 0)) else (some (([] : List Int), 0, 4))) = some (r1, r2, r3) := H
          have A24 := Aside0.mk A240
          clear A240
          by_cases c25 : t334 = true
          · subst c25
            have H1 : (some (x332000_1, wrap64 ((wrap64 (-t330)) - 1), 0)) = some (r1, r2, r3) := by rw [if_pos rfl] at H; exact H
            clear H
            have H := H1
            clear H1
            simp only [Option.some.injEq, Prod.mk.injEq] at H
            obtain ⟨rfl, rfl, rfl⟩ := H
            have hnb26 := NB331_324.out
            have hnc26 := NB324_331.out
            have hnb27 := NB331_325.out
            have hnc27 := NB325_331.out
            have hcz28_0 : wr.cell? ⟨gb331, 0, none⟩ = some (u332000) := (blk_cell BK331.out 0).trans rfl
            have hcz28_1 : wr.cell? ⟨gb331, 1, none⟩ = some (.int .i64 t330) := (blk_cell BK331.out 1).trans rfl
            have hfz28_0 := blk_frozen BK331.out 0
            have hfz28_1 := blk_frozen BK331.out 1
            obtain ⟨Ao29, co29, eo29⟩ := Kd.R_slice HO_332000.out
            subst eo29
            go_wp2_with (first | ((with_reducible refine gate_callee (f := 49) rfl ?_); refine goesL_ (some 35) rfl rfl Tryd.func49 (by kernel_rfl) rfl #[.agg #[.slice Ao29 x332000_1.length co29, .int .i64 (wrap64 ((wrap64 (-t330)) - 1))]] rfl (by (try simp only [List.map_toArray, List.map_cons, List.map_nil]); first | done | rfl | (simp only [List.length_drop, List.length_take]; rfl)) ?_; (with_reducible refine (linear_small.calls k1 _ _ x332000_1 (wrap64 ((wrap64 (-t330)) - 1)) true _ ?side1 ?side2 A24.out).mono ?_); (case side1 => refine (Kd.R_reads' (e := 3) (base := w.heap.size) (ok := fun k_ => True) (n := x332000_1.length) (c := co29) ?_).2.2; exact (by (with_reducible repeat (first | apply Kd.R_alloc | apply Kd.R_drewN | apply Kd.R_drew)); exact (Kd.R_mono (Kd.R_far (p := ⟨gb331, 1, none⟩) (Kd.R_types HO_332000.out BK331.out (by decide)) (fun _ hk => hk.2) (.int .i64 (wrap64 ((wrap64 (-t330)) - 1)))) (fun _ h_ => h_.1)))); (case side2 => exact (Kd.R_reads' HO_332000.out).2.1); rintro e w30 ⟨rfl, hb⟩; refine ⟨_, rfl, ?_⟩; have n0_ := Aside0.mk (Kd.R_below (by (with_reducible repeat (first | apply Kd.R_alloc | apply Kd.R_drewN | apply Kd.R_drew)); exact (Kd.R_mono (Kd.R_far (p := ⟨gb331, 1, none⟩) (Kd.R_types HO_332000.out BK331.out (by decide)) (fun _ hk => hk.2) (.int .i64 (wrap64 ((wrap64 (-t330)) - 1)))) (fun _ h_ => h_.1))) hb); have n1_ := Aside0.mk (blk_below (g := gb324) (o := .cells #[.slice A0_0 l0_0.length c0_0, .int .i64 a0_1] 33 (0, 0)) (by (with_reducible repeat (first | refine blk_drewN ?_ _ | refine blk_drew ?_ | refine blk_alloc ?_ _)); refine blk_far ?_ NB324_331.out _; (with_reducible repeat (first | refine blk_drewN ?_ _ | refine blk_drew ?_ | refine blk_alloc ?_ _)); exact BK324.out) hb); have n2_ := Aside0.mk (blk_below (g := gb325) (o := .cells #[.slice none 0 0, .int .i64 0] 33 (0, 0)) (by (with_reducible repeat (first | refine blk_drewN ?_ _ | refine blk_drew ?_ | refine blk_alloc ?_ _)); refine blk_far ?_ NB325_331.out _; (with_reducible repeat (first | refine blk_drewN ?_ _ | refine blk_drew ?_ | refine blk_alloc ?_ _)); exact BK325.out) hb); have n3_ := Aside0.mk (blk_below (g := gb331) (o := .cells #[.slice Ao29 x332000_1.length co29, .int .i64 (wrap64 ((wrap64 (-t330)) - 1))] 33 (0, 0)) (by (with_reducible repeat (first | refine blk_drewN ?_ _ | refine blk_drew ?_ | refine blk_alloc ?_ _)); refine blk_put (cs := #[.slice Ao29 x332000_1.length co29, .int .i64 t330]) ?_ 1 _ rfl; (with_reducible repeat (first | refine blk_drewN ?_ _ | refine blk_drew ?_ | refine blk_alloc ?_ _)); exact BK331.out) hb); have n4_ := Aside0.mk (below_step (by repeat (first | (with_reducible first | exact HB.out | apply below_alloc | apply pw_below_drewN | apply below_drew1 | refine below_set ?_ GE324.out | refine below_set ?_ GE325.out | refine below_set ?_ GE331.out) | exact HB.out)) hb); clear HO_332000; clear BK324; clear BK325; clear BK331; clear HB; have HO_332000 := n0_; have BK324 := n1_; have BK325 := n2_; have BK331 := n3_; have HB := n4_; clear n0_ n1_ n2_ n3_ n4_; (try clear hb); (try clear hb2); (try clear hk); (try clear hi); have hcz31_0 : w30.cell? ⟨gb331, 0, none⟩ = some (.slice Ao29 x332000_1.length co29) := (blk_cell BK331.out 0).trans rfl; have hcz31_1 : w30.cell? ⟨gb331, 1, none⟩ = some (.int .i64 (wrap64 ((wrap64 (-t330)) - 1))) := (blk_cell BK331.out 1).trans rfl; have hfz31_0 := blk_frozen BK331.out 0; have hfz31_1 := blk_frozen BK331.out 1; have hnb32 := NB325_324.out; have hnc32 := NB324_325.out; have hcz33_0 : w30.cell? ⟨gb325, 0, none⟩ = some (.slice none 0 0) := (blk_cell BK325.out 0).trans rfl; have hcz33_1 : w30.cell? ⟨gb325, 1, none⟩ = some (.int .i64 0) := (blk_cell BK325.out 1).trans rfl; have hfz33_0 := blk_frozen BK325.out 0; have hfz33_1 := blk_frozen BK325.out 1))
            refine bodyPost_ret (results_ct rfl _ _ gb325 33 #[.slice Ao29 x332000_1.length co29, .int .i64 (wrap64 ((wrap64 (-t330)) - 1))] (0, 0) _ rfl (by (with_reducible repeat (first | refine blk_drewN ?_ _ | refine blk_drew ?_ | refine blk_alloc ?_ _)); refine blk_put (cs := #[.slice Ao29 x332000_1.length co29, .int .i64 0]) ?_ 1 _ rfl; (with_reducible repeat (first | refine blk_drewN ?_ _ | refine blk_drew ?_ | refine blk_alloc ?_ _)); refine blk_put (cs := #[.slice none 0 0, .int .i64 0]) ?_ 0 _ rfl; (with_reducible repeat (first | refine blk_drewN ?_ _ | refine blk_drew ?_ | refine blk_alloc ?_ _)); exact BK325.out) Tryd.underlying33 rfl (by kernel_rfl)) rfl ?_
            exact ⟨_, by first | rfl | (simp [errW_none, errW_some] <;> rfl) | (simp [*, errW_none, errW_some] <;> rfl), by (with_reducible repeat (first | apply Kd.R_alloc | apply Kd.R_drewN | apply Kd.R_drew)); exact Kd.R_mono (Kd.R_far (p := ⟨gb325, 1, none⟩) (Kd.R_far (p := ⟨gb325, 0, none⟩) (Kd.R_types HO_332000.out BK325.out (by decide)) (fun _ hk => hk.2) (.slice Ao29 x332000_1.length co29)) (fun _ hk => hk.2) (.int .i64 (wrap64 ((wrap64 (-t330)) - 1)))) (fun _ hk => trivial), by repeat (first | (with_reducible first | exact HB.out | apply below_alloc | apply pw_below_drewN | apply below_drew1 | refine below_set ?_ GE324.out | refine below_set ?_ GE325.out | refine below_set ?_ GE331.out) | exact HB.out)⟩
          · replace c25 := Bool.eq_false_iff.mpr c25
            subst c25
            have H1 : (some (([] : List Int), 0, 4)) = some (r1, r2, r3) := by rw [if_neg (show ¬ (false = true) by decide)] at H; exact H
            clear H
            have H := H1
            clear H1
            simp only [Option.some.injEq, Prod.mk.injEq] at H
            obtain ⟨rfl, rfl, rfl⟩ := H
            have hnb34 := NB331_324.out
            have hnc34 := NB324_331.out
            have hnb35 := NB331_325.out
            have hnc35 := NB325_331.out
            have hcz36_0 : wr.cell? ⟨gb331, 0, none⟩ = some (u332000) := (blk_cell BK331.out 0).trans rfl
            have hcz36_1 : wr.cell? ⟨gb331, 1, none⟩ = some (.int .i64 t330) := (blk_cell BK331.out 1).trans rfl
            have hfz36_0 := blk_frozen BK331.out 0
            have hfz36_1 := blk_frozen BK331.out 1
            obtain ⟨Ao37, co37, eo37⟩ := Kd.R_slice HO_332000.out
            subst eo37
            go_wp2_with (first | ((with_reducible refine gate_callee (f := 49) rfl ?_); refine goesL_ (some 35) rfl rfl Tryd.func49 (by kernel_rfl) rfl #[.agg #[.slice Ao37 x332000_1.length co37, .int .i64 (wrap64 ((wrap64 (-t330)) - 1))]] rfl (by (try simp only [List.map_toArray, List.map_cons, List.map_nil]); first | done | rfl | (simp only [List.length_drop, List.length_take]; rfl)) ?_; (with_reducible refine (linear_small.calls k1 _ _ x332000_1 (wrap64 ((wrap64 (-t330)) - 1)) false _ ?side1 ?side2 A24.out).mono ?_); (case side1 => refine (Kd.R_reads' (e := 3) (base := w.heap.size) (ok := fun k_ => True) (n := x332000_1.length) (c := co37) ?_).2.2; exact (by (with_reducible repeat (first | apply Kd.R_alloc | apply Kd.R_drewN | apply Kd.R_drew)); exact (Kd.R_mono (Kd.R_far (p := ⟨gb331, 1, none⟩) (Kd.R_types HO_332000.out BK331.out (by decide)) (fun _ hk => hk.2) (.int .i64 (wrap64 ((wrap64 (-t330)) - 1)))) (fun _ h_ => h_.1)))); (case side2 => exact (Kd.R_reads' HO_332000.out).2.1); rintro e w38 ⟨rfl, hb⟩; refine ⟨_, rfl, ?_⟩; have n0_ := Aside0.mk (Kd.R_below (by (with_reducible repeat (first | apply Kd.R_alloc | apply Kd.R_drewN | apply Kd.R_drew)); exact (Kd.R_mono (Kd.R_far (p := ⟨gb331, 1, none⟩) (Kd.R_types HO_332000.out BK331.out (by decide)) (fun _ hk => hk.2) (.int .i64 (wrap64 ((wrap64 (-t330)) - 1)))) (fun _ h_ => h_.1))) hb); have n1_ := Aside0.mk (blk_below (g := gb324) (o := .cells #[.slice A0_0 l0_0.length c0_0, .int .i64 a0_1] 33 (0, 0)) (by (with_reducible repeat (first | refine blk_drewN ?_ _ | refine blk_drew ?_ | refine blk_alloc ?_ _)); refine blk_far ?_ NB324_331.out _; (with_reducible repeat (first | refine blk_drewN ?_ _ | refine blk_drew ?_ | refine blk_alloc ?_ _)); exact BK324.out) hb); have n2_ := Aside0.mk (blk_below (g := gb325) (o := .cells #[.slice none 0 0, .int .i64 0] 33 (0, 0)) (by (with_reducible repeat (first | refine blk_drewN ?_ _ | refine blk_drew ?_ | refine blk_alloc ?_ _)); refine blk_far ?_ NB325_331.out _; (with_reducible repeat (first | refine blk_drewN ?_ _ | refine blk_drew ?_ | refine blk_alloc ?_ _)); exact BK325.out) hb); have n3_ := Aside0.mk (blk_below (g := gb331) (o := .cells #[.slice Ao37 x332000_1.length co37, .int .i64 (wrap64 ((wrap64 (-t330)) - 1))] 33 (0, 0)) (by (with_reducible repeat (first | refine blk_drewN ?_ _ | refine blk_drew ?_ | refine blk_alloc ?_ _)); refine blk_put (cs := #[.slice Ao37 x332000_1.length co37, .int .i64 t330]) ?_ 1 _ rfl; (with_reducible repeat (first | refine blk_drewN ?_ _ | refine blk_drew ?_ | refine blk_alloc ?_ _)); exact BK331.out) hb); have n4_ := Aside0.mk (below_step (by repeat (first | (with_reducible first | exact HB.out | apply below_alloc | apply pw_below_drewN | apply below_drew1 | refine below_set ?_ GE324.out | refine below_set ?_ GE325.out | refine below_set ?_ GE331.out) | exact HB.out)) hb); clear HO_332000; clear BK324; clear BK325; clear BK331; clear HB; have HO_332000 := n0_; have BK324 := n1_; have BK325 := n2_; have BK331 := n3_; have HB := n4_; clear n0_ n1_ n2_ n3_ n4_; (try clear hb); (try clear hb2); (try clear hk); (try clear hi); have hnb39 := NB325_324.out; have hnc39 := NB324_325.out; have hcz40_0 : w38.cell? ⟨gb325, 0, none⟩ = some (.slice none 0 0) := (blk_cell BK325.out 0).trans rfl; have hcz40_1 : w38.cell? ⟨gb325, 1, none⟩ = some (.int .i64 0) := (blk_cell BK325.out 1).trans rfl; have hfz40_0 := blk_frozen BK325.out 0; have hfz40_1 := blk_frozen BK325.out 1))
            refine bodyPost_ret (results_ct rfl _ _ gb325 33 #[.slice none 0 0, .int .i64 0] (0, 0) _ rfl (by (with_reducible repeat (first | refine blk_drewN ?_ _ | refine blk_drew ?_ | refine blk_alloc ?_ _)); refine blk_put (cs := #[.slice none 0 0, .int .i64 0]) ?_ 1 _ rfl; (with_reducible repeat (first | refine blk_drewN ?_ _ | refine blk_drew ?_ | refine blk_alloc ?_ _)); refine blk_put (cs := #[.slice none 0 0, .int .i64 0]) ?_ 0 _ rfl; (with_reducible repeat (first | refine blk_drewN ?_ _ | refine blk_drew ?_ | refine blk_alloc ?_ _)); exact BK325.out) Tryd.underlying33 rfl (by kernel_rfl)) rfl ?_
            exact ⟨_, by first | rfl | (simp [errW_none, errW_some] <;> rfl) | (simp [*, errW_none, errW_some] <;> rfl), by first | exact Kd.R_nil _ _ _ _ _ | exact Kd.N_nil _ _ _ _ _ | exact Kd.V_nil _ _ _ _ _ | exact Kd.Q_nil _ _ _ _ _ | exact Kd.S_nil _ _ _ _ _, by repeat (first | (with_reducible first | exact HB.out | apply below_alloc | apply pw_below_drewN | apply below_drew1 | refine below_set ?_ GE324.out | refine below_set ?_ GE325.out | refine below_set ?_ GE331.out) | exact HB.out)⟩
  · replace c3 := Bool.eq_false_iff.mpr c3
    subst c3
    have H1 : (some (([] : List Int), 0, 4)) = some (r1, r2, r3) := by rw [if_neg (show ¬ (false = true) by decide)] at H; exact H
    clear H
    have H := H1
    clear H1
    simp only [Option.some.injEq, Prod.mk.injEq] at H
    obtain ⟨rfl, rfl, rfl⟩ := H
    go_enter Tryd.func33, Tryd.ntmps33
    go_wp2_with (first | ((with_reducible refine gate_dst (N := 1) rfl ?_); refine box_event ?hg (N := 1) ?hd (cs := #[.slice A0_0 l0_0.length c0_0, .int .i64 a0_1]) (t := 33) ?hr ?_; (case hd => rfl); (case hg => rfl); (case hr => first | (go_simp; done) | (go_simp; rfl)); intro gb324 hg w41 hbox hb; have n0_ := Aside0.mk (below_step (by repeat (first | (with_reducible first | exact HB.out | apply below_alloc | apply pw_below_drewN | apply below_drew1) | exact HB.out)) hb); have n1_ := Aside0.mk (hbox); have n2_ := Aside0.mk ((by rw [hg]; exact (below_size (by repeat (first | (with_reducible first | exact HB.out | apply below_alloc | apply pw_below_drewN | apply below_drew1) | exact HB.out))) : w.heap.size ≤ gb324)); have n3_ := Aside0.mk ((by rw [hg]; exact (below_size (by repeat (first | (with_reducible first | exact HB.out | apply below_alloc | apply pw_below_drewN | apply below_drew1) | exact HB.out))) : w.heap.size ≤ gb324)); clear HB; have HB := n0_; have BK324 := n1_; have GW324 := n2_; have GE324 := n3_; clear n0_ n1_ n2_ n3_; clear hb hbox hg) | ((with_reducible refine gate_dst (N := 2) rfl ?_); refine box_event ?hg (N := 2) ?hd (cs := #[.slice none 0 0, .int .i64 0]) (t := 33) ?hr ?_; (case hd => rfl); (case hg => rfl); (case hr => first | (go_simp; done) | (go_simp; rfl)); intro gb325 hg w42 hbox hb; have n0_ := Aside0.mk (blk_below (g := gb324) (o := .cells #[.slice A0_0 l0_0.length c0_0, .int .i64 a0_1] 33 (0, 0)) (by (with_reducible repeat (first | refine blk_drewN ?_ _ | refine blk_drew ?_ | refine blk_alloc ?_ _)); exact BK324.out) hb); have n1_ := Aside0.mk (below_step (by repeat (first | (with_reducible first | exact HB.out | apply below_alloc | apply pw_below_drewN | apply below_drew1 | refine below_set ?_ GE324.out) | exact HB.out)) hb); have n2_ := Aside0.mk (hbox); have n3_ := Aside0.mk ((by rw [hg]; exact (below_size (by repeat (first | (with_reducible first | exact HB.out | apply below_alloc | apply pw_below_drewN | apply below_drew1 | refine below_set ?_ GE324.out) | exact HB.out))) : w.heap.size ≤ gb325)); have n4_ := Aside0.mk ((by rw [hg]; exact (below_size (by repeat (first | (with_reducible first | exact HB.out | apply below_alloc | apply pw_below_drewN | apply below_drew1 | refine below_set ?_ GE324.out) | exact HB.out))) : w.heap.size ≤ gb325)); have n5_ := Aside0.mk ((by rw [hg]; exact Nat.ne_of_lt (blk_lt (g := gb324) (o := .cells #[.slice A0_0 l0_0.length c0_0, .int .i64 a0_1] 33 (0, 0)) (by (with_reducible repeat (first | refine blk_drewN ?_ _ | refine blk_drew ?_ | refine blk_alloc ?_ _)); exact BK324.out)) : gb324 ≠ gb325)); have n6_ := Aside0.mk ((by rw [hg]; exact Nat.ne_of_gt (blk_lt (g := gb324) (o := .cells #[.slice A0_0 l0_0.length c0_0, .int .i64 a0_1] 33 (0, 0)) (by (with_reducible repeat (first | refine blk_drewN ?_ _ | refine blk_drew ?_ | refine blk_alloc ?_ _)); exact BK324.out)) : gb325 ≠ gb324)); clear BK324; clear HB; have BK324 := n0_; have HB := n1_; have BK325 := n2_; have GW325 := n3_; have GE325 := n4_; have NB324_325 := n5_; have NB325_324 := n6_; clear n0_ n1_ n2_ n3_ n4_ n5_ n6_; clear hb hbox hg; have hnb43 := NB324_325.out; have hnc43 := NB325_324.out; have hcz44_0 : w42.cell? ⟨gb324, 0, none⟩ = some (.slice A0_0 l0_0.length c0_0) := (blk_cell BK324.out 0).trans rfl; have hcz44_1 : w42.cell? ⟨gb324, 1, none⟩ = some (.int .i64 a0_1) := (blk_cell BK324.out 1).trans rfl; have hfz44_0 := blk_frozen BK324.out 0; have hfz44_1 := blk_frozen BK324.out 1) | ((with_reducible refine gate_callee (f := 49) rfl ?_); refine goesL_ (some 7) rfl rfl Tryd.func49 (by kernel_rfl) rfl #[.agg #[.slice A0_0 l0_0.length c0_0, .int .i64 a0_1]] rfl (by (try simp only [List.map_toArray, List.map_cons, List.map_nil]); first | done | rfl | (simp only [List.length_drop, List.length_take]; rfl)) ?_; (with_reducible refine (linear_small.calls k _ _ l0_0 a0_1 false _ ?side1 ?side2 A2.out).mono ?_); (case side1 => repeat (first | exact (Kd.C_below HR0_0.out HB.out) | (with_reducible refine Kd.C_alloc ?_ _) | (with_reducible refine Kd.C_drewN ?_ _) | (with_reducible refine Kd.C_drew ?_))); (case side2 => exact HC0_0.out); rintro e w45 ⟨rfl, hb⟩; refine ⟨_, rfl, ?_⟩; have n0_ := Aside0.mk (blk_below (g := gb324) (o := .cells #[.slice A0_0 l0_0.length c0_0, .int .i64 a0_1] 33 (0, 0)) (by (with_reducible repeat (first | refine blk_drewN ?_ _ | refine blk_drew ?_ | refine blk_alloc ?_ _)); exact BK324.out) hb); have n1_ := Aside0.mk (blk_below (g := gb325) (o := .cells #[.slice none 0 0, .int .i64 0] 33 (0, 0)) (by (with_reducible repeat (first | refine blk_drewN ?_ _ | refine blk_drew ?_ | refine blk_alloc ?_ _)); exact BK325.out) hb); have n2_ := Aside0.mk (below_step (by repeat (first | (with_reducible first | exact HB.out | apply below_alloc | apply pw_below_drewN | apply below_drew1 | refine below_set ?_ GE324.out | refine below_set ?_ GE325.out) | exact HB.out)) hb); clear BK324; clear BK325; clear HB; have BK324 := n0_; have BK325 := n1_; have HB := n2_; clear n0_ n1_ n2_; (try clear hb); (try clear hb2); (try clear hk); (try clear hi); have hcz46_0 : w45.cell? ⟨gb325, 0, none⟩ = some (.slice none 0 0) := (blk_cell BK325.out 0).trans rfl; have hcz46_1 : w45.cell? ⟨gb325, 1, none⟩ = some (.int .i64 0) := (blk_cell BK325.out 1).trans rfl; have hfz46_0 := blk_frozen BK325.out 0; have hfz46_1 := blk_frozen BK325.out 1))
    refine bodyPost_ret (results_ct rfl _ _ gb325 33 #[.slice none 0 0, .int .i64 0] (0, 0) _ rfl (by (with_reducible repeat (first | refine blk_drewN ?_ _ | refine blk_drew ?_ | refine blk_alloc ?_ _)); refine blk_put (cs := #[.slice none 0 0, .int .i64 0]) ?_ 1 _ rfl; (with_reducible repeat (first | refine blk_drewN ?_ _ | refine blk_drew ?_ | refine blk_alloc ?_ _)); refine blk_put (cs := #[.slice none 0 0, .int .i64 0]) ?_ 0 _ rfl; (with_reducible repeat (first | refine blk_drewN ?_ _ | refine blk_drew ?_ | refine blk_alloc ?_ _)); exact BK325.out) Tryd.underlying33 rfl (by kernel_rfl)) rfl ?_
    exact ⟨_, by first | rfl | (simp [errW_none, errW_some] <;> rfl) | (simp [*, errW_none, errW_some] <;> rfl), by first | exact Kd.R_nil _ _ _ _ _ | exact Kd.N_nil _ _ _ _ _ | exact Kd.V_nil _ _ _ _ _ | exact Kd.Q_nil _ _ _ _ _ | exact Kd.S_nil _ _ _ _ _, by repeat (first | (with_reducible first | exact HB.out | apply below_alloc | apply pw_below_drewN | apply below_drew1 | refine below_set ?_ GE324.out | refine below_set ?_ GE325.out) | exact HB.out)⟩

end Go.Proofs.YtbioiodjdfcooaaDoor.P
