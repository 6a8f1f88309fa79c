import Derived.Test.YtbioiodjdfcooaaDoorVAPx0
import Derived.Test.YtbioiodjdfcooaaDoorVAPx1
import Derived.Test.YtbioiodjdfcooaaDoorVAPx2
import Derived.Test.YtbioiodjdfcooaaDoorVAPx7
import Derived.Test.YtbioiodjdfcooaaDoorVAPx25
-- Written by a program of this session (wip/tools/doprint.sh: the kit's print, with given texts for some functions).
namespace Go.Proofs.YtbioiodjdfcooaaDoor.P
open Go.RowKit Go.Proofs.YtbioiodjdfcooaaDoorW.PrintWords Go.Proofs.YtbioiodjdfcooaaDoorW.PrintLast Go.Proofs.YtbioiodjdfcooaaDoorW.PrintMore
attribute [local go_sem] max2_int min2_int max_two min_two max_three min_three max_four min_four   -- for this text's walks alone
set_option linter.unusedVariables false
set_option linter.unusedSimpArgs false

/-! ### familychecklaw01_LinearSigns: function 9 -/
mutual
def familychecklaw01_LinearSigns.j0 : Nat → List Int → Bool → List Int → Int → Option (Bool)
  | 0, _, _, _, _ => none
  | k + 1, x1, x15, x375000, x375001 => if x15 = true then ((familychecklaw01_known.f k).bind fun t376 => (some t376)) else ((linear_Contradictory.f k x375000 x375001).bind fun t377 => ((linear_Trivial.f k x375000 x375001).bind fun t378 => ((familycheckref01_Contradictory.f k x375000 x375001).bind fun t379 => (if (t377 != t379) = true then (familychecklaw01_LinearSigns.j1 k x1 t377 t378 true x375000 x375001) else ((familycheckref01_Trivial.f k x375000 x375001).bind fun t380 => (if (t378 != t380) = true then (familychecklaw01_LinearSigns.j1 k x1 t377 t378 true x375000 x375001) else (if t377 = true then (familychecklaw01_LinearSigns.j1 k x1 t377 t378 t378 x375000 x375001) else (familychecklaw01_LinearSigns.j1 k x1 t377 t378 false x375000 x375001))))))))
def familychecklaw01_LinearSigns.j1 : Nat → List Int → Bool → Bool → Bool → List Int → Int → Option (Bool)
  | 0, _, _, _, _, _, _ => none
  | k + 1, x1, x5, x6, x36, x375000, x375001 => if x36 = true then (some false) else ((linear_Value.f k x375000 x375001 x1).bind fun bt381 => (if bt381.2 = 0 then (if x5 = true then (if bt381.1 < 0 then (if x6 = true then (if bt381.1 ≥ 0 then ((familychecklaw01_known.f k).bind fun t383 => (some t383)) else (some false)) else ((familychecklaw01_known.f k).bind fun t384 => (some t384))) else (some false)) else (if x6 = true then (if bt381.1 ≥ 0 then ((familychecklaw01_known.f k).bind fun t385 => (some t385)) else (some false)) else ((familychecklaw01_known.f k).bind fun t386 => (some t386)))) else ((familychecklaw01_known.f k).bind fun t387 => (some t387))))
end
def familychecklaw01_LinearSigns.f (k : Nat) (l0_0 : List Int) (a0_1 : Int) (l1 : List Int) : Option (Bool) := (familychecklaw01_long.f l0_0 a0_1).bind fun t375 => (if t375 = true then (familychecklaw01_LinearSigns.j0 k l1 true l0_0 a0_1) else (familychecklaw01_LinearSigns.j0 k l1 (decide ((l1.length : Int) > 200)) l0_0 a0_1))
set_option maxHeartbeats 8000000 in
set_option maxRecDepth 100000 in
theorem familychecklaw01_LinearSigns.calls (k : Nat) (A0_0 : Option Addr) (c0_0 : Nat) (l0_0 : List Int) (a0_1 : Int) (A1 : Option Addr) (c1 : Nat) (l1 : List Int) (r : Bool) (w : World) (hr0_0 : Kd.C (Kd.int .i64) w A0_0 l0_0.length l0_0) (hc0_0 : l0_0.length ≤ c0_0) (hr1 : Kd.C (Kd.int .i64) w A1 l1.length l1) (hc1 : l1.length ≤ c1) (h : familychecklaw01_LinearSigns.f k l0_0 a0_1 l1 = some r) :
    Calls Tryd.prog 9 #[.agg #[.slice A0_0 l0_0.length c0_0, .int .i64 a0_1], .slice A1 l1.length c1] w fun e w' => e = .returned (.bool r) ∧ Below w.heap.size w w' := by
  have hu33 := Tryd.underlying33
  have HR0_0 := Aside0.mk hr0_0
  have HC0_0 := Aside0.mk hc0_0
  clear hr0_0 hc0_0
  have HR1 := Aside0.mk hr1
  have HC1 := Aside0.mk hc1
  clear hr1 hc1
  have HB := Aside0.mk (Below.refl w.heap.size w)
  have H : ((familychecklaw01_long.f l0_0 a0_1).bind fun t375 => (if t375 = true then (familychecklaw01_LinearSigns.j0 k l1 true l0_0 a0_1) else (familychecklaw01_LinearSigns.j0 k l1 (decide ((l1.length : Int) > 200)) l0_0 a0_1))) = some r := h
  clear h
  have HC3 := Aside0.mk H
  clear H
  go_enter Tryd.func9, Tryd.ntmps9
  go_upto_region 1 with (first | ((with_reducible refine gate_dst (N := 2) rfl ?_); (try (refine gate_guard (by rfl) ?_; dsimp only)); refine box_event ?hg (N := 2) ?hd (cs := #[.slice A0_0 l0_0.length c0_0, .int .i64 a0_1]) (t := 33) ?hr ?_; (case hd => rfl); (case hg => rfl); (case hr => first | (go_simp; done) | (go_simp; rfl)); intro gb374 hg w4 hbox hb; have n0_ := Aside0.mk (below_step (by repeat (first | (with_reducible first | exact HB.out | apply below_alloc | apply pw_below_drewN | apply below_drew1) | exact HB.out)) hb); have n1_ := Aside0.mk (hbox); have n2_ := Aside0.mk ((by rw [hg]; exact (below_size (by repeat (first | (with_reducible first | exact HB.out | apply below_alloc | apply pw_below_drewN | apply below_drew1) | exact HB.out))) : w.heap.size ≤ gb374)); have n3_ := Aside0.mk ((by rw [hg]; exact (below_size (by repeat (first | (with_reducible first | exact HB.out | apply below_alloc | apply pw_below_drewN | apply below_drew1) | exact HB.out))) : w.heap.size ≤ gb374)); clear HB; have HB := n0_; have BK374 := n1_; have GW374 := n2_; have GE374 := n3_; clear n0_ n1_ n2_ n3_; clear hb hbox hg))
  (try simp only [Act.put, List.setIfInBounds_toArray, List.set_cons_zero, List.set_cons_succ])
  go_cut [15] (fun v15 wc => ∃ (kq : Nat) (x15_2 : Bool), v15 = .bool x15_2 ∧ Aside0 (familychecklaw01_LinearSigns.j0 kq l1 x15_2 l0_0 a0_1 = some r) ∧ Aside0 (kq ≤ k) ∧ Aside0 (wc.heap[gb374]? = some (.cells #[(.slice A0_0 l0_0.length c0_0), .int .i64 a0_1] 33 (0, 0))) ∧ Aside0 (Below w.heap.size w wc))
  case first =>
    have H := HC3.out
    clear HC3
    replace H := Option.bind_eq_some_iff.mp H
    obtain ⟨t375, A50, H⟩ := H
    replace H : (if t375 = true then (familychecklaw01_LinearSigns.j0 k l1 true l0_0 a0_1) else (familychecklaw01_LinearSigns.j0 k l1 (decide ((l1.length : Int) > 200)) l0_0 a0_1)) = some r := H
    have A5 := Aside0.mk A50
    clear A50
    by_cases c6 : t375 = true
    · subst c6
      have H1 : (familychecklaw01_LinearSigns.j0 k l1 true l0_0 a0_1) = some r := by rw [if_pos rfl] at H; exact H
      clear H
      have H := H1
      clear H1
      have H' := Aside0.mk H
      clear H
      have hcz7_0 : w4.cell? ⟨gb374, 0, none⟩ = some (.slice A0_0 l0_0.length c0_0) := (blk_cell BK374.out 0).trans rfl
      have hcz7_1 : w4.cell? ⟨gb374, 1, none⟩ = some (.int .i64 a0_1) := (blk_cell BK374.out 1).trans rfl
      have hfz7_0 := blk_frozen BK374.out 0
      have hfz7_1 := blk_frozen BK374.out 1
      go_wp2_with (first | ((with_reducible refine gate_callee (f := 21) rfl ?_); refine goesL_ (some 10) rfl rfl Tryd.func21 (by kernel_rfl) rfl #[.agg #[.slice A0_0 l0_0.length c0_0, .int .i64 a0_1]] rfl (by (try simp only [List.map_toArray, List.map_cons, List.map_nil]); first | done | rfl | (simp only [List.length_drop, List.length_take]; rfl)) ?_; (with_reducible refine (familychecklaw01_long.calls _ _ l0_0 a0_1 true _ ?side1 ?side2 A5.out).mono ?_); (case side1 => repeat (first | exact (Kd.C_below HR0_0.out HB.out) | (with_reducible refine Kd.C_alloc ?_ _) | (with_reducible refine Kd.C_drewN ?_ _) | (with_reducible refine Kd.C_drew ?_))); (case side2 => exact HC0_0.out); rintro e w8 ⟨rfl, hb⟩; refine ⟨_, rfl, ?_⟩; have n0_ := Aside0.mk (blk_below (g := gb374) (o := .cells #[.slice A0_0 l0_0.length c0_0, .int .i64 a0_1] 33 (0, 0)) (by (with_reducible repeat (first | refine blk_drewN ?_ _ | refine blk_drew ?_ | refine blk_alloc ?_ _)); exact BK374.out) hb); have n1_ := Aside0.mk (below_step (by repeat (first | (with_reducible first | exact HB.out | apply below_alloc | apply pw_below_drewN | apply below_drew1 | refine below_set ?_ GE374.out) | exact HB.out)) hb); clear BK374; clear HB; have BK374 := n0_; have HB := n1_; clear n0_ n1_; (try clear hb); (try clear hb2); (try clear hk); (try clear hi)))
      go_meet
      case rel => exact ⟨_, (true), (by first | rfl | (simp; done) | (simp [*]; done)), H', ⟨by first | omega | exact Nat.le_refl _⟩, ⟨by (with_reducible repeat (first | refine blk_drewN ?_ _ | refine blk_drew ?_ | refine blk_alloc ?_ _)); exact BK374.out⟩, ⟨by repeat (first | (with_reducible first | exact HB.out | apply below_alloc | apply pw_below_drewN | apply below_drew1 | refine below_set ?_ GE374.out) | exact HB.out)⟩⟩
    · replace c6 := Bool.eq_false_iff.mpr c6
      subst c6
      have H1 : (familychecklaw01_LinearSigns.j0 k l1 (decide ((l1.length : Int) > 200)) l0_0 a0_1) = some r := by rw [if_neg (show ¬ (false = true) by decide)] at H; exact H
      clear H
      have H := H1
      clear H1
      have H' := Aside0.mk H
      clear H
      have hcz9_0 : w4.cell? ⟨gb374, 0, none⟩ = some (.slice A0_0 l0_0.length c0_0) := (blk_cell BK374.out 0).trans rfl
      have hcz9_1 : w4.cell? ⟨gb374, 1, none⟩ = some (.int .i64 a0_1) := (blk_cell BK374.out 1).trans rfl
      have hfz9_0 := blk_frozen BK374.out 0
      have hfz9_1 := blk_frozen BK374.out 1
      go_wp2_with (first | ((with_reducible refine gate_callee (f := 21) rfl ?_); refine goesL_ (some 10) rfl rfl Tryd.func21 (by kernel_rfl) rfl #[.agg #[.slice A0_0 l0_0.length c0_0, .int .i64 a0_1]] rfl (by (try simp only [List.map_toArray, List.map_cons, List.map_nil]); first | done | rfl | (simp only [List.length_drop, List.length_take]; rfl)) ?_; (with_reducible refine (familychecklaw01_long.calls _ _ l0_0 a0_1 false _ ?side1 ?side2 A5.out).mono ?_); (case side1 => repeat (first | exact (Kd.C_below HR0_0.out HB.out) | (with_reducible refine Kd.C_alloc ?_ _) | (with_reducible refine Kd.C_drewN ?_ _) | (with_reducible refine Kd.C_drew ?_))); (case side2 => exact HC0_0.out); rintro e w10 ⟨rfl, hb⟩; refine ⟨_, rfl, ?_⟩; have n0_ := Aside0.mk (blk_below (g := gb374) (o := .cells #[.slice A0_0 l0_0.length c0_0, .int .i64 a0_1] 33 (0, 0)) (by (with_reducible repeat (first | refine blk_drewN ?_ _ | refine blk_drew ?_ | refine blk_alloc ?_ _)); exact BK374.out) hb); have n1_ := Aside0.mk (below_step (by repeat (first | (with_reducible first | exact HB.out | apply below_alloc | apply pw_below_drewN | apply below_drew1 | refine below_set ?_ GE374.out) | exact HB.out)) hb); clear BK374; clear HB; have BK374 := n0_; have HB := n1_; clear n0_ n1_; (try clear hb); (try clear hb2); (try clear hk); (try clear hi)))
      go_meet
      case rel => exact ⟨_, (decide ((l1.length : Int) > 200)), (by first | rfl | (simp; done) | (simp [*]; done)), H', ⟨by first | omega | exact Nat.le_refl _⟩, ⟨by (with_reducible repeat (first | refine blk_drewN ?_ _ | refine blk_drew ?_ | refine blk_alloc ?_ _)); exact BK374.out⟩, ⟨by repeat (first | (with_reducible first | exact HB.out | apply below_alloc | apply pw_below_drewN | apply below_drew1 | refine below_set ?_ GE374.out) | exact HB.out)⟩⟩
  case rest =>
    clear HC3
    try clear c1
    try clear c2
    try clear p2
    try clear c6
    try clear c9
    try clear hcz7_0
    try clear hcz7_1
    try clear hcz9_0
    try clear hcz9_1
    try clear hfz7_0
    try clear hfz7_1
    try clear hfz9_0
    try clear hfz9_1
    obtain ⟨kq, x15_2, rfl, HA, HJ2, BK374, HB⟩ := hcut
    cases kq with
    | zero => exact absurd HA.out (by simp [familychecklaw01_LinearSigns.j0])
    | succ kj2 =>
      have H := HA.out
      clear HA
      simp only [familychecklaw01_LinearSigns.j0] at H
      by_cases c11 : x15_2 = true
      · subst c11
        have H1 : ((familychecklaw01_known.f kj2).bind fun t376 => (some t376)) = some r := by rw [if_pos rfl] at H; exact H
        clear H
        have H := H1
        clear H1
        replace H := Option.bind_eq_some_iff.mp H
        obtain ⟨t376, A120, H⟩ := H
        replace H : (some t376) = some r := H
        have A12 := Aside0.mk A120
        clear A120
        obtain rfl := Option.some.inj H
        go_wp2_with (first | ((with_reducible refine gate_callee (f := 16) rfl ?_); refine goesL_ (some 16) rfl rfl Tryd.func16 (by kernel_rfl) rfl #[] rfl (by (try simp only [List.map_toArray, List.map_cons, List.map_nil]); first | done | rfl | (simp only [List.length_drop, List.length_take]; rfl)) ?_; (with_reducible refine (familychecklaw01_known.calls kj2  t376 _ A12.out).mono ?_); rintro e w13 ⟨rfl, hb⟩; refine ⟨_, rfl, ?_⟩; have n0_ := Aside0.mk (blk_below (g := gb374) (o := .cells #[.slice A0_0 l0_0.length c0_0, .int .i64 a0_1] 33 (0, 0)) (by (with_reducible repeat (first | refine blk_drewN ?_ _ | refine blk_drew ?_ | refine blk_alloc ?_ _)); exact BK374.out) hb); have n1_ := Aside0.mk (below_step (by repeat (first | (with_reducible first | exact HB.out | apply below_alloc | apply pw_below_drewN | apply below_drew1 | refine below_set ?_ GE374.out) | exact HB.out)) hb); clear BK374; clear HB; have BK374 := n0_; have HB := n1_; clear n0_ n1_; (try clear hb); (try clear hb2); (try clear hk); (try clear hi)))
        go_ret
        exact ⟨by first | rfl | (simp [errW_none, errW_some] <;> rfl) | (simp [*, errW_none, errW_some] <;> rfl), by repeat (first | (with_reducible first | exact HB.out | apply below_alloc | apply pw_below_drewN | apply below_drew1 | refine below_set ?_ GE374.out) | exact HB.out)⟩
      · replace c11 := Bool.eq_false_iff.mpr c11
        subst c11
        have H1 : ((linear_Contradictory.f kj2 l0_0 a0_1).bind fun t377 => ((linear_Trivial.f kj2 l0_0 a0_1).bind fun t378 => ((familycheckref01_Contradictory.f kj2 l0_0 a0_1).bind fun t379 => (if (t377 != t379) = true then (familychecklaw01_LinearSigns.j1 kj2 l1 t377 t378 true l0_0 a0_1) else ((familycheckref01_Trivial.f kj2 l0_0 a0_1).bind fun t380 => (if (t378 != t380) = true then (familychecklaw01_LinearSigns.j1 kj2 l1 t377 t378 true l0_0 a0_1) else (if t377 = true then (familychecklaw01_LinearSigns.j1 kj2 l1 t377 t378 t378 l0_0 a0_1) else (familychecklaw01_LinearSigns.j1 kj2 l1 t377 t378 false l0_0 a0_1)))))))) = some r := by rw [if_neg (show ¬ (false = true) by decide)] at H; exact H
        clear H
        have H := H1
        clear H1
        replace H := Option.bind_eq_some_iff.mp H
        obtain ⟨t377, A140, H⟩ := H
        replace H : ((linear_Trivial.f kj2 l0_0 a0_1).bind fun t378 => ((familycheckref01_Contradictory.f kj2 l0_0 a0_1).bind fun t379 => (if (t377 != t379) = true then (familychecklaw01_LinearSigns.j1 kj2 l1 t377 t378 true l0_0 a0_1) else ((familycheckref01_Trivial.f kj2 l0_0 a0_1).bind fun t380 => (if (t378 != t380) = true then (familychecklaw01_LinearSigns.j1 kj2 l1 t377 t378 true l0_0 a0_1) else (if t377 = true then (familychecklaw01_LinearSigns.j1 kj2 l1 t377 t378 t378 l0_0 a0_1) else (familychecklaw01_LinearSigns.j1 kj2 l1 t377 t378 false l0_0 a0_1))))))) = some r := H
        have A14 := Aside0.mk A140
        clear A140
        replace H := Option.bind_eq_some_iff.mp H
        obtain ⟨t378, A150, H⟩ := H
        replace H : ((familycheckref01_Contradictory.f kj2 l0_0 a0_1).bind fun t379 => (if (t377 != t379) = true then (familychecklaw01_LinearSigns.j1 kj2 l1 t377 t378 true l0_0 a0_1) else ((familycheckref01_Trivial.f kj2 l0_0 a0_1).bind fun t380 => (if (t378 != t380) = true then (familychecklaw01_LinearSigns.j1 kj2 l1 t377 t378 true l0_0 a0_1) else (if t377 = true then (familychecklaw01_LinearSigns.j1 kj2 l1 t377 t378 t378 l0_0 a0_1) else (familychecklaw01_LinearSigns.j1 kj2 l1 t377 t378 false l0_0 a0_1)))))) = some r := H
        have A15 := Aside0.mk A150
        clear A150
        have HC16 := Aside0.mk H
        clear H
        try go_wp2
        have n0_ := Aside0.mk (blk_drew BK374.out)
        have n1_ := Aside0.mk (below_drew1 HB.out)
        clear BK374
        clear HB
        have BK374 := n0_
        have HB := n1_
        clear n0_ n1_
        refine start_ (n := 6) (S := fun w' => w'.cell? ⟨gb374, 0, none⟩ = some (.slice A0_0 l0_0.length c0_0) ∧ w'.cell? ⟨gb374, 1, none⟩ = some (.int .i64 a0_1)) (ds := []) #[false, false, false, false, false, false] (by kernel_rfl) rfl rfl ⟨(blk_cell BK374.out 0).trans rfl, (blk_cell BK374.out 1).trans rfl⟩ (fun hHeld => ?_)
        generalize wc.drew = w17 at BK374 HB hHeld ⊢
        refine take_ (i := 0) (N := some 17) (v := ?_) (a' := ?_) #[true, false, false, false, false, false] rfl rfl (by kernel_rfl) (fun _ _ _ h => h) (Or.inl ⟨by rfl, ?_⟩) hHeld ?_ ?_
        rotate_left
        · rintro w' ⟨s0, s1⟩
          go_simp
          with_reducible rfl
        rotate_left
        · simp only [Act.put, List.setIfInBounds_toArray, List.set_cons_zero, List.set_cons_succ, i64_w, i32_w]
          rfl
        refine take_ (i := 2) (N := some 19) (v := ?_) (a' := ?_) #[true, false, true, false, false, false] rfl rfl (by kernel_rfl) (fun _ _ _ h => h) (Or.inl ⟨by rfl, ?_⟩) hHeld ?_ ?_
        rotate_left
        · rintro w' ⟨s0, s1⟩
          go_simp
          with_reducible rfl
        rotate_left
        · simp only [Act.put, List.setIfInBounds_toArray, List.set_cons_zero, List.set_cons_succ, i64_w, i32_w]
          rfl
        refine one_ (i := 1) (N := some 18) #[true, true, true, false, false, false] rfl rfl (by kernel_rfl) (by decide) (fun K hK => ?_)
        refine goes_ Tryd.func35 (by kernel_rfl) rfl #[.agg #[.slice A0_0 l0_0.length c0_0, .int .i64 a0_1]] (by rfl) rfl rfl (by (try simp only [List.map_toArray, List.map_cons, List.map_nil]); first | done | rfl | (simp only [List.length_drop, List.length_take]; rfl)) ?_
        with_reducible refine (linear_Contradictory.calls kj2 _ _ l0_0 a0_1 t377 _ ?side1 ?side2 A14.out).mono ?_
        (case side1 => repeat (first | exact (Kd.C_below HR0_0.out HB.out) | (with_reducible refine Kd.C_alloc ?_ _) | (with_reducible refine Kd.C_drewN ?_ _) | (with_reducible refine Kd.C_drew ?_)))
        (case side2 => exact HC0_0.out)
        rintro e w18 ⟨rfl, hb⟩
        refine ⟨_, rfl, ?_⟩
        have n0_ := Aside0.mk (blk_below (g := gb374) (o := .cells #[.slice A0_0 l0_0.length c0_0, .int .i64 a0_1] 33 (0, 0)) (by (with_reducible repeat (first | refine blk_drewN ?_ _ | refine blk_drew ?_ | refine blk_alloc ?_ _)); exact BK374.out) hb)
        have n1_ := Aside0.mk (below_step (by repeat (first | (with_reducible first | exact HB.out | apply below_alloc | apply pw_below_drewN | apply below_drew1 | refine below_set ?_ GE374.out) | exact HB.out)) hb)
        clear BK374
        clear HB
        have BK374 := n0_
        have HB := n1_
        clear n0_ n1_
        (try clear hb)
        (try clear hb2)
        (try clear hk)
        (try clear hi)
        refine hK.out _ _ ⟨(blk_cell BK374.out 0).trans rfl, (blk_cell BK374.out 1).trans rfl⟩ (fun hHeld => ?_)
        clear hK K
        refine norm_ (a' := ?_) ?_ ?_
        rotate_left
        · show Act.put _ (some 18) _ = _
          simp only [Act.put, List.setIfInBounds_toArray, List.set_cons_zero, List.set_cons_succ, i64_w, i32_w]
          rfl
        refine one_ (i := 3) (N := some 20) #[true, true, true, true, false, false] rfl rfl (by kernel_rfl) (by decide) (fun K hK => ?_)
        refine goes_ Tryd.func36 (by kernel_rfl) rfl #[.agg #[.slice A0_0 l0_0.length c0_0, .int .i64 a0_1]] (by rfl) rfl rfl (by (try simp only [List.map_toArray, List.map_cons, List.map_nil]); first | done | rfl | (simp only [List.length_drop, List.length_take]; rfl)) ?_
        with_reducible refine (linear_Trivial.calls kj2 _ _ l0_0 a0_1 t378 _ ?side1 ?side2 A15.out).mono ?_
        (case side1 => repeat (first | exact (Kd.C_below HR0_0.out HB.out) | (with_reducible refine Kd.C_alloc ?_ _) | (with_reducible refine Kd.C_drewN ?_ _) | (with_reducible refine Kd.C_drew ?_)))
        (case side2 => exact HC0_0.out)
        rintro e w19 ⟨rfl, hb⟩
        refine ⟨_, rfl, ?_⟩
        have n0_ := Aside0.mk (blk_below (g := gb374) (o := .cells #[.slice A0_0 l0_0.length c0_0, .int .i64 a0_1] 33 (0, 0)) (by (with_reducible repeat (first | refine blk_drewN ?_ _ | refine blk_drew ?_ | refine blk_alloc ?_ _)); exact BK374.out) hb)
        have n1_ := Aside0.mk (below_step (by repeat (first | (with_reducible first | exact HB.out | apply below_alloc | apply pw_below_drewN | apply below_drew1 | refine below_set ?_ GE374.out) | exact HB.out)) hb)
        clear BK374
        clear HB
        have BK374 := n0_
        have HB := n1_
        clear n0_ n1_
        (try clear hb)
        (try clear hb2)
        (try clear hk)
        (try clear hi)
        refine hK.out _ _ ⟨(blk_cell BK374.out 0).trans rfl, (blk_cell BK374.out 1).trans rfl⟩ (fun hHeld => ?_)
        clear hK K
        refine norm_ (a' := ?_) ?_ ?_
        rotate_left
        · show Act.put _ (some 20) _ = _
          simp only [Act.put, List.setIfInBounds_toArray, List.set_cons_zero, List.set_cons_succ, i64_w, i32_w]
          rfl
        refine pure_ (i := 4) (N := some 5) (v := ?_) (a' := ?_) #[true, true, true, true, true, false] rfl rfl (by kernel_rfl) (fun _ _ _ h => h) (Or.inl ⟨by rfl, ?_⟩) ?_ ?_
        rotate_left
        · intro w'
          go_simp
          with_reducible rfl
        rotate_left
        · simp only [Act.put, List.setIfInBounds_toArray, List.set_cons_zero, List.set_cons_succ, i64_w, i32_w]
          rfl
        refine pure_ (i := 5) (N := some 6) (v := ?_) (a' := ?_) #[true, true, true, true, true, true] rfl rfl (by kernel_rfl) (fun _ _ _ h => h) (Or.inl ⟨by rfl, ?_⟩) ?_ ?_
        rotate_left
        · intro w'
          go_simp
          with_reducible rfl
        rotate_left
        · simp only [Act.put, List.setIfInBounds_toArray, List.set_cons_zero, List.set_cons_succ, i64_w, i32_w]
          rfl
        refine done_ (by kernel_rfl) ?_
        go_upto_region 4 with (fail)
        go_cut [36] (fun v36 wc => ∃ (kq : Nat) (x36_15 : Bool), v36 = .bool x36_15 ∧ Aside0 (familychecklaw01_LinearSigns.j1 kq l1 t377 t378 x36_15 l0_0 a0_1 = some r) ∧ Aside0 (kq ≤ kj2) ∧ Aside0 (wc.heap[gb374]? = some (.cells #[(.slice A0_0 l0_0.length c0_0), .int .i64 a0_1] 33 (0, 0))) ∧ Aside0 (Below w.heap.size w wc))
        case first =>
          have H := HC16.out
          clear HC16
          replace H := Option.bind_eq_some_iff.mp H
          obtain ⟨t379, A200, H⟩ := H
          replace H : (if (t377 != t379) = true then (familychecklaw01_LinearSigns.j1 kj2 l1 t377 t378 true l0_0 a0_1) else ((familycheckref01_Trivial.f kj2 l0_0 a0_1).bind fun t380 => (if (t378 != t380) = true then (familychecklaw01_LinearSigns.j1 kj2 l1 t377 t378 true l0_0 a0_1) else (if t377 = true then (familychecklaw01_LinearSigns.j1 kj2 l1 t377 t378 t378 l0_0 a0_1) else (familychecklaw01_LinearSigns.j1 kj2 l1 t377 t378 false l0_0 a0_1))))) = some r := H
          have A20 := Aside0.mk A200
          clear A200
          by_cases c21 : (t377 != t379) = true
          · rw [if_pos c21] at H
            have c21b0 : (t377 != t379) = true := c21
            (try (have c21b1 : decide (t377 = t379) = false := by simpa using c21))
            (try (have c21b2 : (t377 == t379) = false := by simpa using c21))
            (try (have c21b3 : ¬ (t377 = t379) := by simpa using c21))
            clear c21
            (first | rw [c21b0] | (simp only [i64_w, i32_w]; rw [c21b0]) | skip)
            have H' := Aside0.mk H
            clear H
            have hcz22_0 : w19.cell? ⟨gb374, 0, none⟩ = some (.slice A0_0 l0_0.length c0_0) := (blk_cell BK374.out 0).trans rfl
            have hcz22_1 : w19.cell? ⟨gb374, 1, none⟩ = some (.int .i64 a0_1) := (blk_cell BK374.out 1).trans rfl
            have hfz22_0 := blk_frozen BK374.out 0
            have hfz22_1 := blk_frozen BK374.out 1
            go_wp2_with (first | ((with_reducible refine gate_callee (f := 37) rfl ?_); refine goesL_ (some 23) rfl rfl Tryd.func37 (by kernel_rfl) rfl #[.agg #[.slice A0_0 l0_0.length c0_0, .int .i64 a0_1]] rfl (by (try simp only [List.map_toArray, List.map_cons, List.map_nil]); first | done | rfl | (simp only [List.length_drop, List.length_take]; rfl)) ?_; (with_reducible refine (familycheckref01_Contradictory.calls kj2 _ _ l0_0 a0_1 t379 _ ?side1 ?side2 A20.out).mono ?_); (case side1 => repeat (first | exact (Kd.C_below HR0_0.out HB.out) | (with_reducible refine Kd.C_alloc ?_ _) | (with_reducible refine Kd.C_drewN ?_ _) | (with_reducible refine Kd.C_drew ?_))); (case side2 => exact HC0_0.out); rintro e w23 ⟨rfl, hb⟩; refine ⟨_, rfl, ?_⟩; have n0_ := Aside0.mk (blk_below (g := gb374) (o := .cells #[.slice A0_0 l0_0.length c0_0, .int .i64 a0_1] 33 (0, 0)) (by (with_reducible repeat (first | refine blk_drewN ?_ _ | refine blk_drew ?_ | refine blk_alloc ?_ _)); exact BK374.out) hb); have n1_ := Aside0.mk (below_step (by repeat (first | (with_reducible first | exact HB.out | apply below_alloc | apply pw_below_drewN | apply below_drew1 | refine below_set ?_ GE374.out) | exact HB.out)) hb); clear BK374; clear HB; have BK374 := n0_; have HB := n1_; clear n0_ n1_; (try clear hb); (try clear hb2); (try clear hk); (try clear hi)))
            go_meet
            case rel => exact ⟨_, (true), (by first | rfl | (simp; done) | (simp [*]; done)), H', ⟨by have := HJ2.out; first | omega | exact Nat.le_refl _⟩, ⟨by (with_reducible repeat (first | refine blk_drewN ?_ _ | refine blk_drew ?_ | refine blk_alloc ?_ _)); exact BK374.out⟩, ⟨by repeat (first | (with_reducible first | exact HB.out | apply below_alloc | apply pw_below_drewN | apply below_drew1 | refine below_set ?_ GE374.out) | exact HB.out)⟩⟩
          · rw [if_neg c21] at H
            have c21b0 : (t377 != t379) = false := by simpa using c21
            (try (have c21b1 : decide (t377 = t379) = true := by simpa using c21))
            (try (have c21b2 : (t377 == t379) = true := by simpa using c21))
            clear c21
            (first | rw [c21b0] | (simp only [i64_w, i32_w]; rw [c21b0]) | skip)
            replace H := Option.bind_eq_some_iff.mp H
            obtain ⟨t380, A240, H⟩ := H
            replace H : (if (t378 != t380) = true then (familychecklaw01_LinearSigns.j1 kj2 l1 t377 t378 true l0_0 a0_1) else (if t377 = true then (familychecklaw01_LinearSigns.j1 kj2 l1 t377 t378 t378 l0_0 a0_1) else (familychecklaw01_LinearSigns.j1 kj2 l1 t377 t378 false l0_0 a0_1))) = some r := H
            have A24 := Aside0.mk A240
            clear A240
            by_cases c25 : (t378 != t380) = true
            · rw [if_pos c25] at H
              have c25b0 : (t378 != t380) = true := c25
              (try (have c25b1 : decide (t378 = t380) = false := by simpa using c25))
              (try (have c25b2 : (t378 == t380) = false := by simpa using c25))
              (try (have c25b3 : ¬ (t378 = t380) := by simpa using c25))
              clear c25
              have H' := Aside0.mk H
              clear H
              have hcz26_0 : w19.cell? ⟨gb374, 0, none⟩ = some (.slice A0_0 l0_0.length c0_0) := (blk_cell BK374.out 0).trans rfl
              have hcz26_1 : w19.cell? ⟨gb374, 1, none⟩ = some (.int .i64 a0_1) := (blk_cell BK374.out 1).trans rfl
              have hfz26_0 := blk_frozen BK374.out 0
              have hfz26_1 := blk_frozen BK374.out 1
              go_wp2_with (first | ((with_reducible refine gate_callee (f := 37) rfl ?_); refine goesL_ (some 23) rfl rfl Tryd.func37 (by kernel_rfl) rfl #[.agg #[.slice A0_0 l0_0.length c0_0, .int .i64 a0_1]] rfl (by (try simp only [List.map_toArray, List.map_cons, List.map_nil]); first | done | rfl | (simp only [List.length_drop, List.length_take]; rfl)) ?_; (with_reducible refine (familycheckref01_Contradictory.calls kj2 _ _ l0_0 a0_1 t379 _ ?side1 ?side2 A20.out).mono ?_); (case side1 => repeat (first | exact (Kd.C_below HR0_0.out HB.out) | (with_reducible refine Kd.C_alloc ?_ _) | (with_reducible refine Kd.C_drewN ?_ _) | (with_reducible refine Kd.C_drew ?_))); (case side2 => exact HC0_0.out); rintro e w27 ⟨rfl, hb⟩; refine ⟨_, rfl, ?_⟩; have n0_ := Aside0.mk (blk_below (g := gb374) (o := .cells #[.slice A0_0 l0_0.length c0_0, .int .i64 a0_1] 33 (0, 0)) (by (with_reducible repeat (first | refine blk_drewN ?_ _ | refine blk_drew ?_ | refine blk_alloc ?_ _)); exact BK374.out) hb); have n1_ := Aside0.mk (below_step (by repeat (first | (with_reducible first | exact HB.out | apply below_alloc | apply pw_below_drewN | apply below_drew1 | refine below_set ?_ GE374.out) | exact HB.out)) hb); clear BK374; clear HB; have BK374 := n0_; have HB := n1_; clear n0_ n1_; (try clear hb); (try clear hb2); (try clear hk); (try clear hi); have hcz28_0 : w27.cell? ⟨gb374, 0, none⟩ = some (.slice A0_0 l0_0.length c0_0) := (blk_cell BK374.out 0).trans rfl; have hcz28_1 : w27.cell? ⟨gb374, 1, none⟩ = some (.int .i64 a0_1) := (blk_cell BK374.out 1).trans rfl; have hfz28_0 := blk_frozen BK374.out 0; have hfz28_1 := blk_frozen BK374.out 1) | (go_at_call 38; (with_reducible refine (familycheckref01_Trivial.calls kj2 _ _ l0_0 a0_1 t380 _ ?side1 ?side2 A24.out).mono ?_); (case side1 => repeat (first | exact (Kd.C_below HR0_0.out HB.out) | (with_reducible refine Kd.C_alloc ?_ _) | (with_reducible refine Kd.C_drewN ?_ _) | (with_reducible refine Kd.C_drew ?_))); (case side2 => exact HC0_0.out); rintro e w29 ⟨rfl, hb⟩; have n0_ := Aside0.mk (blk_below (g := gb374) (o := .cells #[.slice A0_0 l0_0.length c0_0, .int .i64 a0_1] 33 (0, 0)) (by (with_reducible repeat (first | refine blk_drewN ?_ _ | refine blk_drew ?_ | refine blk_alloc ?_ _)); exact BK374.out) hb); have n1_ := Aside0.mk (below_step (by repeat (first | (with_reducible first | exact HB.out | apply below_alloc | apply pw_below_drewN | apply below_drew1 | refine below_set ?_ GE374.out) | exact HB.out)) hb); clear BK374; clear HB; have BK374 := n0_; have HB := n1_; clear n0_ n1_; (try clear hb); (try clear hb2); (try clear hk); (try clear hi)))
              go_meet
              case rel => exact ⟨_, (true), (by first | rfl | (simp; done) | (simp [*]; done)), H', ⟨by have := HJ2.out; first | omega | exact Nat.le_refl _⟩, ⟨by (with_reducible repeat (first | refine blk_drewN ?_ _ | refine blk_drew ?_ | refine blk_alloc ?_ _)); exact BK374.out⟩, ⟨by repeat (first | (with_reducible first | exact HB.out | apply below_alloc | apply pw_below_drewN | apply below_drew1 | refine below_set ?_ GE374.out) | exact HB.out)⟩⟩
            · rw [if_neg c25] at H
              have c25b0 : (t378 != t380) = false := by simpa using c25
              (try (have c25b1 : decide (t378 = t380) = true := by simpa using c25))
              (try (have c25b2 : (t378 == t380) = true := by simpa using c25))
              clear c25
              by_cases c30 : t377 = true
              · subst c30
                have H1 : (familychecklaw01_LinearSigns.j1 kj2 l1 true t378 t378 l0_0 a0_1) = some r := by rw [if_pos rfl] at H; exact H
                clear H
                have H := H1
                clear H1
                have H' := Aside0.mk H
                clear H
                have hcz31_0 : w19.cell? ⟨gb374, 0, none⟩ = some (.slice A0_0 l0_0.length c0_0) := (blk_cell BK374.out 0).trans rfl
                have hcz31_1 : w19.cell? ⟨gb374, 1, none⟩ = some (.int .i64 a0_1) := (blk_cell BK374.out 1).trans rfl
                have hfz31_0 := blk_frozen BK374.out 0
                have hfz31_1 := blk_frozen BK374.out 1
                go_wp2_with (first | ((with_reducible refine gate_callee (f := 37) rfl ?_); refine goesL_ (some 23) rfl rfl Tryd.func37 (by kernel_rfl) rfl #[.agg #[.slice A0_0 l0_0.length c0_0, .int .i64 a0_1]] rfl (by (try simp only [List.map_toArray, List.map_cons, List.map_nil]); first | done | rfl | (simp only [List.length_drop, List.length_take]; rfl)) ?_; (with_reducible refine (familycheckref01_Contradictory.calls kj2 _ _ l0_0 a0_1 t379 _ ?side1 ?side2 A20.out).mono ?_); (case side1 => repeat (first | exact (Kd.C_below HR0_0.out HB.out) | (with_reducible refine Kd.C_alloc ?_ _) | (with_reducible refine Kd.C_drewN ?_ _) | (with_reducible refine Kd.C_drew ?_))); (case side2 => exact HC0_0.out); rintro e w32 ⟨rfl, hb⟩; refine ⟨_, rfl, ?_⟩; have n0_ := Aside0.mk (blk_below (g := gb374) (o := .cells #[.slice A0_0 l0_0.length c0_0, .int .i64 a0_1] 33 (0, 0)) (by (with_reducible repeat (first | refine blk_drewN ?_ _ | refine blk_drew ?_ | refine blk_alloc ?_ _)); exact BK374.out) hb); have n1_ := Aside0.mk (below_step (by repeat (first | (with_reducible first | exact HB.out | apply below_alloc | apply pw_below_drewN | apply below_drew1 | refine below_set ?_ GE374.out) | exact HB.out)) hb); clear BK374; clear HB; have BK374 := n0_; have HB := n1_; clear n0_ n1_; (try clear hb); (try clear hb2); (try clear hk); (try clear hi); have hcz33_0 : w32.cell? ⟨gb374, 0, none⟩ = some (.slice A0_0 l0_0.length c0_0) := (blk_cell BK374.out 0).trans rfl; have hcz33_1 : w32.cell? ⟨gb374, 1, none⟩ = some (.int .i64 a0_1) := (blk_cell BK374.out 1).trans rfl; have hfz33_0 := blk_frozen BK374.out 0; have hfz33_1 := blk_frozen BK374.out 1) | (go_at_call 38; (with_reducible refine (familycheckref01_Trivial.calls kj2 _ _ l0_0 a0_1 t380 _ ?side1 ?side2 A24.out).mono ?_); (case side1 => repeat (first | exact (Kd.C_below HR0_0.out HB.out) | (with_reducible refine Kd.C_alloc ?_ _) | (with_reducible refine Kd.C_drewN ?_ _) | (with_reducible refine Kd.C_drew ?_))); (case side2 => exact HC0_0.out); rintro e w34 ⟨rfl, hb⟩; have n0_ := Aside0.mk (blk_below (g := gb374) (o := .cells #[.slice A0_0 l0_0.length c0_0, .int .i64 a0_1] 33 (0, 0)) (by (with_reducible repeat (first | refine blk_drewN ?_ _ | refine blk_drew ?_ | refine blk_alloc ?_ _)); exact BK374.out) hb); have n1_ := Aside0.mk (below_step (by repeat (first | (with_reducible first | exact HB.out | apply below_alloc | apply pw_below_drewN | apply below_drew1 | refine below_set ?_ GE374.out) | exact HB.out)) hb); clear BK374; clear HB; have BK374 := n0_; have HB := n1_; clear n0_ n1_; (try clear hb); (try clear hb2); (try clear hk); (try clear hi)))
                go_meet
                case rel => exact ⟨_, (t378), (by first | rfl | (simp; done) | (simp [*]; done)), H', ⟨by have := HJ2.out; first | omega | exact Nat.le_refl _⟩, ⟨by (with_reducible repeat (first | refine blk_drewN ?_ _ | refine blk_drew ?_ | refine blk_alloc ?_ _)); exact BK374.out⟩, ⟨by repeat (first | (with_reducible first | exact HB.out | apply below_alloc | apply pw_below_drewN | apply below_drew1 | refine below_set ?_ GE374.out) | exact HB.out)⟩⟩
              · replace c30 := Bool.eq_false_iff.mpr c30
                subst c30
                have H1 : (familychecklaw01_LinearSigns.j1 kj2 l1 false t378 false l0_0 a0_1) = some r := by rw [if_neg (show ¬ (false = true) by decide)] at H; exact H
                clear H
                have H := H1
                clear H1
                have H' := Aside0.mk H
                clear H
                have hcz35_0 : w19.cell? ⟨gb374, 0, none⟩ = some (.slice A0_0 l0_0.length c0_0) := (blk_cell BK374.out 0).trans rfl
                have hcz35_1 : w19.cell? ⟨gb374, 1, none⟩ = some (.int .i64 a0_1) := (blk_cell BK374.out 1).trans rfl
                have hfz35_0 := blk_frozen BK374.out 0
                have hfz35_1 := blk_frozen BK374.out 1
                go_wp2_with (first | ((with_reducible refine gate_callee (f := 37) rfl ?_); refine goesL_ (some 23) rfl rfl Tryd.func37 (by kernel_rfl) rfl #[.agg #[.slice A0_0 l0_0.length c0_0, .int .i64 a0_1]] rfl (by (try simp only [List.map_toArray, List.map_cons, List.map_nil]); first | done | rfl | (simp only [List.length_drop, List.length_take]; rfl)) ?_; (with_reducible refine (familycheckref01_Contradictory.calls kj2 _ _ l0_0 a0_1 t379 _ ?side1 ?side2 A20.out).mono ?_); (case side1 => repeat (first | exact (Kd.C_below HR0_0.out HB.out) | (with_reducible refine Kd.C_alloc ?_ _) | (with_reducible refine Kd.C_drewN ?_ _) | (with_reducible refine Kd.C_drew ?_))); (case side2 => exact HC0_0.out); rintro e w36 ⟨rfl, hb⟩; refine ⟨_, rfl, ?_⟩; have n0_ := Aside0.mk (blk_below (g := gb374) (o := .cells #[.slice A0_0 l0_0.length c0_0, .int .i64 a0_1] 33 (0, 0)) (by (with_reducible repeat (first | refine blk_drewN ?_ _ | refine blk_drew ?_ | refine blk_alloc ?_ _)); exact BK374.out) hb); have n1_ := Aside0.mk (below_step (by repeat (first | (with_reducible first | exact HB.out | apply below_alloc | apply pw_below_drewN | apply below_drew1 | refine below_set ?_ GE374.out) | exact HB.out)) hb); clear BK374; clear HB; have BK374 := n0_; have HB := n1_; clear n0_ n1_; (try clear hb); (try clear hb2); (try clear hk); (try clear hi); have hcz37_0 : w36.cell? ⟨gb374, 0, none⟩ = some (.slice A0_0 l0_0.length c0_0) := (blk_cell BK374.out 0).trans rfl; have hcz37_1 : w36.cell? ⟨gb374, 1, none⟩ = some (.int .i64 a0_1) := (blk_cell BK374.out 1).trans rfl; have hfz37_0 := blk_frozen BK374.out 0; have hfz37_1 := blk_frozen BK374.out 1) | (go_at_call 38; (with_reducible refine (familycheckref01_Trivial.calls kj2 _ _ l0_0 a0_1 t380 _ ?side1 ?side2 A24.out).mono ?_); (case side1 => repeat (first | exact (Kd.C_below HR0_0.out HB.out) | (with_reducible refine Kd.C_alloc ?_ _) | (with_reducible refine Kd.C_drewN ?_ _) | (with_reducible refine Kd.C_drew ?_))); (case side2 => exact HC0_0.out); rintro e w38 ⟨rfl, hb⟩; have n0_ := Aside0.mk (blk_below (g := gb374) (o := .cells #[.slice A0_0 l0_0.length c0_0, .int .i64 a0_1] 33 (0, 0)) (by (with_reducible repeat (first | refine blk_drewN ?_ _ | refine blk_drew ?_ | refine blk_alloc ?_ _)); exact BK374.out) hb); have n1_ := Aside0.mk (below_step (by repeat (first | (with_reducible first | exact HB.out | apply below_alloc | apply pw_below_drewN | apply below_drew1 | refine below_set ?_ GE374.out) | exact HB.out)) hb); clear BK374; clear HB; have BK374 := n0_; have HB := n1_; clear n0_ n1_; (try clear hb); (try clear hb2); (try clear hk); (try clear hi)))
                go_meet
                case rel => exact ⟨_, (false), (by first | rfl | (simp; done) | (simp [*]; done)), H', ⟨by have := HJ2.out; first | omega | exact Nat.le_refl _⟩, ⟨by (with_reducible repeat (first | refine blk_drewN ?_ _ | refine blk_drew ?_ | refine blk_alloc ?_ _)); exact BK374.out⟩, ⟨by repeat (first | (with_reducible first | exact HB.out | apply below_alloc | apply pw_below_drewN | apply below_drew1 | refine below_set ?_ GE374.out) | exact HB.out)⟩⟩
        case rest =>
          clear HC16
          try clear c1
          try clear c2
          try clear p2
          try clear c3
          try clear c6
          try clear c9
          try clear c11
          try clear c16
          try clear c21
          try clear c21b0
          try clear c21b1
          try clear c21b2
          try clear c25
          try clear c25b0
          try clear c25b1
          try clear c25b2
          try clear c30
          try clear c35
          try clear c36
          try clear c37
          try clear hcz22_0
          try clear hcz22_1
          try clear hcz26_0
          try clear hcz26_1
          try clear hcz28_0
          try clear hcz28_1
          try clear hcz31_0
          try clear hcz31_1
          try clear hcz33_0
          try clear hcz33_1
          try clear hcz35_0
          try clear hcz35_1
          try clear hcz37_0
          try clear hcz37_1
          try clear hcz7_0
          try clear hcz7_1
          try clear hcz9_0
          try clear hcz9_1
          try clear hfz22_0
          try clear hfz22_1
          try clear hfz26_0
          try clear hfz26_1
          try clear hfz28_0
          try clear hfz28_1
          try clear hfz31_0
          try clear hfz31_1
          try clear hfz33_0
          try clear hfz33_1
          try clear hfz35_0
          try clear hfz35_1
          try clear hfz37_0
          try clear hfz37_1
          try clear hfz7_0
          try clear hfz7_1
          try clear hfz9_0
          try clear hfz9_1
          try clear p2
          obtain ⟨kq, x36_15, rfl, HA, HJ15, BK374, HB⟩ := hcut
          cases kq with
          | zero => exact absurd HA.out (by simp [familychecklaw01_LinearSigns.j1])
          | succ kj15 =>
            have H := HA.out
            clear HA
            simp only [familychecklaw01_LinearSigns.j1] at H
            by_cases c39 : x36_15 = true
            · subst c39
              have H1 : (some false) = some r := by rw [if_pos rfl] at H; exact H
              clear H
              have H := H1
              clear H1
              obtain rfl := Option.some.inj H
              go_wp2
              go_ret
              exact ⟨by first | rfl | (simp [errW_none, errW_some] <;> rfl) | (simp [*, errW_none, errW_some] <;> rfl), by repeat (first | (with_reducible first | exact HB.out | apply below_alloc | apply pw_below_drewN | apply below_drew1 | refine below_set ?_ GE374.out) | exact HB.out)⟩
            · replace c39 := Bool.eq_false_iff.mpr c39
              subst c39
              have H1 : ((linear_Value.f kj15 l0_0 a0_1 l1).bind fun bt381 => (if bt381.2 = 0 then (if t377 = true then (if bt381.1 < 0 then (if t378 = true then (if bt381.1 ≥ 0 then ((familychecklaw01_known.f kj15).bind fun t383 => (some t383)) else (some false)) else ((familychecklaw01_known.f kj15).bind fun t384 => (some t384))) else (some false)) else (if t378 = true then (if bt381.1 ≥ 0 then ((familychecklaw01_known.f kj15).bind fun t385 => (some t385)) else (some false)) else ((familychecklaw01_known.f kj15).bind fun t386 => (some t386)))) else ((familychecklaw01_known.f kj15).bind fun t387 => (some t387)))) = some r := by rw [if_neg (show ¬ (false = true) by decide)] at H; exact H
              clear H
              have H := H1
              clear H1
              replace H := Option.bind_eq_some_iff.mp H
              obtain ⟨⟨t381, t382⟩, A400, H⟩ := H
              replace H : (if t382 = 0 then (if t377 = true then (if t381 < 0 then (if t378 = true then (if t381 ≥ 0 then ((familychecklaw01_known.f kj15).bind fun t383 => (some t383)) else (some false)) else ((familychecklaw01_known.f kj15).bind fun t384 => (some t384))) else (some false)) else (if t378 = true then (if t381 ≥ 0 then ((familychecklaw01_known.f kj15).bind fun t385 => (some t385)) else (some false)) else ((familychecklaw01_known.f kj15).bind fun t386 => (some t386)))) else ((familychecklaw01_known.f kj15).bind fun t387 => (some t387))) = some r := H
              have A40 := Aside0.mk A400
              clear A400
              by_cases c41 : t382 = 0
              · rw [if_pos c41] at H
                have c41b0 : (t382 == 0) = true := beq_iff_eq.mpr c41
                have c41b1 : (t382 != 0) = false := bne_eq_false_iff_eq.mpr c41
                clear c41
                by_cases c42 : t377 = true
                · subst c42
                  have H1 : (if t381 < 0 then (if t378 = true then (if t381 ≥ 0 then ((familychecklaw01_known.f kj15).bind fun t383 => (some t383)) else (some false)) else ((familychecklaw01_known.f kj15).bind fun t384 => (some t384))) else (some false)) = some r := by rw [if_pos rfl] at H; exact H
                  clear H
                  have H := H1
                  clear H1
                  by_cases c43 : t381 < 0
                  · rw [if_pos c43] at H
                    have c43b0 : decide (t381 < 0) = true := decide_eq_true c43
                    clear c43
                    by_cases c44 : t378 = true
                    · subst c44
                      have H1 : (if t381 ≥ 0 then ((familychecklaw01_known.f kj15).bind fun t383 => (some t383)) else (some false)) = some r := by rw [if_pos rfl] at H; exact H
                      clear H
                      have H := H1
                      clear H1
                      by_cases c45 : t381 ≥ 0
                      · rw [if_pos c45] at H
                        have c45b0 : decide (0 ≤ t381) = true := decide_eq_true c45
                        clear c45
                        replace H := Option.bind_eq_some_iff.mp H
                        obtain ⟨t383, A460, H⟩ := H
                        replace H : (some t383) = some r := H
                        have A46 := Aside0.mk A460
                        clear A460
                        obtain rfl := Option.some.inj H
                        have hcz47_0 : wc.cell? ⟨gb374, 0, none⟩ = some (.slice A0_0 l0_0.length c0_0) := (blk_cell BK374.out 0).trans rfl
                        have hcz47_1 : wc.cell? ⟨gb374, 1, none⟩ = some (.int .i64 a0_1) := (blk_cell BK374.out 1).trans rfl
                        have hfz47_0 := blk_frozen BK374.out 0
                        have hfz47_1 := blk_frozen BK374.out 1
                        go_wp2_with (first | ((with_reducible refine gate_callee (f := 22) rfl ?_); refine goesL_ (some 40) rfl rfl Tryd.func22 (by kernel_rfl) rfl #[.agg #[.slice A0_0 l0_0.length c0_0, .int .i64 a0_1], .slice A1 l1.length c1] rfl (by (try simp only [List.map_toArray, List.map_cons, List.map_nil]); first | done | rfl | (simp only [List.length_drop, List.length_take]; rfl)) ?_; (with_reducible refine (linear_Value.calls kj15 _ _ l0_0 a0_1 _ _ l1 t381 t382 _ ?side1 ?side2 ?side3 ?side4 A40.out).mono ?_); (case side1 => repeat (first | exact (Kd.C_below HR0_0.out HB.out) | (with_reducible refine Kd.C_alloc ?_ _) | (with_reducible refine Kd.C_drewN ?_ _) | (with_reducible refine Kd.C_drew ?_))); (case side2 => exact HC0_0.out); (case side3 => repeat (first | exact (Kd.C_below HR1.out HB.out) | (with_reducible refine Kd.C_alloc ?_ _) | (with_reducible refine Kd.C_drewN ?_ _) | (with_reducible refine Kd.C_drew ?_))); (case side4 => exact HC1.out); rintro e w48 ⟨rfl, hb⟩; refine ⟨_, rfl, ?_⟩; have n0_ := Aside0.mk (blk_below (g := gb374) (o := .cells #[.slice A0_0 l0_0.length c0_0, .int .i64 a0_1] 33 (0, 0)) (by (with_reducible repeat (first | refine blk_drewN ?_ _ | refine blk_drew ?_ | refine blk_alloc ?_ _)); exact BK374.out) hb); have n1_ := Aside0.mk (below_step (by repeat (first | (with_reducible first | exact HB.out | apply below_alloc | apply pw_below_drewN | apply below_drew1 | refine below_set ?_ GE374.out) | exact HB.out)) hb); clear BK374; clear HB; have BK374 := n0_; have HB := n1_; clear n0_ n1_; (try clear hb); (try clear hb2); (try clear hk); (try clear hi)) | (go_at_call 16; (with_reducible refine (familychecklaw01_known.calls kj15  t383 _ A46.out).mono ?_); rintro e w49 ⟨rfl, hb⟩; have n0_ := Aside0.mk (blk_below (g := gb374) (o := .cells #[.slice A0_0 l0_0.length c0_0, .int .i64 a0_1] 33 (0, 0)) (by (with_reducible repeat (first | refine blk_drewN ?_ _ | refine blk_drew ?_ | refine blk_alloc ?_ _)); exact BK374.out) hb); have n1_ := Aside0.mk (below_step (by repeat (first | (with_reducible first | exact HB.out | apply below_alloc | apply pw_below_drewN | apply below_drew1 | refine below_set ?_ GE374.out) | exact HB.out)) hb); clear BK374; clear HB; have BK374 := n0_; have HB := n1_; clear n0_ n1_; (try clear hb); (try clear hb2); (try clear hk); (try clear hi)))
                        go_ret
                        exact ⟨by first | rfl | (simp [errW_none, errW_some] <;> rfl) | (simp [*, errW_none, errW_some] <;> rfl), by repeat (first | (with_reducible first | exact HB.out | apply below_alloc | apply pw_below_drewN | apply below_drew1 | refine below_set ?_ GE374.out) | exact HB.out)⟩
                      · rw [if_neg c45] at H
                        have c45b0 : decide (0 ≤ t381) = false := decide_eq_false c45
                        clear c45
                        obtain rfl := Option.some.inj H
                        have hcz50_0 : wc.cell? ⟨gb374, 0, none⟩ = some (.slice A0_0 l0_0.length c0_0) := (blk_cell BK374.out 0).trans rfl
                        have hcz50_1 : wc.cell? ⟨gb374, 1, none⟩ = some (.int .i64 a0_1) := (blk_cell BK374.out 1).trans rfl
                        have hfz50_0 := blk_frozen BK374.out 0
                        have hfz50_1 := blk_frozen BK374.out 1
                        go_wp2_with (first | ((with_reducible refine gate_callee (f := 22) rfl ?_); refine goesL_ (some 40) rfl rfl Tryd.func22 (by kernel_rfl) rfl #[.agg #[.slice A0_0 l0_0.length c0_0, .int .i64 a0_1], .slice A1 l1.length c1] rfl (by (try simp only [List.map_toArray, List.map_cons, List.map_nil]); first | done | rfl | (simp only [List.length_drop, List.length_take]; rfl)) ?_; (with_reducible refine (linear_Value.calls kj15 _ _ l0_0 a0_1 _ _ l1 t381 t382 _ ?side1 ?side2 ?side3 ?side4 A40.out).mono ?_); (case side1 => repeat (first | exact (Kd.C_below HR0_0.out HB.out) | (with_reducible refine Kd.C_alloc ?_ _) | (with_reducible refine Kd.C_drewN ?_ _) | (with_reducible refine Kd.C_drew ?_))); (case side2 => exact HC0_0.out); (case side3 => repeat (first | exact (Kd.C_below HR1.out HB.out) | (with_reducible refine Kd.C_alloc ?_ _) | (with_reducible refine Kd.C_drewN ?_ _) | (with_reducible refine Kd.C_drew ?_))); (case side4 => exact HC1.out); rintro e w51 ⟨rfl, hb⟩; refine ⟨_, rfl, ?_⟩; have n0_ := Aside0.mk (blk_below (g := gb374) (o := .cells #[.slice A0_0 l0_0.length c0_0, .int .i64 a0_1] 33 (0, 0)) (by (with_reducible repeat (first | refine blk_drewN ?_ _ | refine blk_drew ?_ | refine blk_alloc ?_ _)); exact BK374.out) hb); have n1_ := Aside0.mk (below_step (by repeat (first | (with_reducible first | exact HB.out | apply below_alloc | apply pw_below_drewN | apply below_drew1 | refine below_set ?_ GE374.out) | exact HB.out)) hb); clear BK374; clear HB; have BK374 := n0_; have HB := n1_; clear n0_ n1_; (try clear hb); (try clear hb2); (try clear hk); (try clear hi)))
                        go_ret
                        exact ⟨by first | rfl | (simp [errW_none, errW_some] <;> rfl) | (simp [*, errW_none, errW_some] <;> rfl), by repeat (first | (with_reducible first | exact HB.out | apply below_alloc | apply pw_below_drewN | apply below_drew1 | refine below_set ?_ GE374.out) | exact HB.out)⟩
                    · replace c44 := Bool.eq_false_iff.mpr c44
                      subst c44
                      have H1 : ((familychecklaw01_known.f kj15).bind fun t384 => (some t384)) = some r := by rw [if_neg (show ¬ (false = true) by decide)] at H; exact H
                      clear H
                      have H := H1
                      clear H1
                      replace H := Option.bind_eq_some_iff.mp H
                      obtain ⟨t384, A520, H⟩ := H
                      replace H : (some t384) = some r := H
                      have A52 := Aside0.mk A520
                      clear A520
                      obtain rfl := Option.some.inj H
                      have hcz53_0 : wc.cell? ⟨gb374, 0, none⟩ = some (.slice A0_0 l0_0.length c0_0) := (blk_cell BK374.out 0).trans rfl
                      have hcz53_1 : wc.cell? ⟨gb374, 1, none⟩ = some (.int .i64 a0_1) := (blk_cell BK374.out 1).trans rfl
                      have hfz53_0 := blk_frozen BK374.out 0
                      have hfz53_1 := blk_frozen BK374.out 1
                      go_wp2_with (first | ((with_reducible refine gate_callee (f := 22) rfl ?_); refine goesL_ (some 40) rfl rfl Tryd.func22 (by kernel_rfl) rfl #[.agg #[.slice A0_0 l0_0.length c0_0, .int .i64 a0_1], .slice A1 l1.length c1] rfl (by (try simp only [List.map_toArray, List.map_cons, List.map_nil]); first | done | rfl | (simp only [List.length_drop, List.length_take]; rfl)) ?_; (with_reducible refine (linear_Value.calls kj15 _ _ l0_0 a0_1 _ _ l1 t381 t382 _ ?side1 ?side2 ?side3 ?side4 A40.out).mono ?_); (case side1 => repeat (first | exact (Kd.C_below HR0_0.out HB.out) | (with_reducible refine Kd.C_alloc ?_ _) | (with_reducible refine Kd.C_drewN ?_ _) | (with_reducible refine Kd.C_drew ?_))); (case side2 => exact HC0_0.out); (case side3 => repeat (first | exact (Kd.C_below HR1.out HB.out) | (with_reducible refine Kd.C_alloc ?_ _) | (with_reducible refine Kd.C_drewN ?_ _) | (with_reducible refine Kd.C_drew ?_))); (case side4 => exact HC1.out); rintro e w54 ⟨rfl, hb⟩; refine ⟨_, rfl, ?_⟩; have n0_ := Aside0.mk (blk_below (g := gb374) (o := .cells #[.slice A0_0 l0_0.length c0_0, .int .i64 a0_1] 33 (0, 0)) (by (with_reducible repeat (first | refine blk_drewN ?_ _ | refine blk_drew ?_ | refine blk_alloc ?_ _)); exact BK374.out) hb); have n1_ := Aside0.mk (below_step (by repeat (first | (with_reducible first | exact HB.out | apply below_alloc | apply pw_below_drewN | apply below_drew1 | refine below_set ?_ GE374.out) | exact HB.out)) hb); clear BK374; clear HB; have BK374 := n0_; have HB := n1_; clear n0_ n1_; (try clear hb); (try clear hb2); (try clear hk); (try clear hi)) | (go_at_call 16; (with_reducible refine (familychecklaw01_known.calls kj15  t384 _ A52.out).mono ?_); rintro e w55 ⟨rfl, hb⟩; have n0_ := Aside0.mk (blk_below (g := gb374) (o := .cells #[.slice A0_0 l0_0.length c0_0, .int .i64 a0_1] 33 (0, 0)) (by (with_reducible repeat (first | refine blk_drewN ?_ _ | refine blk_drew ?_ | refine blk_alloc ?_ _)); exact BK374.out) hb); have n1_ := Aside0.mk (below_step (by repeat (first | (with_reducible first | exact HB.out | apply below_alloc | apply pw_below_drewN | apply below_drew1 | refine below_set ?_ GE374.out) | exact HB.out)) hb); clear BK374; clear HB; have BK374 := n0_; have HB := n1_; clear n0_ n1_; (try clear hb); (try clear hb2); (try clear hk); (try clear hi)))
                      go_ret
                      exact ⟨by first | rfl | (simp [errW_none, errW_some] <;> rfl) | (simp [*, errW_none, errW_some] <;> rfl), by repeat (first | (with_reducible first | exact HB.out | apply below_alloc | apply pw_below_drewN | apply below_drew1 | refine below_set ?_ GE374.out) | exact HB.out)⟩
                  · rw [if_neg c43] at H
                    have c43b0 : decide (t381 < 0) = false := decide_eq_false c43
                    clear c43
                    obtain rfl := Option.some.inj H
                    have hcz56_0 : wc.cell? ⟨gb374, 0, none⟩ = some (.slice A0_0 l0_0.length c0_0) := (blk_cell BK374.out 0).trans rfl
                    have hcz56_1 : wc.cell? ⟨gb374, 1, none⟩ = some (.int .i64 a0_1) := (blk_cell BK374.out 1).trans rfl
                    have hfz56_0 := blk_frozen BK374.out 0
                    have hfz56_1 := blk_frozen BK374.out 1
                    go_wp2_with (first | ((with_reducible refine gate_callee (f := 22) rfl ?_); refine goesL_ (some 40) rfl rfl Tryd.func22 (by kernel_rfl) rfl #[.agg #[.slice A0_0 l0_0.length c0_0, .int .i64 a0_1], .slice A1 l1.length c1] rfl (by (try simp only [List.map_toArray, List.map_cons, List.map_nil]); first | done | rfl | (simp only [List.length_drop, List.length_take]; rfl)) ?_; (with_reducible refine (linear_Value.calls kj15 _ _ l0_0 a0_1 _ _ l1 t381 t382 _ ?side1 ?side2 ?side3 ?side4 A40.out).mono ?_); (case side1 => repeat (first | exact (Kd.C_below HR0_0.out HB.out) | (with_reducible refine Kd.C_alloc ?_ _) | (with_reducible refine Kd.C_drewN ?_ _) | (with_reducible refine Kd.C_drew ?_))); (case side2 => exact HC0_0.out); (case side3 => repeat (first | exact (Kd.C_below HR1.out HB.out) | (with_reducible refine Kd.C_alloc ?_ _) | (with_reducible refine Kd.C_drewN ?_ _) | (with_reducible refine Kd.C_drew ?_))); (case side4 => exact HC1.out); rintro e w57 ⟨rfl, hb⟩; refine ⟨_, rfl, ?_⟩; have n0_ := Aside0.mk (blk_below (g := gb374) (o := .cells #[.slice A0_0 l0_0.length c0_0, .int .i64 a0_1] 33 (0, 0)) (by (with_reducible repeat (first | refine blk_drewN ?_ _ | refine blk_drew ?_ | refine blk_alloc ?_ _)); exact BK374.out) hb); have n1_ := Aside0.mk (below_step (by repeat (first | (with_reducible first | exact HB.out | apply below_alloc | apply pw_below_drewN | apply below_drew1 | refine below_set ?_ GE374.out) | exact HB.out)) hb); clear BK374; clear HB; have BK374 := n0_; have HB := n1_; clear n0_ n1_; (try clear hb); (try clear hb2); (try clear hk); (try clear hi)))
                    go_ret
                    exact ⟨by first | rfl | (simp [errW_none, errW_some] <;> rfl) | (simp [*, errW_none, errW_some] <;> rfl), by repeat (first | (with_reducible first | exact HB.out | apply below_alloc | apply pw_below_drewN | apply below_drew1 | refine below_set ?_ GE374.out) | exact HB.out)⟩
                · replace c42 := Bool.eq_false_iff.mpr c42
                  subst c42
                  have H1 : (if t378 = true then (if t381 ≥ 0 then ((familychecklaw01_known.f kj15).bind fun t385 => (some t385)) else (some false)) else ((familychecklaw01_known.f kj15).bind fun t386 => (some t386))) = some r := by rw [if_neg (show ¬ (false = true) by decide)] at H; exact H
                  clear H
                  have H := H1
                  clear H1
                  by_cases c58 : t378 = true
                  · subst c58
                    have H1 : (if t381 ≥ 0 then ((familychecklaw01_known.f kj15).bind fun t385 => (some t385)) else (some false)) = some r := by rw [if_pos rfl] at H; exact H
                    clear H
                    have H := H1
                    clear H1
                    by_cases c59 : t381 ≥ 0
                    · rw [if_pos c59] at H
                      have c59b0 : decide (0 ≤ t381) = true := decide_eq_true c59
                      clear c59
                      replace H := Option.bind_eq_some_iff.mp H
                      obtain ⟨t385, A600, H⟩ := H
                      replace H : (some t385) = some r := H
                      have A60 := Aside0.mk A600
                      clear A600
                      obtain rfl := Option.some.inj H
                      have hcz61_0 : wc.cell? ⟨gb374, 0, none⟩ = some (.slice A0_0 l0_0.length c0_0) := (blk_cell BK374.out 0).trans rfl
                      have hcz61_1 : wc.cell? ⟨gb374, 1, none⟩ = some (.int .i64 a0_1) := (blk_cell BK374.out 1).trans rfl
                      have hfz61_0 := blk_frozen BK374.out 0
                      have hfz61_1 := blk_frozen BK374.out 1
                      go_wp2_with (first | ((with_reducible refine gate_callee (f := 22) rfl ?_); refine goesL_ (some 40) rfl rfl Tryd.func22 (by kernel_rfl) rfl #[.agg #[.slice A0_0 l0_0.length c0_0, .int .i64 a0_1], .slice A1 l1.length c1] rfl (by (try simp only [List.map_toArray, List.map_cons, List.map_nil]); first | done | rfl | (simp only [List.length_drop, List.length_take]; rfl)) ?_; (with_reducible refine (linear_Value.calls kj15 _ _ l0_0 a0_1 _ _ l1 t381 t382 _ ?side1 ?side2 ?side3 ?side4 A40.out).mono ?_); (case side1 => repeat (first | exact (Kd.C_below HR0_0.out HB.out) | (with_reducible refine Kd.C_alloc ?_ _) | (with_reducible refine Kd.C_drewN ?_ _) | (with_reducible refine Kd.C_drew ?_))); (case side2 => exact HC0_0.out); (case side3 => repeat (first | exact (Kd.C_below HR1.out HB.out) | (with_reducible refine Kd.C_alloc ?_ _) | (with_reducible refine Kd.C_drewN ?_ _) | (with_reducible refine Kd.C_drew ?_))); (case side4 => exact HC1.out); rintro e w62 ⟨rfl, hb⟩; refine ⟨_, rfl, ?_⟩; have n0_ := Aside0.mk (blk_below (g := gb374) (o := .cells #[.slice A0_0 l0_0.length c0_0, .int .i64 a0_1] 33 (0, 0)) (by (with_reducible repeat (first | refine blk_drewN ?_ _ | refine blk_drew ?_ | refine blk_alloc ?_ _)); exact BK374.out) hb); have n1_ := Aside0.mk (below_step (by repeat (first | (with_reducible first | exact HB.out | apply below_alloc | apply pw_below_drewN | apply below_drew1 | refine below_set ?_ GE374.out) | exact HB.out)) hb); clear BK374; clear HB; have BK374 := n0_; have HB := n1_; clear n0_ n1_; (try clear hb); (try clear hb2); (try clear hk); (try clear hi)) | (go_at_call 16; (with_reducible refine (familychecklaw01_known.calls kj15  t385 _ A60.out).mono ?_); rintro e w63 ⟨rfl, hb⟩; have n0_ := Aside0.mk (blk_below (g := gb374) (o := .cells #[.slice A0_0 l0_0.length c0_0, .int .i64 a0_1] 33 (0, 0)) (by (with_reducible repeat (first | refine blk_drewN ?_ _ | refine blk_drew ?_ | refine blk_alloc ?_ _)); exact BK374.out) hb); have n1_ := Aside0.mk (below_step (by repeat (first | (with_reducible first | exact HB.out | apply below_alloc | apply pw_below_drewN | apply below_drew1 | refine below_set ?_ GE374.out) | exact HB.out)) hb); clear BK374; clear HB; have BK374 := n0_; have HB := n1_; clear n0_ n1_; (try clear hb); (try clear hb2); (try clear hk); (try clear hi)))
                      go_ret
                      exact ⟨by first | rfl | (simp [errW_none, errW_some] <;> rfl) | (simp [*, errW_none, errW_some] <;> rfl), by repeat (first | (with_reducible first | exact HB.out | apply below_alloc | apply pw_below_drewN | apply below_drew1 | refine below_set ?_ GE374.out) | exact HB.out)⟩
                    · rw [if_neg c59] at H
                      have c59b0 : decide (0 ≤ t381) = false := decide_eq_false c59
                      clear c59
                      obtain rfl := Option.some.inj H
                      have hcz64_0 : wc.cell? ⟨gb374, 0, none⟩ = some (.slice A0_0 l0_0.length c0_0) := (blk_cell BK374.out 0).trans rfl
                      have hcz64_1 : wc.cell? ⟨gb374, 1, none⟩ = some (.int .i64 a0_1) := (blk_cell BK374.out 1).trans rfl
                      have hfz64_0 := blk_frozen BK374.out 0
                      have hfz64_1 := blk_frozen BK374.out 1
                      go_wp2_with (first | ((with_reducible refine gate_callee (f := 22) rfl ?_); refine goesL_ (some 40) rfl rfl Tryd.func22 (by kernel_rfl) rfl #[.agg #[.slice A0_0 l0_0.length c0_0, .int .i64 a0_1], .slice A1 l1.length c1] rfl (by (try simp only [List.map_toArray, List.map_cons, List.map_nil]); first | done | rfl | (simp only [List.length_drop, List.length_take]; rfl)) ?_; (with_reducible refine (linear_Value.calls kj15 _ _ l0_0 a0_1 _ _ l1 t381 t382 _ ?side1 ?side2 ?side3 ?side4 A40.out).mono ?_); (case side1 => repeat (first | exact (Kd.C_below HR0_0.out HB.out) | (with_reducible refine Kd.C_alloc ?_ _) | (with_reducible refine Kd.C_drewN ?_ _) | (with_reducible refine Kd.C_drew ?_))); (case side2 => exact HC0_0.out); (case side3 => repeat (first | exact (Kd.C_below HR1.out HB.out) | (with_reducible refine Kd.C_alloc ?_ _) | (with_reducible refine Kd.C_drewN ?_ _) | (with_reducible refine Kd.C_drew ?_))); (case side4 => exact HC1.out); rintro e w65 ⟨rfl, hb⟩; refine ⟨_, rfl, ?_⟩; have n0_ := Aside0.mk (blk_below (g := gb374) (o := .cells #[.slice A0_0 l0_0.length c0_0, .int .i64 a0_1] 33 (0, 0)) (by (with_reducible repeat (first | refine blk_drewN ?_ _ | refine blk_drew ?_ | refine blk_alloc ?_ _)); exact BK374.out) hb); have n1_ := Aside0.mk (below_step (by repeat (first | (with_reducible first | exact HB.out | apply below_alloc | apply pw_below_drewN | apply below_drew1 | refine below_set ?_ GE374.out) | exact HB.out)) hb); clear BK374; clear HB; have BK374 := n0_; have HB := n1_; clear n0_ n1_; (try clear hb); (try clear hb2); (try clear hk); (try clear hi)))
                      go_ret
                      exact ⟨by first | rfl | (simp [errW_none, errW_some] <;> rfl) | (simp [*, errW_none, errW_some] <;> rfl), by repeat (first | (with_reducible first | exact HB.out | apply below_alloc | apply pw_below_drewN | apply below_drew1 | refine below_set ?_ GE374.out) | exact HB.out)⟩
                  · replace c58 := Bool.eq_false_iff.mpr c58
                    subst c58
                    have H1 : ((familychecklaw01_known.f kj15).bind fun t386 => (some t386)) = some r := by rw [if_neg (show ¬ (false = true) by decide)] at H; exact H
                    clear H
                    have H := H1
                    clear H1
                    replace H := Option.bind_eq_some_iff.mp H
                    obtain ⟨t386, A660, H⟩ := H
                    replace H : (some t386) = some r := H
                    have A66 := Aside0.mk A660
                    clear A660
                    obtain rfl := Option.some.inj H
                    have hcz67_0 : wc.cell? ⟨gb374, 0, none⟩ = some (.slice A0_0 l0_0.length c0_0) := (blk_cell BK374.out 0).trans rfl
                    have hcz67_1 : wc.cell? ⟨gb374, 1, none⟩ = some (.int .i64 a0_1) := (blk_cell BK374.out 1).trans rfl
                    have hfz67_0 := blk_frozen BK374.out 0
                    have hfz67_1 := blk_frozen BK374.out 1
                    go_wp2_with (first | ((with_reducible refine gate_callee (f := 22) rfl ?_); refine goesL_ (some 40) rfl rfl Tryd.func22 (by kernel_rfl) rfl #[.agg #[.slice A0_0 l0_0.length c0_0, .int .i64 a0_1], .slice A1 l1.length c1] rfl (by (try simp only [List.map_toArray, List.map_cons, List.map_nil]); first | done | rfl | (simp only [List.length_drop, List.length_take]; rfl)) ?_; (with_reducible refine (linear_Value.calls kj15 _ _ l0_0 a0_1 _ _ l1 t381 t382 _ ?side1 ?side2 ?side3 ?side4 A40.out).mono ?_); (case side1 => repeat (first | exact (Kd.C_below HR0_0.out HB.out) | (with_reducible refine Kd.C_alloc ?_ _) | (with_reducible refine Kd.C_drewN ?_ _) | (with_reducible refine Kd.C_drew ?_))); (case side2 => exact HC0_0.out); (case side3 => repeat (first | exact (Kd.C_below HR1.out HB.out) | (with_reducible refine Kd.C_alloc ?_ _) | (with_reducible refine Kd.C_drewN ?_ _) | (with_reducible refine Kd.C_drew ?_))); (case side4 => exact HC1.out); rintro e w68 ⟨rfl, hb⟩; refine ⟨_, rfl, ?_⟩; have n0_ := Aside0.mk (blk_below (g := gb374) (o := .cells #[.slice A0_0 l0_0.length c0_0, .int .i64 a0_1] 33 (0, 0)) (by (with_reducible repeat (first | refine blk_drewN ?_ _ | refine blk_drew ?_ | refine blk_alloc ?_ _)); exact BK374.out) hb); have n1_ := Aside0.mk (below_step (by repeat (first | (with_reducible first | exact HB.out | apply below_alloc | apply pw_below_drewN | apply below_drew1 | refine below_set ?_ GE374.out) | exact HB.out)) hb); clear BK374; clear HB; have BK374 := n0_; have HB := n1_; clear n0_ n1_; (try clear hb); (try clear hb2); (try clear hk); (try clear hi)) | (go_at_call 16; (with_reducible refine (familychecklaw01_known.calls kj15  t386 _ A66.out).mono ?_); rintro e w69 ⟨rfl, hb⟩; have n0_ := Aside0.mk (blk_below (g := gb374) (o := .cells #[.slice A0_0 l0_0.length c0_0, .int .i64 a0_1] 33 (0, 0)) (by (with_reducible repeat (first | refine blk_drewN ?_ _ | refine blk_drew ?_ | refine blk_alloc ?_ _)); exact BK374.out) hb); have n1_ := Aside0.mk (below_step (by repeat (first | (with_reducible first | exact HB.out | apply below_alloc | apply pw_below_drewN | apply below_drew1 | refine below_set ?_ GE374.out) | exact HB.out)) hb); clear BK374; clear HB; have BK374 := n0_; have HB := n1_; clear n0_ n1_; (try clear hb); (try clear hb2); (try clear hk); (try clear hi)))
                    go_ret
                    exact ⟨by first | rfl | (simp [errW_none, errW_some] <;> rfl) | (simp [*, errW_none, errW_some] <;> rfl), by repeat (first | (with_reducible first | exact HB.out | apply below_alloc | apply pw_below_drewN | apply below_drew1 | refine below_set ?_ GE374.out) | exact HB.out)⟩
              · rw [if_neg c41] at H
                have c41b0 : (t382 == 0) = false := beq_eq_false_iff_ne.mpr c41
                have c41b1 : (t382 != 0) = true := bne_iff_ne.mpr c41
                replace H := Option.bind_eq_some_iff.mp H
                obtain ⟨t387, A700, H⟩ := H
                replace H : (some t387) = some r := H
                have A70 := Aside0.mk A700
                clear A700
                obtain rfl := Option.some.inj H
                have hcz71_0 : wc.cell? ⟨gb374, 0, none⟩ = some (.slice A0_0 l0_0.length c0_0) := (blk_cell BK374.out 0).trans rfl
                have hcz71_1 : wc.cell? ⟨gb374, 1, none⟩ = some (.int .i64 a0_1) := (blk_cell BK374.out 1).trans rfl
                have hfz71_0 := blk_frozen BK374.out 0
                have hfz71_1 := blk_frozen BK374.out 1
                go_wp2_with (first | ((with_reducible refine gate_callee (f := 22) rfl ?_); refine goesL_ (some 40) rfl rfl Tryd.func22 (by kernel_rfl) rfl #[.agg #[.slice A0_0 l0_0.length c0_0, .int .i64 a0_1], .slice A1 l1.length c1] rfl (by (try simp only [List.map_toArray, List.map_cons, List.map_nil]); first | done | rfl | (simp only [List.length_drop, List.length_take]; rfl)) ?_; (with_reducible refine (linear_Value.calls kj15 _ _ l0_0 a0_1 _ _ l1 t381 t382 _ ?side1 ?side2 ?side3 ?side4 A40.out).mono ?_); (case side1 => repeat (first | exact (Kd.C_below HR0_0.out HB.out) | (with_reducible refine Kd.C_alloc ?_ _) | (with_reducible refine Kd.C_drewN ?_ _) | (with_reducible refine Kd.C_drew ?_))); (case side2 => exact HC0_0.out); (case side3 => repeat (first | exact (Kd.C_below HR1.out HB.out) | (with_reducible refine Kd.C_alloc ?_ _) | (with_reducible refine Kd.C_drewN ?_ _) | (with_reducible refine Kd.C_drew ?_))); (case side4 => exact HC1.out); rintro e w72 ⟨rfl, hb⟩; refine ⟨_, rfl, ?_⟩; have n0_ := Aside0.mk (blk_below (g := gb374) (o := .cells #[.slice A0_0 l0_0.length c0_0, .int .i64 a0_1] 33 (0, 0)) (by (with_reducible repeat (first | refine blk_drewN ?_ _ | refine blk_drew ?_ | refine blk_alloc ?_ _)); exact BK374.out) hb); have n1_ := Aside0.mk (below_step (by repeat (first | (with_reducible first | exact HB.out | apply below_alloc | apply pw_below_drewN | apply below_drew1 | refine below_set ?_ GE374.out) | exact HB.out)) hb); clear BK374; clear HB; have BK374 := n0_; have HB := n1_; clear n0_ n1_; (try clear hb); (try clear hb2); (try clear hk); (try clear hi)) | (go_at_call 16; (with_reducible refine (familychecklaw01_known.calls kj15  t387 _ A70.out).mono ?_); rintro e w73 ⟨rfl, hb⟩; have n0_ := Aside0.mk (blk_below (g := gb374) (o := .cells #[.slice A0_0 l0_0.length c0_0, .int .i64 a0_1] 33 (0, 0)) (by (with_reducible repeat (first | refine blk_drewN ?_ _ | refine blk_drew ?_ | refine blk_alloc ?_ _)); exact BK374.out) hb); have n1_ := Aside0.mk (below_step (by repeat (first | (with_reducible first | exact HB.out | apply below_alloc | apply pw_below_drewN | apply below_drew1 | refine below_set ?_ GE374.out) | exact HB.out)) hb); clear BK374; clear HB; have BK374 := n0_; have HB := n1_; clear n0_ n1_; (try clear hb); (try clear hb2); (try clear hk); (try clear hi)))
                go_ret
                exact ⟨by first | rfl | (simp [errW_none, errW_some] <;> rfl) | (simp [*, errW_none, errW_some] <;> rfl), by repeat (first | (with_reducible first | exact HB.out | apply below_alloc | apply pw_below_drewN | apply below_drew1 | refine below_set ?_ GE374.out) | exact HB.out)⟩

end Go.Proofs.YtbioiodjdfcooaaDoor.P
