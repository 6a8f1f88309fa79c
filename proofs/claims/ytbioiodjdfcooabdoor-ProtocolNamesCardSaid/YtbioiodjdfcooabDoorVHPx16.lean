import Derived.Test.YtbioiodjdfcooabDoorVHPx0
-- Written by a program of this session (wip/tools/doprint.sh: the kit's print, with given texts for some functions).
namespace Go.Proofs.YtbioiodjdfcooabDoor.P
open Go.RowKit Go.Proofs.YtbioiodjdfcooabDoorW.PrintWords Go.Proofs.YtbioiodjdfcooabDoorW.PrintLast Go.Proofs.YtbioiodjdfcooabDoorW.PrintMore
attribute [local go_sem] max2_int min2_int max_two min_two max_three min_three max_four min_four   -- for this text's walks alone
set_option linter.unusedVariables false
set_option linter.unusedSimpArgs false

-- NOT PRINTED: function 94 (unicode_isExcludingLatin)

-- NOT PRINTED: function 88 (unicode_IsSpace)

-- NOT PRINTED: function 70 (strings_Fields)

-- NOT PRINTED: function 41 (protocol_isReserved)

-- NOT PRINTED: function 20 (protocol_ValidName)

/-! ### protocol_factor: function 71 -/
def protocol_factor.f (a0 : Int) : Option (Bool) := if a0 ≥ (-100) then (some (decide (a0 ≤ 100))) else (some false)
set_option maxHeartbeats 8000000 in
set_option maxRecDepth 100000 in
theorem protocol_factor.calls (a0 : Int) (r : Bool) (w : World) (h : protocol_factor.f a0 = some r) :
    Calls Tryd.prog 71 #[.int .i64 a0] w fun e w' => e = .returned (.bool r) ∧ Drawn0 w w' := by
  have H : (if a0 ≥ (-100) then (some (decide (a0 ≤ 100))) else (some false)) = some r := h
  clear h
  by_cases c2 : a0 ≥ (-100)
  · rw [if_pos c2] at H
    have c2b0 : decide ((-100) ≤ a0) = true := decide_eq_true c2
    clear c2
    obtain rfl := Option.some.inj H
    go_enter Tryd.func71, Tryd.ntmps71
    go_wp2
    go_ret
    exact ⟨by first | rfl | (simp; done) | (simp [*]; done), by repeat (first | exact Drawn0.refl _ | apply Drawn0.step)⟩
  · rw [if_neg c2] at H
    have c2b0 : decide ((-100) ≤ a0) = false := decide_eq_false c2
    clear c2
    obtain rfl := Option.some.inj H
    go_enter Tryd.func71, Tryd.ntmps71
    go_wp2
    go_ret
    exact ⟨by first | rfl | (simp; done) | (simp [*]; done), by repeat (first | exact Drawn0.refl _ | apply Drawn0.step)⟩

/-! ### protocol_bounded: function 45 -/
def protocol_bounded.f (a0_0 : Int) (a0_1 : Int) (a0_2 : Int) (a0_3 : Int) : Option (Bool) := (protocol_factor.f a0_0).bind fun t263 => (if t263 = true then ((protocol_factor.f a0_1).bind fun t264 => (if t264 = true then ((protocol_factor.f a0_2).bind fun t265 => (if t265 = true then ((protocol_factor.f a0_3).bind fun t266 => (some t266)) else (some false))) else (some false))) else (some false))
set_option maxHeartbeats 8000000 in
set_option maxRecDepth 100000 in
theorem protocol_bounded.calls (a0_0 : Int) (a0_1 : Int) (a0_2 : Int) (a0_3 : Int) (r : Bool) (w : World) (h : protocol_bounded.f a0_0 a0_1 a0_2 a0_3 = some r) :
    Calls Tryd.prog 45 #[.agg #[.int .i64 a0_0, .int .i64 a0_1, .int .i64 a0_2, .int .i64 a0_3]] w fun e w' => e = .returned (.bool r) ∧ Below w.heap.size w w' := by
  have hu42 := Tryd.underlying42
  have HB := Aside0.mk (Below.refl w.heap.size w)
  have H : ((protocol_factor.f a0_0).bind fun t263 => (if t263 = true then ((protocol_factor.f a0_1).bind fun t264 => (if t264 = true then ((protocol_factor.f a0_2).bind fun t265 => (if t265 = true then ((protocol_factor.f a0_3).bind fun t266 => (some t266)) else (some false))) else (some false))) else (some false))) = some r := h
  clear h
  replace H := Option.bind_eq_some_iff.mp H
  obtain ⟨t263, A20, H⟩ := H
  replace H : (if t263 = true then ((protocol_factor.f a0_1).bind fun t264 => (if t264 = true then ((protocol_factor.f a0_2).bind fun t265 => (if t265 = true then ((protocol_factor.f a0_3).bind fun t266 => (some t266)) else (some false))) else (some false))) else (some false)) = some r := H
  have A2 := Aside0.mk A20
  clear A20
  by_cases c3 : t263 = true
  · subst c3
    have H1 : ((protocol_factor.f a0_1).bind fun t264 => (if t264 = true then ((protocol_factor.f a0_2).bind fun t265 => (if t265 = true then ((protocol_factor.f a0_3).bind fun t266 => (some t266)) else (some false))) else (some false))) = some r := by rw [if_pos rfl] at H; exact H
    clear H
    have H := H1
    clear H1
    replace H := Option.bind_eq_some_iff.mp H
    obtain ⟨t264, A40, H⟩ := H
    replace H : (if t264 = true then ((protocol_factor.f a0_2).bind fun t265 => (if t265 = true then ((protocol_factor.f a0_3).bind fun t266 => (some t266)) else (some false))) else (some false)) = some r := H
    have A4 := Aside0.mk A40
    clear A40
    by_cases c5 : t264 = true
    · subst c5
      have H1 : ((protocol_factor.f a0_2).bind fun t265 => (if t265 = true then ((protocol_factor.f a0_3).bind fun t266 => (some t266)) else (some false))) = some r := by rw [if_pos rfl] at H; exact H
      clear H
      have H := H1
      clear H1
      replace H := Option.bind_eq_some_iff.mp H
      obtain ⟨t265, A60, H⟩ := H
      replace H : (if t265 = true then ((protocol_factor.f a0_3).bind fun t266 => (some t266)) else (some false)) = some r := H
      have A6 := Aside0.mk A60
      clear A60
      by_cases c7 : t265 = true
      · subst c7
        have H1 : ((protocol_factor.f a0_3).bind fun t266 => (some t266)) = some r := by rw [if_pos rfl] at H; exact H
        clear H
        have H := H1
        clear H1
        replace H := Option.bind_eq_some_iff.mp H
        obtain ⟨t266, A80, H⟩ := H
        replace H : (some t266) = some r := H
        have A8 := Aside0.mk A80
        clear A80
        obtain rfl := Option.some.inj H
        go_enter Tryd.func45, Tryd.ntmps45
        go_wp2_with (first | ((with_reducible refine gate_dst (N := 1) rfl ?_); refine box_event ?hg (N := 1) ?hd (cs := #[.int .i64 a0_0, .int .i64 a0_1, .int .i64 a0_2, .int .i64 a0_3]) (t := 42) ?hr ?_; (case hd => rfl); (case hg => rfl); (case hr => first | (go_simp; done) | (go_simp; rfl)); intro gb262 hg w9 hbox hb; have n0_ := Aside0.mk (below_step (by repeat (first | (with_reducible first | exact HB.out | apply below_alloc | apply pw_below_drewN | apply below_drew1) | exact HB.out)) hb); have n1_ := Aside0.mk (hbox); have n2_ := Aside0.mk ((by rw [hg]; exact (below_size (by repeat (first | (with_reducible first | exact HB.out | apply below_alloc | apply pw_below_drewN | apply below_drew1) | exact HB.out))) : w.heap.size ≤ gb262)); have n3_ := Aside0.mk ((by rw [hg]; exact (below_size (by repeat (first | (with_reducible first | exact HB.out | apply below_alloc | apply pw_below_drewN | apply below_drew1) | exact HB.out))) : w.heap.size ≤ gb262)); clear HB; have HB := n0_; have BK262 := n1_; have GW262 := n2_; have GE262 := n3_; clear n0_ n1_ n2_ n3_; clear hb hbox hg; have hcz10_0 : w9.cell? ⟨gb262, 0, none⟩ = some (.int .i64 a0_0) := (blk_cell BK262.out 0).trans rfl; have hcz10_1 : w9.cell? ⟨gb262, 1, none⟩ = some (.int .i64 a0_1) := (blk_cell BK262.out 1).trans rfl; have hcz10_2 : w9.cell? ⟨gb262, 2, none⟩ = some (.int .i64 a0_2) := (blk_cell BK262.out 2).trans rfl; have hcz10_3 : w9.cell? ⟨gb262, 3, none⟩ = some (.int .i64 a0_3) := (blk_cell BK262.out 3).trans rfl; have hfz10_0 := blk_frozen BK262.out 0; have hfz10_1 := blk_frozen BK262.out 1; have hfz10_2 := blk_frozen BK262.out 2; have hfz10_3 := blk_frozen BK262.out 3) | ((with_reducible refine gate_callee (f := 71) rfl ?_); refine goesL_ (some 5) rfl rfl Tryd.func71 (by kernel_rfl) rfl #[.int .i64 a0_0] rfl (by (try simp only [List.map_toArray, List.map_cons, List.map_nil]); first | done | rfl | (simp only [List.length_drop, List.length_take]; rfl)) ?_; (with_reducible refine (protocol_factor.calls a0_0 true _ A2.out).mono ?_); rintro e w' ⟨rfl, ⟨nd, rfl⟩⟩; refine ⟨_, rfl, ?_⟩) | (go_at_call 71; (with_reducible refine (protocol_factor.calls a0_1 true _ A4.out).mono ?_); rintro e w' ⟨rfl, ⟨nd, rfl⟩⟩) | (go_at_call 71; (with_reducible refine (protocol_factor.calls a0_2 true _ A6.out).mono ?_); rintro e w' ⟨rfl, ⟨nd, rfl⟩⟩) | (go_at_call 71; (with_reducible refine (protocol_factor.calls a0_3 t266 _ A8.out).mono ?_); rintro e w' ⟨rfl, ⟨nd, rfl⟩⟩))
        go_ret
        exact ⟨by first | rfl | (simp [errW_none, errW_some] <;> rfl) | (simp [*, errW_none, errW_some] <;> rfl), by repeat (first | (with_reducible first | exact HB.out | apply below_alloc | apply pw_below_drewN | apply below_drew1 | refine below_set ?_ GE262.out) | exact HB.out)⟩
      · replace c7 := Bool.eq_false_iff.mpr c7
        subst c7
        have H1 : (some false) = some r := by rw [if_neg (show ¬ (false = true) by decide)] at H; exact H
        clear H
        have H := H1
        clear H1
        obtain rfl := Option.some.inj H
        go_enter Tryd.func45, Tryd.ntmps45
        go_wp2_with (first | ((with_reducible refine gate_dst (N := 1) rfl ?_); refine box_event ?hg (N := 1) ?hd (cs := #[.int .i64 a0_0, .int .i64 a0_1, .int .i64 a0_2, .int .i64 a0_3]) (t := 42) ?hr ?_; (case hd => rfl); (case hg => rfl); (case hr => first | (go_simp; done) | (go_simp; rfl)); intro gb262 hg w11 hbox hb; have n0_ := Aside0.mk (below_step (by repeat (first | (with_reducible first | exact HB.out | apply below_alloc | apply pw_below_drewN | apply below_drew1) | exact HB.out)) hb); have n1_ := Aside0.mk (hbox); have n2_ := Aside0.mk ((by rw [hg]; exact (below_size (by repeat (first | (with_reducible first | exact HB.out | apply below_alloc | apply pw_below_drewN | apply below_drew1) | exact HB.out))) : w.heap.size ≤ gb262)); have n3_ := Aside0.mk ((by rw [hg]; exact (below_size (by repeat (first | (with_reducible first | exact HB.out | apply below_alloc | apply pw_below_drewN | apply below_drew1) | exact HB.out))) : w.heap.size ≤ gb262)); clear HB; have HB := n0_; have BK262 := n1_; have GW262 := n2_; have GE262 := n3_; clear n0_ n1_ n2_ n3_; clear hb hbox hg; have hcz12_0 : w11.cell? ⟨gb262, 0, none⟩ = some (.int .i64 a0_0) := (blk_cell BK262.out 0).trans rfl; have hcz12_1 : w11.cell? ⟨gb262, 1, none⟩ = some (.int .i64 a0_1) := (blk_cell BK262.out 1).trans rfl; have hcz12_2 : w11.cell? ⟨gb262, 2, none⟩ = some (.int .i64 a0_2) := (blk_cell BK262.out 2).trans rfl; have hcz12_3 : w11.cell? ⟨gb262, 3, none⟩ = some (.int .i64 a0_3) := (blk_cell BK262.out 3).trans rfl; have hfz12_0 := blk_frozen BK262.out 0; have hfz12_1 := blk_frozen BK262.out 1; have hfz12_2 := blk_frozen BK262.out 2; have hfz12_3 := blk_frozen BK262.out 3) | ((with_reducible refine gate_callee (f := 71) rfl ?_); refine goesL_ (some 5) rfl rfl Tryd.func71 (by kernel_rfl) rfl #[.int .i64 a0_0] rfl (by (try simp only [List.map_toArray, List.map_cons, List.map_nil]); first | done | rfl | (simp only [List.length_drop, List.length_take]; rfl)) ?_; (with_reducible refine (protocol_factor.calls a0_0 true _ A2.out).mono ?_); rintro e w' ⟨rfl, ⟨nd, rfl⟩⟩; refine ⟨_, rfl, ?_⟩) | (go_at_call 71; (with_reducible refine (protocol_factor.calls a0_1 true _ A4.out).mono ?_); rintro e w' ⟨rfl, ⟨nd, rfl⟩⟩) | (go_at_call 71; (with_reducible refine (protocol_factor.calls a0_2 false _ A6.out).mono ?_); rintro e w' ⟨rfl, ⟨nd, rfl⟩⟩))
        go_ret
        exact ⟨by first | rfl | (simp [errW_none, errW_some] <;> rfl) | (simp [*, errW_none, errW_some] <;> rfl), by repeat (first | (with_reducible first | exact HB.out | apply below_alloc | apply pw_below_drewN | apply below_drew1 | refine below_set ?_ GE262.out) | exact HB.out)⟩
    · replace c5 := Bool.eq_false_iff.mpr c5
      subst c5
      have H1 : (some false) = some r := by rw [if_neg (show ¬ (false = true) by decide)] at H; exact H
      clear H
      have H := H1
      clear H1
      obtain rfl := Option.some.inj H
      go_enter Tryd.func45, Tryd.ntmps45
      go_wp2_with (first | ((with_reducible refine gate_dst (N := 1) rfl ?_); refine box_event ?hg (N := 1) ?hd (cs := #[.int .i64 a0_0, .int .i64 a0_1, .int .i64 a0_2, .int .i64 a0_3]) (t := 42) ?hr ?_; (case hd => rfl); (case hg => rfl); (case hr => first | (go_simp; done) | (go_simp; rfl)); intro gb262 hg w13 hbox hb; have n0_ := Aside0.mk (below_step (by repeat (first | (with_reducible first | exact HB.out | apply below_alloc | apply pw_below_drewN | apply below_drew1) | exact HB.out)) hb); have n1_ := Aside0.mk (hbox); have n2_ := Aside0.mk ((by rw [hg]; exact (below_size (by repeat (first | (with_reducible first | exact HB.out | apply below_alloc | apply pw_below_drewN | apply below_drew1) | exact HB.out))) : w.heap.size ≤ gb262)); have n3_ := Aside0.mk ((by rw [hg]; exact (below_size (by repeat (first | (with_reducible first | exact HB.out | apply below_alloc | apply pw_below_drewN | apply below_drew1) | exact HB.out))) : w.heap.size ≤ gb262)); clear HB; have HB := n0_; have BK262 := n1_; have GW262 := n2_; have GE262 := n3_; clear n0_ n1_ n2_ n3_; clear hb hbox hg; have hcz14_0 : w13.cell? ⟨gb262, 0, none⟩ = some (.int .i64 a0_0) := (blk_cell BK262.out 0).trans rfl; have hcz14_1 : w13.cell? ⟨gb262, 1, none⟩ = some (.int .i64 a0_1) := (blk_cell BK262.out 1).trans rfl; have hcz14_2 : w13.cell? ⟨gb262, 2, none⟩ = some (.int .i64 a0_2) := (blk_cell BK262.out 2).trans rfl; have hcz14_3 : w13.cell? ⟨gb262, 3, none⟩ = some (.int .i64 a0_3) := (blk_cell BK262.out 3).trans rfl; have hfz14_0 := blk_frozen BK262.out 0; have hfz14_1 := blk_frozen BK262.out 1; have hfz14_2 := blk_frozen BK262.out 2; have hfz14_3 := blk_frozen BK262.out 3) | ((with_reducible refine gate_callee (f := 71) rfl ?_); refine goesL_ (some 5) rfl rfl Tryd.func71 (by kernel_rfl) rfl #[.int .i64 a0_0] rfl (by (try simp only [List.map_toArray, List.map_cons, List.map_nil]); first | done | rfl | (simp only [List.length_drop, List.length_take]; rfl)) ?_; (with_reducible refine (protocol_factor.calls a0_0 true _ A2.out).mono ?_); rintro e w' ⟨rfl, ⟨nd, rfl⟩⟩; refine ⟨_, rfl, ?_⟩) | (go_at_call 71; (with_reducible refine (protocol_factor.calls a0_1 false _ A4.out).mono ?_); rintro e w' ⟨rfl, ⟨nd, rfl⟩⟩))
      go_ret
      exact ⟨by first | rfl | (simp [errW_none, errW_some] <;> rfl) | (simp [*, errW_none, errW_some] <;> rfl), by repeat (first | (with_reducible first | exact HB.out | apply below_alloc | apply pw_below_drewN | apply below_drew1 | refine below_set ?_ GE262.out) | exact HB.out)⟩
  · replace c3 := Bool.eq_false_iff.mpr c3
    subst c3
    have H1 : (some false) = some r := by rw [if_neg (show ¬ (false = true) by decide)] at H; exact H
    clear H
    have H := H1
    clear H1
    obtain rfl := Option.some.inj H
    go_enter Tryd.func45, Tryd.ntmps45
    go_wp2_with (first | ((with_reducible refine gate_dst (N := 1) rfl ?_); refine box_event ?hg (N := 1) ?hd (cs := #[.int .i64 a0_0, .int .i64 a0_1, .int .i64 a0_2, .int .i64 a0_3]) (t := 42) ?hr ?_; (case hd => rfl); (case hg => rfl); (case hr => first | (go_simp; done) | (go_simp; rfl)); intro gb262 hg w15 hbox hb; have n0_ := Aside0.mk (below_step (by repeat (first | (with_reducible first | exact HB.out | apply below_alloc | apply pw_below_drewN | apply below_drew1) | exact HB.out)) hb); have n1_ := Aside0.mk (hbox); have n2_ := Aside0.mk ((by rw [hg]; exact (below_size (by repeat (first | (with_reducible first | exact HB.out | apply below_alloc | apply pw_below_drewN | apply below_drew1) | exact HB.out))) : w.heap.size ≤ gb262)); have n3_ := Aside0.mk ((by rw [hg]; exact (below_size (by repeat (first | (with_reducible first | exact HB.out | apply below_alloc | apply pw_below_drewN | apply below_drew1) | exact HB.out))) : w.heap.size ≤ gb262)); clear HB; have HB := n0_; have BK262 := n1_; have GW262 := n2_; have GE262 := n3_; clear n0_ n1_ n2_ n3_; clear hb hbox hg; have hcz16_0 : w15.cell? ⟨gb262, 0, none⟩ = some (.int .i64 a0_0) := (blk_cell BK262.out 0).trans rfl; have hcz16_1 : w15.cell? ⟨gb262, 1, none⟩ = some (.int .i64 a0_1) := (blk_cell BK262.out 1).trans rfl; have hcz16_2 : w15.cell? ⟨gb262, 2, none⟩ = some (.int .i64 a0_2) := (blk_cell BK262.out 2).trans rfl; have hcz16_3 : w15.cell? ⟨gb262, 3, none⟩ = some (.int .i64 a0_3) := (blk_cell BK262.out 3).trans rfl; have hfz16_0 := blk_frozen BK262.out 0; have hfz16_1 := blk_frozen BK262.out 1; have hfz16_2 := blk_frozen BK262.out 2; have hfz16_3 := blk_frozen BK262.out 3) | ((with_reducible refine gate_callee (f := 71) rfl ?_); refine goesL_ (some 5) rfl rfl Tryd.func71 (by kernel_rfl) rfl #[.int .i64 a0_0] rfl (by (try simp only [List.map_toArray, List.map_cons, List.map_nil]); first | done | rfl | (simp only [List.length_drop, List.length_take]; rfl)) ?_; (with_reducible refine (protocol_factor.calls a0_0 false _ A2.out).mono ?_); rintro e w' ⟨rfl, ⟨nd, rfl⟩⟩; refine ⟨_, rfl, ?_⟩))
    go_ret
    exact ⟨by first | rfl | (simp [errW_none, errW_some] <;> rfl) | (simp [*, errW_none, errW_some] <;> rfl), by repeat (first | (with_reducible first | exact HB.out | apply below_alloc | apply pw_below_drewN | apply below_drew1 | refine below_set ?_ GE262.out) | exact HB.out)⟩

-- NOT PRINTED: function 89 (abi_NoEscape)

-- NOT PRINTED: function 72 (strings_Builder_copyCheck)

-- NOT PRINTED: function 46 (strings_Builder_WriteByte)

-- NOT PRINTED: function 47 (strings_Builder_Len)

-- NOT PRINTED: function 48 (strings_Builder_WriteString)

-- NOT PRINTED: function 95 (strconv_small)

-- NOT PRINTED: function 101 (strconv_log10Pow2)

-- NOT PRINTED: function 102 (bits_Len64)

-- NOT PRINTED: function 103 (strconv_bool2_int)

-- NOT PRINTED: function 96 (strconv_numDigits)

-- NOT PRINTED: function 97 (strconv_formatBase10)

-- NOT PRINTED: function 104 (strconv_isPowerOfTwo)

-- NOT PRINTED: function 106 (bits_TrailingZeros32)

-- NOT PRINTED: function 107 (bits_TrailingZeros64)

-- NOT PRINTED: function 105 (bits_TrailingZeros)

-- NOT PRINTED: function 98 (strconv_formatBits)

-- NOT PRINTED: function 90 (strconv_FormatInt)

-- NOT PRINTED: function 73 (strconv_Itoa_73)

-- NOT PRINTED: function 49 (strconv_Itoa_49)

-- NOT PRINTED: function 50 (strings_Builder_String)

-- NOT PRINTED: function 22 (protocol_FormatLinear)

-- NOT PRINTED: function 19 (familychecklaw02_known)

/-! ### familycheckref02_within: function 42 -/
def familycheckref02_within.f (a0 : Int) (a1 : Int) (a2 : Int) : Option (Bool) := if a0 ≥ a1 then (some (decide (a0 ≤ a2))) else (some false)
set_option maxHeartbeats 8000000 in
set_option maxRecDepth 100000 in
theorem familycheckref02_within.calls (a0 : Int) (a1 : Int) (a2 : Int) (r : Bool) (w : World) (h : familycheckref02_within.f a0 a1 a2 = some r) :
    Calls Tryd.prog 42 #[.int .i64 a0, .int .i64 a1, .int .i64 a2] w fun e w' => e = .returned (.bool r) ∧ Drawn0 w w' := by
  have H : (if a0 ≥ a1 then (some (decide (a0 ≤ a2))) else (some false)) = some r := h
  clear h
  by_cases c4 : a0 ≥ a1
  · rw [if_pos c4] at H
    have c4b0 : decide (a1 ≤ a0) = true := decide_eq_true c4
    clear c4
    obtain rfl := Option.some.inj H
    go_enter Tryd.func42, Tryd.ntmps42
    go_wp2
    go_ret
    exact ⟨by first | rfl | (simp; done) | (simp [*]; done), by repeat (first | exact Drawn0.refl _ | apply Drawn0.step)⟩
  · rw [if_neg c4] at H
    have c4b0 : decide (a1 ≤ a0) = false := decide_eq_false c4
    clear c4
    obtain rfl := Option.some.inj H
    go_enter Tryd.func42, Tryd.ntmps42
    go_wp2
    go_ret
    exact ⟨by first | rfl | (simp; done) | (simp [*]; done), by repeat (first | exact Drawn0.refl _ | apply Drawn0.step)⟩

/-! ### familycheckref02_HasText: function 43 -/
def familycheckref02_HasText.l0 : Nat → List ByteArray → ByteArray → Int → Option (Bool)
  | 0, _, _, _ => none
  | k + 1, x0, x1, x5 => if x5 < (x0.length : Int) then (if 0 ≤ x5 then (if (rdOf ByteArray.empty x0 x5).toList = x1.toList then (some true) else (familycheckref02_HasText.l0 k x0 x1 (wrap64 (x5 + 1)))) else (none)) else (some false)
def familycheckref02_HasText.f (k : Nat) (l0 : List ByteArray) (a1 : ByteArray) : Option (Bool) := familycheckref02_HasText.l0 k l0 a1 0
set_option maxHeartbeats 8000000 in
set_option maxRecDepth 100000 in
theorem familycheckref02_HasText.calls (k : Nat) (A0 : Option Addr) (c0 : Nat) (l0 : List ByteArray) (a1 : ByteArray) (r : Bool) (w : World) (hr0 : Kd.C Kd.string w A0 l0.length l0) (hc0 : l0.length ≤ c0) (h : familycheckref02_HasText.f k l0 a1 = some r) :
    Calls Tryd.prog 43 #[.slice A0 l0.length c0, .string a1] w fun e w' => e = .returned (.bool r) ∧ Drawn0 w w' := by
  have HR0 := Aside0.mk hr0
  have HC0 := Aside0.mk hc0
  clear hr0 hc0
  have H : (familycheckref02_HasText.l0 k l0 a1 0) = some r := h
  clear h
  have H' := Aside0.mk H
  clear H
  go_enter Tryd.func43, Tryd.ntmps43
  go_wp2
  go_loopg [5] k (fun kq v5 w' => ∃ (x5_1 : Int), v5 = .int .i64 x5_1 ∧ Aside0 (familycheckref02_HasText.l0 kq l0 a1 x5_1 = some r) ∧ Aside0 (kq ≤ k) ∧ Drawn0 w w')
  case atStart => exact ⟨(0), (by first | rfl | (simp; done) | (simp [*]; done)), H', ⟨Nat.le_refl _⟩, by repeat (first | exact Drawn0.refl _ | apply Drawn0.step)⟩
  case round =>
    clear H'
    try clear p2
    obtain ⟨x5_1, rfl, HA, HK1, ⟨m1, rfl⟩⟩ := hrel
    cases gk with
    | zero => exact absurd HA.out (by simp [familycheckref02_HasText.l0])
    | succ k1 =>
      have H := HA.out
      clear HA
      simp only [familycheckref02_HasText.l0] at H
      by_cases c3 : x5_1 < (l0.length : Int)
      · rw [if_pos c3] at H
        have c3b0 : decide (x5_1 < (l0.length : Int)) = true := decide_eq_true c3
        clear c3
        by_cases c4 : 0 ≤ x5_1
        · rw [if_pos c4] at H
          have c4b0 : decide (0 ≤ x5_1) = true := decide_eq_true c4
          clear c4
          by_cases c5 : (rdOf ByteArray.empty l0 x5_1).toList = a1.toList
          · rw [if_pos c5] at H
            have c5b0 : ((rdOf ByteArray.empty l0 x5_1).toList == a1.toList) = true := beq_iff_eq.mpr c5
            have c5b1 : ((rdOf ByteArray.empty l0 x5_1).toList != a1.toList) = false := bne_eq_false_iff_eq.mpr c5
            clear c5
            obtain rfl := Option.some.inj H
            have p285 : 0 ≤ (x5_1 : Int) := of_decide_eq_true (by first | (with_reducible assumption) | assumption)
            have q285 : x5_1 < (l0.length : Int) := of_decide_eq_true (by first | (with_reducible assumption) | assumption)
            obtain ⟨ad285, e285, hx285_0⟩ := Kd.at_string HR0.out x5_1 p285 q285
            cases e285
            replace p285 := eq_true p285
            replace q285 := eq_true q285
            go_wp2
            go_ret
            exact ⟨by first | rfl | (simp; done) | (simp [*]; done), by repeat (first | exact Drawn0.refl _ | apply Drawn0.step)⟩
          · rw [if_neg c5] at H
            have c5b0 : ((rdOf ByteArray.empty l0 x5_1).toList == a1.toList) = false := beq_eq_false_iff_ne.mpr c5
            have c5b1 : ((rdOf ByteArray.empty l0 x5_1).toList != a1.toList) = true := bne_iff_ne.mpr c5
            have H' := Aside0.mk H
            clear H
            have p285 : 0 ≤ (x5_1 : Int) := of_decide_eq_true (by first | (with_reducible assumption) | assumption)
            have q285 : x5_1 < (l0.length : Int) := of_decide_eq_true (by first | (with_reducible assumption) | assumption)
            obtain ⟨ad285, e285, hx285_0⟩ := Kd.at_string HR0.out x5_1 p285 q285
            cases e285
            replace p285 := eq_true p285
            replace q285 := eq_true q285
            go_wp2
            go_roundg k1
            case measure => have := HK1.out; omega
            case rel => exact ⟨(wrap64 (x5_1 + 1)), (by first | rfl | (simp; done) | (simp [*]; done)), H', ⟨by have := HK1.out; omega⟩, by repeat (first | exact Drawn0.refl _ | apply Drawn0.step)⟩
        · rw [if_neg c4] at H
          exact absurd H (by simp)
      · rw [if_neg c3] at H
        have c3b0 : decide (x5_1 < (l0.length : Int)) = false := decide_eq_false c3
        clear c3
        obtain rfl := Option.some.inj H
        go_wp2
        go_ret
        exact ⟨by first | rfl | (simp; done) | (simp [*]; done), by repeat (first | exact Drawn0.refl _ | apply Drawn0.step)⟩

/-! ### familycheckref02_reserved: function 44 -/
def familycheckref02_reserved.f  : Option (List ByteArray) := some (([(⟨#[112, 114, 111, 116, 111, 99, 111, 108]⟩ : ByteArray), (⟨#[116, 111, 112, 111, 108, 111, 103, 121]⟩ : ByteArray), (⟨#[115, 116, 97, 116, 101, 115]⟩ : ByteArray), (⟨#[109, 101, 115, 115, 97, 103, 101, 115]⟩ : ByteArray), (⟨#[118, 97, 108, 117, 101, 115]⟩ : ByteArray), (⟨#[102, 97, 117, 108, 116, 115]⟩ : ByteArray), (⟨#[114, 101, 115, 105, 108, 105, 101, 110, 99, 101]⟩ : ByteArray), (⟨#[105, 110, 105, 116, 105, 97, 108]⟩ : ByteArray), (⟨#[108, 101, 97, 100, 101, 114]⟩ : ByteArray), (⟨#[114, 117, 108, 101]⟩ : ByteArray), (⟨#[108, 111, 99, 97, 108]⟩ : ByteArray), (⟨#[112, 97, 105, 114]⟩ : ByteArray), (⟨#[98, 114, 111, 97, 100, 99, 97, 115, 116]⟩ : ByteArray), (⟨#[110, 101, 105, 103, 104, 98, 111, 114]⟩ : ByteArray), (⟨#[112, 97, 115, 115]⟩ : ByteArray), (⟨#[119, 104, 101, 110]⟩ : ByteArray), (⟨#[101, 120, 105, 115, 116, 115]⟩ : ByteArray), (⟨#[102, 111, 114, 97, 108, 108]⟩ : ByteArray), (⟨#[114, 101, 97, 100]⟩ : ByteArray), (⟨#[119, 114, 105, 116, 101]⟩ : ByteArray), (⟨#[115, 101, 110, 100]⟩ : ByteArray), (⟨#[97, 108, 108]⟩ : ByteArray), (⟨#[97, 116]⟩ : ByteArray), (⟨#[102, 105, 114, 115, 116]⟩ : ByteArray), (⟨#[108, 97, 115, 116]⟩ : ByteArray), (⟨#[108, 101, 102, 116]⟩ : ByteArray), (⟨#[114, 105, 103, 104, 116]⟩ : ByteArray), (⟨#[112, 97, 114, 101, 110, 116]⟩ : ByteArray), (⟨#[99, 104, 105, 108, 100]⟩ : ByteArray), (⟨#[112, 114, 111, 112, 101, 114, 116, 121]⟩ : ByteArray), (⟨#[110, 101, 118, 101, 114]⟩ : ByteArray), (⟨#[101, 118, 101, 110, 116, 117, 97, 108, 108, 121]⟩ : ByteArray), (⟨#[115, 116, 97, 114, 116]⟩ : ByteArray), (⟨#[99, 111, 117, 110, 116]⟩ : ByteArray), (⟨#[97, 100, 106, 97, 99, 101, 110, 116]⟩ : ByteArray), (⟨#[103, 111, 97, 108]⟩ : ByteArray), (⟨#[99, 108, 105, 113, 117, 101]⟩ : ByteArray), (⟨#[108, 105, 110, 101]⟩ : ByteArray), (⟨#[114, 105, 110, 103]⟩ : ByteArray), (⟨#[116, 114, 101, 101]⟩ : ByteArray), (⟨#[99, 114, 97, 115, 104]⟩ : ByteArray), (⟨#[111, 109, 105, 115, 115, 105, 111, 110]⟩ : ByteArray), (⟨#[97, 114, 98, 105, 116, 114, 97, 114, 121]⟩ : ByteArray)] : List ByteArray))
set_option maxHeartbeats 8000000 in
set_option maxRecDepth 100000 in
theorem familycheckref02_reserved.calls  (r : List ByteArray) (w : World) (h : familycheckref02_reserved.f  = some r) :
    Calls Tryd.prog 44 #[] w fun e w' => ∃ v0_ : Value, e = .returned (v0_) ∧ Kd.R Kd.string 9 w' w.heap.size (fun _ => True) v0_ r ∧ Below w.heap.size w w' := by
  have HB := Aside0.mk (Below.refl w.heap.size w)
  have H : (some (([(⟨#[112, 114, 111, 116, 111, 99, 111, 108]⟩ : ByteArray), (⟨#[116, 111, 112, 111, 108, 111, 103, 121]⟩ : ByteArray), (⟨#[115, 116, 97, 116, 101, 115]⟩ : ByteArray), (⟨#[109, 101, 115, 115, 97, 103, 101, 115]⟩ : ByteArray), (⟨#[118, 97, 108, 117, 101, 115]⟩ : ByteArray), (⟨#[102, 97, 117, 108, 116, 115]⟩ : ByteArray), (⟨#[114, 101, 115, 105, 108, 105, 101, 110, 99, 101]⟩ : ByteArray), (⟨#[105, 110, 105, 116, 105, 97, 108]⟩ : ByteArray), (⟨#[108, 101, 97, 100, 101, 114]⟩ : ByteArray), (⟨#[114, 117, 108, 101]⟩ : ByteArray), (⟨#[108, 111, 99, 97, 108]⟩ : ByteArray), (⟨#[112, 97, 105, 114]⟩ : ByteArray), (⟨#[98, 114, 111, 97, 100, 99, 97, 115, 116]⟩ : ByteArray), (⟨#[110, 101, 105, 103, 104, 98, 111, 114]⟩ : ByteArray), (⟨#[112, 97, 115, 115]⟩ : ByteArray), (⟨#[119, 104, 101, 110]⟩ : ByteArray), (⟨#[101, 120, 105, 115, 116, 115]⟩ : ByteArray), (⟨#[102, 111, 114, 97, 108, 108]⟩ : ByteArray), (⟨#[114, 101, 97, 100]⟩ : ByteArray), (⟨#[119, 114, 105, 116, 101]⟩ : ByteArray), (⟨#[115, 101, 110, 100]⟩ : ByteArray), (⟨#[97, 108, 108]⟩ : ByteArray), (⟨#[97, 116]⟩ : ByteArray), (⟨#[102, 105, 114, 115, 116]⟩ : ByteArray), (⟨#[108, 97, 115, 116]⟩ : ByteArray), (⟨#[108, 101, 102, 116]⟩ : ByteArray), (⟨#[114, 105, 103, 104, 116]⟩ : ByteArray), (⟨#[112, 97, 114, 101, 110, 116]⟩ : ByteArray), (⟨#[99, 104, 105, 108, 100]⟩ : ByteArray), (⟨#[112, 114, 111, 112, 101, 114, 116, 121]⟩ : ByteArray), (⟨#[110, 101, 118, 101, 114]⟩ : ByteArray), (⟨#[101, 118, 101, 110, 116, 117, 97, 108, 108, 121]⟩ : ByteArray), (⟨#[115, 116, 97, 114, 116]⟩ : ByteArray), (⟨#[99, 111, 117, 110, 116]⟩ : ByteArray), (⟨#[97, 100, 106, 97, 99, 101, 110, 116]⟩ : ByteArray), (⟨#[103, 111, 97, 108]⟩ : ByteArray), (⟨#[99, 108, 105, 113, 117, 101]⟩ : ByteArray), (⟨#[108, 105, 110, 101]⟩ : ByteArray), (⟨#[114, 105, 110, 103]⟩ : ByteArray), (⟨#[116, 114, 101, 101]⟩ : ByteArray), (⟨#[99, 114, 97, 115, 104]⟩ : ByteArray), (⟨#[111, 109, 105, 115, 115, 105, 111, 110]⟩ : ByteArray), (⟨#[97, 114, 98, 105, 116, 114, 97, 114, 121]⟩ : ByteArray)] : List ByteArray))) = some r := h
  clear h
  obtain ⟨y286, hy286⟩ : ∃ y_ : List ByteArray, y_ = (([(⟨#[112, 114, 111, 116, 111, 99, 111, 108]⟩ : ByteArray), (⟨#[116, 111, 112, 111, 108, 111, 103, 121]⟩ : ByteArray), (⟨#[115, 116, 97, 116, 101, 115]⟩ : ByteArray), (⟨#[109, 101, 115, 115, 97, 103, 101, 115]⟩ : ByteArray), (⟨#[118, 97, 108, 117, 101, 115]⟩ : ByteArray), (⟨#[102, 97, 117, 108, 116, 115]⟩ : ByteArray), (⟨#[114, 101, 115, 105, 108, 105, 101, 110, 99, 101]⟩ : ByteArray), (⟨#[105, 110, 105, 116, 105, 97, 108]⟩ : ByteArray), (⟨#[108, 101, 97, 100, 101, 114]⟩ : ByteArray), (⟨#[114, 117, 108, 101]⟩ : ByteArray), (⟨#[108, 111, 99, 97, 108]⟩ : ByteArray), (⟨#[112, 97, 105, 114]⟩ : ByteArray), (⟨#[98, 114, 111, 97, 100, 99, 97, 115, 116]⟩ : ByteArray), (⟨#[110, 101, 105, 103, 104, 98, 111, 114]⟩ : ByteArray), (⟨#[112, 97, 115, 115]⟩ : ByteArray), (⟨#[119, 104, 101, 110]⟩ : ByteArray), (⟨#[101, 120, 105, 115, 116, 115]⟩ : ByteArray), (⟨#[102, 111, 114, 97, 108, 108]⟩ : ByteArray), (⟨#[114, 101, 97, 100]⟩ : ByteArray), (⟨#[119, 114, 105, 116, 101]⟩ : ByteArray), (⟨#[115, 101, 110, 100]⟩ : ByteArray), (⟨#[97, 108, 108]⟩ : ByteArray), (⟨#[97, 116]⟩ : ByteArray), (⟨#[102, 105, 114, 115, 116]⟩ : ByteArray), (⟨#[108, 97, 115, 116]⟩ : ByteArray), (⟨#[108, 101, 102, 116]⟩ : ByteArray), (⟨#[114, 105, 103, 104, 116]⟩ : ByteArray), (⟨#[112, 97, 114, 101, 110, 116]⟩ : ByteArray), (⟨#[99, 104, 105, 108, 100]⟩ : ByteArray), (⟨#[112, 114, 111, 112, 101, 114, 116, 121]⟩ : ByteArray), (⟨#[110, 101, 118, 101, 114]⟩ : ByteArray), (⟨#[101, 118, 101, 110, 116, 117, 97, 108, 108, 121]⟩ : ByteArray), (⟨#[115, 116, 97, 114, 116]⟩ : ByteArray), (⟨#[99, 111, 117, 110, 116]⟩ : ByteArray), (⟨#[97, 100, 106, 97, 99, 101, 110, 116]⟩ : ByteArray), (⟨#[103, 111, 97, 108]⟩ : ByteArray), (⟨#[99, 108, 105, 113, 117, 101]⟩ : ByteArray), (⟨#[108, 105, 110, 101]⟩ : ByteArray), (⟨#[114, 105, 110, 103]⟩ : ByteArray), (⟨#[116, 114, 101, 101]⟩ : ByteArray), (⟨#[99, 114, 97, 115, 104]⟩ : ByteArray), (⟨#[111, 109, 105, 115, 115, 105, 111, 110]⟩ : ByteArray), (⟨#[97, 114, 98, 105, 116, 114, 97, 114, 121]⟩ : ByteArray)] : List ByteArray)) := ⟨_, rfl⟩
  replace H : (some y286) = some r := by first | (rw [hy286]; with_reducible exact H) | (have H2_ := (Option.bind_some _ _).symm.trans H; rw [hy286]; with_reducible exact H2_) | (have H2_ := (Option.bind_some _ _).symm.trans H; with_reducible exact H2_) | with_reducible exact H | (rw [hy286]; exact H) | exact H
  have Ny286 := Aside0.mk hy286
  clear hy286
  obtain rfl := Option.some.inj H
  go_enter Tryd.func44, Tryd.ntmps44
  go_wp2_with (first | ((with_reducible refine gate_dst (N := 1) rfl ?_); refine Kd.R_lit Kd.string _ 9 ?hg (N := 1) ?hd (xs := ([(⟨#[112, 114, 111, 116, 111, 99, 111, 108]⟩ : ByteArray), (⟨#[116, 111, 112, 111, 108, 111, 103, 121]⟩ : ByteArray), (⟨#[115, 116, 97, 116, 101, 115]⟩ : ByteArray), (⟨#[109, 101, 115, 115, 97, 103, 101, 115]⟩ : ByteArray), (⟨#[118, 97, 108, 117, 101, 115]⟩ : ByteArray), (⟨#[102, 97, 117, 108, 116, 115]⟩ : ByteArray), (⟨#[114, 101, 115, 105, 108, 105, 101, 110, 99, 101]⟩ : ByteArray), (⟨#[105, 110, 105, 116, 105, 97, 108]⟩ : ByteArray), (⟨#[108, 101, 97, 100, 101, 114]⟩ : ByteArray), (⟨#[114, 117, 108, 101]⟩ : ByteArray), (⟨#[108, 111, 99, 97, 108]⟩ : ByteArray), (⟨#[112, 97, 105, 114]⟩ : ByteArray), (⟨#[98, 114, 111, 97, 100, 99, 97, 115, 116]⟩ : ByteArray), (⟨#[110, 101, 105, 103, 104, 98, 111, 114]⟩ : ByteArray), (⟨#[112, 97, 115, 115]⟩ : ByteArray), (⟨#[119, 104, 101, 110]⟩ : ByteArray), (⟨#[101, 120, 105, 115, 116, 115]⟩ : ByteArray), (⟨#[102, 111, 114, 97, 108, 108]⟩ : ByteArray), (⟨#[114, 101, 97, 100]⟩ : ByteArray), (⟨#[119, 114, 105, 116, 101]⟩ : ByteArray), (⟨#[115, 101, 110, 100]⟩ : ByteArray), (⟨#[97, 108, 108]⟩ : ByteArray), (⟨#[97, 116]⟩ : ByteArray), (⟨#[102, 105, 114, 115, 116]⟩ : ByteArray), (⟨#[108, 97, 115, 116]⟩ : ByteArray), (⟨#[108, 101, 102, 116]⟩ : ByteArray), (⟨#[114, 105, 103, 104, 116]⟩ : ByteArray), (⟨#[112, 97, 114, 101, 110, 116]⟩ : ByteArray), (⟨#[99, 104, 105, 108, 100]⟩ : ByteArray), (⟨#[112, 114, 111, 112, 101, 114, 116, 121]⟩ : ByteArray), (⟨#[110, 101, 118, 101, 114]⟩ : ByteArray), (⟨#[101, 118, 101, 110, 116, 117, 97, 108, 108, 121]⟩ : ByteArray), (⟨#[115, 116, 97, 114, 116]⟩ : ByteArray), (⟨#[99, 111, 117, 110, 116]⟩ : ByteArray), (⟨#[97, 100, 106, 97, 99, 101, 110, 116]⟩ : ByteArray), (⟨#[103, 111, 97, 108]⟩ : ByteArray), (⟨#[99, 108, 105, 113, 117, 101]⟩ : ByteArray), (⟨#[108, 105, 110, 101]⟩ : ByteArray), (⟨#[114, 105, 110, 103]⟩ : ByteArray), (⟨#[116, 114, 101, 101]⟩ : ByteArray), (⟨#[99, 114, 97, 115, 104]⟩ : ByteArray), (⟨#[111, 109, 105, 115, 115, 105, 111, 110]⟩ : ByteArray), (⟨#[97, 114, 98, 105, 116, 114, 97, 114, 121]⟩ : ByteArray)] : List ByteArray)) (inner := [.string (⟨#[112, 114, 111, 116, 111, 99, 111, 108]⟩ : ByteArray), .string (⟨#[116, 111, 112, 111, 108, 111, 103, 121]⟩ : ByteArray), .string (⟨#[115, 116, 97, 116, 101, 115]⟩ : ByteArray), .string (⟨#[109, 101, 115, 115, 97, 103, 101, 115]⟩ : ByteArray), .string (⟨#[118, 97, 108, 117, 101, 115]⟩ : ByteArray), .string (⟨#[102, 97, 117, 108, 116, 115]⟩ : ByteArray), .string (⟨#[114, 101, 115, 105, 108, 105, 101, 110, 99, 101]⟩ : ByteArray), .string (⟨#[105, 110, 105, 116, 105, 97, 108]⟩ : ByteArray), .string (⟨#[108, 101, 97, 100, 101, 114]⟩ : ByteArray), .string (⟨#[114, 117, 108, 101]⟩ : ByteArray), .string (⟨#[108, 111, 99, 97, 108]⟩ : ByteArray), .string (⟨#[112, 97, 105, 114]⟩ : ByteArray), .string (⟨#[98, 114, 111, 97, 100, 99, 97, 115, 116]⟩ : ByteArray), .string (⟨#[110, 101, 105, 103, 104, 98, 111, 114]⟩ : ByteArray), .string (⟨#[112, 97, 115, 115]⟩ : ByteArray), .string (⟨#[119, 104, 101, 110]⟩ : ByteArray), .string (⟨#[101, 120, 105, 115, 116, 115]⟩ : ByteArray), .string (⟨#[102, 111, 114, 97, 108, 108]⟩ : ByteArray), .string (⟨#[114, 101, 97, 100]⟩ : ByteArray), .string (⟨#[119, 114, 105, 116, 101]⟩ : ByteArray), .string (⟨#[115, 101, 110, 100]⟩ : ByteArray), .string (⟨#[97, 108, 108]⟩ : ByteArray), .string (⟨#[97, 116]⟩ : ByteArray), .string (⟨#[102, 105, 114, 115, 116]⟩ : ByteArray), .string (⟨#[108, 97, 115, 116]⟩ : ByteArray), .string (⟨#[108, 101, 102, 116]⟩ : ByteArray), .string (⟨#[114, 105, 103, 104, 116]⟩ : ByteArray), .string (⟨#[112, 97, 114, 101, 110, 116]⟩ : ByteArray), .string (⟨#[99, 104, 105, 108, 100]⟩ : ByteArray), .string (⟨#[112, 114, 111, 112, 101, 114, 116, 121]⟩ : ByteArray), .string (⟨#[110, 101, 118, 101, 114]⟩ : ByteArray), .string (⟨#[101, 118, 101, 110, 116, 117, 97, 108, 108, 121]⟩ : ByteArray), .string (⟨#[115, 116, 97, 114, 116]⟩ : ByteArray), .string (⟨#[99, 111, 117, 110, 116]⟩ : ByteArray), .string (⟨#[97, 100, 106, 97, 99, 101, 110, 116]⟩ : ByteArray), .string (⟨#[103, 111, 97, 108]⟩ : ByteArray), .string (⟨#[99, 108, 105, 113, 117, 101]⟩ : ByteArray), .string (⟨#[108, 105, 110, 101]⟩ : ByteArray), .string (⟨#[114, 105, 110, 103]⟩ : ByteArray), .string (⟨#[116, 114, 101, 101]⟩ : ByteArray), .string (⟨#[99, 114, 97, 115, 104]⟩ : ByteArray), .string (⟨#[111, 109, 105, 115, 115, 105, 111, 110]⟩ : ByteArray), .string (⟨#[97, 114, 98, 105, 116, 114, 97, 114, 121]⟩ : ByteArray)]) (ok := fun _ => True) (okp := fun _ => True) ?hr ?hp (fun _ hk => hk) trivial (Below.refl _ _) (Nat.le_refl _) (by simp) ?_; (case hd => rfl); (case hg => rfl); (case hr => first | (go_simp; done) | (go_simp; rfl)); (case hp => exact (Reps.one (show Kd.M Kd.string _ _ _ (⟨#[112, 114, 111, 116, 111, 99, 111, 108]⟩ : ByteArray) [.string (⟨#[112, 114, 111, 116, 111, 99, 111, 108]⟩ : ByteArray)] from rfl) (Reps.one (show Kd.M Kd.string _ _ _ (⟨#[116, 111, 112, 111, 108, 111, 103, 121]⟩ : ByteArray) [.string (⟨#[116, 111, 112, 111, 108, 111, 103, 121]⟩ : ByteArray)] from rfl) (Reps.one (show Kd.M Kd.string _ _ _ (⟨#[115, 116, 97, 116, 101, 115]⟩ : ByteArray) [.string (⟨#[115, 116, 97, 116, 101, 115]⟩ : ByteArray)] from rfl) (Reps.one (show Kd.M Kd.string _ _ _ (⟨#[109, 101, 115, 115, 97, 103, 101, 115]⟩ : ByteArray) [.string (⟨#[109, 101, 115, 115, 97, 103, 101, 115]⟩ : ByteArray)] from rfl) (Reps.one (show Kd.M Kd.string _ _ _ (⟨#[118, 97, 108, 117, 101, 115]⟩ : ByteArray) [.string (⟨#[118, 97, 108, 117, 101, 115]⟩ : ByteArray)] from rfl) (Reps.one (show Kd.M Kd.string _ _ _ (⟨#[102, 97, 117, 108, 116, 115]⟩ : ByteArray) [.string (⟨#[102, 97, 117, 108, 116, 115]⟩ : ByteArray)] from rfl) (Reps.one (show Kd.M Kd.string _ _ _ (⟨#[114, 101, 115, 105, 108, 105, 101, 110, 99, 101]⟩ : ByteArray) [.string (⟨#[114, 101, 115, 105, 108, 105, 101, 110, 99, 101]⟩ : ByteArray)] from rfl) (Reps.one (show Kd.M Kd.string _ _ _ (⟨#[105, 110, 105, 116, 105, 97, 108]⟩ : ByteArray) [.string (⟨#[105, 110, 105, 116, 105, 97, 108]⟩ : ByteArray)] from rfl) (Reps.one (show Kd.M Kd.string _ _ _ (⟨#[108, 101, 97, 100, 101, 114]⟩ : ByteArray) [.string (⟨#[108, 101, 97, 100, 101, 114]⟩ : ByteArray)] from rfl) (Reps.one (show Kd.M Kd.string _ _ _ (⟨#[114, 117, 108, 101]⟩ : ByteArray) [.string (⟨#[114, 117, 108, 101]⟩ : ByteArray)] from rfl) (Reps.one (show Kd.M Kd.string _ _ _ (⟨#[108, 111, 99, 97, 108]⟩ : ByteArray) [.string (⟨#[108, 111, 99, 97, 108]⟩ : ByteArray)] from rfl) (Reps.one (show Kd.M Kd.string _ _ _ (⟨#[112, 97, 105, 114]⟩ : ByteArray) [.string (⟨#[112, 97, 105, 114]⟩ : ByteArray)] from rfl) (Reps.one (show Kd.M Kd.string _ _ _ (⟨#[98, 114, 111, 97, 100, 99, 97, 115, 116]⟩ : ByteArray) [.string (⟨#[98, 114, 111, 97, 100, 99, 97, 115, 116]⟩ : ByteArray)] from rfl) (Reps.one (show Kd.M Kd.string _ _ _ (⟨#[110, 101, 105, 103, 104, 98, 111, 114]⟩ : ByteArray) [.string (⟨#[110, 101, 105, 103, 104, 98, 111, 114]⟩ : ByteArray)] from rfl) (Reps.one (show Kd.M Kd.string _ _ _ (⟨#[112, 97, 115, 115]⟩ : ByteArray) [.string (⟨#[112, 97, 115, 115]⟩ : ByteArray)] from rfl) (Reps.one (show Kd.M Kd.string _ _ _ (⟨#[119, 104, 101, 110]⟩ : ByteArray) [.string (⟨#[119, 104, 101, 110]⟩ : ByteArray)] from rfl) (Reps.one (show Kd.M Kd.string _ _ _ (⟨#[101, 120, 105, 115, 116, 115]⟩ : ByteArray) [.string (⟨#[101, 120, 105, 115, 116, 115]⟩ : ByteArray)] from rfl) (Reps.one (show Kd.M Kd.string _ _ _ (⟨#[102, 111, 114, 97, 108, 108]⟩ : ByteArray) [.string (⟨#[102, 111, 114, 97, 108, 108]⟩ : ByteArray)] from rfl) (Reps.one (show Kd.M Kd.string _ _ _ (⟨#[114, 101, 97, 100]⟩ : ByteArray) [.string (⟨#[114, 101, 97, 100]⟩ : ByteArray)] from rfl) (Reps.one (show Kd.M Kd.string _ _ _ (⟨#[119, 114, 105, 116, 101]⟩ : ByteArray) [.string (⟨#[119, 114, 105, 116, 101]⟩ : ByteArray)] from rfl) (Reps.one (show Kd.M Kd.string _ _ _ (⟨#[115, 101, 110, 100]⟩ : ByteArray) [.string (⟨#[115, 101, 110, 100]⟩ : ByteArray)] from rfl) (Reps.one (show Kd.M Kd.string _ _ _ (⟨#[97, 108, 108]⟩ : ByteArray) [.string (⟨#[97, 108, 108]⟩ : ByteArray)] from rfl) (Reps.one (show Kd.M Kd.string _ _ _ (⟨#[97, 116]⟩ : ByteArray) [.string (⟨#[97, 116]⟩ : ByteArray)] from rfl) (Reps.one (show Kd.M Kd.string _ _ _ (⟨#[102, 105, 114, 115, 116]⟩ : ByteArray) [.string (⟨#[102, 105, 114, 115, 116]⟩ : ByteArray)] from rfl) (Reps.one (show Kd.M Kd.string _ _ _ (⟨#[108, 97, 115, 116]⟩ : ByteArray) [.string (⟨#[108, 97, 115, 116]⟩ : ByteArray)] from rfl) (Reps.one (show Kd.M Kd.string _ _ _ (⟨#[108, 101, 102, 116]⟩ : ByteArray) [.string (⟨#[108, 101, 102, 116]⟩ : ByteArray)] from rfl) (Reps.one (show Kd.M Kd.string _ _ _ (⟨#[114, 105, 103, 104, 116]⟩ : ByteArray) [.string (⟨#[114, 105, 103, 104, 116]⟩ : ByteArray)] from rfl) (Reps.one (show Kd.M Kd.string _ _ _ (⟨#[112, 97, 114, 101, 110, 116]⟩ : ByteArray) [.string (⟨#[112, 97, 114, 101, 110, 116]⟩ : ByteArray)] from rfl) (Reps.one (show Kd.M Kd.string _ _ _ (⟨#[99, 104, 105, 108, 100]⟩ : ByteArray) [.string (⟨#[99, 104, 105, 108, 100]⟩ : ByteArray)] from rfl) (Reps.one (show Kd.M Kd.string _ _ _ (⟨#[112, 114, 111, 112, 101, 114, 116, 121]⟩ : ByteArray) [.string (⟨#[112, 114, 111, 112, 101, 114, 116, 121]⟩ : ByteArray)] from rfl) (Reps.one (show Kd.M Kd.string _ _ _ (⟨#[110, 101, 118, 101, 114]⟩ : ByteArray) [.string (⟨#[110, 101, 118, 101, 114]⟩ : ByteArray)] from rfl) (Reps.one (show Kd.M Kd.string _ _ _ (⟨#[101, 118, 101, 110, 116, 117, 97, 108, 108, 121]⟩ : ByteArray) [.string (⟨#[101, 118, 101, 110, 116, 117, 97, 108, 108, 121]⟩ : ByteArray)] from rfl) (Reps.one (show Kd.M Kd.string _ _ _ (⟨#[115, 116, 97, 114, 116]⟩ : ByteArray) [.string (⟨#[115, 116, 97, 114, 116]⟩ : ByteArray)] from rfl) (Reps.one (show Kd.M Kd.string _ _ _ (⟨#[99, 111, 117, 110, 116]⟩ : ByteArray) [.string (⟨#[99, 111, 117, 110, 116]⟩ : ByteArray)] from rfl) (Reps.one (show Kd.M Kd.string _ _ _ (⟨#[97, 100, 106, 97, 99, 101, 110, 116]⟩ : ByteArray) [.string (⟨#[97, 100, 106, 97, 99, 101, 110, 116]⟩ : ByteArray)] from rfl) (Reps.one (show Kd.M Kd.string _ _ _ (⟨#[103, 111, 97, 108]⟩ : ByteArray) [.string (⟨#[103, 111, 97, 108]⟩ : ByteArray)] from rfl) (Reps.one (show Kd.M Kd.string _ _ _ (⟨#[99, 108, 105, 113, 117, 101]⟩ : ByteArray) [.string (⟨#[99, 108, 105, 113, 117, 101]⟩ : ByteArray)] from rfl) (Reps.one (show Kd.M Kd.string _ _ _ (⟨#[108, 105, 110, 101]⟩ : ByteArray) [.string (⟨#[108, 105, 110, 101]⟩ : ByteArray)] from rfl) (Reps.one (show Kd.M Kd.string _ _ _ (⟨#[114, 105, 110, 103]⟩ : ByteArray) [.string (⟨#[114, 105, 110, 103]⟩ : ByteArray)] from rfl) (Reps.one (show Kd.M Kd.string _ _ _ (⟨#[116, 114, 101, 101]⟩ : ByteArray) [.string (⟨#[116, 114, 101, 101]⟩ : ByteArray)] from rfl) (Reps.one (show Kd.M Kd.string _ _ _ (⟨#[99, 114, 97, 115, 104]⟩ : ByteArray) [.string (⟨#[99, 114, 97, 115, 104]⟩ : ByteArray)] from rfl) (Reps.one (show Kd.M Kd.string _ _ _ (⟨#[111, 109, 105, 115, 115, 105, 111, 110]⟩ : ByteArray) [.string (⟨#[111, 109, 105, 115, 115, 105, 111, 110]⟩ : ByteArray)] from rfl) (Reps.one (show Kd.M Kd.string _ _ _ (⟨#[97, 114, 98, 105, 116, 114, 97, 114, 121]⟩ : ByteArray) [.string (⟨#[97, 114, 98, 105, 116, 114, 97, 114, 121]⟩ : ByteArray)] from rfl) (Reps.none _ _))))))))))))))))))))))))))))))))))))))))))))); intro v287 w1 ho2 hb hg_ hnew_; clear hg_ hnew_; (first | rw [← Ny286.out] at ho2 | (simp only [Int.reduceToNat] at ho2; rw [← Ny286.out] at ho2)); have n0_ := Aside0.mk (Kd.R_lower ho2 (below_size (by repeat (first | (with_reducible first | exact HB.out | apply below_alloc | apply pw_below_drewN | apply below_drew1) | exact HB.out)))); have n1_ := Aside0.mk (below_step (by repeat (first | (with_reducible first | exact HB.out | apply below_alloc | apply pw_below_drewN | apply below_drew1) | exact HB.out)) hb); clear HB; have HO288 := n0_; have HB := n1_; clear n0_ n1_; clear hb ho2))
  go_ret
  exact ⟨_, by first | rfl | (simp [errW_none, errW_some] <;> rfl) | (simp [*, errW_none, errW_some] <;> rfl), by (with_reducible repeat (first | apply Kd.R_alloc | apply Kd.R_drewN | apply Kd.R_drew)); exact HO288.out, by repeat (first | (with_reducible first | exact HB.out | apply below_alloc | apply pw_below_drewN | apply below_drew1) | exact HB.out)⟩

end Go.Proofs.YtbioiodjdfcooabDoor.P
