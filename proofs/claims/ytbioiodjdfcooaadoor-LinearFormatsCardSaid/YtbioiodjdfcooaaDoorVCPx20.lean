import Derived.Test.YtbioiodjdfcooaaDoorVCPx0
import Derived.Test.YtbioiodjdfcooaaDoorVCPx1
import Derived.Test.YtbioiodjdfcooaaDoorVCPx2
import Derived.Test.YtbioiodjdfcooaaDoorVCPx5
import Derived.Test.YtbioiodjdfcooaaDoorVCPx7
import Derived.Test.YtbioiodjdfcooaaDoorVCPx16
-- Written by a program of this session (wip/tools/doprint.sh: the kit's print, with given texts for some functions).
namespace Go.Proofs.YtbioiodjdfcooaaDoor.P
open Go.RowKit Go.Proofs.YtbioiodjdfcooaaDoorW.PrintWords Go.Proofs.YtbioiodjdfcooaaDoorW.PrintLast Go.Proofs.YtbioiodjdfcooaaDoorW.PrintMore
attribute [local go_sem] max2_int min2_int max_two min_two max_three min_three max_four min_four   -- for this text's walks alone
set_option linter.unusedVariables false
set_option linter.unusedSimpArgs false

/-! ### familychecklaw01_LinearTightenKeeps: function 6 -/
/-! ### familycheckref01_digits: function 66 -/
def familycheckref01_digits.l0 : Nat → Int → ByteArray → Option (ByteArray)
  | 0, _, _ => none
  | k + 1, x0, x3 => if x0 > 9 then ((some (([(wrap64 (48 + (Int.tmod x0 10))) % 256] : List Int) : List Int)).bind fun y299 => (if (strOfNums y299).size + x3.size ≤ 9223372036854775807 then (familycheckref01_digits.l0 k (wrap64 (Int.tdiv x0 10)) ((strOfNums y299) ++ x3)) else (none))) else ((some (([(wrap64 (48 + x0)) % 256] : List Int) : List Int)).bind fun y302 => (if (strOfNums y302).size + x3.size ≤ 9223372036854775807 then (some ((strOfNums y302) ++ x3)) else (none)))
def familycheckref01_digits.f (k : Nat) (a0 : Int) : Option (ByteArray) := familycheckref01_digits.l0 k a0 (⟨#[]⟩ : ByteArray)
set_option maxHeartbeats 8000000 in
set_option maxRecDepth 100000 in
theorem familycheckref01_digits.calls (k : Nat) (a0 : Int) (r : ByteArray) (w : World) (h : familycheckref01_digits.f k a0 = some r) :
    Calls Tryd.prog 66 #[.int .i64 a0] w fun e w' => e = .returned (.string r) ∧ Below w.heap.size w w' := by
  have HB := Aside0.mk (Below.refl w.heap.size w)
  have H : (familycheckref01_digits.l0 k a0 (⟨#[]⟩ : ByteArray)) = some r := h
  clear h
  have H' := Aside0.mk H
  clear H
  go_enter Tryd.func66, Tryd.ntmps66
  go_wp2
  go_loopg [0, 3] k (fun kq v0 v3 w' => ∃ (x0_1 : Int) (x3_1 : ByteArray), v0 = .int .i64 x0_1 ∧ v3 = .string x3_1 ∧ Aside0 (familycheckref01_digits.l0 kq x0_1 x3_1 = some r) ∧ Aside0 (kq ≤ k) ∧ Aside0 (Below w.heap.size w w'))
  case atStart => exact ⟨(a0), ((⟨#[]⟩ : ByteArray)), (by first | rfl | (simp; done) | (simp [*]; done)), (by first | rfl | (simp; done) | (simp [*]; done)), H', ⟨Nat.le_refl _⟩, ⟨by repeat (first | (with_reducible first | exact HB.out | apply below_alloc | apply pw_below_drewN | apply below_drew1) | exact HB.out)⟩⟩
  case round =>
    clear H'
    obtain ⟨x0_1, x3_1, rfl, rfl, HA, HK1, HB⟩ := hrel
    cases gk with
    | zero => exact absurd HA.out (by simp [familycheckref01_digits.l0])
    | succ k1 =>
      have H := HA.out
      clear HA
      simp only [familycheckref01_digits.l0] at H
      by_cases c2 : x0_1 > 9
      · rw [if_pos c2] at H
        have c2b0 : decide (9 < x0_1) = true := decide_eq_true c2
        clear c2
        obtain ⟨y299, hy299⟩ : ∃ y_ : List Int, y_ = (([(wrap64 (48 + (Int.tmod x0_1 10))) % 256] : List Int)) := ⟨_, rfl⟩
        replace H : (if (strOfNums y299).size + x3_1.size ≤ 9223372036854775807 then (familycheckref01_digits.l0 k1 (wrap64 (Int.tdiv x0_1 10)) ((strOfNums y299) ++ x3_1)) else (none)) = some r := by first | (rw [hy299]; with_reducible exact H) | (have H2_ := (Option.bind_some _ _).symm.trans H; rw [hy299]; with_reducible exact H2_) | (have H2_ := (Option.bind_some _ _).symm.trans H; with_reducible exact H2_) | with_reducible exact H | (rw [hy299]; exact H) | exact H
        have Ny299 := Aside0.mk hy299
        clear hy299
        by_cases c3 : (strOfNums y299).size + x3_1.size ≤ 9223372036854775807
        · rw [if_pos c3] at H
          have c3b0 := eq_true c3
          have c3b1 : decide ((strOfNums y299).size + x3_1.size ≤ 9223372036854775807) = true := decide_eq_true c3
          try have c3b2 : (9223372036854775807 < (strOfNums y299).size + x3_1.size) = False := eq_false (Nat.not_lt.2 c3)
          have H' := Aside0.mk H
          clear H
          go_wp2_with (first | ((with_reducible refine gate_dst (N := 10) rfl ?_); refine Kd.R_lit (Kd.int .u8) _ 5 ?hg (N := 10) ?hd (xs := ([(wrap64 (48 + (Int.tmod x0_1 10))) % 256] : List Int)) (inner := [.int .u8 ((wrap64 (48 + (Int.tmod x0_1 10))) % 256)]) (ok := fun _ => True) (okp := fun _ => True) ?hr ?hp (fun _ hk => hk) trivial (Below.refl _ _) (Nat.le_refl _) (by simp) ?_; (case hd => rfl); (case hg => rfl); (case hr => first | (go_simp; done) | (go_simp; rfl)); (case hp => exact (Reps.one (show Kd.M (Kd.int .u8) _ _ _ ((wrap64 (48 + (Int.tmod x0_1 10))) % 256) [.int .u8 ((wrap64 (48 + (Int.tmod x0_1 10))) % 256)] from rfl) (Reps.none _ _))); intro v300 w4 ho5 hb hg_ hnew_; clear hg_ hnew_; (first | rw [← Ny299.out] at ho5 | (simp only [Int.reduceToNat] at ho5; rw [← Ny299.out] at ho5)); have n0_ := Aside0.mk (Kd.R_lower ho5 (below_size (by repeat (first | (with_reducible first | exact HB.out | apply below_alloc | apply pw_below_drewN | apply below_drew1) | exact HB.out)))); have n1_ := Aside0.mk (below_step (by repeat (first | (with_reducible first | exact HB.out | apply below_alloc | apply pw_below_drewN | apply below_drew1) | exact HB.out)) hb); clear HB; have HO301 := n0_; have HB := n1_; clear n0_ n1_; clear hb ho5; have hcv6 := own_string (P := Tryd.prog) Tryd.underlying72 Tryd.underlying5 Tryd.underlying9 (Kd.own_of_R HO301.out)))
          go_roundg k1
          case measure => have := HK1.out; omega
          case rel => exact ⟨(wrap64 (Int.tdiv x0_1 10)), ((strOfNums y299) ++ x3_1), (by first | rfl | (simp; done) | (simp [*]; done)), (by first | rfl | (simp; done) | (simp [*]; done)), H', ⟨by have := HK1.out; omega⟩, ⟨by repeat (first | (with_reducible first | exact HB.out | apply below_alloc | apply pw_below_drewN | apply below_drew1) | exact HB.out)⟩⟩
        · rw [if_neg c3] at H
          exact absurd H (by simp)
      · rw [if_neg c2] at H
        have c2b0 : decide (9 < x0_1) = false := decide_eq_false c2
        clear c2
        obtain ⟨y302, hy302⟩ : ∃ y_ : List Int, y_ = (([(wrap64 (48 + x0_1)) % 256] : List Int)) := ⟨_, rfl⟩
        replace H : (if (strOfNums y302).size + x3_1.size ≤ 9223372036854775807 then (some ((strOfNums y302) ++ x3_1)) else (none)) = some r := by first | (rw [hy302]; with_reducible exact H) | (have H2_ := (Option.bind_some _ _).symm.trans H; rw [hy302]; with_reducible exact H2_) | (have H2_ := (Option.bind_some _ _).symm.trans H; with_reducible exact H2_) | with_reducible exact H | (rw [hy302]; exact H) | exact H
        have Ny302 := Aside0.mk hy302
        clear hy302
        by_cases c7 : (strOfNums y302).size + x3_1.size ≤ 9223372036854775807
        · rw [if_pos c7] at H
          have c7b0 := eq_true c7
          have c7b1 : decide ((strOfNums y302).size + x3_1.size ≤ 9223372036854775807) = true := decide_eq_true c7
          try have c7b2 : (9223372036854775807 < (strOfNums y302).size + x3_1.size) = False := eq_false (Nat.not_lt.2 c7)
          obtain rfl := Option.some.inj H
          go_wp2_with (first | ((with_reducible refine gate_dst (N := 19) rfl ?_); refine Kd.R_lit (Kd.int .u8) _ 5 ?hg (N := 19) ?hd (xs := ([(wrap64 (48 + x0_1)) % 256] : List Int)) (inner := [.int .u8 ((wrap64 (48 + x0_1)) % 256)]) (ok := fun _ => True) (okp := fun _ => True) ?hr ?hp (fun _ hk => hk) trivial (Below.refl _ _) (Nat.le_refl _) (by simp) ?_; (case hd => rfl); (case hg => rfl); (case hr => first | (go_simp; done) | (go_simp; rfl)); (case hp => exact (Reps.one (show Kd.M (Kd.int .u8) _ _ _ ((wrap64 (48 + x0_1)) % 256) [.int .u8 ((wrap64 (48 + x0_1)) % 256)] from rfl) (Reps.none _ _))); intro v303 w8 ho9 hb hg_ hnew_; clear hg_ hnew_; (first | rw [← Ny302.out] at ho9 | (simp only [Int.reduceToNat] at ho9; rw [← Ny302.out] at ho9)); have n0_ := Aside0.mk (Kd.R_lower ho9 (below_size (by repeat (first | (with_reducible first | exact HB.out | apply below_alloc | apply pw_below_drewN | apply below_drew1) | exact HB.out)))); have n1_ := Aside0.mk (below_step (by repeat (first | (with_reducible first | exact HB.out | apply below_alloc | apply pw_below_drewN | apply below_drew1) | exact HB.out)) hb); clear HB; have HO304 := n0_; have HB := n1_; clear n0_ n1_; clear hb ho9; have hcv10 := own_string (P := Tryd.prog) Tryd.underlying72 Tryd.underlying5 Tryd.underlying9 (Kd.own_of_R HO304.out)))
          go_ret
          exact ⟨by first | rfl | (simp [errW_none, errW_some] <;> rfl) | (simp [*, errW_none, errW_some] <;> rfl), by repeat (first | (with_reducible first | exact HB.out | apply below_alloc | apply pw_below_drewN | apply below_drew1) | exact HB.out)⟩
        · rw [if_neg c7] at H
          exact absurd H (by simp)

/-! ### familycheckref01_item: function 65 -/
mutual
def familycheckref01_item.j0 : Nat → Int → ByteArray → ByteArray → Option (ByteArray)
  | 0, _, _, _ => none
  | k + 1, x1, x2, x7 => if x2.toList = ([] : List UInt8) then (familycheckref01_item.j1 k x1 x2 x7 false) else ((familycheckref01_abs.f x1).bind fun t305 => (familycheckref01_item.j1 k x1 x2 x7 (t305 == 1)))
def familycheckref01_item.j1 : Nat → Int → ByteArray → ByteArray → Bool → Option (ByteArray)
  | 0, _, _, _, _ => none
  | k + 1, x1, x2, x7, x19 => if x19 = true then (if x7.size + x2.size ≤ 9223372036854775807 then (some (x7 ++ x2)) else (none)) else ((familycheckref01_abs.f x1).bind fun t306 => ((familycheckref01_digits.f k t306).bind fun t307 => (if x7.size + t307.size ≤ 9223372036854775807 then (if x2.toList = ([] : List UInt8) then (some (x7 ++ t307)) else (if (x7 ++ t307).size + 1 ≤ 9223372036854775807 then (if ((x7 ++ t307) ++ (⟨#[42]⟩ : ByteArray)).size + x2.size ≤ 9223372036854775807 then (some (((x7 ++ t307) ++ (⟨#[42]⟩ : ByteArray)) ++ x2)) else (none)) else (none))) else (none))))
end
def familycheckref01_item.f (k : Nat) (a0 : Bool) (a1 : Int) (a2 : ByteArray) : Option (ByteArray) := if a0 = true then (if a1 < 0 then (familycheckref01_item.j0 k a1 a2 (⟨#[45]⟩ : ByteArray)) else (familycheckref01_item.j0 k a1 a2 (⟨#[]⟩ : ByteArray))) else (if a1 < 0 then (familycheckref01_item.j0 k a1 a2 (⟨#[32, 45, 32]⟩ : ByteArray)) else (familycheckref01_item.j0 k a1 a2 (⟨#[32, 43, 32]⟩ : ByteArray)))
set_option maxHeartbeats 8000000 in
set_option maxRecDepth 100000 in
theorem familycheckref01_item.calls (k : Nat) (a0 : Bool) (a1 : Int) (a2 : ByteArray) (r : ByteArray) (w : World) (h : familycheckref01_item.f k a0 a1 a2 = some r) :
    Calls Tryd.prog 65 #[.bool a0, .int .i64 a1, .string a2] w fun e w' => e = .returned (.string r) ∧ Below w.heap.size w w' := by
  have HB := Aside0.mk (Below.refl w.heap.size w)
  have H : (if a0 = true then (if a1 < 0 then (familycheckref01_item.j0 k a1 a2 (⟨#[45]⟩ : ByteArray)) else (familycheckref01_item.j0 k a1 a2 (⟨#[]⟩ : ByteArray))) else (if a1 < 0 then (familycheckref01_item.j0 k a1 a2 (⟨#[32, 45, 32]⟩ : ByteArray)) else (familycheckref01_item.j0 k a1 a2 (⟨#[32, 43, 32]⟩ : ByteArray)))) = some r := h
  clear h
  have HC4 := Aside0.mk H
  clear H
  go_enter Tryd.func65, Tryd.ntmps65
  go_upto_if 8 with (fail)
  go_cut [7] (fun v7 wc => ∃ (kq : Nat) (x7_3 : ByteArray), v7 = .string x7_3 ∧ Aside0 (familycheckref01_item.j0 kq a1 a2 x7_3 = some r) ∧ Aside0 (kq ≤ k) ∧ Aside0 (Below w.heap.size w wc))
  case first =>
    have H := HC4.out
    clear HC4
    by_cases c5 : a0 = true
    · subst c5
      have H1 : (if a1 < 0 then (familycheckref01_item.j0 k a1 a2 (⟨#[45]⟩ : ByteArray)) else (familycheckref01_item.j0 k a1 a2 (⟨#[]⟩ : ByteArray))) = some r := by rw [if_pos rfl] at H; exact H
      clear H
      have H := H1
      clear H1
      by_cases c6 : a1 < 0
      · rw [if_pos c6] at H
        have c6b0 : decide (a1 < 0) = true := decide_eq_true c6
        clear c6
        (first | rw [c6b0] | (simp only [i64_w, i32_w]; rw [c6b0]) | skip)
        have H' := Aside0.mk H
        clear H
        go_wp2
        go_meet
        case rel => exact ⟨_, ((⟨#[45]⟩ : ByteArray)), (by first | rfl | (simp; done) | (simp [*]; done)), H', ⟨by first | omega | exact Nat.le_refl _⟩, ⟨by repeat (first | (with_reducible first | exact HB.out | apply below_alloc | apply pw_below_drewN | apply below_drew1) | exact HB.out)⟩⟩
      · rw [if_neg c6] at H
        have c6b0 : decide (a1 < 0) = false := decide_eq_false c6
        clear c6
        (first | rw [c6b0] | (simp only [i64_w, i32_w]; rw [c6b0]) | skip)
        have H' := Aside0.mk H
        clear H
        go_wp2
        go_meet
        case rel => exact ⟨_, ((⟨#[]⟩ : ByteArray)), (by first | rfl | (simp; done) | (simp [*]; done)), H', ⟨by first | omega | exact Nat.le_refl _⟩, ⟨by repeat (first | (with_reducible first | exact HB.out | apply below_alloc | apply pw_below_drewN | apply below_drew1) | exact HB.out)⟩⟩
    · replace c5 := Bool.eq_false_iff.mpr c5
      subst c5
      have H1 : (if a1 < 0 then (familycheckref01_item.j0 k a1 a2 (⟨#[32, 45, 32]⟩ : ByteArray)) else (familycheckref01_item.j0 k a1 a2 (⟨#[32, 43, 32]⟩ : ByteArray))) = some r := by rw [if_neg (show ¬ (false = true) by decide)] at H; exact H
      clear H
      have H := H1
      clear H1
      by_cases c7 : a1 < 0
      · rw [if_pos c7] at H
        have c7b0 : decide (a1 < 0) = true := decide_eq_true c7
        clear c7
        have H' := Aside0.mk H
        clear H
        go_wp2
        go_meet
        case rel => exact ⟨_, ((⟨#[32, 45, 32]⟩ : ByteArray)), (by first | rfl | (simp; done) | (simp [*]; done)), H', ⟨by first | omega | exact Nat.le_refl _⟩, ⟨by repeat (first | (with_reducible first | exact HB.out | apply below_alloc | apply pw_below_drewN | apply below_drew1) | exact HB.out)⟩⟩
      · rw [if_neg c7] at H
        have c7b0 : decide (a1 < 0) = false := decide_eq_false c7
        clear c7
        have H' := Aside0.mk H
        clear H
        go_wp2
        go_meet
        case rel => exact ⟨_, ((⟨#[32, 43, 32]⟩ : ByteArray)), (by first | rfl | (simp; done) | (simp [*]; done)), H', ⟨by first | omega | exact Nat.le_refl _⟩, ⟨by repeat (first | (with_reducible first | exact HB.out | apply below_alloc | apply pw_below_drewN | apply below_drew1) | exact HB.out)⟩⟩
  case rest =>
    clear HC4
    try clear p2
    try clear c5
    try clear c6
    try clear c6b0
    try clear c7
    try clear c7b0
    obtain ⟨kq, x7_3, rfl, HA, HJ3, HB⟩ := hcut
    cases kq with
    | zero => exact absurd HA.out (by simp [familycheckref01_item.j0])
    | succ kj3 =>
      have H := HA.out
      clear HA
      simp only [familycheckref01_item.j0] at H
      have HC8 := Aside0.mk H
      clear H
      go_upto_region 8 with (fail)
      go_cut [19] (fun v19 wc => ∃ (kq : Nat) (x19_7 : Bool), v19 = .bool x19_7 ∧ Aside0 (familycheckref01_item.j1 kq a1 a2 x7_3 x19_7 = some r) ∧ Aside0 (kq ≤ kj3) ∧ Aside0 (Below w.heap.size w wc))
      case first =>
        have H := HC8.out
        clear HC8
        by_cases c9 : a2.toList = ([] : List UInt8)
        · rw [if_pos c9] at H
          have c9b0 : (a2.toList == ([] : List UInt8)) = true := beq_iff_eq.mpr c9
          have c9b1 : (a2.toList != ([] : List UInt8)) = false := bne_eq_false_iff_eq.mpr c9
          clear c9
          (first | rw [c9b0] | (simp only [i64_w, i32_w]; rw [c9b0]) | skip)
          have H' := Aside0.mk H
          clear H
          go_wp2
          go_meet
          case rel => exact ⟨_, (false), (by first | rfl | (simp; done) | (simp [*]; done)), H', ⟨by have := HJ3.out; first | omega | exact Nat.le_refl _⟩, ⟨by repeat (first | (with_reducible first | exact HB.out | apply below_alloc | apply pw_below_drewN | apply below_drew1) | exact HB.out)⟩⟩
        · rw [if_neg c9] at H
          have c9b0 : (a2.toList == ([] : List UInt8)) = false := beq_eq_false_iff_ne.mpr c9
          have c9b1 : (a2.toList != ([] : List UInt8)) = true := bne_iff_ne.mpr c9
          (first | rw [c9b0] | (simp only [i64_w, i32_w]; rw [c9b0]) | skip)
          replace H := Option.bind_eq_some_iff.mp H
          obtain ⟨t305, A100, H⟩ := H
          replace H : (familycheckref01_item.j1 kj3 a1 a2 x7_3 (t305 == 1)) = some r := H
          have A10 := Aside0.mk A100
          clear A100
          have H' := Aside0.mk H
          clear H
          go_wp2_with (first | (go_at_call 59; (with_reducible refine (familycheckref01_abs.calls a1 t305 _ A10.out).mono ?_); rintro e w' ⟨rfl, ⟨nd, rfl⟩⟩))
          go_meet
          case rel => exact ⟨_, ((t305 == 1)), (by first | rfl | (simp; done) | (simp [*]; done)), H', ⟨by have := HJ3.out; first | omega | exact Nat.le_refl _⟩, ⟨by repeat (first | (with_reducible first | exact HB.out | apply below_alloc | apply pw_below_drewN | apply below_drew1) | exact HB.out)⟩⟩
      case rest =>
        clear HC8
        try clear p2
        try clear c5
        try clear c6
        try clear c6b0
        try clear c7
        try clear c7b0
        try clear c9
        try clear c9b0
        try clear c9b1
        try clear p2
        obtain ⟨kq, x19_7, rfl, HA, HJ7, HB⟩ := hcut
        cases kq with
        | zero => exact absurd HA.out (by simp [familycheckref01_item.j1])
        | succ kj7 =>
          have H := HA.out
          clear HA
          simp only [familycheckref01_item.j1] at H
          by_cases c11 : x19_7 = true
          · subst c11
            have H1 : (if x7_3.size + a2.size ≤ 9223372036854775807 then (some (x7_3 ++ a2)) else (none)) = some r := by rw [if_pos rfl] at H; exact H
            clear H
            have H := H1
            clear H1
            by_cases c12 : x7_3.size + a2.size ≤ 9223372036854775807
            · rw [if_pos c12] at H
              have c12b0 := eq_true c12
              have c12b1 : decide (x7_3.size + a2.size ≤ 9223372036854775807) = true := decide_eq_true c12
              try have c12b2 : (9223372036854775807 < x7_3.size + a2.size) = False := eq_false (Nat.not_lt.2 c12)
              obtain rfl := Option.some.inj H
              go_wp2
              go_ret
              exact ⟨by first | rfl | (simp [errW_none, errW_some] <;> rfl) | (simp [*, errW_none, errW_some] <;> rfl), by repeat (first | (with_reducible first | exact HB.out | apply below_alloc | apply pw_below_drewN | apply below_drew1) | exact HB.out)⟩
            · rw [if_neg c12] at H
              exact absurd H (by simp)
          · replace c11 := Bool.eq_false_iff.mpr c11
            subst c11
            have H1 : ((familycheckref01_abs.f a1).bind fun t306 => ((familycheckref01_digits.f kj7 t306).bind fun t307 => (if x7_3.size + t307.size ≤ 9223372036854775807 then (if a2.toList = ([] : List UInt8) then (some (x7_3 ++ t307)) else (if (x7_3 ++ t307).size + 1 ≤ 9223372036854775807 then (if ((x7_3 ++ t307) ++ (⟨#[42]⟩ : ByteArray)).size + a2.size ≤ 9223372036854775807 then (some (((x7_3 ++ t307) ++ (⟨#[42]⟩ : ByteArray)) ++ a2)) else (none)) else (none))) else (none)))) = some r := by rw [if_neg (show ¬ (false = true) by decide)] at H; exact H
            clear H
            have H := H1
            clear H1
            replace H := Option.bind_eq_some_iff.mp H
            obtain ⟨t306, A130, H⟩ := H
            replace H : ((familycheckref01_digits.f kj7 t306).bind fun t307 => (if x7_3.size + t307.size ≤ 9223372036854775807 then (if a2.toList = ([] : List UInt8) then (some (x7_3 ++ t307)) else (if (x7_3 ++ t307).size + 1 ≤ 9223372036854775807 then (if ((x7_3 ++ t307) ++ (⟨#[42]⟩ : ByteArray)).size + a2.size ≤ 9223372036854775807 then (some (((x7_3 ++ t307) ++ (⟨#[42]⟩ : ByteArray)) ++ a2)) else (none)) else (none))) else (none))) = some r := H
            have A13 := Aside0.mk A130
            clear A130
            replace H := Option.bind_eq_some_iff.mp H
            obtain ⟨t307, A140, H⟩ := H
            replace H : (if x7_3.size + t307.size ≤ 9223372036854775807 then (if a2.toList = ([] : List UInt8) then (some (x7_3 ++ t307)) else (if (x7_3 ++ t307).size + 1 ≤ 9223372036854775807 then (if ((x7_3 ++ t307) ++ (⟨#[42]⟩ : ByteArray)).size + a2.size ≤ 9223372036854775807 then (some (((x7_3 ++ t307) ++ (⟨#[42]⟩ : ByteArray)) ++ a2)) else (none)) else (none))) else (none)) = some r := H
            have A14 := Aside0.mk A140
            clear A140
            by_cases c15 : x7_3.size + t307.size ≤ 9223372036854775807
            · rw [if_pos c15] at H
              have c15b0 := eq_true c15
              have c15b1 : decide (x7_3.size + t307.size ≤ 9223372036854775807) = true := decide_eq_true c15
              try have c15b2 : (9223372036854775807 < x7_3.size + t307.size) = False := eq_false (Nat.not_lt.2 c15)
              by_cases c16 : a2.toList = ([] : List UInt8)
              · rw [if_pos c16] at H
                have c16b0 : (a2.toList == ([] : List UInt8)) = true := beq_iff_eq.mpr c16
                have c16b1 : (a2.toList != ([] : List UInt8)) = false := bne_eq_false_iff_eq.mpr c16
                clear c16
                obtain rfl := Option.some.inj H
                go_wp2_with (first | ((with_reducible refine gate_callee (f := 59) rfl ?_); refine goesL_ (some 25) rfl rfl Tryd.func59 (by kernel_rfl) rfl #[.int .i64 a1] rfl (by (try simp only [List.map_toArray, List.map_cons, List.map_nil]); first | done | rfl | (simp only [List.length_drop, List.length_take]; rfl)) ?_; (with_reducible refine (familycheckref01_abs.calls a1 t306 _ A13.out).mono ?_); rintro e w' ⟨rfl, ⟨nd, rfl⟩⟩; refine ⟨_, rfl, ?_⟩) | ((with_reducible refine gate_callee (f := 66) rfl ?_); refine goesL_ (some 26) rfl rfl Tryd.func66 (by kernel_rfl) rfl #[.int .i64 t306] rfl (by (try simp only [List.map_toArray, List.map_cons, List.map_nil]); first | done | rfl | (simp only [List.length_drop, List.length_take]; rfl)) ?_; (with_reducible refine (familycheckref01_digits.calls kj7 t306 t307 _ A14.out).mono ?_); rintro e w17 ⟨rfl, hb⟩; refine ⟨_, rfl, ?_⟩; have n0_ := Aside0.mk (below_step (by repeat (first | (with_reducible first | exact HB.out | apply below_alloc | apply pw_below_drewN | apply below_drew1) | exact HB.out)) hb); clear HB; have HB := n0_; clear n0_; (try clear hb); (try clear hb2); (try clear hk); (try clear hi)))
                go_ret
                exact ⟨by first | rfl | (simp [errW_none, errW_some] <;> rfl) | (simp [*, errW_none, errW_some] <;> rfl), by repeat (first | (with_reducible first | exact HB.out | apply below_alloc | apply pw_below_drewN | apply below_drew1) | exact HB.out)⟩
              · rw [if_neg c16] at H
                have c16b0 : (a2.toList == ([] : List UInt8)) = false := beq_eq_false_iff_ne.mpr c16
                have c16b1 : (a2.toList != ([] : List UInt8)) = true := bne_iff_ne.mpr c16
                by_cases c18 : (x7_3 ++ t307).size + 1 ≤ 9223372036854775807
                · rw [if_pos c18] at H
                  have c18b0 := eq_true c18
                  have c18b1 : decide ((x7_3 ++ t307).size + 1 ≤ 9223372036854775807) = true := decide_eq_true c18
                  try have c18b2 : (9223372036854775807 < (x7_3 ++ t307).size + 1) = False := eq_false (Nat.not_lt.2 c18)
                  have c_x := c18
                  simp only [ByteArray.size_append] at c_x
                  by_cases c19 : ((x7_3 ++ t307) ++ (⟨#[42]⟩ : ByteArray)).size + a2.size ≤ 9223372036854775807
                  · rw [if_pos c19] at H
                    have c19b0 := eq_true c19
                    have c19b1 : decide (((x7_3 ++ t307) ++ (⟨#[42]⟩ : ByteArray)).size + a2.size ≤ 9223372036854775807) = true := decide_eq_true c19
                    try have c19b2 : (9223372036854775807 < ((x7_3 ++ t307) ++ (⟨#[42]⟩ : ByteArray)).size + a2.size) = False := eq_false (Nat.not_lt.2 c19)
                    have c_x := c19
                    simp only [ByteArray.size_append] at c_x
                    obtain rfl := Option.some.inj H
                    go_wp2_with (first | ((with_reducible refine gate_callee (f := 59) rfl ?_); refine goesL_ (some 25) rfl rfl Tryd.func59 (by kernel_rfl) rfl #[.int .i64 a1] rfl (by (try simp only [List.map_toArray, List.map_cons, List.map_nil]); first | done | rfl | (simp only [List.length_drop, List.length_take]; rfl)) ?_; (with_reducible refine (familycheckref01_abs.calls a1 t306 _ A13.out).mono ?_); rintro e w' ⟨rfl, ⟨nd, rfl⟩⟩; refine ⟨_, rfl, ?_⟩) | ((with_reducible refine gate_callee (f := 66) rfl ?_); refine goesL_ (some 26) rfl rfl Tryd.func66 (by kernel_rfl) rfl #[.int .i64 t306] rfl (by (try simp only [List.map_toArray, List.map_cons, List.map_nil]); first | done | rfl | (simp only [List.length_drop, List.length_take]; rfl)) ?_; (with_reducible refine (familycheckref01_digits.calls kj7 t306 t307 _ A14.out).mono ?_); rintro e w20 ⟨rfl, hb⟩; refine ⟨_, rfl, ?_⟩; have n0_ := Aside0.mk (below_step (by repeat (first | (with_reducible first | exact HB.out | apply below_alloc | apply pw_below_drewN | apply below_drew1) | exact HB.out)) hb); clear HB; have HB := n0_; clear n0_; (try clear hb); (try clear hb2); (try clear hk); (try clear hi)))
                    go_ret
                    exact ⟨by first | rfl | (simp [errW_none, errW_some] <;> rfl) | (simp [*, errW_none, errW_some] <;> rfl), by repeat (first | (with_reducible first | exact HB.out | apply below_alloc | apply pw_below_drewN | apply below_drew1) | exact HB.out)⟩
                  · rw [if_neg c19] at H
                    exact absurd H (by simp)
                · rw [if_neg c18] at H
                  exact absurd H (by simp)
            · rw [if_neg c15] at H
              exact absurd H (by simp)

end Go.Proofs.YtbioiodjdfcooaaDoor.P
