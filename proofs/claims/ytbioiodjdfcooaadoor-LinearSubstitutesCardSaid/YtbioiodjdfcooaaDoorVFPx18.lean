import Derived.Test.YtbioiodjdfcooaaDoorVFPx0
-- Written by a program of this session (wip/tools/doprint.sh: the kit's print, with given texts for some functions).
namespace Go.Proofs.YtbioiodjdfcooaaDoor.P
open Go.RowKit Go.Proofs.YtbioiodjdfcooaaDoorW.PrintWords Go.Proofs.YtbioiodjdfcooaaDoorW.PrintLast Go.Proofs.YtbioiodjdfcooaaDoorW.PrintMore
attribute [local go_sem] max2_int min2_int max_two min_two max_three min_three max_four min_four   -- for this text's walks alone
set_option linter.unusedVariables false
set_option linter.unusedSimpArgs false

/-! ### familychecklaw01_spoil: function 30 -/
def familychecklaw01_spoil.l0 : Nat → List Int → Int → Option (List Int)
  | 0, _, _ => none
  | k + 1, x0, x2 => if x2 < (x0.length : Int) then (if 0 ≤ x2 then (familychecklaw01_spoil.l0 k (x0.set (x2 : Int).toNat (-77)) (wrap64 (x2 + 1))) else (none)) else (some x0)
def familychecklaw01_spoil.f (k : Nat) (l0 : List Int) : Option (List Int) := familychecklaw01_spoil.l0 k l0 0
set_option maxHeartbeats 8000000 in
set_option maxRecDepth 100000 in
theorem familychecklaw01_spoil.calls (k : Nat) (P0_ : Nat → Prop) (u9000_ : Value) (l0 : List Int) (r : List Int) (w0 w : World) (hB : Below w0.heap.size w0 w) (ho0 : Kd.R (Kd.int .i64) 3 w w0.heap.size P0_ u9000_ l0) (h : familychecklaw01_spoil.f k l0 = some r) :
    Calls Tryd.prog 30 #[u9000_] w fun e w' => e = .returned (.tuple #[]) ∧ Kd.R (Kd.int .i64) 3 w' w0.heap.size (fun k_ => (P0_ k_ ∨ w.heap.size ≤ k_)) u9000_ r ∧ Below w0.heap.size w0 w' ∧ Kept w w' (fun k_ => P0_ k_) := by
  have HO0 := Aside0.mk (show Kd.R (Kd.int .i64) 3 w w0.heap.size (fun k_ => (P0_ k_ ∨ w.heap.size ≤ k_)) u9000_ l0 from Kd.R_mono ho0 (fun k_ hk => (.inl hk)))
  have HK := Aside0.mk (Kept.refl w (fun k_ => P0_ k_))
  have HW0 := Aside0.mk hB.size
  have HB := Aside0.mk hB
  clear hB
  have H : (familychecklaw01_spoil.l0 k l0 0) = some r := h
  clear h
  have H' := Aside0.mk H
  clear H
  go_enter Tryd.func30, Tryd.ntmps30
  go_wp2
  go_loopg [2] k (fun kq v2 w' => ∃ (x0_1 : List Int) (x2_1 : Int), v2 = .int .i64 x2_1 ∧ Aside0 (familychecklaw01_spoil.l0 kq x0_1 x2_1 = some r) ∧ Aside0 (kq ≤ k) ∧ Aside0 (Kd.R (Kd.int .i64) 3 w' w0.heap.size (fun k_ => (P0_ k_ ∨ w.heap.size ≤ k_)) u9000_ x0_1) ∧ Aside0 (Kept w w' (fun k_ => P0_ k_)) ∧ Aside0 (Below w0.heap.size w0 w'))
  case atStart => exact ⟨(l0), (0), (by first | rfl | (simp; done) | (simp [*]; done)), H', ⟨Nat.le_refl _⟩, ⟨by (with_reducible repeat (first | apply Kd.R_alloc | apply Kd.R_drewN | apply Kd.R_drew)); exact HO0.out⟩, ⟨by repeat (first | (with_reducible first | exact HK.out | apply Kept.alloc | apply Kept.drewN | apply Kept.drew) | exact HK.out)⟩, ⟨by repeat (first | (with_reducible first | exact HB.out | apply below_alloc | apply pw_below_drewN | apply below_drew1) | exact HB.out)⟩⟩
  case round =>
    clear H'
    obtain ⟨x0_1, x2_1, rfl, HA, HK1, HO_0, HK, HB⟩ := hrel
    cases gk with
    | zero => exact absurd HA.out (by simp [familychecklaw01_spoil.l0])
    | succ k1 =>
      have H := HA.out
      clear HA
      simp only [familychecklaw01_spoil.l0] at H
      by_cases c2 : x2_1 < (x0_1.length : Int)
      · rw [if_pos c2] at H
        have c2b0 : decide (x2_1 < (x0_1.length : Int)) = true := decide_eq_true c2
        clear c2
        by_cases c3 : 0 ≤ x2_1
        · rw [if_pos c3] at H
          have c3b0 : decide (0 ≤ x2_1) = true := decide_eq_true c3
          clear c3
          obtain ⟨y264, hy264⟩ : ∃ y_ : List Int, y_ = (x0_1.set (x2_1 : Int).toNat (-77)) := ⟨_, rfl⟩
          replace H : (familychecklaw01_spoil.l0 k1 y264 (wrap64 (x2_1 + 1))) = some r := by first | (rw [hy264]; with_reducible exact H) | (have H2_ := (Option.bind_some _ _).symm.trans H; rw [hy264]; with_reducible exact H2_) | (have H2_ := (Option.bind_some _ _).symm.trans H; with_reducible exact H2_) | with_reducible exact H | (rw [hy264]; exact H) | exact H
          have Ny264 := Aside0.mk hy264
          clear hy264
          have H' := Aside0.mk H
          clear H
          obtain ⟨Ao5, co5, eo5⟩ := Kd.R_slice HO_0.out
          subst eo5
          have p4 : 0 ≤ (x2_1 : Int) := of_decide_eq_true (by first | (with_reducible assumption) | assumption)
          have q4 : (x2_1 : Int) < ((x0_1.length : Int) : Int) := of_decide_eq_true (by first | (with_reducible assumption) | assumption)
          obtain ⟨go4, co4, eo4, gb4, gl4, cl4, HG4⟩ := Kd.R_form HO_0.out (by omega)
          (first | cases eo4 | (injection eo4 with ea_ en_ ec_; (first | subst ea_ | (injection ea_ with ea_; subst ea_)); subst ec_; clear en_))
          have GB4 := Aside0.mk gb4
          have GG4 := Aside0.mk HG4
          clear gb4 gl4 HG4
          have HMgo4 := Aside0.mk (show (P0_ go4 ∨ w.heap.size ≤ go4) from (HO_0.out.1 _ rfl))
          obtain ⟨hx4_0, hf4_0⟩ := Kd.R_celln 0 HO_0.out (x2_1 : Int) p4 q4
          replace p4 := eq_true p4
          replace q4 := eq_true q4
          have HP6 := Kd.R_putg HO_0.out (x2_1 : Int) (-77)
          go_wp2_with (first | ((with_reducible refine gate_store (t := 3) (p := 11) rfl ?_); refine store_event (t := 3) (p := 11) (v := ?vo_w7) (w1 := (wr.setCell ⟨go4, (x2_1 : Int).toNat, none⟩ (.int .i64 (-77)))) ?hg ?ho ?hn ?hr ?_; (case ho => rfl); (case hg => rfl); (case hn => rfl); (case hr => first | (go_simp; done) | (go_simp; rfl)); intro w7 hw; have hg : wr.grownBy w7 (some go4) := (by rw [hw]; exact HP6.2); have hp_ : Kd.R (Kd.int .i64) 3 w7 w0.heap.size (fun k_ => (P0_ k_ ∨ w.heap.size ≤ k_)) (.slice (some ⟨go4, 0, none⟩) x0_1.length co5) y264 := (by rw [hw, Ny264.out]; exact HP6.1); clear HP6; have n0_ := Aside0.mk (hp_); have n1_ := Aside0.mk ((by rw [hw]; exact below_set (HB.out) GB4.out : Below w0.heap.size w0 w7)); have n2_ := Aside0.mk (Kept.of_grown (S := (fun k_ => P0_ k_)) hg (by repeat (first | (with_reducible first | exact HK.out | apply Kept.alloc | apply Kept.drewN | apply Kept.drew) | exact HK.out)) (fun k_ e_ => (HO_0.out.1 k_ e_))); clear HO_0; clear HB; clear HK; have HO_0 := n0_; have HB := n1_; have HK := n2_; clear n0_ n1_ n2_; clear hg hw hp_))
          go_roundg k1
          case measure => have := HK1.out; omega
          case rel => exact ⟨(y264), (wrap64 (x2_1 + 1)), (by first | rfl | (simp; done) | (simp [*]; done)), H', ⟨by have := HK1.out; omega⟩, ⟨by (with_reducible repeat (first | apply Kd.R_alloc | apply Kd.R_drewN | apply Kd.R_drew)); exact HO_0.out⟩, ⟨by repeat (first | (with_reducible first | exact HK.out | apply Kept.alloc | apply Kept.drewN | apply Kept.drew) | exact HK.out)⟩, ⟨by repeat (first | (with_reducible first | exact HB.out | apply below_alloc | apply pw_below_drewN | apply below_drew1) | exact HB.out)⟩⟩
        · rw [if_neg c3] at H
          exact absurd H (by simp)
      · rw [if_neg c2] at H
        have c2b0 : decide (x2_1 < (x0_1.length : Int)) = false := decide_eq_false c2
        clear c2
        obtain rfl := Option.some.inj H
        obtain ⟨Ao8, co8, eo8⟩ := Kd.R_slice HO_0.out
        subst eo8
        go_wp2
        first | go_end0 | ((try simp only [Exit.inBlock, Exit.then]); refine bodyPost_ret (results_none rfl _ _ _) rfl ?_)
        exact ⟨by first | rfl | (simp [errW_none, errW_some] <;> rfl) | (simp [*, errW_none, errW_some] <;> rfl), by (with_reducible repeat (first | apply Kd.R_alloc | apply Kd.R_drewN | apply Kd.R_drew)); exact HO_0.out, by repeat (first | (with_reducible first | exact HB.out | apply below_alloc | apply pw_below_drewN | apply below_drew1) | exact HB.out), by repeat (first | (with_reducible first | exact HK.out | apply Kept.alloc | apply Kept.drewN | apply Kept.drew) | exact HK.out)⟩

end Go.Proofs.YtbioiodjdfcooaaDoor.P
