/- The rows of a system of one's own spoiled, one after the other: what a round changes and what it leaves. -/
import Derived.Test.YtbioiodjdfcooaaDoorVFPx0
import Derived.Test.YtbioiodjdfcooaaDoorVFPx18
import Derived.Test.YtbioiodjdfcooaaDoorVFQa
namespace Go.Proofs.YtbioiodjdfcooaaDoor.P
open Go.RowKit Go.Proofs.YtbioiodjdfcooaaDoorW.PrintWords Go.Proofs.YtbioiodjdfcooaaDoorW.PrintLast Go.Proofs.YtbioiodjdfcooaaDoorW.PrintMore
set_option linter.unusedVariables false
theorem spoil_all0 (n : Nat) (hn : n ≤ 9223372036854775807) (d : Nat) : ∀ (i : Nat) (l : List Int), l.length = n → i + d = n → ∃ r, Ev (fun k => familychecklaw01_spoil.l0 k l (i : Int)) r := by
  induction d with
  | zero =>
    intro i l hl hi
    refine ⟨l, Ev.step (f := fun _ => some l) (fun k => ?_) (Ev.now _)⟩
    simp only [familychecklaw01_spoil.l0]; rw [if_neg (by omega)]
  | succ d ih =>
    intro i l hl hi
    obtain ⟨r, hr⟩ := ih (i + 1) (l.set (i : Int).toNat (-77)) (by rw [List.length_set]; exact hl) (by omega)
    refine ⟨r, Ev.step (f := fun k => familychecklaw01_spoil.l0 k (l.set (i : Int).toNat (-77)) ((i + 1 : Nat) : Int)) (fun k => ?_) hr⟩
    simp only [familychecklaw01_spoil.l0]
    rw [if_pos (by omega), if_pos (by omega), wrap_id (n := (i : Int) + 1) (by omega) (by omega)]; rfl
theorem spoil_all (l : List Int) (hn : l.length ≤ 9223372036854775807) : ∃ r, Ev (fun k => familychecklaw01_spoil.f k l) r := spoil_all0 l.length hn l.length 0 l rfl (by omega)
theorem spoil_row (w0 W : World) (ad : Addr) (n cap : Nat) (tq : List S33) (i : Int) (A0 : Option Addr) (c0 : Nat) (hB : Below w0.heap.size w0 W)
    (hS : Kd.S k33 33 W w0.heap.size (fun _ => True) (.slice (some ad) n cap) tq) (h0 : 0 ≤ i) (h1 : i < n) (hx : W.cell? (ad.add (i.toNat * 2)) = some (.slice A0 (rd_T33 tq i).f0.length c0)) :
    Calls Tryd.prog 30 #[.slice A0 (rd_T33 tq i).f0.length c0] W fun e w' => e = .returned (.tuple #[]) ∧ Below w0.heap.size w0 w' ∧
      (∃ tq' : List S33, tq'.length = tq.length ∧ Kd.S k33 33 w' w0.heap.size (fun _ => True) (.slice (some ad) n cap) tq') ∧
      ∀ (k : Nat) (cs : Array Value), W.heap[k]? = some (.cells cs 24 (0, 0)) → w'.heap[k]? = some (.cells cs 24 (0, 0)) := by
  obtain ⟨g, rfl⟩ := Kd.R_head (Kd.S_R hS)
  obtain ⟨oki, c, hcl, hM, hcc, hok, hH⟩ := Kd.S_lend hS z33 i h0 h1
  obtain ⟨v0, rfl, hR⟩ := k33_openM hM
  have hv := hcc 0 _ rfl
  have hx' : W.cell? ⟨g, i.toNat * 2 + 0, none⟩ = some (.slice A0 (rd_T33 tq i).f0.length c0) := by
    rw [← hx]; congr 1; simp [Addr.add]
  have hv0 : v0 = .slice A0 (rd_T33 tq i).f0.length c0 := Option.some.inj (hv.symm.trans hx')
  subst hv0
  have hRb := Kd.R_bound hR
  have hmax : (rd_T33 tq i).f0.length ≤ 9223372036854775807 := (Kd.R_reads' hR).2.2.2.1
  obtain ⟨r, hr⟩ := spoil_all (rd_T33 tq i).f0 hmax
  obtain ⟨K, hK⟩ := hr.rounds
  refine (familychecklaw01_spoil.calls K _ _ _ r w0 W hB hRb hK).mono ?_
  rintro e w' ⟨rfl, hR', hB', hkept⟩
  refine ⟨rfl, hB', ⟨tq.set i.toNat ⟨r, (tq.getD i.toNat z33).f1⟩, by rw [List.length_set], ?_⟩, fun k cs hk => ?_⟩
  · refine Kd.H_back (Kd.H_kept (Kd.H_widen hH) hkept (fun k _ hn hs => hn (.inl hs.1))) (k33_mkM w' w0.heap.size _ ⟨r, (tq.getD i.toNat z33).f1⟩ hR') (fun k hk => ?_)
    rcases hk with hk | hk
    · exact .inl hk.1
    · exact .inr ⟨trivial, hk⟩
  · rw [hkept.2 k (blk_lt hk) (fun hs => ?_)]
    · exact hk
    · obtain ⟨_, _, _, q, hq, cells, hc⟩ := hs
      rw [hk] at hc
      injection hc with hc
      injection hc with _ hc _
      subst hc
      revert hq
      decide
end Go.Proofs.YtbioiodjdfcooaaDoor.P
