/- LinearFormats, plain: what the text of a row is; and FormatRow walked for every row. -/
import Derived.Test.YtbioiodjdfcooaaDoorVCPx0
import Derived.Test.YtbioiodjdfcooaaDoorVCPx1
import Derived.Test.YtbioiodjdfcooaaDoorVCPx6
import Derived.Test.YtbioiodjdfcooaaDoorVCPx7
import Derived.Test.YtbioiodjdfcooaaDoorVCPx20
import Derived.Test.YtbioiodjdfcooaaDoorVCPx21
import Derived.Test.YtbioiodjdfcooaaDoorVCQc
import Derived.Test.YtbioiodjdfcooaaDoorVCFw
import Derived.Lib.LaidTab
import Derived.Lib.AppendIntMem
namespace Go.Proofs.YtbioiodjdfcooaaDoor.P
open Go.RowKit Go.WideShapes Go.Proofs.YtbioiodjdfcooaaDoorW.PrintWords Go.Proofs.YtbioiodjdfcooaaDoorW.PrintLast Go.Proofs.YtbioiodjdfcooaaDoorW.PrintMore Build
set_option linter.unusedVariables false
/-! ### bytes -/
def bs (l : List UInt8) : ByteArray := ⟨l.toArray⟩
theorem bs_app (a b : List UInt8) : bs a ++ bs b = bs (a ++ b) := bytes_inj (by simp [bs])
theorem bs_size (a : List UInt8) : (bs a).size = a.length := by simp [bs, ByteArray.size]
theorem bs_list (a : List UInt8) : (bs a).toList = a := by rw [Go.ByteArray.toList_eq]; rfl
/-! ### digits -/
theorem dec_len (u : Nat) : (Lib.decDigits u).length ≤ u + 1 := by
  induction u using Nat.strongRecOn with
  | _ u ih =>
    by_cases h : u < 10
    · rw [Lib.decDigits, dif_pos h]; simp
    · rw [Lib.decDigits, dif_neg h, List.length_append]
      have := ih (u / 10) (by omega)
      simp only [List.length_cons, List.length_nil]
      omega
theorem one_digit (n : Nat) : strOfNums [wrap64 (48 + ((n % 10 : Nat) : Int)) % 256] = bs [UInt8.ofNat (48 + n % 10)] := by
  have e : wrap64 (48 + ((n % 10 : Nat) : Int)) % 256 = ((48 + n % 10 : Nat) : Int) := by
    rw [wrap_id (by omega) (by omega)]; omega
  rw [e]
  unfold strOfNums bs
  rw [List.map_cons, List.map_nil, Int.toNat_natCast]
theorem digits_l0 (n : Nat) : ∀ acc : List UInt8, n + acc.length ≤ 4611686018427387904 → Ev (fun k => familycheckref01_digits.l0 k (n : Int) (bs acc)) (bs (Lib.decDigits n ++ acc)) := by
  induction n using Nat.strongRecOn with
  | _ n ih =>
    intro acc ha
    by_cases h : n < 10
    · refine Ev.step (f := fun _ => some (bs (Lib.decDigits n ++ acc))) (fun k => ?_) (Ev.now _)
      have e := one_digit n
      rw [Nat.mod_eq_of_lt h] at e
      simp only [familycheckref01_digits.l0, Option.bind_some]
      rw [if_neg (by omega), e, bs_size, bs_size, if_pos (by simp only [List.length_cons, List.length_nil]; omega), bs_app, Lib.decDigits_one h]
    · refine Ev.step (f := fun k => familycheckref01_digits.l0 k ((n / 10 : Nat) : Int) (bs (UInt8.ofNat (48 + n % 10) :: acc))) (fun k => ?_) (ev_eq (ih (n / 10) (by omega) _ (by simp only [List.length_cons]; omega)) ?_)
      · have e := one_digit n
        have e1 : Int.tmod (n : Int) 10 = ((n % 10 : Nat) : Int) := (Int.ofNat_tmod n 10).symm
        have e2 : wrap64 (Int.tdiv (n : Int) 10) = ((n / 10 : Nat) : Int) := by
          rw [show Int.tdiv (n : Int) 10 = ((n / 10 : Nat) : Int) from (Int.ofNat_tdiv n 10).symm, wrap_id (by omega) (by omega)]
        simp only [familycheckref01_digits.l0, Option.bind_some]
        rw [if_pos (by omega), e1, e, e2, bs_size, bs_size, if_pos (by simp only [List.length_cons, List.length_nil]; omega), bs_app]
        rfl
      · rw [Lib.decDigits.eq_def n, dif_neg h, List.append_assoc]; rfl
theorem digits_ev (n : Nat) (h : n ≤ 4611686018427387904) : Ev (fun k => familycheckref01_digits.f k (n : Int)) (bs (Lib.decDigits n)) := by
  have := digits_l0 n [] (by simpa using h)
  rw [List.append_nil] at this
  exact this
/-! ### items -/
def itemS (first : Bool) (n : Int) (s : List UInt8) : List UInt8 :=
  (if first = true then (if n < 0 then [45] else []) else (if n < 0 then [32, 45, 32] else [32, 43, 32])) ++ (if s ≠ [] ∧ n.natAbs = 1 then s else Lib.decDigits n.natAbs ++ (if s = [] then [] else 42 :: s))
theorem item_j1 (n : Int) (hn : -68719476736 ≤ n ∧ n ≤ 68719476736) (s g : List UInt8) (hs : s.length ≤ 4611686018427387) (hg : g.length ≤ 3) (b : Bool) (hb : b = decide (s ≠ [] ∧ n.natAbs = 1)) :
    Ev (fun k => familycheckref01_item.j1 k n (bs s) (bs g) b) (bs (g ++ (if s ≠ [] ∧ n.natAbs = 1 then s else Lib.decDigits n.natAbs ++ (if s = [] then [] else 42 :: s)))) := by
  by_cases h : s ≠ [] ∧ n.natAbs = 1
  · rw [if_pos h, hb, decide_eq_true h]
    refine Ev.step (f := fun _ => some (bs (g ++ s))) (fun k => ?_) (Ev.now _)
    simp only [familycheckref01_item.j1]
    rw [if_pos trivial, bs_size, bs_size, if_pos (by omega), bs_app]
  · rw [if_neg h, hb, decide_eq_false h]
    have hd := dec_len n.natAbs
    refine Ev.step (f := fun k => (familycheckref01_digits.f k (n.natAbs : Int)).bind fun t => if (bs g).size + t.size ≤ 9223372036854775807 then (if (bs s).toList = ([] : List UInt8) then some (bs g ++ t) else (if (bs g ++ t).size + 1 ≤ 9223372036854775807 then (if ((bs g ++ t) ++ (⟨#[42]⟩ : ByteArray)).size + (bs s).size ≤ 9223372036854775807 then some (((bs g ++ t) ++ (⟨#[42]⟩ : ByteArray)) ++ bs s) else none) else none)) else none) (fun k => ?_) (ev_bind (digits_ev _ (by omega)) ?_)
    · simp only [familycheckref01_item.j1]
      rw [if_neg (by simp), abs_eq hn]; rfl
    · have e42 : (⟨#[42]⟩ : ByteArray) = bs [42] := rfl
      rw [e42]
      simp only [bs_app, bs_size, bs_list]
      refine Ev.congr (fun k => if_pos (by omega)) ?_
      by_cases h0 : s = []
      · refine Ev.congr (fun k => if_pos h0) (ev_eq (Ev.now _) ?_)
        rw [if_pos h0, List.append_nil]
      · refine Ev.congr (fun k => if_neg h0) (Ev.congr (fun k => if_pos (by simp only [List.length_append]; omega)) (Ev.congr (fun k => if_pos (by simp only [List.length_append, List.length_cons, List.length_nil]; omega)) (ev_eq (Ev.now _) ?_)))
        rw [if_neg h0, List.append_assoc, List.append_assoc]; rfl
theorem item_j0 (n : Int) (hn : -68719476736 ≤ n ∧ n ≤ 68719476736) (s g : List UInt8) (hs : s.length ≤ 4611686018427387) (hg : g.length ≤ 3) :
    Ev (fun k => familycheckref01_item.j0 k n (bs s) (bs g)) (bs (g ++ (if s ≠ [] ∧ n.natAbs = 1 then s else Lib.decDigits n.natAbs ++ (if s = [] then [] else 42 :: s)))) := by
  by_cases h0 : s = []
  · refine Ev.step (f := fun k => familycheckref01_item.j1 k n (bs s) (bs g) false) (fun k => ?_) (item_j1 n hn s g hs hg false (by simp [h0]))
    simp only [familycheckref01_item.j0]; rw [bs_list, if_pos h0]
  · refine Ev.step (f := fun k => familycheckref01_item.j1 k n (bs s) (bs g) ((n.natAbs : Int) == 1)) (fun k => ?_) (item_j1 n hn s g hs hg _ ?_)
    · simp only [familycheckref01_item.j0]; rw [bs_list, if_neg h0, abs_eq hn]; rfl
    · by_cases h1 : n.natAbs = 1
      · rw [h1, decide_eq_true ⟨h0, rfl⟩]; rfl
      · rw [decide_eq_false (fun h => h1 h.2)]; exact beq_eq_false_iff_ne.2 (by omega)
theorem item_ev (first : Bool) (n : Int) (hn : -68719476736 ≤ n ∧ n ≤ 68719476736) (s : List UInt8) (hs : s.length ≤ 4611686018427387) : Ev (fun k => familycheckref01_item.f k first n (bs s)) (bs (itemS first n s)) := by
  unfold familycheckref01_item.f itemS
  cases first
  · refine Ev.congr (fun k => if_neg (by simp)) (ev_ite _ (fun h => ?_) (fun h => ?_))
    · rw [if_neg (by simp), if_pos h]; exact item_j0 n hn s [32, 45, 32] hs (by decide)
    · rw [if_neg (by simp), if_neg h]; exact item_j0 n hn s [32, 43, 32] hs (by decide)
  · refine Ev.congr (fun k => if_pos rfl) (ev_ite _ (fun h => ?_) (fun h => ?_))
    · rw [if_pos rfl, if_pos h]; exact item_j0 n hn s [45] hs (by decide)
    · rw [if_pos rfl, if_neg h]; exact item_j0 n hn s [] hs (by decide)
theorem itemS_len (first : Bool) (n : Int) (hn : -68719476736 ≤ n ∧ n ≤ 68719476736) (s : List UInt8) : (itemS first n s).length ≤ s.length + 68719476741 := by
  have hd := dec_len n.natAbs
  unfold itemS
  rw [List.length_append]
  have h1 : (if first = true then (if n < 0 then [45] else []) else (if n < 0 then [32, 45, 32] else [32, 43, 32]) : List UInt8).length ≤ 3 := by
    split <;> split <;> simp
  have h2 : (if s ≠ [] ∧ n.natAbs = 1 then s else Lib.decDigits n.natAbs ++ (if s = [] then [] else 42 :: s)).length ≤ s.length + 68719476738 := by
    split
    · omega
    · rw [List.length_append]; split
      · simp only [List.length_nil]; omega
      · simp only [List.length_cons]; omega
  omega
theorem itoa_nat (i : Nat) : Lib.itoa (i : Int) = Lib.decDigits i := by
  unfold Lib.itoa; rw [if_neg (by omega)]; rfl
theorem mx_natAbs (c : Int) : mx c (-c) = (c.natAbs : Int) := by unfold mx; split <;> omega
theorem wr_sign (b : List UInt8) (c : Int) (s : List UInt8) : b ++ ((if (b == ([] : List UInt8)) = true then (if c < 0 then [45] else []) else (if c < 0 then [32, 45, 32] else [32, 43, 32])) ++ s) = wrText b (decide (c < 0)) s := by
  unfold wrText
  by_cases hb : b = [] <;> by_cases hc : c < 0 <;> simp [hb, hc]
theorem step_item (b : List UInt8) (i : Nat) (c : Int) (h : c ≠ 0) : b ++ itemS (b == []) c (120 :: Lib.decDigits i) = stepOf b i c := by
  unfold itemS stepOf itemOf
  rw [if_neg h, wr_sign, mx_natAbs, itoa_nat, itoa_nat]
  congr 1
  by_cases h1 : c = 1 ∨ c = -1
  · rw [if_pos h1, if_pos ⟨by simp, by omega⟩]
  · rw [if_neg h1, if_neg (fun hh => h1 (by omega)), if_neg (by simp)]
theorem last_item (b : List UInt8) (c : Int) : b ++ itemS (b == []) c [] = wrText b (decide (c < 0)) (Lib.itoa (mx c (-c))) := by
  unfold itemS
  rw [wr_sign, mx_natAbs, itoa_nat, if_neg (by simp), if_pos rfl, List.append_nil]
/-! ### the text -/
theorem text_len (l : List Int) (hl : ∀ x ∈ l, -68719476736 ≤ x ∧ x ≤ 68719476736) (hn : l.length ≤ 96) (i : Nat) (hi : i ≤ l.length) : (textTo l i).length ≤ i * 68719477000 := by
  induction i with
  | zero => rw [textTo, List.length_nil]; exact Nat.zero_le _
  | succ i ih =>
    have h := ih (by omega)
    rw [Nat.add_mul]
    have e : l.getD i 0 = l[i] := by simp [show i < l.length by omega]
    rw [textTo, e]
    by_cases hc : l[i] = 0
    · rw [hc, stepOf, if_pos rfl]; exact Nat.le_trans h (Nat.le_add_right _ _)
    · rw [← step_item _ _ _ hc, List.length_append]
      have h1 := itemS_len ((textTo l i) == []) l[i] (hl _ (List.getElem_mem _)) (120 :: Lib.decDigits i)
      have h2 := dec_len i
      rw [List.length_cons] at h1
      omega
def fmt (l : List Int) (c : Int) : ByteArray × Int := if l.length > 96 then (bs [], 1) else if sm l c = true then (bs (textOf l c), 0) else (bs [], 4)
theorem rformat_l0 (l : List Int) (c : Int) (hs : sm l c = true) (hn : l.length ≤ 96) (d : Nat) : ∀ i : Nat, i + d = l.length → Ev (fun k => familycheckref01_FormatRow.l0 k (bs (textTo l i)) (i : Int) l c) (bs (textOf l c), 0) := by
  obtain ⟨hl, hc⟩ := sm_get hs
  have hend : ∀ t : List UInt8, t.length ≤ 6871947700000000 → Ev (fun k => (familycheckref01_item.f k (t == []) c (bs [])).bind fun t310 => if (bs t).size + t310.size ≤ 9223372036854775807 then (if (bs t ++ t310).size + 5 ≤ 9223372036854775807 then some ((bs t ++ t310) ++ (⟨#[32, 62, 61, 32, 48]⟩ : ByteArray), (0 : Int)) else none) else none)
      (bs (wrText t (decide (c < 0)) (Lib.itoa (mx c (-c))) ++ [32, 62, 61, 32, 48]), 0) := by
    intro t ht
    refine ev_bind (item_ev _ c hc [] (by simp)) ?_
    have h1 := itemS_len (t == []) c hc []
    have h2 := last_item t c
    have e0 : (⟨#[32, 62, 61, 32, 48]⟩ : ByteArray) = bs [32, 62, 61, 32, 48] := rfl
    rw [e0]
    simp only [bs_app, bs_size]
    rw [List.length_nil] at h1
    refine Ev.congr (fun k => if_pos (by omega)) (Ev.congr (fun k => if_pos (by rw [List.length_append]; omega)) (ev_eq (Ev.now _) ?_))
    rw [h2]
  induction d with
  | zero =>
    intro i hi
    have ht := text_len l hl hn i (by omega)
    have hi' : i = l.length := by omega
    by_cases h0 : c = 0
    · by_cases h1 : textTo l i = []
      · refine Ev.step (f := fun k => (familycheckref01_item.f k (textTo l i == []) c (bs [])).bind fun t310 => if (bs (textTo l i)).size + t310.size ≤ 9223372036854775807 then (if (bs (textTo l i) ++ t310).size + 5 ≤ 9223372036854775807 then some ((bs (textTo l i) ++ t310) ++ (⟨#[32, 62, 61, 32, 48]⟩ : ByteArray), (0 : Int)) else none) else none) (fun k => ?_) (ev_eq (hend _ (by omega)) ?_)
        · simp only [familycheckref01_FormatRow.l0]; rw [if_neg (by omega), if_pos h0, bs_list, if_pos h1]; rfl
        · unfold textOf; rw [← hi', if_pos (.inr h1)]
      · refine Ev.step (f := fun k => some (bs (textTo l i ++ [32, 62, 61, 32, 48]), 0)) (fun k => ?_) (ev_eq (Ev.now _) ?_)
        · have e0 : (⟨#[32, 62, 61, 32, 48]⟩ : ByteArray) = bs [32, 62, 61, 32, 48] := rfl
          simp only [familycheckref01_FormatRow.l0]; rw [if_neg (by omega), if_pos h0, bs_list, if_neg h1, bs_size, if_pos (by omega), e0, bs_app]
        · unfold textOf; rw [← hi', if_neg (by simp [h0, h1])]
    · refine Ev.step (f := fun k => (familycheckref01_item.f k (textTo l i == []) c (bs [])).bind fun t310 => if (bs (textTo l i)).size + t310.size ≤ 9223372036854775807 then (if (bs (textTo l i) ++ t310).size + 5 ≤ 9223372036854775807 then some ((bs (textTo l i) ++ t310) ++ (⟨#[32, 62, 61, 32, 48]⟩ : ByteArray), (0 : Int)) else none) else none) (fun k => ?_) (ev_eq (hend _ (by omega)) ?_)
      · simp only [familycheckref01_FormatRow.l0]; rw [if_neg (by omega), if_neg h0, bs_list]; rfl
      · unfold textOf; rw [← hi', if_pos (.inl h0)]
  | succ d ih =>
    intro i hi
    have hlt : i < l.length := by omega
    have ht := text_len l hl hn i (by omega)
    have hx := hl _ (List.getElem_mem hlt)
    have eg : l.getD i 0 = l[i] := by simp [hlt]
    have h2 := dec_len i
    by_cases h0 : l[i] = 0
    · refine Ev.step (f := fun k => familycheckref01_FormatRow.l0 k (bs (textTo l (i + 1))) ((i + 1 : Nat) : Int) l c) (fun k => ?_) (ih (i + 1) (by omega))
      simp only [familycheckref01_FormatRow.l0]
      rw [if_pos (by omega), if_pos (by omega), rd_at l i hlt, if_pos h0, wrap_next hlt (by omega), text_zero l i (by rw [eg, h0])]
    · refine Ev.step (f := fun k => (familycheckref01_digits.f k (i : Int)).bind fun t => if 1 + t.size ≤ 9223372036854775807 then ((familycheckref01_item.f k (textTo l i == []) l[i] ((⟨#[120]⟩ : ByteArray) ++ t)).bind fun u => if (bs (textTo l i)).size + u.size ≤ 9223372036854775807 then familycheckref01_FormatRow.l0 k (bs (textTo l i) ++ u) ((i + 1 : Nat) : Int) l c else none) else none) (fun k => ?_) (ev_bind (digits_ev i (by omega)) ?_)
      · simp only [familycheckref01_FormatRow.l0]
        rw [if_pos (by omega), if_pos (by omega), rd_at l i hlt, if_neg h0, wrap_next hlt (by omega), bs_list]
      · refine Ev.congr (fun k => if_pos (by rw [bs_size]; omega)) ?_
        have e0 : (⟨#[120]⟩ : ByteArray) = bs [120] := rfl
        rw [e0, bs_app]
        have h1 := itemS_len (textTo l i == []) l[i] hx (120 :: Lib.decDigits i)
        have h3 := step_item (textTo l i) i l[i] h0
        rw [List.length_cons] at h1
        refine ev_bind (item_ev _ l[i] hx (120 :: Lib.decDigits i) (by rw [List.length_cons]; omega)) (Ev.congr (fun k => if_pos (by rw [bs_size, bs_size]; omega)) ?_)
        rw [bs_app, h3, ← eg]
        exact ih (i + 1) (by omega)
theorem rformat_ev (l : List Int) (c : Int) (hn : l.length ≤ 200) : Ev (fun k => familycheckref01_FormatRow.f k l c) (fmt l c) := by
  unfold familycheckref01_FormatRow.f fmt
  by_cases h : l.length > 96
  · rw [if_pos h]; exact Ev.congr (fun k => if_pos (by omega)) (Ev.now _)
  · rw [if_neg h]
    refine Ev.congr (fun k => if_neg (by omega)) (ev_bind (rsmall_ev l c (by omega)) (ev_ite _ (fun h1 => ?_) (fun h1 => ?_)))
    · rw [if_pos h1]; exact rformat_l0 l c h1 (by omega) l.length 0 (by omega)
    · rw [if_neg h1]; exact Ev.now _
theorem formats_ev (l : List Int) (c : Int) : Ev (fun k => (familychecklaw01_long.f l c).bind fun t => (if t = true then ((familychecklaw01_known.f k).bind fun t => (some t)) else ((some (fmt l c)).bind fun a => ((familycheckref01_FormatRow.f k l c).bind fun b => (if a.1.toList = b.1.toList then (if a.2 = b.2 then ((familychecklaw01_known.f k).bind fun t => (some t)) else (some false)) else (some false)))))) true := by
  rw [long_eq]
  simp only [Option.bind_some]
  refine ev_ite _ (fun _ => known_end) (fun h1 => ?_)
  simp at h1
  exact ev_bind (rformat_ev l c (by omega)) (Ev.congr (fun k => if_pos rfl) (Ev.congr (fun k => if_pos rfl) known_end))
end Go.Proofs.YtbioiodjdfcooaaDoor.P
