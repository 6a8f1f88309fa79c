/- What the document's ValidName and FormatLinear answer; ProtocolNames and ProtocolLinears, plain. -/
import Derived.Test.YtbioiodjdfcooabDoorVIPx0
import Derived.Test.YtbioiodjdfcooabDoorVIPx16
import Derived.Test.YtbioiodjdfcooabDoorVIPx17
import Derived.Test.YtbioiodjdfcooabDoorVIYRfl
import Derived.Test.YtbioiodjdfcooabDoorVIYTerm
import Derived.Test.YtbioiodjdfcooabDoorVIQa
import Derived.Test.YtbioiodjdfcooabDoorVIPm
namespace Go.Proofs.YtbioiodjdfcooabDoor.P
open Go.RowKit Go.WideShapes Go.Proofs.YtbioiodjdfcooabDoorW.PrintWords Go.Proofs.YtbioiodjdfcooabDoorW.PrintLast Go.Proofs.YtbioiodjdfcooabDoorW.PrintMore Build
set_option linter.unusedVariables false
theorem bytes_eq {a b : ByteArray} (h : a.data.toList = b.data.toList) : a = b := by
  obtain ⟨⟨a⟩⟩ := a; obtain ⟨⟨b⟩⟩ := b; cases h; rfl
/-! ### bytes -/
def bs (l : List UInt8) : ByteArray := ⟨l.toArray⟩
theorem bs_app (a b : List UInt8) : bs a ++ bs b = bs (a ++ b) := bytes_eq (by simp [bs])
theorem bs_size (a : List UInt8) : (bs a).size = a.length := by simp [bs, ByteArray.size]
theorem bs_list (a : List UInt8) : (bs a).toList = a := by rw [Go.ByteArray.toList_eq]; rfl
/-! ### digits -/
theorem one_digit (n : Nat) : strOfNums [wrap64 (48 + ((n % 10 : Nat) : Int)) % 256] = bs [UInt8.ofNat (48 + n % 10)] := by
  have e : wrap64 (48 + ((n % 10 : Nat) : Int)) % 256 = ((48 + n % 10 : Nat) : Int) := by
    rw [wrap_id (by omega) (by omega)]; omega
  rw [e]
  unfold strOfNums bs
  rw [List.map_cons, List.map_nil, Int.toNat_natCast]
theorem digits_l0 (n : Nat) : ∀ acc : List UInt8, n + acc.length ≤ 4611686018427387904 → Ev (fun k => familycheckref01_digits.l0 k (n : Int) (bs acc)) (bs (Lib.decDigits n ++ acc)) := by
  induction n using Nat.strongRecOn with
  | _ n ih =>
    intro acc ha
    by_cases h : n < 10
    · refine Ev.step (f := fun _ => some (bs (Lib.decDigits n ++ acc))) (fun k => ?_) (Ev.now _)
      have e := one_digit n
      rw [Nat.mod_eq_of_lt h] at e
      simp only [familycheckref01_digits.l0, Option.bind_some]
      rw [if_neg (by omega), e, bs_size, bs_size, if_pos (by simp only [List.length_cons, List.length_nil]; omega), bs_app, Lib.decDigits_one h]
    · refine Ev.step (f := fun k => familycheckref01_digits.l0 k ((n / 10 : Nat) : Int) (bs (UInt8.ofNat (48 + n % 10) :: acc))) (fun k => ?_) (ev_eq (ih (n / 10) (by omega) _ (by simp only [List.length_cons]; omega)) ?_)
      · have e := one_digit n
        have e1 : Int.tmod (n : Int) 10 = ((n % 10 : Nat) : Int) := (Int.ofNat_tmod n 10).symm
        have e2 : wrap64 (Int.tdiv (n : Int) 10) = ((n / 10 : Nat) : Int) := by
          rw [show Int.tdiv (n : Int) 10 = ((n / 10 : Nat) : Int) from (Int.ofNat_tdiv n 10).symm, wrap_id (by omega) (by omega)]
        simp only [familycheckref01_digits.l0, Option.bind_some]
        rw [if_pos (by omega), e1, e, e2, bs_size, bs_size, if_pos (by simp only [List.length_cons, List.length_nil]; omega), bs_app]
        rfl
      · rw [Lib.decDigits.eq_def n, dif_neg h, List.append_assoc]; rfl
theorem digits_ev (n : Nat) (h : n ≤ 4611686018427387904) : Ev (fun k => familycheckref01_digits.f k (n : Int)) (bs (Lib.decDigits n)) := by
  have := digits_l0 n [] (by simpa using h)
  rw [List.append_nil] at this
  exact this
/-! ### FormatLinear -/
theorem Digits_ev (n : Nat) (h : n ≤ 4611686018427387904) : Ev (fun k => familycheckref01_Digits.f k (n : Int)) (bs (Lib.itoa (n : Int))) := by
  refine Ev.congr (f := fun k => (familycheckref01_digits.f k (n : Int)).bind fun t => some t) (fun k => ?_) (ev_bind (digits_ev n h) (ev_eq (Ev.now _) ?_))
  · unfold familycheckref01_Digits.f; rw [if_neg (by omega)]
  · rw [Lib.itoa, if_neg (by omega), Int.toNat_natCast]
def rterm (first : Bool) (f : Int) (nm : List UInt8) : List UInt8 := if f = 0 then [] else (if f < 0 then [45] else if first then [] else [43]) ++ lnItem f nm
theorem itoa_len_le {n : Nat} (h : n ≤ 100) : (Lib.itoa (n : Int)).length ≤ 21 := Lib.itoa_length_le _ (by omega) (by omega)
theorem term_j1 (n : Nat) (hn : n ≤ 100) (f : Int) (hf : max f (-f) = (n : Int)) (nm g : List UInt8) (hm : nm.length ≤ 1) (hg : g.length ≤ 1) : Ev (fun k => familycheckref02_term.j1 k (n : Int) (bs nm) (bs g)) (bs (g ++ lnItem f nm)) := by
  have hl := itoa_len_le hn
  have e42 : (⟨#[42]⟩ : ByteArray) = bs [42] := rfl
  refine Ev.step (f := fun k => if nm = [] then ((familycheckref01_Digits.f k (n : Int)).bind fun t => if (bs g).size + t.size ≤ 9223372036854775807 then some (bs g ++ t) else none) else (if (n : Int) = 1 then (if (bs g).size + (bs nm).size ≤ 9223372036854775807 then some (bs g ++ bs nm) else none) else ((familycheckref01_Digits.f k (n : Int)).bind fun t => if (bs g).size + t.size ≤ 9223372036854775807 then (if (bs g ++ t).size + 1 ≤ 9223372036854775807 then (if ((bs g ++ t) ++ (⟨#[42]⟩ : ByteArray)).size + (bs nm).size ≤ 9223372036854775807 then some (((bs g ++ t) ++ (⟨#[42]⟩ : ByteArray)) ++ bs nm) else none) else none) else none))) (fun k => ?_) ?_
  · simp only [familycheckref02_term.j1, bs_list]
  · unfold lnItem
    rw [hf]
    refine ev_ite _ (fun h0 => ?_) (fun h0 => ?_)
    · rw [if_pos h0]
      refine ev_bind (Digits_ev n (by omega)) (Ev.congr (fun k => if_pos (by rw [bs_size, bs_size]; omega)) ?_)
      rw [bs_app]; exact Ev.now _
    · rw [if_neg h0]
      refine ev_ite _ (fun h1 => ?_) (fun h1 => ?_)
      · rw [if_pos h1]
        refine Ev.congr (fun k => if_pos (by rw [bs_size, bs_size]; omega)) ?_
        rw [bs_app]; exact Ev.now _
      · rw [if_neg h1]
        refine ev_bind (Digits_ev n (by omega)) ?_
        rw [e42]
        simp only [bs_app, bs_size, List.length_append, List.length_cons, List.length_nil]
        refine Ev.congr (fun k => if_pos (by omega)) (Ev.congr (fun k => if_pos (by omega)) (Ev.congr (fun k => if_pos (by omega)) (ev_eq (Ev.now _) ?_)))
        congr 1
        simp
theorem term_ev (first : Bool) (f : Int) (hf : -100 ≤ f ∧ f ≤ 100) (nm : List UInt8) (hm : nm.length ≤ 1) : Ev (fun k => familycheckref02_term.f k first f (bs nm)) (bs (rterm first f nm)) := by
  have e0 : (⟨#[]⟩ : ByteArray) = bs [] := rfl
  have e43 : (⟨#[43]⟩ : ByteArray) = bs [43] := rfl
  have e45 : (⟨#[45]⟩ : ByteArray) = bs [45] := rfl
  have hj : ∀ g : List UInt8, g.length ≤ 1 → f ≠ 0 → Ev (fun k => familycheckref02_term.j0 k f (bs nm) (bs g)) (bs ((if f < 0 then [45] else g) ++ lnItem f nm)) := by
    intro g hg h0
    by_cases h : f < 0
    · obtain ⟨n, hn⟩ := Int.eq_ofNat_of_zero_le (show 0 ≤ -f by omega)
      refine Ev.step (f := fun k => familycheckref02_term.j1 k (n : Int) (bs nm) (bs [45])) (fun k => ?_) (ev_eq (term_j1 n (by omega) f (by omega) nm [45] hm (by simp)) ?_)
      · simp only [familycheckref02_term.j0]; rw [if_pos h, wrap_id (by omega) (by omega), hn, e45]
      · rw [if_pos h]
    · obtain ⟨n, hn⟩ := Int.eq_ofNat_of_zero_le (show 0 ≤ f by omega)
      refine Ev.step (f := fun k => familycheckref02_term.j1 k (n : Int) (bs nm) (bs g)) (fun k => ?_) (ev_eq (term_j1 n (by omega) f (by omega) nm g hm hg) ?_)
      · simp only [familycheckref02_term.j0]; rw [if_neg h, hn]
      · rw [if_neg h]
  unfold familycheckref02_term.f rterm
  by_cases h0 : f = 0
  · refine Ev.congr (fun k => if_pos h0) (ev_eq (Ev.now _) ?_)
    rw [if_pos h0, e0]
  · refine Ev.congr (fun k => if_neg h0) ?_
    rw [if_neg h0]
    cases first
    · refine Ev.congr (fun k => if_neg (by simp)) ?_
      rw [e43]; exact hj [43] (by simp) h0
    · refine Ev.congr (fun k => if_pos rfl) ?_
      rw [e0]; exact hj [] (by simp) h0
theorem rterm_step (b : List UInt8) (f : Int) (nm : List UInt8) : b ++ rterm (b == []) f nm = lnStep b f nm := by
  unfold rterm lnStep lnSign
  by_cases h0 : f = 0
  · rw [if_pos h0, if_pos h0, List.append_nil]
  · rw [if_neg h0, if_neg h0]
    by_cases h1 : f < 0
    · rw [if_pos h1, if_pos h1, List.append_assoc]
    · rw [if_neg h1, if_neg h1]
      by_cases hb : b = []
      · subst hb; simp
      · rw [if_neg hb, if_neg (by simpa using hb), List.append_assoc]
theorem rterm_len (first : Bool) (f : Int) (hf : -100 ≤ f ∧ f ≤ 100) (nm : List UInt8) (hm : nm.length ≤ 1) : (rterm first f nm).length ≤ 30 := by
  obtain ⟨n, hn⟩ := Int.eq_ofNat_of_zero_le (show 0 ≤ max f (-f) by omega)
  have hl := itoa_len_le (n := n) (by omega)
  unfold rterm lnItem
  rw [hn]
  split
  · simp
  · rw [List.length_append]
    have h1 : (if f < 0 then [45] else if first = true then [] else [43] : List UInt8).length ≤ 1 := by
      split
      · simp
      · split <;> simp
    have h2 : (if nm = [] then Lib.itoa (n : Int) else if (n : Int) = 1 then nm else Lib.itoa (n : Int) ++ 42 :: nm).length ≤ 25 := by
      split
      · omega
      · split
        · omega
        · rw [List.length_append, List.length_cons]; omega
    omega
theorem rwithinH (x : Int) : familycheckref02_within.f x (-100) 100 = some (inH x) := by
  unfold familycheckref02_within.f inH
  by_cases h : (-100 : Int) ≤ x
  · rw [if_pos h]; simp [h]
  · rw [if_neg h]; simp [h]
theorem few_eq (c n t f : Int) : familycheckref02_few.f c n t f = some (bdL c n t f) := by
  unfold familycheckref02_few.f bdL
  rw [rwithinH, rwithinH, rwithinH, rwithinH]
  simp only [Option.bind_some]
  cases inH c <;> cases inH n <;> cases inH t <;> cases inH f <;> rfl
theorem rformat_ev (c n t f : Int) : Ev (fun k => familycheckref02_FormatLinear.f k c n t f) (lnF c n t f) := by
  have e0 : (⟨#[]⟩ : ByteArray) = bs [] := rfl
  unfold familycheckref02_FormatLinear.f lnF
  rw [few_eq]
  simp only [Option.bind_some]
  refine ev_ite _ (fun h => ?_) (fun h => ?_)
  · rw [if_pos h]
    obtain ⟨hc, hn, ht, hf⟩ := bdL_get h
    have l1 := rterm_len true n hn [110] (by simp)
    have t1 : lnTo (lnList c n t f) 1 = rterm true n [110] := by
      show lnStep [] n [110] = _
      rw [← rterm_step]; rfl
    refine ev_bind (term_ev true n hn [110] (by simp)) ?_
    generalize rterm true n [110] = a1 at *
    simp only [bs_list]
    have l2 := rterm_len (a1 == []) t ht [116] (by simp)
    have t2 : lnTo (lnList c n t f) 2 = a1 ++ rterm (a1 == []) t [116] := by
      show lnStep (lnTo (lnList c n t f) 1) t [116] = _
      rw [t1, ← rterm_step]
    refine ev_bind (term_ev (a1 == []) t ht [116] (by simp)) ?_
    generalize rterm (a1 == []) t [116] = b2 at *
    simp only [bs_app, bs_size, bs_list]
    refine Ev.congr (fun k => if_pos (by omega)) ?_
    have k2 : (a1 ++ b2).length ≤ 60 := by rw [List.length_append]; omega
    generalize a1 ++ b2 = a2 at *
    have l3 := rterm_len (a2 == []) f hf [102] (by simp)
    have t3 : lnTo (lnList c n t f) 3 = a2 ++ rterm (a2 == []) f [102] := by
      show lnStep (lnTo (lnList c n t f) 2) f [102] = _
      rw [t2, ← rterm_step]
    refine ev_bind (term_ev (a2 == []) f hf [102] (by simp)) ?_
    generalize rterm (a2 == []) f [102] = b3 at *
    simp only [bs_app, bs_size, bs_list]
    refine Ev.congr (fun k => if_pos (by omega)) ?_
    have k3 : (a2 ++ b3).length ≤ 90 := by rw [List.length_append]; omega
    generalize a2 ++ b3 = a3 at *
    have l4 := rterm_len (a3 == []) c hc [] (by simp)
    have t4 : lnTo (lnList c n t f) 4 = a3 ++ rterm (a3 == []) c [] := by
      show lnStep (lnTo (lnList c n t f) 3) c [] = _
      rw [t3, ← rterm_step]
    refine ev_bind (term_ev (a3 == []) c hc [] (by simp)) ?_
    generalize rterm (a3 == []) c [] = b4 at *
    simp only [bs_app, bs_size, bs_list]
    refine Ev.congr (fun k => if_pos (by omega)) ?_
    unfold lnText
    rw [t4]
    refine ev_ite _ (fun h4 => ?_) (fun h4 => ?_)
    · rw [if_pos h4]; exact Ev.now _
    · rw [if_neg h4]; exact Ev.now _
  · rw [if_neg h]; exact Ev.now _
/-! ### ValidName -/
theorem protocolLinears_law (c n t f : Int) (w : World) (htab : SpTab w) (hpow : PwTab w) :
    Calls Tryd.prog 6 #[.agg #[.int .i64 c, .int .i64 n, .int .i64 t, .int .i64 f]] w fun e w' => e = .returned (.bool true) ∧ Below w.heap.size w w' := by
  obtain ⟨k, hk⟩ := (rformat_ev c n t f).rounds
  exact linearsP_law c n t f w htab hpow k hk
end Go.Proofs.YtbioiodjdfcooabDoor.P
