/- The reference's Decimal: the numeral of every int. -/
import Derived.Test.YtkegdgdkfbmabaaQBase
import Derived.Test.YtkegdgdkfbmabaaQLNumA
import Derived.Test.YtkegdgdkfbmabaaX2
namespace Go.Proofs.Ytkegdgdkfbmabaa.Q
open Go Go.RowKit Go.Proofs.YtkegdgdkfbmabaaW.PrintWords Go.Proofs.YtkegdgdkfbmabaaW.PrintLast Go.Proofs.YtkegdgdkfbmabaaW.PrintMore Go.Proofs.Ytkegdgdkfbmabaa.X Go.Proofs.Ytkegdgdkfbmabaa.Num
set_option linter.unusedVariables false
set_option linter.unusedSimpArgs false
def tab10 : ByteArray := ⟨#[48, 49, 50, 51, 52, 53, 54, 55, 56, 57]⟩
theorem tab10_at (d : Nat) (h : d < 10) : (tab10.extract d (d + 1)).data.toList = [UInt8.ofNat (48 + d)] := by
  have h1 : ∀ d : Fin 10, (tab10.extract d.val (d.val + 1)).data.toList = [UInt8.ofNat (48 + d.val)] := by decide
  exact h1 ⟨d, h⟩
theorem tab10_size (d : Nat) (h : d < 10) : (tab10.extract d (d + 1)).size = 1 := by rw [← ba_size, tab10_at d h]; rfl
/-- The digits of u that are still to come. -/
def restD (u : Nat) : List UInt8 := if u = 0 then [] else Lib.decDigits u
theorem restD_step {u : Nat} (h : u ≠ 0) : restD u = restD (u / 10) ++ [UInt8.ofNat (48 + u % 10)] := by
  unfold restD
  rw [if_neg h]
  by_cases h1 : u < 10
  · rw [if_pos (by omega), Lib.decDigits, dif_pos h1, Nat.mod_eq_of_lt h1]; rfl
  · rw [if_neg (by omega), Lib.decDigits, dif_neg h1]
def sgn (neg : Bool) (u : Nat) : Int := if neg then -(u : Int) else u
theorem r_dec_l0 (neg : Bool) (m : Nat) : ∀ (u : Nat) (s : ByteArray), u < 10 ^ m → u ≤ 9223372036854775808 → (neg = false → u ≤ 9223372036854775807) → s.size + m ≤ 100 →
    ∃ r : ByteArray, r.data.toList = (if neg then [45] else []) ++ restD u ++ s.data.toList ∧ Ev (fun k => railplanref1_Decimal.l0 k (sgn neg u) s neg) r := by
  have base : ∀ (s : ByteArray), s.size ≤ 100 → ∃ r : ByteArray, r.data.toList = (if neg then [45] else []) ++ restD 0 ++ s.data.toList ∧ Ev (fun k => railplanref1_Decimal.l0 k (sgn neg 0) s neg) r := by
    intro s hs
    have h0 : sgn neg 0 = 0 := by cases neg <;> rfl
    rw [h0]
    refine ⟨if neg then (⟨#[45]⟩ : ByteArray) ++ s else s, ?_, Ev.step (fun k => by simp only [railplanref1_Decimal.l0]; rfl) (evp trivial ?_)⟩
    · cases neg with
      | true => simp only [if_true]; rw [ba_append]; rfl
      | false => rfl
    · cases neg with
      | true => exact evp rfl (evp (by omega) (evs rfl))
      | false => exact evn (by decide) (evs rfl)
  induction m with
  | zero =>
    intro u s hu _ _ hs
    obtain rfl : u = 0 := by omega
    exact base s (by omega)
  | succ m ih =>
    intro u s hu hb hb2 hs
    by_cases h0 : u = 0
    · subst h0; exact base s (by omega)
    have hd : u % 10 < 10 := Nat.mod_lt _ (by decide)
    have hsz := tab10_size (u % 10) hd
    obtain ⟨r, hr, hE⟩ := ih (u / 10) (tab10.extract (u % 10) (u % 10 + 1) ++ s) (by rw [Nat.pow_succ] at hu; omega) (by omega) (by intro h; have := hb2 h; omega) (by rw [ByteArray.size_append, hsz]; omega)
    rw [ba_append, tab10_at _ hd] at hr
    refine ⟨r, by rw [hr, restD_step h0]; simp, Ev.step (fun k => by simp only [railplanref1_Decimal.l0]; rfl) ?_⟩
    cases neg with
    | false =>
      have hb3 := hb2 rfl
      have e1 : Int.tmod (sgn false u) 10 = ((u % 10 : Nat) : Int) := by
        show Int.tmod (u : Int) 10 = _
        rw [Int.tmod_eq_emod_of_nonneg (by omega)]; omega
      have e2 : wrap64 (Int.tdiv (sgn false u) 10) = sgn false (u / 10) := by
        show wrap64 (Int.tdiv (u : Int) 10) = ((u / 10 : Nat) : Int)
        rw [Int.tdiv_eq_ediv_of_nonneg (by omega), w64 (by omega) (by omega)]; omega
      have e3 : wrap64 (((u % 10 : Nat) : Int) + 1) = ((u % 10 + 1 : Nat) : Int) := by rw [w64 (by omega) (by omega)]; omega
      rw [e1, e2, e3]
      clear e1 e2 e3
      refine evn (by show ¬ (u : Int) = 0; omega) (evn (by omega) (evp (by omega) (evp (by omega) (evp (by omega) ?_))))
      simp only [Int.toNat_natCast]
      refine evp ?_ hE
      show (tab10.extract (u % 10) (u % 10 + 1)).size + s.size ≤ _
      rw [hsz]; omega
    | true =>
      have e0 : Int.tmod (sgn true u) 10 = -((u % 10 : Nat) : Int) := by
        show Int.tmod (-(u : Int)) 10 = _
        rw [Int.neg_tmod, Int.tmod_eq_emod_of_nonneg (by omega)]; omega
      have e2 : wrap64 (Int.tdiv (sgn true u) 10) = sgn true (u / 10) := by
        show wrap64 (Int.tdiv (-(u : Int)) 10) = -((u / 10 : Nat) : Int)
        rw [Int.neg_tdiv, Int.tdiv_eq_ediv_of_nonneg (by omega), w64 (by omega) (by omega)]; omega
      rw [e0, e2]
      clear e0 e2
      refine evn (by show ¬ -(u : Int) = 0; omega) ?_
      by_cases hz : u % 10 = 0
      · rw [hz] at hE hsz ⊢
        have e3 : wrap64 (-((0 : Nat) : Int) + 1) = ((0 + 1 : Nat) : Int) := by rw [w64 (by omega) (by omega)]; omega
        rw [e3, show (-((0 : Nat) : Int)) = ((0 : Nat) : Int) by omega]
        refine evn (by omega) (evp (by omega) (evp (by omega) (evp (by omega) ?_)))
        simp only [Int.toNat_natCast]
        refine evp ?_ hE
        show (tab10.extract 0 (0 + 1)).size + s.size ≤ _
        rw [hsz]; omega
      · have e3 : wrap64 (-(-((u % 10 : Nat) : Int))) = ((u % 10 : Nat) : Int) := by rw [w64 (by omega) (by omega)]; omega
        have e4 : wrap64 (((u % 10 : Nat) : Int) + 1) = ((u % 10 + 1 : Nat) : Int) := by rw [w64 (by omega) (by omega)]; omega
        rw [e3, e4]
        clear e3 e4
        refine evp (by omega) (evp (by omega) (evp (by omega) (evp (by omega) ?_)))
        simp only [Int.toNat_natCast]
        refine evp ?_ hE
        show (tab10.extract (u % 10) (u % 10 + 1)).size + s.size ≤ _
        rw [hsz]; omega
def decB (n : Int) : ByteArray := ⟨(Lib.itoa n).toArray⟩
theorem decB_list (n : Int) : (decB n).data.toList = Lib.itoa n := by unfold decB; simp
theorem r_dec (n : Int) (h0 : -9223372036854775808 ≤ n) (h1 : n ≤ 9223372036854775807) : Ev (fun k => railplanref1_Decimal.f k n) (decB n) := by
  have go : ∀ (neg : Bool) (u : Nat), sgn neg u = n → u ≠ 0 → (¬ (0 ≤ n ∧ n < 10)) → neg = decide (n < 0) → (neg = false → u ≤ 9223372036854775807) → u ≤ 9223372036854775808 → Ev (fun k => railplanref1_Decimal.j0 k n false) (decB n) := by
    intro neg u hn hu _ hneg hb2 hb
    refine Ev.step (fun k => by simp only [railplanref1_Decimal.j0]; rw [if_neg (by decide)]) ?_
    obtain ⟨r, hr, hE⟩ := r_dec_l0 neg 20 u ⟨#[]⟩ (by omega) hb hb2 (by decide)
    rw [hn] at hE
    rw [← hneg]
    refine ev_eq hE (ba_ext ?_)
    rw [hr, decB_list]
    unfold restD Lib.itoa
    rw [if_neg hu]
    cases neg with
    | true =>
      have : n < 0 := of_decide_eq_true hneg.symm
      rw [if_pos this, ← hn]
      show [45] ++ Lib.decDigits u ++ [] = 45 :: Lib.decDigits (-(u : Int)).natAbs
      rw [Int.natAbs_neg, Int.natAbs_natCast]; simp
    | false =>
      have : ¬ n < 0 := of_decide_eq_false hneg.symm
      rw [if_neg this, ← hn]
      show [] ++ Lib.decDigits u ++ [] = Lib.decDigits (u : Int).toNat
      rw [Int.toNat_natCast]; simp
  unfold railplanref1_Decimal.f
  by_cases hn : n ≥ 0
  · refine evp hn ?_
    by_cases h10 : n < 10
    · rw [decide_eq_true h10]
      refine Ev.step (fun k => by simp only [railplanref1_Decimal.j0]; rfl) ?_
      rw [w64 (x := n + 1) (by omega) (by omega)]
      refine evp trivial (evp (by omega) (evp (by omega) (evp (by omega) (evs (ba_ext ?_)))))
      have := tab10_at n.toNat (by omega)
      rw [show (n + 1).toNat = n.toNat + 1 by omega, decB_list]
      show (tab10.extract n.toNat (n.toNat + 1)).data.toList = _
      rw [this]
      unfold Lib.itoa
      rw [if_neg (by omega), Lib.decDigits, dif_pos (by omega)]
    · rw [decide_eq_false h10]
      exact go false n.toNat (by show ((n.toNat : Nat) : Int) = n; omega) (by omega) (by omega) (by rw [decide_eq_false (by omega)]) (by intro _; omega) (by omega)
  · refine evn hn ?_
    exact go true n.natAbs (by show -((n.natAbs : Nat) : Int) = n; omega) (by omega) (by omega) (by rw [decide_eq_true (by omega)]) (by intro h; cases h) (by omega)
theorem itoa_len (n : Int) (h0 : -9223372036854775808 ≤ n) (h1 : n ≤ 9223372036854775807) : (decB n).size ≤ 20 := by
  rw [← ba_size, decB_list]
  unfold Lib.itoa
  split
  · have := dec_len 18 n.natAbs (by omega); rw [List.length_cons]; omega
  · have := dec_len 18 n.toNat (by omega); omega
end Go.Proofs.Ytkegdgdkfbmabaa.Q
