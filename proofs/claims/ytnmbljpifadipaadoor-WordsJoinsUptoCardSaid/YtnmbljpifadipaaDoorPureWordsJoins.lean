/- Join of the program and of the reference answer alike. -/
import Derived.Test.YtnmbljpifadipaaDoorQLJoin
import Derived.Test.YtnmbljpifadipaaDoorQLNames
import Derived.Test.YtnmbljpifadipaaDoorX20
namespace Go.Proofs.YtnmbljpifadipaaDoor.Pure
set_option linter.unusedVariables false
open Go Go.RowKit Go.Proofs.YtnmbljpifadipaaDoor.X Go.Proofs.YtnmbljpifadipaaDoorW.PrintWords Go.Proofs.YtnmbljpifadipaaDoorW.PrintLast
theorem tot_snoc (a : List (List ByteArray)) (x : List ByteArray) : Q.tot (a ++ [x]) = Q.tot a + Q.totL x := by
  unfold Q.tot; rw [List.map_append, List.sum_append]; simp
theorem joins_j1 (l m : List (List ByteArray)) (hl : Q.tot l ≤ 1099511627776) (hm : Q.tot m ≤ 1099511627776) : Ev (fun k => railplanlaw3_WordsJoins.j1 k l m) true := by
  have hll := Q.tot_len l
  have hml := Q.tot_len m
  refine Ev.step (fun k => by rw [railplanlaw3_WordsJoins.j1]) ?_
  refine Q.ev2 Q.awake (Q.evp rfl (Q.ev2 (Q.w_join l hl) (Q.ev2 (Q.r_join l (by omega) hl) (Q.evp rfl (Q.ev2 (Q.w_join m hm) (Q.ev2 (Q.r_join m (by omega) hm) (Q.evs ?_)))))))
  simp
theorem joins_l0 (l : List (List ByteArray)) (hl : Q.tot l ≤ 1099511627776) (p : List Int) (hp : ∀ x ∈ p, (Lit.int .u8 x).wf = true) (d : Nat) : ∀ (i : Nat) (m : List (List ByteArray)), i + d = 20 → m.length = i → Q.tot m ≤ 1100 * i → Ev (fun k => railplanlaw3_WordsJoins.l0 k l p m (i : Int)) true := by
  induction d with
  | zero =>
    intro i m hi hm ht
    refine Ev.step (fun k => by rw [railplanlaw3_WordsJoins.l0]) ?_
    have h := joins_j1 l m hl (by omega)
    by_cases c : (i : Int) < (p.length : Int)
    · exact Q.evp c (Q.evn (by omega) h)
    · exact Q.evn c h
  | succ d ih =>
    intro i m hi hm ht
    refine Ev.step (fun k => by rw [railplanlaw3_WordsJoins.l0]) ?_
    by_cases c : (i : Int) < (p.length : Int)
    · refine Q.evp c (Q.evp (by omega) (Q.evp (by omega) ?_))
      have hmn : mn (wrap64 ((i : Int) + 1)) (p.length : Int) = ((i + 1 : Nat) : Int) := by
        rw [Q.w64 (by omega) (by omega)]; unfold mn; split <;> omega
      rw [hmn]
      refine Q.evp (by omega) (Q.evp (by omega) ?_)
      simp only [Int.toNat_natCast]
      obtain ⟨r, hr, hE⟩ := Q.pieces ((p.take (i + 1)).drop i) (fun x hx => hp x (List.mem_of_mem_take (List.mem_of_mem_drop hx)))
      refine Q.ev2 hE (Q.evp (by omega) (Q.evp (by omega) ?_))
      rw [Q.w64 (by omega) (by omega)]
      refine ih (i + 1) _ (by omega) (by simp [hm]) ?_
      rw [tot_snoc]
      have : Q.totL [(⟨#[97]⟩ : ByteArray), (⟨#[98]⟩ : ByteArray) ++ r] ≤ 1100 := by
        unfold Q.totL
        simp only [List.map_cons, List.map_nil, List.sum_cons, List.sum_nil, ByteArray.size_append]
        have h1 : (⟨#[97]⟩ : ByteArray).size = 1 := rfl
        have h2 : (⟨#[98]⟩ : ByteArray).size = 1 := rfl
        omega
      omega
    · exact Q.evn c (joins_j1 l m hl (by omega))
theorem WordsJoins : railplanlaw3_WordsJoins.Pure := by
  intro l p hl hp hb
  refine Ev.rounds ?_
  have ht : Q.tot l ≤ 1048576 := by
    refine Nat.le_trans ?_ (Nat.le_trans (Nat.le_add_right _ _) hb)
    show (l.map Q.totL).sum ≤ (l.map Q.totL).sum + 1
    omega
  unfold railplanlaw3_WordsJoins.f
  exact joins_l0 l (by omega) p hp.2.2 20 0 [] rfl rfl (by simp [Q.tot])
end Go.Proofs.YtnmbljpifadipaaDoor.Pure
