/- How many sections the generated layout has; Step answers. -/
import Derived.Test.YtkegdgdkfbmabaaQKeepL
import Derived.Test.YtkegdgdkfbmabaaQLLinks
import Derived.Test.YtkegdgdkfbmabaaX4
import Derived.Test.YtkegdgdkfbmabaaX6
import Derived.Test.YtkegdgdkfbmabaaQRow
import Derived.Test.YtkegdgdkfbmabaaQRowS
namespace Go.Proofs.Ytkegdgdkfbmabaa.X
open Go Go.RowKit Go.Proofs.YtkegdgdkfbmabaaW Go.Proofs.YtkegdgdkfbmabaaW.PrintWords Go.Proofs.YtkegdgdkfbmabaaW.PrintLast Go.Proofs.YtkegdgdkfbmabaaW.PrintMore
set_option linter.unusedVariables false
set_option linter.unusedSimpArgs false
theorem tracksS_sc (L : List Int) (i : Nat) : ∀ k s sc t, (tracksS L i k s sc t).2.1.length = sc.length + k
  | 0, _, _, _ => rfl
  | k + 1, s, sc, t => by unfold tracksS; rw [tracksS_sc L i k]; simp; omega
theorem secsS_sc (L : List Int) (i : Nat) : ∀ k s sc t, (secsS L i k s sc t).2.1.length = sc.length + k
  | 0, _, _, _ => rfl
  | k + 1, s, sc, t => by unfold secsS; rw [secsS_sc L i k]; simp; omega
theorem stS_sc (L : List Int) : ∀ m i s st sc tr, (stS L m i s st sc tr).2.2.1.length ≤ sc.length + 2 * m
  | 0, _, _, _, _, _ => Nat.le_refl _
  | m + 1, i, s, st, sc, tr => by
    unfold stS
    refine Nat.le_trans (stS_sc L m _ _ _ _ _) ?_
    rw [tracksS_sc]
    have := nxt_lt L s 2 (by omega)
    omega
theorem bwS_sc (L : List Int) (tr : List (List Int)) : ∀ m i s sc lk pt bt, (bwS L tr m i s sc lk pt bt).2.1.length ≤ sc.length + 2 * m
  | 0, _, _, _, _, _, _ => Nat.le_refl _
  | m + 1, i, s, sc, lk, pt, bt => by
    unfold bwS
    refine Nat.le_trans (bwS_sc L tr m _ _ _ _ _ _) ?_
    rw [secsS_sc]
    have := nxt_lt L s 2 (by omega)
    omega
theorem genL_sc (l : List Int) : (genL l).2.2.1.length ≤ 10 := by
  unfold genL bwE stE
  have h1 := bwS_sc l (stS l (2 + (nxt l 0 2).1) 0 (nxt l 0 2).2 [] [] []).2.2.2 (1 + (nxt l 0 2).1) 0 (stS l (2 + (nxt l 0 2).1) 0 (nxt l 0 2).2 [] [] []).1 (stS l (2 + (nxt l 0 2).1) 0 (nxt l 0 2).2 [] [] []).2.2.1 [] [] []
  have h2 := stS_sc l (2 + (nxt l 0 2).1) 0 (nxt l 0 2).2 [] [] []
  have h3 := nxt_lt l 0 2 (by omega)
  simp at h2
  simp only []
  omega
theorem step_some (l0 l1 : List ByteArray) (l2 : List Sec1) (l3 : List Lnk1) (a : Int) (h : l2.length ≤ 100) : ∃ p q, railplankeep_Step.f l0 l1 l2 l3 a = some (p, q) := by
  have e16 : ∀ v, ∃ r, railplankeep_Pick.f v 16 = some r := fun v => ⟨_, pick_ok v 16 (by omega) (by omega)⟩
  have e4 : ∀ v, ∃ r, railplankeep_Pick.f v 4 = some r := fun v => ⟨_, pick_ok v 4 (by omega) (by omega)⟩
  have e2 : ∀ v, ∃ r, railplankeep_Pick.f v 2 = some r := fun v => ⟨_, pick_ok v 2 (by omega) (by omega)⟩
  have eL : ∀ v, ∃ r, railplankeep_Pick.f v (wrap64 ((l2.length : Int) + 4)) = some r := fun v => by
    have : wrap64 ((l2.length : Int) + 4) = ((l2.length + 4 : Nat) : Int) := by unfold wrap64; omega
    rw [this]; exact ⟨_, pick_ok v (l2.length + 4) (by omega) (by omega)⟩
  have eM : ∀ v, ∃ r, railplankeep_Pick.f v (mx 1 (l2.length : Int)) = some r := fun v => by
    have : mx 1 (l2.length : Int) = ((max 1 l2.length : Nat) : Int) := by unfold mx; split <;> omega
    rw [this]; exact ⟨_, pick_ok v (max 1 l2.length) (by omega) (by omega)⟩
  unfold railplankeep_Step.f
  obtain ⟨r, hr⟩ := e16 a
  rw [hr]; simp only [Option.bind_some]
  split
  · obtain ⟨r1, h1⟩ := eL (wrap64 (Int.tdiv a 16))
    obtain ⟨r2, h2⟩ := e4 (wrap64 (Int.tdiv a 700))
    rw [h1]; simp only [Option.bind_some]; rw [h2]; exact ⟨_, _, rfl⟩
  · obtain ⟨r1, h1⟩ := eM (wrap64 (Int.tdiv a 16))
    obtain ⟨r2, h2⟩ := e2 (wrap64 (Int.tdiv (wrap64 (Int.tdiv a 16)) 97))
    rw [h1]; simp only [Option.bind_some]; rw [h2]; exact ⟨_, _, rfl⟩
end Go.Proofs.Ytkegdgdkfbmabaa.X
