/- The hops of a step of a generated layout lead to different steps, and two hops have the same point in different positions. -/
import Derived.KernelRfl
import Derived.Test.YtkegdgdkfbmabaaQLGen
import Derived.Test.YtkegdgdkfbmabaaX0
import Derived.Test.YtkegdgdkfbmabaaX5
import Derived.Test.YtkegdgdkfbmabaaX8
import Derived.Test.YtkegdgdkfbmabaaQKeepL
import Derived.Test.YtkegdgdkfbmabaaQLLinks
namespace Go.Proofs.Ytkegdgdkfbmabaa.Pure
set_option linter.unusedVariables false
set_option linter.unusedSimpArgs false
open Go Go.RowKit Go.Proofs.Ytkegdgdkfbmabaa.X Go.Proofs.YtkegdgdkfbmabaaW.PrintWords Go.Proofs.YtkegdgdkfbmabaaW.PrintLast
theorem awake : railplanlaw4_awake.f = some true := by kernel_rfl
theorem LayoutHopsDiffer : railplanlaw4_LayoutHopsDiffer.Pure := by
  intro l a _ h8 _ _
  refine ⟨0, ?_⟩
  unfold railplanlaw4_LayoutHopsDiffer.f
  have hL : railplankeep_Layout.f 0 l = some (genL l) := if_pos (by omega)
  have hsc := genL_sc l
  rw [hL]
  simp only [Option.bind_some]
  generalize genL l = G at hsc
  obtain ⟨st, pt, sc, lk⟩ := G
  simp only [] at hsc ⊢
  obtain ⟨p, q, hs⟩ := step_some st pt sc lk a (by omega)
  rw [hs]
  simp only [Option.bind_some]
  rcases hops_some st pt sc lk p q with h | ⟨_, hc, h⟩
  · rw [h]; simp only [Option.bind_some]; rw [awake]; rfl
  · rw [h]
    simp only [Option.bind_some]
    rw [awake]
    simp only [Option.bind_some, if_true]
    have hg := check_good st pt sc lk hc
    rw [hopsS_map]
    generalize (p, if q = 1 then (0 : Int) else 1) = e
    rcases hg.2 e with g | ⟨x, g⟩ | ⟨y, x, g, hr⟩
    · rw [g]; rfl
    · rw [g]; rfl
    · rw [g]
      have hmy : y ∈ lk.filter (hasE e) := by rw [g]; simp
      have hmx : x ∈ lk.filter (hasE e) := by rw [g]; simp
      have hy := List.mem_filter.1 hmy
      have hx := List.mem_filter.1 hmx
      have iy := (hg.1 y hy.1).1
      have ix := (hg.1 x hx.1).1
      have oy := other_in iy e
      have ox := other_in ix e
      have hne : otherE e x ≠ otherE e y := fun h => by
        have := same_other hx.2 hy.2 h
        rw [hr.2.2.2] at this; cases this
      have pp := (linkIn_parts ix).2.2.2.2.1
      simp only [List.map_cons, List.map_nil]
      have r0 : rd_T43 [hopAt e y, hopAt e x] 0 = hopAt e y := rfl
      have r1 : rd_T43 [hopAt e y, hopAt e x] 1 = hopAt e x := rfl
      rw [r0, r1, hopAt_eq, hopAt_eq]
      simp only []
      rw [if_neg (by simp), if_pos (by simp), if_pos (by simp)]
      rw [if_pos ?_, if_pos hr.2.1.symm, if_pos (by have := hr.1; have := hr.2.1; omega)]
      · have : (y.f5 != x.f5) = true := by simp; exact fun h => hr.2.2.1 h.symm
        rw [this]
      · simp only [Bool.or_eq_true, Bool.not_eq_true', beq_eq_false_iff_ne]
        by_cases h1 : (otherE e y).1 = (otherE e x).1
        · refine .inr (fun h2 => hne ?_)
          have := intoD_inj oy.2 ox.2 h2
          exact Prod.ext h1.symm this.symm
        · exact .inl h1
end Go.Proofs.Ytkegdgdkfbmabaa.Pure
