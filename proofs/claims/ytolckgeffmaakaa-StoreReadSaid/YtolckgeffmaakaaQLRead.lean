/- The plain law of the store: Latest, Get and Compact of the program and of the reference agree. -/
import Derived.Test.YtolckgeffmaakaaQBase
import Derived.Test.YtolckgeffmaakaaQStore1
import Derived.Test.YtolckgeffmaakaaQStore2
import Derived.Test.YtolckgeffmaakaaQStore3
import Derived.Test.YtolckgeffmaakaaQStore4
import Derived.Test.YtolckgeffmaakaaQStoreGet
import Derived.Test.YtolckgeffmaakaaQStoreRefGet
import Derived.Test.YtolckgeffmaakaaQStoreComp
import Derived.Test.YtolckgeffmaakaaQStoreRefComp
import Derived.Test.YtolckgeffmaakaaX22
namespace Go.Proofs.Ytolckgeffmaakaa.Q
open Go.RowKit Go.Proofs.YtolckgeffmaakaaW.PrintWords Go.Proofs.YtolckgeffmaakaaW.PrintLast Go.Proofs.YtolckgeffmaakaaW.PrintMore Go.Proofs.Ytolckgeffmaakaa.X

theorem read_j1 (a5 a6 : Int) (s : ByteArray) (hs : s.size ≤ 4611686018427387000) : Ev (fun k => railplanlaw41_StoreRead.j1 k a5 a6 s) true := by
  obtain ⟨p, hp, p0, p1⟩ := pick_ev a5 14 (by omega) (by omega)
  obtain ⟨q, hq, q0, q1⟩ := pick_ev a6 9 (by omega) (by omega)
  have cc : comp s 65 = (⟨#[]⟩, 4) := comp_bad (by omega)
  have c65 := compact_ev s 65 hs
  rw [cc] at c65
  refine Ev.step (fun k => by simp only [railplanlaw41_StoreRead.j1]; rfl) ?_
  refine ev2 (latest_ev s hs) (ev2 (refLatest_ev s hs) ?_)
  refine ev1 hp (ev2 (get_ev' s p hs) (ev1 hp (ev2 (refGet_ev s p hs) (ev1 hq (ev2 (compact_ev s _ hs) (ev1 hq (ev2 (refCompact_ev s _ hs) (ev2 c65 (ev2 awake_ev ?_)))))))))
  exact evp rfl (evp (by simp) (evp rfl (evp (by simp) (evp rfl (evp rfl (evp rfl (evs rfl)))))))
theorem read_law (a0 : ByteArray) (l1 : List Int) (a2 a3 a4 a5 a6 : Int) (h0 : a0.size ≤ 140737488351232) (h1 : l1.length ≤ 1152921504606846976) : Ev (fun k => railplanlaw41_StoreRead.f k a0 l1 a2 a3 a4 a5 a6) true := by
  unfold railplanlaw41_StoreRead.f
  obtain ⟨vs, L, e1, e2, hL⟩ := made_ev l1 h1
  have hz := small_size hL
  have j0 : ∀ g : ByteArray, g.size ≤ 4611686018427387000 → Ev (fun k => railplanlaw41_StoreRead.j0 k a0 a2 a5 a6 g) true := by
    intro g hg
    obtain ⟨q, hq, q0, q1⟩ := pick_ev a2 7 (by omega) (by omega)
    refine Ev.step (fun k => by simp only [railplanlaw41_StoreRead.j0]; rfl) (ev1 hq ?_)
    by_cases h : q = 0
    · exact evp h (read_j1 a5 a6 a0 (by omega))
    · exact evn h (read_j1 a5 a6 g hg)
  obtain ⟨q, hq, q0, q1⟩ := pick_ev a2 3 (by omega) (by omega)
  refine ev2 e1 (ev2 e2 (ev1 hq ?_))
  by_cases h : q > 0
  · obtain ⟨g, hg, hgz⟩ := damaged_ev (cat L) (wrap64 (Int.tdiv a2 3)) a3 a4 (by omega)
    exact evp h (ev1 hg (j0 g (by omega)))
  · exact evn h (j0 _ (by omega))
end Go.Proofs.Ytolckgeffmaakaa.Q
