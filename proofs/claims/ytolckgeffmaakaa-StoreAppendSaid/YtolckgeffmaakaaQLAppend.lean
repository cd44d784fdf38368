/- The plain law of the store: Append. -/
import Derived.Test.YtolckgeffmaakaaQBase
import Derived.Test.YtolckgeffmaakaaQStore1
import Derived.Test.YtolckgeffmaakaaQStore2
import Derived.Test.YtolckgeffmaakaaQStore3
import Derived.Test.YtolckgeffmaakaaQStore4
import Derived.Test.YtolckgeffmaakaaX16
namespace Go.Proofs.Ytolckgeffmaakaa.Q
open Go.RowKit Go.Proofs.YtolckgeffmaakaaW.PrintWords Go.Proofs.YtolckgeffmaakaaW.PrintLast Go.Proofs.YtolckgeffmaakaaW.PrintMore Go.Proofs.Ytolckgeffmaakaa.X

theorem append_law (l0 : List Int) (n : Int) (t : ByteArray) (a2 a3 a4 : Int) (h0 : l0.length ≤ 1152921504606846976) (ht : t.size ≤ 140737488351232) : Ev (fun k => railplanlaw41_StoreAppend.f k l0 n t a2 a3 a4) true := by
  unfold railplanlaw41_StoreAppend.f
  obtain ⟨vs, L, e1, e2, hL⟩ := made_ev l0 h0
  have hz := small_size hL
  obtain ⟨g, hg, hgz⟩ := damaged_ev (cat L) a2 a3 a4 (by omega)
  obtain ⟨q, hq, _, _⟩ := pick_ev n 12 (by omega) (by omega)
  refine ev2 e1 (ev2 e2 (ev1 hg (ev1 hq (ev2 (append_ev g n t (by omega) (by omega)) (ev2 (refAppend_ev g n t (by omega) (by omega)) (ev2 (append_ev g q t (by omega) (by omega)) (ev2 (refAppend_ev g q t (by omega) (by omega)) (ev2 awake_ev ?_))))))))
  exact evp rfl (evp rfl (evp rfl (evp rfl (evs (by simp)))))

end Go.Proofs.Ytolckgeffmaakaa.Q
