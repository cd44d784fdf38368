/- The plain law of the store: Scan. -/
import Derived.Test.YtolckgeffmaakaaQBase
import Derived.Test.YtolckgeffmaakaaQStore1
import Derived.Test.YtolckgeffmaakaaQStore2
import Derived.Test.YtolckgeffmaakaaQStore3
import Derived.Test.YtolckgeffmaakaaQStore4
import Derived.Test.YtolckgeffmaakaaX15
namespace Go.Proofs.Ytolckgeffmaakaa.Q
open Go.RowKit Go.Proofs.YtolckgeffmaakaaW.PrintWords Go.Proofs.YtolckgeffmaakaaW.PrintLast Go.Proofs.YtolckgeffmaakaaW.PrintMore Go.Proofs.Ytolckgeffmaakaa.X

theorem scan_law (a0 : ByteArray) (l1 : List Int) (a2 a3 a4 : Int) (h0 : a0.size ≤ 140737488351232) (h1 : l1.length ≤ 1152921504606846976) : Ev (fun k => railplanlaw41_StoreScan.f k a0 l1 a2 a3 a4) true := by
  unfold railplanlaw41_StoreScan.f
  obtain ⟨vs, L, e1, e2, hL⟩ := made_ev l1 h1
  have hz := small_size hL
  obtain ⟨g, hg, hgz⟩ := damaged_ev (cat L) a2 a3 a4 (by omega)
  have s1 := scan_ev (cat L) (by omega); have r1 := refScan_ev (cat L) (by omega)
  have s2 := scan_ev g (by omega); have r2 := refScan_ev g (by omega)
  have s3 := scan_ev a0 (by omega); have r3 := refScan_ev a0 (by omega)
  refine ev2 e1 (ev2 e2 (ev1 hg (ev2 s1 (ev2 r1 (ev2 s2 (ev2 r2 (ev2 s3 (ev2 r3 (ev2 awake_ev (evp rfl ?_))))))))))
  have q : ∀ s, (scan s).1.length ≤ 4611686018427387904 := fun s => by have := scan_len s; omega
  exact ev2 (same_ev _ (q _)) (evp rfl (evp rfl (ev2 (same_ev _ (q _)) (evp rfl (evp rfl (ev2 (same_ev _ (q _)) (evp rfl (evs (by simp)))))))))

end Go.Proofs.Ytolckgeffmaakaa.Q
