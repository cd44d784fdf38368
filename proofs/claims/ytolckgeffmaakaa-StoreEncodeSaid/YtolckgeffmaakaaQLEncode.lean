/- The plain law of the store: Encode. -/
import Derived.Test.YtolckgeffmaakaaQBase
import Derived.Test.YtolckgeffmaakaaQStore1
import Derived.Test.YtolckgeffmaakaaQStore2
import Derived.Test.YtolckgeffmaakaaQStore3
import Derived.Test.YtolckgeffmaakaaQStore4
import Derived.Test.YtolckgeffmaakaaX14
namespace Go.Proofs.Ytolckgeffmaakaa.Q
open Go.RowKit Go.Proofs.YtolckgeffmaakaaW.PrintWords Go.Proofs.YtolckgeffmaakaaW.PrintLast Go.Proofs.YtolckgeffmaakaaW.PrintMore Go.Proofs.Ytolckgeffmaakaa.X

theorem encode_law (n : Int) (t : ByteArray) (p : Int) (ht : t.size ≤ 140737488351232) : Ev (fun k => railplanlaw41_StoreEncode.f k n t p) true := by
  unfold railplanlaw41_StoreEncode.f
  obtain ⟨q, hq, _, _⟩ := pick_ev p 2147483653 (by omega) (by omega)
  refine ev2 (encode_ev n t (by omega)) (ev2 (refEncode_ev n t (by omega)) (ev1 hq (ev2 (encode_ev _ t (by omega)) (ev2 (refEncode_ev _ t (by omega)) (ev2 awake_ev ?_)))))
  exact evp rfl (evp rfl (evp rfl (evp rfl (evs (by simp)))))

end Go.Proofs.Ytolckgeffmaakaa.Q
