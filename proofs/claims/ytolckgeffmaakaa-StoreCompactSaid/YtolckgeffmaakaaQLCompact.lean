/- The plain law of the store: what a compacted file has. -/
import Derived.Test.YtolckgeffmaakaaQBase
import Derived.Test.YtolckgeffmaakaaQStore1
import Derived.Test.YtolckgeffmaakaaQStore2
import Derived.Test.YtolckgeffmaakaaQStore3
import Derived.Test.YtolckgeffmaakaaQStore4
import Derived.Test.YtolckgeffmaakaaQStoreComp
import Derived.Test.YtolckgeffmaakaaX20
namespace Go.Proofs.Ytolckgeffmaakaa.Q
open Go.RowKit Go.Proofs.YtolckgeffmaakaaW.PrintWords Go.Proofs.YtolckgeffmaakaaW.PrintLast Go.Proofs.YtolckgeffmaakaaW.PrintMore Go.Proofs.Ytolckgeffmaakaa.X

theorem compact_law (l0 : List Int) (a1 a2 a3 a4 : Int) (h0 : l0.length ≤ 1152921504606846976) : Ev (fun k => railplanlaw41_StoreCompact.f k l0 a1 a2 a3 a4) true := by
  unfold railplanlaw41_StoreCompact.f
  obtain ⟨vs, L, e1, e2, hL⟩ := made_ev l0 h0
  have hz := small_size hL
  obtain ⟨g, hg, hgz⟩ := damaged_ev (cat L) a1 a2 a3 (by omega)
  obtain ⟨q, hq, q0, q1⟩ := pick_ev a4 64 (by omega) (by omega)
  have hl := scan_len g
  refine ev2 e1 (ev2 e2 (ev1 hg (ev2 (refScan_ev g (by omega)) (ev1 hq ?_))))
  rw [w64 (x := 1 + q) (by omega) (by omega)]
  have h : ¬ (1 + q < 1 ∨ 1 + q > 64) := by omega
  rw [mx_len _ _ h hl]
  refine ev2 (compact_ev g (1 + q) (by omega)) ?_
  rw [comp_good h]
  have hgd := good_drop ((scan g).1.length - (1 + q).toNat) (scan_good g)
  have hln : ((scan g).1.drop ((scan g).1.length - (1 + q).toNat)).length ≤ 64 := by rw [List.length_drop]; omega
  have hcz := cat_size 65536 _ (fun x hx => (hgd.1 x hx).2.2)
  have s1 := scan_ev (cat ((scan g).1.drop ((scan g).1.length - (1 + q).toNat))) (by omega)
  rw [scan_cat0 _ hgd hln] at s1
  refine ev2 s1 (ev2 awake_ev (evp rfl (evp rfl (evp (by omega) (evp (by omega) ?_)))))
  rw [Int.toNat_natCast]
  exact ev2 (same_ev _ (Nat.le_trans hln (by omega))) (evp rfl (evs (by simp)))
end Go.Proofs.Ytolckgeffmaakaa.Q
