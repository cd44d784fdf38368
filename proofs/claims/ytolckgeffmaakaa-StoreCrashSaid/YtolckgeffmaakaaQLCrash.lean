/- The plain law of the store: Crash. -/
import Derived.Test.YtolckgeffmaakaaQBase
import Derived.Test.YtolckgeffmaakaaQStore1
import Derived.Test.YtolckgeffmaakaaQStore2
import Derived.Test.YtolckgeffmaakaaQStore3
import Derived.Test.YtolckgeffmaakaaQStore4
import Derived.Test.YtolckgeffmaakaaQStoreCut
import Derived.Test.YtolckgeffmaakaaX0
import Derived.Test.YtolckgeffmaakaaX17
namespace Go.Proofs.Ytolckgeffmaakaa.Q
open Go.RowKit Go.Proofs.YtolckgeffmaakaaW.PrintWords Go.Proofs.YtolckgeffmaakaaW.PrintLast Go.Proofs.YtolckgeffmaakaaW.PrintMore Go.Proofs.Ytolckgeffmaakaa.X

theorem crash_law (l0 : List Int) (n0 : Int) (t : ByteArray) (a2 : Int) (h0 : l0.length ≤ 1152921504606846976) (ht : t.size ≤ 140737488351232) : Ev (fun k => railplanlaw41_StoreCrash.f k l0 n0 t a2) true := by
  unfold railplanlaw41_StoreCrash.f
  obtain ⟨vs, L, e1, e2, hL⟩ := made_ev l0 h0
  have hz := small_size hL
  have hlen := hL.2.1
  have hsc := scan_cat0 L hL.1 (by omega)
  have r1 := refScan_ev (cat L) (by omega)
  rw [hsc] at r1
  refine ev2 e1 (ev2 e2 (ev2 r1 ?_))
  obtain ⟨b0, b1, hok⟩ := small_last hL
  have main : Ev (fun k => railplanlaw41_StoreCrash.j0 k a2 (cat L) L ((cat L).size : Int) (if L.length = 0 then 0 else lastN L) n0 t) true := by
    generalize (if L.length = 0 then 0 else lastN L) = last at b0 b1 hok
    refine Ev.step (fun k => by simp only [railplanlaw41_StoreCrash.j0]; rfl) ?_
    obtain ⟨q, hq, q0, q1⟩ := pick_ev n0 5 (by omega) (by omega)
    refine ev1 hq ?_
    rw [w64 (x := last + 1) (by omega) (by omega), w64 (x := last + 1 + q) (by omega) (by omega)]
    have ha := append_ev (cat L) (last + 1 + q) t (by omega) (by omega)
    have hb := bigfile L hL (last + 1 + q) t (by omega) (by omega) (hok _ (by omega))
    refine ev2 ha ?_
    by_cases h6 : t.size > 65536
    · rw [hb, if_pos h6]
      exact evp (by omega) (ev2 awake_ev (evp rfl (evs rfl)))
    · rw [hb, if_neg h6]
      have hg : good (L ++ [(⟨last + 1 + q, t⟩ : S23)]) := good_snoc.2 ⟨hL.1, ⟨by show 1 ≤ last + 1 + q; omega, by show last + 1 + q ≤ 2147483647; omega, by show t.size ≤ 65536; omega⟩, hok _ (by show last < last + 1 + q; omega)⟩
      have hs2 := scan_cat0 _ hg (by simp; omega)
      have hzz : (cat (L ++ [(⟨last + 1 + q, t⟩ : S23)])).size = (cat L).size + (16 + t.size) := by rw [cat_snoc, ByteArray.size_append, rec_size]
      refine evn (by omega) (evp rfl ?_)
      have eb : ((((cat (L ++ [(⟨last + 1 + q, t⟩ : S23)]), (0 : Int))).1.size : Int) != wrap64 (wrap64 (((cat L).size : Int) + 16) + (t.size : Int))) = false := by
        rw [w64 (x := ((cat L).size : Int) + 16) (by omega) (by omega), w64 (by omega) (by omega)]
        simp only [hzz]; rw [bne_eq_false_iff_eq]; omega
      rw [eb]; dsimp only
      refine Ev.step (fun k => by simp only [railplanlaw41_StoreCrash.j1]; rw [if_neg (by decide)]) ?_
      rw [w64 (x := ((cat (L ++ [(⟨last + 1 + q, t⟩ : S23)])).size : Int) - (cat L).size) (by omega) (by omega)]
      obtain ⟨c, hc, c0, c1⟩ := pick_ev a2 (((cat (L ++ [(⟨last + 1 + q, t⟩ : S23)])).size : Int) - (cat L).size) (by omega) (by omega)
      refine ev1 hc ?_
      rw [w64 (x := ((cat L).size : Int) + c) (by omega) (by omega)]
      refine evp (by omega) (evp (by omega) ?_)
      have ec : (cat (L ++ [(⟨last + 1 + q, t⟩ : S23)])).extract 0 (((cat L).size : Int) + c).toNat = cat L ++ (rec (last + 1 + q) t).extract 0 c.toNat := by
        rw [cat_snoc, show (((cat L).size : Int) + c).toNat = (cat L).size + c.toNat from by omega, cut_ext]
      have hs3 := scan_cat L ((rec (last + 1 + q) t).extract 0 c.toNat) hL.1 (by omega) (.inr (.inl (rd1_cut _ (by omega) (by omega))))
      have v1 := scan_ev (cat L ++ (rec (last + 1 + q) t).extract 0 c.toNat) (by rw [ByteArray.size_append, ByteArray.size_extract, rec_size]; omega)
      rw [hs3] at v1
      have v2 := scan_ev (cat (L ++ [(⟨last + 1 + q, t⟩ : S23)])) (by omega)
      rw [hs2] at v2
      rw [ec]
      refine ev2 v1 (ev2 v2 (ev2 awake_ev (evp rfl (ev2 (same_ev L (by omega)) (evp rfl (evp rfl (evp (by simp; omega) (ev1 rfl (ev1 rfl (evp (by simp; omega) ?_))))))))))
      rw [List.nil_append]
      exact ev2 (same_ev _ (by simp; omega)) (evp rfl (evs (by simp)))
  rw [w64 (x := ((L.length : Int) - 1)) (by omega) (by omega)]
  by_cases hl0 : L.length = 0
  · rw [if_pos hl0] at main; exact evn (by first | omega | (dsimp only; omega)) main
  · rw [if_neg hl0] at main
    exact evp (by first | omega | (dsimp only; omega)) (evp (by first | omega | (dsimp only; omega)) (evp (by first | omega | (dsimp only; omega)) main))

end Go.Proofs.Ytolckgeffmaakaa.Q
