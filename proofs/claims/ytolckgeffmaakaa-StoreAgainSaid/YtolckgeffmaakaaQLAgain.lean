/- The plain law of the store: Again. -/
import Derived.Test.YtolckgeffmaakaaQBase
import Derived.Test.YtolckgeffmaakaaQStore1
import Derived.Test.YtolckgeffmaakaaQStore2
import Derived.Test.YtolckgeffmaakaaQStore3
import Derived.Test.YtolckgeffmaakaaQStore4
import Derived.Test.YtolckgeffmaakaaQStoreCut
import Derived.Test.YtolckgeffmaakaaX0
import Derived.Test.YtolckgeffmaakaaX18
namespace Go.Proofs.Ytolckgeffmaakaa.Q
open Go.RowKit Go.Proofs.YtolckgeffmaakaaW.PrintWords Go.Proofs.YtolckgeffmaakaaW.PrintLast Go.Proofs.YtolckgeffmaakaaW.PrintMore Go.Proofs.Ytolckgeffmaakaa.X

theorem app_cut (L : List S23) (x : S23) (hL : small L) (hx : ok1 x) (hok : okN L x.f0 = true) (c : Nat) (hc : c < 16 + x.f1.size) :
    app (cat L ++ (rec x.f0 x.f1).extract 0 c) x.f0 x.f1 = (cat (L ++ [x]), 0) := by
  have hz := small_size hL
  have hlen := hL.2.1
  have hs3 := scan_cat L ((rec x.f0 x.f1).extract 0 c) hL.1 (by omega) (.inr (.inl (rd1_cut _ hc hx.2.2)))
  have h6 : ¬ x.f1.size > 65536 := by have := hx.2.2; omega
  have hn : ¬ (x.f0 < 1 ∨ x.f0 > 2147483647) := by have := hx.1; have := hx.2.1; omega
  have he : ¬ (enc x.f0 x.f1).2 ≠ 0 := by rw [enc_good hn h6]; simp
  rw [app_fine he (by rw [hs3]; simp only [hok]; decide) (by rw [hs3, enc_good hn h6]; simp only [rec_size]; omega), hs3, enc_good hn h6]
  congr 1
  simp only [Int.toNat_natCast]
  rw [take_app]; exact (cat_snoc L x.f0 x.f1).symm

theorem again_law (l0 : List Int) (n0 : Int) (t : ByteArray) (a2 : Int) (h0 : l0.length ≤ 1152921504606846976) (ht : t.size ≤ 140737488351232) : Ev (fun k => railplanlaw41_StoreAgain.f k l0 n0 t a2) true := by
  unfold railplanlaw41_StoreAgain.f
  obtain ⟨vs, L, e1, e2, hL⟩ := made_ev l0 h0
  have hz := small_size hL
  have hlen := hL.2.1
  have hsc := scan_cat0 L hL.1 (by omega)
  have r1 := refScan_ev (cat L) (by omega)
  rw [hsc] at r1
  refine ev2 e1 (ev2 e2 (ev2 r1 ?_))
  obtain ⟨b0, b1, hok⟩ := small_last hL
  have main : Ev (fun k => railplanlaw41_StoreAgain.j0 k a2 (cat L) ((cat L).size : Int) (if L.length = 0 then 0 else lastN L) n0 t) true := by
    generalize (if L.length = 0 then 0 else lastN L) = last at b0 b1 hok
    refine Ev.step (fun k => by simp only [railplanlaw41_StoreAgain.j0]; rfl) ?_
    obtain ⟨q, hq, q0, q1⟩ := pick_ev n0 5 (by omega) (by omega)
    refine ev1 hq ?_
    rw [w64 (x := last + 1) (by omega) (by omega), w64 (x := last + 1 + q) (by omega) (by omega)]
    have ha := append_ev (cat L) (last + 1 + q) t (by omega) (by omega)
    have hb := bigfile L hL (last + 1 + q) t (by omega) (by omega) (hok _ (by omega))
    refine ev2 ha ?_
    by_cases h6 : t.size > 65536
    · rw [hb, if_pos h6]
      refine evp (by omega) (Ev.step (fun k => by simp only [railplanlaw41_StoreAgain.j1]; rw [if_pos trivial]) ?_)
      exact ev2 awake_ev (evp rfl (evp (by first | rfl | trivial) (evs (decide_eq_true (by omega)))))
    · rw [hb, if_neg h6]
      have hzz : (cat (L ++ [(⟨last + 1 + q, t⟩ : S23)])).size = (cat L).size + (16 + t.size) := by rw [cat_snoc, ByteArray.size_append, rec_size]
      refine evn (by omega) (evp rfl ?_)
      dsimp only
      have eb : decide (((cat (L ++ [(⟨last + 1 + q, t⟩ : S23)])).size : Int) ≤ ((cat L).size : Int)) = false := decide_eq_false (by omega)
      rw [eb]
      refine Ev.step (fun k => by simp only [railplanlaw41_StoreAgain.j1]; rw [if_neg (by decide)]) ?_
      rw [w64 (x := ((cat (L ++ [(⟨last + 1 + q, t⟩ : S23)])).size : Int) - (cat L).size) (by omega) (by omega)]
      obtain ⟨c, hc, c0, c1⟩ := pick_ev a2 (((cat (L ++ [(⟨last + 1 + q, t⟩ : S23)])).size : Int) - (cat L).size) (by omega) (by omega)
      refine ev1 hc ?_
      rw [w64 (x := ((cat L).size : Int) + c) (by omega) (by omega)]
      refine evp (by omega) (evp (by omega) ?_)
      have ec : (cat (L ++ [(⟨last + 1 + q, t⟩ : S23)])).extract 0 (((cat L).size : Int) + c).toNat = cat L ++ (rec (last + 1 + q) t).extract 0 c.toNat := by
        rw [cat_snoc, show (((cat L).size : Int) + c).toNat = (cat L).size + c.toNat from by omega, cut_ext]
      have hap := app_cut L (⟨last + 1 + q, t⟩ : S23) hL ⟨by show 1 ≤ last + 1 + q; omega, by show last + 1 + q ≤ 2147483647; omega, by show t.size ≤ 65536; omega⟩ (hok _ (by show last < last + 1 + q; omega)) c.toNat (by show c.toNat < 16 + t.size; omega)
      have v1 := append_ev (cat L ++ (rec (last + 1 + q) t).extract 0 c.toNat) (last + 1 + q) t (by rw [ByteArray.size_append, ByteArray.size_extract, rec_size]; omega) (by omega)
      rw [show app (cat L ++ (rec (last + 1 + q) t).extract 0 c.toNat) (last + 1 + q) t = _ from hap] at v1
      rw [ec]
      exact ev2 v1 (ev2 awake_ev (evp rfl (evp rfl (evs (by simp)))))
  rw [w64 (x := ((L.length : Int) - 1)) (by omega) (by omega)]
  by_cases hl0 : L.length = 0
  · rw [if_pos hl0] at main; exact evn (by first | omega | (dsimp only; omega)) main
  · rw [if_neg hl0] at main
    exact evp (by first | omega | (dsimp only; omega)) (evp (by first | omega | (dsimp only; omega)) (evp (by first | omega | (dsimp only; omega)) main))
end Go.Proofs.Ytolckgeffmaakaa.Q
