/- The plain law of the store: Get and Latest of the reference. -/
import Derived.Test.YtolckgeffmaakaaQBase
import Derived.Test.YtolckgeffmaakaaQStore1
import Derived.Test.YtolckgeffmaakaaQStore2
import Derived.Test.YtolckgeffmaakaaQStore3
import Derived.Test.YtolckgeffmaakaaQStore4
import Derived.Test.YtolckgeffmaakaaQStoreGet
import Derived.Test.YtolckgeffmaakaaX0
import Derived.Test.YtolckgeffmaakaaX22
namespace Go.Proofs.Ytolckgeffmaakaa.Q
open Go.RowKit Go.Proofs.YtolckgeffmaakaaW.PrintWords Go.Proofs.YtolckgeffmaakaaW.PrintLast Go.Proofs.YtolckgeffmaakaaW.PrintMore Go.Proofs.Ytolckgeffmaakaa.X

theorem refGet_l0 (x : Int) (L : List S23) (hl : L.length ≤ 4611686018427387000) (d : Nat) : ∀ i : Nat, i + d = L.length →
    Ev (fun k => railplanref41_Get.l0 k x L (L.length : Int) (i : Int)) (match (L.drop i).find? (fun y => y.f0 == x) with | some y => (y.f0, y.f1, 0) | none => (0, ⟨#[]⟩, 6)) := by
  induction d with
  | zero =>
    intro i hi
    refine Ev.step (f := fun _ => some (0, (⟨#[]⟩ : ByteArray), 6)) (fun k => ?_) (evs ?_)
    · simp only [railplanref41_Get.l0]; rw [if_neg (by omega)]
    · rw [List.drop_of_length_le (by omega)]; rfl
  | succ d ih =>
    intro i hi
    have hd : L.drop i = rd_T23 L (i : Int) :: L.drop (i + 1) := by
      rw [List.drop_eq_getElem_cons (by omega)]; unfold rd_T23
      rw [Int.toNat_natCast, List.getD_eq_getElem?_getD, List.getElem?_eq_getElem (by omega)]; rfl
    refine Ev.step (fun k => by simp only [railplanref41_Get.l0]; rw [if_pos (by omega), if_pos (by omega), if_pos (by omega)]) ?_
    rw [hd]
    by_cases h : (rd_T23 L (i : Int)).f0 = x
    · rw [List.find?_cons_of_pos (by simpa using h)]; exact evp h (evs rfl)
    · rw [List.find?_cons_of_neg (by simpa using h), w64 (by omega) (by omega)]; exact evn h (ih (i + 1) (by omega))
theorem refGet_ev (s : ByteArray) (x : Int) (hs : s.size ≤ 4611686018427387000) : Ev (fun k => railplanref41_Get.f k s x) (getV (scan s).1 x) := by
  unfold railplanref41_Get.f
  exact ev2 (refScan_ev s hs) (refGet_l0 x (scan s).1 (by have := scan_len s; omega) (scan s).1.length 0 (by omega))
theorem refLatest_ev (s : ByteArray) (hs : s.size ≤ 4611686018427387000) : Ev (fun k => railplanref41_Latest.f k s) (latV (scan s).1) := by
  unfold railplanref41_Latest.f latV
  have hl := scan_len s
  refine ev2 (refScan_ev s hs) ?_
  rw [w64 (x := ((scan s).1.length : Int) - 1) (by omega) (by omega)]
  by_cases h : (scan s).1.length = 0
  · rw [if_pos h]; exact evp (by omega) (evs rfl)
  · rw [if_neg h]; exact evn (by omega) (evp (by omega) (evp (by omega) (evs rfl)))

end Go.Proofs.Ytolckgeffmaakaa.Q
