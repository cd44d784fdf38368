/- The plain law of the store: Compact of the reference. -/
import Derived.Test.YtolckgeffmaakaaQBase
import Derived.Test.YtolckgeffmaakaaQStore1
import Derived.Test.YtolckgeffmaakaaQStore2
import Derived.Test.YtolckgeffmaakaaQStore3
import Derived.Test.YtolckgeffmaakaaQStore4
import Derived.Test.YtolckgeffmaakaaQStoreComp
import Derived.Test.YtolckgeffmaakaaX0
import Derived.Test.YtolckgeffmaakaaX22
namespace Go.Proofs.Ytolckgeffmaakaa.Q
open Go.RowKit Go.Proofs.YtolckgeffmaakaaW.PrintWords Go.Proofs.YtolckgeffmaakaaW.PrintLast Go.Proofs.YtolckgeffmaakaaW.PrintMore Go.Proofs.Ytolckgeffmaakaa.X

theorem refCompact_l0 (L : List S23) (hg : ∀ x ∈ L, ok1 x) (hl : L.length ≤ 64) (d : Nat) : ∀ (i : Nat) (out : ByteArray), i + d = L.length → out.size ≤ 65552 * i →
    Ev (fun k => railplanref41_Compact.l0 k out L (L.length : Int) (i : Int)) (out ++ cat (L.drop i), 0) := by
  induction d with
  | zero =>
    intro i out hi _
    refine Ev.step (f := fun _ => some (out, (0 : Int))) (fun k => ?_) (evs ?_)
    · simp only [railplanref41_Compact.l0]; rw [if_neg (by omega)]
    · rw [List.drop_of_length_le (by omega)]; show (out, (0 : Int)) = (out ++ ⟨#[]⟩, 0); rw [app_empty]
  | succ d ih =>
    intro i out hi ho
    have hd : L.drop i = rd_T23 L (i : Int) :: L.drop (i + 1) := by
      rw [List.drop_eq_getElem_cons (by omega)]; unfold rd_T23
      rw [Int.toNat_natCast, List.getD_eq_getElem?_getD, List.getElem?_eq_getElem (by omega)]; rfl
    have hm : rd_T23 L (i : Int) ∈ L := by
      unfold rd_T23; rw [Int.toNat_natCast, List.getD_eq_getElem?_getD, List.getElem?_eq_getElem (by omega)]; exact List.getElem_mem _
    have ho1 := hg _ hm
    generalize hx : rd_T23 L (i : Int) = x at hd hm ho1
    obtain ⟨h1, h2, h3⟩ := ho1
    refine Ev.step (fun k => by simp only [railplanref41_Compact.l0]; rw [if_pos (by omega), if_pos (by omega), if_pos (by omega), hx]) ?_
    have he := refEncode_ev x.f0 x.f1 (by omega)
    rw [enc_good (by omega) (by omega)] at he
    have hz := rec_size x.f0 x.f1
    refine ev2 he (evp (by show out.size + (rec x.f0 x.f1).size ≤ _; omega) ?_)
    rw [w64 (by omega) (by omega), hd]
    have := ih (i + 1) (out ++ rec x.f0 x.f1) (by omega) (by rw [ByteArray.size_append]; omega)
    rw [app_assoc] at this; exact this
theorem refCompact_ev (s : ByteArray) (n : Int) (hs : s.size ≤ 4611686018427387000) : Ev (fun k => railplanref41_Compact.f k s n) (comp s n) := by
  unfold railplanref41_Compact.f
  have hl := scan_len s
  have bad : ∀ b : Bool, b = true → Ev (fun k => railplanref41_Compact.j0 k s n b) (⟨#[]⟩, 4) := by
    rintro b rfl
    refine Ev.step (f := fun _ => some ((⟨#[]⟩ : ByteArray), 4)) (fun k => ?_) (evs rfl)
    simp only [railplanref41_Compact.j0]; rw [if_pos trivial]
  by_cases h1 : n < 1
  · rw [comp_bad (.inl h1)]; exact evp h1 (bad _ rfl)
  refine evn h1 ?_
  by_cases h2 : n > 64
  · rw [comp_bad (.inr h2)]; exact bad _ (decide_eq_true h2)
  have h : ¬ (n < 1 ∨ n > 64) := by omega
  rw [comp_good h, decide_eq_false h2]
  refine Ev.step (fun k => by simp only [railplanref41_Compact.j0]; rw [if_neg (by decide)]) (ev2 (refScan_ev s hs) ?_)
  rw [mx_len _ _ h hl]
  refine evp (by omega) (evp (by omega) (ev1 rfl ?_))
  rw [Int.toNat_natCast]
  have hg := good_drop ((scan s).1.length - n.toNat) (scan_good s)
  have := refCompact_l0 ((scan s).1.drop ((scan s).1.length - n.toNat)) hg.1 (by rw [List.length_drop]; omega) _ 0 ⟨#[]⟩ (by rw [Nat.zero_add]) (by show 0 ≤ _; omega)
  rw [ba_empty_append, List.drop_zero] at this
  exact this
end Go.Proofs.Ytolckgeffmaakaa.Q
