/- The plain law of the store: History. -/
import Derived.Test.YtolckgeffmaakaaQBase
import Derived.Test.YtolckgeffmaakaaQStore1
import Derived.Test.YtolckgeffmaakaaQStore2
import Derived.Test.YtolckgeffmaakaaQStore3
import Derived.Test.YtolckgeffmaakaaQStore4
import Derived.Test.YtolckgeffmaakaaQStoreGet
import Derived.Test.YtolckgeffmaakaaX0
import Derived.Test.YtolckgeffmaakaaX19
namespace Go.Proofs.Ytolckgeffmaakaa.Q
open Go.RowKit Go.Proofs.YtolckgeffmaakaaW.PrintWords Go.Proofs.YtolckgeffmaakaaW.PrintLast Go.Proofs.YtolckgeffmaakaaW.PrintMore Go.Proofs.Ytolckgeffmaakaa.X

theorem find_num {L : List S23} (h : L.Pairwise (fun x y => x.f0 < y.f0)) {x : S23} (hx : x ∈ L) : L.find? (fun y => y.f0 == x.f0) = some x := by
  induction L with
  | nil => cases hx
  | cons y L ih =>
    rw [List.pairwise_cons] at h
    by_cases e : y.f0 = x.f0
    · rw [List.find?_cons_of_pos (by simpa using e)]
      rcases List.mem_cons.1 hx with rfl | hm
      · rfl
      · have := h.1 x hm; omega
    · rw [List.find?_cons_of_neg (by simpa using e)]
      rcases List.mem_cons.1 hx with rfl | hm
      · exact absurd rfl e
      · exact ih h.2 hm
theorem hist_l1 (L : List S23) (hL : small L) (d : Nat) : ∀ i : Nat, i + d = L.length → Ev (fun k => railplanlaw41_StoreHistory.l1 k (cat L) L L (L.length : Int) (i : Int)) true := by
  have hz := small_size hL
  have hlen := hL.2.1
  have hsc := scan_cat0 L hL.1 (by omega)
  induction d with
  | zero =>
    intro i hi
    refine Ev.step (fun k => by simp only [railplanlaw41_StoreHistory.l1]; rw [if_neg (by omega)]) ?_
    have s1 := scan_ev (cat L) (by omega)
    rw [hsc] at s1
    exact ev2 s1 (ev2 awake_ev (evp rfl (ev2 (same_ev L (by omega)) (evp rfl (evs (by simp))))))
  | succ d ih =>
    intro i hi
    have hm : rd_T23 L (i : Int) ∈ L := by
      unfold rd_T23; rw [Int.toNat_natCast, List.getD_eq_getElem?_getD, List.getElem?_eq_getElem (by omega)]; exact List.getElem_mem _
    have g := get_ev' (cat L) (rd_T23 L (i : Int)).f0 (by omega)
    have e : getV (scan (cat L)).1 (rd_T23 L (i : Int)).f0 = ((rd_T23 L (i : Int)).f0, (rd_T23 L (i : Int)).f1, 0) := by
      unfold getV; rw [hsc]; dsimp only; rw [find_num hL.1.2 hm]
    rw [e] at g
    refine Ev.step (fun k => by simp only [railplanlaw41_StoreHistory.l1]; rw [if_pos (by omega), if_pos (by omega), if_pos (by omega)]) ?_
    refine ev2 g (evp rfl (evn (by simp) ?_))
    rw [w64 (by omega) (by omega)]; exact ih (i + 1) (by omega)
theorem hist_l0 (vs : List S23) (hv : vs.length ≤ 5) (hx : ∀ x ∈ vs, 0 ≤ x.f0 ∧ x.f0 ≤ 17 ∧ x.f1.size ≤ 8) (d : Nat) : ∀ (L : List S23) (i : Nat), i + d = vs.length → small L → L.length ≤ i →
    Ev (fun k => railplanlaw41_StoreHistory.l0 k (cat L) L vs (vs.length : Int) (i : Int)) true := by
  induction d with
  | zero =>
    intro L i hi hL _
    refine Ev.step (fun k => by simp only [railplanlaw41_StoreHistory.l0]; rw [if_neg (by omega)]; rfl) (hist_l1 L hL L.length 0 (by omega))
  | succ d ih =>
    intro L i hi hL hLi
    have hz := small_size hL
    have hlen := hL.2.1
    have hm : rd_T23 vs (i : Int) ∈ vs := by
      unfold rd_T23; rw [Int.toNat_natCast, List.getD_eq_getElem?_getD, List.getElem?_eq_getElem (by omega)]; exact List.getElem_mem _
    refine Ev.step (fun k => by simp only [railplanlaw41_StoreHistory.l0]; rw [if_pos (by omega), if_pos (by omega), if_pos (by omega)]) ?_
    generalize hxv : rd_T23 vs (i : Int) = x at hm
    obtain ⟨x0, x1, x2⟩ := hx x hm
    have ha := app_cat (L := L) (n := x.f0) (t := x.f1) hL.1 (by omega) (by omega)
    refine ev2 (append_ev (cat L) x.f0 x.f1 (by omega) (by omega)) ?_
    rw [w64 (x := (L.length : Int) - 1) (by omega) (by omega)]
    have next : Ev (fun k => railplanlaw41_StoreHistory.l0 k (cat L) L vs (vs.length : Int) (wrap64 ((i : Int) + 1))) true := by
      rw [w64 (by omega) (by omega)]; exact ih L (i + 1) (by omega) hL (by omega)
    have bad : ∀ e : Int, (x.f0 < 1 ∧ e = 4 ∨ ¬ x.f0 < 1 ∧ e = 20) → ∀ f : ByteArray, Ev (fun k => railplanlaw41_StoreHistory.j1 k (cat L) L f e false vs (vs.length : Int) (i : Int) x.f0 x.f1) true := by
      intro e he f
      refine Ev.step (fun k => by simp only [railplanlaw41_StoreHistory.j1]; rw [if_neg (by decide)]) ?_
      refine Ev.step (fun k => by simp only [railplanlaw41_StoreHistory.j2]; rw [if_neg (by decide), if_neg (by decide)]) ?_
      have j3 : Ev (fun k => railplanlaw41_StoreHistory.j3 k (cat L) L f false vs (vs.length : Int) (i : Int) false x.f0 x.f1) true :=
        Ev.step (fun k => by simp only [railplanlaw41_StoreHistory.j3]; rw [if_neg (by decide), if_neg (by decide)]) next
      rcases he with ⟨h1, rfl⟩ | ⟨h1, rfl⟩
      · exact evp h1 (evp rfl (evn (by omega) j3))
      · exact evn h1 (evp (by omega) j3)
    by_cases h1 : x.f0 < 1
    · rw [if_pos (.inl h1)] at ha
      rw [ha]; exact evn (by omega) (bad 4 (.inl ⟨h1, rfl⟩) _)
    rw [if_neg (by omega), if_neg (by omega)] at ha
    refine evp (by omega) ?_
    by_cases ho : okN L x.f0 = false
    · rw [if_pos ho] at ha
      have h0 : ¬ L.length = 0 := by intro h; simp [okN, h] at ho
      have hle : ¬ x.f0 > (rd_T23 L ((L.length : Int) - 1)).f0 := by
        simp only [okN, decide_eq_false_iff_not, not_or] at ho; have := ho.2; unfold lastN at this; omega
      refine evn (by omega) (evp (by omega) (evp (by omega) ?_))
      rw [ha, decide_eq_false hle]
      exact bad 20 (.inr ⟨h1, rfl⟩) _
    · have ho' : okN L x.f0 = true := by simpa using ho
      rw [if_neg ho] at ha
      have good1 : Ev (fun k => railplanlaw41_StoreHistory.j1 k (cat L) L (cat (L ++ [x])) 0 true vs (vs.length : Int) (i : Int) x.f0 x.f1) true := by
        refine Ev.step (fun k => by simp only [railplanlaw41_StoreHistory.j1]; rw [if_pos trivial]) ?_
        refine Ev.step (fun k => by simp only [railplanlaw41_StoreHistory.j2]; rw [if_neg (by decide), if_pos trivial]) ?_
        refine Ev.step (fun k => by simp only [railplanlaw41_StoreHistory.j3]; rw [if_neg (by decide), if_pos trivial, if_pos (by omega)]) ?_
        rw [w64 (by omega) (by omega)]
        exact ih (L ++ [x]) (i + 1) (by omega) ⟨good_snoc.2 ⟨hL.1, ⟨by omega, by omega, by omega⟩, ho'⟩, by simp; omega, fun y hy => by
          rcases List.mem_append.1 hy with hy | hy
          · exact hL.2.2 y hy
          · rw [List.mem_singleton.1 hy]; exact ⟨x1, x2⟩⟩ (by simp; omega)
      rw [ha]
      by_cases h0 : L.length = 0
      · exact evp (by omega) good1
      · have hgt : x.f0 > (rd_T23 L ((L.length : Int) - 1)).f0 := by
          simp only [okN, decide_eq_true_eq] at ho'; unfold lastN at ho'; omega
        refine evn (by omega) (evp (by omega) (evp (by omega) ?_))
        rw [decide_eq_true hgt]; exact good1
theorem history_law (l0 : List Int) (h0 : l0.length ≤ 1152921504606846976) : Ev (fun k => railplanlaw41_StoreHistory.f k l0) true := by
  unfold railplanlaw41_StoreHistory.f
  obtain ⟨vs, h, hv, hx⟩ := versions_ev l0 h0
  exact ev2 h (hist_l0 vs hv hx vs.length [] 0 (by omega) ⟨good_nil, by simp, by simp⟩ (by simp))
end Go.Proofs.Ytolckgeffmaakaa.Q
