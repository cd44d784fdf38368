/- The words of a joined text are the words that were joined. -/
import Derived.Test.YtnmbljpifadipaaDoorQLTrip
import Derived.Test.YtnmbljpifadipaaDoorQLNames
import Derived.Test.YtnmbljpifadipaaDoorX0
import Derived.Test.YtnmbljpifadipaaDoorX21
namespace Go.Proofs.YtnmbljpifadipaaDoor.Pure
set_option linter.unusedVariables false
set_option linter.unusedSimpArgs false
open Go Go.RowKit Go.Proofs.YtnmbljpifadipaaDoor.X Go.Proofs.YtnmbljpifadipaaDoorW.PrintWords Go.Proofs.YtnmbljpifadipaaDoorW.PrintLast
def six : List ByteArray := [(⟨#[120]⟩ : ByteArray), (⟨#[45, 49]⟩ : ByteArray), (⟨#[46, 46]⟩ : ByteArray), (⟨#[126, 125]⟩ : ByteArray), (⟨#[78, 97, 109, 101, 95, 49]⟩ : ByteArray), (⟨#[33, 34, 36]⟩ : ByteArray)]
theorem six_ok (j : Int) (h0 : 0 ≤ j) (h1 : j < 6) : Q.okW (rdOf ByteArray.empty six j) = true ∧ (rdOf ByteArray.empty six j).size ≤ 6 := by
  have h : ∀ n : Nat, n < 6 → Q.okW (rdOf ByteArray.empty six (n : Int)) = true ∧ (rdOf ByteArray.empty six (n : Int)).size ≤ 6 := by decide +kernel
  have := h j.toNat (by omega)
  rwa [Int.toNat_of_nonneg h0] at this
/-- The lists so far: i words, each row begun. -/
structure Good (i : Nat) (l : List (List ByteArray)) : Prop where
  ne : 0 < i → l ≠ []
  row : ∀ x ∈ l, 1 ≤ x.length ∧ x.length ≤ i ∧ x.all Q.okW = true
  tot : Q.tot l ≤ 8 * i
theorem trip_end (l : List (List ByteArray)) (i : Nat) (hi : i ≤ 60) (h : Good i l) (k0 : List Int) (a1 j : Int) : Ev (fun k => railplanlaw3_WordsRoundTrip.j1 k k0 a1 l j false) true := by
  have hok : ∀ x ∈ l, Q.okL x = true := by
    intro x hx
    obtain ⟨h1, h2, h3⟩ := h.row x hx
    unfold Q.okL
    rw [decide_eq_true h1, decide_eq_true (show x.length ≤ 64 by omega), h3]; rfl
  have ht := h.tot
  obtain ⟨q, hq, hql, hqa⟩ := Q.trip l hok (by omega)
  have hll := Q.tot_len l
  refine Ev.step (fun k => by simp only [railplanlaw3_WordsRoundTrip.j1]; rw [if_neg (by decide)]) ?_
  have hw := Q.w_lines (Q.joinR l)
  rw [hq] at hw
  refine Q.ev2 (Q.w_join l (by omega)) (Q.ev2 hw (Q.ev2 Q.awake (Q.evp rfl (Q.evp rfl ?_))))
  rw [show ((q.length : Int) != (l.length : Int)) = false by rw [hql]; simp]
  refine Ev.step (fun k => by simp only [railplanlaw3_WordsRoundTrip.j2]; rw [if_neg (by decide)]) ?_
  have hrow : ∀ (m : Nat) (i : Nat), i + m = l.length → Ev (fun k => railplanlaw3_WordsRoundTrip.l1 k l q (q.length : Int) (i : Int)) true := by
    intro m
    induction m with
    | zero =>
      intro i hm
      exact Ev.step (fun k => by rw [railplanlaw3_WordsRoundTrip.l1]) (Q.evn (by omega) (Q.evs rfl))
    | succ m ih =>
      intro i hm
      have hx : l[i]? = some l[i] := List.getElem?_eq_getElem (by omega)
      have hxm : l[i] ∈ l := List.getElem_mem _
      generalize l[i] = x at hx hxm
      obtain ⟨y, hy, hyl, hya⟩ := hqa i x hx
      obtain ⟨hx1, hx2, hx3⟩ := h.row x hxm
      have e1 : rd_L5 l (i : Int) = x := by unfold rd_L5; rw [Int.toNat_natCast, List.getD_eq_getElem?_getD, hx]; rfl
      have e2 : rd_L3 q (i : Int) = y := by unfold rd_L3; rw [Int.toNat_natCast, List.getD_eq_getElem?_getD, hy]; rfl
      refine Ev.step (fun k => by rw [railplanlaw3_WordsRoundTrip.l1, e1, e2]) (Q.evp (by omega) (Q.evp (by omega) (Q.evp (by omega) (Q.evp (by omega) (Q.evp (by omega) ?_)))))
      have hcol : ∀ (m2 : Nat) (j : Nat), j + m2 = x.length → Ev (fun k => railplanlaw3_WordsRoundTrip.l2 k l q (i : Int) (q.length : Int) (i : Int) (y.length : Int) (j : Int)) true := by
        intro m2
        induction m2 with
        | zero =>
          intro j hj
          refine Ev.step (fun k => by rw [railplanlaw3_WordsRoundTrip.l2]) (Q.evn (by omega) ?_)
          rw [Q.w64 (by omega) (by omega)]
          exact ih (i + 1) (by omega)
        | succ m2 ih2 =>
          intro j hj
          have hs : x[j]? = some x[j] := List.getElem?_eq_getElem (by omega)
          generalize x[j] = s at hs
          obtain ⟨w, hw1, hw2, hw3⟩ := hya j s hs
          have e3 : rdOf ByteArray.empty x (j : Int) = s := by unfold rdOf; rw [Int.toNat_natCast, List.getD_eq_getElem?_getD, hs]; rfl
          have e4 : rd_T32 y (j : Int) = w := by unfold rd_T32; rw [Int.toNat_natCast, List.getD_eq_getElem?_getD, hw1]; rfl
          refine Ev.step (fun k => by rw [railplanlaw3_WordsRoundTrip.l2, e1, e2, e3, e4]) (Q.evp (by omega) (Q.evp (by omega) (Q.evp (by omega) (Q.evp (by omega) (Q.evp (by omega) (Q.evp (by omega) (Q.evp (by omega) (Q.evp (by rw [hw2]) (Q.evp ?_ ?_)))))))))
          · rw [hw3, Q.w64 (by omega) (by omega)]; omega
          · rw [Q.w64 (by omega) (by omega)]
            exact ih2 (j + 1) (by omega)
      exact hcol x.length 0 (by omega)
  exact hrow l.length 0 (by omega)
theorem tot_app (a b : List (List ByteArray)) : Q.tot (a ++ b) = Q.tot a + Q.tot b := by unfold Q.tot; rw [List.map_append, List.sum_append]
theorem tot_one (x : List ByteArray) : Q.tot [x] = Q.totL x := by simp [Q.tot]
theorem totL_app (x : List ByteArray) (s : ByteArray) : Q.totL (x ++ [s]) = Q.totL x + (s.size + 1) := by
  unfold Q.totL; rw [List.map_append, List.sum_append]; simp; omega
/-- A word more in the last row. -/
theorem good_step {i : Nat} {ini : List (List ByteArray)} {x : List ByteArray} {s : ByteArray} (h1 : ∀ y ∈ ini, 1 ≤ y.length ∧ y.length ≤ i ∧ y.all Q.okW = true) (h2 : x.length ≤ i ∧ x.all Q.okW = true) (h3 : Q.tot ini + Q.totL (x ++ [s]) ≤ 8 * (i + 1)) (hs : Q.okW s = true) : Good (i + 1) (ini ++ [x ++ [s]]) where
  ne := by intro _; simp
  row := by
    intro y hy
    rcases List.mem_append.1 hy with hy | hy
    · obtain ⟨a, b, c⟩ := h1 y hy; exact ⟨a, by omega, c⟩
    · rw [List.mem_singleton.1 hy, List.length_append, List.all_append, h2.2]
      exact ⟨by simp, by simp; omega, by simp [hs]⟩
  tot := by rw [tot_app, tot_one]; exact h3
theorem set_last (ini : List (List ByteArray)) (x y : List ByteArray) : (ini ++ [x]).set ini.length y = ini ++ [y] := by
  rw [List.set_append_right _ _ (Nat.le_refl _), Nat.sub_self]; rfl
theorem rd_last (ini : List (List ByteArray)) (x : List ByteArray) : rd_L5 (ini ++ [x]) (ini.length : Int) = x := by
  unfold rd_L5
  rw [Int.toNat_natCast, List.getD_eq_getElem?_getD, List.getElem?_append_right (Nat.le_refl _), Nat.sub_self]; rfl
theorem trip_run (p : List Int) (hp : ∀ x ∈ p, 0 ≤ x ∧ x ≤ 255) (a1 : Int) (ha : 0 ≤ a1 ∧ a1 ≤ 255) (d : Nat) : ∀ (i : Nat) (l : List (List ByteArray)), i + d = 60 → Good i l → Ev (fun k => railplanlaw3_WordsRoundTrip.l0 k p a1 l (i : Int)) true := by
  induction d with
  | zero =>
    intro i l hi h
    refine Ev.step (fun k => by rw [railplanlaw3_WordsRoundTrip.l0]) ?_
    by_cases c : (i : Int) < (p.length : Int)
    · refine Q.evp c ?_
      rw [decide_eq_false (by omega)]
      exact trip_end l i (by omega) h p a1 _
    · exact Q.evn c (trip_end l i (by omega) h p a1 _)
  | succ d ih =>
    intro i l hi h
    refine Ev.step (fun k => by rw [railplanlaw3_WordsRoundTrip.l0]) ?_
    by_cases c : (i : Int) < (p.length : Int)
    · refine Q.evp c ?_
      rw [decide_eq_true (show (i : Int) < 60 by omega)]
      refine Ev.step (fun k => by simp only [railplanlaw3_WordsRoundTrip.j1]; rfl) ?_
      have hr : 0 ≤ rd p (i : Int) ∧ rd p (i : Int) ≤ 255 := by
        apply hp
        unfold rd
        rw [Int.toNat_natCast, List.getD_eq_getElem?_getD, List.getElem?_eq_getElem (by omega)]
        exact List.getElem_mem _
      generalize rd p (i : Int) = v at hr ⊢
      have hv : 0 ≤ Int.tmod v 6 ∧ Int.tmod v 6 < 6 := by rw [Int.tmod_eq_emod_of_nonneg hr.1]; omega
      obtain ⟨hs, hs6⟩ := six_ok _ hv.1 hv.2
      refine Q.evp trivial (Q.ev1 rfl (Q.evp (by omega) (Q.evp c (Q.evp hv.1 (Q.evp hv.2 ?_)))))
      have hm7 : 0 ≤ Int.tmod a1 7 ∧ Int.tmod a1 7 < 7 := by rw [Int.tmod_eq_emod_of_nonneg ha.1]; omega
      have e7 : wrap64 (1 + wrap64 (Int.tmod a1 7)) = 1 + Int.tmod a1 7 := by rw [Q.w64 (x := Int.tmod a1 7) (by omega) (by omega), Q.w64 (by omega) (by omega)]
      rw [e7]
      clear e7
      have e6 : rdOf ByteArray.empty [(⟨#[120]⟩ : ByteArray), (⟨#[45, 49]⟩ : ByteArray), (⟨#[46, 46]⟩ : ByteArray), (⟨#[126, 125]⟩ : ByteArray), (⟨#[78, 97, 109, 101, 95, 49]⟩ : ByteArray), (⟨#[33, 34, 36]⟩ : ByteArray)] (Int.tmod v 6) = rdOf ByteArray.empty six (Int.tmod v 6) := rfl
      rw [e6]
      generalize rdOf ByteArray.empty six (Int.tmod v 6) = s at hs hs6
      have hset : ∀ (ini : List (List ByteArray)) (x : List ByteArray), (∀ y ∈ ini, 1 ≤ y.length ∧ y.length ≤ i ∧ y.all Q.okW = true) → (x.length ≤ i ∧ x.all Q.okW = true) → Q.tot ini + Q.totL x + 7 ≤ 8 * (i + 1) →
          Ev (fun k => if 0 ≤ wrap64 (((ini ++ [x]).length : Int) - 1) then (if wrap64 (((ini ++ [x]).length : Int) - 1) < ((ini ++ [x]).length : Int) then (if (rd_L5 (ini ++ [x]) (wrap64 (((ini ++ [x]).length : Int) - 1))).length < 8796093022208 then railplanlaw3_WordsRoundTrip.l0 k p a1 ((ini ++ [x]).set (wrap64 (((ini ++ [x]).length : Int) - 1)).toNat (rd_L5 (ini ++ [x]) (wrap64 (((ini ++ [x]).length : Int) - 1)) ++ [s])) (wrap64 ((i : Int) + 1)) else none) else none) else none) true := by
        intro ini x h1 h2 h3
        have hil : ini.length ≤ 8 * (i + 1) := by have := Q.tot_len ini; omega
        have el : ((ini ++ [x]).length : Int) = (ini.length : Int) + 1 := by simp
        rw [el, Q.w64 (x := (ini.length : Int) + 1 - 1) (by omega) (by omega), show (ini.length : Int) + 1 - 1 = (ini.length : Int) by omega, rd_last, Int.toNat_natCast, set_last, Q.w64 (by omega) (by omega)]
        refine Q.evp (by omega) (Q.evp (by omega) (Q.evp (by omega) ?_))
        exact ih (i + 1) _ (by omega) (good_step h1 h2 (by rw [totL_app]; omega) hs)
      refine Q.evn (by omega) ?_
      by_cases hmod : Int.tmod (i : Int) (1 + Int.tmod a1 7) = 0
      · have hll := Q.tot_len l
        have htt := h.tot
        refine Q.evp hmod (Q.evp (by omega) (Q.ev1 rfl ?_))
        exact hset l [] (fun y hy => h.row y hy) ⟨by simp, rfl⟩ (by have : Q.totL [] = 1 := rfl; omega)
      · refine Q.evn hmod ?_
        have hi0 : 0 < i := by
          rcases Nat.eq_zero_or_pos i with e | e
          · exfalso; apply hmod; subst e; simp
          · exact e
        obtain ⟨ini, x, hx⟩ : ∃ ini x, l = ini ++ [x] := ⟨l.dropLast, l.getLast (h.ne hi0), (List.dropLast_concat_getLast (h.ne hi0)).symm⟩
        subst hx
        have hxr := h.row x (by simp)
        have htt := h.tot
        rw [tot_app, tot_one] at htt
        exact hset ini x (fun y hy => h.row y (by simp [hy])) ⟨hxr.2.1, hxr.2.2⟩ (by omega)
    · exact Q.evn c (trip_end l i (by omega) h p a1 _)
theorem WordsRoundTrip : railplanlaw3_WordsRoundTrip.Pure := by
  intro p a hp ha
  have ha' : 0 ≤ a ∧ a ≤ 255 := by simpa [Lit.wf, show IntKind.u8.min = 0 from rfl, show IntKind.u8.max = 255 from rfl] using ha
  refine Ev.rounds ?_
  unfold railplanlaw3_WordsRoundTrip.f
  exact trip_run p (fun x hx => by have := hp.2.2 x hx; simpa [Lit.wf, show IntKind.u8.min = 0 from rfl, show IntKind.u8.max = 255 from rfl] using this) a ha' 60 0 [] rfl ⟨fun h => absurd h (by decide), fun x hx => (by cases hx), by simp [Q.tot]⟩
end Go.Proofs.YtnmbljpifadipaaDoor.Pure
