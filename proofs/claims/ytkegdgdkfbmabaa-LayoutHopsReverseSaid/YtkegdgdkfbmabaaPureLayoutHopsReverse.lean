/- A step is reached from another one by a hop exactly if the reversed steps are reached in the other order, through the same point in the same position. -/
import Derived.KernelRfl
import Derived.Test.YtkegdgdkfbmabaaQLGen
import Derived.Test.YtkegdgdkfbmabaaX0
import Derived.Test.YtkegdgdkfbmabaaX5
import Derived.Test.YtkegdgdkfbmabaaX9
import Derived.Test.YtkegdgdkfbmabaaQHops
import Derived.Test.YtkegdgdkfbmabaaQJoined
import Derived.Test.YtkegdgdkfbmabaaQKeepL
import Derived.Test.YtkegdgdkfbmabaaQLLinks
namespace Go.Proofs.Ytkegdgdkfbmabaa.Pure
set_option linter.unusedVariables false
set_option linter.unusedSimpArgs false
open Go Go.RowKit Go.Proofs.Ytkegdgdkfbmabaa.X Go.Proofs.YtkegdgdkfbmabaaW.PrintWords Go.Proofs.YtkegdgdkfbmabaaW.PrintLast
abbrev Hop1 := S43
theorem awakeR : railplanlaw4_awake.f = some true := by kernel_rfl
def revD (d : Int) : Int := if d = 0 then 1 else 0
theorem rev_f (a b : Int) : layout_Reverse.f a b = some (a, revD b) := by
  unfold layout_Reverse.f revD; split <;> rfl
def mt (p q : Int) (t b : Hop1) : Bool := ((b.f0.f0 == p) && (b.f0.f1 == revD q)) && ((b.f1 == t.f1) && (b.f2 == t.f2))
def cnt (p q : Int) (t : Hop1) (l : List Hop1) : Nat := (l.filter (mt p q t)).length
theorem cnt_cons (p q : Int) (t b : Hop1) (l : List Hop1) : cnt p q t (b :: l) = (if mt p q t b = true then 1 else 0) + cnt p q t l := by
  unfold cnt; rw [List.filter_cons]; split
  · rw [List.length_cons]; omega
  · omega
section
variable (st pt : List ByteArray) (sc : List Sec1) (lk : List Lnk1) (p q : Int) (h : List Hop1)
theorem l1_run (i : Nat) (hi : i < h.length) (back : List Hop1) (hb : back.length ≤ 1000) (v : Bool) (m : Nat) : ∀ j n : Nat, j + m = back.length → n ≤ j →
    Ev (fun k => if ((n + cnt p q (rd_T43 h (i : Int)) (back.drop j) : Nat) : Int) = 1 then railplanlaw4_LayoutHopsReverse.l0 k h (h.length : Int) (wrap64 ((i : Int) + 1)) st pt sc lk p q else some false) v →
    Ev (fun k => railplanlaw4_LayoutHopsReverse.l1 k h (i : Int) back (n : Int) (h.length : Int) (i : Int) (back.length : Int) (j : Int) st pt sc lk p q) v := by
  induction m with
  | zero =>
    intro j n hj hn hv
    refine Ev.step (fun k => by rw [railplanlaw4_LayoutHopsReverse.l1]) (Q.evn (by omega) ?_)
    rw [List.drop_eq_nil_of_le (by omega)] at hv
    exact hv
  | succ m ih =>
    intro j n hj hn hv
    have hjl : j < back.length := by omega
    have hd : back.drop j = rd_T43 back (j : Int) :: back.drop (j + 1) := by
      rw [List.drop_eq_getElem_cons hjl]
      unfold rd_T43
      rw [Int.toNat_natCast, List.getD_eq_getElem?_getD, List.getElem?_eq_getElem hjl]; rfl
    rw [hd, cnt_cons] at hv
    refine Ev.step (fun k => by rw [railplanlaw4_LayoutHopsReverse.l1]) (Q.evp (by omega) (Q.evp (by omega) (Q.evp (by omega) (Q.ev1 (rev_f p q) ?_))))
    refine Q.evp (c := 0 ≤ (i : Int)) (by omega) (Q.evp (c := (i : Int) < (h.length : Int)) (by omega) ?_)
    have e1 : wrap64 ((j : Int) + 1) = ((j + 1 : Nat) : Int) := by unfold wrap64; omega
    have e2 : wrap64 ((n : Int) + 1) = ((n + 1 : Nat) : Int) := by unfold wrap64; omega
    rw [e1, e2]
    by_cases c : mt p q (rd_T43 h (i : Int)) (rd_T43 back (j : Int)) = true
    · rw [if_pos c, ← Nat.add_assoc] at hv
      exact Q.evp c (ih (j + 1) (n + 1) (by omega) (by omega) hv)
    · rw [if_neg c, Nat.zero_add] at hv
      exact Q.evn c (ih (j + 1) n (by omega) (by omega) hv)
theorem l0_run (hl : h.length ≤ 2) (hb : ∀ i : Nat, i < h.length → ∃ back, layout_Hops.f st pt sc lk (rd_T43 h (i : Int)).f0.f0 (revD (rd_T43 h (i : Int)).f0.f1) = some back ∧ back.length ≤ 1000 ∧ cnt p q (rd_T43 h (i : Int)) back = 1) (m : Nat) : ∀ i : Nat, i + m = h.length →
    Ev (fun k => railplanlaw4_LayoutHopsReverse.l0 k h (h.length : Int) (i : Int) st pt sc lk p q) true := by
  induction m with
  | zero =>
    intro i hi
    refine Ev.step (fun k => by rw [railplanlaw4_LayoutHopsReverse.l0]) (Q.evn (by omega) (Q.ev1 awakeR (Q.evp rfl (Q.evs ?_))))
    exact decide_eq_true (by omega)
  | succ m ih =>
    intro i hi
    obtain ⟨back, h1, h2, h3⟩ := hb i (by omega)
    refine Ev.step (fun k => by rw [railplanlaw4_LayoutHopsReverse.l0]) (Q.evp (by omega) (Q.evp (by omega) (Q.evp (by omega) (Q.ev1 (rev_f _ _) (Q.ev1 h1 ?_)))))
    refine l1_run st pt sc lk p q h i (by omega) back h2 true back.length 0 0 (by omega) (Nat.le_refl _) ?_
    rw [List.drop_zero, h3]
    have e1 : wrap64 ((i : Int) + 1) = ((i + 1 : Nat) : Int) := by unfold wrap64; omega
    rw [e1]
    exact Q.evp (by decide) (ih (i + 1) (by omega))
end
theorem has_dir (l0 l1 : List ByteArray) (l2 : List Sec1) (l3 : List Lnk1) (a b : Int) (h : layout_Has.f l0 l1 l2 l3 a b = some true) : b = 0 ∨ b = 1 := by
  unfold layout_Has.f at h
  obtain ⟨t, ht, h⟩ := Option.bind_eq_some_iff.mp h
  by_cases h1 : t = true
  · rw [if_pos h1] at h
    by_cases h2 : b = 0
    · exact .inl h2
    · rw [if_neg h2] at h
      by_cases h3 : b = 1
      · exact .inr h3
      · rw [if_neg h3] at h; cases h
  · rw [if_neg h1] at h; cases h
theorem other_other {e : Int × Int} {x : Link} (hne : lkA x ≠ lkB x) (hx : hasE e x = true) : hasE (otherE e x) x = true ∧ otherE (otherE e x) x = e := by
  by_cases c : lkA x = e
  · have h1 : otherE e x = lkB x := if_pos c
    rw [h1]
    refine ⟨hasE_iff.2 (.inr rfl), ?_⟩
    unfold otherE; rw [if_neg hne]; exact c
  · have hx' := (hasE_iff.1 hx).resolve_left c
    have h1 : otherE e x = lkA x := if_neg c
    rw [h1]
    refine ⟨hasE_iff.2 (.inl rfl), ?_⟩
    unfold otherE; rw [if_pos rfl]; exact hx'
theorem mt_self {p q : Int} {o : Int × Int} {x y : Link} (hq : q = 0 ∨ q = 1) (ho : otherE o x = (p, if q = 1 then (0 : Int) else 1)) : mt p q (hopAt (p, if q = 1 then (0 : Int) else 1) y) (hopAt o x) = true ↔ x.f4 = y.f4 ∧ x.f5 = y.f5 := by
  rw [hopAt_eq, hopAt_eq, ho]
  unfold mt
  have hd : intoD (if q = 1 then (0 : Int) else 1) = revD q := by rcases hq with rfl | rfl <;> rfl
  simp only [hd, beq_self_eq_true, Bool.true_and, Bool.and_eq_true, beq_iff_eq]
theorem mt_pos {p q : Int} {o : Int × Int} {x y : Link} {e : Int × Int} (h : x.f5 ≠ y.f5) : mt p q (hopAt e y) (hopAt o x) = false := by
  rw [hopAt_eq, hopAt_eq]
  unfold mt
  have : (x.f5 == y.f5) = false := by simpa using h
  simp only [this, Bool.and_false]
theorem LayoutHopsReverse : railplanlaw4_LayoutHopsReverse.Pure := by
  intro l a _ h8 _ _
  refine Ev.rounds ?_
  unfold railplanlaw4_LayoutHopsReverse.f
  have hL : ∀ k, railplankeep_Layout.f k l = some (genL l) := fun k => if_pos (by omega)
  have hsc := genL_sc l
  refine Q.ev2 (a := genL l) ⟨0, fun n _ => hL n⟩ ?_
  generalize genL l = G at hsc
  obtain ⟨st, pt, sc, lk⟩ := G
  simp only [] at hsc ⊢
  obtain ⟨p, q, hs⟩ := step_some st pt sc lk a (by omega)
  refine Q.ev1 hs ?_
  simp only []
  rcases hops_some st pt sc lk p q with h | ⟨hh, hc, h⟩
  · refine Q.ev1 h ?_
    exact l0_run st pt sc lk p q [] (by decide) (fun i hi => absurd hi (by simp)) 0 0 rfl
  · refine Q.ev1 h ?_
    have hg := check_good st pt sc lk hc
    have hq := has_dir _ _ _ _ _ _ hh
    rw [hopsS_map]
    obtain ⟨e, he⟩ : ∃ e, e = (p, if q = 1 then (0 : Int) else 1) := ⟨_, rfl⟩
    rw [← he]
    have hle : ((lk.filter (hasE e)).map (hopAt e)).length ≤ 2 := by
      rw [List.length_map]
      rcases hg.2 e with g | ⟨x, g⟩ | ⟨y, x, g, _⟩ <;> rw [g] <;> simp
    refine l0_run st pt sc lk p q _ hle (fun i hi => ?_) _ 0 (by simp; rfl)
    rw [List.length_map] at hi
    have hrd : rd_T43 ((lk.filter (hasE e)).map (hopAt e)) (i : Int) = hopAt e (lk.filter (hasE e))[i] := by
      unfold rd_T43
      rw [Int.toNat_natCast, List.getD_eq_getElem?_getD, List.getElem?_map, List.getElem?_eq_getElem hi]; rfl
    rw [hrd]
    have hm : (lk.filter (hasE e))[i] ∈ lk.filter (hasE e) := List.getElem_mem hi
    generalize (lk.filter (hasE e))[i] = x at hm
    have hx := List.mem_filter.1 hm
    have hin := hg.1 x hx.1
    have ho := other_in hin.1 e
    have hoo := other_other hin.2 hx.2
    obtain ⟨o, hoe⟩ : ∃ o, o = otherE e x := ⟨_, rfl⟩
    rw [← hoe] at ho hoo
    rw [hopAt_eq e x, ← hoe]
    simp only []
    have hdir : revD (intoD o.2) = 0 ∨ revD (intoD o.2) = 1 := by unfold revD; split <;> simp
    have hat : (if revD (intoD o.2) = 1 then (0 : Int) else 1) = o.2 := by
      have : o.2 = 0 ∨ o.2 = 1 := by omega
      rcases this with h | h <;> rw [h] <;> rfl
    refine ⟨hopsS o.1 o.2 lk, ?_, ?_, ?_⟩
    · unfold layout_Hops.f
      rw [has_true st pt sc lk o.1 (revD (intoD o.2)) hc ⟨ho.1.1, ho.1.2⟩ (by omega) hdir]
      simp only [Option.bind_some]
      rw [if_pos trivial, hat]
    · have h1 := hopsS_len o.1 o.2 lk lk.length
      rw [List.take_length] at h1
      have := (check_parts st pt sc lk hc).1
      omega
    · rw [hopsS_map]
      have hto : (⟨⟨o.1, intoD o.2⟩, x.f4, x.f5⟩ : Hop1) = hopAt e x := by rw [hopAt_eq, ← hoe]
      rw [hto]
      have hxo : x ∈ lk.filter (hasE o) := List.mem_filter.2 ⟨hx.1, hoo.1⟩
      have hself : mt p q (hopAt e x) (hopAt o x) = true := by rw [he]; exact (mt_self hq (by rw [hoo.2, he])).2 ⟨rfl, rfl⟩
      unfold cnt
      rcases hg.2 (o.1, o.2) with g | ⟨z, g⟩ | ⟨y, z, g, hr⟩
      · rw [show (o.1, o.2) = o from rfl] at g; rw [g] at hxo; cases hxo
      · rw [show (o.1, o.2) = o from rfl] at g ⊢
        rw [g] at hxo ⊢
        obtain rfl := List.mem_singleton.1 hxo
        simp only [List.map_cons, List.map_nil, List.filter_cons, hself, if_true, List.filter_nil, List.length_cons, List.length_nil]
      · rw [show (o.1, o.2) = o from rfl] at g ⊢
        rw [g] at hxo ⊢
        rcases List.mem_cons.1 hxo with rfl | hxo
        · have h2 : mt p q (hopAt e x) (hopAt o z) = false := mt_pos hr.2.2.1
          simp only [List.map_cons, List.map_nil, List.filter_cons, hself, h2, if_true, List.filter_nil, List.length_cons, List.length_nil]
          simp
        · obtain rfl := List.mem_singleton.1 hxo
          have h2 : mt p q (hopAt e x) (hopAt o y) = false := mt_pos (fun h => hr.2.2.1 h.symm)
          simp only [List.map_cons, List.map_nil, List.filter_cons, hself, h2, if_true, List.filter_nil, List.length_cons, List.length_nil]
          simp
end Go.Proofs.Ytkegdgdkfbmabaa.Pure
