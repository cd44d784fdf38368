/- What the links of a layout that Check accepts have in common. -/
import Derived.Test.YtkegdgdkfbmabaaQHops
import Derived.Test.YtkegdgdkfbmabaaX0
import Derived.Test.YtkegdgdkfbmabaaX4
import Derived.Test.YtkegdgdkfbmabaaX5
import Derived.Test.YtkegdgdkfbmabaaQCheck
import Derived.Test.YtkegdgdkfbmabaaQJoined
import Derived.Test.YtkegdgdkfbmabaaQLinks
namespace Go.Proofs.Ytkegdgdkfbmabaa.X
open Go Go.RowKit Go.Maps Go.Proofs.YtkegdgdkfbmabaaW Go.Proofs.YtkegdgdkfbmabaaW.PrintWords Go.Proofs.YtkegdgdkfbmabaaW.PrintLast Go.Proofs.YtkegdgdkfbmabaaW.PrintMore
set_option linter.unusedVariables false
set_option linter.unusedSimpArgs false
def hasE (e : Int × Int) (x : Link) : Bool := decide (lkA x = e) || decide (lkB x = e)
theorem hasE_iff {e : Int × Int} {x : Link} : hasE e x = true ↔ lkA x = e ∨ lkB x = e := by unfold hasE; simp
theorem put_filter {u : Int × Int → List Link} {d : List Link} {x : Link} (hne : lkA x ≠ lkB x) (h : ∀ e, u e = d.filter (hasE e)) : ∀ e, put1 (put1 u (lkA x) x) (lkB x) x e = (d ++ [x]).filter (hasE e) := by
  intro e
  rw [List.filter_append]
  unfold put1
  by_cases h1 : e = lkB x
  · subst h1
    rw [if_pos rfl, if_neg (fun h => hne h.symm), h]
    have : hasE (lkB x) x = true := hasE_iff.2 (.inr rfl)
    simp [this]
  · rw [if_neg h1]
    by_cases h2 : e = lkA x
    · subst h2
      rw [if_pos rfl, h]
      have : hasE (lkA x) x = true := hasE_iff.2 (.inl rfl)
      simp [this]
    · rw [if_neg h2, h]
      have : hasE e x = false := by
        cases hh : hasE e x with
        | false => rfl
        | true => rcases hasE_iff.1 hh with q | q
                  · exact absurd q.symm h2
                  · exact absurd q.symm h1
      simp [this]
def okL (n np : Int) : List Link → List Link → Prop
  | _, [] => True
  | d, x :: l => linkIn n np x = true ∧ lkA x ≠ lkB x ∧ (d.filter (hasE (lkA x))).any (sameJ x) = false ∧ badE x (d.filter (hasE (lkA x))) = false ∧ badE x (d.filter (hasE (lkB x))) = false ∧ okL n np (d ++ [x]) l
theorem linksS_ok (n np : Int) : ∀ (l d : List Link) (u : Int × Int → List Link), (∀ e, u e = d.filter (hasE e)) → linksS n np u l = 0 → okL n np d l
  | [], _, _, _, _ => trivial
  | x :: l, d, u, hu, h => by
    unfold linksS at h
    by_cases c1 : linkIn n np x = true
    · rw [if_pos c1] at h
      by_cases c2 : (x.f0 == x.f2 && x.f1 == x.f3) = true
      · rw [if_pos c2] at h; cases h
      · rw [if_neg c2] at h
        have hne : lkA x ≠ lkB x := by
          intro he
          apply c2
          unfold lkA lkB at he
          injection he with e1 e2
          rw [e1, e2]; simp
        by_cases c3 : joinedS u x = 0
        · rw [if_pos c3] at h
          unfold joinedS at c3
          rw [hu, hu] at c3
          by_cases d1 : (d.filter (hasE (lkA x))).any (sameJ x) = true
          · rw [if_pos d1] at c3; cases c3
          rw [if_neg d1] at c3
          by_cases d2 : badE x (d.filter (hasE (lkA x))) = true
          · rw [if_pos d2] at c3; cases c3
          rw [if_neg d2] at c3
          by_cases d3 : badE x (d.filter (hasE (lkB x))) = true
          · rw [if_pos d3] at c3; cases c3
          exact ⟨c1, hne, by simpa using d1, by simpa using d2, by simpa using d3, linksS_ok n np l (d ++ [x]) _ (put_filter hne hu) h⟩
        · rw [if_neg c3] at h; exact absurd h c3
    · rw [if_neg c1] at h; cases h
/-- Of two links at one end: y is the earlier one. -/
def Rel (y x : Link) : Prop := x.f4 ≠ -1 ∧ x.f4 = y.f4 ∧ x.f5 ≠ y.f5 ∧ sameJ x y = false
def GoodAt (l : List Link) : Prop := l = [] ∨ (∃ x, l = [x]) ∨ ∃ y x, l = [y, x] ∧ Rel y x
def Good (n np : Int) (l : List Link) : Prop := (∀ x ∈ l, linkIn n np x = true ∧ lkA x ≠ lkB x) ∧ ∀ e, GoodAt (l.filter (hasE e))
theorem badE_one {x y : Link} (h : badE x [y] = false) : x.f4 ≠ -1 ∧ x.f4 = y.f4 ∧ x.f5 ≠ y.f5 := by
  unfold badE at h
  simp only [Bool.or_eq_false_iff, decide_eq_false_iff_not] at h
  exact ⟨h.1, Classical.not_not.mp h.2.1, h.2.2⟩
theorem same_has {x y : Link} (h : sameJ x y = true) : hasE (lkA x) y = true := by
  unfold sameJ same1 same2 at h
  rw [hasE_iff]
  unfold lkA lkB
  simp only [Bool.or_eq_true, Bool.and_eq_true, beq_iff_eq] at h
  rcases h with ⟨⟨a, b⟩, _⟩ | ⟨_, a, b⟩
  · exact .inl (by rw [a, b])
  · exact .inr (by rw [a, b])
theorem good_snoc {n np : Int} {d : List Link} {x : Link} (hd : Good n np d) (h1 : linkIn n np x = true) (h2 : lkA x ≠ lkB x) (h3 : (d.filter (hasE (lkA x))).any (sameJ x) = false) (h4 : badE x (d.filter (hasE (lkA x))) = false) (h5 : badE x (d.filter (hasE (lkB x))) = false) : Good n np (d ++ [x]) := by
  refine ⟨fun z hz => ?_, fun e => ?_⟩
  · rcases List.mem_append.1 hz with hz | hz
    · exact hd.1 z hz
    · rw [List.mem_singleton.1 hz]; exact ⟨h1, h2⟩
  · have hs : ∀ y ∈ d, sameJ x y = false := by
      intro y hy
      cases hh : sameJ x y with
      | false => rfl
      | true =>
        have := List.any_eq_true.2 ⟨y, List.mem_filter.2 ⟨hy, same_has hh⟩, hh⟩
        rw [this] at h3; cases h3
    rw [List.filter_append]
    cases hx : hasE e x with
    | false => simp only [List.filter_cons, hx, List.filter_nil]; rw [if_neg (by decide), List.append_nil]; exact hd.2 e
    | true =>
      have hb : badE x (d.filter (hasE e)) = false := by
        rcases hasE_iff.1 hx with q | q
        · rw [← q]; exact h4
        · rw [← q]; exact h5
      simp only [List.filter_cons, hx, List.filter_nil, if_true]
      rcases hd.2 e with q | ⟨y, q⟩ | ⟨y, z, q, _⟩
      · rw [q]; exact .inr (.inl ⟨x, rfl⟩)
      · rw [q] at hb ⊢
        have hm : y ∈ d := (List.mem_filter.1 (q ▸ List.mem_singleton.2 rfl : y ∈ d.filter (hasE e))).1
        have := badE_one hb
        exact .inr (.inr ⟨y, x, rfl, this.1, this.2.1, this.2.2, hs y hm⟩)
      · rw [q] at hb; cases hb
theorem okL_good {n np : Int} : ∀ (l d : List Link), Good n np d → okL n np d l → Good n np (d ++ l)
  | [], d, hd, _ => by rw [List.append_nil]; exact hd
  | x :: l, d, hd, h => by
    have := okL_good l (d ++ [x]) (good_snoc hd h.1 h.2.1 h.2.2.1 h.2.2.2.1 h.2.2.2.2.1) h.2.2.2.2.2
    rwa [List.append_assoc, List.singleton_append] at this
theorem check_good (l0 l1 : List ByteArray) (l2 : List (S31)) (l3 : List Link) (h : layout_Check.f l0 l1 l2 l3 = some 0) : Good ((l2.length : Int) - 1) ((l1.length : Int) - 1) l3 := by
  have := okL_good l3 [] ⟨fun x hx => by simp at hx, fun e => .inl rfl⟩ (linksS_ok _ _ l3 [] _ (fun _ => rfl) (check_parts l0 l1 l2 l3 h).2)
  simpa using this
def hopAt (e : Int × Int) (x : Link) : S43 := if lkA x = e then hopOf x.f2 x.f3 x else hopOf x.f0 x.f1 x
theorem hopsS_map (a b : Int) (l : List Link) : hopsS a b l = (l.filter (hasE (a, b))).map (hopAt (a, b)) := by
  induction l with
  | nil => rfl
  | cons x l ih =>
    have e : hopsS a b (x :: l) = hops1 a b x ++ hopsS a b l := rfl
    rw [e, ih, List.filter_cons]
    have hA : (a == x.f0 && b == x.f1) = true ↔ lkA x = (a, b) := by
      unfold lkA; simp only [Bool.and_eq_true, beq_iff_eq, Prod.mk.injEq]; constructor <;> rintro ⟨h1, h2⟩ <;> exact ⟨h1.symm, h2.symm⟩
    have hB : (a == x.f2 && b == x.f3) = true ↔ lkB x = (a, b) := by
      unfold lkB; simp only [Bool.and_eq_true, beq_iff_eq, Prod.mk.injEq]; constructor <;> rintro ⟨h1, h2⟩ <;> exact ⟨h1.symm, h2.symm⟩
    unfold hops1
    by_cases c1 : lkA x = (a, b)
    · rw [if_pos (hA.2 c1), if_pos (hasE_iff.2 (.inl c1)), List.map_cons]
      unfold hopAt; rw [if_pos c1]; rfl
    · rw [if_neg (fun h => c1 (hA.1 h))]
      by_cases c2 : lkB x = (a, b)
      · rw [if_pos (hB.2 c2), if_pos (hasE_iff.2 (.inr c2)), List.map_cons]
        conv => rhs; unfold hopAt
        rw [if_neg c1]; rfl
      · rw [if_neg (fun h => c2 (hB.1 h)), if_neg (by rw [hasE_iff]; rintro (h | h); exact c1 h; exact c2 h)]; rfl
/-- The other end. -/
def otherE (e : Int × Int) (x : Link) : Int × Int := if lkA x = e then lkB x else lkA x
theorem hopAt_eq (e : Int × Int) (x : Link) : hopAt e x = ⟨⟨(otherE e x).1, intoD (otherE e x).2⟩, x.f4, x.f5⟩ := by
  unfold hopAt otherE
  by_cases h : lkA x = e
  · rw [if_pos h, if_pos h]; rfl
  · rw [if_neg h, if_neg h]; rfl
theorem linkIn_parts {n np : Int} {x : Link} (h : linkIn n np x = true) : (0 ≤ x.f0 ∧ x.f0 ≤ n) ∧ (0 ≤ x.f2 ∧ x.f2 ≤ n) ∧ (0 ≤ x.f1 ∧ x.f1 ≤ 1) ∧ (0 ≤ x.f3 ∧ x.f3 ≤ 1) ∧ (-1 ≤ x.f4 ∧ x.f4 ≤ np) ∧ (0 ≤ x.f5 ∧ x.f5 ≤ 1) := by
  unfold linkIn at h
  simp only [Bool.and_eq_true, inB_iff] at h
  exact ⟨h.1, h.2.1, h.2.2.1, h.2.2.2.1, h.2.2.2.2.1, h.2.2.2.2.2.1⟩
theorem other_in {n np : Int} {x : Link} (h : linkIn n np x = true) (e : Int × Int) : (0 ≤ (otherE e x).1 ∧ (otherE e x).1 ≤ n) ∧ (0 ≤ (otherE e x).2 ∧ (otherE e x).2 ≤ 1) := by
  have := linkIn_parts h
  unfold otherE
  split
  · exact ⟨this.2.1, this.2.2.2.1⟩
  · exact ⟨this.1, this.2.2.1⟩
theorem intoD_inj {a b : Int} (ha : 0 ≤ a ∧ a ≤ 1) (hb : 0 ≤ b ∧ b ≤ 1) (h : intoD a = intoD b) : a = b := by
  unfold intoD at h
  split at h <;> split at h <;> omega
/-- Two links of one end with the same other end join the same ends. -/
theorem same_other {e : Int × Int} {x y : Link} (hx : hasE e x = true) (hy : hasE e y = true) (h : otherE e x = otherE e y) : sameJ x y = true := by
  have key : ∀ p q : Int × Int, p = q → p.1 = q.1 ∧ p.2 = q.2 := fun p q h => by rw [h]; exact ⟨rfl, rfl⟩
  unfold sameJ same1 same2
  simp only [Bool.or_eq_true, Bool.and_eq_true, beq_iff_eq]
  unfold otherE at h
  by_cases cx : lkA x = e
  · rw [if_pos cx] at h
    by_cases cy : lkA y = e
    · rw [if_pos cy] at h
      have h1 := key _ _ (cx.trans cy.symm)
      have h2 := key _ _ h
      exact .inl ⟨⟨h1.1.symm, h1.2.symm⟩, h2.1.symm, h2.2.symm⟩
    · rw [if_neg cy] at h
      have hy' := (hasE_iff.1 hy).resolve_left cy
      have h1 := key _ _ (cx.trans hy'.symm)
      have h2 := key _ _ h
      exact .inr ⟨⟨h2.1.symm, h2.2.symm⟩, h1.1.symm, h1.2.symm⟩
  · rw [if_neg cx] at h
    have hx' := (hasE_iff.1 hx).resolve_left cx
    by_cases cy : lkA y = e
    · rw [if_pos cy] at h
      have h1 := key _ _ (hx'.trans cy.symm)
      have h2 := key _ _ h
      exact .inr ⟨⟨h1.1.symm, h1.2.symm⟩, h2.1.symm, h2.2.symm⟩
    · rw [if_neg cy] at h
      have hy' := (hasE_iff.1 hy).resolve_left cy
      have h1 := key _ _ (hx'.trans hy'.symm)
      have h2 := key _ _ h
      exact .inl ⟨⟨h2.1.symm, h2.2.symm⟩, h1.1.symm, h1.2.symm⟩
/-- Hops answers. -/
theorem hops_some (l0 l1 : List ByteArray) (l2 : List (S31)) (l3 : List Link) (a b : Int) : (layout_Hops.f l0 l1 l2 l3 a b = some []) ∨ (layout_Has.f l0 l1 l2 l3 a b = some true ∧ layout_Check.f l0 l1 l2 l3 = some 0 ∧ layout_Hops.f l0 l1 l2 l3 a b = some (hopsS a (if b = 1 then 0 else 1) l3)) := by
  have hs : ∃ t, layout_Has.f l0 l1 l2 l3 a b = some t := by
    unfold layout_Has.f layout_Check.f
    have hw : ∃ t, layout_within.f a 0 (wrap64 ((l2.length : Int) - 1)) = some t := by unfold layout_within.f; split <;> exact ⟨_, rfl⟩
    obtain ⟨t, ht⟩ := hw
    rw [ht]
    simp only [Option.bind_some]
    split
    · split
      · exact ⟨_, rfl⟩
      · split
        · exact ⟨_, rfl⟩
        · exact ⟨_, rfl⟩
    · exact ⟨_, rfl⟩
  obtain ⟨t, ht⟩ := hs
  unfold layout_Hops.f
  rw [ht]
  cases t with
  | false => exact .inl rfl
  | true => exact .inr ⟨rfl, has_check _ _ _ _ _ _ ht, rfl⟩
theorem has_true (l0 l1 : List ByteArray) (l2 : List (S31)) (l3 : List Link) (a b : Int) (hc : layout_Check.f l0 l1 l2 l3 = some 0) (ha : 0 ≤ a ∧ a ≤ (l2.length : Int) - 1) (hl : l2.length ≤ 1000000) (hb : b = 0 ∨ b = 1) : layout_Has.f l0 l1 l2 l3 a b = some true := by
  have hw : layout_within.f a 0 (wrap64 ((l2.length : Int) - 1)) = some true := by
    have e : wrap64 ((l2.length : Int) - 1) = (l2.length : Int) - 1 := by unfold wrap64; omega
    unfold layout_within.f
    rw [e, if_pos ha.1, decide_eq_true ha.2]
  unfold layout_Has.f
  rw [hw]
  simp only [Option.bind_some]
  rw [if_pos trivial, hc]
  rcases hb with rfl | rfl
  · rw [if_pos rfl]; rfl
  · rw [if_neg (by decide), if_pos rfl]; rfl
end Go.Proofs.Ytkegdgdkfbmabaa.X
