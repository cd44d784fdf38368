/- The words of a joined text are the words that were joined. -/
import Derived.Test.YtnmbljpifadipaaDoorQLJoin
import Derived.Test.YtnmbljpifadipaaDoorQLLines
namespace Go.Proofs.YtnmbljpifadipaaDoor.Q
open Go Go.RowKit Go.Proofs.YtnmbljpifadipaaDoorW.PrintWords Go.Proofs.YtnmbljpifadipaaDoorW.PrintLast Go.Proofs.YtnmbljpifadipaaDoorW.PrintMore Go.Proofs.YtnmbljpifadipaaDoor.X
set_option linter.unusedVariables false
set_option linter.unusedSimpArgs false
theorem gr_bl {c : UInt8} (h : grC c = true) : blC c = false := by
  unfold grC at h; unfold blC
  simp at h; simp; omega
theorem gr_ne {c : UInt8} (h : grC c = true) : c ≠ 10 ∧ c ≠ 35 := by
  constructor <;> (rintro rfl; exact absurd h (by decide))
theorem toks_run : ∀ (g : List UInt8) (i k : Nat) (t rest : List UInt8), g.all grC = true → toks i (some (k, t)) (g ++ rest) = toks (i + g.length) (some (k, t ++ g)) rest
  | [], i, k, t, rest, _ => by simp
  | c :: g, i, k, t, rest, h => by
    rw [List.all_cons, Bool.and_eq_true] at h
    show toks i (some (k, t)) (c :: (g ++ rest)) = _
    rw [toks, if_neg (by rw [gr_bl h.1]; decide), if_pos h.1]
    rw [toks_run g (i + 1) k (t ++ [c]) rest h.2, List.append_assoc, List.length_cons, show i + 1 + g.length = i + (g.length + 1) by omega]; rfl
theorem toks_word (i : Nat) (g rest : List UInt8) (h : g.all grC = true) (hn : 1 ≤ g.length) : toks i none (g ++ rest) = toks (i + g.length) (some (i + 1, g)) rest := by
  cases g with
  | nil => simp at hn
  | cons c g =>
    rw [List.all_cons, Bool.and_eq_true] at h
    show toks i none (c :: (g ++ rest)) = _
    rw [toks, if_neg (by rw [gr_bl h.1]; decide), if_pos h.1]
    show toks (i + 1) (some (i + 1, [c])) (g ++ rest) = _
    rw [toks_run g (i + 1) (i + 1) [c] rest h.2, List.length_cons, show i + 1 + g.length = i + (g.length + 1) by omega]; rfl
theorem join_cons2 (a b : List UInt8) (r : List (List UInt8)) : Lib.join (a :: b :: r) [32] = a ++ 32 :: Lib.join (b :: r) [32] := by
  rw [Lib.join_cons, Lib.join_cons]
  simp [Lib.joinTail]
theorem toks_join : ∀ (x : List ByteArray) (i : Nat), 1 ≤ x.length → x.all okW = true → ∃ ts, toks i none (Lib.join (x.map (·.data.toList)) [32]) = some ts ∧ ts.map (·.2) = x.map (·.data.toList)
  | [], i, h, _ => by simp at h
  | [a], i, _, h => by
    simp only [List.all_cons, List.all_nil, Bool.and_true] at h
    unfold okW at h
    rw [Bool.and_eq_true] at h
    have h1 : 1 ≤ a.data.toList.length := by rw [ba_size]; exact of_decide_eq_true h.1
    refine ⟨[(i + 1, a.data.toList)], ?_, rfl⟩
    rw [List.map_cons, List.map_nil, Lib.join_one]
    have := toks_word i a.data.toList [] h.2 h1
    rw [List.append_nil] at this
    rw [this]; rfl
  | a :: b :: r, i, _, h => by
    rw [List.all_cons, Bool.and_eq_true] at h
    obtain ⟨ha, hr⟩ := h
    unfold okW at ha
    rw [Bool.and_eq_true] at ha
    have h1 : 1 ≤ a.data.toList.length := by rw [ba_size]; exact of_decide_eq_true ha.1
    obtain ⟨ts, h2, h3⟩ := toks_join (b :: r) (i + a.data.toList.length + 1) (by simp) hr
    refine ⟨(i + 1, a.data.toList) :: ts, ?_, by rw [List.map_cons, h3]; rfl⟩
    rw [List.map_cons, List.map_cons, join_cons2, toks_word i _ _ ha.2 h1, toks, if_pos (by decide)]
    have h2' := h2
    rw [List.map_cons] at h2'
    rw [h2']; rfl
theorem join_bytes : ∀ (x : List ByteArray), x.all okW = true → ∀ c ∈ Lib.join (x.map (·.data.toList)) [32], c ≠ 10 ∧ c ≠ 35
  | [], _, c, h => by simp [Lib.join_nil] at h
  | [a], h, c, hc => by
    simp only [List.all_cons, List.all_nil, Bool.and_true] at h
    unfold okW at h
    rw [Bool.and_eq_true] at h
    rw [List.map_cons, List.map_nil, Lib.join_one] at hc
    exact gr_ne (List.all_eq_true.1 h.2 c hc)
  | a :: b :: r, h, c, hc => by
    rw [List.all_cons, Bool.and_eq_true] at h
    obtain ⟨ha, hr⟩ := h
    unfold okW at ha
    rw [Bool.and_eq_true] at ha
    rw [List.map_cons, List.map_cons, join_cons2] at hc
    rcases List.mem_append.1 hc with hc | hc
    · exact gr_ne (List.all_eq_true.1 ha.2 c hc)
    · rcases List.mem_cons.1 hc with rfl | hc
      · decide
      · exact join_bytes (b :: r) hr c (by rw [List.map_cons]; exact hc)
theorem takeWhile_all : ∀ (l : List UInt8), (∀ c ∈ l, c ≠ 35) → l.takeWhile nh = l
  | [], _ => rfl
  | c :: l, h => by rw [List.takeWhile_cons_of_pos (nh_no (h c (List.mem_cons_self ..))), takeWhile_all l fun d hd => h d (List.mem_cons_of_mem _ hd)]
/-- A line's words, as they were. -/
def IsLine (num : Int) (y : List Wd) (x : List ByteArray) : Prop := y.length = x.length ∧ ∀ (j : Nat) s, x[j]? = some s → ∃ w, y[j]? = some w ∧ w.f0 = s ∧ w.f1 = num
theorem lnS_join (num : Int) (x : List ByteArray) (h : okL x = true) : ∃ y, lnS num (Lib.join (x.map (·.data.toList)) [32]) = (y, 0) ∧ IsLine num y x ∧ 1 ≤ y.length := by
  unfold okL at h
  rw [Bool.and_eq_true, Bool.and_eq_true] at h
  obtain ⟨h1, h2, h3⟩ := h
  have h1 := of_decide_eq_true h1
  have h2 := of_decide_eq_true h2
  obtain ⟨ts, ht, hm⟩ := toks_join x 0 h1 h3
  have hl : ts.length = x.length := by have := congrArg List.length hm; simpa using this
  refine ⟨ts.map (mkW num), ?_, ⟨by rw [List.length_map, hl], ?_⟩, by rw [List.length_map]; omega⟩
  · unfold lnS finL
    rw [takeWhile_all _ fun c hc => (join_bytes x h3 c hc).2, ht]
    simp only [List.nil_append, List.length_map]
    rw [if_neg (by omega)]
  · intro j s hj
    have hjm : (ts.map (·.2))[j]? = some s.data.toList := by rw [hm, List.getElem?_map, hj]; rfl
    rw [List.getElem?_map] at hjm
    cases hq : ts[j]? with
    | none => rw [hq] at hjm; cases hjm
    | some t =>
      rw [hq] at hjm
      have htt : t.2 = s.data.toList := Option.some.inj hjm
      refine ⟨mkW num t, by rw [List.getElem?_map, hq]; rfl, ?_, rfl⟩
      show (⟨t.2.toArray⟩ : ByteArray) = s
      apply ba_ext
      rw [htt]
theorem goS_acc : ∀ (l : List (List ByteArray)) (out : List UInt8), (∀ x ∈ l, okL x = true) → goS l out = out ++ (l.map lineB).flatten
  | [], out, _ => by simp [goS]
  | x :: l, out, h => by
    rw [goS, if_pos (h x (List.mem_cons_self ..)), goS_acc l _ fun y hy => h y (List.mem_cons_of_mem _ hy), List.map_cons, List.flatten_cons, List.append_assoc]
theorem flat_len : ∀ (l : List (List ByteArray)), ((l.map lineB).flatten).length ≤ tot l
  | [] => by simp [tot]
  | x :: l => by
    have h1 := lineB_len x
    have h2 := flat_len l
    have ht : tot (x :: l) = totL x + tot l := by unfold tot; rw [List.map_cons, List.sum_cons]
    rw [List.map_cons, List.flatten_cons, List.length_append, ht]; omega
theorem trip_go : ∀ (l : List (List ByteArray)) (num : Nat) (outs : List (List Wd)), (∀ x ∈ l, okL x = true) →
    ∃ q, linesS (num : Int) outs (segs ((l.map lineB).flatten)) = (outs ++ q, 0, 0) ∧ q.length = l.length ∧ ∀ (i : Nat) x, l[i]? = some x → ∃ y, q[i]? = some y ∧ IsLine ((num + i + 1 : Nat) : Int) y x
  | [], num, outs, _ => ⟨[], by simp [segs, linesS, lnS_nil], rfl, fun i x h => by simp at h⟩
  | x :: l, num, outs, h => by
    have hx := h x (List.mem_cons_self ..)
    have h3 : x.all okW = true := by unfold okL at hx; rw [Bool.and_eq_true, Bool.and_eq_true] at hx; exact hx.2.2
    obtain ⟨y, hy, hyl, hy1⟩ := lnS_join ((num + 1 : Nat) : Int) x hx
    obtain ⟨q, hq, hql, hqa⟩ := trip_go l (num + 1) (outs ++ [y]) fun z hz => h z (List.mem_cons_of_mem _ hz)
    refine ⟨y :: q, ?_, by simp [hql], ?_⟩
    · rw [List.map_cons, List.flatten_cons]
      have e : lineB x ++ (l.map lineB).flatten = Lib.join (x.map (·.data.toList)) [32] ++ 10 :: (l.map lineB).flatten := by unfold lineB; simp
      rw [e, segs_app _ _ fun c hc => (join_bytes x h3 c hc).1, linesS, show ((num : Int) + 1) = ((num + 1 : Nat) : Int) by omega, hy, if_pos rfl, if_neg (show ¬ y.length = 0 by omega), hq]
      simp
    · intro i z hz
      cases i with
      | zero =>
        simp at hz; subst hz
        exact ⟨y, rfl, hyl⟩
      | succ i =>
        obtain ⟨y2, h1, h2⟩ := hqa i z (by simpa using hz)
        refine ⟨y2, by simpa using h1, ?_⟩
        rw [show num + (i + 1) + 1 = num + 1 + i + 1 by omega]; exact h2
theorem trip (l : List (List ByteArray)) (h : ∀ x ∈ l, okL x = true) (ht : tot l ≤ 65536) :
    ∃ q, linesA (joinR l).data.toList = (q, 0, 0) ∧ q.length = l.length ∧ ∀ (i : Nat) x, l[i]? = some x → ∃ y, q[i]? = some y ∧ IsLine ((i + 1 : Nat) : Int) y x := by
  obtain ⟨q, h1, h2, h3⟩ := trip_go l 0 [] h
  refine ⟨q, ?_, h2, fun i x hx => by have := h3 i x hx; rwa [Nat.zero_add] at this⟩
  have hl := flat_len l
  unfold joinR linesA
  show (if (goS l []).length > 65536 then _ else linesS 0 [] (segs (goS l []))) = _
  rw [goS_acc l [] h, List.nil_append, if_neg (by omega)]
  exact h1
end Go.Proofs.YtnmbljpifadipaaDoor.Q
