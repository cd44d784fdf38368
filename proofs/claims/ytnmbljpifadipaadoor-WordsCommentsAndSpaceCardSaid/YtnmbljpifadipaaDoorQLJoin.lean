/- Join of the program and of the reference. -/
import Derived.Lib.Join
import Derived.Test.YtnmbljpifadipaaDoorQLLine
import Derived.Test.YtnmbljpifadipaaDoorX0
import Derived.Test.YtnmbljpifadipaaDoorX11
import Derived.Test.YtnmbljpifadipaaDoorX20
import Derived.Test.YtnmbljpifadipaaDoorQJoin
namespace Go.Proofs.YtnmbljpifadipaaDoor.Q
open Go Go.RowKit Go.Proofs.YtnmbljpifadipaaDoorW.PrintWords Go.Proofs.YtnmbljpifadipaaDoorW.PrintLast Go.Proofs.YtnmbljpifadipaaDoorW.PrintMore Go.Proofs.YtnmbljpifadipaaDoor.X
set_option linter.unusedVariables false
set_option linter.unusedSimpArgs false
/-- A word: some bytes, all of them graphic. -/
def okW (s : ByteArray) : Bool := decide (1 ≤ s.size) && s.data.toList.all grC
def okL (x : List ByteArray) : Bool := decide (1 ≤ x.length) && (decide (x.length ≤ 64) && x.all okW)
def lineB (x : List ByteArray) : List UInt8 := Lib.join (x.map (·.data.toList)) [32] ++ [10]
def goS : List (List ByteArray) → List UInt8 → List UInt8
  | [], out => out
  | x :: l, out => if okL x = true then goS l (out ++ lineB x) else []
/-- What Join answers. -/
def joinR (l : List (List ByteArray)) : ByteArray := ⟨(goS l []).toArray⟩
def totL (x : List ByteArray) : Nat := (x.map fun s => s.size + 1).sum + 1
def tot (l : List (List ByteArray)) : Nat := (l.map totL).sum
theorem join_len : ∀ (x : List ByteArray), (Lib.join (x.map (·.data.toList)) [32]).length + 1 ≤ totL x
  | [] => by simp [Lib.join, totL]
  | a :: r => by
    rw [List.map_cons, Lib.join_cons, List.length_append, Lib.joinTail_length]
    have h : Lib.lens (r.map (·.data.toList)) + r.length = (r.map fun s => s.size + 1).sum := by
      induction r with
      | nil => rfl
      | cons b r ih =>
        simp only [Lib.lens, List.map_cons, List.sum_cons, List.length_cons] at ih ⊢
        have := ba_size b
        omega
    unfold totL
    rw [List.map_cons, List.sum_cons, List.length_map]
    have := ba_size a
    simp only [List.length_cons, List.length_nil]
    omega
theorem lineB_len (x : List ByteArray) : (lineB x).length ≤ totL x := by
  have := join_len x
  unfold lineB
  rw [List.length_append]; simpa using this
/-! the program -/
theorem w_word_l0 (s : ByteArray) (hs : s.size ≤ 4611686018427387904) (m : Nat) : ∀ i : Nat, i + m = s.size → Ev (fun k => words_word.l0 k s (s.size : Int) (i : Int)) ((s.data.toList.drop i).all grC && decide (1 ≤ s.size)) := by
  induction m with
  | zero =>
    intro i hm
    rw [List.drop_eq_nil_of_le (by rw [ba_size]; omega)]
    refine Ev.step (fun k => by simp only [words_word.l0]; rw [if_neg (by omega)]) (evs ?_)
    rw [ba_toList]
    have := ba_size s
    cases h : s.data.toList with
    | nil => rw [h, List.length_nil] at this; rw [decide_eq_false (by omega)]; rfl
    | cons c l => rw [h, List.length_cons] at this; rw [decide_eq_true (by omega)]; rfl
  | succ m ih =>
    intro i hm
    obtain ⟨c, hd, hc⟩ := drop_cons (s := s) (i := i) (by omega)
    rw [hd, List.all_cons]
    refine Ev.step (fun k => by rw [words_word.l0]) (evp (by omega) (evp (by omega) (evp (by omega) ?_)))
    rw [hc, w_graphic, grI_c, w64 (by omega) (by omega)]
    refine ev1 rfl ?_
    cases hg : grC c with
    | true => exact evp rfl (ev_eq (ih (i + 1) (by omega)) (by simp))
    | false => exact evn (by decide) (evs (by simp))
theorem w_word (s : ByteArray) (hs : s.size ≤ 4611686018427387904) : Ev (fun k => words_word.f k s) (okW s) := by
  have := w_word_l0 s hs s.size 0 (by omega)
  unfold words_word.f okW
  exact ev_eq this (by rw [List.drop_zero, Bool.and_comm])
theorem w_wl : ∀ (x : List ByteArray), (∀ s ∈ x, s.size ≤ 4611686018427387904) → Ev (fun k => words_Join.wl k x) (x.all okW)
  | [], _ => Ev.congr (fun k => by simp only [words_Join.wl]; rfl) (evs rfl)
  | s :: x, h => by
    refine Ev.congr (fun k => by simp only [words_Join.wl]; rfl) (ev2 (w_word s (h s (List.mem_cons_self ..))) ?_)
    rw [List.all_cons]
    cases hs : okW s with
    | true => exact evp rfl (ev_eq (w_wl x fun t ht => h t (List.mem_cons_of_mem _ ht)) (by simp))
    | false => exact evn (by decide) (evs (by simp))
theorem tot_mem : ∀ (x : List ByteArray) (s : ByteArray), s ∈ x → s.size + 1 ≤ (x.map fun s => s.size + 1).sum
  | a :: x, s, h => by
    rw [List.map_cons, List.sum_cons]
    rcases List.mem_cons.1 h with rfl | h
    · omega
    · have := tot_mem x s h; omega
theorem w_join_go : ∀ (l : List (List ByteArray)) (out : ByteArray), out.size + tot l ≤ 1099511627776 → Ev (fun k => words_Join.go k l out) ⟨(goS l out.data.toList).toArray⟩
  | [], out, _ => Ev.congr (fun k => by simp only [words_Join.go]; rfl) (evs (ba_ext (by simp [goS])))
  | x :: l, out, h => by
    have ht : tot (x :: l) = totL x + tot l := by unfold tot; rw [List.map_cons, List.sum_cons]
    rw [ht] at h
    refine Ev.congr (fun k => by simp only [words_Join.go]; rfl) ?_
    unfold goS okL
    by_cases h0 : x.length = 0
    · exact evp h0 (evs (by simp [h0]))
    refine evn h0 ?_
    by_cases h64 : x.length > 64
    · exact evp h64 (evs (by rw [decide_eq_false (show ¬ x.length ≤ 64 by omega)]; simp))
    refine evn h64 ?_
    have hx : ∀ s ∈ x, s.size ≤ 4611686018427387904 := fun s hs => by have := tot_mem x s hs; unfold totL at h; omega
    refine ev2 (w_wl x hx) ?_
    rw [decide_eq_true (show 1 ≤ x.length by omega), decide_eq_true (show x.length ≤ 64 by omega)]
    cases hw : x.all okW with
    | false => exact evn (by decide) (evs (by simp))
    | true =>
      have hjs : (joinW x).size + 1 ≤ totL x := by
        have := join_len x
        rw [← ba_size]; unfold joinW; simpa using this
      refine evp rfl (evp (by omega) ?_)
      have hd : (out ++ (joinW x ++ ⟨#[10]⟩)).data.toList = out.data.toList ++ lineB x := by
        rw [ba_append, ba_append]
        unfold lineB joinW; simp
      have := w_join_go l (out ++ (joinW x ++ ⟨#[10]⟩)) (by rw [ByteArray.size_append, ByteArray.size_append]; have h10 : (⟨#[10]⟩ : ByteArray).size = 1 := rfl; omega)
      rw [hd] at this
      exact ev_eq this (by simp)
theorem w_join (l : List (List ByteArray)) (h : tot l ≤ 1099511627776) : Ev (fun k => words_Join.f k l) (joinR l) := by
  have := w_join_go l ⟨#[]⟩ (by show 0 + tot l ≤ _; omega)
  exact this
/-! the reference -/
theorem getD_mem {α : Type} {l : List α} {i : Nat} (h : i < l.length) (z : α) : l.getD i z = l[i] := by rw [List.getD_eq_getElem?_getD, List.getElem?_eq_getElem h]; rfl
def preJ (out : List UInt8) (x : List ByteArray) (j : Nat) : List UInt8 := out ++ Lib.join ((x.take j).map (·.data.toList)) [32]
theorem preJ_succ (out : List UInt8) (x : List ByteArray) (j : Nat) (s : ByteArray) (h : x[j]? = some s) : preJ out x (j + 1) = preJ out x j ++ (if j = 0 then [] else [32]) ++ s.data.toList := by
  unfold preJ
  cases x with
  | nil => simp at h
  | cons a r =>
    cases j with
    | zero =>
      simp at h; subst h
      simp [Lib.join_one, Lib.join_nil]
    | succ j =>
      simp at h
      rw [List.take_succ_cons, List.take_succ_cons, List.map_cons, List.map_cons, Lib.join_cons, Lib.join_cons, List.take_add_one, h]
      simp [Lib.joinTail, List.append_assoc]
theorem preJ_len (out : List UInt8) (x : List ByteArray) (j : Nat) : (preJ out x j).length ≤ out.length + totL x := by
  unfold preJ
  rw [List.length_append]
  have h1 := join_len (x.take j)
  have h2 : totL (x.take j) ≤ totL x := by
    unfold totL
    have : ∀ (x : List ByteArray) (j : Nat), ((x.take j).map fun s => s.size + 1).sum ≤ (x.map fun s => s.size + 1).sum := by
      intro x
      induction x with
      | nil => intro j; simp
      | cons a x ih =>
        intro j
        cases j with
        | zero => simp
        | succ j => rw [List.take_succ_cons, List.map_cons, List.map_cons, List.sum_cons, List.sum_cons]; have := ih j; omega
    have := this x j; omega
  omega
theorem all_drop {x : List ByteArray} {j : Nat} {s : ByteArray} (h : x[j]? = some s) : (x.drop j).all okW = (okW s && (x.drop (j + 1)).all okW) := by
  have hl : j < x.length := by
    rcases Nat.lt_or_ge j x.length with h' | h'
    · exact h'
    · rw [List.getElem?_eq_none h'] at h; cases h
  rw [List.drop_eq_getElem_cons hl, List.all_cons]
  rw [List.getElem?_eq_getElem hl] at h
  rw [Option.some.inj h]
theorem r_join_l2 (l : List (List ByteArray)) (i : Nat) (x : List ByteArray) (hi : l[i]? = some x) (j : Nat) (s : ByteArray) (hj : x[j]? = some s) (hs : s.size ≤ 4611686018427387904) (out : ByteArray) (ho : out.size + s.size + 1 ≤ 4611686018427387904) (hl : x.length ≤ 64) (r : ByteArray)
    (hrest : s.data.toList.all grC = true → ∀ o2 : ByteArray, o2.data.toList = out.data.toList ++ (if j = 0 then [] else [32]) ++ s.data.toList → Ev (fun k => railplanref1_Join.l1 k l o2 (i : Int) ((j + 1 : Nat) : Int)) r)
    (m : Nat) : ∀ b : Nat, b + m = s.size → (s.data.toList.take b).all grC = true → Ev (fun k => railplanref1_Join.l2 k l out (i : Int) (j : Int) (b : Int)) (if s.data.toList.all grC = true then r else ⟨#[]⟩) := by
  have hil : i < l.length := by
    rcases Nat.lt_or_ge i l.length with h' | h'
    · exact h'
    · rw [List.getElem?_eq_none h'] at hi; cases hi
  have hjl : j < x.length := by
    rcases Nat.lt_or_ge j x.length with h' | h'
    · exact h'
    · rw [List.getElem?_eq_none h'] at hj; cases hj
  have e1 : rd_L5 l (i : Int) = x := by
    unfold rd_L5
    rw [Int.toNat_natCast, List.getD_eq_getElem?_getD, hi]; rfl
  have e2 : rdOf ByteArray.empty x (j : Int) = s := by
    unfold rdOf
    rw [Int.toNat_natCast, List.getD_eq_getElem?_getD, hj]; rfl
  induction m with
  | zero =>
    intro b hb hall
    have hall' : s.data.toList.all grC = true := by
      rw [List.take_of_length_le (by rw [ba_size]; omega)] at hall; exact hall
    rw [if_pos hall']
    refine Ev.step (fun k => by rw [railplanref1_Join.l2, e1, e2]) (evp (by omega) (evp (by omega) (evp (by omega) (evp (by omega) (evn (by omega) ?_)))))
    rw [w64 (by omega) (by omega)]
    by_cases hj0 : (j : Int) > 0
    · refine evp hj0 (evp (by omega) (evp (by omega) ?_))
      refine hrest hall' _ ?_
      rw [ba_append, ba_append, if_neg (by omega)]
    · refine evn hj0 (evp (by omega) ?_)
      refine hrest hall' _ ?_
      rw [ba_append, if_pos (by omega)]; simp
  | succ m ih =>
    intro b hb hall
    obtain ⟨c, hd, hc⟩ := drop_cons (s := s) (i := b) (by omega)
    refine Ev.step (fun k => by rw [railplanref1_Join.l2, e1, e2]) (evp (by omega) (evp (by omega) (evp (by omega) (evp (by omega) (evp (by omega) (evp (by omega) ?_))))))
    rw [hc, r_plain, grI_c, w64 (by omega) (by omega)]
    refine ev1 rfl ?_
    have hcs : s.data.toList[b]? = some c := by
      have := congrArg (·[0]?) hd
      simpa using this
    cases hg : grC c with
    | true => exact evp rfl (ih (b + 1) (by omega) (by rw [List.take_add_one, hcs, List.all_append, hall]; simp [hg]))
    | false =>
      refine evn (by decide) (evs ?_)
      have : ¬ s.data.toList.all grC = true := by
        intro h
        have := List.all_eq_true.1 h c (List.mem_of_getElem? hcs)
        rw [hg] at this; cases this
      rw [if_neg this]
theorem r_join_l1 (l : List (List ByteArray)) (i : Nat) (x : List ByteArray) (hi : l[i]? = some x) (hx : ∀ s ∈ x, s.size ≤ 1099511627776) (hl : x.length ≤ 64) (out : List UInt8) (ho : out.length + totL x ≤ 1099511627776) (hil : i < 4611686018427387904) (r : ByteArray)
    (hrest : ∀ o2 : ByteArray, o2.data.toList = out ++ lineB x → Ev (fun k => railplanref1_Join.l0 k l o2 ((i + 1 : Nat) : Int)) r)
    (m : Nat) : ∀ (j : Nat) (o : ByteArray), j + m = x.length → o.data.toList = preJ out x j → Ev (fun k => railplanref1_Join.l1 k l o (i : Int) (j : Int)) (if (x.drop j).all okW = true then r else ⟨#[]⟩) := by
  have hill : i < l.length := by
    rcases Nat.lt_or_ge i l.length with h' | h'
    · exact h'
    · rw [List.getElem?_eq_none h'] at hi; cases hi
  have e1 : rd_L5 l (i : Int) = x := by
    unfold rd_L5
    rw [Int.toNat_natCast, List.getD_eq_getElem?_getD, hi]; rfl
  induction m with
  | zero =>
    intro j o hm hod
    have hsz : o.size ≤ 1099511627776 := by rw [← ba_size, hod]; exact Nat.le_trans (preJ_len out x j) ho
    rw [List.drop_eq_nil_of_le (by omega), List.all_nil, if_pos rfl]
    refine Ev.step (fun k => by rw [railplanref1_Join.l1, e1]) (evp (by omega) (evp (by omega) (evn (by omega) (evp (by omega) ?_))))
    rw [w64 (by omega) (by omega)]
    refine hrest _ ?_
    rw [ba_append, hod]
    unfold preJ lineB
    rw [List.take_of_length_le (by omega), List.append_assoc]
  | succ m ih =>
    intro j o hm hod
    have hsz : o.size ≤ 1099511627776 := by rw [← ba_size, hod]; exact Nat.le_trans (preJ_len out x j) ho
    have hj : x[j]? = some x[j] := List.getElem?_eq_getElem (by omega)
    have hmem : x[j] ∈ x := List.getElem_mem _
    generalize x[j] = s at hj hmem
    have hss := hx s hmem
    have e2 : rdOf ByteArray.empty x (j : Int) = s := by
      unfold rdOf
      rw [Int.toNat_natCast, List.getD_eq_getElem?_getD, hj]; rfl
    rw [all_drop hj]
    refine Ev.step (fun k => by rw [railplanref1_Join.l1, e1, e2]) (evp (by omega) (evp (by omega) (evp (by omega) (evp (by omega) ?_))))
    by_cases h1 : (s.size : Int) < 1
    · refine evp h1 (evs ?_)
      have : okW s = false := by unfold okW; rw [decide_eq_false (by omega)]; rfl
      rw [this]; simp
    · refine evn h1 ?_
      have h := r_join_l2 l i x hi j s hj (by omega) o (by omega) hl (if (x.drop (j + 1)).all okW = true then r else ⟨#[]⟩) (fun hall o2 ho2 => ih (j + 1) o2 (by omega) (by rw [ho2, hod, ← preJ_succ out x j s hj])) s.size 0 (by omega) rfl
      refine ev_eq h ?_
      unfold okW
      rw [decide_eq_true (show 1 ≤ s.size by omega)]
      cases s.data.toList.all grC <;> simp
theorem r_join_l0 (l : List (List ByteArray)) (hlen : l.length ≤ 1099511627776) (m : Nat) : ∀ (i : Nat) (o : ByteArray), i + m = l.length → o.size + tot (l.drop i) ≤ 1099511627776 → Ev (fun k => railplanref1_Join.l0 k l o (i : Int)) ⟨(goS (l.drop i) o.data.toList).toArray⟩ := by
  induction m with
  | zero =>
    intro i o hm ht
    rw [List.drop_eq_nil_of_le (by omega)]
    exact Ev.step (fun k => by rw [railplanref1_Join.l0]) (evn (by omega) (evs (ba_ext (by simp [goS]))))
  | succ m ih =>
    intro i o hm ht
    have hi : l[i]? = some l[i] := List.getElem?_eq_getElem (by omega)
    have hd : l.drop i = l[i] :: l.drop (i + 1) := List.drop_eq_getElem_cons (by omega)
    generalize l[i] = x at hi hd
    have e1 : rd_L5 l (i : Int) = x := by
      unfold rd_L5
      rw [Int.toNat_natCast, List.getD_eq_getElem?_getD, hi]; rfl
    have htt : tot (x :: l.drop (i + 1)) = totL x + tot (l.drop (i + 1)) := by unfold tot; rw [List.map_cons, List.sum_cons]
    rw [hd, htt] at ht
    rw [hd]
    unfold goS okL
    have hbad : ∀ o' : Bool, o' = true → Ev (fun k => railplanref1_Join.j1 k l o (i : Int) o') ⟨#[]⟩ := by
      intro o' h; subst h
      exact Ev.step (fun k => by simp only [railplanref1_Join.j1]; rfl) (evs rfl)
    refine Ev.step (fun k => by rw [railplanref1_Join.l0, e1]) (evp (by omega) (evp (by omega) ?_))
    by_cases h0 : (x.length : Int) < 1
    · exact evp h0 (ev_eq (hbad true rfl) (by rw [decide_eq_false (show ¬ 1 ≤ x.length by omega)]; simp))
    refine evn h0 ?_
    by_cases h64 : (x.length : Int) > 64
    · exact ev_eq (hbad _ (decide_eq_true h64)) (by rw [decide_eq_false (show ¬ x.length ≤ 64 by omega)]; simp)
    rw [decide_eq_false h64, decide_eq_true (show 1 ≤ x.length by omega), decide_eq_true (show x.length ≤ 64 by omega)]
    refine Ev.step (fun k => by simp only [railplanref1_Join.j1]; rw [if_neg (by decide)]) ?_
    have h := r_join_l1 l i x hi (fun s hs => by have := tot_mem x s hs; unfold totL at ht; omega) (by omega) o.data.toList (by rw [ba_size]; omega) (by omega) ⟨(goS (l.drop (i + 1)) (o.data.toList ++ lineB x)).toArray⟩ (fun o2 ho2 => by
      have hb := lineB_len x
      have h2 : o2.size = o.size + (lineB x).length := by rw [← ba_size, ho2, List.length_append, ba_size]
      have := ih (i + 1) o2 (by omega) (by omega)
      rw [ho2] at this
      exact this) x.length 0 o (by omega) (by simp [preJ, Lib.join_nil])
    refine ev_eq h ?_
    rw [List.drop_zero]
    cases x.all okW <;> simp
theorem r_join (l : List (List ByteArray)) (hlen : l.length ≤ 1099511627776) (h : tot l ≤ 1099511627776) : Ev (fun k => railplanref1_Join.f k l) (joinR l) := by
  have := r_join_l0 l hlen l.length 0 ⟨#[]⟩ (by omega) (by show 0 + tot (l.drop 0) ≤ _; rw [List.drop_zero]; omega)
  rw [List.drop_zero] at this
  exact this
theorem tot_len (l : List (List ByteArray)) : l.length ≤ tot l := by
  unfold tot
  induction l with
  | nil => simp
  | cons x l ih => rw [List.map_cons, List.sum_cons, List.length_cons]; unfold totL at *; omega
end Go.Proofs.YtnmbljpifadipaaDoor.Q
