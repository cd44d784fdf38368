/- A line of MaxWords words is accepted, one of more is rejected with its number. -/
import Derived.Test.YtnmbljpifadipaaDoorQLLines
import Derived.Test.YtnmbljpifadipaaDoorQLNames
import Derived.Test.YtnmbljpifadipaaDoorX0
import Derived.Test.YtnmbljpifadipaaDoorX10
import Derived.Test.YtnmbljpifadipaaDoorX16
import Derived.Test.YtnmbljpifadipaaDoorQLines
namespace Go.Proofs.YtnmbljpifadipaaDoor.Pure
set_option linter.unusedVariables false
set_option linter.unusedSimpArgs false
open Go Go.RowKit Go.Proofs.YtnmbljpifadipaaDoor.X Go.Proofs.YtnmbljpifadipaaDoorW.PrintWords Go.Proofs.YtnmbljpifadipaaDoorW.PrintLast
def nls (b : Nat) : List UInt8 := List.replicate b 10
def wsp : Nat → List UInt8
  | 0 => []
  | n + 1 => 119 :: 32 :: wsp n
theorem nls_succ (b : Nat) : nls (b + 1) = nls b ++ [10] := by unfold nls; rw [List.replicate_succ']
theorem wsp_succ (n : Nat) : wsp (n + 1) = wsp n ++ [119, 32] := by
  induction n with
  | zero => rfl
  | succ n ih => show 119 :: 32 :: wsp (n + 1) = 119 :: 32 :: (wsp n ++ [119, 32]); rw [ih]
theorem wsp_len (n : Nat) : (wsp n).length = 2 * n := by
  induction n with
  | zero => rfl
  | succ n ih => show (wsp n).length + 1 + 1 = _; omega
theorem wsp_no (n : Nat) : ∀ c ∈ wsp n, c ≠ 10 := by
  induction n with
  | zero => intro c h; cases h
  | succ n ih =>
    intro c h
    rcases List.mem_cons.1 h with rfl | h
    · decide
    rcases List.mem_cons.1 h with rfl | h
    · decide
    · exact ih c h
theorem wsp_nh (n : Nat) : (wsp n).takeWhile Q.nh = wsp n := by
  induction n with
  | zero => rfl
  | succ n ih =>
    show List.takeWhile Q.nh (119 :: 32 :: wsp n) = _
    rw [List.takeWhile_cons_of_pos (by decide), List.takeWhile_cons_of_pos (by decide), ih]; rfl
theorem wsp_toks (n : Nat) : ∀ i, ∃ ts, Q.toks i none (wsp n) = some ts ∧ ts.length = n := by
  induction n with
  | zero => intro i; exact ⟨[], rfl, rfl⟩
  | succ n ih =>
    intro i
    obtain ⟨ts, h1, h2⟩ := ih (i + 1 + 1)
    refine ⟨(i + 1, [119]) :: ts, ?_, by rw [List.length_cons, h2]⟩
    show Q.toks i none (119 :: 32 :: wsp n) = _
    have e0 : Q.blC 119 = false := by decide
    have e1 : Q.grC 119 = true := by decide
    have e2 : Q.blC 32 = true := by decide
    simp [Q.toks, e0, e1, e2, h1]
theorem wsp_lnS (n : Nat) (num : Int) : ∃ l : List Q.Wd, l.length = n ∧ Q.lnS num (wsp n) = if n > 64 then ([], 7) else (l, 0) := by
  obtain ⟨ts, h1, h2⟩ := wsp_toks n 0
  refine ⟨ts.map (Q.mkW num), by rw [List.length_map, h2], ?_⟩
  unfold Q.lnS Q.finL
  rw [wsp_nh, h1]
  simp only [List.nil_append, List.length_map, h2]
theorem linesS_nil (num : Int) (outs : List (List Q.Wd)) (ps : List (List UInt8)) : Q.linesS num outs ([] :: ps) = Q.linesS (num + 1) outs ps := by
  rw [Q.linesS, Q.lnS_nil]; rfl
theorem linesS_nls (b : Nat) : ∀ (num : Int) (outs : List (List Q.Wd)) (l : List UInt8), Q.linesS num outs (Q.segs (nls b ++ l)) = Q.linesS (num + b) outs (Q.segs l) := by
  induction b with
  | zero => intro num outs l; simp [nls]
  | succ b ih =>
    intro num outs l
    have h : nls (b + 1) ++ l = 10 :: (nls b ++ l) := rfl
    rw [h, Q.segs, if_pos rfl, linesS_nil, ih]
    congr 1; omega
theorem lines_big (b n : Nat) (hb : b ≤ 4) (hn : n ≤ 67) (h : n > 64) (r : List UInt8) (hr : r.length ≤ 100) : ∃ q : List (List Q.Wd), Q.linesA (nls b ++ wsp n ++ [10] ++ r) = (q, (1 : Int) + b, 7) := by
  refine ⟨[], ?_⟩
  unfold Q.linesA
  rw [if_neg (by simp [nls, wsp_len]; omega), List.append_assoc, List.append_assoc, linesS_nls]
  show Q.linesS _ _ (Q.segs (wsp n ++ 10 :: r)) = _
  rw [Q.segs_app _ _ (wsp_no n), Q.linesS]
  obtain ⟨l, h1, h2⟩ := wsp_lnS n ((0 : Int) + b + 1)
  rw [h2, if_pos h, if_neg (by decide)]
  congr 2; omega
theorem lines_small (b n : Nat) (hb : b ≤ 4) (h : ¬ n > 64) : ∃ q : List (List Q.Wd), Q.linesA (nls b ++ wsp n) = (q, 0, 0) ∧ ((n = 0 ∧ q = []) ∨ ∃ l, q = [l] ∧ l.length = n) := by
  unfold Q.linesA
  rw [if_neg (by simp [nls, wsp_len]; omega), linesS_nls, Q.segs_one _ (wsp_no n), Q.linesS]
  obtain ⟨l, h1, h2⟩ := wsp_lnS n ((0 : Int) + b + 1)
  rw [h2, if_neg h, if_pos rfl, Q.linesS]
  by_cases h0 : n = 0
  · refine ⟨[], ?_, .inl ⟨h0, rfl⟩⟩
    rw [if_pos (by show l.length = 0; omega)]
  · refine ⟨[l], ?_, .inr ⟨l, rfl, h1⟩⟩
    rw [if_neg (by show ¬ l.length = 0; omega)]; rfl
theorem last_step (n b : Nat) (hb : b ≤ 4) (hn : n ≤ 67) (a1 : Int) (ha : Int.tmod a1 5 = (b : Int)) (beh s : ByteArray) (hs : s.data.toList = nls b ++ wsp n) : Ev (fun k => railplanlaw3_WordsLimits.l1 k (n : Int) a1 beh s (n : Int)) true := by
  have hsz : s.size = b + 2 * n := by rw [← Q.ba_size, hs]; simp [nls, wsp_len]
  refine Ev.step (fun k => by simp only [railplanlaw3_WordsLimits.l1]; rw [if_neg (by omega), ha]) ?_
  by_cases h : (n : Int) > 64
  · have hm : mn (beh.size : Int) 100 = min (beh.size : Int) 100 := by unfold mn; split <;> omega
    rw [hm]
    have hxs : (beh.extract 0 (min (beh.size : Int) 100).toNat).size ≤ 100 := by rw [ByteArray.size_extract]; omega
    have h10 : (⟨#[10]⟩ : ByteArray).size = 1 := rfl
    refine Q.evp h (Q.evp (by omega) (Q.evp (by omega) (Q.evp (by omega) (Q.evp (by omega) ?_))))
    obtain ⟨q, hq⟩ := lines_big b n hb hn (by omega) (beh.extract 0 (min (beh.size : Int) 100).toNat).data.toList (by rw [Q.ba_size]; exact hxs)
    have hw := Q.w_lines ((s ++ (⟨#[10]⟩ : ByteArray)) ++ beh.extract 0 (min (beh.size : Int) 100).toNat)
    rw [Q.ba_append, Q.ba_append, hs] at hw
    have hw2 : Ev (fun k => words_Lines.f k ((s ++ (⟨#[10]⟩ : ByteArray)) ++ beh.extract 0 (min (beh.size : Int) 100).toNat)) (q, (1 : Int) + b, 7) := ev_eqq hw hq
    refine Q.ev2 hw2 (Q.ev2 Q.awake (Q.evp rfl (Q.evp rfl (Q.evs ?_))))
    rw [Q.w64 (x := (b : Int)) (by omega) (by omega), Q.w64 (by omega) (by omega)]; simp
  · obtain ⟨q, hq, hc⟩ := lines_small b n hb (by omega)
    have hw := Q.w_lines s
    rw [hs] at hw
    have hw2 : Ev (fun k => words_Lines.f k s) (q, 0, 0) := ev_eqq hw hq
    refine Q.evn h (Q.ev2 hw2 (Q.ev2 Q.awake (Q.evp rfl (Q.evp rfl (Q.evp rfl ?_)))))
    rcases hc with ⟨rfl, rfl⟩ | ⟨l, rfl, hl⟩
    · exact Q.evp rfl (Q.evp rfl (Q.evs rfl))
    · have hfin : Ev (fun k => if (([l] : List (List Q.Wd)).length : Int) = 1 then (if 0 < (([l] : List (List Q.Wd)).length : Int) then some (((rd_L3 [l] 0).length : Int) == (n : Int)) else none) else some false) true := by
        refine Q.evp rfl (Q.evp (by simp) (Q.evs ?_))
        show ((l.length : Int) == (n : Int)) = true
        rw [hl]; simp
      by_cases h0 : (n : Int) = 0
      · exact Q.evp h0 (Q.evn (by simp) hfin)
      · exact Q.evn h0 hfin
where
  ev_eqq {α : Type} {g : Nat → Option α} {r r' : α} (h : Ev g r) (e : r = r') : Ev g r' := e ▸ h
theorem l1_run (n b : Nat) (hb : b ≤ 4) (hn : n ≤ 67) (a1 : Int) (ha : Int.tmod a1 5 = (b : Int)) (beh : ByteArray) (m : Nat) : ∀ (i : Nat) (s : ByteArray), i + m = n → s.data.toList = nls b ++ wsp i → Ev (fun k => railplanlaw3_WordsLimits.l1 k (n : Int) a1 beh s (i : Int)) true := by
  induction m with
  | zero =>
    intro i s hi hs
    obtain rfl : i = n := by omega
    exact last_step i b hb hn a1 ha beh s hs
  | succ m ih =>
    intro i s hi hs
    have hsz : s.size = b + 2 * i := by rw [← Q.ba_size, hs]; simp [nls, wsp_len]
    refine Ev.step (fun k => by simp only [railplanlaw3_WordsLimits.l1]; rw [if_pos (by omega), if_pos (by omega), Q.w64 (by omega) (by omega)]) ?_
    exact ih (i + 1) _ (by omega) (by rw [Q.ba_append, hs, wsp_succ, List.append_assoc])
theorem l0_run (n b : Nat) (hb : b ≤ 4) (hn : n ≤ 67) (a1 : Int) (ha : Int.tmod a1 5 = (b : Int)) (beh : ByteArray) (m : Nat) : ∀ (i : Nat) (s : ByteArray), i + m = b → s.data.toList = nls i → Ev (fun k => railplanlaw3_WordsLimits.l0 k (n : Int) a1 beh s (i : Int)) true := by
  induction m with
  | zero =>
    intro i s hi hs
    obtain rfl : i = b := by omega
    refine Ev.step (fun k => by simp only [railplanlaw3_WordsLimits.l0]; rw [ha, Q.w64 (by omega) (by omega), if_neg (by omega)]) ?_
    exact l1_run n i hb hn a1 ha beh n 0 s (by omega) (by rw [hs]; simp [wsp])
  | succ m ih =>
    intro i s hi hs
    have hsz : s.size = i := by rw [← Q.ba_size, hs]; simp [nls]
    refine Ev.step (fun k => by simp only [railplanlaw3_WordsLimits.l0]; rw [ha, Q.w64 (x := (b : Int)) (by omega) (by omega), if_pos (by omega), if_pos (by omega), Q.w64 (by omega) (by omega)]) ?_
    exact ih (i + 1) _ (by omega) (by rw [Q.ba_append, hs, nls_succ])
theorem WordsLimits : railplanlaw3_WordsLimits.Pure := by
  intro a b s ha hb hs
  have hb' : 0 ≤ b ∧ b ≤ 255 := by simpa [Lit.wf, show IntKind.u8.min = 0 from rfl, show IntKind.u8.max = 255 from rfl] using hb
  refine Ev.rounds ?_
  unfold railplanlaw3_WordsLimits.f
  obtain ⟨t, ht, h0, h1⟩ : ∃ t : Int, railplankeep_Pick.f a 68 = some t ∧ 0 ≤ t ∧ t < 68 := by
    have e : IntKind.u64.wrap (68 : Int) = 68 := by decide
    have hw : 0 ≤ IntKind.u64.wrap a := by rw [IntKind.wrap_u64]; omega
    unfold railplankeep_Pick.f
    rw [e, if_neg (by decide), Int.tmod_eq_emod_of_nonneg hw, Q.w64 (by omega) (by omega)]
    exact ⟨_, rfl, by omega, by omega⟩
  refine Q.ev1 ht ?_
  have := l0_run t.toNat (b % 5).toNat (by omega) (by omega) b (by rw [Int.tmod_eq_emod_of_nonneg hb'.1]; omega) s (b % 5).toNat 0 ⟨#[]⟩ (by omega) rfl
  rw [Int.toNat_of_nonneg h0] at this
  exact this
end Go.Proofs.YtnmbljpifadipaaDoor.Pure
