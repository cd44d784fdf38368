/- Comments, spaces and empty lines do not change the words. -/
import Derived.Test.YtnmbljpifadipaaDoorQLTrip
import Derived.Test.YtnmbljpifadipaaDoorQLNames
import Derived.Test.YtnmbljpifadipaaDoorQRangeStr
import Derived.Test.YtnmbljpifadipaaDoorX0
import Derived.Test.YtnmbljpifadipaaDoorX17
import Derived.Test.YtnmbljpifadipaaDoorQLines
namespace Go.Proofs.YtnmbljpifadipaaDoor.Pure
set_option linter.unusedVariables false
set_option linter.unusedSimpArgs false
open Go Go.RowKit Go.Proofs.YtnmbljpifadipaaDoor.X Go.Proofs.YtnmbljpifadipaaDoorW.PrintWords Go.Proofs.YtnmbljpifadipaaDoorW.PrintLast
theorem cut_ok (k : Nat) : ∀ (a : ByteArray) (pos : Nat) (y : ByteArray), y.size ≤ pos → y.size ≤ 50 → (∀ c ∈ y.data.toList, c ≠ 10) → (cutC.l0 k a pos y).size ≤ 50 ∧ ∀ c ∈ (cutC.l0 k a pos y).data.toList, c ≠ 10 := by
  induction k with
  | zero => intro a pos y _ h50 h; exact ⟨h50, h⟩
  | succ k ih =>
    intro a pos y hp h50 h
    simp only [cutC.l0]
    by_cases hlt : pos < a.size
    · rw [if_pos hlt]
      have hw := cutC_width a pos hlt
      by_cases h5 : pos < 50
      · rw [if_pos h5]
        by_cases h10 : bt a (pos : Int) = 10
        · rw [if_pos h10]; exact ih a _ y (by omega) h50 h
        · rw [if_neg h10]
          have hs1 : (a.extract pos (pos + 1)).size = 1 := by rw [ByteArray.size_extract]; omega
          refine ih a _ _ (by rw [ByteArray.size_append, hs1]; omega) (by rw [ByteArray.size_append, hs1]; omega) ?_
          intro c hc
          rw [Q.ba_append] at hc
          rcases List.mem_append.1 hc with hc | hc
          · exact h c hc
          · obtain ⟨d, hd, hdb⟩ := Q.drop_cons (s := a) (i := pos) hlt
            rw [Q.ext_one a pos d _ hd] at hc
            have : c = d := by simpa using hc
            subst this
            rintro rfl
            exact h10 hdb
      · rw [if_neg h5]; exact ih a _ y (by omega) h50 h
    · rw [if_neg hlt]; exact ⟨h50, h⟩
theorem cutC_ok (a : ByteArray) : (cutC a).size ≤ 50 ∧ ∀ c ∈ (cutC a).data.toList, c ≠ 10 := cut_ok _ a 0 ⟨#[]⟩ (Nat.le_refl _) (by decide) (fun c hc => by cases hc)
def four : List ByteArray := [(⟨#[97]⟩ : ByteArray), (⟨#[49, 50]⟩ : ByteArray), (⟨#[117, 112]⟩ : ByteArray), (⟨#[45]⟩ : ByteArray)]
theorem four_ok (j : Int) (h0 : 0 ≤ j) (h1 : j < 4) : Q.okW (rdOf ByteArray.empty four j) = true ∧ (rdOf ByteArray.empty four j).size ≤ 2 := by
  have h : ∀ n : Nat, n < 4 → Q.okW (rdOf ByteArray.empty four (n : Int)) = true ∧ (rdOf ByteArray.empty four (n : Int)).size ≤ 2 := by decide +kernel
  have := h j.toNat (by omega)
  rwa [Int.toNat_of_nonneg h0] at this
def tT (ws : List ByteArray) : List UInt8 := (ws.map fun w => w.data.toList ++ [10]).flatten
def uL (s : List UInt8) (w : ByteArray) : List UInt8 := 32 :: 9 :: (w.data.toList ++ 32 :: 32 :: 35 :: s)
def uU (s : List UInt8) (ws : List ByteArray) : List UInt8 := (ws.map fun w => uL s w ++ 10 :: [10]).flatten
theorem w_parts {w : ByteArray} (h : Q.okW w = true) : 1 ≤ w.data.toList.length ∧ w.data.toList.all Q.grC = true := by
  unfold Q.okW at h
  rw [Bool.and_eq_true] at h
  exact ⟨by rw [Q.ba_size]; exact of_decide_eq_true h.1, h.2⟩
theorem lnS_t (num : Int) (w : ByteArray) (h : Q.okW w = true) : Q.lnS num w.data.toList = ([Q.mkW num (1, w.data.toList)], 0) := by
  obtain ⟨h1, h2⟩ := w_parts h
  unfold Q.lnS Q.finL
  rw [Q.takeWhile_all _ fun c hc => (Q.gr_ne (List.all_eq_true.1 h2 c hc)).2]
  have := Q.toks_word 0 w.data.toList [] h2 h1
  rw [List.append_nil] at this
  rw [this]; rfl
theorem take_u (s : List UInt8) (w : ByteArray) (h : Q.okW w = true) : (uL s w).takeWhile Q.nh = 32 :: 9 :: (w.data.toList ++ [32, 32]) := by
  obtain ⟨h1, h2⟩ := w_parts h
  unfold uL
  rw [List.takeWhile_cons_of_pos (by decide), List.takeWhile_cons_of_pos (by decide)]
  have : ∀ g : List UInt8, g.all Q.grC = true → (g ++ 32 :: 32 :: 35 :: s).takeWhile Q.nh = g ++ [32, 32] := by
    intro g
    induction g with
    | nil =>
      intro _
      show List.takeWhile Q.nh (32 :: 32 :: 35 :: s) = [32, 32]
      rw [List.takeWhile_cons_of_pos (by decide), List.takeWhile_cons_of_pos (by decide), List.takeWhile_cons_of_neg (by decide)]
    | cons c g ih =>
      intro hg
      rw [List.all_cons, Bool.and_eq_true] at hg
      show List.takeWhile Q.nh (c :: (g ++ 32 :: 32 :: 35 :: s)) = _
      rw [List.takeWhile_cons_of_pos (Q.nh_no (Q.gr_ne hg.1).2), ih hg.2]; rfl
  rw [this _ h2]
theorem lnS_u (num : Int) (s : List UInt8) (w : ByteArray) (h : Q.okW w = true) : Q.lnS num (uL s w) = ([Q.mkW num (3, w.data.toList)], 0) := by
  obtain ⟨h1, h2⟩ := w_parts h
  unfold Q.lnS Q.finL
  rw [take_u s w h]
  have e : Q.toks 0 none (32 :: 9 :: (w.data.toList ++ [32, 32])) = some [(3, w.data.toList)] := by
    have hb : Q.blC 32 = true := by decide
    have hb9 : Q.blC 9 = true := by decide
    rw [Q.toks, if_pos hb, Q.toks, if_pos hb9, Q.toks_word (0 + 1 + 1) w.data.toList [32, 32] h2 h1, Q.toks, if_pos hb, Q.toks, if_pos hb]; rfl
  rw [e]; rfl
theorem lines_t : ∀ (ws : List ByteArray) (num : Nat) (outs : List (List Q.Wd)), (∀ w ∈ ws, Q.okW w = true) →
    ∃ q, Q.linesS (num : Int) outs (Q.segs (tT ws)) = (outs ++ q, 0, 0) ∧ q.length = ws.length ∧ ∀ (i : Nat) w, ws[i]? = some w → q[i]? = some [Q.mkW ((num + i + 1 : Nat) : Int) (1, w.data.toList)]
  | [], num, outs, _ => ⟨[], by simp [tT, Q.segs, Q.linesS, Q.lnS_nil], rfl, fun i x h => by simp at h⟩
  | w :: ws, num, outs, h => by
    have hw := h w (List.mem_cons_self ..)
    obtain ⟨h1, h2⟩ := w_parts hw
    obtain ⟨q, hq, hql, hqa⟩ := lines_t ws (num + 1) (outs ++ [[Q.mkW ((num + 1 : Nat) : Int) (1, w.data.toList)]]) fun z hz => h z (List.mem_cons_of_mem _ hz)
    refine ⟨[Q.mkW ((num + 1 : Nat) : Int) (1, w.data.toList)] :: q, ?_, by simp [hql], ?_⟩
    · have e : tT (w :: ws) = w.data.toList ++ 10 :: tT ws := by unfold tT; rw [List.map_cons, List.flatten_cons]; simp
      rw [e, Q.segs_app _ _ fun c hc => (Q.gr_ne (List.all_eq_true.1 h2 c hc)).1, Q.linesS, show ((num : Int) + 1) = ((num + 1 : Nat) : Int) by omega, lnS_t _ w hw, if_pos rfl, if_neg (by simp), hq]
      simp
    · intro i z hz
      cases i with
      | zero => simp at hz; subst hz; rfl
      | succ i =>
        have := hqa i z (by simpa using hz)
        rw [show num + (i + 1) + 1 = num + 1 + i + 1 by omega]
        simpa using this
theorem lines_u (s : List UInt8) (hs : ∀ c ∈ s, c ≠ 10) : ∀ (ws : List ByteArray) (num : Nat) (outs : List (List Q.Wd)), (∀ w ∈ ws, Q.okW w = true) →
    ∃ q, Q.linesS (num : Int) outs (Q.segs (uU s ws)) = (outs ++ q, 0, 0) ∧ q.length = ws.length ∧ ∀ (i : Nat) w, ws[i]? = some w → q[i]? = some [Q.mkW ((num + 2 * i + 1 : Nat) : Int) (3, w.data.toList)]
  | [], num, outs, _ => ⟨[], by simp [uU, Q.segs, Q.linesS, Q.lnS_nil], rfl, fun i x h => by simp at h⟩
  | w :: ws, num, outs, h => by
    have hw := h w (List.mem_cons_self ..)
    obtain ⟨h1, h2⟩ := w_parts hw
    obtain ⟨q, hq, hql, hqa⟩ := lines_u s hs ws (num + 2) (outs ++ [[Q.mkW ((num + 1 : Nat) : Int) (3, w.data.toList)]]) fun z hz => h z (List.mem_cons_of_mem _ hz)
    have hno : ∀ c ∈ uL s w, c ≠ 10 := by
      intro c hc
      unfold uL at hc
      simp only [List.mem_cons, List.mem_append] at hc
      rcases hc with rfl | rfl | hc | rfl | rfl | rfl | hc
      · decide
      · decide
      · exact (Q.gr_ne (List.all_eq_true.1 h2 c hc)).1
      · decide
      · decide
      · decide
      · exact hs c hc
    refine ⟨[Q.mkW ((num + 1 : Nat) : Int) (3, w.data.toList)] :: q, ?_, by simp [hql], ?_⟩
    · have e : uU s (w :: ws) = uL s w ++ 10 :: ([] ++ 10 :: uU s ws) := by unfold uU; rw [List.map_cons, List.flatten_cons]; simp
      rw [e, Q.segs_app _ _ hno, Q.segs_app [] _ (fun c hc => by cases hc), Q.linesS, show ((num : Int) + 1) = ((num + 1 : Nat) : Int) by omega, lnS_u _ s w hw, if_pos rfl, if_neg (by simp), Q.linesS, Q.lnS_nil, if_pos rfl, if_pos (show (([], 0) : List Q.Wd × Int).1.length = 0 from rfl), show (((num + 1 : Nat) : Int) + 1) = ((num + 2 : Nat) : Int) by omega, hq]
      simp
    · intro i z hz
      cases i with
      | zero => simp at hz; subst hz; rfl
      | succ i =>
        have := hqa i z (by simpa using hz)
        rw [show num + 2 * (i + 1) + 1 = num + 2 + 2 * i + 1 by omega]
        simpa using this
theorem tT_len : ∀ ws : List ByteArray, (∀ w ∈ ws, w.size ≤ 2) → (tT ws).length ≤ 3 * ws.length
  | [], _ => by simp [tT]
  | w :: ws, h => by
    have h1 := tT_len ws fun z hz => h z (List.mem_cons_of_mem _ hz)
    have h2 := h w (List.mem_cons_self ..)
    have e : tT (w :: ws) = w.data.toList ++ 10 :: tT ws := by unfold tT; rw [List.map_cons, List.flatten_cons]; simp
    rw [e, List.length_append, List.length_cons, List.length_cons, Q.ba_size]; omega
theorem uU_len (s : List UInt8) (hs : s.length ≤ 50) : ∀ ws : List ByteArray, (∀ w ∈ ws, w.size ≤ 2) → (uU s ws).length ≤ 60 * ws.length
  | [], _ => by simp [uU]
  | w :: ws, h => by
    have h1 := uU_len s hs ws fun z hz => h z (List.mem_cons_of_mem _ hz)
    have h2 := h w (List.mem_cons_self ..)
    have e : uU s (w :: ws) = uL s w ++ 10 :: 10 :: uU s ws := by unfold uU; rw [List.map_cons, List.flatten_cons]; simp
    rw [e, List.length_append]
    unfold uL
    simp only [List.length_cons, List.length_append]
    rw [Q.ba_size]; omega
theorem cmt_end (s : List UInt8) (hs : ∀ c ∈ s, c ≠ 10) (hl : s.length ≤ 50) (ws : List ByteArray) (hw : ∀ w ∈ ws, Q.okW w = true ∧ w.size ≤ 2) (hn : ws.length ≤ 30) (t u : ByteArray) (ht : t.data.toList = tT ws) (hu : u.data.toList = uU s ws) : Ev (fun k => railplanlaw3_WordsCommentsAndSpace.j1 k t u) true := by
  have l1 := tT_len ws fun w h => (hw w h).2
  have l2 := uU_len s hl ws fun w h => (hw w h).2
  obtain ⟨q, hq, hql, hqa⟩ := lines_t ws 0 [] fun w h => (hw w h).1
  obtain ⟨p, hp, hpl, hpa⟩ := lines_u s hs ws 0 [] fun w h => (hw w h).1
  have w1 := Q.w_lines t
  have w2 := Q.w_lines u
  rw [ht] at w1
  rw [hu] at w2
  unfold Q.linesA at w1 w2
  rw [if_neg (by omega)] at w1 w2
  have w1' : Ev (fun k => words_Lines.f k t) (q, 0, 0) := by have h : Q.linesS 0 [] (Q.segs (tT ws)) = (q, 0, 0) := hq; rw [h] at w1; exact w1
  have w2' : Ev (fun k => words_Lines.f k u) (p, 0, 0) := by have h : Q.linesS 0 [] (Q.segs (uU s ws)) = (p, 0, 0) := hp; rw [h] at w2; exact w2
  refine Ev.step (fun k => by simp only [railplanlaw3_WordsCommentsAndSpace.j1]; rfl) ?_
  refine Q.ev2 w1' (Q.ev2 w2' (Q.ev2 Q.awake (Q.evp rfl (Q.evp rfl (Q.evp rfl ?_)))))
  rw [show ((q.length : Int) != (p.length : Int)) = false by rw [hql, hpl]; simp]
  refine Ev.step (fun k => by simp only [railplanlaw3_WordsCommentsAndSpace.j2]; rw [if_neg (by decide)]) ?_
  have hrow : ∀ (m : Nat) (i : Nat), i + m = ws.length → Ev (fun k => railplanlaw3_WordsCommentsAndSpace.l1 k q p (q.length : Int) (i : Int)) true := by
    intro m
    induction m with
    | zero => intro i hm; exact Ev.step (fun k => by rw [railplanlaw3_WordsCommentsAndSpace.l1]) (Q.evn (by omega) (Q.evs rfl))
    | succ m ih =>
      intro i hm
      have hx : ws[i]? = some ws[i] := List.getElem?_eq_getElem (by omega)
      generalize ws[i] = w at hx
      have hqi := hqa i w hx
      have hpi := hpa i w hx
      have e1 : rd_L3 q (i : Int) = [Q.mkW ((0 + i + 1 : Nat) : Int) (1, w.data.toList)] := by unfold rd_L3; rw [Int.toNat_natCast, List.getD_eq_getElem?_getD, hqi]; rfl
      have e2 : rd_L3 p (i : Int) = [Q.mkW ((0 + 2 * i + 1 : Nat) : Int) (3, w.data.toList)] := by unfold rd_L3; rw [Int.toNat_natCast, List.getD_eq_getElem?_getD, hpi]; rfl
      refine Ev.step (fun k => by rw [railplanlaw3_WordsCommentsAndSpace.l1, e1, e2]; rfl) (Q.evp (by omega) (Q.evp (by omega) (Q.evp (by omega) (Q.evp (by simp) (Q.evp (by omega) (Q.evp (by simp) (Q.evp (by simp) (Q.evp (by simp) (Q.evp rfl (Q.evp ?_ (Q.evp rfl ?_)))))))))))
      · show (((0 + 2 * i + 1 : Nat) : Int)) = wrap64 (wrap64 (2 * (i : Int)) + 1)
        rw [Q.w64 (x := 2 * (i : Int)) (by omega) (by omega), Q.w64 (by omega) (by omega)]; omega
      · rw [Q.w64 (by omega) (by omega)]
        exact ih (i + 1) (by omega)
  exact hrow ws.length 0 (by omega)
theorem cmt_run (p : List Int) (hp : ∀ x ∈ p, 0 ≤ x ∧ x ≤ 255) (y : ByteArray) (hs : ∀ c ∈ y.data.toList, c ≠ 10) (hl : y.size ≤ 50) (d : Nat) : ∀ (ws : List ByteArray) (t u : ByteArray), ws.length + d = 30 → (∀ w ∈ ws, Q.okW w = true ∧ w.size ≤ 2) → t.data.toList = tT ws → u.data.toList = uU y.data.toList ws →
    Ev (fun k => railplanlaw3_WordsCommentsAndSpace.l0 k p y t u (ws.length : Int)) true := by
  have hyl := Q.ba_size y
  induction d with
  | zero =>
    intro ws t u hd hw ht hu
    have h := cmt_end y.data.toList hs (by omega) ws hw (by omega) t u ht hu
    refine Ev.step (fun k => by rw [railplanlaw3_WordsCommentsAndSpace.l0]) ?_
    by_cases c : (ws.length : Int) < (p.length : Int)
    · exact Q.evp c (Q.evn (by omega) h)
    · exact Q.evn c h
  | succ d ih =>
    intro ws t u hd hw ht hu
    refine Ev.step (fun k => by rw [railplanlaw3_WordsCommentsAndSpace.l0]) ?_
    by_cases c : (ws.length : Int) < (p.length : Int)
    · refine Q.evp c (Q.evp (by omega) (Q.ev1 rfl (Q.evp (by omega) ?_)))
      have hr : 0 ≤ rd p (ws.length : Int) ∧ rd p (ws.length : Int) ≤ 255 := by
        apply hp
        unfold rd
        rw [Int.toNat_natCast, List.getD_eq_getElem?_getD, List.getElem?_eq_getElem (by omega)]
        exact List.getElem_mem _
      generalize rd p (ws.length : Int) = v at hr ⊢
      have hv : 0 ≤ Int.tmod v 4 ∧ Int.tmod v 4 < 4 := by rw [Int.tmod_eq_emod_of_nonneg hr.1]; omega
      obtain ⟨h1, h2⟩ := four_ok _ hv.1 hv.2
      have e4 : rdOf ByteArray.empty [(⟨#[97]⟩ : ByteArray), (⟨#[49, 50]⟩ : ByteArray), (⟨#[117, 112]⟩ : ByteArray), (⟨#[45]⟩ : ByteArray)] (Int.tmod v 4) = rdOf ByteArray.empty four (Int.tmod v 4) := rfl
      rw [e4]
      generalize rdOf ByteArray.empty four (Int.tmod v 4) = w at h1 h2 ⊢
      have lt_ := tT_len ws fun w h => (hw w h).2
      have lu_ := uU_len y.data.toList (by omega) ws fun w h => (hw w h).2
      have ts := Q.ba_size t
      have us := Q.ba_size u
      rw [ht] at ts
      rw [hu] at us
      refine Q.evp hv.1 (Q.evp hv.2 (Q.evp (by omega) (Q.evp (by omega) (Q.evp (by omega) (Q.evp (by omega) (Q.evp (by omega) (Q.evp (by omega) (Q.evp (by omega) ?_))))))))
      rw [Q.w64 (by omega) (by omega)]
      have := ih (ws ++ [w]) (t ++ (w ++ (⟨#[10]⟩ : ByteArray))) (u ++ (((((⟨#[32, 9]⟩ : ByteArray) ++ w) ++ (⟨#[32, 32, 35]⟩ : ByteArray)) ++ y) ++ (⟨#[10, 10]⟩ : ByteArray))) (by simp; omega) (by
        intro z hz
        rcases List.mem_append.1 hz with hz | hz
        · exact hw z hz
        · rw [List.mem_singleton.1 hz]; exact ⟨h1, h2⟩) (by
        rw [Q.ba_append, Q.ba_append, ht]; unfold tT; simp) (by
        rw [Q.ba_append, Q.ba_append, Q.ba_append, Q.ba_append, Q.ba_append, hu]; unfold uU uL; simp)
      simpa using this
    · exact Q.evn c (cmt_end y.data.toList hs (by omega) ws hw (by omega) t u ht hu)
theorem WordsCommentsAndSpace : railplanlaw3_WordsCommentsAndSpace.Pure := by
  intro p a hp ha
  refine Ev.rounds ?_
  unfold railplanlaw3_WordsCommentsAndSpace.f
  obtain ⟨h1, h2⟩ := cutC_ok a
  exact cmt_run p (fun x hx => by have := hp.2.2 x hx; simpa [Lit.wf, show IntKind.u8.min = 0 from rfl, show IntKind.u8.max = 255 from rfl] using this) (cutC a) h2 h1 30 [] ⟨#[]⟩ ⟨#[]⟩ rfl (fun w hw => by cases hw) rfl rfl
end Go.Proofs.YtnmbljpifadipaaDoor.Pure
