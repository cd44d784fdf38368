/- The plain law of the store, fourth part: Append, Get and Latest, and what the statements make. -/
import Derived.Test.YtolckgeffmaakaaQBase
import Derived.Test.YtolckgeffmaakaaQStore1
import Derived.Test.YtolckgeffmaakaaQStore2
import Derived.Test.YtolckgeffmaakaaQStore3
import Derived.Test.YtolckgeffmaakaaX0
import Derived.Test.YtolckgeffmaakaaX3
import Derived.Test.YtolckgeffmaakaaX5
import Derived.Test.YtolckgeffmaakaaX7
import Derived.Test.YtolckgeffmaakaaX9
import Derived.Test.YtolckgeffmaakaaX10
import Derived.Test.YtolckgeffmaakaaX11
namespace Go.Proofs.Ytolckgeffmaakaa.Q
open Go.RowKit Go.Proofs.YtolckgeffmaakaaW.PrintWords Go.Proofs.YtolckgeffmaakaaW.PrintLast Go.Proofs.YtolckgeffmaakaaW.PrintMore Go.Proofs.Ytolckgeffmaakaa.X

def app (f : ByteArray) (n : Int) (t : ByteArray) : ByteArray × Int :=
  if (enc n t).2 ≠ 0 then (⟨#[]⟩, (enc n t).2) else
  if okN (scan f).1 n = false then (⟨#[]⟩, 20) else
  if (scan f).1.length = 64 ∨ (scan f).2 + ((enc n t).1.size : Int) > 1048576 then (⟨#[]⟩, 7) else (f.extract 0 (scan f).2.toNat ++ (enc n t).1, 0)
theorem enc_cases (n : Int) (t : ByteArray) : (enc n t).2 ≠ 0 ∨ (enc n t = (rec n t, 0) ∧ t.size ≤ 65536 ∧ 1 ≤ n ∧ n ≤ 2147483647) := by
  by_cases h : n < 1 ∨ n > 2147483647
  · left; rw [enc_bad h]; decide
  · by_cases h6 : t.size > 65536
    · left; rw [enc_long h h6]; decide
    · right; exact ⟨enc_good h h6, by omega, by omega, by omega⟩
theorem app_err {f : ByteArray} {n : Int} {t : ByteArray} (h : (enc n t).2 ≠ 0) : app f n t = (⟨#[]⟩, (enc n t).2) := by unfold app; rw [if_pos h]
theorem app_old {f : ByteArray} {n : Int} {t : ByteArray} (h : ¬ (enc n t).2 ≠ 0) (h2 : okN (scan f).1 n = false) : app f n t = (⟨#[]⟩, 20) := by unfold app; rw [if_neg h, if_pos h2]
theorem app_full {f : ByteArray} {n : Int} {t : ByteArray} (h : ¬ (enc n t).2 ≠ 0) (h2 : ¬ okN (scan f).1 n = false) (h3 : (scan f).1.length = 64 ∨ (scan f).2 + ((enc n t).1.size : Int) > 1048576) : app f n t = (⟨#[]⟩, 7) := by
  unfold app; rw [if_neg h, if_neg h2, if_pos h3]
theorem app_fine {f : ByteArray} {n : Int} {t : ByteArray} (h : ¬ (enc n t).2 ≠ 0) (h2 : ¬ okN (scan f).1 n = false) (h3 : ¬ ((scan f).1.length = 64 ∨ (scan f).2 + ((enc n t).1.size : Int) > 1048576)) : app f n t = (f.extract 0 (scan f).2.toNat ++ (enc n t).1, 0) := by
  unfold app; rw [if_neg h, if_neg h2, if_neg h3]
theorem scan_len (s : ByteArray) : (scan s).1.length ≤ 64 := by obtain ⟨L, n, h, _, hl, _⟩ := scan_found s; rw [h]; exact hl

theorem append_ev (f : ByteArray) (n : Int) (t : ByteArray) (hf : f.size ≤ 4611686018427387000) (ht : t.size ≤ 4611686018427387000) : Ev (fun k => store_Append.f k f n t) (app f n t) := by
  unfold store_Append.f
  refine ev2 (encode_ev n t ht) ?_
  rcases enc_cases n t with h | ⟨h, h6, _, _⟩
  · rw [app_err h]; exact evn h (evs rfl)
  have he : ¬ (enc n t).2 ≠ 0 := by rw [h]; simp
  have hz : (enc n t).1.size = 16 + t.size := by rw [h]; exact rec_size _ _
  refine evp (by rw [h]) (ev2 (scan_ev f hf) ?_)
  have hl := scan_len f
  have hp := scan_le f
  rw [w64 (x := ((scan f).1.length : Int) - 1) (by omega) (by omega)]
  have fin : okN (scan f).1 n = true → Ev (fun k => store_Append.j0 k f (enc n t).1 (scan f).1 (scan f).2 false) (app f n t) := by
    intro ho
    refine Ev.step (fun k => by simp only [store_Append.j0]; rw [if_neg (by decide)]) ?_
    rw [w64 (x := (scan f).2 + ((enc n t).1.size : Int)) (by omega) (by omega)]
    by_cases h64 : (scan f).1.length = 64
    · rw [app_full he (by rw [ho]; decide) (.inl h64)]; exact evp (by omega) (evs rfl)
    by_cases hm : (scan f).2 + ((enc n t).1.size : Int) > 1048576
    · rw [app_full he (by rw [ho]; decide) (.inr hm)]; exact evn (by omega) (evp hm (evs rfl))
    rw [app_fine he (by rw [ho]; decide) (by omega)]
    refine evn (by omega) (evn hm (evp (by omega) (evp (by omega) (evp ?_ (evs rfl)))))
    rw [ByteArray.size_extract]; omega
  by_cases h0 : (scan f).1.length = 0
  · exact evn (by omega) (fin (by simp [okN, h0]))
  refine evp (by omega) (evp (by omega) (evp (by omega) ?_))
  by_cases hv : n ≤ lastN (scan f).1
  · have ho : okN (scan f).1 n = false := by simp [okN, h0]; omega
    rw [app_old he ho]
    refine Ev.step (f := fun _ => some ((⟨#[]⟩ : ByteArray), 20)) (fun k => ?_) (evs rfl)
    simp only [store_Append.j0]; rw [if_pos (decide_eq_true (show n ≤ (rd_T23 (scan f).1 ((scan f).1.length - 1)).f0 from hv))]
  · have ho : okN (scan f).1 n = true := by simp [okN, h0]; omega
    have : decide (n ≤ (rd_T23 (scan f).1 ((scan f).1.length - 1)).f0) = false := decide_eq_false hv
    rw [this]; exact fin ho

theorem refAppend_ev (f : ByteArray) (n : Int) (t : ByteArray) (hf : f.size ≤ 4611686018427387000) (ht : t.size ≤ 4611686018427387000) : Ev (fun k => railplanref41_Append.f k f n t) (app f n t) := by
  unfold railplanref41_Append.f
  refine ev2 (refEncode_ev n t ht) ?_
  rcases enc_cases n t with h | ⟨h, h6, _, _⟩
  · rw [app_err h]; exact evn h (evs rfl)
  have he : ¬ (enc n t).2 ≠ 0 := by rw [h]; simp
  have hz : (enc n t).1.size = 16 + t.size := by rw [h]; exact rec_size _ _
  refine evp (by rw [h]) (ev2 (refScan_ev f hf) ?_)
  have hl := scan_len f
  have hp := scan_le f
  rw [w64 (x := ((scan f).1.length : Int) - 1) (by omega) (by omega)]
  have fin : okN (scan f).1 n = true → Ev (fun k => railplanref41_Append.j0 k f (enc n t).1 (scan f).1 (scan f).2 false) (app f n t) := by
    intro ho
    refine Ev.step (fun k => by simp only [railplanref41_Append.j0]; rw [if_neg (by decide)]) ?_
    rw [w64 (x := (scan f).2 + ((enc n t).1.size : Int)) (by omega) (by omega)]
    by_cases h64 : (scan f).1.length = 64
    · rw [app_full he (by rw [ho]; decide) (.inl h64)]; exact evp (by omega) (evs rfl)
    by_cases hm : (scan f).2 + ((enc n t).1.size : Int) > 1048576
    · rw [app_full he (by rw [ho]; decide) (.inr hm)]; exact evn (by omega) (evp hm (evs rfl))
    rw [app_fine he (by rw [ho]; decide) (by omega)]
    refine evn (by omega) (evn hm (evp (by omega) (evp (by omega) (evp ?_ (evs rfl)))))
    rw [ByteArray.size_extract]; omega
  by_cases h0 : (scan f).1.length = 0
  · exact evn (by omega) (fin (by simp [okN, h0]))
  refine evp (by omega) (evp (by omega) (evp (by omega) ?_))
  by_cases hv : n ≤ lastN (scan f).1
  · have ho : okN (scan f).1 n = false := by simp [okN, h0]; omega
    rw [app_old he ho]
    refine Ev.step (f := fun _ => some ((⟨#[]⟩ : ByteArray), 20)) (fun k => ?_) (evs rfl)
    simp only [railplanref41_Append.j0]; rw [if_pos (decide_eq_true (show n ≤ (rd_T23 (scan f).1 ((scan f).1.length - 1)).f0 from hv))]
  · have ho : okN (scan f).1 n = true := by simp [okN, h0]; omega
    have : decide (n ≤ (rd_T23 (scan f).1 ((scan f).1.length - 1)).f0) = false := decide_eq_false hv
    rw [this]; exact fin ho

/-- A file that was put together, and one more version. -/
theorem app_cat {L : List S23} {n : Int} {t : ByteArray} (hg : good L) (hl : L.length < 64) (hz : (cat L).size + 65552 ≤ 1048576) :
    app (cat L) n t = if n < 1 ∨ n > 2147483647 then (⟨#[]⟩, 4) else if t.size > 65536 then (⟨#[]⟩, 7) else if okN L n = false then (⟨#[]⟩, 20) else (cat (L ++ [⟨n, t⟩]), 0) := by
  have hs := scan_cat0 L hg (by omega)
  split
  · rename_i h; rw [app_err (by rw [enc_bad h]; decide), enc_bad h]
  rename_i h
  split
  · rename_i h6; rw [app_err (by rw [enc_long h h6]; decide), enc_long h h6]
  rename_i h6
  have he : ¬ (enc n t).2 ≠ 0 := by rw [enc_good h h6]; simp
  split
  · rename_i ho; exact app_old he (by rw [hs]; exact ho)
  rename_i ho
  rw [app_fine he (by rw [hs]; exact ho) (by rw [hs, enc_good h h6]; simp only [rec_size]; omega), hs, enc_good h h6, cat_append]
  congr 1
  have : (cat L).extract 0 (((cat L).size : Int)).toNat = cat L := by
    apply ba_ext; rw [ba_extract, List.drop_zero, Nat.sub_zero, Int.toNat_natCast, List.take_of_length_le (by rw [ba_size]; omega)]
  simp only [this]
  show cat L ++ rec n t = cat L ++ (rec n t ++ ⟨#[]⟩)
  rw [app_empty]

def latV (L : List S23) : Int × ByteArray × Int := if L.length = 0 then (0, ⟨#[]⟩, 6) else ((rd_T23 L ((L.length : Int) - 1)).f0, (rd_T23 L ((L.length : Int) - 1)).f1, 0)
theorem latest_ev (s : ByteArray) (hs : s.size ≤ 4611686018427387000) : Ev (fun k => store_Latest.f k s) (latV (scan s).1) := by
  unfold store_Latest.f latV
  have hl := scan_len s
  refine ev2 (scan_ev s hs) ?_
  rw [w64 (x := ((scan s).1.length : Int) - 1) (by omega) (by omega)]
  by_cases h : (scan s).1.length = 0
  · rw [if_pos h]; exact evp (by omega) (evs rfl)
  · rw [if_neg h]; exact evn (by omega) (evp (by omega) (evp (by omega) (evs rfl)))
/-! what the statements make -/
theorem u64_wrap (n : Int) : IntKind.u64.wrap n = n % 18446744073709551616 := by simp [IntKind.wrap, IntKind.bits, IntKind.signed]
theorem pick_ev (v n : Int) (h0 : 0 < n) (h1 : n ≤ 4611686018427387904) : ∃ r, railplankeep_Pick.f v n = some r ∧ 0 ≤ r ∧ r < n := by
  have e : IntKind.u64.wrap n = n := by rw [u64_wrap]; omega
  have h2 := Int.emod_nonneg (IntKind.u64.wrap v) (show n ≠ 0 by omega)
  have h3 := Int.emod_lt_of_pos (IntKind.u64.wrap v) h0
  have h4 : 0 ≤ IntKind.u64.wrap v := by rw [u64_wrap]; omega
  refine ⟨IntKind.u64.wrap v % n, ?_, h2, h3⟩
  unfold railplankeep_Pick.f
  rw [e, if_neg (by omega), Int.tmod_eq_emod_of_nonneg h4, w64 (by omega) (by omega)]
theorem next_ev (l : List Int) (i n : Int) (hl : l.length ≤ 1152921504606846976) (hi : 0 ≤ i) (hi2 : i ≤ l.length) (h0 : 0 < n) (h1 : n ≤ 4611686018427387904) :
    ∃ r i', railplankeep_Source_Next.f l i n = some (r, i') ∧ 0 ≤ r ∧ r < n ∧ 0 ≤ i' ∧ i' ≤ l.length := by
  unfold railplankeep_Source_Next.f
  by_cases h : i ≥ (l.length : Int)
  · exact ⟨0, i, by rw [if_pos h], by omega, h0, hi, hi2⟩
  · rw [if_neg h, w64 (x := i + 1) (by omega) (by omega), w64 (x := i + 1 - 1) (by omega) (by omega), if_pos (by omega), if_pos (by omega)]
    obtain ⟨r, hr, a, b⟩ := pick_ev (rd l (i + 1 - 1)) n h0 h1
    exact ⟨r, i + 1, by rw [hr]; rfl, a, b, by omega, by omega⟩

theorem versions_l1 (src : List Int) (hs : src.length ≤ 1152921504606846976) (vs : List S23) (pt c num : Int) (P : List S23 → Prop) (hv : vs.length < 1000) (m : Nat) : ∀ (t : ByteArray) (i : Int), m ≤ 8 → t.size + m ≤ 8 → 0 ≤ i → i ≤ src.length →
    (∀ (t' : ByteArray) (i' : Int), t'.size ≤ 8 → 0 ≤ i' → i' ≤ src.length → ∃ r, Ev (fun k => railplanlaw41_versions.l0 k (vs ++ [⟨num, t'⟩]) pt (wrap64 (c - 1)) src i') r ∧ P r) →
    ∃ r, Ev (fun k => railplanlaw41_versions.l1 k vs pt c (m : Int) src i num t) r ∧ P r := by
  induction m with
  | zero =>
    intro t i _ ht hi hi2 H
    obtain ⟨r, h, hp⟩ := H t i (by omega) hi hi2
    refine ⟨r, Ev.step (fun k => ?_) h, hp⟩
    simp only [railplanlaw41_versions.l1]; rw [if_neg (by omega), if_pos (by omega)]
  | succ m ih =>
    intro t i hm ht hi hi2 H
    obtain ⟨b, i', hn, _, _, h3, h4⟩ := next_ev src i 256 hs hi hi2 (by omega) (by omega)
    have hz : (strOfNums ([b % 256] : List Int)).size = 1 := by rw [numsize]; rfl
    obtain ⟨r, h, hp⟩ := ih (t ++ strOfNums [b % 256]) i' (by omega) (by rw [ByteArray.size_append, hz]; omega) h3 h4 H
    refine ⟨r, Ev.step (f := fun k => railplanlaw41_versions.l1 k vs pt c (m : Int) src i' num (t ++ strOfNums [b % 256])) (fun k => ?_) h, hp⟩
    simp only [railplanlaw41_versions.l1]
    rw [if_pos (by omega), hn]
    simp only [Option.bind_some]
    rw [if_pos (by omega), w64 (by omega) (by omega), show ((m + 1 : Nat) : Int) - 1 = (m : Int) from by omega]
theorem versions_l0 (src : List Int) (hs : src.length ≤ 1152921504606846976) (m : Nat) : ∀ (vs : List S23) (pt i : Int), m ≤ 5 → vs.length + m ≤ 5 → 0 ≤ pt → pt + 3 * m ≤ 17 → 0 ≤ i → i ≤ src.length →
    (∀ x ∈ vs, 0 ≤ x.f0 ∧ x.f0 ≤ 17 ∧ x.f1.size ≤ 8) →
    ∃ r, Ev (fun k => railplanlaw41_versions.l0 k vs pt (m : Int) src i) r ∧ r.length ≤ 5 ∧ ∀ x ∈ r, 0 ≤ x.f0 ∧ x.f0 ≤ 17 ∧ x.f1.size ≤ 8 := by
  induction m with
  | zero =>
    intro vs pt i _ hv _ _ _ _ H
    refine ⟨vs, Ev.step (f := fun _ => some vs) (fun k => ?_) (evs rfl), by omega, H⟩
    simp only [railplanlaw41_versions.l0]; rw [if_neg (by omega)]
  | succ m ih =>
    intro vs pt i hm hv hp hp2 hi hi2 H
    obtain ⟨a, i1, e1, a0, a1, b0, b1⟩ := next_ev src i 4 hs hi hi2 (by omega) (by omega)
    obtain ⟨b, i2, e2, a2, a3, b2, b3⟩ := next_ev src i1 9 hs b0 b1 (by omega) (by omega)
    obtain ⟨j, rfl⟩ := Int.eq_ofNat_of_zero_le a2
    obtain ⟨r, h, hr⟩ := versions_l1 src hs vs (pt + a) ((m + 1 : Nat) : Int) (pt + a) (fun r => r.length ≤ 5 ∧ ∀ x ∈ r, 0 ≤ x.f0 ∧ x.f0 ≤ 17 ∧ x.f1.size ≤ 8) (by omega) j ⟨#[]⟩ i2 (by omega) (by show 0 + j ≤ 8; omega) b2 b3 (by
      intro t' i' ht hi' hi2'
      rw [w64 (by omega) (by omega), show ((m + 1 : Nat) : Int) - 1 = (m : Int) from by omega]
      refine ih (vs ++ [⟨pt + a, t'⟩]) (pt + a) i' (by omega) (by simp; omega) (by omega) (by omega) hi' hi2' ?_
      intro x hx
      rcases List.mem_append.1 hx with hx | hx
      · exact H x hx
      · rw [List.mem_singleton.1 hx]; exact ⟨by show 0 ≤ pt + a; omega, by show pt + a ≤ 17; omega, ht⟩)
    refine ⟨r, Ev.step (fun k => ?_) h, hr⟩
    simp only [railplanlaw41_versions.l0]
    rw [if_pos (by omega), e1]; simp only [Option.bind_some]
    rw [e2]; simp only [Option.bind_some]
    rw [w64 (by omega) (by omega)]
theorem versions_ev (l : List Int) (hl : l.length ≤ 1152921504606846976) : ∃ vs, Ev (fun k => railplanlaw41_versions.f k l) vs ∧ vs.length ≤ 5 ∧ ∀ x ∈ vs, 0 ≤ x.f0 ∧ x.f0 ≤ 17 ∧ x.f1.size ≤ 8 := by
  obtain ⟨a, i1, e1, a0, a1, b0, b1⟩ := next_ev l 0 3 hl (by omega) (by omega) (by omega) (by omega)
  obtain ⟨b, i2, e2, a2, a3, b2, b3⟩ := next_ev l i1 6 hl b0 b1 (by omega) (by omega)
  obtain ⟨j, rfl⟩ := Int.eq_ofNat_of_zero_le a2
  obtain ⟨r, h, hr⟩ := versions_l0 l hl j [] a i2 (by omega) (by simp; omega) a0 (by omega) b2 b3 (by simp)
  exact ⟨r, ev1 (a := (l, 0)) rfl (ev1 e1 (ev1 e2 h)), hr⟩

theorem cat_size (b : Nat) (L : List S23) (h : ∀ x ∈ L, x.f1.size ≤ b) : (cat L).size ≤ (16 + b) * L.length := by
  induction L with
  | nil => exact Nat.le_refl 0
  | cons x L ih =>
    have h1 := h x (by simp); have h2 := ih fun y hy => h y (by simp [hy])
    show (rec x.f0 x.f1 ++ cat L).size ≤ (16 + b) * (L.length + 1)
    rw [ByteArray.size_append, rec_size, Nat.mul_succ]; omega
/-- Files that the statements make: a list of few small versions. -/
def small (L : List S23) : Prop := good L ∧ L.length ≤ 5 ∧ ∀ x ∈ L, x.f0 ≤ 17 ∧ x.f1.size ≤ 8
theorem small_size {L : List S23} (h : small L) : (cat L).size ≤ 120 := by
  have := cat_size 8 L (fun x hx => (h.2.2 x hx).2); have := h.2.1; omega
theorem file_l0 (vs : List S23) (hv : vs.length ≤ 5) (hx : ∀ x ∈ vs, 0 ≤ x.f0 ∧ x.f0 ≤ 17 ∧ x.f1.size ≤ 8) (d : Nat) : ∀ (L : List S23) (i : Nat), i + d = vs.length → small L → L.length ≤ i →
    ∃ L', Ev (fun k => railplanlaw41_file.l0 k (cat L) vs (vs.length : Int) (i : Int)) (cat L') ∧ small L' := by
  induction d with
  | zero =>
    intro L i hi hL _
    refine ⟨L, Ev.step (f := fun _ => some (cat L)) (fun k => ?_) (evs rfl), hL⟩
    simp only [railplanlaw41_file.l0]; rw [if_neg (by omega)]
  | succ d ih =>
    intro L i hi hL hLi
    have hz := small_size hL
    have hm : rd_T23 vs (i : Int) ∈ vs := by
      unfold rd_T23; rw [Int.toNat_natCast, List.getD_eq_getElem?_getD, List.getElem?_eq_getElem (by omega)]; exact List.getElem_mem _
    generalize hxv : rd_T23 vs (i : Int) = x at hm
    obtain ⟨x0, x1, x2⟩ := hx x hm
    have ha := app_cat (L := L) (n := x.f0) (t := x.f1) hL.1 (by omega) (by omega)
    have hev := refAppend_ev (cat L) x.f0 x.f1 (by omega) (by omega)
    have keep : (app (cat L) x.f0 x.f1).2 ≠ 0 → ∃ L', Ev (fun k => railplanlaw41_file.l0 k (cat L) vs (vs.length : Int) (i : Int)) (cat L') ∧ small L' := by
      intro hne
      obtain ⟨L', h, hs⟩ := ih L (i + 1) (by omega) hL (by omega)
      refine ⟨L', Ev.step (fun k => by simp only [railplanlaw41_file.l0]; rw [if_pos (by omega), if_pos (by omega), if_pos (by omega), hxv]) (ev2 hev (evn hne ?_)), hs⟩
      rw [w64 (by omega) (by omega)]; exact h
    by_cases h1 : x.f0 < 1 ∨ x.f0 > 2147483647
    · exact keep (by rw [ha, if_pos h1]; decide)
    by_cases ho : okN L x.f0 = false
    · exact keep (by rw [ha, if_neg h1, if_neg (by omega), if_pos ho]; decide)
    rw [if_neg h1, if_neg (by omega), if_neg ho] at ha
    have hb : (app (cat L) x.f0 x.f1).2 = 0 := by rw [ha]
    obtain ⟨L', h, hs⟩ := ih (L ++ [x]) (i + 1) (by omega) ⟨good_snoc.2 ⟨hL.1, ⟨by omega, by omega, by omega⟩, by simpa using ho⟩, by simp; omega, fun y hy => by
      rcases List.mem_append.1 hy with hy | hy
      · exact hL.2.2 y hy
      · rw [List.mem_singleton.1 hy]; exact ⟨x1, x2⟩⟩ (by simp; omega)
    refine ⟨L', Ev.step (fun k => by simp only [railplanlaw41_file.l0]; rw [if_pos (by omega), if_pos (by omega), if_pos (by omega), hxv]) (ev2 hev (evp hb ?_)), hs⟩
    rw [w64 (by omega) (by omega), ha]; exact h
theorem file_ev (vs : List S23) (hv : vs.length ≤ 5) (hx : ∀ x ∈ vs, 0 ≤ x.f0 ∧ x.f0 ≤ 17 ∧ x.f1.size ≤ 8) : ∃ L, Ev (fun k => railplanlaw41_file.f k vs) (cat L) ∧ small L := by
  unfold railplanlaw41_file.f
  exact file_l0 vs hv hx vs.length [] 0 (by omega) ⟨good_nil, by simp, by simp⟩ (by simp)
/-- The file of a list of choices. -/
theorem made_ev (l : List Int) (hl : l.length ≤ 1152921504606846976) : ∃ vs L, Ev (fun k => railplanlaw41_versions.f k l) vs ∧ Ev (fun k => railplanlaw41_file.f k vs) (cat L) ∧ small L := by
  obtain ⟨vs, h, hv, hx⟩ := versions_ev l hl
  obtain ⟨L, h2, hs⟩ := file_ev vs hv hx
  exact ⟨vs, L, h, h2, hs⟩
theorem damaged_ev (f : ByteArray) (a b c : Int) (hf : f.size ≤ 1152921504606846976) : ∃ g, railplanlaw41_damaged.f f a b c = some g ∧ g.size ≤ f.size + 1 := by
  unfold railplanlaw41_damaged.f
  have hz : ∀ v : Int, (strOfNums ([v] : List Int)).size = 1 := fun v => by rw [numsize]; rfl
  by_cases h0 : (f.size : Int) = 0
  · rw [if_pos h0]; exact ⟨_, rfl, by rw [hz]; omega⟩
  rw [if_neg h0]
  obtain ⟨p, hp, p0, p1⟩ := pick_ev b (f.size : Int) (by omega) (by omega)
  obtain ⟨q, hq, q0, q1⟩ := pick_ev a 3 (by omega) (by omega)
  rw [hp]; simp only [Option.bind_some]
  rw [hq]; simp only [Option.bind_some]
  have e1 : (f.extract 0 p.toNat).size = p.toNat := by rw [ByteArray.size_extract]; omega
  have e2 : (f.extract p.toNat f.size).size = f.size - p.toNat := by rw [ByteArray.size_extract]; omega
  have e3 : (f.extract (p + 1).toNat f.size).size = f.size - (p + 1).toNat := by rw [ByteArray.size_extract]; omega
  by_cases h1 : q = 0
  · rw [if_pos h1, if_pos p0, if_pos (by omega), w64 (x := p + 1) (by omega) (by omega)]
    rw [if_pos (by rw [e1, hz]; omega), if_pos (by omega), if_pos (by omega), if_pos (by rw [e1, hz, e3]; omega)]
    exact ⟨_, rfl, by rw [ByteArray.size_append, ByteArray.size_append, e1, hz, e3]; omega⟩
  rw [if_neg h1]
  by_cases h2 : q = 1
  · rw [if_pos h2, if_pos p0, if_pos (by omega)]
    exact ⟨_, rfl, by rw [e1]; omega⟩
  rw [if_neg h2, if_pos p0, if_pos (by omega), if_pos (by rw [e1, hz]; omega), if_pos (by rw [e1, hz, e2]; omega)]
  exact ⟨_, rfl, by rw [ByteArray.size_append, ByteArray.size_append, e1, hz, e2]; omega⟩
theorem same_l0 (l : List S23) (hl : l.length ≤ 4611686018427387904) (d : Nat) : ∀ i : Nat, i + d = l.length → Ev (fun k => api_Version.l0 k l l (l.length : Int) (i : Int)) true := by
  induction d with
  | zero =>
    intro i hi
    refine Ev.step (f := fun _ => some true) (fun k => ?_) (evs rfl)
    simp only [api_Version.l0]; rw [if_neg (by omega)]
  | succ d ih =>
    intro i hi
    refine Ev.step (fun k => ?_) (ih (i + 1) (by omega))
    simp only [api_Version.l0]
    rw [if_pos (by omega), if_pos (by omega), if_pos (by omega), if_pos (by omega), if_neg (by simp), w64 (by omega) (by omega)]; rfl
theorem same_ev (l : List S23) (hl : l.length ≤ 4611686018427387904) : Ev (fun k => api_Version.f k l l) true := by
  unfold api_Version.f
  exact evp rfl (same_l0 l hl l.length 0 (by omega))
theorem awake_ev : Ev (fun k => railplanlaw41_awake.f k) true := by
  have g0 : good [⟨1, ⟨#[]⟩⟩] := ⟨by intro x hx; rw [List.mem_singleton.1 hx]; exact ⟨by decide, by decide, by decide⟩, by simp⟩
  have a0 : app ⟨#[]⟩ 1 ⟨#[]⟩ = (cat [⟨1, ⟨#[]⟩⟩], 0) := by
    have h := app_cat (L := []) (n := 1) (t := ⟨#[]⟩) good_nil (by decide) (by show 0 + 65552 ≤ 1048576; omega)
    rw [if_neg (by decide), if_neg (by decide), if_neg (by decide)] at h; exact h
  have c0 : (cat [⟨1, ⟨#[]⟩⟩]).size ≤ 16 * 1 := cat_size 0 _ (by intro x hx; rw [List.mem_singleton.1 hx]; decide)
  have a1 : app (cat [⟨1, ⟨#[]⟩⟩]) 3 ⟨#[120]⟩ = (cat [⟨1, ⟨#[]⟩⟩, ⟨3, ⟨#[120]⟩⟩], 0) := by
    have h := app_cat (L := [⟨1, ⟨#[]⟩⟩]) (n := 3) (t := ⟨#[120]⟩) g0 (by decide) (Nat.le_trans (Nat.add_le_add_right c0 _) (by decide))
    rw [if_neg (by decide), if_neg (by decide), if_neg (by decide)] at h; exact h
  have g1 : good [⟨1, ⟨#[]⟩⟩, ⟨3, ⟨#[120]⟩⟩] := good_snoc (l := [⟨1, ⟨#[]⟩⟩]) (x := ⟨3, ⟨#[120]⟩⟩) |>.2 ⟨g0, ⟨by decide, by decide, by decide⟩, by decide⟩
  have c1 : (cat [⟨1, ⟨#[]⟩⟩, ⟨3, ⟨#[120]⟩⟩]).size ≤ 17 * 2 := cat_size 1 _ (by intro x hx; simp at hx; rcases hx with rfl | rfl <;> decide)
  have a2 : app (cat [⟨1, ⟨#[]⟩⟩, ⟨3, ⟨#[120]⟩⟩]) 2 ⟨#[]⟩ = (⟨#[]⟩, 20) := by
    have h := app_cat (L := [⟨1, ⟨#[]⟩⟩, ⟨3, ⟨#[120]⟩⟩]) (n := 2) (t := ⟨#[]⟩) g1 (by decide) (Nat.le_trans (Nat.add_le_add_right c1 _) (by decide))
    rw [if_neg (by decide), if_neg (by decide), if_pos (by decide)] at h; exact h
  have s1 := scan_cat0 _ g1 (by decide)
  have z0 : (⟨#[]⟩ : ByteArray).size ≤ 4611686018427387000 := by show 0 ≤ _; omega
  have z1 : (⟨#[120]⟩ : ByteArray).size ≤ 4611686018427387000 := by show 1 ≤ _; omega
  unfold railplanlaw41_awake.f
  refine ev2 (encode_ev 1 ⟨#[]⟩ z0) ?_
  have e0 : enc 1 ⟨#[]⟩ = (rec 1 ⟨#[]⟩, 0) := enc_good (by decide) (by decide)
  rw [e0]
  refine ev2 (append_ev _ 1 ⟨#[]⟩ z0 z0) ?_
  rw [a0]; dsimp only
  refine ev2 (append_ev _ 3 ⟨#[120]⟩ (by omega) z1) ?_
  rw [a1]; dsimp only
  refine ev2 (latest_ev _ (by omega)) ?_
  rw [s1]; dsimp only
  refine ev2 (append_ev _ 2 ⟨#[]⟩ (by omega) z0) ?_
  rw [a2]
  have r0 : (rec 1 ⟨#[]⟩).size = 16 := rec_size _ _
  have hh : ((rec 1 (⟨#[]⟩ : ByteArray)).extract 0 12).toList = ([80, 76, 65, 78, 0, 0, 0, 1, 0, 0, 0, 0] : List UInt8) := by
    rw [ba_toList, ba_extract, List.drop_zero]; unfold rec hd
    rw [ba_append, ba_append, ba_append, ba_append]
    rfl
  have hc : (cat [⟨1, ⟨#[]⟩⟩]).toList = (rec 1 (⟨#[]⟩ : ByteArray)).toList := by
    show (rec 1 ⟨#[]⟩ ++ ⟨#[]⟩ : ByteArray).toList = _; rw [app_empty]
  refine evp rfl (evp (by rw [r0]; rfl) (evp (by decide) (evp (by rw [r0]; decide) (evp hh (evp rfl (evp hc (evp rfl (evp rfl (evp ?_ (evs ?_))))))))))
  · simp only [latV]; rw [if_neg (by decide)]
    have : (⟨#[120]⟩ : ByteArray).toList = [120] := by rw [ba_toList]
    show ((3 : Int) == 3 && ((⟨#[120]⟩ : ByteArray).toList == [120])) = true
    rw [this]; rfl
  · rfl
end Go.Proofs.Ytolckgeffmaakaa.Q
