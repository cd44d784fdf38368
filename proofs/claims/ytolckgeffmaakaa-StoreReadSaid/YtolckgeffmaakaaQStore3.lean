/- The plain law of the store, third part: what a scan finds, and what is scanned of a file that was put together. -/
import Derived.Test.YtolckgeffmaakaaQBase
import Derived.Test.YtolckgeffmaakaaQStore1
import Derived.Test.YtolckgeffmaakaaQStore2
import Derived.Test.YtolckgeffmaakaaX0
namespace Go.Proofs.Ytolckgeffmaakaa.Q
open Go.RowKit Go.Proofs.YtolckgeffmaakaaW.PrintWords Go.Proofs.YtolckgeffmaakaaW.PrintLast Go.Proofs.YtolckgeffmaakaaW.PrintMore Go.Proofs.Ytolckgeffmaakaa.X

theorem take_app (a b : ByteArray) : (a ++ b).extract 0 a.size = a := by
  apply ba_ext; rw [ba_extract, ba_append, List.drop_zero, Nat.sub_zero, ← ba_size, List.take_left]
theorem drop_app (a b : ByteArray) (n : Nat) (h : n = a.size + b.size) : (a ++ b).extract a.size n = b := by
  subst h; apply ba_ext; rw [ba_extract, ba_append]
  conv => lhs; rw [← ba_size a, List.drop_left]
  rw [List.take_of_length_le]; rw [ba_size]; omega
theorem ext_ext (s : ByteArray) (p q : Nat) (h : p + q ≤ s.size) : (s.extract p s.size).extract q (s.extract p s.size).size = s.extract (p + q) s.size := by
  apply ba_ext; rw [ba_extract, ba_extract, ba_extract, rest_size]
  rw [List.drop_take, List.drop_drop, List.take_take]
  congr 1; omega
theorem app_assoc (a b c : ByteArray) : a ++ b ++ c = a ++ (b ++ c) := by apply ba_ext; simp only [ba_append, List.append_assoc]

theorem rec_val8 (v : Int) (t rest : ByteArray) (ht : t.size ≤ 65536) : val4 (rec v t ++ rest) 8 = (t.size : Int) := by
  have hz := rec_size v t; have hh := hd_size v t; have f1 := four_size v; have f2 := four_size (t.size : Int); have f3 := four_size (crc (hd v t ++ t))
  have pz := plan_size
  have pf : (plan ++ four v).size = 8 := by rw [ByteArray.size_append]; omega
  rw [val4_left (by omega)]; unfold rec
  rw [val4_left (by rw [ByteArray.size_append]; omega), val4_left (by omega)]; unfold hd
  rw [val4_right (by omega), pf]
  exact val4_four (by omega) (by omega)
theorem rec_val4 (v : Int) (t rest : ByteArray) (h0 : 0 ≤ v) (h1 : v < 4294967296) : val4 (rec v t ++ rest) 4 = v := by
  have hz := rec_size v t; have hh := hd_size v t; have f1 := four_size v; have f2 := four_size (t.size : Int); have f3 := four_size (crc (hd v t ++ t))
  have pz := plan_size
  have pf : (plan ++ four v).size = 8 := by rw [ByteArray.size_append]; omega
  rw [val4_left (by omega)]; unfold rec
  rw [val4_left (by rw [ByteArray.size_append]; omega), val4_left (by omega)]; unfold hd
  rw [val4_left (by omega), val4_right (by omega), pz]
  exact val4_four h0 h1
theorem rec_text (v : Int) (t rest : ByteArray) : (rec v t ++ rest).extract 16 (16 + t.size) = t := by
  have hz := rec_size v t
  have hs : (hd v t ++ four (crc (hd v t ++ t))).size = 16 := by rw [ByteArray.size_append, hd_size, four_size]
  have e : rec v t ++ rest = (hd v t ++ four (crc (hd v t ++ t))) ++ (t ++ rest) := by unfold rec; exact app_assoc _ _ _
  rw [e]
  apply ba_ext; rw [ba_extract, ba_append]
  have : 16 = (hd v t ++ four (crc (hd v t ++ t))).data.toList.length := by rw [ba_size]; exact hs.symm
  rw [show 16 + t.size - 16 = t.size from by omega]
  conv => lhs; rw [this, List.drop_left]
  rw [ba_append, ← ba_size t, List.take_left]
theorem rd1_rec {v : Int} {t : ByteArray} (rest : ByteArray) (h0 : 1 ≤ v) (h1 : v ≤ 2147483647) (ht : t.size ≤ 65536) : rd1 (rec v t ++ rest) = some (v, t) := by
  have hz := rec_size v t
  have e8 := rec_val8 v t rest ht
  have e4 := rec_val4 v t rest (by omega) (by omega)
  have hs : (rec v t ++ rest).size = 16 + t.size + rest.size := by rw [ByteArray.size_append]; omega
  have en : (16 + val4 (rec v t ++ rest) 8).toNat = 16 + t.size := by omega
  have et : (rec v t ++ rest).extract 16 (16 + val4 (rec v t ++ rest) 8).toNat = t := by rw [en]; exact rec_text v t rest
  have ex : (rec v t ++ rest).extract 0 (16 + val4 (rec v t ++ rest) 8).toNat = rec v t := by rw [en, ← hz]; exact take_app _ _
  rw [rd1_c (by omega) (by omega) ⟨by omega, by omega, by rw [e4, et, ex]⟩, e4, et]

/-- What a record is made of. -/
def ok1 (x : S23) : Prop := 1 ≤ x.f0 ∧ x.f0 ≤ 2147483647 ∧ x.f1.size ≤ 65536
def cat : List S23 → ByteArray
  | [] => ⟨#[]⟩
  | x :: l => rec x.f0 x.f1 ++ cat l
/-- A list that may stand in a file. -/
def good (l : List S23) : Prop := (∀ x ∈ l, ok1 x) ∧ l.Pairwise (fun x y => x.f0 < y.f0)
theorem cat_append (a b : List S23) : cat (a ++ b) = cat a ++ cat b := by
  induction a with
  | nil => exact (ba_empty_append _).symm
  | cons x a ih => show rec x.f0 x.f1 ++ cat (a ++ b) = rec x.f0 x.f1 ++ cat a ++ cat b; rw [ih, app_assoc]
theorem lastN_snoc (l : List S23) (x : S23) : lastN (l ++ [x]) = x.f0 := by
  unfold lastN rd_T23
  have e : (((l ++ [x]).length : Int) - 1).toNat = l.length := by simp
  rw [e]; simp
theorem okN_iff {l : List S23} (hl : l.Pairwise (fun x y => x.f0 < y.f0)) (v : Int) : okN l v = true ↔ ∀ x ∈ l, x.f0 < v := by
  unfold okN
  rw [decide_eq_true_eq]
  rcases List.eq_nil_or_concat l with rfl | ⟨m, x, rfl⟩
  · simp
  · rw [List.concat_eq_append] at hl ⊢
    rw [lastN_snoc]
    rw [List.pairwise_append] at hl
    constructor
    · rintro (h | h)
      · simp at h
      · intro y hy
        rcases List.mem_append.1 hy with hy | hy
        · have := hl.2.2 y hy x (by simp); omega
        · rw [List.mem_singleton.1 hy]; exact h
    · intro h; right; exact h x (by simp)
theorem good_snoc {l : List S23} {x : S23} : good (l ++ [x]) ↔ good l ∧ ok1 x ∧ okN l x.f0 = true := by
  unfold good
  rw [List.pairwise_append]
  constructor
  · rintro ⟨h1, h2, _, h3⟩
    exact ⟨⟨fun y hy => h1 y (by simp [hy]), h2⟩, h1 x (by simp), (okN_iff h2 _).2 fun y hy => h3 y hy x (by simp)⟩
  · rintro ⟨⟨h1, h2⟩, h3, h4⟩
    refine ⟨fun y hy => ?_, h2, by simp, fun y hy z hz => ?_⟩
    · rcases List.mem_append.1 hy with hy | hy
      · exact h1 y hy
      · rw [List.mem_singleton.1 hy]; exact h3
    · rw [List.mem_singleton.1 hz]; exact (okN_iff h2 _).1 h4 y hy
theorem good_drop {l : List S23} (n : Nat) (h : good l) : good (l.drop n) :=
  ⟨fun x hx => h.1 x (List.mem_of_mem_drop hx), h.2.sublist (List.drop_sublist n l)⟩

/-- What a scan finds in a file that begins with records. -/
theorem scanN_cat (s rest : ByteArray) (L : List S23) : ∀ (d : Nat) (acc : List S23) (p : Nat), p ≤ s.size → s.extract p s.size = cat L ++ rest → good (acc ++ L) → L.length ≤ d →
    (L.length = d ∨ rd1 rest = none ∨ ∃ v t, rd1 rest = some (v, t) ∧ okN (acc ++ L) v = false) → scanN d s acc p = (acc ++ L, ((p + (cat L).size : Nat) : Int)) := by
  induction L with
  | nil =>
    intro d acc p hp he hg hd hstop
    have e1 : s.extract p s.size = rest := he.trans (ba_empty_append rest)
    rw [List.append_nil] at *
    cases d with
    | zero => rfl
    | succ d =>
      unfold scanN
      rw [e1]
      rcases hstop with h | h | ⟨v, t, h, ho⟩
      · simp at h
      · rw [h]; rfl
      · rw [h]; simp only [ho]; rfl
  | cons x L ih =>
    intro d acc p hp he hg hd hstop
    have e0 : acc ++ x :: L = acc ++ [x] ++ L := by simp
    have hgx : good (acc ++ [x]) := by
      rw [e0] at hg
      exact ⟨fun y hy => hg.1 y (List.mem_append_left _ hy), (List.pairwise_append.1 hg.2).1⟩
    obtain ⟨hga, hx, hok⟩ := good_snoc.1 hgx
    have he' : s.extract p s.size = rec x.f0 x.f1 ++ (cat L ++ rest) := he.trans (app_assoc _ _ _)
    have hsz : s.size - p = 16 + x.f1.size + (cat L ++ rest).size := by
      have := congrArg ByteArray.size he'
      rw [rest_size, ByteArray.size_append, rec_size] at this; omega
    cases d with
    | zero => simp at hd
    | succ d =>
      unfold scanN
      rw [he', rd1_rec _ hx.1 hx.2.1 hx.2.2]
      simp only [hok, if_true]
      have hn : s.extract (p + (16 + x.f1.size)) s.size = cat L ++ rest := by
        rw [← ext_ext s p (16 + x.f1.size) (by omega), he']
        have := drop_app (rec x.f0 x.f1) (cat L ++ rest) _ rfl
        rw [rec_size] at this
        rw [ByteArray.size_append, rec_size]; exact this
      rw [ih d (acc ++ [x]) (p + (16 + x.f1.size)) (by omega) hn (by rw [← e0]; exact hg) (by simpa using hd) (by
        rcases hstop with h | h | ⟨v, t, h, ho⟩
        · left; simpa using h
        · right; left; exact h
        · right; right; exact ⟨v, t, h, by rw [← e0]; exact ho⟩), ← e0]
      congr 1
      have : (cat (x :: L)).size = 16 + x.f1.size + (cat L).size := by show (rec x.f0 x.f1 ++ cat L).size = _; rw [ByteArray.size_append, rec_size]
      rw [this]; congr 1; omega
theorem scan_cat (L : List S23) (rest : ByteArray) (hg : good L) (hd : L.length ≤ 64) (hstop : L.length = 64 ∨ rd1 rest = none ∨ ∃ v t, rd1 rest = some (v, t) ∧ okN L v = false) :
    scan (cat L ++ rest) = (L, ((cat L).size : Int)) := by
  unfold scan
  have h := scanN_cat (cat L ++ rest) rest L 64 [] 0 (by omega) (by
    apply ba_ext; rw [ba_extract, List.drop_zero, Nat.sub_zero, List.take_of_length_le (by rw [ba_size]; omega)]) (by simpa using hg) hd (by simpa using hstop)
  rw [h]; simp
theorem rd1_empty : rd1 (⟨#[]⟩ : ByteArray) = none := rfl
theorem app_empty (s : ByteArray) : s ++ (⟨#[]⟩ : ByteArray) = s := ba_ext (by rw [ba_append]; simp)
theorem scan_cat0 (L : List S23) (hg : good L) (hd : L.length ≤ 64) : scan (cat L) = (L, ((cat L).size : Int)) := by
  have := scan_cat L ⟨#[]⟩ hg hd (.inr (.inl rd1_empty)); rwa [app_empty] at this

/-- What a scan has found. -/
theorem scanN_found (s : ByteArray) (d : Nat) : ∀ (acc : List S23) (p : Nat), p ≤ s.size → good acc →
    ∃ (M : List S23) (n : Nat), scanN d s acc p = (acc ++ M, (n : Int)) ∧ p ≤ n ∧ n ≤ s.size ∧ M.length ≤ d ∧ good (acc ++ M) ∧ s.extract p n = cat M ∧ n = p + (cat M).size ∧
      (M.length = d ∨ rd1 (s.extract n s.size) = none ∨ ∃ v t, rd1 (s.extract n s.size) = some (v, t) ∧ okN (acc ++ M) v = false) := by
  induction d with
  | zero =>
    intro acc p hp hg
    refine ⟨[], p, by rw [List.append_nil]; rfl, Nat.le_refl _, hp, by simp, by simpa using hg, ?_, rfl, .inl rfl⟩
    apply ba_ext; rw [ba_extract]; simp [cat]
  | succ d ih =>
    intro acc p hp hg
    have stop : (rd1 (s.extract p s.size) = none ∨ ∃ v t, rd1 (s.extract p s.size) = some (v, t) ∧ okN (acc ++ []) v = false) → scanN (d + 1) s acc p = (acc, (p : Int)) →
        ∃ (M : List S23) (n : Nat), scanN (d + 1) s acc p = (acc ++ M, (n : Int)) ∧ p ≤ n ∧ n ≤ s.size ∧ M.length ≤ d + 1 ∧ good (acc ++ M) ∧ s.extract p n = cat M ∧ n = p + (cat M).size ∧
          (M.length = d + 1 ∨ rd1 (s.extract n s.size) = none ∨ ∃ v t, rd1 (s.extract n s.size) = some (v, t) ∧ okN (acc ++ M) v = false) := by
      intro h1 h2
      refine ⟨[], p, by rw [List.append_nil]; exact h2, Nat.le_refl _, hp, by simp, by simpa using hg, ?_, rfl, .inr h1⟩
      apply ba_ext; rw [ba_extract]; simp [cat]
    cases h : rd1 (s.extract p s.size) with
    | none => exact stop (.inl h) (by unfold scanN; rw [h])
    | some q =>
      obtain ⟨v, t⟩ := q
      by_cases ho : okN acc v = true
      · obtain ⟨h1, h2, h3, hz, hr⟩ := rd1_facts h
        rw [rest_size] at hz
        obtain ⟨M, n, e, hpn, hn, hM, hgM, hx, hnn, hst⟩ := ih (acc ++ [⟨v, t⟩]) (p + (16 + t.size)) (by omega) (good_snoc.2 ⟨hg, ⟨h1, h2, h3⟩, ho⟩)
        have e0 : acc ++ (⟨v, t⟩ : S23) :: M = acc ++ [⟨v, t⟩] ++ M := by simp
        refine ⟨⟨v, t⟩ :: M, n, ?_, by omega, hn, by simpa using hM, by rw [e0]; exact hgM, ?_, ?_, ?_⟩
        · unfold scanN; rw [h]; simp only [ho, if_true]; rw [e, e0]
        · show s.extract p n = rec v t ++ cat M
          rw [hr, ← hx]
          apply ba_ext
          rw [ba_append, ba_extract, ba_extract, ba_extract, ba_extract]
          simp only [List.drop_zero, Nat.sub_zero]
          rw [List.take_take, ← List.drop_drop, show min (16 + t.size) (s.size - p) = 16 + t.size from by omega, show n - p = 16 + t.size + (n - (p + (16 + t.size))) from by omega, List.take_add]
        · have : (cat (⟨v, t⟩ :: M)).size = 16 + t.size + (cat M).size := by show (rec v t ++ cat M).size = _; rw [ByteArray.size_append, rec_size]
          omega
        · rw [e0]
          rcases hst with h | h
          · left; simpa using h
          · right; exact h
      · have ho' : okN acc v = false := by simpa using ho
        exact stop (.inr ⟨v, t, h, by rw [List.append_nil]; exact ho'⟩) (by unfold scanN; rw [h]; simp only [ho']; rfl)
theorem good_nil : good [] := ⟨by simp, List.Pairwise.nil⟩
theorem scan_found (s : ByteArray) : ∃ (L : List S23) (n : Nat), scan s = (L, (n : Int)) ∧ n ≤ s.size ∧ L.length ≤ 64 ∧ good L ∧ s.extract 0 n = cat L ∧ n = (cat L).size ∧
    (L.length = 64 ∨ rd1 (s.extract n s.size) = none ∨ ∃ v t, rd1 (s.extract n s.size) = some (v, t) ∧ okN L v = false) := by
  obtain ⟨M, n, e, _, hn, hM, hg, hx, hnn, hst⟩ := scanN_found s 64 [] 0 (by omega) good_nil
  exact ⟨M, n, by show scanN 64 s [] 0 = _; simpa using e, hn, hM, by simpa using hg, hx, by simpa using hnn, by simpa using hst⟩
end Go.Proofs.Ytolckgeffmaakaa.Q
