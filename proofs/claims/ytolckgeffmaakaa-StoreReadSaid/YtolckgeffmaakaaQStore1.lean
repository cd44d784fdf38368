/- The plain law of the store: the sum, the record, the scan, and that the two texts agree. -/
import Derived.Test.YtolckgeffmaakaaQBase
import Derived.Test.YtolckgeffmaakaaX3
import Derived.Test.YtolckgeffmaakaaX6
namespace Go.Proofs.Ytolckgeffmaakaa.Q
open Go.RowKit Go.Proofs.YtolckgeffmaakaaW.PrintWords Go.Proofs.YtolckgeffmaakaaW.PrintLast Go.Proofs.YtolckgeffmaakaaW.PrintMore Go.Proofs.Ytolckgeffmaakaa.X

def stepb (c : Int) : Int := if Go.bits .and .u32 c 1 = 1 then Go.bits .xor .u32 (c / 2) 3988292384 else c / 2
def stepn : Nat → Int → Int
  | 0, c => c
  | n + 1, c => stepn n (stepb c)
def crcFrom (s : ByteArray) : Nat → Nat → Int → Int
  | 0, _, c => Go.bits .xor .u32 4294967295 c
  | d + 1, i, c => crcFrom s d (i + 1) (stepn 8 (Go.bits .xor .u32 c (bt s (i : Int) % 4294967296)))
def crc (s : ByteArray) : Int := crcFrom s s.size 0 4294967295

theorem stepb_range {c : Int} (h0 : 0 ≤ c) (h1 : c < 4294967296) : 0 ≤ stepb c ∧ stepb c < 4294967296 := by
  unfold stepb; split
  · exact xor32_range _ _
  · omega
theorem crcFrom_range (s : ByteArray) : ∀ (d i : Nat) (c : Int), 0 ≤ crcFrom s d i c ∧ crcFrom s d i c < 4294967296
  | 0, _, _ => xor32_range _ _
  | d + 1, i, _ => crcFrom_range s d (i + 1) _
theorem crc_range (s : ByteArray) : 0 ≤ crc s ∧ crc s < 4294967296 := crcFrom_range _ _ _ _

theorem sum_step {c : Int} (h0 : 0 ≤ c) (h1 : c < 4294967296) : Go.bits .xor .u32 (c / 2) ((3988292384 * (Go.bits .and .u32 c 1)) % 4294967296) = stepb c := by
  unfold stepb; rw [and32_one h0 h1]
  by_cases h : c % 2 = 1
  · rw [if_pos h, h]; rfl
  · have e : c % 2 = 0 := by omega
    rw [if_neg h, e]
    exact xor32_zero (by omega) (by omega)

theorem sum_l1 (s : ByteArray) (n i : Int) (r : Int) (m : Nat) : ∀ (c j : Int), 0 ≤ c → c < 4294967296 → 0 ≤ j → j + m = 8 →
    Ev (fun k => layoutbin_Sum.l0 k s (stepn m c) n (wrap64 (i + 1))) r → Ev (fun k => layoutbin_Sum.l1 k s c n i j) r := by
  induction m with
  | zero =>
    intro c j h0 h1 hj hm H
    refine Ev.step (fun k => ?_) H
    simp only [layoutbin_Sum.l1]; rw [if_neg (by omega)]; rfl
  | succ m ih =>
    intro c j h0 h1 hj hm H
    have hr := stepb_range h0 h1
    refine Ev.step (fun k => ?_) (ih (stepb c) (j + 1) hr.1 hr.2 (by omega) (by omega) H)
    simp only [layoutbin_Sum.l1]; rw [if_pos (by omega), sum_step h0 h1, w64 (by omega) (by omega)]

theorem crc_l1 (s : ByteArray) (i : Int) (r : Int) (m : Nat) : ∀ (c j : Int), 0 ≤ c → c < 4294967296 → 0 ≤ j → j + m = 8 →
    Ev (fun k => railplanref1_Crc.l0 k s (stepn m c) (wrap64 (i + 1))) r → Ev (fun k => railplanref1_Crc.l1 k s c i j) r := by
  induction m with
  | zero =>
    intro c j h0 h1 hj hm H
    refine Ev.step (fun k => ?_) H
    simp only [railplanref1_Crc.l1]; rw [if_neg (by omega)]; rfl
  | succ m ih =>
    intro c j h0 h1 hj hm H
    have hr := stepb_range h0 h1
    refine Ev.step (fun k => ?_) (ih (stepb c) (j + 1) hr.1 hr.2 (by omega) (by omega) H)
    simp only [railplanref1_Crc.l1]; rw [if_pos (by omega), w64 (x := j + 1) (by omega) (by omega)]
    unfold stepb
    split <;> rfl

theorem sum_l0 (s : ByteArray) (hs : s.size ≤ 4611686018427387904) (d : Nat) : ∀ (i : Nat) (c : Int), 0 ≤ c → c < 4294967296 → i + d = s.size →
    Ev (fun k => layoutbin_Sum.l0 k s c (s.size : Int) (i : Int)) (crcFrom s d i c) := by
  induction d with
  | zero =>
    intro i c h0 h1 hi
    refine Ev.step (f := fun _ => some (Go.bits .xor .u32 4294967295 c)) (fun k => ?_) (evs rfl)
    simp only [layoutbin_Sum.l0]; rw [if_neg (by omega)]
  | succ d ih =>
    intro i c h0 h1 hi
    have hx := xor32_range c (bt s (i : Int) % 4294967296)
    have H : Ev (fun k => layoutbin_Sum.l1 k s (Go.bits .xor .u32 c (bt s (i : Int) % 4294967296)) (s.size : Int) (i : Int) 0) (crcFrom s (d + 1) i c) := by
      refine sum_l1 s _ _ _ 8 _ _ hx.1 hx.2 (by omega) (by omega) ?_
      rw [w64 (by omega) (by omega)]
      have hr : ∀ m c, 0 ≤ c → c < 4294967296 → 0 ≤ stepn m c ∧ stepn m c < 4294967296 := by
        intro m; induction m with
        | zero => intro c a b; exact ⟨a, b⟩
        | succ m im => intro c a b; exact im _ (stepb_range a b).1 (stepb_range a b).2
      exact ih (i + 1) _ (hr _ _ hx.1 hx.2).1 (hr _ _ hx.1 hx.2).2 (by omega)
    refine Ev.step (fun k => ?_) H
    simp only [layoutbin_Sum.l0]; rw [if_pos (by omega), if_pos (by omega), if_pos (by omega)]

theorem crc_l0 (s : ByteArray) (hs : s.size ≤ 4611686018427387904) (d : Nat) : ∀ (i : Nat) (c : Int), 0 ≤ c → c < 4294967296 → i + d = s.size →
    Ev (fun k => railplanref1_Crc.l0 k s c (i : Int)) (crcFrom s d i c) := by
  induction d with
  | zero =>
    intro i c h0 h1 hi
    refine Ev.step (f := fun _ => some (Go.bits .xor .u32 4294967295 c)) (fun k => ?_) (evs rfl)
    simp only [railplanref1_Crc.l0]; rw [if_neg (by omega)]
  | succ d ih =>
    intro i c h0 h1 hi
    have hx := xor32_range c (bt s (i : Int) % 4294967296)
    have H : Ev (fun k => railplanref1_Crc.l1 k s (Go.bits .xor .u32 c (bt s (i : Int) % 4294967296)) (i : Int) 0) (crcFrom s (d + 1) i c) := by
      refine crc_l1 s _ _ 8 _ _ hx.1 hx.2 (by omega) (by omega) ?_
      rw [w64 (by omega) (by omega)]
      have hr : ∀ m c, 0 ≤ c → c < 4294967296 → 0 ≤ stepn m c ∧ stepn m c < 4294967296 := by
        intro m; induction m with
        | zero => intro c a b; exact ⟨a, b⟩
        | succ m im => intro c a b; exact im _ (stepb_range a b).1 (stepb_range a b).2
      exact ih (i + 1) _ (hr _ _ hx.1 hx.2).1 (hr _ _ hx.1 hx.2).2 (by omega)
    refine Ev.step (fun k => ?_) H
    simp only [railplanref1_Crc.l0]; rw [if_pos (by omega), if_pos (by omega)]

theorem sum_ev (s : ByteArray) (hs : s.size ≤ 4611686018427387904) : Ev (fun k => layoutbin_Sum.f k s) (crc s) := by
  unfold layoutbin_Sum.f; exact sum_l0 s hs s.size 0 _ (by omega) (by omega) (by omega)
theorem crc_ev (s : ByteArray) (hs : s.size ≤ 4611686018427387904) : Ev (fun k => railplanref1_Crc.f k s) (crc s) := by
  unfold railplanref1_Crc.f; exact crc_l0 s hs s.size 0 _ (by omega) (by omega) (by omega)

/-! records -/
def four (v : Int) : ByteArray := strOfNums [(v / 16777216) % 256, (v / 65536) % 256, (v / 256) % 256, v % 256]
theorem four_size (v : Int) : (four v).size = 4 := by unfold four; rw [numsize]; rfl
def plan : ByteArray := ⟨#[80, 76, 65, 78]⟩
theorem plan_size : plan.size = 4 := rfl
def hd (n : Int) (t : ByteArray) : ByteArray := plan ++ four n ++ four (t.size : Int)
def rec (n : Int) (t : ByteArray) : ByteArray := hd n t ++ four (crc (hd n t ++ t)) ++ t
def enc (n : Int) (t : ByteArray) : ByteArray × Int :=
  if n < 1 ∨ n > 2147483647 then (⟨#[]⟩, 4) else if t.size > 65536 then (⟨#[]⟩, 7) else (rec n t, 0)
theorem hd_size (n : Int) (t : ByteArray) : (hd n t).size = 12 := by unfold hd; rw [ByteArray.size_append, ByteArray.size_append, four_size, four_size, plan_size]
theorem rec_size (n : Int) (t : ByteArray) : (rec n t).size = 16 + t.size := by unfold rec; rw [ByteArray.size_append, ByteArray.size_append, four_size, hd_size]

theorem encode_ev (n : Int) (t : ByteArray) (ht : t.size ≤ 4611686018427387000) : Ev (fun k => store_Encode.f k n t) (enc n t) := by
  unfold store_Encode.f
  have hchk : Ev (fun k => store_check.f k n t) (if n < 1 ∨ n > 2147483647 then 4 else if t.size > 65536 then 7 else 0) := by
    unfold store_check.f
    by_cases h1 : n < 1
    · refine evp h1 (Ev.step (f := fun _ => some 4) (fun k => ?_) (evs ?_))
      · simp only [store_check.j0]; rw [if_pos trivial]
      · rw [if_pos (.inl h1)]
    · refine evn h1 ?_
      by_cases h2 : n > 2147483647
      · refine Ev.step (f := fun _ => some 4) (fun k => ?_) (evs ?_)
        · simp only [store_check.j0]; rw [if_pos (by simpa using h2)]
        · rw [if_pos (.inr h2)]
      · by_cases h3 : t.size > 65536
        · refine Ev.step (f := fun _ => some 7) (fun k => ?_) (evs ?_)
          · simp only [store_check.j0]; rw [if_neg (by simpa using h2), if_pos (by omega)]
          · rw [if_neg (by omega), if_pos h3]
        · refine Ev.step (f := fun _ => some 0) (fun k => ?_) (evs ?_)
          · simp only [store_check.j0]; rw [if_neg (by simpa using h2), if_neg (by omega)]
          · rw [if_neg (by omega), if_neg h3]
  refine ev2 hchk ?_
  unfold enc
  by_cases h1 : n < 1 ∨ n > 2147483647
  · rw [if_pos h1, if_pos h1]; exact evn (by omega) (evs rfl)
  · rw [if_neg h1, if_neg h1]
    by_cases h3 : t.size > 65536
    · rw [if_pos h3, if_pos h3]; exact evn (by omega) (evs rfl)
    · rw [if_neg h3, if_neg h3]
      refine evp rfl (ev1 (a := four n) rfl ?_)
      have s1 := four_size n
      have s2 := four_size (t.size : Int)
      refine evp (by omega) (ev1 (a := four (t.size : Int)) rfl ?_)
      refine evp (by omega) (evp (by omega) ?_)
      have hz : (((⟨#[80, 76, 65, 78]⟩ : ByteArray) ++ four n) ++ four (t.size : Int) ++ t).size ≤ 4611686018427387904 := by
        have : (((⟨#[80, 76, 65, 78]⟩ : ByteArray) ++ four n) ++ four (t.size : Int)).size = 12 := hd_size n t
        rw [ByteArray.size_append, this]; omega
      refine ev2 (sum_ev _ hz) ?_
      have hc := crc_range (((⟨#[80, 76, 65, 78]⟩ : ByteArray) ++ four n) ++ four (t.size : Int) ++ t)
      rw [w64 (by omega) (by omega)]
      refine ev1 (a := four (crc (hd n t ++ t))) rfl ?_
      have s3 := four_size (crc (hd n t ++ t))
      exact evp (by omega) (evp (by omega) (evs rfl))

theorem refEncode_ev (n : Int) (t : ByteArray) (ht : t.size ≤ 4611686018427387000) : Ev (fun k => railplanref41_Encode.f k n t) (enc n t) := by
  unfold railplanref41_Encode.f enc
  by_cases h1 : n < 1
  · rw [if_pos (.inl h1)]
    refine evp h1 (Ev.step (f := fun _ => some ((⟨#[]⟩ : ByteArray), 4)) (fun k => ?_) (evs rfl))
    simp only [railplanref41_Encode.j0]; rw [if_pos trivial]
  · refine evn h1 ?_
    by_cases h2 : n > 2147483647
    · rw [if_pos (.inr h2)]
      refine Ev.step (f := fun _ => some ((⟨#[]⟩ : ByteArray), 4)) (fun k => ?_) (evs rfl)
      simp only [railplanref41_Encode.j0]; rw [if_pos (by simpa using h2)]
    · rw [if_neg (by omega)]
      by_cases h3 : t.size > 65536
      · rw [if_pos h3]
        refine Ev.step (f := fun _ => some ((⟨#[]⟩ : ByteArray), 7)) (fun k => ?_) (evs rfl)
        simp only [railplanref41_Encode.j0]; rw [if_neg (by simpa using h2), if_pos (by omega)]
      · rw [if_neg h3]
        have s1 := four_size n
        have s2 := four_size (t.size : Int)
        refine Ev.step (fun k => by simp only [railplanref41_Encode.j0]; rw [if_neg (by simpa using h2), if_neg (by omega)]) ?_
        refine ev1 (a := four n) rfl (evp (by omega) (ev1 (a := four (t.size : Int)) rfl ?_))
        refine evp (by omega) (evp (by omega) ?_)
        have hz : (((⟨#[80, 76, 65, 78]⟩ : ByteArray) ++ four n) ++ four (t.size : Int) ++ t).size ≤ 4611686018427387904 := by
          have : (((⟨#[80, 76, 65, 78]⟩ : ByteArray) ++ four n) ++ four (t.size : Int)).size = 12 := hd_size n t
          rw [ByteArray.size_append, this]; omega
        refine ev2 (crc_ev _ hz) ?_
        have hc := crc_range (((⟨#[80, 76, 65, 78]⟩ : ByteArray) ++ four n) ++ four (t.size : Int) ++ t)
        rw [w64 (by omega) (by omega)]
        refine ev1 (a := four (crc (hd n t ++ t))) rfl ?_
        have s3 := four_size (crc (hd n t ++ t))
        exact evp (by omega) (evp (by omega) (evs rfl))
end Go.Proofs.Ytolckgeffmaakaa.Q
