/- The generator railplankeep.row in plain words, and what holds of memory while it runs. -/
import Derived.Test.YtkegdgdkfbmabaaQFan
import Derived.Test.YtkegdgdkfbmabaaX4
namespace Go.Proofs.Ytkegdgdkfbmabaa.X
open Go Go.RowKit Go.Proofs.YtkegdgdkfbmabaaW Go.Proofs.YtkegdgdkfbmabaaW.PrintWords Go.Proofs.YtkegdgdkfbmabaaW.PrintLast Go.Proofs.YtkegdgdkfbmabaaW.PrintMore
set_option linter.unusedVariables false
set_option linter.unusedSimpArgs false
/-- Next: the choice, and the place of the next one. -/
def nxt (L : List Int) (i n : Nat) : Nat × Nat := if i < L.length then ((IntKind.u64.wrap (rd L (i : Int))).toNat % n, i + 1) else (0, i)
theorem nxt_lt (L : List Int) (i n : Nat) (h : 0 < n) : (nxt L i n).1 < n := by
  unfold nxt; split
  · exact Nat.mod_lt _ h
  · exact h
theorem nxt_le (L : List Int) (i n : Nat) (h : i ≤ L.length) : (nxt L i n).2 ≤ L.length := by
  unfold nxt; split
  · show i + 1 ≤ _; omega
  · exact h
theorem pick_ok (v : Int) (n : Nat) (h0 : 0 < n) (hn : n ≤ 1000000) : railplankeep_Pick.f v (n : Int) = some ((((IntKind.u64.wrap v).toNat % n : Nat) : Int)) := by
  have hw : 0 ≤ IntKind.u64.wrap v := by rw [IntKind.wrap_u64]; omega
  have e : IntKind.u64.wrap (n : Int) = (n : Int) := by rw [IntKind.wrap_u64]; omega
  obtain ⟨m, hm⟩ := Int.eq_ofNat_of_zero_le hw
  unfold railplankeep_Pick.f
  rw [e, if_neg (by omega), hm, Int.tmod_eq_emod_of_nonneg (by omega)]
  have h1 : ((m : Int) % (n : Int)) = ((m % n : Nat) : Int) := rfl
  have h2 : m % n < n := Nat.mod_lt _ h0
  simp only [Int.toNat_natCast]
  rw [h1]
  generalize m % n = r at h2
  have h4 : wrap64 (r : Int) = (r : Int) := by unfold wrap64; omega
  rw [h4]
theorem next_ok (L : List Int) (i n : Nat) (h0 : 0 < n) (hn : n ≤ 1000000) (hL : L.length ≤ 9000000000000000000) : railplankeep_Source_Next.f L (i : Int) (n : Int) = some ((((nxt L i n).1 : Nat) : Int), (((nxt L i n).2 : Nat) : Int)) := by
  unfold railplankeep_Source_Next.f nxt
  by_cases h : i < L.length
  · have e1 : wrap64 ((i : Int) + 1) = ((i + 1 : Nat) : Int) := by unfold wrap64; omega
    have e2 : wrap64 ((((i + 1 : Nat) : Int)) - 1) = (i : Int) := by unfold wrap64; omega
    rw [if_neg (by omega), e1, e2, if_pos (by omega), if_pos (by omega), pick_ok _ n h0 hn, if_pos h]
    rfl
  · rw [if_pos (by omega), if_neg h]
    rfl
/-- named: the front and one digit. -/
def nmd (a : ByteArray) (d : Nat) : ByteArray := a ++ (⟨#[48, 49, 50, 51, 52, 53, 54, 55, 56, 57]⟩ : ByteArray).extract (d % 10) (d % 10 + 1)
theorem nmd_size (a : ByteArray) (d : Nat) : (nmd a d).size = a.size + 1 := by
  unfold nmd
  rw [ByteArray.size_append, ByteArray.size_extract]
  have : (⟨#[48, 49, 50, 51, 52, 53, 54, 55, 56, 57]⟩ : ByteArray).size = 10 := rfl
  omega
theorem named_ok (a : ByteArray) (d : Nat) (ha : a.size ≤ 1000000) : railplankeep_named.f a (d : Int) = some (nmd a d) := by
  have e1 : Int.tmod (d : Int) 10 = ((d % 10 : Nat) : Int) := by rw [Int.tmod_eq_emod_of_nonneg (by omega)]; omega
  have h10 : d % 10 < 10 := Nat.mod_lt _ (by omega)
  have e2 : wrap64 (((d % 10 : Nat) : Int) + 1) = ((d % 10 + 1 : Nat) : Int) := by generalize d % 10 = r at h10; unfold wrap64; omega
  have hs := nmd_size a d
  unfold nmd at hs
  rw [ByteArray.size_append] at hs
  unfold railplankeep_named.f nmd
  rw [e1, e2]
  simp only [Int.toNat_natCast]
  rw [if_pos (by omega), if_pos (by omega), if_pos (by omega), if_pos (by omega)]
/-- section: three choices. -/
def secS (L : List Int) (i : Nat) (nm : ByteArray) (st : Int) : Sec1 × Nat :=
  (⟨nm, 2 + ((nxt L i 9).1 : Int), 5000 + 5000 * ((nxt L (nxt L i 9).2 7).1 : Int), ((nxt L (nxt L (nxt L i 9).2 7).2 21).1 : Int) - 10, st⟩, (nxt L (nxt L (nxt L i 9).2 7).2 21).2)
theorem section_ok (L : List Int) (i : Nat) (nm : ByteArray) (st : Int) (hL : L.length ≤ 9000000000000000000) : railplankeep_Source_section.f L (i : Int) nm st = some ((secS L i nm st).1.f0, (secS L i nm st).1.f1, (secS L i nm st).1.f2, (secS L i nm st).1.f3, (secS L i nm st).1.f4, (((secS L i nm st).2 : Nat) : Int)) := by
  have h1 := nxt_lt L i 9 (by omega)
  have h2 := nxt_lt L (nxt L i 9).2 7 (by omega)
  have h3 := nxt_lt L (nxt L (nxt L i 9).2 7).2 21 (by omega)
  have g1 : railplankeep_Source_Next.f L (i : Int) 9 = _ := next_ok L i 9 (by omega) (by omega) hL
  have g2 : railplankeep_Source_Next.f L (((nxt L i 9).2 : Nat) : Int) 7 = _ := next_ok L (nxt L i 9).2 7 (by omega) (by omega) hL
  have g3 : railplankeep_Source_Next.f L (((nxt L (nxt L i 9).2 7).2 : Nat) : Int) 21 = _ := next_ok L (nxt L (nxt L i 9).2 7).2 21 (by omega) (by omega) hL
  unfold railplankeep_Source_section.f secS
  rw [g1]; simp only [Option.bind_some]
  rw [g2]; simp only [Option.bind_some]
  rw [g3]; simp only [Option.bind_some]
  generalize (nxt L (nxt L (nxt L i 9).2 7).2 21) = z3 at *
  generalize (nxt L (nxt L i 9).2 7) = z2 at *
  generalize (nxt L i 9) = z1 at *
  have e1 : wrap64 (2 + (z1.1 : Int)) = 2 + (z1.1 : Int) := by unfold wrap64; omega
  have e2 : wrap64 (5000 * (z2.1 : Int)) = 5000 * (z2.1 : Int) := by unfold wrap64; omega
  have e3 : wrap64 (5000 + 5000 * (z2.1 : Int)) = 5000 + 5000 * (z2.1 : Int) := by unfold wrap64; omega
  have e4 : wrap64 ((z3.1 : Int) - 10) = (z3.1 : Int) - 10 := by unfold wrap64; omega
  rw [e1, e2, e3, e4]
def up2 (x : Sec1) : Sec1 := ⟨x.f0, x.f1 + 2, x.f2, x.f3, x.f4⟩
/-- The tracks of station i. -/
def tracksS (L : List Int) (i : Nat) : Nat → Nat → List Sec1 → List Int → Nat × List Sec1 × List Int
  | 0, s, sc, t => (s, sc, t)
  | k + 1, s, sc, t => tracksS L i k (secS L s (nmd (nmd ⟨#[84]⟩ i) (k + 1)) (i : Int)).2 (sc ++ [up2 (secS L s (nmd (nmd ⟨#[84]⟩ i) (k + 1)) (i : Int)).1]) (t ++ [(sc.length : Int)])
/-- The stations. -/
def stS (L : List Int) : Nat → Nat → Nat → List ByteArray → List Sec1 → List (List Int) → Nat × List ByteArray × List Sec1 × List (List Int)
  | 0, _, s, st, sc, tr => (s, st, sc, tr)
  | m + 1, i, s, st, sc, tr =>
    stS L m (i + 1) (tracksS L i (1 + (nxt L s 2).1) (nxt L s 2).2 sc []).1 (st ++ [nmd ⟨#[83]⟩ i]) (tracksS L i (1 + (nxt L s 2).1) (nxt L s 2).2 sc []).2.1 (tr ++ [(tracksS L i (1 + (nxt L s 2).1) (nxt L s 2).2 sc []).2.2])
/-- The sections behind station i. -/
def secsS (L : List Int) (i : Nat) : Nat → Nat → List Sec1 → List Int → Nat × List Sec1 × List Int
  | 0, s, sc, t => (s, sc, t)
  | k + 1, s, sc, t => secsS L i k (secS L s (nmd (nmd ⟨#[76]⟩ i) (k + 1)) (-1)).2 (sc ++ [(secS L s (nmd (nmd ⟨#[76]⟩ i) (k + 1)) (-1)).1]) (t ++ [(sc.length : Int)])
def lkT (t : List Int) : List Lnk1 := (List.range (t.length - 1)).map fun (k : Nat) => ⟨rd t (k : Int), 1, rd t ((k : Int) + 1), 0, -1, 0⟩
def fanP (pt : List ByteArray) (tr : List Int) : List ByteArray := if 1 < tr.length then pt ++ [nmd ⟨#[80]⟩ pt.length] else pt
def fanK (pt : List ByteArray) (lk : List Lnk1) (x : Int) (tr : List Int) (east : Bool) : List Lnk1 := lk ++ fanL x (if 1 < tr.length then (pt.length : Int) else -1) east tr
def trk (tr : List (List Int)) (i : Nat) : List Int := tr.getD i []
/-- The line between the stations. -/
def bwS (L : List Int) (tr : List (List Int)) : Nat → Nat → Nat → List Sec1 → List Lnk1 → List ByteArray → List (List Int) → Nat × List Sec1 × List Lnk1 × List ByteArray × List (List Int)
  | 0, _, s, sc, lk, pt, bt => (s, sc, lk, pt, bt)
  | m + 1, i, s, sc, lk, pt, bt =>
    let q := secsS L i (1 + (nxt L s 2).1) (nxt L s 2).2 sc []
    bwS L tr m (i + 1) q.1 q.2.1 (fanK (fanP pt (trk tr i)) (fanK pt (lk ++ lkT q.2.2) (rd q.2.2 0) (trk tr i) false) (rd q.2.2 ((q.2.2.length : Int) - 1)) (trk tr (i + 1)) true) (fanP (fanP pt (trk tr i)) (trk tr (i + 1))) (bt ++ [q.2.2])
end Go.Proofs.Ytkegdgdkfbmabaa.X
