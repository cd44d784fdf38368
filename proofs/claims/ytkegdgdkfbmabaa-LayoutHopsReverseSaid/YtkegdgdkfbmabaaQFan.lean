/- The builder of railplankeep: fan. -/
import Derived.Deep.RegionHeld3
import Derived.Deep.RegionWith
import Derived.Deep.DrawnRows
import Derived.Deep.LoopGhost
import Derived.Test.YtkegdgdkfbmabaaQBuild1
import Derived.Test.YtkegdgdkfbmabaaX4
namespace Go.Proofs.Ytkegdgdkfbmabaa.X
open Go Go.RowKit Go.Proofs.YtkegdgdkfbmabaaW Go.Proofs.YtkegdgdkfbmabaaW.PrintWords Go.Proofs.YtkegdgdkfbmabaaW.PrintLast Go.Proofs.YtkegdgdkfbmabaaW.PrintMore
attribute [local go_sem ↓] Go.wp_at_zero Go.wp_at_succ
set_option linter.unusedVariables false
set_option linter.unusedSimpArgs false
theorem R_FTp {α : Type} {d : Kd α} {e : Nat} {w w1 : World} {base p tp : Nat} {cs : Array Value} {ok : Nat → Prop} {v : Value} {xs : List α} {S : Nat → Nat → Prop} (hr : d.R e w base ok v xs) (hb : w.heap[p]? = some (.cells cs tp (0, 0))) (ht : ∀ q, q ∈ e :: d.E → q ≠ tp) (h : FT w w1 S) (hs : ∀ q k, q ∈ e :: d.E → ok k → k ≠ p → ¬ S k q) : d.R e w1 base ok v xs :=
  Kd.R_mono (R_FT (Kd.R_types hr hb ht) h (fun q k hq hk => hs q k hq hk.1 hk.2)) (fun _ hk => hk.1)
def fan1 (x p : Int) (east : Bool) (i : Nat) (t : Int) : Lnk1 := if east = true then ⟨x, 1, t, 0, p, (i : Int)⟩ else ⟨t, 1, x, 0, p, (i : Int)⟩
def fanL (x p : Int) (east : Bool) (ts : List Int) : List Lnk1 := ts.mapIdx (fan1 x p east)
theorem fanL_take (x p : Int) (east : Bool) (ts : List Int) (i : Nat) (h : i < ts.length) : (fanL x p east ts).take (i + 1) = (fanL x p east ts).take i ++ [fan1 x p east i (rd ts (i : Int))] := by
  rw [List.take_succ_eq_append_getElem (by simpa [fanL] using h)]
  simp [fanL, rd, List.getD_eq_getElem?_getD, List.getElem?_eq_getElem h]
theorem fanL_len (x p : Int) (east : Bool) (ts : List Int) : (fanL x p east ts).length = ts.length := by simp [fanL]
theorem succ_int (i : Nat) (h : i < 9223372036854775807) : wrap64 ((i : Int) + 1) = ((i + 1 : Nat) : Int) := by unfold wrap64; omega
set_option maxHeartbeats 3200000 in
set_option maxRecDepth 100000 in
theorem fan_c (base p : Nat) (v0 v1 v2 v3 v4 v5 v6 vt : Value) (pt : List ByteArray) (lk : List Lnk1) (tr : List Int) (nm : ByteArray) (x : Int) (east : Bool) (H1 bt : Nat) (okt : Nat → Prop) (w0 w : World) (hb : w.heap[p]? = some (.cells #[v0, v1, v2, v3, v4, v5, v6] 53 (0, 0))) (hp : base ≤ p) (hH : base ≤ H1) (hB : Below base w0 w) (hbase : H1 ≤ w.heap.size)
    (hr : Kd.R Kd.string 9 w H1 (fun _ => True) v1 pt) (hl : Kd.R kLnk1 61 w base (fun _ => True) v3 lk) (ht : Kd.R (Kd.int .i64) 3 w bt okt vt tr) (hn : pt.length ≤ 900) (hn2 : lk.length + tr.length ≤ 900) (hnm : 1 < tr.length → railplankeep_named.f ⟨#[80]⟩ (pt.length : Int) = some nm) :
    Calls Try.prog 34 #[.pointer (some ⟨p, 0, none⟩), .int .i64 x, vt, .bool east] w fun e w' => ∃ v1' v3', e = .returned (.tuple #[]) ∧ w'.heap[p]? = some (.cells #[v0, v1', v2, v3', v4, v5, v6] 53 (0, 0)) ∧ Kd.R Kd.string 9 w' H1 (fun _ => True) v1' (if 1 < tr.length then pt ++ [nm] else pt) ∧ Kd.R kLnk1 61 w' base (fun _ => True) v3' (lk ++ fanL x (if 1 < tr.length then (pt.length : Int) else -1) east tr) ∧ Below base w0 w' ∧ FT w w' (fun k t => k = p ∨ t = 61 ∨ t = 9 ∧ H1 ≤ k) := by
  have huB := Try.underlying53
  have HP := Aside0.mk hp
  have HN := Aside0.mk hn
  have HN2 := Aside0.mk hn2
  have HNM := Aside0.mk hnm
  obtain ⟨At, ct, hvt⟩ := Kd.R_slice ht
  subst hvt
  have HG := Aside0.mk hb
  have HBB := Aside0.mk hB
  have HR := Aside0.mk hr
  have HL := Aside0.mk hl
  have HT := Aside0.mk ht
  have HBS := Aside0.mk hbase
  have HHB := Aside0.mk hH
  clear hb hr hB hbase hp hn hH hnm hl ht hn2
  by_cases h1 : 1 < tr.length
  · have HLT := Aside0.mk h1
    rw [if_pos h1, if_pos h1]
    have d1 : decide ((1 : Int) < (tr.length : Int)) = true := decide_eq_true (by omega)
    have d2 : decide (1 < tr.length) = true := decide_eq_true h1
    have HLEN : Aside0 (tr.length ≤ 900) := ⟨by have := HN2.out; omega⟩
    obtain ⟨LL, hLL⟩ : ∃ LL, fanL x (pt.length : Int) east tr = LL := ⟨_, rfl⟩
    rw [hLL]
    have HLL := Aside0.mk hLL
    clear h1 hLL
    go_enter Try.func34, Try.ntmps34
    go_wp2_with (go_at_call 36; refine (point_c base p v0 v1 v2 v3 v4 v5 v6 pt nm H1 w0 _ HG.out HP.out HHB.out HBB.out HBS.out HR.out (by have := HN.out; omega) (HNM.out HLT.out)).mono ?_; rintro e w2 ⟨v1n, rfl, hg2, hr2, hb2, hf2⟩; have HG2 := Aside0.mk hg2; have HR2 := Aside0.mk hr2; have HB2 := Aside0.mk hb2; have HL2 := Aside0.mk (R_FTp HL.out HG.out (by decide) hf2 (fun q k hq _ hk hs => hs.elim hk (fun h => (by decide : ∀ q, q ∈ 61 :: kLnk1.E → q ≠ 9) q hq h.1))); have HF2 := Aside0.mk (FT.mono (S' := fun k t => k = p ∨ t = 61 ∨ t = 9 ∧ H1 ≤ k) hf2 (fun k t h => h.elim .inl (fun h => .inr (.inr h)))); clear hg2 hr2 hb2 hf2)
    go_loopg [17] (tr.length + 1) (fun kq v17 w' => ∃ (i : Nat) (v3n : Value), v17 = .int .i64 (i : Int) ∧ Aside0 (i + kq = tr.length + 1) ∧ Aside0 (i ≤ tr.length) ∧ Aside0 (w'.heap[p]? = some (.cells #[v0, v1n, v2, v3n, v4, v5, v6] 53 (0, 0))) ∧ Aside0 (Kd.R kLnk1 61 w' base (fun _ => True) v3n (lk ++ LL.take i)) ∧ Aside0 (Below base w0 w') ∧ Aside0 (FT w2 w' (fun k t => k = p ∨ t = 61)))
    case atStart => exact ⟨0, v3, rfl, ⟨by omega⟩, ⟨Nat.zero_le _⟩, HG2, ⟨by rw [List.take_zero, List.append_nil]; exact HL2.out⟩, HB2, ⟨FT.refl _ _⟩⟩
    case round =>
      obtain ⟨i, v3n, rfl, HK, HI, HGr, HLr, HBr, HFr⟩ := hrel
      cases gk with
      | zero => exact absurd HK.out (by have := HI.out; omega)
      | succ k1 =>
        by_cases hi : i < tr.length
        · have HS : Aside0 (w.heap.size ≤ wr.heap.size) := ⟨Nat.le_trans HF2.out.1 HFr.out.1⟩
          have HTr := R_FTp (R_FTp HT.out HG.out (by decide) HF2.out (fun q k hq _ hk hs => hs.elim hk (fun h => h.elim ((by decide : ∀ q, q ∈ 3 :: (Kd.int .i64).E → q ≠ 61) q hq) (fun h => (by decide : ∀ q, q ∈ 3 :: (Kd.int .i64).E → q ≠ 9) q hq h.1)))) HG2.out (by decide) HFr.out (fun q k hq _ hk hs => hs.elim hk ((by decide : ∀ q, q ∈ 3 :: (Kd.int .i64).E → q ≠ 61) q hq))
          obtain ⟨At', ct', hv', _, hC⟩ := Kd.R_reads HTr
          cases hv'
          obtain ⟨ad, hA, hc⟩ := Kd.at_int hC (i : Int) (by omega) (by omega)
          subst hA
          rw [Int.toNat_natCast] at hc
          have hi1 : decide ((i : Int) < (tr.length : Int)) = true := decide_eq_true (by omega)
          have hi2 : decide (i < tr.length) = true := decide_eq_true hi
          have HHI := Aside0.mk hi
          have HTK : Aside0 (lk ++ LL.take (i + 1) = (lk ++ LL.take i) ++ [fan1 x (pt.length : Int) east i (rd tr (i : Int))]) := ⟨by rw [← HLL.out, fanL_take _ _ _ _ _ hi, List.append_assoc]⟩
          have HLK : Aside0 ((lk ++ LL.take i).length ≤ 1000) := ⟨by rw [List.length_append]; have := List.length_take_le i LL; have := HN2.out; omega⟩
          clear HTr hC
          cases east with
          | true =>
            go_wp2_with (go_at_call 33; refine (link_c base p v0 v1n v2 v3n v4 v5 v6 _ x (rd tr (i : Int)) (pt.length : Int) (i : Int) w0 _ HGr.out HP.out HBr.out (Nat.le_trans (Nat.le_trans HHB.out HBS.out) HS.out) HLr.out HLK.out).mono ?_; rintro e w8 ⟨v3m, rfl, hg8, hr8, hb8, hf8⟩; have HG8 := Aside0.mk hg8; have HR8 := Aside0.mk hr8; have HB8 := Aside0.mk hb8; have HF8 := Aside0.mk hf8; clear hg8 hr8 hb8 hf8)
            go_roundg k1
            case measure => have := HK.out; omega
            case rel => exact ⟨i + 1, v3m, (by first | go_num | (rw [succ_int i (by have := HHI.out; have := HLEN.out; omega)])), ⟨by have := HK.out; omega⟩, ⟨by have := HHI.out; omega⟩, HG8, ⟨by rw [HTK.out]; exact HR8.out⟩, HB8, ⟨HFr.out.trans HF8.out⟩⟩
          | false =>
            go_wp2_with (go_at_call 33; refine (link_c base p v0 v1n v2 v3n v4 v5 v6 _ (rd tr (i : Int)) x (pt.length : Int) (i : Int) w0 _ HGr.out HP.out HBr.out (Nat.le_trans (Nat.le_trans HHB.out HBS.out) HS.out) HLr.out HLK.out).mono ?_; rintro e w8 ⟨v3m, rfl, hg8, hr8, hb8, hf8⟩; have HG8 := Aside0.mk hg8; have HR8 := Aside0.mk hr8; have HB8 := Aside0.mk hb8; have HF8 := Aside0.mk hf8; clear hg8 hr8 hb8 hf8)
            go_roundg k1
            case measure => have := HK.out; omega
            case rel => exact ⟨i + 1, v3m, (by first | go_num | (rw [succ_int i (by have := HHI.out; have := HLEN.out; omega)])), ⟨by have := HK.out; omega⟩, ⟨by have := HHI.out; omega⟩, HG8, ⟨by rw [HTK.out]; exact HR8.out⟩, HB8, ⟨HFr.out.trans HF8.out⟩⟩
        · have hi1 : decide ((i : Int) < (tr.length : Int)) = false := decide_eq_false (by omega)
          have hi2 : decide (i < tr.length) = false := decide_eq_false hi
          have HTA : Aside0 (LL.take i = LL) := ⟨List.take_of_length_le (by rw [← HLL.out, fanL_len]; omega)⟩
          go_wp2
          go_end0
          exact ⟨_, v3n, rfl, HGr.out, R_FTp HR2.out HG2.out (by decide) HFr.out (fun q k hq _ hk hs => hs.elim hk ((by decide : ∀ q, q ∈ 9 :: Kd.string.E → q ≠ 61) q hq)), by rw [← HTA.out]; exact HLr.out, HBr.out, HF2.out.trans (FT.mono HFr.out (fun k t h => h.elim .inl (fun h => .inr (.inl h))))⟩
  · have HLT := Aside0.mk h1
    rw [if_neg h1, if_neg h1]
    have d1 : decide ((1 : Int) < (tr.length : Int)) = false := decide_eq_false (by omega)
    have d2 : decide (1 < tr.length) = false := decide_eq_false h1
    have HLEN : Aside0 (tr.length ≤ 900) := ⟨by have := HN2.out; omega⟩
    obtain ⟨LL, hLL⟩ : ∃ LL, fanL x (-1) east tr = LL := ⟨_, rfl⟩
    rw [hLL]
    have HLL := Aside0.mk hLL
    clear h1 hLL
    go_enter Try.func34, Try.ntmps34
    go_wp2
    have HG2 := HG
    have HR2 := HR
    have HB2 := HBB
    obtain ⟨w2, hw2⟩ : ∃ w2, w2 = w := ⟨_, rfl⟩
    rw [← hw2] at HG2 HR2 HB2 ⊢
    have HW2 := Aside0.mk hw2
    have HF2 : Aside0 (FT w w2 (fun k t => k = p ∨ t = 61 ∨ t = 9 ∧ H1 ≤ k)) := ⟨by rw [HW2.out]; exact FT.refl _ _⟩
    clear hw2
    have HL2 : Aside0 (Kd.R kLnk1 61 w2 base (fun _ => True) v3 lk) := ⟨by rw [HW2.out]; exact HL.out⟩
    go_loopg [17] (tr.length + 1) (fun kq v17 w' => ∃ (i : Nat) (v3n : Value), v17 = .int .i64 (i : Int) ∧ Aside0 (i + kq = tr.length + 1) ∧ Aside0 (i ≤ tr.length) ∧ Aside0 (w'.heap[p]? = some (.cells #[v0, v1, v2, v3n, v4, v5, v6] 53 (0, 0))) ∧ Aside0 (Kd.R kLnk1 61 w' base (fun _ => True) v3n (lk ++ LL.take i)) ∧ Aside0 (Below base w0 w') ∧ Aside0 (FT w2 w' (fun k t => k = p ∨ t = 61)))
    case atStart => exact ⟨0, v3, rfl, ⟨by omega⟩, ⟨Nat.zero_le _⟩, HG2, ⟨by rw [List.take_zero, List.append_nil]; exact HL2.out⟩, HB2, ⟨FT.refl _ _⟩⟩
    case round =>
      obtain ⟨i, v3n, rfl, HK, HI, HGr, HLr, HBr, HFr⟩ := hrel
      cases gk with
      | zero => exact absurd HK.out (by have := HI.out; omega)
      | succ k1 =>
        by_cases hi : i < tr.length
        · have HS : Aside0 (w.heap.size ≤ wr.heap.size) := ⟨Nat.le_trans HF2.out.1 HFr.out.1⟩
          have HTr := R_FTp (R_FTp HT.out HG.out (by decide) HF2.out (fun q k hq _ hk hs => hs.elim hk (fun h => h.elim ((by decide : ∀ q, q ∈ 3 :: (Kd.int .i64).E → q ≠ 61) q hq) (fun h => (by decide : ∀ q, q ∈ 3 :: (Kd.int .i64).E → q ≠ 9) q hq h.1)))) HG2.out (by decide) HFr.out (fun q k hq _ hk hs => hs.elim hk ((by decide : ∀ q, q ∈ 3 :: (Kd.int .i64).E → q ≠ 61) q hq))
          obtain ⟨At', ct', hv', _, hC⟩ := Kd.R_reads HTr
          cases hv'
          obtain ⟨ad, hA, hc⟩ := Kd.at_int hC (i : Int) (by omega) (by omega)
          subst hA
          rw [Int.toNat_natCast] at hc
          have hi1 : decide ((i : Int) < (tr.length : Int)) = true := decide_eq_true (by omega)
          have hi2 : decide (i < tr.length) = true := decide_eq_true hi
          have HHI := Aside0.mk hi
          have HTK : Aside0 (lk ++ LL.take (i + 1) = (lk ++ LL.take i) ++ [fan1 x (-1) east i (rd tr (i : Int))]) := ⟨by rw [← HLL.out, fanL_take _ _ _ _ _ hi, List.append_assoc]⟩
          have HLK : Aside0 ((lk ++ LL.take i).length ≤ 1000) := ⟨by rw [List.length_append]; have := List.length_take_le i LL; have := HN2.out; omega⟩
          clear HTr hC
          cases east with
          | true =>
            go_wp2_with (go_at_call 33; refine (link_c base p v0 v1 v2 v3n v4 v5 v6 _ x (rd tr (i : Int)) (-1) (i : Int) w0 _ HGr.out HP.out HBr.out (Nat.le_trans (Nat.le_trans HHB.out HBS.out) HS.out) HLr.out HLK.out).mono ?_; rintro e w8 ⟨v3m, rfl, hg8, hr8, hb8, hf8⟩; have HG8 := Aside0.mk hg8; have HR8 := Aside0.mk hr8; have HB8 := Aside0.mk hb8; have HF8 := Aside0.mk hf8; clear hg8 hr8 hb8 hf8)
            go_roundg k1
            case measure => have := HK.out; omega
            case rel => exact ⟨i + 1, v3m, (by first | go_num | (rw [succ_int i (by have := HHI.out; have := HLEN.out; omega)])), ⟨by have := HK.out; omega⟩, ⟨by have := HHI.out; omega⟩, HG8, ⟨by rw [HTK.out]; exact HR8.out⟩, HB8, ⟨HFr.out.trans HF8.out⟩⟩
          | false =>
            go_wp2_with (go_at_call 33; refine (link_c base p v0 v1 v2 v3n v4 v5 v6 _ (rd tr (i : Int)) x (-1) (i : Int) w0 _ HGr.out HP.out HBr.out (Nat.le_trans (Nat.le_trans HHB.out HBS.out) HS.out) HLr.out HLK.out).mono ?_; rintro e w8 ⟨v3m, rfl, hg8, hr8, hb8, hf8⟩; have HG8 := Aside0.mk hg8; have HR8 := Aside0.mk hr8; have HB8 := Aside0.mk hb8; have HF8 := Aside0.mk hf8; clear hg8 hr8 hb8 hf8)
            go_roundg k1
            case measure => have := HK.out; omega
            case rel => exact ⟨i + 1, v3m, (by first | go_num | (rw [succ_int i (by have := HHI.out; have := HLEN.out; omega)])), ⟨by have := HK.out; omega⟩, ⟨by have := HHI.out; omega⟩, HG8, ⟨by rw [HTK.out]; exact HR8.out⟩, HB8, ⟨HFr.out.trans HF8.out⟩⟩
        · have hi1 : decide ((i : Int) < (tr.length : Int)) = false := decide_eq_false (by omega)
          have hi2 : decide (i < tr.length) = false := decide_eq_false hi
          have HTA : Aside0 (LL.take i = LL) := ⟨List.take_of_length_le (by rw [← HLL.out, fanL_len]; omega)⟩
          go_wp2
          go_end0
          exact ⟨_, v3n, rfl, HGr.out, R_FTp HR2.out HG2.out (by decide) HFr.out (fun q k hq _ hk hs => hs.elim hk ((by decide : ∀ q, q ∈ 9 :: Kd.string.E → q ≠ 61) q hq)), by rw [← HTA.out]; exact HLr.out, HBr.out, HF2.out.trans (FT.mono HFr.out (fun k t h => h.elim .inl (fun h => .inr (.inl h))))⟩
end Go.Proofs.Ytkegdgdkfbmabaa.X
