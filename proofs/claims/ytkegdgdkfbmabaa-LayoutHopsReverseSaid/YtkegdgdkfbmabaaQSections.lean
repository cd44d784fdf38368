/- layout.sections: what it answers, and that the call comes to it. -/
import Derived.Test.YtkegdgdkfbmabaaQNames
import Derived.Test.YtkegdgdkfbmabaaX0
import Derived.Test.YtkegdgdkfbmabaaX4
import Derived.Test.YtkegdgdkfbmabaaQMapIs
namespace Go.Proofs.Ytkegdgdkfbmabaa.X
open Go Go.RowKit Go.Maps Go.Proofs.YtkegdgdkfbmabaaW Go.Proofs.YtkegdgdkfbmabaaW.PrintWords Go.Proofs.YtkegdgdkfbmabaaW.PrintLast Go.Proofs.YtkegdgdkfbmabaaW.PrintMore
set_option linter.unusedVariables false
set_option linter.unusedSimpArgs false
def inB (n lo hi : Int) : Bool := decide (lo ≤ n) && decide (n ≤ hi)
theorem within_f (n lo hi : Int) : layout_within.f n lo hi = some (inB n lo hi) := by
  unfold layout_within.f inB
  by_cases h : n ≥ lo
  · rw [if_pos h, decide_eq_true (show lo ≤ n from h)]; rfl
  · rw [if_neg h, decide_eq_false (show ¬ lo ≤ n from h)]; rfl
theorem within_c (n lo hi : Int) (w : World) : Calls Try.prog 26 #[.int .i64 n, .int .i64 lo, .int .i64 hi] w fun e w' => e = .returned (.bool (inB n lo hi)) ∧ Drawn0 w w' :=
  layout_within.calls n lo hi _ w (within_f n lo hi)
def secOk (nst : Int) (x : S31) : Bool := inB x.f1 1 400 && (inB x.f2 1000 100000 && (inB x.f3 (-40) 40 && inB x.f4 (-1) nst))
/-- The first error of the sections; nst: the greatest number of a station. -/
def sectionsS (nst : Int) : List ByteArray → List (S31) → Int
  | _, [] => 0
  | seen, x :: l => if namedS seen x.f0 = 0 then (if secOk nst x = true then sectionsS nst (x.f0 :: seen) l else 4) else namedS seen x.f0
theorem sec_at {w : World} {A : Option Addr} {n : Nat} {xs : List (S31)} (h : Kd.C k31 w A n xs) (i : Nat) (hi : i < n) (x : S31) (hx : xs[i]? = some x) :
    ∃ ad, A = some ad ∧ w.cell? (ad.add (i * 5)) = some (.string x.f0) ∧ w.cell? ⟨(ad.add (i * 5)).block, (ad.add (i * 5)).off + 1, none⟩ = some (.int .i64 x.f1) ∧ w.cell? ⟨(ad.add (i * 5)).block, (ad.add (i * 5)).off + 2, none⟩ = some (.int .i64 x.f2) ∧ w.cell? ⟨(ad.add (i * 5)).block, (ad.add (i * 5)).off + 3, none⟩ = some (.int .i64 x.f3) ∧ w.cell? ⟨(ad.add (i * 5)).block, (ad.add (i * 5)).off + 4, none⟩ = some (.int .i64 x.f4) := by
  obtain ⟨ad, hA, h0, h1, h2, h3, h4⟩ := at_T31 h (i : Int) (by omega) (by omega)
  have e : rd_T31 xs (i : Int) = x := by unfold rd_T31; rw [Int.toNat_natCast, List.getD_eq_getElem?_getD, hx]; rfl
  rw [e, Int.toNat_natCast] at h0 h1 h2 h3 h4
  exact ⟨ad, hA, h0, h1, h2, h3, h4⟩
set_option maxHeartbeats 1600000 in
set_option maxRecDepth 100000 in
theorem sections_c (A0 : Option Addr) (c0 : Nat) (l0 : List ByteArray) (A1 : Option Addr) (c1 : Nat) (n1 : Nat) (A2 : Option Addr) (c2 : Nat) (l2 : List (S31)) (A3 : Option Addr) (c3 : Nat) (n3 : Nat) (w : World) (hr : Kd.C k31 w A2 l2.length l2) (hl : l2.length ≤ 200) (hl0 : l0.length ≤ 200) :
    Calls Try.prog 19 #[.agg #[.slice A0 l0.length c0, .slice A1 n1 c1, .slice A2 l2.length c2, .slice A3 n3 c3]] w fun e w' => e = .returned (.int .i64 (sectionsS ((l0.length : Int) - 1) [] l2)) ∧ Below w.heap.size w w' := by
  have hu28 := Try.underlying28
  have hu31 := Try.underlying31
  have HR0 := Aside0.mk hr
  have HL := Aside0.mk hl
  have HL0 := Aside0.mk hl0
  clear hr hl
  have hmm := @run_makeMap Try.prog
  have HM := Aside0.mk (SetIs.made (w.alloc (.cells #[.slice A0 l0.length c0, .slice A1 n1 c1, .slice A2 l2.length c2, .slice A3 n3 c3] 28)))
  obtain ⟨R, hR⟩ : ∃ R, sectionsS ((l0.length : Int) - 1) [] l2 = R := ⟨_, rfl⟩
  rw [hR]
  have H' := Aside0.mk hR
  clear hR
  go_enter Try.func19, Try.ntmps19
  go_wp2
  clear hmm
  have hbw0 : Below w.heap.size w ((w.alloc (.cells #[.slice A0 l0.length c0, .slice A1 n1 c1, .slice A2 l2.length c2, .slice A3 n3 c3] 28)).alloc (.map #[] 0)) := ((Below.refl _ _).alloc (Nat.le_refl _) _).alloc (by simp) _
  have hbx0 : ((w.alloc (.cells #[.slice A0 l0.length c0, .slice A1 n1 c1, .slice A2 l2.length c2, .slice A3 n3 c3] 28)).alloc (.map #[] 0)).cell? ⟨w.heap.size, 0, none⟩ = some (.slice A0 l0.length c0) := by go_simp
  have hsz0 : ((w.alloc (.cells #[.slice A0 l0.length c0, .slice A1 n1 c1, .slice A2 l2.length c2, .slice A3 n3 c3] 28)).alloc (.map #[] 0)).heap.size = w.heap.size + 2 := by simp
  have hm0 : (w.alloc (.cells #[.slice A0 l0.length c0, .slice A1 n1 c1, .slice A2 l2.length c2, .slice A3 n3 c3] 28)).heap.size = w.heap.size + 1 := by simp
  rw [hm0] at HM
  clear hm0
  generalize (w.alloc (.cells #[.slice A0 l0.length c0, .slice A1 n1 c1, .slice A2 l2.length c2, .slice A3 n3 c3] 28)).alloc (.map #[] 0) = W0 at HM hbw0 hbx0 hsz0 ⊢
  have HBW := Aside0.mk hbw0
  have HBX := Aside0.mk hbx0
  have HSZ := Aside0.mk hsz0
  clear hbw0 hbx0 hsz0
  go_loopg [11] (l2.length + 1) (fun kq v11 w' => ∃ (i : Nat) (seen : List ByteArray), v11 = .int .i64 (i : Int) ∧ Aside0 (i + kq = l2.length + 1) ∧ Aside0 (i ≤ l2.length) ∧ Aside0 (sectionsS ((l0.length : Int) - 1) seen (l2.drop i) = R) ∧ Aside0 (SetIs w' (w.heap.size + 1) i seen) ∧ Aside0 (Below (w.heap.size + 1) W0 w'))
  case atStart => exact ⟨0, [], rfl, ⟨by omega⟩, ⟨Nat.zero_le _⟩, H', HM, ⟨Below.refl _ _⟩⟩
  case round =>
    clear H' HM
    obtain ⟨i, seen, rfl, HK, HI, HG, HS, HB⟩ := hrel
    have HBF := Aside0.mk (HBW.out.trans (HB.out.mono (Nat.le_succ _)))
    cases gk with
    | zero => exact absurd HK.out (by have := HI.out; omega)
    | succ k1 =>
      by_cases hi : i < l2.length
      · obtain ⟨x, hx, hd⟩ := drop_at hi
        have hg := HG.out
        rw [hd] at hg
        unfold sectionsS at hg
        obtain ⟨ad, hA, hc0, hc1, hc2, hc3, hc4⟩ := sec_at (Kd.C_below HR0.out HBF.out) i hi x hx
        subst hA
        have hi1 : decide ((i : Int) < (l2.length : Int)) = true := decide_eq_true (by omega)
        have hi2 : decide (i < l2.length) = true := decide_eq_true hi
        have HC := Aside0.mk (fun W (hb : Below wr.heap.size wr W) => named_c W (w.heap.size + 1) i seen x.f0 (MapIs.below HS.out hb) (by have := HL.out; omega))
        have HHI := Aside0.mk hi
        obtain ⟨q, hq⟩ : ∃ q, namedS seen x.f0 = q := ⟨_, rfl⟩
        rw [hq] at HC hg
        clear hq hx hd HG
        by_cases h0 : q = 0
        · rw [if_pos h0] at hg
          subst h0
          have HC2 : Aside0 (∀ W, Below wr.heap.size wr W → Calls Try.prog 27 #[.map (some (w.heap.size + 1)), .string x.f0] W fun e w' => e = .returned (.int .i64 0) ∧ SetIs w' (w.heap.size + 1) (i + 1) (x.f0 :: seen) ∧ W.grownBy w' (some (w.heap.size + 1))) := ⟨fun W hb => (HC.out W hb).mono fun e w' h => by rw [if_pos rfl] at h; exact h⟩
          have HGX := Aside0.mk hg
          clear HC
          go_wp2_with fail
          (with_reducible refine (HC2.out _ ?hb).mono ?_)
          case hb => exact (Below.refl _ _).alloc (Nat.le_refl _) _
          rintro e w2 ⟨rfl, hs2, hg2⟩
          have hlt : w.heap.size + 1 < wr.heap.size := HS.out.lt
          have hblk : w2.heap[wr.heap.size]? = some (.cells #[.string x.f0, .int .i64 x.f1, .int .i64 x.f2, .int .i64 x.f3, .int .i64 x.f4] 31 (0, 0)) := (hg2.block wr.heap.size (by simp) (fun e => by have e2 := Option.some.inj e; omega)).trans (MapKept.heap_alloc wr _).1
          have hx1 : w2.cell? ⟨wr.heap.size, 1, none⟩ = some (.int .i64 x.f1) := by simp [World.cell?, hblk]
          have hx2 : w2.cell? ⟨wr.heap.size, 2, none⟩ = some (.int .i64 x.f2) := by simp [World.cell?, hblk]
          have hx3 : w2.cell? ⟨wr.heap.size, 3, none⟩ = some (.int .i64 x.f3) := by simp [World.cell?, hblk]
          have hx4 : w2.cell? ⟨wr.heap.size, 4, none⟩ = some (.int .i64 x.f4) := by simp [World.cell?, hblk]
          have HB3 : Aside0 (Below (w.heap.size + 1) W0 w2) := ⟨((HB.out.alloc (by omega) _).grown hg2 (by simp; omega) (fun k hk => by cases hk; exact Nat.le_refl _))⟩
          have HB2 := Aside0.mk (HBW.out.trans (HB3.out.mono (Nat.le_succ _)))
          have hb0 : w2.cell? ⟨w.heap.size, 0, none⟩ = some (.slice A0 l0.length c0) := (HB3.out.cell (p := ⟨w.heap.size, 0, none⟩) (by show w.heap.size < w.heap.size + 1; omega)).trans HBX.out
          have hl0 := HL0.out
          have HS2 := Aside0.mk hs2
          clear hs2 hg2 hblk hlt hc0 hc1 hc2 hc3 hc4
          cases h1 : inB x.f1 1 400 with
          | false =>
            have hok : secOk ((l0.length : Int) - 1) x = false := by unfold secOk; simp only [h1, Bool.false_and, Bool.true_and, Bool.and_false]
            rw [hok, if_neg (by decide)] at hg
            subst hg
            clear hok HGX
            go_wp2_with (go_at_call 26; (with_reducible refine (within_c _ _ _ _).mono ?_); rintro e w' ⟨rfl, ⟨nd, rfl⟩⟩)
            go_ret
            exact ⟨rfl, by repeat (first | exact HB2.out | apply pw_below_drewN | apply below_drew1)⟩
          | true =>
            cases h2 : inB x.f2 1000 100000 with
            | false =>
              have hok : secOk ((l0.length : Int) - 1) x = false := by unfold secOk; simp only [h1, h2, Bool.false_and, Bool.true_and, Bool.and_false]
              rw [hok, if_neg (by decide)] at hg
              subst hg
              clear hok HGX
              go_wp2_with (go_at_call 26; (with_reducible refine (within_c _ _ _ _).mono ?_); rintro e w' ⟨rfl, ⟨nd, rfl⟩⟩)
              go_ret
              exact ⟨rfl, by repeat (first | exact HB2.out | apply pw_below_drewN | apply below_drew1)⟩
            | true =>
              cases h3 : inB x.f3 (-40) 40 with
              | false =>
                have hok : secOk ((l0.length : Int) - 1) x = false := by unfold secOk; simp only [h1, h2, h3, Bool.false_and, Bool.true_and, Bool.and_false]
                rw [hok, if_neg (by decide)] at hg
                subst hg
                clear hok HGX
                go_wp2_with (go_at_call 26; (with_reducible refine (within_c _ _ _ _).mono ?_); rintro e w' ⟨rfl, ⟨nd, rfl⟩⟩)
                go_ret
                exact ⟨rfl, by repeat (first | exact HB2.out | apply pw_below_drewN | apply below_drew1)⟩
              | true =>
                cases h4 : inB x.f4 (-1) ((l0.length : Int) - 1) with
                | false =>
                  have hok : secOk ((l0.length : Int) - 1) x = false := by unfold secOk; simp only [h1, h2, h3, h4, Bool.false_and, Bool.true_and, Bool.and_false]
                  rw [hok, if_neg (by decide)] at hg
                  subst hg
                  clear hok HGX
                  go_wp2_with (go_at_call 26; (with_reducible refine (within_c _ _ _ _).mono ?_); rintro e w' ⟨rfl, ⟨nd, rfl⟩⟩)
                  go_ret
                  exact ⟨rfl, by repeat (first | exact HB2.out | apply pw_below_drewN | apply below_drew1)⟩
                | true =>
                  have hok : secOk ((l0.length : Int) - 1) x = true := by unfold secOk; simp only [h1, h2, h3, h4, Bool.true_and]
                  rw [hok, if_pos rfl] at hg
                  have HGN := Aside0.mk hg
                  clear hok HGX hg
                  go_wp2_with (go_at_call 26; (with_reducible refine (within_c _ _ _ _).mono ?_); rintro e w' ⟨rfl, ⟨nd, rfl⟩⟩)
                  go_roundg k1
                  case measure => have := HK.out; omega
                  case rel => exact ⟨i + 1, _, (by first | go_num | (rw [int_succ i (by have := HHI.out; have := HL.out; omega)])), ⟨by have := HK.out; omega⟩, ⟨by have := HHI.out; omega⟩, HGN, ⟨MapIs.below HS2.out (by repeat (first | exact Below.refl _ _ | apply pw_below_drewN | apply below_drew1))⟩, ⟨by repeat (first | exact HB3.out | apply pw_below_drewN | apply below_drew1)⟩⟩
        · rw [if_neg h0] at hg
          subst hg
          have h0b : (q != 0) = true := bne_iff_ne.mpr h0
          clear h0
          go_wp2_with fail
          (with_reducible refine (HC.out _ ?hb).mono ?_)
          case hb => exact (Below.refl _ _).alloc (Nat.le_refl _) _
          rintro e w2 ⟨rfl, hs2, hg2⟩
          have hlt : w.heap.size + 1 < wr.heap.size := HS.out.lt
          have HB3 : Aside0 (Below (w.heap.size + 1) W0 w2) := ⟨((HB.out.alloc (by omega) _).grown hg2 (by simp; omega) (fun k hk => by cases hk; exact Nat.le_refl _))⟩
          have HB2 := Aside0.mk (HBW.out.trans (HB3.out.mono (Nat.le_succ _)))
          clear hs2 hg2 hlt
          go_wp2
          go_ret
          exact ⟨rfl, HB2.out⟩
      · have hg := HG.out
        rw [List.drop_eq_nil_of_le (by omega)] at hg
        have hi1 : decide ((i : Int) < (l2.length : Int)) = false := decide_eq_false (by omega)
        have hi2 : decide (i < l2.length) = false := decide_eq_false hi
        have hR0 : (0 : Int) = R := hg
        subst hR0
        clear hg HG
        go_wp2
        go_ret
        exact ⟨rfl, HBF.out⟩
end Go.Proofs.Ytkegdgdkfbmabaa.X
