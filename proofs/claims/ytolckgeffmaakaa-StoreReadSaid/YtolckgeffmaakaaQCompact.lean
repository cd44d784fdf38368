/- store.Compact: what it answers, and that the call comes to it. -/
import Derived.Test.YtolckgeffmaakaaQBuilder
import Derived.Test.YtolckgeffmaakaaX0
import Derived.Test.YtolckgeffmaakaaX3
import Derived.Test.YtolckgeffmaakaaX5
namespace Go.Proofs.Ytolckgeffmaakaa.X
open Go.RowKit Go.Proofs.YtolckgeffmaakaaW Go.Proofs.YtolckgeffmaakaaW.PrintWords Go.Proofs.YtolckgeffmaakaaW.PrintLast Go.Proofs.YtolckgeffmaakaaW.PrintMore
attribute [local go_sem] max2_int min2_int max_two min_two max_three min_three max_four min_four
set_option linter.unusedVariables false
set_option linter.unusedSimpArgs false
--BODY
def store_Compact.l0 : Nat → ByteArray → List (S23) → Int → Int → Option (ByteArray × Int)
  | 0, _, _, _, _ => none
  | k + 1, x8, x30, x31, x32 => if x32 < x31 then (if 0 ≤ x32 then (if x32 < (x30.length : Int) then ((store_Encode.f k ((rd_T23 x30 x32).f0) ((rd_T23 x30 x32).f1)).bind fun b => (if x8.size + b.1.size ≤ 140737488355328 then (store_Compact.l0 k (x8 ++ b.1) x30 x31 (wrap64 (x32 + 1))) else (none))) else (none)) else (none)) else (some (x8, 0))
def store_Compact.f (k : Nat) (a0 : ByteArray) (a1 : Int) : Option (ByteArray × Int) := if a1 < 1 then (some ((⟨#[]⟩ : ByteArray), 4)) else if a1 > 64 then (some ((⟨#[]⟩ : ByteArray), 4)) else ((store_Scan.f k a0).bind fun b => (if 0 ≤ (mx 0 (wrap64 ((b.1.length : Int) - a1))) then (if (mx 0 (wrap64 ((b.1.length : Int) - a1))) ≤ (b.1.length : Int) then (store_Compact.l0 k (⟨#[]⟩ : ByteArray) (b.1.drop (mx 0 (wrap64 ((b.1.length : Int) - a1))).toNat) ((b.1.drop (mx 0 (wrap64 ((b.1.length : Int) - a1))).toNat).length : Int) 0) else (none)) else (none)))
theorem store_Compact.mono_l : ∀ k, (∀ y0 y1 y2 y3, LeO (store_Compact.l0 k y0 y1 y2 y3) (store_Compact.l0 (k + 1) y0 y1 y2 y3))
  | 0 => fun _ _ _ _ r h => by simp [store_Compact.l0] at h
  | k + 1 => by
    have ih0 := store_Compact.mono_l k
    intro y0 y1 y2 y3
    unfold store_Compact.l0
    refine LeO.ite (LeO.ite (LeO.ite (LeO.bind (store_Encode.mono _ _ _) (fun _ => LeO.ite (ih0 _ _ _ _) (LeO.none _))) (LeO.none _)) (LeO.none _)) (LeO.refl _)
theorem store_Compact.mono : ∀ a0 a1 k, LeO (store_Compact.f k a0 a1) (store_Compact.f (k + 1) a0 a1) := by
  intro a0 a1 k
  unfold store_Compact.f
  exact LeO.ite (LeO.refl _) (LeO.ite (LeO.refl _) (LeO.bind (store_Scan.mono _ _) (fun _ => LeO.ite (LeO.ite (store_Compact.mono_l k _ _ _ _) (LeO.none _)) (LeO.none _))))
set_option maxHeartbeats 8000000 in
set_option maxRecDepth 100000 in
theorem store_Compact.calls (k : Nat) (a0 : ByteArray) (a1 : Int) (r1 : ByteArray) (r2 : Int) (w : World) (h : store_Compact.f k a0 a1 = some (r1, r2)) :
    Calls Try.prog 25 #[.string a0, .int .i64 a1] w fun e w' => e = .returned (.tuple #[.string r1, .int .i64 r2]) ∧ Below w.heap.size w w' := by
  have hu23 := Try.underlying23
  unfold store_Compact.f at h
  by_cases c1 : a1 < 1
  · rw [if_pos c1] at h
    have c1b : decide (a1 < 1) = true := decide_eq_true c1
    clear c1
    simp only [Option.some.injEq, Prod.mk.injEq] at h
    obtain ⟨rfl, rfl⟩ := h
    go_enter Try.func25, Try.ntmps25
    go_wp2
    go_ret2
    exact ⟨rfl, Below.refl _ _⟩
  rw [if_neg c1] at h
  have c1b : decide (a1 < 1) = false := decide_eq_false c1
  by_cases c2 : a1 > 64
  · rw [if_pos c2] at h
    have c2b : decide (64 < a1) = true := decide_eq_true c2
    clear c1 c2
    simp only [Option.some.injEq, Prod.mk.injEq] at h
    obtain ⟨rfl, rfl⟩ := h
    go_enter Try.func25, Try.ntmps25
    go_wp2
    go_ret2
    exact ⟨rfl, Below.refl _ _⟩
  rw [if_neg c2] at h
  have c2b : decide (64 < a1) = false := decide_eq_false c2
  clear c1 c2
  replace h := Option.bind_eq_some_iff.mp h
  obtain ⟨⟨t1, t2⟩, hs, H⟩ := h
  have HS := Aside0.mk hs
  clear hs
  obtain ⟨ji, hji⟩ : ∃ j_ : Int, (mx 0 (wrap64 ((t1.length : Int) - a1))) = j_ := ⟨_, rfl⟩
  dsimp only at H
  rw [hji] at H
  have hji_ : (if 0 < (wrap64 ((t1.length : Int) - a1)) then (wrap64 ((t1.length : Int) - a1)) else 0) = ji := hji
  clear hji
  by_cases c8 : 0 ≤ ji
  case neg => rw [if_neg c8] at H; cases H
  rw [if_pos c8] at H
  by_cases c9 : ji ≤ (t1.length : Int)
  case neg => rw [if_neg c9] at H; cases H
  rw [if_pos c9] at H
  obtain ⟨ys, hys⟩ : ∃ y_ : List (S23), y_ = t1.drop ji.toNat := ⟨_, rfl⟩
  rw [← hys] at H
  have NY := Aside0.mk hys
  have H' := Aside0.mk H
  have C8 := Aside0.mk c8
  have C9 := Aside0.mk c9
  have c8b0 := eq_true c8
  have c9b0 := eq_true c9
  clear H hys c8 c9
  go_enter Try.func25, Try.ntmps25
  go_wp2_with fail
  (with_reducible refine (store_Scan.calls k a0 t1 t2 _ HS.out).mono ?_)
  rintro e w1 ⟨v, rfl, ho, hb⟩
  obtain ⟨Ao, co, eo⟩ := Kd.R_slice ho
  subst eo
  have hr1 := Aside0.mk (Kd.R_reads' ho)
  clear ho
  have HB0 := Aside0.mk hb
  clear hb
  obtain ⟨i0, hi0, _, hsz0, _⟩ := info_parts info23
  have hcut := cut_from (P := Try.prog) 32 23 .i64 Try.underlying32 hi0 2 hsz0 Ao t1.length co ji C8.out C9.out
  have hC := Kd.C_drop (m := ji.toNat) (c := co) hr1.out.2.2 (by have := C9.out; omega) hr1.out.2.1
  obtain ⟨A2, hA2⟩ : ∃ A1, A1 = (if co = ji.toNat then Ao else (Ao : Option Addr).map (·.add (ji.toNat * 2))) := ⟨_, rfl⟩
  obtain ⟨c2, hc2⟩ : ∃ c1, c1 = co - ji.toNat := ⟨_, rfl⟩
  have hy : ys.length = t1.length - ji.toNat := (by rw [NY.out, List.length_drop])
  rw [← NY.out] at hC
  replace hC : Kd.C k23 w1 A2 ys.length ys := (by rw [hA2]; exact hC)
  rw [← hy, ← hA2, ← hc2] at hcut
  have HC := Aside0.mk hC
  clear hC hi0 hsz0
  have KY := Aside0.mk hy
  have KA := Aside0.mk hA2
  have KC := Aside0.mk hc2
  clear hy hA2 hc2
  have HX0 := Aside0.mk (H.fresh w1)
  have HB1 := Aside0.mk (below_alloc (Below.refl w1.heap.size w1) (.cells #[.pointer none, .slice none 0 0] 63))
  go_wp2
  go_loopg [32] k (fun kq v32 w' => ∃ (x8 : ByteArray) (x32 : Int), v32 = .int .i64 x32 ∧ Aside0 (store_Compact.l0 kq x8 ys (ys.length : Int) x32 = some (r1, r2)) ∧ Aside0 (kq ≤ k) ∧ Aside0 (H.Sb w1.heap.size w1.heap.size x8 w') ∧ Aside0 (Below w1.heap.size w1 w'))
  case atStart => exact ⟨⟨#[]⟩, 0, rfl, H', ⟨Nat.le_refl _⟩, HX0, HB1⟩
  case round =>
    clear H' HX0 HB1 hcut KY KA KC hr1 hji_ c8b0 c9b0 c1b c2b C8 C9
    obtain ⟨x8, x32, rfl, HA, HK, HX, HB⟩ := hrel
    cases gk with
    | zero => exact absurd HA.out (by simp [store_Compact.l0])
    | succ k2 =>
      have H := HA.out
      clear HA
      simp only [store_Compact.l0] at H
      by_cases c13 : x32 < (ys.length : Int)
      · rw [if_pos c13] at H
        have c13b0 : decide (x32 < (ys.length : Int)) = true := decide_eq_true c13
        by_cases c14 : 0 ≤ x32
        case neg => rw [if_neg c14] at H; cases H
        rw [if_pos c14, if_pos c13] at H
        have c14b0 : decide (0 ≤ x32) = true := decide_eq_true c14
        replace H := Option.bind_eq_some_iff.mp H
        obtain ⟨⟨t3, t4⟩, he, H⟩ := H
        have HE := Aside0.mk he
        clear he
        dsimp only at H
        by_cases c17 : x8.size + t3.size ≤ 140737488355328
        case neg => rw [if_neg c17] at H; cases H
        rw [if_pos c17] at H
        have C17 := Aside0.mk c17
        have H' := Aside0.mk H
        obtain ⟨ad, ead, hx0, hx1⟩ := at_T23 (Kd.C_below HC.out HB.out) x32 c14 c13
        cases ead
        replace c13 := eq_true c13
        replace c14 := eq_true c14
        clear c17 H
        go_wp2_with fail
        (with_reducible refine (store_Encode.calls k2 _ _ t3 t4 _ HE.out).mono ?_)
        rintro e w2 ⟨rfl, hb⟩
        have HB2 := Aside0.mk (below_then (below_alloc (Below.refl wr.heap.size wr) (.cells #[.int .i64 (rd_T23 ys x32).f0, .string (rd_T23 ys x32).f1] 23)) (by simp) hb)
        clear hb
        have HX2 := Aside0.mk (H.sb_below HX.out HB2.out)
        have HB3 := Aside0.mk (below_then HB.out HB.out.size HB2.out)
        clear HX HB HB2
        go_wp2_with fail
        (with_reducible refine (H.put _ _ x8 t3 _ HX2.out C17.out HB3.out.size).mono ?_)
        rintro e w3 ⟨rfl, hs, hb⟩
        have HX3 := Aside0.mk hs
        have HB4 := Aside0.mk (HB3.out.trans hb)
        clear hs hb HX2 HB3
        go_wp2
        go_roundg k2
        case measure => have := HK.out; omega
        case rel => exact ⟨x8 ++ t3, wrap64 (x32 + 1), by first | rfl | simp, H', ⟨by have := HK.out; omega⟩, HX3, HB4⟩
      · rw [if_neg c13] at H
        have c13b0 : decide (x32 < (ys.length : Int)) = false := decide_eq_false c13
        clear c13
        simp only [Option.some.injEq, Prod.mk.injEq] at H
        obtain ⟨rfl, rfl⟩ := H
        go_wp2_with fail
        (with_reducible refine (H.got _ _ x8 _ HX.out HB.out.size).mono ?_)
        rintro e w3 ⟨rfl, hb⟩
        have HB4 := Aside0.mk (HB.out.trans hb)
        clear hb HB
        go_wp2
        go_ret2
        exact ⟨rfl, below_then HB0.out HB0.out.size HB4.out⟩
end Go.Proofs.Ytolckgeffmaakaa.X
