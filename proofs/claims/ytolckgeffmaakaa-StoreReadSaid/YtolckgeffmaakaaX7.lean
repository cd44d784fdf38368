/- Written by a program of this claim. Proved: each Go function named below, called with any arguments at which its Lean function answers, returns that answer; or, of a law, its given statement. -/
import Derived.Test.YtolckgeffmaakaaX0
import Derived.Test.YtolckgeffmaakaaX2
import Derived.Test.YtolckgeffmaakaaX3
namespace Go.Proofs.Ytolckgeffmaakaa.X
open Go.RowKit Go.Proofs.YtolckgeffmaakaaW Go.Proofs.YtolckgeffmaakaaW.PrintWords Go.Proofs.YtolckgeffmaakaaW.PrintLast Go.Proofs.YtolckgeffmaakaaW.PrintMore
attribute [local go_sem] max2_int min2_int max_two min_two max_three min_three max_four min_four   -- for this text's walks alone
set_option linter.unusedVariables false
set_option linter.unusedSimpArgs false

/-! ### railplankeep_From: function 35 -/
def railplankeep_From.f (l0 : List Int) : Option (List Int × Int) := some (l0, 0)
set_option maxHeartbeats 8000000 in
set_option maxRecDepth 100000 in
theorem railplankeep_From.calls (A0 : Option Addr) (c0 : Nat) (l0 : List Int) (r1 : List Int) (r2 : Int) (w0 w : World) (hB : Below w0.heap.size w0 w) (hr0 : Kd.C (Kd.int .i64) w0 A0 l0.length l0) (hc0 : l0.length ≤ c0) (h : railplankeep_From.f l0 = some (r1, r2)) :
    Calls Try.prog 35 #[.slice A0 l0.length c0] w fun e w' => ∃ g_ : Nat, e = .returned (.pointer (some ⟨g_, 0, none⟩)) ∧ IsS70 w0 w' g_ r1 r2 ∧ Below w0.heap.size w0 w' ∧ Below w.heap.size w w' := by
  have hu70 := Try.underlying70
  have HR0 := Aside0.mk hr0
  have HC0 := Aside0.mk hc0
  clear hr0 hc0
  have HBW := Aside0.mk (Below.refl w.heap.size w)
  have HW0 := Aside0.mk hB.size
  have HB := Aside0.mk hB
  clear hB
  have H : (some (l0, 0)) = some (r1, r2) := h
  clear h
  simp only [Option.some.injEq, Prod.mk.injEq] at H
  obtain ⟨rfl, rfl⟩ := H
  go_enter Try.func35, Try.ntmps35
  go_wp2_with (first | ((with_reducible refine gate_dst (N := 5) rfl ?_); refine box_event ?hg (N := 5) ?hd (cs := #[.slice A0 l0.length c0, .int .i64 0]) (t := 70) ?hr ?_; (case hd => rfl); (case hg => rfl); (case hr => first | (go_simp; done) | (go_simp; rfl)); intro gb207 hg w2 hbox hb; have n0_ := Aside0.mk (below_step HBW.out hb); have n1_ := Aside0.mk (below_step (by repeat (first | (with_reducible first | exact HB.out | apply below_alloc | apply pw_below_drewN | apply below_drew1) | exact HB.out)) hb); have n2_ := Aside0.mk (hbox); have n3_ := Aside0.mk ((by rw [hg]; exact (below_size (by repeat (first | (with_reducible first | exact HBW.out | apply below_alloc | apply pw_below_drewN | apply below_drew1) | exact HBW.out))) : w.heap.size ≤ gb207)); have n4_ := Aside0.mk ((Nat.le_trans HW0.out (by rw [hg]; exact (below_size (by repeat (first | (with_reducible first | exact HBW.out | apply below_alloc | apply pw_below_drewN | apply below_drew1) | exact HBW.out))) : w.heap.size ≤ gb207) : w0.heap.size ≤ gb207)); clear HBW; clear HB; have HBW := n0_; have HB := n1_; have BK207 := n2_; have GW207 := n3_; have GE207 := n4_; clear n0_ n1_ n2_ n3_ n4_; clear hb hbox hg))
  go_ret
  exact ⟨_, rfl, (show IsS70 w0 _ gb207 l0 0 from ⟨_, _, by (with_reducible repeat (first | refine blk_drewN ?_ _ | refine blk_drew ?_ | refine blk_alloc ?_ _)); exact BK207.out, GE207.out, HR0.out⟩), by repeat (first | (with_reducible first | exact HB.out | apply below_alloc | apply pw_below_drewN | apply below_drew1 | refine below_set ?_ GE207.out) | exact HB.out), by repeat (first | (with_reducible first | exact HBW.out | apply below_alloc | apply pw_below_drewN | apply below_drew1 | refine below_set ?_ GW207.out) | exact HBW.out)⟩

/-! ### railplankeep_Source_Next: function 36 -/
def railplankeep_Source_Next.f (s0_0 : List Int) (s0_1 : Int) (a1 : Int) : Option (Int × Int) := if s0_1 ≥ (s0_0.length : Int) then (some (0, s0_1)) else (if 0 ≤ (wrap64 ((wrap64 (s0_1 + 1)) - 1)) then (if (wrap64 ((wrap64 (s0_1 + 1)) - 1)) < (s0_0.length : Int) then ((railplankeep_Pick.f (rd s0_0 (wrap64 ((wrap64 (s0_1 + 1)) - 1))) a1).bind fun t209 => (some (t209, wrap64 (s0_1 + 1)))) else (none)) else (none))
set_option maxHeartbeats 8000000 in
set_option maxRecDepth 100000 in
theorem railplankeep_Source_Next.calls (g : Nat) (s0_0 : List Int) (s0_1 : Int) (a1 : Int) (r1 : Int) (r2 : Int) (w0 w : World) (hI : IsS70 w0 w g s0_0 s0_1) (hB : Below w0.heap.size w0 w) (h : railplankeep_Source_Next.f s0_0 s0_1 a1 = some (r1, r2)) :
    Calls Try.prog 36 #[.pointer (some ⟨g, 0, none⟩), .int .i64 a1] w fun e w' => e = .returned (.int .i64 r1) ∧ IsS70 w0 w' g s0_0 r2 ∧ Below w0.heap.size w0 w' ∧ KeepBut w w' g none := by
  have HI0 := Aside0.mk hI
  have HK := Aside0.mk (KeepBut.refl w g none)
  have HL := Aside0.mk hB.size
  clear hI
  have HW0 := Aside0.mk hB.size
  have HB := Aside0.mk hB
  clear hB
  have H : (if s0_1 ≥ (s0_0.length : Int) then (some (0, s0_1)) else (if 0 ≤ (wrap64 ((wrap64 (s0_1 + 1)) - 1)) then (if (wrap64 ((wrap64 (s0_1 + 1)) - 1)) < (s0_0.length : Int) then ((railplankeep_Pick.f (rd s0_0 (wrap64 ((wrap64 (s0_1 + 1)) - 1))) a1).bind fun t209 => (some (t209, wrap64 (s0_1 + 1)))) else (none)) else (none))) = some (r1, r2) := h
  clear h
  by_cases c3 : s0_1 ≥ (s0_0.length : Int)
  · rw [if_pos c3] at H
    have c3b0 : decide ((s0_0.length : Int) ≤ s0_1) = true := decide_eq_true c3
    clear c3
    simp only [Option.some.injEq, Prod.mk.injEq] at H
    obtain ⟨rfl, rfl⟩ := H
    obtain ⟨ASz4_0, cSz4_0, HGz4, hgz4, HSz4_0⟩ := HI0.out
    have hcz4_0 := cellS70_0 HGz4
    have hcz4_1 := cellS70_1 HGz4
    have hfz4_1 := blk_frozen HGz4 1
    clear HGz4 hgz4
    go_enter Try.func36, Try.ntmps36
    go_wp2
    repeat (go_quiet (fail); try go_wp2)
    go_ret
    exact ⟨by first | rfl | (simp [errW_none, errW_some] <;> rfl) | (simp [*, errW_none, errW_some] <;> rfl), by repeat (first | (with_reducible first | exact HI0.out | apply IsS70.alloc | apply IsS70.drewN | apply IsS70.drew | apply IsS70.set_1) | exact HI0.out), by repeat (first | (with_reducible first | exact HB.out | apply below_alloc | apply pw_below_drewN | apply below_drew1 | refine below_set ?_ (IsS70.ge HI0.out)) | exact HB.out), by repeat (first | (with_reducible first | exact HK.out | apply KeepBut.set_ | apply keep_drewN | apply keep_drew | apply keep_alloc) | exact HK.out)⟩
  · rw [if_neg c3] at H
    have c3b0 : decide ((s0_0.length : Int) ≤ s0_1) = false := decide_eq_false c3
    clear c3
    obtain ⟨ji5, hji5⟩ : ∃ j_ : Int, (wrap64 ((wrap64 (s0_1 + 1)) - 1)) = j_ := ⟨_, rfl⟩
    replace H : (if 0 ≤ (ji5) then (if (ji5) < (s0_0.length : Int) then ((railplankeep_Pick.f (rd s0_0 (ji5)) a1).bind fun t209 => (some (t209, wrap64 (s0_1 + 1)))) else (none)) else (none)) = some (r1, r2) := by first | (rw [hji5] at H; exact H) | (simp only [hji5] at H ⊢; exact H)
    have hji5w : (IntKind.i64.wrap ((wrap64 (s0_1 + 1)) - 1)) = ji5 := (i64_w _).trans hji5
    by_cases c6 : 0 ≤ (ji5)
    · rw [if_pos c6] at H
      have c6b0 : decide (0 ≤ (ji5)) = true := decide_eq_true c6
      clear c6
      by_cases c7 : (ji5) < (s0_0.length : Int)
      · rw [if_pos c7] at H
        have c7b0 : decide ((ji5) < (s0_0.length : Int)) = true := decide_eq_true c7
        clear c7
        replace H := Option.bind_eq_some_iff.mp H
        obtain ⟨t209, A80, H⟩ := H
        replace H : (some (t209, wrap64 (s0_1 + 1))) = some (r1, r2) := H
        have A8 := Aside0.mk A80
        clear A80
        simp only [Option.some.injEq, Prod.mk.injEq] at H
        obtain ⟨rfl, rfl⟩ := H
        obtain ⟨ASz9_0, cSz9_0, HGz9, hgz9, HSz9_0⟩ := HI0.out
        have hcz9_0 := cellS70_0 HGz9
        have hcz9_1 := cellS70_1 HGz9
        have hfz9_1 := blk_frozen HGz9 1
        clear HGz9 hgz9
        have p208 : 0 ≤ ((ji5) : Int) := of_decide_eq_true (by first | (with_reducible assumption) | assumption)
        have q208 : (ji5) < (s0_0.length : Int) := of_decide_eq_true (by first | (with_reducible assumption) | assumption)
        obtain ⟨ad208, e208, hx208_0⟩ := Kd.at_int HSz9_0 (ji5) p208 q208
        cases e208
        have hn208_0 : ad208.block ≠ g := Nat.ne_of_lt (Nat.lt_of_lt_of_le (by have := World.block_lt_of_cell? _ _ hx208_0; first | rwa [add_block] at this | exact this) (IsS70.ge HI0.out))
        replace hx208_0 := pw_cell_below HB.out hx208_0
        replace hx208_0 := (cell_far (p := ⟨g, 1, none⟩) (by first | (rw [add_block]; exact hn208_0) | (show (Addr.add _ _).block ≠ _; rw [add_block]; exact hn208_0) | exact hn208_0) (.int .i64 (wrap64 (s0_1 + 1)))).trans hx208_0
        (try have hy208_0 := fun (n_ : Nat) => (show (((w.drewN n_).setCell ⟨g, 1, none⟩ (.int .i64 (wrap64 (s0_1 + 1))))).cell? _ = some _ from hx208_0))
        clear hn208_0
        replace p208 := eq_true p208
        replace q208 := eq_true q208
        go_enter Try.func36, Try.ntmps36
        go_wp2_with (first | (go_at_call 14; (with_reducible refine (railplankeep_Pick.calls (rd s0_0 (ji5)) a1 t209 _ A8.out).mono ?_); rintro e w' ⟨rfl, ⟨nd, rfl⟩⟩; (try first | exact ⟨rfl, _, World.drewN_drewN _ _ _⟩ | exact ⟨rfl, _, Eq.trans (World.drewN_drewN _ _ _) (congrArg (World.drewN _) (Nat.add_assoc _ _ _))⟩)))
        repeat (go_quiet (first | (go_at_call 14; (with_reducible refine (railplankeep_Pick.calls (rd s0_0 (ji5)) a1 t209 _ A8.out).mono ?_); rintro e w' ⟨rfl, ⟨nd, rfl⟩⟩; (try first | exact ⟨rfl, _, World.drewN_drewN _ _ _⟩ | exact ⟨rfl, _, Eq.trans (World.drewN_drewN _ _ _) (congrArg (World.drewN _) (Nat.add_assoc _ _ _))⟩))); try go_wp2_with (first | (go_at_call 14; (with_reducible refine (railplankeep_Pick.calls (rd s0_0 (ji5)) a1 t209 _ A8.out).mono ?_); rintro e w' ⟨rfl, ⟨nd, rfl⟩⟩; (try first | exact ⟨rfl, _, World.drewN_drewN _ _ _⟩ | exact ⟨rfl, _, Eq.trans (World.drewN_drewN _ _ _) (congrArg (World.drewN _) (Nat.add_assoc _ _ _))⟩))))
        go_ret
        exact ⟨by first | rfl | (simp [errW_none, errW_some] <;> rfl) | (simp only [← hji5]; first | rfl | (simp [errW_none, errW_some] <;> rfl)) | (simp [*, errW_none, errW_some] <;> rfl), by repeat (first | (with_reducible first | exact HI0.out | apply IsS70.alloc | apply IsS70.drewN | apply IsS70.drew | apply IsS70.set_1) | exact HI0.out), by repeat (first | (with_reducible first | exact HB.out | apply below_alloc | apply pw_below_drewN | apply below_drew1 | refine below_set ?_ (IsS70.ge HI0.out)) | exact HB.out), by repeat (first | (with_reducible first | exact HK.out | apply KeepBut.set_ | apply keep_drewN | apply keep_drew | apply keep_alloc) | exact HK.out)⟩
      · rw [if_neg c7] at H
        exact absurd H (by simp)
    · rw [if_neg c6] at H
      exact absurd H (by simp)

/-! ### railplanlaw41_versions: function 17 -/
mutual
def railplanlaw41_versions.l0 : Nat → List (S23) → Int → Int → List Int → Int → Option ((List (S23)))
  | 0, _, _, _, _, _ => none
  | k + 1, x4, x5, x6, x213000, x213001 => if x6 > 0 then ((railplankeep_Source_Next.f x213000 x213001 4).bind fun bt217 => ((railplankeep_Source_Next.f x213000 bt217.2 9).bind fun bt220 => (railplanlaw41_versions.l1 k x4 (wrap64 (x5 + bt217.1)) x6 bt220.1 x213000 bt220.2 (wrap64 (x5 + bt217.1)) (⟨#[]⟩ : ByteArray)))) else (some x4)
def railplanlaw41_versions.l1 : Nat → List (S23) → Int → Int → Int → List Int → Int → Int → ByteArray → Option ((List (S23)))
  | 0, _, _, _, _, _, _, _, _ => none
  | k + 1, x4, x5, x6, x8, x213000, x213001, x220000, x220001 => if x8 > 0 then ((railplankeep_Source_Next.f x213000 x213001 256).bind fun bt222 => ((some (([(bt222.1) % 256] : List Int) : List Int)).bind fun y224 => (if x220001.size + (strOfNums y224).size ≤ 9223372036854775807 then (railplanlaw41_versions.l1 k x4 x5 x6 (wrap64 (x8 - 1)) x213000 bt222.2 x220000 (x220001 ++ (strOfNums y224))) else (none)))) else (if x4.length < 5864062014805 then (railplanlaw41_versions.l0 k (x4 ++ [(⟨x220000, x220001⟩ : S23)]) x5 (wrap64 (x6 - 1)) x213000 x213001) else (none))
end
def railplanlaw41_versions.f (k : Nat) (l0 : List Int) : Option ((List (S23))) := (railplankeep_From.f l0).bind fun bt210 => ((railplankeep_Source_Next.f bt210.1 bt210.2 3).bind fun bt213 => ((railplankeep_Source_Next.f bt210.1 bt213.2 6).bind fun bt215 => (railplanlaw41_versions.l0 k ([] : List (S23)) bt213.1 bt215.1 bt210.1 bt215.2)))
theorem railplanlaw41_versions.mono_l : ∀ k, (∀ y0 y1 y2 y3 y4, LeO (railplanlaw41_versions.l0 k y0 y1 y2 y3 y4) (railplanlaw41_versions.l0 (k + 1) y0 y1 y2 y3 y4)) ∧ (∀ y0 y1 y2 y3 y4 y5 y6 y7, LeO (railplanlaw41_versions.l1 k y0 y1 y2 y3 y4 y5 y6 y7) (railplanlaw41_versions.l1 (k + 1) y0 y1 y2 y3 y4 y5 y6 y7))
  | 0 => ⟨fun _ _ _ _ _ r h => by simp [railplanlaw41_versions.l0] at h, fun _ _ _ _ _ _ _ _ r h => by simp [railplanlaw41_versions.l1] at h⟩
  | k + 1 => by
    obtain ⟨ih0, ih1⟩ := railplanlaw41_versions.mono_l k
    refine ⟨?_, ?_⟩
    · intro y0 y1 y2 y3 y4
      unfold railplanlaw41_versions.l0
      repeat' first
      | (with_reducible exact ih0 _ _ _ _ _)
      | (with_reducible exact ih1 _ _ _ _ _ _ _ _)
      | (with_reducible exact LeO.refl _)
      | (with_reducible exact LeO.none _)
      | (with_reducible refine LeO.ite ?_ ?_)
      | (with_reducible refine LeO.bind ?_ (fun _ => ?_))
      | exact ih0 _ _ _ _ _
      | exact ih1 _ _ _ _ _ _ _ _
      | exact LeO.none _
      | refine LeO.ite ?_ ?_
      | refine LeO.bind ?_ (fun _ => ?_)
    · intro y0 y1 y2 y3 y4 y5 y6 y7
      unfold railplanlaw41_versions.l1
      repeat' first
      | (with_reducible exact ih0 _ _ _ _ _)
      | (with_reducible exact ih1 _ _ _ _ _ _ _ _)
      | (with_reducible exact LeO.refl _)
      | (with_reducible exact LeO.none _)
      | (with_reducible refine LeO.ite ?_ ?_)
      | (with_reducible refine LeO.bind ?_ (fun _ => ?_))
      | exact ih0 _ _ _ _ _
      | exact ih1 _ _ _ _ _ _ _ _
      | exact LeO.none _
      | refine LeO.ite ?_ ?_
      | refine LeO.bind ?_ (fun _ => ?_)
theorem railplanlaw41_versions.mono : ∀ a0 k, LeO (railplanlaw41_versions.f k a0) (railplanlaw41_versions.f (k + 1) a0) := by
  intro a0 k
  obtain ⟨ih0, ih1⟩ := railplanlaw41_versions.mono_l k
  unfold railplanlaw41_versions.f
  repeat' first
      | (with_reducible exact ih0 _ _ _ _ _)
      | (with_reducible exact ih1 _ _ _ _ _ _ _ _)
      | (with_reducible exact LeO.refl _)
      | (with_reducible exact LeO.none _)
      | (with_reducible refine LeO.ite ?_ ?_)
      | (with_reducible refine LeO.bind ?_ (fun _ => ?_))
      | exact ih0 _ _ _ _ _
      | exact ih1 _ _ _ _ _ _ _ _
      | exact LeO.none _
      | refine LeO.ite ?_ ?_
      | refine LeO.bind ?_ (fun _ => ?_)
def railplanlaw41_versions.T12 : Bool × List (List Nat × List Nat) := (true, [([], []), ([0], [0]), ([], []), ([2], [2]), ([3], [3]), ([4], [4]), ([5], [5]), ([1, 6], [1, 6]), ([0, 1, 2, 3, 4, 5, 6, 7], []), ([8, 7, 3, 0, 1, 2, 3, 4, 5, 6, 7], [7, 8])])
def railplanlaw41_versions.B12 : List Nat := [0, 1, 0, 4, 12, 28, 60, 127, 255, 511]
theorem railplanlaw41_versions.tab12 : rtab .any (opsOf Try.f17 12) = railplanlaw41_versions.T12 := by kernel_rfl
theorem railplanlaw41_versions.bits12 : waitsOk railplanlaw41_versions.T12.2 railplanlaw41_versions.B12 = true := by kernel_rfl
set_option maxHeartbeats 8000000 in
set_option maxRecDepth 100000 in
theorem railplanlaw41_versions.calls (k : Nat) (A0 : Option Addr) (c0 : Nat) (l0 : List Int) (r : List (S23)) (w : World) (hr0 : Kd.C (Kd.int .i64) w A0 l0.length l0) (hc0 : l0.length ≤ c0) (h : railplanlaw41_versions.f k l0 = some r) :
    Calls Try.prog 17 #[.slice A0 l0.length c0] w fun e w' => ∃ v0_ : Value, e = .returned (v0_) ∧ Kd.R k23 23 w' w.heap.size (fun _ => True) v0_ r ∧ Below w.heap.size w w' := by
  have hu23 := Try.underlying23
  have HR0 := Aside0.mk hr0
  have HC0 := Aside0.mk hc0
  clear hr0 hc0
  have HB := Aside0.mk (Below.refl w.heap.size w)
  have H : ((railplankeep_From.f l0).bind fun bt210 => ((railplankeep_Source_Next.f bt210.1 bt210.2 3).bind fun bt213 => ((railplankeep_Source_Next.f bt210.1 bt213.2 6).bind fun bt215 => (railplanlaw41_versions.l0 k ([] : List (S23)) bt213.1 bt215.1 bt210.1 bt215.2)))) = some r := h
  clear h
  replace H := Option.bind_eq_some_iff.mp H
  obtain ⟨⟨t210, t211⟩, A20, H⟩ := H
  replace H : ((railplankeep_Source_Next.f t210 t211 3).bind fun bt213 => ((railplankeep_Source_Next.f t210 bt213.2 6).bind fun bt215 => (railplanlaw41_versions.l0 k ([] : List (S23)) bt213.1 bt215.1 t210 bt215.2))) = some r := H
  have A2 := Aside0.mk A20
  clear A20
  replace H := Option.bind_eq_some_iff.mp H
  obtain ⟨⟨t213, t214⟩, A30, H⟩ := H
  replace H : ((railplankeep_Source_Next.f t210 t214 6).bind fun bt215 => (railplanlaw41_versions.l0 k ([] : List (S23)) t213 bt215.1 t210 bt215.2)) = some r := H
  have A3 := Aside0.mk A30
  clear A30
  replace H := Option.bind_eq_some_iff.mp H
  obtain ⟨⟨t215, t216⟩, A40, H⟩ := H
  replace H : (railplanlaw41_versions.l0 k ([] : List (S23)) t213 t215 t210 t216) = some r := H
  have A4 := Aside0.mk A40
  clear A40
  have H' := Aside0.mk H
  clear H
  go_enter Try.func17, Try.ntmps17
  go_wp2_with (first | ((with_reducible refine gate_callee (f := 35) rfl ?_); refine goesL_ (some 10) rfl rfl Try.func35 (by kernel_rfl) rfl #[.slice A0 l0.length c0] rfl (by (try simp only [List.map_toArray, List.map_cons, List.map_nil]); first | done | rfl | (simp only [List.length_drop, List.length_take]; rfl)) ?_; (with_reducible refine (railplankeep_From.calls _ _ l0 t210 t211 w _ ?side1 ?side2 ?side3 A2.out).mono ?_); (case side1 => repeat (first | (with_reducible first | exact HB.out | apply below_alloc | apply pw_below_drewN | apply below_drew1) | exact HB.out)); (case side2 => exact HR0.out); (case side3 => exact HC0.out); rintro e w5 ⟨g212, rfl, hi, hb, hb2⟩; refine ⟨_, rfl, ?_⟩; have n0_ := Aside0.mk (hb); have n1_ := Aside0.mk (hi); clear HB; have HB := n0_; have HI212 := n1_; clear n0_ n1_; (try clear hb); (try clear hb2); (try clear hk); (try clear hi)) | ((with_reducible refine gate_callee (f := 36) rfl ?_); refine goesL_ (some 12) rfl rfl Try.func36 (by kernel_rfl) rfl #[.pointer (some ⟨g212, 0, none⟩), .int .i64 3] rfl (by (try simp only [List.map_toArray, List.map_cons, List.map_nil]); first | done | rfl | (simp only [List.length_drop, List.length_take]; rfl)) ?_; (with_reducible refine (railplankeep_Source_Next.calls g212 t210 t211 3 t213 t214 w _ ?side1 ?side2 A3.out).mono ?_); (case side1 => repeat (first | (with_reducible first | exact HI212.out | apply IsS70.alloc | apply IsS70.drewN | apply IsS70.drew | apply IsS70.set_1) | exact HI212.out)); (case side2 => repeat (first | (with_reducible first | exact HB.out | apply below_alloc | apply pw_below_drewN | apply below_drew1 | refine below_set ?_ (IsS70.ge HI212.out)) | exact HB.out)); rintro e w6 ⟨rfl, hi, hb, hk⟩; refine ⟨_, rfl, ?_⟩; have n0_ := Aside0.mk (hb); have n1_ := Aside0.mk (hi); clear HB; clear HI212; have HB := n0_; have HI212 := n1_; clear n0_ n1_; (try clear hb); (try clear hb2); (try clear hk); (try clear hi)) | ((with_reducible refine gate_callee (f := 36) rfl ?_); refine goesL_ (some 14) rfl rfl Try.func36 (by kernel_rfl) rfl #[.pointer (some ⟨g212, 0, none⟩), .int .i64 6] rfl (by (try simp only [List.map_toArray, List.map_cons, List.map_nil]); first | done | rfl | (simp only [List.length_drop, List.length_take]; rfl)) ?_; (with_reducible refine (railplankeep_Source_Next.calls g212 t210 t214 6 t215 t216 w _ ?side1 ?side2 A4.out).mono ?_); (case side1 => repeat (first | (with_reducible first | exact HI212.out | apply IsS70.alloc | apply IsS70.drewN | apply IsS70.drew | apply IsS70.set_1) | exact HI212.out)); (case side2 => repeat (first | (with_reducible first | exact HB.out | apply below_alloc | apply pw_below_drewN | apply below_drew1 | refine below_set ?_ (IsS70.ge HI212.out)) | exact HB.out)); rintro e w7 ⟨rfl, hi, hb, hk⟩; refine ⟨_, rfl, ?_⟩; have n0_ := Aside0.mk (hb); have n1_ := Aside0.mk (hi); clear HB; clear HI212; have HB := n0_; have HI212 := n1_; clear n0_ n1_; (try clear hb); (try clear hb2); (try clear hk); (try clear hi)))
  go_loopg [4, 5, 6] k (fun kq v4 v5 v6 w' => ∃ (x4_1 : List (S23)) (x5_1 : Int) (x6_1 : Int) (x213001_1 : Int), v5 = .int .i64 x5_1 ∧ v6 = .int .i64 x6_1 ∧ Aside0 (railplanlaw41_versions.l0 kq x4_1 x5_1 x6_1 t210 x213001_1 = some r) ∧ Aside0 (kq ≤ k) ∧ Aside0 (Kd.R k23 23 w' w.heap.size (fun _ => True) v4 x4_1) ∧ Aside0 (IsS70 w w' g212 t210 x213001_1) ∧ Aside0 (Below w.heap.size w w'))
  case atStart => exact ⟨(([] : List (S23))), (t213), (t215), (t216), (by first | rfl | (simp; done) | (simp [*]; done)), (by first | rfl | (simp; done) | (simp [*]; done)), H', ⟨Nat.le_refl _⟩, ⟨by first | exact Kd.R_nil _ _ _ _ _ | exact Kd.N_nil _ _ _ _ _ | exact Kd.V_nil _ _ _ _ _ | exact Kd.Q_nil _ _ _ _ _ | exact Kd.S_nil _ _ _ _ _⟩, ⟨by repeat (first | (with_reducible first | exact HI212.out | apply IsS70.alloc | apply IsS70.drewN | apply IsS70.drew | apply IsS70.set_1) | exact HI212.out)⟩, ⟨by repeat (first | (with_reducible first | exact HB.out | apply below_alloc | apply pw_below_drewN | apply below_drew1 | refine below_set ?_ (IsS70.ge HI212.out)) | exact HB.out)⟩⟩
  case round =>
    clear H'
    try clear c1
    try clear p2
    try clear c3
    obtain ⟨x4_1, x5_1, x6_1, x213001_1, rfl, rfl, HA, HK1, HO_4, HI212, HB⟩ := hrel
    cases gk with
    | zero => exact absurd HA.out (by simp [railplanlaw41_versions.l0])
    | succ k1 =>
      have H := HA.out
      clear HA
      simp only [railplanlaw41_versions.l0] at H
      by_cases c8 : x6_1 > 0
      · rw [if_pos c8] at H
        have c8b0 : decide (0 < x6_1) = true := decide_eq_true c8
        clear c8
        replace H := Option.bind_eq_some_iff.mp H
        obtain ⟨⟨t217, t218⟩, A90, H⟩ := H
        replace H : ((railplankeep_Source_Next.f t210 t218 9).bind fun bt220 => (railplanlaw41_versions.l1 k1 x4_1 (wrap64 (x5_1 + t217)) x6_1 bt220.1 t210 bt220.2 (wrap64 (x5_1 + t217)) (⟨#[]⟩ : ByteArray))) = some r := H
        have A9 := Aside0.mk A90
        clear A90
        replace H := Option.bind_eq_some_iff.mp H
        obtain ⟨⟨t220, t221⟩, A100, H⟩ := H
        replace H : (railplanlaw41_versions.l1 k1 x4_1 (wrap64 (x5_1 + t217)) x6_1 t220 t210 t221 (wrap64 (x5_1 + t217)) (⟨#[]⟩ : ByteArray)) = some r := H
        have A10 := Aside0.mk A100
        clear A100
        have H' := Aside0.mk H
        clear H
        go_wp2_with (first | ((with_reducible refine gate_callee (f := 36) rfl ?_); refine goesL_ (some 21) rfl rfl Try.func36 (by kernel_rfl) rfl #[.pointer (some ⟨g212, 0, none⟩), .int .i64 4] rfl (by (try simp only [List.map_toArray, List.map_cons, List.map_nil]); first | done | rfl | (simp only [List.length_drop, List.length_take]; rfl)) ?_; (with_reducible refine (railplankeep_Source_Next.calls g212 t210 x213001_1 4 t217 t218 w _ ?side1 ?side2 A9.out).mono ?_); (case side1 => repeat (first | (with_reducible first | exact HI212.out | apply IsS70.alloc | apply IsS70.drewN | apply IsS70.drew | apply IsS70.set_1) | exact HI212.out)); (case side2 => repeat (first | (with_reducible first | exact HB.out | apply below_alloc | apply pw_below_drewN | apply below_drew1 | refine below_set ?_ (IsS70.ge HI212.out)) | exact HB.out)); rintro e w11 ⟨rfl, hi, hb, hk⟩; refine ⟨_, rfl, ?_⟩; have n0_ := Aside0.mk (Kd.R_mono (Kd.R_keep (IsS70.apart (show IsS70 w _ g212 t210 x213001_1 from by repeat (first | (with_reducible first | exact HI212.out | apply IsS70.alloc | apply IsS70.drewN | apply IsS70.drew | apply IsS70.set_1) | exact HI212.out)) (by (with_reducible repeat (first | apply Kd.R_alloc | apply Kd.R_drewN | apply Kd.R_drew)); exact HO_4.out) (by decide)) hk (fun _ h => h.2)) (fun _ h => h.1)); have n1_ := Aside0.mk (hb); have n2_ := Aside0.mk (hi); clear HO_4; clear HB; clear HI212; have HO_4 := n0_; have HB := n1_; have HI212 := n2_; clear n0_ n1_ n2_; (try clear hb); (try clear hb2); (try clear hk); (try clear hi)) | ((with_reducible refine gate_dst (N := 7) rfl ?_); refine box_event ?hg (N := 7) ?hd (cs := #[.int .i64 0, .string (⟨#[]⟩ : ByteArray)]) (t := 23) ?hr ?_; (case hd => rfl); (case hg => rfl); (case hr => first | (go_simp; done) | (go_simp; rfl)); intro gb219 hg w12 hbox hb; have n0_ := Aside0.mk (Kd.R_below (Kd.R_elderB (by (with_reducible repeat (first | apply Kd.R_alloc | apply Kd.R_drewN | apply Kd.R_drew)); exact HO_4.out) gb219 (Nat.le_of_eq hg.symm)) hb); have n1_ := Aside0.mk (IsS70.below (by repeat (first | (with_reducible first | exact HI212.out | apply IsS70.alloc | apply IsS70.drewN | apply IsS70.drew | apply IsS70.set_1) | exact HI212.out)) hb); have n2_ := Aside0.mk (below_step (by repeat (first | (with_reducible first | exact HB.out | apply below_alloc | apply pw_below_drewN | apply below_drew1 | refine below_set ?_ (IsS70.ge HI212.out)) | exact HB.out)) hb); have n3_ := Aside0.mk (hbox); have n4_ := Aside0.mk ((by rw [hg]; exact (below_size (by repeat (first | (with_reducible first | exact HB.out | apply below_alloc | apply pw_below_drewN | apply below_drew1 | refine below_set ?_ (IsS70.ge HI212.out)) | exact HB.out))) : w.heap.size ≤ gb219)); have n5_ := Aside0.mk ((by rw [hg]; exact (below_size (by repeat (first | (with_reducible first | exact HB.out | apply below_alloc | apply pw_below_drewN | apply below_drew1 | refine below_set ?_ (IsS70.ge HI212.out)) | exact HB.out))) : w.heap.size ≤ gb219)); have n6_ := Aside0.mk ((by rw [hg]; exact Nat.ne_of_lt (IsS70.lt (show IsS70 w _ g212 t210 t218 from by repeat (first | (with_reducible first | exact HI212.out | apply IsS70.alloc | apply IsS70.drewN | apply IsS70.drew | apply IsS70.set_1) | exact HI212.out))) : g212 ≠ gb219)); have n7_ := Aside0.mk ((by rw [hg]; exact Nat.ne_of_gt (IsS70.lt (show IsS70 w _ g212 t210 t218 from by repeat (first | (with_reducible first | exact HI212.out | apply IsS70.alloc | apply IsS70.drewN | apply IsS70.drew | apply IsS70.set_1) | exact HI212.out))) : gb219 ≠ g212)); clear HO_4; clear HI212; clear HB; have HO_4 := n0_; have HI212 := n1_; have HB := n2_; have BK219 := n3_; have GW219 := n4_; have GE219 := n5_; have NB212_219 := n6_; have NB219_212 := n7_; clear n0_ n1_ n2_ n3_ n4_ n5_ n6_ n7_; clear hb hbox hg; have hnb13 := NB219_212.out; have hnc13 := NB212_219.out; have hcz14_0 : w12.cell? ⟨gb219, 0, none⟩ = some (.int .i64 0) := (blk_cell BK219.out 0).trans rfl; have hcz14_1 : w12.cell? ⟨gb219, 1, none⟩ = some (.string (⟨#[]⟩ : ByteArray)) := (blk_cell BK219.out 1).trans rfl; have hfz14_0 := blk_frozen BK219.out 0; have hfz14_1 := blk_frozen BK219.out 1) | ((with_reducible refine gate_callee (f := 36) rfl ?_); refine goesL_ (some 26) rfl rfl Try.func36 (by kernel_rfl) rfl #[.pointer (some ⟨g212, 0, none⟩), .int .i64 9] rfl (by (try simp only [List.map_toArray, List.map_cons, List.map_nil]); first | done | rfl | (simp only [List.length_drop, List.length_take]; rfl)) ?_; (with_reducible refine (railplankeep_Source_Next.calls g212 t210 t218 9 t220 t221 w _ ?side1 ?side2 A10.out).mono ?_); (case side1 => repeat (first | (with_reducible first | exact HI212.out | apply IsS70.alloc | apply IsS70.drewN | apply IsS70.drew | apply IsS70.set_1 | refine IsS70.far ?_ NB212_219.out _) | exact HI212.out)); (case side2 => repeat (first | (with_reducible first | exact HB.out | apply below_alloc | apply pw_below_drewN | apply below_drew1 | refine below_set ?_ (IsS70.ge HI212.out) | refine below_set ?_ GE219.out) | exact HB.out)); rintro e w15 ⟨rfl, hi, hb, hk⟩; refine ⟨_, rfl, ?_⟩; have n0_ := Aside0.mk (Kd.R_mono (Kd.R_keep (IsS70.apart (show IsS70 w _ g212 t210 t218 from by repeat (first | (with_reducible first | exact HI212.out | apply IsS70.alloc | apply IsS70.drewN | apply IsS70.drew | apply IsS70.set_1 | refine IsS70.far ?_ NB212_219.out _) | exact HI212.out)) (by (with_reducible repeat (first | apply Kd.R_alloc | apply Kd.R_drewN | apply Kd.R_drew)); exact (Kd.R_mono (Kd.R_far (p := ⟨gb219, 1, none⟩) (Kd.R_far (p := ⟨gb219, 0, none⟩) (Kd.R_mono HO_4.out (fun k_ hk => (⟨hk, hk.2⟩ : _ ∧ k_ ≠ gb219))) (fun _ hk => hk.2) (.int .i64 (wrap64 (x5_1 + t217)))) (fun _ hk => hk.2) (.string (⟨#[]⟩ : ByteArray))) (fun _ h_ => h_.1))) (by decide)) hk (fun _ h => h.2)) (fun _ h => h.1)); have n1_ := Aside0.mk (KeepBut.blk hk (g' := gb219) (o := .cells #[.int .i64 (wrap64 (x5_1 + t217)), .string (⟨#[]⟩ : ByteArray)] 23 (0, 0)) (by (with_reducible repeat (first | refine blk_drewN ?_ _ | refine blk_drew ?_ | refine blk_alloc ?_ _)); refine blk_put (cs := #[.int .i64 (wrap64 (x5_1 + t217)), .string (⟨#[]⟩ : ByteArray)]) ?_ 1 _ rfl; (with_reducible repeat (first | refine blk_drewN ?_ _ | refine blk_drew ?_ | refine blk_alloc ?_ _)); refine blk_put (cs := #[.int .i64 0, .string (⟨#[]⟩ : ByteArray)]) ?_ 0 _ rfl; (with_reducible repeat (first | refine blk_drewN ?_ _ | refine blk_drew ?_ | refine blk_alloc ?_ _)); exact BK219.out) NB219_212.out (by simp)); have n2_ := Aside0.mk (hb); have n3_ := Aside0.mk (hi); clear HO_4; clear BK219; clear HB; clear HI212; have HO_4 := n0_; have BK219 := n1_; have HB := n2_; have HI212 := n3_; clear n0_ n1_ n2_ n3_; (try clear hb); (try clear hb2); (try clear hk); (try clear hi)))
        go_loopg [8] k1 (fun kq v8 w' => ∃ (x8_2 : Int) (x213001_2 : Int) (x220001_2 : ByteArray), v8 = .int .i64 x8_2 ∧ Aside0 (railplanlaw41_versions.l1 kq x4_1 (wrap64 (x5_1 + t217)) x6_1 x8_2 t210 x213001_2 (wrap64 (x5_1 + t217)) x220001_2 = some r) ∧ Aside0 (kq ≤ k1) ∧ Aside0 (Kd.R k23 23 w' w.heap.size (fun k_ => k_ ≠ gb219) u4 x4_1) ∧ Aside0 (w'.heap[gb219]? = some (.cells #[.int .i64 (wrap64 (x5_1 + t217)), .string x220001_2] 23 (0, 0))) ∧ Aside0 (IsS70 w w' g212 t210 x213001_2) ∧ Aside0 (Below w.heap.size w w'))
        case atStart => exact ⟨(t220), (t221), ((⟨#[]⟩ : ByteArray)), (by first | rfl | (simp; done) | (simp [*]; done)), H', ⟨Nat.le_refl _⟩, ⟨by (with_reducible repeat (first | apply Kd.R_alloc | apply Kd.R_drewN | apply Kd.R_drew)); exact Kd.R_mono HO_4.out (fun _ hk => hk.2)⟩, ⟨by (with_reducible repeat (first | refine blk_drewN ?_ _ | refine blk_drew ?_ | refine blk_alloc ?_ _)); exact BK219.out⟩, ⟨by repeat (first | (with_reducible first | exact HI212.out | apply IsS70.alloc | apply IsS70.drewN | apply IsS70.drew | apply IsS70.set_1 | refine IsS70.far ?_ NB212_219.out _) | exact HI212.out)⟩, ⟨by repeat (first | (with_reducible first | exact HB.out | apply below_alloc | apply pw_below_drewN | apply below_drew1 | refine below_set ?_ (IsS70.ge HI212.out) | refine below_set ?_ GE219.out) | exact HB.out)⟩⟩
        case round =>
          clear H'
          try clear c1
          try clear p2
          try clear c3
          try clear p6
          try clear c8
          try clear c8b0
          try clear c13
          try clear hcz14_0
          try clear hcz14_1
          try clear hfz14_0
          try clear hfz14_1
          try clear p2
          obtain ⟨x8_2, x213001_2, x220001_2, rfl, HA, HK2, HO_4, BK219, HI212, HB⟩ := hrel
          cases gk with
          | zero => exact absurd HA.out (by simp [railplanlaw41_versions.l1])
          | succ k2 =>
            have H := HA.out
            clear HA
            simp only [railplanlaw41_versions.l1] at H
            by_cases c16 : x8_2 > 0
            · rw [if_pos c16] at H
              have c16b0 : decide (0 < x8_2) = true := decide_eq_true c16
              clear c16
              replace H := Option.bind_eq_some_iff.mp H
              obtain ⟨⟨t222, t223⟩, A170, H⟩ := H
              replace H : ((some (([(t222) % 256] : List Int) : List Int)).bind fun y224 => (if x220001_2.size + (strOfNums y224).size ≤ 9223372036854775807 then (railplanlaw41_versions.l1 k2 x4_1 (wrap64 (x5_1 + t217)) x6_1 (wrap64 (x8_2 - 1)) t210 t223 (wrap64 (x5_1 + t217)) (x220001_2 ++ (strOfNums y224))) else (none))) = some r := H
              have A17 := Aside0.mk A170
              clear A170
              obtain ⟨y224, hy224⟩ : ∃ y_ : List Int, y_ = (([(t222) % 256] : List Int)) := ⟨_, rfl⟩
              replace H : (if x220001_2.size + (strOfNums y224).size ≤ 9223372036854775807 then (railplanlaw41_versions.l1 k2 x4_1 (wrap64 (x5_1 + t217)) x6_1 (wrap64 (x8_2 - 1)) t210 t223 (wrap64 (x5_1 + t217)) (x220001_2 ++ (strOfNums y224))) else (none)) = some r := by first | (rw [hy224]; with_reducible exact H) | (have H2_ := (Option.bind_some _ _).symm.trans H; rw [hy224]; with_reducible exact H2_) | (have H2_ := (Option.bind_some _ _).symm.trans H; with_reducible exact H2_) | with_reducible exact H | (rw [hy224]; exact H) | exact H
              have Ny224 := Aside0.mk hy224
              clear hy224
              by_cases c18 : x220001_2.size + (strOfNums y224).size ≤ 9223372036854775807
              · rw [if_pos c18] at H
                have c18b0 := eq_true c18
                have c18b1 : decide (x220001_2.size + (strOfNums y224).size ≤ 9223372036854775807) = true := decide_eq_true c18
                try have c18b2 : (9223372036854775807 < x220001_2.size + (strOfNums y224).size) = False := eq_false (Nat.not_lt.2 c18)
                have H' := Aside0.mk H
                clear H
                try go_wp2
                have n0_ := Aside0.mk (Kd.R_drew HO_4.out)
                have n1_ := Aside0.mk (blk_drew BK219.out)
                have n2_ := Aside0.mk (IsS70.drew HI212.out)
                have n3_ := Aside0.mk (below_drew1 HB.out)
                clear HO_4
                clear BK219
                clear HI212
                clear HB
                have HO_4 := n0_
                have BK219 := n1_
                have HI212 := n2_
                have HB := n3_
                clear n0_ n1_ n2_ n3_
                refine start_ (n := 10) (S := fun w' => w'.cell? ⟨gb219, 0, none⟩ = some (.int .i64 (wrap64 (x5_1 + t217))) ∧ w'.cell? ⟨gb219, 1, none⟩ = some (.string x220001_2)) (ds := [9]) #[false, false, false, false, false, false, false, false, false, false] (by kernel_rfl) rfl rfl ⟨(blk_cell BK219.out 0).trans rfl, (blk_cell BK219.out 1).trans rfl⟩ (fun hHeld => ?_); refine with_tabW railplanlaw41_versions.tab12 railplanlaw41_versions.bits12 (fun HT_ HW_ => ?_)
                generalize wr.drew = w19 at HO_4 BK219 HI212 HB hHeld ⊢
                refine pure_ (i := 0) (N := some 31) (v := ?_) (a' := ?_) #[true, false, false, false, false, false, false, false, false, false] rfl rfl (any_of HT_.out (by kernel_rfl)) (fun _ _ _ h => h) (Or.inl ⟨by rfl, ?_⟩) ?_ ?_
                rotate_left
                · intro w'
                  go_simp
                  with_reducible rfl
                rotate_left
                · simp only [Act.put, List.setIfInBounds_toArray, List.set_cons_zero, List.set_cons_succ, i64_w, i32_w]
                  rfl
                refine pure_ (i := 2) (N := some 33) (v := ?_) (a' := ?_) #[true, false, true, false, false, false, false, false, false, false] rfl rfl (any_of HT_.out (by kernel_rfl)) (fun _ _ _ h => h) (Or.inl ⟨by rfl, ?_⟩) ?_ ?_
                rotate_left
                · intro w'
                  go_simp
                  with_reducible rfl
                rotate_left
                · simp only [Act.put, List.setIfInBounds_toArray, List.set_cons_zero, List.set_cons_succ, i64_w, i32_w]
                  rfl
                refine take_ (i := 1) (N := some 32) (v := ?_) (a' := ?_) #[true, true, true, false, false, false, false, false, false, false] rfl rfl (take_ofW HT_.out HW_.out (by kernel_rfl)) (fun _ _ _ h => h) (Or.inl ⟨by rfl, ?_⟩) hHeld ?_ ?_
                rotate_left
                · rintro w' ⟨s0, s1⟩
                  go_simp
                  with_reducible rfl
                rotate_left
                · simp only [Act.put, List.setIfInBounds_toArray, List.set_cons_zero, List.set_cons_succ, i64_w, i32_w]
                  rfl
                refine one_ (i := 3) (N := some 34) #[true, true, true, true, false, false, false, false, false, false] rfl rfl (one_of HT_.out (by kernel_rfl)) (by decide) (fun K hK => ?_)
                refine goes_ Try.func36 (by kernel_rfl) rfl #[.pointer (some ⟨g212, 0, none⟩), .int .i64 256] (by rfl) rfl rfl (by (try simp only [List.map_toArray, List.map_cons, List.map_nil]); first | done | rfl | (simp only [List.length_drop, List.length_take]; rfl)) ?_
                with_reducible refine (railplankeep_Source_Next.calls g212 t210 x213001_2 256 t222 t223 w _ ?side1 ?side2 A17.out).mono ?_
                (case side1 => repeat (first | (with_reducible first | exact HI212.out | apply IsS70.alloc | apply IsS70.drewN | apply IsS70.drew | apply IsS70.set_1 | refine IsS70.far ?_ NB212_219.out _) | exact HI212.out))
                (case side2 => repeat (first | (with_reducible first | exact HB.out | apply below_alloc | apply pw_below_drewN | apply below_drew1 | refine below_set ?_ (IsS70.ge HI212.out) | refine below_set ?_ GE219.out) | exact HB.out))
                rintro e w20 ⟨rfl, hi, hb, hk⟩
                refine ⟨_, rfl, ?_⟩
                have n0_ := Aside0.mk (Kd.R_mono (Kd.R_keep (IsS70.apart (show IsS70 w _ g212 t210 x213001_2 from by repeat (first | (with_reducible first | exact HI212.out | apply IsS70.alloc | apply IsS70.drewN | apply IsS70.drew | apply IsS70.set_1 | refine IsS70.far ?_ NB212_219.out _) | exact HI212.out)) (by (with_reducible repeat (first | apply Kd.R_alloc | apply Kd.R_drewN | apply Kd.R_drew)); exact HO_4.out) (by decide)) hk (fun _ h => h.2)) (fun _ h => h.1))
                have n1_ := Aside0.mk (KeepBut.blk hk (g' := gb219) (o := .cells #[.int .i64 (wrap64 (x5_1 + t217)), .string x220001_2] 23 (0, 0)) (by (with_reducible repeat (first | refine blk_drewN ?_ _ | refine blk_drew ?_ | refine blk_alloc ?_ _)); exact BK219.out) NB219_212.out (by simp))
                have n2_ := Aside0.mk (hb)
                have n3_ := Aside0.mk (hi)
                clear HO_4
                clear BK219
                clear HB
                clear HI212
                have HO_4 := n0_
                have BK219 := n1_
                have HB := n2_
                have HI212 := n3_
                clear n0_ n1_ n2_ n3_
                (try clear hb)
                (try clear hb2)
                (try clear hk)
                (try clear hi)
                refine hK.out _ _ ⟨(blk_cell BK219.out 0).trans rfl, (blk_cell BK219.out 1).trans rfl⟩ (fun hHeld => ?_)
                clear hK K
                refine norm_ (a' := ?_) ?_ ?_
                rotate_left
                · show Act.put _ (some 34) _ = _
                  simp only [Act.put, List.setIfInBounds_toArray, List.set_cons_zero, List.set_cons_succ, i64_w, i32_w]
                  rfl
                refine pure_ (i := 4) (N := some 35) (v := ?_) (a' := ?_) #[true, true, true, true, true, false, false, false, false, false] rfl rfl (any_of HT_.out (by kernel_rfl)) (fun _ _ _ h => h) (Or.inl ⟨by rfl, ?_⟩) ?_ ?_
                rotate_left
                · intro w'
                  go_simp
                  with_reducible rfl
                rotate_left
                · simp only [Act.put, List.setIfInBounds_toArray, List.set_cons_zero, List.set_cons_succ, i64_w, i32_w]
                  rfl
                refine one_ (i := 5) (N := some 36) #[true, true, true, true, true, true, false, false, false, false] rfl rfl (one_of HT_.out (by kernel_rfl)) (by decide) (fun K hK => ?_)
                refine Kd.R_lit_step (Kd.int .u8) _ 5 ?hg (N := 36) ?hd (xs := ([(t222) % 256] : List Int)) (inner := [.int .u8 ((t222) % 256)]) (ok := fun _ => True) (okp := fun _ => True) ?hr ?hp (fun _ hk => hk) trivial (Below.refl _ _) (Nat.le_refl _) (by simp) ?_; (case hd => rfl); (case hg => rfl); (case hr => first | (go_simp; done) | (go_simp; rfl)); (case hp => exact (Reps.one (show Kd.M (Kd.int .u8) _ _ _ ((t222) % 256) [.int .u8 ((t222) % 256)] from rfl) (Reps.none _ _)))
                intro v225 w21 ho22 hb hg_ hnew_
                clear hg_ hnew_
                (first | rw [← Ny224.out] at ho22 | (simp only [Int.reduceToNat] at ho22; rw [← Ny224.out] at ho22))
                have n0_ := Aside0.mk (Kd.R_below (by (with_reducible repeat (first | apply Kd.R_alloc | apply Kd.R_drewN | apply Kd.R_drew)); exact HO_4.out) hb)
                have n1_ := Aside0.mk (Kd.R_lower ho22 (below_size (by repeat (first | (with_reducible first | exact HB.out | apply below_alloc | apply pw_below_drewN | apply below_drew1 | refine below_set ?_ (IsS70.ge HI212.out) | refine below_set ?_ GE219.out) | exact HB.out))))
                have n2_ := Aside0.mk (blk_below (g := gb219) (o := .cells #[.int .i64 (wrap64 (x5_1 + t217)), .string x220001_2] 23 (0, 0)) (by (with_reducible repeat (first | refine blk_drewN ?_ _ | refine blk_drew ?_ | refine blk_alloc ?_ _)); exact BK219.out) hb)
                have n3_ := Aside0.mk (IsS70.below (by repeat (first | (with_reducible first | exact HI212.out | apply IsS70.alloc | apply IsS70.drewN | apply IsS70.drew | apply IsS70.set_1 | refine IsS70.far ?_ NB212_219.out _) | exact HI212.out)) hb)
                have n4_ := Aside0.mk (below_step (by repeat (first | (with_reducible first | exact HB.out | apply below_alloc | apply pw_below_drewN | apply below_drew1 | refine below_set ?_ (IsS70.ge HI212.out) | refine below_set ?_ GE219.out) | exact HB.out)) hb)
                clear HO_4
                clear BK219
                clear HI212
                clear HB
                have HO_4 := n0_
                have HO226 := n1_
                have BK219 := n2_
                have HI212 := n3_
                have HB := n4_
                clear n0_ n1_ n2_ n3_ n4_
                clear hb ho22
                refine hK.out _ _ ⟨(blk_cell BK219.out 0).trans rfl, (blk_cell BK219.out 1).trans rfl⟩ (fun hHeld => ?_)
                clear hK K
                refine norm_ (a' := ?_) ?_ ?_
                rotate_left
                · show Act.put _ (some 36) _ = _
                  simp only [Act.put, List.setIfInBounds_toArray, List.set_cons_zero, List.set_cons_succ, i64_w, i32_w]
                  rfl
                refine one_ (i := 6) (N := some 37) #[true, true, true, true, true, true, true, false, false, false] rfl rfl (one_of HT_.out (by kernel_rfl)) (by decide) (fun K hK => ?_)
                have hcv23 := own_string (P := Try.prog) Try.underlying58 Try.underlying5 Try.underlying9 (Kd.own_of_R HO226.out)
                refine value_ (w1 := ?_) (v := ?_) (by rfl) rfl ?_ ?_
                rotate_left 2
                · go_simp
                  constructor
                  · rfl
                  · rfl
                clear hcv23
                refine hK.out _ _ ⟨(blk_cell BK219.out 0).trans rfl, (blk_cell BK219.out 1).trans rfl⟩ (fun hHeld => ?_)
                clear hK K
                refine norm_ (a' := ?_) ?_ ?_
                rotate_left
                · show Act.put _ (some 37) _ = _
                  simp only [Act.put, List.setIfInBounds_toArray, List.set_cons_zero, List.set_cons_succ, i64_w, i32_w]
                  rfl
                refine pure_ (i := 7) (N := some 38) (v := ?_) (a' := ?_) #[true, true, true, true, true, true, true, true, false, false] rfl rfl (any_of HT_.out (by kernel_rfl)) (fun _ _ _ h => h) (Or.inl ⟨by rfl, ?_⟩) ?_ ?_
                rotate_left
                · intro w'
                  go_simp
                  first | with_reducible rfl | (rw [if_neg (by simp only [decide_eq_true_eq, eq_iff_iff, iff_true, iff_false, ByteArray.size_append, ByteArray.size_extract] at *; omega)])
                rotate_left
                · simp only [Act.put, List.setIfInBounds_toArray, List.set_cons_zero, List.set_cons_succ, i64_w, i32_w]
                  rfl
                refine pure_ (i := 8) (N := some 39) (v := ?_) (a' := ?_) #[true, true, true, true, true, true, true, true, true, false] rfl rfl (any_of HT_.out (by kernel_rfl)) (fun _ _ _ h => h) (Or.inl ⟨by rfl, ?_⟩) ?_ ?_
                rotate_left
                · intro w'
                  go_simp
                  with_reducible rfl
                rotate_left
                · simp only [Act.put, List.setIfInBounds_toArray, List.set_cons_zero, List.set_cons_succ, i64_w, i32_w]
                  rfl
                refine last_ (i := 9) (N := none) #[true, true, true, true, true, true, true, true, true, true] rfl rfl (one_of HT_.out (by kernel_rfl)) (by decide) (fun K hK => ?_)
                have hs24 : w21.cell? ⟨gb219, 1, none⟩ = some (.string x220001_2) := (blk_cell BK219.out 1).trans rfl
                have hfs24 := blk_frozen BK219.out 1
                refine skip_ (w1 := ?_) (by rfl) rfl ?_ ?_
                rotate_left
                · go_simp
                  rfl
                refine hK.out _ _ ?_
                clear hK K
                refine done_ (done_of HT_.out (by kernel_rfl)) ?_
                try go_wp2
                go_roundg k2
                case measure => have := HK1.out; have := HK2.out; omega
                case rel => exact ⟨(wrap64 (x8_2 - 1)), (t223), (x220001_2 ++ (strOfNums y224)), (by first | rfl | (simp; done) | (simp [*]; done)), H', ⟨by have := HK1.out; have := HK2.out; omega⟩, ⟨by (with_reducible repeat (first | apply Kd.R_alloc | apply Kd.R_drewN | apply Kd.R_drew)); exact Kd.R_mono (Kd.R_far (p := ⟨gb219, 1, none⟩) (Kd.R_mono HO_4.out (fun k_ hk => (⟨hk, hk⟩ : _ ∧ k_ ≠ gb219))) (fun _ hk => hk.2) (.string (x220001_2 ++ (strOfNums y224)))) (fun _ hk => hk.1)⟩, ⟨by (with_reducible repeat (first | refine blk_drewN ?_ _ | refine blk_drew ?_ | refine blk_alloc ?_ _)); refine blk_put (cs := #[.int .i64 (wrap64 (x5_1 + t217)), .string x220001_2]) ?_ 1 _ rfl; (with_reducible repeat (first | refine blk_drewN ?_ _ | refine blk_drew ?_ | refine blk_alloc ?_ _)); exact BK219.out⟩, ⟨by repeat (first | (with_reducible first | exact HI212.out | apply IsS70.alloc | apply IsS70.drewN | apply IsS70.drew | apply IsS70.set_1 | refine IsS70.far ?_ NB212_219.out _) | exact HI212.out)⟩, ⟨by repeat (first | (with_reducible first | exact HB.out | apply below_alloc | apply pw_below_drewN | apply below_drew1 | refine below_set ?_ (IsS70.ge HI212.out) | refine below_set ?_ GE219.out) | exact HB.out)⟩⟩
              · rw [if_neg c18] at H
                exact absurd H (by simp)
            · rw [if_neg c16] at H
              have c16b0 : decide (0 < x8_2) = false := decide_eq_false c16
              clear c16
              by_cases c25 : x4_1.length < 5864062014805
              · rw [if_pos c25] at H
                have LMc25 := Aside0.mk c25
                clear c25
                obtain ⟨y227, hy227⟩ : ∃ y_ : List (S23), y_ = (x4_1 ++ [(⟨(wrap64 (x5_1 + t217)), x220001_2⟩ : S23)]) := ⟨_, rfl⟩
                replace H : (railplanlaw41_versions.l0 k2 y227 (wrap64 (x5_1 + t217)) (wrap64 (x6_1 - 1)) t210 x213001_2) = some r := by first | (rw [hy227]; with_reducible exact H) | (have H2_ := (Option.bind_some _ _).symm.trans H; rw [hy227]; with_reducible exact H2_) | (have H2_ := (Option.bind_some _ _).symm.trans H; with_reducible exact H2_) | with_reducible exact H | (rw [hy227]; exact H) | exact H
                have Ny227 := Aside0.mk hy227
                clear hy227
                have H' := Aside0.mk H
                clear H
                have hnb26 := NB219_212.out
                have hnc26 := NB212_219.out
                have hcz27_0 : wr.cell? ⟨gb219, 0, none⟩ = some (.int .i64 (wrap64 (x5_1 + t217))) := (blk_cell BK219.out 0).trans rfl
                have hcz27_1 : wr.cell? ⟨gb219, 1, none⟩ = some (.string x220001_2) := (blk_cell BK219.out 1).trans rfl
                have hfz27_0 := blk_frozen BK219.out 0
                have hfz27_1 := blk_frozen BK219.out 1
                go_wp2_with (first | ((with_reducible refine gate_builtin (b := .append) (xs := #[.tmp 40, .tmp 42]) rfl ?_); at_builtin; refine Kd.R_append k23 (w0 := w) w.heap.size rfl (.tmp 40) (.tmp 42) 32 23 (.agg #[(.int .i64 0), (.string ⟨#[]⟩)]) 24 rfl Try.underlying32 info23 rfl (by decide) (by omega) u4 x4_1 (⟨(wrap64 (x5_1 + t217)), x220001_2⟩ : S23) [.int .i64 (wrap64 (x5_1 + t217)), .string x220001_2] (fun k_ => k_ ≠ gb219) (fun _ => False) rfl rfl ?aP (fun _ hk => hk.elim) ?aF ?aO ?aB ?aS ?aL ?_; (case aP => exact k23_mkM _ _ _ (⟨(wrap64 (x5_1 + t217)), x220001_2⟩ : S23)); (case aB => exact (by repeat (first | (with_reducible first | exact HB.out | apply below_alloc | apply pw_below_drewN | apply below_drew1 | refine below_set ?_ (IsS70.ge HI212.out) | refine below_set ?_ GE219.out) | exact HB.out))); (case aF => exact (fun k_ hk => Kd.freshB (g := gb219) (o := .cells #[.int .i64 (wrap64 (x5_1 + t217)), .string x220001_2] 23 (0, 0)) (by (with_reducible repeat (first | refine blk_drewN ?_ _ | refine blk_drew ?_ | refine blk_alloc ?_ _)); exact BK219.out) k_ hk)); (case aO => exact (by (with_reducible repeat (first | apply Kd.R_alloc | apply Kd.R_drewN | apply Kd.R_drew)); exact HO_4.out)); (case aS => exact (below_size (by repeat (first | (with_reducible first | exact HB.out | apply below_alloc | apply pw_below_drewN | apply below_drew1 | refine below_set ?_ (IsS70.ge HI212.out) | refine below_set ?_ GE219.out) | exact HB.out)))); (case aL => have := LMc25.out; omega); intro v228 w28 ho hb hg hat; rw [← Ny227.out] at ho; have n0_ := Aside0.mk (blk_grown (g := gb219) (o := .cells #[.int .i64 (wrap64 (x5_1 + t217)), .string x220001_2] 23 (0, 0)) (by (with_reducible repeat (first | refine blk_drewN ?_ _ | refine blk_drew ?_ | refine blk_alloc ?_ _)); exact BK219.out) hg (Kd.R_away HO_4.out (fun _ hk => hk))); have n1_ := Aside0.mk (IsS70.grown (by repeat (first | (with_reducible first | exact HI212.out | apply IsS70.alloc | apply IsS70.drewN | apply IsS70.drew | apply IsS70.set_1 | refine IsS70.far ?_ NB212_219.out _) | exact HI212.out)) hg (IsS70.own_ne HI212.out HO_4.out (by decide))); have n2_ := Aside0.mk (hb); have n3_ := Aside0.mk (ho); clear BK219; clear HI212; clear HB; clear HO_4; have BK219 := n0_; have HI212 := n1_; have HB := n2_; have HO229 := n3_; clear n0_ n1_ n2_ n3_; clear ho hb hg hat))
                go_roundg k2
                case measure => have := HK1.out; have := HK2.out; omega
                case rel => exact ⟨(y227), ((wrap64 (x5_1 + t217))), (wrap64 (x6_1 - 1)), (x213001_2), (by first | rfl | (simp; done) | (simp [*]; done)), (by first | rfl | (simp; done) | (simp [*]; done)), H', ⟨by have := HK1.out; have := HK2.out; omega⟩, ⟨by (with_reducible repeat (first | apply Kd.R_alloc | apply Kd.R_drewN | apply Kd.R_drew)); exact Kd.R_mono HO229.out (fun _ hk => trivial)⟩, ⟨by repeat (first | (with_reducible first | exact HI212.out | apply IsS70.alloc | apply IsS70.drewN | apply IsS70.drew | apply IsS70.set_1 | refine IsS70.far ?_ NB212_219.out _) | exact HI212.out)⟩, ⟨by repeat (first | (with_reducible first | exact HB.out | apply below_alloc | apply pw_below_drewN | apply below_drew1 | refine below_set ?_ (IsS70.ge HI212.out) | refine below_set ?_ GE219.out) | exact HB.out)⟩⟩
              · rw [if_neg c25] at H
                exact absurd H (by simp)
      · rw [if_neg c8] at H
        have c8b0 : decide (0 < x6_1) = false := decide_eq_false c8
        clear c8
        obtain rfl := Option.some.inj H
        simp only [Option.some.injEq, Prod.mk.injEq] at H
        obtain ⟨rfl⟩ := H
        go_wp2
        go_ret
        exact ⟨_, by first | rfl | (simp [errW_none, errW_some] <;> rfl) | (simp [*, errW_none, errW_some] <;> rfl), by (with_reducible repeat (first | apply Kd.R_alloc | apply Kd.R_drewN | apply Kd.R_drew)); exact HO_4.out, by repeat (first | (with_reducible first | exact HB.out | apply below_alloc | apply pw_below_drewN | apply below_drew1 | refine below_set ?_ (IsS70.ge HI212.out)) | exact HB.out)⟩

end Go.Proofs.Ytolckgeffmaakaa.X
