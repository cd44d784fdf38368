/- layout.into, layout.Hops. (Kd.R_append_step) -/
import Derived.Deep.RegionHeld3
import Derived.Deep.RegionWith
import Derived.Deep.DrawnRows
import Derived.Test.YtkegdgdkfbmabaaQEndsEq
import Derived.Test.YtkegdgdkfbmabaaQJoined
import Derived.Test.YtkegdgdkfbmabaaQCheck
import Derived.Test.YtkegdgdkfbmabaaX0
import Derived.Test.YtkegdgdkfbmabaaX5
import Derived.Test.YtkegdgdkfbmabaaQLinks
import Derived.Test.YtkegdgdkfbmabaaQNames
import Derived.Test.YtkegdgdkfbmabaaQSections
namespace Go.Proofs.Ytkegdgdkfbmabaa.X
open Go Go.RowKit Go.Maps Go.Proofs.YtkegdgdkfbmabaaW Go.Proofs.YtkegdgdkfbmabaaW.PrintWords Go.Proofs.YtkegdgdkfbmabaaW.PrintLast Go.Proofs.YtkegdgdkfbmabaaW.PrintMore
attribute [local go_sem ↓] Go.wp_at_zero Go.wp_at_succ
set_option linter.unusedVariables false
set_option linter.unusedSimpArgs false
/-- The direction of the step that enters a section at a side. -/
def intoD (side : Int) : Int := if side = 0 then 0 else 1
set_option maxHeartbeats 800000 in
set_option maxRecDepth 100000 in
theorem into_c (a b : Int) (w : World) : Calls Try.prog 25 #[.agg #[.int .i64 a, .int .i64 b]] w fun e w' => e = .returned (.agg #[.int .i64 a, .int .i64 (intoD b)]) ∧ Below w.heap.size w w' := by
  have hu := Try.underlying40
  have hu2 := Try.underlying59
  by_cases hb : b = 0
  · have hI : intoD b = 0 := if_pos hb
    rw [hI]
    have p1 : (b == 0) = true := by simp [hb]
    clear hI hb
    go_enter Try.func25, Try.ntmps25
    go_wp2
    (try simp only [Exit.inBlock, Exit.then])
    refine bodyPost_ret (results_cell_row rfl _ _ (w.heap.size + 1) 40 #[.int .i64 a, .int .i64 0] (0, 0) _ rfl (heap_next w _ _) hu rfl (by kernel_rfl)) rfl ⟨rfl, ?_⟩
    exact ((Below.refl _ _).alloc (Nat.le_refl _) _).alloc (by simp) _
  · have hI : intoD b = 1 := if_neg hb
    rw [hI]
    have p1 : (b == 0) = false := by simp [hb]
    clear hI
    go_enter Try.func25, Try.ntmps25
    go_wp2
    (try simp only [Exit.inBlock, Exit.then])
    refine bodyPost_ret (results_cell_row rfl _ _ (w.heap.size + 1) 40 #[.int .i64 a, .int .i64 1] (0, 0) _ rfl (heap_next w _ _) hu rfl (by kernel_rfl)) rfl ⟨rfl, ?_⟩
    exact ((Below.refl _ _).alloc (Nat.le_refl _) _).alloc (by simp) _
def hopOf (a b : Int) (x : Link) : S43 := ⟨⟨a, intoD b⟩, x.f4, x.f5⟩
def hops1 (a b : Int) (x : Link) : List (S43) := if (a == x.f0 && b == x.f1) = true then [hopOf x.f2 x.f3 x] else if (a == x.f2 && b == x.f3) = true then [hopOf x.f0 x.f1 x] else []
def hopsS (a b : Int) (l : List Link) : List (S43) := l.flatMap (hops1 a b)
def layout_Hops.f (l0 l1 : List ByteArray) (l2 : List (S31)) (l3 : List Link) (a b : Int) : Option (List (S43)) :=
  (layout_Has.f l0 l1 l2 l3 a b).bind fun h => if h = true then some (hopsS a (if b = 1 then 0 else 1) l3) else some []
theorem cell_grown {w w1 : World} {row : Option Nat} (hg : w.grownBy w1 row) {b o : Nat} (h : b < w.heap.size) (hne : some b ≠ row) : w1.cell? ⟨b, o, none⟩ = w.cell? ⟨b, o, none⟩ := by
  unfold World.cell?; simp only; rw [hg.block b h hne]
theorem hopsS_len (a b : Int) (l : List Link) (i : Nat) : (hopsS a b (l.take i)).length ≤ i := by
  have h1 : ∀ l : List Link, (hopsS a b l).length ≤ l.length := by
    intro l
    induction l with
    | nil => exact Nat.le_refl _
    | cons x t ih =>
      have h2 : (hops1 a b x).length ≤ 1 := by unfold hops1; repeat' split
                                               all_goals simp
      have : hopsS a b (x :: t) = hops1 a b x ++ hopsS a b t := rfl
      rw [this, List.length_append, List.length_cons]; omega
  have := h1 (l.take i)
  have := List.length_take_le i l
  omega
set_option maxHeartbeats 1600000 in
set_option maxRecDepth 100000 in
theorem hops_c (A0 : Option Addr) (c0 n0 : Nat) (A1 : Option Addr) (c1 n1 : Nat) (A2 : Option Addr) (c2 n2 : Nat) (A3 : Option Addr) (c3 : Nat) (l3 : List Link) (a b : Int) (h : Bool) (w : World) (hr : Kd.C kLink w A3 l3.length l3) (hl : h = true → l3.length ≤ 192)
    (hhas : ∀ W, Below w.heap.size w W → Calls Try.prog 14 #[.agg #[.slice A0 n0 c0, .slice A1 n1 c1, .slice A2 n2 c2, .slice A3 l3.length c3], .agg #[.int .i64 a, .int .i64 b]] W fun e w' => e = .returned (.bool h) ∧ Below W.heap.size W w') :
    Calls Try.prog 11 #[.agg #[.slice A0 n0 c0, .slice A1 n1 c1, .slice A2 n2 c2, .slice A3 l3.length c3], .agg #[.int .i64 a, .int .i64 b]] w fun e w' => ∃ v, e = .returned v ∧ Kd.R k43 43 w' w.heap.size (fun _ => True) v (if h = true then hopsS a (if b = 1 then 0 else 1) l3 else []) ∧ Below w.heap.size w w' := by
  have hu28 := Try.underlying28
  have hu61 := Try.underlying61
  have hu2 := Try.underlying59
  have hu3 := Try.underlying62
  have hu40 := Try.underlying40
  have HR := Aside0.mk hr
  have HH := Aside0.mk hhas
  have HL0 := Aside0.mk hl
  clear hr hhas hl
  obtain ⟨R, hR⟩ : ∃ R, (if h = true then hopsS a (if b = 1 then 0 else 1) l3 else []) = R := ⟨_, rfl⟩
  rw [hR]
  have H' := Aside0.mk hR
  clear hR
  go_enter Try.func11, Try.ntmps11
  go_wp2_with fail
  (with_reducible refine (HH.out _ (by repeat (first | exact Below.refl _ _ | apply below_alloc))).mono ?_)
  rintro e w2 ⟨rfl, hb2⟩
  cases h with
  | false =>
    have h0 : ([] : List (S43)) = R := H'.out
    subst h0
    go_wp2
    go_ret
    exact ⟨_, rfl, Kd.R_nil _ _ _ _ _, (by repeat (first | exact Below.refl _ _ | apply below_alloc) : Below w.heap.size w _).trans (hb2.mono (by simp; omega))⟩
  | true =>
    have HL := Aside0.mk (HL0.out rfl)
    clear HL0
    have hl2 := (hb2.block w.heap.size (by simp; omega)).trans ((Below.heap_alloc _ _ w.heap.size (by simp)).trans (MapKept.heap_alloc w _).1)
    have hs2 := (hb2.block (w.heap.size + 1) (by simp)).trans (heap_next w _ _)
    have hx0 : w2.cell? ⟨w.heap.size + 1, 0, none⟩ = some (.int .i64 a) := by simp [World.cell?, hs2]
    have HB2 := Aside0.mk ((by repeat (first | exact Below.refl _ _ | apply below_alloc) : Below w.heap.size w _).trans (hb2.mono (by simp; omega)))
    have hx1 : (w2.alloc (.cells #[.int .i64 a, .int .i64 1] 59)).cell? ⟨w.heap.size + 1, 1, none⟩ = some (.int .i64 b) := by
      have := (Below.heap_alloc w2 (.cells #[.int .i64 a, .int .i64 1] 59) _ (Array.getElem?_eq_some_iff.1 hs2).1).trans hs2
      simp [World.cell?, this]
    have HL2 := Aside0.mk hl2
    clear hl2 hs2 hb2
    have hbl : ∀ d : Int, (w2.alloc (.cells #[.int .i64 a, .int .i64 d] 59)).cell? ⟨w.heap.size, 3, none⟩ = some (.slice A3 l3.length c3) := by
      intro d
      have := (Below.heap_alloc w2 (.cells #[.int .i64 a, .int .i64 d] 59) _ (Array.getElem?_eq_some_iff.1 HL2.out).1).trans HL2.out
      simp [World.cell?, this]
    have hl30 := hbl 0
    have hl31 := hbl 1
    clear hbl
    by_cases hb : b = 1
    · have p1 : (b == 1) = true := by simp [hb]
      have HR2 : Aside0 (hopsS a 0 l3 = R) := ⟨by have h := H'.out; rw [if_pos rfl, if_pos hb] at h; exact h⟩
      clear hb H'
      go_wp2
      have hbw : Below w.heap.size w (w2.alloc (.cells #[.int .i64 a, .int .i64 0] 59)) := HB2.out.alloc HB2.out.size _
      have he := (MapKept.heap_alloc w2 (.cells #[.int .i64 a, .int .i64 0] 59)).1
      generalize w2.alloc (.cells #[.int .i64 a, .int .i64 0] 59) = W1 at hbw he ⊢
      obtain ⟨E5, hE5⟩ : ∃ E5, E5 = w2.heap.size := ⟨_, rfl⟩
      rw [← hE5] at he ⊢
      have HBW := Aside0.mk hbw
      have HE := Aside0.mk he
      have HEL := Aside0.mk (Array.getElem?_eq_some_iff.1 he).1
      clear hE5 hbw he hx0 hx1 hl30 hl31 HL2 HB2
      clear w2
      go_loopg [6, 24] (l3.length + 1) (fun kq v6 v24 w' => ∃ (i : Nat), v24 = .int .i64 (i : Int) ∧ Aside0 (i + kq = l3.length + 1) ∧ Aside0 (i ≤ l3.length) ∧ Aside0 (Kd.R k43 43 w' W1.heap.size (fun _ => True) v6 (hopsS a 0 (l3.take i))) ∧ Aside0 (Below W1.heap.size W1 w'))
      case atStart => exact ⟨0, rfl, ⟨by omega⟩, ⟨Nat.zero_le _⟩, ⟨Kd.R_nil _ _ _ _ _⟩, ⟨Below.refl _ _⟩⟩
      case round =>
        obtain ⟨i, rfl, HK, HI, HO, HB⟩ := hrel
        cases gk with
        | zero => exact absurd HK.out (by have := HI.out; omega)
        | succ k1 =>
          obtain ⟨A6, c6, hv6⟩ := Kd.R_slice HO.out
          subst hv6
          have HEC := Aside0.mk ((HB.out.block E5 HEL.out).trans HE.out)
          have HBF := Aside0.mk (HBW.out.trans (HB.out.mono HBW.out.size))
          by_cases hi : i < l3.length
          · obtain ⟨x, hx, hd⟩ := drop_at hi
            obtain ⟨ad, hA, hc0, hc1, hc2, hc3, hc4, hc5⟩ := link_at (Kd.C_below HR.out HBF.out) i hi x hx
            subst hA
            have hi1 : decide ((i : Int) < (l3.length : Int)) = true := decide_eq_true (by omega)
            have hi2 : decide (i < l3.length) = true := decide_eq_true hi
            have HHI := Aside0.mk hi
            have HT : Aside0 (hopsS a 0 (l3.take (i + 1)) = hopsS a 0 (l3.take i) ++ hops1 a 0 x) := ⟨by unfold hopsS; rw [List.take_add_one, hx]; simp⟩
            clear hx hd
            go_wp2_with fail
            (with_reducible refine (ends_c x _).mono ?_)
            rintro e w3 ⟨rfl, hb3⟩
            unfold endsV
            have hxl := (hb3.block wr.heap.size (by simp)).trans (MapKept.heap_alloc wr _).1
            have HB3 := Aside0.mk ((HB.out.alloc HB.out.size _).trans (hb3.mono (by have := HB.out.size; simp; omega)))
            have HBL := Aside0.mk (((Below.refl _ _).alloc (Nat.le_refl _) _ : Below wr.heap.size wr _).trans (hb3.mono (by simp)))
            have hee := (HB3.out.block E5 HEL.out).trans HE.out
            have hee2 := (Below.heap_alloc w3 (.cells #[.int .i64 x.f0, .int .i64 x.f1, .int .i64 x.f2, .int .i64 x.f3] 62) E5 (Array.getElem?_eq_some_iff.1 hee).1).trans hee
            have hq0 : (w3.alloc (.cells #[.int .i64 x.f0, .int .i64 x.f1, .int .i64 x.f2, .int .i64 x.f3] 62)).cell? ⟨E5, 0, none⟩ = some (.int .i64 a) := by simp [World.cell?, hee2]
            have hq1 : (w3.alloc (.cells #[.int .i64 x.f0, .int .i64 x.f1, .int .i64 x.f2, .int .i64 x.f3] 62)).cell? ⟨E5, 1, none⟩ = some (.int .i64 0) := by simp [World.cell?, hee2]
            have HXL := Aside0.mk hxl
            clear hee hee2 hxl hb3 hc0 hc1 hc2 hc3 hc4 hc5
            cases hE : (a == x.f0 && 0 == x.f1) with
            | true =>
              have HTY : Aside0 (hopsS a 0 (l3.take (i + 1)) = hopsS a 0 (l3.take i) ++ [hopOf x.f2 x.f3 x]) := ⟨by rw [HT.out]; unfold hops1; rw [hE, if_pos rfl]⟩
              go_wp2
              have HXLT := Aside0.mk (Array.getElem?_eq_some_iff.1 HXL.out).1
              have hxl2 := (Below.heap_alloc w3 (.cells #[.int .i64 x.f0, .int .i64 x.f1, .int .i64 x.f2, .int .i64 x.f3] 62) wr.heap.size HXLT.out).trans HXL.out
              have hx4 : (w3.alloc (.cells #[.int .i64 x.f0, .int .i64 x.f1, .int .i64 x.f2, .int .i64 x.f3] 62)).cell? ⟨wr.heap.size, 4, none⟩ = some (.int .i64 x.f4) := by simp [World.cell?, hxl2]
              have hx5 : (w3.alloc (.cells #[.int .i64 x.f0, .int .i64 x.f1, .int .i64 x.f2, .int .i64 x.f3] 62)).cell? ⟨wr.heap.size, 5, none⟩ = some (.int .i64 x.f5) := by simp [World.cell?, hxl2]
              have hne := heap_alloc_new w3 (.cells #[.int .i64 x.f0, .int .i64 x.f1, .int .i64 x.f2, .int .i64 x.f3] 62)
              have hy0 : (w3.alloc (.cells #[.int .i64 x.f0, .int .i64 x.f1, .int .i64 x.f2, .int .i64 x.f3] 62)).cell? ⟨w3.heap.size, 2, none⟩ = some (.int .i64 x.f2) := by simp only [World.cell?, hne]; rfl
              have hy1 : (w3.alloc (.cells #[.int .i64 x.f0, .int .i64 x.f1, .int .i64 x.f2, .int .i64 x.f3] 62)).cell? ⟨w3.heap.size, 3, none⟩ = some (.int .i64 x.f3) := by simp only [World.cell?, hne]; rfl
              have HBW4 := Aside0.mk (below_alloc HBL.out (.cells #[.int .i64 x.f0, .int .i64 x.f1, .int .i64 x.f2, .int .i64 x.f3] 62))
              have HE4 : Aside0 (w3.heap.size < (w3.alloc (.cells #[.int .i64 x.f0, .int .i64 x.f1, .int .i64 x.f2, .int .i64 x.f3] 62)).heap.size) := ⟨by simp⟩
              have HXL4 : Aside0 (wr.heap.size < (w3.alloc (.cells #[.int .i64 x.f0, .int .i64 x.f1, .int .i64 x.f2, .int .i64 x.f3] 62)).heap.size) := ⟨by have := HXLT.out; simp; omega⟩
              have HBB4 : Aside0 (Below W1.heap.size W1 (w3.alloc (.cells #[.int .i64 x.f0, .int .i64 x.f1, .int .i64 x.f2, .int .i64 x.f3] 62))) := ⟨HB3.out.alloc HB3.out.size _⟩
              have HE48 : Aside0 (wr.heap.size ≤ w3.heap.size) := ⟨HBL.out.size⟩
              have HLR : Aside0 (∀ k, (Value.slice A6 (hopsS a 0 (l3.take i)).length c6).ownBlock = some k → k < wr.heap.size) := ⟨fun k hk => ((Kd.R_bound HO.out).1 k hk).2.2.1⟩
              have HHL : Aside0 ((hopsS a 0 (l3.take i)).length ≤ i) := ⟨hopsS_len a 0 l3 i⟩
              clear hxl2 hne hq0 hq1
              generalize (w3.alloc (.cells #[.int .i64 x.f0, .int .i64 x.f1, .int .i64 x.f2, .int .i64 x.f3] 62)) = W4 at hx4 hx5 hy0 hy1 HBW4 HE4 HXL4 HBB4 ⊢
              obtain ⟨E4, hE4⟩ : ∃ E4, E4 = w3.heap.size := ⟨_, rfl⟩
              rw [← hE4] at hy0 hy1 HE4 HE48 ⊢
              obtain ⟨E8, hE8⟩ : ∃ E8, E8 = wr.heap.size := ⟨_, rfl⟩
              rw [← hE8] at hx4 hx5 HXL4 HLR HE48 ⊢
              clear hE4 hE8
              have H32 : Aside0 (((hopsS a 0 (l3.take i)).length + 1) * 32 ≤ 140737488355328) := ⟨by have := HHL.out; have := HL.out; have := HHI.out; omega⟩
              go_region_held3 (fun w' => w'.cell? ⟨E8, 4, none⟩ = some (.int .i64 x.f4) ∧ w'.cell? ⟨E8, 5, none⟩ = some (.int .i64 x.f5) ∧ w'.cell? ⟨E4, 2, none⟩ = some (.int .i64 x.f2) ∧ w'.cell? ⟨E4, 3, none⟩ = some (.int .i64 x.f3))
                (go_keep)
                (first
                  | (go_at_call 25; (refine (into_c _ _ _).mono ?_); rintro e w6 ⟨rfl, hb6⟩; have g4 : w6.cell? ⟨E8, 4, none⟩ = some (.int .i64 x.f4) := (hb6.cell (p := ⟨E8, 4, none⟩) (by have := HXL4.out; simp; omega)).trans hx4; have g5 : w6.cell? ⟨E8, 5, none⟩ = some (.int .i64 x.f5) := (hb6.cell (p := ⟨E8, 5, none⟩) (by have := HXL4.out; simp; omega)).trans hx5; have g0 : w6.cell? ⟨E4, 2, none⟩ = some (.int .i64 x.f2) := (hb6.cell (p := ⟨E4, 2, none⟩) (by have := HE4.out; simp; omega)).trans hy0; have g1 : w6.cell? ⟨E4, 3, none⟩ = some (.int .i64 x.f3) := (hb6.cell (p := ⟨E4, 3, none⟩) (by have := HE4.out; simp; omega)).trans hy1; have HB6 := Aside0.mk ((below_drew HBW4.out).trans (hb6.mono (by have := HBW4.out.size; simp; omega))); have HBB6 := Aside0.mk ((below_drew HBB4.out).trans (hb6.mono (by have := HBB4.out.size; simp; omega))); have HOW := Aside0.mk (Kd.R_below HO.out HB6.out); have q4 := Aside0.mk g4; have q5 := Aside0.mk g5; have q0 := Aside0.mk g0; have q1 := Aside0.mk g1; have HX6 := Aside0.mk (show E8 < w6.heap.size by have := hb6.size; have := HXL4.out; simp at *; omega); have HE6 := Aside0.mk (show E4 < w6.heap.size by have := hb6.size; have := HE4.out; simp at *; omega))
                  | (refine Kd.R_append_step k43 (w0 := W1) W1.heap.size (by rfl) (.tmp 35) (.tmp 44) 37 43 (.agg #[.int .i64 0, .int .i64 0, .int .i64 0, .int .i64 0]) 32 (by rfl) Try.underlying37 (by kernel_rfl) rfl (by decide) (by omega) (.slice A6 (hopsS a 0 (l3.take i)).length c6) (hopsS a 0 (l3.take i)) (hopOf x.f2 x.f3 x) [.int .i64 x.f2, .int .i64 (intoD x.f3), .int .i64 x.f4, .int .i64 x.f5] (fun _ => True) (fun _ => False) (by rfl) (by rfl) (k43_mkM _ _ _ (hopOf x.f2 x.f3 x)) (fun _ h => h.elim) (fun _ _ => trivial) HOW.out HBB6.out HBB6.out.size H32.out ?_; intro v1 w7 ho7 hb7 hg7 hat7; have r4 : w7.cell? ⟨E8, 4, none⟩ = some (.int .i64 x.f4) := (cell_grown hg7 HX6.out (fun h => absurd (HLR.out _ h.symm) (by omega))).trans q4.out; have r5 : w7.cell? ⟨E8, 5, none⟩ = some (.int .i64 x.f5) := (cell_grown hg7 HX6.out (fun h => absurd (HLR.out _ h.symm) (by omega))).trans q5.out; have r0 : w7.cell? ⟨E4, 2, none⟩ = some (.int .i64 x.f2) := (cell_grown hg7 HE6.out (fun h => absurd (HLR.out _ h.symm) (by have := HE48.out; omega))).trans q0.out; have r1 : w7.cell? ⟨E4, 3, none⟩ = some (.int .i64 x.f3) := (cell_grown hg7 HE6.out (fun h => absurd (HLR.out _ h.symm) (by have := HE48.out; omega))).trans q1.out))
              have HO7 := Aside0.mk ho7
              have HB7 := Aside0.mk hb7
              clear ho7 hb7 hg7 hat7 r4 r5 r0 r1
              go_wp2
              go_roundg k1
              case measure => have := HK.out; omega
              case rel => exact ⟨i + 1, (by first | go_num | (rw [int_succ i (by have := HHI.out; have := HL.out; omega)])), ⟨by have := HK.out; omega⟩, ⟨by have := HHI.out; omega⟩, ⟨by rw [HTY.out]; exact HO7.out⟩, HB7⟩
            | false =>
              cases hF : (a == x.f2 && 0 == x.f3) with
              | true =>
                have HTY : Aside0 (hopsS a 0 (l3.take (i + 1)) = hopsS a 0 (l3.take i) ++ [hopOf x.f0 x.f1 x]) := ⟨by rw [HT.out]; unfold hops1; rw [hE, hF, if_neg (by decide), if_pos rfl]⟩
                go_wp2
                have HXLT := Aside0.mk (Array.getElem?_eq_some_iff.1 HXL.out).1
                have hxl2 := (Below.heap_alloc w3 (.cells #[.int .i64 x.f0, .int .i64 x.f1, .int .i64 x.f2, .int .i64 x.f3] 62) wr.heap.size HXLT.out).trans HXL.out
                have hx4 : (w3.alloc (.cells #[.int .i64 x.f0, .int .i64 x.f1, .int .i64 x.f2, .int .i64 x.f3] 62)).cell? ⟨wr.heap.size, 4, none⟩ = some (.int .i64 x.f4) := by simp [World.cell?, hxl2]
                have hx5 : (w3.alloc (.cells #[.int .i64 x.f0, .int .i64 x.f1, .int .i64 x.f2, .int .i64 x.f3] 62)).cell? ⟨wr.heap.size, 5, none⟩ = some (.int .i64 x.f5) := by simp [World.cell?, hxl2]
                have hne := heap_alloc_new w3 (.cells #[.int .i64 x.f0, .int .i64 x.f1, .int .i64 x.f2, .int .i64 x.f3] 62)
                have hy0 : (w3.alloc (.cells #[.int .i64 x.f0, .int .i64 x.f1, .int .i64 x.f2, .int .i64 x.f3] 62)).cell? ⟨w3.heap.size, 0, none⟩ = some (.int .i64 x.f0) := by simp only [World.cell?, hne]; rfl
                have hy1 : (w3.alloc (.cells #[.int .i64 x.f0, .int .i64 x.f1, .int .i64 x.f2, .int .i64 x.f3] 62)).cell? ⟨w3.heap.size, 1, none⟩ = some (.int .i64 x.f1) := by simp only [World.cell?, hne]; rfl
                have HBW4 := Aside0.mk (below_alloc HBL.out (.cells #[.int .i64 x.f0, .int .i64 x.f1, .int .i64 x.f2, .int .i64 x.f3] 62))
                have HE4 : Aside0 (w3.heap.size < (w3.alloc (.cells #[.int .i64 x.f0, .int .i64 x.f1, .int .i64 x.f2, .int .i64 x.f3] 62)).heap.size) := ⟨by simp⟩
                have HXL4 : Aside0 (wr.heap.size < (w3.alloc (.cells #[.int .i64 x.f0, .int .i64 x.f1, .int .i64 x.f2, .int .i64 x.f3] 62)).heap.size) := ⟨by have := HXLT.out; simp; omega⟩
                have HBB4 : Aside0 (Below W1.heap.size W1 (w3.alloc (.cells #[.int .i64 x.f0, .int .i64 x.f1, .int .i64 x.f2, .int .i64 x.f3] 62))) := ⟨HB3.out.alloc HB3.out.size _⟩
                have HE48 : Aside0 (wr.heap.size ≤ w3.heap.size) := ⟨HBL.out.size⟩
                have HLR : Aside0 (∀ k, (Value.slice A6 (hopsS a 0 (l3.take i)).length c6).ownBlock = some k → k < wr.heap.size) := ⟨fun k hk => ((Kd.R_bound HO.out).1 k hk).2.2.1⟩
                have HHL : Aside0 ((hopsS a 0 (l3.take i)).length ≤ i) := ⟨hopsS_len a 0 l3 i⟩
                clear hxl2 hne hq0 hq1
                generalize (w3.alloc (.cells #[.int .i64 x.f0, .int .i64 x.f1, .int .i64 x.f2, .int .i64 x.f3] 62)) = W4 at hx4 hx5 hy0 hy1 HBW4 HE4 HXL4 HBB4 ⊢
                obtain ⟨E4, hE4⟩ : ∃ E4, E4 = w3.heap.size := ⟨_, rfl⟩
                rw [← hE4] at hy0 hy1 HE4 HE48 ⊢
                obtain ⟨E8, hE8⟩ : ∃ E8, E8 = wr.heap.size := ⟨_, rfl⟩
                rw [← hE8] at hx4 hx5 HXL4 HLR HE48 ⊢
                clear hE4 hE8
                have H32 : Aside0 (((hopsS a 0 (l3.take i)).length + 1) * 32 ≤ 140737488355328) := ⟨by have := HHL.out; have := HL.out; have := HHI.out; omega⟩
                go_region_held3 (fun w' => w'.cell? ⟨E8, 4, none⟩ = some (.int .i64 x.f4) ∧ w'.cell? ⟨E8, 5, none⟩ = some (.int .i64 x.f5) ∧ w'.cell? ⟨E4, 0, none⟩ = some (.int .i64 x.f0) ∧ w'.cell? ⟨E4, 1, none⟩ = some (.int .i64 x.f1))
                  (go_keep)
                  (first
                    | (go_at_call 25; (refine (into_c _ _ _).mono ?_); rintro e w6 ⟨rfl, hb6⟩; have g4 : w6.cell? ⟨E8, 4, none⟩ = some (.int .i64 x.f4) := (hb6.cell (p := ⟨E8, 4, none⟩) (by have := HXL4.out; simp; omega)).trans hx4; have g5 : w6.cell? ⟨E8, 5, none⟩ = some (.int .i64 x.f5) := (hb6.cell (p := ⟨E8, 5, none⟩) (by have := HXL4.out; simp; omega)).trans hx5; have g0 : w6.cell? ⟨E4, 0, none⟩ = some (.int .i64 x.f0) := (hb6.cell (p := ⟨E4, 0, none⟩) (by have := HE4.out; simp; omega)).trans hy0; have g1 : w6.cell? ⟨E4, 1, none⟩ = some (.int .i64 x.f1) := (hb6.cell (p := ⟨E4, 1, none⟩) (by have := HE4.out; simp; omega)).trans hy1; have HB6 := Aside0.mk ((below_drew HBW4.out).trans (hb6.mono (by have := HBW4.out.size; simp; omega))); have HBB6 := Aside0.mk ((below_drew HBB4.out).trans (hb6.mono (by have := HBB4.out.size; simp; omega))); have HOW := Aside0.mk (Kd.R_below HO.out HB6.out); have q4 := Aside0.mk g4; have q5 := Aside0.mk g5; have q0 := Aside0.mk g0; have q1 := Aside0.mk g1; have HX6 := Aside0.mk (show E8 < w6.heap.size by have := hb6.size; have := HXL4.out; simp at *; omega); have HE6 := Aside0.mk (show E4 < w6.heap.size by have := hb6.size; have := HE4.out; simp at *; omega))
                    | (refine Kd.R_append_step k43 (w0 := W1) W1.heap.size (by rfl) (.tmp 50) (.tmp 59) 37 43 (.agg #[.int .i64 0, .int .i64 0, .int .i64 0, .int .i64 0]) 32 (by rfl) Try.underlying37 (by kernel_rfl) rfl (by decide) (by omega) (.slice A6 (hopsS a 0 (l3.take i)).length c6) (hopsS a 0 (l3.take i)) (hopOf x.f0 x.f1 x) [.int .i64 x.f0, .int .i64 (intoD x.f1), .int .i64 x.f4, .int .i64 x.f5] (fun _ => True) (fun _ => False) (by rfl) (by rfl) (k43_mkM _ _ _ (hopOf x.f0 x.f1 x)) (fun _ h => h.elim) (fun _ _ => trivial) HOW.out HBB6.out HBB6.out.size H32.out ?_; intro v1 w7 ho7 hb7 hg7 hat7; have r4 : w7.cell? ⟨E8, 4, none⟩ = some (.int .i64 x.f4) := (cell_grown hg7 HX6.out (fun h => absurd (HLR.out _ h.symm) (by omega))).trans q4.out; have r5 : w7.cell? ⟨E8, 5, none⟩ = some (.int .i64 x.f5) := (cell_grown hg7 HX6.out (fun h => absurd (HLR.out _ h.symm) (by omega))).trans q5.out; have r0 : w7.cell? ⟨E4, 0, none⟩ = some (.int .i64 x.f0) := (cell_grown hg7 HE6.out (fun h => absurd (HLR.out _ h.symm) (by have := HE48.out; omega))).trans q0.out; have r1 : w7.cell? ⟨E4, 1, none⟩ = some (.int .i64 x.f1) := (cell_grown hg7 HE6.out (fun h => absurd (HLR.out _ h.symm) (by have := HE48.out; omega))).trans q1.out))
                have HO7 := Aside0.mk ho7
                have HB7 := Aside0.mk hb7
                clear ho7 hb7 hg7 hat7 r4 r5 r0 r1
                go_wp2
                go_roundg k1
                case measure => have := HK.out; omega
                case rel => exact ⟨i + 1, (by first | go_num | (rw [int_succ i (by have := HHI.out; have := HL.out; omega)])), ⟨by have := HK.out; omega⟩, ⟨by have := HHI.out; omega⟩, ⟨by rw [HTY.out]; exact HO7.out⟩, HB7⟩
              | false =>
                have HTN : Aside0 (hopsS a 0 (l3.take i) = hopsS a 0 (l3.take (i + 1))) := ⟨by rw [HT.out]; unfold hops1; rw [hE, hF, if_neg (by decide), if_neg (by decide), List.append_nil]⟩
                go_wp2
                go_roundg k1
                case measure => have := HK.out; omega
                case rel => exact ⟨i + 1, (by first | go_num | (rw [int_succ i (by have := HHI.out; have := HL.out; omega)])), ⟨by have := HK.out; omega⟩, ⟨by have := HHI.out; omega⟩, ⟨by rw [← HTN.out]; exact Kd.R_below HO.out (below_alloc HBL.out _)⟩, ⟨HB3.out.alloc HB3.out.size _⟩⟩
          · have hi1 : decide ((i : Int) < (l3.length : Int)) = false := decide_eq_false (by omega)
            have hi2 : decide (i < l3.length) = false := decide_eq_false hi
            have HRR : Aside0 (hopsS a 0 (l3.take i) = R) := ⟨by rw [List.take_of_length_le (by omega)]; exact HR2.out⟩
            go_wp2
            go_ret
            exact ⟨_, rfl, by rw [← HRR.out]; exact Kd.R_lower HO.out HBW.out.size, HBF.out⟩
    · have p1 : (b == 1) = false := by simp [hb]
      have HR2 : Aside0 (hopsS a 1 l3 = R) := ⟨by have h := H'.out; rw [if_pos rfl, if_neg hb] at h; exact h⟩
      clear hb H'
      go_wp2
      have hbw : Below w.heap.size w (w2.alloc (.cells #[.int .i64 a, .int .i64 1] 59)) := HB2.out.alloc HB2.out.size _
      have he := (MapKept.heap_alloc w2 (.cells #[.int .i64 a, .int .i64 1] 59)).1
      generalize w2.alloc (.cells #[.int .i64 a, .int .i64 1] 59) = W1 at hbw he ⊢
      obtain ⟨E5, hE5⟩ : ∃ E5, E5 = w2.heap.size := ⟨_, rfl⟩
      rw [← hE5] at he ⊢
      have HBW := Aside0.mk hbw
      have HE := Aside0.mk he
      have HEL := Aside0.mk (Array.getElem?_eq_some_iff.1 he).1
      clear hE5 hbw he hx0 hx1 hl30 hl31 HL2 HB2
      clear w2
      go_loopg [6, 24] (l3.length + 1) (fun kq v6 v24 w' => ∃ (i : Nat), v24 = .int .i64 (i : Int) ∧ Aside0 (i + kq = l3.length + 1) ∧ Aside0 (i ≤ l3.length) ∧ Aside0 (Kd.R k43 43 w' W1.heap.size (fun _ => True) v6 (hopsS a 1 (l3.take i))) ∧ Aside0 (Below W1.heap.size W1 w'))
      case atStart => exact ⟨0, rfl, ⟨by omega⟩, ⟨Nat.zero_le _⟩, ⟨Kd.R_nil _ _ _ _ _⟩, ⟨Below.refl _ _⟩⟩
      case round =>
        obtain ⟨i, rfl, HK, HI, HO, HB⟩ := hrel
        cases gk with
        | zero => exact absurd HK.out (by have := HI.out; omega)
        | succ k1 =>
          obtain ⟨A6, c6, hv6⟩ := Kd.R_slice HO.out
          subst hv6
          have HEC := Aside0.mk ((HB.out.block E5 HEL.out).trans HE.out)
          have HBF := Aside0.mk (HBW.out.trans (HB.out.mono HBW.out.size))
          by_cases hi : i < l3.length
          · obtain ⟨x, hx, hd⟩ := drop_at hi
            obtain ⟨ad, hA, hc0, hc1, hc2, hc3, hc4, hc5⟩ := link_at (Kd.C_below HR.out HBF.out) i hi x hx
            subst hA
            have hi1 : decide ((i : Int) < (l3.length : Int)) = true := decide_eq_true (by omega)
            have hi2 : decide (i < l3.length) = true := decide_eq_true hi
            have HHI := Aside0.mk hi
            have HT : Aside0 (hopsS a 1 (l3.take (i + 1)) = hopsS a 1 (l3.take i) ++ hops1 a 1 x) := ⟨by unfold hopsS; rw [List.take_add_one, hx]; simp⟩
            clear hx hd
            go_wp2_with fail
            (with_reducible refine (ends_c x _).mono ?_)
            rintro e w3 ⟨rfl, hb3⟩
            unfold endsV
            have hxl := (hb3.block wr.heap.size (by simp)).trans (MapKept.heap_alloc wr _).1
            have HB3 := Aside0.mk ((HB.out.alloc HB.out.size _).trans (hb3.mono (by have := HB.out.size; simp; omega)))
            have HBL := Aside0.mk (((Below.refl _ _).alloc (Nat.le_refl _) _ : Below wr.heap.size wr _).trans (hb3.mono (by simp)))
            have hee := (HB3.out.block E5 HEL.out).trans HE.out
            have hee2 := (Below.heap_alloc w3 (.cells #[.int .i64 x.f0, .int .i64 x.f1, .int .i64 x.f2, .int .i64 x.f3] 62) E5 (Array.getElem?_eq_some_iff.1 hee).1).trans hee
            have hq0 : (w3.alloc (.cells #[.int .i64 x.f0, .int .i64 x.f1, .int .i64 x.f2, .int .i64 x.f3] 62)).cell? ⟨E5, 0, none⟩ = some (.int .i64 a) := by simp [World.cell?, hee2]
            have hq1 : (w3.alloc (.cells #[.int .i64 x.f0, .int .i64 x.f1, .int .i64 x.f2, .int .i64 x.f3] 62)).cell? ⟨E5, 1, none⟩ = some (.int .i64 1) := by simp [World.cell?, hee2]
            have HXL := Aside0.mk hxl
            clear hee hee2 hxl hb3 hc0 hc1 hc2 hc3 hc4 hc5
            cases hE : (a == x.f0 && 1 == x.f1) with
            | true =>
              have HTY : Aside0 (hopsS a 1 (l3.take (i + 1)) = hopsS a 1 (l3.take i) ++ [hopOf x.f2 x.f3 x]) := ⟨by rw [HT.out]; unfold hops1; rw [hE, if_pos rfl]⟩
              go_wp2
              have HXLT := Aside0.mk (Array.getElem?_eq_some_iff.1 HXL.out).1
              have hxl2 := (Below.heap_alloc w3 (.cells #[.int .i64 x.f0, .int .i64 x.f1, .int .i64 x.f2, .int .i64 x.f3] 62) wr.heap.size HXLT.out).trans HXL.out
              have hx4 : (w3.alloc (.cells #[.int .i64 x.f0, .int .i64 x.f1, .int .i64 x.f2, .int .i64 x.f3] 62)).cell? ⟨wr.heap.size, 4, none⟩ = some (.int .i64 x.f4) := by simp [World.cell?, hxl2]
              have hx5 : (w3.alloc (.cells #[.int .i64 x.f0, .int .i64 x.f1, .int .i64 x.f2, .int .i64 x.f3] 62)).cell? ⟨wr.heap.size, 5, none⟩ = some (.int .i64 x.f5) := by simp [World.cell?, hxl2]
              have hne := heap_alloc_new w3 (.cells #[.int .i64 x.f0, .int .i64 x.f1, .int .i64 x.f2, .int .i64 x.f3] 62)
              have hy0 : (w3.alloc (.cells #[.int .i64 x.f0, .int .i64 x.f1, .int .i64 x.f2, .int .i64 x.f3] 62)).cell? ⟨w3.heap.size, 2, none⟩ = some (.int .i64 x.f2) := by simp only [World.cell?, hne]; rfl
              have hy1 : (w3.alloc (.cells #[.int .i64 x.f0, .int .i64 x.f1, .int .i64 x.f2, .int .i64 x.f3] 62)).cell? ⟨w3.heap.size, 3, none⟩ = some (.int .i64 x.f3) := by simp only [World.cell?, hne]; rfl
              have HBW4 := Aside0.mk (below_alloc HBL.out (.cells #[.int .i64 x.f0, .int .i64 x.f1, .int .i64 x.f2, .int .i64 x.f3] 62))
              have HE4 : Aside0 (w3.heap.size < (w3.alloc (.cells #[.int .i64 x.f0, .int .i64 x.f1, .int .i64 x.f2, .int .i64 x.f3] 62)).heap.size) := ⟨by simp⟩
              have HXL4 : Aside0 (wr.heap.size < (w3.alloc (.cells #[.int .i64 x.f0, .int .i64 x.f1, .int .i64 x.f2, .int .i64 x.f3] 62)).heap.size) := ⟨by have := HXLT.out; simp; omega⟩
              have HBB4 : Aside0 (Below W1.heap.size W1 (w3.alloc (.cells #[.int .i64 x.f0, .int .i64 x.f1, .int .i64 x.f2, .int .i64 x.f3] 62))) := ⟨HB3.out.alloc HB3.out.size _⟩
              have HE48 : Aside0 (wr.heap.size ≤ w3.heap.size) := ⟨HBL.out.size⟩
              have HLR : Aside0 (∀ k, (Value.slice A6 (hopsS a 1 (l3.take i)).length c6).ownBlock = some k → k < wr.heap.size) := ⟨fun k hk => ((Kd.R_bound HO.out).1 k hk).2.2.1⟩
              have HHL : Aside0 ((hopsS a 1 (l3.take i)).length ≤ i) := ⟨hopsS_len a 1 l3 i⟩
              clear hxl2 hne hq0 hq1
              generalize (w3.alloc (.cells #[.int .i64 x.f0, .int .i64 x.f1, .int .i64 x.f2, .int .i64 x.f3] 62)) = W4 at hx4 hx5 hy0 hy1 HBW4 HE4 HXL4 HBB4 ⊢
              obtain ⟨E4, hE4⟩ : ∃ E4, E4 = w3.heap.size := ⟨_, rfl⟩
              rw [← hE4] at hy0 hy1 HE4 HE48 ⊢
              obtain ⟨E8, hE8⟩ : ∃ E8, E8 = wr.heap.size := ⟨_, rfl⟩
              rw [← hE8] at hx4 hx5 HXL4 HLR HE48 ⊢
              clear hE4 hE8
              have H32 : Aside0 (((hopsS a 1 (l3.take i)).length + 1) * 32 ≤ 140737488355328) := ⟨by have := HHL.out; have := HL.out; have := HHI.out; omega⟩
              go_region_held3 (fun w' => w'.cell? ⟨E8, 4, none⟩ = some (.int .i64 x.f4) ∧ w'.cell? ⟨E8, 5, none⟩ = some (.int .i64 x.f5) ∧ w'.cell? ⟨E4, 2, none⟩ = some (.int .i64 x.f2) ∧ w'.cell? ⟨E4, 3, none⟩ = some (.int .i64 x.f3))
                (go_keep)
                (first
                  | (go_at_call 25; (refine (into_c _ _ _).mono ?_); rintro e w6 ⟨rfl, hb6⟩; have g4 : w6.cell? ⟨E8, 4, none⟩ = some (.int .i64 x.f4) := (hb6.cell (p := ⟨E8, 4, none⟩) (by have := HXL4.out; simp; omega)).trans hx4; have g5 : w6.cell? ⟨E8, 5, none⟩ = some (.int .i64 x.f5) := (hb6.cell (p := ⟨E8, 5, none⟩) (by have := HXL4.out; simp; omega)).trans hx5; have g0 : w6.cell? ⟨E4, 2, none⟩ = some (.int .i64 x.f2) := (hb6.cell (p := ⟨E4, 2, none⟩) (by have := HE4.out; simp; omega)).trans hy0; have g1 : w6.cell? ⟨E4, 3, none⟩ = some (.int .i64 x.f3) := (hb6.cell (p := ⟨E4, 3, none⟩) (by have := HE4.out; simp; omega)).trans hy1; have HB6 := Aside0.mk ((below_drew HBW4.out).trans (hb6.mono (by have := HBW4.out.size; simp; omega))); have HBB6 := Aside0.mk ((below_drew HBB4.out).trans (hb6.mono (by have := HBB4.out.size; simp; omega))); have HOW := Aside0.mk (Kd.R_below HO.out HB6.out); have q4 := Aside0.mk g4; have q5 := Aside0.mk g5; have q0 := Aside0.mk g0; have q1 := Aside0.mk g1; have HX6 := Aside0.mk (show E8 < w6.heap.size by have := hb6.size; have := HXL4.out; simp at *; omega); have HE6 := Aside0.mk (show E4 < w6.heap.size by have := hb6.size; have := HE4.out; simp at *; omega))
                  | (refine Kd.R_append_step k43 (w0 := W1) W1.heap.size (by rfl) (.tmp 35) (.tmp 44) 37 43 (.agg #[.int .i64 0, .int .i64 0, .int .i64 0, .int .i64 0]) 32 (by rfl) Try.underlying37 (by kernel_rfl) rfl (by decide) (by omega) (.slice A6 (hopsS a 1 (l3.take i)).length c6) (hopsS a 1 (l3.take i)) (hopOf x.f2 x.f3 x) [.int .i64 x.f2, .int .i64 (intoD x.f3), .int .i64 x.f4, .int .i64 x.f5] (fun _ => True) (fun _ => False) (by rfl) (by rfl) (k43_mkM _ _ _ (hopOf x.f2 x.f3 x)) (fun _ h => h.elim) (fun _ _ => trivial) HOW.out HBB6.out HBB6.out.size H32.out ?_; intro v1 w7 ho7 hb7 hg7 hat7; have r4 : w7.cell? ⟨E8, 4, none⟩ = some (.int .i64 x.f4) := (cell_grown hg7 HX6.out (fun h => absurd (HLR.out _ h.symm) (by omega))).trans q4.out; have r5 : w7.cell? ⟨E8, 5, none⟩ = some (.int .i64 x.f5) := (cell_grown hg7 HX6.out (fun h => absurd (HLR.out _ h.symm) (by omega))).trans q5.out; have r0 : w7.cell? ⟨E4, 2, none⟩ = some (.int .i64 x.f2) := (cell_grown hg7 HE6.out (fun h => absurd (HLR.out _ h.symm) (by have := HE48.out; omega))).trans q0.out; have r1 : w7.cell? ⟨E4, 3, none⟩ = some (.int .i64 x.f3) := (cell_grown hg7 HE6.out (fun h => absurd (HLR.out _ h.symm) (by have := HE48.out; omega))).trans q1.out))
              have HO7 := Aside0.mk ho7
              have HB7 := Aside0.mk hb7
              clear ho7 hb7 hg7 hat7 r4 r5 r0 r1
              go_wp2
              go_roundg k1
              case measure => have := HK.out; omega
              case rel => exact ⟨i + 1, (by first | go_num | (rw [int_succ i (by have := HHI.out; have := HL.out; omega)])), ⟨by have := HK.out; omega⟩, ⟨by have := HHI.out; omega⟩, ⟨by rw [HTY.out]; exact HO7.out⟩, HB7⟩
            | false =>
              cases hF : (a == x.f2 && 1 == x.f3) with
              | true =>
                have HTY : Aside0 (hopsS a 1 (l3.take (i + 1)) = hopsS a 1 (l3.take i) ++ [hopOf x.f0 x.f1 x]) := ⟨by rw [HT.out]; unfold hops1; rw [hE, hF, if_neg (by decide), if_pos rfl]⟩
                go_wp2
                have HXLT := Aside0.mk (Array.getElem?_eq_some_iff.1 HXL.out).1
                have hxl2 := (Below.heap_alloc w3 (.cells #[.int .i64 x.f0, .int .i64 x.f1, .int .i64 x.f2, .int .i64 x.f3] 62) wr.heap.size HXLT.out).trans HXL.out
                have hx4 : (w3.alloc (.cells #[.int .i64 x.f0, .int .i64 x.f1, .int .i64 x.f2, .int .i64 x.f3] 62)).cell? ⟨wr.heap.size, 4, none⟩ = some (.int .i64 x.f4) := by simp [World.cell?, hxl2]
                have hx5 : (w3.alloc (.cells #[.int .i64 x.f0, .int .i64 x.f1, .int .i64 x.f2, .int .i64 x.f3] 62)).cell? ⟨wr.heap.size, 5, none⟩ = some (.int .i64 x.f5) := by simp [World.cell?, hxl2]
                have hne := heap_alloc_new w3 (.cells #[.int .i64 x.f0, .int .i64 x.f1, .int .i64 x.f2, .int .i64 x.f3] 62)
                have hy0 : (w3.alloc (.cells #[.int .i64 x.f0, .int .i64 x.f1, .int .i64 x.f2, .int .i64 x.f3] 62)).cell? ⟨w3.heap.size, 0, none⟩ = some (.int .i64 x.f0) := by simp only [World.cell?, hne]; rfl
                have hy1 : (w3.alloc (.cells #[.int .i64 x.f0, .int .i64 x.f1, .int .i64 x.f2, .int .i64 x.f3] 62)).cell? ⟨w3.heap.size, 1, none⟩ = some (.int .i64 x.f1) := by simp only [World.cell?, hne]; rfl
                have HBW4 := Aside0.mk (below_alloc HBL.out (.cells #[.int .i64 x.f0, .int .i64 x.f1, .int .i64 x.f2, .int .i64 x.f3] 62))
                have HE4 : Aside0 (w3.heap.size < (w3.alloc (.cells #[.int .i64 x.f0, .int .i64 x.f1, .int .i64 x.f2, .int .i64 x.f3] 62)).heap.size) := ⟨by simp⟩
                have HXL4 : Aside0 (wr.heap.size < (w3.alloc (.cells #[.int .i64 x.f0, .int .i64 x.f1, .int .i64 x.f2, .int .i64 x.f3] 62)).heap.size) := ⟨by have := HXLT.out; simp; omega⟩
                have HBB4 : Aside0 (Below W1.heap.size W1 (w3.alloc (.cells #[.int .i64 x.f0, .int .i64 x.f1, .int .i64 x.f2, .int .i64 x.f3] 62))) := ⟨HB3.out.alloc HB3.out.size _⟩
                have HE48 : Aside0 (wr.heap.size ≤ w3.heap.size) := ⟨HBL.out.size⟩
                have HLR : Aside0 (∀ k, (Value.slice A6 (hopsS a 1 (l3.take i)).length c6).ownBlock = some k → k < wr.heap.size) := ⟨fun k hk => ((Kd.R_bound HO.out).1 k hk).2.2.1⟩
                have HHL : Aside0 ((hopsS a 1 (l3.take i)).length ≤ i) := ⟨hopsS_len a 1 l3 i⟩
                clear hxl2 hne hq0 hq1
                generalize (w3.alloc (.cells #[.int .i64 x.f0, .int .i64 x.f1, .int .i64 x.f2, .int .i64 x.f3] 62)) = W4 at hx4 hx5 hy0 hy1 HBW4 HE4 HXL4 HBB4 ⊢
                obtain ⟨E4, hE4⟩ : ∃ E4, E4 = w3.heap.size := ⟨_, rfl⟩
                rw [← hE4] at hy0 hy1 HE4 HE48 ⊢
                obtain ⟨E8, hE8⟩ : ∃ E8, E8 = wr.heap.size := ⟨_, rfl⟩
                rw [← hE8] at hx4 hx5 HXL4 HLR HE48 ⊢
                clear hE4 hE8
                have H32 : Aside0 (((hopsS a 1 (l3.take i)).length + 1) * 32 ≤ 140737488355328) := ⟨by have := HHL.out; have := HL.out; have := HHI.out; omega⟩
                go_region_held3 (fun w' => w'.cell? ⟨E8, 4, none⟩ = some (.int .i64 x.f4) ∧ w'.cell? ⟨E8, 5, none⟩ = some (.int .i64 x.f5) ∧ w'.cell? ⟨E4, 0, none⟩ = some (.int .i64 x.f0) ∧ w'.cell? ⟨E4, 1, none⟩ = some (.int .i64 x.f1))
                  (go_keep)
                  (first
                    | (go_at_call 25; (refine (into_c _ _ _).mono ?_); rintro e w6 ⟨rfl, hb6⟩; have g4 : w6.cell? ⟨E8, 4, none⟩ = some (.int .i64 x.f4) := (hb6.cell (p := ⟨E8, 4, none⟩) (by have := HXL4.out; simp; omega)).trans hx4; have g5 : w6.cell? ⟨E8, 5, none⟩ = some (.int .i64 x.f5) := (hb6.cell (p := ⟨E8, 5, none⟩) (by have := HXL4.out; simp; omega)).trans hx5; have g0 : w6.cell? ⟨E4, 0, none⟩ = some (.int .i64 x.f0) := (hb6.cell (p := ⟨E4, 0, none⟩) (by have := HE4.out; simp; omega)).trans hy0; have g1 : w6.cell? ⟨E4, 1, none⟩ = some (.int .i64 x.f1) := (hb6.cell (p := ⟨E4, 1, none⟩) (by have := HE4.out; simp; omega)).trans hy1; have HB6 := Aside0.mk ((below_drew HBW4.out).trans (hb6.mono (by have := HBW4.out.size; simp; omega))); have HBB6 := Aside0.mk ((below_drew HBB4.out).trans (hb6.mono (by have := HBB4.out.size; simp; omega))); have HOW := Aside0.mk (Kd.R_below HO.out HB6.out); have q4 := Aside0.mk g4; have q5 := Aside0.mk g5; have q0 := Aside0.mk g0; have q1 := Aside0.mk g1; have HX6 := Aside0.mk (show E8 < w6.heap.size by have := hb6.size; have := HXL4.out; simp at *; omega); have HE6 := Aside0.mk (show E4 < w6.heap.size by have := hb6.size; have := HE4.out; simp at *; omega))
                    | (refine Kd.R_append_step k43 (w0 := W1) W1.heap.size (by rfl) (.tmp 50) (.tmp 59) 37 43 (.agg #[.int .i64 0, .int .i64 0, .int .i64 0, .int .i64 0]) 32 (by rfl) Try.underlying37 (by kernel_rfl) rfl (by decide) (by omega) (.slice A6 (hopsS a 1 (l3.take i)).length c6) (hopsS a 1 (l3.take i)) (hopOf x.f0 x.f1 x) [.int .i64 x.f0, .int .i64 (intoD x.f1), .int .i64 x.f4, .int .i64 x.f5] (fun _ => True) (fun _ => False) (by rfl) (by rfl) (k43_mkM _ _ _ (hopOf x.f0 x.f1 x)) (fun _ h => h.elim) (fun _ _ => trivial) HOW.out HBB6.out HBB6.out.size H32.out ?_; intro v1 w7 ho7 hb7 hg7 hat7; have r4 : w7.cell? ⟨E8, 4, none⟩ = some (.int .i64 x.f4) := (cell_grown hg7 HX6.out (fun h => absurd (HLR.out _ h.symm) (by omega))).trans q4.out; have r5 : w7.cell? ⟨E8, 5, none⟩ = some (.int .i64 x.f5) := (cell_grown hg7 HX6.out (fun h => absurd (HLR.out _ h.symm) (by omega))).trans q5.out; have r0 : w7.cell? ⟨E4, 0, none⟩ = some (.int .i64 x.f0) := (cell_grown hg7 HE6.out (fun h => absurd (HLR.out _ h.symm) (by have := HE48.out; omega))).trans q0.out; have r1 : w7.cell? ⟨E4, 1, none⟩ = some (.int .i64 x.f1) := (cell_grown hg7 HE6.out (fun h => absurd (HLR.out _ h.symm) (by have := HE48.out; omega))).trans q1.out))
                have HO7 := Aside0.mk ho7
                have HB7 := Aside0.mk hb7
                clear ho7 hb7 hg7 hat7 r4 r5 r0 r1
                go_wp2
                go_roundg k1
                case measure => have := HK.out; omega
                case rel => exact ⟨i + 1, (by first | go_num | (rw [int_succ i (by have := HHI.out; have := HL.out; omega)])), ⟨by have := HK.out; omega⟩, ⟨by have := HHI.out; omega⟩, ⟨by rw [HTY.out]; exact HO7.out⟩, HB7⟩
              | false =>
                have HTN : Aside0 (hopsS a 1 (l3.take i) = hopsS a 1 (l3.take (i + 1))) := ⟨by rw [HT.out]; unfold hops1; rw [hE, hF, if_neg (by decide), if_neg (by decide), List.append_nil]⟩
                go_wp2
                go_roundg k1
                case measure => have := HK.out; omega
                case rel => exact ⟨i + 1, (by first | go_num | (rw [int_succ i (by have := HHI.out; have := HL.out; omega)])), ⟨by have := HK.out; omega⟩, ⟨by have := HHI.out; omega⟩, ⟨by rw [← HTN.out]; exact Kd.R_below HO.out (below_alloc HBL.out _)⟩, ⟨HB3.out.alloc HB3.out.size _⟩⟩
          · have hi1 : decide ((i : Int) < (l3.length : Int)) = false := decide_eq_false (by omega)
            have hi2 : decide (i < l3.length) = false := decide_eq_false hi
            have HRR : Aside0 (hopsS a 1 (l3.take i) = R) := ⟨by rw [List.take_of_length_le (by omega)]; exact HR2.out⟩
            go_wp2
            go_ret
            exact ⟨_, rfl, by rw [← HRR.out]; exact Kd.R_lower HO.out HBW.out.size, HBF.out⟩
theorem has_check (l0 l1 : List ByteArray) (l2 : List (S31)) (l3 : List Link) (a b : Int) (h : layout_Has.f l0 l1 l2 l3 a b = some true) : layout_Check.f l0 l1 l2 l3 = some 0 := by
  have key : ∀ c, layout_Check.f l0 l1 l2 l3 = some c → ((layout_Check.f l0 l1 l2 l3).bind fun t => some (t == 0)) = some true → layout_Check.f l0 l1 l2 l3 = some 0 := by
    intro c hc hb
    rw [hc] at hb ⊢
    have h0 : (c == 0) = true := Option.some.inj hb
    rw [eq_of_beq h0]
  obtain ⟨c, hc⟩ : ∃ c, layout_Check.f l0 l1 l2 l3 = some c := ⟨_, rfl⟩
  unfold layout_Has.f at h
  obtain ⟨t, ht, h⟩ := Option.bind_eq_some_iff.mp h
  by_cases h1 : t = true
  · rw [if_pos h1] at h
    by_cases h2 : b = 0
    · rw [if_pos h2] at h; exact key c hc h
    · rw [if_neg h2] at h
      by_cases h3 : b = 1
      · rw [if_pos h3] at h; exact key c hc h
      · rw [if_neg h3] at h; cases h
  · rw [if_neg h1] at h; cases h
theorem check_parts (l0 l1 : List ByteArray) (l2 : List (S31)) (l3 : List Link) (h : layout_Check.f l0 l1 l2 l3 = some 0) : l3.length ≤ 192 ∧ linksS ((l2.length : Int) - 1) ((l1.length : Int) - 1) (fun _ => []) l3 = 0 := by
  have h0 := Option.some.inj h
  unfold chkS at h0
  by_cases c1 : l0.length > 24
  · rw [if_pos c1] at h0; cases h0
  rw [if_neg c1] at h0
  by_cases c2 : l1.length > 48
  · rw [if_pos c2] at h0; cases h0
  rw [if_neg c2] at h0
  by_cases c3 : l2.length > 96
  · rw [if_pos c3] at h0; cases h0
  rw [if_neg c3] at h0
  by_cases c4 : l3.length > 192
  · rw [if_pos c4] at h0; cases h0
  rw [if_neg c4] at h0
  by_cases c5 : l2.length = 0
  · rw [if_pos c5] at h0; cases h0
  rw [if_neg c5] at h0
  refine ⟨by omega, ?_⟩
  unfold chkF at h0
  by_cases d1 : namesS [] l0 = 0
  · rw [if_pos d1] at h0
    by_cases d2 : namesS [] l1 = 0
    · rw [if_pos d2] at h0
      by_cases d3 : sectionsS ((l0.length : Int) - 1) [] l2 = 0
      · rw [if_pos d3] at h0; exact h0
      · rw [if_neg d3] at h0; exact absurd h0 d3
    · rw [if_neg d2] at h0; exact absurd h0 d2
  · rw [if_neg d1] at h0; exact absurd h0 d1
theorem layout_Hops.calls (A0 : Option Addr) (c0 : Nat) (l0 : List ByteArray) (A1 : Option Addr) (c1 : Nat) (l1 : List ByteArray) (A2 : Option Addr) (c2 : Nat) (l2 : List (S31)) (A3 : Option Addr) (c3 : Nat) (l3 : List Link) (a b : Int) (r : List (S43)) (w : World) (hr0 : Kd.C Kd.string w A0 l0.length l0) (hc0 : l0.length ≤ c0) (hr1 : Kd.C Kd.string w A1 l1.length l1) (hc1 : l1.length ≤ c1) (hr2 : Kd.C k31 w A2 l2.length l2) (hc2 : l2.length ≤ c2) (hr3 : Kd.C kLink w A3 l3.length l3) (hc3 : l3.length ≤ c3) (h : layout_Hops.f l0 l1 l2 l3 a b = some r) :
    Calls Try.prog 11 #[.agg #[.slice A0 l0.length c0, .slice A1 l1.length c1, .slice A2 l2.length c2, .slice A3 l3.length c3], .agg #[.int .i64 a, .int .i64 b]] w fun e w' => ∃ v, e = .returned v ∧ Kd.R k43 43 w' w.heap.size (fun _ => True) v r ∧ Below w.heap.size w w' := by
  unfold layout_Hops.f at h
  obtain ⟨hb, hh, hr⟩ := Option.bind_eq_some_iff.mp h
  have he : (if hb = true then hopsS a (if b = 1 then 0 else 1) l3 else []) = r := by
    cases hb with
    | true => rw [if_pos rfl] at hr ⊢; exact Option.some.inj hr
    | false => rw [if_neg (by decide)] at hr ⊢; exact Option.some.inj hr
  rw [← he]
  exact hops_c A0 c0 l0.length A1 c1 l1.length A2 c2 l2.length A3 c3 l3 a b hb w hr3 (fun ht => (check_parts l0 l1 l2 l3 (has_check l0 l1 l2 l3 a b (ht ▸ hh))).1) (fun W hW => layout_Has.calls A0 c0 l0 A1 c1 l1 A2 c2 l2 A3 c3 l3 a b hb W (Kd.C_below hr0 hW) hc0 (Kd.C_below hr1 hW) hc1 (Kd.C_below hr2 hW) hc2 (Kd.C_below hr3 hW) hc3 hh)
end Go.Proofs.Ytkegdgdkfbmabaa.X
