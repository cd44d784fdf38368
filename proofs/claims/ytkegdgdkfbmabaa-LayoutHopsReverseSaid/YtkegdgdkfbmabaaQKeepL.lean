/- railplankeep.Layout: the generated layout. -/
import Derived.Test.YtkegdgdkfbmabaaQRow
import Derived.Test.YtkegdgdkfbmabaaX4
namespace Go.Proofs.Ytkegdgdkfbmabaa.X
open Go Go.RowKit Go.Proofs.YtkegdgdkfbmabaaW Go.Proofs.YtkegdgdkfbmabaaW.PrintWords Go.Proofs.YtkegdgdkfbmabaaW.PrintLast Go.Proofs.YtkegdgdkfbmabaaW.PrintMore
set_option linter.unusedVariables false
set_option linter.unusedSimpArgs false
def genL (l : List Int) : List ByteArray × List ByteArray × List Sec1 × List Lnk1 := ((stE l 0).2.1, (bwE l 0).2.2.2.1, (bwE l 0).2.1, (bwE l 0).2.2.1)
def railplankeep_Layout.f (k : Nat) (l : List Int) : Option (List ByteArray × List ByteArray × List Sec1 × List Lnk1) := if l.length ≤ 9000000000000000000 then some (genL l) else none
theorem railplankeep_Layout.mono : ∀ a0 k, LeO (railplankeep_Layout.f k a0) (railplankeep_Layout.f (k + 1) a0) := fun _ _ _ h => h
set_option maxHeartbeats 1600000 in
set_option maxRecDepth 100000 in
theorem railplankeep_Layout.calls (k : Nat) (A0 : Option Addr) (c0 : Nat) (l0 : List Int) (r0 r1 : List ByteArray) (r2 : List Sec1) (r3 : List Lnk1) (w : World) (hr0 : Kd.C (Kd.int .i64) w A0 l0.length l0) (hc0 : l0.length ≤ c0) (h : railplankeep_Layout.f k l0 = some (r0, r1, r2, r3)) :
    Calls Try.prog 10 #[.slice A0 l0.length c0] w fun e w' => ∃ v0 v1 v2 v3, e = .returned (.agg #[v0, v1, v2, v3]) ∧ Kd.R Kd.string 9 w' w.heap.size (fun k => some k ≠ v1.ownBlock) v0 r0 ∧ Kd.R Kd.string 9 w' w.heap.size (fun k => some k ≠ v0.ownBlock) v1 r1 ∧ Kd.R kSec1 31 w' w.heap.size (fun _ => True) v2 r2 ∧ Kd.R kLnk1 61 w' w.heap.size (fun _ => True) v3 r3 ∧ Below w.heap.size w w' := by
  have huB := Try.underlying53
  have huL := Try.underlying28
  unfold railplankeep_Layout.f at h
  by_cases hl : l0.length ≤ 9000000000000000000
  · rw [if_pos hl] at h
    have hg := Option.some.inj h
    unfold genL at hg
    injection hg with g0 hg
    injection hg with g1 hg
    injection hg with g2 g3
    subst g0 g1 g2 g3
    have HR := Aside0.mk hr0
    have HC := Aside0.mk hc0
    have HL := Aside0.mk hl
    clear h hl hr0 hc0
    have HR0 := Aside0.mk (Kd.C_below HR.out (below_alloc (Below.refl _ _) (.cells #[.slice none 0 0, .slice none 0 0, .slice none 0 0, .slice none 0 0] 28)))
    have HB0 := Aside0.mk (below_alloc (Below.refl w.heap.size w) (.cells #[.slice none 0 0, .slice none 0 0, .slice none 0 0, .slice none 0 0] 28))
    have HX0 := Aside0.mk (blk_new w (.cells #[.slice none 0 0, .slice none 0 0, .slice none 0 0, .slice none 0 0] 28))
    go_enter Try.func10, Try.ntmps10
    go_wp2_with (first
      | (go_at_call 23; refine (railplankeep_From.calls A0 c0 l0 l0 0 (w.alloc (.cells #[.slice none 0 0, .slice none 0 0, .slice none 0 0, .slice none 0 0] 28)) _ (Below.refl _ _) HR0.out HC.out rfl).mono ?_; rintro e w3 ⟨g, rfl, hI, hB, hB2⟩; have HI := Aside0.mk hI; have HB := Aside0.mk hB; clear hI hB hB2)
      | (go_at_call 22; refine (row_c g l0 0 HL.out (w.alloc (.cells #[.slice none 0 0, .slice none 0 0, .slice none 0 0, .slice none 0 0] 28)) _ HI.out HB.out).mono ?_; rintro e w4 ⟨p, v0, v1, v2, v3, v4, v5, H1, ok4, ok5, rfl, hr⟩; obtain ⟨B0, b0, q0⟩ := Kd.R_slice hr.r0; obtain ⟨B1, b1, q1⟩ := Kd.R_slice hr.r1; obtain ⟨B2, b2, q2⟩ := Kd.R_slice hr.r2; obtain ⟨B3, b3, q3⟩ := Kd.R_slice hr.r3; subst q0 q1 q2 q3; have HRI := Aside0.mk hr; have hc0 : w4.cell? ⟨p, 0, none⟩ = some (.slice B0 _ b0) := (blk_cell hr.blk 0).trans rfl; have hc1 : w4.cell? ⟨p, 1, none⟩ = some (.slice B1 _ b1) := (blk_cell hr.blk 1).trans rfl; have hc2 : w4.cell? ⟨p, 2, none⟩ = some (.slice B2 _ b2) := (blk_cell hr.blk 2).trans rfl; have hc3 : w4.cell? ⟨p, 3, none⟩ = some (.slice B3 _ b3) := (blk_cell hr.blk 3).trans rfl; have HG := Aside0.mk ((hr.bel.block w.heap.size (by simp)).trans HX0.out); have d0 : w4.cell? ⟨w.heap.size, 0, none⟩ = some (.slice none 0 0) := (blk_cell HG.out 0).trans rfl; have d1 : w4.cell? ⟨w.heap.size, 1, none⟩ = some (.slice none 0 0) := (blk_cell HG.out 1).trans rfl; have d2 : w4.cell? ⟨w.heap.size, 2, none⟩ = some (.slice none 0 0) := (blk_cell HG.out 2).trans rfl; have d3 : w4.cell? ⟨w.heap.size, 3, none⟩ = some (.slice none 0 0) := (blk_cell HG.out 3).trans rfl; have f0 := blk_frozen HG.out 0; have f1 := blk_frozen HG.out 1; have f2 := blk_frozen HG.out 2; have f3 := blk_frozen HG.out 3; clear hr))
    clear hc0 hc1 hc2 hc3 d0 d1 d2 d3 f0 f1 f2 f3
    have g1 := blk_put HG.out 0 (.slice B0 (stE l0 0).2.1.length b0) rfl
    have g2 := blk_put g1 1 (.slice B1 (bwE l0 0).2.2.2.1.length b1) rfl
    have g3 := blk_put g2 2 (.slice B2 (bwE l0 0).2.1.length b2) rfl
    have g4 := blk_put g3 3 (.slice B3 (bwE l0 0).2.2.1.length b3) rfl
    have HS := HRI.out.bel.size
    have HBB := HB0.out.trans (HRI.out.bel.mono (by simp))
    have HBW := (((HBB.setCell (p := ⟨w.heap.size, 0, none⟩) (Nat.le_refl _) (.slice B0 (stE l0 0).2.1.length b0)).setCell (p := ⟨w.heap.size, 1, none⟩) (Nat.le_refl _) (.slice B1 (bwE l0 0).2.2.2.1.length b1)).setCell (p := ⟨w.heap.size, 2, none⟩) (Nat.le_refl _) (.slice B2 (bwE l0 0).2.1.length b2)).setCell (p := ⟨w.heap.size, 3, none⟩) (Nat.le_refl _) (.slice B3 (bwE l0 0).2.2.1.length b3)
    have a : ∀ {α : Type} {d : Kd α} {e base : Nat} {ok : Nat → Prop} {v : Value} {xs : List α}, d.R e w4 base ok v xs → w.heap.size ≤ base → (∀ q, q ∈ e :: d.E → q ≠ 28) → d.R e ((((w4.setCell ⟨w.heap.size, 0, none⟩ (.slice B0 (stE l0 0).2.1.length b0)).setCell ⟨w.heap.size, 1, none⟩ (.slice B1 (bwE l0 0).2.2.2.1.length b1)).setCell ⟨w.heap.size, 2, none⟩ (.slice B2 (bwE l0 0).2.1.length b2)).setCell ⟨w.heap.size, 3, none⟩ (.slice B3 (bwE l0 0).2.2.1.length b3)) w.heap.size ok v xs :=
      fun hr hb hq => Kd.R_lower (Kd.R_set (Kd.R_set (Kd.R_set (Kd.R_set hr HG.out hq 0 _) g1 hq 1 _) g2 hq 2 _) g3 hq 3 _) hb
    refine bodyPost_ret (results_cell_row rfl _ _ w.heap.size 28 #[.slice B0 (stE l0 0).2.1.length b0, .slice B1 (bwE l0 0).2.2.2.1.length b1, .slice B2 (bwE l0 0).2.1.length b2, .slice B3 (bwE l0 0).2.2.1.length b3] (0, 0) _ rfl g4 huL rfl (by kernel_rfl)) rfl ⟨_, _, _, _, rfl, ?_, ?_, ?_, ?_, HBW⟩
    · exact Kd.R_mono (a HRI.out.r0 (by simp) (by decide)) (fun k hk he => by have := ((Kd.R_bound HRI.out.r1).1 k he.symm).2.1; omega)
    · exact a (Kd.R_mono (Kd.R_bound HRI.out.r1) (fun k hk he => by have h1 := HRI.out.r0.1 k he.symm; have h2 := hk.2.1; omega)) (Nat.le_trans (by simp) HRI.out.hH) (by decide)
    · exact a HRI.out.r2 (by simp) (by decide)
    · exact a HRI.out.r3 (by simp) (by decide)
  · rw [if_neg hl] at h; cases h
end Go.Proofs.Ytkegdgdkfbmabaa.X
