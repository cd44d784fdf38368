/- Check rejects lists that are too long with ErrFull, and accepts them at the limit. -/
import Derived.KernelRfl
import Derived.Test.YtkegdgdkfbmabaaQLDecAll
import Derived.Test.YtkegdgdkfbmabaaQCheck
import Derived.Test.YtkegdgdkfbmabaaX2
namespace Go.Proofs.Ytkegdgdkfbmabaa.Pure
set_option linter.unusedVariables false
set_option linter.unusedSimpArgs false
open Go Go.RowKit Go.Proofs.Ytkegdgdkfbmabaa.X Go.Proofs.YtkegdgdkfbmabaaW.PrintWords Go.Proofs.YtkegdgdkfbmabaaW.PrintLast
abbrev Sec := S31
def nm (i : Nat) : ByteArray := (⟨#[97]⟩ : ByteArray) ++ Q.decB (i : Int)
def nms (n : Nat) : List ByteArray := (List.range n).map nm
def scs (n : Nat) : List Sec := (List.range n).map fun i => (⟨nm i, 1, 1000, 0, -1⟩ : Sec)
def oneX : List Sec := [(⟨(⟨#[88]⟩ : ByteArray), 400, 100000, (-40), (-1)⟩ : Sec)]
theorem awake : railplanlaw4_awake.f = some true := by kernel_rfl
theorem nms_succ (n : Nat) : nms (n + 1) = nms n ++ [nm n] := by unfold nms; rw [List.range_succ, List.map_append]; rfl
theorem scs_succ (n : Nat) : scs (n + 1) = scs n ++ [(⟨nm n, 1, 1000, 0, -1⟩ : Sec)] := by unfold scs; rw [List.range_succ, List.map_append]; rfl
/-- The answer at kind t and length n. -/
def ans (t n : Nat) : Option Int := layout_Check.f (if t = 0 then nms n else []) (if t = 1 then nms n else []) (if t = 2 then scs n else oneX) []
def most (t : Nat) : Nat := if t = 0 then 24 else if t = 1 then 48 else 96
theorem ans_ok : (List.range 3).all (fun t => (List.range 3).all fun d => decide (ans t (most t + d - 1) = some (if most t + d - 1 ≤ most t then 0 else 7))) = true := by kernel_rfl
theorem ans_at (t d : Nat) (ht : t < 3) (hd : d < 3) : ans t (most t + d - 1) = some (if most t + d - 1 ≤ most t then 0 else 7) :=
  of_decide_eq_true (List.all_eq_true.1 (List.all_eq_true.1 ans_ok t (List.mem_range.2 ht)) d (List.mem_range.2 hd))
theorem scs_len (n : Nat) : (scs n).length = n := by unfold scs; simp
theorem nms_len (n : Nat) : (nms n).length = n := by unfold nms; simp
theorem fin_go (g : Nat → Option Bool) (v : Int) (o : Option Int) (n m : Nat) (ho : o = some v) (hv : v = if n ≤ m then 0 else 7) (hg : ∀ k, g k = (railplanlaw4_awake.f).bind fun t => if t = true then (o.bind fun a => if ((a == 0) == decide ((n : Int) ≤ (m : Int))) = true then (o.bind fun b => some ((b == 7) == decide ((n : Int) > (m : Int)))) else some false) else some false) : Ev g true := by
  refine Ev.congr hg ?_
  subst ho
  refine Q.ev1 awake (Q.evp rfl (Q.ev1 rfl (Q.evp ?_ (Q.ev1 rfl (Q.evs ?_)))))
  · by_cases h : n ≤ m
    · rw [if_pos h] at hv; subst hv; rw [decide_eq_true (show (n : Int) ≤ (m : Int) by omega)]; rfl
    · rw [if_neg h] at hv; subst hv; rw [decide_eq_false (show ¬ (n : Int) ≤ (m : Int) by omega)]; rfl
  · by_cases h : n ≤ m
    · rw [if_pos h] at hv; subst hv; rw [decide_eq_false (show ¬ (n : Int) > (m : Int) by omega)]; rfl
    · rw [if_neg h] at hv; subst hv; rw [decide_eq_true (show (n : Int) > (m : Int) by omega)]; rfl
theorem lim_end (a0 : Int) (t n d : Nat) (ht : t < 3) (hd : d < 3) (hn : n = most t + d - 1) (i : Nat) (hi : ¬ i < n) (hin : i = n) : Ev (fun k => railplanlaw4_LayoutLimits.l0 k a0 (most t : Int) (n : Int) (i : Int) (if t = 0 then nms i else []) (if t = 1 then nms i else []) (if t = 2 then scs i else [])) true := by
  subst hin
  have ha := ans_at t d ht hd
  rw [← hn] at ha
  unfold ans at ha
  refine Ev.step (fun k => by rw [railplanlaw4_LayoutLimits.l0]) (Q.evn (by omega) ?_)
  by_cases h2 : t = 2
  · subst h2
    have h1 : 1 ≤ i := by rw [hn]; unfold most; simp; omega
    refine Q.evn (by simp [scs_len]; omega) ?_
    refine fin_go _ _ _ i (most 2) ha rfl (fun k => ?_)
    rfl
  · rw [if_neg h2] at ha ⊢
    refine Q.evp (by simp) (Q.ev1 rfl ?_)
    exact fin_go _ _ _ i (most t) ha rfl (fun k => rfl)
theorem lim_run (a0 : Int) (t n d : Nat) (ht : t < 3) (hd : d < 3) (hn : n = most t + d - 1) (hp : railplankeep_Pick.f a0 3 = some (t : Int)) (m : Nat) : ∀ i : Nat, i + m = n → Ev (fun k => railplanlaw4_LayoutLimits.l0 k a0 (most t : Int) (n : Int) (i : Int) (if t = 0 then nms i else []) (if t = 1 then nms i else []) (if t = 2 then scs i else [])) true := by
  have hmost : most t ≤ 96 := by unfold most; split <;> (try split) <;> omega
  induction m with
  | zero => intro i hi; exact lim_end a0 t n d ht hd hn i (by omega) (by omega)
  | succ m ih =>
    intro i hi
    have hsz := Q.itoa_len (i : Int) (by omega) (by omega)
    refine Ev.step (fun k => by rw [railplanlaw4_LayoutLimits.l0]) (Q.evp (by omega) (Q.ev2 (Q.r_dec (i : Int) (by omega) (by omega)) ?_))
    refine Q.evp (by omega) (Q.ev1 hp ?_)
    rw [Q.w64 (by omega) (by omega)]
    have h := ih (i + 1) (by omega)
    have ht3 : t = 0 ∨ t = 1 ∨ t = 2 := by omega
    rcases ht3 with rfl | rfl | rfl
    · rw [nms_succ] at h
      exact Q.evp rfl (Q.evp (by simp [nms_len]; omega) h)
    · rw [nms_succ] at h
      exact Q.evn (by decide) (Q.evp rfl (Q.evp (by simp [nms_len]; omega) h))
    · rw [scs_succ] at h
      exact Q.evn (by decide) (Q.evn (by decide) (Q.evp (by simp [scs_len]; omega) h))
theorem pick (a : Int) : ∃ t : Nat, railplankeep_Pick.f a 3 = some (t : Int) ∧ t < 3 := by
  have e : IntKind.u64.wrap (3 : Int) = 3 := by decide
  have hw : 0 ≤ IntKind.u64.wrap a := by rw [IntKind.wrap_u64]; omega
  unfold railplankeep_Pick.f
  rw [e, if_neg (by decide), Int.tmod_eq_emod_of_nonneg hw, Q.w64 (by omega) (by omega)]
  exact ⟨(IntKind.u64.wrap a % 3).toNat, by rw [Int.toNat_of_nonneg (by omega)], by omega⟩
theorem LayoutLimits : railplanlaw4_LayoutLimits.Pure := by
  intro a b _ _
  obtain ⟨t, hp, ht⟩ := pick a
  obtain ⟨d, hq, hd⟩ := pick b
  refine Ev.rounds ?_
  unfold railplanlaw4_LayoutLimits.f
  have hmost : 24 ≤ most t ∧ most t ≤ 96 := by unfold most; split <;> (try split) <;> omega
  have hrd : rd ([24, 48, 96] : List Int) (t : Int) = (most t : Int) := by
    have ht3 : t = 0 ∨ t = 1 ∨ t = 2 := by omega
    rcases ht3 with rfl | rfl | rfl <;> rfl
  refine Q.ev1 rfl (Q.ev1 hp (Q.evp (by omega) (Q.evp (by show (t : Int) < 3; omega) (Q.ev1 hq ?_))))
  rw [hrd, Q.w64 (x := (most t : Int) + (d : Int)) (by omega) (by omega), Q.w64 (by omega) (by omega), show ((most t : Int) + (d : Int) - 1) = ((most t + d - 1 : Nat) : Int) by omega]
  have h := lim_run a t (most t + d - 1) d ht hd rfl hp (most t + d - 1) 0 (by omega)
  have e0 : (if t = 0 then nms 0 else []) = ([] : List ByteArray) := by split <;> rfl
  have e1 : (if t = 1 then nms 0 else []) = ([] : List ByteArray) := by split <;> rfl
  have e2 : (if t = 2 then scs 0 else []) = ([] : List Sec) := by split <;> rfl
  rw [e0, e1, e2] at h
  exact h
end Go.Proofs.Ytkegdgdkfbmabaa.Pure
