/- layout.Check: what it answers, and that the call comes to it. -/
import Derived.Test.YtkegdgdkfbmabaaQSections
import Derived.Test.YtkegdgdkfbmabaaQLinks
import Derived.Test.YtkegdgdkfbmabaaX0
import Derived.Test.YtkegdgdkfbmabaaQNames
namespace Go.Proofs.Ytkegdgdkfbmabaa.X
open Go Go.RowKit Go.Maps Go.Proofs.YtkegdgdkfbmabaaW Go.Proofs.YtkegdgdkfbmabaaW.PrintWords Go.Proofs.YtkegdgdkfbmabaaW.PrintLast Go.Proofs.YtkegdgdkfbmabaaW.PrintMore
set_option linter.unusedVariables false
set_option linter.unusedSimpArgs false
--BODY
/-- The first error of what is no link. -/
def chkF (l0 l1 : List ByteArray) (l2 : List (S31)) (lk : Int) : Int :=
  if namesS [] l0 = 0 then (if namesS [] l1 = 0 then (if sectionsS ((l0.length : Int) - 1) [] l2 = 0 then lk else sectionsS ((l0.length : Int) - 1) [] l2) else namesS [] l1) else namesS [] l0
def chkS (l0 l1 : List ByteArray) (l2 : List (S31)) (n3 : Nat) (lk : Int) : Int :=
  if l0.length > 24 then 7 else if l1.length > 48 then 7 else if l2.length > 96 then 7 else if n3 > 192 then 7 else if l2.length = 0 then 1 else chkF l0 l1 l2 lk
def layout_Check.f (l0_0 : List ByteArray) (l0_1 : List ByteArray) (l0_2 : List (S31)) (l0_3 : List (S61)) : Option Int :=
  some (chkS l0_0 l0_1 l0_2 l0_3.length (linksS ((l0_2.length : Int) - 1) ((l0_1.length : Int) - 1) (fun _ => []) l0_3))
set_option maxHeartbeats 800000 in
set_option maxRecDepth 100000 in
theorem chk1_c (b : Nat) (A0 : Option Addr) (c0 : Nat) (l0 : List ByteArray) (w : World) (hb : w.cell? ⟨b, 0, none⟩ = some (.slice A0 l0.length c0)) (hr : Kd.C Kd.string w A0 l0.length l0) (hl : l0.length ≤ 200) :
    Calls Try.prog 15 #[.pointer (some ⟨b, 0, none⟩)] w fun e w' => e = .returned (.int .i64 (namesS [] l0)) ∧ Below w.heap.size w w' := by
  have hu28 := Try.underlying28
  have HC := Aside0.mk (names_c A0 c0 l0 w hr hl)
  clear hr
  go_enter Try.func15, Try.ntmps15
  go_wp2_with fail
  (with_reducible refine HC.out.mono ?_)
  rintro e w2 ⟨rfl, hb2⟩
  have HB := Aside0.mk hb2
  clear hb2
  go_wp2
  go_ret
  exact ⟨rfl, HB.out⟩
set_option maxHeartbeats 800000 in
set_option maxRecDepth 100000 in
theorem chk2_c (b : Nat) (A0 : Option Addr) (c0 : Nat) (l0 : List ByteArray) (w : World) (hb : w.cell? ⟨b, 1, none⟩ = some (.slice A0 l0.length c0)) (hr : Kd.C Kd.string w A0 l0.length l0) (hl : l0.length ≤ 200) :
    Calls Try.prog 17 #[.pointer (some ⟨b, 0, none⟩)] w fun e w' => e = .returned (.int .i64 (namesS [] l0)) ∧ Below w.heap.size w w' := by
  have hu28 := Try.underlying28
  have HC := Aside0.mk (names_c A0 c0 l0 w hr hl)
  clear hr
  go_enter Try.func17, Try.ntmps17
  go_wp2_with fail
  (with_reducible refine HC.out.mono ?_)
  rintro e w2 ⟨rfl, hb2⟩
  have HB := Aside0.mk hb2
  clear hb2
  go_wp2
  go_ret
  exact ⟨rfl, HB.out⟩
set_option maxHeartbeats 800000 in
set_option maxRecDepth 100000 in
theorem chk3_c (b : Nat) (v0 v1 v2 v3 : Value) (q : Int) (w : World) (h0 : w.cell? ⟨b, 0, none⟩ = some v0) (h1 : w.cell? ⟨b, 1, none⟩ = some v1) (h2 : w.cell? ⟨b, 2, none⟩ = some v2) (h3 : w.cell? ⟨b, 3, none⟩ = some v3)
    (hc : Calls Try.prog 19 #[.agg #[v0, v1, v2, v3]] w fun e w' => e = .returned (.int .i64 q) ∧ Below w.heap.size w w') :
    Calls Try.prog 18 #[.pointer (some ⟨b, 0, none⟩)] w fun e w' => e = .returned (.int .i64 q) ∧ Below w.heap.size w w' := by
  have hu28 := Try.underlying28
  have HC := Aside0.mk hc
  clear hc
  go_enter Try.func18, Try.ntmps18
  go_wp2_with fail
  (with_reducible refine HC.out.mono ?_)
  rintro e w2 ⟨rfl, hb2⟩
  have HB := Aside0.mk hb2
  clear hb2
  go_wp2
  go_ret
  exact ⟨rfl, HB.out⟩
set_option maxHeartbeats 800000 in
set_option maxRecDepth 100000 in
theorem chk4_c (b : Nat) (v0 v1 v2 v3 : Value) (q : Int) (w : World) (h0 : w.cell? ⟨b, 0, none⟩ = some v0) (h1 : w.cell? ⟨b, 1, none⟩ = some v1) (h2 : w.cell? ⟨b, 2, none⟩ = some v2) (h3 : w.cell? ⟨b, 3, none⟩ = some v3)
    (hc : Calls Try.prog 21 #[.agg #[v0, v1, v2, v3]] w fun e w' => e = .returned (.int .i64 q) ∧ Below w.heap.size w w') :
    Calls Try.prog 20 #[.pointer (some ⟨b, 0, none⟩)] w fun e w' => e = .returned (.int .i64 q) ∧ Below w.heap.size w w' := by
  have hu28 := Try.underlying28
  have HC := Aside0.mk hc
  clear hc
  go_enter Try.func20, Try.ntmps20
  go_wp2_with fail
  (with_reducible refine HC.out.mono ?_)
  rintro e w2 ⟨rfl, hb2⟩
  have HB := Aside0.mk hb2
  clear hb2
  go_wp2
  go_ret
  exact ⟨rfl, HB.out⟩
/-- What the checks from number i on come to. -/
def restF (l0 l1 : List ByteArray) (l2 : List (S31)) (lk : Int) : Nat → Int
  | 0 => chkF l0 l1 l2 lk
  | 1 => if namesS [] l1 = 0 then (if sectionsS ((l0.length : Int) - 1) [] l2 = 0 then lk else sectionsS ((l0.length : Int) - 1) [] l2) else namesS [] l1
  | 2 => if sectionsS ((l0.length : Int) - 1) [] l2 = 0 then lk else sectionsS ((l0.length : Int) - 1) [] l2
  | 3 => lk
  | _ => 0
def stepF (l0 l1 : List ByteArray) (l2 : List (S31)) (lk : Int) : Nat → Int
  | 0 => namesS [] l0
  | 1 => namesS [] l1
  | 2 => sectionsS ((l0.length : Int) - 1) [] l2
  | _ => lk
theorem restF_step (l0 l1 : List ByteArray) (l2 : List (S31)) (lk : Int) (i : Nat) (h : i ≤ 3) : restF l0 l1 l2 lk i = if stepF l0 l1 l2 lk i = 0 then restF l0 l1 l2 lk (i + 1) else stepF l0 l1 l2 lk i := by
  match i, h with
  | 0, _ => rfl
  | 1, _ => rfl
  | 2, _ => rfl
  | 3, _ =>
    show lk = if lk = 0 then 0 else lk
    split
    · assumption
    · rfl
set_option maxHeartbeats 1600000 in
set_option maxRecDepth 100000 in
/-- Check, where the links' error is told (lk). -/
theorem check_c (A0 : Option Addr) (c0 : Nat) (l0 : List ByteArray) (A1 : Option Addr) (c1 : Nat) (l1 : List ByteArray) (A2 : Option Addr) (c2 : Nat) (l2 : List (S31)) (A3 : Option Addr) (c3 : Nat) (n3 : Nat) (lk : Int) (w : World)
    (hr0 : Kd.C Kd.string w A0 l0.length l0) (hr1 : Kd.C Kd.string w A1 l1.length l1) (hr2 : Kd.C k31 w A2 l2.length l2)
    (hlk : l0.length ≤ 24 → l1.length ≤ 48 → l2.length ≤ 96 → n3 ≤ 192 → ∀ W, Below w.heap.size w W → Calls Try.prog 21 #[.agg #[.slice A0 l0.length c0, .slice A1 l1.length c1, .slice A2 l2.length c2, .slice A3 n3 c3]] W fun e w' => e = .returned (.int .i64 lk) ∧ Below W.heap.size W w') :
    Calls Try.prog 9 #[.agg #[.slice A0 l0.length c0, .slice A1 l1.length c1, .slice A2 l2.length c2, .slice A3 n3 c3]] w fun e w' => e = .returned (.int .i64 (chkS l0 l1 l2 n3 lk)) ∧ Below w.heap.size w w' := by
  have hu28 := Try.underlying28
  have HR0 := Aside0.mk hr0
  have HR1 := Aside0.mk hr1
  have HR2 := Aside0.mk hr2
  have HLK := Aside0.mk hlk
  clear hr0 hr1 hr2 hlk
  unfold chkS
  by_cases g0 : l0.length > 24
  · rw [if_pos g0]
    have t0 : decide ((24 : Int) < (l0.length : Int)) = true := decide_eq_true (by omega)
    have t0b : decide (24 < l0.length) = true := decide_eq_true g0
    clear g0
    go_enter Try.func9, Try.ntmps9
    go_wp2
    go_ret
    exact ⟨rfl, (Below.refl _ _).alloc (Nat.le_refl _) _⟩
  rw [if_neg g0]
  have t0 : decide ((24 : Int) < (l0.length : Int)) = false := decide_eq_false (by omega)
  have t0b : decide (24 < l0.length) = false := decide_eq_false g0
  by_cases g1 : l1.length > 48
  · rw [if_pos g1]
    have t1 : decide ((48 : Int) < (l1.length : Int)) = true := decide_eq_true (by omega)
    have t1b : decide (48 < l1.length) = true := decide_eq_true g1
    clear g1 g0
    go_enter Try.func9, Try.ntmps9
    go_wp2
    go_ret
    exact ⟨rfl, (Below.refl _ _).alloc (Nat.le_refl _) _⟩
  rw [if_neg g1]
  have t1 : decide ((48 : Int) < (l1.length : Int)) = false := decide_eq_false (by omega)
  have t1b : decide (48 < l1.length) = false := decide_eq_false g1
  by_cases g2 : l2.length > 96
  · rw [if_pos g2]
    have t2 : decide ((96 : Int) < (l2.length : Int)) = true := decide_eq_true (by omega)
    have t2b : decide (96 < l2.length) = true := decide_eq_true g2
    clear g2 g1 g0
    go_enter Try.func9, Try.ntmps9
    go_wp2
    go_ret
    exact ⟨rfl, (Below.refl _ _).alloc (Nat.le_refl _) _⟩
  rw [if_neg g2]
  have t2 : decide ((96 : Int) < (l2.length : Int)) = false := decide_eq_false (by omega)
  have t2b : decide (96 < l2.length) = false := decide_eq_false g2
  by_cases g3 : n3 > 192
  · rw [if_pos g3]
    have t3 : decide ((192 : Int) < (n3 : Int)) = true := decide_eq_true (by omega)
    have t3b : decide (192 < n3) = true := decide_eq_true g3
    clear g3 g2 g1 g0
    go_enter Try.func9, Try.ntmps9
    go_wp2
    go_ret
    exact ⟨rfl, (Below.refl _ _).alloc (Nat.le_refl _) _⟩
  rw [if_neg g3]
  have t3 : decide ((192 : Int) < (n3 : Int)) = false := decide_eq_false (by omega)
  have t3b : decide (192 < n3) = false := decide_eq_false g3
  by_cases g4 : l2.length = 0
  · rw [if_pos g4]
    have t4 : ((l2.length : Int) == 0) = true := by rw [g4]; rfl
    clear g4 g3 g2 g1 g0
    go_enter Try.func9, Try.ntmps9
    go_wp2
    go_ret
    exact ⟨rfl, (Below.refl _ _).alloc (Nat.le_refl _) _⟩
  rw [if_neg g4]
  have t4 : ((l2.length : Int) == 0) = false := by rw [beq_eq_false_iff_ne]; omega
  have HLK2 := Aside0.mk (HLK.out (by omega) (by omega) (by omega) (by omega))
  have L0 : Aside0 (l0.length ≤ 200) := ⟨by omega⟩
  have L1 : Aside0 (l1.length ≤ 200) := ⟨by omega⟩
  have L2 : Aside0 (l2.length ≤ 200) := ⟨by omega⟩
  clear HLK g0 g1 g2 g3 g4
  obtain ⟨R, hR⟩ : ∃ R, chkF l0 l1 l2 lk = R := ⟨_, rfl⟩
  rw [hR]
  have H' := Aside0.mk hR
  clear hR
  go_enter Try.func9, Try.ntmps9
  go_wp2
  have hbw0 : Below w.heap.size w ((w.alloc (.cells #[.slice A0 l0.length c0, .slice A1 l1.length c1, .slice A2 l2.length c2, .slice A3 n3 c3] 28)).alloc (.cells #[.func (.func 15) #[] #[.pointer (some ⟨w.heap.size, 0, none⟩)], .func (.func 17) #[] #[.pointer (some ⟨w.heap.size, 0, none⟩)], .func (.func 18) #[] #[.pointer (some ⟨w.heap.size, 0, none⟩)], .func (.func 20) #[] #[.pointer (some ⟨w.heap.size, 0, none⟩)]] 49)) := ((Below.refl _ _).alloc (Nat.le_refl _) _).alloc (by simp) _
  have hsz0 : ((w.alloc (.cells #[.slice A0 l0.length c0, .slice A1 l1.length c1, .slice A2 l2.length c2, .slice A3 n3 c3] 28)).alloc (.cells #[.func (.func 15) #[] #[.pointer (some ⟨w.heap.size, 0, none⟩)], .func (.func 17) #[] #[.pointer (some ⟨w.heap.size, 0, none⟩)], .func (.func 18) #[] #[.pointer (some ⟨w.heap.size, 0, none⟩)], .func (.func 20) #[] #[.pointer (some ⟨w.heap.size, 0, none⟩)]] 49)).heap.size = w.heap.size + 2 := by simp
  have hx0 : ((w.alloc (.cells #[.slice A0 l0.length c0, .slice A1 l1.length c1, .slice A2 l2.length c2, .slice A3 n3 c3] 28)).alloc (.cells #[.func (.func 15) #[] #[.pointer (some ⟨w.heap.size, 0, none⟩)], .func (.func 17) #[] #[.pointer (some ⟨w.heap.size, 0, none⟩)], .func (.func 18) #[] #[.pointer (some ⟨w.heap.size, 0, none⟩)], .func (.func 20) #[] #[.pointer (some ⟨w.heap.size, 0, none⟩)]] 49)).cell? ⟨w.heap.size, 0, none⟩ = some (.slice A0 l0.length c0) := by go_simp
  have hx1 : ((w.alloc (.cells #[.slice A0 l0.length c0, .slice A1 l1.length c1, .slice A2 l2.length c2, .slice A3 n3 c3] 28)).alloc (.cells #[.func (.func 15) #[] #[.pointer (some ⟨w.heap.size, 0, none⟩)], .func (.func 17) #[] #[.pointer (some ⟨w.heap.size, 0, none⟩)], .func (.func 18) #[] #[.pointer (some ⟨w.heap.size, 0, none⟩)], .func (.func 20) #[] #[.pointer (some ⟨w.heap.size, 0, none⟩)]] 49)).cell? ⟨w.heap.size, 1, none⟩ = some (.slice A1 l1.length c1) := by go_simp
  have hx2 : ((w.alloc (.cells #[.slice A0 l0.length c0, .slice A1 l1.length c1, .slice A2 l2.length c2, .slice A3 n3 c3] 28)).alloc (.cells #[.func (.func 15) #[] #[.pointer (some ⟨w.heap.size, 0, none⟩)], .func (.func 17) #[] #[.pointer (some ⟨w.heap.size, 0, none⟩)], .func (.func 18) #[] #[.pointer (some ⟨w.heap.size, 0, none⟩)], .func (.func 20) #[] #[.pointer (some ⟨w.heap.size, 0, none⟩)]] 49)).cell? ⟨w.heap.size, 2, none⟩ = some (.slice A2 l2.length c2) := by go_simp
  have hx3 : ((w.alloc (.cells #[.slice A0 l0.length c0, .slice A1 l1.length c1, .slice A2 l2.length c2, .slice A3 n3 c3] 28)).alloc (.cells #[.func (.func 15) #[] #[.pointer (some ⟨w.heap.size, 0, none⟩)], .func (.func 17) #[] #[.pointer (some ⟨w.heap.size, 0, none⟩)], .func (.func 18) #[] #[.pointer (some ⟨w.heap.size, 0, none⟩)], .func (.func 20) #[] #[.pointer (some ⟨w.heap.size, 0, none⟩)]] 49)).cell? ⟨w.heap.size, 3, none⟩ = some (.slice A3 n3 c3) := by go_simp
  have hf0 : ((w.alloc (.cells #[.slice A0 l0.length c0, .slice A1 l1.length c1, .slice A2 l2.length c2, .slice A3 n3 c3] 28)).alloc (.cells #[.func (.func 15) #[] #[.pointer (some ⟨w.heap.size, 0, none⟩)], .func (.func 17) #[] #[.pointer (some ⟨w.heap.size, 0, none⟩)], .func (.func 18) #[] #[.pointer (some ⟨w.heap.size, 0, none⟩)], .func (.func 20) #[] #[.pointer (some ⟨w.heap.size, 0, none⟩)]] 49)).cell? ⟨w.heap.size + 1, 0, none⟩ = some (.func (.func 15) #[] #[.pointer (some ⟨w.heap.size, 0, none⟩)]) := by go_simp
  have hf1 : ((w.alloc (.cells #[.slice A0 l0.length c0, .slice A1 l1.length c1, .slice A2 l2.length c2, .slice A3 n3 c3] 28)).alloc (.cells #[.func (.func 15) #[] #[.pointer (some ⟨w.heap.size, 0, none⟩)], .func (.func 17) #[] #[.pointer (some ⟨w.heap.size, 0, none⟩)], .func (.func 18) #[] #[.pointer (some ⟨w.heap.size, 0, none⟩)], .func (.func 20) #[] #[.pointer (some ⟨w.heap.size, 0, none⟩)]] 49)).cell? ⟨w.heap.size + 1, 1, none⟩ = some (.func (.func 17) #[] #[.pointer (some ⟨w.heap.size, 0, none⟩)]) := by go_simp
  have hf2 : ((w.alloc (.cells #[.slice A0 l0.length c0, .slice A1 l1.length c1, .slice A2 l2.length c2, .slice A3 n3 c3] 28)).alloc (.cells #[.func (.func 15) #[] #[.pointer (some ⟨w.heap.size, 0, none⟩)], .func (.func 17) #[] #[.pointer (some ⟨w.heap.size, 0, none⟩)], .func (.func 18) #[] #[.pointer (some ⟨w.heap.size, 0, none⟩)], .func (.func 20) #[] #[.pointer (some ⟨w.heap.size, 0, none⟩)]] 49)).cell? ⟨w.heap.size + 1, 2, none⟩ = some (.func (.func 18) #[] #[.pointer (some ⟨w.heap.size, 0, none⟩)]) := by go_simp
  have hf3 : ((w.alloc (.cells #[.slice A0 l0.length c0, .slice A1 l1.length c1, .slice A2 l2.length c2, .slice A3 n3 c3] 28)).alloc (.cells #[.func (.func 15) #[] #[.pointer (some ⟨w.heap.size, 0, none⟩)], .func (.func 17) #[] #[.pointer (some ⟨w.heap.size, 0, none⟩)], .func (.func 18) #[] #[.pointer (some ⟨w.heap.size, 0, none⟩)], .func (.func 20) #[] #[.pointer (some ⟨w.heap.size, 0, none⟩)]] 49)).cell? ⟨w.heap.size + 1, 3, none⟩ = some (.func (.func 20) #[] #[.pointer (some ⟨w.heap.size, 0, none⟩)]) := by go_simp
  generalize ((w.alloc (.cells #[.slice A0 l0.length c0, .slice A1 l1.length c1, .slice A2 l2.length c2, .slice A3 n3 c3] 28)).alloc (.cells #[.func (.func 15) #[] #[.pointer (some ⟨w.heap.size, 0, none⟩)], .func (.func 17) #[] #[.pointer (some ⟨w.heap.size, 0, none⟩)], .func (.func 18) #[] #[.pointer (some ⟨w.heap.size, 0, none⟩)], .func (.func 20) #[] #[.pointer (some ⟨w.heap.size, 0, none⟩)]] 49)) = W0 at hbw0 hsz0 hx0 hx1 hx2 hx3 hf0 hf1 hf2 hf3 ⊢
  have HBW := Aside0.mk hbw0
  have HSZ := Aside0.mk hsz0
  have HX0 := Aside0.mk hx0
  have HF0 := Aside0.mk hf0
  have HX1 := Aside0.mk hx1
  have HF1 := Aside0.mk hf1
  have HX2 := Aside0.mk hx2
  have HF2 := Aside0.mk hf2
  have HX3 := Aside0.mk hx3
  have HF3 := Aside0.mk hf3
  clear hbw0 hsz0 hx0 hx1 hx2 hx3 hf0 hf1 hf2 hf3
  go_loopg [38] 5 (fun kq v38 w' => ∃ (i : Nat), v38 = .int .i64 (i : Int) ∧ Aside0 (i + kq = 5) ∧ Aside0 (i ≤ 4) ∧ Aside0 (restF l0 l1 l2 lk i = R) ∧ Aside0 (Below (w.heap.size + 2) W0 w'))
  case atStart => exact ⟨0, rfl, ⟨rfl⟩, ⟨by omega⟩, H', ⟨Below.refl _ _⟩⟩
  case round =>
    clear H'
    obtain ⟨i, rfl, HK, HI, HG, HB⟩ := hrel
    have HBF := Aside0.mk (HBW.out.trans (HB.out.mono (by omega)))
    cases gk with
    | zero => exact absurd HK.out (by have := HI.out; omega)
    | succ k1 =>
      by_cases hi : i ≤ 3
      · have hg := HG.out
        rw [restF_step l0 l1 l2 lk i hi] at hg
        obtain ⟨q, hq⟩ : ∃ q, stepF l0 l1 l2 lk i = q := ⟨_, rfl⟩
        rw [hq] at hg
        have y0 : wr.cell? ⟨w.heap.size, 0, none⟩ = some (.slice A0 l0.length c0) := (HB.out.cell (p := ⟨w.heap.size, 0, none⟩) (by show w.heap.size < w.heap.size + 2; omega)).trans HX0.out
        have y1 : wr.cell? ⟨w.heap.size, 1, none⟩ = some (.slice A1 l1.length c1) := (HB.out.cell (p := ⟨w.heap.size, 1, none⟩) (by show w.heap.size < w.heap.size + 2; omega)).trans HX1.out
        have y2 : wr.cell? ⟨w.heap.size, 2, none⟩ = some (.slice A2 l2.length c2) := (HB.out.cell (p := ⟨w.heap.size, 2, none⟩) (by show w.heap.size < w.heap.size + 2; omega)).trans HX2.out
        have y3 : wr.cell? ⟨w.heap.size, 3, none⟩ = some (.slice A3 n3 c3) := (HB.out.cell (p := ⟨w.heap.size, 3, none⟩) (by show w.heap.size < w.heap.size + 2; omega)).trans HX3.out
        have HHI := Aside0.mk hi
        have hcase : i = 0 ∨ i = 1 ∨ i = 2 ∨ i = 3 := by omega
        clear HG hi
        rcases hcase with rfl | rfl | rfl | rfl
        · have hfc : wr.cell? ⟨w.heap.size + 1, 0, none⟩ = some (.func (.func 15) #[] #[.pointer (some ⟨w.heap.size, 0, none⟩)]) := (HB.out.cell (p := ⟨w.heap.size + 1, 0, none⟩) (by show w.heap.size + 1 < w.heap.size + 2; omega)).trans HF0.out
          have HFN : Aside0 (Calls Try.prog 15 #[.pointer (some ⟨w.heap.size, 0, none⟩)] wr fun e w' => e = .returned (.int .i64 q) ∧ Below wr.heap.size wr w') := ⟨by rw [← hq]; exact chk1_c _ A0 c0 l0 wr y0 (Kd.C_below HR0.out HBF.out) L0.out⟩
          clear hq y0 y1 y2 y3
          by_cases h0 : q = 0
          · rw [if_pos h0] at hg
            subst h0
            have HGN := Aside0.mk hg
            clear hg
            go_wp2_with fail
            (with_reducible refine HFN.out.mono ?_)
            rintro e w2 ⟨rfl, hb2⟩
            have hlt : w.heap.size + 2 ≤ wr.heap.size := Nat.le_trans (by rw [← HSZ.out]; exact Nat.le_refl _) HB.out.size
            have HB2 := Aside0.mk (HB.out.trans (hb2.mono hlt))
            clear hb2 hlt
            go_wp2
            go_roundg k1
            case measure => have := HK.out; omega
            case rel => exact ⟨1, (by first | go_num | rfl | simp), ⟨by have := HK.out; omega⟩, ⟨by omega⟩, HGN, HB2⟩
          · rw [if_neg h0] at hg
            subst hg
            have h0b : (q != 0) = true := bne_iff_ne.mpr h0
            clear h0
            go_wp2_with fail
            (with_reducible refine HFN.out.mono ?_)
            rintro e w2 ⟨rfl, hb2⟩
            have HB2 := Aside0.mk (HBF.out.trans (hb2.mono HBF.out.size))
            clear hb2
            go_wp2
            go_ret
            exact ⟨rfl, HB2.out⟩
        · have hfc : wr.cell? ⟨w.heap.size + 1, 1, none⟩ = some (.func (.func 17) #[] #[.pointer (some ⟨w.heap.size, 0, none⟩)]) := (HB.out.cell (p := ⟨w.heap.size + 1, 1, none⟩) (by show w.heap.size + 1 < w.heap.size + 2; omega)).trans HF1.out
          have HFN : Aside0 (Calls Try.prog 17 #[.pointer (some ⟨w.heap.size, 0, none⟩)] wr fun e w' => e = .returned (.int .i64 q) ∧ Below wr.heap.size wr w') := ⟨by rw [← hq]; exact chk2_c _ A1 c1 l1 wr y1 (Kd.C_below HR1.out HBF.out) L1.out⟩
          clear hq y0 y1 y2 y3
          by_cases h0 : q = 0
          · rw [if_pos h0] at hg
            subst h0
            have HGN := Aside0.mk hg
            clear hg
            go_wp2_with fail
            (with_reducible refine HFN.out.mono ?_)
            rintro e w2 ⟨rfl, hb2⟩
            have hlt : w.heap.size + 2 ≤ wr.heap.size := Nat.le_trans (by rw [← HSZ.out]; exact Nat.le_refl _) HB.out.size
            have HB2 := Aside0.mk (HB.out.trans (hb2.mono hlt))
            clear hb2 hlt
            go_wp2
            go_roundg k1
            case measure => have := HK.out; omega
            case rel => exact ⟨2, (by first | go_num | rfl | simp), ⟨by have := HK.out; omega⟩, ⟨by omega⟩, HGN, HB2⟩
          · rw [if_neg h0] at hg
            subst hg
            have h0b : (q != 0) = true := bne_iff_ne.mpr h0
            clear h0
            go_wp2_with fail
            (with_reducible refine HFN.out.mono ?_)
            rintro e w2 ⟨rfl, hb2⟩
            have HB2 := Aside0.mk (HBF.out.trans (hb2.mono HBF.out.size))
            clear hb2
            go_wp2
            go_ret
            exact ⟨rfl, HB2.out⟩
        · have hfc : wr.cell? ⟨w.heap.size + 1, 2, none⟩ = some (.func (.func 18) #[] #[.pointer (some ⟨w.heap.size, 0, none⟩)]) := (HB.out.cell (p := ⟨w.heap.size + 1, 2, none⟩) (by show w.heap.size + 1 < w.heap.size + 2; omega)).trans HF2.out
          have HFN : Aside0 (Calls Try.prog 18 #[.pointer (some ⟨w.heap.size, 0, none⟩)] wr fun e w' => e = .returned (.int .i64 q) ∧ Below wr.heap.size wr w') := ⟨by rw [← hq]; exact chk3_c _ _ _ _ _ _ wr y0 y1 y2 y3 (sections_c A0 c0 l0 A1 c1 l1.length A2 c2 l2 A3 c3 n3 wr (Kd.C_below HR2.out HBF.out) L2.out L0.out)⟩
          clear hq y0 y1 y2 y3
          by_cases h0 : q = 0
          · rw [if_pos h0] at hg
            subst h0
            have HGN := Aside0.mk hg
            clear hg
            go_wp2_with fail
            (with_reducible refine HFN.out.mono ?_)
            rintro e w2 ⟨rfl, hb2⟩
            have hlt : w.heap.size + 2 ≤ wr.heap.size := Nat.le_trans (by rw [← HSZ.out]; exact Nat.le_refl _) HB.out.size
            have HB2 := Aside0.mk (HB.out.trans (hb2.mono hlt))
            clear hb2 hlt
            go_wp2
            go_roundg k1
            case measure => have := HK.out; omega
            case rel => exact ⟨3, (by first | go_num | rfl | simp), ⟨by have := HK.out; omega⟩, ⟨by omega⟩, HGN, HB2⟩
          · rw [if_neg h0] at hg
            subst hg
            have h0b : (q != 0) = true := bne_iff_ne.mpr h0
            clear h0
            go_wp2_with fail
            (with_reducible refine HFN.out.mono ?_)
            rintro e w2 ⟨rfl, hb2⟩
            have HB2 := Aside0.mk (HBF.out.trans (hb2.mono HBF.out.size))
            clear hb2
            go_wp2
            go_ret
            exact ⟨rfl, HB2.out⟩
        · have hfc : wr.cell? ⟨w.heap.size + 1, 3, none⟩ = some (.func (.func 20) #[] #[.pointer (some ⟨w.heap.size, 0, none⟩)]) := (HB.out.cell (p := ⟨w.heap.size + 1, 3, none⟩) (by show w.heap.size + 1 < w.heap.size + 2; omega)).trans HF3.out
          have HFN : Aside0 (Calls Try.prog 20 #[.pointer (some ⟨w.heap.size, 0, none⟩)] wr fun e w' => e = .returned (.int .i64 q) ∧ Below wr.heap.size wr w') := ⟨by rw [← hq]; exact chk4_c _ _ _ _ _ _ wr y0 y1 y2 y3 (HLK2.out wr HBF.out)⟩
          clear hq y0 y1 y2 y3
          by_cases h0 : q = 0
          · rw [if_pos h0] at hg
            subst h0
            have HGN := Aside0.mk hg
            clear hg
            go_wp2_with fail
            (with_reducible refine HFN.out.mono ?_)
            rintro e w2 ⟨rfl, hb2⟩
            have hlt : w.heap.size + 2 ≤ wr.heap.size := Nat.le_trans (by rw [← HSZ.out]; exact Nat.le_refl _) HB.out.size
            have HB2 := Aside0.mk (HB.out.trans (hb2.mono hlt))
            clear hb2 hlt
            go_wp2
            go_roundg k1
            case measure => have := HK.out; omega
            case rel => exact ⟨4, (by first | go_num | rfl | simp), ⟨by have := HK.out; omega⟩, ⟨by omega⟩, HGN, HB2⟩
          · rw [if_neg h0] at hg
            subst hg
            have h0b : (q != 0) = true := bne_iff_ne.mpr h0
            clear h0
            go_wp2_with fail
            (with_reducible refine HFN.out.mono ?_)
            rintro e w2 ⟨rfl, hb2⟩
            have HB2 := Aside0.mk (HBF.out.trans (hb2.mono HBF.out.size))
            clear hb2
            go_wp2
            go_ret
            exact ⟨rfl, HB2.out⟩
      · have hi4 : i = 4 := by have := HI.out; omega
        have hg := HG.out
        subst hi4
        have hR0 : (0 : Int) = R := hg
        subst hR0
        clear hg HG hi
        go_wp2
        go_ret
        exact ⟨rfl, HBF.out⟩
theorem layout_Check.calls (A0_0 : Option Addr) (c0_0 : Nat) (l0_0 : List ByteArray) (A0_1 : Option Addr) (c0_1 : Nat) (l0_1 : List ByteArray) (A0_2 : Option Addr) (c0_2 : Nat) (l0_2 : List (S31)) (A0_3 : Option Addr) (c0_3 : Nat) (l0_3 : List (S61)) (r : Int) (w : World) (hr0_0 : Kd.C Kd.string w A0_0 l0_0.length l0_0) (hc0_0 : l0_0.length ≤ c0_0) (hr0_1 : Kd.C Kd.string w A0_1 l0_1.length l0_1) (hc0_1 : l0_1.length ≤ c0_1) (hr0_2 : Kd.C k31 w A0_2 l0_2.length l0_2) (hc0_2 : l0_2.length ≤ c0_2) (hr0_3 : Kd.C k61 w A0_3 l0_3.length l0_3) (hc0_3 : l0_3.length ≤ c0_3) (h : layout_Check.f l0_0 l0_1 l0_2 l0_3 = some r) :
    Calls Try.prog 9 #[.agg #[.slice A0_0 l0_0.length c0_0, .slice A0_1 l0_1.length c0_1, .slice A0_2 l0_2.length c0_2, .slice A0_3 l0_3.length c0_3]] w fun e w' => e = .returned (.int .i64 r) ∧ Below w.heap.size w w' := by
  unfold layout_Check.f at h
  obtain rfl := Option.some.inj h
  exact check_c A0_0 c0_0 l0_0 A0_1 c0_1 l0_1 A0_2 c0_2 l0_2 A0_3 c0_3 l0_3.length _ w hr0_0 hr0_1 hr0_2 (fun _ h1 h2 h3 W hb => links_c A0_0 c0_0 l0_0.length A0_1 c0_1 l0_1.length A0_2 c0_2 l0_2.length A0_3 c0_3 l0_3 W (Kd.C_below hr0_3 hb) h1 h2 h3)
end Go.Proofs.Ytkegdgdkfbmabaa.X
