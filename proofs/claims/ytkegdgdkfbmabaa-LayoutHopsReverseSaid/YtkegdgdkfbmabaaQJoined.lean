/- layout.ends, layout.joined. -/
import Derived.Laws.Rows
import Derived.Deep.QuietTactic
import Derived.BigQuiet
import Derived.Test.YtkegdgdkfbmabaaQEndsEq
import Derived.Test.YtkegdgdkfbmabaaX0
import Derived.Test.YtkegdgdkfbmabaaQNames
import Derived.Test.YtkegdgdkfbmabaaQUsed
namespace Go.Proofs.Ytkegdgdkfbmabaa.X
open Go Go.RowKit Go.Maps Go.Proofs.YtkegdgdkfbmabaaW Go.Proofs.YtkegdgdkfbmabaaW.PrintWords Go.Proofs.YtkegdgdkfbmabaaW.PrintLast Go.Proofs.YtkegdgdkfbmabaaW.PrintMore
set_option linter.unusedVariables false
set_option linter.unusedSimpArgs false
abbrev linkV (x : Link) : Value := .agg #[.int .i64 x.f0, .int .i64 x.f1, .int .i64 x.f2, .int .i64 x.f3, .int .i64 x.f4, .int .i64 x.f5]
abbrev endsV (x : Link) : Value := .agg #[.int .i64 x.f0, .int .i64 x.f1, .int .i64 x.f2, .int .i64 x.f3]
theorem heap_next (w : World) (o o' : Obj) : ((w.alloc o).alloc o').heap[w.heap.size + 1]? = some o' := by
  have h := (MapKept.heap_alloc (w.alloc o) o').1
  rw [show (w.alloc o).heap.size = w.heap.size + 1 from by simp] at h
  exact h
set_option maxHeartbeats 800000 in
set_option maxRecDepth 100000 in
theorem ends_c (x : Link) (w : World) : Calls Try.prog 24 #[linkV x] w fun e w' => e = .returned (endsV x) ∧ Below w.heap.size w w' := by
  have hu := Try.underlying61
  have hu2 := Try.underlying59
  have hu3 := Try.underlying62
  unfold linkV endsV
  go_enter Try.func24, Try.ntmps24
  go_wp2
  (try simp only [Exit.inBlock, Exit.then])
  refine bodyPost_ret (results_cell_row rfl _ _ (w.heap.size + 1) 62 #[.int .i64 x.f0, .int .i64 x.f1, .int .i64 x.f2, .int .i64 x.f3] (0, 0) _ rfl (heap_next w _ _) hu3 rfl (by kernel_rfl)) rfl ⟨rfl, ?_⟩
  exact ((Below.refl _ _).alloc (Nat.le_refl _) _).alloc (by simp) _
def lkA (x : Link) : Int × Int := (x.f0, x.f1)
def lkB (x : Link) : Int × Int := (x.f2, x.f3)
/-- Does a link join the same ends? -/
def same1 (x y : Link) : Bool := (y.f0 == x.f0 && y.f1 == x.f1) && (y.f2 == x.f2 && y.f3 == x.f3)
def same2 (x y : Link) : Bool := (y.f0 == x.f2 && y.f1 == x.f3) && (y.f2 == x.f0 && y.f3 == x.f1)
def sameJ (x y : Link) : Bool := same1 x y || same2 x y
def badE (x : Link) : List Link → Bool
  | [] => false
  | [y] => decide (x.f4 = -1) || (decide (x.f4 ≠ y.f4) || decide (x.f5 = y.f5))
  | _ => true
/-- The error of a link after others. -/
def joinedS (u : Int × Int → List Link) (x : Link) : Int := if (u (lkA x)).any (sameJ x) = true then 5 else if badE x (u (lkA x)) = true then 11 else if badE x (u (lkB x)) = true then 11 else 0
def restJ (u : Int × Int → List Link) (x : Link) (j : Nat) : Int := if j = 0 then (if badE x (u (lkA x)) = true then 11 else if badE x (u (lkB x)) = true then 11 else 0) else if j = 1 then (if badE x (u (lkB x)) = true then 11 else 0) else 0
theorem link_at {w : World} {A : Option Addr} {n : Nat} {xs : List Link} (h : Kd.C kLink w A n xs) (i : Nat) (hi : i < n) (x : Link) (hx : xs[i]? = some x) :
    ∃ ad, A = some ad ∧ w.cell? (ad.add (i * 6)) = some (.int .i64 x.f0) ∧ w.cell? ⟨(ad.add (i * 6)).block, (ad.add (i * 6)).off + 1, none⟩ = some (.int .i64 x.f1) ∧ w.cell? ⟨(ad.add (i * 6)).block, (ad.add (i * 6)).off + 2, none⟩ = some (.int .i64 x.f2) ∧ w.cell? ⟨(ad.add (i * 6)).block, (ad.add (i * 6)).off + 3, none⟩ = some (.int .i64 x.f3) ∧ w.cell? ⟨(ad.add (i * 6)).block, (ad.add (i * 6)).off + 4, none⟩ = some (.int .i64 x.f4) ∧ w.cell? ⟨(ad.add (i * 6)).block, (ad.add (i * 6)).off + 5, none⟩ = some (.int .i64 x.f5) := by
  obtain ⟨ad, hA, h0, h1, h2, h3, h4, h5⟩ := at_T61 h (i : Int) (by omega) (by omega)
  have e : rd_T61 xs (i : Int) = x := by unfold rd_T61; rw [Int.toNat_natCast, List.getD_eq_getElem?_getD, hx]; rfl
  rw [e, Int.toNat_natCast] at h0 h1 h2 h3 h4 h5
  exact ⟨ad, hA, h0, h1, h2, h3, h4, h5⟩
set_option maxHeartbeats 1600000 in
set_option maxRecDepth 100000 in
theorem joined_c {p : Nat → Prop} (u : Int × Int → List Link) (b n : Nat) (x : Link) (w : World) (hu : UsedP p w b n u) (he0 : EndOk (lkA x)) (he1 : EndOk (lkB x)) (hl : ∀ e, (u e).length < 4294967296) :
    Calls Try.prog 28 #[.map (some b), linkV x] w fun e w' => e = .returned (.int .i64 (joinedS u x)) ∧ Below w.heap.size w w' := by
  have hu1 := Try.underlying61
  have hu2 := Try.underlying59
  have hu3 := Try.underlying62
  have HU0 := Aside0.mk hu
  have HL := Aside0.mk hl
  have HE0 := Aside0.mk he0
  have HE1 := Aside0.mk he1
  clear hu hl he0 he1
  have HN := Aside0.mk ends_c
  obtain ⟨R, hR⟩ : ∃ R, joinedS u x = R := ⟨_, rfl⟩
  rw [hR]
  have H' := Aside0.mk hR
  clear hR
  unfold linkV
  go_enter Try.func28, Try.ntmps28
  go_wp2_with fail
  (with_reducible refine (HN.out x _).mono ?_)
  rintro e w1 ⟨rfl, hb1⟩
  unfold endsV
  have hbx : w1.heap[w.heap.size]? = some (.cells #[.int .i64 x.f0, .int .i64 x.f1, .int .i64 x.f2, .int .i64 x.f3, .int .i64 x.f4, .int .i64 x.f5] 61 (0, 0)) := (hb1.block _ (by simp)).trans (MapKept.heap_alloc w _).1
  have HB1 := Aside0.mk (((Below.refl w.heap.size w).alloc (Nat.le_refl _) _).trans (hb1.mono (by simp)))
  clear hb1
  go_wp2_with (at_lookup; refine wpList_look_used (HU0.out.below (below_alloc HB1.out _)) rfl _ _ rfl rfl (lkA x) HE0.out rfl ?_; intro A c hC)
  have hbw : Below w.heap.size w (w1.alloc (.cells #[.int .i64 x.f0, .int .i64 x.f1, .int .i64 x.f2, .int .i64 x.f3] 62)) := below_alloc HB1.out _
  have hba : (w1.alloc (.cells #[.int .i64 x.f0, .int .i64 x.f1, .int .i64 x.f2, .int .i64 x.f3] 62)).heap[w1.heap.size]? = some (.cells #[.int .i64 x.f0, .int .i64 x.f1, .int .i64 x.f2, .int .i64 x.f3] 62 (0, 0)) := (MapKept.heap_alloc w1 _).1
  have hbx2 := (Below.heap_alloc w1 (.cells #[.int .i64 x.f0, .int .i64 x.f1, .int .i64 x.f2, .int .i64 x.f3] 62) _ (Array.getElem?_eq_some_iff.1 hbx).1).trans hbx
  have hlt : w.heap.size < w1.heap.size := (Array.getElem?_eq_some_iff.1 hbx).1
  have hsz : (w1.alloc (.cells #[.int .i64 x.f0, .int .i64 x.f1, .int .i64 x.f2, .int .i64 x.f3] 62)).heap.size = w1.heap.size + 1 := by simp
  generalize w1.alloc (.cells #[.int .i64 x.f0, .int .i64 x.f1, .int .i64 x.f2, .int .i64 x.f3] 62) = W1 at hC hbw hba hbx2 hsz ⊢
  obtain ⟨B1, hB1⟩ : ∃ B1, B1 = w1.heap.size := ⟨_, rfl⟩
  rw [← hB1] at hba hsz hlt ⊢
  clear hB1 hbx HB1
  have HBW := Aside0.mk hbw
  have HBA := Aside0.mk hba
  have HBX := Aside0.mk hbx2
  have HSZ := Aside0.mk hsz
  have HLT := Aside0.mk hlt
  have HC := Aside0.mk hC
  clear hbw hba hbx2 hsz hlt hC
  clear w1
  obtain ⟨l0, hl0⟩ : ∃ l0, u (lkA x) = l0 := ⟨_, rfl⟩
  have HL0 := Aside0.mk hl0
  have HLL := Aside0.mk (HL.out (lkA x))
  rw [hl0] at HC HLL ⊢
  clear hl0
  go_loopg [19] (l0.length + 1) (fun kq v19 w' => ∃ (i : Nat), v19 = .int .i64 (i : Int) ∧ Aside0 (i + kq = l0.length + 1) ∧ Aside0 (i ≤ l0.length) ∧ Aside0 ((l0.drop i).any (sameJ x) = l0.any (sameJ x)) ∧ Aside0 (Below W1.heap.size W1 w'))
  case atStart => exact ⟨0, rfl, ⟨by omega⟩, ⟨Nat.zero_le _⟩, ⟨rfl⟩, ⟨Below.refl _ _⟩⟩
  case round =>
    obtain ⟨i, rfl, HK, HI, HG, HB⟩ := hrel
    have HBF := Aside0.mk (HBW.out.trans (HB.out.mono (HBW.out.size)))
    cases gk with
    | zero => exact absurd HK.out (by have := HI.out; omega)
    | succ k1 =>
      by_cases hi : i < l0.length
      · obtain ⟨y, hy, hd⟩ := drop_at hi
        have hg := HG.out
        rw [hd, List.any_cons] at hg
        obtain ⟨ad, hA, hc0, hc1, hc2, hc3, hc4, hc5⟩ := link_at (Kd.C_below HC.out HB.out) i hi y hy
        subst hA
        have hi1 : decide ((i : Int) < (l0.length : Int)) = true := decide_eq_true (by omega)
        have hi2 : decide (i < l0.length) = true := decide_eq_true hi
        have HHI := Aside0.mk hi
        have HGG := Aside0.mk hg
        clear hy hd hg HG
        go_wp2_with fail
        (with_reducible refine (HN.out y _).mono ?_)
        rintro e w2 ⟨rfl, hb2⟩
        have HB2 := Aside0.mk ((below_alloc HB.out _).trans (hb2.mono (by have := HB.out.size; simp; omega)))
        clear hb2
        have ha2 := (HB2.out.block B1 (by have := HSZ.out; omega)).trans HBA.out
        have ha3 := (Below.heap_alloc w2 (.cells #[.int .i64 y.f0, .int .i64 y.f1, .int .i64 y.f2, .int .i64 y.f3] 62) B1 (Array.getElem?_eq_some_iff.1 ha2).1).trans ha2
        have hx0 : (w2.alloc (.cells #[.int .i64 y.f0, .int .i64 y.f1, .int .i64 y.f2, .int .i64 y.f3] 62)).cell? ⟨B1, 0, none⟩ = some (.int .i64 x.f0) := by simp [World.cell?, ha3]
        have hx1 : (w2.alloc (.cells #[.int .i64 y.f0, .int .i64 y.f1, .int .i64 y.f2, .int .i64 y.f3] 62)).cell? ⟨B1, 1, none⟩ = some (.int .i64 x.f1) := by simp [World.cell?, ha3]
        have hx2 : (w2.alloc (.cells #[.int .i64 y.f0, .int .i64 y.f1, .int .i64 y.f2, .int .i64 y.f3] 62)).cell? ⟨B1, 2, none⟩ = some (.int .i64 x.f2) := by simp [World.cell?, ha3]
        have hx3 : (w2.alloc (.cells #[.int .i64 y.f0, .int .i64 y.f1, .int .i64 y.f2, .int .i64 y.f3] 62)).cell? ⟨B1, 3, none⟩ = some (.int .i64 x.f3) := by simp [World.cell?, ha3]
        clear ha3
        clear ha2 hc0 hc1 hc2 hc3 hc4 hc5
        unfold endsV
        cases h1 : same1 x y with
        | true =>
          have hR5 : (5 : Int) = R := by
            have h := H'.out
            unfold joinedS at h
            rw [HL0.out, ← HGG.out, sameJ, h1, Bool.true_or, Bool.true_or, if_pos rfl] at h
            exact h
          subst hR5
          unfold same1 at h1
          go_wp2
          go_ret
          exact ⟨rfl, below_alloc (HBW.out.trans (HB2.out.mono HBW.out.size)) _⟩
        | false =>
          cases h2 : same2 x y with
          | true =>
            have hR5 : (5 : Int) = R := by
              have h := H'.out
              unfold joinedS at h
              rw [HL0.out, ← HGG.out, sameJ, h1, h2, Bool.or_true, Bool.true_or, if_pos rfl] at h
              exact h
            subst hR5
            unfold same1 at h1
            unfold same2 at h2
            go_wp2
            go_ret
            exact ⟨rfl, below_alloc (HBW.out.trans (HB2.out.mono HBW.out.size)) _⟩
          | false =>
            have HGN : Aside0 ((l0.drop (i + 1)).any (sameJ x) = l0.any (sameJ x)) := ⟨by
              have h := HGG.out
              rw [sameJ, h1, h2, Bool.or_false, Bool.false_or] at h
              exact h⟩
            unfold same1 at h1
            unfold same2 at h2
            go_wp2
            go_roundg k1
            case measure => have := HK.out; omega
            case rel => exact ⟨i + 1, (by first | go_num | (rw [int_succ i (by have := HHI.out; have := HLL.out; omega)])), ⟨by have := HK.out; omega⟩, ⟨by have := HHI.out; omega⟩, HGN, ⟨below_alloc HB2.out _⟩⟩
      · have hg := HG.out
        rw [List.drop_eq_nil_of_le (by omega)] at hg
        have HGF : Aside0 (false = l0.any (sameJ x)) := ⟨hg⟩
        have hi1 : decide ((i : Int) < (l0.length : Int)) = false := decide_eq_false (by omega)
        have hi2 : decide (i < l0.length) = false := decide_eq_false hi
        clear hg HG
        have ha2 := (HB.out.block B1 (by have := HSZ.out; omega)).trans HBA.out
        have hx0 : wr.cell? ⟨B1, 0, none⟩ = some (.int .i64 x.f0) := by simp [World.cell?, ha2]
        have hx1 : wr.cell? ⟨B1, 1, none⟩ = some (.int .i64 x.f1) := by simp [World.cell?, ha2]
        have hx2 : wr.cell? ⟨B1, 2, none⟩ = some (.int .i64 x.f2) := by simp [World.cell?, ha2]
        have hx3 : wr.cell? ⟨B1, 3, none⟩ = some (.int .i64 x.f3) := by simp [World.cell?, ha2]
        clear ha2
        go_wp2
        clear hx0 hx1 hx2 hx3 hi1 hi2
        have HR : Aside0 (restJ u x 0 = R) := ⟨by
          have h := H'.out
          unfold joinedS at h
          rw [HL0.out, ← HGF.out, if_neg (by decide)] at h
          unfold restJ
          rw [if_pos rfl, HL0.out]
          exact h⟩
        have HUW := Aside0.mk (HU0.out.below HBF.out)
        have hbx := (HB.out.block w.heap.size (by have := HSZ.out; have := HLT.out; omega)).trans HBX.out
        have HX := Aside0.mk hbx
        have HXL := Aside0.mk (Array.getElem?_eq_some_iff.1 hbx).1
        clear hbx
        go_loopg [39] 3 (fun kq v39 w' => ∃ (j : Nat), v39 = .int .i64 (j : Int) ∧ Aside0 (j + kq = 3) ∧ Aside0 (j ≤ 2) ∧ Aside0 (restJ u x j = R) ∧ Aside0 (Below wr.heap.size wr w'))
        case atStart => exact ⟨0, rfl, ⟨by omega⟩, ⟨by omega⟩, HR, ⟨Below.refl _ _⟩⟩
        case round =>
          obtain ⟨j, rfl, HK2, HI2, HG2, HB2⟩ := hrel
          have HB3 := Aside0.mk (HBF.out.trans (HB2.out.mono HBF.out.size))
          cases gk with
          | zero => exact absurd HK2.out (by have := HI2.out; omega)
          | succ k2 =>
            have hj : j = 0 ∨ j = 1 ∨ j = 2 := by have := HI2.out; omega
            rcases hj with rfl | rfl | rfl
            · cases hq : u (lkA x) with
              | nil =>
                have HRN : Aside0 (restJ u x 1 = R) := ⟨by
                  have h := HG2.out
                  unfold restJ at h ⊢
                  rw [if_pos rfl, hq, show badE x [] = false from rfl, if_neg (by decide)] at h
                  rw [if_neg (by decide), if_pos rfl]
                  exact h⟩
                go_wp2_with (at_lookup; refine wpList_look_used (HUW.out.below (below_alloc HB2.out _)) rfl _ _ rfl rfl (lkA x) HE0.out rfl ?_; intro A2 c2 hC2; rw [hq] at hC2 ⊢; simp only [List.length_nil, List.length_cons, Nat.zero_add] at hC2 ⊢)
                clear HG2 HUW hC2
                go_quiet (fail)
                go_wp2
                go_roundg k2
                case measure => have := HK2.out; omega
                case rel => exact ⟨1, rfl, ⟨by have := HK2.out; omega⟩, ⟨by omega⟩, HRN, ⟨pw_below_drewN (below_alloc HB2.out _) _⟩⟩
              | cons y t =>
                cases t with
                | cons z t =>
                  have hR11 : (11 : Int) = R := by
                    have h := HG2.out
                    unfold restJ at h
                    rw [if_pos rfl, hq, show badE x (y :: z :: t) = true from rfl, if_pos rfl] at h
                    exact h
                  subst hR11
                  go_wp2_with (at_lookup; refine wpList_look_used (HUW.out.below (below_alloc HB2.out _)) rfl _ _ rfl rfl (lkA x) HE0.out rfl ?_; intro A2 c2 hC2; rw [hq] at hC2 ⊢; simp only [List.length_nil, List.length_cons, Nat.zero_add] at hC2 ⊢)
                  have hgt : decide (((t.length + 1 + 1 : Nat) : Int) > 1) = true := decide_eq_true (by omega)
                  have hgt2 : decide (1 < ((t.length + 1 + 1 : Nat) : Int)) = true := decide_eq_true (by omega)
                  have hgt3 : decide (1 < (t.length : Int) + 1 + 1) = true := decide_eq_true (by omega)
                  clear HG2 HUW hC2
                  go_quiet (fail)
                  go_wp2
                  go_ret
                  exact ⟨rfl, pw_below_drewN (below_alloc HB3.out _) _⟩
                | nil =>
                  have hx2 := (Below.heap_alloc wr (.cells #[.int .i64 x.f0, .int .i64 x.f1] 59) w.heap.size (by have := HB2.out.size; have := HXL.out; omega)).trans ((HB2.out.block w.heap.size HXL.out).trans HX.out)
                  have hX4 : (wr.alloc (.cells #[.int .i64 x.f0, .int .i64 x.f1] 59)).cell? ⟨w.heap.size, 4, none⟩ = some (.int .i64 x.f4) := by simp [World.cell?, hx2]
                  have hX5 : (wr.alloc (.cells #[.int .i64 x.f0, .int .i64 x.f1] 59)).cell? ⟨w.heap.size, 5, none⟩ = some (.int .i64 x.f5) := by simp [World.cell?, hx2]
                  clear hx2
                  obtain ⟨hq1, hq2⟩ : u (lkA x) = [y] ∧ True := ⟨hq, trivial⟩
                  by_cases p1 : x.f4 = -1
                  · have p1a : (x.f4 == -1) = true := by simp [p1]
                    have p1b : decide (x.f4 = -1) = true := by simp [p1]
                    have hR11 : (11 : Int) = R := by
                      have h := HG2.out
                      unfold restJ at h
                      rw [if_pos rfl, hq, (show badE x [y] = true from by simp [badE, p1]), if_pos rfl] at h
                      exact h
                    subst hR11
                    clear p1
                    go_wp2_with (at_lookup; refine wpList_look_used (HUW.out.below (below_alloc HB2.out _)) rfl _ _ rfl rfl (lkA x) HE0.out rfl ?_; intro A2 c2 hC2; rw [hq] at hC2 ⊢; simp only [List.length_nil, List.length_cons, Nat.zero_add] at hC2 ⊢)
                    obtain ⟨ad, hA2, -, -, -, -, hy4, hy5⟩ := link_at hC2 0 (by omega) y rfl
                    subst hA2
                    rw [Nat.zero_mul, show ad.add 0 = ad from rfl] at hy4 hy5
                    clear hC2 HG2 HUW
                    go_quiet (fail)
                    go_wp2
                    go_ret
                    exact ⟨rfl, pw_below_drewN (below_alloc HB3.out _) _⟩
                  · have p1a : (x.f4 == -1) = false := by simp [p1]
                    have p1b : decide (x.f4 = -1) = false := by simp [p1]
                    by_cases p2 : x.f4 = y.f4
                    · have p2a : (x.f4 != y.f4) = false := by simp [p2]
                      have p2b : (x.f4 == y.f4) = true := by simp [p2]
                      have p2c : decide (x.f4 = y.f4) = true := by simp [p2]
                      by_cases p3 : x.f5 = y.f5
                      · have p3a : (x.f5 == y.f5) = true := by simp [p3]
                        have p3b : decide (x.f5 = y.f5) = true := by simp [p3]
                        have hR11 : (11 : Int) = R := by
                          have h := HG2.out
                          unfold restJ at h
                          rw [if_pos rfl, hq, (show badE x [y] = true from by simp [badE, p1, p2, p3]), if_pos rfl] at h
                          exact h
                        subst hR11
                        clear p1 p2 p3
                        go_wp2_with (at_lookup; refine wpList_look_used (HUW.out.below (below_alloc HB2.out _)) rfl _ _ rfl rfl (lkA x) HE0.out rfl ?_; intro A2 c2 hC2; rw [hq] at hC2 ⊢; simp only [List.length_nil, List.length_cons, Nat.zero_add] at hC2 ⊢)
                        obtain ⟨ad, hA2, -, -, -, -, hy4, hy5⟩ := link_at hC2 0 (by omega) y rfl
                        subst hA2
                        rw [Nat.zero_mul, show ad.add 0 = ad from rfl] at hy4 hy5
                        clear hC2 HG2 HUW
                        go_quiet (fail)
                        go_wp2
                        go_ret
                        exact ⟨rfl, pw_below_drewN (below_alloc HB3.out _) _⟩
                      · have p3a : (x.f5 == y.f5) = false := by simp [p3]
                        have p3b : decide (x.f5 = y.f5) = false := by simp [p3]
                        have HRN : Aside0 (restJ u x 1 = R) := ⟨by
                          have h := HG2.out
                          unfold restJ at h ⊢
                          rw [if_pos rfl, hq, (show badE x [y] = false from by simp [badE, p1b, p2c, p3b]), if_neg (by decide)] at h
                          rw [if_neg (by decide), if_pos rfl]
                          exact h⟩
                        clear p1 p2 p3
                        go_wp2_with (at_lookup; refine wpList_look_used (HUW.out.below (below_alloc HB2.out _)) rfl _ _ rfl rfl (lkA x) HE0.out rfl ?_; intro A2 c2 hC2; rw [hq] at hC2 ⊢; simp only [List.length_nil, List.length_cons, Nat.zero_add] at hC2 ⊢)
                        obtain ⟨ad, hA2, -, -, -, -, hy4, hy5⟩ := link_at hC2 0 (by omega) y rfl
                        subst hA2
                        rw [Nat.zero_mul, show ad.add 0 = ad from rfl] at hy4 hy5
                        clear hC2 HG2 HUW
                        go_quiet (fail)
                        go_wp2
                        go_roundg k2
                        case measure => have := HK2.out; omega
                        case rel => exact ⟨1, rfl, ⟨by have := HK2.out; omega⟩, ⟨by omega⟩, HRN, ⟨pw_below_drewN (below_alloc HB2.out _) _⟩⟩
                    · have p2a : (x.f4 != y.f4) = true := by simp [p2]
                      have p2b : (x.f4 == y.f4) = false := by simp [p2]
                      have p2c : decide (x.f4 = y.f4) = false := by simp [p2]
                      have hR11 : (11 : Int) = R := by
                        have h := HG2.out
                        unfold restJ at h
                        rw [if_pos rfl, hq, (show badE x [y] = true from by simp [badE, p1, p2]), if_pos rfl] at h
                        exact h
                      subst hR11
                      clear p1 p2
                      go_wp2_with (at_lookup; refine wpList_look_used (HUW.out.below (below_alloc HB2.out _)) rfl _ _ rfl rfl (lkA x) HE0.out rfl ?_; intro A2 c2 hC2; rw [hq] at hC2 ⊢; simp only [List.length_nil, List.length_cons, Nat.zero_add] at hC2 ⊢)
                      obtain ⟨ad, hA2, -, -, -, -, hy4, hy5⟩ := link_at hC2 0 (by omega) y rfl
                      subst hA2
                      rw [Nat.zero_mul, show ad.add 0 = ad from rfl] at hy4 hy5
                      clear hC2 HG2 HUW
                      go_quiet (fail)
                      go_wp2
                      go_ret
                      exact ⟨rfl, pw_below_drewN (below_alloc HB3.out _) _⟩
            · cases hq : u (lkB x) with
              | nil =>
                have HRN : Aside0 (restJ u x 2 = R) := ⟨by
                  have h := HG2.out
                  unfold restJ at h ⊢
                  rw [if_neg (by decide), if_pos rfl, hq, show badE x [] = false from rfl, if_neg (by decide)] at h
                  rw [if_neg (by decide), if_neg (by decide)]
                  exact h⟩
                go_wp2_with (at_lookup; refine wpList_look_used (HUW.out.below (below_alloc HB2.out _)) rfl _ _ rfl rfl (lkB x) HE1.out rfl ?_; intro A2 c2 hC2; rw [hq] at hC2 ⊢; simp only [List.length_nil, List.length_cons, Nat.zero_add] at hC2 ⊢)
                clear HG2 HUW hC2
                go_quiet (fail)
                go_wp2
                go_roundg k2
                case measure => have := HK2.out; omega
                case rel => exact ⟨2, rfl, ⟨by have := HK2.out; omega⟩, ⟨by omega⟩, HRN, ⟨pw_below_drewN (below_alloc HB2.out _) _⟩⟩
              | cons y t =>
                cases t with
                | cons z t =>
                  have hR11 : (11 : Int) = R := by
                    have h := HG2.out
                    unfold restJ at h
                    rw [if_neg (by decide), if_pos rfl, hq, show badE x (y :: z :: t) = true from rfl, if_pos rfl] at h
                    exact h
                  subst hR11
                  go_wp2_with (at_lookup; refine wpList_look_used (HUW.out.below (below_alloc HB2.out _)) rfl _ _ rfl rfl (lkB x) HE1.out rfl ?_; intro A2 c2 hC2; rw [hq] at hC2 ⊢; simp only [List.length_nil, List.length_cons, Nat.zero_add] at hC2 ⊢)
                  have hgt : decide (((t.length + 1 + 1 : Nat) : Int) > 1) = true := decide_eq_true (by omega)
                  have hgt2 : decide (1 < ((t.length + 1 + 1 : Nat) : Int)) = true := decide_eq_true (by omega)
                  have hgt3 : decide (1 < (t.length : Int) + 1 + 1) = true := decide_eq_true (by omega)
                  clear HG2 HUW hC2
                  go_quiet (fail)
                  go_wp2
                  go_ret
                  exact ⟨rfl, pw_below_drewN (below_alloc HB3.out _) _⟩
                | nil =>
                  have hx2 := (Below.heap_alloc wr (.cells #[.int .i64 x.f2, .int .i64 x.f3] 59) w.heap.size (by have := HB2.out.size; have := HXL.out; omega)).trans ((HB2.out.block w.heap.size HXL.out).trans HX.out)
                  have hX4 : (wr.alloc (.cells #[.int .i64 x.f2, .int .i64 x.f3] 59)).cell? ⟨w.heap.size, 4, none⟩ = some (.int .i64 x.f4) := by simp [World.cell?, hx2]
                  have hX5 : (wr.alloc (.cells #[.int .i64 x.f2, .int .i64 x.f3] 59)).cell? ⟨w.heap.size, 5, none⟩ = some (.int .i64 x.f5) := by simp [World.cell?, hx2]
                  clear hx2
                  obtain ⟨hq1, hq2⟩ : u (lkB x) = [y] ∧ True := ⟨hq, trivial⟩
                  by_cases p1 : x.f4 = -1
                  · have p1a : (x.f4 == -1) = true := by simp [p1]
                    have p1b : decide (x.f4 = -1) = true := by simp [p1]
                    have hR11 : (11 : Int) = R := by
                      have h := HG2.out
                      unfold restJ at h
                      rw [if_neg (by decide), if_pos rfl, hq, (show badE x [y] = true from by simp [badE, p1]), if_pos rfl] at h
                      exact h
                    subst hR11
                    clear p1
                    go_wp2_with (at_lookup; refine wpList_look_used (HUW.out.below (below_alloc HB2.out _)) rfl _ _ rfl rfl (lkB x) HE1.out rfl ?_; intro A2 c2 hC2; rw [hq] at hC2 ⊢; simp only [List.length_nil, List.length_cons, Nat.zero_add] at hC2 ⊢)
                    obtain ⟨ad, hA2, -, -, -, -, hy4, hy5⟩ := link_at hC2 0 (by omega) y rfl
                    subst hA2
                    rw [Nat.zero_mul, show ad.add 0 = ad from rfl] at hy4 hy5
                    clear hC2 HG2 HUW
                    go_quiet (fail)
                    go_wp2
                    go_ret
                    exact ⟨rfl, pw_below_drewN (below_alloc HB3.out _) _⟩
                  · have p1a : (x.f4 == -1) = false := by simp [p1]
                    have p1b : decide (x.f4 = -1) = false := by simp [p1]
                    by_cases p2 : x.f4 = y.f4
                    · have p2a : (x.f4 != y.f4) = false := by simp [p2]
                      have p2b : (x.f4 == y.f4) = true := by simp [p2]
                      have p2c : decide (x.f4 = y.f4) = true := by simp [p2]
                      by_cases p3 : x.f5 = y.f5
                      · have p3a : (x.f5 == y.f5) = true := by simp [p3]
                        have p3b : decide (x.f5 = y.f5) = true := by simp [p3]
                        have hR11 : (11 : Int) = R := by
                          have h := HG2.out
                          unfold restJ at h
                          rw [if_neg (by decide), if_pos rfl, hq, (show badE x [y] = true from by simp [badE, p1, p2, p3]), if_pos rfl] at h
                          exact h
                        subst hR11
                        clear p1 p2 p3
                        go_wp2_with (at_lookup; refine wpList_look_used (HUW.out.below (below_alloc HB2.out _)) rfl _ _ rfl rfl (lkB x) HE1.out rfl ?_; intro A2 c2 hC2; rw [hq] at hC2 ⊢; simp only [List.length_nil, List.length_cons, Nat.zero_add] at hC2 ⊢)
                        obtain ⟨ad, hA2, -, -, -, -, hy4, hy5⟩ := link_at hC2 0 (by omega) y rfl
                        subst hA2
                        rw [Nat.zero_mul, show ad.add 0 = ad from rfl] at hy4 hy5
                        clear hC2 HG2 HUW
                        go_quiet (fail)
                        go_wp2
                        go_ret
                        exact ⟨rfl, pw_below_drewN (below_alloc HB3.out _) _⟩
                      · have p3a : (x.f5 == y.f5) = false := by simp [p3]
                        have p3b : decide (x.f5 = y.f5) = false := by simp [p3]
                        have HRN : Aside0 (restJ u x 2 = R) := ⟨by
                          have h := HG2.out
                          unfold restJ at h ⊢
                          rw [if_neg (by decide), if_pos rfl, hq, (show badE x [y] = false from by simp [badE, p1b, p2c, p3b]), if_neg (by decide)] at h
                          rw [if_neg (by decide), if_neg (by decide)]
                          exact h⟩
                        clear p1 p2 p3
                        go_wp2_with (at_lookup; refine wpList_look_used (HUW.out.below (below_alloc HB2.out _)) rfl _ _ rfl rfl (lkB x) HE1.out rfl ?_; intro A2 c2 hC2; rw [hq] at hC2 ⊢; simp only [List.length_nil, List.length_cons, Nat.zero_add] at hC2 ⊢)
                        obtain ⟨ad, hA2, -, -, -, -, hy4, hy5⟩ := link_at hC2 0 (by omega) y rfl
                        subst hA2
                        rw [Nat.zero_mul, show ad.add 0 = ad from rfl] at hy4 hy5
                        clear hC2 HG2 HUW
                        go_quiet (fail)
                        go_wp2
                        go_roundg k2
                        case measure => have := HK2.out; omega
                        case rel => exact ⟨2, rfl, ⟨by have := HK2.out; omega⟩, ⟨by omega⟩, HRN, ⟨pw_below_drewN (below_alloc HB2.out _) _⟩⟩
                    · have p2a : (x.f4 != y.f4) = true := by simp [p2]
                      have p2b : (x.f4 == y.f4) = false := by simp [p2]
                      have p2c : decide (x.f4 = y.f4) = false := by simp [p2]
                      have hR11 : (11 : Int) = R := by
                        have h := HG2.out
                        unfold restJ at h
                        rw [if_neg (by decide), if_pos rfl, hq, (show badE x [y] = true from by simp [badE, p1, p2]), if_pos rfl] at h
                        exact h
                      subst hR11
                      clear p1 p2
                      go_wp2_with (at_lookup; refine wpList_look_used (HUW.out.below (below_alloc HB2.out _)) rfl _ _ rfl rfl (lkB x) HE1.out rfl ?_; intro A2 c2 hC2; rw [hq] at hC2 ⊢; simp only [List.length_nil, List.length_cons, Nat.zero_add] at hC2 ⊢)
                      obtain ⟨ad, hA2, -, -, -, -, hy4, hy5⟩ := link_at hC2 0 (by omega) y rfl
                      subst hA2
                      rw [Nat.zero_mul, show ad.add 0 = ad from rfl] at hy4 hy5
                      clear hC2 HG2 HUW
                      go_quiet (fail)
                      go_wp2
                      go_ret
                      exact ⟨rfl, pw_below_drewN (below_alloc HB3.out _) _⟩
            · have hR0 : (0 : Int) = R := by
                have h := HG2.out
                unfold restJ at h
                rw [if_neg (by decide), if_neg (by decide)] at h
                exact h
              subst hR0
              go_wp2
              go_ret
              exact ⟨rfl, HB3.out⟩
end Go.Proofs.Ytkegdgdkfbmabaa.X
