/- layout.links: what it answers, and that the call comes to it. (Written by wip/xp/gen_links.py.) -/
import Derived.Test.YtkegdgdkfbmabaaQJoined
import Derived.Test.YtkegdgdkfbmabaaQSections
import Derived.Test.YtkegdgdkfbmabaaQNames
import Derived.Test.YtkegdgdkfbmabaaQUsed
namespace Go.Proofs.Ytkegdgdkfbmabaa.X
open Go Go.RowKit Go.Maps Go.Proofs.YtkegdgdkfbmabaaW Go.Proofs.YtkegdgdkfbmabaaW.PrintWords Go.Proofs.YtkegdgdkfbmabaaW.PrintLast Go.Proofs.YtkegdgdkfbmabaaW.PrintMore
set_option linter.unusedVariables false
set_option linter.unusedSimpArgs false
def linkIn (n np : Int) (x : Link) : Bool := inB x.f0 0 n && (inB x.f2 0 n && (inB x.f1 0 1 && (inB x.f3 0 1 && (inB x.f4 (-1) np && (inB x.f5 0 1 && !(x.f4 == -1 && x.f5 != 0))))))
def put1 (u : Int × Int → List Link) (e : Int × Int) (x : Link) : Int × Int → List Link := fun e' => if e' = e then u e ++ [x] else u e'
/-- The first error of the links, after those that are used. -/
def linksS (n np : Int) : (Int × Int → List Link) → List Link → Int
  | _, [] => 0
  | u, x :: l => if linkIn n np x = true then (if (x.f0 == x.f2 && x.f1 == x.f3) = true then 1 else if joinedS u x = 0 then linksS n np (put1 (put1 u (lkA x) x) (lkB x) x) l else joinedS u x) else 4
theorem inB_iff {n lo hi : Int} : inB n lo hi = true ↔ lo ≤ n ∧ n ≤ hi := by unfold inB; rw [Bool.and_eq_true, decide_eq_true_iff, decide_eq_true_iff]
theorem endOk_of {n a b : Int} (hn : n ≤ 4294967296) (ha : inB a 0 n = true) (hb : inB b 0 1 = true) : EndOk (a, b) := by
  have h1 := inB_iff.1 ha
  have h2 := inB_iff.1 hb
  have m1 : IntKind.i64.min = -9223372036854775808 := rfl
  have m2 : IntKind.i64.max = 9223372036854775807 := rfl
  constructor
  · simp only [Lit.wf, Bool.and_eq_true, decide_eq_true_iff, m1, m2]; omega
  · simp only [Lit.wf, Bool.and_eq_true, decide_eq_true_iff, m1, m2]; omega
theorem put1_len {u : Int × Int → List Link} {m : Nat} (h : ∀ e, (u e).length ≤ m) (e : Int × Int) (x : Link) : ∀ e', (put1 u e x e').length ≤ m + 1 := by
  intro e'
  unfold put1
  by_cases he : e' = e
  · rw [if_pos he, List.length_append]; have := h e; simp; omega
  · rw [if_neg he]; have := h e'; omega
def uptoJ (u : Int × Int → List Link) (x : Link) : Nat → Int × Int → List Link
  | 0 => u
  | 1 => put1 u (lkA x) x
  | _ => put1 (put1 u (lkA x) x) (lkB x) x
theorem uptoJ_len {u : Int × Int → List Link} {m : Nat} (h : ∀ e, (u e).length ≤ m) (x : Link) : ∀ (j : Nat) (e : Int × Int), (uptoJ u x j e).length ≤ m + 2
  | 0, e => by have := h e; show (u e).length ≤ m + 2; omega
  | 1, e => by have := put1_len h (lkA x) x e; show (put1 u (lkA x) x e).length ≤ m + 2; omega
  | n + 2, e => by have := put1_len (put1_len h (lkA x) x) (lkB x) x e; show (put1 (put1 u (lkA x) x) (lkB x) x e).length ≤ m + 2; omega
theorem box_cells {W w4 : World} {b N : Nat} (x : Link) (hg : (W.alloc (.cells #[.int .i64 x.f0, .int .i64 x.f1, .int .i64 x.f2, .int .i64 x.f3, .int .i64 x.f4, .int .i64 x.f5] 61)).grownBy w4 (some b)) (hb : b < W.heap.size) (hN : W.heap.size = N) :
    ∀ (j : Nat) (c : Value), ([.int .i64 x.f0, .int .i64 x.f1, .int .i64 x.f2, .int .i64 x.f3, .int .i64 x.f4, .int .i64 x.f5] : List Value)[j]? = some c → w4.cell? ((⟨N, 0, none⟩ : Addr).add j) = some c := by
  have h := (hg.block W.heap.size (by simp) (fun e => by injection e with e; omega)).trans (MapKept.heap_alloc W _).1
  rw [hN] at h
  intro j c hj
  rcases j with _ | _ | _ | _ | _ | _ | j
  · simp at hj; subst hj; simp [World.cell?, Addr.add, h]
  · simp at hj; subst hj; simp [World.cell?, Addr.add, h]
  · simp at hj; subst hj; simp [World.cell?, Addr.add, h]
  · simp at hj; subst hj; simp [World.cell?, Addr.add, h]
  · simp at hj; subst hj; simp [World.cell?, Addr.add, h]
  · simp at hj; subst hj; simp [World.cell?, Addr.add, h]
  · simp at hj
theorem round_x {wr w4 w5 w6 : World} {o1 o2 : Obj} {b X : Nat} {own : Option Nat} {o : Obj} (h4 : ((wr.alloc o1).alloc o2).grownBy w4 (some b)) (h5 : w4.grownBy w5 own) (h6 : w5.grownBy w6 (some b)) (hp : ∀ k, own = some k → k ≠ X) (hx : wr.heap[X]? = some o) (hb : b ≠ X) : w6.heap[X]? = some o := by
  have hlt := (Array.getElem?_eq_some_iff.1 hx).1
  have hs4 := h4.size
  have hs5 := h5.size
  simp at hs4
  have e1 := h4.block X (by simp; omega) (fun e => by injection e with e; omega)
  have e2 := h5.block X (by omega) (fun e => hp X e.symm rfl)
  have e3 := h6.block X (by omega) (fun e => by injection e with e; omega)
  exact e3.trans (e2.trans (e1.trans ((Below.heap_alloc _ _ X (by simp; omega)).trans ((Below.heap_alloc _ _ X hlt).trans hx))))
theorem round_b {p : Nat → Prop} {W0 wr w4 w5 w6 : World} {o1 o2 : Obj} {b n st : Nat} {u : Int × Int → List Link} {e : Int × Int} {v : Value} (h4 : ((wr.alloc o1).alloc o2).grownBy w4 (some b)) (h5 : w4.grownBy w5 v.ownBlock) (h6 : w5.grownBy w6 (some b)) (hp : Pend p w4 b n u e v st) (hB : Below b W0 wr) (hlt : b < wr.heap.size) : Below b W0 w6 := by
  have hs4 := h4.size
  have hs5 := h5.size
  simp at hs4
  have b1 : Below b W0 ((wr.alloc o1).alloc o2) := (hB.alloc (by omega) _).alloc (by simp; omega) _
  have b2 := b1.grown h4 (by simp; omega) (fun k hk => by cases hk; exact Nat.le_refl _)
  have b3 := b2.grown h5 (by omega) (fun k hk => by have := Kd.R_base hp.2.1 k hk; omega)
  exact b3.grown h6 (by omega) (fun k hk => by cases hk; exact Nat.le_refl _)
set_option maxHeartbeats 3200000 in
set_option maxRecDepth 100000 in
theorem links_c (A0 : Option Addr) (c0 n0 : Nat) (A1 : Option Addr) (c1 n1 : Nat) (A2 : Option Addr) (c2 n2 : Nat) (A3 : Option Addr) (c3 : Nat) (l3 : List Link) (w : World) (hr : Kd.C kLink w A3 l3.length l3) (h1 : n1 ≤ 48) (h2 : n2 ≤ 96) (h3 : l3.length ≤ 192) :
    Calls Try.prog 21 #[.agg #[.slice A0 n0 c0, .slice A1 n1 c1, .slice A2 n2 c2, .slice A3 l3.length c3]] w fun e w' => e = .returned (.int .i64 (linksS ((n2 : Int) - 1) ((n1 : Int) - 1) (fun _ => []) l3)) ∧ Below w.heap.size w w' := by
  have hu28 := Try.underlying28
  have hu61 := Try.underlying61
  have hu2 := Try.underlying59
  have hu3 := Try.underlying62
  have HR0 := Aside0.mk hr
  have H1 := Aside0.mk h1
  have H2 := Aside0.mk h2
  have H3 := Aside0.mk h3
  clear hr h1 h2 h3
  have HN := Aside0.mk ends_c
  have hmm := @run_makeMap Try.prog
  have HM := Aside0.mk (UsedIs.made (w.alloc (.cells #[.slice A0 n0 c0, .slice A1 n1 c1, .slice A2 n2 c2, .slice A3 l3.length c3] 28)))
  obtain ⟨R, hR⟩ : ∃ R, linksS ((n2 : Int) - 1) ((n1 : Int) - 1) (fun _ => []) l3 = R := ⟨_, rfl⟩
  rw [hR]
  have H' := Aside0.mk hR
  clear hR
  have hnn : wrap64 ((n2 : Int) - 1) = (n2 : Int) - 1 := by have := H2.out; unfold wrap64; omega
  have hpp : wrap64 ((n1 : Int) - 1) = (n1 : Int) - 1 := by have := H1.out; unfold wrap64; omega
  go_enter Try.func21, Try.ntmps21
  go_wp2
  clear hmm
  simp only [hnn]
  have hbw0 : Below w.heap.size w ((w.alloc (.cells #[.slice A0 n0 c0, .slice A1 n1 c1, .slice A2 n2 c2, .slice A3 l3.length c3] 28)).alloc (.map #[] 0)) := ((Below.refl _ _).alloc (Nat.le_refl _) _).alloc (by simp) _
  have hbx0 : ((w.alloc (.cells #[.slice A0 n0 c0, .slice A1 n1 c1, .slice A2 n2 c2, .slice A3 l3.length c3] 28)).alloc (.map #[] 0)).cell? ⟨w.heap.size, 1, none⟩ = some (.slice A1 n1 c1) := by go_simp
  have hsz0 : ((w.alloc (.cells #[.slice A0 n0 c0, .slice A1 n1 c1, .slice A2 n2 c2, .slice A3 l3.length c3] 28)).alloc (.map #[] 0)).heap.size = w.heap.size + 2 := by simp
  have hm0 : (w.alloc (.cells #[.slice A0 n0 c0, .slice A1 n1 c1, .slice A2 n2 c2, .slice A3 l3.length c3] 28)).heap.size = w.heap.size + 1 := by simp
  rw [hm0] at HM
  clear hm0
  generalize (w.alloc (.cells #[.slice A0 n0 c0, .slice A1 n1 c1, .slice A2 n2 c2, .slice A3 l3.length c3] 28)).alloc (.map #[] 0) = W0 at HM hbw0 hbx0 hsz0 ⊢
  have HBW := Aside0.mk hbw0
  have HBX := Aside0.mk hbx0
  have HSZ := Aside0.mk hsz0
  clear hbw0 hbx0 hsz0
  go_loopg [19] (l3.length + 1) (fun kq v19 w' => ∃ (i : Nat) (u : Int × Int → List Link), v19 = .int .i64 (i : Int) ∧ Aside0 (i + kq = l3.length + 1) ∧ Aside0 (i ≤ l3.length) ∧ Aside0 (linksS ((n2 : Int) - 1) ((n1 : Int) - 1) u (l3.drop i) = R) ∧ Aside0 (UsedIs w' (w.heap.size + 1) (2 * i) u) ∧ Aside0 (∀ e, (u e).length ≤ 2 * i) ∧ Aside0 (Below (w.heap.size + 1) W0 w'))
  case atStart => exact ⟨0, _, rfl, ⟨by omega⟩, ⟨Nat.zero_le _⟩, H', HM, ⟨fun e => Nat.zero_le _⟩, ⟨Below.refl _ _⟩⟩
  case round =>
    clear H' HM
    obtain ⟨i, u, rfl, HK, HI, HG, HS, HL, HB⟩ := hrel
    have HBF := Aside0.mk (HBW.out.trans (HB.out.mono (Nat.le_succ _)))
    cases gk with
    | zero => exact absurd HK.out (by have := HI.out; omega)
    | succ k1 =>
      by_cases hi : i < l3.length
      · obtain ⟨x, hx, hd⟩ := drop_at hi
        have hg := HG.out
        rw [hd] at hg
        unfold linksS at hg
        obtain ⟨ad, hA, hc0, hc1, hc2, hc3, hc4, hc5⟩ := link_at (Kd.C_below HR0.out HBF.out) i hi x hx
        subst hA
        have hi1 : decide ((i : Int) < (l3.length : Int)) = true := decide_eq_true (by omega)
        have hi2 : decide (i < l3.length) = true := decide_eq_true hi
        have HHI := Aside0.mk hi
        clear hd hx HG
        have hb0 : (wr.alloc (.cells #[.int .i64 x.f0, .int .i64 x.f1, .int .i64 x.f2, .int .i64 x.f3, .int .i64 x.f4, .int .i64 x.f5] 61)).cell? ⟨w.heap.size, 1, none⟩ = some (.slice A1 n1 c1) := (((HB.out.alloc (Nat.le_of_lt HS.out.lt) _).cell (p := ⟨w.heap.size, 1, none⟩) (by show w.heap.size < w.heap.size + 1; omega)).trans HBX.out)
        have hsz := HSZ.out
        cases g0 : inB x.f0 0 ((n2 : Int) - 1) with
        | false =>
          have hok : linkIn ((n2 : Int) - 1) ((n1 : Int) - 1) x = false := by unfold linkIn; simp only [g0, Bool.false_and, Bool.true_and, Bool.and_false, Bool.not_true, Bool.not_false]
          rw [hok, if_neg (by decide)] at hg
          subst hg
          clear hok HS
          go_wp2_with (go_at_call 26; (with_reducible refine (within_c _ _ _ _).mono ?_); rintro e w' ⟨rfl, ⟨nd, rfl⟩⟩)
          go_ret
          exact ⟨rfl, by repeat (first | exact HBF.out | apply pw_below_drewN | refine Below.alloc ?_ (by have := HBF.out.size; simp; omega) _)⟩
        | true =>
          cases g1 : inB x.f2 0 ((n2 : Int) - 1) with
          | false =>
            have hok : linkIn ((n2 : Int) - 1) ((n1 : Int) - 1) x = false := by unfold linkIn; simp only [g0, g1, Bool.false_and, Bool.true_and, Bool.and_false, Bool.not_true, Bool.not_false]
            rw [hok, if_neg (by decide)] at hg
            subst hg
            clear hok HS
            go_wp2_with (go_at_call 26; (with_reducible refine (within_c _ _ _ _).mono ?_); rintro e w' ⟨rfl, ⟨nd, rfl⟩⟩)
            go_ret
            exact ⟨rfl, by repeat (first | exact HBF.out | apply pw_below_drewN | refine Below.alloc ?_ (by have := HBF.out.size; simp; omega) _)⟩
          | true =>
            cases g2 : inB x.f1 0 1 with
            | false =>
              have hok : linkIn ((n2 : Int) - 1) ((n1 : Int) - 1) x = false := by unfold linkIn; simp only [g0, g1, g2, Bool.false_and, Bool.true_and, Bool.and_false, Bool.not_true, Bool.not_false]
              rw [hok, if_neg (by decide)] at hg
              subst hg
              clear hok HS
              go_wp2_with (go_at_call 26; (with_reducible refine (within_c _ _ _ _).mono ?_); rintro e w' ⟨rfl, ⟨nd, rfl⟩⟩)
              go_ret
              exact ⟨rfl, by repeat (first | exact HBF.out | apply pw_below_drewN | refine Below.alloc ?_ (by have := HBF.out.size; simp; omega) _)⟩
            | true =>
              cases g3 : inB x.f3 0 1 with
              | false =>
                have hok : linkIn ((n2 : Int) - 1) ((n1 : Int) - 1) x = false := by unfold linkIn; simp only [g0, g1, g2, g3, Bool.false_and, Bool.true_and, Bool.and_false, Bool.not_true, Bool.not_false]
                rw [hok, if_neg (by decide)] at hg
                subst hg
                clear hok HS
                go_wp2_with (go_at_call 26; (with_reducible refine (within_c _ _ _ _).mono ?_); rintro e w' ⟨rfl, ⟨nd, rfl⟩⟩)
                go_ret
                exact ⟨rfl, by repeat (first | exact HBF.out | apply pw_below_drewN | refine Below.alloc ?_ (by have := HBF.out.size; simp; omega) _)⟩
              | true =>
                cases g4 : inB x.f4 (-1) ((n1 : Int) - 1) with
                | false =>
                  have hok : linkIn ((n2 : Int) - 1) ((n1 : Int) - 1) x = false := by unfold linkIn; simp only [g0, g1, g2, g3, g4, Bool.false_and, Bool.true_and, Bool.and_false, Bool.not_true, Bool.not_false]
                  rw [hok, if_neg (by decide)] at hg
                  subst hg
                  clear hok HS
                  go_wp2_with (go_at_call 26; (with_reducible refine (within_c _ _ _ _).mono ?_); rintro e w' ⟨rfl, ⟨nd, rfl⟩⟩)
                  go_ret
                  exact ⟨rfl, by repeat (first | exact HBF.out | apply pw_below_drewN | refine Below.alloc ?_ (by have := HBF.out.size; simp; omega) _)⟩
                | true =>
                  cases g5 : inB x.f5 0 1 with
                  | false =>
                    have hok : linkIn ((n2 : Int) - 1) ((n1 : Int) - 1) x = false := by unfold linkIn; simp only [g0, g1, g2, g3, g4, g5, Bool.false_and, Bool.true_and, Bool.and_false, Bool.not_true, Bool.not_false]
                    rw [hok, if_neg (by decide)] at hg
                    subst hg
                    clear hok HS
                    go_wp2_with (go_at_call 26; (with_reducible refine (within_c _ _ _ _).mono ?_); rintro e w' ⟨rfl, ⟨nd, rfl⟩⟩)
                    go_ret
                    exact ⟨rfl, by repeat (first | exact HBF.out | apply pw_below_drewN | refine Below.alloc ?_ (by have := HBF.out.size; simp; omega) _)⟩
                  | true =>
                    cases g6 : (x.f4 == -1) with
                    | true =>
                      cases g7 : (x.f5 != 0) with
                      | true =>
                        have hok : linkIn ((n2 : Int) - 1) ((n1 : Int) - 1) x = false := by unfold linkIn; simp only [g0, g1, g2, g3, g4, g5, g6, g7, Bool.false_and, Bool.true_and, Bool.and_false, Bool.not_true, Bool.not_false]
                        rw [hok, if_neg (by decide)] at hg
                        subst hg
                        clear hok HS
                        go_wp2_with (go_at_call 26; (with_reducible refine (within_c _ _ _ _).mono ?_); rintro e w' ⟨rfl, ⟨nd, rfl⟩⟩)
                        go_ret
                        exact ⟨rfl, by repeat (first | exact HBF.out | apply pw_below_drewN | refine Below.alloc ?_ (by have := HBF.out.size; simp; omega) _)⟩
                      | false =>
                        have hok : linkIn ((n2 : Int) - 1) ((n1 : Int) - 1) x = true := by unfold linkIn; simp only [g0, g1, g2, g3, g4, g5, g6, g7, Bool.false_and, Bool.true_and, Bool.and_false, Bool.not_true, Bool.not_false]
                        rw [hok, if_pos rfl] at hg
                        clear hok
                        have HE0 : Aside0 (EndOk (lkA x)) := ⟨endOk_of (by have := H2.out; omega) g0 g2⟩
                        have HE1 : Aside0 (EndOk (lkB x)) := ⟨endOk_of (by have := H2.out; omega) g1 g3⟩
                        have HJ : Aside0 (∀ W, Below wr.heap.size wr W → Calls Try.prog 28 #[.map (some (w.heap.size + 1)), linkV x] W fun e w' => e = .returned (.int .i64 (joinedS u x)) ∧ Below W.heap.size W w') := ⟨fun W hb => joined_c u _ _ x W (HS.out.below hb) HE0.out HE1.out (fun e => by have := HL.out e; have := H3.out; have := HHI.out; omega)⟩
                        go_wp2_with (go_at_call 26; (with_reducible refine (within_c _ _ _ _).mono ?_); rintro e w' ⟨rfl, ⟨nd, rfl⟩⟩)
                        (with_reducible refine (HN.out x _).mono ?_)
                        rintro e w2 ⟨rfl, hb2⟩
                        unfold endsV
                        have hbl0 : Below wr.heap.size wr w2 := (by repeat (first | exact Below.refl _ _ | apply pw_below_drewN | apply below_alloc) : Below wr.heap.size wr _).trans (hb2.mono (by simp))
                        have hx2 : w2.heap[wr.heap.size]? = some (.cells #[.int .i64 x.f0, .int .i64 x.f1, .int .i64 x.f2, .int .i64 x.f3, .int .i64 x.f4, .int .i64 x.f5] 61 (0, 0)) := (hb2.block wr.heap.size (by simp)).trans (MapKept.heap_alloc wr _).1
                        have hsz2 : wr.heap.size < w2.heap.size := (Array.getElem?_eq_some_iff.1 hx2).1
                        have hlt := HS.out.lt
                        have HB2 : Aside0 (Below (w.heap.size + 1) W0 w2) := ⟨HB.out.trans (hbl0.mono (Nat.le_of_lt hlt))⟩
                        have HBF2 := Aside0.mk (HBW.out.trans (HB2.out.mono (Nat.le_succ _)))
                        clear hb2
                        cases hE : (x.f0 == x.f2 && x.f1 == x.f3) with
                        | true =>
                          rw [hE, if_pos rfl] at hg
                          subst hg


                          go_wp2
                          go_ret
                          exact ⟨rfl, HBF2.out.alloc (by have := HBF2.out.size; omega) _⟩
                        | false =>
                          rw [hE, if_neg (by decide)] at hg
                          have hxx := (Below.heap_alloc w2 (.cells #[.int .i64 x.f0, .int .i64 x.f1, .int .i64 x.f2, .int .i64 x.f3] 62) wr.heap.size hsz2).trans hx2
                          have hX0 : (w2.alloc (.cells #[.int .i64 x.f0, .int .i64 x.f1, .int .i64 x.f2, .int .i64 x.f3] 62)).cell? ⟨wr.heap.size, 0, none⟩ = some (.int .i64 x.f0) := by simp [World.cell?, hxx]
                          have hX1 : (w2.alloc (.cells #[.int .i64 x.f0, .int .i64 x.f1, .int .i64 x.f2, .int .i64 x.f3] 62)).cell? ⟨wr.heap.size, 1, none⟩ = some (.int .i64 x.f1) := by simp [World.cell?, hxx]
                          have hX2 : (w2.alloc (.cells #[.int .i64 x.f0, .int .i64 x.f1, .int .i64 x.f2, .int .i64 x.f3] 62)).cell? ⟨wr.heap.size, 2, none⟩ = some (.int .i64 x.f2) := by simp [World.cell?, hxx]
                          have hX3 : (w2.alloc (.cells #[.int .i64 x.f0, .int .i64 x.f1, .int .i64 x.f2, .int .i64 x.f3] 62)).cell? ⟨wr.heap.size, 3, none⟩ = some (.int .i64 x.f3) := by simp [World.cell?, hxx]
                          have hX4 : (w2.alloc (.cells #[.int .i64 x.f0, .int .i64 x.f1, .int .i64 x.f2, .int .i64 x.f3] 62)).cell? ⟨wr.heap.size, 4, none⟩ = some (.int .i64 x.f4) := by simp [World.cell?, hxx]
                          have hX5 : (w2.alloc (.cells #[.int .i64 x.f0, .int .i64 x.f1, .int .i64 x.f2, .int .i64 x.f3] 62)).cell? ⟨wr.heap.size, 5, none⟩ = some (.int .i64 x.f5) := by simp [World.cell?, hxx]
                          clear hxx
                          obtain ⟨q, hq⟩ : ∃ q, joinedS u x = q := ⟨_, rfl⟩
                          rw [hq] at HJ hg
                          clear hq
                          have HGX := Aside0.mk hg
                          have HXX := Aside0.mk hx2
                          have HSS := Aside0.mk hsz2
                          have HLT := Aside0.mk hlt
                          have HBL := Aside0.mk hbl0
                          clear hg hx2 hsz2 hlt hbl0 hc0 hc1 hc2 hc3 hc4 hc5 hb0 hsz


                          go_wp2_with fail
                          (with_reducible refine (HJ.out _ (HBL.out.alloc (Nat.le_of_lt HSS.out) _)).mono ?_)
                          rintro e w3 ⟨rfl, hb3⟩
                          clear hX0 hX1 hX2 hX3 hX4 hX5
                          have HB3 : Aside0 (Below (w.heap.size + 1) W0 w3) := ⟨(HB2.out.alloc (by have := HSS.out; have := HLT.out; omega) _).trans (hb3.mono (by have := HSS.out; have := HLT.out; simp; omega))⟩
                          by_cases h0 : q = 0
                          · subst h0
                            have hg := HGX.out
                            rw [if_pos rfl] at hg
                            have HG2 := Aside0.mk hg
                            clear hg HGX
                            have hA := (hb3.block w2.heap.size (by simp)).trans (MapKept.heap_alloc w2 _).1
                            have HX3 := Aside0.mk ((hb3.block wr.heap.size (by have := HSS.out; simp; omega)).trans ((Below.heap_alloc w2 _ _ HSS.out).trans HXX.out))
                            have HS3 : Aside0 (UsedP (fun k => k ≠ wr.heap.size) w3 (w.heap.size + 1) (2 * i) u) := ⟨(HS.out.fresh.weaken (fun k hk => Nat.ne_of_lt hk.2)).below ((HBL.out.alloc (Nat.le_of_lt HSS.out) _).trans (hb3.mono (by have := HSS.out; simp; omega)))⟩
                            have hS3 : wr.heap.size < w3.heap.size := (Array.getElem?_eq_some_iff.1 HX3.out).1
                            have HW3 := Aside0.mk hS3
                            clear hS3
                            clear hb3
                            have hA0 : w3.cell? ⟨w2.heap.size, 0, none⟩ = some (.int .i64 x.f0) := by simp [World.cell?, hA]
                            have hA1 : w3.cell? ⟨w2.heap.size, 1, none⟩ = some (.int .i64 x.f1) := by simp [World.cell?, hA]
                            have hA2 : w3.cell? ⟨w2.heap.size, 2, none⟩ = some (.int .i64 x.f2) := by simp [World.cell?, hA]
                            have hA3 : w3.cell? ⟨w2.heap.size, 3, none⟩ = some (.int .i64 x.f3) := by simp [World.cell?, hA]
                            clear hA HXX HSS HBL HS HB HB2 HBF2 HBF HJ
                            go_wp2
                            clear hA0 hA1 hA2 hA3
                            obtain ⟨X, hXe⟩ : ∃ X, X = wr.heap.size := ⟨_, rfl⟩
                            rw [← hXe] at HX3 HS3 HW3 HLT ⊢
                            clear hXe
                            go_loopg [87] 3 (fun kq v87 w' => ∃ (j : Nat), v87 = .int .i64 (j : Int) ∧ Aside0 (j + kq = 3) ∧ Aside0 (j ≤ 2) ∧ Aside0 (UsedP (fun k => k ≠ X) w' (w.heap.size + 1) (2 * i + j) (uptoJ u x j)) ∧ Aside0 (w'.heap[X]? = some (.cells #[.int .i64 x.f0, .int .i64 x.f1, .int .i64 x.f2, .int .i64 x.f3, .int .i64 x.f4, .int .i64 x.f5] 61 (0, 0))) ∧ Aside0 (Below (w.heap.size + 1) W0 w'))
                            case atStart => exact ⟨0, rfl, ⟨by omega⟩, ⟨by omega⟩, HS3, HX3, HB3⟩
                            case round =>
                              clear HS3 HX3 HB3
                              obtain ⟨j, rfl, HK2, HI2, HU, HX, HB⟩ := hrel
                              cases gk with
                              | zero => exact absurd HK2.out (by have := HI2.out; omega)
                              | succ k2 =>
                                have hj : j = 0 ∨ j = 1 ∨ j = 2 := by have := HI2.out; omega
                                rcases hj with rfl | rfl | rfl
                                · have hxx := (Below.heap_alloc wr (.cells #[.int .i64 x.f0, .int .i64 x.f1] 59) X (Array.getElem?_eq_some_iff.1 HX.out).1).trans HX.out
                                  have hX0 : (wr.alloc (.cells #[.int .i64 x.f0, .int .i64 x.f1] 59)).cell? ⟨X, 0, none⟩ = some (.int .i64 x.f0) := by simp [World.cell?, hxx]
                                  have hX1 : (wr.alloc (.cells #[.int .i64 x.f0, .int .i64 x.f1] 59)).cell? ⟨X, 1, none⟩ = some (.int .i64 x.f1) := by simp [World.cell?, hxx]
                                  have hX2 : (wr.alloc (.cells #[.int .i64 x.f0, .int .i64 x.f1] 59)).cell? ⟨X, 2, none⟩ = some (.int .i64 x.f2) := by simp [World.cell?, hxx]
                                  have hX3 : (wr.alloc (.cells #[.int .i64 x.f0, .int .i64 x.f1] 59)).cell? ⟨X, 3, none⟩ = some (.int .i64 x.f3) := by simp [World.cell?, hxx]
                                  have hX4 : (wr.alloc (.cells #[.int .i64 x.f0, .int .i64 x.f1] 59)).cell? ⟨X, 4, none⟩ = some (.int .i64 x.f4) := by simp [World.cell?, hxx]
                                  have hX5 : (wr.alloc (.cells #[.int .i64 x.f0, .int .i64 x.f1] 59)).cell? ⟨X, 5, none⟩ = some (.int .i64 x.f5) := by simp [World.cell?, hxx]
                                  clear hxx
                                  have HWX := Aside0.mk (Array.getElem?_eq_some_iff.1 HX.out).1
                                  have HNN : Aside0 (2 * i + 0 < maxLen) := ⟨by have := H3.out; have := HHI.out; unfold maxLen; omega⟩
                                  have HLN : Aside0 ((uptoJ u x 0 (lkA x)).length < 4294967296) := ⟨by have := uptoJ_len HL.out x 0 (lkA x); have := H3.out; have := HHI.out; omega⟩
                                  go_wp2_with (first | (refine wpList_entry_used (HU.out.below ((below_alloc (below_alloc (Below.refl _ _) _) _))) (fun k hk => by have := HWX.out; simp at hk; omega) HNN.out rfl _ _ rfl rfl (lkA x) HE0.out rfl ?_; intro v st w4 hg4 hs4 hp4) | (at_builtin; refine wpList_append_used hp4 rfl _ _ rfl rfl x ⟨wr.heap.size + 1, 0, none⟩ rfl (box_cells x hg4 (by have := HWX.out; have := HLT.out; simp; omega) (by simp)) HLN.out ?_; intro v2 w5 hg5 hpp5 hst5) | (refine wpList_store_used hst5 rfl _ _ _ rfl rfl rfl rfl ?_; intro w6 hu6 hg6))
                                  go_roundg k2
                                  case measure => have := HK2.out; omega
                                  case rel => exact ⟨0 + 1, rfl, ⟨by have := HK2.out; omega⟩, ⟨by omega⟩, ⟨hu6⟩, ⟨round_x hg4 hg5 hg6 hpp5 HX.out (by have := HLT.out; omega)⟩, ⟨round_b hg4 hg5 hg6 hp4 HB.out (by have := HWX.out; have := HLT.out; omega)⟩⟩
                                · have hxx := (Below.heap_alloc wr (.cells #[.int .i64 x.f2, .int .i64 x.f3] 59) X (Array.getElem?_eq_some_iff.1 HX.out).1).trans HX.out
                                  have hX0 : (wr.alloc (.cells #[.int .i64 x.f2, .int .i64 x.f3] 59)).cell? ⟨X, 0, none⟩ = some (.int .i64 x.f0) := by simp [World.cell?, hxx]
                                  have hX1 : (wr.alloc (.cells #[.int .i64 x.f2, .int .i64 x.f3] 59)).cell? ⟨X, 1, none⟩ = some (.int .i64 x.f1) := by simp [World.cell?, hxx]
                                  have hX2 : (wr.alloc (.cells #[.int .i64 x.f2, .int .i64 x.f3] 59)).cell? ⟨X, 2, none⟩ = some (.int .i64 x.f2) := by simp [World.cell?, hxx]
                                  have hX3 : (wr.alloc (.cells #[.int .i64 x.f2, .int .i64 x.f3] 59)).cell? ⟨X, 3, none⟩ = some (.int .i64 x.f3) := by simp [World.cell?, hxx]
                                  have hX4 : (wr.alloc (.cells #[.int .i64 x.f2, .int .i64 x.f3] 59)).cell? ⟨X, 4, none⟩ = some (.int .i64 x.f4) := by simp [World.cell?, hxx]
                                  have hX5 : (wr.alloc (.cells #[.int .i64 x.f2, .int .i64 x.f3] 59)).cell? ⟨X, 5, none⟩ = some (.int .i64 x.f5) := by simp [World.cell?, hxx]
                                  clear hxx
                                  have HWX := Aside0.mk (Array.getElem?_eq_some_iff.1 HX.out).1
                                  have HNN : Aside0 (2 * i + 1 < maxLen) := ⟨by have := H3.out; have := HHI.out; unfold maxLen; omega⟩
                                  have HLN : Aside0 ((uptoJ u x 1 (lkB x)).length < 4294967296) := ⟨by have := uptoJ_len HL.out x 1 (lkB x); have := H3.out; have := HHI.out; omega⟩
                                  go_wp2_with (first | (refine wpList_entry_used (HU.out.below ((below_alloc (below_alloc (Below.refl _ _) _) _))) (fun k hk => by have := HWX.out; simp at hk; omega) HNN.out rfl _ _ rfl rfl (lkB x) HE1.out rfl ?_; intro v st w4 hg4 hs4 hp4) | (at_builtin; refine wpList_append_used hp4 rfl _ _ rfl rfl x ⟨wr.heap.size + 1, 0, none⟩ rfl (box_cells x hg4 (by have := HWX.out; have := HLT.out; simp; omega) (by simp)) HLN.out ?_; intro v2 w5 hg5 hpp5 hst5) | (refine wpList_store_used hst5 rfl _ _ _ rfl rfl rfl rfl ?_; intro w6 hu6 hg6))
                                  go_roundg k2
                                  case measure => have := HK2.out; omega
                                  case rel => exact ⟨1 + 1, rfl, ⟨by have := HK2.out; omega⟩, ⟨by omega⟩, ⟨hu6⟩, ⟨round_x hg4 hg5 hg6 hpp5 HX.out (by have := HLT.out; omega)⟩, ⟨round_b hg4 hg5 hg6 hp4 HB.out (by have := HWX.out; have := HLT.out; omega)⟩⟩
                                · clear HX
                                  go_wp2
                                  go_roundg k1
                                  case measure => have := HK.out; omega
                                  case rel => exact ⟨i + 1, _, (by first | go_num | (rw [int_succ i (by have := HHI.out; have := H3.out; omega)])), ⟨by have := HK.out; omega⟩, ⟨by have := HHI.out; omega⟩, HG2, ⟨(HU.out.weaken (fun _ _ => trivial)).mono (by omega)⟩, ⟨fun e => Nat.le_trans (uptoJ_len HL.out x 2 e) (by omega)⟩, HB⟩
                          · have h0b : (q != 0) = true := bne_iff_ne.mpr h0
                            have hg := HGX.out
                            rw [if_neg h0] at hg
                            subst hg
                            clear h0 HGX
                            go_wp2
                            go_ret
                            exact ⟨rfl, HBW.out.trans (HB3.out.mono (Nat.le_succ _))⟩
                    | false =>
                      have hok : linkIn ((n2 : Int) - 1) ((n1 : Int) - 1) x = true := by unfold linkIn; simp only [g0, g1, g2, g3, g4, g5, g6, Bool.false_and, Bool.true_and, Bool.and_false, Bool.not_true, Bool.not_false]
                      rw [hok, if_pos rfl] at hg
                      clear hok
                      have HE0 : Aside0 (EndOk (lkA x)) := ⟨endOk_of (by have := H2.out; omega) g0 g2⟩
                      have HE1 : Aside0 (EndOk (lkB x)) := ⟨endOk_of (by have := H2.out; omega) g1 g3⟩
                      have HJ : Aside0 (∀ W, Below wr.heap.size wr W → Calls Try.prog 28 #[.map (some (w.heap.size + 1)), linkV x] W fun e w' => e = .returned (.int .i64 (joinedS u x)) ∧ Below W.heap.size W w') := ⟨fun W hb => joined_c u _ _ x W (HS.out.below hb) HE0.out HE1.out (fun e => by have := HL.out e; have := H3.out; have := HHI.out; omega)⟩
                      go_wp2_with (go_at_call 26; (with_reducible refine (within_c _ _ _ _).mono ?_); rintro e w' ⟨rfl, ⟨nd, rfl⟩⟩)
                      (with_reducible refine (HN.out x _).mono ?_)
                      rintro e w2 ⟨rfl, hb2⟩
                      unfold endsV
                      have hbl0 : Below wr.heap.size wr w2 := (by repeat (first | exact Below.refl _ _ | apply pw_below_drewN | apply below_alloc) : Below wr.heap.size wr _).trans (hb2.mono (by simp))
                      have hx2 : w2.heap[wr.heap.size]? = some (.cells #[.int .i64 x.f0, .int .i64 x.f1, .int .i64 x.f2, .int .i64 x.f3, .int .i64 x.f4, .int .i64 x.f5] 61 (0, 0)) := (hb2.block wr.heap.size (by simp)).trans (MapKept.heap_alloc wr _).1
                      have hsz2 : wr.heap.size < w2.heap.size := (Array.getElem?_eq_some_iff.1 hx2).1
                      have hlt := HS.out.lt
                      have HB2 : Aside0 (Below (w.heap.size + 1) W0 w2) := ⟨HB.out.trans (hbl0.mono (Nat.le_of_lt hlt))⟩
                      have HBF2 := Aside0.mk (HBW.out.trans (HB2.out.mono (Nat.le_succ _)))
                      clear hb2
                      cases hE : (x.f0 == x.f2 && x.f1 == x.f3) with
                      | true =>
                        rw [hE, if_pos rfl] at hg
                        subst hg


                        go_wp2
                        go_ret
                        exact ⟨rfl, HBF2.out.alloc (by have := HBF2.out.size; omega) _⟩
                      | false =>
                        rw [hE, if_neg (by decide)] at hg
                        have hxx := (Below.heap_alloc w2 (.cells #[.int .i64 x.f0, .int .i64 x.f1, .int .i64 x.f2, .int .i64 x.f3] 62) wr.heap.size hsz2).trans hx2
                        have hX0 : (w2.alloc (.cells #[.int .i64 x.f0, .int .i64 x.f1, .int .i64 x.f2, .int .i64 x.f3] 62)).cell? ⟨wr.heap.size, 0, none⟩ = some (.int .i64 x.f0) := by simp [World.cell?, hxx]
                        have hX1 : (w2.alloc (.cells #[.int .i64 x.f0, .int .i64 x.f1, .int .i64 x.f2, .int .i64 x.f3] 62)).cell? ⟨wr.heap.size, 1, none⟩ = some (.int .i64 x.f1) := by simp [World.cell?, hxx]
                        have hX2 : (w2.alloc (.cells #[.int .i64 x.f0, .int .i64 x.f1, .int .i64 x.f2, .int .i64 x.f3] 62)).cell? ⟨wr.heap.size, 2, none⟩ = some (.int .i64 x.f2) := by simp [World.cell?, hxx]
                        have hX3 : (w2.alloc (.cells #[.int .i64 x.f0, .int .i64 x.f1, .int .i64 x.f2, .int .i64 x.f3] 62)).cell? ⟨wr.heap.size, 3, none⟩ = some (.int .i64 x.f3) := by simp [World.cell?, hxx]
                        have hX4 : (w2.alloc (.cells #[.int .i64 x.f0, .int .i64 x.f1, .int .i64 x.f2, .int .i64 x.f3] 62)).cell? ⟨wr.heap.size, 4, none⟩ = some (.int .i64 x.f4) := by simp [World.cell?, hxx]
                        have hX5 : (w2.alloc (.cells #[.int .i64 x.f0, .int .i64 x.f1, .int .i64 x.f2, .int .i64 x.f3] 62)).cell? ⟨wr.heap.size, 5, none⟩ = some (.int .i64 x.f5) := by simp [World.cell?, hxx]
                        clear hxx
                        obtain ⟨q, hq⟩ : ∃ q, joinedS u x = q := ⟨_, rfl⟩
                        rw [hq] at HJ hg
                        clear hq
                        have HGX := Aside0.mk hg
                        have HXX := Aside0.mk hx2
                        have HSS := Aside0.mk hsz2
                        have HLT := Aside0.mk hlt
                        have HBL := Aside0.mk hbl0
                        clear hg hx2 hsz2 hlt hbl0 hc0 hc1 hc2 hc3 hc4 hc5 hb0 hsz


                        go_wp2_with fail
                        (with_reducible refine (HJ.out _ (HBL.out.alloc (Nat.le_of_lt HSS.out) _)).mono ?_)
                        rintro e w3 ⟨rfl, hb3⟩
                        clear hX0 hX1 hX2 hX3 hX4 hX5
                        have HB3 : Aside0 (Below (w.heap.size + 1) W0 w3) := ⟨(HB2.out.alloc (by have := HSS.out; have := HLT.out; omega) _).trans (hb3.mono (by have := HSS.out; have := HLT.out; simp; omega))⟩
                        by_cases h0 : q = 0
                        · subst h0
                          have hg := HGX.out
                          rw [if_pos rfl] at hg
                          have HG2 := Aside0.mk hg
                          clear hg HGX
                          have hA := (hb3.block w2.heap.size (by simp)).trans (MapKept.heap_alloc w2 _).1
                          have HX3 := Aside0.mk ((hb3.block wr.heap.size (by have := HSS.out; simp; omega)).trans ((Below.heap_alloc w2 _ _ HSS.out).trans HXX.out))
                          have HS3 : Aside0 (UsedP (fun k => k ≠ wr.heap.size) w3 (w.heap.size + 1) (2 * i) u) := ⟨(HS.out.fresh.weaken (fun k hk => Nat.ne_of_lt hk.2)).below ((HBL.out.alloc (Nat.le_of_lt HSS.out) _).trans (hb3.mono (by have := HSS.out; simp; omega)))⟩
                          have hS3 : wr.heap.size < w3.heap.size := (Array.getElem?_eq_some_iff.1 HX3.out).1
                          have HW3 := Aside0.mk hS3
                          clear hS3
                          clear hb3
                          have hA0 : w3.cell? ⟨w2.heap.size, 0, none⟩ = some (.int .i64 x.f0) := by simp [World.cell?, hA]
                          have hA1 : w3.cell? ⟨w2.heap.size, 1, none⟩ = some (.int .i64 x.f1) := by simp [World.cell?, hA]
                          have hA2 : w3.cell? ⟨w2.heap.size, 2, none⟩ = some (.int .i64 x.f2) := by simp [World.cell?, hA]
                          have hA3 : w3.cell? ⟨w2.heap.size, 3, none⟩ = some (.int .i64 x.f3) := by simp [World.cell?, hA]
                          clear hA HXX HSS HBL HS HB HB2 HBF2 HBF HJ
                          go_wp2
                          clear hA0 hA1 hA2 hA3
                          obtain ⟨X, hXe⟩ : ∃ X, X = wr.heap.size := ⟨_, rfl⟩
                          rw [← hXe] at HX3 HS3 HW3 HLT ⊢
                          clear hXe
                          go_loopg [87] 3 (fun kq v87 w' => ∃ (j : Nat), v87 = .int .i64 (j : Int) ∧ Aside0 (j + kq = 3) ∧ Aside0 (j ≤ 2) ∧ Aside0 (UsedP (fun k => k ≠ X) w' (w.heap.size + 1) (2 * i + j) (uptoJ u x j)) ∧ Aside0 (w'.heap[X]? = some (.cells #[.int .i64 x.f0, .int .i64 x.f1, .int .i64 x.f2, .int .i64 x.f3, .int .i64 x.f4, .int .i64 x.f5] 61 (0, 0))) ∧ Aside0 (Below (w.heap.size + 1) W0 w'))
                          case atStart => exact ⟨0, rfl, ⟨by omega⟩, ⟨by omega⟩, HS3, HX3, HB3⟩
                          case round =>
                            clear HS3 HX3 HB3
                            obtain ⟨j, rfl, HK2, HI2, HU, HX, HB⟩ := hrel
                            cases gk with
                            | zero => exact absurd HK2.out (by have := HI2.out; omega)
                            | succ k2 =>
                              have hj : j = 0 ∨ j = 1 ∨ j = 2 := by have := HI2.out; omega
                              rcases hj with rfl | rfl | rfl
                              · have hxx := (Below.heap_alloc wr (.cells #[.int .i64 x.f0, .int .i64 x.f1] 59) X (Array.getElem?_eq_some_iff.1 HX.out).1).trans HX.out
                                have hX0 : (wr.alloc (.cells #[.int .i64 x.f0, .int .i64 x.f1] 59)).cell? ⟨X, 0, none⟩ = some (.int .i64 x.f0) := by simp [World.cell?, hxx]
                                have hX1 : (wr.alloc (.cells #[.int .i64 x.f0, .int .i64 x.f1] 59)).cell? ⟨X, 1, none⟩ = some (.int .i64 x.f1) := by simp [World.cell?, hxx]
                                have hX2 : (wr.alloc (.cells #[.int .i64 x.f0, .int .i64 x.f1] 59)).cell? ⟨X, 2, none⟩ = some (.int .i64 x.f2) := by simp [World.cell?, hxx]
                                have hX3 : (wr.alloc (.cells #[.int .i64 x.f0, .int .i64 x.f1] 59)).cell? ⟨X, 3, none⟩ = some (.int .i64 x.f3) := by simp [World.cell?, hxx]
                                have hX4 : (wr.alloc (.cells #[.int .i64 x.f0, .int .i64 x.f1] 59)).cell? ⟨X, 4, none⟩ = some (.int .i64 x.f4) := by simp [World.cell?, hxx]
                                have hX5 : (wr.alloc (.cells #[.int .i64 x.f0, .int .i64 x.f1] 59)).cell? ⟨X, 5, none⟩ = some (.int .i64 x.f5) := by simp [World.cell?, hxx]
                                clear hxx
                                have HWX := Aside0.mk (Array.getElem?_eq_some_iff.1 HX.out).1
                                have HNN : Aside0 (2 * i + 0 < maxLen) := ⟨by have := H3.out; have := HHI.out; unfold maxLen; omega⟩
                                have HLN : Aside0 ((uptoJ u x 0 (lkA x)).length < 4294967296) := ⟨by have := uptoJ_len HL.out x 0 (lkA x); have := H3.out; have := HHI.out; omega⟩
                                go_wp2_with (first | (refine wpList_entry_used (HU.out.below ((below_alloc (below_alloc (Below.refl _ _) _) _))) (fun k hk => by have := HWX.out; simp at hk; omega) HNN.out rfl _ _ rfl rfl (lkA x) HE0.out rfl ?_; intro v st w4 hg4 hs4 hp4) | (at_builtin; refine wpList_append_used hp4 rfl _ _ rfl rfl x ⟨wr.heap.size + 1, 0, none⟩ rfl (box_cells x hg4 (by have := HWX.out; have := HLT.out; simp; omega) (by simp)) HLN.out ?_; intro v2 w5 hg5 hpp5 hst5) | (refine wpList_store_used hst5 rfl _ _ _ rfl rfl rfl rfl ?_; intro w6 hu6 hg6))
                                go_roundg k2
                                case measure => have := HK2.out; omega
                                case rel => exact ⟨0 + 1, rfl, ⟨by have := HK2.out; omega⟩, ⟨by omega⟩, ⟨hu6⟩, ⟨round_x hg4 hg5 hg6 hpp5 HX.out (by have := HLT.out; omega)⟩, ⟨round_b hg4 hg5 hg6 hp4 HB.out (by have := HWX.out; have := HLT.out; omega)⟩⟩
                              · have hxx := (Below.heap_alloc wr (.cells #[.int .i64 x.f2, .int .i64 x.f3] 59) X (Array.getElem?_eq_some_iff.1 HX.out).1).trans HX.out
                                have hX0 : (wr.alloc (.cells #[.int .i64 x.f2, .int .i64 x.f3] 59)).cell? ⟨X, 0, none⟩ = some (.int .i64 x.f0) := by simp [World.cell?, hxx]
                                have hX1 : (wr.alloc (.cells #[.int .i64 x.f2, .int .i64 x.f3] 59)).cell? ⟨X, 1, none⟩ = some (.int .i64 x.f1) := by simp [World.cell?, hxx]
                                have hX2 : (wr.alloc (.cells #[.int .i64 x.f2, .int .i64 x.f3] 59)).cell? ⟨X, 2, none⟩ = some (.int .i64 x.f2) := by simp [World.cell?, hxx]
                                have hX3 : (wr.alloc (.cells #[.int .i64 x.f2, .int .i64 x.f3] 59)).cell? ⟨X, 3, none⟩ = some (.int .i64 x.f3) := by simp [World.cell?, hxx]
                                have hX4 : (wr.alloc (.cells #[.int .i64 x.f2, .int .i64 x.f3] 59)).cell? ⟨X, 4, none⟩ = some (.int .i64 x.f4) := by simp [World.cell?, hxx]
                                have hX5 : (wr.alloc (.cells #[.int .i64 x.f2, .int .i64 x.f3] 59)).cell? ⟨X, 5, none⟩ = some (.int .i64 x.f5) := by simp [World.cell?, hxx]
                                clear hxx
                                have HWX := Aside0.mk (Array.getElem?_eq_some_iff.1 HX.out).1
                                have HNN : Aside0 (2 * i + 1 < maxLen) := ⟨by have := H3.out; have := HHI.out; unfold maxLen; omega⟩
                                have HLN : Aside0 ((uptoJ u x 1 (lkB x)).length < 4294967296) := ⟨by have := uptoJ_len HL.out x 1 (lkB x); have := H3.out; have := HHI.out; omega⟩
                                go_wp2_with (first | (refine wpList_entry_used (HU.out.below ((below_alloc (below_alloc (Below.refl _ _) _) _))) (fun k hk => by have := HWX.out; simp at hk; omega) HNN.out rfl _ _ rfl rfl (lkB x) HE1.out rfl ?_; intro v st w4 hg4 hs4 hp4) | (at_builtin; refine wpList_append_used hp4 rfl _ _ rfl rfl x ⟨wr.heap.size + 1, 0, none⟩ rfl (box_cells x hg4 (by have := HWX.out; have := HLT.out; simp; omega) (by simp)) HLN.out ?_; intro v2 w5 hg5 hpp5 hst5) | (refine wpList_store_used hst5 rfl _ _ _ rfl rfl rfl rfl ?_; intro w6 hu6 hg6))
                                go_roundg k2
                                case measure => have := HK2.out; omega
                                case rel => exact ⟨1 + 1, rfl, ⟨by have := HK2.out; omega⟩, ⟨by omega⟩, ⟨hu6⟩, ⟨round_x hg4 hg5 hg6 hpp5 HX.out (by have := HLT.out; omega)⟩, ⟨round_b hg4 hg5 hg6 hp4 HB.out (by have := HWX.out; have := HLT.out; omega)⟩⟩
                              · clear HX
                                go_wp2
                                go_roundg k1
                                case measure => have := HK.out; omega
                                case rel => exact ⟨i + 1, _, (by first | go_num | (rw [int_succ i (by have := HHI.out; have := H3.out; omega)])), ⟨by have := HK.out; omega⟩, ⟨by have := HHI.out; omega⟩, HG2, ⟨(HU.out.weaken (fun _ _ => trivial)).mono (by omega)⟩, ⟨fun e => Nat.le_trans (uptoJ_len HL.out x 2 e) (by omega)⟩, HB⟩
                        · have h0b : (q != 0) = true := bne_iff_ne.mpr h0
                          have hg := HGX.out
                          rw [if_neg h0] at hg
                          subst hg
                          clear h0 HGX
                          go_wp2
                          go_ret
                          exact ⟨rfl, HBW.out.trans (HB3.out.mono (Nat.le_succ _))⟩
      · have hg := HG.out
        rw [List.drop_eq_nil_of_le (by omega)] at hg
        have hi1 : decide ((i : Int) < (l3.length : Int)) = false := decide_eq_false (by omega)
        have hi2 : decide (i < l3.length) = false := decide_eq_false hi
        have hR0 : (0 : Int) = R := hg
        subst hR0
        clear hg HG
        go_wp2
        go_ret
        exact ⟨rfl, HBF.out⟩
end Go.Proofs.Ytkegdgdkfbmabaa.X
