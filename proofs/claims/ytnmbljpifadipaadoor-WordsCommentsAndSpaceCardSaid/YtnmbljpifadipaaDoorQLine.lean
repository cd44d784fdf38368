/- words.line: what it answers, and that the call comes to it. -/
import Derived.Test.YtnmbljpifadipaaDoorQLaid
import Derived.Test.YtnmbljpifadipaaDoorX2
namespace Go.Proofs.YtnmbljpifadipaaDoor.X
open Go.RowKit Go.Proofs.YtnmbljpifadipaaDoorW Go.Proofs.YtnmbljpifadipaaDoorW.PrintWords Go.Proofs.YtnmbljpifadipaaDoorW.PrintLast Go.Proofs.YtnmbljpifadipaaDoorW.PrintMore
attribute [local go_sem] max2_int min2_int max_two min_two max_three min_three max_four min_four
set_option linter.unusedVariables false
set_option linter.unusedSimpArgs false
--BODY
/-- One byte at i, the words so far xs; op: the last of them is open. -/
def words_line.l0 : Nat → ByteArray → Int → List (S32) → Bool → Int → Option ((List (S32)) × Int)
  | 0, _, _, _, _, _ => none
  | k + 1, a0, a1, xs, op, i =>
    if i < (a0.size : Int) then
      (if 0 ≤ i then
        (if bt a0 i = 32 then words_line.l0 k a0 a1 xs false (wrap64 (i + 1))
         else if bt a0 i = 9 then words_line.l0 k a0 a1 xs false (wrap64 (i + 1))
         else (words_graphic.f (bt a0 i)).bind fun g =>
          if g = false then some (([] : List (S32)), 2)
          else if i ≤ wrap64 (i + 1) then (if wrap64 (i + 1) ≤ (a0.size : Int) then
            (if op = true then
              (if 0 ≤ wrap64 ((xs.length : Int) - 1) then (if wrap64 ((xs.length : Int) - 1) < (xs.length : Int) then
                (if 0 ≤ wrap64 ((rd_T32 xs (wrap64 ((xs.length : Int) - 1))).f2 - 1) then (if wrap64 ((rd_T32 xs (wrap64 ((xs.length : Int) - 1))).f2 - 1) ≤ wrap64 (i + 1) then
                  words_line.l0 k a0 a1 (xs.set (wrap64 ((xs.length : Int) - 1)).toNat (⟨a0.extract (wrap64 ((rd_T32 xs (wrap64 ((xs.length : Int) - 1))).f2 - 1)).toNat (wrap64 (i + 1)).toNat, (rd_T32 xs (wrap64 ((xs.length : Int) - 1))).f1, (rd_T32 xs (wrap64 ((xs.length : Int) - 1))).f2⟩ : S32)) true (wrap64 (i + 1))
                else none) else none) else none) else none)
            else if xs.length < 4398046511104 then words_line.l0 k a0 a1 (xs ++ [(⟨a0.extract i.toNat (wrap64 (i + 1)).toNat, a1, wrap64 (i + 1)⟩ : S32)]) true (wrap64 (i + 1)) else none)
          else none) else none)
      else none)
    else if (xs.length : Int) > 64 then some (([] : List (S32)), 7) else some (xs, 0)
def words_line.f (k : Nat) (a0 : ByteArray) (a1 : Int) : Option ((List (S32)) × Int) := words_line.l0 k a0 a1 [] false 0
theorem words_line.mono_l : ∀ k, (∀ y0 y1 y2 y3 y4, LeO (words_line.l0 k y0 y1 y2 y3 y4) (words_line.l0 (k + 1) y0 y1 y2 y3 y4))
  | 0 => fun _ _ _ _ _ r h => by simp [words_line.l0] at h
  | k + 1 => by
    have ih0 := words_line.mono_l k
    intro y0 y1 y2 y3 y4
    unfold words_line.l0
    repeat' first
      | (with_reducible exact ih0 _ _ _ _ _)
      | (with_reducible exact LeO.refl _)
      | (with_reducible exact LeO.none _)
      | (with_reducible refine LeO.ite ?_ ?_)
      | (with_reducible refine LeO.bind ?_ (fun _ => ?_))
theorem words_line.mono : ∀ a0 a1 k, LeO (words_line.f k a0 a1) (words_line.f (k + 1) a0 a1) := fun a0 a1 k => words_line.mono_l k _ _ _ _ _
theorem line_put {W : World} {base g c : Nat} {xs : List (S32)} (h : Kd.R k32 32 W base (fun _ => True) (.slice (some ⟨g, 0, none⟩) xs.length c) xs) (i : Int) (h0 : 0 ≤ i) (h1 : i < xs.length) (t : ByteArray) :
    Kd.R k32 32 (W.setCell ⟨g, i.toNat * 3, none⟩ (.string t)) base (fun _ => True) (.slice (some ⟨g, 0, none⟩) xs.length c) (xs.set i.toNat (⟨t, (rd_T32 xs i).f1, (rd_T32 xs i).f2⟩ : S32)) := by
  obtain ⟨ce, hcl, hM, hcc, hfr⟩ := Kd.R_elem h z32 i h0 h1
  obtain rfl := k32_openM hM
  exact (Kd.R_seg h i h0 h1 (seg := [.string t]) (j := 0) hcl hcc (show 1 ≤ 3 from by decide) (x' := (⟨t, (rd_T32 xs i).f1, (rd_T32 xs i).f2⟩ : S32)) (k32_mkM _ _ _ _) (fun _ hk => hk)).1
set_option maxHeartbeats 8000000 in
set_option maxRecDepth 100000 in
theorem words_line.calls (k : Nat) (a0 : ByteArray) (a1 : Int) (r1 : List (S32)) (r2 : Int) (w : World) (h : words_line.f k a0 a1 = some (r1, r2)) :
    Calls Tryd.prog 30 #[.string a0, .int .i64 a1] w fun e w' => ∃ v0_ : Value, e = .returned (.tuple #[v0_, .int .i64 r2]) ∧ Kd.R k32 32 w' w.heap.size (fun _ => True) v0_ r1 ∧ Below w.heap.size w w' := by
  have hu := Tryd.underlying32
  have H' := Aside0.mk h
  clear h
  unfold words_line.f at H'
  go_enter Tryd.func30, Tryd.ntmps30
  go_wp2
  go_loopg [6, 7, 13] k (fun kq v6 v7 v13 w' => ∃ (xs : List (S32)) (op : Bool) (i : Int), v7 = .bool op ∧ v13 = .int .i64 i ∧ Aside0 (words_line.l0 kq a0 a1 xs op i = some (r1, r2)) ∧ Aside0 (kq ≤ k) ∧ Aside0 (Kd.R k32 32 w' w.heap.size (fun _ => True) v6 xs) ∧ Aside0 (Below w.heap.size w w'))
  case atStart => exact ⟨[], false, 0, rfl, rfl, H', ⟨Nat.le_refl _⟩, ⟨Kd.R_nil _ _ _ _ _⟩, ⟨Below.refl _ _⟩⟩
  case round =>
    clear H'
    obtain ⟨xs, op, i, rfl, rfl, HA, HK1, HO, HB⟩ := hrel
    cases gk with
    | zero => exact absurd HA.out (by simp [words_line.l0])
    | succ k1 =>
      have H := HA.out
      clear HA
      simp only [words_line.l0] at H
      by_cases c1 : i < (a0.size : Int)
      · rw [if_pos c1] at H
        have c1b : decide (i < (a0.size : Int)) = true := decide_eq_true c1
        by_cases c2 : ¬ 0 ≤ i
        · rw [if_neg c2] at H; cases H
        replace c2 := Classical.not_not.mp c2
        rw [if_pos c2] at H
        have c2b : decide (0 ≤ i) = true := decide_eq_true c2
        have hx := bt_at a0 i
        by_cases c3 : bt a0 i = 32
        · rw [if_pos c3] at H
          have c3b : (bt a0 i == 32) = true := beq_iff_eq.mpr c3
          have H' := Aside0.mk H
          clear H c3
          replace c1 := eq_true c1
          replace c2 := eq_true c2
          go_wp2
          go_roundg k1
          case measure => have := HK1.out; omega
          case rel => exact ⟨xs, false, wrap64 (i + 1), by first | rfl | simp, by first | rfl | simp, H', ⟨by have := HK1.out; omega⟩, HO, HB⟩
        rw [if_neg c3] at H
        have c3b : (bt a0 i == 32) = false := beq_eq_false_iff_ne.mpr c3
        clear c3
        by_cases c4 : bt a0 i = 9
        · rw [if_pos c4] at H
          have c4b : (bt a0 i == 9) = true := beq_iff_eq.mpr c4
          have H' := Aside0.mk H
          clear H c4
          replace c1 := eq_true c1
          replace c2 := eq_true c2
          go_wp2
          go_roundg k1
          case measure => have := HK1.out; omega
          case rel => exact ⟨xs, false, wrap64 (i + 1), by first | rfl | simp, by first | rfl | simp, H', ⟨by have := HK1.out; omega⟩, HO, HB⟩
        rw [if_neg c4] at H
        have c4b : (bt a0 i == 9) = false := beq_eq_false_iff_ne.mpr c4
        clear c4
        replace H := Option.bind_eq_some_iff.mp H
        obtain ⟨g, hg, H⟩ := H
        have HG := Aside0.mk (fun w1 => words_graphic.calls (bt a0 i) g w1 hg)
        clear hg
        cases g with
        | false =>
          rw [if_pos rfl] at H
          simp only [Option.some.injEq, Prod.mk.injEq] at H
          obtain ⟨rfl, rfl⟩ := H
          replace c1 := eq_true c1
          replace c2 := eq_true c2
          go_wp2_with (go_at_call 46; (with_reducible refine (HG.out _).mono ?_); rintro e w' ⟨rfl, ⟨nd, rfl⟩⟩)
          go_ret2
          exact ⟨_, rfl, Kd.R_nil _ _ _ _ _, by repeat (first | exact HB.out | apply pw_below_drewN | apply below_drew1)⟩
        | true =>
          rw [if_neg (by decide)] at H
          by_cases c5 : ¬ i ≤ wrap64 (i + 1)
          · rw [if_neg c5] at H; cases H
          replace c5 := Classical.not_not.mp c5
          rw [if_pos c5] at H
          have c5b := decide_eq_true c5
          by_cases c6 : ¬ wrap64 (i + 1) ≤ (a0.size : Int)
          · rw [if_neg c6] at H; cases H
          replace c6 := Classical.not_not.mp c6
          rw [if_pos c6] at H
          have c6b := decide_eq_true c6
          cases op with
          | false =>
            rw [if_neg (by decide)] at H
            by_cases c7 : ¬ xs.length < 4398046511104
            · rw [if_neg c7] at H; cases H
            replace c7 := Classical.not_not.mp c7
            rw [if_pos c7] at H
            have C7 := Aside0.mk c7
            clear c7
            have H' := Aside0.mk H
            clear H
            replace c1 := eq_true c1
            replace c2 := eq_true c2
            replace c5 := eq_true c5
            replace c6 := eq_true c6
            go_wp2_with (first | (go_at_call 46; (with_reducible refine (HG.out _).mono ?_); rintro e w' ⟨rfl, ⟨nd, rfl⟩⟩) | ((with_reducible refine gate_builtin (b := .append) (xs := #[.tmp 19, .tmp 29]) rfl ?_); at_builtin; refine Kd.R_append k32 (w0 := w) w.heap.size rfl (.tmp 19) (.tmp 29) 33 32 (.agg #[(.string ⟨#[]⟩), (.int .i64 0), (.int .i64 0)]) 32 rfl Tryd.underlying33 info32 rfl (by decide) (by omega) u6 xs (⟨a0.extract i.toNat (wrap64 (i + 1)).toNat, a1, wrap64 (i + 1)⟩ : S32) [.string (a0.extract i.toNat (wrap64 (i + 1)).toNat), .int .i64 a1, .int .i64 (wrap64 (i + 1))] (fun _ => True) (fun _ => False) rfl rfl ?aP (fun _ hk => hk.elim) ?aF ?aO ?aB ?aS ?aL ?_; (case aP => exact k32_mkM _ _ _ (⟨a0.extract i.toNat (wrap64 (i + 1)).toNat, a1, wrap64 (i + 1)⟩ : S32)); (case aB => exact (by repeat (first | (with_reducible first | exact HB.out | apply below_alloc | apply pw_below_drewN | apply below_drew1) | exact HB.out))); (case aF => exact (fun _ _ => trivial)); (case aO => exact (by (with_reducible repeat (first | apply Kd.R_alloc | apply Kd.R_drewN | apply Kd.R_drew)); exact HO.out)); (case aS => exact (below_size (by repeat (first | (with_reducible first | exact HB.out | apply below_alloc | apply pw_below_drewN | apply below_drew1) | exact HB.out)))); (case aL => have := C7.out; omega); intro v159 w42 ho hb hg hat; have n0_ := Aside0.mk (hb); have n1_ := Aside0.mk (ho); clear HB; clear HO; have HB := n0_; have HO160 := n1_; clear n0_ n1_; clear ho hb hg hat))
            go_roundg k1
            case measure => have := HK1.out; omega
            case rel => exact ⟨_, true, wrap64 (i + 1), by first | rfl | simp, by first | rfl | simp, H', ⟨by have := HK1.out; omega⟩, ⟨by (with_reducible repeat (first | apply Kd.R_alloc | apply Kd.R_drewN | apply Kd.R_drew)); exact HO160.out⟩, ⟨by repeat (first | (with_reducible first | exact HB.out | apply below_alloc | apply pw_below_drewN | apply below_drew1) | exact HB.out)⟩⟩
          | true =>
            rw [if_pos rfl] at H
            obtain ⟨j, hj⟩ : ∃ j : Int, wrap64 ((xs.length : Int) - 1) = j := ⟨_, rfl⟩
            simp only [hj] at H
            have hjw : (IntKind.i64.wrap ((xs.length : Int) - 1)) = j := (i64_w _).trans hj
            by_cases c7 : ¬ 0 ≤ j
            · rw [if_neg c7] at H; cases H
            replace c7 := Classical.not_not.mp c7
            rw [if_pos c7] at H
            have c7b := decide_eq_true c7
            by_cases c8 : ¬ j < (xs.length : Int)
            · rw [if_neg c8] at H; cases H
            replace c8 := Classical.not_not.mp c8
            rw [if_pos c8] at H
            have c8b := decide_eq_true c8
            have CJ7 := Aside0.mk c7
            have CJ8 := Aside0.mk c8
            obtain ⟨q, hq⟩ : ∃ q : Int, wrap64 ((rd_T32 xs j).f2 - 1) = q := ⟨_, rfl⟩
            simp only [hq] at H
            have hqw : (IntKind.i64.wrap ((rd_T32 xs j).f2 - 1)) = q := (i64_w _).trans hq
            by_cases c9 : ¬ 0 ≤ q
            · rw [if_neg c9] at H; cases H
            replace c9 := Classical.not_not.mp c9
            rw [if_pos c9] at H
            have c9b := decide_eq_true c9
            by_cases c10 : ¬ q ≤ wrap64 (i + 1)
            · rw [if_neg c10] at H; cases H
            replace c10 := Classical.not_not.mp c10
            rw [if_pos c10] at H
            have c10b := decide_eq_true c10
            have H' := Aside0.mk H
            clear H
            obtain ⟨g, co, eo, gb, gl, cl, HG2⟩ := Kd.R_form HO.out (by omega)
            cases eo
            have GB := Aside0.mk gb
            have GG := Aside0.mk HG2
            clear gb gl HG2
            obtain ⟨ce, hcl, hM, hcc, hfr⟩ := Kd.R_elem HO.out z32 j c7 c8
            obtain rfl := k32_openM hM
            have hx0 : World.cell? _ ⟨g, j.toNat * 3, none⟩ = some (.string (rd_T32 xs j).f0) := hcc 0 _ rfl
            have hx2 : World.cell? _ ⟨g, j.toNat * 3 + 2, none⟩ = some (.int .i64 (rd_T32 xs j).f2) := hcc 2 _ rfl
            have hf0 : World.frozen? _ ⟨g, j.toNat * 3, none⟩ = false := hfr 0
            clear hcl hcc hfr hM
            replace c1 := eq_true c1
            replace c2 := eq_true c2
            replace c5 := eq_true c5
            replace c6 := eq_true c6
            replace c7 := eq_true c7
            replace c8 := eq_true c8
            replace c9 := eq_true c9
            replace c10 := eq_true c10
            go_wp2_with (go_at_call 46; (with_reducible refine (HG.out _).mono ?_); rintro e w' ⟨rfl, ⟨nd, rfl⟩⟩)
            go_roundg k1
            case measure => have := HK1.out; omega
            case rel => exact ⟨_, true, wrap64 (i + 1), by first | rfl | simp, by first | rfl | simp, H', ⟨by have := HK1.out; omega⟩, ⟨line_put (by (with_reducible repeat (first | apply Kd.R_drewN | apply Kd.R_drew)); exact HO.out) j CJ7.out CJ8.out _⟩, ⟨Below.setCell (by repeat (first | exact HB.out | apply pw_below_drewN | apply below_drew1)) GB.out _⟩⟩
      · rw [if_neg c1] at H
        have c1b : decide (i < (a0.size : Int)) = false := decide_eq_false c1
        clear c1
        by_cases c2 : (xs.length : Int) > 64
        · rw [if_pos c2] at H
          simp only [Option.some.injEq, Prod.mk.injEq] at H
          obtain ⟨rfl, rfl⟩ := H
          have c2b : decide (64 < (xs.length : Int)) = true := decide_eq_true c2
          obtain ⟨A, c, rfl⟩ := Kd.R_slice HO.out
          clear c2
          go_wp2
          go_ret2
          exact ⟨_, rfl, Kd.R_nil _ _ _ _ _, HB.out⟩
        · rw [if_neg c2] at H
          simp only [Option.some.injEq, Prod.mk.injEq] at H
          obtain ⟨rfl, rfl⟩ := H
          have c2b : decide (64 < (xs.length : Int)) = false := decide_eq_false c2
          obtain ⟨A, c, rfl⟩ := Kd.R_slice HO.out
          clear c2
          go_wp2
          go_ret2
          exact ⟨_, rfl, HO.out, HB.out⟩
end Go.Proofs.YtnmbljpifadipaaDoor.X
