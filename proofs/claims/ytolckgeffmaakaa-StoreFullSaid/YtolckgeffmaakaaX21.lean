/- Written by a program of this claim. Proved: each Go function named below, called with any arguments at which its Lean function answers, returns that answer; or, of a law, its given statement. -/
import Derived.Test.YtolckgeffmaakaaX0
import Derived.Test.YtolckgeffmaakaaX1
import Derived.Test.YtolckgeffmaakaaX3
import Derived.Test.YtolckgeffmaakaaX5
import Derived.Test.YtolckgeffmaakaaX6
import Derived.Test.YtolckgeffmaakaaQCompact
namespace Go.Proofs.Ytolckgeffmaakaa.X
open Go.RowKit Go.Proofs.YtolckgeffmaakaaW Go.Proofs.YtolckgeffmaakaaW.PrintWords Go.Proofs.YtolckgeffmaakaaW.PrintLast Go.Proofs.YtolckgeffmaakaaW.PrintMore
attribute [local go_sem] max2_int min2_int max_two min_two max_three min_three max_four min_four   -- for this text's walks alone
set_option linter.unusedVariables false
set_option linter.unusedSimpArgs false

attribute [local go_sem high] eqA23
/-! ### railplanlaw41_StoreFull: function 10 -/
def railplanlaw41_StoreFull.l0 : Nat → ByteArray → Int → Int → Option (Bool)
  | 0, _, _, _ => none
  | k + 1, x3, x4, x5 => if x5 ≤ x4 then ((railplanref41_Encode.f k x5 (⟨#[]⟩ : ByteArray)).bind fun bt401 => (if x3.size + bt401.1.size ≤ 9223372036854775807 then (railplanlaw41_StoreFull.l0 k (x3 ++ bt401.1) x4 (wrap64 (x5 + 1))) else (none))) else ((store_Scan.f k x3).bind fun bt403 => ((store_Append.f k x3 (wrap64 (x4 + 1)) (⟨#[]⟩ : ByteArray)).bind fun bt407 => ((store_Compact.f k x3 1).bind fun bt409 => ((store_Latest.f k bt409.1).bind fun bt411 => ((railplanlaw41_awake.f k).bind fun t415 => (if t415 = true then (if (bt403.1.length : Int) = 64 then (if bt403.2 = 1024 then (if bt407.2 = 7 then (if bt409.2 = 0 then (if bt411.2.2 = 0 then (some (bt411.1 == 64 && (bt411.2.1.toList == ([] : List UInt8)))) else (some false)) else (some false)) else (some false)) else (some false)) else (some false)) else (some false)))))))
def railplanlaw41_StoreFull.f (k : Nat) (a0 : Int) : Option (Bool) := (railplankeep_Pick.f a0 3).bind fun t400 => (railplanlaw41_StoreFull.l0 k (⟨#[]⟩ : ByteArray) (wrap64 (64 + t400)) 1)
theorem railplanlaw41_StoreFull.mono_l : ∀ k, (∀ y0 y1 y2, LeO (railplanlaw41_StoreFull.l0 k y0 y1 y2) (railplanlaw41_StoreFull.l0 (k + 1) y0 y1 y2))
  | 0 => fun _ _ _ r h => by simp [railplanlaw41_StoreFull.l0] at h
  | k + 1 => by
    have ih0 := railplanlaw41_StoreFull.mono_l k
    · intro y0 y1 y2
      unfold railplanlaw41_StoreFull.l0
      repeat' first
      | (with_reducible exact ih0 _ _ _)
      | (with_reducible exact railplanlaw41_awake.mono _)
      | (with_reducible exact railplanref41_Encode.mono _ _ _)
      | (with_reducible exact store_Append.mono _ _ _ _)
      | (with_reducible exact store_Compact.mono _ _ _)
      | (with_reducible exact store_Latest.mono _ _)
      | (with_reducible exact store_Scan.mono _ _)
      | (with_reducible exact LeO.refl _)
      | (with_reducible exact LeO.none _)
      | (with_reducible refine LeO.ite ?_ ?_)
      | (with_reducible refine LeO.bind ?_ (fun _ => ?_))
      | exact ih0 _ _ _
      | exact railplanlaw41_awake.mono _
      | exact railplanref41_Encode.mono _ _ _
      | exact store_Append.mono _ _ _ _
      | exact store_Compact.mono _ _ _
      | exact store_Latest.mono _ _
      | exact store_Scan.mono _ _
      | exact LeO.none _
      | refine LeO.ite ?_ ?_
      | refine LeO.bind ?_ (fun _ => ?_)
theorem railplanlaw41_StoreFull.mono : ∀ a0 k, LeO (railplanlaw41_StoreFull.f k a0) (railplanlaw41_StoreFull.f (k + 1) a0) := by
  intro a0 k
  have ih0 := railplanlaw41_StoreFull.mono_l k
  unfold railplanlaw41_StoreFull.f
  repeat' first
      | (with_reducible exact ih0 _ _ _)
      | (with_reducible exact railplanlaw41_awake.mono _)
      | (with_reducible exact railplanref41_Encode.mono _ _ _)
      | (with_reducible exact store_Append.mono _ _ _ _)
      | (with_reducible exact store_Compact.mono _ _ _)
      | (with_reducible exact store_Latest.mono _ _)
      | (with_reducible exact store_Scan.mono _ _)
      | (with_reducible exact LeO.refl _)
      | (with_reducible exact LeO.none _)
      | (with_reducible refine LeO.ite ?_ ?_)
      | (with_reducible refine LeO.bind ?_ (fun _ => ?_))
      | exact ih0 _ _ _
      | exact railplanlaw41_awake.mono _
      | exact railplanref41_Encode.mono _ _ _
      | exact store_Append.mono _ _ _ _
      | exact store_Compact.mono _ _ _
      | exact store_Latest.mono _ _
      | exact store_Scan.mono _ _
      | exact LeO.none _
      | refine LeO.ite ?_ ?_
      | refine LeO.bind ?_ (fun _ => ?_)
set_option maxHeartbeats 8000000 in
set_option maxRecDepth 100000 in
theorem railplanlaw41_StoreFull.calls (k : Nat) (a0 : Int) (r : Bool) (w : World) (hr_ : Aside0 (r = true)) (h : railplanlaw41_StoreFull.f k a0 = some r) :
    Calls Try.prog 10 #[.int .i64 a0] w fun e w' => e = .returned (.bool r) ∧ Below w.heap.size w w' := by
  have hu23 := Try.underlying23
  have HB := Aside0.mk (Below.refl w.heap.size w)
  have H : ((railplankeep_Pick.f a0 3).bind fun t400 => (railplanlaw41_StoreFull.l0 k (⟨#[]⟩ : ByteArray) (wrap64 (64 + t400)) 1)) = some r := h
  clear h
  replace H := Option.bind_eq_some_iff.mp H
  obtain ⟨t400, A20, H⟩ := H
  replace H : (railplanlaw41_StoreFull.l0 k (⟨#[]⟩ : ByteArray) (wrap64 (64 + t400)) 1) = some r := H
  have A2 := Aside0.mk A20
  clear A20
  have H' := Aside0.mk H
  clear H
  go_enter Try.func10, Try.ntmps10
  go_wp2_with (first | ((with_reducible refine gate_callee (f := 14) rfl ?_); refine goesL_ (some 17) rfl rfl Try.func14 (by kernel_rfl) rfl #[.int .i64 a0, .int .i64 3] rfl (by (try simp only [List.map_toArray, List.map_cons, List.map_nil]); first | done | rfl | (simp only [List.length_drop, List.length_take]; rfl)) ?_; (with_reducible refine (railplankeep_Pick.calls a0 3 t400 _ A2.out).mono ?_); rintro e w' ⟨rfl, ⟨nd, rfl⟩⟩; refine ⟨_, rfl, ?_⟩))
  go_loopg [3, 5] k (fun kq v3 v5 w' => ∃ (x3_1 : ByteArray) (x5_1 : Int), v3 = .string x3_1 ∧ v5 = .int .i64 x5_1 ∧ Aside0 (railplanlaw41_StoreFull.l0 kq x3_1 (wrap64 (64 + t400)) x5_1 = some r) ∧ Aside0 (kq ≤ k) ∧ Aside0 (Below w.heap.size w w'))
  case atStart => exact ⟨((⟨#[]⟩ : ByteArray)), (1), (by first | rfl | (simp; done) | (simp [*]; done)), (by first | rfl | (simp; done) | (simp [*]; done)), H', ⟨Nat.le_refl _⟩, ⟨by repeat (first | (with_reducible first | exact HB.out | apply below_alloc | apply pw_below_drewN | apply below_drew1) | exact HB.out)⟩⟩
  case round =>
    clear H'
    try clear c1
    try clear p2
    obtain ⟨x3_1, x5_1, rfl, rfl, HA, HK1, HB⟩ := hrel
    cases gk with
    | zero => exact absurd HA.out (by simp [railplanlaw41_StoreFull.l0])
    | succ k1 =>
      have H := HA.out
      clear HA
      simp only [railplanlaw41_StoreFull.l0] at H
      by_cases c3 : x5_1 ≤ (wrap64 (64 + t400))
      · rw [if_pos c3] at H
        have c3b0 : decide (x5_1 ≤ (wrap64 (64 + t400))) = true := decide_eq_true c3
        clear c3
        replace H := Option.bind_eq_some_iff.mp H
        obtain ⟨⟨t401, t402⟩, A40, H⟩ := H
        replace H : (if x3_1.size + t401.size ≤ 9223372036854775807 then (railplanlaw41_StoreFull.l0 k1 (x3_1 ++ t401) (wrap64 (64 + t400)) (wrap64 (x5_1 + 1))) else (none)) = some r := H
        have A4 := Aside0.mk A40
        clear A40
        by_cases c5 : x3_1.size + t401.size ≤ 9223372036854775807
        · rw [if_pos c5] at H
          have c5b0 := eq_true c5
          have c5b1 : decide (x3_1.size + t401.size ≤ 9223372036854775807) = true := decide_eq_true c5
          try have c5b2 : (9223372036854775807 < x3_1.size + t401.size) = False := eq_false (Nat.not_lt.2 c5)
          have H' := Aside0.mk H
          clear H
          go_wp2_with (first | ((with_reducible refine gate_callee (f := 13) rfl ?_); refine goesL_ (some 27) rfl rfl Try.func13 (by kernel_rfl) rfl #[.agg #[.int .i64 x5_1, .string (⟨#[]⟩ : ByteArray)]] rfl (by (try simp only [List.map_toArray, List.map_cons, List.map_nil]); first | done | rfl | (simp only [List.length_drop, List.length_take]; rfl)) ?_; (with_reducible refine (railplanref41_Encode.calls k1 x5_1 (⟨#[]⟩ : ByteArray) t401 t402 _ A4.out).mono ?_); rintro e w6 ⟨rfl, hb⟩; refine ⟨_, rfl, ?_⟩; have n0_ := Aside0.mk (below_step (by repeat (first | (with_reducible first | exact HB.out | apply below_alloc | apply pw_below_drewN | apply below_drew1) | exact HB.out)) hb); clear HB; have HB := n0_; clear n0_; (try clear hb); (try clear hb2); (try clear hk); (try clear hi)))
          go_roundg k1
          case measure => have := HK1.out; omega
          case rel => exact ⟨(x3_1 ++ t401), (wrap64 (x5_1 + 1)), (by first | rfl | (simp; done) | (simp [*]; done)), (by first | rfl | (simp; done) | (simp [*]; done)), H', ⟨by have := HK1.out; omega⟩, ⟨by repeat (first | (with_reducible first | exact HB.out | apply below_alloc | apply pw_below_drewN | apply below_drew1) | exact HB.out)⟩⟩
        · rw [if_neg c5] at H
          exact absurd H (by simp)
      · rw [if_neg c3] at H
        have c3b0 : decide (x5_1 ≤ (wrap64 (64 + t400))) = false := decide_eq_false c3
        clear c3
        replace H := Option.bind_eq_some_iff.mp H
        obtain ⟨⟨t403, t404⟩, A70, H⟩ := H
        replace H : ((store_Append.f k1 x3_1 (wrap64 ((wrap64 (64 + t400)) + 1)) (⟨#[]⟩ : ByteArray)).bind fun bt407 => ((store_Compact.f k1 x3_1 1).bind fun bt409 => ((store_Latest.f k1 bt409.1).bind fun bt411 => ((railplanlaw41_awake.f k1).bind fun t415 => (if t415 = true then (if (t403.length : Int) = 64 then (if t404 = 1024 then (if bt407.2 = 7 then (if bt409.2 = 0 then (if bt411.2.2 = 0 then (some (bt411.1 == 64 && (bt411.2.1.toList == ([] : List UInt8)))) else (some false)) else (some false)) else (some false)) else (some false)) else (some false)) else (some false)))))) = some r := H
        have A7 := Aside0.mk A70
        clear A70
        replace H := Option.bind_eq_some_iff.mp H
        obtain ⟨⟨t407, t408⟩, A80, H⟩ := H
        replace H : ((store_Compact.f k1 x3_1 1).bind fun bt409 => ((store_Latest.f k1 bt409.1).bind fun bt411 => ((railplanlaw41_awake.f k1).bind fun t415 => (if t415 = true then (if (t403.length : Int) = 64 then (if t404 = 1024 then (if t408 = 7 then (if bt409.2 = 0 then (if bt411.2.2 = 0 then (some (bt411.1 == 64 && (bt411.2.1.toList == ([] : List UInt8)))) else (some false)) else (some false)) else (some false)) else (some false)) else (some false)) else (some false))))) = some r := H
        have A8 := Aside0.mk A80
        clear A80
        replace H := Option.bind_eq_some_iff.mp H
        obtain ⟨⟨t409, t410⟩, A90, H⟩ := H
        replace H : ((store_Latest.f k1 t409).bind fun bt411 => ((railplanlaw41_awake.f k1).bind fun t415 => (if t415 = true then (if (t403.length : Int) = 64 then (if t404 = 1024 then (if t408 = 7 then (if t410 = 0 then (if bt411.2.2 = 0 then (some (bt411.1 == 64 && (bt411.2.1.toList == ([] : List UInt8)))) else (some false)) else (some false)) else (some false)) else (some false)) else (some false)) else (some false)))) = some r := H
        have A9 := Aside0.mk A90
        clear A90
        replace H := Option.bind_eq_some_iff.mp H
        obtain ⟨⟨t411, t412, t413⟩, A100, H⟩ := H
        replace H : ((railplanlaw41_awake.f k1).bind fun t415 => (if t415 = true then (if (t403.length : Int) = 64 then (if t404 = 1024 then (if t408 = 7 then (if t410 = 0 then (if t413 = 0 then (some (t411 == 64 && (t412.toList == ([] : List UInt8)))) else (some false)) else (some false)) else (some false)) else (some false)) else (some false)) else (some false))) = some r := H
        have A10 := Aside0.mk A100
        clear A100
        replace H := Option.bind_eq_some_iff.mp H
        obtain ⟨t415, A110, H⟩ := H
        replace H : (if t415 = true then (if (t403.length : Int) = 64 then (if t404 = 1024 then (if t408 = 7 then (if t410 = 0 then (if t413 = 0 then (some (t411 == 64 && (t412.toList == ([] : List UInt8)))) else (some false)) else (some false)) else (some false)) else (some false)) else (some false)) else (some false)) = some r := H
        have A11 := Aside0.mk A110
        clear A110
        by_cases c12 : t415 = true
        · subst c12
          have H1 : (if (t403.length : Int) = 64 then (if t404 = 1024 then (if t408 = 7 then (if t410 = 0 then (if t413 = 0 then (some (t411 == 64 && (t412.toList == ([] : List UInt8)))) else (some false)) else (some false)) else (some false)) else (some false)) else (some false)) = some r := by rw [if_pos rfl] at H; exact H
          clear H
          have H := H1
          clear H1
          by_cases c13 : (t403.length : Int) = 64
          · rw [if_pos c13] at H
            have c13b0 : ((t403.length : Int) == 64) = true := beq_iff_eq.mpr c13
            have c13b1 : ((t403.length : Int) != 64) = false := bne_eq_false_iff_eq.mpr c13
            clear c13
            by_cases c14 : t404 = 1024
            · rw [if_pos c14] at H
              have c14b0 : (t404 == 1024) = true := beq_iff_eq.mpr c14
              have c14b1 : (t404 != 1024) = false := bne_eq_false_iff_eq.mpr c14
              clear c14
              by_cases c15 : t408 = 7
              · rw [if_pos c15] at H
                have c15b0 : (t408 == 7) = true := beq_iff_eq.mpr c15
                have c15b1 : (t408 != 7) = false := bne_eq_false_iff_eq.mpr c15
                clear c15
                by_cases c16 : t410 = 0
                · rw [if_pos c16] at H
                  have c16b0 : (t410 == 0) = true := beq_iff_eq.mpr c16
                  have c16b1 : (t410 != 0) = false := bne_eq_false_iff_eq.mpr c16
                  clear c16
                  by_cases c17 : t413 = 0
                  · rw [if_pos c17] at H
                    have c17b0 : (t413 == 0) = true := beq_iff_eq.mpr c17
                    have c17b1 : (t413 != 0) = false := bne_eq_false_iff_eq.mpr c17
                    clear c17
                    obtain rfl := Option.some.inj H
                    simp only [Option.some.injEq, Prod.mk.injEq] at H
                    obtain ⟨rfl⟩ := H
                    go_wp2_with (first | ((with_reducible refine gate_callee (f := 19) rfl ?_); refine goesL_ (some 35) rfl rfl Try.func19 (by kernel_rfl) rfl #[.string x3_1] rfl (by (try simp only [List.map_toArray, List.map_cons, List.map_nil]); first | done | rfl | (simp only [List.length_drop, List.length_take]; rfl)) ?_; (with_reducible refine (store_Scan.calls k1 x3_1 t403 t404 _ A7.out).mono ?_); rintro e w18 ⟨v405, rfl, ho0, hb⟩; refine ⟨_, rfl, ?_⟩; have n0_ := Aside0.mk (Kd.R_lower ho0 (below_size (by repeat (first | (with_reducible first | exact HB.out | apply below_alloc | apply pw_below_drewN | apply below_drew1) | exact HB.out)))); have n1_ := Aside0.mk (below_step (by repeat (first | (with_reducible first | exact HB.out | apply below_alloc | apply pw_below_drewN | apply below_drew1) | exact HB.out)) hb); clear HB; have HO406 := n0_; have HB := n1_; clear n0_ n1_; (try clear hb); (try clear hb2); (try clear hk); (try clear hi); (try clear ho0)) | ((with_reducible refine gate_callee (f := 22) rfl ?_); refine goesL_ (some 43) rfl rfl Try.func22 (by kernel_rfl) rfl #[.string x3_1, .agg #[.int .i64 (wrap64 ((wrap64 (64 + t400)) + 1)), .string (⟨#[]⟩ : ByteArray)]] rfl (by (try simp only [List.map_toArray, List.map_cons, List.map_nil]); first | done | rfl | (simp only [List.length_drop, List.length_take]; rfl)) ?_; (with_reducible refine (store_Append.calls k1 x3_1 (wrap64 ((wrap64 (64 + t400)) + 1)) (⟨#[]⟩ : ByteArray) t407 t408 _ A8.out).mono ?_); rintro e w19 ⟨rfl, hb⟩; refine ⟨_, rfl, ?_⟩; have n0_ := Aside0.mk (Kd.R_below (by (with_reducible repeat (first | apply Kd.R_alloc | apply Kd.R_drewN | apply Kd.R_drew)); exact HO406.out) hb); have n1_ := Aside0.mk (below_step (by repeat (first | (with_reducible first | exact HB.out | apply below_alloc | apply pw_below_drewN | apply below_drew1) | exact HB.out)) hb); clear HO406; clear HB; have HO406 := n0_; have HB := n1_; clear n0_ n1_; (try clear hb); (try clear hb2); (try clear hk); (try clear hi)) | ((with_reducible refine gate_callee (f := 25) rfl ?_); refine goesL_ (some 48) rfl rfl Try.func25 (by kernel_rfl) rfl #[.string x3_1, .int .i64 1] rfl (by (try simp only [List.map_toArray, List.map_cons, List.map_nil]); first | done | rfl | (simp only [List.length_drop, List.length_take]; rfl)) ?_; (with_reducible refine (store_Compact.calls k1 x3_1 1 t409 t410 _ A9.out).mono ?_); rintro e w20 ⟨rfl, hb⟩; refine ⟨_, rfl, ?_⟩; have n0_ := Aside0.mk (Kd.R_below (by (with_reducible repeat (first | apply Kd.R_alloc | apply Kd.R_drewN | apply Kd.R_drew)); exact HO406.out) hb); have n1_ := Aside0.mk (below_step (by repeat (first | (with_reducible first | exact HB.out | apply below_alloc | apply pw_below_drewN | apply below_drew1) | exact HB.out)) hb); clear HO406; clear HB; have HO406 := n0_; have HB := n1_; clear n0_ n1_; (try clear hb); (try clear hb2); (try clear hk); (try clear hi)) | ((with_reducible refine gate_callee (f := 26) rfl ?_); refine goesL_ (some 53) rfl rfl Try.func26 (by kernel_rfl) rfl #[.string t409] rfl (by (try simp only [List.map_toArray, List.map_cons, List.map_nil]); first | done | rfl | (simp only [List.length_drop, List.length_take]; rfl)) ?_; (with_reducible refine (store_Latest.calls k1 t409 t411 t412 t413 _ A10.out).mono ?_); rintro e w21 ⟨rfl, hb⟩; refine ⟨_, rfl, ?_⟩; have n0_ := Aside0.mk (Kd.R_below (by (with_reducible repeat (first | apply Kd.R_alloc | apply Kd.R_drewN | apply Kd.R_drew)); exact HO406.out) hb); have n1_ := Aside0.mk (below_step (by repeat (first | (with_reducible first | exact HB.out | apply below_alloc | apply pw_below_drewN | apply below_drew1) | exact HB.out)) hb); clear HO406; clear HB; have HO406 := n0_; have HB := n1_; clear n0_ n1_; (try clear hb); (try clear hb2); (try clear hk); (try clear hi)) | ((with_reducible refine gate_dst (N := 14) rfl ?_); refine box_event ?hg (N := 14) ?hd (cs := #[.int .i64 0, .string (⟨#[]⟩ : ByteArray)]) (t := 23) ?hr ?_; (case hd => rfl); (case hg => rfl); (case hr => first | (go_simp; done) | (go_simp; rfl)); intro gb414 hg w22 hbox hb; have n0_ := Aside0.mk (Kd.R_below (Kd.R_elderB (by (with_reducible repeat (first | apply Kd.R_alloc | apply Kd.R_drewN | apply Kd.R_drew)); exact HO406.out) gb414 (Nat.le_of_eq hg.symm)) hb); have n1_ := Aside0.mk (below_step (by repeat (first | (with_reducible first | exact HB.out | apply below_alloc | apply pw_below_drewN | apply below_drew1) | exact HB.out)) hb); have n2_ := Aside0.mk (hbox); have n3_ := Aside0.mk ((by rw [hg]; exact (below_size (by repeat (first | (with_reducible first | exact HB.out | apply below_alloc | apply pw_below_drewN | apply below_drew1) | exact HB.out))) : w.heap.size ≤ gb414)); have n4_ := Aside0.mk ((by rw [hg]; exact (below_size (by repeat (first | (with_reducible first | exact HB.out | apply below_alloc | apply pw_below_drewN | apply below_drew1) | exact HB.out))) : w.heap.size ≤ gb414)); clear HO406; clear HB; have HO406 := n0_; have HB := n1_; have BK414 := n2_; have GW414 := n3_; have GE414 := n4_; clear n0_ n1_ n2_ n3_ n4_; clear hb hbox hg; have hcz23_0 : w22.cell? ⟨gb414, 0, none⟩ = some (.int .i64 0) := (blk_cell BK414.out 0).trans rfl; have hcz23_1 : w22.cell? ⟨gb414, 1, none⟩ = some (.string (⟨#[]⟩ : ByteArray)) := (blk_cell BK414.out 1).trans rfl; have hfz23_0 := blk_frozen BK414.out 0; have hfz23_1 := blk_frozen BK414.out 1) | ((with_reducible refine gate_callee (f := 15) rfl ?_); refine goesL_ (some 56) rfl rfl Try.func15 (by kernel_rfl) rfl #[] rfl (by (try simp only [List.map_toArray, List.map_cons, List.map_nil]); first | done | rfl | (simp only [List.length_drop, List.length_take]; rfl)) ?_; (with_reducible refine (railplanlaw41_awake.calls k1  true _ A11.out).mono ?_); rintro e w24 ⟨rfl, hb⟩; refine ⟨_, rfl, ?_⟩; have n0_ := Aside0.mk (Kd.R_below (by (with_reducible repeat (first | apply Kd.R_alloc | apply Kd.R_drewN | apply Kd.R_drew)); exact (Kd.R_mono (Kd.R_far (p := ⟨gb414, 1, none⟩) (Kd.R_far (p := ⟨gb414, 0, none⟩) (Kd.R_mono HO406.out (fun k_ hk => (⟨hk, hk.2⟩ : _ ∧ k_ ≠ gb414))) (fun _ hk => hk.2) (.int .i64 t411)) (fun _ hk => hk.2) (.string t412)) (fun _ h_ => h_.1))) hb); have n1_ := Aside0.mk (blk_below (g := gb414) (o := .cells #[.int .i64 t411, .string t412] 23 (0, 0)) (by (with_reducible repeat (first | refine blk_drewN ?_ _ | refine blk_drew ?_ | refine blk_alloc ?_ _)); refine blk_put (cs := #[.int .i64 t411, .string (⟨#[]⟩ : ByteArray)]) ?_ 1 _ rfl; (with_reducible repeat (first | refine blk_drewN ?_ _ | refine blk_drew ?_ | refine blk_alloc ?_ _)); refine blk_put (cs := #[.int .i64 0, .string (⟨#[]⟩ : ByteArray)]) ?_ 0 _ rfl; (with_reducible repeat (first | refine blk_drewN ?_ _ | refine blk_drew ?_ | refine blk_alloc ?_ _)); exact BK414.out) hb); have n2_ := Aside0.mk (below_step (by repeat (first | (with_reducible first | exact HB.out | apply below_alloc | apply pw_below_drewN | apply below_drew1 | refine below_set ?_ GE414.out) | exact HB.out)) hb); clear HO406; clear BK414; clear HB; have HO406 := n0_; have BK414 := n1_; have HB := n2_; clear n0_ n1_ n2_; (try clear hb); (try clear hb2); (try clear hk); (try clear hi); obtain ⟨Ao25, co25, eo25⟩ := Kd.R_slice HO406.out; subst eo25; have hcz26_0 : w24.cell? ⟨gb414, 0, none⟩ = some (.int .i64 t411) := (blk_cell BK414.out 0).trans rfl; have hcz26_1 : w24.cell? ⟨gb414, 1, none⟩ = some (.string t412) := (blk_cell BK414.out 1).trans rfl; have hfz26_0 := blk_frozen BK414.out 0; have hfz26_1 := blk_frozen BK414.out 1))
                    go_ret
                    exact ⟨by first | rfl | (simp [errW_none, errW_some] <;> rfl) | (simp [*, errW_none, errW_some] <;> rfl), by repeat (first | (with_reducible first | exact HB.out | apply below_alloc | apply pw_below_drewN | apply below_drew1 | refine below_set ?_ GE414.out) | exact HB.out)⟩
                  · rw [if_neg c17] at H
                    have c17b0 : (t413 == 0) = false := beq_eq_false_iff_ne.mpr c17
                    have c17b1 : (t413 != 0) = true := bne_iff_ne.mpr c17
                    obtain rfl := Option.some.inj H
                    exact absurd hr_.out (by decide)
                · rw [if_neg c16] at H
                  have c16b0 : (t410 == 0) = false := beq_eq_false_iff_ne.mpr c16
                  have c16b1 : (t410 != 0) = true := bne_iff_ne.mpr c16
                  obtain rfl := Option.some.inj H
                  exact absurd hr_.out (by decide)
              · rw [if_neg c15] at H
                have c15b0 : (t408 == 7) = false := beq_eq_false_iff_ne.mpr c15
                have c15b1 : (t408 != 7) = true := bne_iff_ne.mpr c15
                obtain rfl := Option.some.inj H
                exact absurd hr_.out (by decide)
            · rw [if_neg c14] at H
              have c14b0 : (t404 == 1024) = false := beq_eq_false_iff_ne.mpr c14
              have c14b1 : (t404 != 1024) = true := bne_iff_ne.mpr c14
              obtain rfl := Option.some.inj H
              exact absurd hr_.out (by decide)
          · rw [if_neg c13] at H
            have c13b0 : ((t403.length : Int) == 64) = false := beq_eq_false_iff_ne.mpr c13
            have c13b1 : ((t403.length : Int) != 64) = true := bne_iff_ne.mpr c13
            obtain rfl := Option.some.inj H
            exact absurd hr_.out (by decide)
        · replace c12 := Bool.eq_false_iff.mpr c12
          subst c12
          have H1 : (some false) = some r := by rw [if_neg (show ¬ (false = true) by decide)] at H; exact H
          clear H
          have H := H1
          clear H1
          obtain rfl := Option.some.inj H
          exact absurd hr_.out (by decide)

/-- THE ONE PURE STATEMENT of railplanlaw41_StoreFull: yours. -/
def railplanlaw41_StoreFull.Pure : Prop := ∀ (a0 : Int), (Lit.int .i64 a0).wf = true → ∃ k, railplanlaw41_StoreFull.f k a0 = some true
theorem railplanlaw41_StoreFull.walk (P : railplanlaw41_StoreFull.Pure) (a0 : Int) (w : World) (w0 : (Lit.int .i64 a0).wf = true) :
    Calls Try.prog 10 #[.int .i64 a0] w fun e w' => e = .returned (.bool true) ∧ Below w.heap.size w w' := by
  obtain ⟨k, h⟩ := P a0 w0
  refine (railplanlaw41_StoreFull.calls k a0 true w ⟨rfl⟩ h).mono ?_
  rintro e w' ⟨rfl, hd⟩
  exact ⟨rfl, hd⟩

end Go.Proofs.Ytolckgeffmaakaa.X
