/- strings.SplitSeq at the separator "\n": the pieces, and that its iterator gives them. -/
import Derived.RangeFuncNested
import Derived.RangeFuncBound
import Derived.RangeFuncCalls
import Derived.RangeFuncLeaves
import Derived.Shelf.Abstract
import Derived.Shelf.RegionOpen
import Derived.WalkKit
import Derived.OwnWalkIn
import Derived.TacticsInMore
import Derived.LoopNIn
import Derived.LoopIn
import Derived.Test.YtnmbljpifadipaaDoorQLaid
import Derived.Test.YtnmbljpifadipaaDoorQRangeBox
namespace Go.Proofs.YtnmbljpifadipaaDoor.X
open Go Go.RowKit Go.Shelf Go.Proofs.YtnmbljpifadipaaDoorW Go.Proofs.YtnmbljpifadipaaDoorW.PrintWords Go.Proofs.YtnmbljpifadipaaDoorW.PrintLast Go.Proofs.YtnmbljpifadipaaDoorW.PrintMore
attribute [local go_sem] Oper.semAt_some
set_option linter.unusedVariables false
set_option linter.unusedSimpArgs false
--BODY
/-- The lines of a text (m: at least its length). -/
def pcs : Nat → ByteArray → List ByteArray
  | 0, s => [s]
  | m + 1, s => if Lib.indexByte s.data.toList 10 < 0 then [s] else s.extract 0 (Lib.indexByte s.data.toList 10).toNat :: pcs m (s.extract (Lib.indexByte s.data.toList 10 + 1).toNat s.size)
theorem pcs_none {m : Nat} {s : ByteArray} (h : Lib.indexByte s.data.toList 10 < 0) : pcs m s = [s] := by
  cases m with
  | zero => rfl
  | succ m => unfold pcs; rw [if_pos h]
theorem wid (x : Int) (h1 : -9223372036854775808 ≤ x) (h2 : x ≤ 9223372036854775807) : IntKind.i64.wrap x = x := by
  rw [i64_w]; unfold wrap64; omega
theorem ib_lt (s : ByteArray) : Lib.indexByte s.data.toList 10 < (s.size : Int) := by
  have h : ∀ l : List UInt8, Lib.indexByte l 10 < (l.length : Int) := by
    intro l
    induction l with
    | nil => simp [Lib.indexByte]
    | cons b l ih =>
      unfold Lib.indexByte
      rw [List.length_cons]
      split
      · omega
      · split
        · omega
        · omega
  have := h s.data.toList
  rw [Array.length_toList] at this
  exact this
set_option maxRecDepth 100000 in
set_option maxHeartbeats 1000000 in
theorem split_in (n : Nat) (hn : 1 ≤ n) (l bs bp bz : Nat) (s0 : ByteArray) (xs : List ByteArray) (hxs : pcs s0.size s0 = xs) (hmax : s0.size ≤ 65536) (h01 : bs ≠ bp) (h02 : bs ≠ bz) (Kp : World → World → Prop)
    (hKp : ∀ W W', Kp W W' → W'.heap[bs]? = W.heap[bs]? ∧ W'.heap[bp]? = W.heap[bp]? ∧ W'.heap[bz]? = W.heap[bz]?) (J Jx : List ByteArray → World → Prop)
    (hJ : ∀ p W v, J p W → J p (W.setCell ⟨bs, 0, none⟩ v))
    (hY : ∀ pre x W, J pre W → pre ++ [x] <+: xs → YieldAt Fence.wide (n - 1) Tryd.prog l #[.string x] W fun e W' =>
      (e = .returned (.bool true) ∧ J (pre ++ [x]) W' ∧ Kp W W') ∨ (e = .returned (.bool false) ∧ Jx (pre ++ [x]) W'))
    (W : World) (b1 : Boxed W bs 9 (.string s0)) (b2 : Boxed W bp 9 (.string ⟨#[10]⟩)) (b3 : Boxed W bz 3 (.int .i64 0)) (h0 : J [] W) :
    CallsIn Fence.wide n Tryd.prog 53 #[.func (.yield l) #[] #[], .pointer (some ⟨bp, 0, none⟩), .pointer (some ⟨bs, 0, none⟩), .pointer (some ⟨bz, 0, none⟩)] W fun e W' => (∃ v, e = .returned v) ∧
      (J xs W' ∨ ∃ pre, pre <+: xs ∧ Jx pre W') := by
  refine callsIn_of_wp Tryd.func53 rfl trivial ?_ rfl
  simp only [Tryd.ntmps53, List.size_toArray, List.length_cons, List.length_nil, Nat.reduceAdd, Nat.reduceSub, Array.replicate_succ, Array.replicate_zero, List.push_toArray, List.append_toArray, List.nil_append, List.cons_append]
  have c2 := b2.cell
  gi_wp2
  gi_loopw [7] (fun v7 wr => ∃ (pre : List ByteArray) (rest : ByteArray) (m : Nat), xs = pre ++ pcs m rest ∧ rest.size ≤ m ∧ rest.size ≤ 65536 ∧ Boxed wr bs 9 (.string rest) ∧ Boxed wr bp 9 (.string ⟨#[10]⟩) ∧ Boxed wr bz 3 (.int .i64 0) ∧ J pre wr)
    (fun _ wr => match wr.cell? ⟨bs, 0, none⟩ with | some (.string s) => s.size | _ => 0)
  case atStart => exact ⟨[], s0, s0.size, hxs.symm, Nat.le_refl _, hmax, b1, b2, b3, h0⟩
  case round =>
    obtain ⟨pre, rest, m, hx, hm, hr, b1, b2, b3, hJs⟩ := hrel
    have c1 := b1.cell
    have hcw := c1
    have c2 := b2.cell
    have c3 := b3.cell
    have f1 := b1.frozen
    have hI : ∀ W, CallsIn Fence.wide (n - 1) Tryd.prog 55 #[.string rest, .string ⟨#[10]⟩] W fun e w' => e = .returned (.int .i64 (Lib.indexByte rest.data.toList 10)) ∧ w' = W := fun W => callsIn_wide.2 (Tryd.strings_Index_one rest 10 W)
    obtain ⟨i, hi⟩ : ∃ i : Int, Lib.indexByte rest.data.toList 10 = i := ⟨_, rfl⟩
    have hlt := ib_lt rest
    rw [hi] at hlt
    simp only [hi] at hI
    by_cases c : i < 0
    · have cb : decide (i < 0) = true := decide_eq_true c
      rw [pcs_none (by rw [hi]; exact c)] at hx
      obtain ⟨fn, tmps, assign, body, hy, hR⟩ := hY pre rest _ hJs ⟨[], by rw [hx]; simp⟩
      gi_wp2_with (refine ⟨trivial, ?_⟩; gi_at_call 55; refine (hI _).mono ?_; rintro e w' ⟨rfl, rfl⟩)
      refine hR.mono ?_
      rintro e W3 (⟨rfl, hJ3, hk3⟩ | ⟨rfl, hJx3⟩)
      · gi_wp2
        go_end0
        exact ⟨⟨_, rfl⟩, .inl (by rw [hx]; exact hJ3)⟩
      · gi_wp2
        go_end0
        exact ⟨⟨_, rfl⟩, .inr ⟨pre ++ [rest], by rw [hx]; exact List.prefix_refl _, hJx3⟩⟩
    · have cb : decide (i < 0) = false := decide_eq_false c
      cases m with
      | zero => exact absurd hlt (by omega)
      | succ m =>
        have hp : pcs (m + 1) rest = rest.extract 0 i.toNat :: pcs m (rest.extract (i + 1).toNat rest.size) := by
          conv => lhs; unfold pcs
          rw [hi, if_neg c]
        rw [hp] at hx
        have hw1 : IntKind.i64.wrap i = i := wid _ (by omega) (by omega)
        have hw2 : IntKind.i64.wrap (i + 1) = i + 1 := wid _ (by omega) (by omega)
        obtain ⟨fn, tmps, assign, body, hy, hR⟩ := hY pre (rest.extract 0 i.toNat) _ hJs ⟨pcs m (rest.extract (i + 1).toNat rest.size), by rw [hx]; simp⟩
        have s1 : 0 ≤ i := by omega
        have s2 : i ≤ (rest.size : Int) := by omega
        have s3 : 0 ≤ i + 1 := by omega
        have s4 : i + 1 ≤ (rest.size : Int) := by omega
        gi_wp2_with (refine ⟨trivial, ?_⟩; gi_at_call 55; refine (hI _).mono ?_; rintro e w' ⟨rfl, rfl⟩)
        refine hR.mono ?_
        rintro e W3 (⟨rfl, hJ3, hk3⟩ | ⟨rfl, hJx3⟩)
        · obtain ⟨k1, k2, k3⟩ := hKp _ _ hk3
          have b1 : Boxed W3 bs 9 (.string rest) := k1.trans b1
          have b2 : Boxed W3 bp 9 (.string ⟨#[10]⟩) := k2.trans b2
          have b3 : Boxed W3 bz 3 (.int .i64 0) := k3.trans b3
          have c1 := b1.cell
          have c2 := b2.cell
          have f1 := b1.frozen
          gi_wp2
          go_roundw
          case rel => exact ⟨pre ++ [rest.extract 0 i.toNat], rest.extract (i + 1).toNat rest.size, m, by rw [hx]; simp, by rw [ByteArray.size_extract]; omega, by rw [ByteArray.size_extract]; omega, b1.set _, b2.kept (grownBy_setCell' _ _ _) (fun e => h01 (by injection e with e; exact e.symm)), b3.kept (grownBy_setCell' _ _ _) (fun e => h02 (by injection e with e; exact e.symm)), hJ _ _ _ hJ3⟩
          case measure =>
            rw [(b1.set (.string (rest.extract (i + 1).toNat rest.size))).cell, hcw]
            simp only [ByteArray.size_extract]
            omega
        · gi_wp2
          refine bodyPost_ret (results_none rfl _ _ _) rfl ?_
          exact ⟨⟨_, rfl⟩, .inr ⟨pre ++ [rest.extract 0 i.toNat], ⟨pcs m (rest.extract (i + 1).toNat rest.size), by rw [hx]; simp⟩, hJx3⟩⟩
/-- The three boxes that strings.SplitSeq lays. -/
def splitWorld (s : ByteArray) (w : World) : World := ((w.alloc (.cells #[.string s] 9)).alloc (.cells #[.string ⟨#[10]⟩] 9)).alloc (.cells #[.int .i64 0] 3)
set_option maxHeartbeats 1000000 in
theorem split_c0 (s : ByteArray) (w : World) :
    Calls Tryd.prog 44 #[.string s, .string ⟨#[10]⟩, .int .i64 0] w fun e w' => e = .returned (.func (.func 53) #[] #[.pointer (some ⟨w.heap.size + 1, 0, none⟩), .pointer (some ⟨w.heap.size, 0, none⟩), .pointer (some ⟨w.heap.size + 2, 0, none⟩)]) ∧ w' = splitWorld s w := by
  go_enter Tryd.func44, Tryd.ntmps44
  go_wp2
  go_ret
  exact ⟨by simp, rfl⟩
set_option maxHeartbeats 1000000 in
theorem split_c (s : ByteArray) (w : World) :
    Calls Tryd.prog 28 #[.string s, .string ⟨#[10]⟩] w fun e w' => e = .returned (.func (.func 53) #[] #[.pointer (some ⟨w.heap.size + 1, 0, none⟩), .pointer (some ⟨w.heap.size, 0, none⟩), .pointer (some ⟨w.heap.size + 2, 0, none⟩)]) ∧ w' = splitWorld s w := by
  go_enter Tryd.func28, Tryd.ntmps28
  go_wp2_with (go_at_call 44; refine (split_c0 s _).mono ?_; rintro e w' ⟨rfl, rfl⟩)
  go_ret
  exact ⟨rfl, rfl⟩
end Go.Proofs.YtnmbljpifadipaaDoor.X
