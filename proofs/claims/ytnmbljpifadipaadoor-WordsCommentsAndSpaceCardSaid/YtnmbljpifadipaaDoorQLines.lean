/- words.Lines: what it answers, and that the call comes to it. -/
import Derived.RangeFuncNested
import Derived.RangeFuncBound
import Derived.RangeFuncCalls
import Derived.RangeFuncLeaves
import Derived.Shelf.Abstract
import Derived.Shelf.RegionOpen
import Derived.WalkKit
import Derived.OwnWalkIn
import Derived.TacticsInMore
import Derived.LoopNIn
import Derived.LoopIn
import Derived.Maps.AppendAt
import Derived.Maps.OwnIn
import Derived.Test.YtnmbljpifadipaaDoorQLaid
import Derived.Test.YtnmbljpifadipaaDoorQLine
import Derived.Test.YtnmbljpifadipaaDoorQRangeBox
import Derived.Test.YtnmbljpifadipaaDoorQSplit
namespace Go.Proofs.YtnmbljpifadipaaDoor.X
open Go Go.RowKit Go.Shelf Go.Proofs.YtnmbljpifadipaaDoorW Go.Proofs.YtnmbljpifadipaaDoorW.PrintWords Go.Proofs.YtnmbljpifadipaaDoorW.PrintLast Go.Proofs.YtnmbljpifadipaaDoorW.PrintMore
attribute [local go_sem] Oper.semAt_some
set_option linter.unusedVariables false
set_option linter.unusedSimpArgs false
--BODY
def words_Lines.go : Nat → List ByteArray → Int → List (List (S32)) → Option ((List (List (S32))) × Int × Int)
  | _, [], _, outs => some (outs, 0, 0)
  | k, p :: ps, num, outs =>
    if p.size < 4294967281 then
      (words_line.f k (cutS p ⟨#[35]⟩).1 (wrap64 (num + 1))).bind fun b =>
        if b.2 = 0 then (if 0 < (b.1.length : Int) then (if outs.length < 4398046511104 then words_Lines.go k ps (wrap64 (num + 1)) (outs ++ [b.1]) else none) else words_Lines.go k ps (wrap64 (num + 1)) outs)
        else some (([] : List (List (S32))), wrap64 (num + 1), b.2)
    else none
def words_Lines.f (k : Nat) (a0 : ByteArray) : Option ((List (List (S32))) × Int × Int) := if (a0.size : Int) > 65536 then some (([] : List (List (S32))), 0, 7) else words_Lines.go k (pcs a0.size a0) 0 []
theorem words_Lines.mono_go (k : Nat) : ∀ ps num outs, LeO (words_Lines.go k ps num outs) (words_Lines.go (k + 1) ps num outs) := by
  intro ps
  induction ps with
  | nil => intro num outs; exact LeO.refl _
  | cons p ps ih =>
    intro num outs
    unfold words_Lines.go
    exact LeO.ite (LeO.bind (words_line.mono _ _ _) (fun _ => LeO.ite (LeO.ite (LeO.ite (ih _ _) (LeO.none _)) (ih _ _)) (LeO.refl _))) (LeO.none _)
theorem words_Lines.mono : ∀ a0 k, LeO (words_Lines.f k a0) (words_Lines.f (k + 1) a0) := by
  intro a0 k
  unfold words_Lines.f
  exact LeO.ite (LeO.refl _) (words_Lines.mono_go _ _ _ _)
theorem below_putObj {W : World} {B l : Nat} (o : Obj) (h : B ≤ l) : Below B W (W.putObj l o) := ⟨rfl, rfl, rfl, by simp, fun k hk => World.putObj_heap_other (by omega)⟩
theorem S_keep {α : Type} {d : Kd α} {e : Nat} {W W' : World} {base : Nat} {ok : Nat → Prop} {v : Value} {xs : List α} (h : Kd.S d e W base ok v xs)
    (hm : ∀ (k q : Nat) (cells : Array Value), q ∈ e :: d.E → W.heap[k]? = some (Obj.cells cells q (0, 0)) → W'.heap[k]? = W.heap[k]?) : Kd.S d e W' base ok v xs :=
  Kd.S_mono (Kd.S_move (Kd.S_bound h) (fun k hk => by obtain ⟨_, _, _, q, hq, cells, hc⟩ := hk; exact hm k q cells hq hc)) (fun _ hk => hk.1)
theorem S_own {α : Type} {d : Kd α} {e : Nat} {W W' : World} {base : Nat} {ok : Nat → Prop} {v : Value} {xs : List α} {row : Option Nat} (h : Kd.S d e W base ok v xs)
    (hg : W.grownBy W' row) (hr : ∀ r, row = some r → ∃ o : Obj, W.heap[r]? = some o ∧ o.isCells = false) : Kd.S d e W' base ok v xs :=
  S_keep h (fun k q cells _ hc => hg.block k (Array.getElem?_eq_some_iff.1 hc).1 (fun e => by obtain ⟨o, ho, hn⟩ := hr k e.symm; rw [hc] at ho; cases ho; cases hn))
theorem S_box {α : Type} {d : Kd α} {e : Nat} {W : World} {base : Nat} {ok : Nat → Prop} {v : Value} {xs : List α} {b : Nat} {t : TypeId} {u : Value} (h : Kd.S d e W base ok v xs)
    (hb : Boxed W b t u) (ht : ∀ q, q ∈ e :: d.E → q ≠ t) (u' : Value) : Kd.S d e (W.setCell ⟨b, 0, none⟩ u') base ok v xs :=
  S_keep h (fun k q cells hq hc => Below.heap_setCell _ _ _ _ (fun e => ht _ hq (by have e' : k = b := e; subst e'; rw [show W.heap[k]? = _ from hb] at hc; cases hc; rfl)))
theorem boxed_row {W W' : World} {row : Option Nat} {b : Nat} {t : TypeId} {u : Value} (h : Boxed W b t u) (hg : W.grownBy W' row) (hr : ∀ r, row = some r → ∃ o : Obj, W.heap[r]? = some o ∧ o.isCells = false) : Boxed W' b t u :=
  h.kept hg (fun e => by obtain ⟨o, ho, hn⟩ := hr b e.symm; rw [show W.heap[b]? = _ from h] at ho; cases ho; cases hn)
theorem boxed_far {W : World} {b c : Nat} {t : TypeId} {u : Value} (h : Boxed W b t u) (hne : b ≠ c) (x : Value) : Boxed (W.setCell ⟨c, 0, none⟩ x) b t u :=
  (Below.heap_setCell _ _ _ _ hne).trans h
theorem boxed_below {W W' : World} {b : Nat} {t : TypeId} {u : Value} (h : Boxed W b t u) (hb : Below W.heap.size W W') : Boxed W' b t u := (hb.block b h.lt).trans h
/-- The blocks of words.Lines, as the loop begins. -/
structure LBox (N : Nat) (vo vs : Value) (num : Int) (r1 : Value) (r2 r3 : Int) (W : World) : Prop where
  b2 : Boxed W N 22 r1
  b3 : Boxed W (N + 1) 3 (.int .i64 r2)
  b4 : Boxed W (N + 1 + 1) 23 (.int .i64 r3)
  b5 : Boxed W (N + 1 + 1 + 1) 22 vo
  b6 : Boxed W (N + 1 + 1 + 1 + 1) 3 (.int .i64 num)
  b7 : Boxed W (N + 1 + 1 + 1 + 1 + 1) 9 vs
theorem LBox.row {N : Nat} {vo vs : Value} {num : Int} {r1 : Value} {r2 r3 : Int} {W W' : World} {row : Option Nat} (h : LBox N vo vs num r1 r2 r3 W) (hg : W.grownBy W' row) (hr : ∀ r, row = some r → ∃ o : Obj, W.heap[r]? = some o ∧ o.isCells = false) : LBox N vo vs num r1 r2 r3 W' :=
  ⟨boxed_row h.b2 hg hr, boxed_row h.b3 hg hr, boxed_row h.b4 hg hr, boxed_row h.b5 hg hr, boxed_row h.b6 hg hr, boxed_row h.b7 hg hr⟩
theorem LBox.below {N : Nat} {vo vs : Value} {num : Int} {r1 : Value} {r2 r3 : Int} {W W' : World} (h : LBox N vo vs num r1 r2 r3 W) (hb : Below W.heap.size W W') : LBox N vo vs num r1 r2 r3 W' :=
  ⟨boxed_below h.b2 hb, boxed_below h.b3 hb, boxed_below h.b4 hb, boxed_below h.b5 hb, boxed_below h.b6 hb, boxed_below h.b7 hb⟩
theorem LBox.set7 {N : Nat} {vo vs : Value} {num : Int} {r1 : Value} {r2 r3 : Int} {W : World} (h : LBox N vo vs num r1 r2 r3 W) (x : Value) : LBox N vo x num r1 r2 r3 (W.setCell ⟨N + 1 + 1 + 1 + 1 + 1, 0, none⟩ x) :=
  ⟨boxed_far h.b2 (by omega) _, boxed_far h.b3 (by omega) _, boxed_far h.b4 (by omega) _, boxed_far h.b5 (by omega) _, boxed_far h.b6 (by omega) _, h.b7.set _⟩
theorem LBox.set6 {N : Nat} {vo vs : Value} {num : Int} {r1 : Value} {r2 r3 : Int} {W : World} (h : LBox N vo vs num r1 r2 r3 W) (x : Int) : LBox N vo vs x r1 r2 r3 (W.setCell ⟨N + 1 + 1 + 1 + 1, 0, none⟩ (.int .i64 x)) :=
  ⟨boxed_far h.b2 (by omega) _, boxed_far h.b3 (by omega) _, boxed_far h.b4 (by omega) _, boxed_far h.b5 (by omega) _, h.b6.set _, boxed_far h.b7 (by omega) _⟩
theorem LBox.set5 {N : Nat} {vo vs : Value} {num : Int} {r1 : Value} {r2 r3 : Int} {W : World} (h : LBox N vo vs num r1 r2 r3 W) (x : Value) : LBox N x vs num r1 r2 r3 (W.setCell ⟨N + 1 + 1 + 1, 0, none⟩ x) :=
  ⟨boxed_far h.b2 (by omega) _, boxed_far h.b3 (by omega) _, boxed_far h.b4 (by omega) _, h.b5.set _, boxed_far h.b6 (by omega) _, boxed_far h.b7 (by omega) _⟩
theorem LBox.set4 {N : Nat} {vo vs : Value} {num : Int} {r1 : Value} {r2 r3 : Int} {W : World} (h : LBox N vo vs num r1 r2 r3 W) (x : Int) : LBox N vo vs num r1 r2 x (W.setCell ⟨N + 1 + 1, 0, none⟩ (.int .i64 x)) :=
  ⟨boxed_far h.b2 (by omega) _, boxed_far h.b3 (by omega) _, h.b4.set _, boxed_far h.b5 (by omega) _, boxed_far h.b6 (by omega) _, boxed_far h.b7 (by omega) _⟩
theorem LBox.set3 {N : Nat} {vo vs : Value} {num : Int} {r1 : Value} {r2 r3 : Int} {W : World} (h : LBox N vo vs num r1 r2 r3 W) (x : Int) : LBox N vo vs num r1 x r3 (W.setCell ⟨N + 1, 0, none⟩ (.int .i64 x)) :=
  ⟨boxed_far h.b2 (by omega) _, h.b3.set _, boxed_far h.b4 (by omega) _, boxed_far h.b5 (by omega) _, boxed_far h.b6 (by omega) _, boxed_far h.b7 (by omega) _⟩
theorem LBox.set2 {N : Nat} {vo vs : Value} {num : Int} {r1 : Value} {r2 r3 : Int} {W : World} (h : LBox N vo vs num r1 r2 r3 W) (x : Value) : LBox N vo vs num x r2 r3 (W.setCell ⟨N, 0, none⟩ x) :=
  ⟨h.b2.set _, boxed_far h.b3 (by omega) _, boxed_far h.b4 (by omega) _, boxed_far h.b5 (by omega) _, boxed_far h.b6 (by omega) _, boxed_far h.b7 (by omega) _⟩
theorem LBox.drew {N : Nat} {vo vs : Value} {num : Int} {r1 : Value} {r2 r3 : Int} {W : World} (h : LBox N vo vs num r1 r2 r3 W) : LBox N vo vs num r1 r2 r3 W.drew := ⟨h.b2, h.b3, h.b4, h.b5, h.b6, h.b7⟩
/-- The world where the loop begins. -/
def linesWorld (a0 : ByteArray) (w : World) : World := splitWorld a0 (((((w.alloc (.cells #[.slice none 0 0] 22)).alloc (.cells #[.int .i64 0] 3)).alloc (.cells #[.int .i64 0] 23)).alloc (.cells #[.slice none 0 0] 22)).alloc (.cells #[.int .i64 0] 3))
theorem lines_size (a0 : ByteArray) (w : World) : (linesWorld a0 w).heap.size = w.heap.size + 8 := by simp [linesWorld, splitWorld]
theorem lines_below (a0 : ByteArray) (w : World) : Below w.heap.size w (linesWorld a0 w) := by
  unfold linesWorld splitWorld
  repeat (first | exact Below.refl _ _ | (refine Below.alloc ?_ (by first | exact Nat.le_refl _ | (simp only [World.size_alloc]; omega)) _))
theorem lines_box (a0 : ByteArray) (w : World) : LBox w.heap.size (.slice none 0 0) (.string a0) 0 (.slice none 0 0) 0 0 (linesWorld a0 w) := by
  have n0 := Boxed.new w 22 (.slice none 0 0)
  have n1 := Boxed.new (w.alloc (.cells #[.slice none 0 0] 22)) 3 (.int .i64 0)
  have n2 := Boxed.new ((w.alloc (.cells #[.slice none 0 0] 22)).alloc (.cells #[.int .i64 0] 3)) 23 (.int .i64 0)
  have n3 := Boxed.new (((w.alloc (.cells #[.slice none 0 0] 22)).alloc (.cells #[.int .i64 0] 3)).alloc (.cells #[.int .i64 0] 23)) 22 (.slice none 0 0)
  have n4 := Boxed.new ((((w.alloc (.cells #[.slice none 0 0] 22)).alloc (.cells #[.int .i64 0] 3)).alloc (.cells #[.int .i64 0] 23)).alloc (.cells #[.slice none 0 0] 22)) 3 (.int .i64 0)
  have n5 := Boxed.new (((((w.alloc (.cells #[.slice none 0 0] 22)).alloc (.cells #[.int .i64 0] 3)).alloc (.cells #[.int .i64 0] 23)).alloc (.cells #[.slice none 0 0] 22)).alloc (.cells #[.int .i64 0] 3)) 9 (.string a0)
  simp only [World.size_alloc] at n1 n2 n3 n4 n5
  unfold linesWorld splitWorld
  exact ⟨(((((((n0.alloc _).alloc _).alloc _).alloc _).alloc _).alloc _).alloc _), ((((((n1.alloc _).alloc _).alloc _).alloc _).alloc _).alloc _), (((((n2.alloc _).alloc _).alloc _).alloc _).alloc _), ((((n3.alloc _).alloc _).alloc _).alloc _), (((n4.alloc _).alloc _).alloc _), ((n5.alloc _).alloc _)⟩
theorem lines_sep (a0 : ByteArray) (w : World) : Boxed (linesWorld a0 w) (w.heap.size + 6) 9 (.string ⟨#[10]⟩) ∧ Boxed (linesWorld a0 w) (w.heap.size + 7) 3 (.int .i64 0) := by
  have n6 := Boxed.new ((((((w.alloc (.cells #[.slice none 0 0] 22)).alloc (.cells #[.int .i64 0] 3)).alloc (.cells #[.int .i64 0] 23)).alloc (.cells #[.slice none 0 0] 22)).alloc (.cells #[.int .i64 0] 3)).alloc (.cells #[.string a0] 9)) 9 (.string ⟨#[10]⟩)
  have n7 := Boxed.new (((((((w.alloc (.cells #[.slice none 0 0] 22)).alloc (.cells #[.int .i64 0] 3)).alloc (.cells #[.int .i64 0] 23)).alloc (.cells #[.slice none 0 0] 22)).alloc (.cells #[.int .i64 0] 3)).alloc (.cells #[.string a0] 9)).alloc (.cells #[.string ⟨#[10]⟩] 9)) 3 (.int .i64 0)
  simp only [World.size_alloc] at n6 n7
  unfold linesWorld splitWorld
  exact ⟨n6.alloc _, n7⟩
/-- What the rounds keep for the iterator: its three boxes. -/
def LKp (N : Nat) (W W' : World) : Prop := ∀ b, N + 5 ≤ b → b < N + 8 → W'.heap[b]? = W.heap[b]?
/-- Between two rounds. -/
def LInv (k : Nat) (w : World) (ps : List ByteArray) (r : List (List (S32)) × Int × Int) (pre : List ByteArray) (W : World) : Prop :=
  ∃ (num : Int) (outs : List (List (S32))) (v vs : Value), LBox w.heap.size v vs num (.slice none 0 0) 0 0 W ∧ Kd.S (Kd.slice 32 k32) 33 W w.heap.size (fun k_ => w.heap.size + 8 ≤ k_) v outs ∧ (∀ rest, ps = pre ++ rest → words_Lines.go k rest num outs = some r) ∧ w.heap.size + 8 ≤ W.heap.size ∧ Below w.heap.size w W
/-- A round has returned. -/
def LOut (w : World) (r : List (List (S32)) × Int × Int) (c : Code) (W : World) : Prop :=
  c = .ret ∧ r.1 = [] ∧ (∃ v vs num, LBox w.heap.size v vs num (.slice none 0 0) r.2.1 r.2.2 W) ∧ Below w.heap.size w W
theorem ko_below {W W' : World} (hb : Below W.heap.size W W') : KeepsOthers W W' := ⟨hb.size, fun k o hk _ => (hb.block k (Array.getElem?_eq_some_iff.1 hk).1).trans hk⟩
theorem LBox.keep {N : Nat} {vo vs : Value} {num : Int} {r1 : Value} {r2 r3 : Int} {W W' : World} (h : LBox N vo vs num r1 r2 r3 W) (hm : ∀ b t u, Boxed W b t u → t ≠ 33 → Boxed W' b t u) : LBox N vo vs num r1 r2 r3 W' :=
  ⟨hm _ _ _ h.b2 (by decide), hm _ _ _ h.b3 (by decide), hm _ _ _ h.b4 (by decide), hm _ _ _ h.b5 (by decide), hm _ _ _ h.b6 (by decide), hm _ _ _ h.b7 (by decide)⟩
theorem S_appendIn {α : Type} (d : Kd α) {F : Fence} {nF : Nat} {P : Program} {W : World} {ops : Array Oper} {rest : List Oper} {o : Oper} {a : Act} {Q : Exit → Act → World → Prop} (base : Nat) (hgd : o.guard = none) (s x : Operand) (t e : TypeId) (z : Value) (bytes : Nat)
    (ho : o.op = .call { callee := .builtin .append, args := #[s, x], argTypes := #[t, t] })
    (ht : P.underlying t = some (.slice e)) (hinfo : (P.info? e).map (fun i => (i.zero, i.size, i.bytes)) = some (some z, d.sz, bytes)) (hz : z.cells.size = d.sz) (hs0 : 0 < d.sz) (hb0 : 0 < bytes)
    (v : Value) (xs : List α) (p : α) (cs : List Value) (ok okp : Nat → Prop) (hs : a.eval s = v) (hx : a.eval x = .slice (some ⟨W.heap.size, 0, none⟩) 1 1) (hp : d.M W base okp p cs) (hokp : ∀ k, okp k → ok k ∧ some k ≠ v.ownBlock) (hfresh : ∀ k, W.heap.size ≤ k → ok k)
    (HO : Kd.S d e W base (fun k => ok k ∧ ¬ okp k) v xs) (hbase : base ≤ W.heap.size) (hl : (xs.length + 1) * bytes ≤ 140737488355328)
    (h : ∀ v1 w1, Kd.S d e w1 base ok v1 (xs ++ [p]) → W.grownBy w1 v.ownBlock → (∃ g c, v1 = .slice (some ⟨g, 0, none⟩) (xs.length + 1) c) → wpListIn F nF P ops Q rest (a.put o.dst v1) w1) :
    wpListIn F nF P ops Q (o :: rest) a (W.alloc (.cells cs.toArray e)) := by
  obtain ⟨f, hf, hR⟩ := Kd.S_tag HO xs.length okp (fun _ hk h2 => h2.2 hk)
  obtain ⟨h0, inner, hown, hr⟩ := Kd.R_mono hR (fun _ hk => hk.1)
  have hp2 : (Kd.tag f d).M W base okp (p, xs.length) cs := d.M_mono (fun k hk => ⟨hk, hf k hk⟩) hp
  obtain ⟨i0, hi, hzz⟩ := Option.map_eq_some_iff.1 hinfo
  simp only [Prod.mk.injEq] at hzz
  obtain ⟨hz0, hz1, hz2⟩ := hzz
  rw [List.length_zipIdx] at hown
  have hlen : xs.length + 1 ≤ 140737488355328 := Nat.le_trans (Nat.le_mul_of_pos_right _ hb0) hl
  have hcl : cs.length = d.sz := d.K_len (d.K_of_M hp)
  refine Go.wpListIn_append_own_at (W.alloc (.cells cs.toArray e)) hgd s x t ho base e i0 z d.sz bytes ht hi hz0 hz1 hz2 hz hs0 v xs.length inner hs (hown.alloc _) ⟨W.heap.size, 0, none⟩ 1 1 cs hx (by rw [hcl]; simp)
    (by simpa using World.news_of_block (cs := cs.toArray) (t := e) (fr := (0, 0)) (heap_alloc_new W (.cells cs.toArray e))) (d.K_one (d.K_of_M hp)) (by simp only [maxLen]; omega) hl (by simp; omega) ?_
  intro v1 w1 hown1 hg _ hat
  have hg2 := World.grownBy.trans (World.grownBy_alloc W _ _) hg
  have hr1 := Kd.R_appended (d := Kd.tag f d) h0 hr hp2 hokp hfresh (by rw [List.length_zipIdx]; exact hown1) hg2 (by
    rcases hat with hat | hat
    · exact .inl hat
    · exact .inr ⟨_, hat, by simp⟩)
  rw [← Kd.zip_snoc] at hr1
  obtain ⟨g, c, hv1⟩ := ownsRow_succ hown1
  exact h v1 w1 ⟨f, hr1⟩ hg2 ⟨g, c, hv1⟩
theorem lines_app {N : Nat} {W1 W2 : World} {v : Value} {outs : List (List (S32))} (hs2 : Kd.S (Kd.slice 32 k32) 33 W1 N (fun k_ => N + 8 ≤ k_) v outs) (hbl2 : Below W1.heap.size W1 W2) (hz1 : N + 8 ≤ W1.heap.size) :
    Kd.S (Kd.slice 32 k32) 33 W2 N (fun k_ => N + 8 ≤ k_ ∧ ¬ W1.heap.size ≤ k_) v outs ∧ (∀ k_, W1.heap.size ≤ k_ → N + 8 ≤ k_ ∧ some k_ ≠ v.ownBlock) ∧ (∀ k_, v.ownBlock = some k_ → N + 8 ≤ k_) ∧ N + 8 ≤ W2.heap.size := by
  refine ⟨Kd.S_mono (Kd.S_below (Kd.S_bound hs2) hbl2) (fun k_ hk_ => ⟨hk_.1, by have := hk_.2.2.1; omega⟩), fun k_ hk_ => ⟨by omega, fun e_ => by have := Kd.S_lt hs2 k_ e_.symm; omega⟩, fun k_ e_ => ?_, Nat.le_trans hz1 hbl2.size⟩
  obtain ⟨f_, h0_, _⟩ := hs2
  exact h0_ k_ e_
set_option maxHeartbeats 8000000 in
set_option maxRecDepth 100000 in
theorem lines_long (a0 : ByteArray) (c1 : (a0.size : Int) > 65536) (w : World) :
    Calls Tryd.prog 13 #[.string a0] w fun e w' => e = .returned (.tuple #[.slice none 0 0, .int .i64 0, .int .i64 7]) ∧ Below w.heap.size w w' := by
  have c1b : decide (65536 < (a0.size : Int)) = true := decide_eq_true c1
  clear c1
  go_enter Tryd.func13, Tryd.ntmps13
  go_wp2
  refine bodyPost_ret (v := .tuple #[.slice none 0 0, .int .i64 0, .int .i64 7]) (by simp [results, Tryd.f13, go_sem]) rfl ?_
  refine ⟨rfl, ?_⟩
  repeat (first | exact Below.refl _ _ | (refine Below.alloc ?_ (by first | exact Nat.le_refl _ | (simp only [World.size_alloc]; omega)) _))
theorem linv_own (k : Nat) (w : World) (ps : List ByteArray) (r : List (List (S32)) × Int × Int) (B : Nat) (hB : w.heap.size ≤ B) : OwnFrom B (LInv k w ps r) := by
  rintro pre W W' row ⟨num, outs, v, vs, hb, hs, hg, hn, hw⟩ hgr hrow
  have h2 : ∀ r, row = some r → ∃ o : Obj, W.heap[r]? = some o ∧ o.isCells = false := fun r e => (hrow r e).2
  exact ⟨num, outs, v, vs, hb.row hgr h2, S_own hs hgr h2, hg, Nat.le_trans hn hgr.size, hw.grown hgr hw.size (fun j e => Nat.le_trans hB (hrow j e).1)⟩
theorem lout_own (w : World) (r : List (List (S32)) × Int × Int) (c : Code) (B : Nat) (hB : w.heap.size ≤ B) : OwnFrom B (fun (_ : List ByteArray) W => LOut w r c W) := by
  rintro pre W W' row ⟨hc, hr, ⟨v, vs, num, hb⟩, hw⟩ hgr hrow
  have h2 : ∀ r, row = some r → ∃ o : Obj, W.heap[r]? = some o ∧ o.isCells = false := fun r e => (hrow r e).2
  exact ⟨hc, hr, ⟨v, vs, num, hb.row hgr h2⟩, hw.grown hgr hw.size (fun j e => Nat.le_trans hB (hrow j e).1)⟩
theorem lines_E : (33 :: (Kd.slice 32 k32).E) = [33, 32] := rfl
theorem linv_box (k : Nat) (w : World) (ps : List ByteArray) (r : List (List (S32)) × Int × Int) (pre : List ByteArray) (W : World) (x : Value) (h : LInv k w ps r pre W) : LInv k w ps r pre (W.setCell ⟨w.heap.size + 1 + 1 + 1 + 1 + 1, 0, none⟩ x) := by
  obtain ⟨num, outs, v, vs, hb, hs, hg, hn, hw⟩ := h
  exact ⟨num, outs, v, x, hb.set7 x, S_box hs hb.b7 (by intro q hq; rw [lines_E] at hq; simp only [List.mem_cons, List.not_mem_nil, or_false] at hq; rcases hq with rfl | rfl <;> decide) x, hg, Nat.le_trans hn (KeepsOthers.setCell W _ x).size, hw.setCell (p := ⟨w.heap.size + 1 + 1 + 1 + 1 + 1, 0, none⟩) (by simp; omega) x⟩
theorem lout_box (w : World) (r : List (List (S32)) × Int × Int) (c : Code) (W : World) (x : Value) (h : LOut w r c W) : LOut w r c (W.setCell ⟨w.heap.size + 1 + 1 + 1 + 1 + 1, 0, none⟩ x) := by
  obtain ⟨hc, hr, ⟨v, vs, num, hb⟩, hw⟩ := h
  exact ⟨hc, hr, ⟨v, x, num, hb.set7 x⟩, hw.setCell (p := ⟨w.heap.size + 1 + 1 + 1 + 1 + 1, 0, none⟩) (by simp; omega) x⟩
set_option maxHeartbeats 8000000 in
set_option maxRecDepth 100000 in
theorem words_Lines.calls (k : Nat) (a0 : ByteArray) (r1 : List (List (S32))) (r2 : Int) (r3 : Int) (w : World) (hL_ : Aside0 (Laid w)) (h : words_Lines.f k a0 = some (r1, r2, r3)) :
    Calls Tryd.prog 13 #[.string a0] w fun e w' => ∃ v0_ : Value, e = .returned (.tuple #[v0_, .int .i64 r2, .int .i64 r3]) ∧ Kd.S (Kd.slice 32 k32) 33 w' w.heap.size (fun _ => True) v0_ r1 ∧ Below w.heap.size w w' := by
  unfold words_Lines.f at h
  by_cases c1 : (a0.size : Int) > 65536
  · rw [if_pos c1] at h
    simp only [Option.some.injEq, Prod.mk.injEq] at h
    obtain ⟨rfl, rfl, rfl⟩ := h
    refine (lines_long a0 c1 w).mono ?_
    rintro e w' ⟨rfl, hb⟩
    exact ⟨_, rfl, Kd.S_nil _ _ _ _ _, hb⟩
  · rw [if_neg c1] at h
    have c1b : decide (65536 < (a0.size : Int)) = false := decide_eq_false c1
    have C1 := Aside0.mk c1
    have H := Aside0.mk h
    clear h c1
    refine (callsIn_wide (n := 6)).1 ?_
    refine callsIn_of_wp_marks Tryd.func13 rfl trivial ?_ rfl
    simp only [Tryd.ntmps13, List.size_toArray, List.length_cons, List.length_nil, Nat.reduceAdd, Nat.reduceSub, Array.replicate_succ, Array.replicate_zero, List.push_toArray, List.append_toArray, List.nil_append, List.cons_append]
    gi_wp2_with (refine ⟨trivial, ?_⟩; gi_at_call 28; refine (callsIn_wide.2 (split_c a0 _)).mono ?_; rintro e w' ⟨rfl, rfl⟩)
    have hbx := lines_box a0 w
    have hsz := lines_size a0 w
    have hbl := lines_below a0 w
    obtain ⟨hsp, hsz7⟩ := lines_sep a0 w
    have hfold : splitWorld a0 (((((w.alloc (.cells #[.slice none 0 0] 22)).alloc (.cells #[.int .i64 0] 3)).alloc (.cells #[.int .i64 0] 23)).alloc (.cells #[.slice none 0 0] 22)).alloc (.cells #[.int .i64 0] 3)) = linesWorld a0 w := rfl
    rw [hfold]
    clear hfold
    generalize linesWorld a0 w = W0 at hbx hsz hbl hsp hsz7 ⊢
    obtain ⟨ps, hps⟩ : ∃ ps, pcs a0.size a0 = ps := ⟨_, rfl⟩
    have HG := H.out
    rw [hps] at HG
    clear H
    refine range_box (F := Fence.wide) rfl (by decide) (gf := 53) (lb := #[.pointer (some ⟨w.heap.size + 1 + 1 + 1 + 1 + 1 + 1, 0, none⟩), .pointer (some ⟨w.heap.size + 1 + 1 + 1 + 1 + 1, 0, none⟩), .pointer (some ⟨w.heap.size + 1 + 1 + 1 + 1 + 1 + 2, 0, none⟩)]) rfl trivial (enters_of Tryd.func53 (by kernel_rfl) rfl)
      (encs := fun x : ByteArray => #[Value.string x]) (Kp := LKp w.heap.size) (xs0 := ps) (w0 := W0) (w.heap.size + 1 + 1 + 1 + 1 + 1) (by omega)
      ?seq ?kt ?kb (Below.refl _ _) (fun _ => rfl) (LInv k w ps (r1, r2, r3)) (fun c _ W => LOut w (r1, r2, r3) c W) (linv_own _ _ _ _ _ (by omega)) (fun c => lout_own _ _ c _ (by omega))
      (fun s W v hs => linv_box _ _ _ _ _ _ _ hs) (fun c s W v hs => lout_box _ _ _ _ _ hs)
      ⟨0, [], _, _, hbx, Kd.S_nil _ _ _ _ _, fun rest e => by rw [List.nil_append] at e; subst e; exact HG, by omega, hbl⟩ ?a1 ?assign ?body ?done ?stop
    case seq =>
      intro l J Jx W hW hJ hJx hY h0
      refine split_in _ (by decide) l _ _ _ a0 ps hps (by have := C1.out; omega) (by omega) (by omega) (LKp w.heap.size) (fun A B hk => ⟨hk _ (by omega) (by omega), hk _ (by omega) (by omega), hk _ (by omega) (by omega)⟩) J Jx hJ hY W (boxed_below hbx.b7 hW) (boxed_below hsp hW) (boxed_below hsz7 hW) h0
    case kt => intro A B C h1 h2 b hb hb2; exact (h2 b hb hb2).trans (h1 b hb hb2)
    case kb => intro W l o o' hl _ _ _ b hb hb2; exact World.putObj_heap_other (by omega)
    case a1 => exact fun x => { tmps := #[Value.string a0, undef, Value.pointer (some { block := w.heap.size, off := 0 }), Value.pointer (some { block := w.heap.size + 1, off := 0 }), Value.pointer (some { block := w.heap.size + 1 + 1, off := 0 }), Value.pointer (some { block := w.heap.size + 1 + 1 + 1, off := 0 }), Value.pointer (some { block := w.heap.size + 1 + 1 + 1 + 1, off := 0 }), Value.string x, undef, undef, Value.string a0, Value.int IntKind.i64 ↑a0.size, Value.bool false, Value.string a0, Value.func (Fn.func 53) #[] #[Value.pointer (some { block := w.heap.size + 1 + 1 + 1 + 1 + 1 + 1, off := 0 }), Value.pointer (some { block := w.heap.size + 1 + 1 + 1 + 1 + 1, off := 0 }), Value.pointer (some { block := w.heap.size + 1 + 1 + 1 + 1 + 1 + 2, off := 0 })], Value.string x, undef, undef, undef, undef, undef, undef, undef, undef, undef, undef, undef, undef, undef, undef, undef, undef, undef, undef, undef, undef, undef, undef, undef, undef, undef, undef], defers := [] }
    case assign =>
      intro l x W K hK
      gi_wp2
      exact hK
    case body =>
      rintro l pre x W ⟨num, outs, v, vs, hb, hs, hg, hn, hw⟩ ⟨rest, hrest⟩
      have h2 := hg (x :: rest) (by rw [← hrest]; simp)
      clear hg
      unfold words_Lines.go at h2
      by_cases p : ¬ x.size < 4294967281
      · rw [if_neg p] at h2; cases h2
      replace p := Classical.not_not.mp p
      rw [if_pos p] at h2
      replace h2 := Option.bind_eq_some_iff.mp h2
      obtain ⟨⟨ws, er⟩, hl, h2⟩ := h2
      have HP := Aside0.mk p
      have HL := Aside0.mk hl
      have H2 := Aside0.mk h2
      clear p hl h2
      obtain ⟨cx, hcx⟩ : ∃ c, cutS x ⟨#[35]⟩ = c := ⟨_, rfl⟩
      have hb1 := hb.set6 (wrap64 (num + 1))
      have hw1 : Below w.heap.size w (W.setCell ⟨w.heap.size + 1 + 1 + 1 + 1, 0, none⟩ (.int .i64 (wrap64 (num + 1)))) := hw.setCell (p := ⟨w.heap.size + 1 + 1 + 1 + 1, 0, none⟩) (by simp; omega) _
      have hs1 := S_box hs hb.b6 (by intro q hq; rw [lines_E] at hq; simp only [List.mem_cons, List.not_mem_nil, or_false] at hq; rcases hq with rfl | rfl <;> decide) (.int .i64 (wrap64 (num + 1)))
      have cC := fun W1 (hL : Laid W1) => cut_c x ⟨#[35]⟩ HP.out W1 hL
      rw [hcx] at HL
      simp only [hcx] at cC
      have c6 := hb.b6.cell
      have f6 := hb.b6.frozen
      have hmx : Tryd.prog.follows .mixedOrders = true := by kernel_rfl
      by_cases ce : er = 0
      · have ceb : (er != 0) = false := bne_eq_false_iff_eq.mpr ce
        have h2 := H2.out
        rw [if_pos ce] at h2
        clear H2 ce
        by_cases cl : 0 < (ws.length : Int)
        · rw [if_pos cl] at h2
          have clb : decide (0 < (ws.length : Int)) = true := decide_eq_true cl
          have clb2 : decide (0 < ws.length) = true := decide_eq_true (by omega)
          have CL := Aside0.mk cl
          by_cases co : ¬ outs.length < 4398046511104
          · rw [if_neg co] at h2; cases h2
          replace co := Classical.not_not.mp co
          rw [if_pos co] at h2
          have CO : Aside0 ((outs.length + 1) * 24 ≤ 140737488355328) := ⟨by omega⟩
          have H2 := Aside0.mk h2
          clear cl h2 co
          gi_wp2_with (first | (refine ⟨trivial, ?_⟩; gi_at_call 29; refine (CallsIn.inRound l (callsIn_wide.2 (cC _ (hL_.out.below hw1)))).mono ?_; rintro e W1 ⟨rfl, hbl1⟩; have hb2 := hb1.below hbl1; have hs2 := Kd.S_below hs1 hbl1; have hw2 := below_step hw1 hbl1; have c62 := hb2.b6.cell) | (refine ⟨trivial, ?_⟩; gi_at_call 30; refine (CallsIn.inRound l (callsIn_wide.2 (words_line.calls k cx.1 (wrap64 (num + 1)) ws er _ HL.out))).mono ?_; rintro e W2 ⟨vw, rfl, how, hbl2⟩; have hb3 := hb2.below hbl2; have hs3 := Kd.S_below hs2 hbl2; have hw3 := below_step hw2 hbl2; have hz1 := Nat.le_trans hn (Nat.le_trans (KeepsOthers.setCell W ⟨w.heap.size + 1 + 1 + 1 + 1, 0, none⟩ (.int .i64 (wrap64 (num + 1)))).size hbl1.size); obtain ⟨hs4, hokp, hvo, hz2⟩ := lines_app hs2 hbl2 hz1; obtain ⟨Aw, cw, rfl⟩ := Kd.R_slice how; have c5 := hb3.b5.cell) | (gi_at_builtin; refine S_appendIn (Kd.slice 32 k32) w.heap.size rfl _ _ 22 33 (.slice none 0 0) 24 rfl Tryd.underlying22 info33 rfl (by decide) (by decide) v outs ws [.slice Aw ws.length cw] (fun k_ => w.heap.size + 8 ≤ k_) (fun k_ => W1.heap.size ≤ k_) rfl rfl ⟨_, rfl, Kd.R_lower (Kd.R_mono (Kd.R_bound how) (fun k_ hk_ => hk_.2.1)) hw2.size⟩ hokp (fun k_ hk_ => by omega) hs4 hw3.size CO.out ?_; intro v1 w1 hs5 hg1 hv1; obtain ⟨g1, cc1, rfl⟩ := hv1; have hb5 := hb3.keep (fun b t u hbx ht => hbx.kept hg1 (fun e_ => by obtain ⟨cl_, hcl_⟩ := Kd.S_typed hs3 b e_.symm; rw [show W2.heap[b]? = _ from hbx] at hcl_; cases hcl_; exact ht rfl)); have c5 := hb5.b5.cell; have f5 := hb5.b5.frozen))
          have hko : KeepsOthers W w1 := ((KeepsOthers.setCell W _ _).trans ((ko_below hbl1).trans (ko_below hbl2))).trans (KeepsOthers.of_grownBy hg1 fun j o ej hj => by obtain ⟨cl_, hcl_⟩ := Kd.S_typed hs3 j ej; rw [hj] at hcl_; cases hcl_; rfl)
          refine ⟨(hko.trans (KeepsOthers.setCell _ _ _)).from _, fun b q1 q2 => ?_, wrap64 (num + 1), outs ++ [ws], _, _, hb5.set5 _, S_box hs5 hb5.b5 (by intro q hq; rw [lines_E] at hq; simp only [List.mem_cons, List.not_mem_nil, or_false] at hq; rcases hq with rfl | rfl <;> decide) _, fun rest' e' => ?_, ?_, ?_⟩
          · exact (Below.heap_setCell _ _ _ _ (by simp; omega)).trans ((hg1.block b (by omega) (fun e_ => by have := hvo b e_.symm; omega)).trans ((hbl2.block b (by omega)).trans ((hbl1.block b (by have := (KeepsOthers.setCell W ⟨w.heap.size + 1 + 1 + 1 + 1, 0, none⟩ (.int .i64 (wrap64 (num + 1)))).size; omega)).trans (Below.heap_setCell _ _ _ _ (by simp; omega)))))
          · have e2 : rest = rest' := by rw [← hrest] at e'; exact List.append_cancel_left e'
            subst e2; exact H2.out
          · exact Nat.le_trans hn (hko.trans (KeepsOthers.setCell _ _ _)).size
          · exact (hw3.grown hg1 hw3.size (fun k_ e_ => by have := hvo k_ e_; omega)).setCell (p := ⟨w.heap.size + 1 + 1 + 1, 0, none⟩) (by simp; omega) _
        · rw [if_neg cl] at h2
          have clb : decide (0 < (ws.length : Int)) = false := decide_eq_false cl
          have clb2 : decide (0 < ws.length) = false := decide_eq_false (by omega)
          have H2 := Aside0.mk h2
          clear cl h2
          gi_wp2_with (first | (refine ⟨trivial, ?_⟩; gi_at_call 29; refine (CallsIn.inRound l (callsIn_wide.2 (cC _ (hL_.out.below hw1)))).mono ?_; rintro e W1 ⟨rfl, hbl1⟩; have hb2 := hb1.below hbl1; have hs2 := Kd.S_below hs1 hbl1; have hw2 := below_step hw1 hbl1; have c62 := hb2.b6.cell) | (refine ⟨trivial, ?_⟩; gi_at_call 30; refine (CallsIn.inRound l (callsIn_wide.2 (words_line.calls k cx.1 (wrap64 (num + 1)) ws er _ HL.out))).mono ?_; rintro e W2 ⟨vw, rfl, how, hbl2⟩; have hb3 := hb2.below hbl2; have hs3 := Kd.S_below hs2 hbl2; have hw3 := below_step hw2 hbl2; obtain ⟨Aw, cw, rfl⟩ := Kd.R_slice how))
          have hko : KeepsOthers W W2 := (KeepsOthers.setCell W _ _).trans ((ko_below hbl1).trans (ko_below hbl2))
          refine ⟨hko.from _, fun b q1 q2 => ?_, wrap64 (num + 1), outs, _, _, hb3, hs3, fun rest' e' => ?_, ?_, hw3⟩
          · have hz0 := (KeepsOthers.setCell W ⟨w.heap.size + 1 + 1 + 1 + 1, 0, none⟩ (.int .i64 (wrap64 (num + 1)))).size
            have hz1 := hbl1.size
            exact (hbl2.block b (by omega)).trans ((hbl1.block b (by omega)).trans (Below.heap_setCell _ _ _ _ (by simp; omega)))
          · have e2 : rest = rest' := by rw [← hrest] at e'; exact List.append_cancel_left e'
            subst e2; exact H2.out
          · exact Nat.le_trans hn hko.size
      · have ceb : (er != 0) = true := bne_iff_ne.mpr ce
        have h2 := H2.out
        rw [if_neg ce] at h2
        clear H2 ce
        simp only [Option.some.injEq, Prod.mk.injEq] at h2
        obtain ⟨rfl, rfl, rfl⟩ := h2
        gi_wp2_with (first | (refine ⟨trivial, ?_⟩; gi_at_call 29; refine (CallsIn.inRound l (callsIn_wide.2 (cC _ (hL_.out.below hw1)))).mono ?_; rintro e W1 ⟨rfl, hbl1⟩; have hb2 := hb1.below hbl1; have hs2 := Kd.S_below hs1 hbl1; have hw2 := below_step hw1 hbl1; have c62 := hb2.b6.cell) | (refine ⟨trivial, ?_⟩; gi_at_call 30; refine (CallsIn.inRound l (callsIn_wide.2 (words_line.calls k cx.1 (wrap64 (num + 1)) ws er _ HL.out))).mono ?_; rintro e W2 ⟨vw, rfl, how, hbl2⟩; have hb3 := hb2.below hbl2; have hs3 := Kd.S_below hs2 hbl2; have hw3 := below_step hw2 hbl2; obtain ⟨Aw, cw, rfl⟩ := Kd.R_slice how))
        have b2 := hb3.b2.cell
        have b3 := hb3.b3.cell
        have b4 := hb3.b4.cell
        have b6 := hb3.b6.cell
        have g2 := hb3.b2.frozen
        have g3 := hb3.b3.frozen
        have g4 := hb3.b4.frozen
        gi_region_with_o (fail)
        all_goals gi_wp2
        all_goals (
          have kk : KeepsOthers W W2 := (KeepsOthers.setCell W _ _).trans ((ko_below hbl1).trans (ko_below hbl2))
          refine ⟨KeepsOthers.from ?kf _, rfl, rfl, ⟨v, vs, wrap64 (num + 1), ?bf⟩, ?wf⟩
          case kf => repeat (first | exact kk | refine KeepsOthers.trans ?_ (KeepsOthers.setCell _ _ _) | refine KeepsOthers.trans ?_ (KeepsOthers.drew _))
          case bf => first | exact (((hb3.set2 (.slice none 0 0)).set3 (wrap64 (num + 1))).set4 er) | exact (((hb3.set2 (.slice none 0 0)).set3 (wrap64 (num + 1))).set4 er).drew | exact (((hb3.set2 (.slice none 0 0)).set4 er).set3 (wrap64 (num + 1))) | exact (((hb3.set2 (.slice none 0 0)).set4 er).set3 (wrap64 (num + 1))).drew | exact (((hb3.set3 (wrap64 (num + 1))).set2 (.slice none 0 0)).set4 er) | exact (((hb3.set3 (wrap64 (num + 1))).set2 (.slice none 0 0)).set4 er).drew | exact (((hb3.set3 (wrap64 (num + 1))).set4 er).set2 (.slice none 0 0)) | exact (((hb3.set3 (wrap64 (num + 1))).set4 er).set2 (.slice none 0 0)).drew | exact (((hb3.set4 er).set2 (.slice none 0 0)).set3 (wrap64 (num + 1))) | exact (((hb3.set4 er).set2 (.slice none 0 0)).set3 (wrap64 (num + 1))).drew | exact (((hb3.set4 er).set3 (wrap64 (num + 1))).set2 (.slice none 0 0)) | exact (((hb3.set4 er).set3 (wrap64 (num + 1))).set2 (.slice none 0 0)).drew
          case wf => repeat (first | exact hw3 | refine Below.drew ?_ | refine Below.setCell ?_ (by simp; try omega) _))
    case done =>
      rintro D W hD ⟨num, outs, v, vs, hb, hs, hg, hn, hw⟩ hK
      have h2 := hg [] (by simp)
      clear hg
      simp only [words_Lines.go, Option.some.injEq, Prod.mk.injEq] at h2
      obtain ⟨rfl, rfl, rfl⟩ := h2
      obtain ⟨A, c, rfl⟩ := Kd.S_slice hs
      have d2 := hb.b2.cell
      have d3 := hb.b3.cell
      have d4 := hb.b4.cell
      have d5 := hb.b5.cell
      have g2 := hb.b2.frozen
      have g3 := hb.b3.frozen
      have g4 := hb.b4.frozen
      gi_wp2
      have kk := ((KeepsOthers.setCell W ⟨w.heap.size, 0, none⟩ (.slice A outs.length c)).trans (KeepsOthers.setCell _ ⟨w.heap.size + 1, 0, none⟩ (.int .i64 0))).trans (KeepsOthers.setCell _ ⟨w.heap.size + 1 + 1, 0, none⟩ (.int .i64 0))
      have hK' := kk.same D _ hK rfl
      have hbF := (((hb.set2 (.slice A outs.length c)).set3 0).set4 0).row (grownBy_putObj' _ D (.deferred none)) (fun r e => by cases e; exact ⟨_, hK', rfl⟩)
      have hs1 := S_box hs hb.b2 (by intro q hq; rw [lines_E] at hq; simp only [List.mem_cons, List.not_mem_nil, or_false] at hq; rcases hq with rfl | rfl <;> decide) (.slice A outs.length c)
      have hs2 := S_box hs1 (hb.set2 (.slice A outs.length c)).b3 (by intro q hq; rw [lines_E] at hq; simp only [List.mem_cons, List.not_mem_nil, or_false] at hq; rcases hq with rfl | rfl <;> decide) (.int .i64 0)
      have hs3 := S_box hs2 ((hb.set2 (.slice A outs.length c)).set3 0).b4 (by intro q hq; rw [lines_E] at hq; simp only [List.mem_cons, List.not_mem_nil, or_false] at hq; rcases hq with rfl | rfl <;> decide) (.int .i64 0)
      have hsF := S_own hs3 (grownBy_putObj' _ D (.deferred none)) (fun r e => by cases e; exact ⟨_, hK', rfl⟩)
      refine ⟨by simp, .inl ⟨_, _, rfl, run_takeDeferred hK', ?_⟩⟩
      have e2 := hbF.b2.cell
      have e3 := hbF.b3.cell
      have e4 := hbF.b4.cell
      refine ⟨.tuple #[.slice A outs.length c, .int .i64 0, .int .i64 0], ?_, _, rfl, Kd.S_mono hsF (fun _ _ => trivial), ?_⟩
      · simp [results, Tryd.f13, go_sem, e2, e3, e4]
      · exact (((hw.setCell (p := ⟨w.heap.size, 0, none⟩) (by simp) _).setCell (p := ⟨w.heap.size + 1, 0, none⟩) (by simp) _).setCell (p := ⟨w.heap.size + 1 + 1, 0, none⟩) (by simp; omega) _).trans (below_putObj _ (by omega))
    case stop =>
      rintro D c pre W hD hpre ⟨rfl, hr, ⟨v, vs, num, hb⟩, hw⟩ hK
      have d2 := hb.b2.cell
      have d3 := hb.b3.cell
      have d4 := hb.b4.cell
      simp only at hr d3 d4
      subst hr
      gi_wp2
      have hbF := hb.row (grownBy_putObj' _ D (.deferred none)) (fun r e => by cases e; exact ⟨_, hK, rfl⟩)
      refine ⟨by simp, .inl ⟨_, _, rfl, run_takeDeferred hK, ?_⟩⟩
      have e2 := hbF.b2.cell
      have e3 := hbF.b3.cell
      have e4 := hbF.b4.cell
      refine ⟨.tuple #[.slice none 0 0, .int .i64 r2, .int .i64 r3], ?_, _, rfl, Kd.S_nil _ _ _ _ _, hw.trans (below_putObj _ (by omega))⟩
      simp [results, Tryd.f13, go_sem, e2, e3, e4]
end Go.Proofs.YtnmbljpifadipaaDoor.X
