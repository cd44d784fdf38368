/- Written by a program of this claim. Proved: each Go function named below, called with any arguments at which its Lean function answers, returns that answer; or, of a law, its given statement. -/
import Derived.Test.YtolckgeffmaakaaProg
import Derived.Below
import Derived.Deep.Draws
import Derived.Deep.AppendLies
import Derived.Maps.AppendAt
import Derived.OwnWalk
import Derived.Laws.BytesArg
import Derived.Laws.MakeOwn
import Derived.Laws.OwnMore
import Derived.Deep.OwnRows
import Derived.Tactics
import Derived.Lib.ConvBytes
import Derived.Laws.Slices
import Derived.WalkKit
import Derived.KernelRfl
import Derived.RowKit3
import Derived.Deep.LoopGhost
import Derived.Deep.QuietTactic
import Derived.BigQuiet
import Derived.WideLaws
import Derived.Deep.DeepCutAuto
import Derived.Deep.CutBlock
import Derived.Deep.RegionHeld3
import Derived.Laws.Rows
import Derived.Lib.AppendStr
import Derived.ArgAppend
import Derived.Laws.IdiomCopy
import Derived.OrdersHeld
import Derived.Laws.BitsLemmas
import Derived.RowKit
import Derived.Test.YtolckgeffmaakaaVMore1
import Derived.Test.YtolckgeffmaakaaOpen
namespace Go.Proofs.Ytolckgeffmaakaa.X
open Go.RowKit Go.Proofs.YtolckgeffmaakaaW Go.Proofs.YtolckgeffmaakaaW.PrintWords Go.Proofs.YtolckgeffmaakaaW.PrintLast Go.Proofs.YtolckgeffmaakaaW.PrintMore
attribute [local go_sem] max2_int min2_int max_two min_two max_three min_three max_four min_four   -- for this text's walks alone
set_option linter.unusedVariables false
set_option linter.unusedSimpArgs false



def errW : Option Int → Value
  | none => .nilIface
  | some c => .iface 0 (.int .i64 c)
theorem errW_none : errW none = .nilIface := rfl
theorem errW_some (c : Int) : errW (some c) = .iface 0 (.int .i64 c) := rfl

theorem info5 : (Try.prog.info? 5).map (fun i => (i.zero, i.size, i.bytes)) = some (some (.int .u8 0), 1, 1) := by kernel_rfl
theorem info23 : (Try.prog.info? 23).map (fun i => (i.zero, i.size, i.bytes)) = some (some (.agg #[(.int .i64 0), (.string ⟨#[]⟩)]), 2, 24) := by kernel_rfl
-- the values' own types
/-! #### struct type 23 -/
structure S23 where
  f0 : Int
  f1 : ByteArray
def z23 : S23 := ⟨(0 : Int), (⟨#[]⟩ : ByteArray)⟩
def k23 : Kd S23 := Kd.iso (Kd.pair (Kd.int .i64) Kd.string) (fun x : S23 => (x.f0, x.f1))
theorem k23_open {w : World} {x : S23} {cs : List Value} (h : k23.K w x cs) : cs = [.int .i64 x.f0, .string x.f1] := by
  obtain ⟨_, _, rfl, rfl, rfl⟩ := h
  exact rfl
theorem k23_openM {w : World} {base : Nat} {ok : Nat → Prop} {x : S23} {cs : List Value} (h : k23.M w base ok x cs) : cs = [.int .i64 x.f0, .string x.f1] := by
  obtain ⟨_, _, rfl, rfl, rfl⟩ := h
  exact rfl
theorem k23_mk (w : World) (x : S23)  : k23.K w x [.int .i64 x.f0, .string x.f1] := ⟨[.int .i64 x.f0], [.string x.f1], rfl, rfl, rfl⟩
theorem k23_mkM (w : World) (base : Nat) (ok : Nat → Prop) (x : S23)  : k23.M w base ok x [.int .i64 x.f0, .string x.f1] := ⟨[.int .i64 x.f0], [.string x.f1], rfl, rfl, rfl⟩
theorem k23_mkF (W : World) (ok : Nat → Prop) (x : S23) : Kd.FK k23 W ok x [.int .i64 x.f0, .string x.f1] := fun W2 _ => k23_mk W2 x
def rd_T23 (xs : List S23) (i : Int) : S23 := xs.getD i.toNat z23
theorem at_T23 {w : World} {A : Option Addr} {n : Nat} {xs : List S23} (h : Kd.C k23 w A n xs) (i : Int) (h0 : 0 ≤ i) (h1 : i < n) : ∃ ad , A = some ad ∧ w.cell? (ad.add (i.toNat * 2)) = some (.int .i64 (rd_T23 xs i).f0) ∧ w.cell? ⟨(ad.add (i.toNat * 2)).block, (ad.add (i.toNat * 2)).off + 1, none⟩ = some (.string (rd_T23 xs i).f1) := by
  obtain ⟨ad, c, e, _, hK, hc0⟩ := Kd.C_get h z23 i h0 h1
  have hc : ∀ j u, c[j]? = some u → w.cell? (ad.add (i.toNat * 2 + j)) = some u := hc0
  obtain rfl := k23_open hK
  exact ⟨ad, e, hc 0 _ rfl, by rw [← add_field _ _ 1 (by omega)]; exact hc 1 _ rfl⟩

def B23 (x : S23) : Prop := (fun x : Int => (Lit.int .i64 x).wf = true) x.f0 ∧ (fun x : ByteArray => x.size ≤ 140737488351232) x.f1
theorem opn23 : Open.Opn Try.prog k23 23 B23 := by
  intro H enc w base spare held fuel cs y h hw
  obtain ⟨xs, n, _, rfl, hl, hlen, hf⟩ := DataW.trod_struct Try.underlying23 h
  have hl2 : cs.length = 2 := hl.trans (by kernel_rfl)
  obtain ⟨x0, q0, b0⟩ := Open.opn_field 0 Try.underlying23 hlen hf hw rfl (Open.opn_int Try.underlying3)
  obtain ⟨x1, q1, b1⟩ := Open.opn_field 1 Try.underlying23 hlen hf hw rfl (Open.opn_string Try.underlying9)
  have g0 := Open.cut q0 (show Try.prog.cellsOf 3 = 1 by kernel_rfl)
  have g1 := Open.cut q1 (show Try.prog.cellsOf 9 = 1 by kernel_rfl)
  have g0 : (Kd.pair (Kd.int .i64) Kd.string).K w (x0, x1) ((cs.drop 0).take 2) := Open.pairK (c := 1) (r := 1) g0 g1
  exact ⟨⟨x0, x1⟩, Open.wholeK (d := k23) (x := ⟨x0, x1⟩) g0 hl2, b0, b1⟩
end Go.Proofs.Ytolckgeffmaakaa.X
