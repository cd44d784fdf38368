/- One start that fits the listed variables; what the rows' listing says of every start. -/
import Derived.Test.YtnmbljpifadipaaDoorRows
import Derived.Stop.LaidErr
import Derived.LaidLaws
import Derived.Deep.DeepHandedRow
import Derived.Stop.Joined
import Derived.Lib.LaidTab
import Derived.Test.YtnmbljpifadipaaDoorQLaid
namespace Go.Proofs.YtnmbljpifadipaaDoor.X
open Go.RowKit
set_option linter.unusedVariables false
def laidCells : DataW Unit → Array Value
  | .agg l => (l.flatMap fun e => match e with
    | .lit (.int k x) => [Value.int k x]
    | .agg m => m.flatMap fun e => match e with
      | .lit (.int k x) => [Value.int k x]
      | _ => []
    | _ => []).toArray
  | _ => #[]
def laidInto (cs : Array Value) : Obj → Obj
  | .cells _ t frozen => .cells cs t frozen
  | o => o
noncomputable def low : Nat := (World.holding Tryd.prog default ⟨#[], #[], []⟩).heap.size
noncomputable def laidWorld (os : Os) : World :=
  let w0 := World.holding Tryd.prog os ⟨#[.cells #[.string { data := #[118, 97, 108, 117, 101, 32, 111, 117, 116, 32, 111, 102, 32, 114, 97, 110, 103, 101] }] 111, .cells #[.string { data := #[105, 110, 118, 97, 108, 105, 100, 32, 115, 121, 110, 116, 97, 120] }] 111], #[], []⟩
  { w0 with heap := ((((((w0.heap.modify 2 (laidInto #[.iface 109 (.pointer (some ⟨low, 0, none⟩))])).modify 1 (laidInto #[.iface 109 (.pointer (some ⟨low + 1, 0, none⟩))])).modify 6 (laidInto (laidCells Rows.laid_math_bits_deBruijn32tab))).modify 7 (laidInto (laidCells Rows.laid_math_bits_deBruijn64tab))).modify 5 (laidInto (laidCells Rows.laid_internal_strconv_uint64pow10))).modify 4 (laidInto (laidCells Rows.laid_unicode_utf8_acceptRanges))).modify 3 (laidInto (laidCells Rows.laid_unicode_utf8_first)) }
def laidList : List (String × DataW Unit) := [("math/bits.deBruijn32tab", Rows.laid_math_bits_deBruijn32tab), ("math/bits.deBruijn64tab", Rows.laid_math_bits_deBruijn64tab), ("internal/strconv.uint64pow10", Rows.laid_internal_strconv_uint64pow10), ("unicode/utf8.acceptRanges", Rows.laid_unicode_utf8_acceptRanges), ("strconv.ErrRange", Rows.laid_strconv_ErrRange), ("strconv.ErrSyntax", Rows.laid_strconv_ErrSyntax), ("unicode/utf8.first", Rows.laid_unicode_utf8_first)]
set_option maxRecDepth 100000 in
theorem laid_met (os : Os) (args : Array Value) : laidMet Tryd.prog laidList ((laidWorld os).forCall (fun _ _ => 0) ⟨#[], args, []⟩).memory :=
  laidMet_of_run' 8 (by kernel_rfl) (by kernel_rfl)
theorem gES : Tryd.prog.globalNamed "strconv.ErrSyntax" = some 1 := by kernel_rfl
theorem gER : Tryd.prog.globalNamed "strconv.ErrRange" = some 2 := by kernel_rfl
theorem gPow : Tryd.prog.globalNamed "internal/strconv.uint64pow10" = some 5 := by kernel_rfl
theorem gESType : (Tryd.prog.globals[1]?).map (·.type) = some 58 := by kernel_rfl
theorem gERType : (Tryd.prog.globals[2]?).map (·.type) = some 58 := by kernel_rfl
theorem gPowType : (Tryd.prog.globals[5]?).map (·.type) = some 113 := by kernel_rfl
theorem cellsES : Tryd.prog.cellsOf 111 = 1 := by kernel_rfl
theorem cellsStr : Tryd.prog.cellsOf 9 = 1 := by kernel_rfl
theorem cellsU64 : Tryd.prog.cellsOf 88 = 1 := by kernel_rfl
theorem cellsPow : Tryd.prog.cellsOf 113 = 20 := by kernel_rfl
theorem starES : "*" ++ "errors.errorString" = "*errors.errorString" := by decide
theorem rowES (u : TypeId) (h : Tryd.prog.typeName? 3 u = some "*errors.errorString") : u = 109 :=
  typeName_ptr_named (nm := "errors.errorString") (by rw [starES]; kernel_rfl) (by kernel_rfl) (by decide) u (by rw [starES]; exact h)
theorem laid_of {W : World} (hL : laidMet Tryd.prog laidList W) (hsh : W.ShapedOpen Tryd.prog) : Laid W := by
  have h3 := hL.tail.tail
  have h5 := h3.tail.tail
  have h6 := h5.tail
  obtain ⟨a0, s0, hv0, -, -, -⟩ := laid_sentinel h5 gER gERType Tryd.underlying58 rowES Tryd.underlying109 Tryd.underlying111 rfl rfl Tryd.underlying9 cellsES cellsStr
  obtain ⟨a1, s1, hv1, -, -, -⟩ := laid_sentinel h6 gES gESType Tryd.underlying58 rowES Tryd.underlying109 Tryd.underlying111 rfl rfl Tryd.underlying9 cellsES cellsStr
  exact ⟨Tryd.laysM143.s1_3 W hsh, ⟨_, by have h0 := World.var?_cell gES hv1 0; simpa using h0, .inr ⟨_, _, rfl⟩⟩, ⟨_, by have h0 := World.var?_cell gER hv0 0; simpa using h0, .inr ⟨_, _, rfl⟩⟩,
    Lib.tabIs_of_head gPow gPowType Tryd.underlying113 Tryd.underlying88 cellsU64 cellsPow h3⟩
end Go.Proofs.YtnmbljpifadipaaDoor.X
