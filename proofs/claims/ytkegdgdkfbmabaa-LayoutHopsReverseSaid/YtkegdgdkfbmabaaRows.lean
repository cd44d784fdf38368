/-
  No cell of these rows narrows 'for every input' (looked for: loops, veiled, ifaces, maps, wideKeys, modest, calm, conditions, laid).
  DERIVED. THE GIVEN ROWS OF THIS SEAT. 3 by the template 'for every input the law returns true; each argument reads behind the call as it read before'; 0 by the template 'total and deterministic' (their statements: YtkegdgdkfbmabaaTotals.lean).
  GIVEN WITH THE SEED: the statements are not yours to turn. If you find one false, say at which input.
  Laid BY PROGRAM, IN A SANDBOX (cutbox-rows.mjs): the forced cells as the released guide's own fill.sh prints them over the translation f79ff1e936ba7c43… (all of the seat's roots in one cut). By AI agents, Wed Nov 11 2026. No macro, syntax, notation, axiom, sorry.
-/
import Derived.Test.YtkegdgdkfbmabaaChecked
import GoSem.Claim
import GoSem.ClaimJoined
import GoSem.ClaimMapViews
import Derived.JoinedTies
import Derived.KernelRfl
namespace Go.Proofs.Ytkegdgdkfbmabaa
/- THE CELL 'sum', in the pinned program and in every row, IS THE sha256 OF THE DUMP (.gsa) THAT YtkegdgdkfbmabaaProg.lean LOADS. Nothing in Lean hashes anything: it is a label: what it is worth is what the hold of that sum in a sandbox is worth. -/
noncomputable def Try.pinned : Pinned := { name := "ytkegdgdkfbmabaa", sum := "f79ff1e936ba7c43f8b463182f895be31ab3a3adb5dc445ea408e97bceb430f9", checked := Try.checked }
namespace Rows
def none {H : Type} : Left H := { results := [], args := [] }

/-- 'railplanlaw4.LayoutLimits': WHATEVER THE INPUT: true; the input reads as it did. -/
def layoutLimitsSpec : ChangeSpec := { name := "layoutLimits", fn := fun _ => fun
  | [d1, d2] => { results := [.lit (.bool true)], args := [d1, d2] }
  | _ => none }
def layoutLimitsRow : OpenClaim := { program := "ytkegdgdkfbmabaa", sum := "f79ff1e936ba7c43f8b463182f895be31ab3a3adb5dc445ea408e97bceb430f9", func := "railplan/railplanlaw4.LayoutLimits", spec := "layoutLimits", unfollowed := true, recurses := true, plainKeys := false, apart := false }
def LayoutLimitsSaid : Prop := layoutLimitsRow.holds Try.pinned (OpenSpec.ofChange layoutLimitsSpec)

/-- ITS FALSE NEIGHBOUR: 'it returns false'. Refute it at one input. -/
def layoutLimitsWrong : ChangeSpec := { name := "layoutLimits", fn := fun _ => fun
  | [d1, d2] => { results := [.lit (.bool false)], args := [d1, d2] }
  | _ => none }
def LayoutLimitsWrongFalsely : Prop := layoutLimitsRow.holds Try.pinned (OpenSpec.ofChange layoutLimitsWrong)

/-- 'railplanlaw4.LayoutHopsDiffer': WHATEVER THE INPUT: true; the input reads as it did. -/
def layoutHopsDifferSpec : ChangeSpec := { name := "layoutHopsDiffer", fn := fun _ => fun
  | [d1, d2] => { results := [.lit (.bool true)], args := [d1, d2] }
  | _ => none }
def layoutHopsDifferRow : OpenClaim := { program := "ytkegdgdkfbmabaa", sum := "f79ff1e936ba7c43f8b463182f895be31ab3a3adb5dc445ea408e97bceb430f9", func := "railplan/railplanlaw4.LayoutHopsDiffer", spec := "layoutHopsDiffer", unfollowed := true, recurses := true, plainKeys := false, apart := false }
def LayoutHopsDifferSaid : Prop := layoutHopsDifferRow.holds Try.pinned (OpenSpec.ofChange layoutHopsDifferSpec)

/-- ITS FALSE NEIGHBOUR: 'it returns false'. Refute it at one input. -/
def layoutHopsDifferWrong : ChangeSpec := { name := "layoutHopsDiffer", fn := fun _ => fun
  | [d1, d2] => { results := [.lit (.bool false)], args := [d1, d2] }
  | _ => none }
def LayoutHopsDifferWrongFalsely : Prop := layoutHopsDifferRow.holds Try.pinned (OpenSpec.ofChange layoutHopsDifferWrong)

/-- 'railplanlaw4.LayoutHopsReverse': WHATEVER THE INPUT: true; the input reads as it did. -/
def layoutHopsReverseSpec : ChangeSpec := { name := "layoutHopsReverse", fn := fun _ => fun
  | [d1, d2] => { results := [.lit (.bool true)], args := [d1, d2] }
  | _ => none }
def layoutHopsReverseRow : OpenClaim := { program := "ytkegdgdkfbmabaa", sum := "f79ff1e936ba7c43f8b463182f895be31ab3a3adb5dc445ea408e97bceb430f9", func := "railplan/railplanlaw4.LayoutHopsReverse", spec := "layoutHopsReverse", unfollowed := true, recurses := true, plainKeys := false, apart := false }
def LayoutHopsReverseSaid : Prop := layoutHopsReverseRow.holds Try.pinned (OpenSpec.ofChange layoutHopsReverseSpec)

/-- ITS FALSE NEIGHBOUR: 'it returns false'. Refute it at one input. -/
def layoutHopsReverseWrong : ChangeSpec := { name := "layoutHopsReverse", fn := fun _ => fun
  | [d1, d2] => { results := [.lit (.bool false)], args := [d1, d2] }
  | _ => none }
def LayoutHopsReverseWrongFalsely : Prop := layoutHopsReverseRow.holds Try.pinned (OpenSpec.ofChange layoutHopsReverseWrong)

/- THE SECOND FORM. 'bulk': how many values and letters a reading holds, each counted each time it is reached (what is shared counts as often as it is met; a slice's spare places count too). A statement '..UptoSaid' is the law's where the arguments, and the package variables that the reading takes, are together of bulk at most 1048576: NARROWER than '..Said'. Prove '..Said' where nothing that the law and all that it calls make is longer than what came in: it says more and counts as full. Else prove '..UptoSaid'. A law counts once. -/
mutual
def uptoBulk {H : Type} : DataW H → Nat
  | .lit (.string bytes) => bytes.length + 1
  | .lit _ => 1
  | .nil => 1
  | .ptr d => uptoBulk d + 1
  | .slice elems spare => uptoBulkAll elems + uptoBulkAll spare + 1
  | .agg parts => uptoBulkAll parts + 1
  | .iface _ d => uptoBulk d + 1
  | .map entries => uptoBulkEntries entries + 1
  | .held _ => 1
def uptoBulkAll {H : Type} : List (DataW H) → Nat
  | [] => 0
  | d :: r => uptoBulk d + uptoBulkAll r
def uptoBulkEntries {H : Type} : List (Lit × DataW H) → Nat
  | [] => 0
  | x :: r => uptoBulkEntry x + uptoBulkEntries r
def uptoBulkEntry {H : Type} : Lit × DataW H → Nat
  | (.string bytes, d) => bytes.length + uptoBulk d + 1
  | (_, d) => uptoBulk d + 1
 end
def uptoSmall : (H : Type) → List (DataW H) → Bool := fun _ ds => decide (uptoBulkAll ds ≤ 1048576)
def OpenSpec.upto (s : _root_.Go.ChangeSpec) : _root_.Go.OpenSpec := { _root_.Go.OpenSpec.ofChange s with cond := some uptoSmall }

/-- 'railplanlaw4.LayoutLimits', WHERE WHAT IT READS IS OF BULK AT MOST 1048576: true; the input reads as it did. -/
def layoutLimitsUptoRow : OpenClaim := { program := "ytkegdgdkfbmabaa", sum := "f79ff1e936ba7c43f8b463182f895be31ab3a3adb5dc445ea408e97bceb430f9", func := "railplan/railplanlaw4.LayoutLimits", spec := "layoutLimits", unfollowed := true, recurses := true, plainKeys := false, apart := false, narrowed := true }
def LayoutLimitsUptoSaid : Prop := layoutLimitsUptoRow.holds Try.pinned (OpenSpec.upto layoutLimitsSpec)

/-- 'railplanlaw4.LayoutHopsDiffer', WHERE WHAT IT READS IS OF BULK AT MOST 1048576: true; the input reads as it did. -/
def layoutHopsDifferUptoRow : OpenClaim := { program := "ytkegdgdkfbmabaa", sum := "f79ff1e936ba7c43f8b463182f895be31ab3a3adb5dc445ea408e97bceb430f9", func := "railplan/railplanlaw4.LayoutHopsDiffer", spec := "layoutHopsDiffer", unfollowed := true, recurses := true, plainKeys := false, apart := false, narrowed := true }
def LayoutHopsDifferUptoSaid : Prop := layoutHopsDifferUptoRow.holds Try.pinned (OpenSpec.upto layoutHopsDifferSpec)

/-- 'railplanlaw4.LayoutHopsReverse', WHERE WHAT IT READS IS OF BULK AT MOST 1048576: true; the input reads as it did. -/
def layoutHopsReverseUptoRow : OpenClaim := { program := "ytkegdgdkfbmabaa", sum := "f79ff1e936ba7c43f8b463182f895be31ab3a3adb5dc445ea408e97bceb430f9", func := "railplan/railplanlaw4.LayoutHopsReverse", spec := "layoutHopsReverse", unfollowed := true, recurses := true, plainKeys := false, apart := false, narrowed := true }
def LayoutHopsReverseUptoSaid : Prop := layoutHopsReverseUptoRow.holds Try.pinned (OpenSpec.upto layoutHopsReverseSpec)

end Rows
end Go.Proofs.Ytkegdgdkfbmabaa
