/- The loop over the bytes at which a comment's runes begin (WordsCommentsAndSpace). -/
import Derived.Lib.OthersKept
import Derived.Laws.RangeAny
import Derived.Test.YtnmbljpifadipaaDoorX0
namespace Go.Proofs.YtnmbljpifadipaaDoor.X
open Go Go.RowKit Go.Proofs.YtnmbljpifadipaaDoorW Go.Proofs.YtnmbljpifadipaaDoorW.PrintWords Go.Proofs.YtnmbljpifadipaaDoorW.PrintLast Go.Proofs.YtnmbljpifadipaaDoorW.PrintMore
set_option linter.unusedVariables false
def cutC.l0 : Nat → ByteArray → Nat → ByteArray → ByteArray
  | 0, _, _, y => y
  | k + 1, a, pos, y => if pos < a.size then cutC.l0 k a (pos + (Utf8.decode a pos).2) (if pos < 50 then (if bt a (pos : Int) = 10 then y else y ++ a.extract pos (pos + 1)) else y) else y
/-- What the loop leaves of the comment. -/
def cutC (a : ByteArray) : ByteArray := cutC.l0 (a.size + 1) a 0 ⟨#[]⟩
theorem cutC_end (k : Nat) (a : ByteArray) (pos : Nat) (y : ByteArray) (h : ¬ pos < a.size) : cutC.l0 k a pos y = y := by
  cases k with
  | zero => rfl
  | succ k => simp only [cutC.l0]; rw [if_neg h]
theorem cutC_width (s : ByteArray) (pos : Nat) (h : pos < s.size) : 1 ≤ (Utf8.decode s pos).2 := by
  by_cases ha : (s[pos]'h).toNat < 128
  · rw [decode_ascii s pos h ha]
    exact Nat.le_refl _
  · exact (decode_high s pos h (by omega)).2
theorem bt_pos (s : ByteArray) (pos : Nat) (h : pos < s.size) : bt s (pos : Int) = ((s[pos]'h).toNat : Int) := by
  unfold bt
  rw [dif_pos (by simpa using h)]
  simp only [Int.toNat_natCast]
end Go.Proofs.YtnmbljpifadipaaDoor.X
