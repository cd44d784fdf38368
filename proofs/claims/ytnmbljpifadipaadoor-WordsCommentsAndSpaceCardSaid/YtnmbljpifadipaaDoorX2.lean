/- Written by a program of this claim. Proved: each Go function named below, called with any arguments at which its Lean function answers, returns that answer; or, of a law, its given statement. -/
import Derived.Test.YtnmbljpifadipaaDoorX0
namespace Go.Proofs.YtnmbljpifadipaaDoor.X
open Go.RowKit Go.Proofs.YtnmbljpifadipaaDoorW Go.Proofs.YtnmbljpifadipaaDoorW.PrintWords Go.Proofs.YtnmbljpifadipaaDoorW.PrintLast Go.Proofs.YtnmbljpifadipaaDoorW.PrintMore
attribute [local go_sem] max2_int min2_int max_two min_two max_three min_three max_four min_four   -- for this text's walks alone
set_option linter.unusedVariables false
set_option linter.unusedSimpArgs false

-- NOT PRINTED: function 44 (strings_splitSeq)

-- NOT PRINTED: function 28 (strings_SplitSeq)

-- NOT PRINTED: function 78 (bytealg_IndexByteString)

-- NOT PRINTED: function 66 (stringslite_IndexByte)

-- NOT PRINTED: function 67 (bytealg_IndexString)

-- NOT PRINTED: function 68 (bytealg_Cutover)

-- NOT PRINTED: function 79 (bytealg_hashStr_string)

-- NOT PRINTED: function 69 (bytealg_IndexRabinKarp_string)

-- NOT PRINTED: function 56 (stringslite_Index)

-- NOT PRINTED: function 45 (stringslite_Cut)

-- NOT PRINTED: function 29 (strings_Cut)

/-! ### words_graphic: function 46 -/
def words_graphic.f (a0 : Int) : Option (Bool) := if a0 ≥ 33 then (if a0 ≤ 126 then (some (a0 != 35)) else (some false)) else (some false)
set_option maxHeartbeats 8000000 in
set_option maxRecDepth 100000 in
theorem words_graphic.calls (a0 : Int) (r : Bool) (w : World) (h : words_graphic.f a0 = some r) :
    Calls Tryd.prog 46 #[.int .u8 a0] w fun e w' => e = .returned (.bool r) ∧ Drawn0 w w' := by
  have H : (if a0 ≥ 33 then (if a0 ≤ 126 then (some (a0 != 35)) else (some false)) else (some false)) = some r := h
  clear h
  by_cases c2 : a0 ≥ 33
  · rw [if_pos c2] at H
    have c2b0 : decide (33 ≤ a0) = true := decide_eq_true c2
    clear c2
    by_cases c3 : a0 ≤ 126
    · rw [if_pos c3] at H
      have c3b0 : decide (a0 ≤ 126) = true := decide_eq_true c3
      clear c3
      obtain rfl := Option.some.inj H
      simp only [Option.some.injEq, Prod.mk.injEq] at H
      obtain ⟨rfl⟩ := H
      go_enter Tryd.func46, Tryd.ntmps46
      go_wp2
      go_ret
      exact ⟨by first | rfl | (simp; done) | (simp [*]; done), by repeat (first | exact Drawn0.refl _ | apply Drawn0.step)⟩
    · rw [if_neg c3] at H
      have c3b0 : decide (a0 ≤ 126) = false := decide_eq_false c3
      clear c3
      obtain rfl := Option.some.inj H
      simp only [Option.some.injEq, Prod.mk.injEq] at H
      obtain ⟨rfl⟩ := H
      go_enter Tryd.func46, Tryd.ntmps46
      go_wp2
      go_ret
      exact ⟨by first | rfl | (simp; done) | (simp [*]; done), by repeat (first | exact Drawn0.refl _ | apply Drawn0.step)⟩
  · rw [if_neg c2] at H
    have c2b0 : decide (33 ≤ a0) = false := decide_eq_false c2
    clear c2
    obtain rfl := Option.some.inj H
    simp only [Option.some.injEq, Prod.mk.injEq] at H
    obtain ⟨rfl⟩ := H
    go_enter Tryd.func46, Tryd.ntmps46
    go_wp2
    go_ret
    exact ⟨by first | rfl | (simp; done) | (simp [*]; done), by repeat (first | exact Drawn0.refl _ | apply Drawn0.step)⟩

/-! ### words_line: function 30, told by hand: QLine -/

/-! ### words_Lines: function 13, told by hand: QLines -/

-- NOT PRINTED: function 80 (strconv_lower)

-- NOT PRINTED: function 81 (strconv_underscoreOK)

-- NOT PRINTED: function 70 (strconv_ParseUint)

-- NOT PRINTED: function 57 (strconv_ParseInt)

-- NOT PRINTED: function 47 (strconv_Atoi_47)

-- NOT PRINTED: function 71 (stringslite_Clone)

-- NOT PRINTED: function 58 (strconv_syntaxError)

-- NOT PRINTED: function 59 (strconv_rangeError)

-- NOT PRINTED: function 73 (strconv_small)

-- NOT PRINTED: function 82 (strconv_log10Pow2)

-- NOT PRINTED: function 83 (bits_Len64)

-- NOT PRINTED: function 84 (strconv_bool2_int)

-- NOT PRINTED: function 74 (strconv_numDigits)

-- NOT PRINTED: function 75 (strconv_formatBase10)

-- NOT PRINTED: function 85 (strconv_isPowerOfTwo)

-- NOT PRINTED: function 87 (bits_TrailingZeros32)

-- NOT PRINTED: function 88 (bits_TrailingZeros64)

-- NOT PRINTED: function 86 (bits_TrailingZeros)

-- NOT PRINTED: function 76 (strconv_formatBits)

-- NOT PRINTED: function 62 (strconv_FormatInt)

-- NOT PRINTED: function 49 (strconv_Itoa_49)

-- NOT PRINTED: function 32 (strconv_Itoa_32)

-- NOT PRINTED: function 72 (errors_New)

-- NOT PRINTED: function 60 (strconv_baseError)

-- NOT PRINTED: function 61 (strconv_bitSizeError)

-- NOT PRINTED: function 48 (strconv_toError)

-- NOT PRINTED: function 31 (strconv_Atoi_31)

/-! ### words_Number: function 14, told by hand: QLaid -/

end Go.Proofs.YtnmbljpifadipaaDoor.X
