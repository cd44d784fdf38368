/- Plain lemmas on rounds (Ev), wraps, bytes. -/
import Derived.Laws.BitsLemmas
import Derived.Lib.Strings
import Derived.Test.YtkegdgdkfbmabaaVMore1
namespace Go.Proofs.Ytkegdgdkfbmabaa.Q
open Go.RowKit Go.Proofs.YtkegdgdkfbmabaaW.PrintWords Go.Proofs.YtkegdgdkfbmabaaW.PrintLast Go.Proofs.YtkegdgdkfbmabaaW.PrintMore

theorem evp {α : Type} {c : Prop} [Decidable c] {A B : Nat → Option α} {r : α} (h : c) (k : Ev A r) : Ev (fun n => if c then A n else B n) r := by
  obtain ⟨K, hK⟩ := k; exact ⟨K, fun n hn => by show (if c then A n else B n) = some r; rw [if_pos h]; exact hK n hn⟩
theorem evn {α : Type} {c : Prop} [Decidable c] {A B : Nat → Option α} {r : α} (h : ¬ c) (k : Ev B r) : Ev (fun n => if c then A n else B n) r := by
  obtain ⟨K, hK⟩ := k; exact ⟨K, fun n hn => by show (if c then A n else B n) = some r; rw [if_neg h]; exact hK n hn⟩
theorem evs {α : Type} {a r : α} (h : a = r) : Ev (fun _ => some a) r := ⟨0, fun _ _ => by rw [h]⟩
/-- A call that has no rounds. -/
theorem ev1 {α β : Type} {o : Option α} {f : Nat → α → Option β} {a : α} {r : β} (h : o = some a) (k : Ev (fun n => f n a) r) : Ev (fun n => o.bind (f n)) r := by
  subst h; exact k
/-- A call that has rounds. -/
theorem ev2 {α β : Type} {g : Nat → Option α} {f : Nat → α → Option β} {a : α} {r : β} (h : Ev g a) (k : Ev (fun n => f n a) r) : Ev (fun n => (g n).bind (f n)) r := Ev.bind h k
theorem ev_eq {α : Type} {g : Nat → Option α} {r r' : α} (h : Ev g r) (e : r = r') : Ev g r' := e ▸ h
theorem ev_uniq {α : Type} {g : Nat → Option α} {r r' : α} (h : Ev g r) (h' : Ev g r') : r = r' := by
  obtain ⟨K, hK⟩ := h; obtain ⟨K', hK'⟩ := h'
  have a := hK (max K K') (Nat.le_max_left _ _); have b := hK' (max K K') (Nat.le_max_right _ _)
  exact Option.some.inj (a.symm.trans b)
theorem w64 {x : Int} (h : -9223372036854775808 ≤ x) (h' : x ≤ 9223372036854775807) : wrap64 x = x := by unfold wrap64; omega

/-! bytes -/
theorem ba_ext {a b : ByteArray} (h : a.data.toList = b.data.toList) : a = b := by
  cases a; cases b; simp only [ByteArray.mk.injEq]; exact Array.toList_inj.1 h
theorem ba_size (a : ByteArray) : a.data.toList.length = a.size := by rw [Array.length_toList]; rfl
theorem ba_append (a b : ByteArray) : (a ++ b).data.toList = a.data.toList ++ b.data.toList := by simp [ByteArray.data_append]
theorem ba_extract (a : ByteArray) (i j : Nat) : (a.extract i j).data.toList = (a.data.toList.drop i).take (j - i) := by
  rw [ByteArray.data_extract, Array.toList_extract, List.extract_eq_take_drop]
theorem ba_toList (a : ByteArray) : a.toList = a.data.toList := Lib.toList_data a
theorem ba_toList_inj {a b : ByteArray} : a.toList = b.toList ↔ a = b := by
  rw [ba_toList, ba_toList]; exact ⟨ba_ext, fun h => by rw [h]⟩
theorem bt_get {s : ByteArray} {i : Nat} (h : i < s.size) : bt s (i : Int) = ((s.data.toList.getD i 0).toNat : Int) := by
  unfold bt
  rw [dif_pos (by simpa using h)]
  have : i < s.data.toList.length := by rw [ba_size]; exact h
  simp only [Int.toNat_natCast, List.getD_eq_getElem?_getD, List.getElem?_eq_getElem this, Option.getD_some]
  rfl
theorem numsize (l : List Int) : (strOfNums l).size = l.length := strOfNums_size l
theorem ba_empty_append (s : ByteArray) : (⟨#[]⟩ : ByteArray) ++ s = s := ba_ext (by rw [ba_append]; simp)

/-! numbers of 32 bits -/
theorem u32_wrap_small {n : Int} (h0 : 0 ≤ n) (h1 : n < 4294967296) : IntKind.u32.wrap n = n := by rw [IntKind.wrap_u32]; omega
theorem xor32_range (x y : Int) : 0 ≤ Go.bits .xor .u32 x y ∧ Go.bits .xor .u32 x y < 4294967296 := by
  unfold Go.bits; simp only []; rw [IntKind.wrap_u32]; omega
theorem xor32_zero {x : Int} (h0 : 0 ≤ x) (h1 : x < 4294967296) : Go.bits .xor .u32 x 0 = x := by
  obtain ⟨a, rfl⟩ := Int.eq_ofNat_of_zero_le h0
  have ha : a < 2 ^ 32 := by omega
  unfold Go.bits; simp only [BitVec.ofInt_natCast]
  rw [show BitVec.ofInt IntKind.u32.bits 0 = 0#IntKind.u32.bits from rfl, BitVec.xor_zero, BitVec.toNat_ofNat, IntKind.wrap_u32, show IntKind.u32.bits = 32 from rfl, Nat.mod_eq_of_lt ha]
  omega
theorem and32_one {x : Int} (h0 : 0 ≤ x) (h1 : x < 4294967296) : Go.bits .and .u32 x 1 = x % 2 := by
  have := bits_mask .u32 32 (by decide) (fun n a b => u32_wrap_small a (by simpa using b)) 1 (by decide) x h0 (by simpa using h1)
  simpa using this
theorem or4 {a b c d : Int} (ha : 0 ≤ a ∧ a ≤ 255) (hb : 0 ≤ b ∧ b ≤ 255) (hc : 0 ≤ c ∧ c ≤ 255) (hd : 0 ≤ d ∧ d ≤ 255) :
    Go.bits .or .i64 (Go.bits .or .i64 (Go.bits .or .i64 (wrap64 ((wrap64 a) * 16777216)) (wrap64 ((wrap64 b) * 65536))) (wrap64 ((wrap64 c) * 256))) (wrap64 d) = a * 16777216 + b * 65536 + c * 256 + d := by
  have hw : ∀ n : Int, 0 ≤ n → n < 2 ^ 40 → IntKind.i64.wrap n = n := fun n a b => by rw [IntKind.wrap_i64]; omega
  rw [w64 (x := a) (by omega) (by omega), w64 (x := b) (by omega) (by omega), w64 (x := c) (by omega) (by omega), w64 (x := d) (by omega) (by omega), w64 (x := a * 16777216) (by omega) (by omega), w64 (x := b * 65536) (by omega) (by omega), w64 (x := c * 256) (by omega) (by omega)]
  rw [bits_join .i64 40 (by decide) hw 24 (a * 16777216) (b * 65536) (by omega) (by omega) (by omega) (by omega) (by omega) (by omega)]
  rw [bits_join .i64 40 (by decide) hw 16 (a * 16777216 + b * 65536) (c * 256) (by omega) (by omega) (by omega) (by omega) (by omega) (by omega)]
  rw [bits_join .i64 40 (by decide) hw 8 (a * 16777216 + b * 65536 + c * 256) d (by omega) (by omega) (by omega) (by omega) (by omega) (by omega)]
end Go.Proofs.Ytkegdgdkfbmabaa.Q
