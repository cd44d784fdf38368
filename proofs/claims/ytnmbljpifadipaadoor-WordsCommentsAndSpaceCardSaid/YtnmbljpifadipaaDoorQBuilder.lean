/- The contracts of strings.Builder's WriteString and String, of a builder that the call has made itself, at this translation's numbers. -/
import Derived.Shelf.Lay
import Derived.Shelf.Strings.Builder1
import Derived.Test.YtnmbljpifadipaaDoorProg
namespace Go.Proofs.YtnmbljpifadipaaDoor.H
open Go.Shelf Go.RowKit
def ren : Ren := ⟨fun | 166 => 40 | 169 => 42 | 240 => 51 | 276 => 63 | n => n,
  fun | 0 => 0 | 3 => 3 | 4 => 4 | 5 => 5 | 9 => 9 | 20 => 20 | 37 => 35 | 70 => 64 | 72 => 66 | 75 => 58 | 80 => 68 | 127 => 73 | 164 => 84 | n => n, fun n => n⟩
set_option maxRecDepth 100000 in
theorem lays166 : Lays.n166 Tryd.prog ren := by constructor <;> first | kernel_rfl | exact fun _ => by kernel_rfl
set_option maxRecDepth 100000 in
theorem lays169 : Lays.n169 Tryd.prog ren := by constructor <;> first | kernel_rfl | exact fun _ => by kernel_rfl
theorem extra : Builder.Extra Tryd.prog ren := { sizeBuilder := by kernel_rfl, liesBuilder := by kernel_rfl, t5 := Tryd.underlying5, a5 := Tryd.isAgg5, z5 := Tryd.sizeOf5, v5 := Tryd.zeroValue5, infoByte := by kernel_rfl, cellsByte := by kernel_rfl, sizeByte := by kernel_rfl, neB5 := by decide }
theorem writeString (B b : Nat) (bs : List Value) (s : ByteArray) (w : World) (h : Lib.IsBuilder 66 5 B b bs w) (hlen : bs.length + s.size ≤ 140737488355328) (hBw : B ≤ w.heap.size) :
    Calls Tryd.prog 40 #[.pointer (some ⟨b, 0, none⟩), .string s] w fun e w' => e = .returned (.tuple #[.int .i64 s.size, .nilIface]) ∧ (Lib.BuilderAt 66 5 B b (.pointer (some ⟨b, 0, none⟩)) (bs ++ Lib.strCells s) w' ∧ Below B w w') := Any.Builder_WriteString lays166 extra B b bs s w h hlen hBw
theorem string_any (B b : Nat) (l : List UInt8) (w : World) (h : Lib.IsBuilder 66 5 B b (Lib.byteCells l) w) (hBw : B ≤ w.heap.size) :
    Calls Tryd.prog 42 #[.pointer (some ⟨b, 0, none⟩)] w fun e w' => e = .returned (.string ⟨l.toArray⟩) ∧ Below B w w' := Any.Builder_String_any lays169 extra B b l w h hBw
/-- A builder that holds the bytes of s. -/
def Sb (B b : Nat) (s : ByteArray) (w : World) : Prop := Lib.IsBuilder 66 5 B b (Lib.byteCells s.data.toList) w
theorem put (B b : Nat) (a s : ByteArray) (w : World) (h : Sb B b a w) (hlen : a.size + s.size ≤ 140737488355328) (hBw : B ≤ w.heap.size) :
    Calls Tryd.prog 40 #[.pointer (some ⟨b, 0, none⟩), .string s] w fun e w' => e = .returned (.tuple #[.int .i64 s.size, .nilIface]) ∧ Sb B b (a ++ s) w' ∧ Below B w w' := by
  refine (writeString B b _ s w h (by simpa [Lib.byteCells] using hlen) hBw).mono ?_
  rintro e w' ⟨rfl, h1, h2⟩
  refine ⟨rfl, .inr ?_, h2⟩
  have e1 : Lib.byteCells a.data.toList ++ Lib.strCells s = Lib.byteCells (a ++ s).data.toList := by
    rw [Lib.strCells_eq]; simp [Lib.byteCells, ByteArray.data_append]
  rw [← e1]; exact h1
theorem got (B b : Nat) (a : ByteArray) (w : World) (h : Sb B b a w) (hBw : B ≤ w.heap.size) :
    Calls Tryd.prog 42 #[.pointer (some ⟨b, 0, none⟩)] w fun e w' => e = .returned (.string a) ∧ Below B w w' := string_any B b _ w h hBw
theorem fresh (w : World) : Sb w.heap.size w.heap.size ⟨#[]⟩ (w.alloc (.cells #[.pointer none, .slice none 0 0] 66)) := Lib.fresh_isBuilder _ _ w
theorem start {B b : Nat} {w : World} (hb : B ≤ b) (h : w.heap[b]? = some (.cells #[.pointer none, .slice none 0 0] 66 (0, 0))) : Sb B b ⟨#[]⟩ w :=
  .inl ⟨hb, .slice none 0 0, h, ⟨rfl, .inl ⟨rfl, rfl⟩⟩, by simp [Value.ownBlock]⟩
theorem sb_lt {B b : Nat} {s : ByteArray} {w : World} (h : Sb B b s w) : b < w.heap.size := by
  rcases h with h | h <;> exact Lib.BuilderAt.lt h
theorem sb_below {B b : Nat} {s : ByteArray} {w w1 : World} (h : Sb B b s w) (hb : Below w.heap.size w w1) : Sb B b s w1 := by
  have go : ∀ p, Lib.BuilderAt 66 5 B b p (Lib.byteCells s.data.toList) w → Lib.BuilderAt 66 5 B b p (Lib.byteCells s.data.toList) w1 := by
    rintro p ⟨h1, v, h2, h3, h4⟩
    have lt : ∀ {k : Nat} {o : Obj}, w.heap[k]? = some o → k < w.heap.size := fun h => (Array.getElem?_eq_some_iff.1 h).1
    refine ⟨h1, v, (hb.block b (lt h2)).trans h2, ?_, h4⟩
    obtain ⟨q1, q2⟩ := h3
    refine ⟨q1, ?_⟩
    rcases q2 with q2 | ⟨g, cap, cur, rfl, hg, hh, r⟩
    · exact .inl q2
    · exact .inr ⟨g, cap, cur, rfl, hg, (hb.block g (lt hh)).trans hh, r⟩
  rcases h with h | h
  · exact .inl (go _ h)
  · exact .inr (go _ h)
end Go.Proofs.YtnmbljpifadipaaDoor.H
