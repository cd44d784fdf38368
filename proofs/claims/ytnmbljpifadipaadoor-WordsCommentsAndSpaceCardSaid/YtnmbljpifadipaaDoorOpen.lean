/- What comes in, read as data: whole numbers, bools, strings, slices and structs of them. -/
import Derived.SizedLaws
import Derived.Deep.Slices
import Derived.OpenShut
import Derived.ProofKit
import Derived.Lib.SmallJoins
import Derived.DataElems
import Derived.Test.YtnmbljpifadipaaDoorVMore1
namespace Go.Proofs.YtnmbljpifadipaaDoorW.Open
open Go Go.RowKit Go.Proofs.YtnmbljpifadipaaDoorW.PrintWords

/-- Data of type t that can be read is of the kind d; B: what is known of it besides. -/
def Opn {α : Type} (P : Program) (d : Kd α) (t : TypeId) (B : α → Prop) : Prop :=
  ∀ (H : Type) (enc : TypeId × Value → H) (w : World) (base : Nat) (spare : Nat → Bool) (held : Bool) (fuel : Nat) (cs : List Value) (y : DataW H × List MemPlace),
    DataW.trod enc P w base spare held fuel t cs = some y → (∀ n ∈ y.1.weights P t, n ≤ reachBytes) → ∃ x, d.K w x cs ∧ B x
theorem opn_int {P : Program} {t : TypeId} {k : IntKind} (ht : P.underlying t = some (.int k)) : Opn P (Kd.int k) t (fun x => (Lit.int k x).wf = true) := by
  intro H enc w base spare held fuel cs y h _
  obtain ⟨n, rfl, _, hw⟩ := DataW.trod_int ht h
  exact ⟨n, rfl, hw⟩
theorem opn_bool {P : Program} {t : TypeId} (ht : P.underlying t = some .bool) : Opn P Kd.bool t (fun _ => True) := by
  intro H enc w base spare held fuel cs y h _
  obtain ⟨b, rfl, _⟩ := DataW.trod_bool ht h
  exact ⟨b, rfl, trivial⟩
theorem opn_string {P : Program} {t : TypeId} (ht : P.underlying t = some .string) : Opn P Kd.string t (fun x => x.size ≤ 140737488351232) := by
  intro H enc w base spare held fuel cs y h hw
  obtain ⟨s, rfl, rfl, _⟩ := DataW.trod_string ht h
  refine ⟨s, rfl, ?_⟩
  have := hw s.data.toList.length (by simp [DataW.weights])
  rwa [Array.length_toList] at this
theorem weights_all {H : Type} {P : Program} {e : TypeId} {l : List (DataW H)} {x : DataW H} (hx : x ∈ l) : ∀ n ∈ x.weights P e, n ∈ DataW.weightsAll P e l := by
  induction l with
  | nil => cases hx
  | cons y l ih =>
    intro n hn
    unfold DataW.weightsAll
    rcases List.mem_cons.1 hx with rfl | h
    · exact List.mem_append_left _ hn
    · exact List.mem_append_right _ (ih h n hn)
theorem weights_each {H : Type} {P : Program} : ∀ {ts : List TypeId} {l : List (DataW H)} {i : Nat} {t : TypeId} {x : DataW H}, ts[i]? = some t → l[i]? = some x → ∀ n ∈ x.weights P t, n ∈ DataW.weightsEach P ts l := fun ht hx => DataW.weights_mem_each ht hx
theorem choose_list {α : Type} {p : Nat → α → Prop} (n : Nat) (h : ∀ i, i < n → ∃ x, p i x) : ∃ l : List α, l.length = n ∧ ∀ i x, l[i]? = some x → p i x := by
  induction n with
  | zero => exact ⟨[], rfl, fun i x hx => by simp at hx⟩
  | succ n ih =>
    obtain ⟨l, hl, hp⟩ := ih fun i hi => h i (by omega)
    obtain ⟨x, hx⟩ := h n (by omega)
    refine ⟨l ++ [x], by simp [hl], fun i y hy => ?_⟩
    rcases Nat.lt_or_ge i l.length with hi | hi
    · rw [List.getElem?_append_left hi] at hy; exact hp i y hy
    · rw [List.getElem?_append_right hi] at hy
      have h0 : i - l.length = 0 := by
        rcases Nat.lt_or_ge (i - l.length) 1 with h | h
        · omega
        · rw [List.getElem?_eq_none (by simpa using h)] at hy; cases hy
      have : i = n := by omega
      subst this
      rw [h0] at hy
      have : x = y := by simpa using hy
      subst this; exact hx
theorem opn_slice {α : Type} {P : Program} {d : Kd α} {t e : TypeId} {b : Nat} {B : α → Prop} (ht : P.underlying t = some (.slice e)) (hc : P.cellsOf e = d.sz) (hb : P.bytesOf e = b) (he : Opn P d e B) :
    Opn P (Kd.slice e d) t (fun xs => xs.length * b ≤ 140737488351232 ∧ xs.length ≤ maxLen ∧ ∀ x ∈ xs, B x) := by
  intro H enc w base spare held fuel cs y h hw
  rcases Deep.open_slice ht h with ⟨rfl, rfl⟩ | ⟨a, len, cap, m, n, D, Pl, rfl, hba, hl, hm, hmm, rfl, hx⟩
  · exact ⟨[], ⟨none, 0, rfl, Nat.le_refl _, by rfl, by simp, fun h => by simp at h⟩, by simp, by simp, by simp⟩
  · have hlm : len ≤ m := by rw [hmm]; split <;> omega
    have hel : ∀ i, i < len → ∃ x, (∃ c : List Value, c.length = d.sz ∧ d.K w x c ∧ ∀ j u, c[j]? = some u → w.cell? (a.add (i * d.sz + j)) = some u) ∧ B x := by
      intro i hi
      obtain ⟨cs', hcs, htr⟩ := hx i (by omega)
      obtain ⟨x, hK, hB⟩ := he H enc w base spare held n cs' (D i, Pl i) htr (fun q hq => hw q (by
        unfold DataW.weights; rw [ht]
        exact List.mem_cons_of_mem _ (List.mem_append_left _ (weights_all (List.mem_map.2 ⟨i, by simpa using hi, rfl⟩) q hq))))
      obtain ⟨_, hlen, hcell⟩ := World.cells?_some hcs
      refine ⟨x, ⟨cs', hlen.trans hc, hK, fun j u hu => ?_⟩, hB⟩
      have hj : j < cs'.length := by
        rcases Nat.lt_or_ge j cs'.length with h | h
        · exact h
        · rw [List.getElem?_eq_none h] at hu; cases hu
      have := hcell j (by rw [← hlen]; exact hj)
      rw [hu, hc] at this
      rw [← this, Addr.add_add]
    obtain ⟨xs, hxl, hxs⟩ := choose_list len hel
    subst hxl
    refine ⟨xs, ⟨some a, cap, rfl, hl, ⟨rfl, Nat.le_trans hl hm, fun _ => ⟨a, rfl, fun j p hp => (hxs j p hp).1⟩⟩⟩, ?_, Nat.le_trans hl hm, ?_⟩
    · have := hw ((((List.range xs.length).map D).length + ((List.range (m - xs.length)).map fun j => D (xs.length + j)).length) * P.bytesOf e) (by unfold DataW.weights; rw [ht]; exact List.mem_cons_self ..)
      rw [hb, List.length_map, List.length_range, List.length_map, List.length_range] at this
      exact Nat.le_trans (Nat.mul_le_mul_right _ (by omega)) this
    · intro x hxm
      obtain ⟨i, hi⟩ := List.mem_iff_getElem?.1 hxm
      exact (hxs i x hi).2
/-- A struct's fields, each by itself. -/
theorem opn_field {α : Type} {P : Program} {d : Kd α} {t : TypeId} {fs : Array Field} {f : Field} {B : α → Prop} (i : Nat) {H : Type} {enc : TypeId × Value → H} {w : World} {base : Nat} {spare : Nat → Bool} {held : Bool} {n : Nat} {cs : List Value} {xs : List (DataW H × List MemPlace)}
    (ht : P.underlying t = some (.struct fs)) (hlen : xs.length = fs.size) (hf : ∀ (i : Nat) (f : Field), fs[i]? = some f → DataW.trod enc P w base spare held n f.type ((cs.drop f.offset).take (P.cellsOf f.type)) = xs[i]?)
    (hw : ∀ q ∈ (DataW.agg (xs.map (·.1))).weights P t, q ≤ reachBytes) (hi : fs[i]? = some f) (he : Opn P d f.type B) : ∃ x, d.K w x ((cs.drop f.offset).take (P.cellsOf f.type)) ∧ B x := by
  have hlt : i < xs.length := by
    rw [hlen]
    rcases Nat.lt_or_ge i fs.size with h | h
    · exact h
    · rw [Array.getElem?_eq_none h] at hi; cases hi
  have h1 := hf i f hi
  rw [List.getElem?_eq_getElem hlt] at h1
  refine he H enc w base spare held n _ _ h1 fun q hq => hw q ?_
  unfold DataW.weights; rw [ht]
  refine weights_each (i := i) (t := f.type) (x := xs[i].1) ?_ ?_ q hq
  · rw [List.getElem?_map, Array.getElem?_toList, hi]; rfl
  · rw [List.getElem?_map, List.getElem?_eq_getElem hlt]; rfl
theorem cut {α : Type} {d : Kd α} {w : World} {x : α} {cs : List Value} {o c c' : Nat} (h : d.K w x ((cs.drop o).take c)) (hc : c = c') : d.K w x ((cs.drop o).take c') := hc ▸ h
theorem pairK {α β : Type} {a : Kd α} {b : Kd β} {w : World} {x : α} {y : β} {cs : List Value} {o c r : Nat} (ka : a.K w x ((cs.drop o).take c)) (kb : b.K w y ((cs.drop (o + c)).take r)) : (Kd.pair a b).K w (x, y) ((cs.drop o).take (c + r)) :=
  ⟨_, _, by rw [List.take_add, List.drop_drop], ka, kb⟩
theorem wholeK {α : Type} {d : Kd α} {w : World} {x : α} {cs : List Value} {n : Nat} (h : d.K w x ((cs.drop 0).take n)) (hl : cs.length = n) : d.K w x cs := by
  rw [List.drop_zero, List.take_of_length_le (by omega)] at h; exact h
/-- An argument. -/
theorem opn_arg {α : Type} {P : Program} {d : Kd α} {t : TypeId} {B : α → Prop} (ho : Opn P d t B) {H : Type} {enc : TypeId × Value → H} {w : World} {base : Nat} {spare : Nat → Bool} {held : Bool} {v : Value} {y : DataW H} {ps : List MemPlace} (h : DataW.Trod enc P w base spare held t v y ps) (hw : ∀ n ∈ y.weights P t, n ≤ reachBytes) :
    ∃ x, d.K w x v.cells.toList ∧ B x := by
  obtain ⟨fuel, hf⟩ := h
  exact ho H enc w base spare held fuel _ _ hf hw
end Go.Proofs.YtnmbljpifadipaaDoorW.Open
