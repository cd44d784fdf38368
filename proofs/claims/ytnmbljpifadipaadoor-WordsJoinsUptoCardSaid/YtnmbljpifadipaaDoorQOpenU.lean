/- What comes in, read as data of a bulk that is told: for statements with a bound on the bulk. -/
import Derived.Test.YtnmbljpifadipaaDoorRows
import Derived.Test.YtnmbljpifadipaaDoorOpen
namespace Go.Proofs.YtnmbljpifadipaaDoorW.OpenU
open Go Go.RowKit Go.Proofs.YtnmbljpifadipaaDoorW.PrintWords
set_option linter.unusedVariables false
/-- Data of type t that can be read is of the kind d; B: what is known of it besides; m: at most its bulk. -/
def OpnU {α : Type} (P : Program) (d : Kd α) (t : TypeId) (B : α → Prop) (m : α → Nat) : Prop :=
  ∀ (H : Type) (enc : TypeId × Value → H) (w : World) (base : Nat) (spare : Nat → Bool) (held : Bool) (fuel : Nat) (cs : List Value) (y : DataW H × List MemPlace),
    DataW.trod enc P w base spare held fuel t cs = some y → (∀ n ∈ y.1.weights P t, n ≤ reachBytes) → ∃ x, d.K w x cs ∧ B x ∧ m x ≤ Go.Proofs.YtnmbljpifadipaaDoor.Rows.uptoBulk y.1
theorem one_le {H : Type} (d : DataW H) : 1 ≤ Go.Proofs.YtnmbljpifadipaaDoor.Rows.uptoBulk d := by
  cases d with
  | lit l => cases l <;> simp [Go.Proofs.YtnmbljpifadipaaDoor.Rows.uptoBulk]
  | nil => simp [Go.Proofs.YtnmbljpifadipaaDoor.Rows.uptoBulk]
  | ptr d => simp [Go.Proofs.YtnmbljpifadipaaDoor.Rows.uptoBulk]
  | slice elems spare => simp [Go.Proofs.YtnmbljpifadipaaDoor.Rows.uptoBulk]
  | agg parts => simp [Go.Proofs.YtnmbljpifadipaaDoor.Rows.uptoBulk]
  | iface t d => simp [Go.Proofs.YtnmbljpifadipaaDoor.Rows.uptoBulk]
  | map entries => simp [Go.Proofs.YtnmbljpifadipaaDoor.Rows.uptoBulk]
  | held h => simp [Go.Proofs.YtnmbljpifadipaaDoor.Rows.uptoBulk]
theorem opn_any {α : Type} {P : Program} {d : Kd α} {t : TypeId} {B : α → Prop} (h : Open.Opn P d t B) : OpnU P d t B (fun _ => 1) := by
  intro H enc w base spare held fuel cs y hy hw
  obtain ⟨x, h1, h2⟩ := h H enc w base spare held fuel cs y hy hw
  exact ⟨x, h1, h2, one_le _⟩
theorem opn_string {P : Program} {t : TypeId} (ht : P.underlying t = some .string) : OpnU P Kd.string t (fun x => x.size ≤ 140737488351232) (fun x => x.size + 1) := by
  intro H enc w base spare held fuel cs y h hw
  obtain ⟨s, rfl, rfl, _⟩ := DataW.trod_string ht h
  refine ⟨s, rfl, ?_, ?_⟩
  · have := hw s.data.toList.length (by simp [DataW.weights])
    rwa [Array.length_toList] at this
  · simp only [Go.Proofs.YtnmbljpifadipaaDoor.Rows.uptoBulk]
    rw [Array.length_toList]; exact Nat.le_refl _
theorem all_append {H : Type} (l r : List (DataW H)) : Go.Proofs.YtnmbljpifadipaaDoor.Rows.uptoBulkAll (l ++ r) = Go.Proofs.YtnmbljpifadipaaDoor.Rows.uptoBulkAll l + Go.Proofs.YtnmbljpifadipaaDoor.Rows.uptoBulkAll r := by
  induction l with
  | nil => simp [Go.Proofs.YtnmbljpifadipaaDoor.Rows.uptoBulkAll]
  | cons x l ih => simp only [List.cons_append, Go.Proofs.YtnmbljpifadipaaDoor.Rows.uptoBulkAll, ih]; omega
theorem sum_le {α H : Type} (m : α → Nat) : ∀ (xs : List α) (ys : List (DataW H)), xs.length = ys.length → (∀ (i : Nat) (x : α) (y : DataW H), xs[i]? = some x → ys[i]? = some y → m x ≤ Go.Proofs.YtnmbljpifadipaaDoor.Rows.uptoBulk y) → (xs.map m).sum ≤ Go.Proofs.YtnmbljpifadipaaDoor.Rows.uptoBulkAll ys
  | [], [], _, _ => by simp [Go.Proofs.YtnmbljpifadipaaDoor.Rows.uptoBulkAll]
  | x :: xs, y :: ys, hl, h => by
    have h1 := h 0 x y rfl rfl
    have h2 := sum_le m xs ys (by simpa using hl) (fun i a b ha hb => h (i + 1) a b (by simpa using ha) (by simpa using hb))
    simp only [List.map_cons, List.sum_cons, Go.Proofs.YtnmbljpifadipaaDoor.Rows.uptoBulkAll]
    omega
  | [], y :: ys, hl, _ => by simp at hl
  | x :: xs, [], hl, _ => by simp at hl
theorem opn_slice {α : Type} {P : Program} {d : Kd α} {t e : TypeId} {b : Nat} {B : α → Prop} {m : α → Nat} (ht : P.underlying t = some (.slice e)) (hc : P.cellsOf e = d.sz) (hb : P.bytesOf e = b) (he : OpnU P d e B m) :
    OpnU P (Kd.slice e d) t (fun xs => xs.length * b ≤ 140737488351232 ∧ xs.length ≤ maxLen ∧ ∀ x ∈ xs, B x) (fun xs => (xs.map m).sum + 1) := by
  intro H enc w base spare held fuel cs y h hw
  rcases Deep.open_slice ht h with ⟨rfl, rfl⟩ | ⟨a, len, cap, mm, n, D, Pl, rfl, hba, hl, hm, hmm, rfl, hx⟩
  · exact ⟨[], ⟨none, 0, rfl, Nat.le_refl _, by rfl, by simp, fun h => by simp at h⟩, by simp, by simp [Go.Proofs.YtnmbljpifadipaaDoor.Rows.uptoBulk]⟩
  · have hlm : len ≤ mm := by rw [hmm]; split <;> omega
    have hel : ∀ i, i < len → ∃ x, (∃ c : List Value, c.length = d.sz ∧ d.K w x c ∧ ∀ j u, c[j]? = some u → w.cell? (a.add (i * d.sz + j)) = some u) ∧ B x ∧ m x ≤ Go.Proofs.YtnmbljpifadipaaDoor.Rows.uptoBulk (D i) := by
      intro i hi
      obtain ⟨cs', hcs, htr⟩ := hx i (by omega)
      obtain ⟨x, hK, hB, hM⟩ := he H enc w base spare held n cs' (D i, Pl i) htr (fun q hq => hw q (by
        unfold DataW.weights; rw [ht]
        exact List.mem_cons_of_mem _ (List.mem_append_left _ (Open.weights_all (List.mem_map.2 ⟨i, by simpa using hi, rfl⟩) q hq))))
      obtain ⟨_, hlen, hcell⟩ := World.cells?_some hcs
      refine ⟨x, ⟨cs', hlen.trans hc, hK, fun j u hu => ?_⟩, hB, hM⟩
      have hj : j < cs'.length := by
        rcases Nat.lt_or_ge j cs'.length with h | h
        · exact h
        · rw [List.getElem?_eq_none h] at hu; cases hu
      have := hcell j (by rw [← hlen]; exact hj)
      rw [hu, hc] at this
      rw [← this, Addr.add_add]
    obtain ⟨xs, hxl, hxs⟩ := Open.choose_list len hel
    subst hxl
    refine ⟨xs, ⟨some a, cap, rfl, hl, ⟨rfl, Nat.le_trans hl hm, fun _ => ⟨a, rfl, fun j p hp => (hxs j p hp).1⟩⟩⟩, ⟨?_, Nat.le_trans hl hm, ?_⟩, ?_⟩
    · have := hw ((((List.range xs.length).map D).length + ((List.range (mm - xs.length)).map fun j => D (xs.length + j)).length) * P.bytesOf e) (by unfold DataW.weights; rw [ht]; exact List.mem_cons_self ..)
      rw [hb, List.length_map, List.length_range, List.length_map, List.length_range] at this
      exact Nat.le_trans (Nat.mul_le_mul_right _ (by omega)) this
    · intro x hxm
      obtain ⟨i, hi⟩ := List.mem_iff_getElem?.1 hxm
      exact (hxs i x hi).2.1
    · have h1 := sum_le m xs ((List.range xs.length).map D) (by simp) (fun i x y hx hy => by
        have := (hxs i x hx).2.2
        have hi : i < xs.length := by
          rcases Nat.lt_or_ge i xs.length with h | h
          · exact h
          · rw [List.getElem?_eq_none h] at hx; cases hx
        have hy' : y = D i := by
          rw [List.getElem?_map, List.getElem?_range hi] at hy
          exact (Option.some.inj hy).symm
        rw [hy']; exact this)
      simp only [Go.Proofs.YtnmbljpifadipaaDoor.Rows.uptoBulk]
      omega
/-- An argument. -/
theorem opn_arg {α : Type} {P : Program} {d : Kd α} {t : TypeId} {B : α → Prop} {m : α → Nat} (ho : OpnU P d t B m) {H : Type} {enc : TypeId × Value → H} {w : World} {base : Nat} {spare : Nat → Bool} {held : Bool} {v : Value} {y : DataW H} {ps : List MemPlace} (h : DataW.Trod enc P w base spare held t v y ps) (hw : ∀ n ∈ y.weights P t, n ≤ reachBytes) :
    ∃ x, d.K w x v.cells.toList ∧ B x ∧ m x ≤ Go.Proofs.YtnmbljpifadipaaDoor.Rows.uptoBulk y := by
  obtain ⟨fuel, hf⟩ := h
  exact ho H enc w base spare held fuel _ _ hf hw
end Go.Proofs.YtnmbljpifadipaaDoorW.OpenU
