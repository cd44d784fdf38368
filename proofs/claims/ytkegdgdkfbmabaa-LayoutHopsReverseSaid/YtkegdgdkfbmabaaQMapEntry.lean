/- 'm[k] = append(m[k], v)' on a map that the call has made; keys that are ends of sections; the links that each end has. -/
import Derived.WideKeyEntry
import Derived.DeepKeys4
import Derived.Test.YtkegdgdkfbmabaaQNames
import Derived.Test.YtkegdgdkfbmabaaQMapIs
namespace Go.Proofs.Ytkegdgdkfbmabaa.X
open Go Go.RowKit Go.Maps Go.Proofs.YtkegdgdkfbmabaaW Go.Proofs.YtkegdgdkfbmabaaW.PrintWords Go.Proofs.YtkegdgdkfbmabaaW.PrintLast Go.Proofs.YtkegdgdkfbmabaaW.PrintMore
open Go.WideMaps (KeyLaw)
open Go.ChangeMaps (setBlock heap_setBlock_same heap_setBlock_other)
set_option linter.unusedVariables false
set_option linter.unusedSimpArgs false
section
variable {P : Program} {k e t : TypeId} {R : Value → Option (DataW Unit × List MemPlace)} {w : World} {b n : Nat} {f : Lit → Option (DataW Unit)}
theorem gb_setBlock {w : World} {b : Nat} {es : Array MapEntry} {c : Nat} {o' : Obj} (hb : w.heap[b]? = some (.map es c)) : w.grownBy (setBlock w b o') (some b) :=
  ⟨rfl, rfl, rfl, by simp [setBlock], fun i _ hi => heap_setBlock_other hb _ (fun e => hi (by rw [e]))⟩
theorem pw_inj {α β : Type} {g : α → β} : ∀ {l : List α}, l.Pairwise (fun p q => g p ≠ g q) → ∀ {a b : α}, a ∈ l → b ∈ l → g a = g b → a = b
  | [], _, a, _, ha, _, _ => by cases ha
  | x :: l, h, a, b, ha, hb, hg => by
    obtain ⟨h1, h2⟩ := List.pairwise_cons.1 h
    rcases List.mem_cons.1 ha with ea | ha
    · rcases List.mem_cons.1 hb with eb | hb
      · rw [ea, eb]
      · exact absurd (by rw [← ea]; exact hg) (h1 _ hb)
    · rcases List.mem_cons.1 hb with eb | hb
      · exact absurd (by rw [← eb]; exact hg.symm) (h1 _ ha)
      · exact pw_inj h2 ha hb hg
theorem MapIs.entry [DecidableEq Lit] (h : MapIs P k R w b n f) (K : KeyLaw P k) (ht : P.underlying t = some (.map k e)) {z : Value} (hz : ∀ u : World, (zeroValue e).run P u = .ok z u) {zd : DataW Unit} {zp : List MemPlace} (hzd : R z = some (zd, zp)) (hn : n < maxLen) {key : Value} {kl : Lit} (hkey : keyOf P k key = some kl) :
    ∃ (v0 : Value) (st : Nat) (es1 : Array MapEntry) (c1 : Nat) (ps0 : List MemPlace), (Instr.mapEntry t (.map (some b)) key).run P w = .ok (.tuple #[v0, goInt st]) (setBlock w b (.map es1 c1)) ∧ R v0 = some ((f kl).getD zd, ps0) ∧ w.grownBy (setBlock w b (.map es1 c1)) (some b) ∧ (setBlock w b (.map es1 c1)).heap[b]? = some (.map es1 c1) ∧
      ∀ (w2 : World) (val : Value) (d : DataW Unit) (ps : List MemPlace), w2.heap[b]? = some (.map es1 c1) → R val = some (d, ps) → ∃ w', (Instr.entryStore t (.map (some b)) (goInt st) val).run P w2 = .ok () w' ∧ MapIs P k R w' b (n + 1) (fun kl' => if kl' = kl then some d else f kl') ∧ w2.grownBy w' (some b) := by
  obtain ⟨D, hD, hf⟩ := h
  have hD0 := hD
  obtain ⟨es, clock, hb, F, hs, hDe⟩ := hD
  obtain ⟨v0, st, es1, c1, h1, h2, h3⟩ := WideElems.entry_then_store K ht hz hb F hkey
  obtain ⟨v, ps0, hrun, hv⟩ := hD0.lookup (Keyed.of_law K) ht (hz w) hzd hkey
  rw [(hf kl).2 zd] at hv
  refine ⟨v0, st, es1, c1, ps0, h1, ?_, gb_setBlock hb, heap_setBlock_same hb _, ?_⟩
  · have hv0 : v0 = v := by
      rcases Maps.fit_look false (Keyed.of_law K) ht (hz w) hb F hkey with ⟨hrun2, hno, _⟩ | ⟨e0, y, he0, hek, hrun2, _, _, _⟩
      · have hvz : v = z := by have := hrun.symm.trans hrun2; simpa using this
        rcases h2 with ⟨e1, he1, hk1, hv1⟩ | ⟨_, hz1⟩
        · exact absurd hk1 (hno e1 he1)
        · rw [hz1, hvz]
      · have hve : v = e0.val := by have := hrun.symm.trans hrun2; simpa using this
        rcases h2 with ⟨e1, he1, hk1, hv1⟩ | ⟨hno, _⟩
        · have : e1 = e0 := pw_inj (g := fun x => x.key) ((MapKept.stamped_iff es clock).1 F.stamped).2.2 he1 he0 (hk1.trans hek.symm)
          rw [hv1, hve, this]
        · exact absurd hek (hno e0 he0)
    rw [hv0]; exact hv
  · intro w2 val d ps hw2 hval
    obtain ⟨es', clock', hst, hup⟩ := h3 w2 val hw2
    obtain ⟨w', hup2, hown', _⟩ := hD0.update (Keyed.of_law K) ht hn hkey hval
    have hww : w' = setBlock w b (.map es' clock') := by have := hup2.symm.trans hup; simpa using this
    subst hww
    refine ⟨_, hst, ⟨D.put kl d, ?_, MapIs.put (Keyed.of_law K) hD0.isMap hf hkey d⟩, gb_setBlock hw2⟩
    obtain ⟨es2, cl2, hb2, r⟩ := hown'
    rw [heap_setBlock_same hb] at hb2
    exact ⟨es2, cl2, by rw [heap_setBlock_same hw2]; exact hb2, r⟩
end
theorem endWide : (match Try.prog.underlying 59 with | some (.array _ _) | some (.struct _) => true | _ => false) = true := by kernel_rfl
theorem endLaid : laidOutB Try.prog = true := by kernel_rfl
theorem endRow : 59 < Try.prog.types.size := of_decide_eq_true (by kernel_rfl)
theorem endLaw : KeyLaw Try.prog 59 := deep_law_laid endLaid (m := 2) (by omega) endRow (by kernel_rfl) endWide
/-- An end as a key. -/
def endV (e : Int × Int) : Value := .agg #[.int .i64 e.1, .int .i64 e.2]
def endL (e : Int × Int) : Lit := .string (keyBytes [.int .i64 e.1, .int .i64 e.2])
theorem end_key (e : Int × Int) (h1 : (Lit.int .i64 e.1).wf = true) (h2 : (Lit.int .i64 e.2).wf = true) : keyOf Try.prog 59 (endV e) = some (endL e) := by
  have hkt : Try.prog.keyType 59 = true := by kernel_rfl
  have hfm : (endV e).formed Try.prog 59 = true := by
    have hc : Try.prog.cellsOf 59 = 2 := by kernel_rfl
    simp [endV, Value.formed, Try.underlying59, hc]
  unfold keyOf
  rw [Try.underlying59]
  simp only [hkt, hfm, Bool.and_self, if_true]
  obtain ⟨m, hm⟩ : ∃ m, Try.prog.types.size + 1 = m + 2 := ⟨Try.prog.types.size - 1, by have := endRow; omega⟩
  rw [hm]
  have hc : Try.prog.cellsOf 59 = 2 := by kernel_rfl
  have hc1 : Try.prog.cellsOf 3 = 1 := by kernel_rfl
  have hv : (endV e).cells.toList = [.int .i64 e.1, .int .i64 e.2] := by simp [endV, Value.cells]
  rw [hv]
  unfold Program.keyLits
  rw [Try.underlying59]
  have hi : ∀ n : Int, (Lit.int .i64 n).wf = true → Try.prog.keyLits (m + 1) 3 [.int .i64 n] = some [.int .i64 n] := by
    intro n hn
    unfold Program.keyLits
    rw [Try.underlying3]
    simp only [hn, and_self, if_true]
  simp only [hc]
  rw [if_pos ⟨rfl, by simp⟩]
  simp only [List.mapM_cons, List.mapM_nil, hc1, List.drop_zero, List.drop_succ_cons, List.take_succ_cons, List.take_zero, hi _ h1, hi _ h2]
  rfl
end Go.Proofs.Ytkegdgdkfbmabaa.X
