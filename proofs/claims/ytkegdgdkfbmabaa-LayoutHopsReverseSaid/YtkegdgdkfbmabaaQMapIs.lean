/- Maps that a call makes: sets of strings, first places of strings; what a look-up and a store come to. -/
import Derived.Maps.OwnSet
import Derived.Maps.Views
import Derived.Test.YtkegdgdkfbmabaaProg
import Derived.WalkKit
namespace Go.Proofs.Ytkegdgdkfbmabaa.X
open Go Go.RowKit Go.Maps
set_option linter.unusedVariables false
set_option linter.unusedSimpArgs false
/-- Block b is a map that holds at each key what f says. -/
def MapIs (P : Program) (k : TypeId) (R : Value → Option (DataW Unit × List MemPlace)) (w : World) (b n : Nat) (f : Lit → Option (DataW Unit)) : Prop :=
  ∃ D, w.ownsMap P k R b n D ∧ ∀ kl, has D kl = (f kl).isSome ∧ ∀ z, D.atKey kl z = (f kl).getD z
section
variable {P : Program} {k e t : TypeId} {R : Value → Option (DataW Unit × List MemPlace)} {w w' : World} {b n : Nat} {f : Lit → Option (DataW Unit)}
theorem MapIs.made (w : World) (P : Program) (k : TypeId) (R : Value → Option (DataW Unit × List MemPlace)) : MapIs P k R (w.alloc (.map #[] 0)) w.heap.size 0 (fun _ => none) :=
  ⟨.map [], World.ownsMap_made w P k R, fun kl => ⟨rfl, fun z => rfl⟩⟩
theorem MapIs.lt (h : MapIs P k R w b n f) : b < w.heap.size := by obtain ⟨D, h1, _⟩ := h; exact h1.lt
theorem MapIs.kept (h : MapIs P k R w b n f) {row : Option Nat} (hg : w.grownBy w' row) (hne : some b ≠ row) : MapIs P k R w' b n f := by
  obtain ⟨D, h1, h2⟩ := h; exact ⟨D, h1.kept hg hne, h2⟩
theorem MapIs.below (h : MapIs P k R w b n f) (hb : Below w.heap.size w w') : MapIs P k R w' b n f := by
  obtain ⟨D, ⟨es, clock, hh, r⟩, h2⟩ := h
  exact ⟨D, ⟨es, clock, (hb.block b (Array.getElem?_eq_some_iff.1 hh).1).trans hh, r⟩, h2⟩
theorem MapIs.mono (h : MapIs P k R w b n f) {n' : Nat} (hn : n ≤ n') : MapIs P k R w b n' f := by
  obtain ⟨D, h1, h2⟩ := h; exact ⟨D, h1.mono hn, h2⟩
theorem MapIs.ext (h : MapIs P k R w b n f) {g : Lit → Option (DataW Unit)} (hg : ∀ kl, f kl = g kl) : MapIs P k R w b n g := by
  obtain ⟨D, h1, h2⟩ := h; exact ⟨D, h1, fun kl => by rw [← hg kl]; exact h2 kl⟩
theorem MapIs.put {D : DataW Unit} (K : Keyed P k) (h1 : IsMap D) (h2 : ∀ kl, has D kl = (f kl).isSome ∧ ∀ z, D.atKey kl z = (f kl).getD z) {key : Value} {kl : Lit} (hkey : keyOf P k key = some kl) (d : DataW Unit) [DecidableEq Lit] :
    ∀ kl', has (D.put kl d) kl' = ((if kl' = kl then some d else f kl') : Option (DataW Unit)).isSome ∧ ∀ z, (D.put kl d).atKey kl' z = ((if kl' = kl then some d else f kl') : Option (DataW Unit)).getD z := by
  intro kl'
  by_cases hk : kl' = kl
  · subst hk
    rw [if_pos rfl]
    exact ⟨has_put_same h1 (K.key hkey) d, fun z => atKey_put_same h1 (K.key hkey) d z⟩
  · rw [if_neg hk]
    exact ⟨(has_put_other hk d).trans (h2 kl').1, fun z => (atKey_put_other hk d z).trans ((h2 kl').2 z)⟩
end
section
variable {P : Program} (w : World) {ops : Array Oper} {rest : List Oper} {o : Oper} {a : Act} {Q : Exit → Act → World → Prop}
/-- 'm[k]' at the operation. -/
theorem wpList_look_is (hg : o.guard = none) (m x : Operand) (t : TypeId) (hop : o.op = Op.lookup t m x false)
    (k e : TypeId) (K : Keyed P k) (ht : P.underlying t = some (.map k e)) (R : Value → Option (DataW Unit × List MemPlace)) {z : Value} (hz : (zeroValue e).run P w = .ok z w) {zd : DataW Unit} {zp : List MemPlace} (hzd : R z = some (zd, zp)) (b n : Nat) (f : Lit → Option (DataW Unit))
    (hm : a.eval m = .map (some b)) (hown : MapIs P k R w b n f) (key : Value) (kl : Lit) (hx : a.eval x = key) (hkey : keyOf P k key = some kl) (v : Value) (hv : ∀ u ps, R u = some ((f kl).getD zd, ps) → u = v)
    (hK : wpList P ops Q rest (a.put o.dst v) w) :
    wpList P ops Q (o :: rest) a w := by
  refine wpList_plain hg fun K' hK' => ?_
  obtain ⟨D, hD, hf⟩ := hown
  obtain ⟨u, ps, hrun, hat⟩ := hD.lookup K ht hz hzd hkey
  rw [(hf kl).2 zd] at hat
  obtain rfl := hv u ps hat
  unfold Oper.wp
  simp [execOp, hop, hm, hx, hrun, Result.andThen]
  exact hK' _ _ hK
/-- 'v, ok := m[k]' at the operation. -/
theorem wpList_lookok_is (hg : o.guard = none) (m x : Operand) (t : TypeId) (hop : o.op = Op.lookup t m x true)
    (k e : TypeId) (K : Keyed P k) (ht : P.underlying t = some (.map k e)) (R : Value → Option (DataW Unit × List MemPlace)) {z : Value} (hz : (zeroValue e).run P w = .ok z w) {zd : DataW Unit} {zp : List MemPlace} (hzd : R z = some (zd, zp)) (b n : Nat) (f : Lit → Option (DataW Unit))
    (hm : a.eval m = .map (some b)) (hown : MapIs P k R w b n f) (key : Value) (kl : Lit) (hx : a.eval x = key) (hkey : keyOf P k key = some kl) (v : Value) (hv : ∀ u ps, R u = some ((f kl).getD zd, ps) → u = v)
    (hK : wpList P ops Q rest (a.put o.dst (.tuple #[v, .bool (f kl).isSome])) w) :
    wpList P ops Q (o :: rest) a w := by
  refine wpList_plain hg fun K' hK' => ?_
  obtain ⟨D, hD, hf⟩ := hown
  obtain ⟨u, ps, hrun, hat⟩ := hD.look_ok K ht hz hzd hkey
  rw [(hf kl).2 zd] at hat
  rw [(hf kl).1] at hrun
  obtain rfl := hv u ps hat
  unfold Oper.wp
  simp [execOp, hop, hm, hx, hrun, Result.andThen]
  exact hK' _ _ hK
/-- 'm[k] = v' at the operation. -/
theorem wpList_put_is [DecidableEq Lit] (hg : o.guard = none) (m x v : Operand) (t : TypeId) (hop : o.op = Op.mapUpdate t m x v)
    (k e : TypeId) (K : Keyed P k) (ht : P.underlying t = some (.map k e)) (R : Value → Option (DataW Unit × List MemPlace)) (b n : Nat) (f : Lit → Option (DataW Unit))
    (hm : a.eval m = .map (some b)) (hown : MapIs P k R w b n f) (hn : n < maxLen) (key val : Value) (kl : Lit) (hx : a.eval x = key) (hv : a.eval v = val) (hkey : keyOf P k key = some kl)
    (d : DataW Unit) (ps : List MemPlace) (hval : R val = some (d, ps))
    (hK : ∀ w', MapIs P k R w' b (n + 1) (fun kl' => if kl' = kl then some d else f kl') → w.grownBy w' (some b) → wpList P ops Q rest (a.put o.dst undef) w') :
    wpList P ops Q (o :: rest) a w := by
  obtain ⟨D, hD, hf⟩ := hown
  exact wpList_mapUpdate_own w hg m x v t hop k e K ht R b n D hm hD hn key val kl hx hv hkey d ps hval fun w' h1 h2 => hK w' ⟨_, h1, MapIs.put K hD.isMap hf hkey d⟩ h2
end
theorem plainElem_bool_inv {P : Program} {e : TypeId} (he : P.underlying e = some .bool) {v : Value} {z : DataW Unit × List MemPlace} (h : plainElem P e v = some z) : ∃ x, v = .bool x ∧ z = (.lit (.bool x), []) := by
  unfold plainElem at h
  rw [he] at h
  cases v <;> simp at h
  subst h
  exact ⟨_, rfl, rfl⟩
def litS (s : ByteArray) : Lit := .string s.data.toList
theorem litS_inj {s t : ByteArray} : litS s = litS t ↔ s = t := by
  constructor
  · intro h
    unfold litS at h
    injection h with h
    cases s; cases t; simp only [ByteArray.mk.injEq]; exact Array.toList_inj.1 h
  · rintro rfl; rfl
open Classical in
/-- A set of strings. -/
noncomputable def setF (seen : List ByteArray) (kl : Lit) : Option (DataW Unit) := if ∃ u, u ∈ seen ∧ litS u = kl then some (DataW.lit (.bool true)) else none
theorem setF_yes {seen : List ByteArray} {s : ByteArray} (h : s ∈ seen) : setF seen (litS s) = some (DataW.lit (.bool true)) := by
  unfold setF
  rw [if_pos ⟨s, h, rfl⟩]
theorem setF_no {seen : List ByteArray} {s : ByteArray} (h : ¬ s ∈ seen) : setF seen (litS s) = none := by
  unfold setF
  rw [if_neg]
  rintro ⟨u, hu, he⟩
  exact h (litS_inj.1 he ▸ hu)
theorem setF_cons (D : DecidableEq Lit) (seen : List ByteArray) (s : ByteArray) (kl : Lit) : (if kl = litS s then some (DataW.lit (.bool true)) else setF seen kl) = setF (s :: seen) kl := by
  unfold setF
  by_cases h : kl = litS s
  · rw [if_pos h, if_pos ⟨s, List.mem_cons_self .., h.symm⟩]
  · rw [if_neg h]
    by_cases h2 : ∃ u, u ∈ seen ∧ litS u = kl
    · obtain ⟨u, hu, he⟩ := h2
      rw [if_pos ⟨u, hu, he⟩, if_pos ⟨u, List.mem_cons_of_mem _ hu, he⟩]
    · rw [if_neg h2, if_neg]
      rintro ⟨u, hu, he⟩
      rcases List.mem_cons.1 hu with rfl | hu
      · exact h he.symm
      · exact h2 ⟨u, hu, he⟩
def SetIs (w : World) (b n : Nat) (seen : List ByteArray) : Prop := MapIs Try.prog 9 (plainElem Try.prog 4) w b n (setF seen)
theorem SetIs.made (w : World) : SetIs (w.alloc (.map #[] 0)) w.heap.size 0 [] := (MapIs.made w _ _ _).ext fun kl => by
  unfold setF
  rw [if_neg]
  rintro ⟨u, hu, _⟩
  cases hu
noncomputable def decLit : DecidableEq Lit := fun a b => Classical.propDecidable (a = b)
end Go.Proofs.Ytkegdgdkfbmabaa.X
