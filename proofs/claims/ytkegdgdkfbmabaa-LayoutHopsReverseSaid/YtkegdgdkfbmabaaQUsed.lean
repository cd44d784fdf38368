/- The links that each end of a section has, in a map that the call has made. -/
import Derived.Test.YtkegdgdkfbmabaaQMapEntry
import Derived.Test.YtkegdgdkfbmabaaX0
import Derived.Test.YtkegdgdkfbmabaaQMapIs
namespace Go.Proofs.Ytkegdgdkfbmabaa.X
open Go Go.RowKit Go.Maps Go.Proofs.YtkegdgdkfbmabaaW Go.Proofs.YtkegdgdkfbmabaaW.PrintWords Go.Proofs.YtkegdgdkfbmabaaW.PrintLast Go.Proofs.YtkegdgdkfbmabaaW.PrintMore
set_option linter.unusedVariables false
set_option linter.unusedSimpArgs false
abbrev Link := S61
abbrev kLink : Kd Link := k61
/-- A slice's header as a datum. -/
def hdrR : Value → Option (DataW Unit × List MemPlace)
  | .slice none 0 0 => some (.nil, [])
  | .slice (some ⟨b, 0, none⟩) n c => some (.agg [.lit (.int .i64 b), .lit (.int .i64 n), .lit (.int .i64 c)], [])
  | _ => none
theorem hdr_inv {v : Value} {d : DataW Unit} {ps : List MemPlace} (h : hdrR v = some (d, ps)) : (v = .slice none 0 0 ∧ d = .nil) ∨ ∃ b n c, v = .slice (some ⟨b, 0, none⟩) n c ∧ d = .agg [.lit (.int .i64 (b : Nat)), .lit (.int .i64 (n : Nat)), .lit (.int .i64 (c : Nat))] := by
  unfold hdrR at h
  split at h
  · injection h with h; injection h with h1 h2; exact .inl ⟨rfl, h1.symm⟩
  · injection h with h; injection h with h1 h2; exact .inr ⟨_, _, _, rfl, h1.symm⟩
  · cases h
theorem hdr_inj {u v : Value} {d : DataW Unit} {ps qs : List MemPlace} (h : hdrR u = some (d, ps)) (k : hdrR v = some (d, qs)) : u = v := by
  rcases hdr_inv h with ⟨rfl, rfl⟩ | ⟨b, n, c, rfl, rfl⟩
  · rcases hdr_inv k with ⟨rfl, _⟩ | ⟨b, n, c, rfl, e⟩
    · rfl
    · cases e
  · rcases hdr_inv k with ⟨rfl, e⟩ | ⟨b', n', c', rfl, e⟩
    · cases e
    · simp only [DataW.agg.injEq, List.cons.injEq, DataW.lit.injEq, Lit.int.injEq, true_and, and_true] at e
      obtain ⟨e1, e2, e3⟩ := e
      rw [Int.ofNat_inj.1 e1, Int.ofNat_inj.1 e2, Int.ofNat_inj.1 e3]
theorem hdr_of {α : Type} {d : Kd α} {e : Nat} {w : World} {base : Nat} {ok : Nat → Prop} {v : Value} {xs : List α} (h : d.R e w base ok v xs) : ∃ x, hdrR v = some (x, []) := by
  obtain ⟨inner, hi⟩ := Kd.R_own h
  rcases hi.2 with ⟨rfl, _⟩ | ⟨g, cap, cur, rfl, _⟩
  · exact ⟨_, rfl⟩
  · exact ⟨_, rfl⟩
/-- A row of links: its blocks are its own. -/
theorem link_narrow {w : World} {base : Nat} {ok : Nat → Prop} {v : Value} {xs : List Link} (h : kLink.R 61 w base ok v xs) (ok' : Nat → Prop) (h' : ∀ k, v.ownBlock = some k → ok' k) : kLink.R 61 w base ok' v xs := by
  obtain ⟨h0, ho⟩ := h
  refine ⟨h', ho.imp_ (fun x cs hp => ?_)⟩
  obtain rfl := k61_openM hp
  exact k61_mkM _ _ _ _
theorem link_grown {w w1 : World} {base : Nat} {ok : Nat → Prop} {v : Value} {xs : List Link} (h : kLink.R 61 w base ok v xs) {row : Option Nat} (hg : w.grownBy w1 row) (hne : ∀ k, v.ownBlock = some k → some k ≠ row) : kLink.R 61 w1 base ok v xs := by
  obtain ⟨h0, inner, ho, hr⟩ := h
  refine ⟨h0, inner, own_move ho (fun k hk => hg.block k (own_lt ho k hk) (hne k hk)), hr.imp_ (fun x cs hp => ?_)⟩
  obtain rfl := k61_openM hp
  exact k61_mkM _ _ _ _
def EndOk (e : Int × Int) : Prop := (Lit.int .i64 e.1).wf = true ∧ (Lit.int .i64 e.2).wf = true
theorem endL_inj {e e' : Int × Int} (h : EndOk e) (h' : EndOk e') (he : endL e = endL e') : e = e' := by
  have := endLaw.inj (end_key e h.1 h.2) (he ▸ end_key e' h'.1 h'.2)
  simp only [endV, Value.agg.injEq] at this
  simp at this
  exact Prod.ext this.1 this.2
/-- Block b is a map of the call's own: at each end the row of its links; the rows' blocks satisfy p. -/
def UsedP (p : Nat → Prop) (w : World) (b n : Nat) (u : Int × Int → List Link) : Prop :=
  ∃ (f : Lit → Option (DataW Unit)) (hd : Int × Int → Value), MapIs Try.prog 59 hdrR w b n f ∧ (∀ e, EndOk e → hdrR (hd e) = some ((f (endL e)).getD .nil, [])) ∧
    (∀ e, EndOk e → kLink.R 61 w (b + 1) (fun k => (hd e).ownBlock = some k) (hd e) (u e)) ∧ (∀ e e' k, EndOk e → EndOk e' → e ≠ e' → (hd e).ownBlock = some k → (hd e').ownBlock ≠ some k) ∧ ∀ e k, EndOk e → (hd e).ownBlock = some k → p k
abbrev UsedIs := UsedP (fun _ => True)
theorem UsedIs.made (w : World) : UsedIs (w.alloc (.map #[] 0)) w.heap.size 0 (fun _ => []) :=
  ⟨_, fun _ => .slice none 0 0, MapIs.made w _ _ _, fun e he => rfl, fun e he => Kd.R_nil _ _ _ _ _, fun e e' k _ _ _ h => by simp [Value.ownBlock] at h, fun _ _ _ _ => trivial⟩
theorem UsedP.lt {p : Nat → Prop} {w : World} {b n : Nat} {u : Int × Int → List Link} (h : UsedP p w b n u) : b < w.heap.size := by obtain ⟨f, hd, h1, _⟩ := h; exact h1.lt
theorem UsedP.below {p : Nat → Prop} {w w' : World} {b n : Nat} {u : Int × Int → List Link} (h : UsedP p w b n u) (hb : Below w.heap.size w w') : UsedP p w' b n u := by
  obtain ⟨f, hd, h1, h2, h3, h4, h5⟩ := h
  exact ⟨f, hd, h1.below hb, h2, fun e he => Kd.R_below (h3 e he) hb, h4, h5⟩
theorem UsedP.mono {p : Nat → Prop} {w : World} {b n n' : Nat} {u : Int × Int → List Link} (h : UsedP p w b n u) (hn : n ≤ n') : UsedP p w b n' u := by
  obtain ⟨f, hd, h1, h⟩ := h; exact ⟨f, hd, h1.mono hn, h⟩
theorem UsedP.ext {p : Nat → Prop} {w : World} {b n : Nat} {u u' : Int × Int → List Link} (h : UsedP p w b n u) (hu : ∀ e, EndOk e → u e = u' e) : UsedP p w b n u' := by
  obtain ⟨f, hd, h1, h2, h3, h4, h5⟩ := h; exact ⟨f, hd, h1, h2, fun e he => hu e he ▸ h3 e he, h4, h5⟩
theorem UsedP.fresh {p : Nat → Prop} {w : World} {b n : Nat} {u : Int × Int → List Link} (h : UsedP p w b n u) : UsedP (fun k => p k ∧ k < w.heap.size) w b n u := by
  obtain ⟨f, hd, h1, h2, h3, h4, h5⟩ := h; exact ⟨f, hd, h1, h2, h3, h4, fun e k he hk => ⟨h5 e k he hk, Kd.R_lt (h3 e he) k hk⟩⟩
theorem UsedP.weaken {p p' : Nat → Prop} {w : World} {b n : Nat} {u : Int × Int → List Link} (h : UsedP p w b n u) (hp : ∀ k, p k → p' k) : UsedP p' w b n u := by
  obtain ⟨f, hd, h1, h2, h3, h4, h5⟩ := h; exact ⟨f, hd, h1, h2, h3, h4, fun e k he hk => hp k (h5 e k he hk)⟩
theorem endKeyed : Keyed Try.prog 59 := Keyed.of_law endLaw
theorem zeroLinks (w : World) : (zeroValue 26).run Try.prog w = .ok (.slice none 0 0) w := by kernel_rfl
section
variable {w : World} {ops : Array Oper} {rest : List Oper} {o : Oper} {a : Act} {Q : Exit → Act → World → Prop} {b n : Nat} {u : Int × Int → List Link} {p : Nat → Prop}
/-- 'm[e]' at the operation. -/
theorem wpList_look_used (hu : UsedP p w b n u) (hg : o.guard = none) (m x : Operand) (hop : o.op = Op.lookup 68 m x false) (hm : a.eval m = .map (some b)) (e : Int × Int) (he : EndOk e) (hx : a.eval x = endV e)
    (hK : ∀ A c, Kd.C kLink w A (u e).length (u e) → wpList Try.prog ops Q rest (a.put o.dst (.slice A (u e).length c)) w) :
    wpList Try.prog ops Q (o :: rest) a w := by
  obtain ⟨f, hd, h1, h2, h3, h4, h5⟩ := hu
  obtain ⟨A, c, hv, _, hC⟩ := Kd.R_reads (h3 e he)
  refine wpList_look_is w hg m x 68 hop 59 26 endKeyed Try.underlying68 hdrR (zeroLinks w) (zd := .nil) (zp := []) rfl b n f hm h1 (endV e) (endL e) hx (end_key e he.1 he.2) (hd e) (fun y ps hy => hdr_inj hy (h2 e he)) ?_
  rw [hv]
  exact hK A c hC
/-- After 'mapEntry': v is the row at the end e; a longer row may be stored. -/
def Pend (p : Nat → Prop) (w1 : World) (b n : Nat) (u : Int × Int → List Link) (e : Int × Int) (v : Value) (st : Nat) : Prop :=
  b < w1.heap.size ∧ kLink.R 61 w1 (b + 1) (fun k => v.ownBlock = some k) v (u e) ∧ (∀ k, v.ownBlock = some k → p k) ∧
    ∀ (w2 : World) (v2 : Value) (xs : List Link), w1.grownBy w2 v.ownBlock → kLink.R 61 w2 (b + 1) (fun k => v2.ownBlock = some k) v2 xs → (∀ k, v2.ownBlock = some k → v.ownBlock = some k ∨ w1.heap.size ≤ k) →
      ∃ w3, (Instr.entryStore 68 (.map (some b)) (goInt st) v2).run Try.prog w2 = .ok () w3 ∧ UsedP p w3 b (n + 1) (fun e' => if e' = e then xs else u e') ∧ w2.grownBy w3 (some b)
theorem UsedP.entry (hu : UsedP p w b n u) (hf : ∀ k, w.heap.size ≤ k → p k) (hn : n < maxLen) (e : Int × Int) (he : EndOk e) :
    ∃ (v : Value) (st : Nat) (w1 : World), (Instr.mapEntry 68 (.map (some b)) (endV e)).run Try.prog w = .ok (.tuple #[v, goInt st]) w1 ∧ w.grownBy w1 (some b) ∧ w1.heap.size = w.heap.size ∧ Pend p w1 b n u e v st := by
  obtain ⟨f, hd, h1, h2, h3, h4, h5⟩ := hu
  letI := decLit
  obtain ⟨v0, st, es1, c1, ps0, hrun, hv0, hg1, hb1, hst⟩ := h1.entry endLaw Try.underlying68 (z := .slice none 0 0) zeroLinks (zd := .nil) (zp := []) rfl hn (end_key e he.1 he.2)
  obtain rfl := hdr_inj hv0 (h2 e he)
  have hlt := h1.lt
  have hsz : (Go.ChangeMaps.setBlock w b (.map es1 c1)).heap.size = w.heap.size := by simp [Go.ChangeMaps.setBlock]
  have hown : ∀ e', EndOk e' → ∀ k, (hd e').ownBlock = some k → b + 1 ≤ k ∧ k < w.heap.size := fun e' he' k hk => ⟨Kd.R_base (h3 e' he') k hk, Kd.R_lt (h3 e' he') k hk⟩
  have hR1 : ∀ e', EndOk e' → kLink.R 61 (Go.ChangeMaps.setBlock w b (.map es1 c1)) (b + 1) (fun k => (hd e').ownBlock = some k) (hd e') (u e') := fun e' he' =>
    link_grown (h3 e' he') hg1 (fun k hk hb => by have := (hown e' he' k hk).1; injection hb with hb; omega)
  refine ⟨_, st, _, hrun, hg1, hsz, by rw [hsz]; exact hlt, hR1 e he, fun k hk => h5 e k he hk, ?_⟩
  intro w2 v2 xs hg2 hR2 hat
  have hbne : some b ≠ (hd e).ownBlock := fun h => by have := (hown e he b h.symm).1; omega
  have hb2 : w2.heap[b]? = some (.map es1 c1) := (hg2.block b (by rw [hsz]; exact hlt) hbne).trans hb1
  obtain ⟨d, hd2⟩ := hdr_of hR2
  obtain ⟨w3, hrun3, hm3, hg3⟩ := hst w2 v2 d [] hb2 hd2
  refine ⟨w3, hrun3, ⟨_, fun e' => if e' = e then v2 else hd e', hm3, ?_, ?_, ?_, ?_⟩, hg3⟩
  · intro e' he'
    by_cases h : e' = e
    · subst h
      simp only [if_true, Option.getD_some]
      exact hd2
    · have hk : endL e' ≠ endL e := fun hh => h (endL_inj he' he hh)
      simp only [if_neg h, if_neg hk]
      exact h2 e' he'
  · intro e' he'
    by_cases h : e' = e
    · subst h
      simp only [if_true]
      exact link_grown hR2 hg3 (fun k hk hb => by have := Kd.R_base hR2 k hk; injection hb with hb; omega)
    · simp only [if_neg h]
      exact link_grown (link_grown (hR1 e' he') hg2 (fun k hk hh => h4 e' e k he' he h hk hh.symm)) hg3 (fun k hk hb => by have := (hown e' he' k hk).1; injection hb with hb; omega)
  · intro e1 e2 k he1 he2 hne hk
    by_cases h : e1 = e
    · have h' : e2 ≠ e := fun hh => hne (h.trans hh.symm)
      simp only [if_neg h'] 
      simp only [if_pos h] at hk
      intro hk2
      rcases hat k hk with hk' | hk'
      · exact h4 e e2 k he he2 (fun hh => hne (h.trans hh)) hk' hk2
      · have := (hown e2 he2 k hk2).2; omega
    · simp only [if_neg h] at hk
      by_cases h' : e2 = e
      · simp only [if_pos h']
        intro hk2
        rcases hat k hk2 with hk' | hk'
        · exact h4 e e1 k he he1 (fun hh => h hh.symm) hk' hk
        · have := (hown e1 he1 k hk).2; omega
      · simp only [if_neg h']
        exact h4 e1 e2 k he1 he2 hne hk
  · intro e' k he' hk
    by_cases h : e' = e
    · simp only [if_pos h] at hk
      rcases hat k hk with hk' | hk'
      · exact h5 e k he hk'
      · exact hf k (by omega)
    · simp only [if_neg h] at hk
      exact h5 e' k he' hk
/-- 'mapEntry' at the operation. -/
theorem wpList_entry_used (hu : UsedP p w b n u) (hf : ∀ k, w.heap.size ≤ k → p k) (hn : n < maxLen) (hg : o.guard = none) (m x : Operand) (hop : o.op = Op.mapEntry 68 m x) (hm : a.eval m = .map (some b)) (e : Int × Int) (he : EndOk e) (hx : a.eval x = endV e)
    (hK : ∀ (v : Value) (st : Nat) (w1 : World), w.grownBy w1 (some b) → w1.heap.size = w.heap.size → Pend p w1 b n u e v st → wpList Try.prog ops Q rest (a.put o.dst (.tuple #[v, goInt st])) w1) :
    wpList Try.prog ops Q (o :: rest) a w := by
  refine wpList_plain hg fun K' hK' => ?_
  obtain ⟨v, st, w1, hrun, hg1, hs1, hp⟩ := hu.entry hf hn e he
  unfold Oper.wp
  simp [execOp, hop, hm, hx, hrun, Result.andThen]
  exact hK' _ _ (hK v st w1 hg1 hs1 hp)
theorem infoLink : (Try.prog.info? 61).map (fun i => (i.zero, i.size, i.bytes)) = some (some (.agg #[.int .i64 0, .int .i64 0, .int .i64 0, .int .i64 0, .int .i64 0, .int .i64 0]), 6, 48) := by kernel_rfl
/-- 'append' at the operation. -/
theorem wpList_append_used {e : Int × Int} {v : Value} {st : Nat} (hp : Pend p w b n u e v st) (hg : o.guard = none) (s x : Operand) (hop : o.op = .call { callee := .builtin .append, args := #[s, x], argTypes := #[26, 26] }) (hs : a.eval s = v) (y : Link) (ad : Addr) (hx : a.eval x = .slice (some ad) 1 1)
    (hc : ∀ (j : Nat) (c : Value), ([.int .i64 y.f0, .int .i64 y.f1, .int .i64 y.f2, .int .i64 y.f3, .int .i64 y.f4, .int .i64 y.f5] : List Value)[j]? = some c → w.cell? (ad.add j) = some c) (hl : (u e).length < 4294967296)
    (hK : ∀ (v2 : Value) (w2 : World), w.grownBy w2 v.ownBlock → (∀ k, v.ownBlock = some k → p k) → (∃ w3, (Instr.entryStore 68 (.map (some b)) (goInt st) v2).run Try.prog w2 = .ok () w3 ∧ UsedP p w3 b (n + 1) (fun e' => if e' = e then u e ++ [y] else u e') ∧ w2.grownBy w3 (some b)) → wpList Try.prog ops Q rest (a.put o.dst v2) w2) :
    wpList Try.prog ops Q (o :: rest) a w := by
  obtain ⟨hlt, hR, hpp, hst⟩ := hp
  obtain ⟨i, hi, hi2⟩ := Option.map_eq_some_iff.1 infoLink
  simp only [Prod.mk.injEq] at hi2
  obtain ⟨h0, inner, hown, hr⟩ := hR
  refine wpList_append_own_at w hg s x 26 hop (b + 1) 61 i _ 6 48 Try.underlying26 hi hi2.1 hi2.2.1 hi2.2.2 rfl (by omega) v _ inner hs hown ad 1 1 _ hx rfl hc (by simp [Value.oneCell']) (by unfold maxLen; omega) (by omega) (by omega) ?_
  intro v2 w2 h2 hg2 _ hat
  have hR2 := Kd.R_appended (d := kLink) (ok := fun _ => True) (okp := fun _ => False) (fun _ _ => trivial) (hr.imp_ (fun x cs hp => Kd.M_mono kLink (fun k hk => ⟨trivial, hk.2⟩) hp)) (k61_mkM w (b + 1) (fun _ => False) y) (fun k hk => hk.elim) (fun _ _ => trivial) h2 hg2 (by
    rcases hat with hat | hat
    · exact .inl hat
    · exact .inr ⟨_, hat, Nat.le_refl _⟩)
  refine hK v2 w2 hg2 hpp (hst w2 v2 _ hg2 (link_narrow hR2 _ (fun k hk => hk)) ?_)
  intro k hk
  rcases hat with hat | hat
  · exact .inl (hat ▸ hk)
  · rw [hat] at hk; injection hk with hk; exact .inr (by omega)
/-- 'entryStore' at the operation. -/
theorem wpList_store_used {u' : Int × Int → List Link} {st : Nat} {v2 : Value} (hst : ∃ w3, (Instr.entryStore 68 (.map (some b)) (goInt st) v2).run Try.prog w = .ok () w3 ∧ UsedP p w3 b n u' ∧ w.grownBy w3 (some b)) (hg : o.guard = none) (m s x : Operand) (hop : o.op = Op.entryStore 68 m s x) (hm : a.eval m = .map (some b)) (hs : a.eval s = goInt st) (hx : a.eval x = v2)
    (hK : ∀ w3, UsedP p w3 b n u' → w.grownBy w3 (some b) → wpList Try.prog ops Q rest (a.put o.dst undef) w3) :
    wpList Try.prog ops Q (o :: rest) a w := by
  refine wpList_plain hg fun K' hK' => ?_
  obtain ⟨w3, hrun, h1, h2⟩ := hst
  unfold Oper.wp
  simp [execOp, hop, hm, hs, hx, hrun, Result.andThen]
  exact hK' _ _ (hK w3 h1 h2)
end
end Go.Proofs.Ytkegdgdkfbmabaa.X
