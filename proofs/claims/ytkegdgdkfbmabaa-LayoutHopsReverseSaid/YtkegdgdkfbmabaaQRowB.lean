/- What holds of memory while railplankeep.row runs; how the calls move it. -/
import Derived.Test.YtkegdgdkfbmabaaQRowS
import Derived.Test.YtkegdgdkfbmabaaQBuild1
import Derived.Test.YtkegdgdkfbmabaaX3
import Derived.Test.YtkegdgdkfbmabaaQFan
namespace Go.Proofs.Ytkegdgdkfbmabaa.X
open Go Go.RowKit Go.Proofs.YtkegdgdkfbmabaaW Go.Proofs.YtkegdgdkfbmabaaW.PrintWords Go.Proofs.YtkegdgdkfbmabaaW.PrintLast Go.Proofs.YtkegdgdkfbmabaaW.PrintMore
set_option linter.unusedVariables false
set_option linter.unusedSimpArgs false
abbrev kInts : Kd (List Int) := Kd.slice 3 (Kd.int .i64)
abbrev TBu : Nat := 53
structure RowI (w0 w : World) (g p : Nat) (L : List Int) (s : Nat) (v0 v1 v2 v3 v4 v5 : Value) (st pt : List ByteArray) (sc : List Sec1) (lk : List Lnk1) (tr bt : List (List Int)) (H1 : Nat) (ok0 ok4 ok5 : Nat → Prop) : Prop where
  blk : w.heap[p]? = some (.cells #[v0, v1, v2, v3, v4, v5, .slice none 0 0] 53 (0, 0))
  pge : w0.heap.size ≤ p
  src : IsS77 w0 w g L (s : Int)
  bel : Below w0.heap.size w0 w
  r0 : Kd.R Kd.string 9 w w0.heap.size ok0 v0 st
  r1 : Kd.R Kd.string 9 w H1 (fun _ => True) v1 pt
  r2 : Kd.R kSec1 31 w w0.heap.size (fun _ => True) v2 sc
  r3 : Kd.R kLnk1 61 w w0.heap.size (fun _ => True) v3 lk
  r4 : Kd.R kInts 22 w w0.heap.size ok4 v4 tr
  r5 : Kd.R kInts 22 w H1 ok5 v5 bt
  hH : w0.heap.size ≤ H1
  hs : H1 ≤ w.heap.size
section
variable {HH : Nat} {okt : Nat → Prop} {v : Value} {t : List Int} {w0 w w' : World} {g p : Nat} {L : List Int} {s s' : Nat} {v0 v1 v2 v3 v4 v5 : Value} {st pt : List ByteArray} {sc : List Sec1} {lk : List Lnk1} {tr bt : List (List Int)} {H1 : Nat} {ok0 ok4 ok5 : Nat → Prop}
theorem RowI.below (h : RowI w0 w g p L s v0 v1 v2 v3 v4 v5 st pt sc lk tr bt H1 ok0 ok4 ok5) (hb : Below w.heap.size w w') : RowI w0 w' g p L s v0 v1 v2 v3 v4 v5 st pt sc lk tr bt H1 ok0 ok4 ok5 :=
  ⟨blk_below h.blk hb, h.pge, h.src.below hb, h.bel.trans (hb.mono h.bel.size), Kd.R_below h.r0 hb, Kd.R_below h.r1 hb, Kd.R_below h.r2 hb, Kd.R_below h.r3 hb, Kd.R_below h.r4 hb, Kd.R_below h.r5 hb, h.hH, Nat.le_trans h.hs hb.size⟩
theorem RowI.ft (h : RowI w0 w g p L s v0 v1 v2 v3 v4 v5 st pt sc lk tr bt H1 ok0 ok4 ok5) : ∃ cs, w.heap[g]? = some (.cells cs 77 (0, 0)) := by
  obtain ⟨A0, c0, hg, _⟩ := h.src
  exact ⟨_, hg⟩
theorem RowI.next (h : RowI w0 w g p L s v0 v1 v2 v3 v4 v5 st pt sc lk tr bt H1 ok0 ok4 ok5) (hS : IsS77 w0 w' g L (s' : Int)) (hb : Below w0.heap.size w0 w') (hk : KeepBut w w' g none) : RowI w0 w' g p L s' v0 v1 v2 v3 v4 v5 st pt sc lk tr bt H1 ok0 ok4 ok5 := by
  obtain ⟨cs, hg⟩ := h.ft
  have hf : FT w w' (fun _ t => t = 77) := FT.of_keep hk hg rfl
  have a : ∀ {α : Type} {d : Kd α} {e base : Nat} {ok : Nat → Prop} {v : Value} {xs : List α}, d.R e w base ok v xs → (∀ q, q ∈ e :: d.E → q ≠ 77) → d.R e w' base ok v xs := fun hr hq => R_FT hr hf (fun q k hm _ => hq q hm)
  exact ⟨hf.blk h.blk (by decide), h.pge, hS, hb, a h.r0 (by decide), a h.r1 (by decide), a h.r2 (by decide), a h.r3 (by decide), a h.r4 (by decide), a h.r5 (by decide), h.hH, Nat.le_trans h.hs hk.1⟩
theorem RowI.src_ft (h : RowI w0 w g p L s v0 v1 v2 v3 v4 v5 st pt sc lk tr bt H1 ok0 ok4 ok5) {S : Nat → Nat → Prop} (hf : FT w w' S) (hS : ¬ S g 77) : IsS77 w0 w' g L (s : Int) := by
  obtain ⟨A0, c0, hg, h1, h2⟩ := h.src
  exact ⟨A0, c0, hf.blk hg hS, h1, h2⟩
theorem RowI.g_ne (h : RowI w0 w g p L s v0 v1 v2 v3 v4 v5 st pt sc lk tr bt H1 ok0 ok4 ok5) : g ≠ p := by
  obtain ⟨cs, hg⟩ := h.ft
  exact blk_ne hg h.blk (by decide)
theorem RowI.add (h : RowI w0 w g p L s v0 v1 v2 v3 v4 v5 st pt sc lk tr bt H1 ok0 ok4 ok5) {v2' : Value} {x : Sec1} (hg : w'.heap[p]? = some (.cells #[v0, v1, v2', v3, v4, v5, .slice none 0 0] 53 (0, 0))) (hr : Kd.R kSec1 31 w' w0.heap.size (fun _ => True) v2' (sc ++ [x])) (hb : Below w0.heap.size w0 w') (hf : FT w w' (fun k t => k = p ∨ t = 31)) :
    RowI w0 w' g p L s v0 v1 v2' v3 v4 v5 st pt (sc ++ [x]) lk tr bt H1 ok0 ok4 ok5 := by
  have a : ∀ {α : Type} {d : Kd α} {e base : Nat} {ok : Nat → Prop} {v : Value} {xs : List α}, d.R e w base ok v xs → (∀ q, q ∈ e :: d.E → q ≠ 31) → (∀ q, q ∈ e :: d.E → q ≠ 53) → d.R e w' base ok v xs := fun hr hq hq2 => R_FTp hr h.blk hq2 hf (fun q k hm _ hk hS => hS.elim hk (hq q hm))
  exact ⟨hg, h.pge, h.src_ft hf (fun hS => hS.elim h.g_ne (by decide)), hb, a h.r0 (by decide) (by decide), a h.r1 (by decide) (by decide), hr, a h.r3 (by decide) (by decide), a h.r4 (by decide) (by decide), a h.r5 (by decide) (by decide), h.hH, Nat.le_trans h.hs hf.1⟩
theorem RowI.link (h : RowI w0 w g p L s v0 v1 v2 v3 v4 v5 st pt sc lk tr bt H1 ok0 ok4 ok5) {v3' : Value} {lk' : List Lnk1} (hg : w'.heap[p]? = some (.cells #[v0, v1, v2, v3', v4, v5, .slice none 0 0] 53 (0, 0))) (hr : Kd.R kLnk1 61 w' w0.heap.size (fun _ => True) v3' lk') (hb : Below w0.heap.size w0 w') (hf : FT w w' (fun k t => k = p ∨ t = 61)) :
    RowI w0 w' g p L s v0 v1 v2 v3' v4 v5 st pt sc lk' tr bt H1 ok0 ok4 ok5 := by
  have a : ∀ {α : Type} {d : Kd α} {e base : Nat} {ok : Nat → Prop} {v : Value} {xs : List α}, d.R e w base ok v xs → (∀ q, q ∈ e :: d.E → q ≠ 61) → (∀ q, q ∈ e :: d.E → q ≠ 53) → d.R e w' base ok v xs := fun hr hq hq2 => R_FTp hr h.blk hq2 hf (fun q k hm _ hk hS => hS.elim hk (hq q hm))
  exact ⟨hg, h.pge, h.src_ft hf (fun hS => hS.elim h.g_ne (by decide)), hb, a h.r0 (by decide) (by decide), a h.r1 (by decide) (by decide), a h.r2 (by decide) (by decide), hr, a h.r4 (by decide) (by decide), a h.r5 (by decide) (by decide), h.hH, Nat.le_trans h.hs hf.1⟩
theorem RowI.fan (h : RowI w0 w g p L s v0 v1 v2 v3 v4 v5 st pt sc lk tr bt H1 (fun k => k < H1) ok4 ok5) {v1' v3' : Value} {pt' : List ByteArray} {lk' : List Lnk1} (hg : w'.heap[p]? = some (.cells #[v0, v1', v2, v3', v4, v5, .slice none 0 0] 53 (0, 0))) (hr1 : Kd.R Kd.string 9 w' H1 (fun _ => True) v1' pt') (hr : Kd.R kLnk1 61 w' w0.heap.size (fun _ => True) v3' lk') (hb : Below w0.heap.size w0 w') (hf : FT w w' (fun k t => k = p ∨ t = 61 ∨ t = 9 ∧ H1 ≤ k)) :
    RowI w0 w' g p L s v0 v1' v2 v3' v4 v5 st pt' sc lk' tr bt H1 (fun k => k < H1) ok4 ok5 := by
  have a : ∀ {α : Type} {d : Kd α} {e base : Nat} {ok : Nat → Prop} {v : Value} {xs : List α}, d.R e w base ok v xs → (∀ q, q ∈ e :: d.E → q ≠ 61) → (∀ q, q ∈ e :: d.E → q ≠ 53) → (∀ q k, q ∈ e :: d.E → ok k → ¬ (q = 9 ∧ H1 ≤ k)) → d.R e w' base ok v xs := fun hr hq hq2 hq3 => R_FTp hr h.blk hq2 hf (fun q k hm ho hk hS => hS.elim hk (fun hS => hS.elim (hq q hm) (hq3 q k hm ho)))
  have n : ∀ {l : List Nat}, (∀ q, q ∈ l → q ≠ 9) → ∀ {ok : Nat → Prop}, ∀ q k, q ∈ l → ok k → ¬ (q = 9 ∧ H1 ≤ k) := fun hl _ q k hq _ hS => hl q hq hS.1
  exact ⟨hg, h.pge, h.src_ft hf (fun hS => hS.elim h.g_ne (by simp)), hb, a h.r0 (by decide) (by decide) (fun q k _ ho hS => by omega), hr1, a h.r2 (by decide) (by decide) (n (by decide)), hr, a h.r4 (by decide) (by decide) (n (by decide)), a h.r5 (by decide) (by decide) (n (by decide)), h.hH, Nat.le_trans h.hs hf.1⟩
theorem RowI.mono (h : RowI w0 w g p L s v0 v1 v2 v3 v4 v5 st pt sc lk tr bt H1 ok0 ok4 ok5) {ok0' ok4' ok5' : Nat → Prop} (e0 : ∀ k, ok0 k → ok0' k) (e4 : ∀ k, ok4 k → ok4' k) (e5 : ∀ k, ok5 k → ok5' k) : RowI w0 w g p L s v0 v1 v2 v3 v4 v5 st pt sc lk tr bt H1 ok0' ok4' ok5' :=
  ⟨h.blk, h.pge, h.src, h.bel, Kd.R_mono h.r0 e0, h.r1, h.r2, h.r3, Kd.R_mono h.r4 e4, Kd.R_mono h.r5 e5, h.hH, h.hs⟩
theorem RowI.bound (h : RowI w0 w g p L s v0 v1 v2 v3 v4 v5 st pt sc lk tr bt H1 ok0 ok4 ok5) : RowI w0 w g p L s v0 v1 v2 v3 v4 v5 st pt sc lk tr bt H1 (fun k => ok0 k ∧ k < w.heap.size) (fun k => ok4 k ∧ k < w.heap.size) (fun k => ok5 k ∧ k < w.heap.size) :=
  ⟨h.blk, h.pge, h.src, h.bel, Kd.R_mono (Kd.R_bound h.r0) (fun _ hk => ⟨hk.1, hk.2.2.1⟩), h.r1, h.r2, h.r3, Kd.R_mono (Kd.R_bound h.r4) (fun _ hk => ⟨hk.1, hk.2.2.1⟩), Kd.R_mono (Kd.R_bound h.r5) (fun _ hk => ⟨hk.1, hk.2.2.1⟩), h.hH, h.hs⟩
/-- Any change of blocks that none of the rows has. -/
theorem RowI.moved (h : RowI w0 w g p L s v0 v1 v2 v3 v4 v5 st pt sc lk tr bt H1 ok0 ok4 ok5) {S : Nat → Nat → Prop} (hf : FT w w' S) (hb : Below w0.heap.size w0 w')
    (hp : ¬ S p 53) (hg : ¬ S g 77) (h9 : ∀ k, ¬ S k 9) (hs : ∀ k, ¬ S k 31) (hl : ∀ k, ¬ S k 61)
    (h4 : ∀ q k, q ∈ 22 :: kInts.E → ok4 k → ¬ S k q) (h5 : ∀ q k, q ∈ 22 :: kInts.E → ok5 k → ¬ S k q) : RowI w0 w' g p L s v0 v1 v2 v3 v4 v5 st pt sc lk tr bt H1 ok0 ok4 ok5 := by
  have e9 : ∀ q, q ∈ 9 :: Kd.string.E → q = 9 := by decide
  have eS : ∀ q, q ∈ 31 :: kSec1.E → q = 31 := by decide
  have eL : ∀ q, q ∈ 61 :: kLnk1.E → q = 61 := by decide
  exact ⟨hf.blk h.blk hp, h.pge, h.src_ft hf hg, hb, R_FT h.r0 hf (fun q k hq _ => by rw [e9 q hq]; exact h9 k), R_FT h.r1 hf (fun q k hq _ => by rw [e9 q hq]; exact h9 k), R_FT h.r2 hf (fun q k hq _ => by rw [eS q hq]; exact hs k), R_FT h.r3 hf (fun q k hq _ => by rw [eL q hq]; exact hl k), R_FT h.r4 hf (fun q k hq ho => h4 q k hq ho), R_FT h.r5 hf (fun q k hq ho => h5 q k hq ho), h.hH, Nat.le_trans h.hs hf.1⟩
/-- t has grown by an element. -/
theorem RowI.tgrow {HH : Nat} {okt : Nat → Prop} {v : Value} {t : List Int} (h : RowI w0 w g p L s v0 v1 v2 v3 v4 v5 st pt sc lk tr bt H1 ok0 (fun k => k < HH) (fun k => k < HH)) (ht : Kd.R (Kd.int .i64) 3 w HH okt v t) (hH : w0.heap.size ≤ HH) (hg : w.grownBy w' v.ownBlock) : RowI w0 w' g p L s v0 v1 v2 v3 v4 v5 st pt sc lk tr bt H1 ok0 (fun k => k < HH) (fun k => k < HH) := by
  have hf : FT w w' (fun k t => t = 3 ∧ HH ≤ k) := FT.of_grown ht hg (fun k hk => ⟨rfl, hk⟩)
  have hb : Below w0.heap.size w0 w' := pw_below_grown h.bel _ h.bel.size hg (fun k hk => Nat.le_trans hH ((Kd.R_bound ht).1 k hk).2.1)
  exact h.moved hf hb (by simp) (by simp) (by simp) (by simp) (by simp) (fun q k _ ho hS => by omega) (fun q k _ ho hS => by omega)
/-- A station's name has been appended: first phase. -/
theorem RowI.stat (h : RowI w0 w g p L s v0 (.slice none 0 0) v2 v3 v4 v5 st [] sc lk tr bt H1 ok0 ok4 ok5) {v0' : Value} {st' : List ByteArray} (hr : Kd.R Kd.string 9 w' w0.heap.size (fun _ => True) v0' st') (hg : w.grownBy w' v0.ownBlock) :
    RowI w0 (w'.setCell ⟨p, 0, none⟩ v0') g p L s v0' (.slice none 0 0) v2 v3 v4 v5 st' [] sc lk tr bt H1 (fun _ => True) ok4 ok5 := by
  have hf1 : FT w w' (fun k t => k = p ∨ t = 9) := FT.of_grown h.r0 hg (fun k hk => .inr rfl)
  have hg1 := blk_grown h.blk hg (Kd.R_ne h.r0 h.blk (by decide))
  have hf : FT w (w'.setCell ⟨p, 0, none⟩ v0') (fun k t => k = p ∨ t = 9) := hf1.set_ hg1 (.inl rfl) 0 v0'
  have hb : Below w0.heap.size w0 (w'.setCell ⟨p, 0, none⟩ v0') := (pw_below_grown h.bel _ h.bel.size hg (fun k hk => ((Kd.R_bound h.r0).1 k hk).2.1)).setCell (p := ⟨p, 0, none⟩) h.pge _
  have a : ∀ {α : Type} {d : Kd α} {e base : Nat} {ok : Nat → Prop} {v : Value} {xs : List α}, d.R e w base ok v xs → (∀ q, q ∈ e :: d.E → q ≠ 9) → (∀ q, q ∈ e :: d.E → q ≠ 53) → d.R e (w'.setCell ⟨p, 0, none⟩ v0') base ok v xs := fun hr hq hq2 => R_FTp hr h.blk hq2 hf (fun q k hm _ hk hS => hS.elim hk (hq q hm))
  exact ⟨blk_put hg1 0 v0' rfl, h.pge, h.src_ft hf (fun hS => hS.elim h.g_ne (by decide)), hb, Kd.R_set hr hg1 (by decide) 0 v0', Kd.R_nil _ _ _ _ _, a h.r2 (by decide) (by decide), a h.r3 (by decide) (by decide), a h.r4 (by decide) (by decide), a h.r5 (by decide) (by decide), h.hH, Nat.le_trans h.hs hf.1⟩
/-- t as an element of tracks or between. -/
theorem ints_M {HH : Nat} {v : Value} {t : List Int} {base : Nat} (ht : Kd.R (Kd.int .i64) 3 w HH (fun _ => True) v t) (hb : base ≤ HH) : kInts.M w base (fun k => HH ≤ k) t [v] := ⟨v, rfl, Kd.R_lower (Kd.R_mono (Kd.R_bound ht) (fun _ hk => hk.2.1)) hb⟩
/-- The tracks of a station have been appended: first phase. -/
theorem RowI.trks (h : RowI w0 w g p L s v0 v1 v2 v3 v4 (.slice none 0 0) st pt sc lk tr [] H1 ok0 ok4 ok5) {v4' : Value} {tr' : List (List Int)} (hr : Kd.R kInts 22 w' w0.heap.size (fun _ => True) v4' tr') (hg : w.grownBy w' v4.ownBlock) :
    RowI w0 (w'.setCell ⟨p, 4, none⟩ v4') g p L s v0 v1 v2 v3 v4' (.slice none 0 0) st pt sc lk tr' [] H1 ok0 (fun _ => True) ok5 := by
  have hf1 : FT w w' (fun k t => k = p ∨ t = 22) := FT.of_grown h.r4 hg (fun k hk => .inr rfl)
  have hg1 := blk_grown h.blk hg (Kd.R_ne h.r4 h.blk (by decide))
  have hf : FT w (w'.setCell ⟨p, 4, none⟩ v4') (fun k t => k = p ∨ t = 22) := hf1.set_ hg1 (.inl rfl) 4 v4'
  have hb : Below w0.heap.size w0 (w'.setCell ⟨p, 4, none⟩ v4') := (pw_below_grown h.bel _ h.bel.size hg (fun k hk => ((Kd.R_bound h.r4).1 k hk).2.1)).setCell (p := ⟨p, 4, none⟩) h.pge _
  have a : ∀ {α : Type} {d : Kd α} {e base : Nat} {ok : Nat → Prop} {v : Value} {xs : List α}, d.R e w base ok v xs → (∀ q, q ∈ e :: d.E → q ≠ 22) → (∀ q, q ∈ e :: d.E → q ≠ 53) → d.R e (w'.setCell ⟨p, 4, none⟩ v4') base ok v xs := fun hr hq hq2 => R_FTp hr h.blk hq2 hf (fun q k hm _ hk hS => hS.elim hk (hq q hm))
  exact ⟨blk_put hg1 4 v4' rfl, h.pge, h.src_ft hf (fun hS => hS.elim h.g_ne (by decide)), hb, a h.r0 (by decide) (by decide), a h.r1 (by decide) (by decide), a h.r2 (by decide) (by decide), a h.r3 (by decide) (by decide), Kd.R_set hr hg1 (by decide) 4 v4', Kd.R_nil _ _ _ _ _, h.hH, Nat.le_trans h.hs hf.1⟩
/-- The sections between two stations have been appended: second phase. -/
theorem RowI.btws (h : RowI w0 w g p L s v0 v1 v2 v3 v4 v5 st pt sc lk tr bt H1 ok0 (fun k => k < H1) ok5) {v5' : Value} {bt' : List (List Int)} (hr : Kd.R kInts 22 w' H1 (fun _ => True) v5' bt') (hg : w.grownBy w' v5.ownBlock) :
    RowI w0 (w'.setCell ⟨p, 5, none⟩ v5') g p L s v0 v1 v2 v3 v4 v5' st pt sc lk tr bt' H1 ok0 (fun k => k < H1) (fun _ => True) := by
  have hf1 : FT w w' (fun k t => k = p ∨ t = 22 ∧ H1 ≤ k) := FT.of_grown h.r5 hg (fun k hk => .inr ⟨rfl, hk⟩)
  have hg1 := blk_grown h.blk hg (Kd.R_ne h.r5 h.blk (by decide))
  have hf : FT w (w'.setCell ⟨p, 5, none⟩ v5') (fun k t => k = p ∨ t = 22 ∧ H1 ≤ k) := hf1.set_ hg1 (.inl rfl) 5 v5'
  have hb : Below w0.heap.size w0 (w'.setCell ⟨p, 5, none⟩ v5') := (pw_below_grown h.bel _ h.bel.size hg (fun k hk => Nat.le_trans h.hH ((Kd.R_bound h.r5).1 k hk).2.1)).setCell (p := ⟨p, 5, none⟩) h.pge _
  have a : ∀ {α : Type} {d : Kd α} {e base : Nat} {ok : Nat → Prop} {v : Value} {xs : List α}, d.R e w base ok v xs → (∀ q, q ∈ e :: d.E → q ≠ 22) → (∀ q, q ∈ e :: d.E → q ≠ 53) → d.R e (w'.setCell ⟨p, 5, none⟩ v5') base ok v xs := fun hr hq hq2 => R_FTp hr h.blk hq2 hf (fun q k hm _ hk hS => hS.elim hk (fun hS => hq q hm hS.1))
  exact ⟨blk_put hg1 5 v5' rfl, h.pge, h.src_ft hf (fun hS => hS.elim h.g_ne (by simp)), hb, a h.r0 (by decide) (by decide), a h.r1 (by decide) (by decide), a h.r2 (by decide) (by decide), a h.r3 (by decide) (by decide), R_FTp h.r4 h.blk (by decide) hf (fun q k _ ho hk hS => hS.elim hk (fun hS => by omega)), Kd.R_set hr hg1 (by decide) 5 v5', h.hH, Nat.le_trans h.hs hf.1⟩
/-- The second phase begins. -/
theorem RowI.phase {H : Nat} (h : RowI w0 w g p L s v0 (.slice none 0 0) v2 v3 v4 (.slice none 0 0) st [] sc lk tr [] H ok0 ok4 ok5) : RowI w0 w g p L s v0 (.slice none 0 0) v2 v3 v4 (.slice none 0 0) st [] sc lk tr [] w.heap.size (fun k => k < w.heap.size) (fun k => k < w.heap.size) (fun _ => True) :=
  ⟨h.blk, h.pge, h.src, h.bel, Kd.R_mono (Kd.R_bound h.r0) (fun _ hk => hk.2.2.1), Kd.R_nil _ _ _ _ _, h.r2, h.r3, Kd.R_mono (Kd.R_bound h.r4) (fun _ hk => hk.2.2.1), Kd.R_nil _ _ _ _ _, h.bel.size, Nat.le_refl _⟩
theorem RowI.tgrow2 {HH : Nat} {okt : Nat → Prop} {v : Value} {t : List Int} (h : RowI w0 w g p L s v0 v1 v2 v3 v4 v5 st pt sc lk tr bt H1 ok0 (fun k => k < H1) (fun k => k < HH)) (ht : Kd.R (Kd.int .i64) 3 w HH okt v t) (hH : H1 ≤ HH) (hg : w.grownBy w' v.ownBlock) : RowI w0 w' g p L s v0 v1 v2 v3 v4 v5 st pt sc lk tr bt H1 ok0 (fun k => k < H1) (fun k => k < HH) := by
  have hf : FT w w' (fun k t => t = 3 ∧ HH ≤ k) := FT.of_grown ht hg (fun k hk => ⟨rfl, hk⟩)
  have hb : Below w0.heap.size w0 w' := pw_below_grown h.bel _ h.bel.size hg (fun k hk => Nat.le_trans (Nat.le_trans h.hH hH) ((Kd.R_bound ht).1 k hk).2.1)
  exact h.moved hf hb (by simp) (by simp) (by simp) (by simp) (by simp) (fun q k _ ho hS => by omega) (fun q k _ ho hS => by omega)
/-- A row of rows: element i, a row of the call's own. -/
theorem ints_at {base : Nat} {ok : Nat → Prop} {v : Value} {tr : List (List Int)} (h : Kd.R kInts 22 w base ok v tr) (i : Nat) (hi : i < tr.length) : ∃ g c A' c' ok', v = .slice (some ⟨g, 0, none⟩) tr.length c ∧ w.cell? ⟨g, i, none⟩ = some (.slice A' (trk tr i).length c') ∧ Kd.R (Kd.int .i64) 3 w base ok' (.slice A' (trk tr i).length c') (trk tr i) := by
  obtain ⟨inner, ho⟩ := Kd.R_own h
  obtain ⟨g, cap, rfl, _, _⟩ := ho.form (by omega)
  obtain ⟨c, hcl, hM, hc, _⟩ := Kd.R_elem h [] (i : Int) (by omega) (by omega)
  rw [Int.toNat_natCast] at hM hc
  obtain ⟨v, rfl, hr⟩ := hM
  obtain ⟨A', c', rfl⟩ := Kd.R_slice hr
  have h0 := hc 0 _ rfl
  exact ⟨g, cap, A', c', _, rfl, by simpa [kInts, Kd.slice, trk] using h0, hr⟩
theorem int_form {base : Nat} {ok : Nat → Prop} {v : Value} {t : List Int} (h : Kd.R (Kd.int .i64) 3 w base ok v t) (ht : 0 < t.length) : ∃ g c, v = .slice (some ⟨g, 0, none⟩) t.length c := by
  obtain ⟨inner, ho⟩ := Kd.R_own h
  obtain ⟨g, cap, rfl, _, _⟩ := ho.form ht
  exact ⟨g, cap, rfl⟩
theorem int_cell {base g c : Nat} {ok : Nat → Prop} {t : List Int} (h : Kd.R (Kd.int .i64) 3 w base ok (.slice (some ⟨g, 0, none⟩) t.length c) t) (j : Nat) (hj : j < t.length) : w.cell? ⟨g, j, none⟩ = some (.int .i64 (rd t (j : Int))) := by
  have := (Kd.R_cell (0 : Int) h (j : Int) (by omega) (by omega)).1
  rw [Int.toNat_natCast] at this
  exact this
theorem t_link (ht : Kd.R (Kd.int .i64) 3 w HH okt v t) (h : RowI w0 w g p L s v0 v1 v2 v3 v4 v5 st pt sc lk tr bt H1 ok0 ok4 ok5) (hf : FT w w' (fun k t => k = p ∨ t = 61)) : Kd.R (Kd.int .i64) 3 w' HH okt v t :=
  R_FTp ht h.blk (by decide) hf (fun q k hm _ hk hS => hS.elim hk ((by decide : ∀ q, q ∈ 3 :: (Kd.int .i64).E → q ≠ 61) q hm))
theorem t_fan (ht : Kd.R (Kd.int .i64) 3 w HH okt v t) (h : RowI w0 w g p L s v0 v1 v2 v3 v4 v5 st pt sc lk tr bt H1 ok0 ok4 ok5) {H2 : Nat} (hf : FT w w' (fun k t => k = p ∨ t = 61 ∨ t = 9 ∧ H2 ≤ k)) : Kd.R (Kd.int .i64) 3 w' HH okt v t :=
  R_FTp ht h.blk (by decide) hf (fun q k hm _ hk hS => hS.elim hk (fun hS => hS.elim ((by decide : ∀ q, q ∈ 3 :: (Kd.int .i64).E → q ≠ 61) q hm) (fun hS => (by decide : ∀ q, q ∈ 3 :: (Kd.int .i64).E → q ≠ 9) q hm hS.1)))
theorem t_add (ht : Kd.R (Kd.int .i64) 3 w HH okt v t) (h : RowI w0 w g p L s v0 v1 v2 v3 v4 v5 st pt sc lk tr bt H1 ok0 ok4 ok5) (hf : FT w w' (fun k t => k = p ∨ t = 31)) : Kd.R (Kd.int .i64) 3 w' HH okt v t :=
  R_FTp ht h.blk (by decide) hf (fun q k hm _ hk hS => hS.elim hk ((by decide : ∀ q, q ∈ 3 :: (Kd.int .i64).E → q ≠ 31) q hm))
/-- Choices do not touch t. -/
theorem t_next (ht : Kd.R (Kd.int .i64) 3 w HH okt v t) (h : RowI w0 w g p L s v0 v1 v2 v3 v4 v5 st pt sc lk tr bt H1 ok0 ok4 ok5) (hk : KeepBut w w' g none) : Kd.R (Kd.int .i64) 3 w' HH okt v t := by
  obtain ⟨cs, hg⟩ := h.ft
  have hf : FT w w' (fun _ t => t = 77) := FT.of_keep hk hg rfl
  exact R_FT ht hf (fun q k hm _ => (by decide : ∀ q, q ∈ 3 :: (Kd.int .i64).E → q ≠ 77) q hm)
end
theorem w_succ (j y : Nat) (h : y = j + 1) (hb : j ≤ 1000) : wrap64 ((j : Int) + 1) = (y : Int) := by unfold wrap64; omega
theorem w_succI (j y : Nat) (h : y = j + 1) (hb : j ≤ 1000) : IntKind.i64.wrap ((j : Int) + 1) = (y : Int) := by rw [i64_w]; exact w_succ j y h hb
theorem w_pred (j y : Nat) (h : y = j - 1) (hb : 0 < j ∧ j ≤ 1000) : wrap64 ((j : Int) - 1) = (y : Int) := by unfold wrap64; omega
theorem w_predI (j y : Nat) (h : y = j - 1) (hb : 0 < j ∧ j ≤ 1000) : IntKind.i64.wrap ((j : Int) - 1) = (y : Int) := by rw [i64_w]; exact w_pred j y h hb
theorem pred_int (k : Nat) (h0 : 0 < k) (h : k < 9223372036854775807) : wrap64 ((k : Int) - 1) = ((k - 1 : Nat) : Int) := by unfold wrap64; omega
theorem lkT_len (t : List Int) : (lkT t).length = t.length - 1 := by simp [lkT]
theorem lkT_take (t : List Int) (j : Nat) (h : j + 1 < t.length) : (lkT t).take (j + 1) = (lkT t).take j ++ [⟨rd t (j : Int), 1, rd t ((j + 1 : Nat) : Int), 0, -1, 0⟩] := by
  rw [List.take_succ_eq_append_getElem (by rw [lkT_len]; omega)]
  simp [lkT]
theorem fanK_len (pt : List ByteArray) (lk : List Lnk1) (x : Int) (tr : List Int) (east : Bool) : (fanK pt lk x tr east).length = lk.length + tr.length := by unfold fanK; rw [List.length_append, fanL_len]
theorem fanP_len (pt : List ByteArray) (tr : List Int) : (fanP pt tr).length ≤ pt.length + 1 := by unfold fanP; split <;> simp
theorem tracksS_len (L : List Int) (i : Nat) : ∀ k s sc t, (tracksS L i k s sc t).2.2.length = t.length + k
  | 0, _, _, _ => rfl
  | k + 1, s, sc, t => by unfold tracksS; rw [tracksS_len L i k]; simp; omega
theorem stS_len (L : List Int) : ∀ m i s st sc tr, (∀ x ∈ tr, 1 ≤ x.length ∧ x.length ≤ 2) → ∀ x ∈ (stS L m i s st sc tr).2.2.2, 1 ≤ x.length ∧ x.length ≤ 2
  | 0, _, _, _, _, _, h => h
  | m + 1, i, s, st, sc, tr, h => by
    unfold stS
    refine stS_len L m _ _ _ _ _ ?_
    intro x hx
    rcases List.mem_append.1 hx with hx | hx
    · exact h x hx
    · rw [List.mem_singleton.1 hx, tracksS_len]
      have := nxt_lt L s 2 (by omega)
      simp; omega
theorem trk_len (tr : List (List Int)) (h : ∀ x ∈ tr, 1 ≤ x.length ∧ x.length ≤ 2) (i : Nat) : (trk tr i).length ≤ 2 := by
  unfold trk
  rw [List.getD_eq_getElem?_getD]
  cases he : tr[i]? with
  | none => simp
  | some x => exact (h x (List.mem_of_getElem? he)).2
theorem sec_f1 (L : List Int) (i : Nat) (nm : ByteArray) (st : Int) : 2 ≤ (secS L i nm st).1.f1 ∧ (secS L i nm st).1.f1 ≤ 10 := by
  have h1 := nxt_lt L i 9 (by omega)
  unfold secS
  simp only []
  omega
end Go.Proofs.Ytkegdgdkfbmabaa.X
