/- The builder of railplankeep (a pointer to a struct of slices): add, link, point. (Kd.R_append_step Kd.R_append print_append_cells) -/
import Derived.Deep.RegionHeld3
import Derived.Deep.RegionWith
import Derived.Deep.DrawnRows
import Derived.Test.YtkegdgdkfbmabaaQBase
import Derived.Test.YtkegdgdkfbmabaaX0
import Derived.Test.YtkegdgdkfbmabaaX4
namespace Go.Proofs.Ytkegdgdkfbmabaa.X
open Go Go.RowKit Go.Proofs.YtkegdgdkfbmabaaW Go.Proofs.YtkegdgdkfbmabaaW.PrintWords Go.Proofs.YtkegdgdkfbmabaaW.PrintLast Go.Proofs.YtkegdgdkfbmabaaW.PrintMore
attribute [local go_sem ↓] Go.wp_at_zero Go.wp_at_succ
set_option linter.unusedVariables false
set_option linter.unusedSimpArgs false
abbrev Sec1 := S31
abbrev kSec1 : Kd Sec1 := k31
theorem R_drew {α : Type} {d : Kd α} {e : Nat} {w : World} {base : Nat} {ok : Nat → Prop} {v : Value} {xs : List α} (h : d.R e w base ok v xs) : d.R e w.drew base ok v xs := Kd.R_below h (below_drew (Below.refl _ _))
theorem R_alloc {α : Type} {d : Kd α} {e : Nat} {w : World} {base : Nat} {ok : Nat → Prop} {v : Value} {xs : List α} (h : d.R e w base ok v xs) (o : Obj) : d.R e (w.alloc o) base ok v xs := Kd.R_below h (below_alloc (Below.refl _ _) o)
/-- A frame by the blocks' types: a block k with elements of type t may change only if S k t. -/
def FT (w w' : World) (S : Nat → Nat → Prop) : Prop := w.heap.size ≤ w'.heap.size ∧ ∀ k cells t fr, w.heap[k]? = some (.cells cells t fr) → ¬ S k t → w'.heap[k]? = w.heap[k]?
theorem FT.refl (w : World) (S : Nat → Nat → Prop) : FT w w S := ⟨Nat.le_refl _, fun _ _ _ _ _ _ => rfl⟩
theorem FT.trans {w w1 w2 : World} {S : Nat → Nat → Prop} (h : FT w w1 S) (h2 : FT w1 w2 S) : FT w w2 S := by
  refine ⟨Nat.le_trans h.1 h2.1, fun k cells t fr hk hs => ?_⟩
  have e1 := h.2 k cells t fr hk hs
  exact (h2.2 k cells t fr (e1.trans hk) hs).trans e1
theorem FT.mono {w w1 : World} {S S' : Nat → Nat → Prop} (h : FT w w1 S) (hs : ∀ k t, S k t → S' k t) : FT w w1 S' := ⟨h.1, fun k cells t fr hk hn => h.2 k cells t fr hk (fun h => hn (hs k t h))⟩
theorem FT.of_below {w w1 : World} (h : Below w.heap.size w w1) (S : Nat → Nat → Prop) : FT w w1 S := ⟨h.size, fun k _ _ _ hk _ => h.block k (blk_lt hk)⟩
theorem FT.of_keep {w w1 : World} {g t0 : Nat} {cs : Array Value} {S : Nat → Nat → Prop} (h : KeepBut w w1 g none) (hb : w.heap[g]? = some (.cells cs t0 (0, 0))) (hs : S g t0) : FT w w1 S := ⟨h.1, fun k cells t fr hk hn => h.2 k (blk_lt hk) (by rintro rfl; rw [hb] at hk; injection hk with hk; injection hk with _ ht _; exact hn (ht ▸ hs)) (by simp)⟩
theorem FT.set_ {w w1 : World} {g t0 : Nat} {cs : Array Value} {S : Nat → Nat → Prop} (h : FT w w1 S) (hb : w1.heap[g]? = some (.cells cs t0 (0, 0))) (hs : S g t0) (j : Nat) (u : Value) : FT w (w1.setCell ⟨g, j, none⟩ u) S :=
  h.trans ⟨by simp [World.setCell], fun k cells t fr hk hn => Below.heap_setCell w1 ⟨g, j, none⟩ u k (by rintro rfl; rw [hb] at hk; injection hk with hk; injection hk with _ ht _; exact hn (ht ▸ hs))⟩
theorem FT.of_grown {α : Type} {d : Kd α} {e : Nat} {w w1 : World} {base : Nat} {ok : Nat → Prop} {v : Value} {xs : List α} {S : Nat → Nat → Prop} (hr : d.R e w base ok v xs) (hg : w.grownBy w1 v.ownBlock) (hs : ∀ k, base ≤ k → S k e) : FT w w1 S := by
  refine ⟨hg.size, fun k cells t fr hk hn => hg.block k (blk_lt hk) (fun he => ?_)⟩
  obtain ⟨inner, ho⟩ := Kd.R_own hr
  obtain ⟨cells', hc⟩ := own_typed ho k he.symm
  rw [hc] at hk
  injection hk with hk
  injection hk with _ ht _
  exact hn (ht ▸ hs k (own_base ho k he.symm))
theorem FT.blk {w w1 : World} {S : Nat → Nat → Prop} (h : FT w w1 S) {k t : Nat} {cells : Array Value} (hk : w.heap[k]? = some (.cells cells t (0, 0))) (hs : ¬ S k t) : w1.heap[k]? = some (.cells cells t (0, 0)) := (h.2 k cells t (0, 0) hk hs).trans hk
theorem R_FT {α : Type} {d : Kd α} {e : Nat} {w w1 : World} {base : Nat} {ok : Nat → Prop} {v : Value} {xs : List α} {S : Nat → Nat → Prop} (hr : d.R e w base ok v xs) (h : FT w w1 S) (hs : ∀ q k, q ∈ e :: d.E → ok k → ¬ S k q) : d.R e w1 base ok v xs :=
  Kd.R_mono (Kd.R_move (Kd.R_bound hr) (fun k hk => by obtain ⟨h1, h2, h3, q, hq, cells, hc⟩ := hk; exact h.2 k cells q (0, 0) hc (hs q k hq h1))) (fun _ hk => hk.1)
theorem ret_int {k : IntKind} {a b : Int} (h : a = b) : Ending.returned (.int k a) = .returned (.int k b) := by rw [h]
theorem w64_len (n : Nat) (h : n ≤ 1000000) : wrap64 (((n + 1 : Nat) : Int) - 1) = (n : Int) := by unfold wrap64; omega
set_option maxHeartbeats 1600000 in
set_option maxRecDepth 100000 in
theorem add_c (base p : Nat) (v0 v1 v2 v3 v4 v5 v6 : Value) (sc : List Sec1) (x : Sec1) (w0 w : World) (hb : w.heap[p]? = some (.cells #[v0, v1, v2, v3, v4, v5, v6] 53 (0, 0))) (hp : base ≤ p) (hB : Below base w0 w) (hbase : base ≤ w.heap.size) (hr : Kd.R kSec1 31 w base (fun _ => True) v2 sc) (hn : sc.length ≤ 1000) :
    Calls Try.prog 32 #[.pointer (some ⟨p, 0, none⟩), .agg #[.string x.f0, .int .i64 x.f1, .int .i64 x.f2, .int .i64 x.f3, .int .i64 x.f4]] w fun e w' => ∃ v2', e = .returned (.int .i64 sc.length) ∧ w'.heap[p]? = some (.cells #[v0, v1, v2', v3, v4, v5, v6] 53 (0, 0)) ∧ Kd.R kSec1 31 w' base (fun _ => True) v2' (sc ++ [x]) ∧ Below base w0 w' ∧ FT w w' (fun k t => k = p ∨ t = 31) := by
  have huB := Try.underlying53
  have huL := Try.underlying28
  have huS := Try.underlying31
  have HP := Aside0.mk hp
  have HN := Aside0.mk hn
  obtain ⟨A2, c2, hv2⟩ := Kd.R_slice hr
  subst hv2
  have hplt := blk_lt hb
  generalize hW : w.alloc (.cells #[.string x.f0, .int .i64 x.f1, .int .i64 x.f2, .int .i64 x.f3, .int .i64 x.f4] 31) = W1
  have HB1 : Aside0 (W1.heap[p]? = some (.cells #[v0, v1, .slice A2 sc.length c2, v3, v4, v5, v6] 53 (0, 0))) := ⟨hW ▸ blk_alloc hb _⟩
  have HX1 : Aside0 (W1.heap[w.heap.size]? = some (.cells #[.string x.f0, .int .i64 x.f1, .int .i64 x.f2, .int .i64 x.f3, .int .i64 x.f4] 31 (0, 0))) := ⟨hW ▸ blk_new _ _⟩
  have HBB : Aside0 (Below base w0 W1.drew) := ⟨below_drew (hW ▸ hB.alloc hbase _)⟩
  have HRR : Aside0 (Kd.R kSec1 31 W1.drew base (fun _ => True) (.slice A2 sc.length c2) sc) := ⟨R_drew (hW ▸ R_alloc hr _)⟩
  have HBS : Aside0 (base ≤ W1.drew.heap.size) := ⟨by rw [← hW]; simp; omega⟩
  have HKB : Aside0 (FT w W1.drew (fun k t => k = p ∨ t = 31)) := ⟨FT.of_below (below_drew (hW ▸ below_alloc (Below.refl _ _) _)) _⟩
  have HPN : Aside0 (some p ≠ (Value.slice A2 sc.length c2).ownBlock) := ⟨Kd.R_ne hr hb (by decide)⟩
  have HPL : Aside0 (p < W1.heap.size) := ⟨blk_lt HB1.out⟩
  have HL32 : Aside0 ((sc.length + 1) * 48 ≤ 140737488355328) := ⟨by omega⟩
  have hc2 : W1.cell? ⟨p, 2, none⟩ = some (.slice A2 sc.length c2) := (blk_cell HB1.out 2).trans rfl
  have hx0 : W1.cell? ⟨w.heap.size, 0, none⟩ = some (.string x.f0) := (blk_cell HX1.out 0).trans rfl
  have hx1 : W1.cell? ⟨w.heap.size, 1, none⟩ = some (.int .i64 x.f1) := (blk_cell HX1.out 1).trans rfl
  have hx2 : W1.cell? ⟨w.heap.size, 2, none⟩ = some (.int .i64 x.f2) := (blk_cell HX1.out 2).trans rfl
  have hx3 : W1.cell? ⟨w.heap.size, 3, none⟩ = some (.int .i64 x.f3) := (blk_cell HX1.out 3).trans rfl
  have hx4 : W1.cell? ⟨w.heap.size, 4, none⟩ = some (.int .i64 x.f4) := (blk_cell HX1.out 4).trans rfl
  clear hb hr hB hbase hp hn hplt
  go_enter Try.func32, Try.ntmps32
  go_wp2
  (try rw [hW])
  clear hW
  refine start_ (n := 13) (S := fun w' => w'.cell? ⟨p, 2, none⟩ = some (.slice A2 sc.length c2) ∧ w'.cell? ⟨w.heap.size, 0, none⟩ = some (.string x.f0) ∧ w'.cell? ⟨w.heap.size, 1, none⟩ = some (.int .i64 x.f1) ∧ w'.cell? ⟨w.heap.size, 2, none⟩ = some (.int .i64 x.f2) ∧ w'.cell? ⟨w.heap.size, 3, none⟩ = some (.int .i64 x.f3) ∧ w'.cell? ⟨w.heap.size, 4, none⟩ = some (.int .i64 x.f4)) (ds := [8, 12]) #[false, false, false, false, false, false, false, false, false, false, false, false, false] (by kernel_rfl) rfl rfl ⟨hc2, hx0, hx1, hx2, hx3, hx4⟩ (fun hHeld => ?_)
  refine pure_ (i := 0) (N := some 5) (v := ?_) (a' := ?_) #[true, false, false, false, false, false, false, false, false, false, false, false, false] rfl rfl (by kernel_rfl) (fun _ _ _ h => h) (Or.inl ⟨by rfl, ?_⟩) ?_ ?_
  rotate_left
  · intro w'
    go_simp
    with_reducible rfl
  rotate_left
  · simp only [Act.put, List.setIfInBounds_toArray, List.set_cons_zero, List.set_cons_succ, i64_w, i32_w]
    rfl
  refine pure_ (i := 1) (N := some 6) (v := ?_) (a' := ?_) #[true, true, false, false, false, false, false, false, false, false, false, false, false] rfl rfl (by kernel_rfl) (fun _ _ _ h => h) (Or.inl ⟨by rfl, ?_⟩) ?_ ?_
  rotate_left
  · intro w'
    go_simp
    with_reducible rfl
  rotate_left
  · simp only [Act.put, List.setIfInBounds_toArray, List.set_cons_zero, List.set_cons_succ, i64_w, i32_w]
    rfl
  refine pure_ (i := 2) (N := some 7) (v := ?_) (a' := ?_) #[true, true, true, false, false, false, false, false, false, false, false, false, false] rfl rfl (by kernel_rfl) (fun _ _ _ h => h) (Or.inl ⟨by rfl, ?_⟩) ?_ ?_
  rotate_left
  · intro w'
    go_simp
    with_reducible rfl
  rotate_left
  · simp only [Act.put, List.setIfInBounds_toArray, List.set_cons_zero, List.set_cons_succ, i64_w, i32_w]
    rfl
  refine pure_ (i := 3) (N := some 8) (v := ?_) (a' := ?_) #[true, true, true, true, false, false, false, false, false, false, false, false, false] rfl rfl (by kernel_rfl) (fun _ _ _ h => h) (Or.inl ⟨by rfl, ?_⟩) ?_ ?_
  rotate_left
  · intro w'
    go_simp
    with_reducible rfl
  rotate_left
  · simp only [Act.put, List.setIfInBounds_toArray, List.set_cons_zero, List.set_cons_succ, i64_w, i32_w]
    rfl
  refine pure_ (i := 4) (N := some 9) (v := ?_) (a' := ?_) #[true, true, true, true, true, false, false, false, false, false, false, false, false] rfl rfl (by kernel_rfl) (fun _ _ _ h => h) (Or.inl ⟨by rfl, ?_⟩) ?_ ?_
  rotate_left
  · intro w'
    go_simp
    with_reducible rfl
  rotate_left
  · simp only [Act.put, List.setIfInBounds_toArray, List.set_cons_zero, List.set_cons_succ, i64_w, i32_w]
    rfl
  refine take_ (i := 5) (N := some 10) (v := ?_) (a' := ?_) #[true, true, true, true, true, true, false, false, false, false, false, false, false] rfl rfl (by kernel_rfl) (fun _ _ _ h => h) (Or.inl ⟨by rfl, ?_⟩) hHeld ?_ ?_
  rotate_left
  · rintro w' ⟨s0, s1, s2, s3, s4, s5⟩
    go_simp
    with_reducible rfl
  rotate_left
  · simp only [Act.put, List.setIfInBounds_toArray, List.set_cons_zero, List.set_cons_succ, i64_w, i32_w]
    rfl
  refine take_ (i := 6) (N := some 11) (v := ?_) (a' := ?_) #[true, true, true, true, true, true, true, false, false, false, false, false, false] rfl rfl (by kernel_rfl) (fun _ _ _ h => h) (Or.inl ⟨by rfl, ?_⟩) hHeld ?_ ?_
  rotate_left
  · rintro w' ⟨s0, s1, s2, s3, s4, s5⟩
    go_simp
    with_reducible rfl
  rotate_left
  · simp only [Act.put, List.setIfInBounds_toArray, List.set_cons_zero, List.set_cons_succ, i64_w, i32_w]
    rfl
  refine one_ (i := 7) (N := some 12) #[true, true, true, true, true, true, true, true, false, false, false, false, false] rfl rfl (by kernel_rfl) (by decide) (fun K hK => ?_)
  refine value_ (w1 := ?_) (v := ?_) (by rfl) rfl ?_ ?_
  rotate_left 2
  · go_simp
    constructor
    · rfl
    · rfl
  refine hK.out _ _ ⟨(World.cell?_alloc_lt _ _ _ (World.block_lt_of_cell? _ _ (hHeld.1))).trans (hHeld.1), (World.cell?_alloc_lt _ _ _ (World.block_lt_of_cell? _ _ (hHeld.2.1))).trans (hHeld.2.1), (World.cell?_alloc_lt _ _ _ (World.block_lt_of_cell? _ _ (hHeld.2.2.1))).trans (hHeld.2.2.1), (World.cell?_alloc_lt _ _ _ (World.block_lt_of_cell? _ _ (hHeld.2.2.2.1))).trans (hHeld.2.2.2.1), (World.cell?_alloc_lt _ _ _ (World.block_lt_of_cell? _ _ (hHeld.2.2.2.2.1))).trans (hHeld.2.2.2.2.1), (World.cell?_alloc_lt _ _ _ (World.block_lt_of_cell? _ _ (hHeld.2.2.2.2.2))).trans (hHeld.2.2.2.2.2)⟩ (fun hHeld => ?_)
  clear hK K
  refine norm_ (a' := ?_) ?_ ?_
  rotate_left
  · show Act.put _ (some 12) _ = _
    simp only [Act.put, List.setIfInBounds_toArray, List.set_cons_zero, List.set_cons_succ, i64_w, i32_w]
    rfl
  refine last_ (i := 8) (N := some 13) #[true, true, true, true, true, true, true, true, true, false, false, false, false] rfl rfl (by kernel_rfl) (by decide) (fun K hK => ?_)
  refine Kd.R_append_step kSec1 (w0 := w0) base (by rfl) (.tmp 10) (.tmp 12) 25 31 (.agg #[.string ⟨#[]⟩, .int .i64 0, .int .i64 0, .int .i64 0, .int .i64 0]) 48 (by rfl) Try.underlying25 (by kernel_rfl) rfl (by decide) (by omega) (.slice A2 sc.length c2) sc x [.string x.f0, .int .i64 x.f1, .int .i64 x.f2, .int .i64 x.f3, .int .i64 x.f4] (fun _ => True) (fun _ => False) (by rfl) (by rfl) (k31_mkM _ _ _ x) (fun _ h => h.elim) (fun _ _ => trivial) HRR.out HBB.out HBS.out HL32.out ?_
  intro v1n w7 ho7 hb7 hg7 hat7
  obtain ⟨A7, c7, hv7⟩ := Kd.R_slice ho7
  rw [List.length_append, List.length_singleton] at hv7
  subst hv7
  have HG7 := Aside0.mk (blk_grown (blk_drew HB1.out) hg7 HPN.out)
  have e7 : w7.cell? ⟨p, 2, none⟩ = some (.slice A2 sc.length c2) := (blk_cell HG7.out 2).trans rfl
  have f7 := blk_frozen HG7.out 2
  refine hK.out _ _ ?_
  clear hK K
  refine norm_ (a' := ?_) ?_ ?_
  rotate_left
  · show Act.put _ (some 13) _ = _
    simp only [Act.put, List.setIfInBounds_toArray, List.set_cons_zero, List.set_cons_succ, i64_w, i32_w]
    rfl
  refine pure_ (i := 9) (N := some 14) (v := ?_) (a' := ?_) #[true, true, true, true, true, true, true, true, true, true, false, false, false] rfl rfl (by kernel_rfl) (fun _ _ _ h => h) (Or.inl ⟨by rfl, ?_⟩) ?_ ?_
  rotate_left
  · intro w'
    go_simp
    with_reducible rfl
  rotate_left
  · simp only [Act.put, List.setIfInBounds_toArray, List.set_cons_zero, List.set_cons_succ, i64_w, i32_w]
    rfl
  refine pure_ (i := 10) (N := some 15) (v := ?_) (a' := ?_) #[true, true, true, true, true, true, true, true, true, true, true, false, false] rfl rfl (by kernel_rfl) (fun _ _ _ h => h) (Or.inl ⟨by rfl, ?_⟩) ?_ ?_
  rotate_left
  · intro w'
    go_simp
    with_reducible rfl
  rotate_left
  · simp only [Act.put, List.setIfInBounds_toArray, List.set_cons_zero, List.set_cons_succ, i64_w, i32_w]
    rfl
  refine pure_ (i := 11) (N := some 16) (v := ?_) (a' := ?_) #[true, true, true, true, true, true, true, true, true, true, true, true, false] rfl rfl (by kernel_rfl) (fun _ _ _ h => h) (Or.inl ⟨by rfl, ?_⟩) ?_ ?_
  rotate_left
  · intro w'
    go_simp
    with_reducible rfl
  rotate_left
  · simp only [Act.put, List.setIfInBounds_toArray, List.set_cons_zero, List.set_cons_succ, i64_w, i32_w]
    rfl
  refine last_ (i := 12) (N := none) #[true, true, true, true, true, true, true, true, true, true, true, true, true] rfl rfl (by kernel_rfl) (by decide) (fun K hK => ?_)
  refine skip_ (w1 := ?_) (by rfl) rfl ?_ ?_
  rotate_left
  · go_simp
    rfl
  refine hK.out _ _ ?_
  clear hK K
  refine done_ (by kernel_rfl) ?_
  have HG8 := Aside0.mk (blk_put HG7.out 2 (.slice A7 (sc.length + 1) c7) rfl)
  have e8 : (w7.setCell ⟨p, 2, none⟩ (.slice A7 (sc.length + 1) c7)).cell? ⟨p, 2, none⟩ = some (.slice A7 (sc.length + 1) c7) := (blk_cell HG8.out 2).trans rfl
  have HO8 := Aside0.mk (Kd.R_set ho7 HG7.out (by decide) 2 (.slice A7 (sc.length + 1) c7))
  have HBW8 := Aside0.mk (hb7.setCell (p := ⟨p, 2, none⟩) HP.out (.slice A7 (sc.length + 1) c7))
  have HK8 := Aside0.mk ((HKB.out.trans (FT.of_grown HRR.out hg7 (fun _ _ => .inr rfl))).set_ HG7.out (.inl rfl) 2 (.slice A7 (sc.length + 1) c7))
  clear hb7 hg7 hat7 ho7 e7 f7
  go_wp2
  go_ret
  exact ⟨_, ret_int (by have := HN.out; unfold wrap64; omega), HG8.out, HO8.out, HBW8.out, HK8.out⟩
abbrev Lnk1 := S61
abbrev kLnk1 : Kd Lnk1 := k61
set_option maxHeartbeats 1600000 in
set_option maxRecDepth 100000 in
theorem link_c (base p : Nat) (v0 v1 v2 v3 v4 v5 v6 : Value) (lk : List Lnk1) (a c pt ps : Int) (w0 w : World) (hb : w.heap[p]? = some (.cells #[v0, v1, v2, v3, v4, v5, v6] 53 (0, 0))) (hp : base ≤ p) (hB : Below base w0 w) (hbase : base ≤ w.heap.size) (hr : Kd.R kLnk1 61 w base (fun _ => True) v3 lk) (hn : lk.length ≤ 1000) :
    Calls Try.prog 33 #[.pointer (some ⟨p, 0, none⟩), .int .i64 a, .int .i64 c, .int .i64 pt, .int .i64 ps] w fun e w' => ∃ v3', e = .returned (.tuple #[]) ∧ w'.heap[p]? = some (.cells #[v0, v1, v2, v3', v4, v5, v6] 53 (0, 0)) ∧ Kd.R kLnk1 61 w' base (fun _ => True) v3' (lk ++ [⟨a, 1, c, 0, pt, ps⟩]) ∧ Below base w0 w' ∧ FT w w' (fun k t => k = p ∨ t = 61) := by
  have huB := Try.underlying53
  have huL := Try.underlying28
  have huS := Try.underlying61
  have HP := Aside0.mk hp
  have HN := Aside0.mk hn
  obtain ⟨A2, c2, hv2⟩ := Kd.R_slice hr
  subst hv2
  have HB1 := Aside0.mk hb
  have HBB := Aside0.mk hB
  have HRR := Aside0.mk hr
  have HBS := Aside0.mk hbase
  have HPN : Aside0 (some p ≠ (Value.slice A2 lk.length c2).ownBlock) := ⟨Kd.R_ne hr hb (by decide)⟩
  have HL32 : Aside0 ((lk.length + 1) * 48 ≤ 140737488355328) := ⟨by omega⟩
  have hc2 : w.cell? ⟨p, 3, none⟩ = some (.slice A2 lk.length c2) := (blk_cell HB1.out 3).trans rfl
  clear hb hr hB hbase hp hn
  go_enter Try.func33, Try.ntmps33
  go_wp2_with (at_builtin; refine Kd.R_append kLnk1 (w0 := w0) base rfl (.tmp 15) (.tmp 21) 26 61 (.agg #[.int .i64 0, .int .i64 0, .int .i64 0, .int .i64 0, .int .i64 0, .int .i64 0]) 48 rfl Try.underlying26 (by kernel_rfl) rfl (by decide) (by omega) (.slice A2 lk.length c2) lk ⟨a, 1, c, 0, pt, ps⟩ [.int .i64 a, .int .i64 1, .int .i64 c, .int .i64 0, .int .i64 pt, .int .i64 ps] (fun _ => True) (fun _ => False) rfl rfl (k61_mkM _ _ _ _) (fun _ h => h.elim) (fun _ _ => trivial) HRR.out HBB.out HBS.out HL32.out ?_; intro v1n w7 ho7 hb7 hg7 hat7; obtain ⟨A7, c7, hv7⟩ := Kd.R_slice ho7; rw [List.length_append, List.length_singleton] at hv7; subst hv7; have HG7 := Aside0.mk (blk_grown HB1.out hg7 HPN.out); have HO7 := Aside0.mk ho7; have HB7 := Aside0.mk hb7; have HG7' := Aside0.mk hg7; clear ho7 hb7 hg7 hat7; have e7 : w7.cell? ⟨p, 3, none⟩ = some (.slice A2 lk.length c2) := (blk_cell HG7.out 3).trans rfl; have f7 := blk_frozen HG7.out 3)
  go_end0
  exact ⟨_, rfl, blk_put HG7.out 3 _ rfl, Kd.R_set HO7.out HG7.out (by decide) 3 _, HB7.out.setCell (p := ⟨p, 3, none⟩) HP.out _, (FT.of_grown HRR.out HG7'.out (fun _ _ => .inr rfl)).set_ HG7.out (.inl rfl) 3 _⟩
set_option maxHeartbeats 1600000 in
set_option maxRecDepth 100000 in
/-- named, where it answers: the name's front and one digit. -/
theorem point_c (base p : Nat) (v0 v1 v2 v3 v4 v5 v6 : Value) (pt : List ByteArray) (nm : ByteArray) (H1 : Nat) (w0 w : World) (hb : w.heap[p]? = some (.cells #[v0, v1, v2, v3, v4, v5, v6] 53 (0, 0))) (hp : base ≤ p) (hH : base ≤ H1) (hB : Below base w0 w) (hbase : H1 ≤ w.heap.size) (hr : Kd.R Kd.string 9 w H1 (fun _ => True) v1 pt) (hn : pt.length ≤ 1000) (hnm : railplankeep_named.f ⟨#[80]⟩ (pt.length : Int) = some nm) :
    Calls Try.prog 36 #[.pointer (some ⟨p, 0, none⟩)] w fun e w' => ∃ v1', e = .returned (.int .i64 pt.length) ∧ w'.heap[p]? = some (.cells #[v0, v1', v2, v3, v4, v5, v6] 53 (0, 0)) ∧ Kd.R Kd.string 9 w' H1 (fun _ => True) v1' (pt ++ [nm]) ∧ Below base w0 w' ∧ FT w w' (fun k t => k = p ∨ t = 9 ∧ H1 ≤ k) := by
  have huB := Try.underlying53
  have huL := Try.underlying28
  have HP := Aside0.mk hp
  have HN := Aside0.mk hn
  have HNM := Aside0.mk hnm
  obtain ⟨A2, c2, hv2⟩ := Kd.R_slice hr
  subst hv2
  have HB1 := Aside0.mk hb
  have HBB := Aside0.mk hB
  have HRR := Aside0.mk hr
  have HBS := Aside0.mk hbase
  have HHB := Aside0.mk hH
  have HPN : Aside0 (some p ≠ (Value.slice A2 pt.length c2).ownBlock) := ⟨Kd.R_ne hr hb (by decide)⟩
  have HL32 : Aside0 ((pt.length + 1) * 16 ≤ 140737488355328) := ⟨by omega⟩
  have hc2 : w.cell? ⟨p, 1, none⟩ = some (.slice A2 pt.length c2) := (blk_cell HB1.out 1).trans rfl
  clear hb hr hB hbase hp hn hH hnm
  go_enter Try.func36, Try.ntmps36
  go_wp2
  refine start_ (n := 19) (S := fun w' => w'.cell? ⟨p, 1, none⟩ = some (.slice A2 pt.length c2)) (ds := [14, 18]) #[false, false, false, false, false, false, false, false, false, false, false, false, false, false, false, false, false, false, false] (by kernel_rfl) rfl rfl (hc2) (fun hHeld => ?_)
  refine pure_ (i := 0) (N := some 3) (v := ?_) (a' := ?_) #[true, false, false, false, false, false, false, false, false, false, false, false, false, false, false, false, false, false, false] rfl rfl (by kernel_rfl) (fun _ _ _ h => h) (Or.inl ⟨by rfl, ?_⟩) ?_ ?_
  rotate_left
  · intro w'
    go_simp
    with_reducible rfl
  rotate_left
  · simp only [Act.put, List.setIfInBounds_toArray, List.set_cons_zero, List.set_cons_succ, i64_w, i32_w]
    rfl
  refine pure_ (i := 1) (N := some 4) (v := ?_) (a' := ?_) #[true, true, false, false, false, false, false, false, false, false, false, false, false, false, false, false, false, false, false] rfl rfl (by kernel_rfl) (fun _ _ _ h => h) (Or.inl ⟨by rfl, ?_⟩) ?_ ?_
  rotate_left
  · intro w'
    go_simp
    with_reducible rfl
  rotate_left
  · simp only [Act.put, List.setIfInBounds_toArray, List.set_cons_zero, List.set_cons_succ, i64_w, i32_w]
    rfl
  refine pure_ (i := 2) (N := some 5) (v := ?_) (a' := ?_) #[true, true, true, false, false, false, false, false, false, false, false, false, false, false, false, false, false, false, false] rfl rfl (by kernel_rfl) (fun _ _ _ h => h) (Or.inl ⟨by rfl, ?_⟩) ?_ ?_
  rotate_left
  · intro w'
    go_simp
    with_reducible rfl
  rotate_left
  · simp only [Act.put, List.setIfInBounds_toArray, List.set_cons_zero, List.set_cons_succ, i64_w, i32_w]
    rfl
  refine pure_ (i := 3) (N := some 6) (v := ?_) (a' := ?_) #[true, true, true, true, false, false, false, false, false, false, false, false, false, false, false, false, false, false, false] rfl rfl (by kernel_rfl) (fun _ _ _ h => h) (Or.inl ⟨by rfl, ?_⟩) ?_ ?_
  rotate_left
  · intro w'
    go_simp
    with_reducible rfl
  rotate_left
  · simp only [Act.put, List.setIfInBounds_toArray, List.set_cons_zero, List.set_cons_succ, i64_w, i32_w]
    rfl
  refine pure_ (i := 4) (N := some 7) (v := ?_) (a' := ?_) #[true, true, true, true, true, false, false, false, false, false, false, false, false, false, false, false, false, false, false] rfl rfl (by kernel_rfl) (fun _ _ _ h => h) (Or.inl ⟨by rfl, ?_⟩) ?_ ?_
  rotate_left
  · intro w'
    go_simp
    with_reducible rfl
  rotate_left
  · simp only [Act.put, List.setIfInBounds_toArray, List.set_cons_zero, List.set_cons_succ, i64_w, i32_w]
    rfl
  refine pure_ (i := 6) (N := some 9) (v := ?_) (a' := ?_) #[true, true, true, true, true, false, true, false, false, false, false, false, false, false, false, false, false, false, false] rfl rfl (by kernel_rfl) (fun _ _ _ h => h) (Or.inl ⟨by rfl, ?_⟩) ?_ ?_
  rotate_left
  · intro w'
    go_simp
    with_reducible rfl
  rotate_left
  · simp only [Act.put, List.setIfInBounds_toArray, List.set_cons_zero, List.set_cons_succ, i64_w, i32_w]
    rfl
  refine pure_ (i := 7) (N := some 10) (v := ?_) (a' := ?_) #[true, true, true, true, true, false, true, true, false, false, false, false, false, false, false, false, false, false, false] rfl rfl (by kernel_rfl) (fun _ _ _ h => h) (Or.inl ⟨by rfl, ?_⟩) ?_ ?_
  rotate_left
  · intro w'
    go_simp
    with_reducible rfl
  rotate_left
  · simp only [Act.put, List.setIfInBounds_toArray, List.set_cons_zero, List.set_cons_succ, i64_w, i32_w]
    rfl
  refine pure_ (i := 8) (N := some 11) (v := ?_) (a' := ?_) #[true, true, true, true, true, false, true, true, true, false, false, false, false, false, false, false, false, false, false] rfl rfl (by kernel_rfl) (fun _ _ _ h => h) (Or.inl ⟨by rfl, ?_⟩) ?_ ?_
  rotate_left
  · intro w'
    go_simp
    with_reducible rfl
  rotate_left
  · simp only [Act.put, List.setIfInBounds_toArray, List.set_cons_zero, List.set_cons_succ, i64_w, i32_w]
    rfl
  refine pure_ (i := 9) (N := some 12) (v := ?_) (a' := ?_) #[true, true, true, true, true, false, true, true, true, true, false, false, false, false, false, false, false, false, false] rfl rfl (by kernel_rfl) (fun _ _ _ h => h) (Or.inl ⟨by rfl, ?_⟩) ?_ ?_
  rotate_left
  · intro w'
    go_simp
    with_reducible rfl
  rotate_left
  · simp only [Act.put, List.setIfInBounds_toArray, List.set_cons_zero, List.set_cons_succ, i64_w, i32_w]
    rfl
  refine take_ (i := 5) (N := some 8) (v := ?_) (a' := ?_) #[true, true, true, true, true, true, true, true, true, true, false, false, false, false, false, false, false, false, false] rfl rfl (by kernel_rfl) (fun _ _ _ h => h) (Or.inl ⟨by rfl, ?_⟩) hHeld ?_ ?_
  rotate_left
  · intro w' s0
    go_simp
    with_reducible rfl
  rotate_left
  · simp only [Act.put, List.setIfInBounds_toArray, List.set_cons_zero, List.set_cons_succ, i64_w, i32_w]
    rfl
  refine take_ (i := 10) (N := some 13) (v := ?_) (a' := ?_) #[true, true, true, true, true, true, true, true, true, true, true, false, false, false, false, false, false, false, false] rfl rfl (by kernel_rfl) (fun _ _ _ h => h) (Or.inl ⟨by rfl, ?_⟩) hHeld ?_ ?_
  rotate_left
  · intro w' s0
    go_simp
    with_reducible rfl
  rotate_left
  · simp only [Act.put, List.setIfInBounds_toArray, List.set_cons_zero, List.set_cons_succ, i64_w, i32_w]
    rfl
  refine pure_ (i := 11) (N := some 14) (v := ?_) (a' := ?_) #[true, true, true, true, true, true, true, true, true, true, true, true, false, false, false, false, false, false, false] rfl rfl (by kernel_rfl) (fun _ _ _ h => h) (Or.inl ⟨by rfl, ?_⟩) ?_ ?_
  rotate_left
  · intro w'
    go_simp
    with_reducible rfl
  rotate_left
  · simp only [Act.put, List.setIfInBounds_toArray, List.set_cons_zero, List.set_cons_succ, i64_w, i32_w]
    rfl
  refine one_ (i := 12) (N := some 15) #[true, true, true, true, true, true, true, true, true, true, true, true, true, false, false, false, false, false, false] rfl rfl (by kernel_rfl) (by decide) (fun K hK => ?_)
  refine goes_ Try.func30 (by kernel_rfl) rfl #[.string ⟨#[80]⟩, .int .i64 pt.length] (by rfl) rfl rfl (by simp only [List.map_toArray, List.map_cons, List.map_nil]; rfl) ?_
  with_reducible refine (railplankeep_named.calls ⟨#[80]⟩ (pt.length : Int) nm _ HNM.out).mono ?_
  rintro e w3 ⟨rfl, hd3⟩
  refine ⟨_, rfl, ?_⟩
  have HD3 := Aside0.mk hd3.below
  have HS3 : Aside0 (H1 ≤ w3.heap.size) := ⟨Nat.le_trans HBS.out hd3.below.size⟩
  have HG3 := Aside0.mk (blk_below (blk_drew HB1.out) hd3.below)
  refine hK.out _ _ ((blk_cell HG3.out 1).trans rfl) (fun hHeld => ?_)
  clear hK K
  refine norm_ (a' := ?_) ?_ ?_
  rotate_left
  · show Act.put _ (some 15) _ = _
    simp only [Act.put, List.setIfInBounds_toArray, List.set_cons_zero, List.set_cons_succ, i64_w, i32_w]
    rfl
  refine one_ (i := 13) (N := some 16) #[true, true, true, true, true, true, true, true, true, true, true, true, true, true, false, false, false, false, false] rfl rfl (by kernel_rfl) (by decide) (fun K hK => ?_)
  refine value_ (w1 := ?_) (v := ?_) (by rfl) rfl ?_ ?_
  rotate_left 2
  · go_simp
    constructor
    · rfl
    · rfl
  refine hK.out _ _ ((World.cell?_alloc_lt _ _ _ (World.block_lt_of_cell? _ _ (hHeld))).trans (hHeld)) (fun hHeld => ?_)
  clear hK K
  refine norm_ (a' := ?_) ?_ ?_
  rotate_left
  · show Act.put _ (some 16) _ = _
    simp only [Act.put, List.setIfInBounds_toArray, List.set_cons_zero, List.set_cons_succ, i64_w, i32_w]
    rfl
  refine last_ (i := 14) (N := some 17) #[true, true, true, true, true, true, true, true, true, true, true, true, true, true, true, false, false, false, false] rfl rfl (by kernel_rfl) (by decide) (fun K hK => ?_)
  refine Kd.R_append_step Kd.string (w0 := w3) H1 (by rfl) (.tmp 8) (.tmp 16) 24 9 (.string ⟨#[]⟩) 16 (by rfl) Try.underlying24 (by kernel_rfl) rfl (by decide) (by omega) (.slice A2 pt.length c2) pt nm [.string nm] (fun _ => True) (fun _ => False) (by rfl) (by rfl) rfl (fun _ h => h.elim) (fun _ _ => trivial) (Kd.R_below (R_drew HRR.out) HD3.out) (Below.refl _ _) HS3.out HL32.out ?_
  intro v1n w7 ho7 hb7 hg7 hat7
  obtain ⟨A7, c7, hv7⟩ := Kd.R_slice ho7
  rw [List.length_append, List.length_singleton] at hv7
  subst hv7
  have HG7 := Aside0.mk (blk_grown HG3.out hg7 HPN.out)
  have e7 : w7.cell? ⟨p, 1, none⟩ = some (.slice A2 pt.length c2) := (blk_cell HG7.out 1).trans rfl
  have f7 := blk_frozen HG7.out 1
  refine hK.out _ _ ?_
  clear hK K
  refine norm_ (a' := ?_) ?_ ?_
  rotate_left
  · show Act.put _ (some 17) _ = _
    simp only [Act.put, List.setIfInBounds_toArray, List.set_cons_zero, List.set_cons_succ, i64_w, i32_w]
    rfl
  refine pure_ (i := 15) (N := some 18) (v := ?_) (a' := ?_) #[true, true, true, true, true, true, true, true, true, true, true, true, true, true, true, true, false, false, false] rfl rfl (by kernel_rfl) (fun _ _ _ h => h) (Or.inl ⟨by rfl, ?_⟩) ?_ ?_
  rotate_left
  · intro w'
    go_simp
    with_reducible rfl
  rotate_left
  · simp only [Act.put, List.setIfInBounds_toArray, List.set_cons_zero, List.set_cons_succ, i64_w, i32_w]
    rfl
  refine pure_ (i := 16) (N := some 19) (v := ?_) (a' := ?_) #[true, true, true, true, true, true, true, true, true, true, true, true, true, true, true, true, true, false, false] rfl rfl (by kernel_rfl) (fun _ _ _ h => h) (Or.inl ⟨by rfl, ?_⟩) ?_ ?_
  rotate_left
  · intro w'
    go_simp
    with_reducible rfl
  rotate_left
  · simp only [Act.put, List.setIfInBounds_toArray, List.set_cons_zero, List.set_cons_succ, i64_w, i32_w]
    rfl
  refine pure_ (i := 17) (N := some 20) (v := ?_) (a' := ?_) #[true, true, true, true, true, true, true, true, true, true, true, true, true, true, true, true, true, true, false] rfl rfl (by kernel_rfl) (fun _ _ _ h => h) (Or.inl ⟨by rfl, ?_⟩) ?_ ?_
  rotate_left
  · intro w'
    go_simp
    with_reducible rfl
  rotate_left
  · simp only [Act.put, List.setIfInBounds_toArray, List.set_cons_zero, List.set_cons_succ, i64_w, i32_w]
    rfl
  refine last_ (i := 18) (N := none) #[true, true, true, true, true, true, true, true, true, true, true, true, true, true, true, true, true, true, true] rfl rfl (by kernel_rfl) (by decide) (fun K hK => ?_)
  refine skip_ (w1 := ?_) (by rfl) rfl ?_ ?_
  rotate_left
  · go_simp
    rfl
  refine hK.out _ _ ?_
  clear hK K
  refine done_ (by kernel_rfl) ?_
  have HG8 := Aside0.mk (blk_put HG7.out 1 (.slice A7 (pt.length + 1) c7) rfl)
  have e8 : (w7.setCell ⟨p, 1, none⟩ (.slice A7 (pt.length + 1) c7)).cell? ⟨p, 1, none⟩ = some (.slice A7 (pt.length + 1) c7) := (blk_cell HG8.out 1).trans rfl
  have HO8 := Aside0.mk (Kd.R_set ho7 HG7.out (by decide) 1 (.slice A7 (pt.length + 1) c7))
  have HR3 := Aside0.mk (Kd.R_below (R_drew HRR.out) HD3.out)
  have HB3 : Aside0 (Below base w0 w3) := ⟨(below_drew HBB.out).trans (HD3.out.mono (by have := HBS.out; have := HHB.out; simp; omega))⟩
  have HBW8 := Aside0.mk ((pw_below_grown HB3.out _ (by have := HS3.out; have := HHB.out; omega) hg7 (fun k hk => Nat.le_trans HHB.out (((Kd.R_bound HR3.out).1 k hk).2.1))).setCell (p := ⟨p, 1, none⟩) HP.out (.slice A7 (pt.length + 1) c7))
  have HK8 := Aside0.mk (((FT.of_below (below_drew (Below.refl _ _)) (fun k t => k = p ∨ t = 9 ∧ H1 ≤ k)).trans (FT.of_below HD3.out _)).trans (FT.of_grown HR3.out hg7 (fun k hk => .inr ⟨rfl, hk⟩)) |>.set_ HG7.out (.inl rfl) 1 (.slice A7 (pt.length + 1) c7))
  clear hb7 hg7 hat7 ho7 e7 f7
  go_wp2
  go_ret
  exact ⟨_, ret_int (by have := HN.out; unfold wrap64; omega), HG8.out, HO8.out, HBW8.out, HK8.out⟩
end Go.Proofs.Ytkegdgdkfbmabaa.X
