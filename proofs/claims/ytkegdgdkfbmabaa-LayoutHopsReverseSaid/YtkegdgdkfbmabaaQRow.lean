/- railplankeep.row: the walk. -/
import Derived.Deep.RegionHeld3
import Derived.Deep.RegionWith
import Derived.Deep.DrawnRows
import Derived.Deep.LoopGhost
import Derived.Test.YtkegdgdkfbmabaaQRowB
import Derived.Test.YtkegdgdkfbmabaaQBuild1
import Derived.Test.YtkegdgdkfbmabaaX3
import Derived.Test.YtkegdgdkfbmabaaX4
import Derived.Test.YtkegdgdkfbmabaaQFan
import Derived.Test.YtkegdgdkfbmabaaQRowS
namespace Go.Proofs.Ytkegdgdkfbmabaa.X
open Go Go.RowKit Go.Proofs.YtkegdgdkfbmabaaW Go.Proofs.YtkegdgdkfbmabaaW.PrintWords Go.Proofs.YtkegdgdkfbmabaaW.PrintLast Go.Proofs.YtkegdgdkfbmabaaW.PrintMore
attribute [local go_sem ↓] Go.wp_at_zero Go.wp_at_succ
set_option linter.unusedVariables false
set_option linter.unusedSimpArgs false
abbrev nilS : Value := .slice none 0 0
def stE (L : List Int) (s : Nat) : Nat × List ByteArray × List Sec1 × List (List Int) := stS L (2 + (nxt L s 2).1) 0 (nxt L s 2).2 [] [] []
def bwE (L : List Int) (s : Nat) : Nat × List Sec1 × List Lnk1 × List ByteArray × List (List Int) := bwS L (stE L s).2.2.2 (1 + (nxt L s 2).1) 0 (stE L s).1 (stE L s).2.2.1 [] [] []
set_option maxHeartbeats 6400000 in
set_option maxRecDepth 100000 in
theorem row_c (g : Nat) (L : List Int) (s : Nat) (hL : L.length ≤ 9000000000000000000) (w0 w : World) (hI : IsS77 w0 w g L (s : Int)) (hB : Below w0.heap.size w0 w) :
    Calls Try.prog 22 #[.pointer (some ⟨g, 0, none⟩)] w fun e w' => ∃ (p : Nat) (v0 v1 v2 v3 v4 v5 : Value) (H1 : Nat) (ok4 ok5 : Nat → Prop), e = .returned (.pointer (some ⟨p, 0, none⟩)) ∧ RowI w0 w' g p L (bwE L s).1 v0 v1 v2 v3 v4 v5 (stE L s).2.1 (bwE L s).2.2.2.1 (bwE L s).2.1 (bwE L s).2.2.1 (stE L s).2.2.2 (bwE L s).2.2.2.2 H1 (fun k => k < H1) ok4 ok5 := by
  have huB := Try.underlying53
  have huL := Try.underlying28
  have huS := Try.underlying31
  have HLL := Aside0.mk hL
  have HI0 : Aside0 (RowI w0 (w.alloc (.cells #[nilS, nilS, nilS, nilS, nilS, nilS, nilS] 53)) g w.heap.size L s nilS nilS nilS nilS nilS nilS [] [] [] [] [] [] w0.heap.size (fun _ => True) (fun _ => True) (fun _ => True)) :=
    ⟨⟨blk_new _ _, hB.size, hI.alloc _, hB.alloc hB.size _, Kd.R_nil _ _ _ _ _, Kd.R_nil _ _ _ _ _, Kd.R_nil _ _ _ _ _, Kd.R_nil _ _ _ _ _, Kd.R_nil _ _ _ _ _, Kd.R_nil _ _ _ _ _, Nat.le_refl _, by have := hB.size; simp; omega⟩⟩
  clear hL hI hB
  unfold bwE
  obtain ⟨F1, hF1⟩ : ∃ F1, stE L s = F1 := ⟨_, rfl⟩
  rw [hF1]
  unfold stE at hF1
  have ha0 := nxt_lt L s 2 (by omega)
  have hnx : railplankeep_Source_Next.f L (s : Int) 2 = _ := next_ok L s 2 (by omega) (by omega) HLL.out
  obtain ⟨a, s1, hn⟩ : ∃ a s1, nxt L s 2 = (a, s1) := ⟨_, _, rfl⟩
  rw [hn] at hnx ha0 hF1 ⊢
  simp only [] at hnx ha0 hF1 ⊢
  obtain ⟨F3, hF3⟩ : ∃ F3, bwS L F1.2.2.2 (1 + a) 0 F1.1 F1.2.2.1 [] [] [] = F3 := ⟨_, rfl⟩
  rw [hF3]
  have HTR0' : ∀ x ∈ F1.2.2.2, 1 ≤ x.length ∧ x.length ≤ 2 := hF1 ▸ stS_len L _ _ _ _ _ _ (fun x hx => by simp at hx)
  have HTR0 := Aside0.mk HTR0'
  clear HTR0'
  have HF3 := Aside0.mk hF3
  have HF1 := Aside0.mk hF1
  have HNX := Aside0.mk hnx
  have HA := Aside0.mk ha0
  obtain ⟨n, hn2⟩ : ∃ n, n = 2 + a := ⟨_, rfl⟩
  have HN := Aside0.mk hn2
  have hsum : wrap64 (2 + (a : Int)) = (n : Int) := by unfold wrap64; omega
  clear hF3 hF1 hnx hn hn2 ha0
  go_enter Try.func22, Try.ntmps22
  go_wp2_with (go_at_call 29; refine (railplankeep_Source_Next.calls g L (s : Int) 2 _ _ w0 _ HI0.out.src HI0.out.bel HNX.out).mono ?_; rintro e w2 ⟨rfl, hS2, hB2, hK2⟩; have HI1 := Aside0.mk (HI0.out.next hS2 hB2 hK2); clear hS2 hB2 hK2)
  generalize w.heap.size = p at HI1 ⊢
  clear HI0
  rw [hsum]
  go_loopg [5] (n + 1) (fun kq v5 w' => ∃ (i s : Nat) (v0 v2 v4 : Value) (st : List ByteArray) (sc : List Sec1) (tr : List (List Int)), v5 = .int .i64 (i : Int) ∧ Aside0 (i + kq = n + 1) ∧ Aside0 (i ≤ n) ∧ Aside0 (sc.length ≤ 2 * i ∧ st.length = i ∧ tr.length = i) ∧ Aside0 (stS L (n - i) i s st sc tr = F1) ∧ Aside0 (RowI w0 w' g p L s v0 nilS v2 nilS v4 nilS st [] sc [] tr [] w0.heap.size (fun _ => True) (fun _ => True) (fun _ => True)))
  case atStart => exact ⟨0, s1, nilS, nilS, nilS, [], [], [], rfl, ⟨by omega⟩, ⟨Nat.zero_le _⟩, ⟨by simp⟩, ⟨by rw [← HF1.out, Nat.sub_zero, HN.out]⟩, HI1⟩
  case round =>
    clear HI1 HF1
    obtain ⟨i, s, v0, v2, v4, st, sc, tr, rfl, HK, HI, HSZ, HG, HR⟩ := hrel
    cases gk with
    | zero => exact absurd HK.out (by have := HI.out; omega)
    | succ k1 =>
      by_cases hi : i < n
      · have hi1 : decide ((i : Int) < (n : Int)) = true := decide_eq_true (by omega)
        have hi2 : decide (i < n) = true := decide_eq_true hi
        have HHI := Aside0.mk hi
        obtain ⟨m, hm⟩ : ∃ m, n - i = m + 1 := ⟨n - i - 1, by omega⟩
        have HM := Aside0.mk hm
        have hg := HG.out
        rw [hm] at hg
        unfold stS at hg
        have hb0 := nxt_lt L s 2 (by omega)
        have hnb : railplankeep_Source_Next.f L (s : Int) 2 = _ := next_ok L s 2 (by omega) (by omega) HLL.out
        obtain ⟨b, s2, hnxt⟩ : ∃ b s2, nxt L s 2 = (b, s2) := ⟨_, _, rfl⟩
        rw [hnxt] at hnb hb0 hg
        simp only [] at hnb hb0 hg
        obtain ⟨F2, hF2⟩ : ∃ F2, tracksS L i (1 + b) s2 sc [] = F2 := ⟨_, rfl⟩
        rw [hF2] at hg
        have HF2 := Aside0.mk hF2
        have HGG := Aside0.mk hg
        have HNB := Aside0.mk hnb
        have HB0 := Aside0.mk hb0
        obtain ⟨kk, hkk⟩ : ∃ kk, kk = 1 + b := ⟨_, rfl⟩
        have HKK := Aside0.mk hkk
        have hsum2 : wrap64 (1 + (b : Int)) = (kk : Int) := by unfold wrap64; omega
        have hnm : railplankeep_named.f ⟨#[83]⟩ (i : Int) = some (nmd ⟨#[83]⟩ i) := named_ok _ _ (by decide)
        have HNM := Aside0.mk hnm
        obtain ⟨A0, c0, hv0⟩ := Kd.R_slice HR.out.r0
        subst hv0
        have hc0 : wr.cell? ⟨p, 0, none⟩ = some (.slice A0 st.length c0) := (blk_cell HR.out.blk 0).trans rfl
        have HNP : Aside0 (some p ≠ (Value.slice A0 st.length c0).ownBlock) := ⟨Kd.R_ne HR.out.r0 HR.out.blk (by decide)⟩
        have HL16 : Aside0 ((st.length + 1) * 16 ≤ 140737488355328) := ⟨by have := HSZ.out; have := HA.out; have := HN.out; omega⟩
        clear hg hF2 hnb hb0 hkk hnm hm hnxt
        go_wp2
        refine start_ (n := 14) (S := fun w' => w'.cell? ⟨p, 0, none⟩ = some (.slice A0 st.length c0)) (ds := [9, 13]) #[false, false, false, false, false, false, false, false, false, false, false, false, false, false] (by kernel_rfl) rfl rfl (hc0) (fun hHeld => ?_)
        refine pure_ (i := 0) (N := some 23) (v := ?_) (a' := ?_) #[true, false, false, false, false, false, false, false, false, false, false, false, false, false] rfl rfl (by kernel_rfl) (fun _ _ _ h => h) (Or.inl ⟨by rfl, ?_⟩) ?_ ?_
        rotate_left
        · intro w'
          go_simp
          with_reducible rfl
        rotate_left
        · simp only [Act.put, List.setIfInBounds_toArray, List.set_cons_zero, List.set_cons_succ, i64_w, i32_w]
          rfl
        refine pure_ (i := 1) (N := some 24) (v := ?_) (a' := ?_) #[true, true, false, false, false, false, false, false, false, false, false, false, false, false] rfl rfl (by kernel_rfl) (fun _ _ _ h => h) (Or.inl ⟨by rfl, ?_⟩) ?_ ?_
        rotate_left
        · intro w'
          go_simp
          with_reducible rfl
        rotate_left
        · simp only [Act.put, List.setIfInBounds_toArray, List.set_cons_zero, List.set_cons_succ, i64_w, i32_w]
          rfl
        refine pure_ (i := 2) (N := some 25) (v := ?_) (a' := ?_) #[true, true, true, false, false, false, false, false, false, false, false, false, false, false] rfl rfl (by kernel_rfl) (fun _ _ _ h => h) (Or.inl ⟨by rfl, ?_⟩) ?_ ?_
        rotate_left
        · intro w'
          go_simp
          with_reducible rfl
        rotate_left
        · simp only [Act.put, List.setIfInBounds_toArray, List.set_cons_zero, List.set_cons_succ, i64_w, i32_w]
          rfl
        refine pure_ (i := 3) (N := some 26) (v := ?_) (a' := ?_) #[true, true, true, true, false, false, false, false, false, false, false, false, false, false] rfl rfl (by kernel_rfl) (fun _ _ _ h => h) (Or.inl ⟨by rfl, ?_⟩) ?_ ?_
        rotate_left
        · intro w'
          go_simp
          with_reducible rfl
        rotate_left
        · simp only [Act.put, List.setIfInBounds_toArray, List.set_cons_zero, List.set_cons_succ, i64_w, i32_w]
          rfl
        refine pure_ (i := 4) (N := some 27) (v := ?_) (a' := ?_) #[true, true, true, true, true, false, false, false, false, false, false, false, false, false] rfl rfl (by kernel_rfl) (fun _ _ _ h => h) (Or.inl ⟨by rfl, ?_⟩) ?_ ?_
        rotate_left
        · intro w'
          go_simp
          with_reducible rfl
        rotate_left
        · simp only [Act.put, List.setIfInBounds_toArray, List.set_cons_zero, List.set_cons_succ, i64_w, i32_w]
          rfl
        refine pure_ (i := 6) (N := some 29) (v := ?_) (a' := ?_) #[true, true, true, true, true, false, true, false, false, false, false, false, false, false] rfl rfl (by kernel_rfl) (fun _ _ _ h => h) (Or.inl ⟨by rfl, ?_⟩) ?_ ?_
        rotate_left
        · intro w'
          go_simp
          with_reducible rfl
        rotate_left
        · simp only [Act.put, List.setIfInBounds_toArray, List.set_cons_zero, List.set_cons_succ, i64_w, i32_w]
          rfl
        refine take_ (i := 5) (N := some 28) (v := ?_) (a' := ?_) #[true, true, true, true, true, true, true, false, false, false, false, false, false, false] rfl rfl (by kernel_rfl) (fun _ _ _ h => h) (Or.inl ⟨by rfl, ?_⟩) hHeld ?_ ?_
        rotate_left
        · intro w' s0
          go_simp
          with_reducible rfl
        rotate_left
        · simp only [Act.put, List.setIfInBounds_toArray, List.set_cons_zero, List.set_cons_succ, i64_w, i32_w]
          rfl
        refine one_ (i := 7) (N := some 30) #[true, true, true, true, true, true, true, true, false, false, false, false, false, false] rfl rfl (by kernel_rfl) (by decide) (fun K hK => ?_)
        refine goes_ Try.func30 (by kernel_rfl) rfl #[.string ⟨#[83]⟩, .int .i64 i] (by rfl) rfl rfl (by simp only [List.map_toArray, List.map_cons, List.map_nil]; rfl) ?_
        with_reducible refine (railplankeep_named.calls ⟨#[83]⟩ (i : Int) (nmd ⟨#[83]⟩ i) _ HNM.out).mono ?_
        rintro e w3 ⟨rfl, hd3⟩
        refine ⟨_, rfl, ?_⟩
        have HR3 := Aside0.mk ((HR.out.below (below_drew (Below.refl _ _))).below hd3.below)
        refine hK.out _ _ ((blk_cell HR3.out.blk 0).trans rfl) (fun hHeld => ?_)
        clear hK K
        refine norm_ (a' := ?_) ?_ ?_
        rotate_left
        · show Act.put _ (some 30) _ = _
          simp only [Act.put, List.setIfInBounds_toArray, List.set_cons_zero, List.set_cons_succ, i64_w, i32_w]
          rfl
        refine one_ (i := 8) (N := some 31) #[true, true, true, true, true, true, true, true, true, false, false, false, false, false] rfl rfl (by kernel_rfl) (by decide) (fun K hK => ?_)
        refine value_ (w1 := ?_) (v := ?_) (by rfl) rfl ?_ ?_
        rotate_left 2
        · go_simp
          constructor
          · rfl
          · rfl
        refine hK.out _ _ ((World.cell?_alloc_lt _ _ _ (World.block_lt_of_cell? _ _ (hHeld))).trans (hHeld)) (fun hHeld => ?_)
        clear hK K
        refine norm_ (a' := ?_) ?_ ?_
        rotate_left
        · show Act.put _ (some 31) _ = _
          simp only [Act.put, List.setIfInBounds_toArray, List.set_cons_zero, List.set_cons_succ, i64_w, i32_w]
          rfl
        refine last_ (i := 9) (N := some 32) #[true, true, true, true, true, true, true, true, true, true, false, false, false, false] rfl rfl (by kernel_rfl) (by decide) (fun K hK => ?_)
        refine Kd.R_append_step Kd.string (w0 := w3) w0.heap.size (by rfl) (.tmp 28) (.tmp 31) 24 9 (.string ⟨#[]⟩) 16 (by rfl) Try.underlying24 (by kernel_rfl) rfl (by decide) (by omega) (.slice A0 st.length c0) st (nmd ⟨#[83]⟩ i) [.string (nmd ⟨#[83]⟩ i)] (fun _ => True) (fun _ => False) (by rfl) (by rfl) rfl (fun _ h => h.elim) (fun _ _ => trivial) HR3.out.r0 (Below.refl _ _) HR3.out.bel.size HL16.out ?_
        intro v1n w7 ho7 hb7 hg7 hat7
        obtain ⟨A7, c7, hv7⟩ := Kd.R_slice ho7
        rw [List.length_append, List.length_singleton] at hv7
        subst hv7
        have HG7 := Aside0.mk (blk_grown HR3.out.blk hg7 HNP.out)
        have e7 : w7.cell? ⟨p, 0, none⟩ = some (.slice A0 st.length c0) := (blk_cell HG7.out 0).trans rfl
        have f7 := blk_frozen HG7.out 0
        refine hK.out _ _ ?_
        clear hK K
        refine norm_ (a' := ?_) ?_ ?_
        rotate_left
        · show Act.put _ (some 32) _ = _
          simp only [Act.put, List.setIfInBounds_toArray, List.set_cons_zero, List.set_cons_succ, i64_w, i32_w]
          rfl
        refine pure_ (i := 10) (N := some 33) (v := ?_) (a' := ?_) #[true, true, true, true, true, true, true, true, true, true, true, false, false, false] rfl rfl (by kernel_rfl) (fun _ _ _ h => h) (Or.inl ⟨by rfl, ?_⟩) ?_ ?_
        rotate_left
        · intro w'
          go_simp
          with_reducible rfl
        rotate_left
        · simp only [Act.put, List.setIfInBounds_toArray, List.set_cons_zero, List.set_cons_succ, i64_w, i32_w]
          rfl
        refine pure_ (i := 11) (N := some 34) (v := ?_) (a' := ?_) #[true, true, true, true, true, true, true, true, true, true, true, true, false, false] rfl rfl (by kernel_rfl) (fun _ _ _ h => h) (Or.inl ⟨by rfl, ?_⟩) ?_ ?_
        rotate_left
        · intro w'
          go_simp
          with_reducible rfl
        rotate_left
        · simp only [Act.put, List.setIfInBounds_toArray, List.set_cons_zero, List.set_cons_succ, i64_w, i32_w]
          rfl
        refine pure_ (i := 12) (N := some 35) (v := ?_) (a' := ?_) #[true, true, true, true, true, true, true, true, true, true, true, true, true, false] rfl rfl (by kernel_rfl) (fun _ _ _ h => h) (Or.inl ⟨by rfl, ?_⟩) ?_ ?_
        rotate_left
        · intro w'
          go_simp
          with_reducible rfl
        rotate_left
        · simp only [Act.put, List.setIfInBounds_toArray, List.set_cons_zero, List.set_cons_succ, i64_w, i32_w]
          rfl
        refine last_ (i := 13) (N := none) #[true, true, true, true, true, true, true, true, true, true, true, true, true, true] rfl rfl (by kernel_rfl) (by decide) (fun K hK => ?_)
        refine skip_ (w1 := ?_) (by rfl) rfl ?_ ?_
        rotate_left
        · go_simp
          rfl
        refine hK.out _ _ ?_
        clear hK K
        refine done_ (by kernel_rfl) ?_
        have HR8 := Aside0.mk (HR3.out.stat ho7 hg7)
        clear ho7 hb7 hg7 hat7 e7 f7 hc0 HG7 HR3
        generalize w7.setCell ⟨p, 0, none⟩ (.slice A7 (st.length + 1) c7) = w8 at HR8 ⊢
        go_wp2_with (go_at_call 29; refine (railplankeep_Source_Next.calls g L (s : Int) 2 _ _ w0 _ HR8.out.src HR8.out.bel HNB.out).mono ?_; rintro e w9 ⟨rfl, hS9, hB9, hK9⟩; have HR9 := Aside0.mk (HR8.out.next hS9 hB9 hK9); clear hS9 hB9 hK9)
        obtain ⟨HH, hHH⟩ : ∃ HH, HH = w9.heap.size := ⟨_, rfl⟩
        have HRb := Aside0.mk (HR9.out.bound.mono (ok0' := fun _ => True) (ok4' := fun k => k < HH) (ok5' := fun k => k < HH) (fun _ _ => trivial) (fun _ h => by omega) (fun _ h => by omega))
        have HHW : Aside0 (HH ≤ w9.heap.size ∧ w0.heap.size ≤ HH) := ⟨by have := HR9.out.bel.size; omega⟩
        clear hHH HR8 HR9
        rw [hsum2]
        go_loopg [6, 7] (kk + 1) (fun kq v6 v7 w' => ∃ (k q : Nat) (v2 : Value) (sc2 : List Sec1) (t : List Int), v7 = .int .i64 (k : Int) ∧ Aside0 (kq = k + 1) ∧ Aside0 (sc2.length + k ≤ 2 * i + 2 ∧ t.length + k = kk) ∧ Aside0 (tracksS L i k q sc2 t = F2) ∧ Aside0 (Kd.R (Kd.int .i64) 3 w' HH (fun _ => True) v6 t) ∧ Aside0 (HH ≤ w'.heap.size) ∧ Aside0 (RowI w0 w' g p L q (.slice A7 (st.length + 1) c7) nilS v2 nilS v4 nilS (st ++ [nmd ⟨#[83]⟩ i]) [] sc2 [] tr [] w0.heap.size (fun _ => True) (fun k => k < HH) (fun k => k < HH)))
        case atStart => exact ⟨kk, s2, v2, sc, [], rfl, ⟨rfl⟩, ⟨by have := HSZ.out; have := HB0.out; have := HKK.out; simp; omega⟩, ⟨by rw [HKK.out]; exact HF2.out⟩, ⟨Kd.R_nil _ _ _ _ _⟩, ⟨HHW.out.1⟩, HRb⟩
        case round =>
          clear HRb HF2
          obtain ⟨k, q, v2, sc2, t, rfl, HK2, HSZ2, HG2, HT, HHS, HR2⟩ := hrel
          cases gk with
          | zero => exact absurd HK2.out (by omega)
          | succ k2 =>
            by_cases hk : 0 < k
            · have hk1 : decide ((0 : Int) < (k : Int)) = true := decide_eq_true (by omega)
              have hk2 : decide (0 < k) = true := decide_eq_true hk
              have HHK := Aside0.mk hk
              obtain ⟨k', hk'⟩ : ∃ k', k = k' + 1 := ⟨k - 1, by omega⟩
              have hg2 := HG2.out
              rw [hk'] at hg2
              unfold tracksS at hg2
              rw [← hk'] at hg2
              have hnm1 : railplankeep_named.f ⟨#[84]⟩ (i : Int) = some (nmd ⟨#[84]⟩ i) := named_ok _ _ (by decide)
              have hnm2 : railplankeep_named.f (nmd ⟨#[84]⟩ i) (k : Int) = some (nmd (nmd ⟨#[84]⟩ i) k) := named_ok _ _ (by rw [nmd_size]; decide)
              obtain ⟨X, q3, hsec⟩ : ∃ X q3, secS L q (nmd (nmd ⟨#[84]⟩ i) k) (i : Int) = (X, q3) := ⟨_, _, rfl⟩
              have hso := section_ok L q (nmd (nmd ⟨#[84]⟩ i) k) (i : Int) HLL.out
              have hsf := sec_f1 L q (nmd (nmd ⟨#[84]⟩ i) k) (i : Int)
              rw [hsec] at hso hsf
              simp only [] at hso hsf
              rw [hsec] at hg2
              simp only [] at hg2
              have HNM1 := Aside0.mk hnm1
              have HNM2 := Aside0.mk hnm2
              have HSO := Aside0.mk hso
              have HG2N := Aside0.mk hg2
              have hx1 : wrap64 (X.f1 + 2) = X.f1 + 2 := by unfold wrap64; omega
              have HKE := Aside0.mk hk'
              obtain ⟨A6, c6, hv6⟩ := Kd.R_slice HT.out
              subst hv6
              have HL8 : Aside0 ((t.length + 1) * 8 ≤ 140737488355328) := ⟨by have := HSZ2.out; have := HB0.out; have := HKK.out; omega⟩
              have HLS : Aside0 (sc2.length ≤ 1000) := ⟨by have := HSZ2.out; have := HHI.out; have := HA.out; have := HN.out; omega⟩
              clear hg2 hnm1 hnm2 hso hsf hsec hk'
              go_wp2_with (first | (go_at_call 30; (first | (with_reducible refine (railplankeep_named.calls ⟨#[84]⟩ (i : Int) _ _ HNM1.out).mono ?_) | (with_reducible refine (railplankeep_named.calls (nmd ⟨#[84]⟩ i) (k : Int) _ _ HNM2.out).mono ?_)); rintro e w4 ⟨rfl, ⟨nd, rfl⟩⟩) | (go_at_call 31; refine (railplankeep_Source_section.calls g L (q : Int) _ _ _ _ _ _ _ _ w0 _ (by repeat (first | exact HR2.out.src | apply IsS77.drewN)) (by repeat (first | exact HR2.out.bel | apply pw_below_drewN)) HSO.out).mono ?_; rintro e w5 ⟨rfl, hS5, hB5, hK5⟩; have HR5 := Aside0.mk (HR2.out.next hS5 hB5 (by first | exact hK5 | exact ⟨hK5.1, hK5.2⟩)); have HK5 := Aside0.mk hK5; have HT5 := Aside0.mk (t_next HT.out HR2.out (by first | exact hK5 | exact ⟨hK5.1, hK5.2⟩)); have HS5 := Aside0.mk hK5.1; clear hS5 hB5 hK5))
              have HA5 := Aside0.mk (HR5.out.below (below_alloc (Below.refl _ _) (.cells #[.string X.f0, .int .i64 (X.f1 + 2), .int .i64 X.f2, .int .i64 X.f3, .int .i64 X.f4] 31)))
              have HTA := Aside0.mk (R_alloc HT5.out (.cells #[.string X.f0, .int .i64 (X.f1 + 2), .int .i64 X.f2, .int .i64 X.f3, .int .i64 X.f4] 31))
              refine (add_c w0.heap.size p _ nilS v2 nilS v4 nilS nilS sc2 (up2 X) w0 _ HA5.out.blk HA5.out.pge HA5.out.bel HA5.out.bel.size HA5.out.r2 HLS.out).mono ?_
              rintro e w6 ⟨v2n, rfl, hg6, hr6, hb6, hf6⟩
              have HR6 := Aside0.mk (HA5.out.add hg6 hr6 hb6 hf6)
              have HT6 := Aside0.mk (t_add HTA.out HA5.out hf6)
              have HS6 : Aside0 (HH ≤ w6.heap.size) := ⟨by have := hf6.1; have := HS5.out; have := HHS.out; simp at *; omega⟩
              clear hg6 hr6 hb6 hf6 HA5 HTA HR5 HT5
              go_wp2_with (at_builtin; refine Kd.R_append (Kd.int .i64) (w0 := w6) HH rfl (.tmp 54) (.tmp 58) 22 3 (.int .i64 0) 8 rfl Try.underlying22 (by kernel_rfl) rfl (by decide) (by omega) (.slice A6 t.length c6) t (sc2.length : Int) [.int .i64 sc2.length] (fun _ => True) (fun _ => False) rfl rfl rfl (fun _ h => h.elim) (fun _ _ => trivial) HT6.out (Below.refl _ _) HS6.out HL8.out ?_; intro v6n w7 ho7 hb7 hg7 hat7; have HR7 := Aside0.mk (HR6.out.tgrow HT6.out HHW.out.2 hg7); have HT7 := Aside0.mk ho7; have HS7 : Aside0 (HH ≤ w7.heap.size) := ⟨Nat.le_trans HS6.out hg7.size⟩; clear ho7 hb7 hg7 hat7)
              go_roundg k2
              case measure => have := HK2.out; omega
              case rel => exact ⟨k - 1, q3, v2n, sc2 ++ [up2 X], t ++ [(sc2.length : Int)], (by rw [pred_int k HHK.out (by have := HSZ2.out; have := HHI.out; have := HA.out; have := HN.out; omega)]), ⟨by have := HK2.out; have := HHK.out; omega⟩, ⟨by have := HSZ2.out; have := HHK.out; rw [List.length_append, List.length_append, List.length_singleton, List.length_singleton]; omega⟩, ⟨by rw [show k - 1 = k' by have := HKE.out; omega]; exact HG2N.out⟩, HT7, HS7, HR7⟩
            · have hk1 : decide ((0 : Int) < (k : Int)) = false := decide_eq_false (by omega)
              have hk2 : decide (0 < k) = false := decide_eq_false hk
              obtain rfl : k = 0 := by omega
              have hg2 := HG2.out
              unfold tracksS at hg2
              subst hg2
              obtain ⟨A6, c6, hv6⟩ := Kd.R_slice HT.out
              subst hv6
              obtain ⟨A4, c4, hv4⟩ := Kd.R_slice HR2.out.r4
              subst hv4
              have HN4 : Aside0 (∀ k, HH ≤ k → True ∧ some k ≠ (Value.slice A4 tr.length c4).ownBlock) := ⟨fun k hk => ⟨trivial, fun he => by have := HR2.out.r4.1 k he.symm; omega⟩⟩
              have HL24 : Aside0 ((tr.length + 1) * 24 ≤ 140737488355328) := ⟨by have := HSZ.out; have := HA.out; have := HN.out; have := HHI.out; omega⟩
              have HO4 := Aside0.mk (Kd.R_mono HR2.out.r4 (fun _ _ => trivial : ∀ k, k < HH → True))
              have HNP4 : Aside0 (some p ≠ (Value.slice A4 tr.length c4).ownBlock) := ⟨Kd.R_ne HR2.out.r4 HR2.out.blk (by decide)⟩
              have hc4 : wr.cell? ⟨p, 4, none⟩ = some (.slice A4 tr.length c4) := (blk_cell HR2.out.blk 4).trans rfl
              have hk3 : decide ((0 : Int) < ((0 : Nat) : Int)) = false := rfl
              clear hk
              go_wp2_with (at_builtin; refine Kd.R_append kInts (w0 := wr) w0.heap.size rfl (.tmp 64) (.tmp 66) 51 22 nilS 24 rfl Try.underlying51 (by kernel_rfl) rfl (by decide) (by omega) (.slice A4 tr.length c4) tr t [.slice A6 t.length c6] (fun _ => True) (fun k => HH ≤ k) rfl rfl (ints_M HT.out HHW.out.2) HN4.out (fun _ _ => trivial) HO4.out (Below.refl _ _) HR2.out.bel.size HL24.out ?_; intro v4n w7 ho7 hb7 hg7 hat7; obtain ⟨A7', c7', hv7⟩ := Kd.R_slice ho7; rw [List.length_append, List.length_singleton] at hv7; subst hv7; have HG7 := Aside0.mk (blk_grown HR2.out.blk hg7 HNP4.out); have e7 : w7.cell? ⟨p, 4, none⟩ = some (.slice A4 tr.length c4) := (blk_cell HG7.out 4).trans rfl; have f7 := blk_frozen HG7.out 4; have HRT := Aside0.mk (HR2.out.trks ho7 hg7); clear ho7 hb7 hg7 hat7)
              go_roundg k1
              case measure => have := HK.out; omega
              case rel => exact ⟨i + 1, q, _, _, _, st ++ [nmd ⟨#[83]⟩ i], sc2, tr ++ [t], (by first | go_num | (rw [succ_int i (by have := HHI.out; have := HA.out; have := HN.out; omega)])), ⟨by have := HK.out; omega⟩, ⟨by have := HHI.out; omega⟩, ⟨by have := HSZ2.out; have := HSZ.out; rw [List.length_append, List.length_append, List.length_singleton, List.length_singleton]; omega⟩, ⟨by rw [show n - (i + 1) = m by have := HM.out; omega]; exact HGG.out⟩, ⟨HRT.out.mono (fun _ _ => trivial) (fun _ _ => trivial) (fun _ _ => trivial)⟩⟩
      · have hi1 : decide ((i : Int) < (n : Int)) = false := decide_eq_false (by omega)
        have hi2 : decide (i < n) = false := decide_eq_false hi
        obtain rfl : i = n := by have := HI.out; omega
        have hg := HG.out
        rw [Nat.sub_self] at hg
        unfold stS at hg
        subst hg
        have HTRL : Aside0 (∀ x ∈ tr, 1 ≤ x.length ∧ x.length ≤ 2) := ⟨HTR0.out⟩
        have HP1 := Aside0.mk HR.out.phase
        obtain ⟨H1, hH1⟩ : ∃ H1, H1 = wr.heap.size := ⟨_, rfl⟩
        rw [← hH1] at HP1
        have HSC := Aside0.mk HSZ.out.1
        have HTRN : Aside0 (tr.length = i) := ⟨HSZ.out.2.2⟩
        have HNE : Aside0 (i = 2 + a) := HN
        clear hH1 HR HSZ HI HK
        go_wp2
        go_loopg [9] i (fun kq v9 w' => ∃ (j q : Nat) (v1 v2 v3 v5 : Value) (pt : List ByteArray) (sc2 : List Sec1) (lk : List Lnk1) (bt : List (List Int)), v9 = .int .i64 (j : Int) ∧ Aside0 (j + kq = i) ∧ Aside0 (j + 1 ≤ i) ∧ Aside0 (sc2.length ≤ 6 + 2 * j ∧ lk.length ≤ 6 * j ∧ pt.length ≤ 2 * j ∧ bt.length = j) ∧ Aside0 (bwS L tr (i - 1 - j) j q sc2 lk pt bt = F3) ∧ Aside0 (RowI w0 w' g p L q v0 v1 v2 v3 v4 v5 st pt sc2 lk tr bt H1 (fun k => k < H1) (fun k => k < H1) (fun _ => True)))
        case atStart => exact ⟨0, s, nilS, v2, nilS, nilS, [], sc, [], [], rfl, ⟨by omega⟩, ⟨by have := HNE.out; omega⟩, ⟨by have := HSC.out; have := HNE.out; have := HA.out; simp; omega⟩, ⟨by rw [← HF3.out, show i - 1 - 0 = 1 + a by have := HNE.out; omega]⟩, HP1⟩
        case round =>
          clear HP1 HF3
          obtain ⟨j, s, v1, v2, v3, v5, pt, sc, lk, bt, rfl, HK, HJ, HSZ, HG, HR⟩ := hrel
          cases gk with
          | zero => exact absurd HK.out (by have := HJ.out; omega)
          | succ k1 =>
            have HI3 : Aside0 (i ≤ 3) := ⟨by have := HNE.out; have := HA.out; omega⟩
            have hjb : (j : Int) + 1 ≤ 100 := by have := HJ.out; have := HI3.out; omega
            by_cases hj : j + 1 < i
            · have hj1 : decide ((j : Int) + 1 < (i : Int)) = true := decide_eq_true (by omega)
              have HHJ := Aside0.mk hj
              obtain ⟨m, hm⟩ : ∃ m, i - 1 - j = m + 1 := ⟨i - 1 - j - 1, by omega⟩
              have HM := Aside0.mk hm
              have hg := HG.out
              rw [hm] at hg
              unfold bwS at hg
              have hb0 := nxt_lt L s 2 (by omega)
              have hnb : railplankeep_Source_Next.f L (s : Int) 2 = _ := next_ok L s 2 (by omega) (by omega) HLL.out
              obtain ⟨b, s2, hnxt⟩ : ∃ b s2, nxt L s 2 = (b, s2) := ⟨_, _, rfl⟩
              rw [hnxt] at hnb hb0 hg
              simp only [] at hnb hb0 hg
              obtain ⟨F2, hF2⟩ : ∃ F2, secsS L j (1 + b) s2 sc [] = F2 := ⟨_, rfl⟩
              rw [hF2] at hg
              have HF2 := Aside0.mk hF2
              have HGG := Aside0.mk hg
              have HNB := Aside0.mk hnb
              have HB0 := Aside0.mk hb0
              obtain ⟨kk, hkk⟩ : ∃ kk, kk = 1 + b := ⟨_, rfl⟩
              have HKK := Aside0.mk hkk
              have hsum2 : wrap64 (1 + (b : Int)) = (kk : Int) := by unfold wrap64; omega
              clear hg hF2 hnb hb0 hkk hm hnxt hj
              go_wp2_with (go_at_call 29; refine (railplankeep_Source_Next.calls g L (s : Int) 2 _ _ w0 _ HR.out.src HR.out.bel HNB.out).mono ?_; rintro e w9 ⟨rfl, hS9, hB9, hK9⟩; have HR9 := Aside0.mk (HR.out.next hS9 hB9 hK9); clear hS9 hB9 hK9)
              obtain ⟨HH, hHH⟩ : ∃ HH, HH = w9.heap.size := ⟨_, rfl⟩
              have HRb := Aside0.mk (HR9.out.bound.mono (ok0' := fun k => k < H1) (ok4' := fun k => k < H1) (ok5' := fun k => k < HH) (fun _ h => h.1) (fun _ h => h.1) (fun _ h => by omega))
              have HHW : Aside0 (HH ≤ w9.heap.size ∧ w0.heap.size ≤ HH ∧ H1 ≤ HH) := ⟨by have := HR9.out.bel.size; have := HR9.out.hs; omega⟩
              clear hHH HR9
              rw [hsum2]
              go_loopg [10, 11] (kk + 1) (fun kq v10 v11 w' => ∃ (k q : Nat) (v2 : Value) (sc2 : List Sec1) (t : List Int), v11 = .int .i64 (k : Int) ∧ Aside0 (kq = k + 1) ∧ Aside0 (sc2.length + k ≤ 6 + 2 * j + 2 ∧ t.length + k = kk) ∧ Aside0 (secsS L j k q sc2 t = F2) ∧ Aside0 (Kd.R (Kd.int .i64) 3 w' HH (fun _ => True) v10 t) ∧ Aside0 (HH ≤ w'.heap.size) ∧ Aside0 (RowI w0 w' g p L q v0 v1 v2 v3 v4 v5 st pt sc2 lk tr bt H1 (fun k => k < H1) (fun k => k < H1) (fun k => k < HH)))
              case atStart => exact ⟨kk, s2, v2, sc, [], rfl, ⟨rfl⟩, ⟨by have := HSZ.out; have := HB0.out; have := HKK.out; simp; omega⟩, ⟨by rw [HKK.out]; exact HF2.out⟩, ⟨Kd.R_nil _ _ _ _ _⟩, ⟨HHW.out.1⟩, HRb⟩
              case round =>
                clear HRb HF2 HR
                obtain ⟨k, q, v2, sc2, t, rfl, HK2, HSZ2, HG2, HT, HHS, HR2⟩ := hrel
                cases gk with
                | zero => exact absurd HK2.out (by omega)
                | succ k2 =>
                  by_cases hk : 0 < k
                  · have hk1 : decide ((0 : Int) < (k : Int)) = true := decide_eq_true (by omega)
                    have hk2 : decide (0 < k) = true := decide_eq_true hk
                    have HHK := Aside0.mk hk
                    obtain ⟨k', hk'⟩ : ∃ k', k = k' + 1 := ⟨k - 1, by omega⟩
                    have hg2 := HG2.out
                    rw [hk'] at hg2
                    unfold secsS at hg2
                    rw [← hk'] at hg2
                    have hnm1 : railplankeep_named.f ⟨#[76]⟩ (j : Int) = some (nmd ⟨#[76]⟩ j) := named_ok _ _ (by decide)
                    have hnm2 : railplankeep_named.f (nmd ⟨#[76]⟩ j) (k : Int) = some (nmd (nmd ⟨#[76]⟩ j) k) := named_ok _ _ (by rw [nmd_size]; decide)
                    obtain ⟨X, q3, hsec⟩ : ∃ X q3, secS L q (nmd (nmd ⟨#[76]⟩ j) k) (-1) = (X, q3) := ⟨_, _, rfl⟩
                    have hso := section_ok L q (nmd (nmd ⟨#[76]⟩ j) k) (-1) HLL.out
                    have hsf := sec_f1 L q (nmd (nmd ⟨#[76]⟩ j) k) (-1)
                    rw [hsec] at hso hsf
                    simp only [] at hso hsf
                    rw [hsec] at hg2
                    simp only [] at hg2
                    have HNM1 := Aside0.mk hnm1
                    have HNM2 := Aside0.mk hnm2
                    have HSO := Aside0.mk hso
                    have HG2N := Aside0.mk hg2
                    have HKE := Aside0.mk hk'
                    obtain ⟨A6, c6, hv6⟩ := Kd.R_slice HT.out
                    subst hv6
                    have HL8 : Aside0 ((t.length + 1) * 8 ≤ 140737488355328) := ⟨by have := HSZ2.out; have := HB0.out; have := HKK.out; omega⟩
                    have HLS : Aside0 (sc2.length ≤ 1000) := ⟨by have := HSZ2.out; have := HHJ.out; have := HI3.out; omega⟩
                    clear hg2 hnm1 hnm2 hso hsf hsec hk'
                    go_wp2_with (first | (go_at_call 30; (first | (with_reducible refine (railplankeep_named.calls ⟨#[76]⟩ (j : Int) _ _ HNM1.out).mono ?_) | (with_reducible refine (railplankeep_named.calls (nmd ⟨#[76]⟩ j) (k : Int) _ _ HNM2.out).mono ?_)); rintro e w4 ⟨rfl, ⟨nd, rfl⟩⟩) | (go_at_call 31; refine (railplankeep_Source_section.calls g L (q : Int) _ _ _ _ _ _ _ _ w0 _ (by repeat (first | exact HR2.out.src | apply IsS77.drewN)) (by repeat (first | exact HR2.out.bel | apply pw_below_drewN)) HSO.out).mono ?_; rintro e w5 ⟨rfl, hS5, hB5, hK5⟩; have HR5 := Aside0.mk (HR2.out.next hS5 hB5 (by first | exact hK5 | exact ⟨hK5.1, hK5.2⟩)); have HK5 := Aside0.mk hK5; have HT5 := Aside0.mk (t_next HT.out HR2.out (by first | exact hK5 | exact ⟨hK5.1, hK5.2⟩)); have HS5 := Aside0.mk hK5.1; clear hS5 hB5 hK5))
                    refine (add_c w0.heap.size p _ v1 v2 v3 v4 v5 nilS sc2 X w0 _ HR5.out.blk HR5.out.pge HR5.out.bel HR5.out.bel.size HR5.out.r2 HLS.out).mono ?_
                    rintro e w6 ⟨v2n, rfl, hg6, hr6, hb6, hf6⟩
                    have HR6 := Aside0.mk (HR5.out.add hg6 hr6 hb6 hf6)
                    have HT6 := Aside0.mk (t_add HT5.out HR5.out hf6)
                    have HS6 : Aside0 (HH ≤ w6.heap.size) := ⟨by have := hf6.1; have := HS5.out; have := HHS.out; simp at *; omega⟩
                    clear hg6 hr6 hb6 hf6 HR5 HT5
                    go_wp2_with (at_builtin; refine Kd.R_append (Kd.int .i64) (w0 := w6) HH rfl (.tmp 83) (.tmp 92) 22 3 (.int .i64 0) 8 rfl Try.underlying22 (by kernel_rfl) rfl (by decide) (by omega) (.slice A6 t.length c6) t (sc2.length : Int) [.int .i64 sc2.length] (fun _ => True) (fun _ => False) rfl rfl rfl (fun _ h => h.elim) (fun _ _ => trivial) HT6.out (Below.refl _ _) HS6.out HL8.out ?_; intro v6n w7 ho7 hb7 hg7 hat7; have HR7 := Aside0.mk (HR6.out.tgrow2 HT6.out HHW.out.2.2 hg7); have HT7 := Aside0.mk ho7; have HS7 : Aside0 (HH ≤ w7.heap.size) := ⟨Nat.le_trans HS6.out hg7.size⟩; clear ho7 hb7 hg7 hat7)
                    go_roundg k2
                    case measure => have := HK2.out; omega
                    case rel => exact ⟨k - 1, q3, v2n, sc2 ++ [X], t ++ [(sc2.length : Int)], (by rw [pred_int k HHK.out (by have := HSZ2.out; have := HHJ.out; have := HI3.out; omega)]), ⟨by have := HK2.out; have := HHK.out; omega⟩, ⟨by have := HSZ2.out; have := HHK.out; rw [List.length_append, List.length_append, List.length_singleton, List.length_singleton]; omega⟩, ⟨by rw [show k - 1 = k' by have := HKE.out; omega]; exact HG2N.out⟩, HT7, HS7, HR7⟩
                  · have hk1 : decide ((0 : Int) < (k : Int)) = false := decide_eq_false (by omega)
                    have hk2 : decide (0 < k) = false := decide_eq_false hk
                    obtain rfl : k = 0 := by omega
                    have hg2 := HG2.out
                    unfold secsS at hg2
                    subst hg2
                    have hk3 : decide ((0 : Int) < ((0 : Nat) : Int)) = false := rfl
                    have HTL : Aside0 (1 ≤ t.length ∧ t.length ≤ 2) := ⟨by have := HSZ2.out; have := HB0.out; have := HKK.out; omega⟩
                    obtain ⟨gt, ct, hvt⟩ := int_form HT.out (by have := HTL.out; omega)
                    subst hvt
                    clear hk
                    go_wp2
                    go_loopg [12] t.length (fun kq v12 w' => ∃ (x : Nat) (v3 : Value), v12 = .int .i64 (x : Int) ∧ Aside0 (x + kq = t.length) ∧ Aside0 (x + 1 ≤ t.length) ∧ Aside0 (Kd.R (Kd.int .i64) 3 w' HH (fun _ => True) (.slice (some ⟨gt, 0, none⟩) t.length ct) t) ∧ Aside0 (HH ≤ w'.heap.size) ∧ Aside0 (RowI w0 w' g p L q v0 v1 v2 v3 v4 v5 st pt sc2 (lk ++ (lkT t).take x) tr bt H1 (fun k => k < H1) (fun k => k < H1) (fun k => k < HH)))
                    case atStart => exact ⟨0, v3, rfl, ⟨by omega⟩, ⟨by have := HTL.out; omega⟩, HT, HHS, ⟨by rw [List.take_zero, List.append_nil]; exact HR2.out⟩⟩
                    case round =>
                      clear HR2 HT HHS
                      obtain ⟨x, v3, rfl, HK3, HX, HT, HHS, HR3⟩ := hrel
                      cases gk with
                      | zero => exact absurd HK3.out (by have := HX.out; omega)
                      | succ k3 =>
                        obtain ⟨y, hy⟩ : ∃ y, y = x + 1 := ⟨_, rfl⟩
                        have HY := Aside0.mk hy
                        have e1 : IntKind.i64.wrap ((x : Int) + 1) = (y : Int) := by rw [i64_w]; have := HX.out; have := HTL.out; unfold wrap64; omega
                        have e2 : wrap64 ((x : Int) + 1) = (y : Int) := by have := HX.out; have := HTL.out; unfold wrap64; omega
                        by_cases hx : y < t.length
                        · have hx1 : decide ((y : Int) < (t.length : Int)) = true := decide_eq_true (by omega)
                          have hx2 : decide (y < t.length) = true := decide_eq_true hx
                          have hi0 : (0 : Int) ≤ (x : Int) := Int.natCast_nonneg _
                          have hi1 : (x : Int) < (t.length : Int) := by omega
                          have hi2 : (0 : Int) ≤ (y : Int) := Int.natCast_nonneg _
                          have hi3 : (y : Int) < (t.length : Int) := by omega
                          have hcx := int_cell HT.out x (by omega)
                          have hcy := int_cell HT.out y hx
                          have HXX := Aside0.mk hx
                          have HRD := Aside0.mk (HR3.out.below (below_drew (Below.refl _ _)))
                          have HTK : Aside0 (lk ++ (lkT t).take (x + 1) = (lk ++ (lkT t).take x) ++ [⟨rd t (x : Int), 1, rd t (y : Int), 0, -1, 0⟩]) := ⟨by rw [lkT_take t x (by omega), HY.out, List.append_assoc]⟩
                          have HLK : Aside0 ((lk ++ (lkT t).take x).length ≤ 1000) := ⟨by rw [List.length_append]; have := List.length_take_le x (lkT t); have := HSZ.out; have := HHJ.out; have := HI3.out; have := HX.out; have := HTL.out; omega⟩
                          clear hx hy
                          go_wp2
                          refine start_ (n := 11) (S := fun w' => w'.cell? ⟨gt, x, none⟩ = some (.int .i64 (rd t (x : Int))) ∧ w'.cell? ⟨gt, y, none⟩ = some (.int .i64 (rd t (y : Int)))) (ds := [10]) #[false, false, false, false, false, false, false, false, false, false, false] (by kernel_rfl) rfl rfl ⟨hcx, hcy⟩ (fun hHeld => ?_)
                          refine pure_ (i := 0) (N := some 101) (v := ?_) (a' := ?_) #[true, false, false, false, false, false, false, false, false, false, false] rfl rfl (by kernel_rfl) (fun _ _ _ h => h) (Or.inl ⟨by rfl, ?_⟩) ?_ ?_
                          rotate_left
                          · intro w'
                            go_simp
                            with_reducible rfl
                          rotate_left
                          · simp only [Act.put, List.setIfInBounds_toArray, List.set_cons_zero, List.set_cons_succ, i64_w, i32_w]
                            rfl
                          refine pure_ (i := 1) (N := some 102) (v := ?_) (a' := ?_) #[true, true, false, false, false, false, false, false, false, false, false] rfl rfl (by kernel_rfl) (fun _ _ _ h => h) (Or.inl ⟨by rfl, ?_⟩) ?_ ?_
                          rotate_left
                          · intro w'
                            go_simp
                            with_reducible rfl
                          rotate_left
                          · simp only [Act.put, List.setIfInBounds_toArray, List.set_cons_zero, List.set_cons_succ, i64_w, i32_w]
                            rfl
                          refine pure_ (i := 2) (N := some 103) (v := ?_) (a' := ?_) #[true, true, true, false, false, false, false, false, false, false, false] rfl rfl (by kernel_rfl) (fun _ _ _ h => h) (Or.inl ⟨by rfl, ?_⟩) ?_ ?_
                          rotate_left
                          · intro w'
                            go_simp
                            with_reducible rfl
                          rotate_left
                          · simp only [Act.put, List.setIfInBounds_toArray, List.set_cons_zero, List.set_cons_succ, i64_w, i32_w]
                            rfl
                          refine pure_ (i := 3) (N := some 104) (v := ?_) (a' := ?_) #[true, true, true, true, false, false, false, false, false, false, false] rfl rfl (by kernel_rfl) (fun _ _ _ h => h) (Or.inl ⟨by rfl, ?_⟩) ?_ ?_
                          rotate_left
                          · intro w'
                            go_simp
                            with_reducible rfl
                          rotate_left
                          · simp only [Act.put, List.setIfInBounds_toArray, List.set_cons_zero, List.set_cons_succ, i64_w, i32_w]
                            rfl
                          refine pure_ (i := 5) (N := some 106) (v := ?_) (a' := ?_) #[true, true, true, true, false, true, false, false, false, false, false] rfl rfl (by kernel_rfl) (fun _ _ _ h => h) (Or.inl ⟨by rfl, ?_⟩) ?_ ?_
                          rotate_left
                          · intro w'
                            go_simp
                            with_reducible rfl
                          rotate_left
                          · simp only [Act.put, List.setIfInBounds_toArray, List.set_cons_zero, List.set_cons_succ, i64_w, i32_w]
                            rfl
                          refine pure_ (i := 6) (N := some 107) (v := ?_) (a' := ?_) #[true, true, true, true, false, true, true, false, false, false, false] rfl rfl (by kernel_rfl) (fun _ _ _ h => h) (Or.inl ⟨by rfl, ?_⟩) ?_ ?_
                          rotate_left
                          · intro w'
                            go_simp
                            with_reducible rfl
                          rotate_left
                          · simp only [Act.put, List.setIfInBounds_toArray, List.set_cons_zero, List.set_cons_succ, i64_w, i32_w]
                            rfl
                          refine pure_ (i := 7) (N := some 108) (v := ?_) (a' := ?_) #[true, true, true, true, false, true, true, true, false, false, false] rfl rfl (by kernel_rfl) (fun _ _ _ h => h) (Or.inl ⟨by rfl, ?_⟩) ?_ ?_
                          rotate_left
                          · intro w'
                            go_simp
                            with_reducible rfl
                          rotate_left
                          · simp only [Act.put, List.setIfInBounds_toArray, List.set_cons_zero, List.set_cons_succ, i64_w, i32_w]
                            rfl
                          refine pure_ (i := 8) (N := some 109) (v := ?_) (a' := ?_) #[true, true, true, true, false, true, true, true, true, false, false] rfl rfl (by kernel_rfl) (fun _ _ _ h => h) (Or.inl ⟨by rfl, ?_⟩) ?_ ?_
                          rotate_left
                          · intro w'
                            go_simp
                            with_reducible rfl
                          rotate_left
                          · simp only [Act.put, List.setIfInBounds_toArray, List.set_cons_zero, List.set_cons_succ, i64_w, i32_w]
                            rfl
                          refine take_ (i := 4) (N := some 105) (v := ?_) (a' := ?_) #[true, true, true, true, true, true, true, true, true, false, false] rfl rfl (by kernel_rfl) (fun _ _ _ h => h) (Or.inl ⟨by rfl, ?_⟩) hHeld ?_ ?_
                          rotate_left
                          · rintro w' ⟨s0, s1⟩
                            go_simp
                            with_reducible rfl
                          rotate_left
                          · simp only [Act.put, List.setIfInBounds_toArray, List.set_cons_zero, List.set_cons_succ, i64_w, i32_w]
                            rfl
                          refine take_ (i := 9) (N := some 110) (v := ?_) (a' := ?_) #[true, true, true, true, true, true, true, true, true, true, false] rfl rfl (by kernel_rfl) (fun _ _ _ h => h) (Or.inl ⟨by rfl, ?_⟩) hHeld ?_ ?_
                          rotate_left
                          · rintro w' ⟨s0, s1⟩
                            go_simp
                            with_reducible rfl
                          rotate_left
                          · simp only [Act.put, List.setIfInBounds_toArray, List.set_cons_zero, List.set_cons_succ, i64_w, i32_w]
                            rfl
                          refine last_ (i := 10) (N := some 111) #[true, true, true, true, true, true, true, true, true, true, true] rfl rfl (by kernel_rfl) (by decide) (fun K hK => ?_)
                          refine goes_ Try.func33 (by kernel_rfl) rfl #[.pointer (some ⟨p, 0, none⟩), .int .i64 (rd t (x : Int)), .int .i64 (rd t (y : Int)), .int .i64 (-1), .int .i64 0] (by rfl) rfl rfl (by simp only [List.map_toArray, List.map_cons, List.map_nil]; rfl) ?_
                          with_reducible refine (link_c w0.heap.size p v0 v1 v2 v3 v4 v5 nilS (lk ++ (lkT t).take x) (rd t (x : Int)) (rd t (y : Int)) (-1) 0 w0 _ HRD.out.blk HRD.out.pge HRD.out.bel HRD.out.bel.size HRD.out.r3 HLK.out).mono ?_
                          rintro e w8 ⟨v3m, rfl, hg8, hr8, hb8, hf8⟩
                          refine ⟨_, rfl, ?_⟩
                          refine hK.out _ _ ?_
                          clear hK K
                          refine norm_ (a' := ?_) ?_ ?_
                          rotate_left
                          · show Act.put _ (some 111) _ = _
                            simp only [Act.put, List.setIfInBounds_toArray, List.set_cons_zero, List.set_cons_succ, i64_w, i32_w]
                            rfl
                          refine done_ (by kernel_rfl) ?_
                          have HR8 := Aside0.mk (HRD.out.link hg8 hr8 hb8 hf8)
                          have HT8 := Aside0.mk (t_link (R_drew HT.out) HRD.out hf8)
                          have HS8 : Aside0 (HH ≤ w8.heap.size) := ⟨by have h1 := hf8.1; have h2 := HHS.out; simp at h1; omega⟩
                          clear hg8 hr8 hb8 hf8 hcx hcy
                          go_wp2
                          go_roundg k3
                          case measure => have := HK3.out; omega
                          case rel => exact ⟨x + 1, v3m, (by first | rw [HY.out] | (rw [e2, HY.out])), ⟨by have := HK3.out; omega⟩, ⟨by have := HXX.out; have := HY.out; omega⟩, HT8, HS8, ⟨by rw [HTK.out]; exact HR8.out⟩⟩
                        · have hx1 : decide ((y : Int) < (t.length : Int)) = false := decide_eq_false (by omega)
                          have hx2 : decide (y < t.length) = false := decide_eq_false hx
                          have HTA : Aside0 (lk ++ (lkT t).take x = lk ++ lkT t) := ⟨by rw [List.take_of_length_le (by rw [lkT_len]; omega)]⟩
                          have HR4' : Aside0 (RowI w0 wr g p L q v0 v1 v2 v3 v4 v5 st pt sc2 (lk ++ lkT t) tr bt H1 (fun k => k < H1) (fun k => k < H1) (fun k => k < HH)) := ⟨by rw [← HTA.out]; exact HR3.out⟩
                          obtain ⟨g4, c4, A4, cc4, ok4', hv4, hel4, hre4⟩ := ints_at HR4'.out.r4 j (by have := HTRN.out; have := HHJ.out; omega)
                          subst hv4
                          have hc4 : wr.cell? ⟨p, 4, none⟩ = some (.slice (some ⟨g4, 0, none⟩) tr.length c4) := (blk_cell HR4'.out.blk 4).trans rfl
                          have hc0 : wr.cell? ⟨gt, 0, none⟩ = some (.int .i64 (rd t 0)) := int_cell HT.out 0 (by have := HTL.out; omega)
                          have hj0 : (0 : Int) ≤ (j : Int) := Int.natCast_nonneg _
                          have hj2 : (j : Int) < (tr.length : Int) := by have := HTRN.out; have := HHJ.out; omega
                          have ht0 : (0 : Int) < (t.length : Int) := by have := HTL.out; omega
                          have ht0' : 0 < t.length := by have := HTL.out; omega
                          have HRD := Aside0.mk (HR4'.out.below (below_drew (Below.refl _ _)))
                          have HRE := Aside0.mk (R_drew hre4)
                          have HTD := Aside0.mk (R_drew HT.out)
                          have HB1 : Aside0 ((lk ++ lkT t).length + (trk tr j).length ≤ 900 ∧ pt.length ≤ 900) := ⟨by rw [List.length_append, lkT_len]; have := trk_len tr HTRL.out j; have := HSZ.out; have := HHJ.out; have := HI3.out; have := HTL.out; omega⟩
                          clear hx hy hre4
                          go_wp2
                          refine start_ (n := 12) (S := fun w' => w'.cell? ⟨gt, 0, none⟩ = some (.int .i64 (rd t 0)) ∧ w'.cell? ⟨p, 4, none⟩ = some (.slice (some ⟨g4, 0, none⟩) tr.length c4) ∧ w'.cell? ⟨g4, j, none⟩ = some (.slice A4 (trk tr j).length cc4)) (ds := [11]) #[false, false, false, false, false, false, false, false, false, false, false, false] (by kernel_rfl) rfl rfl ⟨hc0, hc4, hel4⟩ (fun hHeld => ?_)
                          refine pure_ (i := 0) (N := some 112) (v := ?_) (a' := ?_) #[true, false, false, false, false, false, false, false, false, false, false, false] rfl rfl (by kernel_rfl) (fun _ _ _ h => h) (Or.inl ⟨by rfl, ?_⟩) ?_ ?_
                          rotate_left
                          · intro w'
                            go_simp
                            with_reducible rfl
                          rotate_left
                          · simp only [Act.put, List.setIfInBounds_toArray, List.set_cons_zero, List.set_cons_succ, i64_w, i32_w]
                            rfl
                          refine pure_ (i := 1) (N := some 113) (v := ?_) (a' := ?_) #[true, true, false, false, false, false, false, false, false, false, false, false] rfl rfl (by kernel_rfl) (fun _ _ _ h => h) (Or.inl ⟨by rfl, ?_⟩) ?_ ?_
                          rotate_left
                          · intro w'
                            go_simp
                            with_reducible rfl
                          rotate_left
                          · simp only [Act.put, List.setIfInBounds_toArray, List.set_cons_zero, List.set_cons_succ, i64_w, i32_w]
                            rfl
                          refine pure_ (i := 2) (N := some 114) (v := ?_) (a' := ?_) #[true, true, true, false, false, false, false, false, false, false, false, false] rfl rfl (by kernel_rfl) (fun _ _ _ h => h) (Or.inl ⟨by rfl, ?_⟩) ?_ ?_
                          rotate_left
                          · intro w'
                            go_simp
                            with_reducible rfl
                          rotate_left
                          · simp only [Act.put, List.setIfInBounds_toArray, List.set_cons_zero, List.set_cons_succ, i64_w, i32_w]
                            rfl
                          refine pure_ (i := 4) (N := some 116) (v := ?_) (a' := ?_) #[true, true, true, false, true, false, false, false, false, false, false, false] rfl rfl (by kernel_rfl) (fun _ _ _ h => h) (Or.inl ⟨by rfl, ?_⟩) ?_ ?_
                          rotate_left
                          · intro w'
                            go_simp
                            with_reducible rfl
                          rotate_left
                          · simp only [Act.put, List.setIfInBounds_toArray, List.set_cons_zero, List.set_cons_succ, i64_w, i32_w]
                            rfl
                          refine pure_ (i := 5) (N := some 117) (v := ?_) (a' := ?_) #[true, true, true, false, true, true, false, false, false, false, false, false] rfl rfl (by kernel_rfl) (fun _ _ _ h => h) (Or.inl ⟨by rfl, ?_⟩) ?_ ?_
                          rotate_left
                          · intro w'
                            go_simp
                            with_reducible rfl
                          rotate_left
                          · simp only [Act.put, List.setIfInBounds_toArray, List.set_cons_zero, List.set_cons_succ, i64_w, i32_w]
                            rfl
                          refine pure_ (i := 6) (N := some 118) (v := ?_) (a' := ?_) #[true, true, true, false, true, true, true, false, false, false, false, false] rfl rfl (by kernel_rfl) (fun _ _ _ h => h) (Or.inl ⟨by rfl, ?_⟩) ?_ ?_
                          rotate_left
                          · intro w'
                            go_simp
                            with_reducible rfl
                          rotate_left
                          · simp only [Act.put, List.setIfInBounds_toArray, List.set_cons_zero, List.set_cons_succ, i64_w, i32_w]
                            rfl
                          refine pure_ (i := 8) (N := some 120) (v := ?_) (a' := ?_) #[true, true, true, false, true, true, true, false, true, false, false, false] rfl rfl (by kernel_rfl) (fun _ _ _ h => h) (Or.inl ⟨by rfl, ?_⟩) ?_ ?_
                          rotate_left
                          · intro w'
                            go_simp
                            with_reducible rfl
                          rotate_left
                          · simp only [Act.put, List.setIfInBounds_toArray, List.set_cons_zero, List.set_cons_succ, i64_w, i32_w]
                            rfl
                          refine take_ (i := 3) (N := some 115) (v := ?_) (a' := ?_) #[true, true, true, true, true, true, true, false, true, false, false, false] rfl rfl (by kernel_rfl) (fun _ _ _ h => h) (Or.inl ⟨by rfl, ?_⟩) hHeld ?_ ?_
                          rotate_left
                          · rintro w' ⟨s0, s1, s2⟩
                            go_simp
                            with_reducible rfl
                          rotate_left
                          · simp only [Act.put, List.setIfInBounds_toArray, List.set_cons_zero, List.set_cons_succ, i64_w, i32_w]
                            rfl
                          refine take_ (i := 7) (N := some 119) (v := ?_) (a' := ?_) #[true, true, true, true, true, true, true, true, true, false, false, false] rfl rfl (by kernel_rfl) (fun _ _ _ h => h) (Or.inl ⟨by rfl, ?_⟩) hHeld ?_ ?_
                          rotate_left
                          · rintro w' ⟨s0, s1, s2⟩
                            go_simp
                            with_reducible rfl
                          rotate_left
                          · simp only [Act.put, List.setIfInBounds_toArray, List.set_cons_zero, List.set_cons_succ, i64_w, i32_w]
                            rfl
                          refine pure_ (i := 9) (N := some 121) (v := ?_) (a' := ?_) #[true, true, true, true, true, true, true, true, true, true, false, false] rfl rfl (by kernel_rfl) (fun _ _ _ h => h) (Or.inl ⟨by rfl, ?_⟩) ?_ ?_
                          rotate_left
                          · intro w'
                            go_simp
                            with_reducible rfl
                          rotate_left
                          · simp only [Act.put, List.setIfInBounds_toArray, List.set_cons_zero, List.set_cons_succ, i64_w, i32_w]
                            rfl
                          refine take_ (i := 10) (N := some 122) (v := ?_) (a' := ?_) #[true, true, true, true, true, true, true, true, true, true, true, false] rfl rfl (by kernel_rfl) (fun _ _ _ h => h) (Or.inl ⟨by rfl, ?_⟩) hHeld ?_ ?_
                          rotate_left
                          · rintro w' ⟨s0, s1, s2⟩
                            go_simp
                            with_reducible rfl
                          rotate_left
                          · simp only [Act.put, List.setIfInBounds_toArray, List.set_cons_zero, List.set_cons_succ, i64_w, i32_w]
                            rfl
                          refine last_ (i := 11) (N := some 123) #[true, true, true, true, true, true, true, true, true, true, true, true] rfl rfl (by kernel_rfl) (by decide) (fun K hK => ?_)
                          refine goes_ Try.func34 (by kernel_rfl) rfl #[.pointer (some ⟨p, 0, none⟩), .int .i64 (rd t 0), .slice A4 (trk tr j).length cc4, .bool false] (by rfl) rfl rfl (by simp only [List.map_toArray, List.map_cons, List.map_nil]; rfl) ?_
                          with_reducible refine (fan_c w0.heap.size p v0 v1 v2 v3 (.slice (some ⟨g4, 0, none⟩) tr.length c4) v5 nilS (.slice A4 (trk tr j).length cc4) pt (lk ++ lkT t) (trk tr j) (nmd ⟨#[80]⟩ pt.length) (rd t 0) false H1 _ _ w0 _ HRD.out.blk HRD.out.pge HRD.out.hH HRD.out.bel HRD.out.hs HRD.out.r1 HRD.out.r3 HRE.out HB1.out.2 HB1.out.1 (fun _ => named_ok _ _ (by decide))).mono ?_
                          rintro e w8 ⟨v1m, v3m, rfl, hg8, hp8, hr8, hb8, hf8⟩
                          refine ⟨_, rfl, ?_⟩
                          refine hK.out _ _ ?_
                          clear hK K
                          refine norm_ (a' := ?_) ?_ ?_
                          rotate_left
                          · show Act.put _ (some 123) _ = _
                            simp only [Act.put, List.setIfInBounds_toArray, List.set_cons_zero, List.set_cons_succ, i64_w, i32_w]
                            rfl
                          refine done_ (by kernel_rfl) ?_
                          have HR8 : Aside0 (RowI w0 w8 g p L q v0 v1m v2 v3m (.slice (some ⟨g4, 0, none⟩) tr.length c4) v5 st (fanP pt (trk tr j)) sc2 (fanK pt (lk ++ lkT t) (rd t 0) (trk tr j) false) tr bt H1 (fun k => k < H1) (fun k => k < H1) (fun k => k < HH)) := ⟨HRD.out.fan hg8 hp8 hr8 hb8 hf8⟩
                          have HT8 := Aside0.mk (t_fan HTD.out HRD.out hf8)
                          have HS8 : Aside0 (HH ≤ w8.heap.size) := ⟨by have h1 := hf8.1; have h2 := HHS.out; simp at h1; omega⟩
                          clear hg8 hp8 hr8 hb8 hf8 hc0 hc4 hel4 hj2 hj0 HRD HRE HTD HR4' HR3 HT HHS
                          clear hjb hj1 e1 e2
                          obtain ⟨g5, c5, A5, cc5, ok5', hv5, hel5, hre5⟩ := ints_at HR8.out.r4 (j + 1) (by have := HTRN.out; have := HHJ.out; omega)
                          cases hv5
                          obtain ⟨y2, hy2⟩ : ∃ y2, y2 = j + 1 := ⟨_, rfl⟩
                          rw [← hy2] at hel5 hre5
                          have HY2 := Aside0.mk hy2
                          obtain ⟨lj, hlj⟩ : ∃ lj, lj = t.length - 1 := ⟨_, rfl⟩
                          have HLJ := Aside0.mk hlj
                          have hy0 : (0 : Int) ≤ (y2 : Int) := Int.natCast_nonneg _
                          have hy1 : (y2 : Int) < (tr.length : Int) := by have := HTRN.out; have := HHJ.out; omega
                          have hl0 : (0 : Int) ≤ (lj : Int) := Int.natCast_nonneg _
                          have hl1 : (lj : Int) < (t.length : Int) := by omega
                          have hcl := int_cell HT8.out lj (by omega)
                          have hc4 : w8.cell? ⟨p, 4, none⟩ = some (.slice (some ⟨g4, 0, none⟩) tr.length c4) := (blk_cell HR8.out.blk 4).trans rfl
                          have HRD := Aside0.mk (HR8.out.below (below_drew (Below.refl _ _)))
                          have HRE := Aside0.mk (R_drew hre5)
                          have HTD := Aside0.mk (R_drew HT8.out)
                          have HB2 : Aside0 ((fanK pt (lk ++ lkT t) (rd t 0) (trk tr j) false).length + (trk tr y2).length ≤ 900 ∧ (fanP pt (trk tr j)).length ≤ 900) := ⟨by rw [fanK_len, List.length_append, lkT_len]; have := fanP_len pt (trk tr j); have := trk_len tr HTRL.out j; have := trk_len tr HTRL.out y2; have := HSZ.out; have := HHJ.out; have := HI3.out; have := HTL.out; omega⟩
                          have HBJ : Aside0 (j ≤ 1000) := ⟨by have := HHJ.out; have := HI3.out; omega⟩
                          have HBT : Aside0 (0 < t.length ∧ t.length ≤ 1000) := ⟨by have := HTL.out; omega⟩
                          clear hre5 hy2 hlj
                          have e3 := w_succI j y2 HY2.out HBJ.out
                          have e4 := w_succ j y2 HY2.out HBJ.out
                          have e5 := w_predI t.length lj HLJ.out HBT.out
                          have e6 := w_pred t.length lj HLJ.out HBT.out
                          go_wp2
                          refine start_ (n := 16) (S := fun w' => w'.cell? ⟨gt, lj, none⟩ = some (.int .i64 (rd t (lj : Int))) ∧ w'.cell? ⟨p, 4, none⟩ = some (.slice (some ⟨g4, 0, none⟩) tr.length c4) ∧ w'.cell? ⟨g4, y2, none⟩ = some (.slice A5 (trk tr y2).length cc5)) (ds := [15]) #[false, false, false, false, false, false, false, false, false, false, false, false, false, false, false, false] (by kernel_rfl) rfl rfl ⟨hcl, hc4, hel5⟩ (fun hHeld => ?_)
                          refine pure_ (i := 0) (N := some 124) (v := ?_) (a' := ?_) #[true, false, false, false, false, false, false, false, false, false, false, false, false, false, false, false] rfl rfl (by kernel_rfl) (fun _ _ _ h => h) (Or.inl ⟨by rfl, ?_⟩) ?_ ?_
                          rotate_left
                          · intro w'
                            go_simp
                            with_reducible rfl
                          rotate_left
                          · simp only [Act.put, List.setIfInBounds_toArray, List.set_cons_zero, List.set_cons_succ, i64_w, i32_w]
                            rfl
                          refine pure_ (i := 1) (N := some 125) (v := ?_) (a' := ?_) #[true, true, false, false, false, false, false, false, false, false, false, false, false, false, false, false] rfl rfl (by kernel_rfl) (fun _ _ _ h => h) (Or.inl ⟨by rfl, ?_⟩) ?_ ?_
                          rotate_left
                          · intro w'
                            go_simp
                            with_reducible rfl
                          rotate_left
                          · simp only [Act.put, List.setIfInBounds_toArray, List.set_cons_zero, List.set_cons_succ, i64_w, i32_w]
                            rfl
                          refine pure_ (i := 2) (N := some 126) (v := ?_) (a' := ?_) #[true, true, true, false, false, false, false, false, false, false, false, false, false, false, false, false] rfl rfl (by kernel_rfl) (fun _ _ _ h => h) (Or.inl ⟨by rfl, ?_⟩) ?_ ?_
                          rotate_left
                          · intro w'
                            go_simp
                            with_reducible rfl
                          rotate_left
                          · simp only [Act.put, List.setIfInBounds_toArray, List.set_cons_zero, List.set_cons_succ, i64_w, i32_w]
                            rfl
                          refine pure_ (i := 3) (N := some 127) (v := ?_) (a' := ?_) #[true, true, true, true, false, false, false, false, false, false, false, false, false, false, false, false] rfl rfl (by kernel_rfl) (fun _ _ _ h => h) (Or.inl ⟨by rfl, ?_⟩) ?_ ?_
                          rotate_left
                          · intro w'
                            go_simp
                            with_reducible rfl
                          rotate_left
                          · simp only [Act.put, List.setIfInBounds_toArray, List.set_cons_zero, List.set_cons_succ, i64_w, i32_w]
                            rfl
                          refine pure_ (i := 4) (N := some 128) (v := ?_) (a' := ?_) #[true, true, true, true, true, false, false, false, false, false, false, false, false, false, false, false] rfl rfl (by kernel_rfl) (fun _ _ _ h => h) (Or.inl ⟨by rfl, ?_⟩) ?_ ?_
                          rotate_left
                          · intro w'
                            go_simp
                            with_reducible rfl
                          rotate_left
                          · simp only [Act.put, List.setIfInBounds_toArray, List.set_cons_zero, List.set_cons_succ, i64_w, i32_w]
                            rfl
                          refine pure_ (i := 5) (N := some 129) (v := ?_) (a' := ?_) #[true, true, true, true, true, true, false, false, false, false, false, false, false, false, false, false] rfl rfl (by kernel_rfl) (fun _ _ _ h => h) (Or.inl ⟨by rfl, ?_⟩) ?_ ?_
                          rotate_left
                          · intro w'
                            go_simp
                            with_reducible rfl
                          rotate_left
                          · simp only [Act.put, List.setIfInBounds_toArray, List.set_cons_zero, List.set_cons_succ, i64_w, i32_w]
                            rfl
                          refine pure_ (i := 7) (N := some 131) (v := ?_) (a' := ?_) #[true, true, true, true, true, true, false, true, false, false, false, false, false, false, false, false] rfl rfl (by kernel_rfl) (fun _ _ _ h => h) (Or.inl ⟨by rfl, ?_⟩) ?_ ?_
                          rotate_left
                          · intro w'
                            go_simp
                            with_reducible rfl
                          rotate_left
                          · simp only [Act.put, List.setIfInBounds_toArray, List.set_cons_zero, List.set_cons_succ, i64_w, i32_w]
                            rfl
                          refine pure_ (i := 8) (N := some 132) (v := ?_) (a' := ?_) #[true, true, true, true, true, true, false, true, true, false, false, false, false, false, false, false] rfl rfl (by kernel_rfl) (fun _ _ _ h => h) (Or.inl ⟨by rfl, ?_⟩) ?_ ?_
                          rotate_left
                          · intro w'
                            go_simp
                            with_reducible rfl
                          rotate_left
                          · simp only [Act.put, List.setIfInBounds_toArray, List.set_cons_zero, List.set_cons_succ, i64_w, i32_w]
                            rfl
                          refine pure_ (i := 9) (N := some 133) (v := ?_) (a' := ?_) #[true, true, true, true, true, true, false, true, true, true, false, false, false, false, false, false] rfl rfl (by kernel_rfl) (fun _ _ _ h => h) (Or.inl ⟨by rfl, ?_⟩) ?_ ?_
                          rotate_left
                          · intro w'
                            go_simp
                            with_reducible rfl
                          rotate_left
                          · simp only [Act.put, List.setIfInBounds_toArray, List.set_cons_zero, List.set_cons_succ, i64_w, i32_w]
                            rfl
                          refine pure_ (i := 11) (N := some 135) (v := ?_) (a' := ?_) #[true, true, true, true, true, true, false, true, true, true, false, true, false, false, false, false] rfl rfl (by kernel_rfl) (fun _ _ _ h => h) (Or.inl ⟨by rfl, ?_⟩) ?_ ?_
                          rotate_left
                          · intro w'
                            go_simp
                            with_reducible rfl
                          rotate_left
                          · simp only [Act.put, List.setIfInBounds_toArray, List.set_cons_zero, List.set_cons_succ, i64_w, i32_w]
                            rfl
                          refine pure_ (i := 12) (N := some 136) (v := ?_) (a' := ?_) #[true, true, true, true, true, true, false, true, true, true, false, true, true, false, false, false] rfl rfl (by kernel_rfl) (fun _ _ _ h => h) (Or.inl ⟨by rfl, ?_⟩) ?_ ?_
                          rotate_left
                          · intro w'
                            go_simp
                            with_reducible rfl
                          rotate_left
                          · simp only [Act.put, List.setIfInBounds_toArray, List.set_cons_zero, List.set_cons_succ, i64_w, i32_w]
                            rfl
                          refine take_ (i := 6) (N := some 130) (v := ?_) (a' := ?_) #[true, true, true, true, true, true, true, true, true, true, false, true, true, false, false, false] rfl rfl (by kernel_rfl) (fun _ _ _ h => h) (Or.inl ⟨by rfl, ?_⟩) hHeld ?_ ?_
                          rotate_left
                          · rintro w' ⟨s0, s1, s2⟩
                            go_simp
                            with_reducible rfl
                          rotate_left
                          · simp only [Act.put, List.setIfInBounds_toArray, List.set_cons_zero, List.set_cons_succ, i64_w, i32_w]
                            rfl
                          refine take_ (i := 10) (N := some 134) (v := ?_) (a' := ?_) #[true, true, true, true, true, true, true, true, true, true, true, true, true, false, false, false] rfl rfl (by kernel_rfl) (fun _ _ _ h => h) (Or.inl ⟨by rfl, ?_⟩) hHeld ?_ ?_
                          rotate_left
                          · rintro w' ⟨s0, s1, s2⟩
                            go_simp
                            with_reducible rfl
                          rotate_left
                          · simp only [Act.put, List.setIfInBounds_toArray, List.set_cons_zero, List.set_cons_succ, i64_w, i32_w]
                            rfl
                          refine pure_ (i := 13) (N := some 137) (v := ?_) (a' := ?_) #[true, true, true, true, true, true, true, true, true, true, true, true, true, true, false, false] rfl rfl (by kernel_rfl) (fun _ _ _ h => h) (Or.inl ⟨by rfl, ?_⟩) ?_ ?_
                          rotate_left
                          · intro w'
                            go_simp
                            with_reducible rfl
                          rotate_left
                          · simp only [Act.put, List.setIfInBounds_toArray, List.set_cons_zero, List.set_cons_succ, i64_w, i32_w]
                            rfl
                          refine take_ (i := 14) (N := some 138) (v := ?_) (a' := ?_) #[true, true, true, true, true, true, true, true, true, true, true, true, true, true, true, false] rfl rfl (by kernel_rfl) (fun _ _ _ h => h) (Or.inl ⟨by rfl, ?_⟩) hHeld ?_ ?_
                          rotate_left
                          · rintro w' ⟨s0, s1, s2⟩
                            go_simp
                            with_reducible rfl
                          rotate_left
                          · simp only [Act.put, List.setIfInBounds_toArray, List.set_cons_zero, List.set_cons_succ, i64_w, i32_w]
                            rfl
                          refine last_ (i := 15) (N := some 139) #[true, true, true, true, true, true, true, true, true, true, true, true, true, true, true, true] rfl rfl (by kernel_rfl) (by decide) (fun K hK => ?_)
                          refine goes_ Try.func34 (by kernel_rfl) rfl #[.pointer (some ⟨p, 0, none⟩), .int .i64 (rd t (lj : Int)), .slice A5 (trk tr y2).length cc5, .bool true] (by rfl) rfl rfl (by simp only [List.map_toArray, List.map_cons, List.map_nil]; rfl) ?_
                          with_reducible refine (fan_c w0.heap.size p v0 v1m v2 v3m (.slice (some ⟨g4, 0, none⟩) tr.length c4) v5 nilS (.slice A5 (trk tr y2).length cc5) (fanP pt (trk tr j)) (fanK pt (lk ++ lkT t) (rd t 0) (trk tr j) false) (trk tr y2) (nmd ⟨#[80]⟩ (fanP pt (trk tr j)).length) (rd t (lj : Int)) true H1 _ _ w0 _ HRD.out.blk HRD.out.pge HRD.out.hH HRD.out.bel HRD.out.hs HRD.out.r1 HRD.out.r3 HRE.out HB2.out.2 HB2.out.1 (fun _ => named_ok _ _ (by decide))).mono ?_
                          rintro e w10 ⟨v1p, v3p, rfl, hg8, hp8, hr8, hb8, hf8⟩
                          refine ⟨_, rfl, ?_⟩
                          refine hK.out _ _ ?_
                          clear hK K
                          refine norm_ (a' := ?_) ?_ ?_
                          rotate_left
                          · show Act.put _ (some 139) _ = _
                            simp only [Act.put, List.setIfInBounds_toArray, List.set_cons_zero, List.set_cons_succ, i64_w, i32_w]
                            rfl
                          refine done_ (by kernel_rfl) ?_
                          have HR10 : Aside0 (RowI w0 w10 g p L q v0 v1p v2 v3p (.slice (some ⟨g4, 0, none⟩) tr.length c4) v5 st (fanP (fanP pt (trk tr j)) (trk tr y2)) sc2 (fanK (fanP pt (trk tr j)) (fanK pt (lk ++ lkT t) (rd t 0) (trk tr j) false) (rd t (lj : Int)) (trk tr y2) true) tr bt H1 (fun k => k < H1) (fun k => k < H1) (fun k => k < HH)) := ⟨HRD.out.fan hg8 hp8 hr8 hb8 hf8⟩
                          have HT10 := Aside0.mk (t_fan HTD.out HRD.out hf8)
                          have HS10 : Aside0 (HH ≤ w10.heap.size) := ⟨by have h1 := hf8.1; have h2 := HS8.out; simp at h1; omega⟩
                          clear hg8 hp8 hr8 hb8 hf8 hcl hc4 hel5 hy0 hy1 hl0 hl1 e3 e5 e6 HRD HRE HTD HR8 HT8
                          obtain ⟨A9, c9, hv9⟩ := Kd.R_slice HR10.out.r5
                          subst hv9
                          have HN9 : Aside0 (∀ k, HH ≤ k → True ∧ some k ≠ (Value.slice A9 bt.length c9).ownBlock) := ⟨fun k hk => ⟨trivial, fun he => by have := HR10.out.r5.1 k he.symm; omega⟩⟩
                          have HL24 : Aside0 ((bt.length + 1) * 24 ≤ 140737488355328) := ⟨by have := HSZ.out; have := HHJ.out; have := HI3.out; omega⟩
                          have HO9 := Aside0.mk (Kd.R_mono HR10.out.r5 (fun _ _ => trivial : ∀ k, k < HH → True))
                          have HNP9 : Aside0 (some p ≠ (Value.slice A9 bt.length c9).ownBlock) := ⟨Kd.R_ne HR10.out.r5 HR10.out.blk (by decide)⟩
                          have hc9 : w10.cell? ⟨p, 5, none⟩ = some (.slice A9 bt.length c9) := (blk_cell HR10.out.blk 5).trans rfl
                          go_wp2_with (at_builtin; refine Kd.R_append kInts (w0 := w10) H1 rfl (.tmp 144) (.tmp 146) 51 22 nilS 24 rfl Try.underlying51 (by kernel_rfl) rfl (by decide) (by omega) (.slice A9 bt.length c9) bt t [.slice (some ⟨gt, 0, none⟩) t.length ct] (fun _ => True) (fun k => HH ≤ k) rfl rfl (ints_M HT10.out HHW.out.2.2) HN9.out (fun _ _ => trivial) HO9.out (Below.refl _ _) HR10.out.hs HL24.out ?_; intro v5n w7 ho7 hb7 hg7 hat7; obtain ⟨A7', c7', hv7⟩ := Kd.R_slice ho7; rw [List.length_append, List.length_singleton] at hv7; subst hv7; have HG7 := Aside0.mk (blk_grown HR10.out.blk hg7 HNP9.out); have e7 : w7.cell? ⟨p, 5, none⟩ = some (.slice A9 bt.length c9) := (blk_cell HG7.out 5).trans rfl; have f7 := blk_frozen HG7.out 5; have HRT := Aside0.mk (HR10.out.btws ho7 hg7); clear ho7 hb7 hg7 hat7)
                          go_roundg k1
                          case measure => have := HK.out; omega
                          case rel => exact ⟨j + 1, q, v1p, v2, v3p, _, _, sc2, _, bt ++ [t], (by first | rw [HY2.out] | (rw [e4, HY2.out])), ⟨by have := HK.out; omega⟩, ⟨by have := HHJ.out; omega⟩, ⟨by have := HSZ.out; have := HSZ2.out; have := fanP_len (fanP pt (trk tr j)) (trk tr y2); have := fanP_len pt (trk tr j); have := trk_len tr HTRL.out j; have := trk_len tr HTRL.out y2; have := HTL.out; rw [fanK_len, fanK_len, List.length_append, List.length_append, List.length_singleton, lkT_len]; omega⟩, ⟨by rw [show i - 1 - (j + 1) = m by have := HM.out; omega]; have h := HGG.out; rw [← HY2.out, show ((t.length : Int) - 1) = (lj : Int) by have := HLJ.out; have := HTL.out; omega] at h; rw [← HY2.out]; exact h⟩, HRT⟩
            · have hj1 : decide ((j : Int) + 1 < (i : Int)) = false := decide_eq_false (by omega)
              have hg := HG.out
              rw [show i - 1 - j = 0 by have := HJ.out; omega] at hg
              unfold bwS at hg
              subst hg
              go_wp2
              go_ret
              exact ⟨p, rfl, v0, v1, v2, v3, v4, v5, H1, _, _, HR.out⟩
end Go.Proofs.Ytkegdgdkfbmabaa.X
