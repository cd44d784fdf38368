/- layout.named, layout.names: what they answer, and that the calls come to it. -/
import Derived.StringKeys
import Derived.Maps.AppendAt
import Derived.Test.YtkegdgdkfbmabaaQLNameW
import Derived.Test.YtkegdgdkfbmabaaQMapIs
import Derived.Test.YtkegdgdkfbmabaaX4
namespace Go.Proofs.Ytkegdgdkfbmabaa.X
open Go Go.RowKit Go.Maps Go.Proofs.YtkegdgdkfbmabaaW Go.Proofs.YtkegdgdkfbmabaaW.PrintWords Go.Proofs.YtkegdgdkfbmabaaW.PrintLast Go.Proofs.YtkegdgdkfbmabaaW.PrintMore
set_option linter.unusedVariables false
set_option linter.unusedSimpArgs false
/-- Is a name among them? -/
def memS (s : ByteArray) (seen : List ByteArray) : Bool := seen.any fun u => decide (u = s)
theorem memS_iff {s : ByteArray} {seen : List ByteArray} : memS s seen = true ↔ s ∈ seen := by
  unfold memS
  rw [List.any_eq_true]
  exact ⟨fun ⟨u, hu, he⟩ => of_decide_eq_true he ▸ hu, fun h => ⟨s, h, decide_eq_true rfl⟩⟩
/-- The error of a name, after those that were seen. -/
def namedS (seen : List ByteArray) (s : ByteArray) : Int := if Q.nameS s = true then (if memS s seen = true then 5 else 0) else 3
def namesS : List ByteArray → List ByteArray → Int
  | _, [] => 0
  | seen, s :: l => if namedS seen s = 0 then namesS (s :: seen) l else namedS seen s
theorem zeroBool (w : World) : (zeroValue 4).run Try.prog w = .ok (.bool false) w := by kernel_rfl
theorem keyLaw : Keyed Try.prog 9 := string_keyed Try.underlying9
theorem key_at (s : ByteArray) (h : s.size ≤ maxLen) : keyOf Try.prog 9 (.string s) = some (litS s) := WideMaps.keyOf_string_mk Try.underlying9 h
theorem set_val (seen : List ByteArray) (s : ByteArray) : ∀ u ps, plainElem Try.prog 4 u = some ((setF seen (litS s)).getD (DataW.lit (.bool false)), ps) → u = .bool (memS s seen) := by
  intro u ps h
  obtain ⟨x, rfl, hx⟩ := plainElem_bool_inv Try.underlying4 h
  by_cases hs : s ∈ seen
  · rw [setF_yes hs] at hx
    simp only [Option.getD_some, Prod.mk.injEq, DataW.lit.injEq, Lit.bool.injEq] at hx
    rw [memS_iff.2 hs, ← hx.1]
  · rw [setF_no hs] at hx
    simp only [Option.getD_none, Prod.mk.injEq, DataW.lit.injEq, Lit.bool.injEq] at hx
    have : memS s seen = false := by
      cases hm : memS s seen with
      | false => rfl
      | true => exact absurd (memS_iff.1 hm) hs
    rw [this, ← hx.1]
theorem set_drewN {w : World} {b n : Nat} {seen : List ByteArray} (h : SetIs w b n seen) (m : Nat) : SetIs (w.drewN m) b n seen := MapIs.below h (pw_below_drewN (Below.refl _ _) m)
theorem gb_drewN (w : World) (m : Nat) (row : Option Nat) : w.grownBy (w.drewN m) row := ⟨rfl, rfl, rfl, Nat.le_refl _, fun _ _ _ => rfl⟩
set_option maxHeartbeats 800000 in
set_option maxRecDepth 100000 in
theorem named_c (w : World) (b n : Nat) (seen : List ByteArray) (s : ByteArray) (h : SetIs w b n seen) (hn : n < 4294967296) :
    Calls Try.prog 27 #[.map (some b), .string s] w fun e w' => e = .returned (.int .i64 (namedS seen s)) ∧ SetIs w' b (n + 1) (if namedS seen s = 0 then s :: seen else seen) ∧ w.grownBy w' (some b) := by
  obtain ⟨k, hk⟩ := Ev.rounds (Q.w_name s)
  have HN := Aside0.mk (fun w1 => words_Name.calls k s (Q.nameS s) w1 hk)
  clear hk
  have HS := Aside0.mk h
  have hnm : n < maxLen := by unfold maxLen; omega
  have HM := Aside0.mk hnm
  clear h hnm
  unfold namedS
  cases hs : Q.nameS s with
  | false =>
    rw [hs] at HN
    rw [if_neg (by decide), if_neg (by decide)]
    clear hs
    go_enter Try.func27, Try.ntmps27
    go_wp2_with fail
    (with_reducible refine (HN.out _).mono ?_)
    rintro e w' ⟨rfl, ⟨nd, rfl⟩⟩
    go_wp2
    go_ret
    exact ⟨rfl, (set_drewN HS.out nd).mono (Nat.le_succ n), gb_drewN _ _ _⟩
  | true =>
    rw [hs] at HN
    rw [if_pos rfl]
    have HK := Aside0.mk (key_at s (by have := Q.name_size hs; unfold maxLen; omega))
    clear hs
    by_cases hm : memS s seen = true
    · rw [if_pos hm, if_neg (by decide)]
      have HV := Aside0.mk (set_val seen s)
      rw [hm] at HV
      clear hm
      go_enter Try.func27, Try.ntmps27
      go_wp2_with fail
      (with_reducible refine (HN.out _).mono ?_)
      rintro e w' ⟨rfl, ⟨nd, rfl⟩⟩
      go_wp2_with (at_lookup; refine wpList_look_is _ rfl _ _ 66 rfl 9 4 keyLaw Try.underlying66 _ (zeroBool _) (plainElem_bool Try.underlying4 false) b n (setF seen) rfl (set_drewN HS.out nd) _ _ rfl HK.out (.bool true) HV.out ?_)
      go_ret
      exact ⟨rfl, (set_drewN HS.out nd).mono (Nat.le_succ n), gb_drewN _ _ _⟩
    · rw [if_neg hm, if_pos rfl]
      have HV := Aside0.mk (set_val seen s)
      rw [show memS s seen = false by simpa using hm] at HV
      clear hm
      go_enter Try.func27, Try.ntmps27
      go_wp2_with fail
      (with_reducible refine (HN.out _).mono ?_)
      rintro e w' ⟨rfl, ⟨nd, rfl⟩⟩
      go_wp2_with (first | (at_lookup; refine wpList_look_is _ rfl _ _ 66 rfl 9 4 keyLaw Try.underlying66 _ (zeroBool _) (plainElem_bool Try.underlying4 false) b n (setF seen) rfl (set_drewN HS.out nd) _ _ rfl HK.out (.bool false) HV.out ?_) | (at_mapUpdate; refine @wpList_put_is _ _ _ _ _ _ _ decLit rfl _ _ _ 66 rfl 9 4 keyLaw Try.underlying66 _ b n (setF seen) rfl (set_drewN HS.out nd) HM.out _ _ _ rfl rfl HK.out _ [] (plainElem_bool Try.underlying4 true) ?_; intro w1 hs1 hg1))
      go_ret
      exact ⟨rfl, hs1.ext fun kl => setF_cons decLit seen s kl, (gb_drewN _ _ _).trans hg1⟩
theorem str_at {w : World} {A : Option Addr} {n : Nat} {xs : List ByteArray} (h : Kd.C Kd.string w A n xs) (i : Nat) (hi : i < n) (x : ByteArray) (hx : xs[i]? = some x) :
    ∃ ad, A = some ad ∧ w.cell? (ad.add i) = some (.string x) := by
  obtain ⟨hl, _, h2⟩ := h
  obtain ⟨ad, rfl, hc⟩ := h2 (by omega)
  obtain ⟨c, hcl, hK, hcc⟩ := hc i x hx
  have hKe : c = [.string x] := hK
  subst hKe
  have := hcc 0 _ rfl
  rw [show i * Kd.string.sz + 0 = i from by show i * 1 + 0 = i; omega] at this
  exact ⟨ad, rfl, this⟩
theorem drop_at {α : Type} {l : List α} {i : Nat} (h : i < l.length) : ∃ x, l[i]? = some x ∧ l.drop i = x :: l.drop (i + 1) := ⟨l[i], List.getElem?_eq_getElem h, List.drop_eq_getElem_cons h⟩
theorem int_succ (i : Nat) (h : i < 9223372036854775807) : wrap64 ((i : Int) + 1) = ((i + 1 : Nat) : Int) := by unfold wrap64; omega
set_option maxHeartbeats 800000 in
set_option maxRecDepth 100000 in
theorem names_c (A0 : Option Addr) (c0 : Nat) (l : List ByteArray) (w : World) (hr : Kd.C Kd.string w A0 l.length l) (hl : l.length ≤ 200) :
    Calls Try.prog 16 #[.slice A0 l.length c0] w fun e w' => e = .returned (.int .i64 (namesS [] l)) ∧ Below w.heap.size w w' := by
  have HR0 := Aside0.mk hr
  have HL := Aside0.mk hl
  clear hr hl
  have hmm := @run_makeMap Try.prog
  have HM := Aside0.mk (SetIs.made w)
  obtain ⟨R, hR⟩ : ∃ R, namesS [] l = R := ⟨_, rfl⟩
  rw [hR]
  have H' := Aside0.mk hR
  clear hR
  go_enter Try.func16, Try.ntmps16
  go_wp2
  clear hmm
  go_loopg [10] (l.length + 1) (fun kq v10 w' => ∃ (i : Nat) (seen : List ByteArray), v10 = .int .i64 (i : Int) ∧ Aside0 (i + kq = l.length + 1) ∧ Aside0 (i ≤ l.length) ∧ Aside0 (namesS seen (l.drop i) = R) ∧ Aside0 (SetIs w' w.heap.size i seen) ∧ Aside0 (Below w.heap.size w w'))
  case atStart => exact ⟨0, [], rfl, ⟨by omega⟩, ⟨Nat.zero_le _⟩, H', HM, ⟨(Below.refl _ _).alloc (Nat.le_refl _) _⟩⟩
  case round =>
    clear H' HM
    obtain ⟨i, seen, rfl, HK, HI, HG, HS, HB⟩ := hrel
    cases gk with
    | zero => exact absurd HK.out (by have := HI.out; omega)
    | succ k1 =>
      by_cases hi : i < l.length
      · obtain ⟨s, hx, hd⟩ := drop_at hi
        have hg := HG.out
        rw [hd] at hg
        unfold namesS at hg
        obtain ⟨ad, hA, hc⟩ := str_at (Kd.C_below HR0.out HB.out) i hi s hx
        subst hA
        have hi1 : decide ((i : Int) < (l.length : Int)) = true := decide_eq_true (by omega)
        have hi2 : decide (i < l.length) = true := decide_eq_true hi
        have HC := Aside0.mk (named_c wr w.heap.size i seen s HS.out (by have := HL.out; omega))
        obtain ⟨q, hq⟩ : ∃ q, namedS seen s = q := ⟨_, rfl⟩
        rw [hq] at HC hg
        clear hq hx hd
        by_cases h0 : q = 0
        · rw [if_pos h0] at hg
          subst h0
          have HGN := Aside0.mk hg
          have HHI := Aside0.mk hi
          have HC2 : Aside0 (Calls Try.prog 27 #[.map (some w.heap.size), .string s] wr fun e w' => e = .returned (.int .i64 0) ∧ SetIs w' w.heap.size (i + 1) (s :: seen) ∧ wr.grownBy w' (some w.heap.size)) := ⟨HC.out.mono fun e w' h => by rw [if_pos rfl] at h; exact h⟩
          clear hg HC HG
          go_wp2_with fail
          (with_reducible refine HC2.out.mono ?_)
          rintro e w2 ⟨rfl, hs2, hg2⟩
          have HS2 := Aside0.mk hs2
          have HB2 := Aside0.mk (HB.out.grown hg2 HB.out.size (fun k hk => by cases hk; exact Nat.le_refl _))
          clear hs2 hg2
          go_wp2
          go_roundg k1
          case measure => have := HK.out; omega
          case rel => exact ⟨i + 1, _, (by first | go_num | (rw [int_succ i (by have := HHI.out; have := HL.out; omega)])), ⟨by have := HK.out; omega⟩, ⟨by have := HHI.out; omega⟩, HGN, HS2, HB2⟩
        · rw [if_neg h0] at hg
          subst hg
          have h0b : (q != 0) = true := bne_iff_ne.mpr h0
          clear HG h0
          go_wp2_with fail
          (with_reducible refine HC.out.mono ?_)
          rintro e w2 ⟨rfl, hs2, hg2⟩
          have HB2 := Aside0.mk (HB.out.grown hg2 HB.out.size (fun k hk => by cases hk; exact Nat.le_refl _))
          clear hs2 hg2
          go_wp2
          go_ret
          exact ⟨rfl, HB2.out⟩
      · have hg := HG.out
        rw [List.drop_eq_nil_of_le (by omega)] at hg
        have hi1 : decide ((i : Int) < (l.length : Int)) = false := decide_eq_false (by omega)
        have hi2 : decide (i < l.length) = false := decide_eq_false hi
        have hR0 : (0 : Int) = R := hg
        subst hR0
        clear hg HG
        go_wp2
        go_ret
        exact ⟨rfl, HB.out⟩
end Go.Proofs.Ytkegdgdkfbmabaa.X
