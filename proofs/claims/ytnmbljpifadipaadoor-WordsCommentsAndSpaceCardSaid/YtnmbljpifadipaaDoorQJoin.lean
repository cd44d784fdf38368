/- words.Join: what it answers, and that the call comes to it. -/
import Derived.Test.YtnmbljpifadipaaDoorQBuilder
import Derived.Test.YtnmbljpifadipaaDoorQLaid
import Derived.Test.YtnmbljpifadipaaDoorX11
namespace Go.Proofs.YtnmbljpifadipaaDoor.X
open Go Go.RowKit Go.Shelf Go.Proofs.YtnmbljpifadipaaDoorW Go.Proofs.YtnmbljpifadipaaDoorW.PrintWords Go.Proofs.YtnmbljpifadipaaDoorW.PrintLast Go.Proofs.YtnmbljpifadipaaDoorW.PrintMore
set_option linter.unusedVariables false
set_option linter.unusedSimpArgs false
--BODY
/-- Are all of them words? -/
def words_Join.wl : Nat → List ByteArray → Option Bool
  | _, [] => some true
  | k, s :: l => (words_word.f k s).bind fun b => if b = true then words_Join.wl k l else some false
/-- strings.Join of a line's words, with spaces between them. -/
def joinW (x : List ByteArray) : ByteArray := ⟨(Lib.join (x.map (·.data.toList)) [32]).toArray⟩
def words_Join.go : Nat → List (List ByteArray) → ByteArray → Option ByteArray
  | _, [], out => some out
  | k, x :: l, out =>
    if x.length = 0 then some ⟨#[]⟩
    else if x.length > 64 then some ⟨#[]⟩
    else (words_Join.wl k x).bind fun b =>
      if b = true then (if out.size + (joinW x).size + 1 ≤ 140737488355328 then words_Join.go k l (out ++ (joinW x ++ ⟨#[10]⟩)) else none)
      else some ⟨#[]⟩
def words_Join.f (k : Nat) (l : List (List ByteArray)) : Option ByteArray := words_Join.go k l ⟨#[]⟩
theorem words_Join.mono_wl (k : Nat) : ∀ l, LeO (words_Join.wl k l) (words_Join.wl (k + 1) l) := by
  intro l
  induction l with
  | nil => exact LeO.refl _
  | cons s l ih => unfold words_Join.wl; exact LeO.bind (words_word.mono _ _) (fun _ => LeO.ite ih (LeO.refl _))
theorem words_Join.mono_go (k : Nat) : ∀ l out, LeO (words_Join.go k l out) (words_Join.go (k + 1) l out) := by
  intro l
  induction l with
  | nil => intro out; exact LeO.refl _
  | cons x l ih =>
    intro out
    unfold words_Join.go
    exact LeO.ite (LeO.refl _) (LeO.ite (LeO.refl _) (LeO.bind (words_Join.mono_wl _ _) (fun _ => LeO.ite (LeO.ite (ih _) (LeO.none _)) (LeO.refl _))))
theorem words_Join.mono : ∀ l k, LeO (words_Join.f k l) (words_Join.f (k + 1) l) := fun l k => words_Join.mono_go k l _
theorem cell_plain {w : World} {a : Addr} {v : Value} (h : w.cell? a = some v) : a = ⟨a.block, a.off, none⟩ ∧ a.block < w.heap.size := by
  refine ⟨?_, cell_lt' h⟩
  unfold World.cell? at h
  split at h
  · split at h
    · cases h
    · rename_i hs
      cases a with
      | mk b o s => cases s with
        | none => rfl
        | some q => simp at hs
  · cases h
theorem add_flat (b o n : Nat) : (⟨b, o, none⟩ : Addr).add n = ⟨b, o + n, none⟩ := by
  unfold Addr.add
  split
  · rename_i h; subst h; rfl
  · rfl
theorem row_flat {α : Type} {d : Kd α} (hsz : d.sz = 1) {w : World} {A : Option Addr} {n : Nat} {xs : List α} (h : Kd.C d w A n xs) (hn : 0 < n) :
    ∃ b o, A = some ⟨b, o, none⟩ ∧ b < w.heap.size ∧ ∀ (j : Nat) x, xs[j]? = some x → ∃ c, c.length = 1 ∧ d.K w x c ∧ ∀ u, c[0]? = some u → w.cell? ⟨b, o + j, none⟩ = some u := by
  obtain ⟨hl, _, h2⟩ := h
  obtain ⟨ad, rfl, hc⟩ := h2 hn
  have all : ∀ (j : Nat) x, xs[j]? = some x → ∃ c, c.length = 1 ∧ d.K w x c ∧ ∀ u, c[0]? = some u → w.cell? (ad.add j) = some u := by
    intro j x hx
    obtain ⟨c, hcl, hK, hcc⟩ := hc j x hx
    refine ⟨c, hcl.trans hsz, hK, fun u hu => ?_⟩
    have := hcc 0 u hu
    rwa [show j * d.sz + 0 = j by rw [hsz]; omega] at this
  obtain ⟨c, hcl, _, hcc⟩ := all 0 _ (List.getElem?_eq_getElem (show 0 < xs.length by omega))
  have h0 := hcc (c[0]'(by omega)) (List.getElem?_eq_getElem (by omega))
  have h00 : w.cell? ad = some (c[0]'(by omega)) := h0
  obtain ⟨p1, p2⟩ := cell_plain h00
  obtain ⟨b, o, s⟩ := ad
  obtain rfl : s = none := congrArg Addr.spot p1
  refine ⟨b, o, rfl, p2, fun j x hx => ?_⟩
  obtain ⟨c, h1, h2, h3⟩ := all j x hx
  exact ⟨c, h1, h2, fun u hu => by rw [← add_flat]; exact h3 u hu⟩
theorem str_row {w : World} {A : Option Addr} {n : Nat} {xs : List ByteArray} (h : Kd.C Kd.string w A n xs) (hn : 0 < n) :
    ∃ b o, A = some ⟨b, o, none⟩ ∧ b < w.heap.size ∧ ∀ (j : Nat) x, xs[j]? = some x → w.cell? ⟨b, o + j, none⟩ = some (.string x) := by
  obtain ⟨b, o, h1, h2, h3⟩ := row_flat rfl h hn
  refine ⟨b, o, h1, h2, fun j x hx => ?_⟩
  obtain ⟨c, _, hK, hc⟩ := h3 j x hx
  have hKe : c = [.string x] := hK
  subst hKe
  exact hc _ rfl
theorem row_at {w : World} {A : Option Addr} {n : Nat} {ls : List (List ByteArray)} (h : Kd.C (Kd.slice 9 Kd.string) w A n ls) (i : Nat) (hi : i < n) (x : List ByteArray) (hx : ls[i]? = some x) :
    ∃ b o A1 c1, A = some ⟨b, o, none⟩ ∧ w.cell? ⟨b, o + i, none⟩ = some (.slice A1 x.length c1) ∧ x.length ≤ c1 ∧ Kd.C Kd.string w A1 x.length x := by
  obtain ⟨b, o, h1, h2, h3⟩ := row_flat rfl h (by omega)
  obtain ⟨c, _, hK, hc⟩ := h3 i x hx
  obtain ⟨A1, c1, hce, hle, hC⟩ := (show ∃ A1 c1, c = [Value.slice A1 x.length c1] ∧ x.length ≤ c1 ∧ Kd.C Kd.string w A1 x.length x from hK)
  subst hce
  exact ⟨b, o, A1, c1, h1, hc _ rfl, hle, hC⟩
theorem drop_at {α : Type} {l : List α} {i : Nat} (h : i < l.length) : ∃ x, l[i]? = some x ∧ l.drop i = x :: l.drop (i + 1) := ⟨l[i], List.getElem?_eq_getElem h, List.drop_eq_getElem_cons h⟩
theorem int_succ (i : Nat) (h : i < 9223372036854775807) : wrap64 ((i : Int) + 1) = ((i + 1 : Nat) : Int) := by unfold wrap64; omega
set_option maxHeartbeats 800000 in
set_option maxRecDepth 100000 in
theorem words_Join.calls (k : Nat) (A0 : Option Addr) (c0 : Nat) (l0 : List (List ByteArray)) (r : ByteArray) (w : World) (hr0 : Kd.C (Kd.slice 9 Kd.string) w A0 l0.length l0) (hc0 : l0.length ≤ c0) (h : words_Join.f k l0 = some r) :
    Calls Tryd.prog 26 #[.slice A0 l0.length c0] w fun e w' => e = .returned (.string r) ∧ Below w.heap.size w w' := by
  have HR0 := Aside0.mk hr0
  have HC0 := Aside0.mk hc0
  have hmx : l0.length ≤ 9223372036854775807 := hr0.2.1
  have HMX := Aside0.mk hmx
  clear hr0 hc0 hmx
  have H : words_Join.go k l0 ⟨#[]⟩ = some r := h
  clear h
  have H' := Aside0.mk H
  clear H
  have HF := Aside0.mk (H.fresh w)
  go_enter Tryd.func26, Tryd.ntmps26
  go_wp2
  go_loopg [10] (l0.length + 1) (fun kq v10 w' => ∃ (i : Nat) (out : ByteArray), v10 = .int .i64 (i : Int) ∧ Aside0 (i + kq = l0.length + 1) ∧ Aside0 (i ≤ l0.length) ∧ Aside0 (words_Join.go k (l0.drop i) out = some r) ∧ Aside0 (H.Sb w.heap.size w.heap.size out w') ∧ Aside0 (Below w.heap.size w w'))
  case atStart => exact ⟨0, ⟨#[]⟩, rfl, ⟨by omega⟩, ⟨Nat.zero_le _⟩, H', HF, ⟨(Below.refl _ _).alloc (Nat.le_refl _) _⟩⟩
  case round =>
    clear H' HF
    obtain ⟨i, out, rfl, HK, HI, HG, HS, HB⟩ := hrel
    cases gk with
    | zero => exact absurd HK.out (by have := HI.out; omega)
    | succ k1 =>
      by_cases hi : i < l0.length
      · obtain ⟨x, hx, hd⟩ := drop_at hi
        have hg := HG.out
        rw [hd] at hg
        unfold words_Join.go at hg
        obtain ⟨bo, oo, A1, c1, hA0, hcx, hcl, hC1⟩ := row_at (Kd.C_below HR0.out HB.out) i hi x hx
        subst hA0
        have HC1 := Aside0.mk hC1
        have HCL := Aside0.mk hcl
        have hi1 : decide ((i : Int) < (l0.length : Int)) = true := decide_eq_true (by omega)
        have hi2 : decide (i < l0.length) = true := decide_eq_true hi
        clear hC1 hcl
        by_cases h0 : x.length = 0
        · rw [if_pos h0] at hg
          obtain rfl := Option.some.inj hg
          have h0b : ((x.length : Int) == 0) = true := by rw [h0]; rfl
          have hxm := Aside0.mk h0
          clear hx hd h0 hg HG
          go_wp2
          go_ret
          exact ⟨rfl, HB.out⟩
        · rw [if_neg h0] at hg
          have h0b : ((x.length : Int) == 0) = false := by rw [beq_eq_false_iff_ne]; omega
          have H0 := Aside0.mk h0
          by_cases h64 : x.length > 64
          · rw [if_pos h64] at hg
            obtain rfl := Option.some.inj hg
            have h64b : decide ((64 : Int) < (x.length : Int)) = true := decide_eq_true (by omega)
            have h64c : decide (64 < x.length) = true := decide_eq_true (by omega)
            clear hx hd h0 hg HG h64
            go_wp2
            go_ret
            exact ⟨rfl, HB.out⟩
          · rw [if_neg h64] at hg
            replace hg := Option.bind_eq_some_iff.mp hg
            obtain ⟨b, hwl, hg⟩ := hg
            have HWL := Aside0.mk hwl
            have HGG := Aside0.mk hg
            have H64 := Aside0.mk h64
            have h64b : decide ((64 : Int) < (x.length : Int)) = false := decide_eq_false (by omega)
            have h64c : decide (64 < x.length) = false := decide_eq_false (by omega)
            clear hx hd h0 hg HG h64 hwl
            have HXM : Aside0 (x.length ≤ 9223372036854775807) := ⟨HC1.out.2.1⟩
            go_wp2
            go_loopg [24] (x.length + 1) (fun kq v24 w' => ∃ j : Nat, v24 = .int .i64 (j : Int) ∧ Aside0 (j + kq = x.length + 1) ∧ Aside0 (j ≤ x.length) ∧ Aside0 (words_Join.wl k (x.drop j) = some b) ∧ Drawn0 wr w')
            case atStart => exact ⟨0, rfl, ⟨by omega⟩, ⟨Nat.zero_le _⟩, HWL, Drawn0.refl _⟩
            case round =>
              clear HWL
              obtain ⟨j, rfl, HK2, HJ, HW, ⟨m2, rfl⟩⟩ := hrel
              cases gk with
              | zero => exact absurd HK2.out (by have := HJ.out; omega)
              | succ k2 =>
                by_cases hj : j < x.length
                · obtain ⟨s, hs, hsd⟩ := drop_at hj
                  have hw := HW.out
                  rw [hsd] at hw
                  unfold words_Join.wl at hw
                  replace hw := Option.bind_eq_some_iff.mp hw
                  obtain ⟨b1, hb1, hw⟩ := hw
                  have HB1 := Aside0.mk (fun w1 => words_word.calls k s b1 w1 hb1)
                  obtain ⟨bx, ox, hA1, _, hcells⟩ := str_row HC1.out (by omega)
                  subst hA1
                  have hcs := hcells j s hs
                  have hj1 : decide ((j : Int) < (x.length : Int)) = true := decide_eq_true (by omega)
                  have hj2 : decide (j < x.length) = true := decide_eq_true hj
                  have HHJ := Aside0.mk hj
                  clear hcells hs hsd hb1
                  cases b1 with
                  | true =>
                    rw [if_pos rfl] at hw
                    have HWN := Aside0.mk hw
                    clear hw
                    go_wp2_with (go_at_call 39; (with_reducible refine (HB1.out _).mono ?_); rintro e w' ⟨rfl, ⟨nd, rfl⟩⟩)
                    go_roundg k2
                    case measure => have := HK2.out; omega
                    case rel => exact ⟨j + 1, (by first | go_num | (rw [int_succ j (by have := HHJ.out; have := HXM.out; omega)])), ⟨by have := HK2.out; omega⟩, ⟨by have := HHJ.out; omega⟩, HWN, by repeat (first | exact Drawn0.refl _ | apply Drawn0.step)⟩
                  | false =>
                    rw [if_neg (by decide)] at hw
                    obtain rfl := Option.some.inj hw
                    have hg := HGG.out
                    rw [if_neg (by decide)] at hg
                    obtain rfl := Option.some.inj hg
                    clear hw hg
                    go_wp2_with (go_at_call 39; (with_reducible refine (HB1.out _).mono ?_); rintro e w' ⟨rfl, ⟨nd, rfl⟩⟩)
                    go_ret
                    exact ⟨rfl, by repeat (first | exact HB.out | apply pw_below_drewN | apply below_drew1)⟩
                · have hjj : j = x.length := by have := HJ.out; omega
                  have hw := HW.out
                  rw [List.drop_eq_nil_of_le (by omega)] at hw
                  obtain rfl := Option.some.inj hw
                  have hg := HGG.out
                  rw [if_pos rfl] at hg
                  by_cases hz : ¬ out.size + (joinW x).size + 1 ≤ 140737488355328
                  · rw [if_neg hz] at hg; cases hg
                  replace hz := Classical.not_not.mp hz
                  rw [if_pos hz] at hg
                  have HZ := Aside0.mk hz
                  have HGN := Aside0.mk hg
                  have hj1 : decide ((j : Int) < (x.length : Int)) = false := decide_eq_false (by omega)
                  have hj2 : decide (j < x.length) = false := decide_eq_false hj
                  have HX0 := H0.out
                  obtain ⟨bx, ox, hA1, hbx, hcells⟩ := str_row HC1.out (by omega)
                  subst hA1
                  have HCELL := Aside0.mk hcells
                  have HBX := Aside0.mk hbx
                  have hts : (joinW x).size = (Lib.join (x.map (·.data.toList)) [32]).length := by unfold joinW; simp [ByteArray.size]
                  have cJ : ∀ w1 : World, Below wr.heap.size wr w1 → Calls Tryd.prog 41 #[.slice (some ⟨bx, ox, none⟩) x.length c1, .string ⟨#[32]⟩] w1 fun e w' => e = .returned (.string (joinW x)) ∧ Below w1.heap.size w1 w' := by
                    intro w1 hb1
                    exact Tryd.strings_Join bx ox c1 x ⟨#[32]⟩ w1 (fun q y hq => (hb1.cell (p := ⟨bx, ox + q, none⟩) HBX.out).trans (HCELL.out q y hq)) (Nat.lt_of_lt_of_le HBX.out hb1.size) (by have := H64.out; omega) HCL.out (by show (Lib.join (x.map (·.data.toList)) [32]).length ≤ _; rw [← hts]; have := HZ.out; omega)
                  have CJ := Aside0.mk cJ
                  clear hw hg hz hjj hj hcells hbx hts cJ HX0
                  obtain ⟨t, ht⟩ : ∃ t, joinW x = t := ⟨_, rfl⟩
                  rw [ht] at CJ HZ HGN
                  clear ht
                  have hsum : (9223372036854775807 < t.size + 1) = False := eq_false (by have := HZ.out; omega)
                  have hsum2 : decide (t.size + 1 ≤ 9223372036854775807) = true := decide_eq_true (by have := HZ.out; omega)
                  have HHI := Aside0.mk hi
                  go_wp2_with fail
                  (with_reducible refine (CJ.out _ ?b1).mono ?_)
                  case b1 => repeat (first | exact Below.refl _ _ | apply pw_below_drewN | apply below_drew1)
                  rintro e w2 ⟨rfl, hb2⟩
                  have HB2 := Aside0.mk hb2
                  clear hb2
                  go_wp2_with fail
                  (with_reducible refine (H.put w.heap.size w.heap.size out (t ++ ⟨#[10]⟩) _ ?b2 ?b3 ?b4).mono ?_)
                  case b2 => exact H.sb_below (H.sb_below HS.out (by repeat (first | exact Below.refl _ _ | apply pw_below_drewN | apply below_drew1))) HB2.out
                  case b3 => have := HZ.out; rw [ByteArray.size_append]; have h10 : (⟨#[10]⟩ : ByteArray).size = 1 := rfl; omega
                  case b4 => have h1 := HB.out.size; have h2 := HB2.out.size; simp at h2; omega
                  rintro e w3 ⟨rfl, hs3, hb3⟩
                  have HS3 := Aside0.mk hs3
                  have HB3 : Aside0 (Below w.heap.size w w3) := ⟨by
                    refine Below.trans ?_ hb3
                    refine Below.trans HB.out (Below.mono ?_ HB.out.size)
                    refine Below.trans ?_ (Below.mono HB2.out (by simp))
                    repeat (first | exact Below.refl _ _ | apply pw_below_drewN | apply below_drew1)⟩
                  clear hs3 hb3
                  go_wp2
                  go_roundg k1
                  case measure => have := HK.out; omega
                  case rel => exact ⟨i + 1, _, (by first | go_num | (rw [int_succ i (by have := HHI.out; have := HMX.out; omega)])), ⟨by have := HK.out; omega⟩, ⟨by have := HHI.out; omega⟩, HGN, HS3, HB3⟩
      · have hd : l0.drop i = [] := List.drop_eq_nil_of_le (by omega)
        have hg := HG.out
        rw [hd] at hg
        obtain rfl := Option.some.inj hg
        have hi1 : decide ((i : Int) < (l0.length : Int)) = false := decide_eq_false (by omega)
        have hi2 : decide (i < l0.length) = false := decide_eq_false hi
        clear hd hg HG
        go_wp2_with (go_at_call 42; refine (H.got w.heap.size w.heap.size out _ HS.out (HB.out.size)).mono ?_; rintro e w2 ⟨rfl, hb2⟩)
        go_ret
        exact ⟨rfl, HB.out.trans hb2⟩
end Go.Proofs.YtnmbljpifadipaaDoor.X
