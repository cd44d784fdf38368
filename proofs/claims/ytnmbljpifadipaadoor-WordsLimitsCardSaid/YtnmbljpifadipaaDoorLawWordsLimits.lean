/- Written by a program of this claim. Proved: each Go function named below, called with any arguments at which its Lean function answers, returns that answer; or, of a law, its given statement. -/
import Derived.Test.YtnmbljpifadipaaDoorRows
import Derived.Test.YtnmbljpifadipaaDoorX16
import Derived.Test.YtnmbljpifadipaaDoorPureWordsLimits
import Derived.Test.YtnmbljpifadipaaDoorOpen
import Derived.WalkKit
import Derived.ProofKit
import Derived.OpenShut
import Derived.ShutString
import Derived.ChangeOld
import Derived.Below
import Derived.SizedLaws
import Derived.Test.YtnmbljpifadipaaDoorQLaidRow
import Derived.Test.YtnmbljpifadipaaDoorTie
import Derived.Test.YtnmbljpifadipaaDoorCards
import Derived.SevenTiedAt
namespace Go.Proofs.YtnmbljpifadipaaDoor.wordsLimits
open Go.ChangeShapes Go.WideShapes Go.ChangeAt Go.RowKit Go.Proofs.YtnmbljpifadipaaDoorW Go.Proofs.YtnmbljpifadipaaDoor.X Go.Proofs.YtnmbljpifadipaaDoorW.PrintWords Go.Proofs.YtnmbljpifadipaaDoorW.PrintLast
open Go.ChangeMaps (open_string shut_string)
set_option linter.unusedVariables false
theorem own : ownKnob Tryd.prog.godebug = none := by kernel_rfl
theorem laidOut : laidOutB Tryd.prog = true := by kernel_rfl
theorem witness_row (os : Os) {H : Type} (enc : TypeId × Value → H) :
    (OpenSpec.ofChange Rows.wordsLimitsSpec).preRow enc Tryd.prog Tryd.f7 Rows.wordsLimitsRow.domain false Rows.wordsLimitsRow.laid ((X.laidWorld os).forCall (fun _ _ => 0) ⟨#[], #[.int .i64 0, .int .u8 0, .string ByteArray.empty], []⟩).memory #[.int .i64 0, .int .u8 0, .string ByteArray.empty] := by
  have hw : (DataW.whole enc Tryd.prog ((X.laidWorld os).forCall (fun _ _ => 0) ⟨#[], #[.int .i64 0, .int .u8 0, .string ByteArray.empty], []⟩).memory Tryd.f7.params.toList (OpenSpec.ofChange Rows.wordsLimitsSpec).vars false (#[.int .i64 0, .int .u8 0, .string ByteArray.empty] : Array Value).toList 8).map (fun x => (x.1, x.2.1)) =
      some ([.lit (.int .i64 0), .lit (.int .u8 0), .lit (.string [])], []) := by kernel_rfl
  obtain ⟨⟨x1, x2, x3⟩, hx, hx1⟩ := Option.map_eq_some_iff.1 hw
  simp only [Prod.mk.injEq] at hx1
  obtain ⟨rfl, rfl⟩ := hx1
  exact OpenSpec.preRow_of_cond 8 hx (by kernel_rfl) (fun k hk => by cases hk) (by kernel_rfl) (X.laid_met os _)
set_option maxRecDepth 100000 in
theorem lifted (os : Os) (started : os.Started) (H : Type) (enc : TypeId × Value → H) (F : Stop.Interp) :
    ReturnsInHanded {} Tryd.checked os 7 .any ((OpenSpec.ofChange Rows.wordsLimitsSpec).preRow enc Tryd.prog Tryd.f7 Rows.wordsLimitsRow.domain false Rows.wordsLimitsRow.laid) (((OpenSpec.ofChange Rows.wordsLimitsSpec).at F).post enc Tryd.prog Tryd.f7 false true false false) := by
  refine returnsInHanded_of_row (C := Tryd.checked) (s := (OpenSpec.ofChange Rows.wordsLimitsSpec)) own started (by kernel_rfl) Tryd.func7
    (witness_row_at (enc := enc) (C := Tryd.checked) false (X.laidWorld os) #[.int .i64 0, .int .u8 0, .string ByteArray.empty] rfl (by kernel_rfl) (by kernel_rfl) (by kernel_rfl) (witness_row os enc)) ?_
  intro W base args ds gs before hval0 hW hcnd hcond0 hsz0 hL hsh _
  have hLaid := X.laid_of hL hsh
  have hsz : (DataW.weightsEach Tryd.prog (Tryd.f7.params.toList ++ Rows.wordsLimitsSpec.plain.varTypes Tryd.prog) (ds ++ gs)).all (· ≤ reachBytes) = true := hsz0
  have hval : ∀ (j : Nat) t v, Tryd.f7.params[j]? = some t → args[j]? = some v → Value.okWide Tryd.prog W .any base t v := hval0
  have hW' := hW
  obtain ⟨p, q, hA0, hV, rfl, hfz, hnd⟩ := hW
  have hA : DataW.TrodAll enc Tryd.prog W 0 (fun _ => true) true Tryd.f7.params.toList args.toList ds p := hA0
  rw [Tryd.params7] at hA hval hsz
  obtain ⟨v0, vs0, d0, ds0, p0, q0, hargs, rfl, rfl, h0, r0⟩ := trodAll_cons hA
  obtain ⟨v1, vs1, d1, ds1, p1, q1, rfl, rfl, rfl, h1, r1⟩ := trodAll_cons r0
  obtain ⟨v2, vs2, d2, ds2, p2, q2, rfl, rfl, rfl, h2, r2⟩ := trodAll_cons r1
  obtain ⟨rfl, rfl, rfl⟩ := trodAll_nil r2
  obtain rfl : args = #[v0, v1, v2] := by cases args; simp_all
  obtain ⟨rfl, rfl⟩ := trodVars_none hV
  have k0 := h0
  have lt0 : ∀ x ∈ p0, x.block < W.heap.size := by obtain ⟨m, hm⟩ := k0; exact DataW.trod_lt m _ _ _ hm
  obtain ⟨x0, K0, b0⟩ := Open.opn_arg (d := (Kd.int .i64)) (B := (fun x : Int => (Lit.int .i64 x).wf = true)) (Open.opn_int Tryd.underlying3) h0 (fun n hn => by simpa using List.all_eq_true.1 hsz _ (DataW.weights_mem_each (j := 0) rfl rfl n hn))
  obtain ⟨n0, rfl⟩ := okWide_int Tryd.underlying3 (hval 0 3 v0 rfl rfl)
  have e0 := (show [Value.int .i64 n0] = [Value.int .i64 x0] from K0)
  obtain rfl : n0 = x0 := (Value.int.inj (List.cons.inj e0).1).2
  have k1 := h1
  have lt1 : ∀ x ∈ p1, x.block < W.heap.size := by obtain ⟨m, hm⟩ := k1; exact DataW.trod_lt m _ _ _ hm
  obtain ⟨x1, K1, b1⟩ := Open.opn_arg (d := (Kd.int .u8)) (B := (fun x : Int => (Lit.int .u8 x).wf = true)) (Open.opn_int Tryd.underlying5) h1 (fun n hn => by simpa using List.all_eq_true.1 hsz _ (DataW.weights_mem_each (j := 1) rfl rfl n hn))
  obtain ⟨n1, rfl⟩ := okWide_int Tryd.underlying5 (hval 1 5 v1 rfl rfl)
  have e1 := (show [Value.int .u8 n1] = [Value.int .u8 x1] from K1)
  obtain rfl : n1 = x1 := (Value.int.inj (List.cons.inj e1).1).2
  have k2 := h2
  have lt2 : ∀ x ∈ p2, x.block < W.heap.size := by obtain ⟨m, hm⟩ := k2; exact DataW.trod_lt m _ _ _ hm
  obtain ⟨x2, K2, b2⟩ := Open.opn_arg (d := Kd.string) (B := (fun x : ByteArray => x.size ≤ 140737488351232)) (Open.opn_string Tryd.underlying9) h2 (fun n hn => by simpa using List.all_eq_true.1 hsz _ (DataW.weights_mem_each (j := 2) rfl rfl n hn))
  obtain ⟨n2, rfl⟩ := okWide_string Tryd.underlying9 (hval 2 9 v2 rfl rfl)
  have e2 := (show [Value.string n2] = [Value.string x2] from K2)
  obtain rfl : n2 = x2 := Value.string.inj (List.cons.inj e2).1
  clear hA0 hval0 hsz0 hsz
  obtain ⟨k, h⟩ := Pure.WordsLimits n0 n1 n2 b0 b1 b2
  refine (X.railplanlaw3_WordsLimits.calls k n0 n1 n2 true W ⟨hLaid⟩ ⟨rfl⟩ h).mono fun e W' he => ?_
  obtain ⟨he, bel0⟩ := he
  have bel : Below W.heap.size W W' := bel0
  subst he
  exact ⟨_, rfl, _, _, _, [], _, [], hW', trodAll_mk1 (shut_bool Tryd.underlying4 _), (trodAll_cons_mk (Below.trod laidOut (by kernel_rfl) (of_decide_eq_true (by kernel_rfl)) k0 bel lt0) (trodAll_cons_mk (Below.trod laidOut (by kernel_rfl) (of_decide_eq_true (by kernel_rfl)) k1 bel lt1) (trodAll_cons_mk (Below.trod laidOut (by kernel_rfl) (of_decide_eq_true (by kernel_rfl)) k2 bel lt2) trodAll_mk0))), rfl, bel.frame _, fun h => by cases h⟩
theorem over : Rows.wordsLimitsRow.holds Tryd.pinned (OpenSpec.ofChange Rows.wordsLimitsSpec) :=
  OpenClaim.holds_of_cond 7 Tryd.f7 rfl rfl rfl rfl rfl rfl rfl ⟨rfl, rfl, rfl, rfl, rfl⟩ rfl rfl rfl rfl rfl (by kernel_rfl) Tryd.func7 (by kernel_rfl)
    (of_decide_eq_true (by kernel_rfl)) (by unfold Func.isWrapper; first | (rw [if_pos (by decide +kernel)]; kernel_rfl) | (rw [if_neg (by decide +kernel)]; exact ⟨rfl, rfl⟩))
    (fun os started H enc _ F0 => by rw [OpenClaim.pre_eq_preRow]; exact lifted os started H enc F0)
theorem proved : Rows.WordsLimitsSaid := over
#print axioms proved
end Go.Proofs.YtnmbljpifadipaaDoor.wordsLimits
namespace Go.Proofs.YtnmbljpifadipaaDoor
/-- The row, under a short name, for the claim. -/
theorem wordsLimits_holds : Rows.WordsLimitsSaid := wordsLimits.proved
theorem wordsLimits_card : Rows.WordsLimitsCardSaid :=
  Claim7.holds_tied_plain_at .later [] [.data, .data, .data, .data, .sentinel, .sentinel, .pinned] true (true, "6eb957dfa804dcfb5da465436a3f337743a8be2025f45a78736720700ee43b38") true
    wordsLimits_holds (fun _ h => by cases h) (by kernel_rfl) (fun _ h => by cases h) wordsLimits_row_tie rfl ⟨rfl, rfl⟩ (by kernel_rfl) rfl
    (fun f fn hf hfn => by
      obtain rfl : f = 7 := Option.some.inj ((show Tryd.prog.funcNamed "railplan/railplanlaw3.WordsLimits" = some 7 by kernel_rfl).symm.trans hf) |>.symm
      obtain rfl : fn = Tryd.f7 := (Option.some.inj (Tryd.func7.symm.trans hfn)).symm
      exact ⟨by kernel_rfl, fun j t ht => by
        rw [Tryd.params7] at ht
        have h3 : t = 3 ∨ t = 5 ∨ t = 9 := by
          rcases j with _ | _ | _ | j
          · exact .inl (by simpa using ht.symm)
          · exact .inr (.inl (by simpa using ht.symm))
          · exact .inr (.inr ((by simpa using ht.symm)))
          · simp at ht
        rcases h3 with rfl | rfl | rfl
        · exact (show Tryd.prog.wantsStandIn 3 = false by kernel_rfl)
        · exact (show Tryd.prog.wantsStandIn 5 = false by kernel_rfl)
        · exact (show Tryd.prog.wantsStandIn 9 = false by kernel_rfl)⟩)
    (by kernel_rfl)
#print axioms wordsLimits_card
end Go.Proofs.YtnmbljpifadipaaDoor
