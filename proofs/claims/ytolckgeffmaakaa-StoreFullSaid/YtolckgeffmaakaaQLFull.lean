/- The plain law of the store: no more than 64 versions. -/
import Derived.Test.YtolckgeffmaakaaQBase
import Derived.Test.YtolckgeffmaakaaQStore1
import Derived.Test.YtolckgeffmaakaaQStore2
import Derived.Test.YtolckgeffmaakaaQStore3
import Derived.Test.YtolckgeffmaakaaQStore4
import Derived.Test.YtolckgeffmaakaaQStoreComp
import Derived.Test.YtolckgeffmaakaaX0
import Derived.Test.YtolckgeffmaakaaX5
import Derived.Test.YtolckgeffmaakaaX21
import Derived.Test.YtolckgeffmaakaaQCompact
namespace Go.Proofs.Ytolckgeffmaakaa.Q
open Go.RowKit Go.Proofs.YtolckgeffmaakaaW.PrintWords Go.Proofs.YtolckgeffmaakaaW.PrintLast Go.Proofs.YtolckgeffmaakaaW.PrintMore Go.Proofs.Ytolckgeffmaakaa.X

/-- The versions 1 to n, without text. -/
def nums : Nat → List S23
  | 0 => []
  | n + 1 => nums n ++ [⟨((n + 1 : Nat) : Int), ⟨#[]⟩⟩]
theorem nums_len (n : Nat) : (nums n).length = n := by
  induction n with
  | zero => rfl
  | succ n ih => show (nums n ++ [_]).length = n + 1; rw [List.length_append, ih]; rfl
theorem nums_ok (n : Nat) : okN (nums n) (((n + 1 : Nat) : Int)) = true := by
  cases n with
  | zero => rfl
  | succ n => unfold okN; apply decide_eq_true; right; have h := lastN_snoc (nums n) ⟨((n + 1 : Nat) : Int), ⟨#[]⟩⟩; show lastN (nums n ++ [_]) < _; rw [h]; show ((n + 1 : Nat) : Int) < _; omega
theorem nums_good (n : Nat) (h : n ≤ 1000) : good (nums n) := by
  induction n with
  | zero => exact good_nil
  | succ n ih => exact good_snoc.2 ⟨ih (by omega), ⟨by show 1 ≤ ((n + 1 : Nat) : Int); omega, by show ((n + 1 : Nat) : Int) ≤ _; omega, by show 0 ≤ 65536; omega⟩, nums_ok n⟩
theorem nums_size (n : Nat) : (cat (nums n)).size = 16 * n := by
  induction n with
  | zero => rfl
  | succ n ih => show (cat (nums n ++ [_])).size = _; rw [cat_append, ByteArray.size_append, ih]; show 16 * n + (rec _ _ ++ ⟨#[]⟩).size = _; rw [app_empty, rec_size]; show 16 * n + (16 + 0) = _; omega
theorem nums_add (a b : Nat) : ∃ t, cat (nums (a + b)) = cat (nums a) ++ t := by
  induction b with
  | zero => exact ⟨⟨#[]⟩, (app_empty _).symm⟩
  | succ b ih =>
    obtain ⟨t, ht⟩ := ih
    refine ⟨t ++ cat [⟨((a + b + 1 : Nat) : Int), ⟨#[]⟩⟩], ?_⟩
    show cat (nums (a + b) ++ [_]) = _
    rw [cat_append, ht, app_assoc]; rfl
theorem full_end (q : Nat) (hq : q ≤ 2) : Ev (fun k => (store_Scan.f k (cat (nums (64 + q)))).bind fun bt403 => ((store_Append.f k (cat (nums (64 + q))) (wrap64 (((64 + q : Nat) : Int) + 1)) (⟨#[]⟩ : ByteArray)).bind fun bt407 => ((store_Compact.f k (cat (nums (64 + q))) 1).bind fun bt409 => ((store_Latest.f k bt409.1).bind fun bt411 => ((railplanlaw41_awake.f k).bind fun t415 => (if t415 = true then (if (bt403.1.length : Int) = 64 then (if bt403.2 = 1024 then (if bt407.2 = 7 then (if bt409.2 = 0 then (if bt411.2.2 = 0 then (some (bt411.1 == 64 && (bt411.2.1.toList == ([] : List UInt8)))) else (some false)) else (some false)) else (some false)) else (some false)) else (some false)) else (some false))))))) true := by
  have hz := nums_size (64 + q)
  have hz0 : (⟨#[]⟩ : ByteArray).size ≤ 4611686018427387000 := by show 0 ≤ _; omega
  obtain ⟨t, ht⟩ := nums_add 64 q
  have hs := scan_cat (nums 64) t (nums_good 64 (by omega)) (by rw [nums_len]; omega) (.inl (nums_len 64))
  rw [← ht, nums_size] at hs
  have hl : (nums 64).length = 64 := nums_len 64
  have s1 := scan_ev (cat (nums (64 + q))) (by omega)
  rw [hs] at s1
  rw [w64 (by omega) (by omega)]
  have hap : app (cat (nums (64 + q))) (((64 + q : Nat) : Int) + 1) ⟨#[]⟩ = (⟨#[]⟩, 7) := by
    have he : ¬ (enc (((64 + q : Nat) : Int) + 1) ⟨#[]⟩).2 ≠ 0 := by
      rw [enc_good (by omega) (by show ¬ 0 > 65536; omega)]; simp
    refine app_full he ?_ (.inl (by rw [hs]; exact hl))
    rw [hs]; show ¬ okN (nums 64) _ = false
    have : okN (nums 64) (((64 + q : Nat) : Int) + 1) = true := by
      rw [okN_iff (nums_good 64 (by omega)).2]
      intro x hx
      have := (okN_iff (nums_good 64 (by omega)).2 _).1 (nums_ok 64) x hx
      omega
    rw [this]; decide
  have s2 := append_ev (cat (nums (64 + q))) (((64 + q : Nat) : Int) + 1) ⟨#[]⟩ (by omega) hz0
  rw [hap] at s2
  have s3 := compact_ev (cat (nums (64 + q))) 1 (by omega)
  have hd : (nums 64).drop ((nums 64).length - (1 : Int).toNat) = [⟨64, ⟨#[]⟩⟩] := by
    rw [hl]; show (nums 63 ++ [_]).drop 63 = _
    rw [List.drop_append_of_le_length (by rw [nums_len]; omega), List.drop_of_length_le (by rw [nums_len]; omega)]; rfl
  rw [comp_good (by omega), hs] at s3
  dsimp only at s3
  rw [hd] at s3
  have g1 : good [⟨64, ⟨#[]⟩⟩] := ⟨by intro x hx; rw [List.mem_singleton.1 hx]; exact ⟨by decide, by decide, by decide⟩, by simp⟩
  have c1 : (cat [⟨64, ⟨#[]⟩⟩]).size ≤ 16 * 1 := cat_size 0 _ (by intro x hx; rw [List.mem_singleton.1 hx]; decide)
  have s4 := latest_ev (cat [⟨64, ⟨#[]⟩⟩]) (Nat.le_trans c1 (by decide))
  rw [scan_cat0 _ g1 (by decide)] at s4
  refine ev2 s1 (ev2 s2 (ev2 s3 (ev2 s4 (ev2 awake_ev (evp rfl (evp (by rw [hl]; rfl) (evp rfl (evp rfl (evp rfl (evp rfl (evs ?_)))))))))))
  have : (⟨#[]⟩ : ByteArray).toList = [] := by rw [ba_toList]
  show ((64 : Int) == 64 && ((⟨#[]⟩ : ByteArray).toList == [])) = true
  rw [this]; rfl
theorem full_l0 (q : Nat) (hq : q ≤ 2) (d : Nat) : ∀ i : Nat, i + d = 64 + q → Ev (fun k => railplanlaw41_StoreFull.l0 k (cat (nums i)) ((64 + q : Nat) : Int) ((i + 1 : Nat) : Int)) true := by
  induction d with
  | zero =>
    intro i hi
    have : i = 64 + q := by omega
    subst this
    refine Ev.step (fun k => by simp only [railplanlaw41_StoreFull.l0]; rw [if_neg (by omega)]) (full_end q hq)
  | succ d ih =>
    intro i hi
    have hz := nums_size i
    have he := refEncode_ev (((i + 1 : Nat) : Int)) ⟨#[]⟩ (by show 0 ≤ _; omega)
    rw [enc_good (by omega) (by show ¬ 0 > 65536; omega)] at he
    have hr : (rec (((i + 1 : Nat) : Int)) ⟨#[]⟩).size = 16 := rec_size _ _
    refine Ev.step (fun k => by simp only [railplanlaw41_StoreFull.l0]; rw [if_pos (by omega)]) ?_
    refine ev2 he (evp (by dsimp only; omega) ?_)
    rw [w64 (by omega) (by omega)]
    have := ih (i + 1) (by omega)
    have hc : cat (nums (i + 1)) = cat (nums i) ++ rec (((i + 1 : Nat) : Int)) ⟨#[]⟩ := by
      show cat (nums i ++ [(⟨((i + 1 : Nat) : Int), ⟨#[]⟩⟩ : S23)]) = _; rw [cat_append]; show cat (nums i) ++ (rec (((i + 1 : Nat) : Int)) ⟨#[]⟩ ++ ⟨#[]⟩) = _; rw [app_empty]
    rw [hc] at this
    rw [show (((i + 1 : Nat) : Int) + 1) = ((i + 1 + 1 : Nat) : Int) from by omega]
    exact this
theorem full_law (a0 : Int) : Ev (fun k => railplanlaw41_StoreFull.f k a0) true := by
  unfold railplanlaw41_StoreFull.f
  obtain ⟨q, hq, q0, q1⟩ := pick_ev a0 3 (by omega) (by omega)
  refine ev1 hq ?_
  obtain ⟨j, rfl⟩ := Int.eq_ofNat_of_zero_le q0
  rw [w64 (by omega) (by omega), show (64 + (j : Int)) = ((64 + j : Nat) : Int) from by omega]
  exact full_l0 j (by omega) (64 + j) 0 (by omega)
end Go.Proofs.Ytolckgeffmaakaa.Q
