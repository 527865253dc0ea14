/-
  Walks: the reference of layer 7: Kind whole, size.
-/
import Derived.Test.YthpbioeilcfmlaaLexR2
namespace Go.Proofs.Ythpbioeilcfmlaa
open Go.RowKit Lx
/-- the first k bytes without the one at n -/
def skipAt (n : Nat) (l : Bytes) (k : Nat) : Bytes := if k ≤ n then l.take k else l.take n ++ (l.take k).drop (n + 1)
theorem skipAt_zero (n : Nat) (l : Bytes) : skipAt n l 0 = [] := by simp [skipAt]
theorem skipAt_step (n : Nat) (l : Bytes) (k : Nat) (h : k < l.length) (hk : k ≠ n) : skipAt n l (k + 1) = skipAt n l k ++ [l[k]] := by
  unfold skipAt
  by_cases h1 : k + 1 ≤ n
  · rw [if_pos h1, if_pos (by omega), List.take_succ_eq_append_getElem h]
  · rw [if_neg h1, if_neg (by omega), List.take_succ_eq_append_getElem h, List.drop_append, List.append_assoc]
    congr 2
    rw [show n + 1 - (l.take k).length = 0 from by rw [List.length_take]; omega]; rfl
theorem skipAt_same (n : Nat) (l : Bytes) (h : n < l.length) : skipAt n l (n + 1) = skipAt n l n := by
  unfold skipAt
  rw [if_neg (by omega), if_pos (Nat.le_refl _), List.drop_of_length_le (by rw [List.length_take]; omega)]; simp
theorem skipAt_end (n : Nat) (l : Bytes) (k : Nat) (h : l.length ≤ k) (hn : n < l.length) : skipAt n l k = l.take n ++ l.drop (n + 1) := by
  unfold skipAt
  rw [if_neg (by omega), List.take_of_length_le h]
theorem skipAt_len (n : Nat) (l : Bytes) (k : Nat) : (skipAt n l k).length ≤ k := by
  unfold skipAt; split
  · rw [List.length_take]; omega
  · rw [List.length_append, List.length_take, List.length_drop, List.length_take]; omega
theorem pow10_le {a b : Nat} (h : a ≤ b) : (10 : Int) ^ a ≤ 10 ^ b := by
  obtain ⟨d, rfl⟩ := Nat.exists_eq_add_of_le h
  rw [Int.pow_add]
  have h1 : (0 : Int) < 10 ^ d := Int.pow_pos (by omega)
  have h2 : (0 : Int) ≤ 10 ^ a := Int.le_of_lt (Int.pow_pos (by omega))
  have := Int.mul_le_mul_of_nonneg_left (by omega : (1 : Int) ≤ 10 ^ d) h2
  rwa [Int.mul_one] at this
theorem skipAt_dig (n : Nat) (s : ByteArray) (hd : ∀ i, (h : i < s.size) → i ≠ n → inR 48 57 s[i] = true) (k : Nat) : (skipAt n (bl s) k).all (inR 48 57) = true := by
  induction k with
  | zero => rw [skipAt_zero]; rfl
  | succ k ih =>
    by_cases hk : k < s.size
    · by_cases e : k = n
      · subst e; rw [skipAt_same _ _ (by rw [length_bl]; exact hk)]; exact ih
      · rw [skipAt_step _ _ _ (by rw [length_bl]; exact hk) e, List.all_append, ih]
        simp only [List.all_cons, List.all_nil, Bool.and_true, Bool.true_and]
        exact hd k hk e
    · have : skipAt n (bl s) (k + 1) = skipAt n (bl s) k := by
        unfold skipAt
        rw [List.take_of_length_le (i := k + 1) (by rw [length_bl]; omega), List.take_of_length_le (i := k) (by rw [length_bl]; omega)]
        by_cases h1 : k + 1 ≤ n
        · rw [if_pos h1, if_pos (by omega)]
        · rw [if_neg h1]
          by_cases h2 : k ≤ n
          · rw [if_pos h2, List.take_of_length_le (by rw [length_bl]; omega), List.drop_of_length_le (by rw [length_bl]; omega)]; simp
          · rw [if_neg h2]
      rw [this]; exact ih
set_option maxHeartbeats 1000000 in
theorem Kind_2d (s : ByteArray) (n : Nat) (w : World) (he : s.toList.isEmpty = false) (hlt : n < s.size) (H2 : Hid (inR 97 122 s[0] = false))
    (HN0 : Hid (runLen 48 57 ((bl s).drop (Int.toNat 0)) = n)) (HN1 : Hid (runLen 48 57 ((bl s).drop ((n : Int) + 1).toNat) = 2)) (h1 : 1 ≤ n) (h9 : n ≤ 9)
    (h3 : Hid (¬ (1 < n ∧ s[0] = 48))) (h4 : s[n] = 46) (h5 : s.size = n + 3) (HD : Hid (∀ i, (h : i < s.size) → i ≠ n → inR 48 57 s[i] = true)) (r : Int) (HR : Hid ((if 1000000000 < val ((bl s).take n ++ (bl s).drop (n + 1)) then 0 else 3) = r)) :
    Calls Try.prog 18 #[.string s] w fun e w' => e = .returned (.int .i64 r) ∧ w = w' := by
  have hb1 : ((s.size : Int) == 1) = false := by simp; omega
  have hb5 : ((n : Int) == (s.size : Int)) = false := by simp; omega
  have h7 : ((s[n].toNat : Int) != 46) = false := by rw [h4]; rfl
  have h8 : ((s.size : Int) != (n : Int) + 3) = false := by simp; omega
  have hs1 : s.size ≤ 12 := by omega
  have hs2 : n + 3 ≤ s.size := by omega
  clear h4 h5
  have h6 : ((s[0].toNat : Int) == 48) = false ∨ ¬ 1 < n := by
    by_cases hn : 1 < n
    · exact .inl (u8_bne s[0] 48 (by omega) (fun h => h3.out ⟨hn, h⟩))
    · exact .inr hn
  rcases h6 with h6 | h6
  all_goals
    go_enter Try.func18, Try.ntmps18
    go_wp2_with (first | (go_at_call 27; refine (letter_any _ _).mono ?_; rintro e w' ⟨rfl, rfl⟩; rw [H2.out]) | (go_at_call 28; refine (digits_int _ _ _ (by omega) (by omega) (by omega)).mono ?_; rintro e w' ⟨rfl, rfl⟩; first | rw [HN0.out] | rw [HN1.out]))
  all_goals
    go_loop [5, 6] (fun c i => ∃ k : Nat, k ≤ s.size ∧ i = .int .i64 k ∧ c = .int .i64 (val (skipAt n (bl s) k))) (fun _ i => s.size - (intOf i).toNat)
    case atStart => exact ⟨0, by omega, rfl, by rw [skipAt_zero]; rfl⟩
    case round =>
      obtain ⟨k, hk, rfl, rfl⟩ := hrel
      have hv := val_bd _ (skipAt_dig n s HD.out k)
      have hv3 := pow10_le (Nat.le_trans (skipAt_len n (bl s) k) (by omega : k ≤ 12))
      have hv2 : val (skipAt n (bl s) k) ≤ 1000000000000 := by omega
      have hv1 := hv.1
      clear hv hv3
      by_cases hl : k < s.size
      · by_cases e : k = n
        · have HV := Lib.hid (skipAt_same n (bl s) (by rw [length_bl]; exact hlt))
          have hb : ((k : Int) != (n : Int)) = false := by simp; omega
          have E := Lib.hid e
          clear e
          go_wp2
          go_round
          case rel => exact ⟨k + 1, by omega, by go_num, by rw [E.out, HV.out]⟩
          case measure => simp [intOf]; omega
        · have hin := HD.out k hl e
          simp only [inR, Bool.and_eq_true, decide_eq_true_eq] at hin
          obtain ⟨i1, i2⟩ := hin
          have hb : ((k : Int) != (n : Int)) = true := by rw [bne_iff_ne]; omega
          have HV := Lib.hid (skipAt_step n (bl s) k (by rw [length_bl]; exact hl) e)
          have HV2 := Lib.hid (val_snoc (skipAt n (bl s) k) s[k])
          go_wp2
          go_round
          case rel => exact ⟨k + 1, by omega, by go_num, by rw [HV.out, bl_get s k hl, HV2.out]⟩
          case measure => simp [intOf]; omega
      · have HV := Lib.hid (skipAt_end n (bl s) k (by rw [length_bl]; omega) (by rw [length_bl]; exact hlt))
        by_cases hbig : 1000000000 < val (skipAt n (bl s) k)
        · go_wp2
          go_ret
          exact ⟨ret_int (by rw [← HR.out, ← HV.out, if_pos hbig]), rfl⟩
        · go_wp2
          go_ret
          exact ⟨ret_int (by rw [← HR.out, ← HV.out, if_neg (by omega)]), rfl⟩
end Go.Proofs.Ythpbioeilcfmlaa
