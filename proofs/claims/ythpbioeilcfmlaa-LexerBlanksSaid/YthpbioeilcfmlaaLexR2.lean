/-
  Walks: the reference of layer 7: Kind, size.
-/
import Derived.Test.YthpbioeilcfmlaaLexR1
import Derived.Test.YthpbioeilcfmlaaLexW4
namespace Go.Proofs.Ythpbioeilcfmlaa
open Go.RowKit Lx
theorem headD_bl (s : ByteArray) (h : 0 < s.size) : (bl s).headD 0 = s[0] := by
  have := bl_get? s 0 h
  cases hb : bl s with
  | nil => rw [hb] at this; simp at this
  | cons c r => rw [hb] at this; simpa using this
theorem bl_ne (s : ByteArray) (h : 0 < s.size) : bl s ≠ [] := by
  intro e; have := length_bl s; rw [e] at this; simp at this; omega
set_option maxHeartbeats 400000 in
theorem Kind_1 (s : ByteArray) (w : World) (h0 : 0 < s.size) (hs : s.size ≤ 1000000000) (h1 : ¬ (s.size = 1 ∧ signs.contains s[0] = true)) (h2 : inR 97 122 s[0] = true) :
    Calls Try.prog 18 #[.string s] w fun e w' => e = .returned (.int .i64 (if (bl s).all (inR 97 122) = true then 1 else 0)) ∧ w = w' := by
  have he : s.toList.isEmpty = false := by rw [ByteArray.toList_eq]; have := bl_ne s h0; simpa [bl] using this
  have H2 := Lib.hid h2
  obtain ⟨r, hr⟩ : ∃ r : Int, (if (bl s).all (inR 97 122) = true then 1 else 0) = r := ⟨_, rfl⟩
  rw [hr]
  have HR := Lib.hid hr
  clear hr h2
  have key : ∀ b : Bool, b = ((s.size : Int) == 1) → Hid (b = true → signs.contains s[0] = false) := fun b hb h => by
    have : s.size = 1 := by rw [hb] at h; simp at h; omega
    cases hc : signs.contains s[0] with
    | false => rfl
    | true => exact absurd ⟨this, hc⟩ h1
  have key := key _ rfl
  clear h1
  cases hb1 : ((s.size : Int) == 1)
  all_goals
    rw [hb1] at key
    go_enter Try.func18, Try.ntmps18
    go_wp2_with (first | (go_at_call 26; refine (sign_any _ _).mono ?_; rintro e w' ⟨rfl, rfl⟩; rw [key.out rfl]) | (go_at_call 27; refine (letter_any _ _).mono ?_; rintro e w' ⟨rfl, rfl⟩; rw [H2.out]))
    go_loop [3] (fun i => ∃ k : Nat, k ≤ s.size ∧ i = .int .i64 k ∧ (∀ j, (hj : j < k) → (hk : k ≤ s.size) → inR 97 122 (s[j]'(by omega)) = true)) (fun i => s.size - (intOf i).toNat)
    case atStart => exact ⟨0, Nat.zero_le _, rfl, fun j hj => absurd hj (by omega)⟩
    case round =>
      obtain ⟨k, hk, rfl, hall⟩ := hrel
      have Hall := Lib.hid hall
      clear hall
      by_cases hlt : k < s.size
      · cases hc : inR 97 122 s[k] with
        | true =>
          have HC := Lib.hid hc
          clear hc
          go_wp2_with (go_at_call 27; refine (letter_any _ _).mono ?_; rintro e w' ⟨rfl, rfl⟩; rw [HC.out])
          go_round
          case rel => exact ⟨k + 1, by omega, by go_num, fun j hj hk' => by
              by_cases e : j = k
              · subst e; exact HC.out
              · exact Hall.out j (by omega) hk⟩
          case measure => simp [intOf]; omega
        | false =>
          have HC := Lib.hid hc
          clear hc
          go_wp2_with (go_at_call 27; refine (letter_any _ _).mono ?_; rintro e w' ⟨rfl, rfl⟩; rw [HC.out])
          go_ret
          refine ⟨ret_int ?_, rfl⟩
          rw [← HR.out, if_neg]
          have := HC.out
          intro h
          rw [List.all_eq_true] at h
          have := h s[k] (by rw [← bl_get s k hlt]; exact List.getElem_mem _)
          rw [HC.out] at this; cases this
      · go_wp2_with fail
        go_ret
        refine ⟨ret_int ?_, rfl⟩
        rw [← HR.out, if_pos]
        rw [List.all_eq_true]
        intro c hc
        obtain ⟨j, hj, rfl⟩ := List.getElem_of_mem hc
        rw [length_bl] at hj
        exact Hall.out j (by omega) hk
theorem digits_int (s : ByteArray) (a : Int) (w : World) (hs : s.size ≤ 1000000000) (h0 : 0 ≤ a) (ha : a ≤ s.size) :
    Calls Try.prog 28 #[.string s, .int .i64 a] w fun e w' => e = .returned (.int .i64 (runLen 48 57 ((bl s).drop a.toNat))) ∧ w = w' := by
  obtain ⟨n, rfl⟩ := Int.eq_ofNat_of_zero_le h0
  exact digits_any s n w hs (by omega)
theorem u8_beq (c : UInt8) (n : Nat) (hn : n < 256) (h : c = UInt8.ofNat n) : ((c.toNat : Int) == (n : Int)) = true := by subst h; simp; omega
theorem u8_bne (c : UInt8) (n : Nat) (hn : n < 256) (h : c ≠ UInt8.ofNat n) : ((c.toNat : Int) == (n : Int)) = false := by
  simp only [beq_eq_false_iff_ne, ne_eq]; intro h'; apply h; apply UInt8.toNat_inj.1; simp; omega
set_option maxHeartbeats 1000000 in
theorem Kind_2a (s : ByteArray) (n : Nat) (w : World) (h0 : 0 < s.size) (hs : s.size ≤ 1000000000) (he : s.toList.isEmpty = false) (b1 : Bool) (hb1 : ((s.size : Int) == 1) = b1) (key : Hid (b1 = true → signs.contains s[0] = false)) (H2 : Hid (inR 97 122 s[0] = false))
    (HN0 : Hid (runLen 48 57 ((bl s).drop (Int.toNat 0)) = n))
    (h3 : n < 1 ∨ 9 < n ∨ (1 < n ∧ s[0] = 48)) :
    Calls Try.prog 18 #[.string s] w fun e w' => e = .returned (.int .i64 0) ∧ w = w' := by
  have HN1 := HN0
  cases b1
  all_goals
    rcases h3 with h3 | h3 | ⟨h3, h4⟩
    · go_enter Try.func18, Try.ntmps18
      go_wp2_with (first | (go_at_call 26; refine (sign_any _ _).mono ?_; rintro e w' ⟨rfl, rfl⟩; rw [key.out rfl]) | (go_at_call 27; refine (letter_any _ _).mono ?_; rintro e w' ⟨rfl, rfl⟩; rw [H2.out]) | (go_at_call 28; refine (digits_int _ _ _ (by omega) (by omega) (by omega)).mono ?_; rintro e w' ⟨rfl, rfl⟩; first | rw [HN0.out] | rw [HN1.out]))
      go_ret
      exact ⟨rfl, rfl⟩
    · go_enter Try.func18, Try.ntmps18
      go_wp2_with (first | (go_at_call 26; refine (sign_any _ _).mono ?_; rintro e w' ⟨rfl, rfl⟩; rw [key.out rfl]) | (go_at_call 27; refine (letter_any _ _).mono ?_; rintro e w' ⟨rfl, rfl⟩; rw [H2.out]) | (go_at_call 28; refine (digits_int _ _ _ (by omega) (by omega) (by omega)).mono ?_; rintro e w' ⟨rfl, rfl⟩; first | rw [HN0.out] | rw [HN1.out]))
      go_ret
      exact ⟨rfl, rfl⟩
    · have h5 : ((s[0].toNat : Int) == 48) = true := u8_beq s[0] 48 (by omega) h4
      have H4 := Lib.hid h4
      clear h4
      by_cases h9 : 9 < n
      all_goals
        go_enter Try.func18, Try.ntmps18
        go_wp2_with (first | (go_at_call 26; refine (sign_any _ _).mono ?_; rintro e w' ⟨rfl, rfl⟩; rw [key.out rfl]) | (go_at_call 27; refine (letter_any _ _).mono ?_; rintro e w' ⟨rfl, rfl⟩; rw [H2.out]) | (go_at_call 28; refine (digits_int _ _ _ (by omega) (by omega) (by omega)).mono ?_; rintro e w' ⟨rfl, rfl⟩; first | rw [HN0.out] | rw [HN1.out]))
        go_ret
        exact ⟨rfl, rfl⟩
set_option maxHeartbeats 1000000 in
theorem Kind_2b (s : ByteArray) (n : Nat) (w : World) (h0 : 0 < s.size) (hs : s.size ≤ 1000000000) (he : s.toList.isEmpty = false) (b1 : Bool) (hb1 : ((s.size : Int) == 1) = b1) (key : Hid (b1 = true → signs.contains s[0] = false)) (H2 : Hid (inR 97 122 s[0] = false))
    (HN0 : Hid (runLen 48 57 ((bl s).drop (Int.toNat 0)) = n)) (h1 : 1 ≤ n) (h9 : n ≤ 9)
    (h3 : Hid (¬ (1 < n ∧ s[0] = 48))) (h4 : n = s.size) :
    Calls Try.prog 18 #[.string s] w fun e w' => e = .returned (.int .i64 2) ∧ w = w' := by
  have HN1 := HN0
  have h5 : ((n : Int) == (s.size : Int)) = true := by simp; omega
  have hle : n ≤ s.size := by omega
  clear h4
  by_cases hn : 1 < n
  · have h6 : ((s[0].toNat : Int) == 48) = false := u8_bne s[0] 48 (by omega) (fun h => h3.out ⟨hn, h⟩)
    cases b1
    all_goals
      go_enter Try.func18, Try.ntmps18
      go_wp2_with (first | (go_at_call 26; refine (sign_any _ _).mono ?_; rintro e w' ⟨rfl, rfl⟩; rw [key.out rfl]) | (go_at_call 27; refine (letter_any _ _).mono ?_; rintro e w' ⟨rfl, rfl⟩; rw [H2.out]) | (go_at_call 28; refine (digits_int _ _ _ (by omega) (by omega) (by omega)).mono ?_; rintro e w' ⟨rfl, rfl⟩; first | rw [HN0.out] | rw [HN1.out]))
      go_ret
      exact ⟨rfl, rfl⟩
  · cases b1
    all_goals
      go_enter Try.func18, Try.ntmps18
      go_wp2_with (first | (go_at_call 26; refine (sign_any _ _).mono ?_; rintro e w' ⟨rfl, rfl⟩; rw [key.out rfl]) | (go_at_call 27; refine (letter_any _ _).mono ?_; rintro e w' ⟨rfl, rfl⟩; rw [H2.out]) | (go_at_call 28; refine (digits_int _ _ _ (by omega) (by omega) (by omega)).mono ?_; rintro e w' ⟨rfl, rfl⟩; first | rw [HN0.out] | rw [HN1.out]))
      go_ret
      exact ⟨rfl, rfl⟩
set_option maxHeartbeats 1000000 in
theorem Kind_2c (s : ByteArray) (n m : Nat) (w : World) (hs : s.size ≤ 1000000000) (he : s.toList.isEmpty = false) (hlt : n < s.size) (H2 : Hid (inR 97 122 s[0] = false))
    (HN0 : Hid (runLen 48 57 ((bl s).drop (Int.toNat 0)) = n)) (HN1 : Hid (runLen 48 57 ((bl s).drop ((n : Int) + 1).toNat) = m)) (h1 : 1 ≤ n) (h9 : n ≤ 9)
    (h3 : Hid (¬ (1 < n ∧ s[0] = 48))) (h4 : s[n] ≠ 46 ∨ s.size ≠ n + 3 ∨ m ≠ 2) :
    Calls Try.prog 18 #[.string s] w fun e w' => e = .returned (.int .i64 0) ∧ w = w' := by
  have hb1 : ((s.size : Int) == 1) = false := by simp; omega
  have h5 : ((n : Int) == (s.size : Int)) = false := by simp; omega
  have h6 : ((s[0].toNat : Int) == 48) = false ∨ ¬ 1 < n := by
    by_cases hn : 1 < n
    · exact .inl (u8_bne s[0] 48 (by omega) (fun h => h3.out ⟨hn, h⟩))
    · exact .inr hn
  have h7 : ((s[n].toNat : Int) != 46) = true ∨ ((s[n].toNat : Int) != 46) = false ∧ (((s.size : Int) != (n : Int) + 3) = true ∨ (((s.size : Int) != (n : Int) + 3) = false ∧ ((m : Int) != 2) = true)) := by
    by_cases a : s[n] = 46
    · have a' : ((s[n].toNat : Int) != 46) = false := by rw [a]; rfl
      by_cases b : s.size = n + 3
      · have c : m ≠ 2 := by
          rcases h4 with h4 | h4 | h4
          · exact absurd a h4
          · exact absurd b h4
          · exact h4
        exact .inr ⟨a', .inr ⟨by simp; omega, by rw [bne_iff_ne]; omega⟩⟩
      · exact .inr ⟨a', .inl (by rw [bne_iff_ne]; omega)⟩
    · have hh : ((s[n].toNat : Int) == 46) = false := u8_bne s[n] 46 (by omega) a
      exact .inl (by rw [bne, hh]; rfl)
  clear h4
  rcases h6 with h6 | h6
  all_goals
    rcases h7 with h7 | ⟨h7, h8 | ⟨h8, h8'⟩⟩
    all_goals
      go_enter Try.func18, Try.ntmps18
      go_wp2_with (first | (go_at_call 27; refine (letter_any _ _).mono ?_; rintro e w' ⟨rfl, rfl⟩; rw [H2.out]) | (go_at_call 28; refine (digits_int _ _ _ (by omega) (by omega) (by omega)).mono ?_; rintro e w' ⟨rfl, rfl⟩; first | rw [HN0.out] | rw [HN1.out]))
      all_goals
        go_ret
        exact ⟨rfl, rfl⟩
end Go.Proofs.Ythpbioeilcfmlaa
