/-
  Walks: the reference of layer 7: Kind whole, size.
-/
import Derived.Test.YthpbioeilcfmlaaLexR3
namespace Go.Proofs.Ythpbioeilcfmlaa
open Go.RowKit Lx
theorem Kind_any (s : ByteArray) (w : World) (hs : s.size ≤ 1000000000) :
    Calls Try.prog 18 #[.string s] w fun e w' => e = .returned (.int .i64 (kindOf (bl s))) ∧ w = w' := by
  rw [← rKind_eq]
  by_cases h0 : s.size = 0
  · have hb : bl s = [] := List.length_eq_zero_iff.1 (by rw [length_bl]; exact h0)
    have he : s.toList.isEmpty = true := by rw [ByteArray.toList_eq]; show (bl s).isEmpty = true; rw [hb]; rfl
    rw [hb]
    show Calls Try.prog 18 #[.string s] w fun e w' => e = .returned (.int .i64 0) ∧ w = w'
    clear h0 hs hb
    go_enter Try.func18, Try.ntmps18
    go_wp2
    go_ret
    exact ⟨rfl, rfl⟩
  · have h0 : 0 < s.size := by omega
    have hne := bl_ne s h0
    have hh := headD_bl s h0
    rw [rKind, if_neg hne, hh, length_bl]
    have he : s.toList.isEmpty = false := by rw [ByteArray.toList_eq]; simpa [bl] using hne
    by_cases h1 : s.size = 1 ∧ signs.contains s[0] = true
    · rw [if_pos h1]
      have hb1 : ((s.size : Int) == 1) = true := by simp [h1.1]
      have H1 := Lib.hid h1.2
      clear hh h1 hne
      go_enter Try.func18, Try.ntmps18
      go_wp2_with (go_at_call 26; refine (sign_any _ _).mono ?_; rintro e w' ⟨rfl, rfl⟩; rw [H1.out])
      go_ret
      exact ⟨rfl, rfl⟩
    · rw [if_neg h1]
      by_cases h2 : inR 97 122 s[0] = true
      · rw [if_pos h2]
        exact Kind_1 s w h0 hs h1 h2
      · rw [if_neg h2]
        have H2 : Hid (inR 97 122 s[0] = false) := by show _ = false; simpa using h2
        have hle : runLen 48 57 (bl s) ≤ s.size := by have := runLen_le 48 57 (bl s); rwa [length_bl] at this
        generalize hn : runLen 48 57 (bl s) = n at *
        have HN0 : Hid (runLen 48 57 ((bl s).drop (Int.toNat 0)) = n) := hn
        have key : Hid (((s.size : Int) == 1) = true → signs.contains s[0] = false) := fun h => by
          have : s.size = 1 := by simp at h; omega
          cases hc : signs.contains s[0] with
          | false => rfl
          | true => exact absurd ⟨this, hc⟩ h1
        by_cases h3 : n < 1 ∨ 9 < n ∨ (1 < n ∧ s[0] = 48)
        · rw [if_pos h3]
          exact Kind_2a s n w h0 hs he _ rfl key H2 HN0 h3
        · rw [if_neg h3]
          have h3' : ¬ (1 < n ∧ s[0] = 48) := fun h => h3 (.inr (.inr h))
          by_cases h4 : n = s.size
          · rw [if_pos h4]
            exact Kind_2b s n w h0 hs he _ rfl key H2 HN0 (by omega) (by omega) h3' h4
          · rw [if_neg h4]
            have hlt : n < s.size := by omega
            have HN1 : Hid (runLen 48 57 ((bl s).drop ((n : Int) + 1).toNat) = runLen 48 57 ((bl s).drop (n + 1))) := by
              rw [show ((n : Int) + 1).toNat = n + 1 from by omega]; exact rfl
            rw [bl_get? s n hlt]
            by_cases h5 : some s[n] ≠ some 46 ∨ s.size ≠ n + 3 ∨ runLen 48 57 ((bl s).drop (n + 1)) ≠ 2
            · rw [if_pos h5]
              exact Kind_2c s n _ w hs he hlt H2 HN0 HN1 (by omega) (by omega) h3' (by simpa using h5)
            · rw [if_neg h5]
              simp only [ne_eq, not_or, Decidable.not_not, Option.some.injEq] at h5
              obtain ⟨a, b, d⟩ := h5
              rw [d] at HN1
              refine Kind_2d s n w he hlt H2 HN0 HN1 (by omega) (by omega) h3' a b ?_ _ rfl
              intro i hi hne
              by_cases h6 : i < n
              · have := take_runLen 48 57 (bl s)
                rw [hn, List.all_eq_true] at this
                refine this _ ?_
                rw [← bl_get s i hi, ← List.getElem_take (j := n) (h := by rw [List.length_take, length_bl]; omega)]
                exact List.getElem_mem _
              · have := take_runLen 48 57 ((bl s).drop (n + 1))
                rw [d, List.all_eq_true] at this
                refine this _ ?_
                obtain ⟨j, rfl⟩ : ∃ j, i = n + 1 + j := ⟨i - (n + 1), by omega⟩
                rw [List.take_of_length_le (by rw [List.length_drop, length_bl]; omega), ← bl_get s _ hi, ← List.getElem_drop (h := by rw [List.length_drop, length_bl]; omega)]
                exact List.getElem_mem _
set_option maxHeartbeats 400000 in
theorem size_nat (s : ByteArray) (a : Nat) (w : World) (hs : s.size ≤ 1000000000) (ha : a < s.size) :
    Calls Try.prog 21 #[.string s, .int .i64 a] w fun e w' => e = .returned (.int .i64 (tlen ((bl s).drop a))) ∧ w = w' := by
  have hlen : ((bl s).drop a).length = s.size - a := by rw [List.length_drop, length_bl]
  have g2 := runLen_le 48 57 ((bl s).drop a)
  rw [hlen] at g2
  clear hlen
  cases hl : inR 97 122 s[a] with
  | true =>
    have hpos : 0 < runLen 97 122 ((bl s).drop a) := by
      rw [List.drop_eq_getElem_cons (by rw [length_bl]; exact ha), bl_get s a ha, runLen_cons_yes _ _ _ _ hl]; omega
    rw [tlen_1 hpos]
    have HL := Lib.hid hl
    clear hl hpos g2
    go_enter Try.func21, Try.ntmps21
    go_wp2_with (go_at_call 27; refine (letter_any _ _).mono ?_; rintro e w' ⟨rfl, rfl⟩; rw [HL.out])
    go_loop [5] (fun i => ∃ k : Nat, a + k ≤ s.size ∧ i = .int .i64 k ∧ (∀ j, (hj : j < k) → (hk : a + k ≤ s.size) → inR 97 122 (s[a + j]'(by omega)) = true)) (fun i => s.size - (intOf i).toNat)
    case atStart => exact ⟨0, by omega, rfl, fun j hj => absurd hj (by omega)⟩
    case round =>
      obtain ⟨k, hk, rfl, hall⟩ := hrel
      have Hall := Lib.hid hall
      clear hall
      by_cases hlt : a + k < s.size
      · cases hc : inR 97 122 s[a + k] with
        | true =>
          have HC := Lib.hid hc
          clear hc
          go_wp2_with (go_at_call 27; refine (letter_any _ _).mono ?_; rintro e w' ⟨rfl, rfl⟩; rw [HC.out])
          go_round
          case rel => exact ⟨k + 1, by omega, by go_num, fun j hj hk' => by
              by_cases e : j = k
              · subst e; exact HC.out
              · exact Hall.out j (by omega) hk⟩
          case measure => simp [intOf]; omega
        | false =>
          have HC := Lib.hid hc
          clear hc
          go_wp2_with (go_at_call 27; refine (letter_any _ _).mono ?_; rintro e w' ⟨rfl, rfl⟩; rw [HC.out])
          go_ret
          exact ⟨ret_int (by rw [run_stop2 97 122 s a k hk (fun j hj => Hall.out j hj hk) (fun _ => HC.out)]), rfl⟩
      · go_wp2_with fail
        go_ret
        exact ⟨ret_int (by rw [run_stop2 97 122 s a k hk (fun j hj => Hall.out j hj hk) (fun h => absurd h hlt)]), rfl⟩
  | false =>
    have hz : runLen 97 122 ((bl s).drop a) = 0 := by
      rw [List.drop_eq_getElem_cons (by rw [length_bl]; exact ha), bl_get s a ha, runLen_cons_no _ _ _ _ hl]
    have HL := Lib.hid hl
    clear hl
    by_cases h1 : runLen 48 57 ((bl s).drop a) = 0
    · rw [tlen_2 hz h1]
      have HN0 := Lib.hid (show runLen 48 57 ((bl s).drop (Int.toNat (a : Int))) = 0 from h1)
      have HN1 := HN0
      clear hz h1 g2
      go_enter Try.func21, Try.ntmps21
      go_wp2_with (first | (go_at_call 27; refine (letter_any _ _).mono ?_; rintro e w' ⟨rfl, rfl⟩; rw [HL.out]) | (go_at_call 28; refine (digits_int _ _ _ (by omega) (by omega) (by omega)).mono ?_; rintro e w' ⟨rfl, rfl⟩; first | rw [HN0.out] | rw [HN1.out]))
      go_ret
      exact ⟨rfl, rfl⟩
    · generalize hn : runLen 48 57 ((bl s).drop a) = n at *
      have HN0 := Lib.hid (show runLen 48 57 ((bl s).drop (Int.toNat (a : Int))) = n from hn)
      have hb : ((n : Int) == 0) = false := by simp; omega
      by_cases h2 : a + n < s.size
      · by_cases h3 : s[a + n] = 46
        · have hb3 : ((s[a + n].toNat : Int) == 46) = true := by rw [h3]; rfl
          have e1 : tlen ((bl s).drop a) = n + 1 + runLen 48 57 ((bl s).drop (a + n + 1)) := by
            rw [tlen_3 hz (by rw [hn]; exact h1) (by rw [hn, bl_drop_get s a n h2, h3]), hn, List.drop_drop]
            rw [Nat.add_assoc a n 1]
          have g3 := runLen_le 48 57 ((bl s).drop (a + n + 1))
          rw [List.length_drop, length_bl] at g3
          rw [e1]
          generalize hm : runLen 48 57 ((bl s).drop (a + n + 1)) = m at *
          have HN1 := Lib.hid (show runLen 48 57 ((bl s).drop ((a : Int) + (n : Int) + 1).toNat) = m from by rw [show ((a : Int) + (n : Int) + 1).toNat = a + n + 1 from by omega]; exact hm)
          clear h3 hz hm e1 hn
          go_enter Try.func21, Try.ntmps21
          go_wp2_with (first | (go_at_call 27; refine (letter_any _ _).mono ?_; rintro e w' ⟨rfl, rfl⟩; rw [HL.out]) | (go_at_call 28; refine (digits_int _ _ _ (by omega) (by omega) (by omega)).mono ?_; rintro e w' ⟨rfl, rfl⟩; first | rw [HN0.out] | rw [HN1.out]))
          go_ret
          exact ⟨ret_int (by omega), rfl⟩
        · have hb3 : ((s[a + n].toNat : Int) == 46) = false := u8_bne s[a + n] 46 (by omega) h3
          rw [tlen_4 hz (by rw [hn]; exact h1) (by rw [hn, bl_drop_get s a n h2]; simpa using h3), hn]
          have HN1 := HN0
          clear h3 hz hn
          go_enter Try.func21, Try.ntmps21
          go_wp2_with (first | (go_at_call 27; refine (letter_any _ _).mono ?_; rintro e w' ⟨rfl, rfl⟩; rw [HL.out]) | (go_at_call 28; refine (digits_int _ _ _ (by omega) (by omega) (by omega)).mono ?_; rintro e w' ⟨rfl, rfl⟩; first | rw [HN0.out] | rw [HN1.out]))
          go_ret
          exact ⟨rfl, rfl⟩
      · rw [tlen_4 hz (by rw [hn]; exact h1) (by rw [hn, List.getElem?_eq_none (by rw [List.length_drop, length_bl]; omega)]; simp), hn]
        have HN1 := HN0
        clear hz hn
        go_enter Try.func21, Try.ntmps21
        go_wp2_with (first | (go_at_call 27; refine (letter_any _ _).mono ?_; rintro e w' ⟨rfl, rfl⟩; rw [HL.out]) | (go_at_call 28; refine (digits_int _ _ _ (by omega) (by omega) (by omega)).mono ?_; rintro e w' ⟨rfl, rfl⟩; first | rw [HN0.out] | rw [HN1.out]))
        go_ret
        exact ⟨rfl, rfl⟩
end Go.Proofs.Ythpbioeilcfmlaa
