/-
  Several texts in one: LexR1, LexR2, LexR3, LexR4, LexR5.
-/
import Derived.Test.YtomnjamldbficaaGreatDoorLexW5
import Derived.Test.YtomnjamldbficaaGreatDoorLexPlain8
import Derived.Test.YtomnjamldbficaaGreatDoorLexMem
namespace Go.Proofs.YtomnjamldbficaaGreatDoor
open Go.RowKit Lx
set_option maxHeartbeats 400000 in
theorem letter_any (c : UInt8) (w : World) :
    Calls Tryz.prog 84 #[.int .u8 c.toNat] w fun e w' => e = .returned (.bool (inR 97 122 c)) ∧ w = w' := by
  by_cases h1 : 97 ≤ (c.toNat : Int)
  · by_cases h2 : (c.toNat : Int) ≤ 122
    · rw [inR_yes h1 h2]
      go_enter Tryz.func84, Tryz.ntmps84
      go_wp2
      go_ret
      exact ⟨rfl, rfl⟩
    · rw [inR_no2 (by omega)]
      go_enter Tryz.func84, Tryz.ntmps84
      go_wp2
      go_ret
      exact ⟨rfl, rfl⟩
  · rw [inR_no1 (by omega)]
    go_enter Tryz.func84, Tryz.ntmps84
    go_wp2
    go_ret
    exact ⟨rfl, rfl⟩
set_option maxHeartbeats 400000 in
theorem digit_any (c : UInt8) (w : World) :
    Calls Tryz.prog 120 #[.int .u8 c.toNat] w fun e w' => e = .returned (.bool (inR 48 57 c)) ∧ w = w' := by
  by_cases h1 : 48 ≤ (c.toNat : Int)
  · by_cases h2 : (c.toNat : Int) ≤ 57
    · rw [inR_yes h1 h2]
      go_enter Tryz.func120, Tryz.ntmps120
      go_wp2
      go_ret
      exact ⟨rfl, rfl⟩
    · rw [inR_no2 (by omega)]
      go_enter Tryz.func120, Tryz.ntmps120
      go_wp2
      go_ret
      exact ⟨rfl, rfl⟩
  · rw [inR_no1 (by omega)]
    go_enter Tryz.func120, Tryz.ntmps120
    go_wp2
    go_ret
    exact ⟨rfl, rfl⟩
theorem signs_take (c : UInt8) (k : Nat) (h : k < 13) (hn : (signs.take k).contains c = false) (hk : ((signs[k]'h).toNat : Int) ≠ c.toNat) : (signs.take (k + 1)).contains c = false := by
  rw [List.take_succ_eq_append_getElem (h := h)]
  simp only [List.contains_eq_mem, List.mem_append, List.mem_singleton, decide_eq_false_iff_not] at hn ⊢
  rintro (h' | rfl)
  · exact hn h'
  · exact hk rfl
def signsB : ByteArray := ⟨#[123, 125, 40, 41, 59, 44, 43, 45, 42, 47, 60, 61, 37]⟩
theorem signsB_size : signsB.size = 13 := rfl
set_option maxHeartbeats 400000 in
theorem sign_any (c : UInt8) (w : World) :
    Calls Tryz.prog 86 #[.int .u8 c.toNat] w fun e w' => e = .returned (.bool (signs.contains c)) ∧ w = w' := by
  go_enter Tryz.func86, Tryz.ntmps86
  rw [show (⟨#[123, 125, 40, 41, 59, 44, 43, 45, 42, 47, 60, 61, 37]⟩ : ByteArray) = signsB from rfl]
  have hz := signsB_size
  have hz1 : signsB.size ≤ 13 := by omega
  have hz2 : 13 ≤ signsB.size := by omega
  clear hz
  go_wp2
  go_loop [4] (fun i => ∃ k : Nat, k ≤ 13 ∧ i = .int .i64 k ∧ (signs.take k).contains c = false) (fun i => 13 - (intOf i).toNat)
  case atStart => exact ⟨0, by omega, rfl, rfl⟩
  case round =>
    obtain ⟨k, hk, rfl, hn⟩ := hrel
    have HN := Lib.hid hn
    clear hn
    by_cases hlt : k < 13
    · have hlt' : k < signsB.size := by omega
      by_cases he : signsB[k] = c
      · have hb : ((signsB[k].toNat : Int) == (c.toNat : Int)) = true := by rw [he]; simp
        have HE := Lib.hid he
        clear he
        go_wp2
        go_ret
        refine ⟨ret_bool ?_, rfl⟩
        have : c ∈ signs := by rw [← HE.out]; exact List.getElem_mem (l := signs) hlt
        simp [this]
      · have hb : ((signsB[k].toNat : Int) == (c.toNat : Int)) = false := by
          simp only [beq_eq_false_iff_ne, ne_eq]; intro h; exact he (UInt8.toNat_inj.1 (by omega))
        have HE := Lib.hid he
        clear he
        go_wp2
        go_round
        case rel => exact ⟨k + 1, by omega, by go_num, signs_take c k hlt HN.out (fun h => HE.out (UInt8.toNat_inj.1 (by exact Int.ofNat_inj.1 h)))⟩
        case measure => simp [intOf]; omega
    · go_wp2
      go_ret
      refine ⟨ret_bool ?_, rfl⟩
      have := HN.out
      rw [List.take_of_length_le (by show 13 ≤ k; omega)] at this
      simpa using this
theorem bl_drop_get (s : ByteArray) (a j : Nat) (h : a + j < s.size) : ((bl s).drop a)[j]? = some s[a + j] := by
  rw [List.getElem?_drop]; exact bl_get? s (a + j) h
theorem run_stop2 (lo hi : Int) (s : ByteArray) (a k : Nat) (hk : a + k ≤ s.size) (h : ∀ j, (hj : j < k) → inR lo hi (s[a + j]'(by omega)) = true)
    (hs : ∀ hk' : a + k < s.size, inR lo hi s[a + k] = false) : runLen lo hi ((bl s).drop a) = k := by
  refine runLen_stop lo hi _ k (by rw [List.length_drop, length_bl]; omega) (fun j hj => ?_) (fun hk' => ?_)
  · rw [List.getElem_drop]; exact h j hj
  · rw [List.length_drop, length_bl] at hk'
    rw [List.getElem_drop]; exact hs (by omega)
set_option maxHeartbeats 400000 in
theorem digits_any (s : ByteArray) (at_ : Nat) (w : World) (hs : s.size ≤ 1000000000) (ha : at_ ≤ s.size) :
    Calls Tryz.prog 85 #[.string s, .int .i64 at_] w fun e w' => e = .returned (.int .i64 (runLen 48 57 ((bl s).drop at_))) ∧ w = w' := by
  go_enter Tryz.func85, Tryz.ntmps85
  go_wp2_with fail
  go_loop [5] (fun i => ∃ k : Nat, at_ + k ≤ s.size ∧ i = .int .i64 k ∧ (∀ j, (hj : j < k) → (hk : at_ + k ≤ s.size) → inR 48 57 (s[at_ + j]'(by omega)) = true)) (fun i => s.size - (intOf i).toNat)
  case atStart => exact ⟨0, by omega, rfl, fun j hj => absurd hj (by omega)⟩
  case round =>
    obtain ⟨k, hk, rfl, hall⟩ := hrel
    have Hall := Lib.hid hall
    clear hall
    by_cases hlt : at_ + k < s.size
    · cases hc : inR 48 57 s[at_ + k] with
      | true =>
        have HC := Lib.hid hc
        clear hc
        go_wp2_with (go_at_call 120; refine (digit_any _ _).mono ?_; rintro e w' ⟨rfl, rfl⟩; rw [HC.out])
        go_round
        case rel => exact ⟨k + 1, by omega, by go_num, fun j hj hk' => by
            by_cases e : j = k
            · subst e; exact HC.out
            · exact Hall.out j (by omega) hk⟩
        case measure => simp [intOf]; omega
      | false =>
        have HC := Lib.hid hc
        clear hc
        go_wp2_with (go_at_call 120; refine (digit_any _ _).mono ?_; rintro e w' ⟨rfl, rfl⟩; rw [HC.out])
        go_ret
        exact ⟨ret_int (by rw [run_stop2 48 57 s at_ k hk (fun j hj => Hall.out j hj hk) (fun _ => HC.out)]), rfl⟩
    · go_wp2_with fail
      go_ret
      exact ⟨ret_int (by rw [run_stop2 48 57 s at_ k hk (fun j hj => Hall.out j hj hk) (fun h => absurd h hlt)]), rfl⟩
end Go.Proofs.YtomnjamldbficaaGreatDoor
namespace Go.Proofs.YtomnjamldbficaaGreatDoor
open Go.RowKit Lx
theorem headD_bl (s : ByteArray) (h : 0 < s.size) : (bl s).headD 0 = s[0] := by
  have := bl_get? s 0 h
  cases hb : bl s with
  | nil => rw [hb] at this; simp at this
  | cons c r => rw [hb] at this; simpa using this
theorem bl_ne (s : ByteArray) (h : 0 < s.size) : bl s ≠ [] := by
  intro e; have := length_bl s; rw [e] at this; simp at this; omega
set_option maxHeartbeats 400000 in
theorem Kind_1 (s : ByteArray) (w : World) (h0 : 0 < s.size) (hs : s.size ≤ 1000000000) (h1 : ¬ (s.size = 1 ∧ signs.contains s[0] = true)) (h2 : inR 97 122 s[0] = true) :
    Calls Tryz.prog 52 #[.string s] w fun e w' => e = .returned (.int .i64 (if (bl s).all (inR 97 122) = true then 1 else 0)) ∧ w = w' := by
  have he : s.toList.isEmpty = false := by rw [ByteArray.toList_eq]; have := bl_ne s h0; simpa [bl] using this
  have H2 := Lib.hid h2
  obtain ⟨r, hr⟩ : ∃ r : Int, (if (bl s).all (inR 97 122) = true then 1 else 0) = r := ⟨_, rfl⟩
  rw [hr]
  have HR := Lib.hid hr
  clear hr h2
  have key : ∀ b : Bool, b = ((s.size : Int) == 1) → Hid (b = true → signs.contains s[0] = false) := fun b hb h => by
    have : s.size = 1 := by rw [hb] at h; simp at h; omega
    cases hc : signs.contains s[0] with
    | false => rfl
    | true => exact absurd ⟨this, hc⟩ h1
  have key := key _ rfl
  clear h1
  cases hb1 : ((s.size : Int) == 1)
  all_goals
    rw [hb1] at key
    go_enter Tryz.func52, Tryz.ntmps52
    go_wp2_with (first | (go_at_call 86; refine (sign_any _ _).mono ?_; rintro e w' ⟨rfl, rfl⟩; rw [key.out rfl]) | (go_at_call 84; refine (letter_any _ _).mono ?_; rintro e w' ⟨rfl, rfl⟩; rw [H2.out]))
    go_loop [3] (fun i => ∃ k : Nat, k ≤ s.size ∧ i = .int .i64 k ∧ (∀ j, (hj : j < k) → (hk : k ≤ s.size) → inR 97 122 (s[j]'(by omega)) = true)) (fun i => s.size - (intOf i).toNat)
    case atStart => exact ⟨0, Nat.zero_le _, rfl, fun j hj => absurd hj (by omega)⟩
    case round =>
      obtain ⟨k, hk, rfl, hall⟩ := hrel
      have Hall := Lib.hid hall
      clear hall
      by_cases hlt : k < s.size
      · cases hc : inR 97 122 s[k] with
        | true =>
          have HC := Lib.hid hc
          clear hc
          go_wp2_with (go_at_call 84; refine (letter_any _ _).mono ?_; rintro e w' ⟨rfl, rfl⟩; rw [HC.out])
          go_round
          case rel => exact ⟨k + 1, by omega, by go_num, fun j hj hk' => by
              by_cases e : j = k
              · subst e; exact HC.out
              · exact Hall.out j (by omega) hk⟩
          case measure => simp [intOf]; omega
        | false =>
          have HC := Lib.hid hc
          clear hc
          go_wp2_with (go_at_call 84; refine (letter_any _ _).mono ?_; rintro e w' ⟨rfl, rfl⟩; rw [HC.out])
          go_ret
          refine ⟨ret_int ?_, rfl⟩
          rw [← HR.out, if_neg]
          have := HC.out
          intro h
          rw [List.all_eq_true] at h
          have := h s[k] (by rw [← bl_get s k hlt]; exact List.getElem_mem _)
          rw [HC.out] at this; cases this
      · go_wp2_with fail
        go_ret
        refine ⟨ret_int ?_, rfl⟩
        rw [← HR.out, if_pos]
        rw [List.all_eq_true]
        intro c hc
        obtain ⟨j, hj, rfl⟩ := List.getElem_of_mem hc
        rw [length_bl] at hj
        exact Hall.out j (by omega) hk
theorem digits_int (s : ByteArray) (a : Int) (w : World) (hs : s.size ≤ 1000000000) (h0 : 0 ≤ a) (ha : a ≤ s.size) :
    Calls Tryz.prog 85 #[.string s, .int .i64 a] w fun e w' => e = .returned (.int .i64 (runLen 48 57 ((bl s).drop a.toNat))) ∧ w = w' := by
  obtain ⟨n, rfl⟩ := Int.eq_ofNat_of_zero_le h0
  exact digits_any s n w hs (by omega)
theorem u8_beq (c : UInt8) (n : Nat) (hn : n < 256) (h : c = UInt8.ofNat n) : ((c.toNat : Int) == (n : Int)) = true := by subst h; simp; omega
theorem u8_bne (c : UInt8) (n : Nat) (hn : n < 256) (h : c ≠ UInt8.ofNat n) : ((c.toNat : Int) == (n : Int)) = false := by
  simp only [beq_eq_false_iff_ne, ne_eq]; intro h'; apply h; apply UInt8.toNat_inj.1; simp; omega
set_option maxHeartbeats 1000000 in
theorem Kind_2a (s : ByteArray) (n : Nat) (w : World) (h0 : 0 < s.size) (hs : s.size ≤ 1000000000) (he : s.toList.isEmpty = false) (b1 : Bool) (hb1 : ((s.size : Int) == 1) = b1) (key : Hid (b1 = true → signs.contains s[0] = false)) (H2 : Hid (inR 97 122 s[0] = false))
    (HN0 : Hid (runLen 48 57 ((bl s).drop (Int.toNat 0)) = n))
    (h3 : n < 1 ∨ 9 < n ∨ (1 < n ∧ s[0] = 48)) :
    Calls Tryz.prog 52 #[.string s] w fun e w' => e = .returned (.int .i64 0) ∧ w = w' := by
  have HN1 := HN0
  cases b1
  all_goals
    rcases h3 with h3 | h3 | ⟨h3, h4⟩
    · go_enter Tryz.func52, Tryz.ntmps52
      go_wp2_with (first | (go_at_call 86; refine (sign_any _ _).mono ?_; rintro e w' ⟨rfl, rfl⟩; rw [key.out rfl]) | (go_at_call 84; refine (letter_any _ _).mono ?_; rintro e w' ⟨rfl, rfl⟩; rw [H2.out]) | (go_at_call 85; refine (digits_int _ _ _ (by omega) (by omega) (by omega)).mono ?_; rintro e w' ⟨rfl, rfl⟩; first | rw [HN0.out] | rw [HN1.out]))
      go_ret
      exact ⟨rfl, rfl⟩
    · go_enter Tryz.func52, Tryz.ntmps52
      go_wp2_with (first | (go_at_call 86; refine (sign_any _ _).mono ?_; rintro e w' ⟨rfl, rfl⟩; rw [key.out rfl]) | (go_at_call 84; refine (letter_any _ _).mono ?_; rintro e w' ⟨rfl, rfl⟩; rw [H2.out]) | (go_at_call 85; refine (digits_int _ _ _ (by omega) (by omega) (by omega)).mono ?_; rintro e w' ⟨rfl, rfl⟩; first | rw [HN0.out] | rw [HN1.out]))
      go_ret
      exact ⟨rfl, rfl⟩
    · have h5 : ((s[0].toNat : Int) == 48) = true := u8_beq s[0] 48 (by omega) h4
      have H4 := Lib.hid h4
      clear h4
      by_cases h9 : 9 < n
      all_goals
        go_enter Tryz.func52, Tryz.ntmps52
        go_wp2_with (first | (go_at_call 86; refine (sign_any _ _).mono ?_; rintro e w' ⟨rfl, rfl⟩; rw [key.out rfl]) | (go_at_call 84; refine (letter_any _ _).mono ?_; rintro e w' ⟨rfl, rfl⟩; rw [H2.out]) | (go_at_call 85; refine (digits_int _ _ _ (by omega) (by omega) (by omega)).mono ?_; rintro e w' ⟨rfl, rfl⟩; first | rw [HN0.out] | rw [HN1.out]))
        go_ret
        exact ⟨rfl, rfl⟩
set_option maxHeartbeats 1000000 in
theorem Kind_2b (s : ByteArray) (n : Nat) (w : World) (h0 : 0 < s.size) (hs : s.size ≤ 1000000000) (he : s.toList.isEmpty = false) (b1 : Bool) (hb1 : ((s.size : Int) == 1) = b1) (key : Hid (b1 = true → signs.contains s[0] = false)) (H2 : Hid (inR 97 122 s[0] = false))
    (HN0 : Hid (runLen 48 57 ((bl s).drop (Int.toNat 0)) = n)) (h1 : 1 ≤ n) (h9 : n ≤ 9)
    (h3 : Hid (¬ (1 < n ∧ s[0] = 48))) (h4 : n = s.size) :
    Calls Tryz.prog 52 #[.string s] w fun e w' => e = .returned (.int .i64 2) ∧ w = w' := by
  have HN1 := HN0
  have h5 : ((n : Int) == (s.size : Int)) = true := by simp; omega
  have hle : n ≤ s.size := by omega
  clear h4
  by_cases hn : 1 < n
  · have h6 : ((s[0].toNat : Int) == 48) = false := u8_bne s[0] 48 (by omega) (fun h => h3.out ⟨hn, h⟩)
    cases b1
    all_goals
      go_enter Tryz.func52, Tryz.ntmps52
      go_wp2_with (first | (go_at_call 86; refine (sign_any _ _).mono ?_; rintro e w' ⟨rfl, rfl⟩; rw [key.out rfl]) | (go_at_call 84; refine (letter_any _ _).mono ?_; rintro e w' ⟨rfl, rfl⟩; rw [H2.out]) | (go_at_call 85; refine (digits_int _ _ _ (by omega) (by omega) (by omega)).mono ?_; rintro e w' ⟨rfl, rfl⟩; first | rw [HN0.out] | rw [HN1.out]))
      go_ret
      exact ⟨rfl, rfl⟩
  · cases b1
    all_goals
      go_enter Tryz.func52, Tryz.ntmps52
      go_wp2_with (first | (go_at_call 86; refine (sign_any _ _).mono ?_; rintro e w' ⟨rfl, rfl⟩; rw [key.out rfl]) | (go_at_call 84; refine (letter_any _ _).mono ?_; rintro e w' ⟨rfl, rfl⟩; rw [H2.out]) | (go_at_call 85; refine (digits_int _ _ _ (by omega) (by omega) (by omega)).mono ?_; rintro e w' ⟨rfl, rfl⟩; first | rw [HN0.out] | rw [HN1.out]))
      go_ret
      exact ⟨rfl, rfl⟩
set_option maxHeartbeats 1000000 in
theorem Kind_2c (s : ByteArray) (n m : Nat) (w : World) (hs : s.size ≤ 1000000000) (he : s.toList.isEmpty = false) (hlt : n < s.size) (H2 : Hid (inR 97 122 s[0] = false))
    (HN0 : Hid (runLen 48 57 ((bl s).drop (Int.toNat 0)) = n)) (HN1 : Hid (runLen 48 57 ((bl s).drop ((n : Int) + 1).toNat) = m)) (h1 : 1 ≤ n) (h9 : n ≤ 9)
    (h3 : Hid (¬ (1 < n ∧ s[0] = 48))) (h4 : s[n] ≠ 46 ∨ s.size ≠ n + 3 ∨ m ≠ 2) :
    Calls Tryz.prog 52 #[.string s] w fun e w' => e = .returned (.int .i64 0) ∧ w = w' := by
  have hb1 : ((s.size : Int) == 1) = false := by simp; omega
  have h5 : ((n : Int) == (s.size : Int)) = false := by simp; omega
  have h6 : ((s[0].toNat : Int) == 48) = false ∨ ¬ 1 < n := by
    by_cases hn : 1 < n
    · exact .inl (u8_bne s[0] 48 (by omega) (fun h => h3.out ⟨hn, h⟩))
    · exact .inr hn
  have h7 : ((s[n].toNat : Int) != 46) = true ∨ ((s[n].toNat : Int) != 46) = false ∧ (((s.size : Int) != (n : Int) + 3) = true ∨ (((s.size : Int) != (n : Int) + 3) = false ∧ ((m : Int) != 2) = true)) := by
    by_cases a : s[n] = 46
    · have a' : ((s[n].toNat : Int) != 46) = false := by rw [a]; rfl
      by_cases b : s.size = n + 3
      · have c : m ≠ 2 := by
          rcases h4 with h4 | h4 | h4
          · exact absurd a h4
          · exact absurd b h4
          · exact h4
        exact .inr ⟨a', .inr ⟨by simp; omega, by rw [bne_iff_ne]; omega⟩⟩
      · exact .inr ⟨a', .inl (by rw [bne_iff_ne]; omega)⟩
    · have hh : ((s[n].toNat : Int) == 46) = false := u8_bne s[n] 46 (by omega) a
      exact .inl (by rw [bne, hh]; rfl)
  clear h4
  rcases h6 with h6 | h6
  all_goals
    rcases h7 with h7 | ⟨h7, h8 | ⟨h8, h8'⟩⟩
    all_goals
      go_enter Tryz.func52, Tryz.ntmps52
      go_wp2_with (first | (go_at_call 84; refine (letter_any _ _).mono ?_; rintro e w' ⟨rfl, rfl⟩; rw [H2.out]) | (go_at_call 85; refine (digits_int _ _ _ (by omega) (by omega) (by omega)).mono ?_; rintro e w' ⟨rfl, rfl⟩; first | rw [HN0.out] | rw [HN1.out]))
      all_goals
        go_ret
        exact ⟨rfl, rfl⟩
end Go.Proofs.YtomnjamldbficaaGreatDoor
namespace Go.Proofs.YtomnjamldbficaaGreatDoor
open Go.RowKit Lx
/-- the first k bytes without the one at n -/
def skipAt (n : Nat) (l : Bytes) (k : Nat) : Bytes := if k ≤ n then l.take k else l.take n ++ (l.take k).drop (n + 1)
theorem skipAt_zero (n : Nat) (l : Bytes) : skipAt n l 0 = [] := by simp [skipAt]
theorem skipAt_step (n : Nat) (l : Bytes) (k : Nat) (h : k < l.length) (hk : k ≠ n) : skipAt n l (k + 1) = skipAt n l k ++ [l[k]] := by
  unfold skipAt
  by_cases h1 : k + 1 ≤ n
  · rw [if_pos h1, if_pos (by omega), List.take_succ_eq_append_getElem h]
  · rw [if_neg h1, if_neg (by omega), List.take_succ_eq_append_getElem h, List.drop_append, List.append_assoc]
    congr 2
    rw [show n + 1 - (l.take k).length = 0 from by rw [List.length_take]; omega]; rfl
theorem skipAt_same (n : Nat) (l : Bytes) (h : n < l.length) : skipAt n l (n + 1) = skipAt n l n := by
  unfold skipAt
  rw [if_neg (by omega), if_pos (Nat.le_refl _), List.drop_of_length_le (by rw [List.length_take]; omega)]; simp
theorem skipAt_end (n : Nat) (l : Bytes) (k : Nat) (h : l.length ≤ k) (hn : n < l.length) : skipAt n l k = l.take n ++ l.drop (n + 1) := by
  unfold skipAt
  rw [if_neg (by omega), List.take_of_length_le h]
theorem skipAt_len (n : Nat) (l : Bytes) (k : Nat) : (skipAt n l k).length ≤ k := by
  unfold skipAt; split
  · rw [List.length_take]; omega
  · rw [List.length_append, List.length_take, List.length_drop, List.length_take]; omega
theorem pow10_le {a b : Nat} (h : a ≤ b) : (10 : Int) ^ a ≤ 10 ^ b := by
  obtain ⟨d, rfl⟩ := Nat.exists_eq_add_of_le h
  rw [Int.pow_add]
  have h1 : (0 : Int) < 10 ^ d := Int.pow_pos (by omega)
  have h2 : (0 : Int) ≤ 10 ^ a := Int.le_of_lt (Int.pow_pos (by omega))
  have := Int.mul_le_mul_of_nonneg_left (by omega : (1 : Int) ≤ 10 ^ d) h2
  rwa [Int.mul_one] at this
theorem skipAt_dig (n : Nat) (s : ByteArray) (hd : ∀ i, (h : i < s.size) → i ≠ n → inR 48 57 s[i] = true) (k : Nat) : (skipAt n (bl s) k).all (inR 48 57) = true := by
  induction k with
  | zero => rw [skipAt_zero]; rfl
  | succ k ih =>
    by_cases hk : k < s.size
    · by_cases e : k = n
      · subst e; rw [skipAt_same _ _ (by rw [length_bl]; exact hk)]; exact ih
      · rw [skipAt_step _ _ _ (by rw [length_bl]; exact hk) e, List.all_append, ih]
        simp only [List.all_cons, List.all_nil, Bool.and_true, Bool.true_and]
        exact hd k hk e
    · have : skipAt n (bl s) (k + 1) = skipAt n (bl s) k := by
        unfold skipAt
        rw [List.take_of_length_le (i := k + 1) (by rw [length_bl]; omega), List.take_of_length_le (i := k) (by rw [length_bl]; omega)]
        by_cases h1 : k + 1 ≤ n
        · rw [if_pos h1, if_pos (by omega)]
        · rw [if_neg h1]
          by_cases h2 : k ≤ n
          · rw [if_pos h2, List.take_of_length_le (by rw [length_bl]; omega), List.drop_of_length_le (by rw [length_bl]; omega)]; simp
          · rw [if_neg h2]
      rw [this]; exact ih
set_option maxHeartbeats 1000000 in
theorem Kind_2d (s : ByteArray) (n : Nat) (w : World) (he : s.toList.isEmpty = false) (hlt : n < s.size) (H2 : Hid (inR 97 122 s[0] = false))
    (HN0 : Hid (runLen 48 57 ((bl s).drop (Int.toNat 0)) = n)) (HN1 : Hid (runLen 48 57 ((bl s).drop ((n : Int) + 1).toNat) = 2)) (h1 : 1 ≤ n) (h9 : n ≤ 9)
    (h3 : Hid (¬ (1 < n ∧ s[0] = 48))) (h4 : s[n] = 46) (h5 : s.size = n + 3) (HD : Hid (∀ i, (h : i < s.size) → i ≠ n → inR 48 57 s[i] = true)) (r : Int) (HR : Hid ((if 1000000000 < val ((bl s).take n ++ (bl s).drop (n + 1)) then 0 else 3) = r)) :
    Calls Tryz.prog 52 #[.string s] w fun e w' => e = .returned (.int .i64 r) ∧ w = w' := by
  have hb1 : ((s.size : Int) == 1) = false := by simp; omega
  have hb5 : ((n : Int) == (s.size : Int)) = false := by simp; omega
  have h7 : ((s[n].toNat : Int) != 46) = false := by rw [h4]; rfl
  have h8 : ((s.size : Int) != (n : Int) + 3) = false := by simp; omega
  have hs1 : s.size ≤ 12 := by omega
  have hs2 : n + 3 ≤ s.size := by omega
  clear h4 h5
  have h6 : ((s[0].toNat : Int) == 48) = false ∨ ¬ 1 < n := by
    by_cases hn : 1 < n
    · exact .inl (u8_bne s[0] 48 (by omega) (fun h => h3.out ⟨hn, h⟩))
    · exact .inr hn
  rcases h6 with h6 | h6
  all_goals
    go_enter Tryz.func52, Tryz.ntmps52
    go_wp2_with (first | (go_at_call 84; refine (letter_any _ _).mono ?_; rintro e w' ⟨rfl, rfl⟩; rw [H2.out]) | (go_at_call 85; refine (digits_int _ _ _ (by omega) (by omega) (by omega)).mono ?_; rintro e w' ⟨rfl, rfl⟩; first | rw [HN0.out] | rw [HN1.out]))
  all_goals
    go_loop [5, 6] (fun c i => ∃ k : Nat, k ≤ s.size ∧ i = .int .i64 k ∧ c = .int .i64 (val (skipAt n (bl s) k))) (fun _ i => s.size - (intOf i).toNat)
    case atStart => exact ⟨0, by omega, rfl, by rw [skipAt_zero]; rfl⟩
    case round =>
      obtain ⟨k, hk, rfl, rfl⟩ := hrel
      have hv := val_bd _ (skipAt_dig n s HD.out k)
      have hv3 := pow10_le (Nat.le_trans (skipAt_len n (bl s) k) (by omega : k ≤ 12))
      have hv2 : val (skipAt n (bl s) k) ≤ 1000000000000 := by omega
      have hv1 := hv.1
      clear hv hv3
      by_cases hl : k < s.size
      · by_cases e : k = n
        · have HV := Lib.hid (skipAt_same n (bl s) (by rw [length_bl]; exact hlt))
          have hb : ((k : Int) != (n : Int)) = false := by simp; omega
          have E := Lib.hid e
          clear e
          go_wp2
          go_round
          case rel => exact ⟨k + 1, by omega, by go_num, by rw [E.out, HV.out]⟩
          case measure => simp [intOf]; omega
        · have hin := HD.out k hl e
          simp only [inR, Bool.and_eq_true, decide_eq_true_eq] at hin
          obtain ⟨i1, i2⟩ := hin
          have hb : ((k : Int) != (n : Int)) = true := by rw [bne_iff_ne]; omega
          have HV := Lib.hid (skipAt_step n (bl s) k (by rw [length_bl]; exact hl) e)
          have HV2 := Lib.hid (val_snoc (skipAt n (bl s) k) s[k])
          go_wp2
          go_round
          case rel => exact ⟨k + 1, by omega, by go_num, by rw [HV.out, bl_get s k hl, HV2.out]⟩
          case measure => simp [intOf]; omega
      · have HV := Lib.hid (skipAt_end n (bl s) k (by rw [length_bl]; omega) (by rw [length_bl]; exact hlt))
        by_cases hbig : 1000000000 < val (skipAt n (bl s) k)
        · go_wp2
          go_ret
          exact ⟨ret_int (by rw [← HR.out, ← HV.out, if_pos hbig]), rfl⟩
        · go_wp2
          go_ret
          exact ⟨ret_int (by rw [← HR.out, ← HV.out, if_neg (by omega)]), rfl⟩
end Go.Proofs.YtomnjamldbficaaGreatDoor
namespace Go.Proofs.YtomnjamldbficaaGreatDoor
open Go.RowKit Lx
theorem Kind_any (s : ByteArray) (w : World) (hs : s.size ≤ 1000000000) :
    Calls Tryz.prog 52 #[.string s] w fun e w' => e = .returned (.int .i64 (kindOf (bl s))) ∧ w = w' := by
  rw [← rKind_eq]
  by_cases h0 : s.size = 0
  · have hb : bl s = [] := List.length_eq_zero_iff.1 (by rw [length_bl]; exact h0)
    have he : s.toList.isEmpty = true := by rw [ByteArray.toList_eq]; show (bl s).isEmpty = true; rw [hb]; rfl
    rw [hb]
    show Calls Tryz.prog 52 #[.string s] w fun e w' => e = .returned (.int .i64 0) ∧ w = w'
    clear h0 hs hb
    go_enter Tryz.func52, Tryz.ntmps52
    go_wp2
    go_ret
    exact ⟨rfl, rfl⟩
  · have h0 : 0 < s.size := by omega
    have hne := bl_ne s h0
    have hh := headD_bl s h0
    rw [rKind, if_neg hne, hh, length_bl]
    have he : s.toList.isEmpty = false := by rw [ByteArray.toList_eq]; simpa [bl] using hne
    by_cases h1 : s.size = 1 ∧ signs.contains s[0] = true
    · rw [if_pos h1]
      have hb1 : ((s.size : Int) == 1) = true := by simp [h1.1]
      have H1 := Lib.hid h1.2
      clear hh h1 hne
      go_enter Tryz.func52, Tryz.ntmps52
      go_wp2_with (go_at_call 86; refine (sign_any _ _).mono ?_; rintro e w' ⟨rfl, rfl⟩; rw [H1.out])
      go_ret
      exact ⟨rfl, rfl⟩
    · rw [if_neg h1]
      by_cases h2 : inR 97 122 s[0] = true
      · rw [if_pos h2]
        exact Kind_1 s w h0 hs h1 h2
      · rw [if_neg h2]
        have H2 : Hid (inR 97 122 s[0] = false) := by show _ = false; simpa using h2
        have hle : runLen 48 57 (bl s) ≤ s.size := by have := runLen_le 48 57 (bl s); rwa [length_bl] at this
        generalize hn : runLen 48 57 (bl s) = n at *
        have HN0 : Hid (runLen 48 57 ((bl s).drop (Int.toNat 0)) = n) := hn
        have key : Hid (((s.size : Int) == 1) = true → signs.contains s[0] = false) := fun h => by
          have : s.size = 1 := by simp at h; omega
          cases hc : signs.contains s[0] with
          | false => rfl
          | true => exact absurd ⟨this, hc⟩ h1
        by_cases h3 : n < 1 ∨ 9 < n ∨ (1 < n ∧ s[0] = 48)
        · rw [if_pos h3]
          exact Kind_2a s n w h0 hs he _ rfl key H2 HN0 h3
        · rw [if_neg h3]
          have h3' : ¬ (1 < n ∧ s[0] = 48) := fun h => h3 (.inr (.inr h))
          by_cases h4 : n = s.size
          · rw [if_pos h4]
            exact Kind_2b s n w h0 hs he _ rfl key H2 HN0 (by omega) (by omega) h3' h4
          · rw [if_neg h4]
            have hlt : n < s.size := by omega
            have HN1 : Hid (runLen 48 57 ((bl s).drop ((n : Int) + 1).toNat) = runLen 48 57 ((bl s).drop (n + 1))) := by
              rw [show ((n : Int) + 1).toNat = n + 1 from by omega]; exact rfl
            rw [bl_get? s n hlt]
            by_cases h5 : some s[n] ≠ some 46 ∨ s.size ≠ n + 3 ∨ runLen 48 57 ((bl s).drop (n + 1)) ≠ 2
            · rw [if_pos h5]
              exact Kind_2c s n _ w hs he hlt H2 HN0 HN1 (by omega) (by omega) h3' (by simpa using h5)
            · rw [if_neg h5]
              simp only [ne_eq, not_or, Decidable.not_not, Option.some.injEq] at h5
              obtain ⟨a, b, d⟩ := h5
              rw [d] at HN1
              refine Kind_2d s n w he hlt H2 HN0 HN1 (by omega) (by omega) h3' a b ?_ _ rfl
              intro i hi hne
              by_cases h6 : i < n
              · have := take_runLen 48 57 (bl s)
                rw [hn, List.all_eq_true] at this
                refine this _ ?_
                rw [← bl_get s i hi, ← List.getElem_take (j := n) (h := by rw [List.length_take, length_bl]; omega)]
                exact List.getElem_mem _
              · have := take_runLen 48 57 ((bl s).drop (n + 1))
                rw [d, List.all_eq_true] at this
                refine this _ ?_
                obtain ⟨j, rfl⟩ : ∃ j, i = n + 1 + j := ⟨i - (n + 1), by omega⟩
                rw [List.take_of_length_le (by rw [List.length_drop, length_bl]; omega), ← bl_get s _ hi, ← List.getElem_drop (h := by rw [List.length_drop, length_bl]; omega)]
                exact List.getElem_mem _
set_option maxHeartbeats 400000 in
theorem size_nat (s : ByteArray) (a : Nat) (w : World) (hs : s.size ≤ 1000000000) (ha : a < s.size) :
    Calls Tryz.prog 51 #[.string s, .int .i64 a] w fun e w' => e = .returned (.int .i64 (tlen ((bl s).drop a))) ∧ w = w' := by
  have hlen : ((bl s).drop a).length = s.size - a := by rw [List.length_drop, length_bl]
  have g2 := runLen_le 48 57 ((bl s).drop a)
  rw [hlen] at g2
  clear hlen
  cases hl : inR 97 122 s[a] with
  | true =>
    have hpos : 0 < runLen 97 122 ((bl s).drop a) := by
      rw [List.drop_eq_getElem_cons (by rw [length_bl]; exact ha), bl_get s a ha, runLen_cons_yes _ _ _ _ hl]; omega
    rw [tlen_1 hpos]
    have HL := Lib.hid hl
    clear hl hpos g2
    go_enter Tryz.func51, Tryz.ntmps51
    go_wp2_with (go_at_call 84; refine (letter_any _ _).mono ?_; rintro e w' ⟨rfl, rfl⟩; rw [HL.out])
    go_loop [5] (fun i => ∃ k : Nat, a + k ≤ s.size ∧ i = .int .i64 k ∧ (∀ j, (hj : j < k) → (hk : a + k ≤ s.size) → inR 97 122 (s[a + j]'(by omega)) = true)) (fun i => s.size - (intOf i).toNat)
    case atStart => exact ⟨0, by omega, rfl, fun j hj => absurd hj (by omega)⟩
    case round =>
      obtain ⟨k, hk, rfl, hall⟩ := hrel
      have Hall := Lib.hid hall
      clear hall
      by_cases hlt : a + k < s.size
      · cases hc : inR 97 122 s[a + k] with
        | true =>
          have HC := Lib.hid hc
          clear hc
          go_wp2_with (go_at_call 84; refine (letter_any _ _).mono ?_; rintro e w' ⟨rfl, rfl⟩; rw [HC.out])
          go_round
          case rel => exact ⟨k + 1, by omega, by go_num, fun j hj hk' => by
              by_cases e : j = k
              · subst e; exact HC.out
              · exact Hall.out j (by omega) hk⟩
          case measure => simp [intOf]; omega
        | false =>
          have HC := Lib.hid hc
          clear hc
          go_wp2_with (go_at_call 84; refine (letter_any _ _).mono ?_; rintro e w' ⟨rfl, rfl⟩; rw [HC.out])
          go_ret
          exact ⟨ret_int (by rw [run_stop2 97 122 s a k hk (fun j hj => Hall.out j hj hk) (fun _ => HC.out)]), rfl⟩
      · go_wp2_with fail
        go_ret
        exact ⟨ret_int (by rw [run_stop2 97 122 s a k hk (fun j hj => Hall.out j hj hk) (fun h => absurd h hlt)]), rfl⟩
  | false =>
    have hz : runLen 97 122 ((bl s).drop a) = 0 := by
      rw [List.drop_eq_getElem_cons (by rw [length_bl]; exact ha), bl_get s a ha, runLen_cons_no _ _ _ _ hl]
    have HL := Lib.hid hl
    clear hl
    by_cases h1 : runLen 48 57 ((bl s).drop a) = 0
    · rw [tlen_2 hz h1]
      have HN0 := Lib.hid (show runLen 48 57 ((bl s).drop (Int.toNat (a : Int))) = 0 from h1)
      have HN1 := HN0
      clear hz h1 g2
      go_enter Tryz.func51, Tryz.ntmps51
      go_wp2_with (first | (go_at_call 84; refine (letter_any _ _).mono ?_; rintro e w' ⟨rfl, rfl⟩; rw [HL.out]) | (go_at_call 85; refine (digits_int _ _ _ (by omega) (by omega) (by omega)).mono ?_; rintro e w' ⟨rfl, rfl⟩; first | rw [HN0.out] | rw [HN1.out]))
      go_ret
      exact ⟨rfl, rfl⟩
    · generalize hn : runLen 48 57 ((bl s).drop a) = n at *
      have HN0 := Lib.hid (show runLen 48 57 ((bl s).drop (Int.toNat (a : Int))) = n from hn)
      have hb : ((n : Int) == 0) = false := by simp; omega
      by_cases h2 : a + n < s.size
      · by_cases h3 : s[a + n] = 46
        · have hb3 : ((s[a + n].toNat : Int) == 46) = true := by rw [h3]; rfl
          have e1 : tlen ((bl s).drop a) = n + 1 + runLen 48 57 ((bl s).drop (a + n + 1)) := by
            rw [tlen_3 hz (by rw [hn]; exact h1) (by rw [hn, bl_drop_get s a n h2, h3]), hn, List.drop_drop]
            rw [Nat.add_assoc a n 1]
          have g3 := runLen_le 48 57 ((bl s).drop (a + n + 1))
          rw [List.length_drop, length_bl] at g3
          rw [e1]
          generalize hm : runLen 48 57 ((bl s).drop (a + n + 1)) = m at *
          have HN1 := Lib.hid (show runLen 48 57 ((bl s).drop ((a : Int) + (n : Int) + 1).toNat) = m from by rw [show ((a : Int) + (n : Int) + 1).toNat = a + n + 1 from by omega]; exact hm)
          clear h3 hz hm e1 hn
          go_enter Tryz.func51, Tryz.ntmps51
          go_wp2_with (first | (go_at_call 84; refine (letter_any _ _).mono ?_; rintro e w' ⟨rfl, rfl⟩; rw [HL.out]) | (go_at_call 85; refine (digits_int _ _ _ (by omega) (by omega) (by omega)).mono ?_; rintro e w' ⟨rfl, rfl⟩; first | rw [HN0.out] | rw [HN1.out]))
          go_ret
          exact ⟨ret_int (by omega), rfl⟩
        · have hb3 : ((s[a + n].toNat : Int) == 46) = false := u8_bne s[a + n] 46 (by omega) h3
          rw [tlen_4 hz (by rw [hn]; exact h1) (by rw [hn, bl_drop_get s a n h2]; simpa using h3), hn]
          have HN1 := HN0
          clear h3 hz hn
          go_enter Tryz.func51, Tryz.ntmps51
          go_wp2_with (first | (go_at_call 84; refine (letter_any _ _).mono ?_; rintro e w' ⟨rfl, rfl⟩; rw [HL.out]) | (go_at_call 85; refine (digits_int _ _ _ (by omega) (by omega) (by omega)).mono ?_; rintro e w' ⟨rfl, rfl⟩; first | rw [HN0.out] | rw [HN1.out]))
          go_ret
          exact ⟨rfl, rfl⟩
      · rw [tlen_4 hz (by rw [hn]; exact h1) (by rw [hn, List.getElem?_eq_none (by rw [List.length_drop, length_bl]; omega)]; simp), hn]
        have HN1 := HN0
        clear hz hn
        go_enter Tryz.func51, Tryz.ntmps51
        go_wp2_with (first | (go_at_call 84; refine (letter_any _ _).mono ?_; rintro e w' ⟨rfl, rfl⟩; rw [HL.out]) | (go_at_call 85; refine (digits_int _ _ _ (by omega) (by omega) (by omega)).mono ?_; rintro e w' ⟨rfl, rfl⟩; first | rw [HN0.out] | rw [HN1.out]))
        go_ret
        exact ⟨rfl, rfl⟩
end Go.Proofs.YtomnjamldbficaaGreatDoor
namespace Go.Proofs.YtomnjamldbficaaGreatDoor
open Go.RowKit Lx
theorem Tryz.infoTok : (Tryz.prog.info? 41).map (fun i => (i.zero, i.size, i.bytes)) = some (some (.agg #[.int .i64 0, .int .i64 0, .string ⟨#[]⟩]), 3, 32) := by kernel_rfl
/-- what is left to do, at a place -/
def Rest (s : ByteArray) (a : Nat) (ln : Int) (ts : List Tok) : Prop := coll ts (P ln ((bl s).drop a)) = coll [] (P 1 (bl s)) ∧ 1 ≤ ln ∧ ln ≤ a + 1 ∧ ts.length ≤ 5000
theorem drop_bl (s : ByteArray) (a : Nat) (h : a < s.size) : (bl s).drop a = s[a] :: (bl s).drop (a + 1) := by
  rw [List.drop_eq_getElem_cons (by rw [length_bl]; exact h), bl_get s a h]
theorem Rest.blank {s : ByteArray} {a : Nat} {ln : Int} {ts : List Tok} (h : Rest s a ln ts) (ha : a < s.size) (hc : s[a] = 32) : Rest s (a + 1) ln ts := by
  obtain ⟨h1, h2, h3, h4⟩ := h
  rw [drop_bl s a ha, hc, P_blank] at h1
  exact ⟨h1, h2, by omega, h4⟩
theorem Rest.feed {s : ByteArray} {a : Nat} {ln : Int} {ts : List Tok} (h : Rest s a ln ts) (ha : a < s.size) (hc : s[a] = 10) : Rest s (a + 1) (ln + 1) ts := by
  obtain ⟨h1, h2, h3, h4⟩ := h
  rw [drop_bl s a ha, hc, P_feed] at h1
  exact ⟨h1, by omega, by omega, h4⟩
theorem dropWhile_at (s : ByteArray) (a b : Nat) (hab : a ≤ b) (hb : b ≤ s.size) (h : ∀ j, (hj : j < b) → a ≤ j → s[j] ≠ 10) (he : ∀ h : b < s.size, s[b] = 10) : ((bl s).drop a).dropWhile (· != 10) = (bl s).drop b := by
  obtain ⟨d, rfl⟩ := Nat.exists_eq_add_of_le hab
  induction d generalizing a with
  | zero =>
    by_cases hlt : a < s.size
    · have := he hlt
      rw [Nat.add_zero, drop_bl s a hlt, List.dropWhile_cons, if_neg]
      simp only [Nat.add_zero] at this; simp [this]
    · rw [Nat.add_zero, List.drop_of_length_le (by rw [length_bl]; omega)]; rfl
  | succ d ih =>
    have hlt : a < s.size := by omega
    rw [drop_bl s a hlt, List.dropWhile_cons, if_pos (by simpa using h a (by omega) (Nat.le_refl _))]
    have := ih (a + 1) (by omega) (by omega) (fun j hj hj' => h j (by omega) (by omega)) (fun hh => by have := he (by omega); rw [← this]; congr 1; omega)
    rw [this]; congr 1; omega
theorem Rest.hash {s : ByteArray} {a b : Nat} {ln : Int} {ts : List Tok} (h : Rest s a ln ts) (ha : a < s.size) (hc : s[a] = 35) (hab : a ≤ b) (hb : b ≤ s.size) (hn : ∀ j, (hj : j < b) → a ≤ j → s[j] ≠ 10) (he : ∀ h : b < s.size, s[b] = 10) : Rest s b ln ts := by
  obtain ⟨h1, h2, h3, h4⟩ := h
  have hlt : a + 1 ≤ b := by
    rcases Nat.lt_or_ge a b with h | h
    · exact h
    · have e : a = b := by omega
      subst e; have := he ha; rw [hc] at this; exact absurd this (by decide)
  rw [drop_bl s a ha, hc, P_hash, dropWhile_at s (a + 1) b hlt hb (fun j hj hj' => hn j hj (by omega)) he] at h1
  exact ⟨h1, h2, by omega, h4⟩
theorem Rest.tok {s : ByteArray} {a : Nat} {ln : Int} {ts : List Tok} (h : Rest s a ln ts) (ha : a < s.size) (h1 : s[a] ≠ 32) (h2 : s[a] ≠ 10) (h3 : s[a] ≠ 35) :
    coll ts ((ln, ((bl s).drop a).take (tlen ((bl s).drop a))) :: P ln ((bl s).drop (a + tlen ((bl s).drop a)))) = coll [] (P 1 (bl s)) := by
  obtain ⟨g1, _⟩ := h
  rw [← g1]
  conv => rhs; rw [drop_bl s a ha, P_tok ln _ _ h1 h2 h3, ← drop_bl s a ha]
  rw [List.drop_drop]
theorem Rest.err {s : ByteArray} {a : Nat} {ln : Int} {ts : List Tok} (h : Rest s a ln ts) (ha : a < s.size) (h1 : s[a] ≠ 32) (h2 : s[a] ≠ 10) (h3 : s[a] ≠ 35)
    (hk : kindOf (((bl s).drop a).take (tlen ((bl s).drop a))) = 0) : coll [] (P 1 (bl s)) = ([], 8, ln) := by
  rw [← h.tok ha h1 h2 h3, coll, if_pos hk]
theorem Rest.many {s : ByteArray} {a : Nat} {ln : Int} {ts : List Tok} (h : Rest s a ln ts) (ha : a < s.size) (h1 : s[a] ≠ 32) (h2 : s[a] ≠ 10) (h3 : s[a] ≠ 35)
    (hk : kindOf (((bl s).drop a).take (tlen ((bl s).drop a))) ≠ 0) (hl : ts.length = 5000) : coll [] (P 1 (bl s)) = ([], 2, ln) := by
  rw [← h.tok ha h1 h2 h3, coll, if_neg hk, if_pos hl]
theorem Rest.next {s : ByteArray} {a : Nat} {ln : Int} {ts : List Tok} (h : Rest s a ln ts) (ha : a < s.size) (h1 : s[a] ≠ 32) (h2 : s[a] ≠ 10) (h3 : s[a] ≠ 35)
    (hk : kindOf (((bl s).drop a).take (tlen ((bl s).drop a))) ≠ 0) (hl : ts.length ≠ 5000) :
    Rest s (a + tlen ((bl s).drop a)) ln (ts ++ [(kindOf (((bl s).drop a).take (tlen ((bl s).drop a))), ln, ((bl s).drop a).take (tlen ((bl s).drop a)))]) := by
  have := h.tok ha h1 h2 h3
  rw [coll, if_neg hk, if_neg hl] at this
  obtain ⟨g1, g2, g3, g4⟩ := h
  exact ⟨this, g2, by omega, by rw [List.length_append, List.length_singleton]; omega⟩
theorem Rest.done {s : ByteArray} {a : Nat} {ln : Int} {ts : List Tok} (h : Rest s a ln ts) (ha : ¬ a < s.size) : coll [] (P 1 (bl s)) = (ts, 0, 0) := by
  rw [← h.1, List.drop_of_length_le (by rw [length_bl]; omega), P_nil]; rfl
theorem Rest.zero (s : ByteArray) : Rest s 0 1 [] := ⟨rfl, by omega, by omega, by simp⟩
theorem toks_small (s : ByteArray) (h : ¬ 20000 < s.size) : toks (bl s) = coll [] (P 1 (bl s)) := by rw [toks, length_bl, if_neg h]; rfl
theorem toks_big (s : ByteArray) (h : 20000 < s.size) : toks (bl s) = ([], 2, 0) := by rw [toks, length_bl, if_pos h]
theorem news3 (w : World) (a b c : Value) (t : TypeId) : ∀ (j : Nat) (u : Value), [a, b, c][j]? = some u → (w.alloc (.cells #[a, b, c] t)).cell? ((⟨w.heap.size, 0, none⟩ : Addr).add j) = some u := by
  intro j u h
  have hadd : ((⟨w.heap.size, 0, none⟩ : Addr).add j) = ⟨w.heap.size, j, none⟩ := by unfold Addr.add; split <;> simp_all
  rw [hadd]
  match j, h with
  | 0, h => simpa [go_sem] using h
  | 1, h => simpa [go_sem] using h
  | 2, h => simpa [go_sem] using h
  | j + 3, h => simp at h
/-- what Tokens hands back -/
def TokPost (w : World) (r : List Tok × Int × Int) (e : Ending) (w' : World) : Prop :=
  ∃ v, e = .returned (.tuple #[v, .int .i64 r.2.1, .int .i64 r.2.2]) ∧ Sl w' w'.heap.size v r.1 ∧ Below w.heap.size w w'
def TokLoop (s : ByteArray) (w : World) (v ln a : Value) (wr : World) : Prop :=
  ∃ (k : Nat) (l : Int) (ts : List Tok), k ≤ s.size ∧ a = .int .i64 k ∧ ln = .int .i64 l ∧ Rest s k l ts ∧ wr.ownsRow w.heap.size 41 3 v ts.length (cellsOf ts) ∧ Below w.heap.size w wr
set_option maxRecDepth 100000 in
set_option maxHeartbeats 1000000 in
theorem rTokens_any (s : ByteArray) (w : World) (hs : s.size ≤ 1000000000) : Calls Tryz.prog 24 #[.string s] w (TokPost w (toks (bl s))) := by
  by_cases hbig : 20000 < s.size
  · rw [toks_big s hbig]
    go_enter Tryz.func24, Tryz.ntmps24
    go_wp2_with fail
    go_ret3
    exact ⟨_, rfl, Sl.nil _ _, bself _⟩
  · rw [toks_small s hbig]
    obtain ⟨R, hR⟩ : ∃ R, coll [] (P 1 (bl s)) = R := ⟨_, rfl⟩
    rw [hR]
    have HR := Lib.hid hR
    clear hR
    obtain ⟨i0, hi, hz0, hz1, hz2⟩ := info_parts Tryz.infoTok
    have hI := Lib.hid hi
    have hZ0 := Lib.hid hz0
    have hZ1 := Lib.hid hz1
    have hZ2 := Lib.hid hz2
    clear hi hz0 hz1 hz2
    have hbd : decide ((20000 : Int) < s.size) = false := by simp; omega
    go_enter Tryz.func24, Tryz.ntmps24
    go_wp2_with fail
    go_loopw [5, 6, 7] (fun v ln a wr => TokLoop s w v ln a wr) (fun _ _ a _ => s.size - (intOf a).toNat)
    case atStart => exact ⟨0, 1, [], by omega, rfl, rfl, Rest.zero s, World.ownsRow_nil _ _ _ _, bself _⟩
    case round =>
      obtain ⟨k, l, ts, hk, rfl, rfl, hrest, hown, hB⟩ := hrel
      have HRest := Lib.hid hrest
      have HOwn := Lib.hid hown
      have hl1 : 1 ≤ l := hrest.2.1
      have hl2 : l ≤ k + 1 := hrest.2.2.1
      have hl3 : ts.length ≤ 5000 := hrest.2.2.2
      clear hrest hown
      by_cases hlt : k < s.size
      · by_cases c1 : s[k] = 32
        · have hb1 : ((s[k].toNat : Int) == 32) = true := u8_beq s[k] 32 (by omega) c1
          have C1 := Lib.hid c1
          clear c1
          go_wp2_with fail
          go_roundw
          case rel => exact ⟨k + 1, l, ts, by omega, by go_num, rfl, HRest.out.blank hlt C1.out, HOwn.out, hB⟩
          case measure => simp [intOf]; omega
        · have hb1 : ((s[k].toNat : Int) == 32) = false := u8_bne s[k] 32 (by omega) c1
          have C1 := Lib.hid c1
          clear c1
          by_cases c2 : s[k] = 10
          · have hb2 : ((s[k].toNat : Int) == 10) = true := u8_beq s[k] 10 (by omega) c2
            have C2 := Lib.hid c2
            clear c2
            go_wp2_with fail
            go_roundw
            case rel => exact ⟨k + 1, l + 1, ts, by omega, by go_num, rfl, HRest.out.feed hlt C2.out, HOwn.out, hB⟩
            case measure => simp [intOf]; omega
          · have hb2 : ((s[k].toNat : Int) == 10) = false := u8_bne s[k] 10 (by omega) c2
            have C2 := Lib.hid c2
            clear c2
            by_cases c3 : s[k] = 35
            · have hb3 : ((s[k].toNat : Int) == 35) = true := u8_beq s[k] 35 (by omega) c3
              have C3 := Lib.hid c3
              clear c3
              go_wp2_with fail
              go_loop [7] (fun i => ∃ j : Nat, k ≤ j ∧ j ≤ s.size ∧ i = .int .i64 j ∧ (∀ m, (hm : m < j) → (hj : j ≤ s.size) → k ≤ m → s[m] ≠ 10)) (fun i => s.size - (intOf i).toNat)
              case atStart => exact ⟨k, by omega, by omega, rfl, fun m hm _ hm' => absurd hm (by omega)⟩
              case round =>
                obtain ⟨j, hj1, hj2, rfl, hall⟩ := hrel
                have Hall := Lib.hid hall
                clear hall
                by_cases hjl : j < s.size
                · by_cases c4 : s[j] = 10
                  · have hb4 : ((s[j].toNat : Int) != 10) = false := by rw [c4]; rfl
                    have C4 := Lib.hid c4
                    clear c4
                    go_wp2_with fail
                    go_roundw
                    case rel => exact ⟨j, l, ts, by omega, rfl, rfl, HRest.out.hash hlt C3.out hj1 hj2 (fun m hm hm' => Hall.out m hm hj2 hm') (fun _ => C4.out), HOwn.out, hB⟩
                    case measure =>
                      have : k ≠ j := fun e => by subst e; have h1 := C3.out; have h2 := C4.out; rw [h1] at h2; exact absurd h2 (by decide)
                      simp [intOf]; omega
                  · have hb4 : ((s[j].toNat : Int) != 10) = true := by
                      have hh : ((s[j].toNat : Int) == 10) = false := u8_bne s[j] 10 (by omega) c4
                      rw [bne, hh]; rfl
                    have C4 := Lib.hid c4
                    clear c4
                    go_wp2_with fail
                    go_round
                    case rel => exact ⟨j + 1, by omega, by omega, by go_num, fun m hm hm' hkm => by
                      by_cases e : m = j
                      · subst e; exact C4.out
                      · exact Hall.out m (by omega) hj2 hkm⟩
                    case measure => simp [intOf]; omega
                · go_wp2_with fail
                  go_roundw
                  case rel => exact ⟨j, l, ts, by omega, rfl, rfl, HRest.out.hash hlt C3.out hj1 hj2 (fun m hm hm' => Hall.out m hm hj2 hm') (fun h => absurd h hjl), HOwn.out, hB⟩
                  case measure => simp [intOf]; omega
            · have hb3 : ((s[k].toNat : Int) == 35) = false := u8_bne s[k] 35 (by omega) c3
              have C3 := Lib.hid c3
              clear c3
              have n1 := tlen_pos ((bl s).drop k)
              have n2 := tlen_le ((bl s).drop k) (by rw [List.length_drop, length_bl]; omega)
              rw [List.length_drop, length_bl] at n2
              have hx : s.extract k (k + tlen ((bl s).drop k)) = mk (((bl s).drop k).take (tlen ((bl s).drop k))) := by
                rw [← mk_bl (s.extract _ _), bl_extract]; congr 2; omega
              have hsz : (s.extract k (k + tlen ((bl s).drop k))).size ≤ 1000000000 := by rw [ByteArray.size_extract]; omega
              have herr := fun h => HRest.out.err hlt C1.out C2.out C3.out h
              have hmany := fun h h' => HRest.out.many hlt C1.out C2.out C3.out h h'
              have hnext := fun h h' => HRest.out.next hlt C1.out C2.out C3.out h h'
              generalize htx : ((bl s).drop k).take (tlen ((bl s).drop k)) = tx at *
              generalize hn : tlen ((bl s).drop k) = n at *
              generalize hkd : kindOf tx = kd at *
              have HN := Lib.hid hn
              have HX := Lib.hid hx
              have HSZ := Lib.hid hsz
              have HErr := Lib.hid herr
              have HMany := Lib.hid hmany
              have HNext := Lib.hid hnext
              have HKD : Hid (kindOf (bl (s.extract k (k + n))) = kd) := by rw [hx, bl_mk]; exact hkd
              clear hn hx hsz herr hmany hnext hkd htx
              by_cases hk0 : kd = 0
              · have hb4 : (kd == 0) = true := by simp [hk0]
                have HK0 := Lib.hid hk0
                clear hk0
                go_wp2_with (first | (go_at_call 51; refine (size_nat s k _ (by omega) hlt).mono ?_; rintro e w' ⟨rfl, rfl⟩; rw [HN.out]) | (go_at_call 52; refine (Kind_any _ _ HSZ.out).mono ?_; rintro e w' ⟨rfl, rfl⟩; rw [HKD.out]))
                go_ret3
                rw [← HR.out, HErr.out HK0.out]
                exact ⟨_, rfl, Sl.nil _ _, hB⟩
              · have hb4 : (kd == 0) = false := by simp [hk0]
                have HK0 := Lib.hid hk0
                clear hk0
                have hlen : ∃ A c, u5 = .slice A ts.length c := by
                  rcases HOwn.out.2 with ⟨hv, h0⟩ | ⟨g, cap, cur, hv, _⟩
                  · exact ⟨none, 0, by rw [hv, h0]⟩
                  · exact ⟨_, _, hv⟩
                obtain ⟨A, c, rfl⟩ := hlen
                by_cases h5 : ts.length = 5000
                · have hb5 : ((ts.length : Int) == 5000) = true := by simp; omega
                  have H5 := Lib.hid h5
                  clear h5
                  go_wp2_with (first | (go_at_call 51; refine (size_nat s k _ (by omega) hlt).mono ?_; rintro e w' ⟨rfl, rfl⟩; rw [HN.out]) | (go_at_call 52; refine (Kind_any _ _ HSZ.out).mono ?_; rintro e w' ⟨rfl, rfl⟩; rw [HKD.out]))
                  go_ret3
                  rw [← HR.out, HMany.out HK0.out H5.out]
                  exact ⟨_, rfl, Sl.nil _ _, hB⟩
                · have hb5 : ((ts.length : Int) == 5000) = false := by simp; omega
                  have hl4 : ts.length < 5000 := by omega
                  have H5 := Lib.hid h5
                  clear h5
                  go_wp2_with (first | (go_at_call 51; refine (size_nat s k _ (by omega) hlt).mono ?_; rintro e w' ⟨rfl, rfl⟩; rw [HN.out]) | (go_at_call 52; refine (Kind_any _ _ HSZ.out).mono ?_; rintro e w' ⟨rfl, rfl⟩; rw [HKD.out]) | (at_builtin; refine wpList_append_own _ rfl _ _ 37 rfl w.heap.size 41 i0 _ 3 32 Tryz.underlying37 hI.out hZ0.out hZ1.out hZ2.out rfl (by decide) _ _ _ rfl (HOwn.out.alloc _) ⟨wr.heap.size, 0, none⟩ 1 1 [.int .i64 kd, .int .i64 l, .string (s.extract k (k + n))] rfl rfl (news3 _ _ _ _ _) (by simp [Value.oneCell']) (by unfold maxLen; omega) (by omega) (by have := hB.size; simp; omega) ?_; intro v' w1 hown' hgrow _))
                  have hB2 : Below w.heap.size w w1 := (hB.alloc hB.size _).grown hgrow (by have := hB.size; simp; omega) (fun g e => (HOwn.out.lt g e).1)
                  go_roundw
                  case rel => exact ⟨k + n, l, _, by omega, by go_num, rfl, HNext.out HK0.out H5.out, by rw [List.length_append, List.length_singleton, cellsOf_snoc, tokCells, ← HX.out]; exact hown', hB2⟩
                  case measure => simp [intOf]; omega
      · go_wp2_with fail
        go_ret3
        rw [← HR.out, HRest.out.done hlt]
        exact ⟨_, rfl, Sl.of_own HOwn.out, hB⟩
end Go.Proofs.YtomnjamldbficaaGreatDoor
