/-
  Walks: the reference of layer 7: letter, digit, sign, digits, Kind, size.
-/
import Derived.Test.YthpbioeilcfmlaaLexW1
import Derived.Test.YthpbioeilcfmlaaLexPlain2
namespace Go.Proofs.Ythpbioeilcfmlaa
open Go.RowKit Lx
set_option maxHeartbeats 400000 in
theorem letter_any (c : UInt8) (w : World) :
    Calls Try.prog 27 #[.int .u8 c.toNat] w fun e w' => e = .returned (.bool (inR 97 122 c)) ∧ w = w' := by
  by_cases h1 : 97 ≤ (c.toNat : Int)
  · by_cases h2 : (c.toNat : Int) ≤ 122
    · rw [inR_yes h1 h2]
      go_enter Try.func27, Try.ntmps27
      go_wp2
      go_ret
      exact ⟨rfl, rfl⟩
    · rw [inR_no2 (by omega)]
      go_enter Try.func27, Try.ntmps27
      go_wp2
      go_ret
      exact ⟨rfl, rfl⟩
  · rw [inR_no1 (by omega)]
    go_enter Try.func27, Try.ntmps27
    go_wp2
    go_ret
    exact ⟨rfl, rfl⟩
set_option maxHeartbeats 400000 in
theorem digit_any (c : UInt8) (w : World) :
    Calls Try.prog 37 #[.int .u8 c.toNat] w fun e w' => e = .returned (.bool (inR 48 57 c)) ∧ w = w' := by
  by_cases h1 : 48 ≤ (c.toNat : Int)
  · by_cases h2 : (c.toNat : Int) ≤ 57
    · rw [inR_yes h1 h2]
      go_enter Try.func37, Try.ntmps37
      go_wp2
      go_ret
      exact ⟨rfl, rfl⟩
    · rw [inR_no2 (by omega)]
      go_enter Try.func37, Try.ntmps37
      go_wp2
      go_ret
      exact ⟨rfl, rfl⟩
  · rw [inR_no1 (by omega)]
    go_enter Try.func37, Try.ntmps37
    go_wp2
    go_ret
    exact ⟨rfl, rfl⟩
theorem signs_take (c : UInt8) (k : Nat) (h : k < 13) (hn : (signs.take k).contains c = false) (hk : ((signs[k]'h).toNat : Int) ≠ c.toNat) : (signs.take (k + 1)).contains c = false := by
  rw [List.take_succ_eq_append_getElem (h := h)]
  simp only [List.contains_eq_mem, List.mem_append, List.mem_singleton, decide_eq_false_iff_not] at hn ⊢
  rintro (h' | rfl)
  · exact hn h'
  · exact hk rfl
def signsB : ByteArray := ⟨#[123, 125, 40, 41, 59, 44, 43, 45, 42, 47, 60, 61, 37]⟩
theorem signsB_size : signsB.size = 13 := rfl
set_option maxHeartbeats 400000 in
theorem sign_any (c : UInt8) (w : World) :
    Calls Try.prog 26 #[.int .u8 c.toNat] w fun e w' => e = .returned (.bool (signs.contains c)) ∧ w = w' := by
  go_enter Try.func26, Try.ntmps26
  rw [show (⟨#[123, 125, 40, 41, 59, 44, 43, 45, 42, 47, 60, 61, 37]⟩ : ByteArray) = signsB from rfl]
  have hz := signsB_size
  have hz1 : signsB.size ≤ 13 := by omega
  have hz2 : 13 ≤ signsB.size := by omega
  clear hz
  go_wp2
  go_loop [4] (fun i => ∃ k : Nat, k ≤ 13 ∧ i = .int .i64 k ∧ (signs.take k).contains c = false) (fun i => 13 - (intOf i).toNat)
  case atStart => exact ⟨0, by omega, rfl, rfl⟩
  case round =>
    obtain ⟨k, hk, rfl, hn⟩ := hrel
    have HN := Lib.hid hn
    clear hn
    by_cases hlt : k < 13
    · have hlt' : k < signsB.size := by omega
      by_cases he : signsB[k] = c
      · have hb : ((signsB[k].toNat : Int) == (c.toNat : Int)) = true := by rw [he]; simp
        have HE := Lib.hid he
        clear he
        go_wp2
        go_ret
        refine ⟨ret_bool ?_, rfl⟩
        have : c ∈ signs := by rw [← HE.out]; exact List.getElem_mem (l := signs) hlt
        simp [this]
      · have hb : ((signsB[k].toNat : Int) == (c.toNat : Int)) = false := by
          simp only [beq_eq_false_iff_ne, ne_eq]; intro h; exact he (UInt8.toNat_inj.1 (by omega))
        have HE := Lib.hid he
        clear he
        go_wp2
        go_round
        case rel => exact ⟨k + 1, by omega, by go_num, signs_take c k hlt HN.out (fun h => HE.out (UInt8.toNat_inj.1 (by exact Int.ofNat_inj.1 h)))⟩
        case measure => simp [intOf]; omega
    · go_wp2
      go_ret
      refine ⟨ret_bool ?_, rfl⟩
      have := HN.out
      rw [List.take_of_length_le (by show 13 ≤ k; omega)] at this
      simpa using this
theorem bl_drop_get (s : ByteArray) (a j : Nat) (h : a + j < s.size) : ((bl s).drop a)[j]? = some s[a + j] := by
  rw [List.getElem?_drop]; exact bl_get? s (a + j) h
theorem run_stop2 (lo hi : Int) (s : ByteArray) (a k : Nat) (hk : a + k ≤ s.size) (h : ∀ j, (hj : j < k) → inR lo hi (s[a + j]'(by omega)) = true)
    (hs : ∀ hk' : a + k < s.size, inR lo hi s[a + k] = false) : runLen lo hi ((bl s).drop a) = k := by
  refine runLen_stop lo hi _ k (by rw [List.length_drop, length_bl]; omega) (fun j hj => ?_) (fun hk' => ?_)
  · rw [List.getElem_drop]; exact h j hj
  · rw [List.length_drop, length_bl] at hk'
    rw [List.getElem_drop]; exact hs (by omega)
set_option maxHeartbeats 400000 in
theorem digits_any (s : ByteArray) (at_ : Nat) (w : World) (hs : s.size ≤ 1000000000) (ha : at_ ≤ s.size) :
    Calls Try.prog 28 #[.string s, .int .i64 at_] w fun e w' => e = .returned (.int .i64 (runLen 48 57 ((bl s).drop at_))) ∧ w = w' := by
  go_enter Try.func28, Try.ntmps28
  go_wp2_with fail
  go_loop [5] (fun i => ∃ k : Nat, at_ + k ≤ s.size ∧ i = .int .i64 k ∧ (∀ j, (hj : j < k) → (hk : at_ + k ≤ s.size) → inR 48 57 (s[at_ + j]'(by omega)) = true)) (fun i => s.size - (intOf i).toNat)
  case atStart => exact ⟨0, by omega, rfl, fun j hj => absurd hj (by omega)⟩
  case round =>
    obtain ⟨k, hk, rfl, hall⟩ := hrel
    have Hall := Lib.hid hall
    clear hall
    by_cases hlt : at_ + k < s.size
    · cases hc : inR 48 57 s[at_ + k] with
      | true =>
        have HC := Lib.hid hc
        clear hc
        go_wp2_with (go_at_call 37; refine (digit_any _ _).mono ?_; rintro e w' ⟨rfl, rfl⟩; rw [HC.out])
        go_round
        case rel => exact ⟨k + 1, by omega, by go_num, fun j hj hk' => by
            by_cases e : j = k
            · subst e; exact HC.out
            · exact Hall.out j (by omega) hk⟩
        case measure => simp [intOf]; omega
      | false =>
        have HC := Lib.hid hc
        clear hc
        go_wp2_with (go_at_call 37; refine (digit_any _ _).mono ?_; rintro e w' ⟨rfl, rfl⟩; rw [HC.out])
        go_ret
        exact ⟨ret_int (by rw [run_stop2 48 57 s at_ k hk (fun j hj => Hall.out j hj hk) (fun _ => HC.out)]), rfl⟩
    · go_wp2_with fail
      go_ret
      exact ⟨ret_int (by rw [run_stop2 48 57 s at_ k hk (fun j hj => Hall.out j hj hk) (fun h => absurd h hlt)]), rfl⟩
end Go.Proofs.Ythpbioeilcfmlaa
