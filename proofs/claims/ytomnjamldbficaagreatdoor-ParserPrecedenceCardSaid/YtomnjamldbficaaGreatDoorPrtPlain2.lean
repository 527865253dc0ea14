/-
  Plain: decimal digits.
-/
import Derived.Test.YtomnjamldbficaaGreatDoorPrtPlain
import Derived.Lib.ItoaNum
namespace Go.Proofs.YtomnjamldbficaaGreatDoor
namespace Px
open Lx
theorem decDigits_eq (u : Nat) : Lib.decDigits u = if u < 10 then [UInt8.ofNat (48 + u)] else Lib.decDigits (u / 10) ++ [UInt8.ofNat (48 + u % 10)] := by
  rw [Lib.decDigits]; split <;> rfl
theorem decF_eq : ∀ (f u : Nat), u < 10 ^ f → 0 < f → decF f u = Lib.decDigits u := by
  intro f
  induction f with
  | zero => intro u _ h; omega
  | succ f ih =>
    intro u hu _
    rw [decF, decDigits_eq]
    by_cases h : u < 10
    · rw [if_pos h, if_pos h, digit, Nat.mod_eq_of_lt h]
    · rw [if_neg h, if_neg h]
      have hf : 0 < f := by
        cases f with
        | zero => simp at hu; omega
        | succ f => omega
      rw [ih (u / 10) (by rw [Nat.pow_succ] at hu; omega) hf, digit]
theorem dec_itoa (n : Int) (h0 : 0 ≤ n) (h1 : n ≤ 1000000000000) : Lib.itoa n = dec n := by
  unfold Lib.itoa dec
  rw [if_neg (by omega), decF_eq 20 n.toNat (by omega) (by omega)]
/-- the digits of a number, none for 0 -/
def digs (m : Nat) : Bytes := if m = 0 then [] else Lib.decDigits m
theorem digs_step (m : Nat) (h : 0 < m) : digs m = digs (m / 10) ++ [UInt8.ofNat (48 + m % 10)] := by
  unfold digs
  rw [if_neg (by omega), decDigits_eq]
  by_cases h10 : m < 10
  · rw [if_pos h10, if_pos (by omega), Nat.mod_eq_of_lt h10]; rfl
  · rw [if_neg h10, if_neg (by omega)]
theorem digs_len (m : Nat) (h : m < 10000000000000) : (digs m).length ≤ 13 := by
  have h2 : ∀ (k m : Nat), m < 10 ^ k → (digs m).length ≤ k := by
    intro k
    induction k with
    | zero => intro m hm; rw [show m = 0 by simpa using hm]; simp [digs]
    | succ k ih =>
      intro m hm
      by_cases h0 : 0 < m
      · rw [digs_step m h0, List.length_append, List.length_singleton]
        have := ih (m / 10) (by rw [Nat.pow_succ] at hm; omega)
        omega
      · rw [show m = 0 by omega]; simp [digs]
  exact h2 13 m (by omega)
theorem dec_digs (n : Int) (h0 : 0 < n) (h1 : n ≤ 1000000000000) : dec n = digs n.toNat := by
  rw [← dec_itoa n (by omega) h1, digs, if_neg (by omega), Lib.itoa, if_neg (by omega)]
theorem dec_zero : dec 0 = [48] := by decide
theorem dec_len (n : Int) (h0 : 0 ≤ n) (h1 : n ≤ 1000000000000) : (dec n).length ≤ 13 := by
  by_cases h : 0 < n
  · rw [dec_digs n h h1]; exact digs_len _ (by omega)
  · rw [show n = 0 by omega, dec_zero]; decide
theorem dec_one (k : Nat) (h : k < 10) : dec (k : Int) = [digit k] := by
  have := decF_eq 20 k (by omega) (by omega)
  unfold dec
  rw [Int.toNat_natCast, this, decDigits_eq, if_pos h, digit, Nat.mod_eq_of_lt h]
theorem money_eq (n : Int) (h0 : 0 ≤ n) (h1 : n ≤ 1000000000) : moneyOf n = dec (n / 100) ++ [46] ++ dec (n % 100 / 10) ++ dec (n % 10) := by
  have e1 : dec (n % 100 / 10) = [digit (n.toNat / 10)] := by
    have := dec_one (n.toNat / 10 % 10) (by omega)
    rw [show ((n.toNat / 10 % 10 : Nat) : Int) = n % 100 / 10 by omega] at this
    rw [this, digit, digit]
    congr 3
    omega
  have e2 : dec (n % 10) = [digit n.toNat] := by
    have := dec_one (n.toNat % 10) (by omega)
    rw [show ((n.toNat % 10 : Nat) : Int) = n % 10 by omega] at this
    rw [this, digit, digit]
    congr 3
    omega
  rw [e1, e2, moneyOf]
  simp
end Px
end Go.Proofs.YtomnjamldbficaaGreatDoor
