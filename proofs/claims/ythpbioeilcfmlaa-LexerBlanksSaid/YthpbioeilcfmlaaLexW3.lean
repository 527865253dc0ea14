/-
  Walks: strings.Cut and strings.Contains at one byte; isMoney, kinds, kindOf.
-/
import Derived.Test.YthpbioeilcfmlaaLexW2
import Derived.IntWalk
namespace Go.Proofs.Ythpbioeilcfmlaa
open Go.RowKit Lx
/-- strings.Cut at one byte -/
theorem index_lib (l : Bytes) (c : UInt8) : Lib.indexByte l c = if l.contains c then ((l.takeWhile (· != c)).length : Int) else -1 := by
  induction l with
  | nil => simp [Lib.indexByte]
  | cons a l ih =>
    simp only [Lib.indexByte]
    by_cases h : a = c
    · subst h; simp
    · have h' : (a == c) = false := by simp [h]
      have h2 : (c == a) = false := by simp; exact fun e => h e.symm
      have h3 : (a != c) = true := by simp [h]
      simp only [h', List.contains_cons, h2, Bool.false_or, Bool.false_eq_true, if_false, List.takeWhile_cons, h3, if_true]
      rw [ih]
      by_cases hc : l.contains c = true
      · rw [if_pos hc, if_pos hc]
        simp
      · rw [if_neg hc, if_neg hc]; simp
theorem takeWhile_lt (l : Bytes) (c : UInt8) (h : l.contains c = true) : (l.takeWhile (· != c)).length < l.length := by
  induction l with
  | nil => simp at h
  | cons a l ih =>
    by_cases e : a = c
    · subst e; simp
    · have h2 : (c == a) = false := by simp; exact fun e' => e e'.symm
      rw [List.contains_cons, h2, Bool.false_or] at h
      have := ih h
      simp [e]; omega
theorem take_takeWhile (l : Bytes) (p : UInt8 → Bool) : l.take (l.takeWhile p).length = l.takeWhile p := by
  induction l with
  | nil => rfl
  | cons a l ih => simp only [List.takeWhile_cons]; split <;> simp [ih]
theorem drop_takeWhile (l : Bytes) (p : UInt8 → Bool) : l.drop (l.takeWhile p).length = l.dropWhile p := by
  induction l with
  | nil => rfl
  | cons a l ih => simp only [List.takeWhile_cons, List.dropWhile_cons]; split <;> simp [ih]
theorem dropWhile_no (l : Bytes) (c : UInt8) (h : l.contains c = false) : l.dropWhile (· != c) = [] := by
  induction l with
  | nil => rfl
  | cons a l ih =>
    rw [List.contains_cons, Bool.or_eq_false_iff] at h
    have : (a != c) = true := by
      have := h.1; simp at this; simp; exact fun e => this e.symm
    rw [List.dropWhile_cons, if_pos this, ih h.2]
theorem mk_extract (s : ByteArray) (a b : Nat) (l : Bytes) (h : ((bl s).drop a).take (b - a) = l) : s.extract a b = mk l := by
  rw [← mk_bl (s.extract a b), bl_extract, h]
def cutA (c : UInt8) (s : ByteArray) : ByteArray := mk ((bl s).takeWhile (· != c))
def cutB (c : UInt8) (s : ByteArray) : ByteArray := mk ((bl s).dropWhile (· != c)).tail
def cutOk (c : UInt8) (s : ByteArray) : Bool := (bl s).contains c
theorem takeWhile_no (l : Bytes) (c : UInt8) (h : l.contains c = false) : l.takeWhile (· != c) = l := by
  induction l with
  | nil => rfl
  | cons a l ih =>
    rw [List.contains_cons, Bool.or_eq_false_iff] at h
    have : (a != c) = true := by
      have := h.1; simp at this; simp; exact fun e => this e.symm
    rw [List.takeWhile_cons, if_pos this, ih h.2]
set_option maxHeartbeats 400000 in
theorem scut_any (s : ByteArray) (c : UInt8) (w : World) (hs : s.size ≤ maxLen) :
    Calls Try.prog 38 #[.string s, .string ⟨#[c]⟩] w fun e w' => e = .returned (.tuple #[.string (cutA c s), .string (cutB c s), .bool (cutOk c s)]) ∧ Below w.heap.size w w' := by
  unfold maxLen at hs
  have hi := index_lib (bl s) c
  cases hc : (bl s).contains c with
  | false =>
    have hA : cutA c s = s := by rw [cutA, takeWhile_no _ _ hc, mk_bl]
    have hB : cutB c s = ⟨#[]⟩ := by rw [cutB, dropWhile_no _ _ hc]; rfl
    have hC : cutOk c s = false := hc
    rw [hc] at hi
    simp only [Bool.false_eq_true, if_false] at hi
    have HI := Lib.hid hi
    clear hi hc
    rw [hA, hB, hC]
    clear hA hB hC
    go_enter Try.func38, Try.ntmps38
    go_wp2_with (go_at_call 51; refine (Try.stringslite_Index_one _ _ _).mono ?_; rintro e w1 ⟨rfl, rfl⟩; rw [show s.data.toList = bl s from rfl, HI.out])
    go_ret3
    exact ⟨rfl, bself _⟩
  | true =>
    have hlt := takeWhile_lt _ _ hc
    rw [length_bl] at hlt
    rw [hc] at hi
    simp only [if_true] at hi
    have e1 : s.extract 0 ((bl s).takeWhile (· != c)).length = cutA c s := mk_extract _ _ _ _ (by simp [take_takeWhile])
    have e2 : s.extract (((bl s).takeWhile (· != c)).length + 1) s.size = cutB c s := mk_extract _ _ _ _ (by
      rw [List.take_of_length_le (by simp [length_bl]), ← drop_takeWhile, List.tail_drop])
    have hC : cutOk c s = true := hc
    generalize ((bl s).takeWhile (· != c)).length = n at *
    have HI := Lib.hid hi
    rw [← e1, ← e2, hC]
    clear hi hc e1 e2 hC
    have z1 : IntKind.i64.wrap ((n : Int) + 1) = n + 1 := IntWalk.i64_in _ (by omega)
    have z2 : ((n : Int) + 1).toNat = n + 1 := by omega
    have z3 : 0 ≤ (n : Int) + 1 := by omega
    go_enter Try.func38, Try.ntmps38
    go_wp2_with (go_at_call 51; refine (Try.stringslite_Index_one _ _ _).mono ?_; rintro e w1 ⟨rfl, rfl⟩; rw [show s.data.toList = bl s from rfl, HI.out])
    go_quiet (fail)
    go_wp2
    go_ret3
    exact ⟨rfl, below_drewN (bself _) _⟩
set_option maxHeartbeats 400000 in
theorem cut_any (s : ByteArray) (c : UInt8) (w : World) (hs : s.size ≤ maxLen) :
    Calls Try.prog 30 #[.string s, .string ⟨#[c]⟩] w fun e w' => e = .returned (.tuple #[.string (cutA c s), .string (cutB c s), .bool (cutOk c s)]) ∧ Below w.heap.size w w' := by
  go_enter Try.func30, Try.ntmps30
  go_wp2_with (go_at_call 38; refine (scut_any _ _ _ hs).mono ?_; rintro e w1 ⟨rfl, hb⟩)
  go_ret3
  exact ⟨rfl, hb⟩
/-- 'for _, c := range t { cents = 10*cents + int(c-'0') }': of digits -/
theorem val_snoc (l : Bytes) (c : UInt8) : val (l ++ [c]) = 10 * val l + ((c.toNat : Int) - 48) := by simp [val]
theorem val_acc (l : Bytes) (h : l.all (inR 48 57) = true) : ∀ a : Int, 0 ≤ a → 0 ≤ l.foldl (fun n c => 10 * n + ((c.toNat : Int) - 48)) a ∧ l.foldl (fun n c => 10 * n + ((c.toNat : Int) - 48)) a + 1 ≤ (a + 1) * 10 ^ l.length := by
  induction l with
  | nil => intro a ha; simp; exact ha
  | cons c l ih =>
    intro a ha
    rw [List.all_cons, Bool.and_eq_true] at h
    have h1 := h.1
    simp [inR] at h1
    obtain ⟨x, y⟩ := ih h.2 (10 * a + ((c.toNat : Int) - 48)) (by omega)
    refine ⟨x, Int.le_trans y ?_⟩
    rw [List.length_cons, Int.pow_succ, Int.mul_comm (10 ^ l.length) 10, ← Int.mul_assoc]
    exact Int.mul_le_mul_of_nonneg_right (by omega) (Int.le_of_lt (Int.pow_pos (by omega)))
theorem val_bd (l : Bytes) (h : l.all (inR 48 57) = true) : 0 ≤ val l ∧ val l + 1 ≤ 10 ^ l.length := by
  have := val_acc l h 0 (by omega)
  simpa [val] using this
theorem all_of_allR {lo hi : Int} {l : Bytes} (h : allR lo hi l = true) : l.all (inR lo hi) = true := by simp only [allR, Bool.and_eq_true] at h; exact h.2
end Go.Proofs.Ythpbioeilcfmlaa
