/-
  Plain: the numbers of tokens with digits.
-/
import Derived.Test.YtomnjamldbficaaGreatDoorPrtRead
import Derived.Lib.Atoi
import Derived.Lib.Replace
namespace Go.Proofs.YtomnjamldbficaaGreatDoor
namespace Px
open Lx
theorem idx46 : ∀ s : Bytes, (Go.Lib.index s [46] = -1 ∧ s.filter (· != 46) = s) ∨ ∃ a b, s = a ++ 46 :: b ∧ Go.Lib.index s [46] = a.length ∧ a.filter (· != 46) = a := by
  intro s
  induction s with
  | nil => exact .inl ⟨rfl, rfl⟩
  | cons c s ih =>
    by_cases h : c = 46
    · subst h
      exact .inr ⟨[], s, rfl, by simp [Go.Lib.index], rfl⟩
    · have hp : ([46] : Bytes).isPrefixOf (c :: s) = false := by
        simp [List.isPrefixOf, Ne.symm h]
      have hc : (c != 46) = true := by simpa using h
      rcases ih with ⟨h1, h2⟩ | ⟨a, b, e, h1, h2⟩
      · refine .inl ⟨?_, by simp [hc, h2]⟩
        rw [Go.Lib.index, hp, h1]; rfl
      · refine .inr ⟨c :: a, b, by rw [e]; rfl, ?_, by simp [hc, h2]⟩
        rw [Go.Lib.index, hp, h1]
        have : ((a.length : Int) == -1) = false := by rw [beq_eq_false_iff_ne]; omega
        simp [this]
theorem repl46 : ∀ (f : Nat) (s : Bytes), s.length < f → Go.Lib.replaceK [46] [] (Go.Lib.countFrom [46] f s) s = s.filter (· != 46) := by
  intro f
  induction f with
  | zero => intro s h; omega
  | succ f ih =>
    intro s h
    rcases idx46 s with ⟨h1, h2⟩ | ⟨a, b, e, h1, h2⟩
    · rw [Go.Lib.countFrom, h1, h2]; rfl
    · have hm : (Go.Lib.index s [46] == -1) = false := by rw [h1, beq_eq_false_iff_ne]; omega
      have ht : (Go.Lib.index s [46]).toNat = a.length := by rw [h1]; omega
      have hd : s.drop (a.length + 1) = b := by rw [e]; simp
      have htk : s.take a.length = a := by rw [e]; simp
      have hb : b.length < f := by rw [e] at h; simp at h; omega
      rw [Go.Lib.countFrom, hm, ht]
      simp only [List.length_singleton, Bool.false_eq_true, if_false]
      rw [hd, Nat.add_comm, Go.Lib.replaceK, hm, ht]
      simp only [List.length_singleton, Bool.false_eq_true, if_false]
      rw [hd, htk, ih b hb, e]
      simp [h2]
theorem replaceAll46 (s : Bytes) : Go.Lib.replaceAll s [46] [] = s.filter (· != 46) := by
  unfold Go.Lib.replaceAll Go.Lib.replace Go.Lib.replaceNum
  rw [if_neg (by decide), if_pos (.inl (by omega))]
  exact repl46 (s.length + 1) s (by omega)
theorem decFrom_val : ∀ (l : Bytes) (acc : Nat), l.all (inR 48 57) = true → ∃ m : Nat, Go.Lib.decFrom acc l = some m ∧ (m : Int) = l.foldl (fun n c => 10 * n + ((c.toNat : Int) - 48)) (acc : Int) := by
  intro l
  induction l with
  | nil => intro acc _; exact ⟨acc, rfl, rfl⟩
  | cons c l ih =>
    intro acc h
    simp only [List.all_cons, Bool.and_eq_true] at h
    have hc : 48 ≤ c.toNat ∧ c.toNat ≤ 57 := by
      have := h.1
      simp only [inR, Bool.and_eq_true, decide_eq_true_eq] at this
      omega
    obtain ⟨m, h1, h2⟩ := ih (acc * 10 + (c.toNat - 48)) h.2
    refine ⟨m, ?_, ?_⟩
    · rw [Go.Lib.decFrom, Go.Lib.digitVal, if_pos hc]
      exact h1
    · rw [h2, List.foldl_cons]
      congr 1
      omega
theorem atoi_val (l : Bytes) (h : l.all (inR 48 57) = true) (hne : l ≠ []) : Go.Lib.atoi l = some (val l) := by
  obtain ⟨m, h1, h2⟩ := decFrom_val l 0 h
  cases l with
  | nil => exact absurd rfl hne
  | cons c r =>
    simp only [List.all_cons, Bool.and_eq_true] at h
    have h45 : (c == 45) = false := by
      rw [beq_eq_false_iff_ne]; rintro rfl; exact absurd h.1 (by decide)
    have h43 : (c == 43) = false := by
      rw [beq_eq_false_iff_ne]; rintro rfl; exact absurd h.1 (by decide)
    rw [Go.Lib.atoi, h45, h43]
    simp only [Go.Lib.decNat, List.isEmpty_cons, Bool.false_eq_true, if_false, h1, Option.map_some]
    rw [h2]
    rfl
/-- the number of a token with digits, as strconv.Atoi reads it behind strings.ReplaceAll -/
theorem num_atoi (t : Bytes) (h : kindOf t = 2 ∨ kindOf t = 3) : Go.Lib.atoi (t.filter (· != 46)) = some (dval t) ∧ (t.filter (· != 46)).length ≤ 18 ∧ t.length ≤ 100 := by
  have key : isNum t = true ∨ isMon t = true := by
    unfold kindOf at h
    split at h
    · omega
    · split at h
      · left; assumption
      · split at h
        · right; assumption
        · split at h <;> omega
  rcases key with hn | hm
  · simp only [isNum, allR, Bool.and_eq_true, Bool.not_eq_true', List.isEmpty_eq_false_iff, decide_eq_true_eq] at hn
    have hf : t.filter (· != 46) = t := by
      rw [List.filter_eq_self]
      intro c hc
      have := all_mem hn.1.1.2 hc
      simp only [bne_iff_ne]
      rintro rfl
      exact absurd this (by decide)
    unfold dval
    rw [hf]
    exact ⟨atoi_val t hn.1.1.2 hn.1.1.1, by omega, by omega⟩
  · simp only [isMon, isNum, allR, Bool.and_eq_true, Bool.not_eq_true', List.isEmpty_eq_false_iff, decide_eq_true_eq] at hm
    have hs := whole_split t hm.1.1.1.1
    have nd : ∀ l : Bytes, l.all (inR 48 57) = true → l.filter (· != 46) = l := by
      intro l hl
      rw [List.filter_eq_self]
      intro c hc
      have := all_mem hl hc
      simp only [bne_iff_ne]
      rintro rfl
      exact absurd this (by decide)
    have hf : t.filter (· != 46) = whole t ++ frac t := by
      conv => lhs; rw [hs]
      rw [List.filter_append, nd _ hm.1.1.1.2.1.1.2, List.filter_cons]
      simp [nd _ hm.1.2.2]
    have hw : (whole t).length ≤ 9 := hm.1.1.1.2.1.2
    have hl : t.length = (whole t).length + 1 + (frac t).length := by
      have := congrArg List.length hs
      simp at this
      omega
    have hfr : (frac t).length = 2 := hm.1.1.2
    unfold dval
    rw [hf]
    refine ⟨atoi_val _ ?_ ?_, by simp; omega, by omega⟩
    · rw [List.all_append, hm.1.1.1.2.1.1.2, hm.1.2.2]; rfl
    · intro e
      exact hm.1.1.1.2.1.1.1 (List.append_eq_nil_iff.1 e).1
end Px
end Go.Proofs.YtomnjamldbficaaGreatDoor
