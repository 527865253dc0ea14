/-
  Plain: how many brackets and commas a text has.
-/
import Derived.Test.YtfihoalpmlfkpaaDoorPrtPlain3
namespace Go.Proofs.YtfihoalpmlfkpaaDoor
namespace Px
open Lx
def chB (op : Int) : Nat := if op = 8 ∨ op = 9 then 1 else 0
/-- how many parts are choices -/
def choF : Fo → Nat
  | .nil => 0
  | .node _ _ a l r => chB a.1 + choF l + choF r
/-- how many brackets stand around parts -/
def braF : Fo → Int → Nat → Nat
  | .nil, _, _ => 0
  | .node _ _ a l r, par, i => braF l a.1 0 + (if rankOf a.1 < leastOf par i then 1 else 0) + braF r par (i + 1)
theorem digit_ne (n : Nat) (c : UInt8) (h : c = 40 ∨ c = 41 ∨ c = 44) : digit n ≠ c := by
  intro e
  have h1 := congrArg UInt8.toNat e
  have hm : n % 10 < 10 := Nat.mod_lt _ (by omega)
  rw [digit, UInt8.toNat_ofNat'] at h1
  rcases h with rfl | rfl | rfl <;> simp at h1 <;> omega
theorem decF_count (c : UInt8) (h : c = 40 ∨ c = 41 ∨ c = 44) : ∀ (f n : Nat), (decF f n).count c = 0 := by
  intro f
  induction f with
  | zero => intro n; simp [decF]
  | succ f ih =>
    intro n
    rw [decF]
    split
    · simp [digit_ne n c h]
    · rw [List.count_append, ih]; simp [digit_ne n c h]
theorem leaf_count {op n : Int} (c : UInt8) (h : c = 40 ∨ c = 41 ∨ c = 44) (ho : op = 1 ∨ op = 2 ∨ op = 3) (t : Bytes) : (body op n t).count c = 0 := by
  rcases ho with rfl | rfl | rfl
  · exact decF_count c h _ _
  · simp only [body, moneyOf]
    simp only [show ¬ (2 : Int) = 1 by omega, if_false, if_true, List.count_append, dec, decF_count c h, List.count_cons, List.count_nil]
    have := digit_ne (n.toNat / 10) c h
    have := digit_ne n.toNat c h
    rcases h with rfl | rfl | rfl <;> simp [*]
  · simp only [body, nameOf]
    rcases h with rfl | rfl | rfl <;> (simp only [show ¬ (3 : Int) = 1 by omega, show ¬ (3 : Int) = 2 by omega, if_false, if_true]; repeat' split) <;> decide
theorem op_count (op n : Int) (h1 : ¬ op = 1) (h2 : ¬ op = 2) (h3 : ¬ op = 3) (t : Bytes) : (body op n t).count 40 = chB op + t.count 40 ∧ (body op n t).count 41 = chB op + t.count 41 ∧ (body op n t).count 44 = t.count 44 := by
  simp only [body, if_neg h1, if_neg h2, if_neg h3, List.count_append]
  by_cases h8 : op = 8
  · subst h8; simp [beginOf, endOf, chB]; omega
  · by_cases h9 : op = 9
    · subst h9; simp [beginOf, endOf, chB]; omega
    · have hc : chB op = 0 := by simp [chB, h8, h9]
      have he : endOf op = [] := by simp [endOf, h8, h9]
      have hb : (beginOf op).count 40 = 0 ∧ (beginOf op).count 41 = 0 ∧ (beginOf op).count 44 = 0 := by
        unfold beginOf
        simp only [if_neg h8, if_neg h9]
        repeat' split
        all_goals decide
      rw [hc, he, hb.1, hb.2.1, hb.2.2]
      simp
theorem sep_count (par : Int) (i : Nat) : (sepOf par i).count 40 = 0 ∧ (sepOf par i).count 41 = 0 := by
  unfold sepOf
  repeat' split
  all_goals decide
theorem sep_comma (par : Int) (i : Nat) (h1 : 4 ≤ par) (h2 : par ≤ 15) (h3 : par ≠ 15) : (sepOf par i).count 44 = chB par := by
  have : par = 4 ∨ par = 5 ∨ par = 6 ∨ par = 7 ∨ par = 8 ∨ par = 9 ∨ par = 10 ∨ par = 11 ∨ par = 12 ∨ par = 13 ∨ par = 14 := by omega
  rcases this with rfl | rfl | rfl | rfl | rfl | rfl | rfl | rfl | rfl | rfl | rfl
  all_goals (simp [sepOf, chB]; try (split <;> decide))
theorem brk_count (b : Bool) (t : Bytes) : (brk b t).count 40 = t.count 40 + (if b = true then 1 else 0) ∧ (brk b t).count 41 = t.count 41 + (if b = true then 1 else 0) ∧ (brk b t).count 44 = t.count 44 := by
  cases b <;> simp [brk]
theorem formed_leaf {op n : Int} {l : Fo} (h : formedB op n (flen l) = true) (ho : op = 1 ∨ op = 2 ∨ op = 3) : l = .nil := by
  have hk : flen l = 0 := by rcases ho with rfl | rfl | rfl <;> simp [formedB] at h <;> omega
  cases l with
  | nil => rfl
  | node b o a l r => simp [flen] at hk
/-- the brackets of an expression's text, if those of its parts are known -/
theorem node_count {op n : Int} {l : Fo} (h : formedB op n (flen l) = true) (h4 : (textF l op 0).count 40 = braF l op 0 + choF l) (h5 : (textF l op 0).count 41 = braF l op 0 + choF l) :
    (textE op n l).count 40 = braF l op 0 + (chB op + choF l) ∧ (textE op n l).count 41 = braF l op 0 + (chB op + choF l) := by
  by_cases ho : op = 1 ∨ op = 2 ∨ op = 3
  · have := formed_leaf h ho
    subst this
    have hc : chB op = 0 := by rcases ho with rfl | rfl | rfl <;> rfl
    rw [textE, leaf_count 40 (by simp) ho, leaf_count 41 (by simp) ho, hc]
    simp [braF, choF]
  · obtain ⟨g1, g2, _⟩ := op_count op n (by omega) (by omega) (by omega) (textF l op 0)
    rw [textE, g1, g2, h4, h5]
    omega
theorem text_count : ∀ (f : Fo) (par : Int) (i : Nat), okF f = true → (textF f par i).count 40 = braF f par i + choF f ∧ (textF f par i).count 41 = braF f par i + choF f := by
  intro f
  induction f with
  | nil => intro par i _; simp [textF, braF, choF]
  | node b o a l r ihl ihr =>
    intro par i h
    simp only [okF, Bool.and_eq_true] at h
    obtain ⟨h1, h2⟩ := ihl a.1 0 h.1.2
    obtain ⟨h3, h4⟩ := ihr par (i + 1) h.2
    obtain ⟨h5, h6⟩ := node_count h.1.1 h1 h2
    obtain ⟨b1, b2, _⟩ := brk_count (decide (rankOf a.1 < leastOf par i)) (textE a.1 a.2 l)
    have s1 : (if 0 < i then sepOf par i else []).count 40 = 0 := by split <;> simp [(sep_count par i).1]
    have s2 : (if 0 < i then sepOf par i else []).count 41 = 0 := by split <;> simp [(sep_count par i).2]
    rw [show textF (.node b o a l r) par i = (if 0 < i then sepOf par i else []) ++ brk (decide (rankOf a.1 < leastOf par i)) (textE a.1 a.2 l) ++ textF r par (i + 1) from rfl]
    simp only [List.count_append, s1, s2, b1, b2, h3, h4, h5, h6, braF, choF, decide_eq_true_eq]
    omega
/-- what the parts of one row have of commas -/
theorem text_comma : ∀ (f : Fo) (par : Int) (i : Nat), okF f = true → (4 ≤ par ∧ par ≤ 14) ∨ flen f + i ≤ 1 → (textF f par i).count 44 = chB par * (flen f + i - 1 - (i - 1)) + choF f := by
  intro f
  induction f with
  | nil => intro par i _ _; simp only [textF, flen, choF, List.count_nil]; rw [show 0 + i - 1 - (i - 1) = 0 by omega]; simp
  | node b o a l r ihl ihr =>
    intro par i h hp
    simp only [okF, Bool.and_eq_true] at h
    simp only [flen] at hp
    have h3 := ihr par (i + 1) h.2 (by omega)
    obtain ⟨_, _, b3⟩ := brk_count (decide (rankOf a.1 < leastOf par i)) (textE a.1 a.2 l)
    have hE : (textE a.1 a.2 l).count 44 = chB a.1 + choF l := by
      by_cases ho : a.1 = 1 ∨ a.1 = 2 ∨ a.1 = 3
      · have hl := formed_leaf h.1.1 ho
        subst hl
        have hc : chB a.1 = 0 := by rcases ho with e | e | e <;> rw [e] <;> rfl
        rw [textE, leaf_count 44 (by simp) ho, hc]; rfl
      · obtain ⟨_, _, g3⟩ := op_count a.1 a.2 (by omega) (by omega) (by omega) (textF l a.1 0)
        have hf := h.1.1
        have h1 : (4 ≤ a.1 ∧ a.1 ≤ 14) ∨ flen l + 0 ≤ 1 := by
          simp only [formedB, if_neg (show ¬ a.1 = 1 by omega), if_neg (show ¬ a.1 = 2 by omega), if_neg (show ¬ a.1 = 3 by omega)] at hf
          split at hf
          · simp at hf; omega
          · split at hf
            · omega
            · simp at hf; omega
        have h2 := ihl a.1 0 h.1.2 h1
        rw [textE, g3, h2]
        by_cases hc : a.1 = 8 ∨ a.1 = 9
        · have hk : flen l = 2 := by rcases hc with e | e <;> rw [e] at hf <;> simp [formedB] at hf <;> omega
          rw [hk]; omega
        · rw [show chB a.1 = 0 by simp [chB, hc]]; omega
    have s1 : (if 0 < i then sepOf par i else []).count 44 = if 0 < i then chB par else 0 := by
      split
      · exact sep_comma par i (by omega) (by omega) (by omega)
      · rfl
    rw [show textF (.node b o a l r) par i = (if 0 < i then sepOf par i else []) ++ brk (decide (rankOf a.1 < leastOf par i)) (textE a.1 a.2 l) ++ textF r par (i + 1) from rfl]
    simp only [List.count_append, s1, b3, h3, hE, flen, choF]
    by_cases hi : 0 < i
    · rw [if_pos hi, show flen r + 1 + i - 1 - (i - 1) = (flen r + (i + 1) - 1 - (i + 1 - 1)) + 1 by omega, Nat.mul_add]
      omega
    · have h0 : i = 0 := by omega
      subst h0
      rw [if_neg hi, show flen r + 1 + 0 - 1 - (0 - 1) = flen r + (0 + 1) - 1 - (0 + 1 - 1) by omega]
      omega
theorem expr_count {op n : Int} {l : Fo} (h : validB op n l = true) : (textE op n l).count 40 = braF l op 0 + (chB op + choF l) ∧ (textE op n l).count 41 = braF l op 0 + (chB op + choF l) ∧ (textE op n l).count 44 = chB op + choF l := by
  obtain ⟨h1, h2, _⟩ := valid_parts h
  obtain ⟨g1, g2⟩ := text_count l op 0 h2
  obtain ⟨g3, g4⟩ := node_count h1 g1 g2
  refine ⟨g3, g4, ?_⟩
  have h5 := text_comma (.node 0 0 (op, n) l .nil) 10 0 (by simp [okF, h1, h2]) (Or.inr (by simp [flen]))
  obtain ⟨_, _, b3⟩ := brk_count (decide (rankOf op < leastOf 10 0)) (textE op n l)
  rw [show textF (.node 0 0 (op, n) l .nil) 10 0 = [] ++ brk (decide (rankOf op < leastOf 10 0)) (textE op n l) ++ [] from rfl, List.append_nil, List.nil_append, b3] at h5
  simpa [flen, choF] using h5
end Px
end Go.Proofs.YtfihoalpmlfkpaaDoor
