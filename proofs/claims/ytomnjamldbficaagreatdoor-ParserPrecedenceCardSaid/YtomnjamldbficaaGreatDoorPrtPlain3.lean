/-
  Plain: how long texts are; the texts of parts.
-/
import Derived.Test.YtomnjamldbficaaGreatDoorPrtW5
import Derived.Test.YtomnjamldbficaaGreatDoorPrtPlain2
import Derived.Test.YtomnjamldbficaaGreatDoorPrtW3
namespace Go.Proofs.YtomnjamldbficaaGreatDoor
namespace Px
open Lx
def nodesF : Fo → Nat
  | .nil => 0
  | .node _ _ _ l r => nodesF l + nodesF r + 1
theorem fits_nodes : ∀ (f : Fo) (lv left x : Int), fitsF f lv left = (true, x) → (nodesF f : Int) = left - x := by
  intro f
  induction f with
  | nil => intro lv left x h; simp [fitsF] at h; simp [nodesF]; omega
  | node b o a l r ihl ihr =>
    intro lv left x h
    rw [fitsF] at h
    split at h
    · simp at h
    · split at h
      · simp at h
      · rename_i y e
        have h1 := ihl _ _ _ e
        have h2 := ihr _ _ _ h
        simp only [nodesF]
        omega
theorem nodes_get : ∀ (f : Fo) (k : Nat), k < flen f → nodesF (getF f k).2 + 1 ≤ nodesF f := by
  intro f
  induction f with
  | nil => intro k h; simp [flen] at h
  | node b o a l r _ ihr =>
    intro k h
    cases k with
    | zero => simp [getF, nodesF]
    | succ k => have := ihr k (by simp [flen] at h; omega); simp only [getF, nodesF]; omega
theorem begin_len (op : Int) : (beginOf op).length + (endOf op).length ≤ 5 := by
  unfold beginOf endOf
  repeat' split
  all_goals simp
theorem sep_len (op : Int) (i : Nat) : (sepOf op i).length ≤ 6 := by
  unfold sepOf
  repeat' split
  all_goals simp
theorem name_len (n : Int) : (nameOf n).length ≤ 7 := by
  unfold nameOf
  repeat' split
  all_goals simp
theorem brk_len (b : Bool) (t : Bytes) : (brk b t).length ≤ t.length + 2 := by
  unfold brk; split <;> simp
theorem body_len {op n : Int} {k : Nat} (h : formedB op n k = true) (t : Bytes) : (body op n t).length ≤ t.length + 16 := by
  unfold body
  split
  · next e => subst e; simp [formedB] at h; have := dec_len n (by omega) (by omega); omega
  · split
    · next e => subst e; simp [formedB] at h; have := dec_len (n / 100) (by omega) (by omega); simp [moneyOf]; omega
    · split
      · have := name_len n; omega
      · have := begin_len op; simp; omega
theorem text_len : ∀ (f : Fo) (par : Int) (i : Nat), okF f = true → (textF f par i).length ≤ 24 * nodesF f := by
  intro f
  induction f with
  | nil => intro par i _; simp [textF, nodesF]
  | node b o a l r ihl ihr =>
    intro par i h
    simp only [okF, Bool.and_eq_true] at h
    have h1 := ihl a.1 0 h.1.2
    have h2 := ihr par (i + 1) h.2
    have h3 := body_len h.1.1 (textF l a.1 0)
    have h4 := brk_len (decide (rankOf a.1 < leastOf par i)) (body a.1 a.2 (textF l a.1 0))
    have h5 : (if 0 < i then sepOf par i else []).length ≤ 6 := by split <;> first | exact sep_len _ _ | simp
    simp only [textF, List.length_append, nodesF]
    omega
theorem textE_len (op n : Int) (l : Fo) (h : formedB op n (flen l) = true) (hl : okF l = true) : (textE op n l).length ≤ 24 * (nodesF l + 1) := by
  have h1 := text_len l op 0 hl
  have h2 := body_len h (textF l op 0)
  unfold textE
  omega
theorem valid_parts {op n : Int} {l : Fo} (h : validB op n l = true) : formedB op n (flen l) = true ∧ okF l = true ∧ nodesF l ≤ 199 := by
  unfold validB at h
  obtain ⟨x, hx⟩ : ∃ x, fitsF (.node 0 0 (op, n) l .nil) 30 200 = (true, x) := by
    cases hf : fitsF (.node 0 0 (op, n) l .nil) 30 200 with
    | mk b x => rw [hf] at h; exact ⟨x, by rw [show b = true from h]⟩
  have h1 := okF_of _ _ _ _ hx
  have h2 := fits_nodes _ _ _ _ hx
  have h3 : 0 ≤ x := by
    rw [fitsF] at hx
    split at hx
    · simp at hx
    · rename_i hn
      split at hx
      · simp at hx
      · rename_i y e
        have := fitsF_ok l _ _ _ e (by omega)
        simp [fitsF] at hx
        omega
  simp only [okF, Bool.and_eq_true, and_true, nodesF] at h1 h2
  exact ⟨h1.1, h1.2, by omega⟩
/-- the texts of the parts of an expression, in brackets where these are needed -/
def kidT : Fo → Int → Nat → List Bytes
  | .nil, _, _ => []
  | .node _ _ a l r, par, i => brk (decide (rankOf a.1 < leastOf par i)) (textE a.1 a.2 l) :: kidT r par (i + 1)
theorem kidT_len : ∀ (f : Fo) (par : Int) (i : Nat), (kidT f par i).length = flen f := by
  intro f
  induction f with
  | nil => intro par i; rfl
  | node b o a l r _ ihr => intro par i; simp [kidT, flen, ihr]
theorem kid_one (l : Fo) (op : Int) (h : flen l = 1) : ∃ t, kidT l op 0 = [t] ∧ textF l op 0 = t := by
  match l, h with
  | .node _ _ a l' .nil, _ => exact ⟨_, rfl, by simp [textF, textE]⟩
  | .node _ _ a l' (.node _ _ _ _ _), h => simp [flen] at h
theorem kid_two (l : Fo) (op : Int) (h : flen l = 2) : ∃ t u, kidT l op 0 = [t, u] ∧ textF l op 0 = t ++ sepOf op 1 ++ u := by
  match l, h with
  | .node _ _ a l1 .nil, h => simp [flen] at h
  | .node _ _ a l1 (.node _ _ b l2 .nil), _ => exact ⟨_, _, rfl, by simp [textF, textE]⟩
  | .node _ _ a l1 (.node _ _ b l2 (.node _ _ _ _ _)), h => simp [flen] at h
theorem kid_three (l : Fo) (op : Int) (h : flen l = 3) : ∃ t u v, kidT l op 0 = [t, u, v] ∧ textF l op 0 = t ++ sepOf op 1 ++ u ++ sepOf op 2 ++ v := by
  match l, h with
  | .node _ _ a l1 .nil, h => simp [flen] at h
  | .node _ _ a l1 (.node _ _ b l2 .nil), h => simp [flen] at h
  | .node _ _ a l1 (.node _ _ b l2 (.node _ _ c l3 .nil)), _ => exact ⟨_, _, _, rfl, by simp [textF, textE]⟩
  | .node _ _ a l1 (.node _ _ b l2 (.node _ _ c l3 (.node _ _ _ _ _))), h => simp [flen] at h
end Px
end Go.Proofs.YtomnjamldbficaaGreatDoor
