/-
  Plain: the text of an expression is read as this expression.
-/
import Derived.Test.YtomnjamldbficaaGreatDoorPrtRead
namespace Go.Proofs.YtomnjamldbficaaGreatDoor
namespace Px
open Lx
theorem begin_kinds (op : Int) : ∀ t ∈ tkBegin op ++ tkEnd op, kindOf t ≠ 0 := by
  unfold tkBegin tkEnd
  intro t ht
  rw [List.mem_append] at ht
  rcases ht with ht | ht
  · revert ht
    repeat' split
    all_goals
      intro ht
      simp only [List.mem_cons, List.not_mem_nil, or_false] at ht
    all_goals first
      | exact ht.elim
      | (rcases ht with rfl | rfl <;> decide)
      | (subst ht; decide)
  · revert ht
    split
    all_goals
      intro ht
      simp only [List.mem_cons, List.not_mem_nil, or_false] at ht
    all_goals first
      | exact ht.elim
      | (subst ht; decide)
theorem sep_kind (op : Int) (i : Nat) : kindOf (tkSep op i) ≠ 0 := by
  unfold tkSep
  repeat' split
  all_goals decide
theorem body_kinds (op n : Int) (l : Fo) (hf : formedB op n (flen l) = true) (ih : ∀ t ∈ tkF l op 0, kindOf t ≠ 0) : ∀ t ∈ tkBody op n (tkF l op 0), kindOf t ≠ 0 := by
  intro t ht
  unfold tkBody at ht
  split at ht
  · next e =>
    subst e; simp [formedB] at hf
    simp only [List.mem_singleton] at ht
    rw [ht, dec_kind n (by omega) (by omega)]; decide
  · split at ht
    · next e =>
      subst e; simp [formedB] at hf
      simp only [List.mem_singleton] at ht
      rw [ht, (money_form n (by omega) (by omega)).1]; decide
    · split at ht
      · simp only [List.mem_singleton] at ht
        rw [ht, name_kind]; decide
      · rw [List.mem_append, List.mem_append] at ht
        rcases ht with (ht | ht) | ht
        · exact begin_kinds op t (List.mem_append_left _ ht)
        · exact ih t ht
        · exact begin_kinds op t (List.mem_append_right _ ht)
theorem tkF_kinds : ∀ (f : Fo) (par : Int) (i : Nat), okF f = true → ∀ t ∈ tkF f par i, kindOf t ≠ 0 := by
  intro f
  induction f with
  | nil => intro par i _ t ht; simp [tkF] at ht
  | node x y a l r ihl ihr =>
    intro par i h t ht
    simp only [okF, Bool.and_eq_true] at h
    have hb := body_kinds a.1 a.2 l h.1.1 (ihl a.1 0 h.1.2)
    rw [tkF, List.mem_append, List.mem_append] at ht
    rcases ht with (ht | ht) | ht
    · split at ht
      · simp only [List.mem_singleton] at ht
        rw [ht]; exact sep_kind _ _
      · simp at ht
    · unfold tkBrk at ht
      split at ht
      · rw [List.mem_append, List.mem_append] at ht
        rcases ht with (ht | ht) | ht
        · simp only [List.mem_singleton] at ht
          rw [ht]; decide
        · exact hb t ht
        · simp only [List.mem_singleton] at ht
          rw [ht]; decide
      · exact hb t ht
    · exact ihr par (i + 1) h.2 t ht
/-- the tokens of the text of an expression -/
theorem toks_textE (op n : Int) (l : Fo) (hf : formedB op n (flen l) = true) (hl : okF l = true) (hn : nodesF l ≤ 199) :
    toks (textE op n l) = ((tkE op n l).map (fun t => (kindOf t, (1 : Int), t)), 0, 0) := by
  have hlen := textE_len op n l hf hl
  have hk : ∀ t ∈ tkE op n l, kindOf t ≠ 0 := body_kinds op n l hf (tkF_kinds l op 0 hl)
  have hP := P_textE 1 op n l [] hf hl (fun c r e => by cases e)
  rw [List.append_nil, P_nil, List.append_nil] at hP
  rw [toks_short _ (by omega), hP]
  have hnone : (lnd 1 (tkE op n l)).find? (fun p => kindOf p.2 == 0) = none := by
    rw [List.find?_eq_none]
    intro p hp
    simp only [lnd, List.mem_map] at hp
    obtain ⟨t, ht, rfl⟩ := hp
    simpa using hk t ht
  rw [hnone]
  simp [lnd, tokOf, List.map_map, Function.comp_def]
theorem flen_nrm : ∀ f : Fo, flen (nrm f) = flen f := by
  intro f
  induction f with
  | nil => rfl
  | node x y a l r _ ihr => simp only [nrm, flen, ihr]
theorem fits_nrm : ∀ (f : Fo) (lv left : Int), fitsF (nrm f) lv left = fitsF f lv left := by
  intro f
  induction f with
  | nil => intro lv left; rfl
  | node x y a l r ihl ihr =>
    intro lv left
    simp only [nrm, fitsF, flen_nrm, ihl]
    split
    · rfl
    · split
      · rfl
      · exact ihr _ _
theorem valid_nrm (op n : Int) (l : Fo) : validB op n (nrm l) = validB op n l := by
  have := fits_nrm (.node 0 0 (op, n) l .nil) 30 200
  unfold validB
  rw [← this]
  rfl
theorem nrm_nrm : ∀ f : Fo, nrm (nrm f) = nrm f := by
  intro f
  induction f with
  | nil => rfl
  | node x y a l r ihl ihr => simp only [nrm, ihl, ihr]
theorem same_nrm (a : Int × Int) (l : Fo) : sameE a a l (nrm l) = true := by
  unfold sameE
  rw [Bool.and_eq_true]
  exact ⟨beq_self_eq_true _, (sameF_nrm _ _).2 (nrm_nrm l).symm⟩
end Px
end Go.Proofs.YtomnjamldbficaaGreatDoor
