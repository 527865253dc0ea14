/-
  Walks: forms of package printer.
-/
import Derived.Test.YtomnjamldbficaaGreatDoorPrtForms
namespace Go.Proofs.YtomnjamldbficaaGreatDoor
open Go.RowKit Lx Px
/-- what forms hands back: a map from operators to their forms -/
def FormsPost (w : World) (e : Ending) (w' : World) : Prop :=
  ∃ (r : Nat) (v0 v1 v2 v3 v4 v5 v6 v7 v8 v9 v10 v11 : Value), e = .returned (.map (some r)) ∧ w.heap.size ≤ r ∧ FormsIn w' r [(10, v0), (14, v1), (13, v2), (15, v3), (11, v4), (12, v5), (4, v6), (5, v7), (6, v8), (7, v9), (8, v10), (9, v11)] ∧ Below w.heap.size w w'
theorem below_row {w w1 w2 : World} {B r : Nat} (h : Below B w w1) (hB : B ≤ w1.heap.size) (hg : w1.grownBy w2 (some r)) (hr : B ≤ r) : Below B w w2 :=
  h.grown hg hB (fun g e => by injection e with e; omega)
set_option maxRecDepth 100000 in
set_option maxHeartbeats 4000000 in
theorem forms_any (w : World) : Calls Tryz.prog 90 #[] w (FormsPost w) := by
  have hmm := @run_makeMap Tryz.prog
  have h0 := FormsIn.new w
  have g0 : Below w.heap.size w (w.alloc (.map #[] 0)) := (Below.refl _ _).alloc (Nat.le_refl _) _
  go_enter Tryz.func90, Tryz.ntmps90
  go_wp2_with fail
  refine upon_form h0 ((World.grownBy_alloc (w.alloc (.map #[] 0)) _ none).trans (World.grownBy_alloc _ _ none)) (formV_two (op := 10) (k := arity 10) h0.lt (by simp) (by simp) (by decide) rfl rfl rfl rfl rfl rfl) (by simp) ?_
  intro w1 h1 q1
  have g1 := below_row g0 (by have := g0.size; omega) q1 (Nat.le_refl _)
  simp only [List.nil_append] at h1
  clear h0 g0 q1
  clear hmm
  go_wp2_with fail
  refine upon_form h1 ((World.grownBy_alloc w1 _ none).trans (World.grownBy_alloc _ _ none)) (formV_two (op := 14) (k := arity 14) h1.lt (by simp) (by simp) (by decide) rfl rfl rfl rfl rfl rfl) (by simp) ?_
  intro w2 h2 q2
  have g2 := below_row g1 (by have := g1.size; omega) q2 (Nat.le_refl _)
  simp only [List.nil_append, List.cons_append] at h2
  clear h1 g1 q2
  go_wp2_with fail
  refine upon_form h2 ((World.grownBy_alloc w2 _ none).trans (World.grownBy_alloc _ _ none)) (formV_two (op := 13) (k := arity 13) h2.lt (by simp) (by simp) (by decide) rfl rfl rfl rfl rfl rfl) (by simp) ?_
  intro w3 h3 q3
  have g3 := below_row g2 (by have := g2.size; omega) q3 (Nat.le_refl _)
  simp only [List.nil_append, List.cons_append] at h3
  clear h2 g2 q3
  go_wp2_with fail
  refine upon_form h3 (World.grownBy_alloc w3 _ none) (formV_not h3.lt (by simp)) (by simp) ?_
  intro w4 h4 q4
  have g4 := below_row g3 (by have := g3.size; omega) q4 (Nat.le_refl _)
  simp only [List.nil_append, List.cons_append] at h4
  clear h3 g3 q4
  go_wp2_with fail
  refine upon_form h4 ((World.grownBy_alloc w4 _ none).trans (World.grownBy_alloc _ _ none)) (formV_two (op := 11) (k := arity 11) h4.lt (by simp) (by simp) (by decide) rfl rfl rfl rfl rfl rfl) (by simp) ?_
  intro w5 h5 q5
  have g5 := below_row g4 (by have := g4.size; omega) q5 (Nat.le_refl _)
  simp only [List.nil_append, List.cons_append] at h5
  clear h4 g4 q5
  go_wp2_with fail
  refine upon_form h5 ((World.grownBy_alloc w5 _ none).trans (World.grownBy_alloc _ _ none)) (formV_two (op := 12) (k := arity 12) h5.lt (by simp) (by simp) (by decide) rfl rfl rfl rfl rfl rfl) (by simp) ?_
  intro w6 h6 q6
  have g6 := below_row g5 (by have := g5.size; omega) q6 (Nat.le_refl _)
  simp only [List.nil_append, List.cons_append] at h6
  clear h5 g5 q6
  go_wp2_with fail
  refine upon_form h6 ((World.grownBy_alloc w6 _ none).trans (World.grownBy_alloc _ _ none)) (formV_two (op := 4) (k := arity 4) h6.lt (by simp) (by simp) (by decide) rfl rfl rfl rfl rfl rfl) (by simp) ?_
  intro w7 h7 q7
  have g7 := below_row g6 (by have := g6.size; omega) q7 (Nat.le_refl _)
  simp only [List.nil_append, List.cons_append] at h7
  clear h6 g6 q7
  go_wp2_with fail
  refine upon_form h7 ((World.grownBy_alloc w7 _ none).trans (World.grownBy_alloc _ _ none)) (formV_two (op := 5) (k := arity 5) h7.lt (by simp) (by simp) (by decide) rfl rfl rfl rfl rfl rfl) (by simp) ?_
  intro w8 h8 q8
  have g8 := below_row g7 (by have := g7.size; omega) q8 (Nat.le_refl _)
  simp only [List.nil_append, List.cons_append] at h8
  clear h7 g7 q8
  go_wp2_with fail
  refine upon_form h8 ((World.grownBy_alloc w8 _ none).trans (World.grownBy_alloc _ _ none)) (formV_two (op := 6) (k := arity 6) h8.lt (by simp) (by simp) (by decide) rfl rfl rfl rfl rfl rfl) (by simp) ?_
  intro w9 h9 q9
  have g9 := below_row g8 (by have := g8.size; omega) q9 (Nat.le_refl _)
  simp only [List.nil_append, List.cons_append] at h9
  clear h8 g8 q9
  go_wp2_with fail
  refine upon_form h9 ((World.grownBy_alloc w9 _ none).trans (World.grownBy_alloc _ _ none)) (formV_two (op := 7) (k := arity 7) h9.lt (by simp) (by simp) (by decide) rfl rfl rfl rfl rfl rfl) (by simp) ?_
  intro w10 h10 q10
  have g10 := below_row g9 (by have := g9.size; omega) q10 (Nat.le_refl _)
  simp only [List.nil_append, List.cons_append] at h10
  clear h9 g9 q10
  go_wp2_with fail
  refine upon_form h10 ((World.grownBy_alloc w10 _ none).trans (World.grownBy_alloc _ _ none)) (formV_two (op := 8) (k := arity 8) h10.lt (by simp) (by simp) (by decide) rfl rfl rfl rfl rfl rfl) (by simp) ?_
  intro w11 h11 q11
  have g11 := below_row g10 (by have := g10.size; omega) q11 (Nat.le_refl _)
  simp only [List.nil_append, List.cons_append] at h11
  clear h10 g10 q11
  go_wp2_with fail
  refine upon_form h11 ((World.grownBy_alloc w11 _ none).trans (World.grownBy_alloc _ _ none)) (formV_two (op := 9) (k := arity 9) h11.lt (by simp) (by simp) (by decide) rfl rfl rfl rfl rfl rfl) (by simp) ?_
  intro w12 h12 q12
  have g12 := below_row g11 (by have := g11.size; omega) q12 (Nat.le_refl _)
  simp only [List.nil_append, List.cons_append] at h12
  clear h11 g11 q12
  go_wp2_with fail
  go_ret
  exact ⟨_, _, _, _, _, _, _, _, _, _, _, _, _, rfl, Nat.le_refl _, h12, g12⟩
end Go.Proofs.YtomnjamldbficaaGreatDoor
