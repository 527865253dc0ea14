/-
  What a caller of forms of package printer looks up there; what put of package printer needs.
-/
import Derived.Test.YtomnjamldbficaaGreatDoorPrtW4
import Derived.Test.YtomnjamldbficaaGreatDoorPrtBld
import Derived.Lib.AppendIntMem
namespace Go.Proofs.YtomnjamldbficaaGreatDoor
open Go.RowKit Lx Px
/-- a form's slices in memory -/
def FormK (w : World) (op : Int) (A1 : Option Addr) (n1 b2 : Nat) : Prop :=
  ((op = 15 ∧ A1 = none ∧ n1 = 0) ∨ ∃ bs, op ≠ 15 ∧ A1 = some ⟨bs, 0, none⟩ ∧ n1 = arity op - 1 ∧ w.heap[bs]? = some (.cells ((sepL op).map fun s => .string (mk s)).toArray 9 (0, 0))) ∧
    w.heap[b2]? = some (.cells ((leastL op).map (.int .i64)).toArray 3 (0, 0))
def FormsLook (op : Int) (w : World) (e : Ending) (w' : World) : Prop :=
  ∃ (r : Nat) (A1 : Option Addr) (n1 c1 b2 : Nat), e = .returned (.map (some r)) ∧
    (∀ W : World, W.heap[r]? = w'.heap[r]? → (Instr.lookup 138 (.map (some r)) (.int .i64 op) true).run Tryz.prog W =
      .ok (.tuple #[.agg #[.string (mk (beginOf op)), .slice A1 n1 c1, .string (mk (endOf op)), .int .i64 (rankOf op), .slice (some ⟨b2, 0, none⟩) (arity op) (arity op)], .bool true]) W) ∧
    r < w'.heap.size ∧ FormK w' op A1 n1 b2 ∧ Below w.heap.size w w'
def FormsNone (op : Int) (w : World) (e : Ending) (w' : World) : Prop :=
  ∃ r : Nat, e = .returned (.map (some r)) ∧
    (∀ W : World, W.heap[r]? = w'.heap[r]? → (Instr.lookup 138 (.map (some r)) (.int .i64 op) true).run Tryz.prog W =
      .ok (.tuple #[.agg #[.string ⟨#[]⟩, .slice none 0 0, .string ⟨#[]⟩, .int .i64 0, .slice none 0 0], .bool false]) W) ∧
    r < w'.heap.size ∧ Below w.heap.size w w'
theorem look_of {w w' : World} {e : Ending} {r : Nat} {op : Int} {v : Value} {L L2 : List (Int × Value)} (he : e = .returned (.map (some r))) (h : FormsIn w' r (L ++ (op, v) :: L2)) (hn : ∀ p ∈ L, p.1 ≠ op) (hB : Below w.heap.size w w') : FormsLook op w e w' := by
  obtain ⟨bs, b2, hv, h1, h2, h3⟩ := h.2 (op, v) (by simp)
  have hf := findNow_at op v L L2 0 0 hn
  dsimp only at hv h1 h3
  by_cases ho : op = 15
  · rw [if_pos ho] at hv
    refine ⟨r, none, 0, 0, b2, he, fun W hW => ?_, h.lt, ⟨.inl ⟨ho, rfl, rfl⟩, h3⟩, hB⟩
    rw [← hv]
    exact run_lookup_at Tryz.underlying138 Tryz.underlying3 (hW.trans h.1) hf
  · rw [if_neg ho] at hv
    refine ⟨r, some ⟨bs, 0, none⟩, arity op - 1, arity op - 1, b2, he, fun W hW => ?_, h.lt, ⟨.inr ⟨bs, ho, rfl, rfl, (h1 ho).2⟩, h3⟩, hB⟩
    rw [← hv]
    exact run_lookup_at Tryz.underlying138 Tryz.underlying3 (hW.trans h.1) hf
theorem forms_look (op : Int) (w : World) (h1 : 4 ≤ op) (h2 : op ≤ 15) : Calls Tryz.prog 90 #[] w (FormsLook op w) := by
  refine (forms_any w).mono ?_
  rintro e w' ⟨r, v0, v1, v2, v3, v4, v5, v6, v7, v8, v9, v10, v11, he, hr, hF, hB⟩
  have hc : op = 4 ∨ op = 5 ∨ op = 6 ∨ op = 7 ∨ op = 8 ∨ op = 9 ∨ op = 10 ∨ op = 11 ∨ op = 12 ∨ op = 13 ∨ op = 14 ∨ op = 15 := by omega
  rcases hc with rfl | rfl | rfl | rfl | rfl | rfl | rfl | rfl | rfl | rfl | rfl | rfl
  · exact look_of (L := [(10, v0), (14, v1), (13, v2), (15, v3), (11, v4), (12, v5)]) he hF (by simp) hB
  · exact look_of (L := [(10, v0), (14, v1), (13, v2), (15, v3), (11, v4), (12, v5), (4, v6)]) he hF (by simp) hB
  · exact look_of (L := [(10, v0), (14, v1), (13, v2), (15, v3), (11, v4), (12, v5), (4, v6), (5, v7)]) he hF (by simp) hB
  · exact look_of (L := [(10, v0), (14, v1), (13, v2), (15, v3), (11, v4), (12, v5), (4, v6), (5, v7), (6, v8)]) he hF (by simp) hB
  · exact look_of (L := [(10, v0), (14, v1), (13, v2), (15, v3), (11, v4), (12, v5), (4, v6), (5, v7), (6, v8), (7, v9)]) he hF (by simp) hB
  · exact look_of (L := [(10, v0), (14, v1), (13, v2), (15, v3), (11, v4), (12, v5), (4, v6), (5, v7), (6, v8), (7, v9), (8, v10)]) he hF (by simp) hB
  · exact look_of (L := []) he hF (by simp) hB
  · exact look_of (L := [(10, v0), (14, v1), (13, v2), (15, v3)]) he hF (by simp) hB
  · exact look_of (L := [(10, v0), (14, v1), (13, v2), (15, v3), (11, v4)]) he hF (by simp) hB
  · exact look_of (L := [(10, v0), (14, v1)]) he hF (by simp) hB
  · exact look_of (L := [(10, v0)]) he hF (by simp) hB
  · exact look_of (L := [(10, v0), (14, v1), (13, v2)]) he hF (by simp) hB
theorem forms_none (op : Int) (w : World) (h1 : 1 ≤ op) (h2 : op ≤ 3) : Calls Tryz.prog 90 #[] w (FormsNone op w) := by
  refine (forms_any w).mono ?_
  rintro e w' ⟨r, v0, v1, v2, v3, v4, v5, v6, v7, v8, v9, v10, v11, he, hr, hF, hB⟩
  refine ⟨r, he, fun W hW => ?_, hF.lt, hB⟩
  refine run_lookup_none Tryz.underlying138 Tryz.underlying3 (hW.trans hF.1) (findNow_none op _ 0 0 ?_) (Tryz.zeroValue136 W)
  intro p hp
  simp at hp
  rcases hp with rfl | rfl | rfl | rfl | rfl | rfl | rfl | rfl | rfl | rfl | rfl | rfl <;> dsimp only <;> omega
/-- what lies in the variables of the program: the powers of ten, and the printer's names -/
def Tabs (B : Nat) (w : World) : Prop :=
  Lib.TabBelow Tryz.prog B w "internal/strconv.uint64pow10" .u64 Lib.pow10Tab ∧ 1 < B ∧ w.heap.size ≥ B ∧
    ∀ k : Nat, 1 ≤ k → k ≤ 4 → w.cell? ⟨1, k, none⟩ = some (.string (mk (nameOf k)))
theorem Tabs.on {B : Nat} {w w' : World} (h : Tabs B w) (hb : Below B w w') : Tabs B w' :=
  ⟨h.1.on hb, h.2.1, by have := hb.size; have := h.2.2.1; omega, fun k h1 h2 => (hb.cell (p := ⟨1, k, none⟩) h.2.1).trans (h.2.2.2 k h1 h2)⟩
namespace Px
/-- every node of a row of expressions is well-formed -/
def okF : Fo → Bool
  | .nil => true
  | .node _ _ a l r => formedB a.1 a.2 (flen l) && okF l && okF r
theorem okF_of : ∀ (f : Fo) (lv left x : Int), fitsF f lv left = (true, x) → okF f = true := by
  intro f
  induction f with
  | nil => intro lv left x h; rfl
  | node b o a l r ihl ihr =>
    intro lv left x h
    rw [fitsF] at h
    split at h
    · simp at h
    · rename_i hn
      split at h
      · simp at h
      · rename_i y e
        have h1 := ihl _ _ _ e
        have h2 := ihr _ _ _ h
        have h3 : formedB a.1 a.2 (flen l) = true := by
          cases hf : formedB a.1 a.2 (flen l) with
          | true => rfl
          | false => exact absurd (.inr (.inr hf)) hn
        simp [okF, h1, h2, h3]
theorem okF_get : ∀ (f : Fo) (k : Nat), okF f = true → k < flen f → formedB (getF f k).1.1 (getF f k).1.2 (flen (getF f k).2) = true ∧ okF (getF f k).2 = true := by
  intro f
  induction f with
  | nil => intro k _ h; simp [flen] at h
  | node b o a l r _ ihr =>
    intro k h hk
    simp only [okF, Bool.and_eq_true] at h
    cases k with
    | zero => exact ⟨h.1.1, h.1.2⟩
    | succ k => exact ihr k h.2 (by simp [flen] at hk; omega)
theorem formed_node {op n : Int} {k : Nat} (h : formedB op n k = true) (ho : 4 ≤ op) : op ≤ 15 ∧ n = 0 ∧ k = arity op := by
  unfold formedB at h
  unfold arity
  repeat' split at h
  all_goals simp at h
  all_goals (split <;> (try split) <;> omega)
theorem formed_ge {op n : Int} {k : Nat} (h : formedB op n k = true) : 1 ≤ op := by
  unfold formedB at h
  repeat' split at h
  all_goals simp at h
  all_goals omega
end Px
end Go.Proofs.YtomnjamldbficaaGreatDoor
