/-
  Words: slices of tokens in memory.
-/
import Derived.Test.YtomnjamldbficaaGreatDoorLexW5
import Derived.Laws.OwnMore
namespace Go.Proofs.YtomnjamldbficaaGreatDoor
open Go.RowKit Lx
def tokCells (t : Tok) : List Value := [.int .i64 t.1, .int .i64 t.2.1, .string (mk t.2.2)]
def cellsOf (ts : List Tok) : List Value := ts.flatMap tokCells
theorem cellsOf_length (ts : List Tok) : (cellsOf ts).length = ts.length * 3 := by
  induction ts with
  | nil => rfl
  | cons t ts ih => simp only [cellsOf, List.flatMap_cons, List.length_append, List.length_cons] at ih ⊢; rw [ih]; simp [tokCells]; omega
theorem cellsOf_snoc (ts : List Tok) (t : Tok) : cellsOf (ts ++ [t]) = cellsOf ts ++ tokCells t := by simp [cellsOf]
theorem cellsOf_get (ts : List Tok) (k j : Nat) (h : k < ts.length) (hj : j < 3) : (cellsOf ts)[k * 3 + j]? = (tokCells ts[k])[j]? := by
  induction ts generalizing k with
  | nil => simp at h
  | cons t ts ih =>
    have hc : cellsOf (t :: ts) = tokCells t ++ cellsOf ts := by simp [cellsOf]
    rw [hc]
    cases k with
    | zero => simp only [Nat.zero_mul, Nat.zero_add, List.getElem_cons_zero]; rw [List.getElem?_append_left (by simp [tokCells]; omega)]
    | succ k =>
      rw [List.getElem?_append_right (by simp [tokCells]; omega)]
      have := ih k (by simpa using h)
      simp only [tokCells, List.length_cons, List.length_nil, List.getElem_cons_succ] at this ⊢
      rw [← this]; congr 1; omega
/-- a token lies from an address on -/
def TokAt (w : World) (p : Addr) (t : Tok) : Prop :=
  w.cell? p = some (.int .i64 t.1) ∧ w.cell? ⟨p.block, p.off + 1, none⟩ = some (.int .i64 t.2.1) ∧ w.cell? ⟨p.block, p.off + 2, none⟩ = some (.string (mk t.2.2))
theorem add_block (a : Addr) (n : Nat) : (a.add n).block = a.block := by unfold Addr.add; split <;> rfl
/-- a slice value reads as a list of tokens, and lies below a block -/
def Sl (w : World) (B : Nat) (v : Value) (ts : List Tok) : Prop :=
  ∃ A c, v = .slice A ts.length c ∧ ∀ k, (h : k < ts.length) → ∃ ad : Addr, A = some ad ∧ ad.block < B ∧ TokAt w (ad.add (k * 3)) ts[k]
theorem Sl.nil (w : World) (B : Nat) : Sl w B (.slice none 0 0) [] := ⟨none, 0, rfl, fun k h => absurd h (by simp)⟩
theorem TokAt.keep {w w' : World} {p : Addr} {t : Tok} (h : TokAt w p t) (hk : ∀ q : Addr, q.block = p.block → w'.cell? q = w.cell? q) : TokAt w' p t :=
  ⟨(hk p rfl).trans h.1, (hk ⟨p.block, p.off + 1, none⟩ rfl).trans h.2.1, (hk ⟨p.block, p.off + 2, none⟩ rfl).trans h.2.2⟩
theorem Sl.below {w w' : World} {B : Nat} {v : Value} {ts : List Tok} (h : Sl w B v ts) (hb : Below B w w') : Sl w' B v ts := by
  obtain ⟨A, c, hv, hk⟩ := h
  refine ⟨A, c, hv, fun k h => ?_⟩
  obtain ⟨ad, e, hlt, ht⟩ := hk k h
  exact ⟨ad, e, hlt, ht.keep fun q hq => hb.cell (by rw [hq, add_block]; exact hlt)⟩
theorem Sl.mono {w : World} {B B' : Nat} {v : Value} {ts : List Tok} (h : Sl w B v ts) (hb : B ≤ B') : Sl w B' v ts := by
  obtain ⟨A, c, hv, hk⟩ := h
  exact ⟨A, c, hv, fun k h => let ⟨ad, e, hlt, ht⟩ := hk k h; ⟨ad, e, by omega, ht⟩⟩
theorem Sl.of_own {w : World} {base : Nat} {e : TypeId} {v : Value} {ts : List Tok} (h : w.ownsRow base e 3 v ts.length (cellsOf ts)) : Sl w w.heap.size v ts := by
  rcases h.2 with ⟨hv, h0⟩ | ⟨g, cap, cur, hv, _, hg, _, _, _, _⟩
  · have : ts = [] := List.length_eq_zero_iff.1 h0
    subst this
    exact ⟨none, 0, hv, fun k h => absurd h (by simp)⟩
  · refine ⟨some ⟨g, 0, none⟩, cap, hv, fun k hk => ⟨⟨g, 0, none⟩, rfl, ?_, ?_⟩⟩
    · exact (Array.getElem?_eq_some_iff.1 hg).1
    · subst hv
      have hcell : ∀ j, j < 3 → w.cell? ⟨g, k * 3 + j, none⟩ = (tokCells ts[k])[j]? := fun j hj => by
        rw [h.cellAt (k * 3 + j) (by omega), cellsOf_get ts k j hk hj]
      have ha : ((⟨g, 0, none⟩ : Addr).add (k * 3)) = ⟨g, k * 3, none⟩ := by unfold Addr.add; split <;> simp_all
      rw [ha]
      exact ⟨hcell 0 (by omega), hcell 1 (by omega), hcell 2 (by omega)⟩
end Go.Proofs.YtomnjamldbficaaGreatDoor
