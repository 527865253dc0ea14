/-
  Words: expressions in memory.
-/
import Derived.Test.YtomnjamldbficaaGreatDoorPrtPlain
import Derived.RowKit
import Derived.WalkKit
import Derived.Lib.Hide
namespace Go.Proofs.YtomnjamldbficaaGreatDoor
open Go.RowKit Lx Px
namespace Px
/-- the expressions of a row, from a number on, without those before -/
def dropF : Fo → Nat → Fo
  | f, 0 => f
  | .nil, _ + 1 => .nil
  | .node _ _ _ _ r, k + 1 => dropF r k
/-- the expression of a number: operator, number, parts -/
def getF : Fo → Nat → (Int × Int) × Fo
  | .nil, _ => ((0, 0), .nil)
  | .node _ _ a l _, 0 => (a, l)
  | .node _ _ _ _ r, k + 1 => getF r k
theorem dropF_get : ∀ (f : Fo) (k : Nat), k < flen f → ∃ b o, dropF f k = .node b o (getF f k).1 (getF f k).2 (dropF f (k + 1)) := by
  intro f
  induction f with
  | nil => intro k h; simp [flen] at h
  | node b o a l r _ ihr =>
    intro k h
    cases k with
    | zero => exact ⟨b, o, by simp [dropF, getF]⟩
    | succ k =>
      obtain ⟨b', o', e⟩ := ihr k (by simp [flen] at h; omega)
      exact ⟨b', o', e⟩
theorem dropF_len : ∀ (f : Fo) (k : Nat), flen f ≤ k → dropF f k = .nil := by
  intro f
  induction f with
  | nil => intro k _; cases k <;> rfl
  | node b o a l r _ ihr =>
    intro k h
    cases k with
    | zero => simp [flen] at h
    | succ k => exact ihr k (by simp [flen] at h; omega)
/-- whether an expression is well-formed, and how many nodes are left behind it -/
def fitE (a : Int × Int) (l : Fo) (lv left : Int) : Bool × Int :=
  if lv = 0 ∨ left - 1 < 0 ∨ formedB a.1 a.2 (flen l) = false then (false, left - 1) else fitsF l (lv - 1) (left - 1)
theorem fitsF_node (b o : Nat) (a : Int × Int) (l r : Fo) (lv left : Int) : fitsF (.node b o a l r) lv left = (match fitE a l lv left with | (false, x) => (false, x) | (true, x) => fitsF r lv x) := by
  rw [fitsF, fitE]; split
  · rfl
  · rfl
end Px
/-- the cells of a row of expressions from an element on -/
def FoAt (w : World) (B : Nat) : Fo → Option Addr → Nat → Prop
  | .nil, _, _ => True
  | .node _ _ a l r, A, k =>
    (∃ (ad : Addr) (A' : Option Addr) (c : Nat), A = some ad ∧ ad.block < B ∧ w.cell? (ad.add (k * 3)) = some (.int .i64 a.1) ∧ w.cell? ⟨(ad.add (k * 3)).block, (ad.add (k * 3)).off + 1, none⟩ = some (.int .i64 a.2) ∧
      w.cell? ⟨(ad.add (k * 3)).block, (ad.add (k * 3)).off + 2, none⟩ = some (.slice A' (flen l) c) ∧ FoAt w B l A' 0) ∧ FoAt w B r A (k + 1)
/-- a slice value reads as a row of expressions -/
def FoV (w : World) (B : Nat) (v : Value) (f : Fo) : Prop := ∃ A c, v = .slice A (flen f) c ∧ FoAt w B f A 0
theorem add_block' (a : Addr) (n : Nat) : (a.add n).block = a.block := by unfold Addr.add; split <;> rfl
theorem FoAt.keep {w w' : World} {B : Nat} (hc : ∀ p : Addr, p.block < B → w'.cell? p = w.cell? p) : ∀ (f : Fo) (A : Option Addr) (k : Nat), FoAt w B f A k → FoAt w' B f A k := by
  intro f
  induction f with
  | nil => intro A k _; trivial
  | node b o a l r ihl ihr =>
    intro A k h
    obtain ⟨⟨ad, A', c, e, hlt, h0, h1, h2, h3⟩, h4⟩ := h
    have hb : (ad.add (k * 3)).block < B := by rw [add_block']; exact hlt
    exact ⟨⟨ad, A', c, e, hlt, (hc _ hb).trans h0, (hc ⟨(ad.add (k * 3)).block, (ad.add (k * 3)).off + 1, none⟩ hb).trans h1, (hc ⟨(ad.add (k * 3)).block, (ad.add (k * 3)).off + 2, none⟩ hb).trans h2, ihl A' 0 h3⟩, ihr A (k + 1) h4⟩
theorem FoAt.get {w : World} {B : Nat} : ∀ (f : Fo) (A : Option Addr) (i k : Nat), FoAt w B f A i → k < flen f →
    ∃ (ad : Addr) (A' : Option Addr) (c : Nat), A = some ad ∧ ad.block < B ∧ w.cell? (ad.add ((i + k) * 3)) = some (.int .i64 (getF f k).1.1) ∧ w.cell? ⟨(ad.add ((i + k) * 3)).block, (ad.add ((i + k) * 3)).off + 1, none⟩ = some (.int .i64 (getF f k).1.2) ∧
      w.cell? ⟨(ad.add ((i + k) * 3)).block, (ad.add ((i + k) * 3)).off + 2, none⟩ = some (.slice A' (flen (getF f k).2) c) ∧ FoAt w B (getF f k).2 A' 0 := by
  intro f
  induction f with
  | nil => intro A i k _ h; simp [flen] at h
  | node b o a l r _ ihr =>
    intro A i k h hk
    cases k with
    | zero => exact h.1
    | succ k =>
      have := ihr A (i + 1) k h.2 (by simp [flen] at hk; omega)
      rw [show i + 1 + k = i + (k + 1) from by omega] at this
      exact this
end Go.Proofs.YtomnjamldbficaaGreatDoor
