/-
  Several texts in one: ParFk, ParFn.
-/
import Derived.Test.YtomnjamldbficaaGreatDoorParFj
import Derived.Test.YtomnjamldbficaaGreatDoorParChain
namespace Go.Proofs.YtomnjamldbficaaGreatDoor
open Go.RowKit Lx Px
theorem six_far {w w2 : World} (v y z x' y' z' : Value) (b : Nat) (h1 : b ≠ w.heap.size + 1) (h2 : b ≠ w.heap.size + 1 + 1) : (((((((w2.setCell ⟨w.heap.size + 1, 0, none⟩ v).setCell ⟨w.heap.size + 1, 1, none⟩ y).setCell ⟨w.heap.size + 1, 2, none⟩ z).setCell ⟨w.heap.size + 1 + 1, 0, none⟩ x').setCell ⟨w.heap.size + 1 + 1, 1, none⟩ y').setCell ⟨w.heap.size + 1 + 1, 2, none⟩ z')).heap[b]? = w2.heap[b]? := (heap_far3 h2 _ _ _).trans (heap_far3 h1 _ _ _)
theorem six_size (w w2 : World) (v y z x' y' z' : Value) : (((((((w2.setCell ⟨w.heap.size + 1, 0, none⟩ v).setCell ⟨w.heap.size + 1, 1, none⟩ y).setCell ⟨w.heap.size + 1, 2, none⟩ z).setCell ⟨w.heap.size + 1 + 1, 0, none⟩ x').setCell ⟨w.heap.size + 1 + 1, 1, none⟩ y').setCell ⟨w.heap.size + 1 + 1, 2, none⟩ z')).heap.size = w2.heap.size := (size_set3 _ _ _ _ _).trans (size_set3 _ _ _ _ _)
theorem six_below {w w2 : World} (hb : Below w.heap.size w w2) (v y z x' y' z' : Value) : Below w.heap.size w (((((((w2.setCell ⟨w.heap.size + 1, 0, none⟩ v).setCell ⟨w.heap.size + 1, 1, none⟩ y).setCell ⟨w.heap.size + 1, 2, none⟩ z).setCell ⟨w.heap.size + 1 + 1, 0, none⟩ x').setCell ⟨w.heap.size + 1 + 1, 1, none⟩ y').setCell ⟨w.heap.size + 1 + 1, 2, none⟩ z')) := by
  have q1 : w.heap.size ≤ w.heap.size + 1 := by omega
  have q2 : w.heap.size ≤ w.heap.size + 1 + 1 := by omega
  exact (((((hb.setCell (p := ⟨w.heap.size + 1, 0, none⟩) q1 _).setCell (p := ⟨w.heap.size + 1, 1, none⟩) q1 _).setCell (p := ⟨w.heap.size + 1, 2, none⟩) q1 _).setCell (p := ⟨w.heap.size + 1 + 1, 0, none⟩) q2 _).setCell (p := ⟨w.heap.size + 1 + 1, 1, none⟩) q2 _).setCell (p := ⟨w.heap.size + 1 + 1, 2, none⟩) q2 _
/-- a new block, and the results stored: in one order or the other -/
structure Fin (w w2 : World) (o : Obj) (W : World) : Prop where
  g : W.heap[w2.heap.size]? = some o
  far : ∀ d, w.heap.size + 1 + 1 < d → d < w2.heap.size → W.heap[d]? = w2.heap[d]?
  size : W.heap.size = w2.heap.size + 1
  b : Below w.heap.size w W
theorem six_y {w w2 : World} {p q r : Value} {ty : TypeId} (hy : w2.heap[w.heap.size + 1]? = some (.cells #[p, q, r] ty (0, 0))) (v y z x' y' z' : Value) : (((((((w2.setCell ⟨w.heap.size + 1, 0, none⟩ v).setCell ⟨w.heap.size + 1, 1, none⟩ y).setCell ⟨w.heap.size + 1, 2, none⟩ z).setCell ⟨w.heap.size + 1 + 1, 0, none⟩ x').setCell ⟨w.heap.size + 1 + 1, 1, none⟩ y').setCell ⟨w.heap.size + 1 + 1, 2, none⟩ z')).heap[w.heap.size + 1]? = some (.cells #[v, y, z] ty (0, 0)) := (heap_far3 (by omega) _ _ _).trans (heap_set3 hy)
theorem six_z {w w2 : World} {p q r : Value} {ty : TypeId} (hy : w2.heap[w.heap.size + 1 + 1]? = some (.cells #[p, q, r] ty (0, 0))) (v y z x' y' z' : Value) : (((((((w2.setCell ⟨w.heap.size + 1, 0, none⟩ v).setCell ⟨w.heap.size + 1, 1, none⟩ y).setCell ⟨w.heap.size + 1, 2, none⟩ z).setCell ⟨w.heap.size + 1 + 1, 0, none⟩ x').setCell ⟨w.heap.size + 1 + 1, 1, none⟩ y').setCell ⟨w.heap.size + 1 + 1, 2, none⟩ z')).heap[w.heap.size + 1 + 1]? = some (.cells #[x', y', z'] ty (0, 0)) := heap_set3 ((heap_far3 (by omega) _ _ _).trans hy)
theorem fin_a {w w2 : World} (h : w.heap.size + 1 + 1 < w2.heap.size) (hb : Below w.heap.size w w2) (v y z x' y' z' : Value) (o : Obj) : Fin w w2 o ((((((((w2.setCell ⟨w.heap.size + 1, 0, none⟩ v).setCell ⟨w.heap.size + 1, 1, none⟩ y).setCell ⟨w.heap.size + 1, 2, none⟩ z).setCell ⟨w.heap.size + 1 + 1, 0, none⟩ x').setCell ⟨w.heap.size + 1 + 1, 1, none⟩ y').setCell ⟨w.heap.size + 1 + 1, 2, none⟩ z')).alloc o).drew := by
  have hs := six_size w w2 v y z x' y' z'
  have hf := six_far (w := w) (w2 := w2) v y z x' y' z'
  have hbb := six_below hb v y z x' y' z'
  generalize (((((((w2.setCell ⟨w.heap.size + 1, 0, none⟩ v).setCell ⟨w.heap.size + 1, 1, none⟩ y).setCell ⟨w.heap.size + 1, 2, none⟩ z).setCell ⟨w.heap.size + 1 + 1, 0, none⟩ x').setCell ⟨w.heap.size + 1 + 1, 1, none⟩ y').setCell ⟨w.heap.size + 1 + 1, 2, none⟩ z')) = W at *
  have e := World.alloc_heap_new W o
  rw [hs] at e
  exact ⟨e, fun d h1 h2 => (Below.heap_alloc _ _ _ (by omega)).trans (hf d (by omega) (by omega)), by show (W.alloc o).heap.size = _; simp [hs], (hbb.alloc (by omega) o).drew⟩
theorem fin_b {w w2 : World} (h : w.heap.size + 1 + 1 < w2.heap.size) (hb : Below w.heap.size w w2) (v y z x' y' z' : Value) (o : Obj) : Fin w w2 o ((((((((w2.alloc o).setCell ⟨w.heap.size + 1, 0, none⟩ v).setCell ⟨w.heap.size + 1, 1, none⟩ y).setCell ⟨w.heap.size + 1, 2, none⟩ z).setCell ⟨w.heap.size + 1 + 1, 0, none⟩ x').setCell ⟨w.heap.size + 1 + 1, 1, none⟩ y').setCell ⟨w.heap.size + 1 + 1, 2, none⟩ z')).drew := by
  have e := World.alloc_heap_new w2 o
  have hs := six_size w (w2.alloc o) v y z x' y' z'
  have hf := six_far (w := w) (w2 := w2.alloc o) v y z x' y' z'
  have hbb := six_below (hb.alloc (by omega) o) v y z x' y' z'
  generalize ((((((((w2.alloc o).setCell ⟨w.heap.size + 1, 0, none⟩ v).setCell ⟨w.heap.size + 1, 1, none⟩ y).setCell ⟨w.heap.size + 1, 2, none⟩ z).setCell ⟨w.heap.size + 1 + 1, 0, none⟩ x').setCell ⟨w.heap.size + 1 + 1, 1, none⟩ y').setCell ⟨w.heap.size + 1 + 1, 2, none⟩ z')) = W at *
  exact ⟨(hf _ (by omega) (by omega)).trans e, fun d h1 h2 => (hf d (by omega) (by omega)).trans (Below.heap_alloc _ _ _ h2), by show W.heap.size = _; rw [hs]; simp, hbb.drew⟩
theorem cells_a {w w2 : World} {p q r p' q' r' : Value} {ty ty' : TypeId} (hy : w2.heap[w.heap.size + 1]? = some (.cells #[p, q, r] ty (0, 0))) (hz : w2.heap[w.heap.size + 1 + 1]? = some (.cells #[p', q', r'] ty' (0, 0))) (v y z x' y' z' : Value) (o : Obj) : ((((((((w2.setCell ⟨w.heap.size + 1, 0, none⟩ v).setCell ⟨w.heap.size + 1, 1, none⟩ y).setCell ⟨w.heap.size + 1, 2, none⟩ z).setCell ⟨w.heap.size + 1 + 1, 0, none⟩ x').setCell ⟨w.heap.size + 1 + 1, 1, none⟩ y').setCell ⟨w.heap.size + 1 + 1, 2, none⟩ z')).alloc o).drew.cell? ⟨w.heap.size + 1, 0, none⟩ = some v ∧ ((((((((w2.setCell ⟨w.heap.size + 1, 0, none⟩ v).setCell ⟨w.heap.size + 1, 1, none⟩ y).setCell ⟨w.heap.size + 1, 2, none⟩ z).setCell ⟨w.heap.size + 1 + 1, 0, none⟩ x').setCell ⟨w.heap.size + 1 + 1, 1, none⟩ y').setCell ⟨w.heap.size + 1 + 1, 2, none⟩ z')).alloc o).drew.cell? ⟨w.heap.size + 1, 1, none⟩ = some y ∧ ((((((((w2.setCell ⟨w.heap.size + 1, 0, none⟩ v).setCell ⟨w.heap.size + 1, 1, none⟩ y).setCell ⟨w.heap.size + 1, 2, none⟩ z).setCell ⟨w.heap.size + 1 + 1, 0, none⟩ x').setCell ⟨w.heap.size + 1 + 1, 1, none⟩ y').setCell ⟨w.heap.size + 1 + 1, 2, none⟩ z')).alloc o).drew.cell? ⟨w.heap.size + 1, 2, none⟩ = some z ∧ ((((((((w2.setCell ⟨w.heap.size + 1, 0, none⟩ v).setCell ⟨w.heap.size + 1, 1, none⟩ y).setCell ⟨w.heap.size + 1, 2, none⟩ z).setCell ⟨w.heap.size + 1 + 1, 0, none⟩ x').setCell ⟨w.heap.size + 1 + 1, 1, none⟩ y').setCell ⟨w.heap.size + 1 + 1, 2, none⟩ z')).alloc o).drew.cell? ⟨w.heap.size + 1 + 1, 0, none⟩ = some x' ∧ ((((((((w2.setCell ⟨w.heap.size + 1, 0, none⟩ v).setCell ⟨w.heap.size + 1, 1, none⟩ y).setCell ⟨w.heap.size + 1, 2, none⟩ z).setCell ⟨w.heap.size + 1 + 1, 0, none⟩ x').setCell ⟨w.heap.size + 1 + 1, 1, none⟩ y').setCell ⟨w.heap.size + 1 + 1, 2, none⟩ z')).alloc o).drew.cell? ⟨w.heap.size + 1 + 1, 1, none⟩ = some y' ∧ ((((((((w2.setCell ⟨w.heap.size + 1, 0, none⟩ v).setCell ⟨w.heap.size + 1, 1, none⟩ y).setCell ⟨w.heap.size + 1, 2, none⟩ z).setCell ⟨w.heap.size + 1 + 1, 0, none⟩ x').setCell ⟨w.heap.size + 1 + 1, 1, none⟩ y').setCell ⟨w.heap.size + 1 + 1, 2, none⟩ z')).alloc o).drew.cell? ⟨w.heap.size + 1 + 1, 2, none⟩ = some z' := by
  have h1 := heap_on (six_y hy v y z x' y' z') o
  have h2 := heap_on (six_z hz v y z x' y' z') o
  generalize (((((((w2.setCell ⟨w.heap.size + 1, 0, none⟩ v).setCell ⟨w.heap.size + 1, 1, none⟩ y).setCell ⟨w.heap.size + 1, 2, none⟩ z).setCell ⟨w.heap.size + 1 + 1, 0, none⟩ x').setCell ⟨w.heap.size + 1 + 1, 1, none⟩ y').setCell ⟨w.heap.size + 1 + 1, 2, none⟩ z')).alloc o = W at *
  obtain ⟨a1, a2, a3, _, _, _⟩ := three_cells h1
  obtain ⟨b1, b2, b3, _, _, _⟩ := three_cells h2
  exact ⟨a1, a2, a3, b1, b2, b3⟩
theorem cells_b {w w2 : World} {p q r p' q' r' : Value} {ty ty' : TypeId} (hy : w2.heap[w.heap.size + 1]? = some (.cells #[p, q, r] ty (0, 0))) (hz : w2.heap[w.heap.size + 1 + 1]? = some (.cells #[p', q', r'] ty' (0, 0))) (v y z x' y' z' : Value) (o : Obj) : ((((((((w2.alloc o).setCell ⟨w.heap.size + 1, 0, none⟩ v).setCell ⟨w.heap.size + 1, 1, none⟩ y).setCell ⟨w.heap.size + 1, 2, none⟩ z).setCell ⟨w.heap.size + 1 + 1, 0, none⟩ x').setCell ⟨w.heap.size + 1 + 1, 1, none⟩ y').setCell ⟨w.heap.size + 1 + 1, 2, none⟩ z')).drew.cell? ⟨w.heap.size + 1, 0, none⟩ = some v ∧ ((((((((w2.alloc o).setCell ⟨w.heap.size + 1, 0, none⟩ v).setCell ⟨w.heap.size + 1, 1, none⟩ y).setCell ⟨w.heap.size + 1, 2, none⟩ z).setCell ⟨w.heap.size + 1 + 1, 0, none⟩ x').setCell ⟨w.heap.size + 1 + 1, 1, none⟩ y').setCell ⟨w.heap.size + 1 + 1, 2, none⟩ z')).drew.cell? ⟨w.heap.size + 1, 1, none⟩ = some y ∧ ((((((((w2.alloc o).setCell ⟨w.heap.size + 1, 0, none⟩ v).setCell ⟨w.heap.size + 1, 1, none⟩ y).setCell ⟨w.heap.size + 1, 2, none⟩ z).setCell ⟨w.heap.size + 1 + 1, 0, none⟩ x').setCell ⟨w.heap.size + 1 + 1, 1, none⟩ y').setCell ⟨w.heap.size + 1 + 1, 2, none⟩ z')).drew.cell? ⟨w.heap.size + 1, 2, none⟩ = some z ∧ ((((((((w2.alloc o).setCell ⟨w.heap.size + 1, 0, none⟩ v).setCell ⟨w.heap.size + 1, 1, none⟩ y).setCell ⟨w.heap.size + 1, 2, none⟩ z).setCell ⟨w.heap.size + 1 + 1, 0, none⟩ x').setCell ⟨w.heap.size + 1 + 1, 1, none⟩ y').setCell ⟨w.heap.size + 1 + 1, 2, none⟩ z')).drew.cell? ⟨w.heap.size + 1 + 1, 0, none⟩ = some x' ∧ ((((((((w2.alloc o).setCell ⟨w.heap.size + 1, 0, none⟩ v).setCell ⟨w.heap.size + 1, 1, none⟩ y).setCell ⟨w.heap.size + 1, 2, none⟩ z).setCell ⟨w.heap.size + 1 + 1, 0, none⟩ x').setCell ⟨w.heap.size + 1 + 1, 1, none⟩ y').setCell ⟨w.heap.size + 1 + 1, 2, none⟩ z')).drew.cell? ⟨w.heap.size + 1 + 1, 1, none⟩ = some y' ∧ ((((((((w2.alloc o).setCell ⟨w.heap.size + 1, 0, none⟩ v).setCell ⟨w.heap.size + 1, 1, none⟩ y).setCell ⟨w.heap.size + 1, 2, none⟩ z).setCell ⟨w.heap.size + 1 + 1, 0, none⟩ x').setCell ⟨w.heap.size + 1 + 1, 1, none⟩ y').setCell ⟨w.heap.size + 1 + 1, 2, none⟩ z')).drew.cell? ⟨w.heap.size + 1 + 1, 2, none⟩ = some z' := by
  have h1 := six_y (heap_on hy o) v y z x' y' z'
  have h2 := six_z (heap_on hz o) v y z x' y' z'
  generalize ((((((((w2.alloc o).setCell ⟨w.heap.size + 1, 0, none⟩ v).setCell ⟨w.heap.size + 1, 1, none⟩ y).setCell ⟨w.heap.size + 1, 2, none⟩ z).setCell ⟨w.heap.size + 1 + 1, 0, none⟩ x').setCell ⟨w.heap.size + 1 + 1, 1, none⟩ y').setCell ⟨w.heap.size + 1 + 1, 2, none⟩ z')) = W at *
  obtain ⟨a1, a2, a3, _, _, _⟩ := three_cells h1
  obtain ⟨b1, b2, b3, _, _, _⟩ := three_cells h2
  exact ⟨a1, a2, a3, b1, b2, b3⟩
theorem TrB.fin {w w2 W : World} {b : Nat} {o : Out} {a1 a2 : Int} {A : Option Addr} {n c : Nat} {ob : Obj} (h : TrB w b o a1 a2 A n c w2) (hf : Fin w w2 ob W) : ∀ x j, o = .ok x j → a1 = x.1.1 ∧ a2 = x.1.2 ∧ n = flen x.2 ∧ FoD W (fun d => w.heap.size ≤ d ∧ d < W.heap.size) (.slice A n c) x.2 := fun x j e => by
  obtain ⟨e1, e2, e3, e4⟩ := h.t x j e
  have hh := h.hi
  have hz := hf.size
  exact ⟨e1, e2, e3, e4.keep (fun d q => ⟨by have := q.1; omega, by have := q.2; omega⟩) (fun d q => hf.far d q.1 (by have := q.2; omega))⟩
theorem if_fin {w w2 W : World} {v : Value} {r o1 o2 o3 : Out} {p3 : Nat × Bool} {b1 b2 b3 : Nat} {a1 d1 a2 d2 a3 d3 : Int} {A1 A2 A3 : Option Addr} {n1 c1 n2 c2 n3 c3 : Nat} (hr : r = if p3.2 then .no p3.1 else .ok (triE 10 (treO o1) (treO o2) (treO o3)) p3.1)
    (hok : p3.2 = false → (∃ x j, o1 = .ok x j) ∧ (∃ x j, o2 = .ok x j) ∧ ∃ x j, o3 = .ok x j) (hl : w.heap.size ≤ w2.heap.size)
    (hf : Fin w w2 (.cells #[.int .i64 a1, .int .i64 d1, .slice A1 n1 c1, .int .i64 a2, .int .i64 d2, .slice A2 n2 c2, .int .i64 a3, .int .i64 d3, .slice A3 n3 c3] 24) W)
    (h1 : TrB w b1 o1 a1 d1 A1 n1 c1 w2) (h2 : TrB w b2 o2 a2 d2 A2 n2 c2 w2) (h3 : TrB w b3 o3 a3 d3 A3 n3 c3 w2) :
    RfP v r w (.returned (.tuple #[.agg #[v, .int .i64 (p3.1 : Nat), .bool p3.2], .agg #[.int .i64 10, .int .i64 0, .slice (some ⟨w2.heap.size, 0, none⟩) 3 3]])) W := by
  have t1 := h1.fin hf
  have t2 := h2.fin hf
  have t3 := h3.fin hf
  obtain ⟨j3, f3⟩ := p3
  cases f3 with
  | true =>
    rw [hr]
    exact ⟨hf.b, 10, 0, some ⟨w2.heap.size, 0, none⟩, 3, 3, rfl⟩
  | false =>
    obtain ⟨⟨x1, j1, rfl⟩, ⟨x2, j2, rfl⟩, x3, j3', rfl⟩ := hok rfl
    obtain ⟨rfl, rfl, rfl, e1⟩ := t1 x1 j1 rfl
    obtain ⟨rfl, rfl, rfl, e2⟩ := t2 x2 j2 rfl
    obtain ⟨rfl, rfl, rfl, e3⟩ := t3 x3 j3' rfl
    rw [hr]
    have hz := hf.size
    exact ⟨hf.b, some ⟨w2.heap.size, 0, none⟩, 3, rfl, FoD.three (D := fun b => w.heap.size ≤ b ∧ b < W.heap.size) ⟨hl, by omega⟩ hf.g e1 e2 e3 3⟩
set_option maxRecDepth 100000 in
set_option maxHeartbeats 4000000 in
theorem expr8_if (w : World) (v : Value) (ts : List Tok) (ex : Nat → Out) (k : Nat) (hi : nxt ts k = kIf) (h : Tk w v ts)
    (hx : ∀ k', k < k' → k' ≤ ts.length → okK ts k' (ex k') ∧ ∀ W, Tk W v ts → Calls Tryz.prog 41 #[.agg #[v, .int .i64 (k' : Nat), .bool false]] W (RfP v (ex k') W)) :
    Calls Tryz.prog 41 #[.agg #[v, .int .i64 k, .bool false]] w (RfP v (ifO ex ts k) w) := by
  have hkl := nxt_lt hi (by decide)
  have hib : isB ts k false [105, 102] = true := by rw [isB_nxt (by decide)]; exact decide_eq_true hi
  have h' := h
  obtain ⟨A, c, rfl, _⟩ := h'.1
  have hl := h.2.1
  have H0 := Lib.hid h
  have HB := Lib.hid (Bq.new w (.slice A ts.length c) k false)
  have HX := Lib.hid hx
  have HII := Lib.hid hib
  have HE := Lib.hid (fun p2 p3 o1 o2 o3 => if_eq ex ts k (p2 := p2) (p3 := p3) (o1 := o1) (o2 := o2) (o3 := o3))
  clear h h' hx hib hi
  go_enter Tryz.func41, Tryz.ntmps41
  go_upto_region 1 with fail
  generalize ((w.alloc (.cells #[.slice A ts.length c, .int .i64 k, .bool false] 76)).alloc (.cells #[.slice none 0 0, .int .i64 0, .bool false] 76)).alloc (.cells #[.int .i64 0, .int .i64 0, .slice none 0 0] 24) = w0 at *
  obtain ⟨x0, x1, x2, _, _, _⟩ := three_cells HB.out.x
  go_wp2_with fail
  refine (is_any w0 _ ts k false [105, 102] (H0.out.on HB.out.b)).mono ?_
  rintro e w1 ⟨rfl, hb⟩
  rw [HII.out]
  have B1 := Lib.hid (HB.out.on hb)
  clear hb HB x0 x1 x2
  obtain ⟨x0, x1, x2, f0, f1, f2⟩ := three_cells B1.out.x
  go_upto_region 5 with fail
  have B2 := B1.out.inc
  clear B1 x0 x1 x2 f0 f1 f2
  generalize w1.setCell ⟨w.heap.size, 1, none⟩ (.int .i64 ((k : Int) + 1)) = w2 at *
  obtain ⟨p0, hp0⟩ : ∃ p : Nat × Bool, p = (k + 1, false) := ⟨_, rfl⟩
  rw [← hp0] at B2
  have p0a : k < p0.1 := by rw [hp0]; show k < k + 1; omega
  have p0b : p0.1 ≤ ts.length := by rw [hp0]; exact hkl
  have B2 := Lib.hid B2
  have Hp0 := Lib.hid hp0
  have e0 : p0.1 = k + 1 := by rw [hp0]
  have e1 : p0.2 = false := by rw [hp0]
  have HEA := Lib.hid e0
  have HEB := Lib.hid e1
  clear hp0 e0 e1
  obtain ⟨o1, ho1⟩ : ∃ o, o = xbO ex p0.1 p0.2 := ⟨_, rfl⟩
  have hol := xbO_le (ts := ts) (ex := ex) (p := p0) p0b (fun _ => (HX.out p0.1 (by omega) p0b).1)
  have hc := fun W (hW : Tk W (.slice A ts.length c) ts) => xb_any W _ ts ex p0 hW (fun _ => (HX.out p0.1 (by omega) p0b).2)
  rw [← ho1] at hol hc
  have Ho1 := Lib.hid ho1
  have HC := Lib.hid hc
  obtain ⟨s1, hs1⟩ : ∃ s, s = stO o1 := ⟨_, rfl⟩
  rw [← hs1] at hol
  obtain ⟨s1a, s1b⟩ := hol
  have Hs1 := Lib.hid hs1
  clear ho1 hc hs1
  obtain ⟨x0, x1, x2, f0, f1, f2⟩ := three_cells B2.out.x
  go_wp2_with fail
  refine (HC.out w2 (H0.out.on B2.out.b)).mono ?_
  rintro e w3 ⟨a1, d1, A1, n1, c1, rfl, hb, ht⟩
  rw [← Hs1.out]
  have hw4 := B2.out.lt
  have B3 := Lib.hid (B2.out.on hb)
  have HT := Lib.hid ht
  have HBB := Lib.hid hb
  have HW4 := Lib.hid hw4
  clear hb ht hw4 B2 HC x0 x1 x2 f0 f1 f2
  obtain ⟨x0, x1, x2, f0, f1, f2⟩ := three_cells B3.out.x
  obtain ⟨x0', x1', x2', f0', f1', f2'⟩ := three_cells (heap_on B3.out.x (.cells #[.int .i64 0, .int .i64 0, .slice none 0 0] 24))
  obtain ⟨y0, y1, y2, g0, g1, g2⟩ := three_cells (World.alloc_heap_new w3 (.cells #[.int .i64 0, .int .i64 0, .slice none 0 0] 24))
  have hlt := B3.out.lt
  have hne : w.heap.size ≠ w3.heap.size := by omega
  have hne' : w3.heap.size ≠ w.heap.size := by omega
  go_upto_region 6 with fail
  have L5 := lv8 (v' := (.slice A ts.length c)) (k' := .int .i64 (s1.1 : Nat)) (b' := .bool s1.2) (a' := .int .i64 a1) (a2' := .int .i64 d1) (a3' := .slice A1 n1 c1) B3.out.x B3.out.b
  have HT1 := Lib.hid (TrB.new L5 HW4.out HBB.out HT.out)
  have B4 := Lib.hid (B3.out.lv (q := s1) L5)
  clear L5 HT HBB HW4 B3 x0 x1 x2 f0 f1 f2 x0' x1' x2' f0' f1' f2' y0 y1 y2 g0 g1 g2 hne hne' hlt
  generalize ((((((w3.alloc (.cells #[.int .i64 0, .int .i64 0, .slice none 0 0] 24)).setCell ⟨w.heap.size, 0, none⟩ (.slice A ts.length c)).setCell ⟨w.heap.size, 1, none⟩ (.int .i64 (s1.1 : Nat))).setCell ⟨w.heap.size, 2, none⟩ (.bool s1.2)).setCell ⟨w3.heap.size, 0, none⟩ (.int .i64 a1)).setCell ⟨w3.heap.size, 1, none⟩ (.int .i64 d1)).setCell ⟨w3.heap.size, 2, none⟩ (.slice A1 n1 c1) = w4 at *
  generalize w3.heap.size = b1 at *
  obtain ⟨p1, hp1⟩ : ∃ p, p = musS ts [116, 104, 101, 110] s1 := ⟨_, rfl⟩
  have p1l := musS_le (ts := ts) (s := [116, 104, 101, 110]) (p := s1) s1b
  rw [← hp1] at p1l
  have hm : ∀ W, Tk W (.slice A ts.length c) ts → Calls Tryz.prog 77 #[.agg #[(.slice A ts.length c), .int .i64 (s1.1 : Nat), .bool s1.2], .string ⟨#[116, 104, 101, 110]⟩] W fun e w' => e = .returned (.agg #[(.slice A ts.length c), .int .i64 (p1.1 : Nat), .bool p1.2]) ∧ Below W.heap.size W w' := fun W hW => by
    rw [hp1]; exact must_q W _ ts s1 [116, 104, 101, 110] hW (by omega)
  have HM := Lib.hid hm
  have Hp1 := Lib.hid hp1
  clear hp1 hm
  obtain ⟨p1a, p1b⟩ := p1l
  obtain ⟨x0, x1, x2, f0, f1, f2⟩ := three_cells B4.out.x
  go_wp2_with fail
  refine (HM.out w4 (H0.out.on B4.out.b)).mono ?_
  rintro e w5 ⟨rfl, hb⟩
  have B5 := Lib.hid (B4.out.on hb)
  have NT1 := Lib.hid (HT1.out.on hb)
  clear HT1
  have HT1 := NT1
  clear NT1
  clear hb B4 HM x0 x1 x2 f0 f1 f2
  obtain ⟨x0, x1, x2, f0, f1, f2⟩ := three_cells B5.out.x
  go_upto_region 7 with fail
  have B6 := Lib.hid (B5.out.set p1)
  have NT1 := Lib.hid (HT1.out.set (.slice A ts.length c) (.int .i64 (p1.1 : Nat)) (.bool p1.2))
  clear HT1
  have HT1 := NT1
  clear NT1
  clear B5 x0 x1 x2 f0 f1 f2
  generalize ((((w5.setCell ⟨w.heap.size, 0, none⟩ (.slice A ts.length c)).setCell ⟨w.heap.size, 1, none⟩ (.int .i64 (p1.1 : Nat))).setCell ⟨w.heap.size, 2, none⟩ (.bool p1.2))) = w6 at *
  obtain ⟨o2, ho2⟩ : ∃ o, o = xbO ex p1.1 p1.2 := ⟨_, rfl⟩
  have hol := xbO_le (ts := ts) (ex := ex) (p := p1) p1b (fun _ => (HX.out p1.1 (by omega) p1b).1)
  have hc := fun W (hW : Tk W (.slice A ts.length c) ts) => xb_any W _ ts ex p1 hW (fun _ => (HX.out p1.1 (by omega) p1b).2)
  rw [← ho2] at hol hc
  have Ho2 := Lib.hid ho2
  have HC := Lib.hid hc
  obtain ⟨s2, hs2⟩ : ∃ s, s = stO o2 := ⟨_, rfl⟩
  rw [← hs2] at hol
  obtain ⟨s2a, s2b⟩ := hol
  have Hs2 := Lib.hid hs2
  clear ho2 hc hs2
  obtain ⟨x0, x1, x2, f0, f1, f2⟩ := three_cells B6.out.x
  go_wp2_with fail
  refine (HC.out w6 (H0.out.on B6.out.b)).mono ?_
  rintro e w7 ⟨a2, d2, A2, n2, c2, rfl, hb, ht⟩
  rw [← Hs2.out]
  have hw4 := B6.out.lt
  have B7 := Lib.hid (B6.out.on hb)
  have NT1 := Lib.hid (HT1.out.on hb)
  clear HT1
  have HT1 := NT1
  clear NT1
  have HT := Lib.hid ht
  have HBB := Lib.hid hb
  have HW4 := Lib.hid hw4
  clear hb ht hw4 B6 HC x0 x1 x2 f0 f1 f2
  obtain ⟨x0, x1, x2, f0, f1, f2⟩ := three_cells B7.out.x
  obtain ⟨x0', x1', x2', f0', f1', f2'⟩ := three_cells (heap_on B7.out.x (.cells #[.int .i64 0, .int .i64 0, .slice none 0 0] 24))
  obtain ⟨y0, y1, y2, g0, g1, g2⟩ := three_cells (World.alloc_heap_new w7 (.cells #[.int .i64 0, .int .i64 0, .slice none 0 0] 24))
  have hlt := B7.out.lt
  have hne : w.heap.size ≠ w7.heap.size := by omega
  have hne' : w7.heap.size ≠ w.heap.size := by omega
  go_upto_region 8 with fail
  have L5 := lv8 (v' := (.slice A ts.length c)) (k' := .int .i64 (s2.1 : Nat)) (b' := .bool s2.2) (a' := .int .i64 a2) (a2' := .int .i64 d2) (a3' := .slice A2 n2 c2) B7.out.x B7.out.b
  have HT2 := Lib.hid (TrB.new L5 HW4.out HBB.out HT.out)
  have B8 := Lib.hid (B7.out.lv (q := s2) L5)
  have NT1 := Lib.hid (HT1.out.lv L5)
  clear HT1
  have HT1 := NT1
  clear NT1
  clear L5 HT HBB HW4 B7 x0 x1 x2 f0 f1 f2 x0' x1' x2' f0' f1' f2' y0 y1 y2 g0 g1 g2 hne hne' hlt
  generalize ((((((w7.alloc (.cells #[.int .i64 0, .int .i64 0, .slice none 0 0] 24)).setCell ⟨w.heap.size, 0, none⟩ (.slice A ts.length c)).setCell ⟨w.heap.size, 1, none⟩ (.int .i64 (s2.1 : Nat))).setCell ⟨w.heap.size, 2, none⟩ (.bool s2.2)).setCell ⟨w7.heap.size, 0, none⟩ (.int .i64 a2)).setCell ⟨w7.heap.size, 1, none⟩ (.int .i64 d2)).setCell ⟨w7.heap.size, 2, none⟩ (.slice A2 n2 c2) = w8 at *
  generalize w7.heap.size = b2 at *
  obtain ⟨p2, hp2⟩ : ∃ p, p = musS ts [101, 108, 115, 101] s2 := ⟨_, rfl⟩
  have p2l := musS_le (ts := ts) (s := [101, 108, 115, 101]) (p := s2) s2b
  rw [← hp2] at p2l
  have hm : ∀ W, Tk W (.slice A ts.length c) ts → Calls Tryz.prog 77 #[.agg #[(.slice A ts.length c), .int .i64 (s2.1 : Nat), .bool s2.2], .string ⟨#[101, 108, 115, 101]⟩] W fun e w' => e = .returned (.agg #[(.slice A ts.length c), .int .i64 (p2.1 : Nat), .bool p2.2]) ∧ Below W.heap.size W w' := fun W hW => by
    rw [hp2]; exact must_q W _ ts s2 [101, 108, 115, 101] hW (by omega)
  have HM := Lib.hid hm
  have Hp2 := Lib.hid hp2
  clear hp2 hm
  obtain ⟨p2a, p2b⟩ := p2l
  obtain ⟨x0, x1, x2, f0, f1, f2⟩ := three_cells B8.out.x
  go_wp2_with fail
  refine (HM.out w8 (H0.out.on B8.out.b)).mono ?_
  rintro e w9 ⟨rfl, hb⟩
  have B9 := Lib.hid (B8.out.on hb)
  have NT1 := Lib.hid (HT1.out.on hb)
  have NT2 := Lib.hid (HT2.out.on hb)
  clear HT1 HT2
  have HT1 := NT1
  have HT2 := NT2
  clear NT1 NT2
  clear hb B8 HM x0 x1 x2 f0 f1 f2
  obtain ⟨x0, x1, x2, f0, f1, f2⟩ := three_cells B9.out.x
  go_upto_region 9 with fail
  have B10 := Lib.hid (B9.out.set p2)
  have NT1 := Lib.hid (HT1.out.set (.slice A ts.length c) (.int .i64 (p2.1 : Nat)) (.bool p2.2))
  have NT2 := Lib.hid (HT2.out.set (.slice A ts.length c) (.int .i64 (p2.1 : Nat)) (.bool p2.2))
  clear HT1 HT2
  have HT1 := NT1
  have HT2 := NT2
  clear NT1 NT2
  clear B9 x0 x1 x2 f0 f1 f2
  generalize ((((w9.setCell ⟨w.heap.size, 0, none⟩ (.slice A ts.length c)).setCell ⟨w.heap.size, 1, none⟩ (.int .i64 (p2.1 : Nat))).setCell ⟨w.heap.size, 2, none⟩ (.bool p2.2))) = w10 at *
  obtain ⟨o3, ho3⟩ : ∃ o, o = xbO ex p2.1 p2.2 := ⟨_, rfl⟩
  have hol := xbO_le (ts := ts) (ex := ex) (p := p2) p2b (fun _ => (HX.out p2.1 (by omega) p2b).1)
  have hc := fun W (hW : Tk W (.slice A ts.length c) ts) => xb_any W _ ts ex p2 hW (fun _ => (HX.out p2.1 (by omega) p2b).2)
  rw [← ho3] at hol hc
  have Ho3 := Lib.hid ho3
  have HC := Lib.hid hc
  obtain ⟨s3, hs3⟩ : ∃ s, s = stO o3 := ⟨_, rfl⟩
  rw [← hs3] at hol
  obtain ⟨s3a, s3b⟩ := hol
  have Hs3 := Lib.hid hs3
  clear ho3 hc hs3
  obtain ⟨x0, x1, x2, f0, f1, f2⟩ := three_cells B10.out.x
  go_wp2_with fail
  refine (HC.out w10 (H0.out.on B10.out.b)).mono ?_
  rintro e w11 ⟨a3, d3, A3, n3, c3, rfl, hb, ht⟩
  rw [← Hs3.out]
  have hw4 := B10.out.lt
  have B11 := Lib.hid (B10.out.on hb)
  have NT1 := Lib.hid (HT1.out.on hb)
  have NT2 := Lib.hid (HT2.out.on hb)
  clear HT1 HT2
  have HT1 := NT1
  have HT2 := NT2
  clear NT1 NT2
  have HT := Lib.hid ht
  have HBB := Lib.hid hb
  have HW4 := Lib.hid hw4
  clear hb ht hw4 B10 HC x0 x1 x2 f0 f1 f2
  obtain ⟨x0, x1, x2, f0, f1, f2⟩ := three_cells B11.out.x
  obtain ⟨x0', x1', x2', f0', f1', f2'⟩ := three_cells (heap_on B11.out.x (.cells #[.int .i64 0, .int .i64 0, .slice none 0 0] 24))
  obtain ⟨y0, y1, y2, g0, g1, g2⟩ := three_cells (World.alloc_heap_new w11 (.cells #[.int .i64 0, .int .i64 0, .slice none 0 0] 24))
  have hlt := B11.out.lt
  have hne : w.heap.size ≠ w11.heap.size := by omega
  have hne' : w11.heap.size ≠ w.heap.size := by omega
  go_upto_region 10 with fail
  have L5 := lv8 (v' := (.slice A ts.length c)) (k' := .int .i64 (s3.1 : Nat)) (b' := .bool s3.2) (a' := .int .i64 a3) (a2' := .int .i64 d3) (a3' := .slice A3 n3 c3) B11.out.x B11.out.b
  have HT3 := Lib.hid (TrB.new L5 HW4.out HBB.out HT.out)
  have B12 := Lib.hid (B11.out.lv (q := s3) L5)
  have NT1 := Lib.hid (HT1.out.lv L5)
  have NT2 := Lib.hid (HT2.out.lv L5)
  clear HT1 HT2
  have HT1 := NT1
  have HT2 := NT2
  clear NT1 NT2
  clear L5 HT HBB HW4 B11 x0 x1 x2 f0 f1 f2 x0' x1' x2' f0' f1' f2' y0 y1 y2 g0 g1 g2 hne hne' hlt
  generalize ((((((w11.alloc (.cells #[.int .i64 0, .int .i64 0, .slice none 0 0] 24)).setCell ⟨w.heap.size, 0, none⟩ (.slice A ts.length c)).setCell ⟨w.heap.size, 1, none⟩ (.int .i64 (s3.1 : Nat))).setCell ⟨w.heap.size, 2, none⟩ (.bool s3.2)).setCell ⟨w11.heap.size, 0, none⟩ (.int .i64 a3)).setCell ⟨w11.heap.size, 1, none⟩ (.int .i64 d3)).setCell ⟨w11.heap.size, 2, none⟩ (.slice A3 n3 c3) = w12 at *
  generalize w11.heap.size = b3 at *
  obtain ⟨x0, x1, x2, f0, f1, f2⟩ := three_cells B12.out.x
  obtain ⟨t10, t11, t12⟩ := HT1.out.three
  obtain ⟨t20, t21, t22⟩ := HT2.out.three
  obtain ⟨t30, t31, t32⟩ := HT3.out.three
  obtain ⟨y0, y1, y2, g0, g1, g2⟩ := three_cells B12.out.y
  obtain ⟨z0, z1, z2, i0, i1, i2⟩ := three_cells B12.out.z
  have hlt := B12.out.lt
  have l1 := HT1.out.lo
  have m1 := HT1.out.hi
  have l2 := HT2.out.lo
  have m2 := HT2.out.hi
  have l3 := HT3.out.lo
  have m3 := HT3.out.hi
  have u1 : b1 ≠ w.heap.size + 1 := by omega
  have v1 : b1 ≠ w.heap.size + 1 + 1 := by omega
  have u1' : w.heap.size + 1 ≠ b1 := by omega
  have v1' : w.heap.size + 1 + 1 ≠ b1 := by omega
  have u2 : b2 ≠ w.heap.size + 1 := by omega
  have v2 : b2 ≠ w.heap.size + 1 + 1 := by omega
  have u2' : w.heap.size + 1 ≠ b2 := by omega
  have v2' : w.heap.size + 1 + 1 ≠ b2 := by omega
  have u3 : b3 ≠ w.heap.size + 1 := by omega
  have v3 : b3 ≠ w.heap.size + 1 + 1 := by omega
  have u3' : w.heap.size + 1 ≠ b3 := by omega
  have v3' : w.heap.size + 1 + 1 ≠ b3 := by omega
  have r9 : w.heap.size ≠ w.heap.size + 1 + 1 := by omega
  have r10 : w.heap.size + 1 + 1 ≠ w.heap.size := by omega
  have ax := fun o => three_cells (heap_on B12.out.x o)
  have ay := fun o => three_cells (heap_on B12.out.y o)
  have az := fun o => three_cells (heap_on B12.out.z o)
  have ax0 := fun o => (ax o).1
  have ax1 := fun o => (ax o).2.1
  have ax2 := fun o => (ax o).2.2.1
  have ax3 := fun o => (ax o).2.2.2.1
  have ax4 := fun o => (ax o).2.2.2.2.1
  have ax5 := fun o => (ax o).2.2.2.2.2
  have ay0 := fun o => (ay o).1
  have ay1 := fun o => (ay o).2.1
  have ay2 := fun o => (ay o).2.2.1
  have ay3 := fun o => (ay o).2.2.2.1
  have ay4 := fun o => (ay o).2.2.2.2.1
  have ay5 := fun o => (ay o).2.2.2.2.2
  have az0 := fun o => (az o).1
  have az1 := fun o => (az o).2.1
  have az2 := fun o => (az o).2.2.1
  have az3 := fun o => (az o).2.2.2.1
  have az4 := fun o => (az o).2.2.2.2.1
  have az5 := fun o => (az o).2.2.2.2.2
  clear ax ay az
  have hreq : ifO ex ts k = if s3.2 then .no s3.1 else .ok (triE 10 (treO o1) (treO o2) (treO o3)) s3.1 := by
    rw [Hs3.out]; exact HE.out p1 p2 o1 o2 o3 (by have h := Ho1.out; rw [HEA.out, HEB.out] at h; exact h) (by rw [← Hs1.out]; exact Hp1.out) Ho2.out (by rw [← Hs2.out]; exact Hp2.out) Ho3.out
  have hok : s3.2 = false → (∃ x j, o1 = .ok x j) ∧ (∃ x j, o2 = .ok x j) ∧ ∃ x j, o3 = .ok x j := fun hf => if_ok (by rw [← Hs1.out]; exact Hp1.out) Ho2.out (by rw [← Hs2.out]; exact Hp2.out) Ho3.out (by rw [← Hs3.out]; exact hf)
  have HRE := Lib.hid hreq
  have HOK := Lib.hid hok
  clear hreq hok
  go_region
  all_goals go_wp2_with fail
  · have hf := fin_a hlt B12.out.b (.slice A ts.length c) (.int .i64 (s3.1 : Nat)) (.bool s3.2) (.int .i64 10) (.int .i64 0) (.slice (some ⟨w12.heap.size, 0, none⟩) 3 3) (.cells #[.int .i64 a1, .int .i64 d1, .slice A1 n1 c1, .int .i64 a2, .int .i64 d2, .slice A2 n2 c2, .int .i64 a3, .int .i64 d3, .slice A3 n3 c3] 24)
    obtain ⟨k0, k1, k2, k3, k4, k5⟩ := cells_a B12.out.y B12.out.z (.slice A ts.length c) (.int .i64 (s3.1 : Nat)) (.bool s3.2) (.int .i64 10) (.int .i64 0) (.slice (some ⟨w12.heap.size, 0, none⟩) 3 3) (.cells #[.int .i64 a1, .int .i64 d1, .slice A1 n1 c1, .int .i64 a2, .int .i64 d2, .slice A2 n2 c2, .int .i64 a3, .int .i64 d3, .slice A3 n3 c3] 24)
    generalize (((((((w12.setCell ⟨w.heap.size + 1, 0, none⟩ (.slice A ts.length c)).setCell ⟨w.heap.size + 1, 1, none⟩ (.int .i64 (s3.1 : Nat))).setCell ⟨w.heap.size + 1, 2, none⟩ (.bool s3.2)).setCell ⟨w.heap.size + 1 + 1, 0, none⟩ (.int .i64 10)).setCell ⟨w.heap.size + 1 + 1, 1, none⟩ (.int .i64 0)).setCell ⟨w.heap.size + 1 + 1, 2, none⟩ (.slice (some ⟨w12.heap.size, 0, none⟩) 3 3)).alloc (.cells #[.int .i64 a1, .int .i64 d1, .slice A1 n1 c1, .int .i64 a2, .int .i64 d2, .slice A2 n2 c2, .int .i64 a3, .int .i64 d3, .slice A3 n3 c3] 24)).drew = WX at *
    refine bodyPost_ret (v := .tuple #[.agg #[.slice A ts.length c, .int .i64 (s3.1 : Nat), .bool s3.2], .agg #[.int .i64 10, .int .i64 0, .slice (some ⟨w12.heap.size, 0, none⟩) 3 3]]) (by simp [results, Tryz.results41, go_sem, k0, k1, k2, k3, k4, k5]) rfl ?_
    exact if_fin HRE.out HOK.out (by omega) hf HT1.out HT2.out HT3.out
  · have hf := fin_b hlt B12.out.b (.slice A ts.length c) (.int .i64 (s3.1 : Nat)) (.bool s3.2) (.int .i64 10) (.int .i64 0) (.slice (some ⟨w12.heap.size, 0, none⟩) 3 3) (.cells #[.int .i64 a1, .int .i64 d1, .slice A1 n1 c1, .int .i64 a2, .int .i64 d2, .slice A2 n2 c2, .int .i64 a3, .int .i64 d3, .slice A3 n3 c3] 24)
    obtain ⟨k0, k1, k2, k3, k4, k5⟩ := cells_b B12.out.y B12.out.z (.slice A ts.length c) (.int .i64 (s3.1 : Nat)) (.bool s3.2) (.int .i64 10) (.int .i64 0) (.slice (some ⟨w12.heap.size, 0, none⟩) 3 3) (.cells #[.int .i64 a1, .int .i64 d1, .slice A1 n1 c1, .int .i64 a2, .int .i64 d2, .slice A2 n2 c2, .int .i64 a3, .int .i64 d3, .slice A3 n3 c3] 24)
    generalize (((((((w12.alloc (.cells #[.int .i64 a1, .int .i64 d1, .slice A1 n1 c1, .int .i64 a2, .int .i64 d2, .slice A2 n2 c2, .int .i64 a3, .int .i64 d3, .slice A3 n3 c3] 24)).setCell ⟨w.heap.size + 1, 0, none⟩ (.slice A ts.length c)).setCell ⟨w.heap.size + 1, 1, none⟩ (.int .i64 (s3.1 : Nat))).setCell ⟨w.heap.size + 1, 2, none⟩ (.bool s3.2)).setCell ⟨w.heap.size + 1 + 1, 0, none⟩ (.int .i64 10)).setCell ⟨w.heap.size + 1 + 1, 1, none⟩ (.int .i64 0)).setCell ⟨w.heap.size + 1 + 1, 2, none⟩ (.slice (some ⟨w12.heap.size, 0, none⟩) 3 3)).drew = WX at *
    refine bodyPost_ret (v := .tuple #[.agg #[.slice A ts.length c, .int .i64 (s3.1 : Nat), .bool s3.2], .agg #[.int .i64 10, .int .i64 0, .slice (some ⟨w12.heap.size, 0, none⟩) 3 3]]) (by simp [results, Tryz.results41, go_sem, k0, k1, k2, k3, k4, k5]) rfl ?_
    exact if_fin HRE.out HOK.out (by omega) hf HT1.out HT2.out HT3.out
end Go.Proofs.YtomnjamldbficaaGreatDoor
namespace Go.Proofs.YtomnjamldbficaaGreatDoor
open Go.RowKit Lx Px
theorem not_fin {w w2 W : World} {v : Value} {r o1 : Out} {p3 : Nat × Bool} {a1 d1 : Int} {A1 : Option Addr} {n1 c1 b1 : Nat} (hr : r = if p3.2 then .no p3.1 else .ok (oneE 15 (treO o1)) p3.1)
    (hok : p3.2 = false → ∃ x j, o1 = .ok x j) (hl : w.heap.size ≤ w2.heap.size) (hf : Fin w w2 (.cells #[.int .i64 a1, .int .i64 d1, .slice A1 n1 c1] 24) W) (h1 : TrB w b1 o1 a1 d1 A1 n1 c1 w2) :
    RfP v r w (.returned (.tuple #[.agg #[v, .int .i64 (p3.1 : Nat), .bool p3.2], .agg #[.int .i64 15, .int .i64 0, .slice (some ⟨w2.heap.size, 0, none⟩) 1 1]])) W := by
  have t1 := h1.fin hf
  obtain ⟨j3, f3⟩ := p3
  cases f3 with
  | true =>
    rw [hr]
    exact ⟨hf.b, 15, 0, some ⟨w2.heap.size, 0, none⟩, 1, 1, rfl⟩
  | false =>
    obtain ⟨x1, j1, rfl⟩ := hok rfl
    obtain ⟨rfl, rfl, rfl, e1⟩ := t1 x1 j1 rfl
    rw [hr]
    have hz := hf.size
    exact ⟨hf.b, some ⟨w2.heap.size, 0, none⟩, 1, rfl, FoD.one (D := fun b => w.heap.size ≤ b ∧ b < W.heap.size) ⟨hl, by omega⟩ hf.g e1 1⟩
set_option maxRecDepth 100000 in
set_option maxHeartbeats 2000000 in
theorem level_not (w : World) (v : Value) (ts : List Tok) (k : Nat) (hnot : nxt ts k = kNot) (o1 : Out) (h : Tk w v ts)
    (hc : ∀ W, Tk W v ts → Calls Tryz.prog 76 #[.agg #[v, .int .i64 ((k : Int) + 1), .bool false], .int .i64 3] W (RfP v o1 W)) :
    Calls Tryz.prog 76 #[.agg #[v, .int .i64 k, .bool false], .int .i64 3] w (RfP v (bndO o1 fun a j => .ok (oneE 15 a) j) w) := by
  have hkl := nxt_lt hnot (by decide)
  have hib : isB ts k false [110, 111, 116] = true := by rw [isB_nxt (by decide)]; exact decide_eq_true hnot
  have h' := h
  obtain ⟨A, c, rfl, _⟩ := h'.1
  have hl := h.2.1
  have H0 := Lib.hid h
  have HB := Lib.hid (Bq.new w (.slice A ts.length c) k false)
  have HI := Lib.hid hc
  have HBN := Lib.hid hib
  clear h h' hc hib hnot
  go_enter Tryz.func76, Tryz.ntmps76
  go_upto_region 1 with fail
  generalize ((w.alloc (.cells #[.slice A ts.length c, .int .i64 k, .bool false] 76)).alloc (.cells #[.slice none 0 0, .int .i64 0, .bool false] 76)).alloc (.cells #[.int .i64 0, .int .i64 0, .slice none 0 0] 24) = w1 at *
  obtain ⟨x0, x1, x2, _, _, _⟩ := three_cells HB.out.x
  go_wp2_with fail
  refine (is_any w1 _ ts k false [110, 111, 116] (H0.out.on HB.out.b)).mono ?_
  rintro e w2 ⟨rfl, hb⟩
  rw [HBN.out]
  have B2 := Lib.hid (HB.out.on hb)
  clear hb HB x0 x1 x2 HBN
  obtain ⟨x0, x1, x2, f0, f1, f2⟩ := three_cells B2.out.x
  go_upto_region 6 with fail
  have B3 := Lib.hid B2.out.inc
  clear B2 x0 x1 x2 f0 f1 f2
  generalize w2.setCell ⟨w.heap.size, 1, none⟩ (.int .i64 ((k : Int) + 1)) = w3 at *
  obtain ⟨x0, x1, x2, f0, f1, f2⟩ := three_cells B3.out.x
  have hc1 : ((k + 1 : Nat) : Int) = (k : Int) + 1 := by omega
  rw [hc1] at x1
  go_wp2_with fail
  refine (HI.out w3 (H0.out.on B3.out.b)).mono ?_
  intro e w4 hq
  obtain ⟨a1, d1, A1, n1, c1, rfl, hb, ht⟩ := hq.q
  obtain ⟨s1, hs⟩ : ∃ s, s = stO o1 := ⟨_, rfl⟩
  rw [← hs]
  have HS := Lib.hid hs
  have HT := Lib.hid ht
  have hw3 := B3.out.lt
  have hs4 := hb.size
  have B4 := Lib.hid (B3.out.on hb)
  clear hq hs ht hb HI B3 x0 x1 x2 f0 f1 f2 hc1
  go_upto_region 7 with fail
  obtain ⟨lx, ln, lb⟩ := boxes2 w4 (.cells #[.slice A ts.length c, .int .i64 (s1.1 : Nat), .bool s1.2] 76) (.cells #[.int .i64 a1, .int .i64 d1, .slice A1 n1 c1] 24)
  have T5 : TrB w (w4.heap.size + 1) o1 a1 d1 A1 n1 c1 ((w4.alloc (.cells #[.slice A ts.length c, .int .i64 (s1.1 : Nat), .bool s1.2] 76)).alloc (.cells #[.int .i64 a1, .int .i64 d1, .slice A1 n1 c1] 24)) := ⟨ln, by omega, fun x j e => by
    obtain ⟨e1, e2, e3, e4⟩ := HT.out x j e
    exact ⟨e1, e2, e3, e4.keep (fun b q => ⟨by have := q.1; omega, by have := q.2; omega⟩) (fun b q => lb.block b q.2)⟩⟩
  generalize (w4.alloc (.cells #[.slice A ts.length c, .int .i64 (s1.1 : Nat), .bool s1.2] 76)).alloc (.cells #[.int .i64 a1, .int .i64 d1, .slice A1 n1 c1] 24) = w5 at *
  have B5 := Lib.hid (B4.out.on lb)
  have HT5 := Lib.hid T5
  have HLX := Lib.hid lx
  clear lx ln lb T5 HT B4
  obtain ⟨b7, hb7⟩ : ∃ b, b = w4.heap.size := ⟨_, rfl⟩
  rw [← hb7] at HT5 HLX
  rw [← hb7]
  have hlt := B5.out.lt
  have h7 : w.heap.size + 1 + 1 < b7 := by omega
  obtain ⟨x0, x1, x2, f0, f1, f2⟩ := three_cells HLX.out
  obtain ⟨y0, y1, y2, g0, g1, g2⟩ := three_cells B5.out.y
  obtain ⟨z0, z1, z2, i0, i1, i2⟩ := three_cells B5.out.z
  obtain ⟨t0, t1, t2⟩ := HT5.out.three
  have r1 : b7 ≠ w.heap.size + 1 := by omega
  have r2 : b7 ≠ w.heap.size + 1 + 1 := by omega
  have r3 : b7 + 1 ≠ w.heap.size + 1 := by omega
  have r4 : b7 + 1 ≠ w.heap.size + 1 + 1 := by omega
  have r1' : w.heap.size + 1 ≠ b7 := by omega
  have r2' : w.heap.size + 1 + 1 ≠ b7 := by omega
  have r3' : w.heap.size + 1 ≠ b7 + 1 := by omega
  have r4' : w.heap.size + 1 + 1 ≠ b7 + 1 := by omega
  have ax := fun o => three_cells (heap_on HLX.out o)
  have ay := fun o => three_cells (heap_on B5.out.y o)
  have az := fun o => three_cells (heap_on B5.out.z o)
  have ax0 := fun o => (ax o).1
  have ax1 := fun o => (ax o).2.1
  have ax2 := fun o => (ax o).2.2.1
  have ax3 := fun o => (ax o).2.2.2.1
  have ax4 := fun o => (ax o).2.2.2.2.1
  have ax5 := fun o => (ax o).2.2.2.2.2
  have ay0 := fun o => (ay o).1
  have ay1 := fun o => (ay o).2.1
  have ay2 := fun o => (ay o).2.2.1
  have ay3 := fun o => (ay o).2.2.2.1
  have ay4 := fun o => (ay o).2.2.2.2.1
  have ay5 := fun o => (ay o).2.2.2.2.2
  have az0 := fun o => (az o).1
  have az1 := fun o => (az o).2.1
  have az2 := fun o => (az o).2.2.1
  have az3 := fun o => (az o).2.2.2.1
  have az4 := fun o => (az o).2.2.2.2.1
  have az5 := fun o => (az o).2.2.2.2.2
  clear ax ay az
  have hreq : (bndO o1 fun a j => Out.ok (oneE 15 a) j) = if s1.2 then .no s1.1 else .ok (oneE 15 (treO o1)) s1.1 := by
    rw [HS.out]; cases o1 <;> rfl
  have hok : s1.2 = false → ∃ x j, o1 = .ok x j := fun hf => by
    rw [HS.out] at hf
    cases o1 with
    | ok x j => exact ⟨x, j, rfl⟩
    | no j => cases hf
  have HRE := Lib.hid hreq
  have HOK := Lib.hid hok
  clear hreq hok hs4 hw3 hb7
  go_region
  all_goals go_wp2_with fail
  · have hf := fin_a hlt B5.out.b (.slice A ts.length c) (.int .i64 (s1.1 : Nat)) (.bool s1.2) (.int .i64 15) (.int .i64 0) (.slice (some ⟨w5.heap.size, 0, none⟩) 1 1) (.cells #[.int .i64 a1, .int .i64 d1, .slice A1 n1 c1] 24)
    obtain ⟨k0, k1, k2, k3, k4, k5⟩ := cells_a B5.out.y B5.out.z (.slice A ts.length c) (.int .i64 (s1.1 : Nat)) (.bool s1.2) (.int .i64 15) (.int .i64 0) (.slice (some ⟨w5.heap.size, 0, none⟩) 1 1) (.cells #[.int .i64 a1, .int .i64 d1, .slice A1 n1 c1] 24)
    generalize (((((((w5.setCell ⟨w.heap.size + 1, 0, none⟩ (.slice A ts.length c)).setCell ⟨w.heap.size + 1, 1, none⟩ (.int .i64 (s1.1 : Nat))).setCell ⟨w.heap.size + 1, 2, none⟩ (.bool s1.2)).setCell ⟨w.heap.size + 1 + 1, 0, none⟩ (.int .i64 15)).setCell ⟨w.heap.size + 1 + 1, 1, none⟩ (.int .i64 0)).setCell ⟨w.heap.size + 1 + 1, 2, none⟩ (.slice (some ⟨w5.heap.size, 0, none⟩) 1 1)).alloc (.cells #[.int .i64 a1, .int .i64 d1, .slice A1 n1 c1] 24)).drew = WX at *
    refine bodyPost_ret (v := .tuple #[.agg #[.slice A ts.length c, .int .i64 (s1.1 : Nat), .bool s1.2], .agg #[.int .i64 15, .int .i64 0, .slice (some ⟨w5.heap.size, 0, none⟩) 1 1]]) (by simp [results, Tryz.results76, go_sem, k0, k1, k2, k3, k4, k5]) rfl ?_
    exact not_fin HRE.out HOK.out (by omega) hf HT5.out
  · have hf := fin_b hlt B5.out.b (.slice A ts.length c) (.int .i64 (s1.1 : Nat)) (.bool s1.2) (.int .i64 15) (.int .i64 0) (.slice (some ⟨w5.heap.size, 0, none⟩) 1 1) (.cells #[.int .i64 a1, .int .i64 d1, .slice A1 n1 c1] 24)
    obtain ⟨k0, k1, k2, k3, k4, k5⟩ := cells_b B5.out.y B5.out.z (.slice A ts.length c) (.int .i64 (s1.1 : Nat)) (.bool s1.2) (.int .i64 15) (.int .i64 0) (.slice (some ⟨w5.heap.size, 0, none⟩) 1 1) (.cells #[.int .i64 a1, .int .i64 d1, .slice A1 n1 c1] 24)
    generalize (((((((w5.alloc (.cells #[.int .i64 a1, .int .i64 d1, .slice A1 n1 c1] 24)).setCell ⟨w.heap.size + 1, 0, none⟩ (.slice A ts.length c)).setCell ⟨w.heap.size + 1, 1, none⟩ (.int .i64 (s1.1 : Nat))).setCell ⟨w.heap.size + 1, 2, none⟩ (.bool s1.2)).setCell ⟨w.heap.size + 1 + 1, 0, none⟩ (.int .i64 15)).setCell ⟨w.heap.size + 1 + 1, 1, none⟩ (.int .i64 0)).setCell ⟨w.heap.size + 1 + 1, 2, none⟩ (.slice (some ⟨w5.heap.size, 0, none⟩) 1 1)).drew = WX at *
    refine bodyPost_ret (v := .tuple #[.agg #[.slice A ts.length c, .int .i64 (s1.1 : Nat), .bool s1.2], .agg #[.int .i64 15, .int .i64 0, .slice (some ⟨w5.heap.size, 0, none⟩) 1 1]]) (by simp [results, Tryz.results76, go_sem, k0, k1, k2, k3, k4, k5]) rfl ?_
    exact not_fin HRE.out HOK.out (by omega) hf HT5.out
set_option maxRecDepth 100000 in
set_option maxHeartbeats 1000000 in
theorem expr8_no (w : World) (v : Value) (ts : List Tok) (k : Nat) (o : Out) (hi : nxt ts k ≠ kIf) (h : Tk w v ts) (ha : ∀ W, Tk W v ts → Calls Tryz.prog 76 #[.agg #[v, .int .i64 k, .bool false], .int .i64 1] W (RfP v o W)) :
    Calls Tryz.prog 41 #[.agg #[v, .int .i64 k, .bool false]] w (RfP v o w) := by
  have hib : isB ts k false [105, 102] = false := by rw [isB_nxt (by decide)]; exact decide_eq_false hi
  have h' := h
  obtain ⟨A, c, rfl, _⟩ := h'.1
  have hl := h.2.1
  have H0 := Lib.hid h
  have HB := Lib.hid (Bq.new w (.slice A ts.length c) k false)
  have HI := Lib.hid ha
  have HII := Lib.hid hib
  clear h h' ha hib hi
  go_enter Tryz.func41, Tryz.ntmps41
  go_upto_region 1 with fail
  generalize ((w.alloc (.cells #[.slice A ts.length c, .int .i64 k, .bool false] 76)).alloc (.cells #[.slice none 0 0, .int .i64 0, .bool false] 76)).alloc (.cells #[.int .i64 0, .int .i64 0, .slice none 0 0] 24) = w1 at *
  obtain ⟨x0, x1, x2, _, _, _⟩ := three_cells HB.out.x
  go_wp2_with fail
  refine (is_any w1 _ ts k false [105, 102] (H0.out.on HB.out.b)).mono ?_
  rintro e w2 ⟨rfl, hb⟩
  rw [HII.out]
  have B2 := Lib.hid (HB.out.on hb)
  clear hb HB x0 x1 x2
  obtain ⟨x0, x1, x2, f0, f1, f2⟩ := three_cells B2.out.x
  go_wp2_with fail
  refine (HI.out w2 (H0.out.on B2.out.b)).mono ?_
  intro e w3 hq
  obtain ⟨a, b, A2, n2, c2, rfl, hb, ht⟩ := hq.q
  have B3 := B2.out.on hb
  have HQ := Lib.hid (ret_q (v := .slice A ts.length c) B2.out.b B2.out.lt hb ht)
  obtain ⟨y0, y1, y2, g0, g1, g2⟩ := three_cells B3.y
  obtain ⟨z0, z1, z2, i0, i1, i2⟩ := three_cells B3.z
  clear hq hb ht B2 B3 x0 x1 x2 f0 f1 f2
  go_wp2_with fail
  refine bodyPost_ret (v := .tuple #[.agg #[.slice A ts.length c, .int .i64 ((stO o).1 : Nat), .bool (stO o).2], .agg #[.int .i64 a, .int .i64 b, .slice A2 n2 c2]]) (by simp [results, Tryz.results41, go_sem, y0, y1, y2, z0, z1, z2]) rfl ?_
  exact HQ.out
theorem lvl_rc (n : Nat) (h1 : 1 ≤ n) (h5 : n ≤ 5) (v : Value) (ts : List Tok) (k : Nat) (hk : k ≤ ts.length) (hg : ∀ k', k ≤ k' → k' ≤ ts.length → LvF (n + 1) v ts k') (h3 : n = 3 → ∀ k', k < k' → k' ≤ ts.length → LvF 3 v ts k') : LvF n v ts k := by
  by_cases hn : n = 3
  · subst hn
    by_cases hnot : nxt ts k = kNot
    · have hlt := nxt_lt hnot (by decide)
      have htx : txt ts k = kNot :: txt ts (k + 1) := by rw [txt_nxt hlt, hnot]
      obtain ⟨o, hr, ho, hc⟩ := h3 rfl (k + 1) (by omega) (by omega)
      rw [cast1] at hc
      refine ⟨bndO o fun a j => .ok (oneE 15 a) j, ?_, ?_, fun W hW => level_not W v ts k hnot o hW hc⟩
      · rw [htx]
        cases o with
        | ok x j => exact Rd_not hr
        | no j => exact Rd_not_no hr
      · cases o with
        | ok x j => exact ⟨by have := ho.1; omega, ho.2⟩
        | no j => exact ⟨by have := ho.1; omega, ho.2⟩
    · obtain ⟨o, G, hr, ho, hC⟩ := lvl_cmp v ts k hk hnot hg
      exact ⟨o, hr, ho, fun W hW => level_any W v ts k 3 _ rfl (by omega) (by omega) (fun _ => hnot) o G hC hW⟩
  · obtain ⟨o, G, hr, ho, hC⟩ := lvl_left n (by unfold lft; omega) v ts k hk hg
    exact ⟨o, hr, ho, fun W hW => level_any W v ts k n _ rfl h1 h5 (fun e => absurd e hn) o G hC hW⟩
/-- expr of the reference reads the same, and level reads, from a token on -/
def Al (v : Value) (ts : List Tok) (k : Nat) : Prop :=
  (∀ W, Tk W v ts → Calls Tryz.prog 41 #[.agg #[v, .int .i64 (k : Nat), .bool false]] W (RfP v (exOf ts k) W)) ∧ ∀ n, 1 ≤ n → n ≤ 6 → LvF n v ts k
theorem al_step (v : Value) (ts : List Tok) (k : Nat) (hk : k ≤ ts.length) (hi : ∀ k', k < k' → k' ≤ ts.length → Al v ts k') : Al v ts k := by
  have hex : ∀ k', k < k' → k' ≤ ts.length → okK ts k' (exOf ts k') ∧ ∀ W, Tk W v ts → Calls Tryz.prog 41 #[.agg #[v, .int .i64 (k' : Nat), .bool false]] W (RfP v (exOf ts k') W) := fun k' h1 h2 => ⟨(exOf_reads ts k' h2).2, (hi k' h1 h2).1⟩
  have l6 : LvF 6 v ts k := by
    obtain ⟨hr, ho⟩ := atomO_rd (ts := ts) (ex := exOf ts) hk (fun k' _ h2 => exOf_reads ts k' h2)
    exact ⟨atomO (exOf ts) ts k, hr, ho, fun W hW => level6_any W v ts k _ hW (fun W' hW' => atom8_any W' v ts (exOf ts) k hW' hex)⟩
  have down : ∀ n, 1 ≤ n → n ≤ 5 → LvF (n + 1) v ts k → LvF n v ts k := fun n h1 h5 hn =>
    lvl_rc n h1 h5 v ts k hk (fun k' h2 h3 => by
      by_cases e : k = k'
      · subst e; exact hn
      · exact (hi k' (by omega) h3).2 (n + 1) (by omega) (by omega)) (fun _ k' h2 h3 => (hi k' h2 h3).2 3 (by omega) (by omega))
  have l5 := down 5 (by omega) (by omega) l6
  have l4 := down 4 (by omega) (by omega) l5
  have l3 := down 3 (by omega) (by omega) l4
  have l2 := down 2 (by omega) (by omega) l3
  have l1 := down 1 (by omega) (by omega) l2
  refine ⟨?_, fun n h1 h6 => ?_⟩
  · by_cases hif : nxt ts k = kIf
    · obtain ⟨hr, ho⟩ := ifO_rd (ts := ts) (ex := exOf ts) hif (fun k' _ h2 => exOf_reads ts k' h2)
      rw [exOf_at hk hr ho]
      exact fun W hW => expr8_if W v ts (exOf ts) k hif hW hex
    · obtain ⟨o, hr, ho, hc⟩ := l1
      rw [exOf_at hk (Rd_expr (head_ne hif) hr) ho]
      exact fun W hW => expr8_no W v ts k o hif hW hc
  · obtain rfl | rfl | rfl | rfl | rfl | rfl : n = 1 ∨ n = 2 ∨ n = 3 ∨ n = 4 ∨ n = 5 ∨ n = 6 := by omega
    all_goals assumption
theorem al_all (v : Value) (ts : List Tok) : ∀ (d k : Nat), ts.length - k ≤ d → k ≤ ts.length → Al v ts k := by
  intro d
  induction d with
  | zero => exact fun k hd hk => al_step v ts k hk (fun k' h1 h2 => by omega)
  | succ d ih => exact fun k hd hk => al_step v ts k hk (fun k' h1 h2 => ih k' (by omega) h2)
theorem expr8_any (v : Value) (ts : List Tok) (k : Nat) (hk : k ≤ ts.length) : okK ts k (exOf ts k) ∧ ∀ W, Tk W v ts → Calls Tryz.prog 41 #[.agg #[v, .int .i64 (k : Nat), .bool false]] W (RfP v (exOf ts k) W) :=
  ⟨(exOf_reads ts k hk).2, (al_all v ts (ts.length - k) k (Nat.le_refl _) hk).1⟩
end Go.Proofs.YtomnjamldbficaaGreatDoor
