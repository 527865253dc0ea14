/-
  Walks: Make of the reference of package ratio, of percents.
-/
import Derived.Test.YtomnjamldbficaaGreatDoorParTx
namespace Go.Proofs.YtomnjamldbficaaGreatDoor
open Go.RowKit Lx Px
set_option maxRecDepth 100000 in
set_option maxHeartbeats 1000000 in
theorem rmake0_pct (n : Int) (w : World) (h0 : 0 ≤ n) (h1 : n ≤ 999999999) :
    Calls Tryz.prog 54 #[.int .i64 n, .int .i64 100] w fun e w' => e = .returned (.tuple #[.agg #[.int .i64 (pctN n), .int .i64 (pctD n)], .int .i64 0]) ∧ Below w.heap.size w w' := by
  obtain ⟨hb1, hb2, hb3, hb4⟩ := pct_bounds n h0 h1
  obtain ⟨g, hg⟩ : ∃ g, g = Nat.gcd n.natAbs 100 := ⟨_, rfl⟩
  have hg0 : 0 < g := by rw [hg]; exact Nat.gcd_pos_of_pos_right _ (by omega)
  have hgc : ∀ W : World, Calls Tryz.prog 88 #[.int .i64 (n.natAbs : Nat), .int .i64 100] W fun e w' => e = .returned (.int .i64 (g : Nat)) ∧ W = w' := fun W => by rw [hg]; exact rgcd_any n.natAbs 100 W (by omega) (by omega)
  have e1 : n.tdiv (g : Int) = pctN n := by rw [hg]; rfl
  have e2 : (100 : Int).tdiv (g : Int) = pctD n := by rw [hg]; rfl
  have w1 : IntKind.i64.wrap (pctN n) = pctN n := IntWalk.i64_in _ (by omega)
  have w2 : IntKind.i64.wrap (pctD n) = pctD n := IntWalk.i64_in _ (by omega)
  have hz : ¬ g = 0 := by omega
  have HG := Lib.hid hgc
  have ha : ∀ W : World, Calls Tryz.prog 89 #[.int .i64 (pctN n)] W fun e w' => e = .returned (.int .i64 (pctN n)) ∧ W = w' := fun W => by
    have := rabs_any (pctN n) W (by omega) (by omega)
    rwa [show ((pctN n).natAbs : Int) = pctN n by omega] at this
  have HA := Lib.hid ha
  generalize pctN n = p at *
  generalize pctD n = q at *
  have d1 : decide ((1000000 : Int) < q) = false := by simp; omega
  have d2 : decide ((1000000000 : Int) < p) = false := by simp; omega
  have hb0 := (Below.refl w.heap.size w).alloc (Nat.le_refl _) (.cells #[.int .i64 0, .int .i64 0] 45)
  have hx0 := World.alloc_heap_new w (.cells #[.int .i64 0, .int .i64 0] 45)
  have HB := Lib.hid hb0
  have HX := Lib.hid hx0
  clear hg hgc ha hb0 hx0
  go_enter Tryz.func54, Tryz.ntmps54
  go_wp2_with fail
  generalize w.alloc (.cells #[.int .i64 0, .int .i64 0] 45) = W1 at *
  refine (rabs_any n _ (by omega) (by omega)).mono ?_
  rintro e w' ⟨rfl, rfl⟩
  go_wp2_with fail
  refine (HG.out _).mono ?_
  rintro e w' ⟨rfl, rfl⟩
  go_wp2_with fail
  go_region
  clear e1 e2 w1 w2 hz HG
  have hlt : w.heap.size < W1.heap.size := (Array.getElem?_eq_some_iff.1 HX.out).1
  have hb3 := ((Below.refl W1.heap.size W1).alloc (Nat.le_refl _) (.cells #[.int .i64 p, .int .i64 q] 45)).drew
  have Y3 : Hid ((W1.alloc (.cells #[.int .i64 p, .int .i64 q] 45)).drew.heap[W1.heap.size]? = some (.cells #[.int .i64 p, .int .i64 q] 45 (0, 0))) := Lib.hid (World.alloc_heap_new W1 (.cells #[.int .i64 p, .int .i64 q] 45))
  have X3 := Lib.hid ((hb3.block _ hlt).trans HX.out)
  have B3 := Lib.hid (bthen' HB.out hb3)
  clear hb3 HB HX
  generalize (W1.alloc (.cells #[.int .i64 p, .int .i64 q] 45)).drew = W3 at *
  generalize W1.heap.size = b3 at *
  have hne : b3 ≠ w.heap.size := by omega
  have a0 : W3.cell? ⟨b3, 0, none⟩ = some (.int .i64 p) := by rw [Lib.cell_of_heap Y3.out]; rfl
  have a1 : W3.cell? ⟨b3, 1, none⟩ = some (.int .i64 q) := by rw [Lib.cell_of_heap Y3.out]; rfl
  have z0 : W3.cell? ⟨w.heap.size, 0, none⟩ = some (.int .i64 0) := by rw [Lib.cell_of_heap X3.out]; rfl
  have z1 : W3.cell? ⟨w.heap.size, 1, none⟩ = some (.int .i64 0) := by rw [Lib.cell_of_heap X3.out]; rfl
  have f0 := Lib.frozen_of_heap X3.out 0
  have f1 := Lib.frozen_of_heap X3.out 1
  go_wp2_with fail
  refine (HA.out _).mono ?_
  rintro e w' ⟨rfl, rfl⟩
  go_wp2_with fail
  refine bodyPost_ret (v := .tuple #[.agg #[.int .i64 p, .int .i64 q], .int .i64 0]) (by simp [results, Tryz.results54, go_sem, z0, z1]) rfl ⟨rfl, ?_⟩
  exact (B3.out.setCell (p := ⟨w.heap.size, 0, none⟩) (Nat.le_refl _) _).setCell (p := ⟨w.heap.size, 1, none⟩) (Nat.le_refl _) _
set_option maxRecDepth 100000 in
set_option maxHeartbeats 1000000 in
theorem rmake_pct (n : Int) (w : World) (h0 : 0 ≤ n) (h1 : n ≤ 999999999) :
    Calls Tryz.prog 29 #[.int .i64 n, .int .i64 100] w fun e w' => e = .returned (.tuple #[.agg #[.int .i64 (pctN n), .int .i64 (pctD n)], .int .i64 0]) ∧ Below w.heap.size w w' := by
  have hc := fun W => rmake0_pct n W h0 h1
  have HC := Lib.hid hc
  generalize pctN n = p at *
  generalize pctD n = q at *
  have d1 : decide (n < -1000000000000000) = false := by simp; omega
  have d2 : decide ((1000000000000000 : Int) < n) = false := by simp; omega
  have hb0 := (Below.refl w.heap.size w).alloc (Nat.le_refl _) (.cells #[.int .i64 0, .int .i64 0] 45)
  have hx0 := World.alloc_heap_new w (.cells #[.int .i64 0, .int .i64 0] 45)
  have HB := Lib.hid hb0
  have HX := Lib.hid hx0
  clear hc hb0 hx0
  go_enter Tryz.func29, Tryz.ntmps29
  go_wp2_with fail
  generalize w.alloc (.cells #[.int .i64 0, .int .i64 0] 45) = W1 at *
  refine (HC.out _).mono ?_
  rintro e w2 ⟨rfl, hb⟩
  have hb3 := bthen' hb ((Below.refl w2.heap.size w2).alloc (Nat.le_refl _) (.cells #[.int .i64 p, .int .i64 q] 45))
  have Y3 := Lib.hid (World.alloc_heap_new w2 (.cells #[.int .i64 p, .int .i64 q] 45))
  have X3 := Lib.hid ((hb3.block _ (Array.getElem?_eq_some_iff.1 HX.out).1).trans HX.out)
  have B3 := Lib.hid (bthen' HB.out hb3)
  have hlt : w.heap.size < w2.heap.size := by
    have h2 := (Array.getElem?_eq_some_iff.1 HX.out).1
    have := hb.size
    omega
  clear hb3 hb HB HX HC
  go_upto_region 5 with fail
  generalize w2.alloc (.cells #[.int .i64 p, .int .i64 q] 45) = W3 at *
  generalize w2.heap.size = b3 at *
  have hne : b3 ≠ w.heap.size := by omega
  have a0 : W3.cell? ⟨b3, 0, none⟩ = some (.int .i64 p) := by rw [Lib.cell_of_heap Y3.out]; rfl
  have a1 : W3.cell? ⟨b3, 1, none⟩ = some (.int .i64 q) := by rw [Lib.cell_of_heap Y3.out]; rfl
  have z0 : W3.cell? ⟨w.heap.size, 0, none⟩ = some (.int .i64 0) := by rw [Lib.cell_of_heap X3.out]; rfl
  have z1 : W3.cell? ⟨w.heap.size, 1, none⟩ = some (.int .i64 0) := by rw [Lib.cell_of_heap X3.out]; rfl
  have f0 := Lib.frozen_of_heap X3.out 0
  have f1 := Lib.frozen_of_heap X3.out 1
  go_wp2_with fail
  refine bodyPost_ret (v := .tuple #[.agg #[.int .i64 p, .int .i64 q], .int .i64 0]) (by simp [results, Tryz.results29, go_sem, z0, z1]) rfl ⟨rfl, ?_⟩
  exact (B3.out.setCell (p := ⟨w.heap.size, 0, none⟩) (Nat.le_refl _) _).setCell (p := ⟨w.heap.size, 1, none⟩) (Nat.le_refl _) _
end Go.Proofs.YtomnjamldbficaaGreatDoor
