/-
  Walks: caught of package parser.
-/
import Derived.Test.YtomnjamldbficaaGreatDoorParW1
import Derived.Recover
namespace Go.Proofs.YtomnjamldbficaaGreatDoor
open Go.RowKit Lx Px
/-- two boxes of a caller's are set, nothing else turns -/
def Set2 (be bl : Nat) (er ln : Int) (w w' : World) : Prop :=
  w'.heap[be]? = some (.cells #[.int .i64 er] 27 (0, 0)) ∧ w'.heap[bl]? = some (.cells #[.int .i64 ln] 3 (0, 0)) ∧ (∀ k, k < w.heap.size → k ≠ be → k ≠ bl → w'.heap[k]? = w.heap[k]?) ∧ w.heap.size ≤ w'.heap.size ∧ w'.os = w.os ∧ w'.tape = w.tape ∧ w'.output = w.output
theorem wpS_block {P : Program} {c : Code} {Q : Exit → Act → List Frame → World → Prop} {a : Act} {cs : List Frame} {w : World} (R : Act → World → Prop) (h : c.wp P (fun e a' w' => e = .normal ∧ R a' w') a w) (hR : ∀ a' w', R a' w' → Q .normal a' cs w') : c.wpS P Q a cs w :=
  wpS_of_wp (Code.wp_mono (fun e a' w' h => by obtain ⟨he, hr⟩ := h; subst he; exact hR a' w' hr) h)
theorem set_one {w : World} {b : Nat} {x : Value} {ty : TypeId} (h : w.heap[b]? = some (.cells #[x] ty (0, 0))) (y : Value) : (w.setCell ⟨b, 0, none⟩ y).heap[b]? = some (.cells #[y] ty (0, 0)) := by
  simp [World.setCell, Array.getElem?_modify, h]
set_option maxRecDepth 100000 in
set_option maxHeartbeats 4000000 in
theorem caught_panicking (be bl : Nat) (x y er ln : Int) (older : List PanicEntry) (w : World) (hne : be ≠ bl) (he : w.heap[be]? = some (.cells #[.int .i64 x] 27 (0, 0))) (hl : w.heap[bl]? = some (.cells #[.int .i64 y] 3 (0, 0))) :
    CallsD Tryz.prog 73 #[.pointer (some ⟨be, 0, none⟩), .pointer (some ⟨bl, 0, none⟩)] (.panicking ({ v := .iface 126 (.agg #[.int .i64 er, .int .i64 ln]), recovered := false } :: older)) w fun e u' w' =>
      e = .returned (.tuple #[]) ∧ u' = .panicking ({ v := .iface 126 (.agg #[.int .i64 er, .int .i64 ln]), recovered := true } :: older) ∧ Set2 be bl er ln w w' := by
  refine callsD_of_wpS Tryz.func73 rfl fun c₀ cs hu => ?_
  apply wpS_seq
  apply wpS_region
  simp [wpOpsS, go_sem, recoverD, hu, Tryz.ntmps73, Exit.thenS]
  refine wpS_block (fun a' w' => a'.defers = [] ∧ Set2 be bl er ln w w') ?_ ?_
  · have htm : ∀ V : Value, (#[Value.pointer (some ⟨be, 0, none⟩), Value.pointer (some ⟨bl, 0, none⟩)] ++ (Array.replicate 19 undef).setIfInBounds 5 V) = #[Value.pointer (some ⟨be, 0, none⟩), Value.pointer (some ⟨bl, 0, none⟩), undef, undef, undef, undef, undef, V, undef, undef, undef, undef, undef, undef, undef, undef, undef, undef, undef, undef, undef] := fun _ => by kernel_rfl
    rw [htm]
    have hta : ∀ w : World, (Instr.typeAssert (.iface 126 (.agg #[.int .i64 er, .int .i64 ln])) 20 126 true).run Tryz.prog w = .ok (.tuple #[.agg #[.int .i64 er, .int .i64 ln], .bool true]) w := fun _ => by kernel_rfl
    have he0 : (w.alloc (.cells #[.int .i64 er, .int .i64 ln] 126)).heap[be]? = some (.cells #[.int .i64 x] 27 (0, 0)) := (Below.heap_alloc _ _ _ (Array.getElem?_eq_some_iff.1 he).1).trans he
    have hl0 : (w.alloc (.cells #[.int .i64 er, .int .i64 ln] 126)).heap[bl]? = some (.cells #[.int .i64 y] 3 (0, 0)) := (Below.heap_alloc _ _ _ (Array.getElem?_eq_some_iff.1 hl).1).trans hl
    have hn0 := World.alloc_heap_new w (.cells #[.int .i64 er, .int .i64 ln] 126)
    have hb0 : Below w.heap.size w (w.alloc (.cells #[.int .i64 er, .int .i64 ln] 126)) := (Below.refl _ _).alloc (Nat.le_refl _) _
    have hbe : be < w.heap.size := (Array.getElem?_eq_some_iff.1 he).1
    have hbl : bl < w.heap.size := (Array.getElem?_eq_some_iff.1 hl).1
    have HE := Lib.hid he0
    have HL := Lib.hid hl0
    have HN := Lib.hid hn0
    have HB := Lib.hid hb0
    clear he hl he0 hl0 hn0 hb0 hu htm
    go_upto_region 7 with fail
    clear hta
    generalize w.alloc (.cells #[.int .i64 er, .int .i64 ln] 126) = W at *
    have a0 : W.cell? ⟨be, 0, none⟩ = some (.int .i64 x) := by rw [Lib.cell_of_heap HE.out]; rfl
    have a1 : W.cell? ⟨bl, 0, none⟩ = some (.int .i64 y) := by rw [Lib.cell_of_heap HL.out]; rfl
    have a2 : W.cell? ⟨w.heap.size, 0, none⟩ = some (.int .i64 er) := by rw [Lib.cell_of_heap HN.out]; rfl
    have a3 : W.cell? ⟨w.heap.size, 1, none⟩ = some (.int .i64 ln) := by rw [Lib.cell_of_heap HN.out]; rfl
    have a4 : W.frozen? ⟨be, 0, none⟩ = false := by simp [World.frozen?, HE.out]
    have a5 : W.frozen? ⟨bl, 0, none⟩ = false := by simp [World.frozen?, HL.out]
    have hn1 : be ≠ w.heap.size := by omega
    have hn2 : bl ≠ w.heap.size := by omega
    go_region
    refine ⟨rfl, rfl, ?_, ?_, ?_, ?_, HB.out.os, HB.out.tape, HB.out.output⟩
    · show ((W.setCell ⟨be, 0, none⟩ (.int .i64 er)).setCell ⟨bl, 0, none⟩ (.int .i64 ln)).heap[be]? = _
      rw [Below.heap_setCell _ _ _ _ hne]
      exact set_one HE.out _
    · show ((W.setCell ⟨be, 0, none⟩ (.int .i64 er)).setCell ⟨bl, 0, none⟩ (.int .i64 ln)).heap[bl]? = _
      refine set_one (x := .int .i64 y) ?_ _
      rw [Below.heap_setCell _ _ _ _ (Ne.symm hne)]
      exact HL.out
    · intro k hk h1 h2
      show ((W.setCell ⟨be, 0, none⟩ (.int .i64 er)).setCell ⟨bl, 0, none⟩ (.int .i64 ln)).heap[k]? = _
      rw [Below.heap_setCell _ _ _ _ h2, Below.heap_setCell _ _ _ _ h1]
      exact HB.out.block k hk
    · show w.heap.size ≤ ((W.setCell ⟨be, 0, none⟩ (.int .i64 er)).setCell ⟨bl, 0, none⟩ (.int .i64 ln)).heap.size
      have := HB.out.size
      simp only [World.setCell, Array.size_modify]
      exact this
  · rintro a' w' ⟨hd, hS⟩
    cases c₀
    simp_all [bodyPostS, results, Tryz.results73]
set_option maxRecDepth 100000 in
set_option maxHeartbeats 4000000 in
theorem caught_idle (be bl : Nat) (w : World) :
    CallsD Tryz.prog 73 #[.pointer (some ⟨be, 0, none⟩), .pointer (some ⟨bl, 0, none⟩)] .returning w fun e u' w' => e = .returned (.tuple #[]) ∧ u' = .returning ∧ w' = w := by
  refine callsD_of_wpS Tryz.func73 rfl fun c₀ cs hu => ?_
  apply wpS_seq
  apply wpS_region
  simp [wpOpsS, go_sem, recoverD, hu, Tryz.ntmps73, Exit.thenS]
  refine wpS_block (fun a' w' => a'.defers = [] ∧ w' = w) ?_ ?_
  · have htm : ∀ V : Value, (#[Value.pointer (some ⟨be, 0, none⟩), Value.pointer (some ⟨bl, 0, none⟩)] ++ (Array.replicate 19 undef).setIfInBounds 5 V) = #[Value.pointer (some ⟨be, 0, none⟩), Value.pointer (some ⟨bl, 0, none⟩), undef, undef, undef, undef, undef, V, undef, undef, undef, undef, undef, undef, undef, undef, undef, undef, undef, undef, undef] := fun _ => by kernel_rfl
    rw [htm]
    clear htm hu
    go_wp2_with fail
  · rintro a' w' ⟨hd, rfl⟩
    cases c₀
    simp_all [bodyPostS, results, Tryz.results73]
end Go.Proofs.YtomnjamldbficaaGreatDoor
