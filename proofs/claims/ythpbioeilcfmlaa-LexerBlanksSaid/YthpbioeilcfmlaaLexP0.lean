/-
  Arguments that are slices of tokens, opened.
-/
import Derived.Test.YthpbioeilcfmlaaRow
import Derived.Test.YthpbioeilcfmlaaLexMem
namespace Go.Proofs.Ythpbioeilcfmlaa
open Go.ChangeShapes Go.WideShapes Go.ChangeAt Go.RowKit Go.Deep Lx
theorem Try.cellsTok : Try.prog.cellsOf 36 = 3 := by kernel_rfl
theorem addr_step (a : Addr) (n j : Nat) (hj : j ≠ 0) : a.add (n + j) = ⟨(a.add n).block, (a.add n).off + j, none⟩ := by
  unfold Addr.add
  rw [if_neg (by omega)]
  by_cases h : n = 0
  · subst h; simp
  · rw [if_neg h]; simp [Nat.add_assoc]
theorem sl_open {H : Type} {enc : TypeId × Value → H} {W : World} {base : Nat} {v : Value} {d : DataW H} {p : List MemPlace} (hval : Value.okWide Try.prog W .any base 22 v)
    (h : DataW.Trod enc Try.prog W 0 (fun _ => true) true 22 v d p) : ∃ ts : List Tok, Sl W W.heap.size v ts ∧ ts.length ≤ maxLen := by
  obtain ⟨a0, len, cap, rfl⟩ := okWide_slice Try.underlying22 hval
  obtain ⟨fuel, hf⟩ := h
  rcases open_slice_fields Try.underlying22 Try.underlying36 (by kernel_rfl) Try.cellsTok hf with ⟨hcs, _⟩ | ⟨a, len', cap', m, D, Pl, hcs, _, hl, hm, hmm, _, hi⟩
  · simp [Value.cells] at hcs
    obtain ⟨rfl, rfl, rfl⟩ := hcs
    exact ⟨[], Sl.nil _ _, by simp⟩
  · simp [Value.cells] at hcs
    obtain ⟨rfl, rfl, rfl⟩ := hcs
    simp only [if_true] at hmm
    subst hmm
    obtain ⟨ts, htl, hts⟩ := list_of (fun i (t : Tok) => TokAt W (a.add (i * 3)) t) len (fun i hil => by
      obtain ⟨ys, n, _, _, _, hf⟩ := hi i (by omega)
      obtain ⟨v0, y0, c0, _, t0⟩ := hf 0 _ rfl
      obtain ⟨v1, y1, c1, _, t1⟩ := hf 1 _ rfl
      obtain ⟨v2, y2, c2, _, t2⟩ := hf 2 _ rfl
      obtain ⟨k, e0, _, _⟩ := DataW.trod_int Try.underlying3 t0
      obtain ⟨l, e1, _, _⟩ := DataW.trod_int Try.underlying3 t1
      obtain ⟨s, e2, _, _⟩ := DataW.trod_string Try.underlying9 t2
      simp only [List.cons.injEq, and_true] at e0 e1 e2
      subst e0 e1 e2
      refine ⟨(k, l, bl s), ?_, ?_, ?_⟩
      · exact c0
      · rw [← addr_step a (i * 3) 1 (by decide)]; exact c1
      · rw [← addr_step a (i * 3) 2 (by decide), mk_bl]; exact c2)
    refine ⟨ts, ⟨some a, _, by rw [htl], fun k hk => ⟨a, rfl, ?_, hts k hk⟩⟩, by omega⟩
    have := (hts k hk).1
    unfold World.cell? at this
    have hb : (a.add (k * 3)).block = a.block := add_block a _
    rw [hb] at this
    rcases Nat.lt_or_ge a.block W.heap.size with h1 | h1
    · exact h1
    · simp [Array.getElem?_eq_none h1] at this
end Go.Proofs.Ythpbioeilcfmlaa
