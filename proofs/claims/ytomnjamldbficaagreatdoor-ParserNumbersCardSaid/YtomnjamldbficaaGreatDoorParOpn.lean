/-
  Opens an argument that is an array of eight numbers.
-/
import Derived.Test.YtomnjamldbficaaGreatDoorParP2
import Derived.Test.YtomnjamldbficaaGreatDoorParL16
namespace Go.Proofs.YtomnjamldbficaaGreatDoor
open Go.ChangeShapes Go.WideShapes Go.ChangeAt Go.RowKit Go.Deep Lx Px
theorem Tryz.cellsNums : Tryz.prog.cellsOf 56 = 8 := by kernel_rfl
theorem Tryz.cellsU32 : Tryz.prog.cellsOf 55 = 1 := by kernel_rfl
theorem u32_of_trod {H : Type} {enc : TypeId × Value → H} {w : World} {base : Nat} {sp : Nat → Bool} {held : Bool} {fuel : Nat} {c : Value} {d : DataW H} {p : List MemPlace}
    (h : DataW.trod enc Tryz.prog w base sp held fuel 55 [c] = some (d, p)) : ∃ n : Int, c = .int .u32 n ∧ 0 ≤ n ∧ n ≤ 4294967295 := by
  obtain ⟨n, hc, _, hw⟩ := DataW.trod_int Tryz.underlying55 h
  simp only [List.cons.injEq, and_true] at hc
  refine ⟨n, hc, ?_⟩
  simp only [Lit.wf, Bool.and_eq_true, decide_eq_true_eq] at hw
  exact hw
set_option maxRecDepth 100000 in
theorem nums_open {H : Type} {enc : TypeId × Value → H} {W w : World} {base b0 : Nat} {r : Reach} {sp : Nat → Bool} {held : Bool} {v : Value} {d : DataW H} {p : List MemPlace}
    (hval : Value.okWide Tryz.prog w r b0 56 v) (h : DataW.Trod enc Tryz.prog W base sp held 56 v d p) : ∃ a : Nat → Int, v = .agg (argN a).toArray ∧ ∀ j, j < 8 → 0 ≤ a j ∧ a j ≤ 4294967295 := by
  simp only [Value.okWide, Tryz.underlying56] at hval
  obtain ⟨cs, rfl, _, _⟩ := hval
  obtain ⟨fuel, h⟩ := h
  cases fuel with
  | zero => simp [DataW.trod] at h
  | succ fuel =>
    simp only [DataW.trod, Tryz.underlying56, Tryz.cellsNums, Tryz.cellsU32, Value.cells] at h
    split at h
    · rename_i hl
      obtain ⟨l, rfl⟩ : ∃ l : List Value, cs = l.toArray := ⟨cs.toList, by simp⟩
      simp only at h hl
      obtain ⟨c0, c1, c2, c3, c4, c5, c6, c7, rfl⟩ : ∃ c0 c1 c2 c3 c4 c5 c6 c7, l = [c0, c1, c2, c3, c4, c5, c6, c7] := by
        match l, hl with
        | [a, b, c, d, e, f, g, h], _ => exact ⟨a, b, c, d, e, f, g, h, rfl⟩
      have e : List.range 8 = [0, 1, 2, 3, 4, 5, 6, 7] := rfl
      rw [e] at h
      simp only [Option.map_eq_some_iff, List.mapM_cons, List.mapM_nil, Option.bind_eq_bind, Option.bind_eq_some_iff, Option.pure_def, Option.some.injEq] at h
      obtain ⟨xs, ⟨⟨y0, z0⟩, h0, _, ⟨⟨y1, z1⟩, h1, _, ⟨⟨y2, z2⟩, h2, _, ⟨⟨y3, z3⟩, h3, _, ⟨⟨y4, z4⟩, h4, _, ⟨⟨y5, z5⟩, h5, _, ⟨⟨y6, z6⟩, h6, _, ⟨⟨y7, z7⟩, h7, _⟩, _⟩, _⟩, _⟩, _⟩, _⟩, _⟩, _⟩, _⟩ := h
      obtain ⟨n0, rfl, k0⟩ := u32_of_trod h0
      obtain ⟨n1, rfl, k1⟩ := u32_of_trod h1
      obtain ⟨n2, rfl, k2⟩ := u32_of_trod h2
      obtain ⟨n3, rfl, k3⟩ := u32_of_trod h3
      obtain ⟨n4, rfl, k4⟩ := u32_of_trod h4
      obtain ⟨n5, rfl, k5⟩ := u32_of_trod h5
      obtain ⟨n6, rfl, k6⟩ := u32_of_trod h6
      obtain ⟨n7, rfl, k7⟩ := u32_of_trod h7
      refine ⟨fun j => [n0, n1, n2, n3, n4, n5, n6, n7].getD j 0, rfl, fun j hj => ?_⟩
      rcases (show j = 0 ∨ j = 1 ∨ j = 2 ∨ j = 3 ∨ j = 4 ∨ j = 5 ∨ j = 6 ∨ j = 7 by omega) with rfl | rfl | rfl | rfl | rfl | rfl | rfl | rfl
      · exact k0
      · exact k1
      · exact k2
      · exact k3
      · exact k4
      · exact k5
      · exact k6
      · exact k7
    · cases h
end Go.Proofs.YtomnjamldbficaaGreatDoor
