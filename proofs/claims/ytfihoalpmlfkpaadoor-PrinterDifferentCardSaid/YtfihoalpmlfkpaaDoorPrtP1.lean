/-
  What the listed variables give the walks: the table of powers of ten, and the printer's names.
-/
import Derived.Test.YtfihoalpmlfkpaaDoorPrtP0
import Derived.Lib.LaidTab
import Derived.LaidHandle
import Derived.MakeChecks
namespace Go.Proofs.YtfihoalpmlfkpaaDoor
open Go.ChangeShapes Go.WideShapes Go.ChangeAt Go.RowKit Go.Deep Lx Px
def laid4 : List (String × DataW Unit) := [("math/bits.deBruijn32tab", Rows.laid_math_bits_deBruijn32tab), ("math/bits.deBruijn64tab", Rows.laid_math_bits_deBruijn64tab), ("internal/strconv.uint64pow10", Rows.laid_internal_strconv_uint64pow10), ("innkeeper/printer.names", Rows.laid_innkeeper_printer_names)]
theorem Tryd.gPow : Tryd.prog.globalNamed "internal/strconv.uint64pow10" = some 2 := by kernel_rfl
theorem Tryd.gNames : Tryd.prog.globalNamed "innkeeper/printer.names" = some 0 := by kernel_rfl
theorem str_of_trod {H : Type} {enc : TypeId × Value → H} {w : World} {base : Nat} {sp : Nat → Bool} {held : Bool} {fuel : Nat} {c : Value} {y : DataW H × List MemPlace}
    (h : DataW.trod enc Tryd.prog w base sp held fuel 9 [c] = some y) : ∃ s : ByteArray, c = .string s ∧ y = (.lit (.string s.data.toList), []) := by
  obtain ⟨s, hc, hy, _⟩ := DataW.trod_string Tryd.underlying9 h
  simp only [List.cons.injEq, and_true] at hc
  exact ⟨s, hc, hy⟩
theorem ba_of_list {s : ByteArray} {l : List UInt8} (h : s.data.toList = l) : s = mk l := by rw [← mk_bl s]; exact congrArg mk h
theorem Tryd.cellsNames : Tryd.prog.cellsOf 81 = 5 := by kernel_rfl
theorem Tryd.cellsStr : Tryd.prog.cellsOf 9 = 1 := by kernel_rfl
set_option maxRecDepth 100000 in
theorem names_of_trod {H : Type} {enc : TypeId × Value → H} {w : World} {base : Nat} {sp : Nat → Bool} {held : Bool} {fuel : Nat} {l : List Value} {p : List MemPlace}
    (h : DataW.trod enc Tryd.prog w base sp held fuel 81 l = some (Rows.laid_innkeeper_printer_names, p)) : l = [.string (mk []), .string (mk (nameOf 1)), .string (mk (nameOf 2)), .string (mk (nameOf 3)), .string (mk (nameOf 4))] := by
  cases fuel with
  | zero => simp [DataW.trod] at h
  | succ fuel =>
    simp only [DataW.trod, Tryd.underlying81, Tryd.cellsNames, Tryd.cellsStr] at h
    split at h
    · rename_i hl
      obtain ⟨c0, c1, c2, c3, c4, rfl⟩ : ∃ c0 c1 c2 c3 c4, l = [c0, c1, c2, c3, c4] := by
        match l, hl with
        | [a, b, c, d, e], _ => exact ⟨a, b, c, d, e, rfl⟩
      have e : List.range 5 = [0, 1, 2, 3, 4] := rfl
      rw [e] at h
      simp only [Option.map_eq_some_iff, List.mapM_cons, List.mapM_nil, Option.bind_eq_bind, Option.bind_eq_some_iff, Option.pure_def, Option.some.injEq] at h
      obtain ⟨xs, ⟨y0, h0, _, ⟨y1, h1, _, ⟨y2, h2, _, ⟨y3, h3, _, ⟨y4, h4, _, rfl, rfl⟩, rfl⟩, rfl⟩, rfl⟩, rfl⟩, hx⟩ := h
      obtain ⟨n0, rfl, rfl⟩ := str_of_trod h0
      obtain ⟨n1, rfl, rfl⟩ := str_of_trod h1
      obtain ⟨n2, rfl, rfl⟩ := str_of_trod h2
      obtain ⟨n3, rfl, rfl⟩ := str_of_trod h3
      obtain ⟨n4, rfl, rfl⟩ := str_of_trod h4
      simp only [Rows.laid_innkeeper_printer_names, List.map_cons, List.map_nil, Prod.mk.injEq, DataW.agg.injEq, List.cons.injEq, DataW.lit.injEq, Lit.string.injEq, and_true] at hx
      obtain ⟨⟨e0, e1, e2, e3, e4⟩, _⟩ := hx
      rw [ba_of_list e0, ba_of_list e1, ba_of_list e2, ba_of_list e3, ba_of_list e4]
      rfl
    · cases h
set_option maxRecDepth 100000 in
theorem of_laid {W : World} (h : laidMetH Tryd.prog laid4 W) : Tabs W.heap.size W := by
  rw [MakeChecks.laidMetH_plain _ _ _ (by kernel_rfl)] at h
  obtain ⟨ps, ⟨g0, t0, cs0, f0, p0, q0, hg0, ht0, hv0, hd0, ⟨g1, t1, cs1, f1, p1, q1, hg1, ht1, hv1, hd1, ⟨g2, t2, cs2, f2, p2, q2, hg2, ht2, hv2, hd2, ⟨g3, t3, cs3, f3, p3, q3, hg3, ht3, hv3, hd3, _, _⟩, _⟩, _⟩, _⟩, _, _⟩ := h
  have hT2 : (Tryd.prog.globals[2]?).map (·.type) = some 107 := by kernel_rfl
  have hT3 : (Tryd.prog.globals[0]?).map (·.type) = some 81 := by kernel_rfl
  obtain rfl := Option.some.inj (Tryd.gPow.symm.trans hg2)
  obtain rfl := Option.some.inj (Tryd.gNames.symm.trans hg3)
  obtain rfl := Option.some.inj (hT2.symm.trans ht2)
  obtain rfl := Option.some.inj (hT3.symm.trans ht3)
  have htab : Lib.TabIs Tryd.prog W "internal/strconv.uint64pow10" .u64 Lib.pow10Tab := by
    have hd2' : DataW.trod _ Tryd.prog W 0 _ _ f2 107 cs2.toList = some (Lib.tabData .u64 Lib.pow10Tab, p2) := hd2
    have := Lib.cells_of_tab Tryd.underlying107 Tryd.underlying97 (by kernel_rfl) (by kernel_rfl) hd2'
    unfold Lib.TabIs
    rw [hv2, ← this]
  have hnm := names_of_trod hd3
  have hlt : 0 < W.heap.size := by
    have := hv3
    unfold World.var? at this
    rw [Tryd.gNames] at this
    simp only [Option.bind_some] at this
    rcases Nat.lt_or_ge 0 W.heap.size with h1 | h1
    · exact h1
    · rw [Array.getElem?_eq_none h1] at this; cases this
  refine ⟨Lib.tabBelow_of_tabIs htab, hlt, Nat.le_refl _, ?_⟩
  intro k h1 h2
  have hc := World.var?_cell Tryd.gNames hv3 k
  rw [← Array.getElem?_toList, hnm] at hc
  rcases (show k = 1 ∨ k = 2 ∨ k = 3 ∨ k = 4 by omega) with rfl | rfl | rfl | rfl
  all_goals exact hc
end Go.Proofs.YtfihoalpmlfkpaaDoor
