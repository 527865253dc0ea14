/-
  Arguments that are slices of rates, opened.
-/
import Derived.Test.YtomnjamldbficaaGreatDoorParP2
import Derived.Test.YtomnjamldbficaaGreatDoorParApp
namespace Go.Proofs.YtomnjamldbficaaGreatDoor
open Go.ChangeShapes Go.WideShapes Go.ChangeAt Go.RowKit Go.Deep Lx Px
theorem cell_spot {w : World} {p : Addr} {v : Value} (h : w.cell? p = some v) : p.spot = none := by
  unfold World.cell? at h
  split at h
  · split at h
    · cases h
    · rename_i hs
      cases hp : p.spot with
      | none => rfl
      | some x => rw [hp] at hs; simp at hs
  · cases h
set_option maxRecDepth 100000 in
/-- a rate, read from its sixteen cells -/
theorem rate_struct {H : Type} {enc : TypeId × Value → H} {W : World} {n : Nat} {cs : List Value} {y : DataW H × List MemPlace} (h : DataW.trod enc Tryz.prog W 0 (fun _ => true) true n 47 cs = some y) :
    ∃ (r : Rt) (WA PA : Option Addr) (wc pc : Nat), cs = rtCells r (.slice WA (flen r.wl) wc) (.slice PA (flen r.pl) pc) ∧ FoV W W.heap.size (.slice WA (flen r.wl) wc) r.wl ∧ FoV W W.heap.size (.slice PA (flen r.pl) pc) r.pl := by
  obtain ⟨xs, n', hn', _, hl, hxl, hf⟩ := DataW.trod_struct Tryz.underlying47 h
  rw [Tryz.cellsRate] at hl
  obtain ⟨c0, c1, c2, c3, c4, c5, c6, c7, c8, c9, c10, c11, c12, c13, c14, c15, rfl⟩ : ∃ c0 c1 c2 c3 c4 c5 c6 c7 c8 c9 c10 c11 c12 c13 c14 c15, cs = [c0, c1, c2, c3, c4, c5, c6, c7, c8, c9, c10, c11, c12, c13, c14, c15] := by
    match cs, hl with
    | [c0, c1, c2, c3, c4, c5, c6, c7, c8, c9, c10, c11, c12, c13, c14, c15], _ => exact ⟨c0, c1, c2, c3, c4, c5, c6, c7, c8, c9, c10, c11, c12, c13, c14, c15, rfl⟩
  obtain ⟨x0, x1, x2, x3, x4, x5, x6, x7, x8, x9, rfl⟩ : ∃ x0 x1 x2 x3 x4 x5 x6 x7 x8 x9, xs = [x0, x1, x2, x3, x4, x5, x6, x7, x8, x9] := by
    have hx3 : xs.length = 10 := hxl
    match xs, hx3 with
    | [x0, x1, x2, x3, x4, x5, x6, x7, x8, x9], _ => exact ⟨x0, x1, x2, x3, x4, x5, x6, x7, x8, x9, rfl⟩
  have g0 : DataW.trod enc Tryz.prog W 0 (fun _ => true) true n' 3 [c0] = some x0 := hf 0 _ rfl
  have g1 : DataW.trod enc Tryz.prog W 0 (fun _ => true) true n' 3 [c1] = some x1 := hf 1 _ rfl
  have g2 : DataW.trod enc Tryz.prog W 0 (fun _ => true) true n' 3 [c2] = some x2 := hf 2 _ rfl
  have g3 : DataW.trod enc Tryz.prog W 0 (fun _ => true) true n' 43 [c3, c4] = some x3 := hf 3 _ rfl
  have g4 : DataW.trod enc Tryz.prog W 0 (fun _ => true) true n' 3 [c5] = some x4 := hf 4 _ rfl
  have g5 : DataW.trod enc Tryz.prog W 0 (fun _ => true) true n' 3 [c6] = some x5 := hf 5 _ rfl
  have g6 : DataW.trod enc Tryz.prog W 0 (fun _ => true) true n' 3 [c7] = some x6 := hf 6 _ rfl
  have g7 : DataW.trod enc Tryz.prog W 0 (fun _ => true) true n' 45 [c8, c9] = some x7 := hf 7 _ rfl
  have g8 : DataW.trod enc Tryz.prog W 0 (fun _ => true) true n' 24 [c10, c11, c12] = some x8 := hf 8 _ rfl
  have g9 : DataW.trod enc Tryz.prog W 0 (fun _ => true) true n' 24 [c13, c14, c15] = some x9 := hf 9 _ rfl
  obtain ⟨k0, e0, _, _⟩ := DataW.trod_int Tryz.underlying3 g0
  obtain ⟨k1, e1, _, _⟩ := DataW.trod_int Tryz.underlying3 g1
  obtain ⟨k2, e2, _, _⟩ := DataW.trod_int Tryz.underlying3 g2
  obtain ⟨k5, e5, _, _⟩ := DataW.trod_int Tryz.underlying3 g4
  obtain ⟨k6, e6, _, _⟩ := DataW.trod_int Tryz.underlying3 g5
  obtain ⟨k7, e7, _, _⟩ := DataW.trod_int Tryz.underlying3 g6
  obtain ⟨k3, k4, e3, e4⟩ := two_ints Tryz.underlying43 ⟨rfl, rfl⟩ ⟨rfl, rfl⟩ (show DataW.trod enc Tryz.prog W 0 (fun _ => true) true n' 43 [c3, c4] = some x3 from g3)
  obtain ⟨k8, k9, e8, e9⟩ := two_ints Tryz.underlying45 ⟨rfl, rfl⟩ ⟨rfl, rfl⟩ (show DataW.trod enc Tryz.prog W 0 (fun _ => true) true n' 45 [c8, c9] = some x7 from g7)
  obtain ⟨wo, wn, wv, n8, y8, e10, _, t8⟩ := fo_struct (show DataW.trod enc Tryz.prog W 0 (fun _ => true) true n' 24 [c10, c11, c12] = some x8 from g8)
  obtain ⟨po, pn, pv, n9, y9, e13, _, t9⟩ := fo_struct (show DataW.trod enc Tryz.prog W 0 (fun _ => true) true n' 24 [c13, c14, c15] = some x9 from g9)
  obtain ⟨wl, hwl, _⟩ := fo_open_fuel n8 wv y8 t8
  obtain ⟨pl, hpl, _⟩ := fo_open_fuel n9 pv y9 t9
  have hwl' := hwl
  have hpl' := hpl
  obtain ⟨WA, wc, rfl, _⟩ := hwl'
  obtain ⟨PA, pc, rfl, _⟩ := hpl'
  simp only [List.cons.injEq, and_true] at e0 e1 e2 e5 e6 e7 e10 e13
  obtain ⟨rfl, rfl, rfl⟩ := e10
  obtain ⟨rfl, rfl, rfl⟩ := e13
  subst e0 e1 e2 e3 e4 e5 e6 e7 e8 e9
  refine ⟨⟨k0, k1, k2, k3, k4, k5, k6, k7, k8, k9, wo, wn, wl, po, pn, pl⟩, WA, PA, wc, pc, rfl, hwl, hpl⟩
set_option maxRecDepth 100000 in
/-- an argument that is a slice of rates -/
theorem rates_open {H : Type} {enc : TypeId × Value → H} {W : World} {base : Nat} {v : Value} {d : DataW H} {p : List MemPlace} (_hval : Value.okWide Tryz.prog W .any base 31 v)
    (h : DataW.Trod enc Tryz.prog W 0 (fun _ => true) true 31 v d p) : ∃ l : List Rt, RtsV W W.heap.size v l := by
  obtain ⟨a0, len0, cap0, rfl⟩ := okWide_slice Tryz.underlying31 _hval
  obtain ⟨fuel, hf⟩ := h
  rcases DataW.trod_slice Tryz.underlying31 hf with ⟨h0, _⟩ | ⟨a, len, cap, elems, rest, n, hfu, hx, hcs, hb, hl, hm, hlen, hel, hsp, hns⟩
  · simp [Value.cells] at h0
    obtain ⟨rfl, rfl, rfl⟩ := h0
    exact ⟨[], RtsV.nil _ _⟩
  · simp [Value.cells] at hx
    obtain ⟨rfl, rfl, rfl⟩ := hx
    obtain ⟨rs, hrl, hrs⟩ := list_of (fun i (r : Rt) => RtAt W W.heap.size (a.add (i * 16)) r ∧ a.block < W.heap.size) len0 (fun k hk => by
      have he := hel k hk
      rw [List.getElem?_eq_getElem (by omega), Option.bind_eq_some_iff] at he
      obtain ⟨cs', hc, ht'⟩ := he
      obtain ⟨r, WA, PA, wc, pc, rfl, h1, h2⟩ := rate_struct ht'
      rw [Tryz.cellsRate] at hc
      obtain ⟨_, _, hat⟩ := World.cells?_some hc
      have hs0 := hat 0 (by omega)
      have hbl : a.block < W.heap.size := by
        have := cell_lt hs0
        rw [add_block', add_block'] at this
        exact this
      have hsp0 : (a.add (k * 16)).spot = none := by
        rw [Go.Deep.add_add] at hs0
        exact cell_spot hs0
      refine ⟨r, ⟨hsp0, _, _, fun j u hj => ?_, h1, h2⟩, hbl⟩
      have hj16 : j < 16 := by
        have := (List.getElem?_eq_some_iff.1 hj).1
        simpa [rtCells] using this
      have hc2 := hat j hj16
      rw [Go.Deep.add_add, addr_add_add hsp0] at hc2
      exact hc2.trans hj)
    exact ⟨rs, some a, cap0, by rw [hrl], fun i hi => ⟨a, rfl, (hrs i hi).2, (hrs i hi).1⟩⟩
end Go.Proofs.YtomnjamldbficaaGreatDoor
