/-
  Several texts in one: PrtP0, PrtP1, ParP1, ParP2.
-/
import Derived.Test.YtomnjamldbficaaGreatDoorRow
import Derived.Test.YtomnjamldbficaaGreatDoorPrtRate
import Derived.Lib.SmallJoins
import Derived.LaidMore
import Derived.Stop.Joined
import Derived.Lib.LaidTab
import Derived.LaidHandle
import Derived.MakeChecks
import Derived.Test.YtomnjamldbficaaGreatDoorParMem
import Derived.Test.YtomnjamldbficaaGreatDoorShelf
import Derived.HandedShaped
import Derived.Lay
namespace Go.Proofs.YtomnjamldbficaaGreatDoor
open Go.ChangeShapes Go.WideShapes Go.ChangeAt Go.RowKit Go.Deep Lx Px
theorem Tryz.cellsExpr : Tryz.prog.cellsOf 24 = 3 := by kernel_rfl
theorem addr_step (a : Addr) (n j : Nat) (hj : j ≠ 0) : a.add (n + j) = ⟨(a.add n).block, (a.add n).off + j, none⟩ := by
  unfold Addr.add
  rw [if_neg (by omega)]
  by_cases h : n = 0
  · subst h; simp
  · rw [if_neg h]; simp [Nat.add_assoc]
/-- the cells of one expression in a slice -/
def FoEl (w : World) (B : Nat) (ad : Addr) (k : Nat) (a : Int × Int) (l : Fo) : Prop :=
  ∃ (A' : Option Addr) (c : Nat), ad.block < B ∧ w.cell? (ad.add (k * 3)) = some (.int .i64 a.1) ∧ w.cell? ⟨(ad.add (k * 3)).block, (ad.add (k * 3)).off + 1, none⟩ = some (.int .i64 a.2) ∧
      w.cell? ⟨(ad.add (k * 3)).block, (ad.add (k * 3)).off + 2, none⟩ = some (.slice A' (flen l) c) ∧ FoAt w B l A' 0
theorem fo_of_els {w : World} {B : Nat} {ad : Addr} : ∀ (j i : Nat), (∀ k, i ≤ k → k < i + j → ∃ a l, FoEl w B ad k a l) → ∃ f : Fo, flen f = j ∧ FoAt w B f (some ad) i := by
  intro j
  induction j with
  | zero => intro i _; exact ⟨.nil, rfl, trivial⟩
  | succ j ih =>
    intro i h
    obtain ⟨a, l, A', c, h0, h1, h2, h3, h4⟩ := h i (Nat.le_refl _) (by omega)
    obtain ⟨f, hf, hF⟩ := ih (i + 1) (fun k hk hk2 => h k (by omega) (by omega))
    exact ⟨.node 0 0 a l f, by simp [flen, hf], ⟨⟨ad, A', c, rfl, h0, h1, h2, h3, h4⟩, hF⟩⟩
theorem cell_lt {w : World} {p : Addr} {v : Value} (h : w.cell? p = some v) : p.block < w.heap.size := by
  rcases Nat.lt_or_ge p.block w.heap.size with h1 | h1
  · exact h1
  · unfold World.cell? at h; simp [Array.getElem?_eq_none h1] at h
set_option maxRecDepth 100000 in
/-- one expression, read from its three cells -/
theorem fo_struct {H : Type} {enc : TypeId × Value → H} {W : World} {n : Nat} {cs : List Value} {y : DataW H × List MemPlace} (h : DataW.trod enc Tryz.prog W 0 (fun _ => true) true n 24 cs = some y) :
    ∃ (op k : Int) (v : Value) (n' : Nat) (y2 : DataW H × List MemPlace), cs = [.int .i64 op, .int .i64 k, v] ∧ n = n' + 1 ∧ DataW.trod enc Tryz.prog W 0 (fun _ => true) true n' 22 [v] = some y2 := by
  obtain ⟨xs, n', hn', _, hl, hxl, hf⟩ := DataW.trod_struct Tryz.underlying24 h
  rw [Tryz.cellsExpr] at hl
  obtain ⟨c0, c1, c2, rfl⟩ : ∃ c0 c1 c2, cs = [c0, c1, c2] := by
    match cs, hl with
    | [c0, c1, c2], _ => exact ⟨c0, c1, c2, rfl⟩
  obtain ⟨x0, x1, x2, rfl⟩ : ∃ x0 x1 x2, xs = [x0, x1, x2] := by
    have hx3 : xs.length = 3 := hxl
    match xs, hx3 with
    | [x0, x1, x2], _ => exact ⟨x0, x1, x2, rfl⟩
  have g0 : DataW.trod enc Tryz.prog W 0 (fun _ => true) true n' 3 [c0] = some x0 := hf 0 _ rfl
  have g1 : DataW.trod enc Tryz.prog W 0 (fun _ => true) true n' 3 [c1] = some x1 := hf 1 _ rfl
  have g2 : DataW.trod enc Tryz.prog W 0 (fun _ => true) true n' 22 [c2] = some x2 := hf 2 _ rfl
  obtain ⟨k0, e0, _, _⟩ := DataW.trod_int Tryz.underlying3 g0
  obtain ⟨k1, e1, _, _⟩ := DataW.trod_int Tryz.underlying3 g1
  simp only [List.cons.injEq, and_true] at e0 e1
  subst e0 e1
  exact ⟨k0, k1, c2, n', x2, rfl, hn', g2⟩
theorem fo_open_fuel {H : Type} {enc : TypeId × Value → H} {W : World} : ∀ (fuel : Nat) (v : Value) (x : DataW H × List MemPlace), DataW.trod enc Tryz.prog W 0 (fun _ => true) true fuel 22 [v] = some x → ∃ l : Fo, FoV W W.heap.size v l ∧ flen l ≤ maxLen := by
  intro fuel
  induction fuel using Nat.strongRecOn with
  | ind fuel ih =>
    intro v x h
    rcases DataW.trod_slice Tryz.underlying22 h with ⟨h0, _⟩ | ⟨a, len, cap, elems, rest, n, hfu, hx, hcs, hb, hl, hm, hlen, hel, hsp, hns⟩
    · simp at h0; subst h0; exact ⟨.nil, ⟨none, 0, rfl, trivial⟩, by simp [flen]⟩
    · simp at hx
      subst hx
      obtain ⟨f, hf, hF⟩ := fo_of_els (w := W) (B := W.heap.size) (ad := a) len 0 (fun k _ hk => by
        have hk' : k < len := by omega
        have he := hel k hk'
        rw [List.getElem?_eq_getElem (by omega), Option.bind_eq_some_iff] at he
        obtain ⟨cs', hc, ht'⟩ := he
        obtain ⟨op, m, v2, n', y2, rfl, hn', ht2⟩ := fo_struct ht'
        obtain ⟨l, ⟨A', c', rfl, hA'⟩, _⟩ := ih n' (by omega) v2 y2 ht2
        rw [Tryz.cellsExpr] at hc
        obtain ⟨_, _, hat⟩ := World.cells?_some hc
        have h0 := hat 0 (by omega)
        have h1 := hat 1 (by omega)
        have h2 := hat 2 (by omega)
        have a0 : (a.add (k * 3)).add 0 = a.add (k * 3) := by rw [Go.Deep.add_add]; rfl
        have a1 : (a.add (k * 3)).add 1 = ⟨(a.add (k * 3)).block, (a.add (k * 3)).off + 1, none⟩ := by rw [Go.Deep.add_add]; exact addr_step a (k * 3) 1 (by decide)
        have a2 : (a.add (k * 3)).add 2 = ⟨(a.add (k * 3)).block, (a.add (k * 3)).off + 2, none⟩ := by rw [Go.Deep.add_add]; exact addr_step a (k * 3) 2 (by decide)
        rw [a0] at h0
        rw [a1] at h1
        rw [a2] at h2
        refine ⟨(op, m), l, A', c', ?_, h0, h1, h2, hA'⟩
        have := cell_lt h0
        rw [add_block'] at this
        exact this)
      exact ⟨f, ⟨some a, cap, by rw [hf], hF⟩, by omega⟩
set_option maxRecDepth 100000 in
/-- an argument that is an expression -/
theorem expr_open {H : Type} {enc : TypeId × Value → H} {W : World} {base : Nat} {v : Value} {d : DataW H} {p : List MemPlace} (hval : Value.okWide Tryz.prog W .any base 24 v)
    (h : DataW.Trod enc Tryz.prog W 0 (fun _ => true) true 24 v d p) : ∃ (op n : Int) (l : Fo) (A : Option Addr) (c : Nat), v = .agg #[.int .i64 op, .int .i64 n, .slice A (flen l) c] ∧ FoV W W.heap.size (.slice A (flen l) c) l := by
  obtain ⟨cs, rfl, hsz⟩ := okWide_struct Tryz.underlying24 hval
  obtain ⟨fuel, hf⟩ := h
  obtain ⟨op, n, v2, n', y2, hcs, _, ht2⟩ := fo_struct hf
  obtain ⟨l, hl, _⟩ := fo_open_fuel n' v2 y2 ht2
  have hl' := hl
  obtain ⟨A, c, rfl, _⟩ := hl'
  refine ⟨op, n, l, A, c, ?_, hl⟩
  have : cs.toList = [.int .i64 op, .int .i64 n, .slice A (flen l) c] := hcs
  rw [← Array.toList_inj.1 (show cs.toList = (#[.int .i64 op, .int .i64 n, .slice A (flen l) c] : Array Value).toList from this)]
theorem Tryz.cellsRate : Tryz.prog.cellsOf 47 = 16 := by kernel_rfl
set_option maxRecDepth 100000 in
theorem two_ints {H : Type} {enc : TypeId × Value → H} {W : World} {n : Nat} {t : TypeId} {f0 f1 : Field} {c0 c1 : Value} {y : DataW H × List MemPlace} (ht : Tryz.prog.underlying t = some (.struct #[f0, f1])) (h0 : f0.type = 3 ∧ f0.offset = 0) (h1 : f1.type = 3 ∧ f1.offset = 1)
    (h : DataW.trod enc Tryz.prog W 0 (fun _ => true) true n t [c0, c1] = some y) : ∃ a b : Int, c0 = .int .i64 a ∧ c1 = .int .i64 b := by
  obtain ⟨xs, n', hn', _, hl, hxl, hf⟩ := DataW.trod_struct ht h
  obtain ⟨x0, x1, rfl⟩ : ∃ x0 x1, xs = [x0, x1] := by
    have hx3 : xs.length = 2 := hxl
    match xs, hx3 with
    | [x0, x1], _ => exact ⟨x0, x1, rfl⟩
  have k1 : Tryz.prog.cellsOf 3 = 1 := by kernel_rfl
  have g0 := hf 0 f0 rfl
  have g1 := hf 1 f1 rfl
  rw [h0.1, h0.2, k1] at g0
  rw [h1.1, h1.2, k1] at g1
  obtain ⟨k0, e0, _, _⟩ := DataW.trod_int Tryz.underlying3 (show DataW.trod enc Tryz.prog W 0 (fun _ => true) true n' 3 [c0] = some x0 from g0)
  obtain ⟨k1, e1, _, _⟩ := DataW.trod_int Tryz.underlying3 (show DataW.trod enc Tryz.prog W 0 (fun _ => true) true n' 3 [c1] = some x1 from g1)
  simp only [List.cons.injEq, and_true] at e0 e1
  exact ⟨k0, k1, e0, e1⟩
set_option maxRecDepth 100000 in
/-- an argument that is a rate -/
theorem rate_open {H : Type} {enc : TypeId × Value → H} {W : World} {base : Nat} {v : Value} {d : DataW H} {p : List MemPlace} (hval : Value.okWide Tryz.prog W .any base 47 v)
    (h : DataW.Trod enc Tryz.prog W 0 (fun _ => true) true 47 v d p) : ∃ (r : Rt) (WA PA : Option Addr) (wc pc : Nat), v = rtV r (.slice WA (flen r.wl) wc) (.slice PA (flen r.pl) pc) ∧ FoV W W.heap.size (.slice WA (flen r.wl) wc) r.wl ∧ FoV W W.heap.size (.slice PA (flen r.pl) pc) r.pl := by
  obtain ⟨cs, rfl, hsz⟩ := okWide_struct Tryz.underlying47 hval
  obtain ⟨fuel, hf0⟩ := h
  have hf1 : DataW.trod enc Tryz.prog W 0 (fun _ => true) true fuel 47 cs.toList = some (d, p) := hf0
  obtain ⟨xs, n', hn', _, hl, hxl, hf⟩ := DataW.trod_struct Tryz.underlying47 hf1
  rw [Tryz.cellsRate] at hl
  obtain ⟨l, hll⟩ : ∃ l, l = cs.toList := ⟨_, rfl⟩
  rw [← hll] at hf hl
  obtain ⟨c0, c1, c2, c3, c4, c5, c6, c7, c8, c9, c10, c11, c12, c13, c14, c15, rfl⟩ : ∃ c0 c1 c2 c3 c4 c5 c6 c7 c8 c9 c10 c11 c12 c13 c14 c15, l = [c0, c1, c2, c3, c4, c5, c6, c7, c8, c9, c10, c11, c12, c13, c14, c15] := by
    match l, hl with
    | [c0, c1, c2, c3, c4, c5, c6, c7, c8, c9, c10, c11, c12, c13, c14, c15], _ => exact ⟨c0, c1, c2, c3, c4, c5, c6, c7, c8, c9, c10, c11, c12, c13, c14, c15, rfl⟩
  obtain ⟨x0, x1, x2, x3, x4, x5, x6, x7, x8, x9, rfl⟩ : ∃ x0 x1 x2 x3 x4 x5 x6 x7 x8 x9, xs = [x0, x1, x2, x3, x4, x5, x6, x7, x8, x9] := by
    have hx3 : xs.length = 10 := hxl
    match xs, hx3 with
    | [x0, x1, x2, x3, x4, x5, x6, x7, x8, x9], _ => exact ⟨x0, x1, x2, x3, x4, x5, x6, x7, x8, x9, rfl⟩
  have g0 : DataW.trod enc Tryz.prog W 0 (fun _ => true) true n' 3 [c0] = some x0 := hf 0 _ rfl
  have g1 : DataW.trod enc Tryz.prog W 0 (fun _ => true) true n' 3 [c1] = some x1 := hf 1 _ rfl
  have g2 : DataW.trod enc Tryz.prog W 0 (fun _ => true) true n' 3 [c2] = some x2 := hf 2 _ rfl
  have g3 : DataW.trod enc Tryz.prog W 0 (fun _ => true) true n' 43 [c3, c4] = some x3 := hf 3 _ rfl
  have g4 : DataW.trod enc Tryz.prog W 0 (fun _ => true) true n' 3 [c5] = some x4 := hf 4 _ rfl
  have g5 : DataW.trod enc Tryz.prog W 0 (fun _ => true) true n' 3 [c6] = some x5 := hf 5 _ rfl
  have g6 : DataW.trod enc Tryz.prog W 0 (fun _ => true) true n' 3 [c7] = some x6 := hf 6 _ rfl
  have g7 : DataW.trod enc Tryz.prog W 0 (fun _ => true) true n' 45 [c8, c9] = some x7 := hf 7 _ rfl
  have g8 : DataW.trod enc Tryz.prog W 0 (fun _ => true) true n' 24 [c10, c11, c12] = some x8 := hf 8 _ rfl
  have g9 : DataW.trod enc Tryz.prog W 0 (fun _ => true) true n' 24 [c13, c14, c15] = some x9 := hf 9 _ rfl
  obtain ⟨k0, e0, _, _⟩ := DataW.trod_int Tryz.underlying3 g0
  obtain ⟨k1, e1, _, _⟩ := DataW.trod_int Tryz.underlying3 g1
  obtain ⟨k2, e2, _, _⟩ := DataW.trod_int Tryz.underlying3 g2
  obtain ⟨k5, e5, _, _⟩ := DataW.trod_int Tryz.underlying3 g4
  obtain ⟨k6, e6, _, _⟩ := DataW.trod_int Tryz.underlying3 g5
  obtain ⟨k7, e7, _, _⟩ := DataW.trod_int Tryz.underlying3 g6
  obtain ⟨k3, k4, e3, e4⟩ := two_ints Tryz.underlying43 ⟨rfl, rfl⟩ ⟨rfl, rfl⟩ (show DataW.trod enc Tryz.prog W 0 (fun _ => true) true n' 43 [c3, c4] = some x3 from g3)
  obtain ⟨k8, k9, e8, e9⟩ := two_ints Tryz.underlying45 ⟨rfl, rfl⟩ ⟨rfl, rfl⟩ (show DataW.trod enc Tryz.prog W 0 (fun _ => true) true n' 45 [c8, c9] = some x7 from g7)
  obtain ⟨wo, wn, wv, n8, y8, e10, _, t8⟩ := fo_struct (show DataW.trod enc Tryz.prog W 0 (fun _ => true) true n' 24 [c10, c11, c12] = some x8 from g8)
  obtain ⟨po, pn, pv, n9, y9, e13, _, t9⟩ := fo_struct (show DataW.trod enc Tryz.prog W 0 (fun _ => true) true n' 24 [c13, c14, c15] = some x9 from g9)
  obtain ⟨wl, hwl, _⟩ := fo_open_fuel n8 wv y8 t8
  obtain ⟨pl, hpl, _⟩ := fo_open_fuel n9 pv y9 t9
  have hwl' := hwl
  have hpl' := hpl
  obtain ⟨WA, wc, rfl, _⟩ := hwl'
  obtain ⟨PA, pc, rfl, _⟩ := hpl'
  simp only [List.cons.injEq, and_true] at e0 e1 e2 e5 e6 e7 e10 e13
  obtain ⟨rfl, rfl, rfl⟩ := e10
  obtain ⟨rfl, rfl, rfl⟩ := e13
  subst e0 e1 e2 e3 e4 e5 e6 e7 e8 e9
  refine ⟨⟨k0, k1, k2, k3, k4, k5, k6, k7, k8, k9, wo, wn, wl, po, pn, pl⟩, WA, PA, wc, pc, ?_, hwl, hpl⟩
  rw [rtV, ← Array.toList_inj.1 (show (#[.int .i64 k0, .int .i64 k1, .int .i64 k2, .int .i64 k3, .int .i64 k4, .int .i64 k5, .int .i64 k6, .int .i64 k7, .int .i64 k8, .int .i64 k9, .int .i64 wo, .int .i64 wn, .slice WA (flen wl) wc, .int .i64 po, .int .i64 pn, .slice PA (flen pl) pc] : Array Value).toList = cs.toList from hll)]
end Go.Proofs.YtomnjamldbficaaGreatDoor
namespace Go.Proofs.YtomnjamldbficaaGreatDoor
open Go.ChangeShapes Go.WideShapes Go.ChangeAt Go.RowKit Go.Deep Lx Px
def laid4 : List (String × DataW Unit) := [("math/bits.deBruijn32tab", Rows.laid_math_bits_deBruijn32tab), ("math/bits.deBruijn64tab", Rows.laid_math_bits_deBruijn64tab), ("internal/strconv.uint64pow10", Rows.laid_internal_strconv_uint64pow10), ("innkeeper/printer.names", Rows.laid_innkeeper_printer_names)]
theorem Tryz.gPow : Tryz.prog.globalNamed "internal/strconv.uint64pow10" = some 2 := by kernel_rfl
theorem Tryz.gNames : Tryz.prog.globalNamed "innkeeper/printer.names" = some 1 := by kernel_rfl
theorem str_of_trod {H : Type} {enc : TypeId × Value → H} {w : World} {base : Nat} {sp : Nat → Bool} {held : Bool} {fuel : Nat} {c : Value} {y : DataW H × List MemPlace}
    (h : DataW.trod enc Tryz.prog w base sp held fuel 9 [c] = some y) : ∃ s : ByteArray, c = .string s ∧ y = (.lit (.string s.data.toList), []) := by
  obtain ⟨s, hc, hy, _⟩ := DataW.trod_string Tryz.underlying9 h
  simp only [List.cons.injEq, and_true] at hc
  exact ⟨s, hc, hy⟩
theorem ba_of_list {s : ByteArray} {l : List UInt8} (h : s.data.toList = l) : s = mk l := by rw [← mk_bl s]; exact congrArg mk h
theorem Tryz.cellsNames : Tryz.prog.cellsOf 140 = 5 := by kernel_rfl
theorem Tryz.cellsStr : Tryz.prog.cellsOf 9 = 1 := by kernel_rfl
set_option maxRecDepth 100000 in
theorem names_of_trod {H : Type} {enc : TypeId × Value → H} {w : World} {base : Nat} {sp : Nat → Bool} {held : Bool} {fuel : Nat} {l : List Value} {p : List MemPlace}
    (h : DataW.trod enc Tryz.prog w base sp held fuel 140 l = some (Rows.laid_innkeeper_printer_names, p)) : l = [.string (mk []), .string (mk (nameOf 1)), .string (mk (nameOf 2)), .string (mk (nameOf 3)), .string (mk (nameOf 4))] := by
  cases fuel with
  | zero => simp [DataW.trod] at h
  | succ fuel =>
    simp only [DataW.trod, Tryz.underlying140, Tryz.cellsNames, Tryz.cellsStr] at h
    split at h
    · rename_i hl
      obtain ⟨c0, c1, c2, c3, c4, rfl⟩ : ∃ c0 c1 c2 c3 c4, l = [c0, c1, c2, c3, c4] := by
        match l, hl with
        | [a, b, c, d, e], _ => exact ⟨a, b, c, d, e, rfl⟩
      have e : List.range 5 = [0, 1, 2, 3, 4] := rfl
      rw [e] at h
      simp only [Option.map_eq_some_iff, List.mapM_cons, List.mapM_nil, Option.bind_eq_bind, Option.bind_eq_some_iff, Option.pure_def, Option.some.injEq] at h
      obtain ⟨xs, ⟨y0, h0, _, ⟨y1, h1, _, ⟨y2, h2, _, ⟨y3, h3, _, ⟨y4, h4, _, rfl, rfl⟩, rfl⟩, rfl⟩, rfl⟩, rfl⟩, hx⟩ := h
      obtain ⟨n0, rfl, rfl⟩ := str_of_trod h0
      obtain ⟨n1, rfl, rfl⟩ := str_of_trod h1
      obtain ⟨n2, rfl, rfl⟩ := str_of_trod h2
      obtain ⟨n3, rfl, rfl⟩ := str_of_trod h3
      obtain ⟨n4, rfl, rfl⟩ := str_of_trod h4
      simp only [Rows.laid_innkeeper_printer_names, List.map_cons, List.map_nil, Prod.mk.injEq, DataW.agg.injEq, List.cons.injEq, DataW.lit.injEq, Lit.string.injEq, and_true] at hx
      obtain ⟨⟨e0, e1, e2, e3, e4⟩, _⟩ := hx
      rw [ba_of_list e0, ba_of_list e1, ba_of_list e2, ba_of_list e3, ba_of_list e4]
      rfl
    · cases h
set_option maxRecDepth 100000 in
theorem of_laid {W : World} (h : laidMetH Tryz.prog laid4 W) : Tabs W.heap.size W := by
  rw [MakeChecks.laidMetH_plain _ _ _ (by kernel_rfl)] at h
  obtain ⟨ps, ⟨g0, t0, cs0, f0, p0, q0, hg0, ht0, hv0, hd0, ⟨g1, t1, cs1, f1, p1, q1, hg1, ht1, hv1, hd1, ⟨g2, t2, cs2, f2, p2, q2, hg2, ht2, hv2, hd2, ⟨g3, t3, cs3, f3, p3, q3, hg3, ht3, hv3, hd3, _, _⟩, _⟩, _⟩, _⟩, _, _⟩ := h
  have hT2 : (Tryz.prog.globals[2]?).map (·.type) = some 184 := by kernel_rfl
  have hT3 : (Tryz.prog.globals[1]?).map (·.type) = some 140 := by kernel_rfl
  obtain rfl := Option.some.inj (Tryz.gPow.symm.trans hg2)
  obtain rfl := Option.some.inj (Tryz.gNames.symm.trans hg3)
  obtain rfl := Option.some.inj (hT2.symm.trans ht2)
  obtain rfl := Option.some.inj (hT3.symm.trans ht3)
  have htab : Lib.TabIs Tryz.prog W "internal/strconv.uint64pow10" .u64 Lib.pow10Tab := by
    have hd2' : DataW.trod _ Tryz.prog W 0 _ _ f2 184 cs2.toList = some (Lib.tabData .u64 Lib.pow10Tab, p2) := hd2
    have := Lib.cells_of_tab Tryz.underlying184 Tryz.underlying144 (by kernel_rfl) (by kernel_rfl) hd2'
    unfold Lib.TabIs
    rw [hv2, ← this]
  have hnm := names_of_trod hd3
  have hlt : 1 < W.heap.size := by
    have := hv3
    unfold World.var? at this
    rw [Tryz.gNames] at this
    simp only [Option.bind_some] at this
    rcases Nat.lt_or_ge 1 W.heap.size with h1 | h1
    · exact h1
    · rw [Array.getElem?_eq_none h1] at this; cases this
  refine ⟨Lib.tabBelow_of_tabIs htab, hlt, Nat.le_refl _, ?_⟩
  intro k h1 h2
  have hc := World.var?_cell Tryz.gNames hv3 k
  rw [← Array.getElem?_toList, hnm] at hc
  rcases (show k = 1 ∨ k = 2 ∨ k = 3 ∨ k = 4 by omega) with rfl | rfl | rfl | rfl
  all_goals exact hc
end Go.Proofs.YtomnjamldbficaaGreatDoor
namespace Go.Proofs.YtomnjamldbficaaGreatDoor
open Go.ChangeShapes Go.WideShapes Go.ChangeAt Go.RowKit Go.Deep Lx Px
def laid8 : List (String × DataW Unit) := [("math/bits.deBruijn32tab", Rows.laid_math_bits_deBruijn32tab), ("math/bits.deBruijn64tab", Rows.laid_math_bits_deBruijn64tab), ("internal/strconv.uint64pow10", Rows.laid_internal_strconv_uint64pow10), ("unicode/utf8.acceptRanges", Rows.laid_unicode_utf8_acceptRanges), ("strconv.ErrRange", Rows.laid_strconv_ErrRange), ("strconv.ErrSyntax", Rows.laid_strconv_ErrSyntax), ("innkeeper/printer.names", Rows.laid_innkeeper_printer_names), ("unicode/utf8.first", Rows.laid_unicode_utf8_first)]
set_option maxRecDepth 100000 in
theorem of_laid8 {W : World} (h : laidMetH Tryz.prog laid8 W) : Tabs W.heap.size W := by
  rw [MakeChecks.laidMetH_plain _ _ _ (by kernel_rfl)] at h
  obtain ⟨ps, ⟨g0, t0, cs0, f0, p0, q0, hg0, ht0, hv0, hd0, ⟨g1, t1, cs1, f1, p1, q1, hg1, ht1, hv1, hd1, ⟨g2, t2, cs2, f2, p2, q2, hg2, ht2, hv2, hd2, ⟨g3, t3, cs3, f3, p3, q3, hg3, ht3, hv3, hd3, ⟨g4, t4, cs4, f4, p4, q4, hg4, ht4, hv4, hd4, ⟨g5, t5, cs5, f5, p5, q5, hg5, ht5, hv5, hd5, ⟨g6, t6, cs6, f6, p6, q6, hg6, ht6, hv6, hd6, ⟨g7, t7, cs7, f7, p7, q7, hg7, ht7, hv7, hd7, _, _⟩, _⟩, _⟩, _⟩, _⟩, _⟩, _⟩, _⟩, _, _⟩ := h
  have hT2 : (Tryz.prog.globals[2]?).map (·.type) = some 184 := by kernel_rfl
  have hT6 : (Tryz.prog.globals[1]?).map (·.type) = some 140 := by kernel_rfl
  obtain rfl := Option.some.inj (Tryz.gPow.symm.trans hg2)
  obtain rfl := Option.some.inj (Tryz.gNames.symm.trans hg6)
  obtain rfl := Option.some.inj (hT2.symm.trans ht2)
  obtain rfl := Option.some.inj (hT6.symm.trans ht6)
  have htab : Lib.TabIs Tryz.prog W "internal/strconv.uint64pow10" .u64 Lib.pow10Tab := by
    have hd2' : DataW.trod _ Tryz.prog W 0 _ _ f2 184 cs2.toList = some (Lib.tabData .u64 Lib.pow10Tab, p2) := hd2
    have := Lib.cells_of_tab Tryz.underlying184 Tryz.underlying144 (by kernel_rfl) (by kernel_rfl) hd2'
    unfold Lib.TabIs
    rw [hv2, ← this]
  have hnm := names_of_trod hd6
  have hlt : 1 < W.heap.size := by
    have := hv6
    unfold World.var? at this
    rw [Tryz.gNames] at this
    simp only [Option.bind_some] at this
    rcases Nat.lt_or_ge 1 W.heap.size with h1 | h1
    · exact h1
    · rw [Array.getElem?_eq_none h1] at this; cases this
  refine ⟨Lib.tabBelow_of_tabIs htab, hlt, Nat.le_refl _, ?_⟩
  intro k h1 h2
  have hc := World.var?_cell Tryz.gNames hv6 k
  rw [← Array.getElem?_toList, hnm] at hc
  rcases (show k = 1 ∨ k = 2 ∨ k = 3 ∨ k = 4 by omega) with rfl | rfl | rfl | rfl
  all_goals exact hc
/-- the library's variable holds some number in every world that fits -/
theorem mx_of_shaped {W : World} (h : W.ShapedOpen Tryz.prog) : Mx W W.heap.size := by
  obtain ⟨m, hm⟩ := Tryz.laysM155.s1_3 W h
  exact ⟨m, hm, World.block_lt_of_cell? _ _ hm⟩
theorem handed_shaped_and {H : Type} {enc : TypeId × Value → H} {a : Assume} {C : Checked} {os : Os} {f : FuncId} {fn : Func} {s : ChangeSpec} {conds : List PathCond} {apart fresh handsOn again : Bool} {X : World → Array Value → Prop}
    (hX : ∀ (w w' : World) (args : Array Value), w.heap = w'.heap → X w args → X w' args)
    (own : ownKnob C.prog.godebug = none) (started : os.Started) (noInit : C.prog.inits.idxOf? f = none) (hfn : C.prog.funcs[f]? = some fn)
    (witness : ∃ (w : World) (tape : Tape) (i : Input), w.os = os ∧ (w.forCall tape i).Shaped C.prog ∧ i.vars = [] ∧ Input.okWide C.prog (w.forCall tape i) .any w.heap.size f i ∧
      ((s.pre enc C.prog fn conds apart (w.forCall tape i).memory i.args ∧ X (w.forCall tape i).memory i.args) ∧ sizedMet enc C.prog fn (OpenSpec.ofChange s) apart (w.forCall tape i).memory i.args) ∧ a.holds C.prog (lone (Frame.enter C.prog f i.args .normal) [] (w.forCall tape i)))
    (contract : ∀ (W : World) (base : Nat) (args : Array Value) (ds gs : List (DataW H)) (before : List MemPlace),
      (∀ (j : Nat) t v, fn.params[j]? = some t → args[j]? = some v → Value.okWide C.prog W .any base t v) →
      DataW.Whole enc C.prog fn.params.toList s.vars apart W args.toList ds gs before →
      conds.all (PathCond.test C.prog ⟨fn.params.toList, ds, s.plain.varTypes C.prog, gs⟩) = true →
      (DataW.weightsEach C.prog (fn.params.toList ++ s.plain.varTypes C.prog) (ds ++ gs)).all (· ≤ reachBytes) = true → X W args → W.ShapedOpen C.prog →
      a.holds C.prog (lone (Frame.enter C.prog f args .normal) [] W) →
      Calls C.prog f args W fun e W' => ∃ v, e = .returned v ∧ s.post enc C.prog fn apart fresh handsOn again W args v W') :
    ReturnsInHanded a C os f .any (fun w args => (s.pre enc C.prog fn conds apart w args ∧ X w args) ∧ sizedMet enc C.prog fn (OpenSpec.ofChange s) apart w args) (s.post enc C.prog fn apart fresh handsOn again) := by
  refine returnsInHanded_of_calls own started noInit witness ?_
  intro w tape i _ hsh _ hok hpre hholds
  obtain ⟨_, _, _, fn', hfn', _, _, _, _, hval⟩ := hok
  have e : fn' = fn := Option.some.inj (hfn'.symm.trans hfn)
  subst e
  obtain ⟨⟨⟨ds, gs, before, hw, hc⟩, hx⟩, hz⟩ := hpre
  have hw' := DataW.Whole.of_heap (w' := w.forCall tape i) (by rfl) hw
  refine (contract (w.forCall tape i) w.heap.size i.args ds gs before hval hw' hc (hz.weights hw) (hX _ _ _ (by rfl) hx) hsh hholds).mono fun e W' ⟨v, he, hp⟩ => ?_
  subst he
  exact ChangeSpec.post_blind hp
end Go.Proofs.YtomnjamldbficaaGreatDoor
namespace Go.Proofs.YtomnjamldbficaaGreatDoor
open Go.ChangeShapes Go.WideShapes Go.ChangeAt Go.RowKit Go.Deep Lx Px
def laid7 : List (String × DataW Unit) := [("math/bits.deBruijn32tab", Rows.laid_math_bits_deBruijn32tab), ("math/bits.deBruijn64tab", Rows.laid_math_bits_deBruijn64tab), ("internal/strconv.uint64pow10", Rows.laid_internal_strconv_uint64pow10), ("unicode/utf8.acceptRanges", Rows.laid_unicode_utf8_acceptRanges), ("strconv.ErrRange", Rows.laid_strconv_ErrRange), ("strconv.ErrSyntax", Rows.laid_strconv_ErrSyntax), ("unicode/utf8.first", Rows.laid_unicode_utf8_first)]
theorem door_met7 (os : Os) (args : Array Value) : laidMetH Tryz.prog laid7 ((World.laidAll Tryz.prog os laid7).forCall (fun _ _ => 0) ⟨#[], args, []⟩).memory := by
  rw [MakeChecks.laidMetH_plain _ _ _ (by kernel_rfl)]; exact laidMet_laidAll _ (by kernel_rfl) (by kernel_rfl)
theorem door_met8 (os : Os) (args : Array Value) : laidMetH Tryz.prog laid8 ((World.laidAll Tryz.prog os laid8).forCall (fun _ _ => 0) ⟨#[], args, []⟩).memory := by
  rw [MakeChecks.laidMetH_plain _ _ _ (by kernel_rfl)]; exact laidMet_laidAll _ (by kernel_rfl) (by kernel_rfl)
end Go.Proofs.YtomnjamldbficaaGreatDoor
