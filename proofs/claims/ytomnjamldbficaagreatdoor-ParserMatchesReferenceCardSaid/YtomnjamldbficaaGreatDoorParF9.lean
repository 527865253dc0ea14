/-
  Several texts in one: ParF7, ParF8, ParF9.
-/
import Derived.Test.YtomnjamldbficaaGreatDoorParF6
import Derived.RegionTactic
import Derived.Test.YtomnjamldbficaaGreatDoorParW7
namespace Go.Proofs.YtomnjamldbficaaGreatDoor
open Go.RowKit Lx Px
set_option maxRecDepth 100000 in
theorem atom_bad (w : World) (v : Value) (ts : List Tok) (k : Nat) (h : Tk w v ts) :
    Calls Tryz.prog 108 #[.agg #[v, .int .i64 k, .bool true]] w (RfP v (.no k) w) := by
  have h' := h
  obtain ⟨A, c, rfl, _⟩ := h'.1
  have hl := h.2.1
  obtain ⟨hx, hy, hz, hb⟩ := boxes3 w (.cells #[.slice A ts.length c, .int .i64 k, .bool true] 76) (.cells #[.slice none 0 0, .int .i64 0, .bool false] 76) (.cells #[.int .i64 0, .int .i64 0, .slice none 0 0] 24)
  have HB := Lib.hid hb
  obtain ⟨x0, x1, x2, f0, f1, f2⟩ := three_cells hx
  obtain ⟨y0, y1, y2, g0, g1, g2⟩ := three_cells hy
  obtain ⟨z0, z1, z2, i0, i1, i2⟩ := three_cells hz
  clear h h' hb hx hy hz
  go_enter Tryz.func108, Tryz.ntmps108
  go_upto_region 1 with fail
  generalize ((w.alloc (.cells #[.slice A ts.length c, .int .i64 k, .bool true] 76)).alloc (.cells #[.slice none 0 0, .int .i64 0, .bool false] 76)).alloc (.cells #[.int .i64 0, .int .i64 0, .slice none 0 0] 24) = w1 at *
  go_wp2_with fail
  refine bodyPost_ret (v := .tuple #[.agg #[.slice A ts.length c, .int .i64 k, .bool true], .agg #[.int .i64 0, .int .i64 0, .slice none 0 0]]) (by simp [results, Tryz.results108, go_sem, y0, y1, y2, z0, z1, z2]) rfl ?_
  have q1 : w.heap.size ≤ w.heap.size + 1 := by omega
  have q2 : w.heap.size ≤ w.heap.size + 1 + 1 := by omega
  have q0 : w.heap.size ≤ w.heap.size := Nat.le_refl _
  refine ⟨?_, 0, 0, none, 0, 0, rfl⟩
  repeat (first | with_reducible exact HB.out | (with_reducible refine Below.drew ?_) | (with_reducible refine Below.setCell ?_ q1 _) | (with_reducible refine Below.setCell ?_ q2 _) | (with_reducible refine Below.setCell ?_ q0 _))
set_option maxRecDepth 100000 in
theorem atom_end (w : World) (v : Value) (ts : List Tok) (k : Nat) (hk : ¬ k < ts.length) (h : Tk w v ts) :
    Calls Tryz.prog 108 #[.agg #[v, .int .i64 k, .bool false]] w (RfP v (.no k) w) := by
  have h' := h
  obtain ⟨A, c, rfl, _⟩ := h'.1
  have hl := h.2.1
  obtain ⟨hx, hy, hz, hb⟩ := boxes3 w (.cells #[.slice A ts.length c, .int .i64 k, .bool false] 76) (.cells #[.slice none 0 0, .int .i64 0, .bool false] 76) (.cells #[.int .i64 0, .int .i64 0, .slice none 0 0] 24)
  have HB := Lib.hid hb
  obtain ⟨x0, x1, x2, f0, f1, f2⟩ := three_cells hx
  obtain ⟨y0, y1, y2, g0, g1, g2⟩ := three_cells hy
  obtain ⟨z0, z1, z2, i0, i1, i2⟩ := three_cells hz
  have d : ((ts.length : Int) ≤ (k : Int)) := by omega
  clear h h' hb hx hy hz
  go_enter Tryz.func108, Tryz.ntmps108
  go_upto_region 1 with fail
  generalize ((w.alloc (.cells #[.slice A ts.length c, .int .i64 k, .bool false] 76)).alloc (.cells #[.slice none 0 0, .int .i64 0, .bool false] 76)).alloc (.cells #[.int .i64 0, .int .i64 0, .slice none 0 0] 24) = w1 at *
  go_wp2_with fail
  refine bodyPost_ret (v := .tuple #[.agg #[.slice A ts.length c, .int .i64 k, .bool true], .agg #[.int .i64 0, .int .i64 0, .slice none 0 0]]) (by simp [results, Tryz.results108, go_sem, y0, y1, y2, z0, z1, z2]) rfl ?_
  have q1 : w.heap.size ≤ w.heap.size + 1 := by omega
  have q2 : w.heap.size ≤ w.heap.size + 1 + 1 := by omega
  have q0 : w.heap.size ≤ w.heap.size := Nat.le_refl _
  refine ⟨?_, 0, 0, none, 0, 0, rfl⟩
  repeat (first | with_reducible exact HB.out | (with_reducible refine Below.drew ?_) | (with_reducible refine Below.setCell ?_ q1 _) | (with_reducible refine Below.setCell ?_ q2 _) | (with_reducible refine Below.setCell ?_ q0 _))
set_option maxRecDepth 100000 in
set_option maxHeartbeats 2000000 in
theorem atom_no (w : World) (v : Value) (ts : List Tok) (k : Nat) (hk : k < ts.length) (h2 : ts[k].1 ≠ 2) (h3 : ts[k].1 ≠ 3) (hv : ¬ 0 < varOf ts[k].2.2) (hmi : ts[k].2.2 ≠ [109, 105, 110]) (hma : ts[k].2.2 ≠ [109, 97, 120]) (hbr : ts[k].2.2 ≠ [40]) (h : Tk w v ts) :
    Calls Tryz.prog 108 #[.agg #[v, .int .i64 k, .bool false]] w (RfP v (.no k) w) := by
  have h' := h
  obtain ⟨A, c, rfl, _⟩ := h'.1
  have hl := h.2.1
  obtain ⟨hx, hy, hz, hb⟩ := boxes3 w (.cells #[.slice A ts.length c, .int .i64 k, .bool false] 76) (.cells #[.slice none 0 0, .int .i64 0, .bool false] 76) (.cells #[.int .i64 0, .int .i64 0, .slice none 0 0] 24)
  have H1 := Lib.hid (h.on hb)
  have HB := Lib.hid hb
  obtain ⟨x0, x1, x2, f0, f1, f2⟩ := three_cells hx
  obtain ⟨y0, y1, y2, g0, g1, g2⟩ := three_cells hy
  obtain ⟨z0, z1, z2, i0, i1, i2⟩ := three_cells hz
  obtain ⟨ad, hA, t0, t1, t2⟩ := H1.out.at_ hk
  subst hA
  have d : ¬ ((ts.length : Int) ≤ (k : Int)) := by omega
  have hsz : 0 ≤ (k : Int) := by omega
  have q : (ts[k].1 == 2) = false := by simpa using h2
  have q' : (ts[k].1 == 3) = false := by simpa using h3
  have u1 := bytes_beq ts[k].2.2 [109, 105, 110]
  have u2 := bytes_beq ts[k].2.2 [109, 97, 120]
  have u3 := bytes_beq ts[k].2.2 [40]
  rw [show (ts[k].2.2 == [109, 105, 110]) = false by simpa using hmi] at u1
  rw [show (ts[k].2.2 == [109, 97, 120]) = false by simpa using hma] at u2
  rw [show (ts[k].2.2 == [40]) = false by simpa using hbr] at u3
  have HX := Lib.hid hx
  have HY := Lib.hid hy
  have HZ := Lib.hid hz
  clear h h' hb hx hy hz h2 h3 hmi hma hbr
  generalize ts[k].1 = t' at *
  generalize ts[k].2.2 = t at *
  generalize ts[k].2.1 = t'' at *
  go_enter Tryz.func108, Tryz.ntmps108
  go_upto_region 1 with fail
  generalize ((w.alloc (.cells #[.slice (some ad) ts.length c, .int .i64 k, .bool false] 76)).alloc (.cells #[.slice none 0 0, .int .i64 0, .bool false] 76)).alloc (.cells #[.int .i64 0, .int .i64 0, .slice none 0 0] 24) = w1 at *
  go_upto_region 5 with fail
  have ha : Below w1.heap.size w1 (w1.alloc (.cells #[.int .i64 t', .int .i64 t'', .string (mk t)] 41)) := (Below.refl _ _).alloc (Nat.le_refl _) _
  have X2 := Lib.hid ((ha.block _ (Array.getElem?_eq_some_iff.1 HX.out).1).trans HX.out)
  have Y2 := Lib.hid ((ha.block _ (Array.getElem?_eq_some_iff.1 HY.out).1).trans HY.out)
  have Z2 := Lib.hid ((ha.block _ (Array.getElem?_eq_some_iff.1 HZ.out).1).trans HZ.out)
  have hn := World.alloc_heap_new w1 (.cells #[.int .i64 t', .int .i64 t'', .string (mk t)] 41)
  have B2 := Lib.hid (bthen' HB.out ha)
  have hlt : w.heap.size + 1 + 1 < w1.heap.size := (Array.getElem?_eq_some_iff.1 HZ.out).1
  clear ha HX HY HZ HB x0 x1 x2 y0 y1 y2 z0 z1 z2 f0 f1 f2 g0 g1 g2 i0 i1 i2 t0 t1 t2 H1
  generalize w1.alloc (.cells #[.int .i64 t', .int .i64 t'', .string (mk t)] 41) = w2 at *
  generalize w1.heap.size = b4 at *
  obtain ⟨x0, x1, x2, f0, f1, f2⟩ := three_cells X2.out
  obtain ⟨y0, y1, y2, g0, g1, g2⟩ := three_cells Y2.out
  obtain ⟨z0, z1, z2, i0, i1, i2⟩ := three_cells Z2.out
  obtain ⟨t0, t1, t2, _, _, _⟩ := three_cells hn
  clear hn
  go_wp2_with fail
  refine (variable_any t _).mono ?_
  rintro e w3 ⟨rfl, rfl⟩
  generalize varOf t = vt at *
  have dv : decide (0 < vt) = false := by simpa using hv
  go_wp2_with fail
  refine bodyPost_ret (v := .tuple #[.agg #[.slice (some ad) ts.length c, .int .i64 k, .bool true], .agg #[.int .i64 0, .int .i64 0, .slice none 0 0]]) (by simp [results, Tryz.results108, go_sem, y0, y1, y2, z0, z1, z2]) rfl ?_
  have q1 : w.heap.size ≤ w.heap.size + 1 := by omega
  have q2 : w.heap.size ≤ w.heap.size + 1 + 1 := by omega
  have q0 : w.heap.size ≤ w.heap.size := Nat.le_refl _
  refine ⟨?_, 0, 0, none, 0, 0, rfl⟩
  repeat (first | with_reducible exact B2.out | (with_reducible refine Below.drew ?_) | (with_reducible refine Below.setCell ?_ q1 _) | (with_reducible refine Below.setCell ?_ q2 _) | (with_reducible refine Below.setCell ?_ q0 _))
end Go.Proofs.YtomnjamldbficaaGreatDoor
namespace Go.Proofs.YtomnjamldbficaaGreatDoor
open Go.RowKit Lx Px
/-- what holds behind the first part of a level is read -/
structure Lv8 (w w3 W : World) (v' k' b' a' a2' a3' : Value) : Prop where
  x : W.heap[w.heap.size]? = some (.cells #[v', k', b'] 76 (0, 0))
  n : W.heap[w3.heap.size]? = some (.cells #[a', a2', a3'] 24 (0, 0))
  far : ∀ b, b < w3.heap.size → b ≠ w.heap.size → W.heap[b]? = w3.heap[b]?
  size : W.heap.size = w3.heap.size + 1
  below : Below w.heap.size w W
theorem lv8 {w w3 : World} {v0 k0 b0 v' k' b' a' a2' a3' : Value} (hx : w3.heap[w.heap.size]? = some (.cells #[v0, k0, b0] 76 (0, 0))) (hb : Below w.heap.size w w3) :
    Lv8 w w3 (((((((w3.alloc (.cells #[.int .i64 0, .int .i64 0, .slice none 0 0] 24)).setCell ⟨w.heap.size, 0, none⟩ v').setCell ⟨w.heap.size, 1, none⟩ k').setCell ⟨w.heap.size, 2, none⟩ b').setCell ⟨w3.heap.size, 0, none⟩ a').setCell ⟨w3.heap.size, 1, none⟩ a2').setCell ⟨w3.heap.size, 2, none⟩ a3') v' k' b' a' a2' a3' := by
  have hlt : w.heap.size < w3.heap.size := (Array.getElem?_eq_some_iff.1 hx).1
  have hx1 := heap_on hx (.cells #[.int .i64 0, .int .i64 0, .slice none 0 0] 24)
  have hn1 := World.alloc_heap_new w3 (.cells #[.int .i64 0, .int .i64 0, .slice none 0 0] 24)
  have hx2 := heap_set3 (x' := v') (y' := k') (z' := b') hx1
  have hn2 := (heap_far3 (w := w3.alloc (.cells #[.int .i64 0, .int .i64 0, .slice none 0 0] 24)) (b := w.heap.size) (k := w3.heap.size) (by omega) v' k' b').trans hn1
  have hs1 : (w3.alloc (.cells #[.int .i64 0, .int .i64 0, .slice none 0 0] 24)).heap.size = w3.heap.size + 1 := by simp
  refine ⟨?_, ?_, ?_, ?_, ?_⟩
  · rw [heap_far3 (by omega)]; exact hx2
  · exact heap_set3 hn2
  · intro b hbl hne
    rw [heap_far3 (by omega), heap_far3 hne]
    exact Below.heap_alloc _ _ _ hbl
  · rw [size_set3, size_set3, hs1]
  · have q0 : w.heap.size ≤ w.heap.size := Nat.le_refl _
    have q1 : w.heap.size ≤ w3.heap.size := by omega
    exact ((((((hb.alloc q1 _).setCell (p := ⟨w.heap.size, 0, none⟩) q0 _).setCell (p := ⟨w.heap.size, 1, none⟩) q0 _).setCell (p := ⟨w.heap.size, 2, none⟩) q0 _).setCell (p := ⟨w3.heap.size, 0, none⟩) q1 _).setCell (p := ⟨w3.heap.size, 1, none⟩) q1 _).setCell (p := ⟨w3.heap.size, 2, none⟩) q1 _
theorem not_text : (⟨#[110, 111, 116]⟩ : ByteArray) = mk [110, 111, 116] := rfl
set_option maxRecDepth 100000 in
set_option maxHeartbeats 1000000 in
theorem level_bad6 (w : World) (v : Value) (ts : List Tok) (k : Nat) (h : Tk w v ts) :
    Calls Tryz.prog 76 #[.agg #[v, .int .i64 k, .bool true], .int .i64 6] w (RfP v (.no k) w) := by
  have h' := h
  obtain ⟨A, c, rfl, _⟩ := h'.1
  have hl := h.2.1
  obtain ⟨hx, hy, hz, hb⟩ := boxes3 w (.cells #[.slice A ts.length c, .int .i64 k, .bool true] 76) (.cells #[.slice none 0 0, .int .i64 0, .bool false] 76) (.cells #[.int .i64 0, .int .i64 0, .slice none 0 0] 24)
  have H0 := Lib.hid h
  have H1 := Lib.hid (h.on hb)
  have HB := Lib.hid hb
  have HX := Lib.hid hx
  have HY := Lib.hid hy
  have HZ := Lib.hid hz
  clear h h' hb hx hy hz
  go_enter Tryz.func76, Tryz.ntmps76
  go_upto_region 1 with fail
  generalize ((w.alloc (.cells #[.slice A ts.length c, .int .i64 k, .bool true] 76)).alloc (.cells #[.slice none 0 0, .int .i64 0, .bool false] 76)).alloc (.cells #[.int .i64 0, .int .i64 0, .slice none 0 0] 24) = w1 at *
  obtain ⟨x0, x1, x2, _, _, _⟩ := three_cells HX.out
  go_wp2_with fail
  refine (atom_bad w1 _ ts k H1.out).mono ?_
  rintro e w2 ⟨hb, a, b, A2, n2, c2, rfl⟩
  have Y2 := Lib.hid ((hb.block _ (Array.getElem?_eq_some_iff.1 HY.out).1).trans HY.out)
  have Z2 := Lib.hid ((hb.block _ (Array.getElem?_eq_some_iff.1 HZ.out).1).trans HZ.out)
  have B2 := Lib.hid (bthen' HB.out hb)
  clear hb HX HY HZ HB H1 x0 x1 x2
  obtain ⟨y0, y1, y2, g0, g1, g2⟩ := three_cells Y2.out
  obtain ⟨z0, z1, z2, i0, i1, i2⟩ := three_cells Z2.out
  go_wp2_with fail
  refine bodyPost_ret (v := .tuple #[.agg #[.slice A ts.length c, .int .i64 k, .bool true], .agg #[.int .i64 a, .int .i64 b, .slice A2 n2 c2]]) (by simp [results, Tryz.results76, go_sem, y0, y1, y2, z0, z1, z2]) rfl ?_
  have q1 : w.heap.size ≤ w.heap.size + 1 := by omega
  have q2 : w.heap.size ≤ w.heap.size + 1 + 1 := by omega
  refine ⟨?_, a, b, A2, n2, c2, rfl⟩
  repeat (first | with_reducible exact B2.out | (with_reducible refine Below.drew ?_) | (with_reducible refine Below.setCell ?_ q1 _) | (with_reducible refine Below.setCell ?_ q2 _))
set_option maxRecDepth 100000 in
set_option maxHeartbeats 1000000 in
theorem level_bad1 (w : World) (v : Value) (ts : List Tok) (k n : Nat) (b3 : Bool) (h3 : ((n : Int) == 3) = b3) (hn : n ≤ 5) (h : Tk w v ts)
    (ih : ∀ W, Tk W v ts → Calls Tryz.prog 76 #[.agg #[v, .int .i64 k, .bool true], .int .i64 ((n : Int) + 1)] W (RfP v (.no k) W)) :
    Calls Tryz.prog 76 #[.agg #[v, .int .i64 k, .bool true], .int .i64 n] w (RfP v (.no k) w) := by
  have h' := h
  obtain ⟨A, c, rfl, _⟩ := h'.1
  have hl := h.2.1
  obtain ⟨hx, hy, hz, hb⟩ := boxes3 w (.cells #[.slice A ts.length c, .int .i64 k, .bool true] 76) (.cells #[.slice none 0 0, .int .i64 0, .bool false] 76) (.cells #[.int .i64 0, .int .i64 0, .slice none 0 0] 24)
  have H0 := Lib.hid h
  have H1 := Lib.hid (h.on hb)
  have HB := Lib.hid hb
  have HX := Lib.hid hx
  have HY := Lib.hid hy
  have HZ := Lib.hid hz
  have HI := Lib.hid ih
  have d5 : decide ((5 : Int) < (n : Int)) = false := by simp; omega
  clear h h' hb hx hy hz ih
  go_enter Tryz.func76, Tryz.ntmps76
  go_upto_region 1 with fail
  generalize ((w.alloc (.cells #[.slice A ts.length c, .int .i64 k, .bool true] 76)).alloc (.cells #[.slice none 0 0, .int .i64 0, .bool false] 76)).alloc (.cells #[.int .i64 0, .int .i64 0, .slice none 0 0] 24) = w1 at *
  obtain ⟨x0, x1, x2, _, _, _⟩ := three_cells HX.out
  go_wp2_with fail
  refine (is_any w1 _ ts k true [110, 111, 116] H1.out).mono ?_
  rintro e w2 ⟨rfl, hb⟩
  rw [isB_bad]
  have X2 := Lib.hid ((hb.block _ (Array.getElem?_eq_some_iff.1 HX.out).1).trans HX.out)
  have Y2 := Lib.hid ((hb.block _ (Array.getElem?_eq_some_iff.1 HY.out).1).trans HY.out)
  have Z2 := Lib.hid ((hb.block _ (Array.getElem?_eq_some_iff.1 HZ.out).1).trans HZ.out)
  have B2 := Lib.hid (bthen' HB.out hb)
  have H2 := Lib.hid (H1.out.on hb)
  clear hb HX HY HZ HB H1 x0 x1 x2
  obtain ⟨x0, x1, x2, f0, f1, f2⟩ := three_cells X2.out
  cases b3
  all_goals
    go_wp2_with fail
    refine (HI.out w2 H2.out).mono ?_
    rintro e w3 ⟨hb, a, b, A2, n2, c2, rfl⟩
    have X3 := Lib.hid ((hb.block _ (Array.getElem?_eq_some_iff.1 X2.out).1).trans X2.out)
    have Y3 := Lib.hid ((hb.block _ (Array.getElem?_eq_some_iff.1 Y2.out).1).trans Y2.out)
    have Z3 := Lib.hid ((hb.block _ (Array.getElem?_eq_some_iff.1 Z2.out).1).trans Z2.out)
    have B3 := Lib.hid (bthen' B2.out hb)
    have H3 := Lib.hid (H2.out.on hb)
    clear hb X2 Y2 Z2 B2 H2 x0 x1 x2 f0 f1 f2
    obtain ⟨x0, x1, x2, f0, f1, f2⟩ := three_cells X3.out
    have hlt : w.heap.size + 1 + 1 < w3.heap.size := (Array.getElem?_eq_some_iff.1 Z3.out).1
    obtain ⟨x0', x1', x2', f0', f1', f2'⟩ := three_cells (heap_on X3.out (.cells #[.int .i64 0, .int .i64 0, .slice none 0 0] 24))
    obtain ⟨n0, n1, n2', m0, m1, m2⟩ := three_cells (World.alloc_heap_new w3 (.cells #[.int .i64 0, .int .i64 0, .slice none 0 0] 24))
    have hne : w.heap.size ≠ w3.heap.size := by omega
    have hne' : w3.heap.size ≠ w.heap.size := by omega
    go_wp2_with fail
    have L4 := lv8 (v' := .slice A ts.length c) (k' := .int .i64 k) (b' := .bool true) (a' := .int .i64 a) (a2' := .int .i64 b) (a3' := .slice A2 n2 c2) X3.out B3.out
    have Y4 := (L4.far _ (by omega) (by omega)).trans Y3.out
    have Z4 := (L4.far _ (by omega) (by omega)).trans Z3.out
    have H4 := H0.out.on L4.below
    generalize ((((((w3.alloc (.cells #[.int .i64 0, .int .i64 0, .slice none 0 0] 24)).setCell ⟨w.heap.size, 0, none⟩ (.slice A ts.length c)).setCell ⟨w.heap.size, 1, none⟩ (.int .i64 k)).setCell ⟨w.heap.size, 2, none⟩ (.bool true)).setCell ⟨w3.heap.size, 0, none⟩ (.int .i64 a)).setCell ⟨w3.heap.size, 1, none⟩ (.int .i64 b)).setCell ⟨w3.heap.size, 2, none⟩ (.slice A2 n2 c2) = w4 at *
    have HL := Lib.hid L4
    have HN := Lib.hid L4.n
    have HY4 := Lib.hid Y4
    have HZ4 := Lib.hid Z4
    have HH4 := Lib.hid H4
    clear L4 Y4 Z4 H4 X3 Y3 Z3 B3 H3 x0 x1 x2 f0 f1 f2 x0' x1' x2' f0' f1' f2' n0 n1 n2' m0 m1 m2
    generalize w3.heap.size = b9 at *
    go_loopw [] (fun wr => wr = w4) (fun _ => 0)
    case atStart => rfl
    case round =>
      subst hrel
      obtain ⟨x0, x1, x2, _, _, _⟩ := three_cells HL.out.x
      go_wp2_with fail
      refine (op_bad wr _ ts k n HH4.out).mono ?_
      rintro e w5 ⟨rfl, hb⟩
      have X5 := (hb.block _ (Array.getElem?_eq_some_iff.1 HL.out.x).1).trans HL.out.x
      have N5 := (hb.block _ (Array.getElem?_eq_some_iff.1 HN.out).1).trans HN.out
      have Y5 := (hb.block _ (Array.getElem?_eq_some_iff.1 HY4.out).1).trans HY4.out
      have Z5 := (hb.block _ (Array.getElem?_eq_some_iff.1 HZ4.out).1).trans HZ4.out
      have B5 := Lib.hid (bthen' HL.out.below hb)
      clear hb HN HL HY4 HZ4 HH4 x0 x1 x2
      obtain ⟨x0, x1, x2, f0, f1, f2⟩ := three_cells X5
      obtain ⟨y0, y1, y2, g0, g1, g2⟩ := three_cells Y5
      obtain ⟨z0, z1, z2, i0, i1, i2⟩ := three_cells Z5
      obtain ⟨n0, n1, n2', m0, m1, m2⟩ := three_cells N5
      have hne1 : b9 ≠ w.heap.size + 1 := by omega
      have hne2 : b9 ≠ w.heap.size + 1 + 1 := by omega
      clear X5 Y5 Z5 N5
      go_upto_region 11 with fail
      go_region
      all_goals go_wp2_with fail
      all_goals
        refine bodyPost_ret (v := .tuple #[.agg #[.slice A ts.length c, .int .i64 k, .bool true], .agg #[.int .i64 a, .int .i64 b, .slice A2 n2 c2]]) (by simp [results, Tryz.results76, go_sem, y0, y1, y2, z0, z1, z2]) rfl ?_
        have q1 : w.heap.size ≤ w.heap.size + 1 := by omega
        have q2 : w.heap.size ≤ w.heap.size + 1 + 1 := by omega
        refine ⟨?_, a, b, A2, n2, c2, rfl⟩
        repeat (first | with_reducible exact B5.out | (with_reducible refine Below.drew ?_) | (with_reducible refine Below.setCell ?_ q1 _) | (with_reducible refine Below.setCell ?_ q2 _))
theorem level_bad (v : Value) (ts : List Tok) (k : Nat) : ∀ (d n : Nat), n + d = 6 → ∀ W, Tk W v ts → Calls Tryz.prog 76 #[.agg #[v, .int .i64 k, .bool true], .int .i64 n] W (RfP v (.no k) W) := by
  intro d
  induction d with
  | zero =>
    intro n hn W hW
    obtain rfl : n = 6 := by omega
    exact level_bad6 W v ts k hW
  | succ d ih =>
    intro n hn W hW
    refine level_bad1 W v ts k n _ rfl (by omega) hW fun W' hW' => ?_
    have := ih (n + 1) (by omega) W' hW'
    rwa [show (((n + 1 : Nat)) : Int) = (n : Int) + 1 by omega] at this
set_option maxRecDepth 100000 in
set_option maxHeartbeats 1000000 in
theorem expr_bad (w : World) (v : Value) (ts : List Tok) (k : Nat) (h : Tk w v ts) :
    Calls Tryz.prog 41 #[.agg #[v, .int .i64 k, .bool true]] w (RfP v (.no k) w) := by
  have h' := h
  obtain ⟨A, c, rfl, _⟩ := h'.1
  have hl := h.2.1
  obtain ⟨hx, hy, hz, hb⟩ := boxes3 w (.cells #[.slice A ts.length c, .int .i64 k, .bool true] 76) (.cells #[.slice none 0 0, .int .i64 0, .bool false] 76) (.cells #[.int .i64 0, .int .i64 0, .slice none 0 0] 24)
  have H1 := Lib.hid (h.on hb)
  have HB := Lib.hid hb
  have HX := Lib.hid hx
  have HY := Lib.hid hy
  have HZ := Lib.hid hz
  clear h h' hb hx hy hz
  go_enter Tryz.func41, Tryz.ntmps41
  go_upto_region 1 with fail
  generalize ((w.alloc (.cells #[.slice A ts.length c, .int .i64 k, .bool true] 76)).alloc (.cells #[.slice none 0 0, .int .i64 0, .bool false] 76)).alloc (.cells #[.int .i64 0, .int .i64 0, .slice none 0 0] 24) = w1 at *
  obtain ⟨x0, x1, x2, _, _, _⟩ := three_cells HX.out
  go_wp2_with fail
  refine (is_any w1 _ ts k true [105, 102] H1.out).mono ?_
  rintro e w2 ⟨rfl, hb⟩
  rw [isB_bad]
  have X2 := Lib.hid ((hb.block _ (Array.getElem?_eq_some_iff.1 HX.out).1).trans HX.out)
  have Y2 := Lib.hid ((hb.block _ (Array.getElem?_eq_some_iff.1 HY.out).1).trans HY.out)
  have Z2 := Lib.hid ((hb.block _ (Array.getElem?_eq_some_iff.1 HZ.out).1).trans HZ.out)
  have B2 := Lib.hid (bthen' HB.out hb)
  have H2 := Lib.hid (H1.out.on hb)
  clear hb HX HY HZ HB H1 x0 x1 x2
  obtain ⟨x0, x1, x2, f0, f1, f2⟩ := three_cells X2.out
  go_wp2_with fail
  refine (level_bad _ ts k 5 1 rfl w2 H2.out).mono ?_
  rintro e w3 ⟨hb, a, b, A2, n2, c2, rfl⟩
  have Y3 := Lib.hid ((hb.block _ (Array.getElem?_eq_some_iff.1 Y2.out).1).trans Y2.out)
  have Z3 := Lib.hid ((hb.block _ (Array.getElem?_eq_some_iff.1 Z2.out).1).trans Z2.out)
  have B3 := Lib.hid (bthen' B2.out hb)
  clear hb X2 Y2 Z2 B2 H2 x0 x1 x2 f0 f1 f2
  obtain ⟨y0, y1, y2, g0, g1, g2⟩ := three_cells Y3.out
  obtain ⟨z0, z1, z2, i0, i1, i2⟩ := three_cells Z3.out
  go_wp2_with fail
  refine bodyPost_ret (v := .tuple #[.agg #[.slice A ts.length c, .int .i64 k, .bool true], .agg #[.int .i64 a, .int .i64 b, .slice A2 n2 c2]]) (by simp [results, Tryz.results41, go_sem, y0, y1, y2, z0, z1, z2]) rfl ?_
  have q1 : w.heap.size ≤ w.heap.size + 1 := by omega
  have q2 : w.heap.size ≤ w.heap.size + 1 + 1 := by omega
  refine ⟨?_, a, b, A2, n2, c2, rfl⟩
  repeat (first | with_reducible exact B3.out | (with_reducible refine Below.drew ?_) | (with_reducible refine Below.setCell ?_ q1 _) | (with_reducible refine Below.setCell ?_ q2 _))
end Go.Proofs.YtomnjamldbficaaGreatDoor
namespace Go.Proofs.YtomnjamldbficaaGreatDoor
open Go.RowKit Lx Px
/-- where a parser stands behind an outcome, and whether it failed -/
def stO : Out → Nat × Bool
  | .ok _ j => (j, false)
  | .no j => (j, true)
def RfQ (v : Value) (o : Out) (w : World) (e : Ending) (w' : World) : Prop :=
  ∃ (a b : Int) (A : Option Addr) (n c : Nat), e = .returned (.tuple #[.agg #[v, .int .i64 ((stO o).1 : Nat), .bool (stO o).2], .agg #[.int .i64 a, .int .i64 b, .slice A n c]]) ∧ Below w.heap.size w w' ∧
    ∀ x j, o = .ok x j → a = x.1.1 ∧ b = x.1.2 ∧ n = flen x.2 ∧ FoD w' (fun b => w.heap.size ≤ b ∧ b < w'.heap.size) (.slice A n c) x.2
theorem RfP.q {v : Value} {o : Out} {w w' : World} {e : Ending} (h : RfP v o w e w') : RfQ v o w e w' := by
  obtain ⟨hb, h⟩ := h
  cases o with
  | ok x j =>
    obtain ⟨A, c, rfl, hF⟩ := h
    refine ⟨_, _, A, _, c, rfl, hb, fun x' j' e => ?_⟩
    injection e with e1 e2
    subst e1
    exact ⟨rfl, rfl, rfl, hF⟩
  | no j =>
    obtain ⟨a, b, A, n, c, rfl⟩ := h
    exact ⟨a, b, A, n, c, rfl, hb, fun x' j' e => by cases e⟩
theorem RfQ.p {v : Value} {o : Out} {w w' : World} {e : Ending} (h : RfQ v o w e w') : RfP v o w e w' := by
  obtain ⟨a, b, A, n, c, rfl, hb, hx⟩ := h
  refine ⟨hb, ?_⟩
  cases o with
  | ok x j =>
    obtain ⟨rfl, rfl, rfl, hF⟩ := hx x j rfl
    exact ⟨A, c, rfl, hF⟩
  | no j => exact ⟨a, b, A, n, c, rfl⟩
/-- expr from a parser on, failed or not -/
def xbO (ex : Nat → Out) (k : Nat) (bad : Bool) : Out := if bad then .no k else ex k
/-- a token that must follow -/
def mstO (ts : List Tok) (s : Bytes) (k : Nat) (f : Nat → Out) : Out := if nxt ts k = s then f (k + 1) else .no k
def bndO (o : Out) (f : Ex → Nat → Out) : Out := match o with
  | .ok e k => f e k
  | .no k => .no k
def twoO (ex : Nat → Out) (ts : List Tok) (op : Int) (k : Nat) : Out :=
  mstO ts [40] k fun j => bndO (ex j) fun a j => mstO ts [44] j fun j => bndO (ex j) fun b j => mstO ts [41] j fun j => .ok (pairE op a b) j
def brkO (ex : Nat → Out) (ts : List Tok) (k : Nat) : Out := mstO ts [40] k fun j => bndO (ex j) fun a j => mstO ts [41] j fun j => .ok a j
theorem isB_nxt {ts : List Tok} {k : Nat} {s : Bytes} (hs : s ≠ []) : isB ts k false s = decide (nxt ts k = s) := by
  by_cases hk : k < ts.length
  · rw [isB_at hk, nxt_at ts k hk]; rw [Bool.eq_iff_iff]; simp
  · rw [isB_end hk, nxt_end ts k hk]; simp [Ne.symm hs]
/-- the tree of an outcome -/
def treO : Out → Ex
  | .ok x _ => x
  | .no _ => ((0, 0), .nil)
/-- the state behind a token that must follow -/
def musS (ts : List Tok) (s : Bytes) (p : Nat × Bool) : Nat × Bool := (musK ts p.1 p.2 s, !isB ts p.1 p.2 s)
theorem musS_bad (ts : List Tok) (s : Bytes) (k : Nat) : musS ts s (k, true) = (k, true) := rfl
theorem musS_yes {ts : List Tok} {s : Bytes} {k : Nat} (hs : s ≠ []) (h : nxt ts k = s) : musS ts s (k, false) = (k + 1, false) := by
  simp [musS, musK, isB_nxt hs, h]
theorem musS_no {ts : List Tok} {s : Bytes} {k : Nat} (hs : s ≠ []) (h : nxt ts k ≠ s) : musS ts s (k, false) = (k, true) := by
  simp [musS, musK, isB_nxt hs, h]
theorem two_eq (ex : Nat → Out) (ts : List Tok) (op : Int) (k : Nat) {p1 p2 p3 : Nat × Bool} {o1 o2 : Out} (h1 : p1 = musS ts [40] (k, false)) (h2 : o1 = xbO ex p1.1 p1.2) (h3 : p2 = musS ts [44] (stO o1)) (h4 : o2 = xbO ex p2.1 p2.2) (h5 : p3 = musS ts [41] (stO o2)) :
    twoO ex ts op k = if p3.2 then .no p3.1 else .ok (pairE op (treO o1) (treO o2)) p3.1 := by
  unfold twoO mstO
  dsimp only
  by_cases a1 : nxt ts k = [40]
  · rw [musS_yes (by decide) a1] at h1
    subst h1
    rw [if_pos a1]
    simp only [xbO] at h2
    rw [if_neg (by decide)] at h2
    rw [← h2]
    cases o1 with
    | no j =>
      have e2 : p2 = (j, true) := h3
      subst e2
      have e4 : o2 = .no j := h4
      subst e4
      have e5 : p3 = (j, true) := h5
      subst e5
      rfl
    | ok a j =>
      simp only [bndO]
      by_cases a2 : nxt ts j = [44]
      · have e2 : p2 = (j + 1, false) := by rw [h3]; exact musS_yes (by decide) a2
        subst e2
        rw [if_pos a2]
        simp only [xbO] at h4
        rw [if_neg (by decide)] at h4
        rw [← h4]
        cases o2 with
        | no j2 =>
          have e5 : p3 = (j2, true) := h5
          subst e5
          rfl
        | ok b j2 =>
          by_cases a3 : nxt ts j2 = [41]
          · have e5 : p3 = (j2 + 1, false) := by rw [h5]; exact musS_yes (by decide) a3
            subst e5
            dsimp only
            rw [if_pos a3]
            rfl
          · have e5 : p3 = (j2, true) := by rw [h5]; exact musS_no (by decide) a3
            subst e5
            dsimp only
            rw [if_neg a3]
            rfl
      · have e2 : p2 = (j, true) := by rw [h3]; exact musS_no (by decide) a2
        subst e2
        have e4 : o2 = .no j := h4
        subst e4
        have e5 : p3 = (j, true) := h5
        subst e5
        rw [if_neg a2]
        rfl
  · rw [musS_no (by decide) a1] at h1
    subst h1
    have e2 : o1 = .no k := h2
    subst e2
    have e3 : p2 = (k, true) := h3
    subst e3
    have e4 : o2 = .no k := h4
    subst e4
    have e5 : p3 = (k, true) := h5
    subst e5
    rw [if_neg a1]
    rfl
theorem brk_eq (ex : Nat → Out) (ts : List Tok) (k : Nat) {p2 : Nat × Bool} {o1 : Out} (hk : nxt ts k = [40]) (h2 : o1 = ex (k + 1)) (h3 : p2 = musS ts [41] (stO o1)) :
    brkO ex ts k = if p2.2 then .no p2.1 else .ok (treO o1) p2.1 := by
  unfold brkO mstO
  dsimp only
  rw [if_pos hk, ← h2]
  cases o1 with
  | no j =>
    have e2 : p2 = (j, true) := h3
    subst e2
    rfl
  | ok a j =>
    simp only [bndO]
    by_cases a2 : nxt ts j = [41]
    · have e2 : p2 = (j + 1, false) := by rw [h3]; exact musS_yes (by decide) a2
      subst e2
      rw [if_pos a2]
      rfl
    · have e2 : p2 = (j, true) := by rw [h3]; exact musS_no (by decide) a2
      subst e2
      rw [if_neg a2]
      rfl
end Go.Proofs.YtomnjamldbficaaGreatDoor
