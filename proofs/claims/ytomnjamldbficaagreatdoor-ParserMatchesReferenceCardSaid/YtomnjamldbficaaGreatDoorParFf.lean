/-
  Several texts in one: ParFa, ParFb, ParFc, ParFd, ParFe, ParFf.
-/
import Derived.Test.YtomnjamldbficaaGreatDoorParF9
namespace Go.Proofs.YtomnjamldbficaaGreatDoor
open Go.RowKit Lx Px
theorem must_q (w : World) (v : Value) (ts : List Tok) (p : Nat × Bool) (s : Bytes) (h : Tk w v ts) (hk : p.1 ≤ 1000000) :
    Calls Tryz.prog 77 #[.agg #[v, .int .i64 (p.1 : Nat), .bool p.2], .string (mk s)] w fun e w' => e = .returned (.agg #[v, .int .i64 ((musS ts s p).1 : Nat), .bool (musS ts s p).2]) ∧ Below w.heap.size w w' := must_any w v ts p.1 p.2 s h hk
theorem xb_any (w : World) (v : Value) (ts : List Tok) (ex : Nat → Out) (p : Nat × Bool) (h : Tk w v ts) (hx : p.2 = false → ∀ W, Tk W v ts → Calls Tryz.prog 41 #[.agg #[v, .int .i64 (p.1 : Nat), .bool false]] W (RfP v (ex p.1) W)) :
    Calls Tryz.prog 41 #[.agg #[v, .int .i64 (p.1 : Nat), .bool p.2]] w (RfQ v (xbO ex p.1 p.2) w) := by
  obtain ⟨k, b⟩ := p
  cases b with
  | true => exact (expr_bad w v ts k h).mono fun _ _ => RfP.q
  | false => exact (hx rfl w h).mono fun _ _ => RfP.q
/-- the boxes that a reading function makes first: the parser, and the results -/
structure Bq (w : World) (v : Value) (p : Nat × Bool) (W : World) : Prop where
  x : W.heap[w.heap.size]? = some (.cells #[v, .int .i64 (p.1 : Nat), .bool p.2] 76 (0, 0))
  y : W.heap[w.heap.size + 1]? = some (.cells #[.slice none 0 0, .int .i64 0, .bool false] 76 (0, 0))
  z : W.heap[w.heap.size + 1 + 1]? = some (.cells #[.int .i64 0, .int .i64 0, .slice none 0 0] 24 (0, 0))
  b : Below w.heap.size w W
theorem Bq.lt {w W : World} {v : Value} {p : Nat × Bool} (h : Bq w v p W) : w.heap.size + 1 + 1 < W.heap.size := (Array.getElem?_eq_some_iff.1 h.z).1
theorem Bq.on {w W W' : World} {v : Value} {p : Nat × Bool} (h : Bq w v p W) (hb : Below W.heap.size W W') : Bq w v p W' := by
  have := h.lt
  exact ⟨(hb.block _ (by omega)).trans h.x, (hb.block _ (by omega)).trans h.y, (hb.block _ (by omega)).trans h.z, bthen' h.b hb⟩
theorem Bq.set {w W : World} {v : Value} {p : Nat × Bool} (h : Bq w v p W) (q : Nat × Bool) : Bq w v q (((W.setCell ⟨w.heap.size, 0, none⟩ v).setCell ⟨w.heap.size, 1, none⟩ (.int .i64 (q.1 : Nat))).setCell ⟨w.heap.size, 2, none⟩ (.bool q.2)) :=
  ⟨heap_set3 h.x, (heap_far3 (by omega) _ _ _).trans h.y, (heap_far3 (by omega) _ _ _).trans h.z,
    ((h.b.setCell (p := ⟨w.heap.size, 0, none⟩) (Nat.le_refl _) _).setCell (p := ⟨w.heap.size, 1, none⟩) (Nat.le_refl _) _).setCell (p := ⟨w.heap.size, 2, none⟩) (Nat.le_refl _) _⟩
theorem Bq.lv {w w3 W : World} {v : Value} {p q : Nat × Bool} {a' a2' a3' : Value} (h : Bq w v p w3) (hl : Lv8 w w3 W v (.int .i64 (q.1 : Nat)) (.bool q.2) a' a2' a3') : Bq w v q W := by
  have := h.lt
  exact ⟨hl.x, (hl.far _ (by omega) (by omega)).trans h.y, (hl.far _ (by omega) (by omega)).trans h.z, hl.below⟩
theorem Bq.inc {w W : World} {v : Value} {k : Nat} {b : Bool} (h : Bq w v (k, b) W) : Bq w v (k + 1, b) (W.setCell ⟨w.heap.size, 1, none⟩ (.int .i64 ((k : Int) + 1))) := by
  have hc : ((k + 1 : Nat) : Int) = (k : Int) + 1 := by omega
  refine ⟨?_, (Below.heap_setCell _ _ _ _ (by show w.heap.size + 1 ≠ w.heap.size; omega)).trans h.y, (Below.heap_setCell _ _ _ _ (by show w.heap.size + 1 + 1 ≠ w.heap.size; omega)).trans h.z, h.b.setCell (p := ⟨w.heap.size, 1, none⟩) (Nat.le_refl _) _⟩
  show _ = some (Obj.cells #[v, .int .i64 ((k + 1 : Nat) : Int), .bool b] 76 (0, 0))
  rw [hc]; exact heap_set1 h.x
theorem musS_le {ts : List Tok} {s : Bytes} {p : Nat × Bool} (h : p.1 ≤ ts.length) : p.1 ≤ (musS ts s p).1 ∧ (musS ts s p).1 ≤ ts.length := by
  obtain ⟨k, b⟩ := p
  simp only [musS, musK]
  cases b with
  | true => rw [isB_bad]; exact ⟨Nat.le_refl _, h⟩
  | false =>
    by_cases hk : k < ts.length
    · split <;> omega
    · rw [isB_end hk]; exact ⟨Nat.le_refl _, h⟩
theorem xbO_le {ts : List Tok} {ex : Nat → Out} {p : Nat × Bool} (h : p.1 ≤ ts.length) (hx : p.2 = false → okK ts p.1 (ex p.1)) : p.1 ≤ (stO (xbO ex p.1 p.2)).1 ∧ (stO (xbO ex p.1 p.2)).1 ≤ ts.length := by
  obtain ⟨k, b⟩ := p
  cases b with
  | true => exact ⟨Nat.le_refl _, h⟩
  | false =>
    have := hx rfl
    show k ≤ (stO (ex k)).1 ∧ _
    simp only [xbO, Bool.false_eq_true, if_false]
    cases hex : ex k with
    | ok x j => rw [hex] at this; exact ⟨by have := this.1; simp only [stO]; omega, this.2⟩
    | no j => rw [hex] at this; exact ⟨this.1, this.2⟩
theorem Bq.new (w : World) (v : Value) (k : Nat) (bad : Bool) : Bq w v (k, bad) (((w.alloc (.cells #[v, .int .i64 k, .bool bad] 76)).alloc (.cells #[.slice none 0 0, .int .i64 0, .bool false] 76)).alloc (.cells #[.int .i64 0, .int .i64 0, .slice none 0 0] 24)) := by
  obtain ⟨hx, hy, hz, hb⟩ := boxes3 w (.cells #[v, .int .i64 k, .bool bad] 76) (.cells #[.slice none 0 0, .int .i64 0, .bool false] 76) (.cells #[.int .i64 0, .int .i64 0, .slice none 0 0] 24)
  exact ⟨hx, hy, hz, hb⟩
/-- both trees are there, if the parser did not fail -/
theorem two_ok {ts : List Tok} {ex : Nat → Out} {p1 p2 p3 s1 s2 : Nat × Bool} {o1 o2 : Out} (h2 : o1 = xbO ex p1.1 p1.2) (e1 : s1 = stO o1) (h3 : p2 = musS ts [44] s1) (h4 : o2 = xbO ex p2.1 p2.2) (e2 : s2 = stO o2) (h5 : p3 = musS ts [41] s2) (hf : p3.2 = false) : (∃ x j, o1 = .ok x j) ∧ ∃ x j, o2 = .ok x j := by
  cases o2 with
  | no j2 =>
    have : p3 = (j2, true) := by rw [h5, e2]; rfl
    rw [this] at hf; cases hf
  | ok x2 j2 =>
    refine ⟨?_, x2, j2, rfl⟩
    cases o1 with
    | ok x1 j1 => exact ⟨x1, j1, rfl⟩
    | no j1 =>
      have : p2 = (j1, true) := by rw [h3, e1]; rfl
      rw [this] at h4
      have h4' : Out.ok x2 j2 = .no j1 := h4
      cases h4'
theorem two_fin {w W : World} {v : Value} {r o1 o2 : Out} {p3 : Nat × Bool} {op a1 a2 a3 a4 : Int} {A1 A2 : Option Addr} {n1 c1 n2 c2 g : Nat} (hr : r = if p3.2 then .no p3.1 else .ok (pairE op (treO o1) (treO o2)) p3.1)
    (hok : p3.2 = false → (∃ x j, o1 = .ok x j) ∧ ∃ x j, o2 = .ok x j) (hb : Below w.heap.size w W) (hg : w.heap.size ≤ g) (hgx : W.heap[g]? = some (.cells #[.int .i64 a1, .int .i64 a2, .slice A1 n1 c1, .int .i64 a3, .int .i64 a4, .slice A2 n2 c2] 24 (0, 0)))
    (t1 : ∀ x j, o1 = .ok x j → a1 = x.1.1 ∧ a2 = x.1.2 ∧ n1 = flen x.2 ∧ FoD W (fun b => w.heap.size ≤ b ∧ b < W.heap.size) (.slice A1 n1 c1) x.2) (t2 : ∀ x j, o2 = .ok x j → a3 = x.1.1 ∧ a4 = x.1.2 ∧ n2 = flen x.2 ∧ FoD W (fun b => w.heap.size ≤ b ∧ b < W.heap.size) (.slice A2 n2 c2) x.2) :
    RfP v r w (.returned (.tuple #[.agg #[v, .int .i64 (p3.1 : Nat), .bool p3.2], .agg #[.int .i64 op, .int .i64 0, .slice (some ⟨g, 0, none⟩) 2 2]])) W := by
  obtain ⟨j3, f3⟩ := p3
  cases f3 with
  | true =>
    rw [hr]
    exact ⟨hb, op, 0, some ⟨g, 0, none⟩, 2, 2, rfl⟩
  | false =>
    obtain ⟨⟨x1, j1, rfl⟩, x2, j2, rfl⟩ := hok rfl
    obtain ⟨rfl, rfl, rfl, d1⟩ := t1 x1 j1 rfl
    obtain ⟨rfl, rfl, rfl, d2⟩ := t2 x2 j2 rfl
    rw [hr]
    exact ⟨hb, some ⟨g, 0, none⟩, 2, rfl, FoD.two (D := fun b => w.heap.size ≤ b ∧ b < W.heap.size) ⟨hg, (Array.getElem?_eq_some_iff.1 hgx).1⟩ hgx d1 d2 2⟩
set_option maxRecDepth 100000 in
set_option maxHeartbeats 2000000 in
theorem two8_any (w : World) (v : Value) (ts : List Tok) (ex : Nat → Out) (k : Nat) (op : Int) (hk : k < ts.length) (h : Tk w v ts)
    (hx : ∀ k', k < k' → k' ≤ ts.length → okK ts k' (ex k') ∧ ∀ W, Tk W v ts → Calls Tryz.prog 41 #[.agg #[v, .int .i64 (k' : Nat), .bool false]] W (RfP v (ex k') W)) :
    Calls Tryz.prog 139 #[.agg #[v, .int .i64 k, .bool false], .int .i64 op] w (RfP v (twoO ex ts op (k + 1)) w) := by
  have h' := h
  obtain ⟨A, c, rfl, _⟩ := h'.1
  have hl := h.2.1
  have H0 := Lib.hid h
  have HB := Lib.hid (Bq.new w (.slice A ts.length c) k false)
  have HX := Lib.hid hx
  clear h h' hx
  go_enter Tryz.func139, Tryz.ntmps139
  go_upto_region 1 with fail
  generalize ((w.alloc (.cells #[.slice A ts.length c, .int .i64 k, .bool false] 76)).alloc (.cells #[.slice none 0 0, .int .i64 0, .bool false] 76)).alloc (.cells #[.int .i64 0, .int .i64 0, .slice none 0 0] 24) = w1 at *
  obtain ⟨x0, x1, x2, f0, f1, f2⟩ := three_cells HB.out.x
  go_upto_region 2 with fail
  have B2 := Lib.hid HB.out.inc
  have hk1 : k + 1 ≤ ts.length := by omega
  have hkk : k < k + 1 := by omega
  have h2e := fun p1 p2 p3 o1 o2 => two_eq ex ts op (k + 1) (p1 := p1) (p2 := p2) (p3 := p3) (o1 := o1) (o2 := o2)
  have HE := Lib.hid h2e
  clear HB x0 x1 x2 f0 f1 f2 h2e
  generalize w1.setCell ⟨w.heap.size, 1, none⟩ (.int .i64 ((k : Int) + 1)) = w2 at *
  obtain ⟨k1, hk1e⟩ : ∃ k1, k1 = k + 1 := ⟨_, rfl⟩
  have HK := Lib.hid hk1e
  rw [← hk1e] at B2 hk1 hkk
  obtain ⟨p1, hp1⟩ : ∃ p, p = musS ts [40] (k1, false) := ⟨_, rfl⟩
  have hp1l := musS_le (ts := ts) (s := [40]) (p := (k1, false)) hk1
  rw [← hp1] at hp1l
  have hm1 : ∀ W, Tk W (.slice A ts.length c) ts → Calls Tryz.prog 77 #[.agg #[(.slice A ts.length c), .int .i64 k1, .bool false], .string ⟨#[40]⟩] W fun e w' => e = .returned (.agg #[(.slice A ts.length c), .int .i64 (p1.1 : Nat), .bool p1.2]) ∧ Below W.heap.size W w' := fun W hW => by
    rw [hp1]; exact must_q W _ ts (k1, false) [40] hW (by show k1 ≤ _; omega)
  have HM1 := Lib.hid hm1
  have HP1 := Lib.hid hp1
  clear hk1e hp1 hm1
  obtain ⟨x0, x1, x2, f0, f1, f2⟩ := three_cells B2.out.x
  go_wp2_with fail
  refine (HM1.out w2 (H0.out.on B2.out.b)).mono ?_
  rintro e w3 ⟨rfl, hb⟩
  have B3 := Lib.hid (B2.out.on hb)
  clear hb B2 HM1 x0 x1 x2 f0 f1 f2
  obtain ⟨x0, x1, x2, f0, f1, f2⟩ := three_cells B3.out.x
  go_upto_region 3 with fail
  have B4 := Lib.hid (B3.out.set p1)
  clear B3 x0 x1 x2 f0 f1 f2
  generalize (((w3.setCell ⟨w.heap.size, 0, none⟩ (.slice A ts.length c)).setCell ⟨w.heap.size, 1, none⟩ (.int .i64 (p1.1 : Nat))).setCell ⟨w.heap.size, 2, none⟩ (.bool p1.2)) = w4 at *
  obtain ⟨o1, ho1⟩ : ∃ o, o = xbO ex p1.1 p1.2 := ⟨_, rfl⟩
  have ho1l := xbO_le (ts := ts) (ex := ex) (p := p1) hp1l.2 (fun _ => (HX.out p1.1 (by have : k1 ≤ p1.1 := hp1l.1; omega) hp1l.2).1)
  have hc1 := fun W (hW : Tk W (.slice A ts.length c) ts) => xb_any W _ ts ex p1 hW (fun _ => (HX.out p1.1 (by have : k1 ≤ p1.1 := hp1l.1; omega) hp1l.2).2)
  rw [← ho1] at ho1l hc1
  have HO1 := Lib.hid ho1
  have HC1 := Lib.hid hc1
  obtain ⟨l1a, l1b⟩ := hp1l
  obtain ⟨l2a, l2b⟩ := ho1l
  have l1a' : k1 ≤ p1.1 := l1a
  clear l1a
  clear ho1 hc1
  obtain ⟨x0, x1, x2, f0, f1, f2⟩ := three_cells B4.out.x
  go_wp2_with fail
  refine (HC1.out w4 (H0.out.on B4.out.b)).mono ?_
  rintro e w5 ⟨a1, a2, A1, n1, c1, rfl, hb, ht1⟩
  have B5 := Lib.hid (B4.out.on hb)
  have hw4 : w.heap.size + 1 + 1 < w4.heap.size := B4.out.lt
  have HW4 := Lib.hid hw4
  clear HC1 B4 x0 x1 x2 f0 f1 f2 hw4
  obtain ⟨x0, x1, x2, f0, f1, f2⟩ := three_cells B5.out.x
  obtain ⟨x0', x1', x2', f0', f1', f2'⟩ := three_cells (heap_on B5.out.x (.cells #[.int .i64 0, .int .i64 0, .slice none 0 0] 24))
  obtain ⟨y0, y1, y2, g0, g1, g2⟩ := three_cells (World.alloc_heap_new w5 (.cells #[.int .i64 0, .int .i64 0, .slice none 0 0] 24))
  have hlt := B5.out.lt
  have hne : w.heap.size ≠ w5.heap.size := by omega
  have hne' : w5.heap.size ≠ w.heap.size := by omega
  have HT1 := Lib.hid ht1
  have HB5 := Lib.hid hb
  obtain ⟨s1, hs1⟩ : ∃ s, s = stO o1 := ⟨_, rfl⟩
  have HS1 := Lib.hid hs1
  rw [← hs1] at l2a l2b
  rw [← hs1]
  clear ht1 hb hs1
  go_upto_region 4 with fail
  have L5 := lv8 (v' := (.slice A ts.length c)) (k' := .int .i64 (s1.1 : Nat)) (b' := .bool s1.2) (a' := .int .i64 a1) (a2' := .int .i64 a2) (a3' := .slice A1 n1 c1) B5.out.x B5.out.b
  have hw4 : w.heap.size + 1 + 1 < w4.heap.size := HW4.out
  have T6 : ∀ x j, o1 = .ok x j → a1 = x.1.1 ∧ a2 = x.1.2 ∧ n1 = flen x.2 ∧ FoD (((((((w5.alloc (.cells #[.int .i64 0, .int .i64 0, .slice none 0 0] 24)).setCell ⟨w.heap.size, 0, none⟩ (.slice A ts.length c)).setCell ⟨w.heap.size, 1, none⟩ (.int .i64 (s1.1 : Nat))).setCell ⟨w.heap.size, 2, none⟩ (.bool s1.2)).setCell ⟨w5.heap.size, 0, none⟩ (.int .i64 a1)).setCell ⟨w5.heap.size, 1, none⟩ (.int .i64 a2)).setCell ⟨w5.heap.size, 2, none⟩ (.slice A1 n1 c1)) (fun b => w.heap.size + 1 + 1 < b ∧ b < w5.heap.size) (.slice A1 n1 c1) x.2 := fun x j e => by
    obtain ⟨e1, e2, e3, e4⟩ := HT1.out x j e
    exact ⟨e1, e2, e3, e4.keep (fun b hb => ⟨by have := hb.1; omega, hb.2⟩) (fun b hb => L5.far b hb.2 (by have := hb.1; omega))⟩
  have hz6 : w5.heap.size < (((((((w5.alloc (.cells #[.int .i64 0, .int .i64 0, .slice none 0 0] 24)).setCell ⟨w.heap.size, 0, none⟩ (.slice A ts.length c)).setCell ⟨w.heap.size, 1, none⟩ (.int .i64 (s1.1 : Nat))).setCell ⟨w.heap.size, 2, none⟩ (.bool s1.2)).setCell ⟨w5.heap.size, 0, none⟩ (.int .i64 a1)).setCell ⟨w5.heap.size, 1, none⟩ (.int .i64 a2)).setCell ⟨w5.heap.size, 2, none⟩ (.slice A1 n1 c1)).heap.size := by rw [L5.size]; omega
  generalize (((((((w5.alloc (.cells #[.int .i64 0, .int .i64 0, .slice none 0 0] 24)).setCell ⟨w.heap.size, 0, none⟩ (.slice A ts.length c)).setCell ⟨w.heap.size, 1, none⟩ (.int .i64 (s1.1 : Nat))).setCell ⟨w.heap.size, 2, none⟩ (.bool s1.2)).setCell ⟨w5.heap.size, 0, none⟩ (.int .i64 a1)).setCell ⟨w5.heap.size, 1, none⟩ (.int .i64 a2)).setCell ⟨w5.heap.size, 2, none⟩ (.slice A1 n1 c1)) = w6 at *
  have B6 := Lib.hid (B5.out.lv (q := s1) L5)
  have N6 := L5.n
  clear L5 HT1 HB5 HW4 hw4 B5 x0 x1 x2 f0 f1 f2 x0' x1' x2' f0' f1' f2' y0 y1 y2 g0 g1 g2 hne hne'
  generalize w5.heap.size = b6 at *
  have HN6 := Lib.hid N6
  have HT6 := Lib.hid T6
  clear N6 T6
  obtain ⟨p2, hp2⟩ : ∃ p, p = musS ts [44] s1 := ⟨_, rfl⟩
  have hp2l := musS_le (ts := ts) (s := [44]) (p := s1) l2b
  rw [← hp2] at hp2l
  have hm2 : ∀ W, Tk W (.slice A ts.length c) ts → Calls Tryz.prog 77 #[.agg #[(.slice A ts.length c), .int .i64 (s1.1 : Nat), .bool s1.2], .string ⟨#[44]⟩] W fun e w' => e = .returned (.agg #[(.slice A ts.length c), .int .i64 (p2.1 : Nat), .bool p2.2]) ∧ Below W.heap.size W w' := fun W hW => by
    rw [hp2]; exact must_q W _ ts s1 [44] hW (by omega)
  have HM2 := Lib.hid hm2
  have HP2 := Lib.hid hp2
  clear hp2 hm2
  obtain ⟨x0, x1, x2, f0, f1, f2⟩ := three_cells B6.out.x
  go_wp2_with fail
  refine (HM2.out w6 (H0.out.on B6.out.b)).mono ?_
  rintro e w7 ⟨rfl, hb⟩
  have B7 := Lib.hid (B6.out.on hb)
  have HB7 := Lib.hid hb
  clear hb HM2 x0 x1 x2 f0 f1 f2
  obtain ⟨x0, x1, x2, f0, f1, f2⟩ := three_cells B7.out.x
  go_upto_region 5 with fail
  have B8 := Lib.hid (B7.out.set p2)
  have hlt8 := B6.out.lt
  have N8 : (((w7.setCell ⟨w.heap.size, 0, none⟩ (.slice A ts.length c)).setCell ⟨w.heap.size, 1, none⟩ (.int .i64 (p2.1 : Nat))).setCell ⟨w.heap.size, 2, none⟩ (.bool p2.2)).heap[b6]? = some (.cells #[.int .i64 a1, .int .i64 a2, .slice A1 n1 c1] 24 (0, 0)) := (heap_far3 (by omega) _ _ _).trans ((HB7.out.block _ hz6).trans HN6.out)
  have T8 : ∀ x j, o1 = .ok x j → a1 = x.1.1 ∧ a2 = x.1.2 ∧ n1 = flen x.2 ∧ FoD (((w7.setCell ⟨w.heap.size, 0, none⟩ (.slice A ts.length c)).setCell ⟨w.heap.size, 1, none⟩ (.int .i64 (p2.1 : Nat))).setCell ⟨w.heap.size, 2, none⟩ (.bool p2.2)) (fun b => w.heap.size + 1 + 1 < b ∧ b < b6) (.slice A1 n1 c1) x.2 := fun x j e => by
    obtain ⟨e1, e2, e3, e4⟩ := HT6.out x j e
    exact ⟨e1, e2, e3, e4.keep (fun b hb => hb) (fun b hb => (heap_far3 (by have := hb.1; omega) _ _ _).trans (HB7.out.block b (by have := hb.2; omega)))⟩
  have hz8 : b6 < (((w7.setCell ⟨w.heap.size, 0, none⟩ (.slice A ts.length c)).setCell ⟨w.heap.size, 1, none⟩ (.int .i64 (p2.1 : Nat))).setCell ⟨w.heap.size, 2, none⟩ (.bool p2.2)).heap.size := by rw [size_set3]; have := HB7.out.size; omega
  have HN8 := Lib.hid N8
  have HT8 := Lib.hid T8
  clear B6 B7 HB7 HN6 HT6 N8 T8 x0 x1 x2 f0 f1 f2 hz6 hlt8
  generalize (((w7.setCell ⟨w.heap.size, 0, none⟩ (.slice A ts.length c)).setCell ⟨w.heap.size, 1, none⟩ (.int .i64 (p2.1 : Nat))).setCell ⟨w.heap.size, 2, none⟩ (.bool p2.2)) = w8 at *
  obtain ⟨o2, ho2⟩ : ∃ o, o = xbO ex p2.1 p2.2 := ⟨_, rfl⟩
  have ho2l := xbO_le (ts := ts) (ex := ex) (p := p2) hp2l.2 (fun _ => (HX.out p2.1 (by have : s1.1 ≤ p2.1 := hp2l.1; omega) hp2l.2).1)
  have hc2 := fun W (hW : Tk W (.slice A ts.length c) ts) => xb_any W _ ts ex p2 hW (fun _ => (HX.out p2.1 (by have : s1.1 ≤ p2.1 := hp2l.1; omega) hp2l.2).2)
  rw [← ho2] at ho2l hc2
  have HO2 := Lib.hid ho2
  have HC2 := Lib.hid hc2
  obtain ⟨l3a, l3b⟩ := hp2l
  obtain ⟨l4a, l4b⟩ := ho2l
  clear ho2 hc2
  obtain ⟨x0, x1, x2, f0, f1, f2⟩ := three_cells B8.out.x
  go_wp2_with fail
  refine (HC2.out w8 (H0.out.on B8.out.b)).mono ?_
  rintro e w9 ⟨a3, a4, A2, n2, c2, rfl, hb, ht2⟩
  have B9 := Lib.hid (B8.out.on hb)
  have HB9 := Lib.hid hb
  have hw8 : w.heap.size + 1 + 1 < w8.heap.size := B8.out.lt
  clear HC2 B8 x0 x1 x2 f0 f1 f2
  obtain ⟨x0, x1, x2, f0, f1, f2⟩ := three_cells B9.out.x
  obtain ⟨x0', x1', x2', f0', f1', f2'⟩ := three_cells (heap_on B9.out.x (.cells #[.int .i64 0, .int .i64 0, .slice none 0 0] 24))
  obtain ⟨y0, y1, y2, g0, g1, g2⟩ := three_cells (World.alloc_heap_new w9 (.cells #[.int .i64 0, .int .i64 0, .slice none 0 0] 24))
  have hlt9 := B9.out.lt
  have hne : w.heap.size ≠ w9.heap.size := by omega
  have hne' : w9.heap.size ≠ w.heap.size := by omega
  have HT2 := Lib.hid ht2
  obtain ⟨s2, hs2⟩ : ∃ s, s = stO o2 := ⟨_, rfl⟩
  have HS2 := Lib.hid hs2
  rw [← hs2] at l4a l4b
  rw [← hs2]
  clear ht2 hb hs2
  go_upto_region 6 with fail
  have L9 := lv8 (v' := (.slice A ts.length c)) (k' := .int .i64 (s2.1 : Nat)) (b' := .bool s2.2) (a' := .int .i64 a3) (a2' := .int .i64 a4) (a3' := .slice A2 n2 c2) B9.out.x B9.out.b
  have hs9 := HB9.out.size
  have T10 : ∀ x j, o2 = .ok x j → a3 = x.1.1 ∧ a4 = x.1.2 ∧ n2 = flen x.2 ∧ FoD (((((((w9.alloc (.cells #[.int .i64 0, .int .i64 0, .slice none 0 0] 24)).setCell ⟨w.heap.size, 0, none⟩ (.slice A ts.length c)).setCell ⟨w.heap.size, 1, none⟩ (.int .i64 (s2.1 : Nat))).setCell ⟨w.heap.size, 2, none⟩ (.bool s2.2)).setCell ⟨w9.heap.size, 0, none⟩ (.int .i64 a3)).setCell ⟨w9.heap.size, 1, none⟩ (.int .i64 a4)).setCell ⟨w9.heap.size, 2, none⟩ (.slice A2 n2 c2)) (fun b => w.heap.size + 1 + 1 < b ∧ b < w9.heap.size) (.slice A2 n2 c2) x.2 := fun x j e => by
    obtain ⟨e1, e2, e3, e4⟩ := HT2.out x j e
    exact ⟨e1, e2, e3, e4.keep (fun b hb => ⟨by have := hb.1; omega, hb.2⟩) (fun b hb => L9.far b hb.2 (by have := hb.1; omega))⟩
  have U10 : ∀ x j, o1 = .ok x j → a1 = x.1.1 ∧ a2 = x.1.2 ∧ n1 = flen x.2 ∧ FoD (((((((w9.alloc (.cells #[.int .i64 0, .int .i64 0, .slice none 0 0] 24)).setCell ⟨w.heap.size, 0, none⟩ (.slice A ts.length c)).setCell ⟨w.heap.size, 1, none⟩ (.int .i64 (s2.1 : Nat))).setCell ⟨w.heap.size, 2, none⟩ (.bool s2.2)).setCell ⟨w9.heap.size, 0, none⟩ (.int .i64 a3)).setCell ⟨w9.heap.size, 1, none⟩ (.int .i64 a4)).setCell ⟨w9.heap.size, 2, none⟩ (.slice A2 n2 c2)) (fun b => w.heap.size + 1 + 1 < b ∧ b < b6) (.slice A1 n1 c1) x.2 := fun x j e => by
    obtain ⟨e1, e2, e3, e4⟩ := HT8.out x j e
    exact ⟨e1, e2, e3, e4.keep (fun b hb => hb) (fun b hb => (L9.far b (by have := hb.2; omega) (by have := hb.1; omega)).trans (HB9.out.block b (by have := hb.2; omega)))⟩
  have N10 := (L9.far b6 (by omega) (by omega)).trans ((HB9.out.block _ hz8).trans HN8.out)
  have hz10 : w9.heap.size < (((((((w9.alloc (.cells #[.int .i64 0, .int .i64 0, .slice none 0 0] 24)).setCell ⟨w.heap.size, 0, none⟩ (.slice A ts.length c)).setCell ⟨w.heap.size, 1, none⟩ (.int .i64 (s2.1 : Nat))).setCell ⟨w.heap.size, 2, none⟩ (.bool s2.2)).setCell ⟨w9.heap.size, 0, none⟩ (.int .i64 a3)).setCell ⟨w9.heap.size, 1, none⟩ (.int .i64 a4)).setCell ⟨w9.heap.size, 2, none⟩ (.slice A2 n2 c2)).heap.size := by rw [L9.size]; omega
  have hb69 : b6 < w9.heap.size := by omega
  generalize (((((((w9.alloc (.cells #[.int .i64 0, .int .i64 0, .slice none 0 0] 24)).setCell ⟨w.heap.size, 0, none⟩ (.slice A ts.length c)).setCell ⟨w.heap.size, 1, none⟩ (.int .i64 (s2.1 : Nat))).setCell ⟨w.heap.size, 2, none⟩ (.bool s2.2)).setCell ⟨w9.heap.size, 0, none⟩ (.int .i64 a3)).setCell ⟨w9.heap.size, 1, none⟩ (.int .i64 a4)).setCell ⟨w9.heap.size, 2, none⟩ (.slice A2 n2 c2)) = w10 at *
  have B10 := Lib.hid (B9.out.lv (q := s2) L9)
  have M10 := L9.n
  clear L9 HT2 HB9 hw8 B9 x0 x1 x2 f0 f1 f2 x0' x1' x2' f0' f1' f2' y0 y1 y2 g0 g1 g2 hne hne' HT8 HN8 hs9 hz8
  generalize w9.heap.size = b7 at *
  have HN10 := Lib.hid N10
  have HM10 := Lib.hid M10
  have HT10 := Lib.hid T10
  have HU10 := Lib.hid U10
  clear N10 M10 T10 U10
  obtain ⟨p3, hp3⟩ : ∃ p, p = musS ts [41] s2 := ⟨_, rfl⟩
  have hm3 : ∀ W, Tk W (.slice A ts.length c) ts → Calls Tryz.prog 77 #[.agg #[(.slice A ts.length c), .int .i64 (s2.1 : Nat), .bool s2.2], .string ⟨#[41]⟩] W fun e w' => e = .returned (.agg #[(.slice A ts.length c), .int .i64 (p3.1 : Nat), .bool p3.2]) ∧ Below W.heap.size W w' := fun W hW => by
    rw [hp3]; exact must_q W _ ts s2 [41] hW (by omega)
  have HM3 := Lib.hid hm3
  have HP3 := Lib.hid hp3
  clear hp3 hm3
  obtain ⟨x0, x1, x2, f0, f1, f2⟩ := three_cells B10.out.x
  go_wp2_with fail
  refine (HM3.out w10 (H0.out.on B10.out.b)).mono ?_
  rintro e w11 ⟨rfl, hb⟩
  have B11 := Lib.hid (B10.out.on hb)
  have HB11 := Lib.hid hb
  clear hb HM3 x0 x1 x2 f0 f1 f2
  obtain ⟨x0, x1, x2, f0, f1, f2⟩ := three_cells B11.out.x
  go_upto_region 7 with fail
  have B12 := Lib.hid (B11.out.set p3)
  have N12 : (((w11.setCell ⟨w.heap.size, 0, none⟩ (.slice A ts.length c)).setCell ⟨w.heap.size, 1, none⟩ (.int .i64 (p3.1 : Nat))).setCell ⟨w.heap.size, 2, none⟩ (.bool p3.2)).heap[b6]? = some (.cells #[.int .i64 a1, .int .i64 a2, .slice A1 n1 c1] 24 (0, 0)) := (heap_far3 (by omega) _ _ _).trans ((HB11.out.block _ (by omega)).trans HN10.out)
  have M12 : (((w11.setCell ⟨w.heap.size, 0, none⟩ (.slice A ts.length c)).setCell ⟨w.heap.size, 1, none⟩ (.int .i64 (p3.1 : Nat))).setCell ⟨w.heap.size, 2, none⟩ (.bool p3.2)).heap[b7]? = some (.cells #[.int .i64 a3, .int .i64 a4, .slice A2 n2 c2] 24 (0, 0)) := (heap_far3 (by omega) _ _ _).trans ((HB11.out.block _ (by omega)).trans HM10.out)
  have T12 : ∀ x j, o2 = .ok x j → a3 = x.1.1 ∧ a4 = x.1.2 ∧ n2 = flen x.2 ∧ FoD (((w11.setCell ⟨w.heap.size, 0, none⟩ (.slice A ts.length c)).setCell ⟨w.heap.size, 1, none⟩ (.int .i64 (p3.1 : Nat))).setCell ⟨w.heap.size, 2, none⟩ (.bool p3.2)) (fun b => w.heap.size + 1 + 1 < b ∧ b < b7) (.slice A2 n2 c2) x.2 := fun x j e => by
    obtain ⟨e1, e2, e3, e4⟩ := HT10.out x j e
    exact ⟨e1, e2, e3, e4.keep (fun b hb => hb) (fun b hb => (heap_far3 (by have := hb.1; omega) _ _ _).trans (HB11.out.block b (by have := hb.2; omega)))⟩
  have U12 : ∀ x j, o1 = .ok x j → a1 = x.1.1 ∧ a2 = x.1.2 ∧ n1 = flen x.2 ∧ FoD (((w11.setCell ⟨w.heap.size, 0, none⟩ (.slice A ts.length c)).setCell ⟨w.heap.size, 1, none⟩ (.int .i64 (p3.1 : Nat))).setCell ⟨w.heap.size, 2, none⟩ (.bool p3.2)) (fun b => w.heap.size + 1 + 1 < b ∧ b < b6) (.slice A1 n1 c1) x.2 := fun x j e => by
    obtain ⟨e1, e2, e3, e4⟩ := HU10.out x j e
    exact ⟨e1, e2, e3, e4.keep (fun b hb => hb) (fun b hb => (heap_far3 (by have := hb.1; omega) _ _ _).trans (HB11.out.block b (by have := hb.2; omega)))⟩
  have hz12 : b7 < (((w11.setCell ⟨w.heap.size, 0, none⟩ (.slice A ts.length c)).setCell ⟨w.heap.size, 1, none⟩ (.int .i64 (p3.1 : Nat))).setCell ⟨w.heap.size, 2, none⟩ (.bool p3.2)).heap.size := by rw [size_set3]; have := HB11.out.size; omega
  have HT12 := Lib.hid T12
  have HU12 := Lib.hid U12
  have HN12 := Lib.hid N12
  have HM12 := Lib.hid M12
  clear B10 B11 HB11 HN10 HM10 HT10 HU10 N12 M12 T12 U12 x0 x1 x2 f0 f1 f2 hz10
  generalize (((w11.setCell ⟨w.heap.size, 0, none⟩ (.slice A ts.length c)).setCell ⟨w.heap.size, 1, none⟩ (.int .i64 (p3.1 : Nat))).setCell ⟨w.heap.size, 2, none⟩ (.bool p3.2)) = w12 at *
  obtain ⟨x0, x1, x2, _, _, _⟩ := three_cells B12.out.x
  obtain ⟨n0, n1', n2', _, _, _⟩ := three_cells HN12.out
  obtain ⟨m0, m1, m2, _, _, _⟩ := three_cells HM12.out
  have q12 := B12.out.lt
  have r1 : b6 ≠ w.heap.size + 1 := by omega
  have r2 : b6 ≠ w.heap.size + 1 + 1 := by omega
  have r3 : b7 ≠ w.heap.size + 1 := by omega
  have r4 : b7 ≠ w.heap.size + 1 + 1 := by omega
  have r5 : w.heap.size + 1 ≠ b6 := by omega
  have r6 : w.heap.size + 1 + 1 ≠ b6 := by omega
  have r7 : w.heap.size + 1 ≠ b7 := by omega
  have r9 : w.heap.size ≠ w.heap.size + 1 + 1 := by omega
  have r10 : w.heap.size + 1 + 1 ≠ w.heap.size := by omega
  have r8 : w.heap.size + 1 + 1 ≠ b7 := by omega
  go_region_held3 (fun w' => w'.cell? ⟨w.heap.size, 0, none⟩ = some (.slice A ts.length c) ∧ w'.cell? ⟨w.heap.size, 1, none⟩ = some (.int .i64 (p3.1 : Nat)) ∧ w'.cell? ⟨w.heap.size, 2, none⟩ = some (.bool p3.2) ∧ w'.cell? ⟨b6, 0, none⟩ = some (.int .i64 a1) ∧ w'.cell? ⟨b6, 1, none⟩ = some (.int .i64 a2) ∧ w'.cell? ⟨b6, 2, none⟩ = some (.slice A1 n1 c1) ∧ w'.cell? ⟨b7, 0, none⟩ = some (.int .i64 a3) ∧ w'.cell? ⟨b7, 1, none⟩ = some (.int .i64 a4) ∧ w'.cell? ⟨b7, 2, none⟩ = some (.slice A2 n2 c2))
    (first | with_reducible exact ⟨x0, x1, x2, n0, n1', n2', m0, m1, m2⟩ | with_reducible exact S13 | go_keep)
    ((go_at_call 110; (with_reducible refine (pair8_any op a1 a2 a3 a4 A1 A2 n1 c1 n2 c2 _).mono ?_); rintro e w13 ⟨g, rfl, hg, hgx, hb⟩; have hb13 : Below w12.heap.size w12 w13 := ((Below.refl _ _).drew).trans hb; have B13 := B12.out.on hb13; have S13 := And.intro (three_cells B13.x).1 (And.intro (three_cells B13.x).2.1 (And.intro (three_cells B13.x).2.2.1 (And.intro (three_cells ((hb13.block _ (by omega)).trans HN12.out)).1 (And.intro (three_cells ((hb13.block _ (by omega)).trans HN12.out)).2.1 (And.intro (three_cells ((hb13.block _ (by omega)).trans HN12.out)).2.2.1 (And.intro (three_cells ((hb13.block _ (by omega)).trans HM12.out)).1 (And.intro (three_cells ((hb13.block _ (by omega)).trans HM12.out)).2.1 (three_cells ((hb13.block _ (by omega)).trans HM12.out)).2.2.1))))))); obtain ⟨y0, y1, y2, g0, g1, g2⟩ := three_cells B13.y; obtain ⟨z0, z1, z2, i0, i1, i2⟩ := three_cells B13.z))
  all_goals go_wp2_with fail
  all_goals
    refine bodyPost_ret (v := .tuple #[.agg #[.slice A ts.length c, .int .i64 (p3.1 : Nat), .bool p3.2], .agg #[.int .i64 op, .int .i64 0, .slice (some ⟨g, 0, none⟩) 2 2]]) (by simp [results, Tryz.results139, go_sem, y0, y1, y2, z0, z1, z2]) rfl ?_
    have hfar : ∀ b, b ≠ w.heap.size + 1 → b ≠ w.heap.size + 1 + 1 → ((((((w13.setCell ⟨w.heap.size + 1, 0, none⟩ (.slice A ts.length c)).setCell ⟨w.heap.size + 1, 1, none⟩ (.int .i64 (p3.1 : Nat))).setCell ⟨w.heap.size + 1, 2, none⟩ (.bool p3.2)).setCell ⟨w.heap.size + 1 + 1, 0, none⟩ (.int .i64 op)).setCell ⟨w.heap.size + 1 + 1, 1, none⟩ (.int .i64 0)).setCell ⟨w.heap.size + 1 + 1, 2, none⟩ (.slice (some ⟨g, 0, none⟩) 2 2)).heap[b]? = w13.heap[b]? := fun b h1 h2 => (heap_far3 h2 _ _ _).trans (heap_far3 h1 _ _ _)
    have hsz : ((((((w13.setCell ⟨w.heap.size + 1, 0, none⟩ (.slice A ts.length c)).setCell ⟨w.heap.size + 1, 1, none⟩ (.int .i64 (p3.1 : Nat))).setCell ⟨w.heap.size + 1, 2, none⟩ (.bool p3.2)).setCell ⟨w.heap.size + 1 + 1, 0, none⟩ (.int .i64 op)).setCell ⟨w.heap.size + 1 + 1, 1, none⟩ (.int .i64 0)).setCell ⟨w.heap.size + 1 + 1, 2, none⟩ (.slice (some ⟨g, 0, none⟩) 2 2)).heap.size = w13.heap.size := (size_set3 _ _ _ _ _).trans (size_set3 _ _ _ _ _)
    have hs13 := hb13.size
    have q1 : w.heap.size ≤ w.heap.size + 1 := by omega
    have q2 : w.heap.size ≤ w.heap.size + 1 + 1 := by omega
    have hbf : Below w.heap.size w ((((((w13.setCell ⟨w.heap.size + 1, 0, none⟩ (.slice A ts.length c)).setCell ⟨w.heap.size + 1, 1, none⟩ (.int .i64 (p3.1 : Nat))).setCell ⟨w.heap.size + 1, 2, none⟩ (.bool p3.2)).setCell ⟨w.heap.size + 1 + 1, 0, none⟩ (.int .i64 op)).setCell ⟨w.heap.size + 1 + 1, 1, none⟩ (.int .i64 0)).setCell ⟨w.heap.size + 1 + 1, 2, none⟩ (.slice (some ⟨g, 0, none⟩) 2 2)) := (((((B13.b.setCell (p := ⟨w.heap.size + 1, 0, none⟩) q1 _).setCell (p := ⟨w.heap.size + 1, 1, none⟩) q1 _).setCell (p := ⟨w.heap.size + 1, 2, none⟩) q1 _).setCell (p := ⟨w.heap.size + 1 + 1, 0, none⟩) q2 _).setCell (p := ⟨w.heap.size + 1 + 1, 1, none⟩) q2 _).setCell (p := ⟨w.heap.size + 1 + 1, 2, none⟩) q2 _
    have hg12 : w12.heap.size ≤ g := hg
    have hgf := (hfar g (by omega) (by omega)).trans hgx
    have t1 : ∀ x j, o1 = .ok x j → a1 = x.1.1 ∧ a2 = x.1.2 ∧ n1 = flen x.2 ∧ FoD ((((((w13.setCell ⟨w.heap.size + 1, 0, none⟩ (.slice A ts.length c)).setCell ⟨w.heap.size + 1, 1, none⟩ (.int .i64 (p3.1 : Nat))).setCell ⟨w.heap.size + 1, 2, none⟩ (.bool p3.2)).setCell ⟨w.heap.size + 1 + 1, 0, none⟩ (.int .i64 op)).setCell ⟨w.heap.size + 1 + 1, 1, none⟩ (.int .i64 0)).setCell ⟨w.heap.size + 1 + 1, 2, none⟩ (.slice (some ⟨g, 0, none⟩) 2 2)) (fun b => w.heap.size ≤ b ∧ b < ((((((w13.setCell ⟨w.heap.size + 1, 0, none⟩ (.slice A ts.length c)).setCell ⟨w.heap.size + 1, 1, none⟩ (.int .i64 (p3.1 : Nat))).setCell ⟨w.heap.size + 1, 2, none⟩ (.bool p3.2)).setCell ⟨w.heap.size + 1 + 1, 0, none⟩ (.int .i64 op)).setCell ⟨w.heap.size + 1 + 1, 1, none⟩ (.int .i64 0)).setCell ⟨w.heap.size + 1 + 1, 2, none⟩ (.slice (some ⟨g, 0, none⟩) 2 2)).heap.size) (.slice A1 n1 c1) x.2 := fun x j e => by
      obtain ⟨e1, e2, e3, e4⟩ := HU12.out x j e
      exact ⟨e1, e2, e3, e4.keep (fun b hb => ⟨by have := hb.1; omega, by rw [hsz]; have := hb.2; omega⟩) (fun b hb => (hfar b (by have := hb.1; omega) (by have := hb.1; omega)).trans (hb13.block b (by have := hb.2; omega)))⟩
    have t2 : ∀ x j, o2 = .ok x j → a3 = x.1.1 ∧ a4 = x.1.2 ∧ n2 = flen x.2 ∧ FoD ((((((w13.setCell ⟨w.heap.size + 1, 0, none⟩ (.slice A ts.length c)).setCell ⟨w.heap.size + 1, 1, none⟩ (.int .i64 (p3.1 : Nat))).setCell ⟨w.heap.size + 1, 2, none⟩ (.bool p3.2)).setCell ⟨w.heap.size + 1 + 1, 0, none⟩ (.int .i64 op)).setCell ⟨w.heap.size + 1 + 1, 1, none⟩ (.int .i64 0)).setCell ⟨w.heap.size + 1 + 1, 2, none⟩ (.slice (some ⟨g, 0, none⟩) 2 2)) (fun b => w.heap.size ≤ b ∧ b < ((((((w13.setCell ⟨w.heap.size + 1, 0, none⟩ (.slice A ts.length c)).setCell ⟨w.heap.size + 1, 1, none⟩ (.int .i64 (p3.1 : Nat))).setCell ⟨w.heap.size + 1, 2, none⟩ (.bool p3.2)).setCell ⟨w.heap.size + 1 + 1, 0, none⟩ (.int .i64 op)).setCell ⟨w.heap.size + 1 + 1, 1, none⟩ (.int .i64 0)).setCell ⟨w.heap.size + 1 + 1, 2, none⟩ (.slice (some ⟨g, 0, none⟩) 2 2)).heap.size) (.slice A2 n2 c2) x.2 := fun x j e => by
      obtain ⟨e1, e2, e3, e4⟩ := HT12.out x j e
      exact ⟨e1, e2, e3, e4.keep (fun b hb => ⟨by have := hb.1; omega, by rw [hsz]; have := hb.2; omega⟩) (fun b hb => (hfar b (by have := hb.1; omega) (by have := hb.1; omega)).trans (hb13.block b (by have := hb.2; omega)))⟩
    generalize ((((((w13.setCell ⟨w.heap.size + 1, 0, none⟩ (.slice A ts.length c)).setCell ⟨w.heap.size + 1, 1, none⟩ (.int .i64 (p3.1 : Nat))).setCell ⟨w.heap.size + 1, 2, none⟩ (.bool p3.2)).setCell ⟨w.heap.size + 1 + 1, 0, none⟩ (.int .i64 op)).setCell ⟨w.heap.size + 1 + 1, 1, none⟩ (.int .i64 0)).setCell ⟨w.heap.size + 1 + 1, 2, none⟩ (.slice (some ⟨g, 0, none⟩) 2 2)) = wf at *
    have hreq : twoO ex ts op (k + 1) = if p3.2 then .no p3.1 else .ok (pairE op (treO o1) (treO o2)) p3.1 := by
      exact HE.out p1 p2 p3 o1 o2 (by rw [HP1.out, HK.out]) HO1.out (by rw [HP2.out, HS1.out]) HO2.out (by rw [HP3.out, HS2.out])
    exact two_fin hreq (fun hf => two_ok HO1.out HS1.out HP2.out HO2.out HS2.out HP3.out hf) hbf (by omega) hgf t1 t2
end Go.Proofs.YtomnjamldbficaaGreatDoor
namespace Go.Proofs.YtomnjamldbficaaGreatDoor
open Go.RowKit Lx Px
/-- a call's results, stored in the boxes of the results -/
theorem ret_q {w w1 w2 : World} {v : Value} {o : Out} {a b : Int} {A : Option Addr} {n c : Nat} (hB : Below w.heap.size w w1) (hlt : w.heap.size + 1 + 1 < w1.heap.size) (hb : Below w1.heap.size w1 w2)
    (ht : ∀ x j, o = .ok x j → a = x.1.1 ∧ b = x.1.2 ∧ n = flen x.2 ∧ FoD w2 (fun b => w1.heap.size ≤ b ∧ b < w2.heap.size) (.slice A n c) x.2) :
    RfP v o w (.returned (.tuple #[.agg #[v, .int .i64 ((stO o).1 : Nat), .bool (stO o).2], .agg #[.int .i64 a, .int .i64 b, .slice A n c]]))
      ((((((w2.setCell ⟨w.heap.size + 1, 0, none⟩ v).setCell ⟨w.heap.size + 1, 1, none⟩ (.int .i64 ((stO o).1 : Nat))).setCell ⟨w.heap.size + 1, 2, none⟩ (.bool (stO o).2)).setCell ⟨w.heap.size + 1 + 1, 0, none⟩ (.int .i64 a)).setCell ⟨w.heap.size + 1 + 1, 1, none⟩ (.int .i64 b)).setCell ⟨w.heap.size + 1 + 1, 2, none⟩ (.slice A n c)) := by
  have q1 : w.heap.size ≤ w.heap.size + 1 := by omega
  have q2 : w.heap.size ≤ w.heap.size + 1 + 1 := by omega
  refine RfQ.p ⟨a, b, A, n, c, rfl, ?_, fun x j e => ?_⟩
  · exact ((((((bthen' hB hb).setCell (p := ⟨w.heap.size + 1, 0, none⟩) q1 _).setCell (p := ⟨w.heap.size + 1, 1, none⟩) q1 _).setCell (p := ⟨w.heap.size + 1, 2, none⟩) q1 _).setCell (p := ⟨w.heap.size + 1 + 1, 0, none⟩) q2 _).setCell (p := ⟨w.heap.size + 1 + 1, 1, none⟩) q2 _).setCell (p := ⟨w.heap.size + 1 + 1, 2, none⟩) q2 _
  · obtain ⟨e1, e2, e3, e4⟩ := ht x j e
    refine ⟨e1, e2, e3, e4.keep (fun b hb => ⟨by have := hb.1; omega, by rw [size_set3, size_set3]; exact hb.2⟩) (fun b hb => ?_)⟩
    have := hb.1
    exact (heap_far3 (by omega) _ _ _).trans (heap_far3 (by omega) _ _ _)
set_option maxRecDepth 100000 in
set_option maxHeartbeats 2000000 in
theorem atom_min (w : World) (v : Value) (ts : List Tok) (k : Nat) (hk : k < ts.length) (ex : Nat → Out) (h2 : ts[k].1 ≠ 2) (h3 : ts[k].1 ≠ 3) (hv : ¬ 0 < varOf ts[k].2.2) (ht : ts[k].2.2 = [109, 105, 110]) (hex : ∀ k', k < k' → k' ≤ ts.length → okK ts k' (ex k') ∧ ∀ W, Tk W v ts → Calls Tryz.prog 41 #[.agg #[v, .int .i64 (k' : Nat), .bool false]] W (RfP v (ex k') W))  (h : Tk w v ts) :
    Calls Tryz.prog 108 #[.agg #[v, .int .i64 k, .bool false]] w (RfP v (twoO ex ts 8 (k + 1)) w) := by
  have h' := h
  obtain ⟨A, c, rfl, _⟩ := h'.1
  have hl := h.2.1
  obtain ⟨hx, hy, hz, hb⟩ := boxes3 w (.cells #[.slice A ts.length c, .int .i64 k, .bool false] 76) (.cells #[.slice none 0 0, .int .i64 0, .bool false] 76) (.cells #[.int .i64 0, .int .i64 0, .slice none 0 0] 24)
  have H0 := Lib.hid h
  have H1 := Lib.hid (h.on hb)
  have HB := Lib.hid hb
  obtain ⟨x0, x1, x2, f0, f1, f2⟩ := three_cells hx
  obtain ⟨y0, y1, y2, g0, g1, g2⟩ := three_cells hy
  obtain ⟨z0, z1, z2, i0, i1, i2⟩ := three_cells hz
  obtain ⟨ad, hA, t0, t1, t2⟩ := H1.out.at_ hk
  subst hA
  have d : ¬ ((ts.length : Int) ≤ (k : Int)) := by omega
  have hsz : 0 ≤ (k : Int) := by omega
  have q : (ts[k].1 == 2) = false := by simpa using h2
  have q' : (ts[k].1 == 3) = false := by simpa using h3
  have u1 := bytes_beq ts[k].2.2 [109, 105, 110]
  rw [show (ts[k].2.2 == [109, 105, 110]) = true by simpa using ht] at u1
  have HC := Lib.hid (fun W (hW : Tk W (.slice (some ad) ts.length c) ts) => two8_any W _ ts ex k 8 hk hW hex)
  have HX := Lib.hid hx
  have HY := Lib.hid hy
  have HZ := Lib.hid hz
  clear h h' hb hx hy hz h2 h3 ht hex
  generalize ts[k].1 = t' at *
  generalize ts[k].2.2 = t at *
  generalize ts[k].2.1 = t'' at *
  go_enter Tryz.func108, Tryz.ntmps108
  go_upto_region 1 with fail
  generalize ((w.alloc (.cells #[.slice (some ad) ts.length c, .int .i64 k, .bool false] 76)).alloc (.cells #[.slice none 0 0, .int .i64 0, .bool false] 76)).alloc (.cells #[.int .i64 0, .int .i64 0, .slice none 0 0] 24) = w1 at *
  go_upto_region 5 with fail
  have ha : Below w1.heap.size w1 (w1.alloc (.cells #[.int .i64 t', .int .i64 t'', .string (mk t)] 41)) := (Below.refl _ _).alloc (Nat.le_refl _) _
  have X2 := Lib.hid ((ha.block _ (Array.getElem?_eq_some_iff.1 HX.out).1).trans HX.out)
  have Y2 := Lib.hid ((ha.block _ (Array.getElem?_eq_some_iff.1 HY.out).1).trans HY.out)
  have Z2 := Lib.hid ((ha.block _ (Array.getElem?_eq_some_iff.1 HZ.out).1).trans HZ.out)
  have hn := World.alloc_heap_new w1 (.cells #[.int .i64 t', .int .i64 t'', .string (mk t)] 41)
  have B2 := Lib.hid (bthen' HB.out ha)
  have hlt : w.heap.size + 1 + 1 < w1.heap.size := (Array.getElem?_eq_some_iff.1 HZ.out).1
  clear ha HX HY HZ HB x0 x1 x2 y0 y1 y2 z0 z1 z2 f0 f1 f2 g0 g1 g2 i0 i1 i2 t0 t1 t2 H1
  generalize w1.alloc (.cells #[.int .i64 t', .int .i64 t'', .string (mk t)] 41) = w2 at *
  generalize w1.heap.size = b4 at *
  obtain ⟨x0, x1, x2, f0, f1, f2⟩ := three_cells X2.out
  obtain ⟨y0, y1, y2, g0, g1, g2⟩ := three_cells Y2.out
  obtain ⟨z0, z1, z2, i0, i1, i2⟩ := three_cells Z2.out
  obtain ⟨t0, t1, t2, _, _, _⟩ := three_cells hn
  clear hn
  go_wp2_with fail
  refine (variable_any t _).mono ?_
  rintro e w3 ⟨rfl, rfl⟩
  generalize varOf t = vt at *
  have dv : decide (0 < vt) = false := by simpa using hv
  go_wp2_with fail
  refine (HC.out w2 (H0.out.on B2.out)).mono ?_
  intro e w4 hq
  obtain ⟨a, b, A2, n2, c2, rfl, hb, ht⟩ := hq.q
  have Y4 := (hb.block _ (Array.getElem?_eq_some_iff.1 Y2.out).1).trans Y2.out
  have Z4 := (hb.block _ (Array.getElem?_eq_some_iff.1 Z2.out).1).trans Z2.out
  have hlt2 : w.heap.size + 1 + 1 < w2.heap.size := (Array.getElem?_eq_some_iff.1 Z2.out).1
  have HQ := Lib.hid (ret_q (v := .slice (some ad) ts.length c) B2.out hlt2 hb ht)
  clear hq hb ht x0 x1 x2 y0 y1 y2 z0 z1 z2 f0 f1 f2 g0 g1 g2 i0 i1 i2 t0 t1 t2 X2 Y2 Z2 B2
  obtain ⟨y0, y1, y2, g0, g1, g2⟩ := three_cells Y4
  obtain ⟨z0, z1, z2, i0, i1, i2⟩ := three_cells Z4
  clear Y4 Z4
  obtain ⟨r, hr⟩ : ∃ r, r = twoO ex ts 8 (k + 1) := ⟨_, rfl⟩
  rw [← hr] at HQ
  rw [← hr]
  have HR := Lib.hid hr
  clear hr
  go_wp2_with fail
  refine bodyPost_ret (v := .tuple #[.agg #[.slice (some ad) ts.length c, .int .i64 ((stO r).1 : Nat), .bool (stO r).2], .agg #[.int .i64 a, .int .i64 b, .slice A2 n2 c2]]) (by simp [results, Tryz.results108, go_sem, y0, y1, y2, z0, z1, z2]) rfl ?_
  rw [← HR.out]
  exact HQ.out
set_option maxRecDepth 100000 in
set_option maxHeartbeats 2000000 in
theorem atom_max (w : World) (v : Value) (ts : List Tok) (k : Nat) (hk : k < ts.length) (ex : Nat → Out) (h2 : ts[k].1 ≠ 2) (h3 : ts[k].1 ≠ 3) (hv : ¬ 0 < varOf ts[k].2.2) (ht : ts[k].2.2 = [109, 97, 120]) (hex : ∀ k', k < k' → k' ≤ ts.length → okK ts k' (ex k') ∧ ∀ W, Tk W v ts → Calls Tryz.prog 41 #[.agg #[v, .int .i64 (k' : Nat), .bool false]] W (RfP v (ex k') W))  (h : Tk w v ts) :
    Calls Tryz.prog 108 #[.agg #[v, .int .i64 k, .bool false]] w (RfP v (twoO ex ts 9 (k + 1)) w) := by
  have h' := h
  obtain ⟨A, c, rfl, _⟩ := h'.1
  have hl := h.2.1
  obtain ⟨hx, hy, hz, hb⟩ := boxes3 w (.cells #[.slice A ts.length c, .int .i64 k, .bool false] 76) (.cells #[.slice none 0 0, .int .i64 0, .bool false] 76) (.cells #[.int .i64 0, .int .i64 0, .slice none 0 0] 24)
  have H0 := Lib.hid h
  have H1 := Lib.hid (h.on hb)
  have HB := Lib.hid hb
  obtain ⟨x0, x1, x2, f0, f1, f2⟩ := three_cells hx
  obtain ⟨y0, y1, y2, g0, g1, g2⟩ := three_cells hy
  obtain ⟨z0, z1, z2, i0, i1, i2⟩ := three_cells hz
  obtain ⟨ad, hA, t0, t1, t2⟩ := H1.out.at_ hk
  subst hA
  have d : ¬ ((ts.length : Int) ≤ (k : Int)) := by omega
  have hsz : 0 ≤ (k : Int) := by omega
  have q : (ts[k].1 == 2) = false := by simpa using h2
  have q' : (ts[k].1 == 3) = false := by simpa using h3
  have u1 := bytes_beq ts[k].2.2 [109, 105, 110]
  rw [show (ts[k].2.2 == [109, 105, 110]) = false by rw [ht]; rfl] at u1
  have u2 := bytes_beq ts[k].2.2 [109, 97, 120]
  rw [show (ts[k].2.2 == [109, 97, 120]) = true by simpa using ht] at u2
  have HC := Lib.hid (fun W (hW : Tk W (.slice (some ad) ts.length c) ts) => two8_any W _ ts ex k 9 hk hW hex)
  have HX := Lib.hid hx
  have HY := Lib.hid hy
  have HZ := Lib.hid hz
  clear h h' hb hx hy hz h2 h3 ht hex
  generalize ts[k].1 = t' at *
  generalize ts[k].2.2 = t at *
  generalize ts[k].2.1 = t'' at *
  go_enter Tryz.func108, Tryz.ntmps108
  go_upto_region 1 with fail
  generalize ((w.alloc (.cells #[.slice (some ad) ts.length c, .int .i64 k, .bool false] 76)).alloc (.cells #[.slice none 0 0, .int .i64 0, .bool false] 76)).alloc (.cells #[.int .i64 0, .int .i64 0, .slice none 0 0] 24) = w1 at *
  go_upto_region 5 with fail
  have ha : Below w1.heap.size w1 (w1.alloc (.cells #[.int .i64 t', .int .i64 t'', .string (mk t)] 41)) := (Below.refl _ _).alloc (Nat.le_refl _) _
  have X2 := Lib.hid ((ha.block _ (Array.getElem?_eq_some_iff.1 HX.out).1).trans HX.out)
  have Y2 := Lib.hid ((ha.block _ (Array.getElem?_eq_some_iff.1 HY.out).1).trans HY.out)
  have Z2 := Lib.hid ((ha.block _ (Array.getElem?_eq_some_iff.1 HZ.out).1).trans HZ.out)
  have hn := World.alloc_heap_new w1 (.cells #[.int .i64 t', .int .i64 t'', .string (mk t)] 41)
  have B2 := Lib.hid (bthen' HB.out ha)
  have hlt : w.heap.size + 1 + 1 < w1.heap.size := (Array.getElem?_eq_some_iff.1 HZ.out).1
  clear ha HX HY HZ HB x0 x1 x2 y0 y1 y2 z0 z1 z2 f0 f1 f2 g0 g1 g2 i0 i1 i2 t0 t1 t2 H1
  generalize w1.alloc (.cells #[.int .i64 t', .int .i64 t'', .string (mk t)] 41) = w2 at *
  generalize w1.heap.size = b4 at *
  obtain ⟨x0, x1, x2, f0, f1, f2⟩ := three_cells X2.out
  obtain ⟨y0, y1, y2, g0, g1, g2⟩ := three_cells Y2.out
  obtain ⟨z0, z1, z2, i0, i1, i2⟩ := three_cells Z2.out
  obtain ⟨t0, t1, t2, _, _, _⟩ := three_cells hn
  clear hn
  go_wp2_with fail
  refine (variable_any t _).mono ?_
  rintro e w3 ⟨rfl, rfl⟩
  generalize varOf t = vt at *
  have dv : decide (0 < vt) = false := by simpa using hv
  go_wp2_with fail
  refine (HC.out w2 (H0.out.on B2.out)).mono ?_
  intro e w4 hq
  obtain ⟨a, b, A2, n2, c2, rfl, hb, ht⟩ := hq.q
  have Y4 := (hb.block _ (Array.getElem?_eq_some_iff.1 Y2.out).1).trans Y2.out
  have Z4 := (hb.block _ (Array.getElem?_eq_some_iff.1 Z2.out).1).trans Z2.out
  have hlt2 : w.heap.size + 1 + 1 < w2.heap.size := (Array.getElem?_eq_some_iff.1 Z2.out).1
  have HQ := Lib.hid (ret_q (v := .slice (some ad) ts.length c) B2.out hlt2 hb ht)
  clear hq hb ht x0 x1 x2 y0 y1 y2 z0 z1 z2 f0 f1 f2 g0 g1 g2 i0 i1 i2 t0 t1 t2 X2 Y2 Z2 B2
  obtain ⟨y0, y1, y2, g0, g1, g2⟩ := three_cells Y4
  obtain ⟨z0, z1, z2, i0, i1, i2⟩ := three_cells Z4
  clear Y4 Z4
  obtain ⟨r, hr⟩ : ∃ r, r = twoO ex ts 9 (k + 1) := ⟨_, rfl⟩
  rw [← hr] at HQ
  rw [← hr]
  have HR := Lib.hid hr
  clear hr
  go_wp2_with fail
  refine bodyPost_ret (v := .tuple #[.agg #[.slice (some ad) ts.length c, .int .i64 ((stO r).1 : Nat), .bool (stO r).2], .agg #[.int .i64 a, .int .i64 b, .slice A2 n2 c2]]) (by simp [results, Tryz.results108, go_sem, y0, y1, y2, z0, z1, z2]) rfl ?_
  rw [← HR.out]
  exact HQ.out
end Go.Proofs.YtomnjamldbficaaGreatDoor
namespace Go.Proofs.YtomnjamldbficaaGreatDoor
open Go.RowKit Lx Px
theorem brk_ok {ts : List Tok} {p2 s1 : Nat × Bool} {o1 : Out} (e1 : s1 = stO o1) (h3 : p2 = musS ts [41] s1) (hf : p2.2 = false) : ∃ x j, o1 = .ok x j := by
  cases o1 with
  | ok x1 j1 => exact ⟨x1, j1, rfl⟩
  | no j1 =>
    have : p2 = (j1, true) := by rw [h3, e1]; rfl
    rw [this] at hf; cases hf
theorem brk_fin {w W : World} {v : Value} {r o1 : Out} {p2 : Nat × Bool} {a b : Int} {A : Option Addr} {n c : Nat} (hr : r = if p2.2 then .no p2.1 else .ok (treO o1) p2.1) (hok : p2.2 = false → ∃ x j, o1 = .ok x j) (hb : Below w.heap.size w W)
    (t1 : ∀ x j, o1 = .ok x j → a = x.1.1 ∧ b = x.1.2 ∧ n = flen x.2 ∧ FoD W (fun b => w.heap.size ≤ b ∧ b < W.heap.size) (.slice A n c) x.2) :
    RfP v r w (.returned (.tuple #[.agg #[v, .int .i64 (p2.1 : Nat), .bool p2.2], .agg #[.int .i64 a, .int .i64 b, .slice A n c]])) W := by
  obtain ⟨j, f⟩ := p2
  cases f with
  | true =>
    rw [hr]
    exact ⟨hb, a, b, A, n, c, rfl⟩
  | false =>
    obtain ⟨x1, j1, rfl⟩ := hok rfl
    obtain ⟨rfl, rfl, rfl, d1⟩ := t1 x1 j1 rfl
    rw [hr]
    exact ⟨hb, A, c, rfl, d1⟩
set_option maxRecDepth 100000 in
set_option maxHeartbeats 2000000 in
theorem atom_brk (w : World) (v : Value) (ts : List Tok) (k : Nat) (hk : k < ts.length) (ex : Nat → Out) (h2 : ts[k].1 ≠ 2) (h3 : ts[k].1 ≠ 3) (hv : ¬ 0 < varOf ts[k].2.2) (ht : ts[k].2.2 = [40]) (hex : ∀ k', k < k' → k' ≤ ts.length → okK ts k' (ex k') ∧ ∀ W, Tk W v ts → Calls Tryz.prog 41 #[.agg #[v, .int .i64 (k' : Nat), .bool false]] W (RfP v (ex k') W))  (h : Tk w v ts) :
    Calls Tryz.prog 108 #[.agg #[v, .int .i64 k, .bool false]] w (RfP v (brkO ex ts k) w) := by
  have h' := h
  obtain ⟨A, c, rfl, _⟩ := h'.1
  have hl := h.2.1
  obtain ⟨hx, hy, hz, hb⟩ := boxes3 w (.cells #[.slice A ts.length c, .int .i64 k, .bool false] 76) (.cells #[.slice none 0 0, .int .i64 0, .bool false] 76) (.cells #[.int .i64 0, .int .i64 0, .slice none 0 0] 24)
  have H0 := Lib.hid h
  have H1 := Lib.hid (h.on hb)
  have HB := Lib.hid hb
  obtain ⟨x0, x1, x2, f0, f1, f2⟩ := three_cells hx
  obtain ⟨y0, y1, y2, g0, g1, g2⟩ := three_cells hy
  obtain ⟨z0, z1, z2, i0, i1, i2⟩ := three_cells hz
  obtain ⟨ad, hA, t0, t1, t2⟩ := H1.out.at_ hk
  subst hA
  have d : ¬ ((ts.length : Int) ≤ (k : Int)) := by omega
  have hsz : 0 ≤ (k : Int) := by omega
  have q : (ts[k].1 == 2) = false := by simpa using h2
  have q' : (ts[k].1 == 3) = false := by simpa using h3
  have u1 := bytes_beq ts[k].2.2 [109, 105, 110]
  have u2 := bytes_beq ts[k].2.2 [109, 97, 120]
  have u3 := bytes_beq ts[k].2.2 [40]
  rw [show (ts[k].2.2 == [109, 105, 110]) = false by rw [ht]; rfl] at u1
  rw [show (ts[k].2.2 == [109, 97, 120]) = false by rw [ht]; rfl] at u2
  rw [show (ts[k].2.2 == [40]) = true by simpa using ht] at u3
  have hnx : nxt ts k = [40] := by rw [nxt_at ts k hk]; exact ht
  obtain ⟨hok1, hcl1⟩ := hex (k + 1) (by omega) (by omega)
  have hkc : ((k + 1 : Nat) : Int) = (k : Int) + 1 := by omega
  rw [hkc] at hcl1
  have HC := Lib.hid hcl1
  have HOK := Lib.hid hok1
  have HNX := Lib.hid hnx
  have HX := Lib.hid hx
  have HY := Lib.hid hy
  have HZ := Lib.hid hz
  clear h h' hb hx hy hz h2 h3 ht hex hok1 hcl1 hkc hnx
  generalize ts[k].1 = t' at *
  generalize ts[k].2.2 = t at *
  generalize ts[k].2.1 = t'' at *
  go_enter Tryz.func108, Tryz.ntmps108
  go_upto_region 1 with fail
  generalize ((w.alloc (.cells #[.slice (some ad) ts.length c, .int .i64 k, .bool false] 76)).alloc (.cells #[.slice none 0 0, .int .i64 0, .bool false] 76)).alloc (.cells #[.int .i64 0, .int .i64 0, .slice none 0 0] 24) = w1 at *
  go_upto_region 5 with fail
  have ha : Below w1.heap.size w1 (w1.alloc (.cells #[.int .i64 t', .int .i64 t'', .string (mk t)] 41)) := (Below.refl _ _).alloc (Nat.le_refl _) _
  have X2 := Lib.hid ((ha.block _ (Array.getElem?_eq_some_iff.1 HX.out).1).trans HX.out)
  have Y2 := Lib.hid ((ha.block _ (Array.getElem?_eq_some_iff.1 HY.out).1).trans HY.out)
  have Z2 := Lib.hid ((ha.block _ (Array.getElem?_eq_some_iff.1 HZ.out).1).trans HZ.out)
  have hn := World.alloc_heap_new w1 (.cells #[.int .i64 t', .int .i64 t'', .string (mk t)] 41)
  have B2 := Lib.hid (bthen' HB.out ha)
  have hlt : w.heap.size + 1 + 1 < w1.heap.size := (Array.getElem?_eq_some_iff.1 HZ.out).1
  clear ha HX HY HZ HB x0 x1 x2 y0 y1 y2 z0 z1 z2 f0 f1 f2 g0 g1 g2 i0 i1 i2 t0 t1 t2 H1
  generalize w1.alloc (.cells #[.int .i64 t', .int .i64 t'', .string (mk t)] 41) = w2 at *
  generalize w1.heap.size = b4 at *
  obtain ⟨x0, x1, x2, f0, f1, f2⟩ := three_cells X2.out
  obtain ⟨y0, y1, y2, g0, g1, g2⟩ := three_cells Y2.out
  obtain ⟨z0, z1, z2, i0, i1, i2⟩ := three_cells Z2.out
  obtain ⟨t0, t1, t2, _, _, _⟩ := three_cells hn
  have T2 := Lib.hid hn
  clear hn
  go_wp2_with fail
  refine (variable_any t _).mono ?_
  rintro e w3 ⟨rfl, rfl⟩
  generalize varOf t = vt at *
  have dv : decide (0 < vt) = false := by simpa using hv
  go_upto_region 21 with fail
  have X4 : (w2.setCell ⟨w.heap.size, 1, none⟩ (.int .i64 ((k : Int) + 1))).heap[w.heap.size]? = some (.cells #[.slice (some ad) ts.length c, .int .i64 ((k : Int) + 1), .bool false] 76 (0, 0)) := heap_set1 X2.out
  have Y4 := (Below.heap_setCell w2 ⟨w.heap.size, 1, none⟩ (.int .i64 ((k : Int) + 1)) (w.heap.size + 1) (by show w.heap.size + 1 ≠ w.heap.size; omega)).trans Y2.out
  have Z4 := (Below.heap_setCell w2 ⟨w.heap.size, 1, none⟩ (.int .i64 ((k : Int) + 1)) (w.heap.size + 1 + 1) (by show w.heap.size + 1 + 1 ≠ w.heap.size; omega)).trans Z2.out
  have T4 := (Below.heap_setCell w2 ⟨w.heap.size, 1, none⟩ (.int .i64 ((k : Int) + 1)) b4 (by show b4 ≠ w.heap.size; omega)).trans T2.out
  have B4 := Lib.hid (B2.out.setCell (p := ⟨w.heap.size, 1, none⟩) (Nat.le_refl _) (.int .i64 ((k : Int) + 1)))
  clear X2 Y2 Z2 T2 B2 x0 x1 x2 y0 y1 y2 z0 z1 z2 f0 f1 f2 g0 g1 g2 i0 i1 i2 t0 t1 t2
  generalize w2.setCell ⟨w.heap.size, 1, none⟩ (.int .i64 ((k : Int) + 1)) = w4 at *
  obtain ⟨x0, x1, x2, f0, f1, f2⟩ := three_cells X4
  obtain ⟨y0, y1, y2, g0, g1, g2⟩ := three_cells Y4
  obtain ⟨z0, z1, z2, i0, i1, i2⟩ := three_cells Z4
  obtain ⟨t0, t1, t2, _, _, _⟩ := three_cells T4
  have HY4 := Lib.hid Y4
  have HZ4 := Lib.hid Z4
  clear X4 Y4 Z4 T4
  clear z0 z1 z2 i0 i1 i2 y0 y1 y2 g0 g1 g2 t0 t1 t2 f0 f1 f2
  go_wp2_with fail
  refine (HC.out w4 (H0.out.on B4.out)).mono ?_
  intro e w5 hq
  obtain ⟨a, b, A2, n2, c2, rfl, hb, ht⟩ := hq.q
  obtain ⟨o1, ho1⟩ : ∃ o, o = ex (k + 1) := ⟨_, rfl⟩
  have hle : (stO o1).1 ≤ ts.length := by
    have := HOK.out
    rw [← ho1] at this
    cases o1 with
    | ok x j => exact this.2
    | no j => exact this.2
  rw [← ho1] at ht
  rw [← ho1]
  obtain ⟨s1, hs1⟩ : ∃ s, s = stO o1 := ⟨_, rfl⟩
  rw [← hs1] at hle ⊢
  have HB5 := Lib.hid hb
  have HT := Lib.hid ht
  have hz4 : w.heap.size + 1 + 1 < w4.heap.size := (Array.getElem?_eq_some_iff.1 HZ4.out).1
  obtain ⟨p2, hp2⟩ : ∃ p, p = musS ts [41] s1 := ⟨_, rfl⟩
  have hm : ∀ W, Tk W (.slice (some ad) ts.length c) ts → Calls Tryz.prog 77 #[.agg #[(.slice (some ad) ts.length c), .int .i64 (s1.1 : Nat), .bool s1.2], .string ⟨#[41]⟩] W fun e w' => e = .returned (.agg #[(.slice (some ad) ts.length c), .int .i64 (p2.1 : Nat), .bool p2.2]) ∧ Below W.heap.size W w' := fun W hW => by
    rw [hp2]; exact must_q W _ ts s1 [41] hW (by omega)
  have HM := Lib.hid hm
  have HP2 := Lib.hid hp2
  have HS1 := Lib.hid hs1
  have HO1 := Lib.hid ho1
  clear hq hb ht ho1 hs1 hp2 hm x0 x1 x2
  go_upto_region 22 with fail
  have b6 : Below w5.heap.size w5 ((w5.alloc (.cells #[.slice (some ad) ts.length c, .int .i64 (s1.1 : Nat), .bool s1.2] 76)).alloc (.cells #[.int .i64 a, .int .i64 b, .slice A2 n2 c2] 24)) := ((Below.refl _ _).alloc (Nat.le_refl _) _).alloc (by simp) _
  have hP6 : ((w5.alloc (.cells #[.slice (some ad) ts.length c, .int .i64 (s1.1 : Nat), .bool s1.2] 76)).alloc (.cells #[.int .i64 a, .int .i64 b, .slice A2 n2 c2] 24)).heap[w5.heap.size]? = some (.cells #[.slice (some ad) ts.length c, .int .i64 (s1.1 : Nat), .bool s1.2] 76 (0, 0)) := heap_on (World.alloc_heap_new w5 _) _
  have hE6 : ((w5.alloc (.cells #[.slice (some ad) ts.length c, .int .i64 (s1.1 : Nat), .bool s1.2] 76)).alloc (.cells #[.int .i64 a, .int .i64 b, .slice A2 n2 c2] 24)).heap[w5.heap.size + 1]? = some (.cells #[.int .i64 a, .int .i64 b, .slice A2 n2 c2] 24 (0, 0)) := by
    have := World.alloc_heap_new (w5.alloc (.cells #[.slice (some ad) ts.length c, .int .i64 (s1.1 : Nat), .bool s1.2] 76)) (.cells #[.int .i64 a, .int .i64 b, .slice A2 n2 c2] 24)
    simpa using this
  generalize (w5.alloc (.cells #[.slice (some ad) ts.length c, .int .i64 (s1.1 : Nat), .bool s1.2] 76)).alloc (.cells #[.int .i64 a, .int .i64 b, .slice A2 n2 c2] 24) = w6 at *
  have HB6 := Lib.hid b6
  have HP6 := Lib.hid hP6
  have HE6 := Lib.hid hE6
  have hs5 := HB5.out.size
  clear b6 hP6 hE6
  obtain ⟨x0, x1, x2, _, _, _⟩ := three_cells HP6.out
  obtain ⟨m0, m1, m2, _, _, _⟩ := three_cells HE6.out
  have l56 : w5.heap.size + 1 < w6.heap.size := (Array.getElem?_eq_some_iff.1 HE6.out).1
  have r1 : w5.heap.size ≠ w.heap.size + 1 := by omega
  have r2 : w5.heap.size ≠ w.heap.size + 1 + 1 := by omega
  have r3 : w.heap.size + 1 ≠ w5.heap.size := by omega
  have r4 : w.heap.size + 1 + 1 ≠ w5.heap.size := by omega
  have r5 : w5.heap.size + 1 ≠ w.heap.size + 1 := by omega
  have r6 : w5.heap.size + 1 ≠ w.heap.size + 1 + 1 := by omega
  have r7 : w.heap.size + 1 ≠ w5.heap.size + 1 := by omega
  have r8 : w.heap.size + 1 + 1 ≠ w5.heap.size + 1 := by omega
  have r9 : w5.heap.size ≠ w.heap.size := by omega
  have r10 : w.heap.size ≠ w5.heap.size := by omega
  have HT6 : Hid (Tk w6 (.slice (some ad) ts.length c) ts) := Lib.hid (H0.out.on (bthen' (bthen' B4.out HB5.out) HB6.out))
  have HT7 : Hid (Tk w6.drew (.slice (some ad) ts.length c) ts) := Lib.hid (HT6.out.on (Below.refl _ _).drew)
  go_region_held3 (fun w' => w'.cell? ⟨w5.heap.size, 0, none⟩ = some (.slice (some ad) ts.length c) ∧ w'.cell? ⟨w5.heap.size, 1, none⟩ = some (.int .i64 (s1.1 : Nat)) ∧ w'.cell? ⟨w5.heap.size, 2, none⟩ = some (.bool s1.2) ∧ w'.cell? ⟨w5.heap.size + 1, 0, none⟩ = some (.int .i64 a) ∧ w'.cell? ⟨w5.heap.size + 1, 1, none⟩ = some (.int .i64 b) ∧ w'.cell? ⟨w5.heap.size + 1, 2, none⟩ = some (.slice A2 n2 c2))
    (first | with_reducible exact ⟨x0, x1, x2, m0, m1, m2⟩ | with_reducible exact S7 | go_keep)
    ((go_at_call 77; (with_reducible refine (HM.out w6.drew HT7.out).mono ?_); rintro e w7 ⟨rfl, hb⟩; have hb7 : Below w6.heap.size w6 w7 := ((Below.refl _ _).drew).trans hb; have P7 := three_cells ((hb7.block _ (by omega)).trans HP6.out); have E7 := three_cells ((hb7.block _ (by omega)).trans HE6.out); have S7 := And.intro P7.1 (And.intro P7.2.1 (And.intro P7.2.2.1 (And.intro E7.1 (And.intro E7.2.1 E7.2.2.1)))); have b47 := bthen' HB5.out (bthen' HB6.out hb7); obtain ⟨y0, y1, y2, g0, g1, g2⟩ := three_cells ((b47.block _ (by omega)).trans HY4.out); obtain ⟨z0, z1, z2, i0, i1, i2⟩ := three_cells ((b47.block _ (by omega)).trans HZ4.out)))
  all_goals go_wp2_with fail
  all_goals
    refine bodyPost_ret (v := .tuple #[.agg #[(.slice (some ad) ts.length c), .int .i64 (p2.1 : Nat), .bool p2.2], .agg #[.int .i64 a, .int .i64 b, .slice A2 n2 c2]]) (by simp [results, Tryz.results108, go_sem, y0, y1, y2, z0, z1, z2]) rfl ?_
    have hfar : ∀ y, y ≠ w.heap.size + 1 → y ≠ w.heap.size + 1 + 1 → ((((((w7.setCell ⟨w.heap.size + 1, 0, none⟩ (.slice (some ad) ts.length c)).setCell ⟨w.heap.size + 1, 1, none⟩ (.int .i64 (p2.1 : Nat))).setCell ⟨w.heap.size + 1, 2, none⟩ (.bool p2.2)).setCell ⟨w.heap.size + 1 + 1, 0, none⟩ (.int .i64 a)).setCell ⟨w.heap.size + 1 + 1, 1, none⟩ (.int .i64 b)).setCell ⟨w.heap.size + 1 + 1, 2, none⟩ (.slice A2 n2 c2)).heap[y]? = w7.heap[y]? := fun y h1 h2 => (heap_far3 h2 _ _ _).trans (heap_far3 h1 _ _ _)
    have hsz : ((((((w7.setCell ⟨w.heap.size + 1, 0, none⟩ (.slice (some ad) ts.length c)).setCell ⟨w.heap.size + 1, 1, none⟩ (.int .i64 (p2.1 : Nat))).setCell ⟨w.heap.size + 1, 2, none⟩ (.bool p2.2)).setCell ⟨w.heap.size + 1 + 1, 0, none⟩ (.int .i64 a)).setCell ⟨w.heap.size + 1 + 1, 1, none⟩ (.int .i64 b)).setCell ⟨w.heap.size + 1 + 1, 2, none⟩ (.slice A2 n2 c2)).heap.size = w7.heap.size := (size_set3 _ _ _ _ _).trans (size_set3 _ _ _ _ _)
    have hs7 := hb7.size
    have q1 : w.heap.size ≤ w.heap.size + 1 := by omega
    have q2 : w.heap.size ≤ w.heap.size + 1 + 1 := by omega
    have hbf : Below w.heap.size w ((((((w7.setCell ⟨w.heap.size + 1, 0, none⟩ (.slice (some ad) ts.length c)).setCell ⟨w.heap.size + 1, 1, none⟩ (.int .i64 (p2.1 : Nat))).setCell ⟨w.heap.size + 1, 2, none⟩ (.bool p2.2)).setCell ⟨w.heap.size + 1 + 1, 0, none⟩ (.int .i64 a)).setCell ⟨w.heap.size + 1 + 1, 1, none⟩ (.int .i64 b)).setCell ⟨w.heap.size + 1 + 1, 2, none⟩ (.slice A2 n2 c2)) := ((((((bthen' B4.out b47).setCell (p := ⟨w.heap.size + 1, 0, none⟩) q1 _).setCell (p := ⟨w.heap.size + 1, 1, none⟩) q1 _).setCell (p := ⟨w.heap.size + 1, 2, none⟩) q1 _).setCell (p := ⟨w.heap.size + 1 + 1, 0, none⟩) q2 _).setCell (p := ⟨w.heap.size + 1 + 1, 1, none⟩) q2 _).setCell (p := ⟨w.heap.size + 1 + 1, 2, none⟩) q2 _
    have t1 : ∀ x j, o1 = .ok x j → a = x.1.1 ∧ b = x.1.2 ∧ n2 = flen x.2 ∧ FoD ((((((w7.setCell ⟨w.heap.size + 1, 0, none⟩ (.slice (some ad) ts.length c)).setCell ⟨w.heap.size + 1, 1, none⟩ (.int .i64 (p2.1 : Nat))).setCell ⟨w.heap.size + 1, 2, none⟩ (.bool p2.2)).setCell ⟨w.heap.size + 1 + 1, 0, none⟩ (.int .i64 a)).setCell ⟨w.heap.size + 1 + 1, 1, none⟩ (.int .i64 b)).setCell ⟨w.heap.size + 1 + 1, 2, none⟩ (.slice A2 n2 c2)) (fun y => w.heap.size ≤ y ∧ y < ((((((w7.setCell ⟨w.heap.size + 1, 0, none⟩ (.slice (some ad) ts.length c)).setCell ⟨w.heap.size + 1, 1, none⟩ (.int .i64 (p2.1 : Nat))).setCell ⟨w.heap.size + 1, 2, none⟩ (.bool p2.2)).setCell ⟨w.heap.size + 1 + 1, 0, none⟩ (.int .i64 a)).setCell ⟨w.heap.size + 1 + 1, 1, none⟩ (.int .i64 b)).setCell ⟨w.heap.size + 1 + 1, 2, none⟩ (.slice A2 n2 c2)).heap.size) (.slice A2 n2 c2) x.2 := fun x j e => by
      obtain ⟨e1, e2, e3, e4⟩ := HT.out x j e
      exact ⟨e1, e2, e3, e4.keep (fun b hb => ⟨by have := hb.1; omega, by rw [hsz]; have := hb.2; omega⟩) (fun b hb => (hfar b (by have := hb.1; omega) (by have := hb.1; omega)).trans ((hb7.block b (by have := hb.2; omega)).trans (HB6.out.block b hb.2)))⟩
    generalize ((((((w7.setCell ⟨w.heap.size + 1, 0, none⟩ (.slice (some ad) ts.length c)).setCell ⟨w.heap.size + 1, 1, none⟩ (.int .i64 (p2.1 : Nat))).setCell ⟨w.heap.size + 1, 2, none⟩ (.bool p2.2)).setCell ⟨w.heap.size + 1 + 1, 0, none⟩ (.int .i64 a)).setCell ⟨w.heap.size + 1 + 1, 1, none⟩ (.int .i64 b)).setCell ⟨w.heap.size + 1 + 1, 2, none⟩ (.slice A2 n2 c2)) = wf at *
    exact brk_fin (brk_eq ex ts k HNX.out HO1.out (by rw [HP2.out, HS1.out])) (fun hf => brk_ok HS1.out HP2.out hf) hbf t1
end Go.Proofs.YtomnjamldbficaaGreatDoor
namespace Go.Proofs.YtomnjamldbficaaGreatDoor
open Go.RowKit Lx Px
def atomO (ex : Nat → Out) (ts : List Tok) (k : Nat) : Out :=
  if k < ts.length then
    (if kindOf (nxt ts k) = 2 then .ok ((1, dval (nxt ts k)), .nil) (k + 1)
    else if kindOf (nxt ts k) = 3 then .ok ((2, dval (nxt ts k)), .nil) (k + 1)
    else if 0 < varOf (nxt ts k) then .ok ((3, varOf (nxt ts k)), .nil) (k + 1)
    else if 0 < bothOf (nxt ts k) then twoO ex ts (bothOf (nxt ts k)) (k + 1)
    else brkO ex ts k)
  else .no k
theorem atom8_any (w : World) (v : Value) (ts : List Tok) (ex : Nat → Out) (k : Nat) (h : Tk w v ts)
    (hex : ∀ k', k < k' → k' ≤ ts.length → okK ts k' (ex k') ∧ ∀ W, Tk W v ts → Calls Tryz.prog 41 #[.agg #[v, .int .i64 (k' : Nat), .bool false]] W (RfP v (ex k') W)) :
    Calls Tryz.prog 108 #[.agg #[v, .int .i64 k, .bool false]] w (RfP v (atomO ex ts k) w) := by
  unfold atomO
  by_cases hk : k < ts.length
  · rw [if_pos hk, nxt_at ts k hk]
    have hki := (h.2.2 ts[k] (List.getElem_mem hk)).1
    by_cases h2 : kindOf ts[k].2.2 = 2
    · rw [if_pos h2]
      exact atom_num w v ts k hk (by rw [hki]; exact h2) h
    rw [if_neg h2]
    by_cases h3 : kindOf ts[k].2.2 = 3
    · rw [if_pos h3]
      exact atom_money w v ts k hk (by rw [hki]; exact h3) h
    rw [if_neg h3]
    have g2 : ts[k].1 ≠ 2 := by rw [hki]; exact h2
    have g3 : ts[k].1 ≠ 3 := by rw [hki]; exact h3
    by_cases hv : 0 < varOf ts[k].2.2
    · rw [if_pos hv]
      exact atom_var w v ts k hk g2 g3 hv h
    rw [if_neg hv]
    by_cases h8 : ts[k].2.2 = [109, 105, 110]
    · have e : bothOf ts[k].2.2 = 8 := by rw [h8]; rfl
      rw [e, if_pos (by decide)]
      exact atom_min w v ts k hk ex g2 g3 hv h8 hex h
    by_cases h9 : ts[k].2.2 = [109, 97, 120]
    · have e : bothOf ts[k].2.2 = 9 := by rw [h9]; rfl
      rw [e, if_pos (by decide)]
      exact atom_max w v ts k hk ex g2 g3 hv h9 hex h
    have e : bothOf ts[k].2.2 = 0 := by unfold bothOf; rw [if_neg h8, if_neg h9]
    rw [e, if_neg (by decide)]
    by_cases hb : ts[k].2.2 = [40]
    · exact atom_brk w v ts k hk ex g2 g3 hv hb hex h
    · have : brkO ex ts k = .no k := by unfold brkO mstO; rw [if_neg (by rw [nxt_at ts k hk]; exact hb)]
      rw [this]
      exact atom_no w v ts k hk g2 g3 hv h8 h9 hb h
  · rw [if_neg hk]
    exact atom_end w v ts k hk h
end Go.Proofs.YtomnjamldbficaaGreatDoor
namespace Go.Proofs.YtomnjamldbficaaGreatDoor
open Go.RowKit Lx Px
theorem atomO_rd {ts : List Tok} {ex : Nat → Out} {k : Nat} (hk : k ≤ ts.length) (he : ∀ k', k < k' → k' ≤ ts.length → Rd 0 none (txt ts k') ((ex k').res ts) ∧ okK ts k' (ex k')) :
    Rd 6 none (txt ts k) ((atomO ex ts k).res ts) ∧ okK ts k (atomO ex ts k) := by
  unfold atomO
  by_cases hlt : k < ts.length
  · rw [if_pos hlt]
    have htx := txt_nxt hlt
    by_cases h2 : kindOf (nxt ts k) = 2
    · rw [if_pos h2, htx]; exact ⟨Rd_num (txt ts (k + 1)) h2, ⟨by omega, by omega⟩⟩
    rw [if_neg h2]
    by_cases h3 : kindOf (nxt ts k) = 3
    · rw [if_pos h3, htx]; exact ⟨Rd_mon (txt ts (k + 1)) h3, ⟨by omega, by omega⟩⟩
    rw [if_neg h3]
    by_cases hv : 0 < varOf (nxt ts k)
    · rw [if_pos hv, htx]; exact ⟨Rd_var' (txt ts (k + 1)) h2 h3 hv, ⟨by omega, by omega⟩⟩
    rw [if_neg hv]
    by_cases hb : 0 < bothOf (nxt ts k)
    · rw [if_pos hb, htx]
      unfold twoO mstO
      by_cases hp : nxt ts (k + 1) = [40]
      · have hltp := nxt_lt hp (by decide)
        have htxp : txt ts (k + 1) = [40] :: txt ts (k + 1 + 1) := by rw [txt_nxt hltp, hp]
        obtain ⟨hr1, ho1⟩ := he (k + 1 + 1) (by omega) (by omega)
        rw [if_pos hp, htxp]
        dsimp only
        cases hex1 : ex (k + 1 + 1) with
        | no k2 =>
          rw [hex1] at hr1 ho1
          exact ⟨Rd_both_of h2 h3 hv hb (Ev_mst (Ev_bnd_no hr1)), ⟨by have := ho1.1; omega, ho1.2⟩⟩
        | ok a k1 =>
          rw [hex1] at hr1 ho1
          have h11 := ho1.1
          have h12 := ho1.2
          simp only [bndO]
          by_cases hm : nxt ts k1 = [44]
          · have hlt1 := nxt_lt hm (by decide)
            have htx1 : txt ts k1 = [44] :: txt ts (k1 + 1) := by rw [txt_nxt hlt1, hm]
            have hr1' : Rd 0 none (txt ts (k + 1 + 1)) (.ok a ([44] :: txt ts (k1 + 1))) := by rw [← htx1]; exact hr1
            obtain ⟨hr2, ho2⟩ := he (k1 + 1) (by omega) (by omega)
            rw [if_pos hm]
            cases hex2 : ex (k1 + 1) with
            | no k2 =>
              rw [hex2] at hr2 ho2
              exact ⟨Rd_both_of h2 h3 hv hb (Ev_mst (Ev_bnd hr1' (Ev_mst (Ev_bnd_no hr2)))), ⟨by have := ho2.1; omega, ho2.2⟩⟩
            | ok b k2 =>
              rw [hex2] at hr2 ho2
              have h21 := ho2.1
              have h22 := ho2.2
              dsimp only
              by_cases hq : nxt ts k2 = [41]
              · have hlt2 := nxt_lt hq (by decide)
                have htx2 : txt ts k2 = [41] :: txt ts (k2 + 1) := by rw [txt_nxt hlt2, hq]
                have hr2' : Rd 0 none (txt ts (k1 + 1)) (.ok b ([41] :: txt ts (k2 + 1))) := by rw [← htx2]; exact hr2
                rw [if_pos hq]
                exact ⟨Rd_both_of h2 h3 hv hb (Ev_mst (Ev_bnd hr1' (Ev_mst (Ev_bnd hr2' (Ev_mst (Ev_pure _)))))), ⟨by omega, by omega⟩⟩
              · rw [if_neg hq]
                exact ⟨Rd_both_of h2 h3 hv hb (Ev_mst (Ev_bnd hr1' (Ev_mst (Ev_bnd hr2 (Ev_mst_no (head_ne hq)))))), ⟨by omega, h22⟩⟩
          · rw [if_neg hm]
            exact ⟨Rd_both_of h2 h3 hv hb (Ev_mst (Ev_bnd hr1 (Ev_mst_no (head_ne hm)))), ⟨by omega, h12⟩⟩
      · rw [if_neg hp]
        exact ⟨Rd_both_of h2 h3 hv hb (Ev_mst_no (head_ne hp)), ⟨by omega, by omega⟩⟩
    · rw [if_neg hb, htx]
      unfold brkO mstO
      by_cases hp : nxt ts k = [40]
      · obtain ⟨hr1, ho1⟩ := he (k + 1) (by omega) (by omega)
        rw [if_pos hp]
        dsimp only
        cases hex1 : ex (k + 1) with
        | no k2 =>
          rw [hex1] at hr1 ho1
          exact ⟨Rd_brk_of h2 h3 hv hb (by rw [hp]; exact Ev_mst (Ev_bnd_no hr1)), ⟨by have := ho1.1; omega, ho1.2⟩⟩
        | ok a k1 =>
          rw [hex1] at hr1 ho1
          have h11 := ho1.1
          have h12 := ho1.2
          simp only [bndO]
          by_cases hq : nxt ts k1 = [41]
          · have hlt2 := nxt_lt hq (by decide)
            have htx2 : txt ts k1 = [41] :: txt ts (k1 + 1) := by rw [txt_nxt hlt2, hq]
            have hr1' : Rd 0 none (txt ts (k + 1)) (.ok a ([41] :: txt ts (k1 + 1))) := by rw [← htx2]; exact hr1
            rw [if_pos hq]
            exact ⟨Rd_brk_of h2 h3 hv hb (by rw [hp]; exact Ev_mst (Ev_bnd hr1' (Ev_mst (Ev_pure _)))), ⟨by omega, by omega⟩⟩
          · rw [if_neg hq]
            exact ⟨Rd_brk_of h2 h3 hv hb (by rw [hp]; exact Ev_mst (Ev_bnd hr1 (Ev_mst_no (head_ne hq)))), ⟨by omega, h12⟩⟩
      · rw [if_neg hp]
        exact ⟨Rd_brk_of h2 h3 hv hb (by rw [← htx]; exact Ev_mst_no (head_ne hp)), ⟨by omega, by omega⟩⟩
  · rw [if_neg hlt]
    refine ⟨?_, ⟨by omega, by omega⟩⟩
    show Rd 6 none (txt ts k) (.no (txt ts k))
    rw [txt_end ts k (by omega)]
    exact Rd_atom_nil
end Go.Proofs.YtomnjamldbficaaGreatDoor
namespace Go.Proofs.YtomnjamldbficaaGreatDoor
open Go.RowKit Lx Px
set_option maxRecDepth 100000 in
set_option maxHeartbeats 1000000 in
theorem level6_any (w : World) (v : Value) (ts : List Tok) (k : Nat) (o : Out) (h : Tk w v ts) (ha : ∀ W, Tk W v ts → Calls Tryz.prog 108 #[.agg #[v, .int .i64 k, .bool false]] W (RfP v o W)) :
    Calls Tryz.prog 76 #[.agg #[v, .int .i64 k, .bool false], .int .i64 6] w (RfP v o w) := by
  have h' := h
  obtain ⟨A, c, rfl, _⟩ := h'.1
  have hl := h.2.1
  obtain ⟨hx, hy, hz, hb⟩ := boxes3 w (.cells #[.slice A ts.length c, .int .i64 k, .bool false] 76) (.cells #[.slice none 0 0, .int .i64 0, .bool false] 76) (.cells #[.int .i64 0, .int .i64 0, .slice none 0 0] 24)
  have H0 := Lib.hid h
  have H1 := Lib.hid (h.on hb)
  have HB := Lib.hid hb
  have HX := Lib.hid hx
  have HY := Lib.hid hy
  have HZ := Lib.hid hz
  have HA := Lib.hid ha
  clear h h' hb hx hy hz ha
  go_enter Tryz.func76, Tryz.ntmps76
  go_upto_region 1 with fail
  generalize ((w.alloc (.cells #[.slice A ts.length c, .int .i64 k, .bool false] 76)).alloc (.cells #[.slice none 0 0, .int .i64 0, .bool false] 76)).alloc (.cells #[.int .i64 0, .int .i64 0, .slice none 0 0] 24) = w1 at *
  obtain ⟨x0, x1, x2, _, _, _⟩ := three_cells HX.out
  go_wp2_with fail
  refine (HA.out w1 H1.out).mono ?_
  intro e w2 hq
  obtain ⟨a, b, A2, n2, c2, rfl, hb, ht⟩ := hq.q
  have Y2 := (hb.block _ (Array.getElem?_eq_some_iff.1 HY.out).1).trans HY.out
  have Z2 := (hb.block _ (Array.getElem?_eq_some_iff.1 HZ.out).1).trans HZ.out
  have hlt : w.heap.size + 1 + 1 < w1.heap.size := (Array.getElem?_eq_some_iff.1 HZ.out).1
  have HQ := Lib.hid (ret_q (v := .slice A ts.length c) HB.out hlt hb ht)
  clear hq hb ht HX HY HZ HB H1 x0 x1 x2
  obtain ⟨y0, y1, y2, g0, g1, g2⟩ := three_cells Y2
  obtain ⟨z0, z1, z2, i0, i1, i2⟩ := three_cells Z2
  clear Y2 Z2
  go_wp2_with fail
  refine bodyPost_ret (v := .tuple #[.agg #[.slice A ts.length c, .int .i64 ((stO o).1 : Nat), .bool (stO o).2], .agg #[.int .i64 a, .int .i64 b, .slice A2 n2 c2]]) (by simp [results, Tryz.results76, go_sem, y0, y1, y2, z0, z1, z2]) rfl ?_
  exact HQ.out
end Go.Proofs.YtomnjamldbficaaGreatDoor
