/-
  Walks: the statement ParserNumbers: it returns true.
-/
import Derived.Test.YtomnjamldbficaaGreatDoorParHd8
import Derived.Test.YtomnjamldbficaaGreatDoorParShow
import Derived.Test.YtomnjamldbficaaGreatDoorParSrcN
import Derived.Test.YtomnjamldbficaaGreatDoorParRMake
namespace Go.Proofs.YtomnjamldbficaaGreatDoor
open Go.RowKit Lx Px
theorem mk_app (a b : Bytes) : mk a ++ mk b = mk (a ++ b) := by rw [← mk_bl (mk a ++ mk b)]; simp [bl, mk, ByteArray.data_append]
theorem cells_six {w w' : World} {a b : Nat} {x0 x1 x2 x3 x4 x5 : Value} (hb : Below w.heap.size w w') (ha : a < w.heap.size) (hb2 : b < w.heap.size)
    (h : w.cell? ⟨a, 0, none⟩ = some x0 ∧ w.cell? ⟨a, 1, none⟩ = some x1 ∧ w.cell? ⟨a, 2, none⟩ = some x2 ∧ w.cell? ⟨b, 0, none⟩ = some x3 ∧ w.cell? ⟨b, 1, none⟩ = some x4 ∧ w.cell? ⟨b, 2, none⟩ = some x5) :
    w'.cell? ⟨a, 0, none⟩ = some x0 ∧ w'.cell? ⟨a, 1, none⟩ = some x1 ∧ w'.cell? ⟨a, 2, none⟩ = some x2 ∧ w'.cell? ⟨b, 0, none⟩ = some x3 ∧ w'.cell? ⟨b, 1, none⟩ = some x4 ∧ w'.cell? ⟨b, 2, none⟩ = some x5 := by
  obtain ⟨h0, h1, h2, h3, h4, h5⟩ := h
  exact ⟨(hb.cell (p := ⟨a, 0, none⟩) ha).trans h0, (hb.cell (p := ⟨a, 1, none⟩) ha).trans h1, (hb.cell (p := ⟨a, 2, none⟩) ha).trans h2, (hb.cell (p := ⟨b, 0, none⟩) hb2).trans h3, (hb.cell (p := ⟨b, 1, none⟩) hb2).trans h4, (hb.cell (p := ⟨b, 2, none⟩) hb2).trans h5⟩
/-- the words of the source -/
def wdN : Nat → Bytes
  | 0 => [114, 97, 116, 101]
  | 1 => [32, 108, 101, 118, 101, 108]
  | 2 => [32, 107, 105, 110, 100]
  | 3 => [32, 110, 105, 103, 104, 116, 115]
  | 4 => [32, 116, 111]
  | 5 => [32, 115, 116, 97, 121]
  | 6 => [32, 116, 111]
  | _ => [32, 97, 114, 114, 105, 118, 101]
def preN (m : Nat → Int) : Nat → Bytes
  | 0 => []
  | k + 1 => preN m k ++ (wdN k ++ [32] ++ dec (m k))
/-- the cells of the numbers, k of them reckoned -/
def celN (m : Nat → Int) (k : Nat) : List Value := (List.range 8).map fun j => .int .i64 (if j < k then m j else 0)
def argN (a : Nat → Int) : List Value := (List.range 8).map fun j => .int .u32 (a j)
theorem argN_get (a : Nat → Int) (k : Nat) (h : k < 8) : (argN a)[k]? = some (.int .u32 (a k)) := by simp [argN, h]
theorem celN_set (m : Nat → Int) (k : Nat) : (celN m k).set k (.int .i64 (m k)) = celN m (k + 1) := by
  apply List.ext_getElem (by simp [celN])
  intro i h1 h2
  simp only [celN, List.getElem_set, List.getElem_map, List.getElem_range]
  by_cases he : k = i
  · subst he; rw [if_pos rfl, if_pos (by omega)]
  · rw [if_neg he]
    by_cases hi : i < k
    · rw [if_pos hi, if_pos (by omega)]
    · rw [if_neg hi, if_neg (by omega)]
theorem celN_get (m : Nat → Int) (k : Nat) (h : k < 8) : (celN m 8)[k]? = some (.int .i64 (m k)) := by simp [celN, h]
theorem preN_len (m : Nat → Int) (hm : ∀ j, j < 8 → 0 ≤ m j ∧ m j ≤ 999999999) : ∀ k, k ≤ 8 → (preN m k).length ≤ 21 * k := by
  intro k
  induction k with
  | zero => intro _; simp [preN]
  | succ k ih =>
    intro h
    have h1 := ih (by omega)
    have h2 := items_dec_len (m k) (hm k (by omega)).1 (hm k (by omega)).2
    have h3 : (wdN k).length ≤ 7 := by
      unfold wdN
      split <;> simp
    simp only [preN, List.length_append, List.length_cons, List.length_nil]
    omega
theorem srcN_is (m : Nat → Int) (k : Int) (o1 n1 : Int) (l1 : Fo) (o2 n2 : Int) (l2 : Fo) :
    preN m 8 ++ ([32, 107, 101, 101, 112, 32] ++ dec k ++ [37, 32, 119, 104, 101, 110, 32] ++ showE o1 n1 l1 ++ [32, 112, 114, 105, 99, 101, 32] ++ showE o2 n2 l2 ++ [32, 59])
      = srcN ⟨m 0, m 1, m 2, m 3, m 4, m 5, m 6, m 7, k, ((o1, n1), l1), ((o2, n2), l2)⟩ := by
  simp [preN, wdN, srcN, kRate, kLevel, kKind, kNights, kTo, kStay, kArrive, kKeep, kWhen, kPrice]
set_option maxRecDepth 100000 in
set_option maxHeartbeats 8000000 in
theorem law16_any (a : Nat → Int) (kv : Int) (op1 n1 : Int) (l1 : Fo) (A1 : Option Addr) (c1 : Nat) (op2 n2 : Int) (l2 : Fo) (A2 : Option Addr) (c2 : Nat) (w : World)
    (ha : ∀ j, j < 8 → 0 ≤ a j ∧ a j ≤ 4294967295) (hk0 : 0 ≤ kv ∧ kv ≤ 4294967295)
    (hv1 : FoV w w.heap.size (.slice A1 (flen l1) c1) l1) (hv2 : FoV w w.heap.size (.slice A2 (flen l2) c2) l2) (hM : Mx w w.heap.size) :
    Calls Tryz.prog 8 #[.agg (argN a).toArray, .int .u32 kv, .agg #[.int .i64 op1, .int .i64 n1, .slice A1 (flen l1) c1], .agg #[.int .i64 op2, .int .i64 n2, .slice A2 (flen l2) c2]] w fun e w' => e = .returned (.bool true) ∧ Below w.heap.size w w' := by
  have HM := Lib.hid hM
  have HV1 := Lib.hid hv1
  have HV2 := Lib.hid hv2
  obtain ⟨xs, hxs⟩ : ∃ xs, xs = argN a := ⟨_, rfl⟩
  rw [← hxs]
  have HXS := Lib.hid hxs
  have HAR := Lib.hid ha
  clear hM hv1 hv2 hxs ha
  go_enter Tryz.func8, Tryz.ntmps8
  go_upto_region 1 with fail
  have hb0 := (Below.refl w.heap.size w).alloc (Nat.le_refl _) (.cells xs.toArray 56)
  have hx0 := World.alloc_heap_new w (.cells xs.toArray 56)
  obtain ⟨b1, eb1⟩ : ∃ b, b = w.heap.size + 1 := ⟨_, rfl⟩
  obtain ⟨b2, eb2⟩ : ∃ b, b = w.heap.size + 1 + 1 := ⟨_, rfl⟩
  rw [← eb2, ← eb1]
  have s1 : (w.alloc (.cells xs.toArray 56)).heap.size = b1 := by simp [eb1]
  generalize w.alloc (.cells xs.toArray 56) = wa at *
  have hla : w.heap.size < wa.heap.size := (Array.getElem?_eq_some_iff.1 hx0).1
  have hb1 := (Below.refl wa.heap.size wa).alloc (Nat.le_refl _) (.cells #[.int .i64 op1, .int .i64 n1, .slice A1 (flen l1) c1] 24)
  have hx1 := World.alloc_heap_new wa (.cells #[.int .i64 op1, .int .i64 n1, .slice A1 (flen l1) c1] 24)
  have s2 : (wa.alloc (.cells #[.int .i64 op1, .int .i64 n1, .slice A1 (flen l1) c1] 24)).heap.size = b2 := by simp [s1, eb1, eb2]
  have hx0' := (hb1.block _ hla).trans hx0
  have hb01 := bthen' hb0 hb1
  rw [s1] at hx1
  clear hx0 hb0 hb1
  generalize wa.alloc (.cells #[.int .i64 op1, .int .i64 n1, .slice A1 (flen l1) c1] 24) = wb at *
  have hlb : b1 < wb.heap.size := (Array.getElem?_eq_some_iff.1 hx1).1
  have hb2 := (Below.refl wb.heap.size wb).alloc (Nat.le_refl _) (.cells #[.int .i64 op2, .int .i64 n2, .slice A2 (flen l2) c2] 24)
  have hx2 := World.alloc_heap_new wb (.cells #[.int .i64 op2, .int .i64 n2, .slice A2 (flen l2) c2] 24)
  have X0 := Lib.hid ((hb2.block _ (by omega)).trans hx0')
  have X1 := Lib.hid ((hb2.block _ hlb).trans hx1)
  rw [s2] at hx2
  have X2 := Lib.hid hx2
  have B2 := Lib.hid (bthen' hb01 hb2)
  clear hx0' hx1 hx2 hb01 hb2 s1 s2 hla hlb
  generalize wb.alloc (.cells #[.int .i64 op2, .int .i64 n2, .slice A2 (flen l2) c2] 24) = wc at *
  have g1 : w.heap.size < b1 := by omega
  have g2 : b1 < b2 := by omega
  clear eb1 eb2
  go_wp2_with fail
  refine (head8_any _ (mx_up HM.out B2.out)).mono ?_
  rintro e w2 ⟨rfl, hb⟩
  have Y0 := Lib.hid ((hb.block _ (Array.getElem?_eq_some_iff.1 X0.out).1).trans X0.out)
  have Y1 := Lib.hid ((hb.block _ (Array.getElem?_eq_some_iff.1 X1.out).1).trans X1.out)
  have Y2 := Lib.hid ((hb.block _ (Array.getElem?_eq_some_iff.1 X2.out).1).trans X2.out)
  have B3 := Lib.hid (bthen' B2.out hb)
  clear hb X0 X1 X2 B2
  have p0 : w2.cell? ⟨b1, 0, none⟩ = some (.int .i64 op1) := by rw [Lib.cell_of_heap Y1.out]; rfl
  have p1 : w2.cell? ⟨b1, 1, none⟩ = some (.int .i64 n1) := by rw [Lib.cell_of_heap Y1.out]; rfl
  have p2 : w2.cell? ⟨b1, 2, none⟩ = some (.slice A1 (flen l1) c1) := by rw [Lib.cell_of_heap Y1.out]; rfl
  have q0 : w2.cell? ⟨b2, 0, none⟩ = some (.int .i64 op2) := by rw [Lib.cell_of_heap Y2.out]; rfl
  have q1 : w2.cell? ⟨b2, 1, none⟩ = some (.int .i64 n2) := by rw [Lib.cell_of_heap Y2.out]; rfl
  have q2 : w2.cell? ⟨b2, 2, none⟩ = some (.slice A2 (flen l2) c2) := by rw [Lib.cell_of_heap Y2.out]; rfl
  go_wp2_with fail
  have hF1 := ((HV1.out.on B3.out).up B3.out.size)
  have hF2 := ((HV2.out.on B3.out).up B3.out.size)
  have hfo := fo_two (w := w2) (a0 := op1) (a1 := n1) (b0 := op2) (b1 := n2) hF1 hF2
  have hbl := (Below.refl w2.heap.size w2).alloc (Nat.le_refl _) (.cells #[.int .i64 op1, .int .i64 n1, .slice A1 (flen l1) c1, .int .i64 op2, .int .i64 n2, .slice A2 (flen l2) c2] 24)
  refine (small_any _ _ _ _ hfo (Nat.le_refl _) (by simp [flen])).mono ?_
  rintro e w3 ⟨rfl, hb⟩
  have hb4 := bthen' hbl hb
  have Z0 := Lib.hid ((hb4.block _ (Array.getElem?_eq_some_iff.1 Y0.out).1).trans Y0.out)
  have Z1 := Lib.hid ((hb4.block _ (Array.getElem?_eq_some_iff.1 Y1.out).1).trans Y1.out)
  have Z2 := Lib.hid ((hb4.block _ (Array.getElem?_eq_some_iff.1 Y2.out).1).trans Y2.out)
  have B4 := Lib.hid (bthen' B3.out hb4)
  clear hb hbl hfo hF1 hF2 hb4 Y0 Y1 Y2 B3 p0 p1 p2 q0 q1 q2
  cases hsm : smallF (.node 0 0 (op1, n1) l1 (.node 0 0 (op2, n2) l2 .nil)) with
  | false =>
    go_wp2_with fail
    go_ret
    exact ⟨rfl, B4.out⟩
  | true =>
  simp only [smallF, Bool.and_eq_true] at hsm
  have HSM := Lib.hid hsm
  clear hsm
  obtain ⟨m, hm⟩ : ∃ m : Nat → Int, m = fun j => (a j).tmod 1000000000 := ⟨_, rfl⟩
  have hmb : ∀ j, j < 8 → 0 ≤ m j ∧ m j ≤ 999999999 := fun j hj => by
    have := HAR.out j hj
    rw [hm]
    dsimp only
    rw [Int.tmod_eq_emod_of_nonneg this.1]
    omega
  have HMB := Lib.hid hmb
  have HME := Lib.hid hm
  clear hm hmb
  go_upto_region 5 with fail
  have hbn := (Below.refl w3.heap.size w3).alloc (Nat.le_refl _) (.cells (celN m 0).toArray 57)
  have hxn := World.alloc_heap_new w3 (.cells (celN m 0).toArray 57)
  have hgl : w3.heap.size < (w3.alloc (.cells (celN m 0).toArray 57)).heap.size := (Array.getElem?_eq_some_iff.1 hxn).1
  change Code.wp _ _ _ _ (w3.alloc (.cells (celN m 0).toArray 57))
  obtain ⟨g, eg⟩ : ∃ g, g = w3.heap.size := ⟨_, rfl⟩
  rw [← eg] at hbn hxn hgl ⊢
  have hgw : w.heap.size ≤ g := by have := B4.out.size; omega
  have hl0 : w.heap.size < g := by have := (Array.getElem?_eq_some_iff.1 Z0.out).1; omega
  have hl1 : b1 < g := by have := (Array.getElem?_eq_some_iff.1 Z1.out).1; omega
  have hl2 : b2 < g := by have := (Array.getElem?_eq_some_iff.1 Z2.out).1; omega
  have U0 := Lib.hid ((hbn.block _ (by omega)).trans Z0.out)
  have U1 := Lib.hid ((hbn.block _ (by omega)).trans Z1.out)
  have U2 := Lib.hid ((hbn.block _ (by omega)).trans Z2.out)
  have B5 := Lib.hid (B4.out.trans (hbn.mono hgw))
  have XN := Lib.hid hxn
  clear hbn hxn Z0 Z1 Z2 B4 eg
  generalize w3.alloc (.cells (celN m 0).toArray 57) = w4 at *
  go_wp2_with fail
  go_loopw [11] (fun i wr => ∃ k : Nat, k ≤ 8 ∧ i = .int .i64 k ∧ Below g w4 wr ∧ wr.heap[g]? = some (.cells (celN m k).toArray 57 (0, 0))) (fun i _ => 8 - (intOf i).toNat)
  case atStart => exact ⟨0, by omega, rfl, Below.refl _ _, XN.out⟩
  case round =>
    obtain ⟨k, hk, rfl, hbl, hX⟩ := hrel
    by_cases hkl : k < 8
    · have dk : ((k : Int) < 8) := by omega
      have c0 : wr.cell? ⟨w.heap.size, k, none⟩ = some (.int .u32 (a k)) := by
        rw [hbl.cell (p := ⟨w.heap.size, k, none⟩) hl0, Lib.cell_of_heap U0.out, HXS.out]
        simpa using argN_get a k hkl
      have c1 : wr.cell? ⟨g, k, none⟩ = some (.int .i64 (if k < k then m k else 0)) := by
        rw [Lib.cell_of_heap hX]
        simp [celN, hkl]
      have f1 := Lib.frozen_of_heap hX k
      have hmk := HMB.out k hkl
      have hw := IntWalk.i64_in (m k) (by omega)
      have ht : (a k).tmod 1000000000 = m k := by rw [HME.out]
      have hnew := celN_set m k
      have HN := Lib.hid hnew
      have HX := Lib.hid hX
      have HBL := Lib.hid hbl
      clear hnew hX hbl
      go_wp2_with fail
      refine ⟨⟨k + 1, by omega, by go_num, HBL.out.setCell (p := ⟨g, k, none⟩) (Nat.le_refl _) _, ?_⟩, by simp [intOf]; omega⟩
      rw [heap_set HX.out, ← HN.out]
      simp
    · obtain rfl : k = 8 := by omega
      have hg5 : g < wr.heap.size := (Array.getElem?_eq_some_iff.1 hX).1
      have hbg : Below w.heap.size w wr := B5.out.trans (hbl.mono hgw)
      have V1 := (hbl.block b1 hl1).trans U1.out
      have V2 := (hbl.block b2 hl2).trans U2.out
      have hbs := (Below.refl wr.heap.size wr).alloc (Nat.le_refl _) (.cells ((List.range 8).map fun j => Value.string (mk (wdN j))).toArray 9)
      have hxs := World.alloc_heap_new wr (.cells ((List.range 8).map fun j => Value.string (mk (wdN j))).toArray 9)
      have Y0 := Lib.hid ((hbs.block _ hg5).trans hX)
      have Y1 := Lib.hid ((hbs.block _ (by omega)).trans V1)
      have Y2 := Lib.hid ((hbs.block _ (by omega)).trans V2)
      have YS := Lib.hid hxs
      have B6 := Lib.hid (bthen' hbg hbs)
      clear V1 V2 hbg hX hbl hbs U0 U1 U2 B5 XN
      go_upto_region 10 with fail
      change Code.wp _ _ _ _ (wr.alloc (.cells ((List.range 8).map fun j => Value.string (mk (wdN j))).toArray 9))
      have hgs : wr.heap.size < (wr.alloc (.cells ((List.range 8).map fun j => Value.string (mk (wdN j))).toArray 9)).heap.size := (Array.getElem?_eq_some_iff.1 YS.out).1
      generalize wr.alloc (.cells ((List.range 8).map fun j => Value.string (mk (wdN j))).toArray 9) = w5 at *
      generalize wr.heap.size = gs at *
      have hg6 : g < w5.heap.size := by omega
      go_wp2_with fail
      go_loopw [13, 14] (fun s i w' => ∃ k : Nat, k ≤ 8 ∧ i = .int .i64 k ∧ s = .string (mk (preN m k)) ∧ Below w5.heap.size w5 w') (fun _ i _ => 8 - (intOf i).toNat)
      case atStart => exact ⟨0, by omega, rfl, rfl, Below.refl _ _⟩
      case round =>
        obtain ⟨k, hk, rfl, rfl, hbl⟩ := hrel
        by_cases hkl : k < 8
        · have dk : ((k : Int) < 8) := by omega
          have cs : wr.cell? ⟨gs, k, none⟩ = some (.string (mk (wdN k))) := by
            rw [hbl.cell (p := ⟨gs, k, none⟩) hgs, Lib.cell_of_heap YS.out]
            simp [hkl]
          have cn : wr.cell? ⟨g, k, none⟩ = some (.int .i64 (m k)) := by
            rw [hbl.cell (p := ⟨g, k, none⟩) hg6, Lib.cell_of_heap Y0.out]
            simpa using celN_get m k hkl
          have hmk := HMB.out k hkl
          have hpl := preN_len m HMB.out k (by omega)
          have hdl := items_dec_len (m k) hmk.1 hmk.2
          have hwl : (wdN k).length ≤ 7 := by
            unfold wdN
            split <;> simp
          have hnew : mk (preN m k) ++ (mk (wdN k) ++ (⟨#[32]⟩ : ByteArray) ++ mk (dec (m k))) = mk (preN m (k + 1)) := by
            rw [show (⟨#[32]⟩ : ByteArray) = mk [32] from rfl, mk_app, mk_app, mk_app]; rfl
          have z1 : (mk (preN m k)).size ≤ 200 := by rw [size_mk]; omega
          have z2 : (mk (dec (m k))).size ≤ 13 := by rw [size_mk]; omega
          have z3 : (mk (wdN k)).size ≤ 7 := by rw [size_mk]; omega
          obtain ⟨mk', emk⟩ : ∃ x, x = m k := ⟨_, rfl⟩
          rw [← emk] at cn hmk hdl hnew z2
          have hnx : mk (preN m k) ++ (mk (wdN k) ++ (⟨#[32]⟩ : ByteArray) ++ mk (dec mk')) = mk (preN m (k + 1)) := hnew
          obtain ⟨D, eD⟩ : ∃ x, x = mk (dec mk') := ⟨_, rfl⟩
          obtain ⟨T, eT⟩ : ∃ x, x = mk (wdN k) := ⟨_, rfl⟩
          obtain ⟨S, eS⟩ : ∃ x, x = mk (preN m k) := ⟨_, rfl⟩
          rw [← eD, ← eT, ← eS] at hnx
          rw [← eD] at z2
          rw [← eT] at z3 cs
          rw [← eS] at z1
          have hdc : ∀ W : World, Calls Tryz.prog 28 #[.int .i64 mk'] W fun e w' => e = .returned (.string D) ∧ Below W.heap.size W w' := fun W => by rw [eD]; exact decimal_any mk' W hmk.1 (by omega)
          have HDC := Lib.hid hdc
          have HNX := Lib.hid hnx
          have HBL := Lib.hid hbl
          rw [← eS]
          have s1 : ¬ 9223372036854775807 < T.size + 1 := by omega
          have s2 : ¬ 9223372036854775807 < T.size + 1 + D.size := by omega
          have s3 : ¬ 9223372036854775807 < S.size + (T.size + 1 + D.size) := by omega
          have hgs' : gs < wr.heap.size := Nat.lt_of_lt_of_le hgs hbl.size
          have hg6' : g < wr.heap.size := Nat.lt_of_lt_of_le hg6 hbl.size
          clear hdc hnx hnew emk eD eT eS hbl hpl hdl hwl
          go_wp2_with fail
          go_region_held3 (fun w' => w'.cell? ⟨gs, k, none⟩ = some (.string T) ∧ w'.cell? ⟨g, k, none⟩ = some (.int .i64 mk')) (first | with_reducible exact ⟨cs, cn⟩ | with_reducible exact ⟨ys, yn⟩ | go_keep)
            (first
              | (go_at_call 28; refine (HDC.out _).mono ?_; rintro e wd ⟨rfl, hb⟩; have hb' := ((Below.refl _ _).drew).trans hb; have ys := (hb'.cell (p := ⟨gs, k, none⟩) hgs').trans cs; have yn := (hb'.cell (p := ⟨g, k, none⟩) hg6').trans cn; have HB := Lib.hid (bthen' HBL.out hb'); clear hb hb'))
          rw [HNX.out]
          go_wp2_with fail
          go_roundw
          case rel =>
            refine ⟨_, _, _, _, _, _, _, _, _, _, _, _, _, _, _, _, _, _, ?_, rfl⟩
            exact ⟨k + 1, by omega, by go_num, rfl, HB.out⟩
          case measure => simp [intOf]; omega
        · obtain rfl : k = 8 := by omega
          obtain ⟨⟨_, va1⟩, ⟨_, va2⟩, _⟩ := HSM.out
          obtain ⟨f1, o1, d1⟩ := valid_parts va1
          obtain ⟨f2, o2, d2⟩ := valid_parts va2
          obtain ⟨kk, ekk⟩ : ∃ x, x = kv.tmod 1000000000 := ⟨_, rfl⟩
          have hkk : 0 ≤ kk ∧ kk ≤ 999999999 := by
            rw [ekk, Int.tmod_eq_emod_of_nonneg hk0.1]
            omega
          have hsrc := srcN_is m kk op1 n1 l1 op2 n2 l2
          have hn : numsOk ⟨m 0, m 1, m 2, m 3, m 4, m 5, m 6, m 7, kk, ((op1, n1), l1), ((op2, n2), l2)⟩ := ⟨HMB.out 0 (by omega), HMB.out 1 (by omega), HMB.out 2 (by omega), HMB.out 3 (by omega), HMB.out 4 (by omega), HMB.out 5 (by omega), HMB.out 6 (by omega), HMB.out 7 (by omega), hkk⟩
          have hO := srcO_srcN hn va1 va2
          rw [← hsrc] at hO
          have e1 : (showE op1 n1 l1).length ≤ 24 * (nodesF l1 + 1) := (sh_any (a := (op1, n1)) f1 o1).n
          have e2 : (showE op2 n2 l2).length ≤ 24 * (nodesF l2 + 1) := (sh_any (a := (op2, n2)) f2 o2).n
          have hpl := preN_len m HMB.out 8 (by omega)
          have hdl := items_dec_len kk hkk.1 hkk.2
          obtain ⟨q, eq⟩ : ∃ q : Rr, q = ⟨m 0, m 1, m 2, m 3, m 4, m 5, m 6, m 7, kk, ((op1, n1), l1), ((op2, n2), l2)⟩ := ⟨_, rfl⟩
          rw [← eq] at hO
          obtain ⟨D, eD⟩ : ∃ x, x = mk (dec kk) := ⟨_, rfl⟩
          obtain ⟨S, eS⟩ : ∃ x, x = mk (preN m 8) := ⟨_, rfl⟩
          obtain ⟨T1, eT1⟩ : ∃ x, x = mk (showE op1 n1 l1) := ⟨_, rfl⟩
          obtain ⟨T2, eT2⟩ : ∃ x, x = mk (showE op2 n2 l2) := ⟨_, rfl⟩
          have hstr : bl (S ++ ((⟨#[32, 107, 101, 101, 112, 32]⟩ : ByteArray) ++ D ++ ⟨#[37, 32, 119, 104, 101, 110, 32]⟩ ++ T1 ++ ⟨#[32, 112, 114, 105, 99, 101, 32]⟩ ++ T2 ++ ⟨#[32, 59]⟩))
              = preN m 8 ++ ([32, 107, 101, 101, 112, 32] ++ dec kk ++ [37, 32, 119, 104, 101, 110, 32] ++ showE op1 n1 l1 ++ [32, 112, 114, 105, 99, 101, 32] ++ showE op2 n2 l2 ++ [32, 59]) := by
            rw [eS, eD, eT1, eT2]
            simp [bl, mk, ByteArray.data_append]
          have z0 : S.size ≤ 200 := by rw [eS, size_mk]; omega
          have z1 : D.size ≤ 13 := by rw [eD, size_mk]; omega
          have z2 : T1.size ≤ 4800 := by rw [eT1, size_mk]; omega
          have z3 : T2.size ≤ 4800 := by rw [eT2, size_mk]; omega
          have hdc : ∀ W : World, Calls Tryz.prog 28 #[.int .i64 kk] W fun e w' => e = .returned (.string D) ∧ Below W.heap.size W w' := fun W => by rw [eD]; exact decimal_any kk W hkk.1 (by omega)
          have hs1 : ∀ W : World, Below w.heap.size w W → Calls Tryz.prog 25 #[.agg #[.int .i64 op1, .int .i64 n1, .slice A1 (flen l1) c1]] W fun e w' => e = .returned (.string T1) ∧ Below W.heap.size W w' := fun W hW => by
            rw [eT1]; exact show_any (op1, n1) l1 W _ W.heap.size f1 o1 ((HV1.out.on hW).up hW.size) (Nat.le_refl _) (by omega)
          have hs2 : ∀ W : World, Below w.heap.size w W → Calls Tryz.prog 25 #[.agg #[.int .i64 op2, .int .i64 n2, .slice A2 (flen l2) c2]] W fun e w' => e = .returned (.string T2) ∧ Below W.heap.size W w' := fun W hW => by
            rw [eT2]; exact show_any (op2, n2) l2 W _ W.heap.size f2 o2 ((HV2.out.on hW).up hW.size) (Nat.le_refl _) (by omega)
          have hpr : ∀ W : World, Mx W W.heap.size → Calls Tryz.prog 20 #[.string (S ++ ((⟨#[32, 107, 101, 101, 112, 32]⟩ : ByteArray) ++ D ++ ⟨#[37, 32, 119, 104, 101, 110, 32]⟩ ++ T1 ++ ⟨#[32, 112, 114, 105, 99, 101, 32]⟩ ++ T2 ++ ⟨#[32, 59]⟩))] W (SrcP W (.ok [q.nrm])) := fun W hW => by
            have := parserRates_any (S ++ ((⟨#[32, 107, 101, 101, 112, 32]⟩ : ByteArray) ++ D ++ ⟨#[37, 32, 119, 104, 101, 110, 32]⟩ ++ T1 ++ ⟨#[32, 112, 114, 105, 99, 101, 32]⟩ ++ T2 ++ ⟨#[32, 59]⟩)) W hW
            rwa [hstr, hO] at this
          have HDC := Lib.hid hdc
          have HS1 := Lib.hid hs1
          have HS2 := Lib.hid hs2
          have HPR := Lib.hid hpr
          have HEQ := Lib.hid eq
          have HKK := Lib.hid hkk
          have B7 := Lib.hid (bthen' B6.out hbl)
          have hg6' : g < wr.heap.size := Nat.lt_of_lt_of_le hg6 hbl.size
          have Q0 := Lib.hid ((hbl.block g hg6).trans Y0.out)
          have Q1 := Lib.hid ((hbl.block b1 (by omega)).trans Y1.out)
          have Q2 := Lib.hid ((hbl.block b2 (by omega)).trans Y2.out)
          rw [← eS]
          have VA := Lib.hid (And.intro va1 va2)
          clear hdc hs1 hs2 hpr hstr hO eD eS eT1 eT2 eq hpl hdl e1 e2 hn hsrc f1 o1 d1 f2 o2 d2 va1 va2 hbl Y0 Y1 Y2 B6
          have ekk' : kv.tmod 1000000000 = kk := ekk.symm
          have hkw : IntKind.i64.wrap kk = kk := IntWalk.i64_in kk (by omega)
          clear ekk hkk
          go_upto_region 16 with fail
          have p0 : wr.cell? ⟨b1, 0, none⟩ = some (.int .i64 op1) := by rw [Lib.cell_of_heap Q1.out]; rfl
          have p1 : wr.cell? ⟨b1, 1, none⟩ = some (.int .i64 n1) := by rw [Lib.cell_of_heap Q1.out]; rfl
          have p2 : wr.cell? ⟨b1, 2, none⟩ = some (.slice A1 (flen l1) c1) := by rw [Lib.cell_of_heap Q1.out]; rfl
          have r0 : wr.cell? ⟨b2, 0, none⟩ = some (.int .i64 op2) := by rw [Lib.cell_of_heap Q2.out]; rfl
          have r1 : wr.cell? ⟨b2, 1, none⟩ = some (.int .i64 n2) := by rw [Lib.cell_of_heap Q2.out]; rfl
          have r2 : wr.cell? ⟨b2, 2, none⟩ = some (.slice A2 (flen l2) c2) := by rw [Lib.cell_of_heap Q2.out]; rfl
          have h1 : b1 < wr.heap.size := by omega
          have h2 : b2 < wr.heap.size := by omega
          have t1 : ¬ 9223372036854775807 < 6 + D.size := by omega
          have t2 : ¬ 9223372036854775807 < 6 + D.size + 7 := by omega
          have t3 : ¬ 9223372036854775807 < 6 + D.size + 7 + T1.size := by omega
          have t4 : ¬ 9223372036854775807 < 6 + D.size + 7 + T1.size + 7 := by omega
          have t5 : ¬ 9223372036854775807 < 6 + D.size + 7 + T1.size + 7 + T2.size := by omega
          have t6 : ¬ 9223372036854775807 < 6 + D.size + 7 + T1.size + 7 + T2.size + 2 := by omega
          have t7 : ¬ 9223372036854775807 < S.size + (6 + D.size + 7 + T1.size + 7 + T2.size + 2) := by omega
          have tok1 : True := trivial
          go_wp2_with fail
          go_region_held3 (fun w' => w'.cell? ⟨b1, 0, none⟩ = some (.int .i64 op1) ∧ w'.cell? ⟨b1, 1, none⟩ = some (.int .i64 n1) ∧ w'.cell? ⟨b1, 2, none⟩ = some (.slice A1 (flen l1) c1) ∧ w'.cell? ⟨b2, 0, none⟩ = some (.int .i64 op2) ∧ w'.cell? ⟨b2, 1, none⟩ = some (.int .i64 n2) ∧ w'.cell? ⟨b2, 2, none⟩ = some (.slice A2 (flen l2) c2))
            (first | with_reducible exact ⟨p0, p1, p2, r0, r1, r2⟩ | with_reducible exact y1 | with_reducible exact y2 | with_reducible exact y3 | go_keep)
            (first
              | (go_at_call 28; refine (HDC.out _).mono ?_; rintro e wd1 ⟨rfl, hb⟩; have hb1 : Below wr.heap.size wr wd1 := ((Below.refl _ _).drew).trans hb; have y1 := cells_six hb1 h1 h2 ⟨p0, p1, p2, r0, r1, r2⟩; clear hb)
              | (go_at_call 25; have _t := tok1; refine (HS1.out _ (bthen' B7.out hb1)).mono ?_; rintro e wd2 ⟨rfl, hb⟩; have hb2 : Below wr.heap.size wr wd2 := bthen' hb1 hb; have y2 := cells_six hb2 h1 h2 ⟨p0, p1, p2, r0, r1, r2⟩; clear hb tok1)
              | (go_at_call 25; refine (HS2.out _ (bthen' B7.out hb2)).mono ?_; rintro e wd3 ⟨rfl, hb⟩; have hb3 : Below wr.heap.size wr wd3 := bthen' hb2 hb; have y3 := cells_six hb3 h1 h2 ⟨p0, p1, p2, r0, r1, r2⟩; clear hb))
          have B8 := Lib.hid (bthen' B7.out hb3)
          have R0 := Lib.hid ((hb3.block g hg6').trans Q0.out)
          have R1 := Lib.hid ((hb3.block b1 h1).trans Q1.out)
          have R2 := Lib.hid ((hb3.block b2 h2).trans Q2.out)
          have hpr := HPR.out
          clear HPR HDC HS1 HS2 t1 t2 t3 t4 t5 t6 t7 z0 z1 z2 z3 p0 p1 p2 r0 r1 r2 y1 y2 y3 hb1 hb2 hb3 h1 h2 B7 Q0 Q1 Q2 ekk' hkw
          generalize (S ++ ((⟨#[32, 107, 101, 101, 112, 32]⟩ : ByteArray) ++ D ++ ⟨#[37, 32, 119, 104, 101, 110, 32]⟩ ++ T1 ++ ⟨#[32, 112, 114, 105, 99, 101, 32]⟩ ++ T2 ++ ⟨#[32, 59]⟩)) = SS at hpr ⊢
          have HPR := Lib.hid hpr
          clear hpr
          go_wp2_with fail
          refine (rmake_pct kk _ HKK.out.1 HKK.out.2).mono ?_
          rintro e w6 ⟨rfl, hb⟩
          have hgw6 : g < wd3.heap.size := (Array.getElem?_eq_some_iff.1 R0.out).1
          have hba := bthen' hb ((Below.refl w6.heap.size w6).alloc (Nat.le_refl _) (.cells #[.int .i64 (pctN kk), .int .i64 (pctD kk)] 45))
          have hxa := World.alloc_heap_new w6 (.cells #[.int .i64 (pctN kk), .int .i64 (pctD kk)] 45)
          have C0 := Lib.hid ((hba.block g hgw6).trans R0.out)
          have C1 := Lib.hid ((hba.block b1 (by omega)).trans R1.out)
          have C2 := Lib.hid ((hba.block b2 (by omega)).trans R2.out)
          have C3 := Lib.hid hxa
          have B9 := Lib.hid (bthen' B8.out hba)
          have hgw7 : w.heap.size < w6.heap.size := by have := hb.size; omega
          clear hb hba hxa R0 R1 R2 B8
          go_upto_region 18 with fail
          generalize w6.alloc (.cells #[.int .i64 (pctN kk), .int .i64 (pctD kk)] 45) = w7 at *
          generalize w6.heap.size = gr at *
          go_wp2_with fail
          refine (HPR.out _ (mx_on HM.out B9.out)).mono ?_
          rintro e w8 ⟨hb, A7, c7, rfl, hR⟩
          have eq := HEQ.out
          clear HEQ
          subst eq
          have D0 := Lib.hid ((hb.block g (Array.getElem?_eq_some_iff.1 C0.out).1).trans C0.out)
          have D1 := Lib.hid ((hb.block b1 (Array.getElem?_eq_some_iff.1 C1.out).1).trans C1.out)
          have D2 := Lib.hid ((hb.block b2 (Array.getElem?_eq_some_iff.1 C2.out).1).trans C2.out)
          have D3 := Lib.hid ((hb.block gr (Array.getElem?_eq_some_iff.1 C3.out).1).trans C3.out)
          have B10 := Lib.hid (bthen' B9.out hb)
          have hF1 := ((HV1.out.on B10.out).up B10.out.size)
          have hF2 := ((HV2.out.on B10.out).up B10.out.size)
          have HF1 := Lib.hid hF1
          have HF2 := Lib.hid hF2
          rw [show ([Rr.nrm ⟨m 0, m 1, m 2, m 3, m 4, m 5, m 6, m 7, kk, ((op1, n1), l1), ((op2, n2), l2)⟩] : List Rr).length = 1 from rfl] at hR ⊢
          have HR := Lib.hid hR
          clear hb hR hF1 hF2 C0 C1 C2 C3 B9
          have c0_ : w8.cell? ⟨g, 0, none⟩ = some (.int .i64 (m 0)) := by rw [Lib.cell_of_heap D0.out]; simpa using celN_get m 0 (by omega)
          have c1_ : w8.cell? ⟨g, 1, none⟩ = some (.int .i64 (m 1)) := by rw [Lib.cell_of_heap D0.out]; simpa using celN_get m 1 (by omega)
          have c2_ : w8.cell? ⟨g, 2, none⟩ = some (.int .i64 (m 2)) := by rw [Lib.cell_of_heap D0.out]; simpa using celN_get m 2 (by omega)
          have c3_ : w8.cell? ⟨g, 3, none⟩ = some (.int .i64 (m 3)) := by rw [Lib.cell_of_heap D0.out]; simpa using celN_get m 3 (by omega)
          have c4_ : w8.cell? ⟨g, 4, none⟩ = some (.int .i64 (m 4)) := by rw [Lib.cell_of_heap D0.out]; simpa using celN_get m 4 (by omega)
          have c5_ : w8.cell? ⟨g, 5, none⟩ = some (.int .i64 (m 5)) := by rw [Lib.cell_of_heap D0.out]; simpa using celN_get m 5 (by omega)
          have c6_ : w8.cell? ⟨g, 6, none⟩ = some (.int .i64 (m 6)) := by rw [Lib.cell_of_heap D0.out]; simpa using celN_get m 6 (by omega)
          have c7_ : w8.cell? ⟨g, 7, none⟩ = some (.int .i64 (m 7)) := by rw [Lib.cell_of_heap D0.out]; simpa using celN_get m 7 (by omega)
          have b1_0 : w8.cell? ⟨b1, 0, none⟩ = some (.int .i64 op1) := by rw [Lib.cell_of_heap D1.out]; rfl
          have b1_1 : w8.cell? ⟨b1, 1, none⟩ = some (.int .i64 n1) := by rw [Lib.cell_of_heap D1.out]; rfl
          have b1_2 : w8.cell? ⟨b1, 2, none⟩ = some (.slice A1 (flen l1) c1) := by rw [Lib.cell_of_heap D1.out]; rfl
          have b2_0 : w8.cell? ⟨b2, 0, none⟩ = some (.int .i64 op2) := by rw [Lib.cell_of_heap D2.out]; rfl
          have b2_1 : w8.cell? ⟨b2, 1, none⟩ = some (.int .i64 n2) := by rw [Lib.cell_of_heap D2.out]; rfl
          have b2_2 : w8.cell? ⟨b2, 2, none⟩ = some (.slice A2 (flen l2) c2) := by rw [Lib.cell_of_heap D2.out]; rfl
          have gr_0 : w8.cell? ⟨gr, 0, none⟩ = some (.int .i64 (pctN kk)) := by rw [Lib.cell_of_heap D3.out]; rfl
          have gr_1 : w8.cell? ⟨gr, 1, none⟩ = some (.int .i64 (pctD kk)) := by rw [Lib.cell_of_heap D3.out]; rfl
          go_upto_region 20 with fail
          clear c0_ c1_ c2_ c3_ c4_ c5_ c6_ c7_ b1_0 b1_1 b1_2 b2_0 b2_1 b2_2 gr_0 gr_1 D0 D1 D2 D3
          have hbz := (Below.refl w8.heap.size w8).alloc (Nat.le_refl _) (.cells #[.int .i64 (m 0), .int .i64 (m 1), .int .i64 (m 2), .int .i64 (m 3), .int .i64 (m 4), .int .i64 (m 5), .int .i64 (m 6), .int .i64 (m 7), .int .i64 (pctN kk), .int .i64 (pctD kk), .int .i64 op1, .int .i64 n1, .slice A1 (flen l1) c1, .int .i64 op2, .int .i64 n2, .slice A2 (flen l2) c2] 47)
          have hxz := World.alloc_heap_new w8 (.cells #[.int .i64 (m 0), .int .i64 (m 1), .int .i64 (m 2), .int .i64 (m 3), .int .i64 (m 4), .int .i64 (m 5), .int .i64 (m 6), .int .i64 (m 7), .int .i64 (pctN kk), .int .i64 (pctD kk), .int .i64 op1, .int .i64 n1, .slice A1 (flen l1) c1, .int .i64 op2, .int .i64 n2, .slice A2 (flen l2) c2] 47)
          have E1 := Lib.hid ((HF1.out.on hbz).up hbz.size)
          have E2 := Lib.hid ((HF2.out.on hbz).up hbz.size)
          have ER := Lib.hid ((HR.out.on hbz).up hbz.size)
          have B11 := Lib.hid (bthen' B10.out hbz)
          have EX := Lib.hid hxz
          clear hbz hxz HF1 HF2 HR B10
          generalize w8.alloc (.cells #[.int .i64 (m 0), .int .i64 (m 1), .int .i64 (m 2), .int .i64 (m 3), .int .i64 (m 4), .int .i64 (m 5), .int .i64 (m 6), .int .i64 (m 7), .int .i64 (pctN kk), .int .i64 (pctD kk), .int .i64 op1, .int .i64 n1, .slice A1 (flen l1) c1, .int .i64 op2, .int .i64 n2, .slice A2 (flen l2) c2] 47) = w9 at *
          generalize w8.heap.size = gz at *
          have x0_ : w9.cell? ⟨gz, 0, none⟩ = some (.int .i64 (m 0)) := by rw [Lib.cell_of_heap EX.out]; rfl
          have x1_ : w9.cell? ⟨gz, 1, none⟩ = some (.int .i64 (m 1)) := by rw [Lib.cell_of_heap EX.out]; rfl
          have x2_ : w9.cell? ⟨gz, 2, none⟩ = some (.int .i64 (m 2)) := by rw [Lib.cell_of_heap EX.out]; rfl
          have x3_ : w9.cell? ⟨gz, 3, none⟩ = some (.int .i64 (m 3)) := by rw [Lib.cell_of_heap EX.out]; rfl
          have x4_ : w9.cell? ⟨gz, 4, none⟩ = some (.int .i64 (m 4)) := by rw [Lib.cell_of_heap EX.out]; rfl
          have x5_ : w9.cell? ⟨gz, 5, none⟩ = some (.int .i64 (m 5)) := by rw [Lib.cell_of_heap EX.out]; rfl
          have x6_ : w9.cell? ⟨gz, 6, none⟩ = some (.int .i64 (m 6)) := by rw [Lib.cell_of_heap EX.out]; rfl
          have x7_ : w9.cell? ⟨gz, 7, none⟩ = some (.int .i64 (m 7)) := by rw [Lib.cell_of_heap EX.out]; rfl
          have x8_ : w9.cell? ⟨gz, 8, none⟩ = some (.int .i64 (pctN kk)) := by rw [Lib.cell_of_heap EX.out]; rfl
          have x9_ : w9.cell? ⟨gz, 9, none⟩ = some (.int .i64 (pctD kk)) := by rw [Lib.cell_of_heap EX.out]; rfl
          have x10_ : w9.cell? ⟨gz, 10, none⟩ = some (.int .i64 op1) := by rw [Lib.cell_of_heap EX.out]; rfl
          have x11_ : w9.cell? ⟨gz, 11, none⟩ = some (.int .i64 n1) := by rw [Lib.cell_of_heap EX.out]; rfl
          have x12_ : w9.cell? ⟨gz, 12, none⟩ = some (.slice A1 (flen l1) c1) := by rw [Lib.cell_of_heap EX.out]; rfl
          have x13_ : w9.cell? ⟨gz, 13, none⟩ = some (.int .i64 op2) := by rw [Lib.cell_of_heap EX.out]; rfl
          have x14_ : w9.cell? ⟨gz, 14, none⟩ = some (.int .i64 n2) := by rw [Lib.cell_of_heap EX.out]; rfl
          have x15_ : w9.cell? ⟨gz, 15, none⟩ = some (.slice A2 (flen l2) c2) := by rw [Lib.cell_of_heap EX.out]; rfl
          go_wp2_with fail
          have hbq := (Below.refl w9.heap.size w9).alloc (Nat.le_refl _) (.cells #[.int .i64 (m 0), .int .i64 (m 1), .int .i64 (m 2), .int .i64 (m 3), .int .i64 (m 4), .int .i64 (m 5), .int .i64 (m 6), .int .i64 (m 7), .int .i64 (pctN kk), .int .i64 (pctD kk), .int .i64 op1, .int .i64 n1, .slice A1 (flen l1) c1, .int .i64 op2, .int .i64 n2, .slice A2 (flen l2) c2] 47)
          have hxq := World.alloc_heap_new w9 (.cells #[.int .i64 (m 0), .int .i64 (m 1), .int .i64 (m 2), .int .i64 (m 3), .int .i64 (m 4), .int .i64 (m 5), .int .i64 (m 6), .int .i64 (m 7), .int .i64 (pctN kk), .int .i64 (pctD kk), .int .i64 op1, .int .i64 n1, .slice A1 (flen l1) c1, .int .i64 op2, .int .i64 n2, .slice A2 (flen l2) c2] 47)
          refine (sameRates_true [(Rr.nrm ⟨m 0, m 1, m 2, m 3, m 4, m 5, m 6, m 7, kk, ((op1, n1), l1), ((op2, n2), l2)⟩).rt] [Rr.rt ⟨m 0, m 1, m 2, m 3, m 4, m 5, m 6, m 7, kk, ((op1, n1), l1), ((op2, n2), l2)⟩] (.slice A7 1 c7) (.slice (some ⟨w9.heap.size, 0, none⟩) 1 1) _ _ ((ER.out.on hbq).up hbq.size)
            (rts_one (r := Rr.rt ⟨m 0, m 1, m 2, m 3, m 4, m 5, m 6, m 7, kk, ((op1, n1), l1), ((op2, n2), l2)⟩) (wv := .slice A1 (flen l1) c1) (pv := .slice A2 (flen l2) c2) hxq ((E1.out.on hbq).up hbq.size) ((E2.out.on hbq).up hbq.size) (by simp)) (Nat.le_refl _) (smalls (l := [Rr.nrm ⟨m 0, m 1, m 2, m 3, m 4, m 5, m 6, m 7, kk, ((op1, n1), l1), ((op2, n2), l2)⟩]) (fun r hr => ?_)) (by simp) ⟨rfl, fun i hi hi' => ?_⟩).mono ?_
          · rw [List.mem_singleton] at hr
            subst hr
            exact ⟨by show validB op1 n1 (nrm l1) = true; rw [valid_nrm]; exact VA.out.1, by show validB op2 n2 (nrm l2) = true; rw [valid_nrm]; exact VA.out.2⟩
          · have hi0 : i = 0 := by simpa using hi
            subst hi0
            exact ⟨rfl, rfl, rfl, rfl, rfl, rfl, rfl, rfl, rfl, rfl, sameE_nrm (op1, n1) l1, sameE_nrm (op2, n2) l2⟩
          · rintro e w10 ⟨rfl, hb⟩
            have B12 := Lib.hid (bthen' (bthen' B11.out hbq) hb)
            clear hb hbq hxq
            go_wp2_with fail
            go_ret
            exact ⟨rfl, B12.out⟩
end Go.Proofs.YtomnjamldbficaaGreatDoor
