/-
  Walks: head of the statements about package parser: it returns true.
-/
import Derived.Test.YtomnjamldbficaaGreatDoorParChain
import Derived.Test.YtomnjamldbficaaGreatDoorParW13
import Derived.Test.YtomnjamldbficaaGreatDoorPrtHead
namespace Go.Proofs.YtomnjamldbficaaGreatDoor
open Go.RowKit Lx Px
theorem leaf8_any (op n : Int) (w : World) : Calls Tryz.prog 37 #[.int .i64 op, .int .i64 n] w fun e w' => e = .returned (.agg #[.int .i64 op, .int .i64 n, .slice none 0 0]) ∧ Below w.heap.size w w' := by
  go_enter Tryz.func37, Tryz.ntmps37
  go_wp2_with fail
  exact bodyPost_ret (v := .agg #[.int .i64 op, .int .i64 n, .slice none 0 0]) (by simp [results, Tryz.results37, go_sem]) rfl ⟨rfl, (Below.refl _ _).alloc (Nat.le_refl _) _⟩
theorem node8_any (op : Int) (A : Option Addr) (n c : Nat) (w : World) : Calls Tryz.prog 27 #[.int .i64 op, .slice A n c] w fun e w' => e = .returned (.agg #[.int .i64 op, .int .i64 0, .slice A n c]) ∧ Below w.heap.size w w' := by
  go_enter Tryz.func27, Tryz.ntmps27
  go_wp2_with fail
  exact bodyPost_ret (v := .agg #[.int .i64 op, .int .i64 0, .slice A n c]) (by simp [results, Tryz.results27, go_sem]) rfl ⟨rfl, (Below.refl _ _).alloc (Nat.le_refl _) _⟩
def hdA : Fo := .node 0 0 (5, 0) (.node 0 0 (1, 1) .nil (.node 0 0 (1, 2) .nil .nil)) (.node 0 0 (1, 3) .nil .nil)
theorem mx_up {w w' : World} {B : Nat} (h : Mx w B) (hb : Below B w w') : Mx w' w'.heap.size := by
  obtain ⟨m, h1, _⟩ := h.on hb
  exact ⟨m, h1, World.block_lt_of_cell? _ _ h1⟩
theorem hd_cells {W w' : World} {g k m : Nat} {g0 g1 g2 k0 k1 k2 m0 m1 m2 m3 m4 m5 m6 m7 m8 m9 m10 m11 m12 m13 m14 m15 : Value} (hb : Below W.heap.size W w') (hg : g < W.heap.size) (hk : k < W.heap.size) (hm : m < W.heap.size) (h : W.cell? ⟨g, 0, none⟩ = some g0 ∧ W.cell? ⟨g, 1, none⟩ = some g1 ∧ W.cell? ⟨g, 2, none⟩ = some g2 ∧ W.cell? ⟨k, 0, none⟩ = some k0 ∧ W.cell? ⟨k, 1, none⟩ = some k1 ∧ W.cell? ⟨k, 2, none⟩ = some k2 ∧ W.cell? ⟨m, 0, none⟩ = some m0 ∧ W.cell? ⟨m, 1, none⟩ = some m1 ∧ W.cell? ⟨m, 2, none⟩ = some m2 ∧ W.cell? ⟨m, 3, none⟩ = some m3 ∧ W.cell? ⟨m, 4, none⟩ = some m4 ∧ W.cell? ⟨m, 5, none⟩ = some m5 ∧ W.cell? ⟨m, 6, none⟩ = some m6 ∧ W.cell? ⟨m, 7, none⟩ = some m7 ∧ W.cell? ⟨m, 8, none⟩ = some m8 ∧ W.cell? ⟨m, 9, none⟩ = some m9 ∧ W.cell? ⟨m, 10, none⟩ = some m10 ∧ W.cell? ⟨m, 11, none⟩ = some m11 ∧ W.cell? ⟨m, 12, none⟩ = some m12 ∧ W.cell? ⟨m, 13, none⟩ = some m13 ∧ W.cell? ⟨m, 14, none⟩ = some m14 ∧ W.cell? ⟨m, 15, none⟩ = some m15) :
    w'.cell? ⟨g, 0, none⟩ = some g0 ∧ w'.cell? ⟨g, 1, none⟩ = some g1 ∧ w'.cell? ⟨g, 2, none⟩ = some g2 ∧ w'.cell? ⟨k, 0, none⟩ = some k0 ∧ w'.cell? ⟨k, 1, none⟩ = some k1 ∧ w'.cell? ⟨k, 2, none⟩ = some k2 ∧ w'.cell? ⟨m, 0, none⟩ = some m0 ∧ w'.cell? ⟨m, 1, none⟩ = some m1 ∧ w'.cell? ⟨m, 2, none⟩ = some m2 ∧ w'.cell? ⟨m, 3, none⟩ = some m3 ∧ w'.cell? ⟨m, 4, none⟩ = some m4 ∧ w'.cell? ⟨m, 5, none⟩ = some m5 ∧ w'.cell? ⟨m, 6, none⟩ = some m6 ∧ w'.cell? ⟨m, 7, none⟩ = some m7 ∧ w'.cell? ⟨m, 8, none⟩ = some m8 ∧ w'.cell? ⟨m, 9, none⟩ = some m9 ∧ w'.cell? ⟨m, 10, none⟩ = some m10 ∧ w'.cell? ⟨m, 11, none⟩ = some m11 ∧ w'.cell? ⟨m, 12, none⟩ = some m12 ∧ w'.cell? ⟨m, 13, none⟩ = some m13 ∧ w'.cell? ⟨m, 14, none⟩ = some m14 ∧ w'.cell? ⟨m, 15, none⟩ = some m15 := by
  obtain ⟨hg0, hg1, hg2, hk0, hk1, hk2, hm0, hm1, hm2, hm3, hm4, hm5, hm6, hm7, hm8, hm9, hm10, hm11, hm12, hm13, hm14, hm15⟩ := h
  exact ⟨(hb.cell (p := ⟨g, 0, none⟩) hg).trans hg0, (hb.cell (p := ⟨g, 1, none⟩) hg).trans hg1, (hb.cell (p := ⟨g, 2, none⟩) hg).trans hg2, (hb.cell (p := ⟨k, 0, none⟩) hk).trans hk0, (hb.cell (p := ⟨k, 1, none⟩) hk).trans hk1, (hb.cell (p := ⟨k, 2, none⟩) hk).trans hk2, (hb.cell (p := ⟨m, 0, none⟩) hm).trans hm0, (hb.cell (p := ⟨m, 1, none⟩) hm).trans hm1, (hb.cell (p := ⟨m, 2, none⟩) hm).trans hm2, (hb.cell (p := ⟨m, 3, none⟩) hm).trans hm3, (hb.cell (p := ⟨m, 4, none⟩) hm).trans hm4, (hb.cell (p := ⟨m, 5, none⟩) hm).trans hm5, (hb.cell (p := ⟨m, 6, none⟩) hm).trans hm6, (hb.cell (p := ⟨m, 7, none⟩) hm).trans hm7, (hb.cell (p := ⟨m, 8, none⟩) hm).trans hm8, (hb.cell (p := ⟨m, 9, none⟩) hm).trans hm9, (hb.cell (p := ⟨m, 10, none⟩) hm).trans hm10, (hb.cell (p := ⟨m, 11, none⟩) hm).trans hm11, (hb.cell (p := ⟨m, 12, none⟩) hm).trans hm12, (hb.cell (p := ⟨m, 13, none⟩) hm).trans hm13, (hb.cell (p := ⟨m, 14, none⟩) hm).trans hm14, (hb.cell (p := ⟨m, 15, none⟩) hm).trans hm15⟩
/-- a new slice of one rate -/
theorem rts_one {w : World} {B g : Nat} {r : Rt} {wv pv : Value} {t : TypeId} {fz : Nat × Nat} (hx : w.heap[g]? = some (.cells (rtCells r wv pv).toArray t fz)) (h1 : FoV w B wv r.wl) (h2 : FoV w B pv r.pl) (hg : g < B) : RtsV w B (.slice (some ⟨g, 0, none⟩) 1 1) [r] := by
  refine ⟨some ⟨g, 0, none⟩, 1, rfl, fun i hi => ⟨⟨g, 0, none⟩, rfl, hg, ?_⟩⟩
  have hi0 : i = 0 := by simpa using hi
  subst hi0
  rw [add_zero3]
  refine ⟨rfl, wv, pv, fun j u hj => ?_, h1, h2⟩
  show w.cell? ⟨g, 0 * 16 + j, none⟩ = some u
  rw [Lib.cell_of_heap hx, Nat.zero_mul, Nat.zero_add]
  simpa using hj
theorem hd_small : smallRt hdR.rt := ⟨by decide +kernel, by decide +kernel⟩
theorem hd_samert : sameRt hdR.rt hdR.rt := ⟨rfl, rfl, rfl, rfl, rfl, rfl, rfl, rfl, rfl, rfl, by decide +kernel, by decide +kernel⟩
theorem hd_rates {W : World} {AL A1 A2 : Option Addr} {cL : Nat} (hL : RtsV W W.heap.size (.slice AL 1 cL) [hdR.rt]) (h1 : FoV W W.heap.size (.slice A1 2 2) hdW.2) (h2 : FoV W W.heap.size (.slice A2 2 2) hdP.2) :
    Calls Tryz.prog 22 #[.slice AL 1 cL, .slice (some ⟨W.heap.size, 0, none⟩) 1 1] (W.drew.alloc (.cells #[.int .i64 7, .int .i64 1, .int .i64 2, .int .i64 10, .int .i64 40, .int .i64 2, .int .i64 9, .int .i64 127, .int .i64 1, .int .i64 2, .int .i64 11, .int .i64 0, .slice A1 2 2, .int .i64 4, .int .i64 0, .slice A2 2 2] 47)) fun e w' => e = .returned (.bool true) ∧ Below W.heap.size W w' := by
  have hb : Below W.heap.size W (W.drew.alloc (.cells #[.int .i64 7, .int .i64 1, .int .i64 2, .int .i64 10, .int .i64 40, .int .i64 2, .int .i64 9, .int .i64 127, .int .i64 1, .int .i64 2, .int .i64 11, .int .i64 0, .slice A1 2 2, .int .i64 4, .int .i64 0, .slice A2 2 2] 47)) := ((Below.refl _ _).drew).alloc (Nat.le_refl _) _
  have hx : (W.drew.alloc (.cells #[.int .i64 7, .int .i64 1, .int .i64 2, .int .i64 10, .int .i64 40, .int .i64 2, .int .i64 9, .int .i64 127, .int .i64 1, .int .i64 2, .int .i64 11, .int .i64 0, .slice A1 2 2, .int .i64 4, .int .i64 0, .slice A2 2 2] 47)).heap[W.heap.size]? = some (.cells (rtCells hdR.rt (.slice A1 2 2) (.slice A2 2 2)).toArray 47 (0, 0)) := World.alloc_heap_new W.drew _
  have hz : W.heap.size < (W.drew.alloc (.cells #[.int .i64 7, .int .i64 1, .int .i64 2, .int .i64 10, .int .i64 40, .int .i64 2, .int .i64 9, .int .i64 127, .int .i64 1, .int .i64 2, .int .i64 11, .int .i64 0, .slice A1 2 2, .int .i64 4, .int .i64 0, .slice A2 2 2] 47)).heap.size := (Array.getElem?_eq_some_iff.1 hx).1
  refine (sameRates_true [hdR.rt] [hdR.rt] (.slice AL 1 cL) (.slice (some ⟨W.heap.size, 0, none⟩) 1 1) _ _ ((hL.on hb).up hb.size) (rts_one hx ((h1.on hb).up hb.size) ((h2.on hb).up hb.size) hz) (Nat.le_refl _) (fun r hr => ?_) (by decide) ⟨rfl, fun i hi hi' => ?_⟩).mono fun e w' ⟨he, hb2⟩ => ⟨he, bthen' hb hb2⟩
  · rw [List.mem_singleton] at hr; subst hr; exact hd_small
  · have hi0 : i = 0 := by simpa using hi
    subst hi0
    exact hd_samert
theorem hd_samec {W : World} {A AX : Option Addr} {c cX : Nat} (h1 : FoV W W.heap.size (.slice AX 2 cX) hdA) (h2 : FoV W W.heap.size (.slice A 2 c) hdA) :
    Calls Tryz.prog 17 #[.agg #[.int .i64 5, .int .i64 0, .slice AX 2 cX], .agg #[.int .i64 5, .int .i64 0, .slice A 2 c]] W fun e w' => e = .returned (.bool true) ∧ Below W.heap.size W w' := by
  have := same_any (5, 0) hdA (5, 0) hdA W (.slice AX 2 cX) (.slice A 2 c) W.heap.size h1 h2 (Nat.le_refl _) (by decide +kernel)
  rwa [show sameE (5, 0) (5, 0) hdA hdA = true from hd_same] at this
set_option maxRecDepth 100000 in
set_option maxHeartbeats 8000000 in
theorem head8_any (w : World) (hM : Mx w w.heap.size) : Calls Tryz.prog 13 #[] w fun e w' => e = .returned (.bool true) ∧ Below w.heap.size w w' := by
  have HM := Lib.hid hM
  have B0 := Lib.hid (Below.refl w.heap.size w)
  clear hM
  go_enter Tryz.func13, Tryz.ntmps13
  go_wp2_with fail
  refine (parserRates_any _ _ (mx_up HM.out B0.out)).mono ?_
  intro e w1 (hh : SrcP w (srcO hdS1) e w1)
  rw [hd_one] at hh
  obtain ⟨hb, AL, cL, rfl, hR⟩ := hh
  have B1 := Lib.hid (bthen' B0.out hb)
  clear B0
  have L_1 := Lib.hid hR
  clear hb hR
  go_wp2_with fail
  refine (parserExpr_any _ _ (mx_up HM.out B1.out)).mono ?_
  intro e w2 (hh : XprP w1 (xprO hdS2) e w2)
  rw [hd_two] at hh
  have hh2 : Below _ _ _ ∧ ∃ A c, e = .returned (.tuple #[.agg #[.int .i64 5, .int .i64 0, .slice A 2 c], .int .i64 0]) ∧ FoV _ _ (.slice A 2 c) hdA := hh
  obtain ⟨hb, AX, cX, rfl, hF⟩ := hh2
  clear hh
  have B2 := Lib.hid (bthen' B1.out hb)
  have L_2 := Lib.hid ((L_1.out.on hb).up (Below.size hb))
  clear B1 L_1
  have FA_2 := Lib.hid hF
  clear hb hF
  go_wp2_with fail
  have hx := World.alloc_heap_new w2 (.cells #[.int .i64 5, .int .i64 0, .slice AX 2 cX] 24)
  have hb := (Below.refl w2.heap.size w2).alloc (Nat.le_refl _) (.cells #[.int .i64 5, .int .i64 0, .slice AX 2 cX] 24)
  generalize w2.alloc (.cells #[.int .i64 5, .int .i64 0, .slice AX 2 cX] 24) = w3 at *
  have B3 := Lib.hid (bthen' B2.out hb)
  have L_3 := Lib.hid ((L_2.out.on hb).up (Below.size hb))
  have FA_3 := Lib.hid ((FA_2.out.on hb).up (Below.size hb))
  clear B2 L_2 FA_2
  have XA_3 := Lib.hid hx
  clear hb hx
  go_wp2_with fail
  refine (parserExpr_any _ _ (mx_up HM.out B3.out)).mono ?_
  intro e w4 (hh : XprP w3 (xprO hdS3) e w4)
  rw [hd_three] at hh
  obtain ⟨hb, rfl⟩ := hh
  have B4 := Lib.hid (bthen' B3.out hb)
  have L_4 := Lib.hid ((L_3.out.on hb).up (Below.size hb))
  have FA_4 := Lib.hid ((FA_3.out.on hb).up (Below.size hb))
  have XA_4 := Lib.hid ((hb.block _ (Array.getElem?_eq_some_iff.1 XA_3.out).1).trans XA_3.out)
  clear B3 L_3 FA_3 XA_3
  clear hb
  go_wp2_with fail
  have hx := World.alloc_heap_new w4 (.cells #[.int .i64 0, .int .i64 0, .slice none 0 0] 24)
  have hb := (Below.refl w4.heap.size w4).alloc (Nat.le_refl _) (.cells #[.int .i64 0, .int .i64 0, .slice none 0 0] 24)
  generalize w4.alloc (.cells #[.int .i64 0, .int .i64 0, .slice none 0 0] 24) = w5 at *
  have B5 := Lib.hid (bthen' B4.out hb)
  have L_5 := Lib.hid ((L_4.out.on hb).up (Below.size hb))
  have FA_5 := Lib.hid ((FA_4.out.on hb).up (Below.size hb))
  have XA_5 := Lib.hid ((hb.block _ (Array.getElem?_eq_some_iff.1 XA_4.out).1).trans XA_4.out)
  clear B4 L_4 FA_4 XA_4
  have XB_5 := Lib.hid hx
  clear hb hx
  clear XB_5
  go_wp2_with fail
  refine (parserRates_any _ _ (mx_up HM.out B5.out)).mono ?_
  intro e w6 (hh : SrcP w5 (srcO hdS4) e w6)
  rw [hd_four] at hh
  obtain ⟨hb, rfl⟩ := hh
  have B6 := Lib.hid (bthen' B5.out hb)
  have L_6 := Lib.hid ((L_5.out.on hb).up (Below.size hb))
  have FA_6 := Lib.hid ((FA_5.out.on hb).up (Below.size hb))
  have XA_6 := Lib.hid ((hb.block _ (Array.getElem?_eq_some_iff.1 XA_5.out).1).trans XA_5.out)
  clear B5 L_5 FA_5 XA_5
  clear hb
  go_wp2_with fail
  refine (leaf8_any 3 1 _).mono ?_
  rintro e w7 ⟨rfl, hb⟩
  have B7 := Lib.hid (bthen' B6.out hb)
  have L_7 := Lib.hid ((L_6.out.on hb).up (Below.size hb))
  have FA_7 := Lib.hid ((FA_6.out.on hb).up (Below.size hb))
  have XA_7 := Lib.hid ((hb.block _ (Array.getElem?_eq_some_iff.1 XA_6.out).1).trans XA_6.out)
  clear B6 L_6 FA_6 XA_6
  clear hb
  go_wp2_with fail
  refine (leaf8_any 1 5 _).mono ?_
  rintro e w8 ⟨rfl, hb⟩
  have B8 := Lib.hid (bthen' B7.out hb)
  have L_8 := Lib.hid ((L_7.out.on hb).up (Below.size hb))
  have FA_8 := Lib.hid ((FA_7.out.on hb).up (Below.size hb))
  have XA_8 := Lib.hid ((hb.block _ (Array.getElem?_eq_some_iff.1 XA_7.out).1).trans XA_7.out)
  clear B7 L_7 FA_7 XA_7
  clear hb
  go_wp2_with fail
  have hf := fo_two (w := w8) (a0 := 3) (a1 := 1) (b0 := 1) (b1 := 5) (sa := .slice none 0 0) (sb := .slice none 0 0) (fo_nil _ _) (fo_nil _ _)
  have hb := (Below.refl w8.heap.size w8).alloc (Nat.le_refl _) (.cells #[.int .i64 3, .int .i64 1, .slice none 0 0, .int .i64 1, .int .i64 5, .slice none 0 0] 24)
  generalize w8.alloc (.cells #[.int .i64 3, .int .i64 1, .slice none 0 0, .int .i64 1, .int .i64 5, .slice none 0 0] 24) = w9 at *
  have B9 := Lib.hid (bthen' B8.out hb)
  have L_9 := Lib.hid ((L_8.out.on hb).up (Below.size hb))
  have FA_9 := Lib.hid ((FA_8.out.on hb).up (Below.size hb))
  have XA_9 := Lib.hid ((hb.block _ (Array.getElem?_eq_some_iff.1 XA_8.out).1).trans XA_8.out)
  clear B8 L_8 FA_8 XA_8
  have FW_9 := Lib.hid hf
  clear hf hb
  go_wp2_with fail
  refine (node8_any 11 (some ⟨w8.heap.size, 0, none⟩) 2 2 _).mono ?_
  rintro e w10 ⟨rfl, hb⟩
  have B10 := Lib.hid (bthen' B9.out hb)
  have L_10 := Lib.hid ((L_9.out.on hb).up (Below.size hb))
  have FA_10 := Lib.hid ((FA_9.out.on hb).up (Below.size hb))
  have XA_10 := Lib.hid ((hb.block _ (Array.getElem?_eq_some_iff.1 XA_9.out).1).trans XA_9.out)
  have FW_10 := Lib.hid ((FW_9.out.on hb).up (Below.size hb))
  clear B9 L_9 FA_9 XA_9 FW_9
  clear hb
  go_wp2_with fail
  have hx := World.alloc_heap_new w10 (.cells #[.int .i64 11, .int .i64 0, .slice (some ⟨w8.heap.size, 0, none⟩) 2 2] 24)
  have hb := (Below.refl w10.heap.size w10).alloc (Nat.le_refl _) (.cells #[.int .i64 11, .int .i64 0, .slice (some ⟨w8.heap.size, 0, none⟩) 2 2] 24)
  generalize w10.alloc (.cells #[.int .i64 11, .int .i64 0, .slice (some ⟨w8.heap.size, 0, none⟩) 2 2] 24) = w11 at *
  have B11 := Lib.hid (bthen' B10.out hb)
  have L_11 := Lib.hid ((L_10.out.on hb).up (Below.size hb))
  have FA_11 := Lib.hid ((FA_10.out.on hb).up (Below.size hb))
  have XA_11 := Lib.hid ((hb.block _ (Array.getElem?_eq_some_iff.1 XA_10.out).1).trans XA_10.out)
  have FW_11 := Lib.hid ((FW_10.out.on hb).up (Below.size hb))
  clear B10 L_10 FA_10 XA_10 FW_10
  have XW_11 := Lib.hid hx
  clear hb hx
  go_wp2_with fail
  refine (leaf8_any 2 10000 _).mono ?_
  rintro e w12 ⟨rfl, hb⟩
  have B12 := Lib.hid (bthen' B11.out hb)
  have L_12 := Lib.hid ((L_11.out.on hb).up (Below.size hb))
  have FA_12 := Lib.hid ((FA_11.out.on hb).up (Below.size hb))
  have XA_12 := Lib.hid ((hb.block _ (Array.getElem?_eq_some_iff.1 XA_11.out).1).trans XA_11.out)
  have FW_12 := Lib.hid ((FW_11.out.on hb).up (Below.size hb))
  have XW_12 := Lib.hid ((hb.block _ (Array.getElem?_eq_some_iff.1 XW_11.out).1).trans XW_11.out)
  clear B11 L_11 FA_11 XA_11 FW_11 XW_11
  clear hb
  go_wp2_with fail
  refine (leaf8_any 2 2000 _).mono ?_
  rintro e w13 ⟨rfl, hb⟩
  have B13 := Lib.hid (bthen' B12.out hb)
  have L_13 := Lib.hid ((L_12.out.on hb).up (Below.size hb))
  have FA_13 := Lib.hid ((FA_12.out.on hb).up (Below.size hb))
  have XA_13 := Lib.hid ((hb.block _ (Array.getElem?_eq_some_iff.1 XA_12.out).1).trans XA_12.out)
  have FW_13 := Lib.hid ((FW_12.out.on hb).up (Below.size hb))
  have XW_13 := Lib.hid ((hb.block _ (Array.getElem?_eq_some_iff.1 XW_12.out).1).trans XW_12.out)
  clear B12 L_12 FA_12 XA_12 FW_12 XW_12
  clear hb
  go_wp2_with fail
  refine (leaf8_any 3 2 _).mono ?_
  rintro e w14 ⟨rfl, hb⟩
  have B14 := Lib.hid (bthen' B13.out hb)
  have L_14 := Lib.hid ((L_13.out.on hb).up (Below.size hb))
  have FA_14 := Lib.hid ((FA_13.out.on hb).up (Below.size hb))
  have XA_14 := Lib.hid ((hb.block _ (Array.getElem?_eq_some_iff.1 XA_13.out).1).trans XA_13.out)
  have FW_14 := Lib.hid ((FW_13.out.on hb).up (Below.size hb))
  have XW_14 := Lib.hid ((hb.block _ (Array.getElem?_eq_some_iff.1 XW_13.out).1).trans XW_13.out)
  clear B13 L_13 FA_13 XA_13 FW_13 XW_13
  clear hb
  go_wp2_with fail
  have hf := fo_two (w := w14) (a0 := 2) (a1 := 2000) (b0 := 3) (b1 := 2) (sa := .slice none 0 0) (sb := .slice none 0 0) (fo_nil _ _) (fo_nil _ _)
  have hb := (Below.refl w14.heap.size w14).alloc (Nat.le_refl _) (.cells #[.int .i64 2, .int .i64 2000, .slice none 0 0, .int .i64 3, .int .i64 2, .slice none 0 0] 24)
  generalize w14.alloc (.cells #[.int .i64 2, .int .i64 2000, .slice none 0 0, .int .i64 3, .int .i64 2, .slice none 0 0] 24) = w15 at *
  have B15 := Lib.hid (bthen' B14.out hb)
  have L_15 := Lib.hid ((L_14.out.on hb).up (Below.size hb))
  have FA_15 := Lib.hid ((FA_14.out.on hb).up (Below.size hb))
  have XA_15 := Lib.hid ((hb.block _ (Array.getElem?_eq_some_iff.1 XA_14.out).1).trans XA_14.out)
  have FW_15 := Lib.hid ((FW_14.out.on hb).up (Below.size hb))
  have XW_15 := Lib.hid ((hb.block _ (Array.getElem?_eq_some_iff.1 XW_14.out).1).trans XW_14.out)
  clear B14 L_14 FA_14 XA_14 FW_14 XW_14
  have FM_15 := Lib.hid hf
  clear hf hb
  go_wp2_with fail
  refine (node8_any 6 (some ⟨w14.heap.size, 0, none⟩) 2 2 _).mono ?_
  rintro e w16 ⟨rfl, hb⟩
  have B16 := Lib.hid (bthen' B15.out hb)
  have L_16 := Lib.hid ((L_15.out.on hb).up (Below.size hb))
  have FA_16 := Lib.hid ((FA_15.out.on hb).up (Below.size hb))
  have XA_16 := Lib.hid ((hb.block _ (Array.getElem?_eq_some_iff.1 XA_15.out).1).trans XA_15.out)
  have FW_16 := Lib.hid ((FW_15.out.on hb).up (Below.size hb))
  have XW_16 := Lib.hid ((hb.block _ (Array.getElem?_eq_some_iff.1 XW_15.out).1).trans XW_15.out)
  have FM_16 := Lib.hid ((FM_15.out.on hb).up (Below.size hb))
  clear B15 L_15 FA_15 XA_15 FW_15 XW_15 FM_15
  clear hb
  go_wp2_with fail
  have hf := fo_two (w := w16) (a0 := 2) (a1 := 10000) (b0 := 6) (b1 := 0) (sa := .slice none 0 0) (sb := .slice (some ⟨w14.heap.size, 0, none⟩) 2 2) (fo_nil _ _) FM_16.out
  have hb := (Below.refl w16.heap.size w16).alloc (Nat.le_refl _) (.cells #[.int .i64 2, .int .i64 10000, .slice none 0 0, .int .i64 6, .int .i64 0, .slice (some ⟨w14.heap.size, 0, none⟩) 2 2] 24)
  generalize w16.alloc (.cells #[.int .i64 2, .int .i64 10000, .slice none 0 0, .int .i64 6, .int .i64 0, .slice (some ⟨w14.heap.size, 0, none⟩) 2 2] 24) = w17 at *
  have B17 := Lib.hid (bthen' B16.out hb)
  have L_17 := Lib.hid ((L_16.out.on hb).up (Below.size hb))
  have FA_17 := Lib.hid ((FA_16.out.on hb).up (Below.size hb))
  have XA_17 := Lib.hid ((hb.block _ (Array.getElem?_eq_some_iff.1 XA_16.out).1).trans XA_16.out)
  have FW_17 := Lib.hid ((FW_16.out.on hb).up (Below.size hb))
  have XW_17 := Lib.hid ((hb.block _ (Array.getElem?_eq_some_iff.1 XW_16.out).1).trans XW_16.out)
  have FM_17 := Lib.hid ((FM_16.out.on hb).up (Below.size hb))
  clear B16 L_16 FA_16 XA_16 FW_16 XW_16 FM_16
  have FP_17 := Lib.hid hf
  clear hf hb
  clear FM_17
  go_wp2_with fail
  refine (node8_any 4 (some ⟨w16.heap.size, 0, none⟩) 2 2 _).mono ?_
  rintro e w18 ⟨rfl, hb⟩
  have B18 := Lib.hid (bthen' B17.out hb)
  have L_18 := Lib.hid ((L_17.out.on hb).up (Below.size hb))
  have FA_18 := Lib.hid ((FA_17.out.on hb).up (Below.size hb))
  have XA_18 := Lib.hid ((hb.block _ (Array.getElem?_eq_some_iff.1 XA_17.out).1).trans XA_17.out)
  have FW_18 := Lib.hid ((FW_17.out.on hb).up (Below.size hb))
  have XW_18 := Lib.hid ((hb.block _ (Array.getElem?_eq_some_iff.1 XW_17.out).1).trans XW_17.out)
  have FP_18 := Lib.hid ((FP_17.out.on hb).up (Below.size hb))
  clear B17 L_17 FA_17 XA_17 FW_17 XW_17 FP_17
  clear hb
  go_upto_region 7 with fail
  have hx := World.alloc_heap_new w18 (.cells #[.int .i64 4, .int .i64 0, .slice (some ⟨w16.heap.size, 0, none⟩) 2 2] 24)
  have hb := (Below.refl w18.heap.size w18).alloc (Nat.le_refl _) (.cells #[.int .i64 4, .int .i64 0, .slice (some ⟨w16.heap.size, 0, none⟩) 2 2] 24)
  generalize w18.alloc (.cells #[.int .i64 4, .int .i64 0, .slice (some ⟨w16.heap.size, 0, none⟩) 2 2] 24) = w19 at *
  have B19 := Lib.hid (bthen' B18.out hb)
  have L_19 := Lib.hid ((L_18.out.on hb).up (Below.size hb))
  have FA_19 := Lib.hid ((FA_18.out.on hb).up (Below.size hb))
  have XA_19 := Lib.hid ((hb.block _ (Array.getElem?_eq_some_iff.1 XA_18.out).1).trans XA_18.out)
  have FW_19 := Lib.hid ((FW_18.out.on hb).up (Below.size hb))
  have XW_19 := Lib.hid ((hb.block _ (Array.getElem?_eq_some_iff.1 XW_18.out).1).trans XW_18.out)
  have FP_19 := Lib.hid ((FP_18.out.on hb).up (Below.size hb))
  clear B18 L_18 FA_18 XA_18 FW_18 XW_18 FP_18
  have XP_19 := Lib.hid hx
  clear hb hx
  have p0 : w19.cell? ⟨w10.heap.size, 0, none⟩ = some (.int .i64 11) := by rw [Lib.cell_of_heap XW_19.out]; rfl
  have p1 : w19.cell? ⟨w10.heap.size, 1, none⟩ = some (.int .i64 0) := by rw [Lib.cell_of_heap XW_19.out]; rfl
  have p2 : w19.cell? ⟨w10.heap.size, 2, none⟩ = some (.slice (some ⟨w8.heap.size, 0, none⟩) 2 2) := by rw [Lib.cell_of_heap XW_19.out]; rfl
  have q0 : w19.cell? ⟨w18.heap.size, 0, none⟩ = some (.int .i64 4) := by rw [Lib.cell_of_heap XP_19.out]; rfl
  have q1 : w19.cell? ⟨w18.heap.size, 1, none⟩ = some (.int .i64 0) := by rw [Lib.cell_of_heap XP_19.out]; rfl
  have q2 : w19.cell? ⟨w18.heap.size, 2, none⟩ = some (.slice (some ⟨w16.heap.size, 0, none⟩) 2 2) := by rw [Lib.cell_of_heap XP_19.out]; rfl
  go_wp2_with fail
  clear p0 p1 p2
  clear q0 q1 q2
  have hx := World.alloc_heap_new w19 (.cells #[.int .i64 7, .int .i64 1, .int .i64 2, .int .i64 10, .int .i64 40, .int .i64 2, .int .i64 9, .int .i64 127, .int .i64 1, .int .i64 2, .int .i64 11, .int .i64 0, .slice (some ⟨w8.heap.size, 0, none⟩) 2 2, .int .i64 4, .int .i64 0, .slice (some ⟨w16.heap.size, 0, none⟩) 2 2] 47)
  have hb := (Below.refl w19.heap.size w19).alloc (Nat.le_refl _) (.cells #[.int .i64 7, .int .i64 1, .int .i64 2, .int .i64 10, .int .i64 40, .int .i64 2, .int .i64 9, .int .i64 127, .int .i64 1, .int .i64 2, .int .i64 11, .int .i64 0, .slice (some ⟨w8.heap.size, 0, none⟩) 2 2, .int .i64 4, .int .i64 0, .slice (some ⟨w16.heap.size, 0, none⟩) 2 2] 47)
  generalize w19.alloc (.cells #[.int .i64 7, .int .i64 1, .int .i64 2, .int .i64 10, .int .i64 40, .int .i64 2, .int .i64 9, .int .i64 127, .int .i64 1, .int .i64 2, .int .i64 11, .int .i64 0, .slice (some ⟨w8.heap.size, 0, none⟩) 2 2, .int .i64 4, .int .i64 0, .slice (some ⟨w16.heap.size, 0, none⟩) 2 2] 47) = w20 at *
  have B20 := Lib.hid (bthen' B19.out hb)
  have L_20 := Lib.hid ((L_19.out.on hb).up (Below.size hb))
  have FA_20 := Lib.hid ((FA_19.out.on hb).up (Below.size hb))
  have XA_20 := Lib.hid ((hb.block _ (Array.getElem?_eq_some_iff.1 XA_19.out).1).trans XA_19.out)
  have FW_20 := Lib.hid ((FW_19.out.on hb).up (Below.size hb))
  have XW_20 := Lib.hid ((hb.block _ (Array.getElem?_eq_some_iff.1 XW_19.out).1).trans XW_19.out)
  have FP_20 := Lib.hid ((FP_19.out.on hb).up (Below.size hb))
  have XP_20 := Lib.hid ((hb.block _ (Array.getElem?_eq_some_iff.1 XP_19.out).1).trans XP_19.out)
  clear B19 L_19 FA_19 XA_19 FW_19 XW_19 FP_19 XP_19
  have XR_20 := Lib.hid hx
  clear hb hx
  clear XW_20
  go_wp2_with fail
  refine (leaf8_any 1 1 _).mono ?_
  rintro e w21 ⟨rfl, hb⟩
  have B21 := Lib.hid (bthen' B20.out hb)
  have L_21 := Lib.hid ((L_20.out.on hb).up (Below.size hb))
  have FA_21 := Lib.hid ((FA_20.out.on hb).up (Below.size hb))
  have XA_21 := Lib.hid ((hb.block _ (Array.getElem?_eq_some_iff.1 XA_20.out).1).trans XA_20.out)
  have FW_21 := Lib.hid ((FW_20.out.on hb).up (Below.size hb))
  have FP_21 := Lib.hid ((FP_20.out.on hb).up (Below.size hb))
  have XP_21 := Lib.hid ((hb.block _ (Array.getElem?_eq_some_iff.1 XP_20.out).1).trans XP_20.out)
  have XR_21 := Lib.hid ((hb.block _ (Array.getElem?_eq_some_iff.1 XR_20.out).1).trans XR_20.out)
  clear B20 L_20 FA_20 XA_20 FW_20 FP_20 XP_20 XR_20
  clear hb
  go_upto_region 9 with fail
  have hx := World.alloc_heap_new w21 (.cells #[.int .i64 1, .int .i64 1, .slice none 0 0] 24)
  have hb := (Below.refl w21.heap.size w21).alloc (Nat.le_refl _) (.cells #[.int .i64 1, .int .i64 1, .slice none 0 0] 24)
  generalize w21.alloc (.cells #[.int .i64 1, .int .i64 1, .slice none 0 0] 24) = w22 at *
  have B22 := Lib.hid (bthen' B21.out hb)
  have L_22 := Lib.hid ((L_21.out.on hb).up (Below.size hb))
  have FA_22 := Lib.hid ((FA_21.out.on hb).up (Below.size hb))
  have XA_22 := Lib.hid ((hb.block _ (Array.getElem?_eq_some_iff.1 XA_21.out).1).trans XA_21.out)
  have FW_22 := Lib.hid ((FW_21.out.on hb).up (Below.size hb))
  have FP_22 := Lib.hid ((FP_21.out.on hb).up (Below.size hb))
  have XP_22 := Lib.hid ((hb.block _ (Array.getElem?_eq_some_iff.1 XP_21.out).1).trans XP_21.out)
  have XR_22 := Lib.hid ((hb.block _ (Array.getElem?_eq_some_iff.1 XR_21.out).1).trans XR_21.out)
  clear B21 L_21 FA_21 XA_21 FW_21 FP_21 XP_21 XR_21
  have X1_22 := Lib.hid hx
  clear hb hx
  have q0 : w22.cell? ⟨w18.heap.size, 0, none⟩ = some (.int .i64 4) := by rw [Lib.cell_of_heap XP_22.out]; rfl
  have q1 : w22.cell? ⟨w18.heap.size, 1, none⟩ = some (.int .i64 0) := by rw [Lib.cell_of_heap XP_22.out]; rfl
  have q2 : w22.cell? ⟨w18.heap.size, 2, none⟩ = some (.slice (some ⟨w16.heap.size, 0, none⟩) 2 2) := by rw [Lib.cell_of_heap XP_22.out]; rfl
  go_wp2_with fail
  refine (valid_any 4 0 hdP.2 (.slice (some ⟨w16.heap.size, 0, none⟩) 2 2) _ FP_22.out).mono ?_
  rintro e w23 ⟨rfl, hb⟩
  rw [show validB 4 0 hdP.2 = true from hd_valid1]
  clear q0 q1 q2
  have B23 := Lib.hid (bthen' B22.out hb)
  have L_23 := Lib.hid ((L_22.out.on hb).up (Below.size hb))
  have FA_23 := Lib.hid ((FA_22.out.on hb).up (Below.size hb))
  have XA_23 := Lib.hid ((hb.block _ (Array.getElem?_eq_some_iff.1 XA_22.out).1).trans XA_22.out)
  have FW_23 := Lib.hid ((FW_22.out.on hb).up (Below.size hb))
  have FP_23 := Lib.hid ((FP_22.out.on hb).up (Below.size hb))
  have XP_23 := Lib.hid ((hb.block _ (Array.getElem?_eq_some_iff.1 XP_22.out).1).trans XP_22.out)
  have XR_23 := Lib.hid ((hb.block _ (Array.getElem?_eq_some_iff.1 XR_22.out).1).trans XR_22.out)
  have X1_23 := Lib.hid ((hb.block _ (Array.getElem?_eq_some_iff.1 X1_22.out).1).trans X1_22.out)
  clear B22 L_22 FA_22 XA_22 FW_22 FP_22 XP_22 XR_22 X1_22
  clear hb
  go_wp2_with fail
  refine (valid_any 0 0 .nil (.slice none 0 0) _ (fo_nil _ _)).mono ?_
  rintro e w24 ⟨rfl, hb⟩
  rw [hd_valid2]
  have B24 := Lib.hid (bthen' B23.out hb)
  have L_24 := Lib.hid ((L_23.out.on hb).up (Below.size hb))
  have FA_24 := Lib.hid ((FA_23.out.on hb).up (Below.size hb))
  have XA_24 := Lib.hid ((hb.block _ (Array.getElem?_eq_some_iff.1 XA_23.out).1).trans XA_23.out)
  have FW_24 := Lib.hid ((FW_23.out.on hb).up (Below.size hb))
  have FP_24 := Lib.hid ((FP_23.out.on hb).up (Below.size hb))
  have XP_24 := Lib.hid ((hb.block _ (Array.getElem?_eq_some_iff.1 XP_23.out).1).trans XP_23.out)
  have XR_24 := Lib.hid ((hb.block _ (Array.getElem?_eq_some_iff.1 XR_23.out).1).trans XR_23.out)
  have X1_24 := Lib.hid ((hb.block _ (Array.getElem?_eq_some_iff.1 X1_23.out).1).trans X1_23.out)
  clear B23 L_23 FA_23 XA_23 FW_23 FP_23 XP_23 XR_23 X1_23
  clear hb
  go_upto_region 10 with fail
  have a0 : w24.cell? ⟨w2.heap.size, 0, none⟩ = some (.int .i64 5) := by rw [Lib.cell_of_heap XA_24.out]; rfl
  have a1 : w24.cell? ⟨w2.heap.size, 1, none⟩ = some (.int .i64 0) := by rw [Lib.cell_of_heap XA_24.out]; rfl
  have a2 : w24.cell? ⟨w2.heap.size, 2, none⟩ = some (.slice AX 2 cX) := by rw [Lib.cell_of_heap XA_24.out]; rfl
  have b0 : w24.cell? ⟨w21.heap.size, 0, none⟩ = some (.int .i64 1) := by rw [Lib.cell_of_heap X1_24.out]; rfl
  have b1 : w24.cell? ⟨w21.heap.size, 1, none⟩ = some (.int .i64 1) := by rw [Lib.cell_of_heap X1_24.out]; rfl
  have b2 : w24.cell? ⟨w21.heap.size, 2, none⟩ = some (.slice none 0 0) := by rw [Lib.cell_of_heap X1_24.out]; rfl
  have r0 : w24.cell? ⟨w19.heap.size, 0, none⟩ = some (.int .i64 7) := by rw [Lib.cell_of_heap XR_24.out]; rfl
  have r1 : w24.cell? ⟨w19.heap.size, 1, none⟩ = some (.int .i64 1) := by rw [Lib.cell_of_heap XR_24.out]; rfl
  have r2 : w24.cell? ⟨w19.heap.size, 2, none⟩ = some (.int .i64 2) := by rw [Lib.cell_of_heap XR_24.out]; rfl
  have r3 : w24.cell? ⟨w19.heap.size, 3, none⟩ = some (.int .i64 10) := by rw [Lib.cell_of_heap XR_24.out]; rfl
  have r4 : w24.cell? ⟨w19.heap.size, 4, none⟩ = some (.int .i64 40) := by rw [Lib.cell_of_heap XR_24.out]; rfl
  have r5 : w24.cell? ⟨w19.heap.size, 5, none⟩ = some (.int .i64 2) := by rw [Lib.cell_of_heap XR_24.out]; rfl
  have r6 : w24.cell? ⟨w19.heap.size, 6, none⟩ = some (.int .i64 9) := by rw [Lib.cell_of_heap XR_24.out]; rfl
  have r7 : w24.cell? ⟨w19.heap.size, 7, none⟩ = some (.int .i64 127) := by rw [Lib.cell_of_heap XR_24.out]; rfl
  have r8 : w24.cell? ⟨w19.heap.size, 8, none⟩ = some (.int .i64 1) := by rw [Lib.cell_of_heap XR_24.out]; rfl
  have r9 : w24.cell? ⟨w19.heap.size, 9, none⟩ = some (.int .i64 2) := by rw [Lib.cell_of_heap XR_24.out]; rfl
  have r10 : w24.cell? ⟨w19.heap.size, 10, none⟩ = some (.int .i64 11) := by rw [Lib.cell_of_heap XR_24.out]; rfl
  have r11 : w24.cell? ⟨w19.heap.size, 11, none⟩ = some (.int .i64 0) := by rw [Lib.cell_of_heap XR_24.out]; rfl
  have r12 : w24.cell? ⟨w19.heap.size, 12, none⟩ = some (.slice (some ⟨w8.heap.size, 0, none⟩) 2 2) := by rw [Lib.cell_of_heap XR_24.out]; rfl
  have r13 : w24.cell? ⟨w19.heap.size, 13, none⟩ = some (.int .i64 4) := by rw [Lib.cell_of_heap XR_24.out]; rfl
  have r14 : w24.cell? ⟨w19.heap.size, 14, none⟩ = some (.int .i64 0) := by rw [Lib.cell_of_heap XR_24.out]; rfl
  have r15 : w24.cell? ⟨w19.heap.size, 15, none⟩ = some (.slice (some ⟨w16.heap.size, 0, none⟩) 2 2) := by rw [Lib.cell_of_heap XR_24.out]; rfl
  have hl4 : w2.heap.size < w24.heap.size := (Array.getElem?_eq_some_iff.1 XA_24.out).1
  have hl14 : w21.heap.size < w24.heap.size := (Array.getElem?_eq_some_iff.1 X1_24.out).1
  have hl13 : w19.heap.size < w24.heap.size := (Array.getElem?_eq_some_iff.1 XR_24.out).1
  go_region_held3 (fun w' => w'.cell? ⟨w2.heap.size, 0, none⟩ = some (.int .i64 5) ∧ w'.cell? ⟨w2.heap.size, 1, none⟩ = some (.int .i64 0) ∧ w'.cell? ⟨w2.heap.size, 2, none⟩ = some (.slice AX 2 cX) ∧ w'.cell? ⟨w21.heap.size, 0, none⟩ = some (.int .i64 1) ∧ w'.cell? ⟨w21.heap.size, 1, none⟩ = some (.int .i64 1) ∧ w'.cell? ⟨w21.heap.size, 2, none⟩ = some (.slice none 0 0) ∧ w'.cell? ⟨w19.heap.size, 0, none⟩ = some (.int .i64 7) ∧ w'.cell? ⟨w19.heap.size, 1, none⟩ = some (.int .i64 1) ∧ w'.cell? ⟨w19.heap.size, 2, none⟩ = some (.int .i64 2) ∧ w'.cell? ⟨w19.heap.size, 3, none⟩ = some (.int .i64 10) ∧ w'.cell? ⟨w19.heap.size, 4, none⟩ = some (.int .i64 40) ∧ w'.cell? ⟨w19.heap.size, 5, none⟩ = some (.int .i64 2) ∧ w'.cell? ⟨w19.heap.size, 6, none⟩ = some (.int .i64 9) ∧ w'.cell? ⟨w19.heap.size, 7, none⟩ = some (.int .i64 127) ∧ w'.cell? ⟨w19.heap.size, 8, none⟩ = some (.int .i64 1) ∧ w'.cell? ⟨w19.heap.size, 9, none⟩ = some (.int .i64 2) ∧ w'.cell? ⟨w19.heap.size, 10, none⟩ = some (.int .i64 11) ∧ w'.cell? ⟨w19.heap.size, 11, none⟩ = some (.int .i64 0) ∧ w'.cell? ⟨w19.heap.size, 12, none⟩ = some (.slice (some ⟨w8.heap.size, 0, none⟩) 2 2) ∧ w'.cell? ⟨w19.heap.size, 13, none⟩ = some (.int .i64 4) ∧ w'.cell? ⟨w19.heap.size, 14, none⟩ = some (.int .i64 0) ∧ w'.cell? ⟨w19.heap.size, 15, none⟩ = some (.slice (some ⟨w16.heap.size, 0, none⟩) 2 2)) (first | with_reducible exact ⟨a0, a1, a2, b0, b1, b2, r0, r1, r2, r3, r4, r5, r6, r7, r8, r9, r10, r11, r12, r13, r14, r15⟩ | with_reducible exact ⟨y0, y1, y2, z0, z1, z2, x0, x1, x2, x3, x4, x5, x6, x7, x8, x9, x10, x11, x12, x13, x14, x15⟩ | go_keep)
    (first | (go_at_call 22; refine (hd_rates L_24.out FW_24.out FP_24.out).mono ?_; rintro e wA ⟨rfl, hA⟩; obtain ⟨y0, y1, y2, z0, z1, z2, x0, x1, x2, x3, x4, x5, x6, x7, x8, x9, x10, x11, x12, x13, x14, x15⟩ := hd_cells hA hl4 hl14 hl13 ⟨a0, a1, a2, b0, b1, b2, r0, r1, r2, r3, r4, r5, r6, r7, r8, r9, r10, r11, r12, r13, r14, r15⟩) | (go_at_call 37; refine (leaf8_any 1 2 _).mono ?_; rintro e wB ⟨rfl, hB0⟩; have hB := bthen' hA hB0; obtain ⟨y0, y1, y2, z0, z1, z2, x0, x1, x2, x3, x4, x5, x6, x7, x8, x9, x10, x11, x12, x13, x14, x15⟩ := hd_cells hB hl4 hl14 hl13 ⟨a0, a1, a2, b0, b1, b2, r0, r1, r2, r3, r4, r5, r6, r7, r8, r9, r10, r11, r12, r13, r14, r15⟩) | (go_at_call 37; refine (leaf8_any 1 3 _).mono ?_; rintro e wD ⟨rfl, hD0⟩; have hD := bthen' hC hD0; have hfD := (hfC.on hD0).up (Below.size hD0); obtain ⟨y0, y1, y2, z0, z1, z2, x0, x1, x2, x3, x4, x5, x6, x7, x8, x9, x10, x11, x12, x13, x14, x15⟩ := hd_cells hD hl4 hl14 hl13 ⟨a0, a1, a2, b0, b1, b2, r0, r1, r2, r3, r4, r5, r6, r7, r8, r9, r10, r11, r12, r13, r14, r15⟩) | (go_at_call 27; refine (node8_any 5 _ _ _ _).mono ?_; rintro e wE ⟨rfl, hE0⟩; have hfE := ((fo_two (w := wD) (a0 := 5) (a1 := 0) (b0 := 1) (b1 := 3) (sb := .slice none 0 0) hfD (fo_nil _ _)).on hE0).up (Below.size hE0); have hE := bthen' (bthen' hD ((Below.refl _ _).alloc (Nat.le_refl _) _)) hE0; obtain ⟨y0, y1, y2, z0, z1, z2, x0, x1, x2, x3, x4, x5, x6, x7, x8, x9, x10, x11, x12, x13, x14, x15⟩ := hd_cells hE hl4 hl14 hl13 ⟨a0, a1, a2, b0, b1, b2, r0, r1, r2, r3, r4, r5, r6, r7, r8, r9, r10, r11, r12, r13, r14, r15⟩) | (go_at_call 27; refine (node8_any 5 _ _ _ _).mono ?_; rintro e wC ⟨rfl, hC0⟩; have hfC := ((fo_two (w := wB) (a0 := 1) (a1 := 1) (b0 := 1) (b1 := 2) (sa := .slice none 0 0) (sb := .slice none 0 0) (fo_nil _ _) (fo_nil _ _)).on hC0).up (Below.size hC0); have hC := bthen' (bthen' hB ((Below.refl _ _).alloc (Nat.le_refl _) _)) hC0; obtain ⟨y0, y1, y2, z0, z1, z2, x0, x1, x2, x3, x4, x5, x6, x7, x8, x9, x10, x11, x12, x13, x14, x15⟩ := hd_cells hC hl4 hl14 hl13 ⟨a0, a1, a2, b0, b1, b2, r0, r1, r2, r3, r4, r5, r6, r7, r8, r9, r10, r11, r12, r13, r14, r15⟩) | (go_at_call 17; refine (hd_samec ((FA_24.out.on hE).up (Below.size hE)) hfE).mono ?_; rintro e wF ⟨rfl, hF0⟩; have hF := bthen' hE hF0; obtain ⟨y0, y1, y2, z0, z1, z2, x0, x1, x2, x3, x4, x5, x6, x7, x8, x9, x10, x11, x12, x13, x14, x15⟩ := hd_cells hF hl4 hl14 hl13 ⟨a0, a1, a2, b0, b1, b2, r0, r1, r2, r3, r4, r5, r6, r7, r8, r9, r10, r11, r12, r13, r14, r15⟩))
  all_goals go_wp2_with fail
  all_goals go_ret
  all_goals exact ⟨rfl, bthen' B24.out hF⟩
end Go.Proofs.YtomnjamldbficaaGreatDoor
