/-
  Walks: the statement ParserPrecedence.
-/
import Derived.Test.YtomnjamldbficaaGreatDoorParR15A
import Derived.Test.YtomnjamldbficaaGreatDoorParR15B
import Derived.Test.YtomnjamldbficaaGreatDoorParR15E
namespace Go.Proofs.YtomnjamldbficaaGreatDoor
open Go.RowKit Lx Px
set_option maxRecDepth 100000 in
set_option maxHeartbeats 64000000 in
theorem law15_any (op0 n0 : Int) (l0 : Fo) (A0 : Option Addr) (c0 : Nat) (op1 n1 : Int) (l1 : Fo) (A1 : Option Addr) (c1 : Nat) (op2 n2 : Int) (l2 : Fo) (A2 : Option Addr) (c2 : Nat) (op3 n3 : Int) (l3 : Fo) (A3 : Option Addr) (c3 : Nat) (w : World) (hv0 : FoV w w.heap.size (.slice A0 (flen l0) c0) l0) (hv1 : FoV w w.heap.size (.slice A1 (flen l1) c1) l1) (hv2 : FoV w w.heap.size (.slice A2 (flen l2) c2) l2) (hv3 : FoV w w.heap.size (.slice A3 (flen l3) c3) l3) (hM : Mx w w.heap.size) :
    Calls Tryz.prog 7 #[.agg #[.int .i64 op0, .int .i64 n0, .slice A0 (flen l0) c0], .agg #[.int .i64 op1, .int .i64 n1, .slice A1 (flen l1) c1], .agg #[.int .i64 op2, .int .i64 n2, .slice A2 (flen l2) c2], .agg #[.int .i64 op3, .int .i64 n3, .slice A3 (flen l3) c3]] w fun e w' => e = .returned (.bool true) ∧ Below w.heap.size w w' := by
  have HM := Lib.hid hM
  have HV0 := Lib.hid hv0
  have HV1 := Lib.hid hv1
  have HV2 := Lib.hid hv2
  have HV3 := Lib.hid hv3
  clear hM hv0 hv1 hv2 hv3
  go_enter Tryz.func7, Tryz.ntmps7
  go_upto_region 1 with fail
  obtain ⟨x0, x1, x2, x3, hb⟩ := boxes4 w (.cells #[.int .i64 op0, .int .i64 n0, .slice A0 (flen l0) c0] 24) (.cells #[.int .i64 op1, .int .i64 n1, .slice A1 (flen l1) c1] 24) (.cells #[.int .i64 op2, .int .i64 n2, .slice A2 (flen l2) c2] 24) (.cells #[.int .i64 op3, .int .i64 n3, .slice A3 (flen l3) c3] 24)
  generalize (((w.alloc (.cells #[.int .i64 op0, .int .i64 n0, .slice A0 (flen l0) c0] 24)).alloc (.cells #[.int .i64 op1, .int .i64 n1, .slice A1 (flen l1) c1] 24)).alloc (.cells #[.int .i64 op2, .int .i64 n2, .slice A2 (flen l2) c2] 24)).alloc (.cells #[.int .i64 op3, .int .i64 n3, .slice A3 (flen l3) c3] 24) = w1 at *
  obtain ⟨b1, e1⟩ : ∃ b, b = w.heap.size + 1 := ⟨_, rfl⟩
  obtain ⟨b2, e2⟩ : ∃ b, b = w.heap.size + 1 + 1 := ⟨_, rfl⟩
  obtain ⟨b3, e3⟩ : ∃ b, b = w.heap.size + 1 + 1 + 1 := ⟨_, rfl⟩
  rw [← e1] at x1
  rw [← e2] at x2
  rw [← e3] at x3
  rw [← e3, ← e2, ← e1]
  have X0 := Lib.hid x0
  have X1 := Lib.hid x1
  have X2 := Lib.hid x2
  have X3 := Lib.hid x3
  have B1 := Lib.hid hb
  clear x0 x1 x2 x3 hb e1 e2 e3
  go_wp2_with fail
  refine (head8_any _ (mx_up HM.out B1.out)).mono ?_
  rintro e w2 ⟨rfl, hb⟩
  have Y0 := Lib.hid ((hb.block _ (Array.getElem?_eq_some_iff.1 X0.out).1).trans X0.out)
  have Y1 := Lib.hid ((hb.block _ (Array.getElem?_eq_some_iff.1 X1.out).1).trans X1.out)
  have Y2 := Lib.hid ((hb.block _ (Array.getElem?_eq_some_iff.1 X2.out).1).trans X2.out)
  have Y3 := Lib.hid ((hb.block _ (Array.getElem?_eq_some_iff.1 X3.out).1).trans X3.out)
  have B2 := Lib.hid (bthen' B1.out hb)
  clear hb X0 X1 X2 X3 B1
  have p00 : w2.cell? ⟨w.heap.size, 0, none⟩ = some (.int .i64 op0) := by rw [Lib.cell_of_heap Y0.out]; rfl
  have p01 : w2.cell? ⟨w.heap.size, 1, none⟩ = some (.int .i64 n0) := by rw [Lib.cell_of_heap Y0.out]; rfl
  have p02 : w2.cell? ⟨w.heap.size, 2, none⟩ = some (.slice A0 (flen l0) c0) := by rw [Lib.cell_of_heap Y0.out]; rfl
  have p10 : w2.cell? ⟨b1, 0, none⟩ = some (.int .i64 op1) := by rw [Lib.cell_of_heap Y1.out]; rfl
  have p11 : w2.cell? ⟨b1, 1, none⟩ = some (.int .i64 n1) := by rw [Lib.cell_of_heap Y1.out]; rfl
  have p12 : w2.cell? ⟨b1, 2, none⟩ = some (.slice A1 (flen l1) c1) := by rw [Lib.cell_of_heap Y1.out]; rfl
  have p20 : w2.cell? ⟨b2, 0, none⟩ = some (.int .i64 op2) := by rw [Lib.cell_of_heap Y2.out]; rfl
  have p21 : w2.cell? ⟨b2, 1, none⟩ = some (.int .i64 n2) := by rw [Lib.cell_of_heap Y2.out]; rfl
  have p22 : w2.cell? ⟨b2, 2, none⟩ = some (.slice A2 (flen l2) c2) := by rw [Lib.cell_of_heap Y2.out]; rfl
  have p30 : w2.cell? ⟨b3, 0, none⟩ = some (.int .i64 op3) := by rw [Lib.cell_of_heap Y3.out]; rfl
  have p31 : w2.cell? ⟨b3, 1, none⟩ = some (.int .i64 n3) := by rw [Lib.cell_of_heap Y3.out]; rfl
  have p32 : w2.cell? ⟨b3, 2, none⟩ = some (.slice A3 (flen l3) c3) := by rw [Lib.cell_of_heap Y3.out]; rfl
  go_wp2_with fail
  have hbl := (Below.refl w2.heap.size w2).alloc (Nat.le_refl _) (.cells #[.int .i64 op0, .int .i64 n0, .slice A0 (flen l0) c0, .int .i64 op1, .int .i64 n1, .slice A1 (flen l1) c1, .int .i64 op2, .int .i64 n2, .slice A2 (flen l2) c2, .int .i64 op3, .int .i64 n3, .slice A3 (flen l3) c3] 24)
  have hfo := fo_four' (World.alloc_heap_new w2 (.cells #[.int .i64 op0, .int .i64 n0, .slice A0 (flen l0) c0, .int .i64 op1, .int .i64 n1, .slice A1 (flen l1) c1, .int .i64 op2, .int .i64 n2, .slice A2 (flen l2) c2, .int .i64 op3, .int .i64 n3, .slice A3 (flen l3) c3] 24)) ((((HV0.out.on B2.out).up B2.out.size).on hbl).up hbl.size) ((((HV1.out.on B2.out).up B2.out.size).on hbl).up hbl.size) ((((HV2.out.on B2.out).up B2.out.size).on hbl).up hbl.size) ((((HV3.out.on B2.out).up B2.out.size).on hbl).up hbl.size) (by simp)
  refine (small_any _ _ _ _ hfo (Nat.le_refl _) (by simp [flen])).mono ?_
  rintro e w3 ⟨rfl, hb⟩
  have hb4 := bthen' hbl hb
  have Z0 := Lib.hid ((hb4.block _ (Array.getElem?_eq_some_iff.1 Y0.out).1).trans Y0.out)
  have Z1 := Lib.hid ((hb4.block _ (Array.getElem?_eq_some_iff.1 Y1.out).1).trans Y1.out)
  have Z2 := Lib.hid ((hb4.block _ (Array.getElem?_eq_some_iff.1 Y2.out).1).trans Y2.out)
  have Z3 := Lib.hid ((hb4.block _ (Array.getElem?_eq_some_iff.1 Y3.out).1).trans Y3.out)
  have B3 := Lib.hid (bthen' B2.out hb4)
  clear hb hbl hfo hb4 Y0 Y1 Y2 Y3 B2 p00 p01 p02 p10 p11 p12 p20 p21 p22 p30 p31 p32
  cases hsm : smallF (.node 0 0 (op0, n0) l0 (.node 0 0 (op1, n1) l1 (.node 0 0 (op2, n2) l2 (.node 0 0 (op3, n3) l3 .nil)))) with
  | false =>
    go_wp2_with fail
    go_ret
    exact ⟨rfl, B3.out⟩
  | true =>
  simp only [smallF, Bool.and_eq_true, decide_eq_true_eq] at hsm
  obtain ⟨⟨s0, v0⟩, ⟨s1, v1⟩, ⟨s2, v2⟩, ⟨s3, v3⟩, _⟩ := hsm
  have S0 : Sml (op0, n0) l0 := ⟨s0, v0⟩
  have S1 : Sml (op1, n1) l1 := ⟨s1, v1⟩
  have S2 : Sml (op2, n2) l2 := ⟨s2, v2⟩
  have S3 : Sml (op3, n3) l3 := ⟨s3, v3⟩
  obtain ⟨T0, eT0⟩ : ∃ x, x = mk (showE op0 n0 l0) := ⟨_, rfl⟩
  have hs0 : ∀ W : World, Below w.heap.size w W → Calls Tryz.prog 25 #[.agg #[.int .i64 op0, .int .i64 n0, .slice A0 (flen l0) c0]] W fun e w' => e = .returned (.string T0) ∧ Below W.heap.size W w' := fun W hW => by
    obtain ⟨f, o, _⟩ := valid_parts v0
    have d := small_nodes (a := (op0, n0)) s0 v0
    rw [eT0]; exact show_any (op0, n0) l0 W _ W.heap.size f o ((HV0.out.on hW).up hW.size) (Nat.le_refl _) (by omega)
  have z0 : T0.size ≤ 192 := by rw [eT0, size_mk]; exact S0.pt.n
  have HS0 := Lib.hid hs0
  have HT0 := Lib.hid eT0
  have HQ0 := Lib.hid S0
  obtain ⟨T1, eT1⟩ : ∃ x, x = mk (showE op1 n1 l1) := ⟨_, rfl⟩
  have hs1 : ∀ W : World, Below w.heap.size w W → Calls Tryz.prog 25 #[.agg #[.int .i64 op1, .int .i64 n1, .slice A1 (flen l1) c1]] W fun e w' => e = .returned (.string T1) ∧ Below W.heap.size W w' := fun W hW => by
    obtain ⟨f, o, _⟩ := valid_parts v1
    have d := small_nodes (a := (op1, n1)) s1 v1
    rw [eT1]; exact show_any (op1, n1) l1 W _ W.heap.size f o ((HV1.out.on hW).up hW.size) (Nat.le_refl _) (by omega)
  have z1 : T1.size ≤ 192 := by rw [eT1, size_mk]; exact S1.pt.n
  have HS1 := Lib.hid hs1
  have HT1 := Lib.hid eT1
  have HQ1 := Lib.hid S1
  obtain ⟨T2, eT2⟩ : ∃ x, x = mk (showE op2 n2 l2) := ⟨_, rfl⟩
  have hs2 : ∀ W : World, Below w.heap.size w W → Calls Tryz.prog 25 #[.agg #[.int .i64 op2, .int .i64 n2, .slice A2 (flen l2) c2]] W fun e w' => e = .returned (.string T2) ∧ Below W.heap.size W w' := fun W hW => by
    obtain ⟨f, o, _⟩ := valid_parts v2
    have d := small_nodes (a := (op2, n2)) s2 v2
    rw [eT2]; exact show_any (op2, n2) l2 W _ W.heap.size f o ((HV2.out.on hW).up hW.size) (Nat.le_refl _) (by omega)
  have z2 : T2.size ≤ 192 := by rw [eT2, size_mk]; exact S2.pt.n
  have HS2 := Lib.hid hs2
  have HT2 := Lib.hid eT2
  have HQ2 := Lib.hid S2
  obtain ⟨T3, eT3⟩ : ∃ x, x = mk (showE op3 n3 l3) := ⟨_, rfl⟩
  have hs3 : ∀ W : World, Below w.heap.size w W → Calls Tryz.prog 25 #[.agg #[.int .i64 op3, .int .i64 n3, .slice A3 (flen l3) c3]] W fun e w' => e = .returned (.string T3) ∧ Below W.heap.size W w' := fun W hW => by
    obtain ⟨f, o, _⟩ := valid_parts v3
    have d := small_nodes (a := (op3, n3)) s3 v3
    rw [eT3]; exact show_any (op3, n3) l3 W _ W.heap.size f o ((HV3.out.on hW).up hW.size) (Nat.le_refl _) (by omega)
  have z3 : T3.size ≤ 192 := by rw [eT3, size_mk]; exact S3.pt.n
  have HS3 := Lib.hid hs3
  have HT3 := Lib.hid eT3
  have HQ3 := Lib.hid S3
  clear hs0 eT0 S0 s0 v0 hs1 eT1 S1 s1 v1 hs2 eT2 S2 s2 v2 hs3 eT3 S3 s3 v3
  go_upto_region 4 with fail
  have p00 : w3.cell? ⟨w.heap.size, 0, none⟩ = some (.int .i64 op0) := by rw [Lib.cell_of_heap Z0.out]; rfl
  have p01 : w3.cell? ⟨w.heap.size, 1, none⟩ = some (.int .i64 n0) := by rw [Lib.cell_of_heap Z0.out]; rfl
  have p02 : w3.cell? ⟨w.heap.size, 2, none⟩ = some (.slice A0 (flen l0) c0) := by rw [Lib.cell_of_heap Z0.out]; rfl
  have p10 : w3.cell? ⟨b1, 0, none⟩ = some (.int .i64 op1) := by rw [Lib.cell_of_heap Z1.out]; rfl
  have p11 : w3.cell? ⟨b1, 1, none⟩ = some (.int .i64 n1) := by rw [Lib.cell_of_heap Z1.out]; rfl
  have p12 : w3.cell? ⟨b1, 2, none⟩ = some (.slice A1 (flen l1) c1) := by rw [Lib.cell_of_heap Z1.out]; rfl
  have p20 : w3.cell? ⟨b2, 0, none⟩ = some (.int .i64 op2) := by rw [Lib.cell_of_heap Z2.out]; rfl
  have p21 : w3.cell? ⟨b2, 1, none⟩ = some (.int .i64 n2) := by rw [Lib.cell_of_heap Z2.out]; rfl
  have p22 : w3.cell? ⟨b2, 2, none⟩ = some (.slice A2 (flen l2) c2) := by rw [Lib.cell_of_heap Z2.out]; rfl
  have p30 : w3.cell? ⟨b3, 0, none⟩ = some (.int .i64 op3) := by rw [Lib.cell_of_heap Z3.out]; rfl
  have p31 : w3.cell? ⟨b3, 1, none⟩ = some (.int .i64 n3) := by rw [Lib.cell_of_heap Z3.out]; rfl
  have p32 : w3.cell? ⟨b3, 2, none⟩ = some (.slice A3 (flen l3) c3) := by rw [Lib.cell_of_heap Z3.out]; rfl
  have k0 : w.heap.size < w3.heap.size := (Array.getElem?_eq_some_iff.1 Z0.out).1
  have k1 : b1 < w3.heap.size := (Array.getElem?_eq_some_iff.1 Z1.out).1
  have k2 : b2 < w3.heap.size := (Array.getElem?_eq_some_iff.1 Z2.out).1
  have k3 : b3 < w3.heap.size := (Array.getElem?_eq_some_iff.1 Z3.out).1
  have tok0 : True := trivial
  have tok1 : True := trivial
  have tok2 : True := trivial
  have tok3 : True := trivial
  go_wp2_with fail
  go_region_held3 (fun w' => w'.cell? ⟨w.heap.size, 0, none⟩ = some (.int .i64 op0) ∧ w'.cell? ⟨w.heap.size, 1, none⟩ = some (.int .i64 n0) ∧ w'.cell? ⟨w.heap.size, 2, none⟩ = some (.slice A0 (flen l0) c0) ∧ w'.cell? ⟨b1, 0, none⟩ = some (.int .i64 op1) ∧ w'.cell? ⟨b1, 1, none⟩ = some (.int .i64 n1) ∧ w'.cell? ⟨b1, 2, none⟩ = some (.slice A1 (flen l1) c1) ∧ w'.cell? ⟨b2, 0, none⟩ = some (.int .i64 op2) ∧ w'.cell? ⟨b2, 1, none⟩ = some (.int .i64 n2) ∧ w'.cell? ⟨b2, 2, none⟩ = some (.slice A2 (flen l2) c2) ∧ w'.cell? ⟨b3, 0, none⟩ = some (.int .i64 op3) ∧ w'.cell? ⟨b3, 1, none⟩ = some (.int .i64 n3) ∧ w'.cell? ⟨b3, 2, none⟩ = some (.slice A3 (flen l3) c3))
    (first | with_reducible exact ⟨p00, p01, p02, p10, p11, p12, p20, p21, p22, p30, p31, p32⟩ | with_reducible exact y0 | with_reducible exact y1 | with_reducible exact y2 | with_reducible exact y3 | go_keep)
    (first
      | (go_at_call 25; have _t := tok0; refine (HS0.out _ B3.out.drew).mono ?_; rintro e u0 ⟨rfl, hb⟩; have hc0 : Below w3.heap.size w3 u0 := ((Below.refl _ _).drew).trans hb; have y0 := cells12 hc0 k0 k1 k2 k3 ⟨p00, p01, p02, p10, p11, p12, p20, p21, p22, p30, p31, p32⟩; clear hb tok0)
      | (go_at_call 25; have _t := tok1; refine (HS1.out _ (bthen' B3.out hc0)).mono ?_; rintro e u1 ⟨rfl, hb⟩; have hc1 : Below w3.heap.size w3 u1 := bthen' hc0 hb; have y1 := cells12 hc1 k0 k1 k2 k3 ⟨p00, p01, p02, p10, p11, p12, p20, p21, p22, p30, p31, p32⟩; clear hb tok1)
      | (go_at_call 25; have _t := tok2; refine (HS2.out _ (bthen' B3.out hc1)).mono ?_; rintro e u2 ⟨rfl, hb⟩; have hc2 : Below w3.heap.size w3 u2 := bthen' hc1 hb; have y2 := cells12 hc2 k0 k1 k2 k3 ⟨p00, p01, p02, p10, p11, p12, p20, p21, p22, p30, p31, p32⟩; clear hb tok2)
      | (go_at_call 25; have _t := tok3; refine (HS3.out _ (bthen' B3.out hc2)).mono ?_; rintro e u3 ⟨rfl, hb⟩; have hc3 : Below w3.heap.size w3 u3 := bthen' hc2 hb; have y3 := cells12 hc3 k0 k1 k2 k3 ⟨p00, p01, p02, p10, p11, p12, p20, p21, p22, p30, p31, p32⟩; clear hb tok3))
  have W0 := Lib.hid ((hc3.block _ k0).trans Z0.out)
  have W1 := Lib.hid ((hc3.block _ k1).trans Z1.out)
  have W2 := Lib.hid ((hc3.block _ k2).trans Z2.out)
  have W3 := Lib.hid ((hc3.block _ k3).trans Z3.out)
  have B4 := Lib.hid (bthen' B3.out hc3)
  clear p00 p01 p02 p10 p11 p12 p20 p21 p22 p30 p31 p32 y0 y1 y2 y3 hc0 hc1 hc2 hc3 Z0 Z1 Z2 Z3 B3 HS0 HS1 HS2 HS3 k0 k1 k2 k3
  obtain ⟨tA, etA⟩ : ∃ t, t = treeA ((op0, n0), nrm l0) ((op1, n1), nrm l1) ((op2, n2), nrm l2) ((op3, n3), nrm l3) := ⟨_, rfl⟩
  have HEA := Lib.hid etA
  have hpA : ∀ W : World, Mx W W.heap.size → Calls Tryz.prog 15 #[.string (T0 ++ (⟨#[32, 43, 32]⟩ : ByteArray) ++ T1 ++ (⟨#[32, 42, 32]⟩ : ByteArray) ++ T2 ++ (⟨#[32, 60, 32]⟩ : ByteArray) ++ T3 ++ (⟨#[32, 45, 32]⟩ : ByteArray) ++ T0 ++ (⟨#[32, 47, 32]⟩ : ByteArray) ++ T1)] W (XprP W (.ok tA)) := fun W hW => by
    have := parserExpr_any (T0 ++ (⟨#[32, 43, 32]⟩ : ByteArray) ++ T1 ++ (⟨#[32, 42, 32]⟩ : ByteArray) ++ T2 ++ (⟨#[32, 60, 32]⟩ : ByteArray) ++ T3 ++ (⟨#[32, 45, 32]⟩ : ByteArray) ++ T0 ++ (⟨#[32, 47, 32]⟩ : ByteArray) ++ T1) W hW
    rwa [show bl (T0 ++ (⟨#[32, 43, 32]⟩ : ByteArray) ++ T1 ++ (⟨#[32, 42, 32]⟩ : ByteArray) ++ T2 ++ (⟨#[32, 60, 32]⟩ : ByteArray) ++ T3 ++ (⟨#[32, 45, 32]⟩ : ByteArray) ++ T0 ++ (⟨#[32, 47, 32]⟩ : ByteArray) ++ T1) = srcA (showE op0 n0 l0) (showE op1 n1 l1) (showE op2 n2 l2) (showE op3 n3 l3) by rw [HT0.out, HT1.out, HT2.out, HT3.out]; simp [bl, mk, ByteArray.data_append, srcA], readA HQ0.out HQ1.out HQ2.out HQ3.out, ← etA] at this
  have HPA := Lib.hid hpA
  obtain ⟨tB, etB⟩ : ∃ t, t = treeB ((op0, n0), nrm l0) ((op1, n1), nrm l1) ((op2, n2), nrm l2) ((op3, n3), nrm l3) := ⟨_, rfl⟩
  have HEB := Lib.hid etB
  have hpB : ∀ W : World, Mx W W.heap.size → Calls Tryz.prog 15 #[.string ((⟨#[110, 111, 116, 32]⟩ : ByteArray) ++ T0 ++ (⟨#[32, 61, 32]⟩ : ByteArray) ++ T1 ++ (⟨#[32, 97, 110, 100, 32]⟩ : ByteArray) ++ T2 ++ (⟨#[32, 111, 114, 32]⟩ : ByteArray) ++ T3 ++ (⟨#[32, 97, 110, 100, 32, 110, 111, 116, 32, 110, 111, 116, 32]⟩ : ByteArray) ++ T0)] W (XprP W (.ok tB)) := fun W hW => by
    have := parserExpr_any ((⟨#[110, 111, 116, 32]⟩ : ByteArray) ++ T0 ++ (⟨#[32, 61, 32]⟩ : ByteArray) ++ T1 ++ (⟨#[32, 97, 110, 100, 32]⟩ : ByteArray) ++ T2 ++ (⟨#[32, 111, 114, 32]⟩ : ByteArray) ++ T3 ++ (⟨#[32, 97, 110, 100, 32, 110, 111, 116, 32, 110, 111, 116, 32]⟩ : ByteArray) ++ T0) W hW
    rwa [show bl ((⟨#[110, 111, 116, 32]⟩ : ByteArray) ++ T0 ++ (⟨#[32, 61, 32]⟩ : ByteArray) ++ T1 ++ (⟨#[32, 97, 110, 100, 32]⟩ : ByteArray) ++ T2 ++ (⟨#[32, 111, 114, 32]⟩ : ByteArray) ++ T3 ++ (⟨#[32, 97, 110, 100, 32, 110, 111, 116, 32, 110, 111, 116, 32]⟩ : ByteArray) ++ T0) = srcB (showE op0 n0 l0) (showE op1 n1 l1) (showE op2 n2 l2) (showE op3 n3 l3) by rw [HT0.out, HT1.out, HT2.out, HT3.out]; simp [bl, mk, ByteArray.data_append, srcB], readB HQ0.out HQ1.out HQ2.out HQ3.out, ← etB] at this
  have HPB := Lib.hid hpB
  obtain ⟨tC, etC⟩ : ∃ t, t = treeC ((op0, n0), nrm l0) ((op1, n1), nrm l1) ((op2, n2), nrm l2) ((op3, n3), nrm l3) := ⟨_, rfl⟩
  have HEC := Lib.hid etC
  have hpC : ∀ W : World, Mx W W.heap.size → Calls Tryz.prog 15 #[.string (T0 ++ (⟨#[32, 45, 32]⟩ : ByteArray) ++ T1 ++ (⟨#[32, 43, 32]⟩ : ByteArray) ++ T2 ++ (⟨#[32, 45, 32]⟩ : ByteArray) ++ T3)] W (XprP W (.ok tC)) := fun W hW => by
    have := parserExpr_any (T0 ++ (⟨#[32, 45, 32]⟩ : ByteArray) ++ T1 ++ (⟨#[32, 43, 32]⟩ : ByteArray) ++ T2 ++ (⟨#[32, 45, 32]⟩ : ByteArray) ++ T3) W hW
    rwa [show bl (T0 ++ (⟨#[32, 45, 32]⟩ : ByteArray) ++ T1 ++ (⟨#[32, 43, 32]⟩ : ByteArray) ++ T2 ++ (⟨#[32, 45, 32]⟩ : ByteArray) ++ T3) = srcC (showE op0 n0 l0) (showE op1 n1 l1) (showE op2 n2 l2) (showE op3 n3 l3) by rw [HT0.out, HT1.out, HT2.out, HT3.out]; simp [bl, mk, ByteArray.data_append, srcC], readC HQ0.out HQ1.out HQ2.out HQ3.out, ← etC] at this
  have HPC := Lib.hid hpC
  obtain ⟨tD, etD⟩ : ∃ t, t = treeD ((op0, n0), nrm l0) ((op1, n1), nrm l1) ((op2, n2), nrm l2) ((op3, n3), nrm l3) := ⟨_, rfl⟩
  have HED := Lib.hid etD
  have hpD : ∀ W : World, Mx W W.heap.size → Calls Tryz.prog 15 #[.string (T0 ++ (⟨#[32, 47, 32]⟩ : ByteArray) ++ T1 ++ (⟨#[32, 42, 32]⟩ : ByteArray) ++ T2 ++ (⟨#[32, 111, 114, 32]⟩ : ByteArray) ++ T3 ++ (⟨#[32, 111, 114, 32]⟩ : ByteArray) ++ T0)] W (XprP W (.ok tD)) := fun W hW => by
    have := parserExpr_any (T0 ++ (⟨#[32, 47, 32]⟩ : ByteArray) ++ T1 ++ (⟨#[32, 42, 32]⟩ : ByteArray) ++ T2 ++ (⟨#[32, 111, 114, 32]⟩ : ByteArray) ++ T3 ++ (⟨#[32, 111, 114, 32]⟩ : ByteArray) ++ T0) W hW
    rwa [show bl (T0 ++ (⟨#[32, 47, 32]⟩ : ByteArray) ++ T1 ++ (⟨#[32, 42, 32]⟩ : ByteArray) ++ T2 ++ (⟨#[32, 111, 114, 32]⟩ : ByteArray) ++ T3 ++ (⟨#[32, 111, 114, 32]⟩ : ByteArray) ++ T0) = srcD (showE op0 n0 l0) (showE op1 n1 l1) (showE op2 n2 l2) (showE op3 n3 l3) by rw [HT0.out, HT1.out, HT2.out, HT3.out]; simp [bl, mk, ByteArray.data_append, srcD], readD HQ0.out HQ1.out HQ2.out HQ3.out, ← etD] at this
  have HPD := Lib.hid hpD
  obtain ⟨tE, etE⟩ : ∃ t, t = treeE ((op0, n0), nrm l0) ((op1, n1), nrm l1) ((op2, n2), nrm l2) ((op3, n3), nrm l3) := ⟨_, rfl⟩
  have HEE := Lib.hid etE
  have hpE : ∀ W : World, Mx W W.heap.size → Calls Tryz.prog 15 #[.string ((⟨#[105, 102, 32]⟩ : ByteArray) ++ T0 ++ (⟨#[32, 116, 104, 101, 110, 32]⟩ : ByteArray) ++ T1 ++ (⟨#[32, 101, 108, 115, 101, 32, 105, 102, 32]⟩ : ByteArray) ++ T2 ++ (⟨#[32, 116, 104, 101, 110, 32]⟩ : ByteArray) ++ T3 ++ (⟨#[32, 101, 108, 115, 101, 32]⟩ : ByteArray) ++ T0 ++ (⟨#[32, 43, 32]⟩ : ByteArray) ++ T1)] W (XprP W (.ok tE)) := fun W hW => by
    have := parserExpr_any ((⟨#[105, 102, 32]⟩ : ByteArray) ++ T0 ++ (⟨#[32, 116, 104, 101, 110, 32]⟩ : ByteArray) ++ T1 ++ (⟨#[32, 101, 108, 115, 101, 32, 105, 102, 32]⟩ : ByteArray) ++ T2 ++ (⟨#[32, 116, 104, 101, 110, 32]⟩ : ByteArray) ++ T3 ++ (⟨#[32, 101, 108, 115, 101, 32]⟩ : ByteArray) ++ T0 ++ (⟨#[32, 43, 32]⟩ : ByteArray) ++ T1) W hW
    rwa [show bl ((⟨#[105, 102, 32]⟩ : ByteArray) ++ T0 ++ (⟨#[32, 116, 104, 101, 110, 32]⟩ : ByteArray) ++ T1 ++ (⟨#[32, 101, 108, 115, 101, 32, 105, 102, 32]⟩ : ByteArray) ++ T2 ++ (⟨#[32, 116, 104, 101, 110, 32]⟩ : ByteArray) ++ T3 ++ (⟨#[32, 101, 108, 115, 101, 32]⟩ : ByteArray) ++ T0 ++ (⟨#[32, 43, 32]⟩ : ByteArray) ++ T1) = srcE (showE op0 n0 l0) (showE op1 n1 l1) (showE op2 n2 l2) (showE op3 n3 l3) by rw [HT0.out, HT1.out, HT2.out, HT3.out]; simp [bl, mk, ByteArray.data_append, srcE], readE HQ0.out HQ1.out HQ2.out HQ3.out, ← etE] at this
  have HPE := Lib.hid hpE
  clear hpA hpB hpC hpD hpE etA etB etC etD etE
  as_aux_lemma =>
    have qA0 : ¬ 9223372036854775807 < T0.size + 3 := by omega
    have qA1 : ¬ 9223372036854775807 < T0.size + 3 + T1.size := by omega
    have qA2 : ¬ 9223372036854775807 < T0.size + 3 + T1.size + 3 := by omega
    have qA3 : ¬ 9223372036854775807 < T0.size + 3 + T1.size + 3 + T2.size := by omega
    have qA4 : ¬ 9223372036854775807 < T0.size + 3 + T1.size + 3 + T2.size + 3 := by omega
    have qA5 : ¬ 9223372036854775807 < T0.size + 3 + T1.size + 3 + T2.size + 3 + T3.size := by omega
    have qA6 : ¬ 9223372036854775807 < T0.size + 3 + T1.size + 3 + T2.size + 3 + T3.size + 3 := by omega
    have qA7 : ¬ 9223372036854775807 < T0.size + 3 + T1.size + 3 + T2.size + 3 + T3.size + 3 + T0.size := by omega
    have qA8 : ¬ 9223372036854775807 < T0.size + 3 + T1.size + 3 + T2.size + 3 + T3.size + 3 + T0.size + 3 := by omega
    have qA9 : ¬ 9223372036854775807 < T0.size + 3 + T1.size + 3 + T2.size + 3 + T3.size + 3 + T0.size + 3 + T1.size := by omega
    go_wp2_with fail
    refine (HPA.out _ (mx_on HM.out B4.out)).mono ?_
    rintro e vA ⟨hb, AA, cA, rfl, hF⟩
    have hal := (Below.refl vA.heap.size vA).alloc (Nat.le_refl _) (.cells #[.int .i64 tA.1.1, .int .i64 tA.1.2, .slice AA (flen tA.2) cA] 24)
    have hba := bthen' hb hal
    have KAA := Lib.hid (World.alloc_heap_new vA (.cells #[.int .i64 tA.1.1, .int .i64 tA.1.2, .slice AA (flen tA.2) cA] 24))
    have FAA := Lib.hid ((hF.on hal).up hal.size)
    have WA0 := Lib.hid ((hba.block _ (Array.getElem?_eq_some_iff.1 W0.out).1).trans W0.out)
    have WA1 := Lib.hid ((hba.block _ (Array.getElem?_eq_some_iff.1 W1.out).1).trans W1.out)
    have WA2 := Lib.hid ((hba.block _ (Array.getElem?_eq_some_iff.1 W2.out).1).trans W2.out)
    have WA3 := Lib.hid ((hba.block _ (Array.getElem?_eq_some_iff.1 W3.out).1).trans W3.out)
    have BA := Lib.hid (bthen' B4.out hba)
    clear hb hF hal hba W0 W1 W2 W3 B4 HPA qA0 qA1 qA2 qA3 qA4 qA5 qA6 qA7 qA8 qA9
    go_upto_region 6 with fail
    generalize vA.alloc (.cells #[.int .i64 tA.1.1, .int .i64 tA.1.2, .slice AA (flen tA.2) cA] 24) = wA at *
    generalize vA.heap.size = gA at *
    have qB0 : ¬ 9223372036854775807 < 4 + T0.size := by omega
    have qB1 : ¬ 9223372036854775807 < 4 + T0.size + 3 := by omega
    have qB2 : ¬ 9223372036854775807 < 4 + T0.size + 3 + T1.size := by omega
    have qB3 : ¬ 9223372036854775807 < 4 + T0.size + 3 + T1.size + 5 := by omega
    have qB4 : ¬ 9223372036854775807 < 4 + T0.size + 3 + T1.size + 5 + T2.size := by omega
    have qB5 : ¬ 9223372036854775807 < 4 + T0.size + 3 + T1.size + 5 + T2.size + 4 := by omega
    have qB6 : ¬ 9223372036854775807 < 4 + T0.size + 3 + T1.size + 5 + T2.size + 4 + T3.size := by omega
    have qB7 : ¬ 9223372036854775807 < 4 + T0.size + 3 + T1.size + 5 + T2.size + 4 + T3.size + 13 := by omega
    have qB8 : ¬ 9223372036854775807 < 4 + T0.size + 3 + T1.size + 5 + T2.size + 4 + T3.size + 13 + T0.size := by omega
    go_wp2_with fail
    refine (HPB.out _ (mx_on HM.out BA.out)).mono ?_
    rintro e vB ⟨hb, AB, cB, rfl, hF⟩
    have hal := (Below.refl vB.heap.size vB).alloc (Nat.le_refl _) (.cells #[.int .i64 tB.1.1, .int .i64 tB.1.2, .slice AB (flen tB.2) cB] 24)
    have hba := bthen' hb hal
    have KBB := Lib.hid (World.alloc_heap_new vB (.cells #[.int .i64 tB.1.1, .int .i64 tB.1.2, .slice AB (flen tB.2) cB] 24))
    have FBB := Lib.hid ((hF.on hal).up hal.size)
    have WB0 := Lib.hid ((hba.block _ (Array.getElem?_eq_some_iff.1 WA0.out).1).trans WA0.out)
    have WB1 := Lib.hid ((hba.block _ (Array.getElem?_eq_some_iff.1 WA1.out).1).trans WA1.out)
    have WB2 := Lib.hid ((hba.block _ (Array.getElem?_eq_some_iff.1 WA2.out).1).trans WA2.out)
    have WB3 := Lib.hid ((hba.block _ (Array.getElem?_eq_some_iff.1 WA3.out).1).trans WA3.out)
    have KBA := Lib.hid ((hba.block _ (Array.getElem?_eq_some_iff.1 KAA.out).1).trans KAA.out)
    have FBA := Lib.hid ((FAA.out.on hba).up hba.size)
    have BB := Lib.hid (bthen' BA.out hba)
    clear hb hF hal hba WA0 WA1 WA2 WA3 KAA FAA BA HPB qB0 qB1 qB2 qB3 qB4 qB5 qB6 qB7 qB8
    go_upto_region 7 with fail
    generalize vB.alloc (.cells #[.int .i64 tB.1.1, .int .i64 tB.1.2, .slice AB (flen tB.2) cB] 24) = wB at *
    generalize vB.heap.size = gB at *
    as_aux_lemma =>
      have qC0 : ¬ 9223372036854775807 < T0.size + 3 := by omega
      have qC1 : ¬ 9223372036854775807 < T0.size + 3 + T1.size := by omega
      have qC2 : ¬ 9223372036854775807 < T0.size + 3 + T1.size + 3 := by omega
      have qC3 : ¬ 9223372036854775807 < T0.size + 3 + T1.size + 3 + T2.size := by omega
      have qC4 : ¬ 9223372036854775807 < T0.size + 3 + T1.size + 3 + T2.size + 3 := by omega
      have qC5 : ¬ 9223372036854775807 < T0.size + 3 + T1.size + 3 + T2.size + 3 + T3.size := by omega
      go_wp2_with fail
      refine (HPC.out _ (mx_on HM.out BB.out)).mono ?_
      rintro e vC ⟨hb, AC, cC, rfl, hF⟩
      have hal := (Below.refl vC.heap.size vC).alloc (Nat.le_refl _) (.cells #[.int .i64 tC.1.1, .int .i64 tC.1.2, .slice AC (flen tC.2) cC] 24)
      have hba := bthen' hb hal
      have KCC := Lib.hid (World.alloc_heap_new vC (.cells #[.int .i64 tC.1.1, .int .i64 tC.1.2, .slice AC (flen tC.2) cC] 24))
      have FCC := Lib.hid ((hF.on hal).up hal.size)
      have WC0 := Lib.hid ((hba.block _ (Array.getElem?_eq_some_iff.1 WB0.out).1).trans WB0.out)
      have WC1 := Lib.hid ((hba.block _ (Array.getElem?_eq_some_iff.1 WB1.out).1).trans WB1.out)
      have WC2 := Lib.hid ((hba.block _ (Array.getElem?_eq_some_iff.1 WB2.out).1).trans WB2.out)
      have WC3 := Lib.hid ((hba.block _ (Array.getElem?_eq_some_iff.1 WB3.out).1).trans WB3.out)
      have KCA := Lib.hid ((hba.block _ (Array.getElem?_eq_some_iff.1 KBA.out).1).trans KBA.out)
      have KCB := Lib.hid ((hba.block _ (Array.getElem?_eq_some_iff.1 KBB.out).1).trans KBB.out)
      have FCA := Lib.hid ((FBA.out.on hba).up hba.size)
      have FCB := Lib.hid ((FBB.out.on hba).up hba.size)
      have BC := Lib.hid (bthen' BB.out hba)
      clear hb hF hal hba WB0 WB1 WB2 WB3 KBA KBB FBA FBB BB HPC qC0 qC1 qC2 qC3 qC4 qC5
      go_upto_region 8 with fail
      generalize vC.alloc (.cells #[.int .i64 tC.1.1, .int .i64 tC.1.2, .slice AC (flen tC.2) cC] 24) = wC at *
      generalize vC.heap.size = gC at *
      have qD0 : ¬ 9223372036854775807 < T0.size + 3 := by omega
      have qD1 : ¬ 9223372036854775807 < T0.size + 3 + T1.size := by omega
      have qD2 : ¬ 9223372036854775807 < T0.size + 3 + T1.size + 3 := by omega
      have qD3 : ¬ 9223372036854775807 < T0.size + 3 + T1.size + 3 + T2.size := by omega
      have qD4 : ¬ 9223372036854775807 < T0.size + 3 + T1.size + 3 + T2.size + 4 := by omega
      have qD5 : ¬ 9223372036854775807 < T0.size + 3 + T1.size + 3 + T2.size + 4 + T3.size := by omega
      have qD6 : ¬ 9223372036854775807 < T0.size + 3 + T1.size + 3 + T2.size + 4 + T3.size + 4 := by omega
      have qD7 : ¬ 9223372036854775807 < T0.size + 3 + T1.size + 3 + T2.size + 4 + T3.size + 4 + T0.size := by omega
      go_wp2_with fail
      refine (HPD.out _ (mx_on HM.out BC.out)).mono ?_
      rintro e vD ⟨hb, AD, cD, rfl, hF⟩
      have hal := (Below.refl vD.heap.size vD).alloc (Nat.le_refl _) (.cells #[.int .i64 tD.1.1, .int .i64 tD.1.2, .slice AD (flen tD.2) cD] 24)
      have hba := bthen' hb hal
      have KDD := Lib.hid (World.alloc_heap_new vD (.cells #[.int .i64 tD.1.1, .int .i64 tD.1.2, .slice AD (flen tD.2) cD] 24))
      have FDD := Lib.hid ((hF.on hal).up hal.size)
      have WD0 := Lib.hid ((hba.block _ (Array.getElem?_eq_some_iff.1 WC0.out).1).trans WC0.out)
      have WD1 := Lib.hid ((hba.block _ (Array.getElem?_eq_some_iff.1 WC1.out).1).trans WC1.out)
      have WD2 := Lib.hid ((hba.block _ (Array.getElem?_eq_some_iff.1 WC2.out).1).trans WC2.out)
      have WD3 := Lib.hid ((hba.block _ (Array.getElem?_eq_some_iff.1 WC3.out).1).trans WC3.out)
      have KDA := Lib.hid ((hba.block _ (Array.getElem?_eq_some_iff.1 KCA.out).1).trans KCA.out)
      have KDB := Lib.hid ((hba.block _ (Array.getElem?_eq_some_iff.1 KCB.out).1).trans KCB.out)
      have KDC := Lib.hid ((hba.block _ (Array.getElem?_eq_some_iff.1 KCC.out).1).trans KCC.out)
      have FDA := Lib.hid ((FCA.out.on hba).up hba.size)
      have FDB := Lib.hid ((FCB.out.on hba).up hba.size)
      have FDC := Lib.hid ((FCC.out.on hba).up hba.size)
      have BD := Lib.hid (bthen' BC.out hba)
      clear hb hF hal hba WC0 WC1 WC2 WC3 KCA KCB KCC FCA FCB FCC BC HPD qD0 qD1 qD2 qD3 qD4 qD5 qD6 qD7
      go_upto_region 9 with fail
      generalize vD.alloc (.cells #[.int .i64 tD.1.1, .int .i64 tD.1.2, .slice AD (flen tD.2) cD] 24) = wD at *
      generalize vD.heap.size = gD at *
      as_aux_lemma =>
        have qE0 : ¬ 9223372036854775807 < 3 + T0.size := by omega
        have qE1 : ¬ 9223372036854775807 < 3 + T0.size + 6 := by omega
        have qE2 : ¬ 9223372036854775807 < 3 + T0.size + 6 + T1.size := by omega
        have qE3 : ¬ 9223372036854775807 < 3 + T0.size + 6 + T1.size + 9 := by omega
        have qE4 : ¬ 9223372036854775807 < 3 + T0.size + 6 + T1.size + 9 + T2.size := by omega
        have qE5 : ¬ 9223372036854775807 < 3 + T0.size + 6 + T1.size + 9 + T2.size + 6 := by omega
        have qE6 : ¬ 9223372036854775807 < 3 + T0.size + 6 + T1.size + 9 + T2.size + 6 + T3.size := by omega
        have qE7 : ¬ 9223372036854775807 < 3 + T0.size + 6 + T1.size + 9 + T2.size + 6 + T3.size + 6 := by omega
        have qE8 : ¬ 9223372036854775807 < 3 + T0.size + 6 + T1.size + 9 + T2.size + 6 + T3.size + 6 + T0.size := by omega
        have qE9 : ¬ 9223372036854775807 < 3 + T0.size + 6 + T1.size + 9 + T2.size + 6 + T3.size + 6 + T0.size + 3 := by omega
        have qE10 : ¬ 9223372036854775807 < 3 + T0.size + 6 + T1.size + 9 + T2.size + 6 + T3.size + 6 + T0.size + 3 + T1.size := by omega
        go_wp2_with fail
        refine (HPE.out _ (mx_on HM.out BD.out)).mono ?_
        rintro e vE ⟨hb, AE, cE, rfl, hF⟩
        have hal := (Below.refl vE.heap.size vE).alloc (Nat.le_refl _) (.cells #[.int .i64 tE.1.1, .int .i64 tE.1.2, .slice AE (flen tE.2) cE] 24)
        have hba := bthen' hb hal
        have KEE := Lib.hid (World.alloc_heap_new vE (.cells #[.int .i64 tE.1.1, .int .i64 tE.1.2, .slice AE (flen tE.2) cE] 24))
        have FEE := Lib.hid ((hF.on hal).up hal.size)
        have WE0 := Lib.hid ((hba.block _ (Array.getElem?_eq_some_iff.1 WD0.out).1).trans WD0.out)
        have WE1 := Lib.hid ((hba.block _ (Array.getElem?_eq_some_iff.1 WD1.out).1).trans WD1.out)
        have WE2 := Lib.hid ((hba.block _ (Array.getElem?_eq_some_iff.1 WD2.out).1).trans WD2.out)
        have WE3 := Lib.hid ((hba.block _ (Array.getElem?_eq_some_iff.1 WD3.out).1).trans WD3.out)
        have KEA := Lib.hid ((hba.block _ (Array.getElem?_eq_some_iff.1 KDA.out).1).trans KDA.out)
        have KEB := Lib.hid ((hba.block _ (Array.getElem?_eq_some_iff.1 KDB.out).1).trans KDB.out)
        have KEC := Lib.hid ((hba.block _ (Array.getElem?_eq_some_iff.1 KDC.out).1).trans KDC.out)
        have KED := Lib.hid ((hba.block _ (Array.getElem?_eq_some_iff.1 KDD.out).1).trans KDD.out)
        have FEA := Lib.hid ((FDA.out.on hba).up hba.size)
        have FEB := Lib.hid ((FDB.out.on hba).up hba.size)
        have FEC := Lib.hid ((FDC.out.on hba).up hba.size)
        have FED := Lib.hid ((FDD.out.on hba).up hba.size)
        have BE := Lib.hid (bthen' BD.out hba)
        clear hb hF hal hba WD0 WD1 WD2 WD3 KDA KDB KDC KDD FDA FDB FDC FDD BD HPE qE0 qE1 qE2 qE3 qE4 qE5 qE6 qE7 qE8 qE9 qE10
        go_upto_region 10 with fail
        generalize vE.alloc (.cells #[.int .i64 tE.1.1, .int .i64 tE.1.2, .slice AE (flen tE.2) cE] 24) = wE at *
        generalize vE.heap.size = gE at *
        go_wp2_with fail
        as_aux_lemma =>
          have sxA : Px.sameE tA.1 (treeA ((op0, n0), l0) ((op1, n1), l1) ((op2, n2), l2) ((op3, n3), l3)).1 tA.2 (treeA ((op0, n0), l0) ((op1, n1), l1) ((op2, n2), l2) ((op3, n3), l3)).2 = true := by rw [HEA.out]; exact same_tA _ _ _ _ _ _ _ _
          have nxA : nodesF tA.2 ≤ 1000 := by
            have e0 := HQ0.out.nodes
            have e1 := HQ1.out.nodes
            have e2 := HQ2.out.nodes
            have e3 := HQ3.out.nodes
            rw [HEA.out]
            simp only [treeA, pairE, nodesF]
            omega
          have SXA := Lib.hid sxA
          have NXA := Lib.hid nxA
          clear sxA nxA
          have sxB : Px.sameE tB.1 (treeB ((op0, n0), l0) ((op1, n1), l1) ((op2, n2), l2) ((op3, n3), l3)).1 tB.2 (treeB ((op0, n0), l0) ((op1, n1), l1) ((op2, n2), l2) ((op3, n3), l3)).2 = true := by rw [HEB.out]; exact same_tB _ _ _ _ _ _ _ _
          have nxB : nodesF tB.2 ≤ 1000 := by
            have e0 := HQ0.out.nodes
            have e1 := HQ1.out.nodes
            have e2 := HQ2.out.nodes
            have e3 := HQ3.out.nodes
            rw [HEB.out]
            simp only [treeB, pairE, oneE, nodesF]
            omega
          have SXB := Lib.hid sxB
          have NXB := Lib.hid nxB
          clear sxB nxB
          have sxC : Px.sameE tC.1 (treeC ((op0, n0), l0) ((op1, n1), l1) ((op2, n2), l2) ((op3, n3), l3)).1 tC.2 (treeC ((op0, n0), l0) ((op1, n1), l1) ((op2, n2), l2) ((op3, n3), l3)).2 = true := by rw [HEC.out]; exact same_tC _ _ _ _ _ _ _ _
          have nxC : nodesF tC.2 ≤ 1000 := by
            have e0 := HQ0.out.nodes
            have e1 := HQ1.out.nodes
            have e2 := HQ2.out.nodes
            have e3 := HQ3.out.nodes
            rw [HEC.out]
            simp only [treeC, pairE, nodesF]
            omega
          have SXC := Lib.hid sxC
          have NXC := Lib.hid nxC
          clear sxC nxC
          have sxD : Px.sameE tD.1 (treeD ((op0, n0), l0) ((op1, n1), l1) ((op2, n2), l2) ((op3, n3), l3)).1 tD.2 (treeD ((op0, n0), l0) ((op1, n1), l1) ((op2, n2), l2) ((op3, n3), l3)).2 = true := by rw [HED.out]; exact same_tD _ _ _ _ _ _ _ _
          have nxD : nodesF tD.2 ≤ 1000 := by
            have e0 := HQ0.out.nodes
            have e1 := HQ1.out.nodes
            have e2 := HQ2.out.nodes
            have e3 := HQ3.out.nodes
            rw [HED.out]
            simp only [treeD, pairE, nodesF]
            omega
          have SXD := Lib.hid sxD
          have NXD := Lib.hid nxD
          clear sxD nxD
          have sxE : Px.sameE tE.1 (treeE ((op0, n0), l0) ((op1, n1), l1) ((op2, n2), l2) ((op3, n3), l3)).1 tE.2 (treeE ((op0, n0), l0) ((op1, n1), l1) ((op2, n2), l2) ((op3, n3), l3)).2 = true := by rw [HEE.out]; exact same_tE _ _ _ _ _ _ _ _
          have nxE : nodesF tE.2 ≤ 1000 := by
            have e0 := HQ0.out.nodes
            have e1 := HQ1.out.nodes
            have e2 := HQ2.out.nodes
            have e3 := HQ3.out.nodes
            rw [HEE.out]
            simp only [treeE, pairE, triE, nodesF]
            omega
          have SXE := Lib.hid sxE
          have NXE := Lib.hid nxE
          clear sxE nxE
          clear HEA HEB HEC HED HEE HQ0 HQ1 HQ2 HQ3 HT0 HT1 HT2 HT3 z0 z1 z2 z3
          have BU := Lib.hid (Below.refl wE.heap.size wE)
          have p00 : wE.cell? ⟨w.heap.size, 0, none⟩ = some (.int .i64 op0) := by rw [Lib.cell_of_heap ((BU.out.block _ (Array.getElem?_eq_some_iff.1 WE0.out).1).trans WE0.out)]; rfl
          have p01 : wE.cell? ⟨w.heap.size, 1, none⟩ = some (.int .i64 n0) := by rw [Lib.cell_of_heap ((BU.out.block _ (Array.getElem?_eq_some_iff.1 WE0.out).1).trans WE0.out)]; rfl
          have p02 : wE.cell? ⟨w.heap.size, 2, none⟩ = some (.slice A0 (flen l0) c0) := by rw [Lib.cell_of_heap ((BU.out.block _ (Array.getElem?_eq_some_iff.1 WE0.out).1).trans WE0.out)]; rfl
          have k0 : w.heap.size < wE.heap.size := Nat.lt_of_lt_of_le (Array.getElem?_eq_some_iff.1 WE0.out).1 BU.out.size
          have h0 := (HV0.out.on (bthen' BE.out BU.out)).up (Below.size (bthen' BE.out BU.out))
          have p10 : wE.cell? ⟨b1, 0, none⟩ = some (.int .i64 op1) := by rw [Lib.cell_of_heap ((BU.out.block _ (Array.getElem?_eq_some_iff.1 WE1.out).1).trans WE1.out)]; rfl
          have p11 : wE.cell? ⟨b1, 1, none⟩ = some (.int .i64 n1) := by rw [Lib.cell_of_heap ((BU.out.block _ (Array.getElem?_eq_some_iff.1 WE1.out).1).trans WE1.out)]; rfl
          have p12 : wE.cell? ⟨b1, 2, none⟩ = some (.slice A1 (flen l1) c1) := by rw [Lib.cell_of_heap ((BU.out.block _ (Array.getElem?_eq_some_iff.1 WE1.out).1).trans WE1.out)]; rfl
          have k1 : b1 < wE.heap.size := Nat.lt_of_lt_of_le (Array.getElem?_eq_some_iff.1 WE1.out).1 BU.out.size
          have h1 := (HV1.out.on (bthen' BE.out BU.out)).up (Below.size (bthen' BE.out BU.out))
          have p20 : wE.cell? ⟨b2, 0, none⟩ = some (.int .i64 op2) := by rw [Lib.cell_of_heap ((BU.out.block _ (Array.getElem?_eq_some_iff.1 WE2.out).1).trans WE2.out)]; rfl
          have p21 : wE.cell? ⟨b2, 1, none⟩ = some (.int .i64 n2) := by rw [Lib.cell_of_heap ((BU.out.block _ (Array.getElem?_eq_some_iff.1 WE2.out).1).trans WE2.out)]; rfl
          have p22 : wE.cell? ⟨b2, 2, none⟩ = some (.slice A2 (flen l2) c2) := by rw [Lib.cell_of_heap ((BU.out.block _ (Array.getElem?_eq_some_iff.1 WE2.out).1).trans WE2.out)]; rfl
          have k2 : b2 < wE.heap.size := Nat.lt_of_lt_of_le (Array.getElem?_eq_some_iff.1 WE2.out).1 BU.out.size
          have h2 := (HV2.out.on (bthen' BE.out BU.out)).up (Below.size (bthen' BE.out BU.out))
          have p30 : wE.cell? ⟨b3, 0, none⟩ = some (.int .i64 op3) := by rw [Lib.cell_of_heap ((BU.out.block _ (Array.getElem?_eq_some_iff.1 WE3.out).1).trans WE3.out)]; rfl
          have p31 : wE.cell? ⟨b3, 1, none⟩ = some (.int .i64 n3) := by rw [Lib.cell_of_heap ((BU.out.block _ (Array.getElem?_eq_some_iff.1 WE3.out).1).trans WE3.out)]; rfl
          have p32 : wE.cell? ⟨b3, 2, none⟩ = some (.slice A3 (flen l3) c3) := by rw [Lib.cell_of_heap ((BU.out.block _ (Array.getElem?_eq_some_iff.1 WE3.out).1).trans WE3.out)]; rfl
          have k3 : b3 < wE.heap.size := Nat.lt_of_lt_of_le (Array.getElem?_eq_some_iff.1 WE3.out).1 BU.out.size
          have h3 := (HV3.out.on (bthen' BE.out BU.out)).up (Below.size (bthen' BE.out BU.out))
          have pr0 : wE.cell? ⟨gA, 0, none⟩ = some (.int .i64 tA.1.1) := by rw [Lib.cell_of_heap ((BU.out.block _ (Array.getElem?_eq_some_iff.1 KEA.out).1).trans KEA.out)]; rfl
          have pr1 : wE.cell? ⟨gA, 1, none⟩ = some (.int .i64 tA.1.2) := by rw [Lib.cell_of_heap ((BU.out.block _ (Array.getElem?_eq_some_iff.1 KEA.out).1).trans KEA.out)]; rfl
          have pr2 : wE.cell? ⟨gA, 2, none⟩ = some (.slice AA (flen tA.2) cA) := by rw [Lib.cell_of_heap ((BU.out.block _ (Array.getElem?_eq_some_iff.1 KEA.out).1).trans KEA.out)]; rfl
          have kr : gA < wE.heap.size := Nat.lt_of_lt_of_le (Array.getElem?_eq_some_iff.1 KEA.out).1 BU.out.size
          refine reg15_A p00 p01 p02 k0 h0 p10 p11 p12 k1 h1 p20 p21 p22 k2 h2 p30 p31 p32 k3 h3 pr0 pr1 pr2 kr SXA.out NXA.out ((FEA.out.on BU.out).up BU.out.size) ?_
          intro u152_A u153_A u154_A u155_A u156_A u157_A u158_A u159_A u160_A u161_A u162_A u163_A u164_A u165_A u166_A u167_A u168_A u169_A u170_A u171_A u172_A w20 hu
          have BU2 := Lib.hid (bthen' BU.out hu)
          clear BU hu p00 p01 p02 p10 p11 p12 p20 p21 p22 p30 p31 p32 pr0 pr1 pr2 k0 k1 k2 k3 h0 h1 h2 h3 kr
          have BU := Lib.hid BU2.out
          clear BU2
          go_upto_region 12 with fail
          have p00 : w20.cell? ⟨w.heap.size, 0, none⟩ = some (.int .i64 op0) := by rw [Lib.cell_of_heap ((BU.out.block _ (Array.getElem?_eq_some_iff.1 WE0.out).1).trans WE0.out)]; rfl
          have p01 : w20.cell? ⟨w.heap.size, 1, none⟩ = some (.int .i64 n0) := by rw [Lib.cell_of_heap ((BU.out.block _ (Array.getElem?_eq_some_iff.1 WE0.out).1).trans WE0.out)]; rfl
          have p02 : w20.cell? ⟨w.heap.size, 2, none⟩ = some (.slice A0 (flen l0) c0) := by rw [Lib.cell_of_heap ((BU.out.block _ (Array.getElem?_eq_some_iff.1 WE0.out).1).trans WE0.out)]; rfl
          have k0 : w.heap.size < w20.heap.size := Nat.lt_of_lt_of_le (Array.getElem?_eq_some_iff.1 WE0.out).1 BU.out.size
          have h0 := (HV0.out.on (bthen' BE.out BU.out)).up (Below.size (bthen' BE.out BU.out))
          have p10 : w20.cell? ⟨b1, 0, none⟩ = some (.int .i64 op1) := by rw [Lib.cell_of_heap ((BU.out.block _ (Array.getElem?_eq_some_iff.1 WE1.out).1).trans WE1.out)]; rfl
          have p11 : w20.cell? ⟨b1, 1, none⟩ = some (.int .i64 n1) := by rw [Lib.cell_of_heap ((BU.out.block _ (Array.getElem?_eq_some_iff.1 WE1.out).1).trans WE1.out)]; rfl
          have p12 : w20.cell? ⟨b1, 2, none⟩ = some (.slice A1 (flen l1) c1) := by rw [Lib.cell_of_heap ((BU.out.block _ (Array.getElem?_eq_some_iff.1 WE1.out).1).trans WE1.out)]; rfl
          have k1 : b1 < w20.heap.size := Nat.lt_of_lt_of_le (Array.getElem?_eq_some_iff.1 WE1.out).1 BU.out.size
          have h1 := (HV1.out.on (bthen' BE.out BU.out)).up (Below.size (bthen' BE.out BU.out))
          have p20 : w20.cell? ⟨b2, 0, none⟩ = some (.int .i64 op2) := by rw [Lib.cell_of_heap ((BU.out.block _ (Array.getElem?_eq_some_iff.1 WE2.out).1).trans WE2.out)]; rfl
          have p21 : w20.cell? ⟨b2, 1, none⟩ = some (.int .i64 n2) := by rw [Lib.cell_of_heap ((BU.out.block _ (Array.getElem?_eq_some_iff.1 WE2.out).1).trans WE2.out)]; rfl
          have p22 : w20.cell? ⟨b2, 2, none⟩ = some (.slice A2 (flen l2) c2) := by rw [Lib.cell_of_heap ((BU.out.block _ (Array.getElem?_eq_some_iff.1 WE2.out).1).trans WE2.out)]; rfl
          have k2 : b2 < w20.heap.size := Nat.lt_of_lt_of_le (Array.getElem?_eq_some_iff.1 WE2.out).1 BU.out.size
          have h2 := (HV2.out.on (bthen' BE.out BU.out)).up (Below.size (bthen' BE.out BU.out))
          have p30 : w20.cell? ⟨b3, 0, none⟩ = some (.int .i64 op3) := by rw [Lib.cell_of_heap ((BU.out.block _ (Array.getElem?_eq_some_iff.1 WE3.out).1).trans WE3.out)]; rfl
          have p31 : w20.cell? ⟨b3, 1, none⟩ = some (.int .i64 n3) := by rw [Lib.cell_of_heap ((BU.out.block _ (Array.getElem?_eq_some_iff.1 WE3.out).1).trans WE3.out)]; rfl
          have p32 : w20.cell? ⟨b3, 2, none⟩ = some (.slice A3 (flen l3) c3) := by rw [Lib.cell_of_heap ((BU.out.block _ (Array.getElem?_eq_some_iff.1 WE3.out).1).trans WE3.out)]; rfl
          have k3 : b3 < w20.heap.size := Nat.lt_of_lt_of_le (Array.getElem?_eq_some_iff.1 WE3.out).1 BU.out.size
          have h3 := (HV3.out.on (bthen' BE.out BU.out)).up (Below.size (bthen' BE.out BU.out))
          have pr0 : w20.cell? ⟨gB, 0, none⟩ = some (.int .i64 tB.1.1) := by rw [Lib.cell_of_heap ((BU.out.block _ (Array.getElem?_eq_some_iff.1 KEB.out).1).trans KEB.out)]; rfl
          have pr1 : w20.cell? ⟨gB, 1, none⟩ = some (.int .i64 tB.1.2) := by rw [Lib.cell_of_heap ((BU.out.block _ (Array.getElem?_eq_some_iff.1 KEB.out).1).trans KEB.out)]; rfl
          have pr2 : w20.cell? ⟨gB, 2, none⟩ = some (.slice AB (flen tB.2) cB) := by rw [Lib.cell_of_heap ((BU.out.block _ (Array.getElem?_eq_some_iff.1 KEB.out).1).trans KEB.out)]; rfl
          have kr : gB < w20.heap.size := Nat.lt_of_lt_of_le (Array.getElem?_eq_some_iff.1 KEB.out).1 BU.out.size
          refine reg15_B p00 p01 p02 k0 h0 p10 p11 p12 k1 h1 p20 p21 p22 k2 h2 p30 p31 p32 k3 h3 pr0 pr1 pr2 kr SXB.out NXB.out ((FEB.out.on BU.out).up BU.out.size) ?_
          intro u173_B u174_B u175_B u176_B u177_B u178_B u179_B u180_B u181_B u182_B u183_B u184_B u185_B u186_B u187_B u188_B u189_B u190_B u191_B u192_B u193_B u194_B u195_B u196_B w21 hu
          have BU2 := Lib.hid (bthen' BU.out hu)
          clear BU hu p00 p01 p02 p10 p11 p12 p20 p21 p22 p30 p31 p32 pr0 pr1 pr2 k0 k1 k2 k3 h0 h1 h2 h3 kr
          have BU := Lib.hid BU2.out
          clear BU2
          as_aux_lemma =>
            go_upto_region 13 with fail
            have p00 : w21.cell? ⟨w.heap.size, 0, none⟩ = some (.int .i64 op0) := by rw [Lib.cell_of_heap ((BU.out.block _ (Array.getElem?_eq_some_iff.1 WE0.out).1).trans WE0.out)]; rfl
            have p01 : w21.cell? ⟨w.heap.size, 1, none⟩ = some (.int .i64 n0) := by rw [Lib.cell_of_heap ((BU.out.block _ (Array.getElem?_eq_some_iff.1 WE0.out).1).trans WE0.out)]; rfl
            have p02 : w21.cell? ⟨w.heap.size, 2, none⟩ = some (.slice A0 (flen l0) c0) := by rw [Lib.cell_of_heap ((BU.out.block _ (Array.getElem?_eq_some_iff.1 WE0.out).1).trans WE0.out)]; rfl
            have k0 : w.heap.size < w21.heap.size := Nat.lt_of_lt_of_le (Array.getElem?_eq_some_iff.1 WE0.out).1 BU.out.size
            have h0 := (HV0.out.on (bthen' BE.out BU.out)).up (Below.size (bthen' BE.out BU.out))
            have p10 : w21.cell? ⟨b1, 0, none⟩ = some (.int .i64 op1) := by rw [Lib.cell_of_heap ((BU.out.block _ (Array.getElem?_eq_some_iff.1 WE1.out).1).trans WE1.out)]; rfl
            have p11 : w21.cell? ⟨b1, 1, none⟩ = some (.int .i64 n1) := by rw [Lib.cell_of_heap ((BU.out.block _ (Array.getElem?_eq_some_iff.1 WE1.out).1).trans WE1.out)]; rfl
            have p12 : w21.cell? ⟨b1, 2, none⟩ = some (.slice A1 (flen l1) c1) := by rw [Lib.cell_of_heap ((BU.out.block _ (Array.getElem?_eq_some_iff.1 WE1.out).1).trans WE1.out)]; rfl
            have k1 : b1 < w21.heap.size := Nat.lt_of_lt_of_le (Array.getElem?_eq_some_iff.1 WE1.out).1 BU.out.size
            have h1 := (HV1.out.on (bthen' BE.out BU.out)).up (Below.size (bthen' BE.out BU.out))
            have p20 : w21.cell? ⟨b2, 0, none⟩ = some (.int .i64 op2) := by rw [Lib.cell_of_heap ((BU.out.block _ (Array.getElem?_eq_some_iff.1 WE2.out).1).trans WE2.out)]; rfl
            have p21 : w21.cell? ⟨b2, 1, none⟩ = some (.int .i64 n2) := by rw [Lib.cell_of_heap ((BU.out.block _ (Array.getElem?_eq_some_iff.1 WE2.out).1).trans WE2.out)]; rfl
            have p22 : w21.cell? ⟨b2, 2, none⟩ = some (.slice A2 (flen l2) c2) := by rw [Lib.cell_of_heap ((BU.out.block _ (Array.getElem?_eq_some_iff.1 WE2.out).1).trans WE2.out)]; rfl
            have k2 : b2 < w21.heap.size := Nat.lt_of_lt_of_le (Array.getElem?_eq_some_iff.1 WE2.out).1 BU.out.size
            have h2 := (HV2.out.on (bthen' BE.out BU.out)).up (Below.size (bthen' BE.out BU.out))
            have p30 : w21.cell? ⟨b3, 0, none⟩ = some (.int .i64 op3) := by rw [Lib.cell_of_heap ((BU.out.block _ (Array.getElem?_eq_some_iff.1 WE3.out).1).trans WE3.out)]; rfl
            have p31 : w21.cell? ⟨b3, 1, none⟩ = some (.int .i64 n3) := by rw [Lib.cell_of_heap ((BU.out.block _ (Array.getElem?_eq_some_iff.1 WE3.out).1).trans WE3.out)]; rfl
            have p32 : w21.cell? ⟨b3, 2, none⟩ = some (.slice A3 (flen l3) c3) := by rw [Lib.cell_of_heap ((BU.out.block _ (Array.getElem?_eq_some_iff.1 WE3.out).1).trans WE3.out)]; rfl
            have k3 : b3 < w21.heap.size := Nat.lt_of_lt_of_le (Array.getElem?_eq_some_iff.1 WE3.out).1 BU.out.size
            have h3 := (HV3.out.on (bthen' BE.out BU.out)).up (Below.size (bthen' BE.out BU.out))
            have pr0 : w21.cell? ⟨gC, 0, none⟩ = some (.int .i64 tC.1.1) := by rw [Lib.cell_of_heap ((BU.out.block _ (Array.getElem?_eq_some_iff.1 KEC.out).1).trans KEC.out)]; rfl
            have pr1 : w21.cell? ⟨gC, 1, none⟩ = some (.int .i64 tC.1.2) := by rw [Lib.cell_of_heap ((BU.out.block _ (Array.getElem?_eq_some_iff.1 KEC.out).1).trans KEC.out)]; rfl
            have pr2 : w21.cell? ⟨gC, 2, none⟩ = some (.slice AC (flen tC.2) cC) := by rw [Lib.cell_of_heap ((BU.out.block _ (Array.getElem?_eq_some_iff.1 KEC.out).1).trans KEC.out)]; rfl
            have kr : gC < w21.heap.size := Nat.lt_of_lt_of_le (Array.getElem?_eq_some_iff.1 KEC.out).1 BU.out.size
            refine reg15_C p00 p01 p02 k0 h0 p10 p11 p12 k1 h1 p20 p21 p22 k2 h2 p30 p31 p32 k3 h3 pr0 pr1 pr2 kr SXC.out NXC.out ((FEC.out.on BU.out).up BU.out.size) ?_
            intro u197_C u198_C u199_C u200_C u201_C u202_C u203_C u204_C u205_C u206_C u207_C u208_C u209_C u210_C u211_C w22 hu
            have BU2 := Lib.hid (bthen' BU.out hu)
            clear BU hu p00 p01 p02 p10 p11 p12 p20 p21 p22 p30 p31 p32 pr0 pr1 pr2 k0 k1 k2 k3 h0 h1 h2 h3 kr
            have BU := Lib.hid BU2.out
            clear BU2
            go_upto_region 14 with fail
            have p00 : w22.cell? ⟨w.heap.size, 0, none⟩ = some (.int .i64 op0) := by rw [Lib.cell_of_heap ((BU.out.block _ (Array.getElem?_eq_some_iff.1 WE0.out).1).trans WE0.out)]; rfl
            have p01 : w22.cell? ⟨w.heap.size, 1, none⟩ = some (.int .i64 n0) := by rw [Lib.cell_of_heap ((BU.out.block _ (Array.getElem?_eq_some_iff.1 WE0.out).1).trans WE0.out)]; rfl
            have p02 : w22.cell? ⟨w.heap.size, 2, none⟩ = some (.slice A0 (flen l0) c0) := by rw [Lib.cell_of_heap ((BU.out.block _ (Array.getElem?_eq_some_iff.1 WE0.out).1).trans WE0.out)]; rfl
            have k0 : w.heap.size < w22.heap.size := Nat.lt_of_lt_of_le (Array.getElem?_eq_some_iff.1 WE0.out).1 BU.out.size
            have h0 := (HV0.out.on (bthen' BE.out BU.out)).up (Below.size (bthen' BE.out BU.out))
            have p10 : w22.cell? ⟨b1, 0, none⟩ = some (.int .i64 op1) := by rw [Lib.cell_of_heap ((BU.out.block _ (Array.getElem?_eq_some_iff.1 WE1.out).1).trans WE1.out)]; rfl
            have p11 : w22.cell? ⟨b1, 1, none⟩ = some (.int .i64 n1) := by rw [Lib.cell_of_heap ((BU.out.block _ (Array.getElem?_eq_some_iff.1 WE1.out).1).trans WE1.out)]; rfl
            have p12 : w22.cell? ⟨b1, 2, none⟩ = some (.slice A1 (flen l1) c1) := by rw [Lib.cell_of_heap ((BU.out.block _ (Array.getElem?_eq_some_iff.1 WE1.out).1).trans WE1.out)]; rfl
            have k1 : b1 < w22.heap.size := Nat.lt_of_lt_of_le (Array.getElem?_eq_some_iff.1 WE1.out).1 BU.out.size
            have h1 := (HV1.out.on (bthen' BE.out BU.out)).up (Below.size (bthen' BE.out BU.out))
            have p20 : w22.cell? ⟨b2, 0, none⟩ = some (.int .i64 op2) := by rw [Lib.cell_of_heap ((BU.out.block _ (Array.getElem?_eq_some_iff.1 WE2.out).1).trans WE2.out)]; rfl
            have p21 : w22.cell? ⟨b2, 1, none⟩ = some (.int .i64 n2) := by rw [Lib.cell_of_heap ((BU.out.block _ (Array.getElem?_eq_some_iff.1 WE2.out).1).trans WE2.out)]; rfl
            have p22 : w22.cell? ⟨b2, 2, none⟩ = some (.slice A2 (flen l2) c2) := by rw [Lib.cell_of_heap ((BU.out.block _ (Array.getElem?_eq_some_iff.1 WE2.out).1).trans WE2.out)]; rfl
            have k2 : b2 < w22.heap.size := Nat.lt_of_lt_of_le (Array.getElem?_eq_some_iff.1 WE2.out).1 BU.out.size
            have h2 := (HV2.out.on (bthen' BE.out BU.out)).up (Below.size (bthen' BE.out BU.out))
            have p30 : w22.cell? ⟨b3, 0, none⟩ = some (.int .i64 op3) := by rw [Lib.cell_of_heap ((BU.out.block _ (Array.getElem?_eq_some_iff.1 WE3.out).1).trans WE3.out)]; rfl
            have p31 : w22.cell? ⟨b3, 1, none⟩ = some (.int .i64 n3) := by rw [Lib.cell_of_heap ((BU.out.block _ (Array.getElem?_eq_some_iff.1 WE3.out).1).trans WE3.out)]; rfl
            have p32 : w22.cell? ⟨b3, 2, none⟩ = some (.slice A3 (flen l3) c3) := by rw [Lib.cell_of_heap ((BU.out.block _ (Array.getElem?_eq_some_iff.1 WE3.out).1).trans WE3.out)]; rfl
            have k3 : b3 < w22.heap.size := Nat.lt_of_lt_of_le (Array.getElem?_eq_some_iff.1 WE3.out).1 BU.out.size
            have h3 := (HV3.out.on (bthen' BE.out BU.out)).up (Below.size (bthen' BE.out BU.out))
            have pr0 : w22.cell? ⟨gD, 0, none⟩ = some (.int .i64 tD.1.1) := by rw [Lib.cell_of_heap ((BU.out.block _ (Array.getElem?_eq_some_iff.1 KED.out).1).trans KED.out)]; rfl
            have pr1 : w22.cell? ⟨gD, 1, none⟩ = some (.int .i64 tD.1.2) := by rw [Lib.cell_of_heap ((BU.out.block _ (Array.getElem?_eq_some_iff.1 KED.out).1).trans KED.out)]; rfl
            have pr2 : w22.cell? ⟨gD, 2, none⟩ = some (.slice AD (flen tD.2) cD) := by rw [Lib.cell_of_heap ((BU.out.block _ (Array.getElem?_eq_some_iff.1 KED.out).1).trans KED.out)]; rfl
            have kr : gD < w22.heap.size := Nat.lt_of_lt_of_le (Array.getElem?_eq_some_iff.1 KED.out).1 BU.out.size
            refine reg15_D p00 p01 p02 k0 h0 p10 p11 p12 k1 h1 p20 p21 p22 k2 h2 p30 p31 p32 k3 h3 pr0 pr1 pr2 kr SXD.out NXD.out ((FED.out.on BU.out).up BU.out.size) ?_
            intro u212_D u213_D u214_D u215_D u216_D u217_D u218_D u219_D u220_D u221_D u222_D u223_D u224_D u225_D u226_D u227_D u228_D u229_D w23 hu
            have BU2 := Lib.hid (bthen' BU.out hu)
            clear BU hu p00 p01 p02 p10 p11 p12 p20 p21 p22 p30 p31 p32 pr0 pr1 pr2 k0 k1 k2 k3 h0 h1 h2 h3 kr
            have BU := Lib.hid BU2.out
            clear BU2
            as_aux_lemma =>
              go_upto_region 15 with fail
              have p00 : w23.cell? ⟨w.heap.size, 0, none⟩ = some (.int .i64 op0) := by rw [Lib.cell_of_heap ((BU.out.block _ (Array.getElem?_eq_some_iff.1 WE0.out).1).trans WE0.out)]; rfl
              have p01 : w23.cell? ⟨w.heap.size, 1, none⟩ = some (.int .i64 n0) := by rw [Lib.cell_of_heap ((BU.out.block _ (Array.getElem?_eq_some_iff.1 WE0.out).1).trans WE0.out)]; rfl
              have p02 : w23.cell? ⟨w.heap.size, 2, none⟩ = some (.slice A0 (flen l0) c0) := by rw [Lib.cell_of_heap ((BU.out.block _ (Array.getElem?_eq_some_iff.1 WE0.out).1).trans WE0.out)]; rfl
              have k0 : w.heap.size < w23.heap.size := Nat.lt_of_lt_of_le (Array.getElem?_eq_some_iff.1 WE0.out).1 BU.out.size
              have h0 := (HV0.out.on (bthen' BE.out BU.out)).up (Below.size (bthen' BE.out BU.out))
              have p10 : w23.cell? ⟨b1, 0, none⟩ = some (.int .i64 op1) := by rw [Lib.cell_of_heap ((BU.out.block _ (Array.getElem?_eq_some_iff.1 WE1.out).1).trans WE1.out)]; rfl
              have p11 : w23.cell? ⟨b1, 1, none⟩ = some (.int .i64 n1) := by rw [Lib.cell_of_heap ((BU.out.block _ (Array.getElem?_eq_some_iff.1 WE1.out).1).trans WE1.out)]; rfl
              have p12 : w23.cell? ⟨b1, 2, none⟩ = some (.slice A1 (flen l1) c1) := by rw [Lib.cell_of_heap ((BU.out.block _ (Array.getElem?_eq_some_iff.1 WE1.out).1).trans WE1.out)]; rfl
              have k1 : b1 < w23.heap.size := Nat.lt_of_lt_of_le (Array.getElem?_eq_some_iff.1 WE1.out).1 BU.out.size
              have h1 := (HV1.out.on (bthen' BE.out BU.out)).up (Below.size (bthen' BE.out BU.out))
              have p20 : w23.cell? ⟨b2, 0, none⟩ = some (.int .i64 op2) := by rw [Lib.cell_of_heap ((BU.out.block _ (Array.getElem?_eq_some_iff.1 WE2.out).1).trans WE2.out)]; rfl
              have p21 : w23.cell? ⟨b2, 1, none⟩ = some (.int .i64 n2) := by rw [Lib.cell_of_heap ((BU.out.block _ (Array.getElem?_eq_some_iff.1 WE2.out).1).trans WE2.out)]; rfl
              have p22 : w23.cell? ⟨b2, 2, none⟩ = some (.slice A2 (flen l2) c2) := by rw [Lib.cell_of_heap ((BU.out.block _ (Array.getElem?_eq_some_iff.1 WE2.out).1).trans WE2.out)]; rfl
              have k2 : b2 < w23.heap.size := Nat.lt_of_lt_of_le (Array.getElem?_eq_some_iff.1 WE2.out).1 BU.out.size
              have h2 := (HV2.out.on (bthen' BE.out BU.out)).up (Below.size (bthen' BE.out BU.out))
              have p30 : w23.cell? ⟨b3, 0, none⟩ = some (.int .i64 op3) := by rw [Lib.cell_of_heap ((BU.out.block _ (Array.getElem?_eq_some_iff.1 WE3.out).1).trans WE3.out)]; rfl
              have p31 : w23.cell? ⟨b3, 1, none⟩ = some (.int .i64 n3) := by rw [Lib.cell_of_heap ((BU.out.block _ (Array.getElem?_eq_some_iff.1 WE3.out).1).trans WE3.out)]; rfl
              have p32 : w23.cell? ⟨b3, 2, none⟩ = some (.slice A3 (flen l3) c3) := by rw [Lib.cell_of_heap ((BU.out.block _ (Array.getElem?_eq_some_iff.1 WE3.out).1).trans WE3.out)]; rfl
              have k3 : b3 < w23.heap.size := Nat.lt_of_lt_of_le (Array.getElem?_eq_some_iff.1 WE3.out).1 BU.out.size
              have h3 := (HV3.out.on (bthen' BE.out BU.out)).up (Below.size (bthen' BE.out BU.out))
              have pr0 : w23.cell? ⟨gE, 0, none⟩ = some (.int .i64 tE.1.1) := by rw [Lib.cell_of_heap ((BU.out.block _ (Array.getElem?_eq_some_iff.1 KEE.out).1).trans KEE.out)]; rfl
              have pr1 : w23.cell? ⟨gE, 1, none⟩ = some (.int .i64 tE.1.2) := by rw [Lib.cell_of_heap ((BU.out.block _ (Array.getElem?_eq_some_iff.1 KEE.out).1).trans KEE.out)]; rfl
              have pr2 : w23.cell? ⟨gE, 2, none⟩ = some (.slice AE (flen tE.2) cE) := by rw [Lib.cell_of_heap ((BU.out.block _ (Array.getElem?_eq_some_iff.1 KEE.out).1).trans KEE.out)]; rfl
              have kr : gE < w23.heap.size := Nat.lt_of_lt_of_le (Array.getElem?_eq_some_iff.1 KEE.out).1 BU.out.size
              refine reg15_E p00 p01 p02 k0 h0 p10 p11 p12 k1 h1 p20 p21 p22 k2 h2 p30 p31 p32 k3 h3 pr0 pr1 pr2 kr SXE.out NXE.out ((FEE.out.on BU.out).up BU.out.size) ?_
              intro u230_E u231_E u232_E u233_E u234_E u235_E u236_E u237_E u238_E u239_E u240_E u241_E u242_E u243_E u244_E u245_E u246_E w24 hu
              have BU2 := Lib.hid (bthen' BU.out hu)
              clear BU hu p00 p01 p02 p10 p11 p12 p20 p21 p22 p30 p31 p32 pr0 pr1 pr2 k0 k1 k2 k3 h0 h1 h2 h3 kr
              have BU := Lib.hid BU2.out
              clear BU2
              go_wp2_with fail
              go_ret
              exact ⟨rfl, bthen' BE.out BU.out⟩
end Go.Proofs.YtomnjamldbficaaGreatDoor
