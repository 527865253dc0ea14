/-
  Walks: left and small of the statements about package parser.
-/
import Derived.Test.YtomnjamldbficaaGreatDoorParTx
namespace Go.Proofs.YtomnjamldbficaaGreatDoor
open Go.RowKit Lx Px
namespace Px
def leftF : Fo → Int → Int → Int
  | .nil, _, m => m
  | .node _ _ _ l r, d, m => if 0 ≤ m then leftF r d (if d < 1 then -1 else leftF l (d - 1) (m - 1)) else m
def leftE (l : Fo) (d m : Int) : Int := if d < 1 then -1 else leftF l (d - 1) (m - 1)
theorem leftF_node (x y : Nat) (a : Int × Int) (l r : Fo) (d m : Int) : leftF (.node x y a l r) d m = if 0 ≤ m then leftF r d (leftE l d m) else m := rfl
theorem leftF_bnd : ∀ (f : Fo) (d m : Int), -1 ≤ m → -1 ≤ leftF f d m ∧ leftF f d m ≤ m := by
  intro f
  induction f with
  | nil => intro d m h; exact ⟨h, Int.le_refl _⟩
  | node x y a l r ihl ihr =>
    intro d m h
    rw [leftF_node]
    split
    · have h1 : -1 ≤ leftE l d m ∧ leftE l d m ≤ m := by
        unfold leftE
        split
        · omega
        · have := ihl (d - 1) (m - 1) (by omega)
          omega
      have h2 := ihr d (leftE l d m) h1.1
      omega
    · omega
theorem leftE_bnd (l : Fo) (d m : Int) (h : 0 ≤ m) : -1 ≤ leftE l d m ∧ leftE l d m ≤ m - 1 := by
  unfold leftE
  split
  · omega
  · have := leftF_bnd l (d - 1) (m - 1) (by omega)
    omega
theorem leftF_neg (f : Fo) (d m : Int) (h : ¬ 0 ≤ m) : leftF f d m = m := by
  cases f with
  | nil => rfl
  | node => rw [leftF_node, if_neg h]
/-- expressions that are well-formed, and of at most 8 nodes -/
def smallF : Fo → Bool
  | .nil => true
  | .node _ _ a l r => (decide (0 ≤ leftE l 8 8) && validB a.1 a.2 l) && smallF r
end Px
def LeftC (a : Int × Int) (l : Fo) : Prop :=
  ∀ (d m : Int) (w : World) (v : Value) (B : Nat), FoV w B v l → B ≤ w.heap.size → 0 ≤ d → d ≤ 1000 → 0 ≤ m → m ≤ 1000 →
    Calls Tryz.prog 38 #[.agg #[.int .i64 a.1, .int .i64 a.2, v], .int .i64 d, .int .i64 m] w fun e w' =>
      e = .returned (.int .i64 (leftE l d m)) ∧ Below w.heap.size w w'
def LefL (l : Fo) (d m : Int) (w : World) (cs : Array Value) (y i : Value) (wr : World) : Prop :=
  ∃ (k : Nat) (x : Int), k ≤ flen l ∧ i = .int .i64 k ∧ y = .int .i64 x ∧ -1 ≤ x ∧ x + k ≤ 1000 ∧ Below w.heap.size w wr ∧ wr.heap[w.heap.size]? = some (.cells cs 24 (0, 0)) ∧ leftF (dropF l k) d x = leftF l d m
set_option maxRecDepth 100000 in
set_option maxHeartbeats 2000000 in
theorem left_one (a : Int × Int) (l : Fo) (ih : ∀ k, k < flen l → LeftC (getF l k).1 (getF l k).2) : LeftC a l := by
  intro d m w v B hv hB hd0 hd1 hm0 hm1
  obtain ⟨A, c, rfl, hA⟩ := hv
  obtain ⟨op, n⟩ := a
  dsimp only
  have hx := World.alloc_heap_new w (.cells #[.int .i64 op, .int .i64 n, .slice A (flen l) c] 24)
  have hb : Below w.heap.size w (w.alloc (.cells #[.int .i64 op, .int .i64 n, .slice A (flen l) c] 24)) := (Below.refl _ _).alloc (Nat.le_refl _) _
  have hw1 : IntKind.i64.wrap (m - 1) = m - 1 := IntWalk.i64_in _ (by omega)
  have HX := Lib.hid hx
  have HB := Lib.hid hb
  have HA := Lib.hid hA
  have HI := Lib.hid ih
  clear hx hb hA ih
  by_cases hd : d < 1
  · have dd : decide (d < 1) = true := by simpa using hd
    have hE : leftE l d m = -1 := by unfold leftE; rw [if_pos hd]
    have HE := Lib.hid hE
    clear hE
    go_enter Tryz.func38, Tryz.ntmps38
    go_wp2_with fail
    go_ret
    rw [HE.out]
    exact ⟨rfl, HB.out⟩
  · have dd : decide (d < 1) = false := by simpa using hd
    have hE : leftE l d m = leftF l (d - 1) (m - 1) := by unfold leftE; rw [if_neg hd]
    have hw2 : IntKind.i64.wrap (d - 1) = d - 1 := IntWalk.i64_in _ (by omega)
    have HE := Lib.hid hE
    clear hE
    go_enter Tryz.func38, Tryz.ntmps38
    go_wp2_with fail
    go_loopw [2, 7] (fun y i wr => LefL l (d - 1) (m - 1) w #[.int .i64 op, .int .i64 n, .slice A (flen l) c] y i wr) (fun _ i _ => flen l - (intOf i).toNat)
    case atStart => exact ⟨0, m - 1, by omega, rfl, rfl, by omega, by simp; omega, HB.out, HX.out, by rw [dropF]⟩
    case round =>
      obtain ⟨k, x, hk, rfl, rfl, hx0, hx1, hbl, hbox, hF⟩ := hrel
      have m2 : wr.cell? ⟨w.heap.size, 2, none⟩ = some (.slice A (flen l) c) := by rw [Lib.cell_of_heap hbox]; rfl
      have HFF := Lib.hid hF
      have HBX := Lib.hid hbox
      have HBL := Lib.hid hbl
      clear hF hbox hbl
      by_cases hkl : k < flen l
      · have dk : ((k : Int) < (flen l : Int)) := by omega
        obtain ⟨bb, oo, hdr⟩ := dropF_get l k hkl
        have hF2 := HFF.out
        rw [hdr, leftF_node] at hF2
        by_cases hx : 0 ≤ x
        · rw [if_pos hx] at hF2
          have hkeep : ∀ p : Addr, p.block < B → wr.cell? p = w.cell? p := fun p hp => HBL.out.cell (by omega)
          obtain ⟨ad, A', c', rfl, hlo, t0, t1, t2, t3⟩ := FoAt.get l A 0 k (FoAt.keep hkeep l A 0 HA.out) hkl
          rw [Nat.zero_add] at t0 t1 t2
          have hrec := HI.out k hkl
          obtain ⟨⟨op', n'⟩, l', hel⟩ : ∃ a' l', getF l k = (a', l') := ⟨_, _, rfl⟩
          rw [hel] at t0 t1 t2 t3 hF2 hrec
          dsimp only at t0 t1 t2 t3 hF2 hrec
          have hbz := HBL.out.size
          have hbw : w.heap.size < wr.heap.size := (Array.getElem?_eq_some_iff.1 HBX.out).1
          have hcall := hrec (d - 1) x wr (.slice A' (flen l') c') B ⟨A', c', rfl, t3⟩ (by omega) (by omega) (by omega) hx (by omega)
          have hbn := leftE_bnd l' (d - 1) x hx
          obtain ⟨z, hz⟩ : ∃ z, z = leftE l' (d - 1) x := ⟨_, rfl⟩
          rw [← hz] at hcall hF2 hbn
          have HC := Lib.hid hcall
          have H2 := Lib.hid hF2
          have dx : decide (0 ≤ x) = true := by simpa using hx
          clear hdr hrec hel HFF hkeep t3 hcall hF2 hz
          go_wp2_with fail
          refine HC.out.mono ?_
          rintro e w9 ⟨rfl, hb9⟩
          have B9 := Lib.hid (bthen' HBL.out hb9)
          have X9 := Lib.hid ((hb9.block _ hbw).trans HBX.out)
          clear hb9 HC HBL HBX m2 t0 t1 t2
          go_wp2_with fail
          go_roundw
          case rel => exact ⟨k + 1, z, by omega, by go_num, rfl, by omega, by push_cast; omega, B9.out, X9.out, H2.out⟩
          case measure => simp [intOf]; omega
        · rw [if_neg hx] at hF2
          have H2 := Lib.hid hF2
          have dx : decide (0 ≤ x) = false := by simpa using hx
          clear hdr hF2 HFF
          go_wp2_with fail
          go_ret
          rw [HE.out, ← H2.out]
          exact ⟨rfl, HBL.out⟩
      · have hke : dropF l k = .nil := dropF_len l k (by omega)
        have hF2 := HFF.out
        rw [hke, leftF] at hF2
        have H2 := Lib.hid hF2
        clear hF2 HFF
        go_wp2_with fail
        go_ret
        rw [HE.out, ← H2.out]
        exact ⟨rfl, HBL.out⟩
theorem left_all (f : Fo) : ∀ k, k < flen f → LeftC (getF f k).1 (getF f k).2 := by
  induction f with
  | nil => intro k h; simp [flen] at h
  | node b o a l r ihl ihr =>
    intro k h
    cases k with
    | zero => exact left_one a l ihl
    | succ k => exact ihr k (by simp [flen] at h; omega)
theorem left_expr (a : Int × Int) (l : Fo) : LeftC a l := left_one a l (left_all l)
set_option maxRecDepth 100000 in
set_option maxHeartbeats 2000000 in
theorem small_any (f : Fo) (v : Value) (w : World) (B : Nat) (hv : FoV w B v f) (hB : B ≤ w.heap.size) (hl : flen f ≤ 1000) :
    Calls Tryz.prog 26 #[v] w fun e w' => e = .returned (.bool (smallF f)) ∧ Below w.heap.size w w' := by
  obtain ⟨A, c, rfl, hA⟩ := hv
  have HA := Lib.hid hA
  clear hA
  go_enter Tryz.func26, Tryz.ntmps26
  go_wp2_with fail
  go_loopw [3] (fun i wr => ∃ k : Nat, k ≤ flen f ∧ i = .int .i64 k ∧ Below w.heap.size w wr ∧ smallF (dropF f k) = smallF f) (fun i _ => flen f - (intOf i).toNat)
  case atStart => exact ⟨0, by omega, rfl, Below.refl _ _, by rw [dropF]⟩
  case round =>
    obtain ⟨k, hk, rfl, hbl, hF⟩ := hrel
    have HFF := Lib.hid hF
    have HBL := Lib.hid hbl
    clear hF hbl
    by_cases hkl : k < flen f
    · have dk : ((k : Int) < (flen f : Int)) := by omega
      obtain ⟨bb, oo, hdr⟩ := dropF_get f k hkl
      have hF2 := HFF.out
      rw [hdr, smallF] at hF2
      have hkeep : ∀ p : Addr, p.block < B → wr.cell? p = w.cell? p := fun p hp => HBL.out.cell (by omega)
      obtain ⟨ad, A', c', rfl, hlo, t0, t1, t2, t3⟩ := FoAt.get f A 0 k (FoAt.keep hkeep f A 0 HA.out) hkl
      rw [Nat.zero_add] at t0 t1 t2
      obtain ⟨⟨op, n⟩, l, hel⟩ : ∃ a' l', getF f k = (a', l') := ⟨_, _, rfl⟩
      rw [hel] at t0 t1 t2 t3 hF2
      dsimp only at t0 t1 t2 t3 hF2
      have hbz := HBL.out.size
      have hb2 : (ad.add (k * 3)).block < wr.heap.size := by rw [add_block']; omega
      have hf : FoV wr wr.heap.size (.slice A' (flen l) c') l := FoV.up ⟨A', c', rfl, t3⟩ (by omega)
      have hcall := left_expr (op, n) l 8 8 wr (.slice A' (flen l) c') wr.heap.size hf (Nat.le_refl _) (by omega) (by omega) (by omega) (by omega)
      have HC := Lib.hid hcall
      have HFV := Lib.hid hf
      obtain ⟨z, hz⟩ : ∃ z, z = leftE l 8 8 := ⟨_, rfl⟩
      rw [← hz] at hcall hF2
      have HC := Lib.hid hcall
      have H2 := Lib.hid hF2
      clear hdr hel HFF hkeep t3 hcall hF2 hz hf
      go_wp2_with fail
      refine HC.out.mono ?_
      rintro e w5 ⟨rfl, hb5⟩
      have B5 := Lib.hid (bthen' HBL.out hb5)
      have F5 := Lib.hid ((HFV.out.on hb5).up hb5.size)
      have y0 := (hb5.cell (p := ad.add (k * 3)) hb2).trans t0
      have y1 := (hb5.cell (p := ⟨(ad.add (k * 3)).block, (ad.add (k * 3)).off + 1, none⟩) hb2).trans t1
      have y2 := (hb5.cell (p := ⟨(ad.add (k * 3)).block, (ad.add (k * 3)).off + 2, none⟩) hb2).trans t2
      clear hb5 HC HFV t0 t1 t2
      by_cases hz : z < 0
      · have dz : decide (z < 0) = true := by simpa using hz
        have h3 := H2.out
        rw [show decide (0 ≤ z) = false by simp; omega] at h3
        simp only [Bool.false_and] at h3
        have H3 := Lib.hid h3
        clear h3 H2
        go_wp2_with fail
        go_ret
        rw [← H3.out]
        exact ⟨rfl, B5.out⟩
      · have dz : decide (z < 0) = false := by simpa using hz
        have h3 := H2.out
        rw [show decide (0 ≤ z) = true by simp; omega] at h3
        simp only [Bool.true_and] at h3
        have H3 := Lib.hid h3
        clear h3 H2
        go_wp2_with fail
        refine (rvalid_any op n l (.slice A' (flen l) c') _ F5.out).mono ?_
        rintro e w6 ⟨rfl, hb6⟩
        have B6 := Lib.hid (bthen' B5.out hb6)
        clear hb6 B5 F5 y0 y1 y2
        cases hval : validB op n l with
        | false =>
          have h4 := H3.out
          rw [hval] at h4
          simp only [Bool.false_and] at h4
          have H4 := Lib.hid h4
          clear h4 H3 hval
          go_wp2_with fail
          go_ret
          rw [← H4.out]
          exact ⟨rfl, B6.out⟩
        | true =>
          have h4 := H3.out
          rw [hval] at h4
          simp only [Bool.true_and] at h4
          have H4 := Lib.hid h4
          clear h4 H3 hval
          go_wp2_with fail
          go_roundw
          case rel => exact ⟨k + 1, by omega, by go_num, B6.out, H4.out⟩
          case measure => simp [intOf]; omega
    · have hke : dropF f k = .nil := dropF_len f k (by omega)
      have hF2 := HFF.out
      rw [hke, smallF] at hF2
      have H2 := Lib.hid hF2
      clear hF2 HFF
      go_wp2_with fail
      go_ret
      rw [← H2.out]
      exact ⟨rfl, HBL.out⟩
end Go.Proofs.YtomnjamldbficaaGreatDoor
