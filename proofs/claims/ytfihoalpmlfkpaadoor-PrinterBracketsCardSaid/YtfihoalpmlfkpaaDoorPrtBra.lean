/-
  Walks: Brackets of the reference of package printer.
-/
import Derived.Test.YtfihoalpmlfkpaaDoorPrtCho
namespace Go.Proofs.YtfihoalpmlfkpaaDoor
open Go.RowKit Lx Px
theorem bra_le : ∀ (f : Fo) (par : Int) (i : Nat), braF f par i ≤ nodesF f := by
  intro f
  induction f with
  | nil => intro par i; simp [braF, nodesF]
  | node b o a l r ihl ihr =>
    intro par i
    have h1 := ihl a.1 0
    have h2 := ihr par (i + 1)
    simp only [braF, nodesF]
    split <;> omega
def BraC (a : Int × Int) (l : Fo) : Prop :=
  ∀ (w : World) (v : Value) (B : Nat), formedB a.1 a.2 (flen l) = true → okF l = true → FoV w B v l → B ≤ w.heap.size → nodesF l ≤ 1000 →
    Calls Tryd.prog 17 #[.agg #[.int .i64 a.1, .int .i64 a.2, v]] w fun e w' =>
      e = .returned (.int .i64 ((braF l a.1 0 : Nat) : Int)) ∧ Below w.heap.size w w'
def BraL (op n : Int) (l : Fo) (fin : Nat) (w : World) (kv y i : Value) (wr : World) : Prop :=
  ∃ (k x : Nat), k ≤ flen l ∧ i = .int .i64 k ∧ y = .int .i64 x ∧ Below w.heap.size w wr ∧ wr.heap[w.heap.size]? = some (.cells #[.int .i64 op, .int .i64 n, kv] 24 (0, 0)) ∧ x + braF (dropF l k) op k = fin
set_option maxHeartbeats 1000000 in
theorem bra_one (a : Int × Int) (l : Fo) (ih : ∀ k, k < flen l → BraC (getF l k).1 (getF l k).2) : BraC a l := by
  intro w v B hform hok hv hB hnd
  obtain ⟨A, c, rfl, hA⟩ := hv
  obtain ⟨op, n⟩ := a
  have hf3 := formed_len hform
  have hbl0 := bra_le l op 0
  obtain ⟨fin, hfin⟩ : ∃ fin, fin = braF l op 0 := ⟨_, rfl⟩
  have HI := Lib.hid ih
  have HA := Lib.hid hA
  have HO := Lib.hid hok
  clear ih hA hok hform
  dsimp only
  rw [← hfin]
  have hfb : fin ≤ 1001 := by omega
  have hgo : 0 + braF (dropF l 0) op 0 = fin := by rw [hfin, dropF]; omega
  have HG := Lib.hid hgo
  clear hgo hfin hbl0
  have hx0 := World.alloc_heap_new w (.cells #[.int .i64 op, .int .i64 n, .slice A (flen l) c] 24)
  have HX0 := Lib.hid hx0
  clear hx0
  go_enter Tryd.func17, Tryd.ntmps17
  go_wp2_with fail
  go_loopw [3, 4] (fun y i wr => BraL op n l fin w (.slice A (flen l) c) y i wr) (fun _ i _ => flen l - (intOf i).toNat)
  case atStart => exact ⟨0, 0, by omega, rfl, rfl, (bself w).alloc (Nat.le_refl _) _, HX0.out, HG.out⟩
  case round =>
    obtain ⟨k, x, hk, rfl, rfl, hbl, hbox, hF⟩ := hrel
    have hxb : x ≤ 1001 := by omega
    have m2 : wr.cell? ⟨w.heap.size, 2, none⟩ = some (.slice A (flen l) c) := by rw [Lib.cell_of_heap hbox]; rfl
    have HFF := Lib.hid hF
    have HBX := Lib.hid hbox
    have HBL := Lib.hid hbl
    clear hF hbox hbl
    by_cases hlt : k < flen l
    · have hkeep : ∀ p : Addr, p.block < B → wr.cell? p = w.cell? p := fun p hp => HBL.out.cell (by omega)
      obtain ⟨ad, A', c', rfl, hlo, t0, t1, t2, t3⟩ := FoAt.get l A 0 k (FoAt.keep hkeep l A 0 HA.out) hlt
      rw [Nat.zero_add] at t0 t1 t2
      obtain ⟨bb, oo, hd⟩ := dropF_get l k hlt
      have hrec := HI.out k hlt
      have hok2 := okF_get l k HO.out hlt
      have hng := nodes_get l k hlt
      obtain ⟨⟨op', n'⟩, l', hel⟩ : ∃ a' l', getF l k = (a', l') := ⟨_, _, rfl⟩
      rw [hel] at t0 t1 t2 t3 hd hrec hok2 hng
      dsimp only at t0 t1 t2 t3 hd hrec hok2 hng
      have hF2 := HFF.out
      rw [hd, braF] at hF2
      dsimp only at hF2
      have hcall := hrec wr (.slice A' (flen l') c') B hok2.1 hok2.2 ⟨A', c', rfl, t3⟩ (by have := HBL.out.size; omega) (by omega)
      dsimp only at hcall
      obtain ⟨z, hz⟩ : ∃ z, z = braF l' op' 0 := ⟨_, rfl⟩
      have hzb : z ≤ 1001 := by rw [hz]; have := bra_le l' op' 0; omega
      rw [← hz] at hcall hF2
      have HC := Lib.hid hcall
      have H2 := Lib.hid hF2
      have hbz := HBL.out.size
      have hbw : w.heap.size < wr.heap.size := (Array.getElem?_eq_some_iff.1 HBX.out).1
      have hb2 : (ad.add (k * 3)).block < wr.heap.size := by rw [add_block']; omega
      clear hd hrec hel HFF hkeep t3 hcall hF2 hz hok2
      go_wp2_with fail
      refine HC.out.mono ?_
      rintro e w1 ⟨rfl, hb1⟩
      have x0 : w1.heap[w.heap.size]? = _ := (hb1.block _ hbw).trans HBX.out
      have y0 := (hb1.cell (p := ad.add (k * 3)) hb2).trans t0
      have y1 := (hb1.cell (p := ⟨(ad.add (k * 3)).block, (ad.add (k * 3)).off + 1, none⟩) hb2).trans t1
      have y2 := (hb1.cell (p := ⟨(ad.add (k * 3)).block, (ad.add (k * 3)).off + 2, none⟩) hb2).trans t2
      have z0 : w1.cell? ⟨w.heap.size, 0, none⟩ = some (.int .i64 op) := by rw [Lib.cell_of_heap x0]; rfl
      have z1 : w1.cell? ⟨w.heap.size, 1, none⟩ = some (.int .i64 n) := by rw [Lib.cell_of_heap x0]; rfl
      have z2 : w1.cell? ⟨w.heap.size, 2, none⟩ = some (.slice (some ad) (flen l) c) := by rw [Lib.cell_of_heap x0]; rfl
      have X0 := Lib.hid x0
      have hs1 := hb1.size
      have HB1 := Lib.hid hb1
      have hz1' : w.heap.size < w1.heap.size := by omega
      have hz2' : (ad.add (k * 3)).block < w1.heap.size := by omega
      clear x0 hb1 m2 t0 t1 t2
      go_upto_region 6 with fail
      go_cut [29] from 5 to 31 (fun s29 wx => s29 = .bool (decide (rankOf op' < Px.leastOf op k)) ∧ Below w1.heap.size w1 wx)
      case first =>
        have bk : (k : Int) < (flen l : Int) := by omega
        have b0 : (0 : Int) ≤ (k : Int) := by omega
        have hbw1 := Below.refl w1.heap.size w1
        go_region_held3 (fun w' => w'.cell? ⟨w.heap.size, 0, none⟩ = some (.int .i64 op) ∧ w'.cell? ⟨w.heap.size, 1, none⟩ = some (.int .i64 n) ∧ w'.cell? ⟨w.heap.size, 2, none⟩ = some (.slice (some ad) (flen l) c) ∧ w'.cell? (ad.add (k * 3)) = some (.int .i64 op') ∧ w'.cell? ⟨(ad.add (k * 3)).block, (ad.add (k * 3)).off + 1, none⟩ = some (.int .i64 n') ∧ w'.cell? ⟨(ad.add (k * 3)).block, (ad.add (k * 3)).off + 2, none⟩ = some (.slice A' (flen l') c') ∧ w1.heap.size ≤ w'.heap.size ∧ Below w1.heap.size w1 w') (first | (exact ⟨z0, z1, z2, y0, y1, y2, Nat.le_refl _, hbw1.drew⟩) | (exact keep6 (by assumption) (by assumption) hz1' hz2' hz2' hz2'))
          (first | (go_at_call 38; refine (rank_any _ _ _ _ _ _).mono ?_; rintro e w' ⟨rfl, hb⟩) | (go_at_call 39; refine (least_any _ _ _ _ _ k _ (by omega)).mono ?_; rintro e w' ⟨rfl, hb⟩))
        all_goals go_wp2_with fail
        all_goals go_meet
        all_goals (have hS := ‹_ ∧ _ ∧ _ ∧ _ ∧ _ ∧ _ ∧ _ ∧ Below w1.heap.size w1 w'›; exact ⟨rfl, hS.2.2.2.2.2.2.2⟩)
      case rest =>
        obtain ⟨rfl, hbc⟩ := hcut
        have hbw2 : Below wr.heap.size wr wc := HB1.out.trans (hbc.mono hs1)
        have hbox2 : wc.heap[w.heap.size]? = _ := (hbw2.block _ hbw).trans HBX.out
        have hbel2 : Below w.heap.size w wc := bthen' HBL.out hbw2
        have HBX2 := Lib.hid hbox2
        have HBL2 := Lib.hid hbel2
        clear hbox2 hbel2 hbc hbw2 z0 z1 z2 y0 y1 y2
        by_cases hdd : rankOf op' < Px.leastOf op k
        · have hd : decide (rankOf op' < Px.leastOf op k) = true := by simpa using hdd
          have h3 := H2.out
          rw [if_pos hdd] at h3
          have H3 := Lib.hid h3
          clear h3 hdd H2
          rw [hd]
          clear hd
          go_wp2_with fail
          go_roundw
          case rel => exact ⟨k + 1, x + z + 1, by omega, by go_num, by go_num, HBL2.out, HBX2.out, by have := H3.out; omega⟩
          case measure => simp [intOf]; omega
        · have hd : decide (rankOf op' < Px.leastOf op k) = false := by simpa using hdd
          have h3 := H2.out
          rw [if_neg hdd] at h3
          have H3 := Lib.hid h3
          clear h3 hdd H2
          rw [hd]
          clear hd
          go_wp2_with fail
          go_roundw
          case rel => exact ⟨k + 1, x + z, by omega, by go_num, by go_num, HBL2.out, HBX2.out, by have := H3.out; omega⟩
          case measure => simp [intOf]; omega
    · have hke : dropF l k = .nil := dropF_len l k (by omega)
      have hF2 := HFF.out
      rw [hke, braF] at hF2
      have hxf : x = fin := by omega
      subst hxf
      clear HFF hF2
      go_wp2_with fail
      go_ret
      exact ⟨rfl, HBL.out⟩
theorem bra_all (f : Fo) : ∀ k, k < flen f → BraC (getF f k).1 (getF f k).2 := by
  induction f with
  | nil => intro k h; simp [flen] at h
  | node b o a l r ihl ihr =>
    intro k h
    cases k with
    | zero => exact bra_one a l ihl
    | succ k => exact ihr k (by simp [flen] at h; omega)
theorem bra_any (a : Int × Int) (l : Fo) : BraC a l := bra_one a l (bra_all l)
end Go.Proofs.YtfihoalpmlfkpaaDoor
