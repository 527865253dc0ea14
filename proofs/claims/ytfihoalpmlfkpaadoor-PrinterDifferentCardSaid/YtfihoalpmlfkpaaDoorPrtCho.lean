/-
  Walks: Choices of the reference of package printer.
-/
import Derived.Test.YtfihoalpmlfkpaaDoorPrtCnt
import Derived.Test.YtfihoalpmlfkpaaDoorPrtR2
namespace Go.Proofs.YtfihoalpmlfkpaaDoor
open Go.RowKit Lx Px
theorem cho_le : ∀ f : Fo, choF f ≤ nodesF f := by
  intro f
  induction f with
  | nil => simp [choF, nodesF]
  | node b o a l r ihl ihr =>
    have : chB a.1 ≤ 1 := by unfold chB; split <;> omega
    simp only [choF, nodesF]; omega
theorem flen_nodes : ∀ f : Fo, flen f ≤ nodesF f := by
  intro f
  induction f with
  | nil => simp [flen, nodesF]
  | node b o a l r _ ihr => simp only [flen, nodesF]; omega
def ChoC (a : Int × Int) (l : Fo) : Prop :=
  ∀ (w : World) (v : Value) (B : Nat), FoV w B v l → B ≤ w.heap.size → nodesF l ≤ 1000 →
    Calls Tryd.prog 18 #[.agg #[.int .i64 a.1, .int .i64 a.2, v]] w fun e w' =>
      e = .returned (.int .i64 ((chB a.1 + choF l : Nat) : Int)) ∧ Below w.heap.size w w'
def ChoL (l : Fo) (fin : Nat) (w : World) (kv y i : Value) (wr : World) : Prop :=
  ∃ (k x : Nat), k ≤ flen l ∧ i = .int .i64 k ∧ y = .int .i64 x ∧ Below w.heap.size w wr ∧ w.heap.size < wr.heap.size ∧ wr.cell? ⟨w.heap.size, 2, none⟩ = some kv ∧ x + choF (dropF l k) = fin
theorem cho_one (a : Int × Int) (l : Fo) (ih : ∀ k, k < flen l → ChoC (getF l k).1 (getF l k).2) : ChoC a l := by
  intro w v B hv hB hnd
  obtain ⟨A, c, rfl, hA⟩ := hv
  obtain ⟨op, n⟩ := a
  have hfl := flen_nodes l
  have hcl := cho_le l
  have hc1 : chB op ≤ 1 := by unfold chB; split <;> omega
  obtain ⟨fin, hfin⟩ : ∃ fin, fin = chB op + choF l := ⟨_, rfl⟩
  have HI := Lib.hid ih
  have HA := Lib.hid hA
  clear ih hA
  dsimp only
  rw [← hfin]
  have hfb : fin ≤ 1001 := by omega
  have hgo : ∀ x : Nat, x = chB op → x + choF (dropF l 0) = fin := by intro x hx; rw [hx, hfin, dropF]
  have HG := Lib.hid hgo
  have HFI := Lib.hid hfin
  clear hgo hfin
  have hx0 := World.alloc_heap_new w (.cells #[.int .i64 op, .int .i64 n, .slice A (flen l) c] 24)
  have HX0 := Lib.hid hx0
  clear hx0
  by_cases h8 : op = 8
  · subst h8
    go_enter Tryd.func18, Tryd.ntmps18
    go_wp2_with fail
    go_loopw [3, 4] (fun y i wr => ChoL l fin w (.slice A (flen l) c) y i wr) (fun _ i _ => flen l - (intOf i).toNat)
    case atStart => exact ⟨0, 1, by omega, rfl, rfl, (bself w).alloc (Nat.le_refl _) _, by simp, by rw [Lib.cell_of_heap HX0.out]; rfl, HG.out 1 (by simp [chB])⟩
    case round =>
      obtain ⟨k, x, hk, rfl, rfl, hbl, hsz, hkv, hF⟩ := hrel
      have HFF := Lib.hid hF
      have hxb : x ≤ 1001 := by omega
      clear hF
      by_cases hkl : k < flen l
      · have hkeep : ∀ p : Addr, p.block < B → wr.cell? p = w.cell? p := fun p hp => hbl.cell (by omega)
        obtain ⟨ad, A', c', rfl, hlo, t0, t1, t2, t3⟩ := FoAt.get l A 0 k (FoAt.keep hkeep l A 0 HA.out) hkl
        rw [Nat.zero_add] at t0 t1 t2
        obtain ⟨bb, oo, hd⟩ := dropF_get l k hkl
        have hrec := HI.out k hkl
        have hng := nodes_get l k hkl
        obtain ⟨⟨op', n'⟩, l', hel⟩ : ∃ a' l', getF l k = (a', l') := ⟨_, _, rfl⟩
        rw [hel] at t0 t1 t2 t3 hd hrec hng
        dsimp only at t0 t1 t2 t3 hd hrec hng
        have hF2 := HFF.out
        rw [hd, choF] at hF2
        have hcall := hrec wr (.slice A' (flen l') c') B ⟨A', c', rfl, t3⟩ (by omega) (by omega)
        dsimp only at hcall hF2
        obtain ⟨z, hz⟩ : ∃ z, z = chB op' + choF l' := ⟨_, rfl⟩
        rw [← hz] at hcall hF2
        have HC := Lib.hid hcall
        have H2 := Lib.hid hF2
        have hzb : z ≤ 1001 := by omega
        clear hd hrec hel HFF hkeep t3 hcall hF2 hz
        go_wp2_with fail
        refine HC.out.mono ?_
        rintro e w9 ⟨rfl, hb9⟩
        go_wp2_with fail
        go_roundw
        case rel => exact ⟨k + 1, x + z, by omega, by go_num, by go_num, bthen' hbl hb9, by have := hb9.size; omega, (hb9.cell hsz).trans hkv, by have := H2.out; omega⟩
        case measure => simp [intOf]; omega
      · have hke : dropF l k = .nil := dropF_len l k (by omega)
        have hF2 := HFF.out
        rw [hke, choF] at hF2
        have hxf : x = fin := by omega
        subst hxf
        clear HFF hF2
        go_wp2_with fail
        go_ret
        exact ⟨rfl, hbl⟩
  · by_cases h9 : op = 9
    · subst h9
      go_enter Tryd.func18, Tryd.ntmps18
      go_wp2_with fail
      go_loopw [3, 4] (fun y i wr => ChoL l fin w (.slice A (flen l) c) y i wr) (fun _ i _ => flen l - (intOf i).toNat)
      case atStart => exact ⟨0, 1, by omega, rfl, rfl, (bself w).alloc (Nat.le_refl _) _, by simp, by rw [Lib.cell_of_heap HX0.out]; rfl, HG.out 1 (by simp [chB])⟩
      case round =>
        obtain ⟨k, x, hk, rfl, rfl, hbl, hsz, hkv, hF⟩ := hrel
        have HFF := Lib.hid hF
        have hxb : x ≤ 1001 := by omega
        clear hF
        by_cases hkl : k < flen l
        · have hkeep : ∀ p : Addr, p.block < B → wr.cell? p = w.cell? p := fun p hp => hbl.cell (by omega)
          obtain ⟨ad, A', c', rfl, hlo, t0, t1, t2, t3⟩ := FoAt.get l A 0 k (FoAt.keep hkeep l A 0 HA.out) hkl
          rw [Nat.zero_add] at t0 t1 t2
          obtain ⟨bb, oo, hd⟩ := dropF_get l k hkl
          have hrec := HI.out k hkl
          have hng := nodes_get l k hkl
          obtain ⟨⟨op', n'⟩, l', hel⟩ : ∃ a' l', getF l k = (a', l') := ⟨_, _, rfl⟩
          rw [hel] at t0 t1 t2 t3 hd hrec hng
          dsimp only at t0 t1 t2 t3 hd hrec hng
          have hF2 := HFF.out
          rw [hd, choF] at hF2
          have hcall := hrec wr (.slice A' (flen l') c') B ⟨A', c', rfl, t3⟩ (by omega) (by omega)
          dsimp only at hcall hF2
          obtain ⟨z, hz⟩ : ∃ z, z = chB op' + choF l' := ⟨_, rfl⟩
          rw [← hz] at hcall hF2
          have HC := Lib.hid hcall
          have H2 := Lib.hid hF2
          have hzb : z ≤ 1001 := by omega
          clear hd hrec hel HFF hkeep t3 hcall hF2 hz
          go_wp2_with fail
          refine HC.out.mono ?_
          rintro e w9 ⟨rfl, hb9⟩
          go_wp2_with fail
          go_roundw
          case rel => exact ⟨k + 1, x + z, by omega, by go_num, by go_num, bthen' hbl hb9, by have := hb9.size; omega, (hb9.cell hsz).trans hkv, by have := H2.out; omega⟩
          case measure => simp [intOf]; omega
        · have hke : dropF l k = .nil := dropF_len l k (by omega)
          have hF2 := HFF.out
          rw [hke, choF] at hF2
          have hxf : x = fin := by omega
          subst hxf
          clear HFF hF2
          go_wp2_with fail
          go_ret
          exact ⟨rfl, hbl⟩
    · have d8 : (op == 8) = false := by simpa using h8
      have d9 : (op == 9) = false := by simpa using h9
      go_enter Tryd.func18, Tryd.ntmps18
      go_wp2_with fail
      go_loopw [3, 4] (fun y i wr => ChoL l fin w (.slice A (flen l) c) y i wr) (fun _ i _ => flen l - (intOf i).toNat)
      case atStart => exact ⟨0, 0, by omega, rfl, rfl, (bself w).alloc (Nat.le_refl _) _, by simp, by rw [Lib.cell_of_heap HX0.out]; rfl, HG.out 0 (by simp [chB, h8, h9])⟩
      case round =>
        obtain ⟨k, x, hk, rfl, rfl, hbl, hsz, hkv, hF⟩ := hrel
        have HFF := Lib.hid hF
        have hxb : x ≤ 1001 := by omega
        clear hF
        by_cases hkl : k < flen l
        · have hkeep : ∀ p : Addr, p.block < B → wr.cell? p = w.cell? p := fun p hp => hbl.cell (by omega)
          obtain ⟨ad, A', c', rfl, hlo, t0, t1, t2, t3⟩ := FoAt.get l A 0 k (FoAt.keep hkeep l A 0 HA.out) hkl
          rw [Nat.zero_add] at t0 t1 t2
          obtain ⟨bb, oo, hd⟩ := dropF_get l k hkl
          have hrec := HI.out k hkl
          have hng := nodes_get l k hkl
          obtain ⟨⟨op', n'⟩, l', hel⟩ : ∃ a' l', getF l k = (a', l') := ⟨_, _, rfl⟩
          rw [hel] at t0 t1 t2 t3 hd hrec hng
          dsimp only at t0 t1 t2 t3 hd hrec hng
          have hF2 := HFF.out
          rw [hd, choF] at hF2
          have hcall := hrec wr (.slice A' (flen l') c') B ⟨A', c', rfl, t3⟩ (by omega) (by omega)
          dsimp only at hcall hF2
          obtain ⟨z, hz⟩ : ∃ z, z = chB op' + choF l' := ⟨_, rfl⟩
          rw [← hz] at hcall hF2
          have HC := Lib.hid hcall
          have H2 := Lib.hid hF2
          have hzb : z ≤ 1001 := by omega
          clear hd hrec hel HFF hkeep t3 hcall hF2 hz
          go_wp2_with fail
          refine HC.out.mono ?_
          rintro e w9 ⟨rfl, hb9⟩
          go_wp2_with fail
          go_roundw
          case rel => exact ⟨k + 1, x + z, by omega, by go_num, by go_num, bthen' hbl hb9, by have := hb9.size; omega, (hb9.cell hsz).trans hkv, by have := H2.out; omega⟩
          case measure => simp [intOf]; omega
        · have hke : dropF l k = .nil := dropF_len l k (by omega)
          have hF2 := HFF.out
          rw [hke, choF] at hF2
          have hxf : x = fin := by omega
          subst hxf
          clear HFF hF2
          go_wp2_with fail
          go_ret
          exact ⟨rfl, hbl⟩
theorem cho_all (f : Fo) : ∀ k, k < flen f → ChoC (getF f k).1 (getF f k).2 := by
  induction f with
  | nil => intro k h; simp [flen] at h
  | node b o a l r ihl ihr =>
    intro k h
    cases k with
    | zero => exact cho_one a l ihl
    | succ k => exact ihr k (by simp [flen] at h; omega)
theorem cho_any (a : Int × Int) (l : Fo) : ChoC a l := cho_one a l (cho_all l)
end Go.Proofs.YtfihoalpmlfkpaaDoor
