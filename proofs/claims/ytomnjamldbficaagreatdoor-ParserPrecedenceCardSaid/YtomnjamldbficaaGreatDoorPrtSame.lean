/-
  Walks: Same of the reference of package parser.
-/
import Derived.Test.YtomnjamldbficaaGreatDoorPrtTwo
import Derived.Test.YtomnjamldbficaaGreatDoorPrtRead
namespace Go.Proofs.YtomnjamldbficaaGreatDoor
open Go.RowKit Lx Px
namespace Px
theorem sameF_len : ∀ l m : Fo, sameF l m = true → flen l = flen m := by
  intro l
  induction l with
  | nil => intro m h; cases m with
    | nil => rfl
    | node => simp [sameF] at h
  | node b o a l r _ ihr =>
    intro m h
    cases m with
    | nil => simp [sameF] at h
    | node b' o' a' l' r' =>
      simp only [sameF, Bool.and_eq_true] at h
      simp only [flen]; rw [ihr r' h.2]
theorem sameF_ne (l m : Fo) (h : ¬ flen l = flen m) : sameF l m = false := by
  cases e : sameF l m with
  | false => rfl
  | true => exact absurd (sameF_len l m e) h
end Px
def SameC (a : Int × Int) (l : Fo) : Prop :=
  ∀ (b : Int × Int) (m : Fo) (w : World) (v u : Value) (B : Nat), FoV w B v l → FoV w B u m → B ≤ w.heap.size → nodesF l ≤ 1000 →
    Calls Tryz.prog 17 #[.agg #[.int .i64 a.1, .int .i64 a.2, v], .agg #[.int .i64 b.1, .int .i64 b.2, u]] w fun e w' =>
      e = .returned (.bool (sameE a b l m)) ∧ Below w.heap.size w w'
def SamL (l m : Fo) (w : World) (o1 o2 : Obj) (i : Value) (wr : World) : Prop :=
  ∃ (k : Nat), k ≤ flen l ∧ i = .int .i64 k ∧ Two w o1 o2 wr ∧ sameF (dropF l k) (dropF m k) = sameF l m
set_option maxHeartbeats 2000000 in
set_option maxRecDepth 100000 in
theorem same_one (a : Int × Int) (l : Fo) (ih : ∀ k, k < flen l → SameC (getF l k).1 (getF l k).2) : SameC a l := by
  intro b m w v u B hv hu hB hnd
  obtain ⟨A, c, rfl, hA⟩ := hv
  obtain ⟨A2, c2, rfl, hA2⟩ := hu
  obtain ⟨op, n⟩ := a
  obtain ⟨op2, n2⟩ := b
  have hfl := flen_nodes l
  have hx := heap_new2 w (.cells #[.int .i64 op, .int .i64 n, .slice A (flen l) c] 24) (.cells #[.int .i64 op2, .int .i64 n2, .slice A2 (flen m) c2] 24)
  have hb : Below w.heap.size w ((w.alloc (.cells #[.int .i64 op, .int .i64 n, .slice A (flen l) c] 24)).alloc (.cells #[.int .i64 op2, .int .i64 n2, .slice A2 (flen m) c2] 24)) := ((Below.refl _ _).alloc (Nat.le_refl _) _).alloc (by simp) _
  have HX : Hid (Two w (.cells #[.int .i64 op, .int .i64 n, .slice A (flen l) c] 24 (0, 0)) (.cells #[.int .i64 op2, .int .i64 n2, .slice A2 (flen m) c2] 24 (0, 0)) ((w.alloc (.cells #[.int .i64 op, .int .i64 n, .slice A (flen l) c] 24)).alloc (.cells #[.int .i64 op2, .int .i64 n2, .slice A2 (flen m) c2] 24))) := ⟨hx.1, hx.2, hb⟩
  have HA := Lib.hid hA
  have HA2 := Lib.hid hA2
  have HI := Lib.hid ih
  clear hx hb hA hA2 ih
  dsimp only
  by_cases h1 : op = op2
  · by_cases h2 : n = n2
    · by_cases h3 : flen l = flen m
      · subst h1; subst h2
        have d1 : (op != op) = false := by simp
        have d2 : (n != n) = false := by simp
        have d3 : ((flen l : Int) != (flen m : Int)) = false := by rw [h3]; simp
        have hE : sameE (op, n) (op, n) l m = sameF l m := by simp [sameE]
        have HE := Lib.hid hE
        have H3 := Lib.hid h3
        clear hE h3
        go_enter Tryz.func17, Tryz.ntmps17
        go_wp2_with fail
        go_loopw [5] (fun i wr => SamL l m w (.cells #[.int .i64 op, .int .i64 n, .slice A (flen l) c] 24 (0, 0)) (.cells #[.int .i64 op, .int .i64 n, .slice A2 (flen m) c2] 24 (0, 0)) i wr) (fun i _ => flen l - (intOf i).toNat)
        case atStart => exact ⟨0, by omega, rfl, HX.out, by rw [dropF, dropF]⟩
        case round =>
          obtain ⟨k, hk, rfl, hbx, hF⟩ := hrel
          have m2 : wr.cell? ⟨w.heap.size, 2, none⟩ = some (.slice A (flen l) c) := by rw [Lib.cell_of_heap hbx.1]; rfl
          have m3 : wr.cell? ⟨w.heap.size + 1, 2, none⟩ = some (.slice A2 (flen m) c2) := by rw [Lib.cell_of_heap hbx.2.1]; rfl
          have HFF := Lib.hid hF
          have HBX := Lib.hid hbx
          clear hF hbx
          by_cases hlt : k < flen l
          · have hkeep : ∀ p : Addr, p.block < B → wr.cell? p = w.cell? p := fun p hp => HBX.out.2.2.cell (by omega)
            have hlt2 : k < flen m := by have := H3.out; omega
            obtain ⟨ad, A', c', rfl, hlo, t0, t1, t2, t3⟩ := FoAt.get l A 0 k (FoAt.keep hkeep l A 0 HA.out) hlt
            obtain ⟨ad2, A2', c2', rfl, hlo2, q0, q1, q2, q3⟩ := FoAt.get m A2 0 k (FoAt.keep hkeep m A2 0 HA2.out) hlt2
            rw [Nat.zero_add] at t0 t1 t2 q0 q1 q2
            obtain ⟨bb, oo, hd⟩ := dropF_get l k hlt
            obtain ⟨bb2, oo2, hd2⟩ := dropF_get m k hlt2
            have hrec := HI.out k hlt
            have hng := nodes_get l k hlt
            obtain ⟨⟨op', n'⟩, l', hel⟩ : ∃ a' l', getF l k = (a', l') := ⟨_, _, rfl⟩
            obtain ⟨⟨op2', n2'⟩, m', hel2⟩ : ∃ a' l', getF m k = (a', l') := ⟨_, _, rfl⟩
            rw [hel] at t0 t1 t2 t3 hd hrec hng
            rw [hel2] at q0 q1 q2 q3 hd2
            dsimp only at t0 t1 t2 t3 hd hrec hng q0 q1 q2 q3 hd2
            have hF2 := HFF.out
            rw [hd, hd2, sameF] at hF2
            obtain ⟨z, hz⟩ : ∃ z, z = sameE (op', n') (op2', n2') l' m' := ⟨_, rfl⟩
            have hF3 : (z && sameF (dropF l (k + 1)) (dropF m (k + 1))) = sameF l m := by rw [hz]; exact hF2
            have hcall : ∀ W : World, Below w.heap.size w W → Two w (.cells #[.int .i64 op, .int .i64 n, .slice (some ad) (flen l) c] 24 (0, 0)) (.cells #[.int .i64 op, .int .i64 n, .slice (some ad2) (flen m) c2] 24 (0, 0)) W → FoV W B (.slice A' (flen l') c') l' → FoV W B (.slice A2' (flen m') c2') m' →
                Calls Tryz.prog 17 #[.agg #[.int .i64 op', .int .i64 n', .slice A' (flen l') c'], .agg #[.int .i64 op2', .int .i64 n2', .slice A2' (flen m') c2']] W fun e w' => e = .returned (.bool z) ∧ Below W.heap.size W w' := by
              intro W h1 _ h2 h3
              rw [hz]
              exact hrec (op2', n2') m' W _ _ B h2 h3 (by have := h1.size; omega) (by omega)
            have hC := hcall wr.drew HBX.out.2.2.drew HBX.out.drew ⟨A', c', rfl, FoAt.keep (w := wr) (w' := wr.drew) (fun _ _ => rfl) _ _ _ t3⟩ ⟨A2', c2', rfl, FoAt.keep (w := wr) (w' := wr.drew) (fun _ _ => rfl) _ _ _ q3⟩
            have HC := Lib.hid hC
            have HF3 := Lib.hid hF3
            clear hd hd2 hrec hel hel2 HFF hkeep t3 q3 hF2 hF3 hz hcall hC hng
            have dk : ((k : Int) < (flen l : Int)) := by omega
            go_wp2_with fail
            go_still_tail 10, (by kernel_rfl)
            change wpList _ _ _ _ _ wr.drew
            have HB2 := Lib.hid HBX.out.drew
            clear HBX m2 m3 t0 t1 t2 q0 q1 q2
            generalize wr.drew = w6 at *
            go_wp2_with fail
            refine HC.out.mono ?_
            rintro e w7 ⟨rfl, hb⟩
            have HB7 := Lib.hid (HB2.out.on hb)
            clear hb HB2 HC
            cases z with
            | false =>
              go_wp2_with fail
              go_ret
              rw [HE.out, ← HF3.out]
              exact ⟨rfl, HB7.out.2.2⟩
            | true =>
              go_wp2_with fail
              go_roundw
              case rel => exact ⟨k + 1, by omega, by go_num, HB7.out, by have := HF3.out; simpa using this⟩
              case measure => simp [intOf]; omega
          · have hke : dropF l k = .nil := dropF_len l k (by omega)
            have hke2 : dropF m k = .nil := dropF_len m k (by have := H3.out; omega)
            have hF2 := HFF.out
            rw [hke, hke2, sameF] at hF2
            have HF2 := Lib.hid hF2
            clear HFF hF2
            go_wp2_with fail
            go_ret
            rw [HE.out, ← HF2.out]
            exact ⟨rfl, HBX.out.2.2⟩
      · subst h1
        subst h2
        have hE : sameE (op, n) (op, n) l m = false := by simp [sameE, sameF_ne l m h3]
        have d1 : (op != op) = false := by simp
        have d2 : (n != n) = false := by simp
        have d3 : ((flen l : Int) != (flen m : Int)) = true := by simpa using (by omega : ¬ (flen l : Int) = (flen m : Int))
        have HE := Lib.hid hE
        clear hE
        go_enter Tryz.func17, Tryz.ntmps17
        go_wp2_with fail
        go_ret
        rw [HE.out]
        exact ⟨rfl, HX.out.2.2⟩
    · subst h1
      have hE : sameE (op, n) (op, n2) l m = false := by simp [sameE, h2]
      have d1 : (op != op) = false := by simp
      have d2 : (n != n2) = true := by simpa using h2
      have HE := Lib.hid hE
      clear hE
      go_enter Tryz.func17, Tryz.ntmps17
      go_wp2_with fail
      go_ret
      rw [HE.out]
      exact ⟨rfl, HX.out.2.2⟩
  · have hE : sameE (op, n) (op2, n2) l m = false := by simp [sameE, h1]
    have d1 : (op != op2) = true := by simpa using h1
    have HE := Lib.hid hE
    clear hE
    go_enter Tryz.func17, Tryz.ntmps17
    go_wp2_with fail
    go_ret
    rw [HE.out]
    exact ⟨rfl, HX.out.2.2⟩
theorem same_all (f : Fo) : ∀ k, k < flen f → SameC (getF f k).1 (getF f k).2 := by
  induction f with
  | nil => intro k h; simp [flen] at h
  | node b o a l r ihl ihr =>
    intro k h
    cases k with
    | zero => exact same_one a l ihl
    | succ k => exact ihr k (by simp [flen] at h; omega)
theorem same_any (a : Int × Int) (l : Fo) : SameC a l := same_one a l (same_all l)
end Go.Proofs.YtomnjamldbficaaGreatDoor
