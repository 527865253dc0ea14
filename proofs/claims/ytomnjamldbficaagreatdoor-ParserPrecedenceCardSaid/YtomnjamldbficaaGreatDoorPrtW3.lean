/-
  Several texts in one: PrtW1, PrtW2, PrtW3.
-/
import Derived.Test.YtomnjamldbficaaGreatDoorPrtMem
import Derived.Test.YtomnjamldbficaaGreatDoorProg
import Derived.WalkSpells
import Derived.WalkLawsBesides
import Derived.RangeFuncBox
import Derived.Deep.QuietTactic
import Derived.BigQuiet
import Derived.Deep.RegionHeld3
import Derived.IntWalk
namespace Go.Proofs.YtomnjamldbficaaGreatDoor
open Go.RowKit Lx Px
theorem p_ret_bool {a b : Bool} (h : a = b) : Ending.returned (.bool a) = .returned (.bool b) := by rw [h]
theorem p_bself (w : World) : Below w.heap.size w w := Below.refl w.heap.size w
theorem within_any (n lo hi : Int) (w : World) : Calls Tryz.prog 111 #[.int .i64 n, .int .i64 lo, .int .i64 hi] w fun e w' => e = .returned (.bool (decide (lo ≤ n) && decide (n ≤ hi))) ∧ w = w' := by
  by_cases h1 : lo ≤ n
  · have d1 : decide (lo ≤ n) = true := by simpa using h1
    rw [d1]
    go_enter Tryz.func111, Tryz.ntmps111
    go_wp2
    go_ret
    exact ⟨by simp, rfl⟩
  · have d1 : decide (lo ≤ n) = false := by simpa using h1
    rw [d1]
    go_enter Tryz.func111, Tryz.ntmps111
    go_wp2
    go_ret
    exact ⟨by simp, rfl⟩
theorem formed_any (op n : Int) (A : Option Addr) (k c : Nat) (w : World) : Calls Tryz.prog 78 #[.agg #[.int .i64 op, .int .i64 n, .slice A k c]] w fun e w' => e = .returned (.bool (formedB op n k)) ∧ w' = w.alloc (.cells #[.int .i64 op, .int .i64 n, .slice A k c] 24) := by
  go_enter Tryz.func78, Tryz.ntmps78
  go_wp2
  all_goals go_ret
  all_goals refine ⟨p_ret_bool ?_, by first | rfl | (subst_vars; rfl)⟩
  all_goals unfold formedB
  all_goals simp_all
  all_goals first | omega | (by_cases hn0 : n = 0 <;> simp [hn0] <;> omega)
end Go.Proofs.YtomnjamldbficaaGreatDoor
namespace Go.Proofs.YtomnjamldbficaaGreatDoor
open Go.RowKit Lx Px
def FitsC (a : Int × Int) (l : Fo) : Prop :=
  ∀ (lv left : Int) (w : World) (v : Value) (B b : Nat), FoV w B v l → B ≤ b → Boxed w b 3 (.int .i64 left) → 0 ≤ lv → lv ≤ 1000 → 0 ≤ left → left ≤ 1000 →
    Calls Tryz.prog 42 #[.agg #[.int .i64 a.1, .int .i64 a.2, v], .int .i64 lv, .pointer (some ⟨b, 0, none⟩)] w fun e w' =>
      e = .returned (.bool (fitE a l lv left).1) ∧ Boxed w' b 3 (.int .i64 (fitE a l lv left).2) ∧ w.grownBy w' (some b)
theorem cell_far {w w' : World} {row : Option Nat} (hg : w.grownBy w' row) (a : Addr) (hlt : a.block < w.heap.size) (hne : some a.block ≠ row) : w'.cell? a = w.cell? a := by
  unfold World.cell?; rw [hg.block _ hlt hne]
theorem cell_alloc_old (w : World) (o : Obj) (p : Addr) (h : p.block < w.heap.size) : (w.alloc o).cell? p = w.cell? p := cell_far (World.grownBy_alloc w o none) p h (by simp)
theorem fitsF_ok : ∀ (f : Fo) (lv left x : Int), fitsF f lv left = (true, x) → 0 ≤ left → 0 ≤ x ∧ x ≤ left := by
  intro f
  induction f with
  | nil => intro lv left x h h0; simp [fitsF] at h; omega
  | node b o a l r ihl ihr =>
    intro lv left x h h0
    rw [fitsF] at h
    split at h
    · simp at h
    · split at h
      · simp at h
      · rename_i y e
        have h1 := ihl (lv - 1) (left - 1) y e (by omega)
        have h2 := ihr lv x
        have h3 := ihr lv y x h h1.1
        omega
theorem formed_len {op n : Int} {k : Nat} (h : formedB op n k = true) : k ≤ 3 := by
  unfold formedB at h
  repeat' split at h
  all_goals simp at h
  all_goals omega
def FitL (l : Fo) (lv left : Int) (w : World) (b : Nat) (i : Value) (wr : World) : Prop :=
  ∃ (k : Nat) (x : Int), k ≤ flen l ∧ i = .int .i64 k ∧ 0 ≤ x ∧ x ≤ 1000 ∧ Boxed wr b 3 (.int .i64 x) ∧ w.grownBy wr (some b) ∧ fitsF (dropF l k) lv x = fitsF l lv left
theorem fits_one (a : Int × Int) (l : Fo) (ih : ∀ k, k < flen l → FitsC (getF l k).1 (getF l k).2) : FitsC a l := by
  intro lv left w v B b hv hB hb h0 h1 h2 h3
  obtain ⟨A, c, rfl, hA⟩ := hv
  obtain ⟨op, n⟩ := a
  have hc0 := hb.cell
  have hlt := hb.lt
  have hfz := hb.frozen
  have hset := hb.set (.int .i64 (left - 1))
  have hg := grownBy_setCell' w b (.int .i64 (left - 1))
  by_cases hz : lv = 0
  · subst hz
    have hE : fitE (op, n) l 0 left = (false, left - 1) := by simp [fitE]
    have HE := Lib.hid hE
    clear hE
    go_enter Tryz.func42, Tryz.ntmps42
    go_wp2_with fail
    go_ret
    rw [HE.out]
    exact ⟨rfl, hset.alloc _, hg.trans (World.grownBy_alloc _ _ _)⟩
  · have ez : (lv == 0) = false := by simpa using hz
    by_cases hneg : left - 1 < 0
    · have hE : fitE (op, n) l lv left = (false, left - 1) := by simp [fitE, hneg]
      have HE := Lib.hid hE
      have en : decide (left - 1 < 0) = true := by simpa using hneg
      clear hE
      go_enter Tryz.func42, Tryz.ntmps42
      go_wp2_with fail
      go_ret
      rw [HE.out]
      exact ⟨rfl, hset.alloc _, hg.trans (World.grownBy_alloc _ _ _)⟩
    · have en : decide (left - 1 < 0) = false := by simpa using hneg
      cases hfo : formedB op n (flen l) with
      | false =>
        have hE : fitE (op, n) l lv left = (false, left - 1) := by simp [fitE, hfo]
        have HE := Lib.hid hE
        have HF := Lib.hid hfo
        clear hE hfo
        go_enter Tryz.func42, Tryz.ntmps42
        go_wp2_with fail
        refine (formed_any _ _ _ _ _ _).mono ?_
        rintro e w1 ⟨rfl, rfl⟩
        rw [HF.out]
        go_wp2_with fail
        go_ret
        rw [HE.out]
        exact ⟨rfl, (hset.alloc _).alloc _, (hg.trans (World.grownBy_alloc _ _ _)).trans (World.grownBy_alloc _ _ _)⟩
      | true =>
        have hE : fitE (op, n) l lv left = fitsF l (lv - 1) (left - 1) := by simp [fitE, hfo, hz, hneg]
        have hfl := formed_len hfo
        have HE := Lib.hid hE
        have HF := Lib.hid hfo
        have HA := Lib.hid hA
        have HI := Lib.hid ih
        clear hE hfo hA ih
        go_enter Tryz.func42, Tryz.ntmps42
        go_wp2_with fail
        refine (formed_any _ _ _ _ _ _).mono ?_
        rintro e w1 ⟨rfl, rfl⟩
        rw [HF.out]
        go_wp2_with fail
        go_loopw [8, 30] (fun _ i wr => FitL l (lv - 1) (left - 1) w b i wr) (fun _ i _ => flen l - (intOf i).toNat)
        case atStart => exact ⟨0, left - 1, by omega, rfl, by omega, by omega, (hset.alloc _).alloc _, (hg.trans (World.grownBy_alloc _ _ _)).trans (World.grownBy_alloc _ _ _), by rw [dropF]⟩
        case round =>
          clear hc0 hfz hset hg
          obtain ⟨k, x, hk, rfl, hx0, hx1, hbx, hgr, hF⟩ := hrel
          have HFF := Lib.hid hF
          clear hF
          have hsz := hgr.size
          by_cases hkl : k < flen l
          · have hkeep : ∀ p : Addr, p.block < B → wr.cell? p = w.cell? p := fun p hp => cell_far hgr p (by omega) (by simp; omega)
            obtain ⟨ad, A', c', rfl, hlo, t0, t1, t2, t3⟩ := FoAt.get l A 0 k (FoAt.keep hkeep l A 0 HA.out) hkl
            rw [Nat.zero_add] at t0 t1 t2
            obtain ⟨bb, oo, hd⟩ := dropF_get l k hkl
            have hrec := HI.out k hkl
            obtain ⟨⟨op', n'⟩, l', hel⟩ : ∃ a' l', getF l k = (a', l') := ⟨_, _, rfl⟩
            rw [hel] at t0 t1 t2 t3 hd hrec
            dsimp only at t0 t1 t2 t3 hd hrec
            have hF2 := HFF.out
            rw [hd, fitsF_node] at hF2
            obtain ⟨rb, rx, hr⟩ : ∃ rb rx, fitE (op', n') l' (lv - 1) x = (rb, rx) := ⟨_, _, rfl⟩
            rw [hr] at hF2
            have hcall := fun (W : World) (h1 : FoV W B (.slice A' (flen l') c') l') (h2 : Boxed W b 3 (.int .i64 x)) => hrec (lv - 1) x W (.slice A' (flen l') c') B b h1 hB h2 (by omega) (by omega) hx0 hx1
            rw [hr] at hcall
            have HC := Lib.hid hcall
            have HT3 := Lib.hid t3
            have hb2 : (ad.add (k * 3)).block < wr.heap.size := by rw [add_block']; omega
            have HD := Lib.hid hd
            clear hcall t3 hd hrec hel HFF hkeep
            cases rb with
            | false =>
              have H2 := Lib.hid hF2
              have HR := Lib.hid hr
              clear hF2 hr
              go_wp2_with fail
              refine (HC.out _ ⟨A', c', rfl, FoAt.keep (fun p hp => by rw [cell_alloc_old _ _ _ (by omega)]) l' A' 0 HT3.out⟩ (hbx.alloc _)).mono ?_
              rintro e w9 ⟨rfl, hb9, hg9⟩
              go_wp2_with fail
              go_ret
              rw [HE.out, ← H2.out]
              exact ⟨rfl, hb9, (hgr.trans (World.grownBy_alloc _ _ _)).trans hg9⟩
            | true =>
              have H2 := Lib.hid hF2
              have hx2 : 0 ≤ rx ∧ rx ≤ x := by
                rw [fitE] at hr
                split at hr
                · simp at hr
                · have := fitsF_ok _ _ _ _ hr (by omega); omega
              clear hF2 hr
              go_wp2_with fail
              refine (HC.out _ ⟨A', c', rfl, FoAt.keep (fun p hp => by rw [cell_alloc_old _ _ _ (by omega)]) l' A' 0 HT3.out⟩ (hbx.alloc _)).mono ?_
              rintro e w9 ⟨rfl, hb9, hg9⟩
              go_wp2_with fail
              go_roundw
              case rel => exact ⟨k + 1, rx, by omega, by go_num, by omega, by omega, hb9, (hgr.trans (World.grownBy_alloc _ _ _)).trans hg9, H2.out⟩
              case measure => simp [intOf]; omega
          · have hke : dropF l k = .nil := dropF_len l k (by omega)
            have hF2 := HFF.out
            rw [hke, fitsF] at hF2
            have H2 := Lib.hid hF2
            clear hF2 HFF
            go_wp2_with fail
            go_ret
            rw [HE.out, ← H2.out]
            exact ⟨rfl, hbx, hgr⟩
theorem fits_all (f : Fo) : ∀ k, k < flen f → FitsC (getF f k).1 (getF f k).2 := by
  induction f with
  | nil => intro k h; simp [flen] at h
  | node b o a l r ihl ihr =>
    intro k h
    cases k with
    | zero => exact fits_one a l ihl
    | succ k => exact ihr k (by simp [flen] at h; omega)
theorem fits_any (a : Int × Int) (l : Fo) : FitsC a l := fits_one a l (fits_all l)
theorem validB_eq (op n : Int) (l : Fo) : validB op n l = (fitE (op, n) l 30 200).1 := by
  rw [validB, fitsF_node]
  cases fitE (op, n) l 30 200 with
  | mk b x => cases b <;> rfl
theorem below_grown {w w1 w' : World} {b : Nat} (h : Below w.heap.size w w1) (hg : w1.grownBy w' (some b)) (hb : w.heap.size ≤ b) : Below w.heap.size w w' :=
  h.grown hg h.size (fun g e => by injection e with e; omega)
theorem valid_any (op n : Int) (l : Fo) (v : Value) (w : World) (hv : FoV w w.heap.size v l) :
    Calls Tryz.prog 18 #[.agg #[.int .i64 op, .int .i64 n, v]] w fun e w' => e = .returned (.bool (validB op n l)) ∧ Below w.heap.size w w' := by
  rw [validB_eq]
  obtain ⟨A, c, rfl, hA⟩ := hv
  have HA := Lib.hid hA
  clear hA
  go_enter Tryz.func18, Tryz.ntmps18
  go_wp2_with fail
  have hbx : Boxed ((w.alloc (.cells #[.int .i64 op, .int .i64 n, .slice A (flen l) c] 24)).alloc (.cells #[.int .i64 200] 3)) (w.heap.size + 1) 3 (.int .i64 200) := by
    have := Boxed.new (w.alloc (.cells #[.int .i64 op, .int .i64 n, .slice A (flen l) c] 24)) 3 (.int .i64 200)
    simpa using this
  have hfo : FoAt ((w.alloc (.cells #[.int .i64 op, .int .i64 n, .slice A (flen l) c] 24)).alloc (.cells #[.int .i64 200] 3)) w.heap.size l A 0 :=
    FoAt.keep (fun p hp => by rw [cell_alloc_old _ _ _ (by simp; omega), cell_alloc_old _ _ _ hp]) l A 0 HA.out
  refine (fits_any (op, n) l 30 200 _ (.slice A (flen l) c) w.heap.size (w.heap.size + 1) ⟨A, c, rfl, hfo⟩ (by omega) hbx (by omega) (by omega) (by omega) (by omega)).mono ?_
  rintro e w1 ⟨rfl, _, hg⟩
  have hb1 : Below w.heap.size w w1 := below_grown (((p_bself w).alloc (Nat.le_refl _) _).alloc (by simp) _) hg (by omega)
  go_wp2_with fail
  go_ret
  exact ⟨rfl, hb1⟩
end Go.Proofs.YtomnjamldbficaaGreatDoor
namespace Go.Proofs.YtomnjamldbficaaGreatDoor
open Go.RowKit Lx Px
theorem node_any (op n : Int) (A : Option Addr) (k c : Nat) (w : World) : Calls Tryz.prog 79 #[.agg #[.int .i64 op, .int .i64 n, .slice A k c]] w fun e w' => e = .returned (.bool (formedB op n k)) ∧ w' = w.alloc (.cells #[.int .i64 op, .int .i64 n, .slice A k c] 24) := by
  go_enter Tryz.func79, Tryz.ntmps79
  go_wp2
  all_goals go_ret
  all_goals refine ⟨p_ret_bool ?_, by first | rfl | (subst_vars; rfl)⟩
  all_goals unfold formedB
  all_goals simp_all
  all_goals first | omega | (by_cases hn0 : n = 0 <;> simp [hn0] <;> omega)
def sizeE (a : Int × Int) (l : Fo) (lv most : Int) : Int := match fitE a l lv most with | (true, x) => x | (false, _) => -1
def SizeC (a : Int × Int) (l : Fo) : Prop :=
  ∀ (lv most : Int) (w : World) (v : Value) (B : Nat), FoV w B v l → B ≤ w.heap.size → 0 ≤ lv → lv ≤ 1000 → 0 ≤ most → most ≤ 1000 →
    Calls Tryz.prog 43 #[.agg #[.int .i64 a.1, .int .i64 a.2, v], .int .i64 lv, .int .i64 most] w fun e w' =>
      e = .returned (.int .i64 (sizeE a l lv most)) ∧ Below w.heap.size w w'
theorem bthen' {w w1 w2 : World} (h : Below w.heap.size w w1) (h2 : Below w1.heap.size w1 w2) : Below w.heap.size w w2 := h.trans (h2.mono h.size)
def SizL (l : Fo) (lv left : Int) (w : World) (kv y i : Value) (wr : World) : Prop :=
  ∃ (k : Nat) (x : Int), k ≤ flen l ∧ i = .int .i64 k ∧ y = .int .i64 x ∧ 0 ≤ x ∧ x ≤ 1000 ∧ Below w.heap.size w wr ∧ w.heap.size < wr.heap.size ∧ wr.cell? ⟨w.heap.size, 2, none⟩ = some kv ∧ fitsF (dropF l k) lv x = fitsF l lv left
theorem p_size_one (a : Int × Int) (l : Fo) (ih : ∀ k, k < flen l → SizeC (getF l k).1 (getF l k).2) : SizeC a l := by
  intro lv most w v B hv hB h0 h1 h2 h3
  obtain ⟨A, c, rfl, hA⟩ := hv
  obtain ⟨op, n⟩ := a
  cases hfo : formedB op n (flen l) with
  | false =>
    have hE : sizeE (op, n) l lv most = -1 := by simp [sizeE, fitE, hfo]
    have HE := Lib.hid hE
    have HF := Lib.hid hfo
    clear hE hfo
    go_enter Tryz.func43, Tryz.ntmps43
    go_wp2_with fail
    refine (node_any _ _ _ _ _ _).mono ?_
    rintro e w1 ⟨rfl, rfl⟩
    rw [HF.out]
    go_wp2_with fail
    go_ret
    rw [HE.out]
    exact ⟨rfl, ((p_bself w).alloc (Nat.le_refl _) _).alloc (by simp) _⟩
  | true =>
    have hfl := formed_len hfo
    by_cases hz : lv < 1
    · have hE : sizeE (op, n) l lv most = -1 := by simp [sizeE, fitE, show lv = 0 from by omega]
      have HE := Lib.hid hE
      have HF := Lib.hid hfo
      have d1 : decide (lv < 1) = true := by simpa using hz
      clear hE hfo
      go_enter Tryz.func43, Tryz.ntmps43
      go_wp2_with fail
      refine (node_any _ _ _ _ _ _).mono ?_
      rintro e w1 ⟨rfl, rfl⟩
      rw [HF.out]
      go_wp2_with fail
      go_ret
      rw [HE.out]
      exact ⟨rfl, ((p_bself w).alloc (Nat.le_refl _) _).alloc (by simp) _⟩
    · have d1 : decide (lv < 1) = false := by simpa using hz
      by_cases hm : most < 1
      · have hE : sizeE (op, n) l lv most = -1 := by simp [sizeE, fitE, show most - 1 < 0 from by omega]
        have HE := Lib.hid hE
        have HF := Lib.hid hfo
        have d2 : decide (most < 1) = true := by simpa using hm
        clear hE hfo
        go_enter Tryz.func43, Tryz.ntmps43
        go_wp2_with fail
        refine (node_any _ _ _ _ _ _).mono ?_
        rintro e w1 ⟨rfl, rfl⟩
        rw [HF.out]
        go_wp2_with fail
        go_ret
        rw [HE.out]
        exact ⟨rfl, ((p_bself w).alloc (Nat.le_refl _) _).alloc (by simp) _⟩
      · have d2 : decide (most < 1) = false := by simpa using hm
        have hE : fitE (op, n) l lv most = fitsF l (lv - 1) (most - 1) := by simp [fitE, hfo, show ¬ lv = 0 from by omega, show ¬ most - 1 < 0 from by omega]
        have HE := Lib.hid hE
        have HF := Lib.hid hfo
        have HA := Lib.hid hA
        have HI := Lib.hid ih
        clear hE hfo hA ih
        go_enter Tryz.func43, Tryz.ntmps43
        go_wp2_with fail
        refine (node_any _ _ _ _ _ _).mono ?_
        rintro e w1 ⟨rfl, rfl⟩
        rw [HF.out]
        go_wp2_with fail
        go_loopw [8, 9] (fun y i wr => SizL l (lv - 1) (most - 1) w (.slice A (flen l) c) y i wr) (fun _ i _ => flen l - (intOf i).toNat)
        case atStart => exact ⟨0, most - 1, by omega, rfl, rfl, by omega, by omega, ((p_bself w).alloc (Nat.le_refl _) _).alloc (by simp) _, by simp; omega, by rw [cell_alloc_old _ _ _ (by simp)]; simp, by rw [dropF]⟩
        case round =>
          obtain ⟨k, x, hk, rfl, rfl, hx0, hx1, hbl, hsz, hkv, hF⟩ := hrel
          have HFF := Lib.hid hF
          clear hF
          by_cases hkl : k < flen l
          · have hkeep : ∀ p : Addr, p.block < B → wr.cell? p = w.cell? p := fun p hp => hbl.cell (by omega)
            obtain ⟨ad, A', c', rfl, hlo, t0, t1, t2, t3⟩ := FoAt.get l A 0 k (FoAt.keep hkeep l A 0 HA.out) hkl
            rw [Nat.zero_add] at t0 t1 t2
            obtain ⟨bb, oo, hd⟩ := dropF_get l k hkl
            have hrec := HI.out k hkl
            obtain ⟨⟨op', n'⟩, l', hel⟩ : ∃ a' l', getF l k = (a', l') := ⟨_, _, rfl⟩
            rw [hel] at t0 t1 t2 t3 hd hrec
            dsimp only at t0 t1 t2 t3 hd hrec
            have hF2 := HFF.out
            rw [hd, fitsF_node] at hF2
            obtain ⟨rb, rx, hr⟩ : ∃ rb rx, fitE (op', n') l' (lv - 1) x = (rb, rx) := ⟨_, _, rfl⟩
            rw [hr] at hF2
            have hcall := hrec (lv - 1) x wr (.slice A' (flen l') c') B ⟨A', c', rfl, t3⟩ (by omega) (by omega) (by omega) hx0 hx1
            rw [sizeE, hr] at hcall
            clear hd hrec hel HFF hkeep t3
            cases rb with
            | false =>
              have HC := Lib.hid hcall
              have H2 := Lib.hid hF2
              clear hF2 hr hcall
              go_wp2_with fail
              refine HC.out.mono ?_
              rintro e w9 ⟨rfl, hb9⟩
              go_wp2_with fail
              go_ret
              rw [sizeE, HE.out, ← H2.out]
              exact ⟨rfl, bthen' hbl hb9⟩
            | true =>
              have HC := Lib.hid hcall
              have H2 := Lib.hid hF2
              have hx2 : 0 ≤ rx ∧ rx ≤ x := by
                rw [fitE] at hr
                split at hr
                · simp at hr
                · have := fitsF_ok _ _ _ _ hr (by omega); omega
              clear hF2 hr hcall
              go_wp2_with fail
              refine HC.out.mono ?_
              rintro e w9 ⟨rfl, hb9⟩
              have d9 : decide (rx < 0) = false := by simp; omega
              go_wp2_with fail
              go_roundw
              case rel => exact ⟨k + 1, rx, by omega, by go_num, rfl, by omega, by omega, bthen' hbl hb9, by have := hb9.size; omega, (hb9.cell hsz).trans hkv, H2.out⟩
              case measure => simp [intOf]; omega
          · have hke : dropF l k = .nil := dropF_len l k (by omega)
            have hF2 := HFF.out
            rw [hke, fitsF] at hF2
            have H2 := Lib.hid hF2
            clear hF2 HFF
            go_wp2_with fail
            go_ret
            rw [sizeE, HE.out, ← H2.out]
            exact ⟨rfl, hbl⟩
theorem size_all (f : Fo) : ∀ k, k < flen f → SizeC (getF f k).1 (getF f k).2 := by
  induction f with
  | nil => intro k h; simp [flen] at h
  | node b o a l r ihl ihr =>
    intro k h
    cases k with
    | zero => exact p_size_one a l ihl
    | succ k => exact ihr k (by simp [flen] at h; omega)
theorem size_any (a : Int × Int) (l : Fo) : SizeC a l := p_size_one a l (size_all l)
theorem sizeE_ge (op n : Int) (l : Fo) : decide (0 ≤ sizeE (op, n) l 30 200) = validB op n l := by
  rw [validB_eq, sizeE]
  cases h : fitE (op, n) l 30 200 with
  | mk b x =>
    cases b with
    | false => rfl
    | true =>
      rw [fitE] at h
      split at h
      · simp at h
      · have := fitsF_ok _ _ _ _ h (by omega)
        simp; omega
theorem rvalid_any (op n : Int) (l : Fo) (v : Value) (w : World) (hv : FoV w w.heap.size v l) :
    Calls Tryz.prog 19 #[.agg #[.int .i64 op, .int .i64 n, v]] w fun e w' => e = .returned (.bool (validB op n l)) ∧ Below w.heap.size w w' := by
  have hge := sizeE_ge op n l
  obtain ⟨z, hz⟩ : ∃ z, sizeE (op, n) l 30 200 = z := ⟨_, rfl⟩
  rw [hz] at hge
  have HZ := Lib.hid hz
  rw [← hge]
  clear hge hz
  obtain ⟨A, c, rfl, hA⟩ := hv
  have HA := Lib.hid hA
  clear hA
  go_enter Tryz.func19, Tryz.ntmps19
  go_wp2_with fail
  refine (size_any (op, n) l 30 200 _ (.slice A (flen l) c) w.heap.size ⟨A, c, rfl, FoAt.keep (fun p hp => by first | rfl | exact cell_alloc_old _ _ _ hp) l A 0 HA.out⟩ (by simp) (by omega) (by omega) (by omega) (by omega)).mono ?_
  rintro e w1 ⟨rfl, hb⟩
  rw [HZ.out]
  go_wp2_with fail
  go_ret
  exact ⟨rfl, bthen' ((p_bself w).alloc (Nat.le_refl _) _) hb⟩
end Go.Proofs.YtomnjamldbficaaGreatDoor
