/-
  Walks: put of package printer, at a leaf.
-/
import Derived.Test.YtomnjamldbficaaGreatDoorPrtW6
import Derived.Test.YtomnjamldbficaaGreatDoorPrtMoney
namespace Go.Proofs.YtomnjamldbficaaGreatDoor
open Go.RowKit Lx Px
/-- the state of put behind its first statement, at a leaf -/
def PutG0 (b : Nat) (acc : Bytes) (w : World) (op n : Int) (kv : Value) (wx : World) : Prop :=
  wx.heap[w.heap.size]? = some (.cells #[.int .i64 op, .int .i64 n, kv] 24 (0, 0)) ∧ Wd b acc wx ∧ Below w.heap.size w wx
def PutF0 (b : Nat) (txt : Bytes) (w : World) (op n : Int) (kv : Value) (s7 : Value) (wx : World) : Prop := s7 = .bool false ∧ PutG0 b txt w op n kv wx
theorem putF0_new {b : Nat} {txt : Bytes} {w W1 w' : World} {op n : Int} {kv : Value} (hW : Wd b txt w) (hx : W1.heap[w.heap.size]? = some (.cells #[.int .i64 op, .int .i64 n, kv] 24 (0, 0)))
    (h1 : Below w.heap.size w W1) (h2 : Below W1.heap.size W1 w') (o : Obj) : PutF0 b txt w op n kv (.bool false) (w'.alloc o) := by
  have hb := bthen' h1 h2
  have hb2 := hb.alloc hb.size o
  exact ⟨rfl, heap_on ((h2.block _ (Array.getElem?_eq_some_iff.1 hx).1).trans hx) _, wd_below hW hb2, hb2⟩
theorem putF0_set {b : Nat} {txt : Bytes} {w W1 w' : World} {op n : Int} {kv : Value} {o : Obj} (hW : Wd b txt w) (hx : W1.heap[w.heap.size]? = some (.cells #[.int .i64 op, .int .i64 n, kv] 24 (0, 0)))
    (h1 : Below w.heap.size w W1) (h2 : Below (W1.alloc o).heap.size (W1.alloc o) w') (x0 x1 x2 x3 x4 : Value) :
    PutF0 b txt w op n kv (.bool false) (((((w'.setCell ⟨W1.heap.size, 0, none⟩ x0).setCell ⟨W1.heap.size, 1, none⟩ x1).setCell ⟨W1.heap.size, 2, none⟩ x2).setCell ⟨W1.heap.size, 3, none⟩ x3).setCell ⟨W1.heap.size, 4, none⟩ x4) := by
  have hlt := (Array.getElem?_eq_some_iff.1 hx).1
  have hb : Below w.heap.size w w' := bthen' (h1.alloc (by have := h1.size; omega) _) h2
  have hb2 : Below w.heap.size w (((((w'.setCell ⟨W1.heap.size, 0, none⟩ x0).setCell ⟨W1.heap.size, 1, none⟩ x1).setCell ⟨W1.heap.size, 2, none⟩ x2).setCell ⟨W1.heap.size, 3, none⟩ x3).setCell ⟨W1.heap.size, 4, none⟩ x4) :=
    ((((hb.setCell (p := ⟨W1.heap.size, 0, none⟩) h1.size _).setCell (p := ⟨W1.heap.size, 1, none⟩) h1.size _).setCell (p := ⟨W1.heap.size, 2, none⟩) h1.size _).setCell (p := ⟨W1.heap.size, 3, none⟩) h1.size _).setCell (p := ⟨W1.heap.size, 4, none⟩) h1.size _
  refine ⟨rfl, ?_, wd_below hW hb2, hb2⟩
  have hne : w.heap.size ≠ W1.heap.size := by omega
  rw [heap_set_other hne, heap_set_other hne, heap_set_other hne, heap_set_other hne, heap_set_other hne]
  exact (h2.block _ (by simp; omega)).trans (heap_on hx _)
theorem PutG0.on {b : Nat} {txt : Bytes} {w wx wy : World} {op n : Int} {kv : Value} (h : PutG0 b txt w op n kv wx) (hb : Below wx.heap.size wx wy) : PutG0 b txt w op n kv wy :=
  ⟨(hb.block _ (Array.getElem?_eq_some_iff.1 h.1).1).trans h.1, wd_below h.2.1 hb, bthen' h.2.2 hb⟩
theorem PutG0.cell1 {b : Nat} {txt : Bytes} {w wx : World} {op n : Int} {kv : Value} (h : PutG0 b txt w op n kv wx) : wx.cell? ⟨w.heap.size, 1, none⟩ = some (.int .i64 n) := by rw [Lib.cell_of_heap h.1]; rfl
theorem PutG0.cell1' {b : Nat} {txt : Bytes} {w wx wy : World} {op n : Int} {kv : Value} (h : PutG0 b txt w op n kv wx) (hk : Okp b wx wy) : wy.cell? ⟨w.heap.size, 1, none⟩ = some (.int .i64 n) := by
  rw [Lib.cell_of_heap (okp_cells h.2.1 hk h.1 (by decide) (by decide))]; rfl
theorem putPost_of {b : Nat} {txt out : Bytes} {w wx wy : World} {op n : Int} {kv : Value} (h : PutG0 b txt w op n kv wx) (hb : b < w.heap.size) (hW : Wd b out wy) (hb2 : Below b wx wy) (hk : Okp b wx wy) : PutPost b out w (.returned (.tuple #[])) wy :=
  ⟨rfl, hW, (h.2.2.mono (Nat.le_of_lt hb)).trans hb2, Lib.OthersKept.trans (okp_below h.2.2) hk⟩
set_option maxRecDepth 100000 in
set_option maxHeartbeats 2000000 in
theorem put_leaf (a : Int × Int) (l : Fo) (ho : a.1 ≤ 3) : PutC a l := by
  intro least w v B b txt hform hokl hv hB htab hwd hl0 hl7 hlen
  obtain ⟨A, c, rfl, hA⟩ := hv
  obtain ⟨op, n⟩ := a
  dsimp only at ho hform hlen ⊢
  have ho1 := formed_ge hform
  have hbl := wd_lt hwd
  have hrk : rankOf op = 7 := by unfold rankOf; repeat' split
                                 all_goals omega
  have hd : decide (rankOf op < least) = false := by rw [hrk]; simp; omega
  rw [hd] at hlen ⊢
  simp only [brk, Bool.false_eq_true, if_false, textE, body] at hlen ⊢
  have HW := Lib.hid hwd
  have HT := Lib.hid htab
  have HF := Lib.hid hform
  clear hwd hA htab hform hokl hrk hd
  go_enter_defers Tryz.func58, Tryz.ntmps58
  go_upto_region 1 with fail
  go_cut [6, 7] from 12 (fun _ s7 wx => PutF0 b txt w op n (.slice A (flen l) c) s7 wx)
  case first =>
    have x0 : (w.alloc (.cells #[.int .i64 op, .int .i64 n, .slice A (flen l) c] 24)).heap[w.heap.size]? = some (.cells #[.int .i64 op, .int .i64 n, .slice A (flen l) c] 24 (0, 0)) := World.alloc_heap_new w _
    have x1 : Below w.heap.size w (w.alloc (.cells #[.int .i64 op, .int .i64 n, .slice A (flen l) c] 24)) := (Below.refl _ _).alloc (Nat.le_refl _) _
    have x2 : w.heap.size < (w.alloc (.cells #[.int .i64 op, .int .i64 n, .slice A (flen l) c] 24)).heap.size := by simp
    generalize w.alloc (.cells #[.int .i64 op, .int .i64 n, .slice A (flen l) c] 24) = W1 at *
    have x3 : W1.cell? ⟨w.heap.size, 0, none⟩ = some (.int .i64 op) := by rw [Lib.cell_of_heap x0]; rfl
    have x4 := World.new_ne W1 ⟨w.heap.size, 0, none⟩ x3
    have X0 := Lib.hid x0
    clear x0
    go_region_held3 (fun w' => w'.cell? ⟨w.heap.size, 0, none⟩ = some (.int .i64 op)) (first | with_reducible assumption | go_keep)
      (first | (go_at_call 90; refine (forms_none op _ ho1 ho).mono ?_; rintro e w' ⟨r, rfl, hlk, hrl, hb⟩; have s0 : w'.cell? ⟨w.heap.size, 0, none⟩ = some (.int .i64 op) := (hb.cell (p := ⟨w.heap.size, 0, none⟩) (by simp; omega)).trans (by assumption); have s1 := World.new_ne w' ⟨w.heap.size, 0, none⟩ s0; have hl0 := hlk w' rfl; have hl1 := fun o => hlk (w'.alloc o) (by rw [Lib.alloc_old _ _ _ hrl]); have HLK := Lib.hid hlk; clear hlk; have hsz := hb.size; (first | (have hq := zform hb; obtain ⟨k0, k1, k2, k3, k4, j0, j1, j2, j3, j4⟩ := hq) | skip); have HB := Lib.hid hb; clear hb))
    all_goals (go_wp2_with fail)
    all_goals go_meet
    · exact putF0_new HW.out X0.out x1 (((Below.refl _ _).drew).trans HB.out) _
    · exact putF0_new HW.out X0.out x1 (((Below.refl _ _).drew).trans HB.out) _
    · exact putF0_set HW.out X0.out x1 (((Below.refl _ _).drew).trans HB.out) _ _ _ _ _
  case rest =>
    obtain ⟨rfl, hG⟩ := hcut
    have e0 : wc.cell? ⟨w.heap.size, 0, none⟩ = some (.int .i64 op) := by rw [Lib.cell_of_heap hG.1]; rfl
    have e1 : wc.cell? ⟨w.heap.size, 1, none⟩ = some (.int .i64 n) := by rw [Lib.cell_of_heap hG.1]; rfl
    have HG := Lib.hid hG
    clear hG
    rcases (show op = 1 ∨ op = 2 ∨ op = 3 by omega) with rfl | rfl | rfl
    · have hn : 0 ≤ n ∧ n ≤ 999999999 := by have := HF.out; simp [formedB] at this; omega
      simp only [if_true] at hlen
      go_wp2_with fail
      clear e0
      go_region_held3 (fun w' => w'.cell? ⟨w.heap.size, 1, none⟩ = some (.int .i64 n)) (first | with_reducible assumption | go_keep)
        (first
          | (go_at_call 68; refine (itoa_any n B _ hn.1 (by omega) (HT.out.on (HG.out.2.2.drew.mono (by omega)))).mono ?_; rintro e w2 ⟨rfl, hb2⟩; have hG2 := PutG0.on HG.out (((Below.refl _ _).drew).trans hb2); have s2 := hG2.cell1; have HG2 := Lib.hid hG2; clear hb2 hG2)
          | (go_at_call 63; refine (ws_any b txt (mk (dec n)) _ HG2.out.2.1 (by rw [size_mk]; simpa [List.length_append] using hlen)).mono ?_; rintro e w3 ⟨rfl, y1, y2, y3⟩; rw [bl_mk] at y1; have hP := putPost_of HG2.out hbl y1 y2 y3; have s3 := PutG0.cell1' HG2.out y3; have HP := Lib.hid hP; clear y1 y2 y3 hP))
      go_wp2_with fail
      exact ⟨_, results_none rfl _ _ _, HP.out⟩
    · have hn : 0 ≤ n ∧ n ≤ 1000000000 := by have := HF.out; simp [formedB] at this; omega
      have hlen2 : txt.length + (moneyOf n).length ≤ 140737488355328 := by simpa [List.length_append] using hlen
      clear hlen
      go_wp2_with fail
      refine (moneyText_any n B _ hn.1 hn.2 (HT.out.on (HG.out.2.2.mono (by omega)))).mono ?_
      rintro e w2 ⟨rfl, hb2⟩
      have hG2 := PutG0.on HG.out hb2
      have HG2 := Lib.hid hG2
      clear hb2 hG2 HG
      go_wp2_with fail
      refine (ws_any b txt (mk (moneyOf n)) _ HG2.out.2.1 (by rw [size_mk]; exact hlen2)).mono ?_
      rintro e w3 ⟨rfl, y1, y2, y3⟩
      rw [bl_mk] at y1
      have hP := putPost_of HG2.out hbl y1 y2 y3
      have HP := Lib.hid hP
      clear y1 y2 y3 hP
      go_wp2_with fail
      exact ⟨_, results_none rfl _ _ _, HP.out⟩
    · have hn : 1 ≤ n ∧ n ≤ 4 := by have := HF.out; simp [formedB] at this; omega
      have hlen2 : txt.length + (nameOf n).length ≤ 140737488355328 := by simpa [List.length_append] using hlen
      clear hlen
      obtain ⟨k, rfl⟩ := Int.eq_ofNat_of_zero_le (show 0 ≤ n by omega)
      have hT2 := HT.out.on (HG.out.2.2.mono (by omega))
      have hnm := hT2.2.2.2 k (by omega) (by omega)
      have b1 : (0 : Int) ≤ (k : Int) := by omega
      have b2 : (k : Int) < 5 := by omega
      have b3 : k < 5 := by omega
      clear hT2
      go_wp2_with fail
      go_still_tail 7, (by kernel_rfl)
      change wpList _ _ _ _ _ wc.drew
      have hG1 : PutG0 b txt w 3 k (.slice A (flen l) c) wc.drew := ⟨HG.out.1, HG.out.2.1, HG.out.2.2.drew⟩
      clear e0 e1 HG hnm
      generalize wc.drew = w1 at *
      have HG1 := Lib.hid hG1
      clear hG1
      go_wp2_with fail
      refine (ws_any b txt (mk (nameOf k)) _ HG1.out.2.1 (by rw [size_mk]; exact hlen2)).mono ?_
      rintro e w3 ⟨rfl, y1, y2, y3⟩
      rw [bl_mk] at y1
      have hP := putPost_of HG1.out hbl y1 y2 y3
      have HP := Lib.hid hP
      clear y1 y2 y3 hP
      go_wp2_with fail
      exact ⟨_, results_none rfl _ _ _, HP.out⟩
theorem put_all (f : Fo) : ∀ k, k < flen f → PutC (getF f k).1 (getF f k).2 := by
  induction f with
  | nil => intro k h; simp [flen] at h
  | node b o a l r ihl ihr =>
    intro k h
    cases k with
    | zero =>
      by_cases ho : a.1 ≤ 3
      · exact put_leaf a l ho
      · exact put_node a l (by omega) ihl
    | succ k => exact ihr k (by simp [flen] at h; omega)
theorem put_any (a : Int × Int) (l : Fo) : PutC a l := by
  by_cases ho : a.1 ≤ 3
  · exact put_leaf a l ho
  · exact put_node a l (by omega) (put_all l)
end Go.Proofs.YtomnjamldbficaaGreatDoor
