/-
  Several texts in one: PrtPlain3, PrtW8.
-/
import Derived.Test.YtomnjamldbficaaGreatDoorPrtW5
import Derived.Test.YtomnjamldbficaaGreatDoorPrtPlain2
import Derived.Test.YtomnjamldbficaaGreatDoorPrtW3
import Derived.Test.YtomnjamldbficaaGreatDoorPrtW7
namespace Go.Proofs.YtomnjamldbficaaGreatDoor
namespace Px
open Lx
def nodesF : Fo → Nat
  | .nil => 0
  | .node _ _ _ l r => nodesF l + nodesF r + 1
theorem fits_nodes : ∀ (f : Fo) (lv left x : Int), fitsF f lv left = (true, x) → (nodesF f : Int) = left - x := by
  intro f
  induction f with
  | nil => intro lv left x h; simp [fitsF] at h; simp [nodesF]; omega
  | node b o a l r ihl ihr =>
    intro lv left x h
    rw [fitsF] at h
    split at h
    · simp at h
    · split at h
      · simp at h
      · rename_i y e
        have h1 := ihl _ _ _ e
        have h2 := ihr _ _ _ h
        simp only [nodesF]
        omega
theorem nodes_get : ∀ (f : Fo) (k : Nat), k < flen f → nodesF (getF f k).2 + 1 ≤ nodesF f := by
  intro f
  induction f with
  | nil => intro k h; simp [flen] at h
  | node b o a l r _ ihr =>
    intro k h
    cases k with
    | zero => simp [getF, nodesF]
    | succ k => have := ihr k (by simp [flen] at h; omega); simp only [getF, nodesF]; omega
theorem begin_len (op : Int) : (beginOf op).length + (endOf op).length ≤ 5 := by
  unfold beginOf endOf
  repeat' split
  all_goals simp
theorem sep_len (op : Int) (i : Nat) : (sepOf op i).length ≤ 6 := by
  unfold sepOf
  repeat' split
  all_goals simp
theorem name_len (n : Int) : (nameOf n).length ≤ 7 := by
  unfold nameOf
  repeat' split
  all_goals simp
theorem brk_len (b : Bool) (t : Bytes) : (brk b t).length ≤ t.length + 2 := by
  unfold brk; split <;> simp
theorem body_len {op n : Int} {k : Nat} (h : formedB op n k = true) (t : Bytes) : (body op n t).length ≤ t.length + 16 := by
  unfold body
  split
  · next e => subst e; simp [formedB] at h; have := dec_len n (by omega) (by omega); omega
  · split
    · next e => subst e; simp [formedB] at h; have := dec_len (n / 100) (by omega) (by omega); simp [moneyOf]; omega
    · split
      · have := name_len n; omega
      · have := begin_len op; simp; omega
theorem text_len : ∀ (f : Fo) (par : Int) (i : Nat), okF f = true → (textF f par i).length ≤ 24 * nodesF f := by
  intro f
  induction f with
  | nil => intro par i _; simp [textF, nodesF]
  | node b o a l r ihl ihr =>
    intro par i h
    simp only [okF, Bool.and_eq_true] at h
    have h1 := ihl a.1 0 h.1.2
    have h2 := ihr par (i + 1) h.2
    have h3 := body_len h.1.1 (textF l a.1 0)
    have h4 := brk_len (decide (rankOf a.1 < leastOf par i)) (body a.1 a.2 (textF l a.1 0))
    have h5 : (if 0 < i then sepOf par i else []).length ≤ 6 := by split <;> first | exact sep_len _ _ | simp
    simp only [textF, List.length_append, nodesF]
    omega
theorem textE_len (op n : Int) (l : Fo) (h : formedB op n (flen l) = true) (hl : okF l = true) : (textE op n l).length ≤ 24 * (nodesF l + 1) := by
  have h1 := text_len l op 0 hl
  have h2 := body_len h (textF l op 0)
  unfold textE
  omega
theorem valid_parts {op n : Int} {l : Fo} (h : validB op n l = true) : formedB op n (flen l) = true ∧ okF l = true ∧ nodesF l ≤ 199 := by
  unfold validB at h
  obtain ⟨x, hx⟩ : ∃ x, fitsF (.node 0 0 (op, n) l .nil) 30 200 = (true, x) := by
    cases hf : fitsF (.node 0 0 (op, n) l .nil) 30 200 with
    | mk b x => rw [hf] at h; exact ⟨x, by rw [show b = true from h]⟩
  have h1 := okF_of _ _ _ _ hx
  have h2 := fits_nodes _ _ _ _ hx
  have h3 : 0 ≤ x := by
    rw [fitsF] at hx
    split at hx
    · simp at hx
    · rename_i hn
      split at hx
      · simp at hx
      · rename_i y e
        have := fitsF_ok l _ _ _ e (by omega)
        simp [fitsF] at hx
        omega
  simp only [okF, Bool.and_eq_true, and_true, nodesF] at h1 h2
  exact ⟨h1.1, h1.2, by omega⟩
/-- the texts of the parts of an expression, in brackets where these are needed -/
def kidT : Fo → Int → Nat → List Bytes
  | .nil, _, _ => []
  | .node _ _ a l r, par, i => brk (decide (rankOf a.1 < leastOf par i)) (textE a.1 a.2 l) :: kidT r par (i + 1)
theorem kidT_len : ∀ (f : Fo) (par : Int) (i : Nat), (kidT f par i).length = flen f := by
  intro f
  induction f with
  | nil => intro par i; rfl
  | node b o a l r _ ihr => intro par i; simp [kidT, flen, ihr]
theorem kid_one (l : Fo) (op : Int) (h : flen l = 1) : ∃ t, kidT l op 0 = [t] ∧ textF l op 0 = t := by
  match l, h with
  | .node _ _ a l' .nil, _ => exact ⟨_, rfl, by simp [textF, textE]⟩
  | .node _ _ a l' (.node _ _ _ _ _), h => simp [flen] at h
theorem kid_two (l : Fo) (op : Int) (h : flen l = 2) : ∃ t u, kidT l op 0 = [t, u] ∧ textF l op 0 = t ++ sepOf op 1 ++ u := by
  match l, h with
  | .node _ _ a l1 .nil, h => simp [flen] at h
  | .node _ _ a l1 (.node _ _ b l2 .nil), _ => exact ⟨_, _, rfl, by simp [textF, textE]⟩
  | .node _ _ a l1 (.node _ _ b l2 (.node _ _ _ _ _)), h => simp [flen] at h
theorem kid_three (l : Fo) (op : Int) (h : flen l = 3) : ∃ t u v, kidT l op 0 = [t, u, v] ∧ textF l op 0 = t ++ sepOf op 1 ++ u ++ sepOf op 2 ++ v := by
  match l, h with
  | .node _ _ a l1 .nil, h => simp [flen] at h
  | .node _ _ a l1 (.node _ _ b l2 .nil), h => simp [flen] at h
  | .node _ _ a l1 (.node _ _ b l2 (.node _ _ c l3 .nil)), _ => exact ⟨_, _, _, rfl, by simp [textF, textE]⟩
  | .node _ _ a l1 (.node _ _ b l2 (.node _ _ c l3 (.node _ _ _ _ _))), h => simp [flen] at h
end Px
end Go.Proofs.YtomnjamldbficaaGreatDoor
namespace Go.Proofs.YtomnjamldbficaaGreatDoor
open Go.RowKit Lx Px
namespace Px
/-- what Expr of the printer returns: a text and an error's number -/
def exprR (op n : Int) (l : Fo) : Bytes × Int := if validB op n l then (textE op n l, 0) else ([], 1)
end Px
theorem FoAt.up {w : World} {B B' : Nat} (h : B ≤ B') : ∀ (f : Fo) (A : Option Addr) (k : Nat), FoAt w B f A k → FoAt w B' f A k := by
  intro f
  induction f with
  | nil => intro A k _; trivial
  | node b o a l r ihl ihr =>
    intro A k hh
    obtain ⟨⟨ad, A', c, e, hlt, h0, h1, h2, h3⟩, h4⟩ := hh
    exact ⟨⟨ad, A', c, e, by omega, h0, h1, h2, ihl A' 0 h3⟩, ihr A (k + 1) h4⟩
theorem FoV.on {w w' : World} {B : Nat} {v : Value} {l : Fo} (h : FoV w B v l) (hb : Below B w w') : FoV w' B v l := by
  obtain ⟨A, c, e, hA⟩ := h
  exact ⟨A, c, e, FoAt.keep (fun p hp => hb.cell hp) l A 0 hA⟩
theorem FoV.up {w : World} {B B' : Nat} {v : Value} {l : Fo} (h : FoV w B v l) (hB : B ≤ B') : FoV w B' v l := by
  obtain ⟨A, c, e, hA⟩ := h
  exact ⟨A, c, e, FoAt.up hB l A 0 hA⟩
def ExprPost (op n : Int) (l : Fo) (w : World) (e : Ending) (w' : World) : Prop := e = .returned (.tuple #[.string (mk (exprR op n l).1), .int .i64 (exprR op n l).2]) ∧ Below w.heap.size w w'
theorem pexpr_any (op n : Int) (l : Fo) (v : Value) (w : World) (B : Nat) (hv : FoV w B v l) (ht : Tabs B w) :
    Calls Tryz.prog 31 #[.agg #[.int .i64 op, .int .i64 n, v]] w (ExprPost op n l w) := by
  have hv' := hv
  obtain ⟨A, c, rfl, hA⟩ := hv'
  have hBw := ht.2.2.1
  have HA := Lib.hid hv
  have HT := Lib.hid ht
  clear hA ht hv
  have hb0 := (Below.refl w.heap.size w).alloc (Nat.le_refl _) (.cells #[.int .i64 op, .int .i64 n, .slice A (flen l) c] 24)
  have hx0 := World.alloc_heap_new w (.cells #[.int .i64 op, .int .i64 n, .slice A (flen l) c] 24)
  have HB0 := Lib.hid hb0
  have HX0 := Lib.hid hx0
  clear hb0 hx0
  cases hval : validB op n l with
  | false =>
    have hr : exprR op n l = ([], 1) := by simp [exprR, hval]
    have HR := Lib.hid hr
    have HV := Lib.hid hval
    clear hr hval
    go_enter Tryz.func31, Tryz.ntmps31
    go_wp2_with fail
    refine (valid_any op n l (.slice A (flen l) c) _ ((HA.out.on (HB0.out.mono hBw)).up (by simp; omega))).mono ?_
    rintro e w1 ⟨rfl, hb1⟩
    rw [HV.out]
    have HB1 := Lib.hid hb1
    clear hb1
    go_wp2_with fail
    go_ret2
    refine ⟨?_, bthen' HB0.out HB1.out⟩
    rw [HR.out]
    rfl
  | true =>
    have hr : exprR op n l = (textE op n l, 0) := by simp [exprR, hval]
    obtain ⟨hf, hok, hnd⟩ := valid_parts hval
    have hln := textE_len op n l hf hok
    have HR := Lib.hid hr
    have HV := Lib.hid hval
    have HF := Lib.hid hf
    have HO := Lib.hid hok
    clear hr hval hf hok
    go_enter Tryz.func31, Tryz.ntmps31
    go_wp2_with fail
    refine (valid_any op n l (.slice A (flen l) c) _ ((HA.out.on (HB0.out.mono hBw)).up (by simp; omega))).mono ?_
    rintro e w1 ⟨rfl, hb1⟩
    rw [HV.out]
    have hx1 := (hb1.block _ (Array.getElem?_eq_some_iff.1 HX0.out).1).trans HX0.out
    have hbb := bthen' HB0.out hb1
    have e0 : w1.cell? ⟨w.heap.size, 0, none⟩ = some (.int .i64 op) := by rw [Lib.cell_of_heap hx1]; rfl
    have e1 : w1.cell? ⟨w.heap.size, 1, none⟩ = some (.int .i64 n) := by rw [Lib.cell_of_heap hx1]; rfl
    have e2 : w1.cell? ⟨w.heap.size, 2, none⟩ = some (.slice A (flen l) c) := by rw [Lib.cell_of_heap hx1]; rfl
    have hlt := (Array.getElem?_eq_some_iff.1 hx1).1
    have HB1 := Lib.hid hbb
    clear hb1 hx1 hbb
    go_wp2_with fail
    have hW1 := wd_new w1
    have hb2 : Below w.heap.size w (w1.alloc (.cells #[.pointer none, .slice none 0 0] 97)) := HB1.out.alloc HB1.out.size _
    have hsz1 := HB1.out.size
    refine (put_any (op, n) l 0 _ (.slice A (flen l) c) B w1.heap.size [] HF.out HO.out (HA.out.on (hb2.mono hBw)) (by omega) (HT.out.on (hb2.mono hBw)) hW1 (by omega) (by omega) (by have := brk_len (decide (rankOf op < 0)) (textE op n l); simp only [List.nil_append]; omega)).mono ?_
    rintro e w3 ⟨rfl, y1, y2, _⟩
    have hd : decide (rankOf op < 0) = false := by have := rank_le op; simp; omega
    have hb3 : Below w.heap.size w w3 := hb2.trans (y2.mono (by omega))
    dsimp only at y1
    rw [hd, show brk false (textE op n l) = textE op n l from rfl, List.nil_append] at y1
    have HB3 := Lib.hid hb3
    have HW3 := Lib.hid y1
    clear hW1 hb2 y1 y2 hb3 hd e0 e1 e2
    go_wp2_with fail
    refine (wstr_any _ _ _ HW3.out).mono ?_
    rintro e w4 ⟨rfl, hb4⟩
    have HB4 := Lib.hid hb4
    clear hb4
    go_wp2_with fail
    go_ret2
    refine ⟨?_, HB3.out.trans (HB4.out.mono (by omega))⟩
    rw [HR.out]
    rfl
end Go.Proofs.YtomnjamldbficaaGreatDoor
