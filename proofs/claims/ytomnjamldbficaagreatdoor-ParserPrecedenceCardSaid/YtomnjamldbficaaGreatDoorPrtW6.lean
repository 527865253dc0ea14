/-
  Walks: put of package printer, at an operator.
-/
import Derived.Test.YtomnjamldbficaaGreatDoorPrtW5
import Derived.Test.YtomnjamldbficaaGreatDoorPrtW3
import Derived.Deep.QuietTactic
import Derived.BigQuiet
import Derived.Deep.RegionHeld3
import Derived.Deep.DeepCutAuto
import Derived.StillTailTactics
import Derived.Deep.DrawnRows
import Derived.Outline
import Derived.IntWalk
namespace Go.Proofs.YtomnjamldbficaaGreatDoor
open Go.RowKit Lx Px
theorem bcell {W w1 : World} (hb : Below W.heap.size W w1) : (∀ b o, b < W.heap.size → w1.cell? ⟨b, o, none⟩ = W.cell? ⟨b, o, none⟩) ∧ (∀ b o, b < W.heap.size → w1.frozen? ⟨b, o, none⟩ = W.frozen? ⟨b, o, none⟩) :=
  ⟨fun b o h => hb.cell (p := ⟨b, o, none⟩) h, fun b o h => hb.frozen (p := ⟨b, o, none⟩) h⟩
def PutPost (b : Nat) (out : Bytes) (w : World) (e : Ending) (w' : World) : Prop := e = .returned (.tuple #[]) ∧ Wd b out w' ∧ Below b w w' ∧ Okp b w w'
def PutC (a : Int × Int) (l : Fo) : Prop :=
  ∀ (least : Int) (w : World) (v : Value) (B b : Nat) (txt : Bytes), formedB a.1 a.2 (flen l) = true → okF l = true → FoV w B v l → B ≤ b → Tabs B w → Wd b txt w → 0 ≤ least → least ≤ 7 →
    (txt ++ brk (decide (rankOf a.1 < least)) (textE a.1 a.2 l)).length ≤ 140737488355328 →
    Calls Tryz.prog 58 #[.pointer (some ⟨b, 0, none⟩), .agg #[.int .i64 a.1, .int .i64 a.2, v], .int .i64 least] w (PutPost b (txt ++ brk (decide (rankOf a.1 < least)) (textE a.1 a.2 l)) w)
theorem zform {W1 w' : World} (hb : Below (W1.alloc (.cells #[.string ⟨#[]⟩, .slice none 0 0, .string ⟨#[]⟩, .int .i64 0, .slice none 0 0] 136)).heap.size (W1.alloc (.cells #[.string ⟨#[]⟩, .slice none 0 0, .string ⟨#[]⟩, .int .i64 0, .slice none 0 0] 136)).drew w') :
    w'.cell? ⟨W1.heap.size, 0, none⟩ = some (.string ⟨#[]⟩) ∧ w'.cell? ⟨W1.heap.size, 1, none⟩ = some (.slice none 0 0) ∧ w'.cell? ⟨W1.heap.size, 2, none⟩ = some (.string ⟨#[]⟩) ∧ w'.cell? ⟨W1.heap.size, 3, none⟩ = some (.int .i64 0) ∧ w'.cell? ⟨W1.heap.size, 4, none⟩ = some (.slice none 0 0) ∧
    w'.frozen? ⟨W1.heap.size, 0, none⟩ = false ∧ w'.frozen? ⟨W1.heap.size, 1, none⟩ = false ∧ w'.frozen? ⟨W1.heap.size, 2, none⟩ = false ∧ w'.frozen? ⟨W1.heap.size, 3, none⟩ = false ∧ w'.frozen? ⟨W1.heap.size, 4, none⟩ = false := by
  have h : w'.heap[W1.heap.size]? = some (.cells #[.string ⟨#[]⟩, .slice none 0 0, .string ⟨#[]⟩, .int .i64 0, .slice none 0 0] 136 (0, 0)) := (hb.block W1.heap.size (by simp)).trans (World.alloc_heap_new W1 _)
  have f := Lib.frozen_of_heap h
  exact ⟨by rw [Lib.cell_of_heap h]; rfl, by rw [Lib.cell_of_heap h]; rfl, by rw [Lib.cell_of_heap h]; rfl, by rw [Lib.cell_of_heap h]; rfl, by rw [Lib.cell_of_heap h]; rfl, f 0, f 1, f 2, f 3, f 4⟩
theorem okp_cells {b k : Nat} {l : Bytes} {w w' : World} {cs : Array Value} {t : TypeId} {fz : Nat × Nat} (hW : Wd b l w) (h : Okp b w w') (hk : w.heap[k]? = some (.cells cs t fz)) (h5 : t ≠ 5) (hT : t ≠ 97) : w'.heap[k]? = some (.cells cs t fz) := by
  refine okp_block h hk (fun e => ?_) h5
  subst e
  rcases hW with ⟨_, v, hb, _⟩ | ⟨_, v, hb, _⟩
  · rw [hb] at hk; injection hk with hk; injection hk with _ hk _; exact hT hk.symm
  · rw [hb] at hk; injection hk with hk; injection hk with _ hk _; exact hT hk.symm
theorem FormK.keep {w w' : World} {op : Int} {A1 : Option Addr} {n1 b2 : Nat} (h : FormK w op A1 n1 b2) (hk : ∀ (k : Nat) (cs : Array Value) (t : TypeId), (t = 9 ∨ t = 3) → w.heap[k]? = some (.cells cs t (0, 0)) → w'.heap[k]? = some (.cells cs t (0, 0))) : FormK w' op A1 n1 b2 := by
  obtain ⟨h1, h2⟩ := h
  refine ⟨?_, hk _ _ _ (.inr rfl) h2⟩
  rcases h1 with h1 | ⟨bs, e1, e2, e3, e4⟩
  · exact .inl h1
  · exact .inr ⟨bs, e1, e2, e3, hk _ _ _ (.inl rfl) e4⟩
/-- the state of put behind its first statement: the form, the expression, the slices of the form, and the writer -/
def PutG (b : Nat) (acc : Bytes) (w : World) (op n : Int) (kv : Value) (bf : Nat) (A1 : Option Addr) (n1 c1 b2 : Nat) (wx : World) : Prop :=
  wx.heap[bf]? = some (.cells #[.string (mk (beginOf op)), .slice A1 n1 c1, .string (mk (endOf op)), .int .i64 (rankOf op), .slice (some ⟨b2, 0, none⟩) (arity op) (arity op)] 136 (0, 0)) ∧
    wx.heap[w.heap.size]? = some (.cells #[.int .i64 op, .int .i64 n, kv] 24 (0, 0)) ∧
    FormK wx op A1 n1 b2 ∧ Wd b acc wx ∧ Below b w wx ∧ Okp b w wx
theorem PutG.write {b : Nat} {acc acc2 : Bytes} {w : World} {op n : Int} {kv : Value} {bf : Nat} {A1 : Option Addr} {n1 c1 b2 : Nat} {wx wy : World} (h : PutG b acc w op n kv bf A1 n1 c1 b2 wx) (hW : Wd b acc2 wy) (hb : Below b wx wy) (hk : Okp b wx wy) : PutG b acc2 w op n kv bf A1 n1 c1 b2 wy := by
  obtain ⟨h1, h2, h3, h4, h5, h6⟩ := h
  exact ⟨okp_cells h4 hk h1 (by decide) (by decide), okp_cells h4 hk h2 (by decide) (by decide), h3.keep (fun k cs t ht hc => okp_cells h4 hk hc (by rcases ht with rfl | rfl <;> decide) (by rcases ht with rfl | rfl <;> decide)), hW, h5.trans hb, Lib.OthersKept.trans h6 hk⟩
theorem okp_below {b : Nat} {w w' : World} (h : Below w.heap.size w w') : Okp b w w' := fun k _ hk _ _ => (h.block k (Array.getElem?_eq_some_iff.1 hk).1).trans hk
theorem PutG.alloc {b : Nat} {acc : Bytes} {w : World} {op n : Int} {kv : Value} {bf : Nat} {A1 : Option Addr} {n1 c1 b2 : Nat} {wx : World} (h : PutG b acc w op n kv bf A1 n1 c1 b2 wx) (o : Obj) : PutG b acc w op n kv bf A1 n1 c1 b2 (wx.alloc o) :=
  h.write (wd_alloc h.2.2.2.1 o) (((Below.refl _ _).alloc (Nat.le_refl _) _).mono (Nat.le_of_lt (wd_lt h.2.2.2.1))) (okp_below ((Below.refl _ _).alloc (Nat.le_refl _) _))
theorem PutG.drew {b : Nat} {acc : Bytes} {w : World} {op n : Int} {kv : Value} {bf : Nat} {A1 : Option Addr} {n1 c1 b2 : Nat} {wx : World} (h : PutG b acc w op n kv bf A1 n1 c1 b2 wx) : PutG b acc w op n kv bf A1 n1 c1 b2 wx.drew :=
  ⟨h.1, h.2.1, h.2.2.1, h.2.2.2.1, h.2.2.2.2.1.drew, h.2.2.2.2.2⟩
def PutL (b : Nat) (w : World) (op n : Int) (l : Fo) (kv : Value) (bf : Nat) (A1 : Option Addr) (n1 c1 b2 : Nat) (fin : Bytes) (i : Value) (wr : World) : Prop :=
  ∃ (k : Nat) (acc : Bytes), k ≤ flen l ∧ i = .int .i64 k ∧ PutG b acc w op n kv bf A1 n1 c1 b2 wr ∧ acc ++ textF (dropF l k) op k = fin
/-- behind the first statement of put -/
def PutF (b : Nat) (txt : Bytes) (w : World) (op n : Int) (kv : Value) (s6 s7 : Value) (wx : World) : Prop :=
  ∃ (bf : Nat) (A1 : Option Addr) (n1 c1 b2 : Nat), s6 = .pointer (some ⟨bf, 0, none⟩) ∧ s7 = .bool true ∧ PutG b txt w op n kv bf A1 n1 c1 b2 wx
theorem putF_new {b : Nat} {txt : Bytes} {w W1 w' : World} {op n : Int} {kv : Value} {A1 : Option Addr} {n1 c1 b2 : Nat} (hW : Wd b txt w) (hx : W1.heap[w.heap.size]? = some (.cells #[.int .i64 op, .int .i64 n, kv] 24 (0, 0)))
    (h1 : Below w.heap.size w W1) (h2 : Below W1.heap.size W1 w') (hF : FormK w' op A1 n1 b2) :
    PutF b txt w op n kv (.pointer (some ⟨w'.heap.size, 0, none⟩)) (.bool true) (w'.alloc (.cells #[.string (mk (beginOf op)), .slice A1 n1 c1, .string (mk (endOf op)), .int .i64 (rankOf op), .slice (some ⟨b2, 0, none⟩) (arity op) (arity op)] 136)) := by
  have hb := bthen' h1 h2
  have hb2 := hb.alloc hb.size (.cells #[.string (mk (beginOf op)), .slice A1 n1 c1, .string (mk (endOf op)), .int .i64 (rankOf op), .slice (some ⟨b2, 0, none⟩) (arity op) (arity op)] 136)
  refine ⟨_, A1, n1, c1, b2, rfl, rfl, World.alloc_heap_new _ _, heap_on ((h2.block _ (Array.getElem?_eq_some_iff.1 hx).1).trans hx) _, hF.keep (fun k cs t _ hc => heap_on hc _), wd_below hW hb2, hb2.mono (Nat.le_of_lt (wd_lt hW)), okp_below hb2⟩
theorem heap_set {w : World} {g i : Nat} {cs : Array Value} {t : TypeId} {fz : Nat × Nat} (h : w.heap[g]? = some (.cells cs t fz)) (v : Value) : (w.setCell ⟨g, i, none⟩ v).heap[g]? = some (.cells (cs.setIfInBounds i v) t fz) := by
  simp [World.setCell, Array.getElem?_modify, h]
theorem heap_set_other {w : World} {g i k : Nat} (hk : k ≠ g) (v : Value) : (w.setCell ⟨g, i, none⟩ v).heap[k]? = w.heap[k]? := Below.heap_setCell _ _ _ _ hk
theorem putF_set {b : Nat} {txt : Bytes} {w W1 w' : World} {op n : Int} {kv : Value} {A1 : Option Addr} {n1 c1 b2 : Nat} (hW : Wd b txt w) (hx : W1.heap[w.heap.size]? = some (.cells #[.int .i64 op, .int .i64 n, kv] 24 (0, 0)))
    (h1 : Below w.heap.size w W1) (h2 : Below (W1.alloc (.cells #[.string ⟨#[]⟩, .slice none 0 0, .string ⟨#[]⟩, .int .i64 0, .slice none 0 0] 136)).heap.size (W1.alloc (.cells #[.string ⟨#[]⟩, .slice none 0 0, .string ⟨#[]⟩, .int .i64 0, .slice none 0 0] 136)) w') (hF : FormK w' op A1 n1 b2) :
    PutF b txt w op n kv (.pointer (some ⟨W1.heap.size, 0, none⟩)) (.bool true) (((((w'.setCell ⟨W1.heap.size, 0, none⟩ (.string (mk (beginOf op)))).setCell ⟨W1.heap.size, 1, none⟩ (.slice A1 n1 c1)).setCell ⟨W1.heap.size, 2, none⟩ (.string (mk (endOf op)))).setCell ⟨W1.heap.size, 3, none⟩ (.int .i64 (rankOf op))).setCell ⟨W1.heap.size, 4, none⟩ (.slice (some ⟨b2, 0, none⟩) (arity op) (arity op))) := by
  have hz : w'.heap[W1.heap.size]? = some (.cells #[.string ⟨#[]⟩, .slice none 0 0, .string ⟨#[]⟩, .int .i64 0, .slice none 0 0] 136 (0, 0)) := (h2.block W1.heap.size (by simp)).trans (World.alloc_heap_new W1 _)
  have hlt := (Array.getElem?_eq_some_iff.1 hx).1
  have hb : Below w.heap.size w w' := bthen' (h1.alloc (by have := h1.size; omega) _) h2
  have hb2 : Below w.heap.size w (((((w'.setCell ⟨W1.heap.size, 0, none⟩ (.string (mk (beginOf op)))).setCell ⟨W1.heap.size, 1, none⟩ (.slice A1 n1 c1)).setCell ⟨W1.heap.size, 2, none⟩ (.string (mk (endOf op)))).setCell ⟨W1.heap.size, 3, none⟩ (.int .i64 (rankOf op))).setCell ⟨W1.heap.size, 4, none⟩ (.slice (some ⟨b2, 0, none⟩) (arity op) (arity op))) :=
    ((((hb.setCell (p := ⟨W1.heap.size, 0, none⟩) h1.size _).setCell (p := ⟨W1.heap.size, 1, none⟩) h1.size _).setCell (p := ⟨W1.heap.size, 2, none⟩) h1.size _).setCell (p := ⟨W1.heap.size, 3, none⟩) h1.size _).setCell (p := ⟨W1.heap.size, 4, none⟩) h1.size _
  have hother : ∀ k, k ≠ W1.heap.size → (((((w'.setCell ⟨W1.heap.size, 0, none⟩ (.string (mk (beginOf op)))).setCell ⟨W1.heap.size, 1, none⟩ (.slice A1 n1 c1)).setCell ⟨W1.heap.size, 2, none⟩ (.string (mk (endOf op)))).setCell ⟨W1.heap.size, 3, none⟩ (.int .i64 (rankOf op))).setCell ⟨W1.heap.size, 4, none⟩ (.slice (some ⟨b2, 0, none⟩) (arity op) (arity op))).heap[k]? = w'.heap[k]? := by
    intro k hk
    rw [heap_set_other hk, heap_set_other hk, heap_set_other hk, heap_set_other hk, heap_set_other hk]
  refine ⟨_, A1, n1, c1, b2, rfl, rfl, ?_, ?_, hF.keep (fun k cs t ht hc => ?_), wd_below hW hb2, hb2.mono (Nat.le_of_lt (wd_lt hW)), okp_below hb2⟩
  · rw [heap_set (heap_set (heap_set (heap_set (heap_set hz _) _) _) _) _]; rfl
  · rw [hother _ (by omega)]
    exact (h2.block _ (by simp; omega)).trans (heap_on hx _)
  · rw [hother _ (fun e => ?_)]
    · exact hc
    · subst e; rw [hz] at hc; injection hc with hc; injection hc with _ hc _; rcases ht with rfl | rfl <;> exact absurd hc (by decide)
namespace Px
theorem rank_le (op : Int) : 0 ≤ rankOf op ∧ rankOf op ≤ 7 := by
  unfold rankOf; repeat' split
  all_goals omega
theorem least_le (op : Int) (k : Nat) : 0 ≤ leastOf op k ∧ (k ≤ 1 → leastOf op k ≤ 7) := by
  unfold leastOf
  have := rank_le op
  repeat' split
  all_goals omega
theorem least_at (op : Int) (k : Nat) (hk : k < arity op) (ho : 4 ≤ op) (ho2 : op ≤ 15) : (leastL op)[k]? = some (leastOf op k) := by
  unfold leastL arity at *
  by_cases h10 : op = 10
  · subst h10; simp at hk ⊢
    rcases (show k = 0 ∨ k = 1 ∨ k = 2 by omega) with rfl | rfl | rfl <;> simp [leastOf, rankOf]
  · by_cases h15 : op = 15
    · subst h15; simp at hk ⊢; subst hk; simp [leastOf, rankOf]
    · simp [h10, h15] at hk ⊢
      rcases (show k = 0 ∨ k = 1 by omega) with rfl | rfl <;> simp
theorem least_at7 (op : Int) (k : Nat) (hk : k < arity op) (ho : 4 ≤ op) (ho2 : op ≤ 15) : leastOf op k ≤ 7 := by
  have h1 := (least_le op k).2
  by_cases h10 : op = 10
  · subst h10; simp [leastOf, rankOf]
  · exact h1 (by unfold arity at hk; rw [if_neg h10] at hk; split at hk <;> omega)
theorem sep_at (op : Int) (k : Nat) (hk : k + 1 < arity op) : (sepL op)[k]? = some (sepOf op (k + 1)) := by
  unfold sepL arity at *
  by_cases h10 : op = 10
  · subst h10; simp at hk ⊢
    rcases (show k = 0 ∨ k = 1 by omega) with rfl | rfl <;> simp
  · by_cases h15 : op = 15
    · subst h15; simp at hk
    · simp [h10, h15] at hk ⊢
      rcases (show k = 0 by omega) with rfl; simp
end Px
theorem formK_least {w : World} {op : Int} {A1 : Option Addr} {n1 b2 k : Nat} (h : FormK w op A1 n1 b2) (hk : k < arity op) (ho : 4 ≤ op) (ho2 : op ≤ 15) : w.cell? ⟨b2, k, none⟩ = some (.int .i64 (Px.leastOf op k)) := by
  rw [Lib.cell_of_heap h.2]
  simp [least_at op k hk ho ho2]
theorem formK_sep {w : World} {op : Int} {A1 : Option Addr} {n1 b2 k : Nat} (h : FormK w op A1 n1 b2) (hk : k + 1 < arity op) : ∃ bs, A1 = some ⟨bs, 0, none⟩ ∧ k < n1 ∧ w.cell? ⟨bs, k, none⟩ = some (.string (mk (sepOf op (k + 1)))) := by
  rcases h.1 with ⟨h15, _⟩ | ⟨bs, h15, e, e2, e3⟩
  · subst h15; simp [arity] at hk
  · refine ⟨bs, e, by omega, ?_⟩
    rw [Lib.cell_of_heap e3]
    simp [sep_at op k hk]
set_option maxRecDepth 100000 in
set_option maxHeartbeats 2000000 in
theorem put_node (a : Int × Int) (l : Fo) (ho : 4 ≤ a.1) (ih : ∀ k, k < flen l → PutC (getF l k).1 (getF l k).2) : PutC a l := by
  intro least w v B b txt hform hokl hv hB htab hwd hl0 hl7 hlen
  obtain ⟨A, c, rfl, hA⟩ := hv
  obtain ⟨op, n⟩ := a
  dsimp only at ho hform hlen ⊢
  obtain ⟨ho2, hn0, hk⟩ := formed_node hform ho
  have hbl := wd_lt hwd
  have HW := Lib.hid hwd
  have HA := Lib.hid hA
  have HI := Lib.hid ih
  have HT := Lib.hid htab
  have HK := Lib.hid hk
  have HN := Lib.hid hn0
  have HO := Lib.hid hokl
  clear hwd hA ih htab hk hn0 hform hokl
  go_enter_defers Tryz.func58, Tryz.ntmps58
  go_upto_region 1 with fail
  go_cut [6, 7] from 12 (fun s6 s7 wx => PutF b txt w op n (.slice A (flen l) c) s6 s7 wx)
  case first =>
    have x0 : (w.alloc (.cells #[.int .i64 op, .int .i64 n, .slice A (flen l) c] 24)).heap[w.heap.size]? = some (.cells #[.int .i64 op, .int .i64 n, .slice A (flen l) c] 24 (0, 0)) := World.alloc_heap_new w _
    have x1 : Below w.heap.size w (w.alloc (.cells #[.int .i64 op, .int .i64 n, .slice A (flen l) c] 24)) := (Below.refl _ _).alloc (Nat.le_refl _) _
    have x2 : w.heap.size < (w.alloc (.cells #[.int .i64 op, .int .i64 n, .slice A (flen l) c] 24)).heap.size := by simp
    generalize w.alloc (.cells #[.int .i64 op, .int .i64 n, .slice A (flen l) c] 24) = W1 at *
    have x3 : W1.cell? ⟨w.heap.size, 0, none⟩ = some (.int .i64 op) := by rw [Lib.cell_of_heap x0]; rfl
    have x4 := World.new_ne W1 ⟨w.heap.size, 0, none⟩ x3
    have X0 := Lib.hid x0
    clear x0
    go_region_held3 (fun w' => w'.cell? ⟨w.heap.size, 0, none⟩ = some (.int .i64 op)) (first | with_reducible assumption | go_keep)
      (first | (go_at_call 90; refine (forms_look op _ ho ho2).mono ?_; rintro e w' ⟨r, A1, n1, c1, b2, rfl, hlk, hrl, hFK, hb⟩; have s0 : w'.cell? ⟨w.heap.size, 0, none⟩ = some (.int .i64 op) := (hb.cell (p := ⟨w.heap.size, 0, none⟩) (by simp; omega)).trans (by assumption); have s1 := World.new_ne w' ⟨w.heap.size, 0, none⟩ s0; have hl0 := hlk w' rfl; have hl1 := fun o => hlk (w'.alloc o) (by rw [Lib.alloc_old _ _ _ hrl]); have HLK := Lib.hid hlk; clear hlk; have hsz := hb.size; (first | (have hq := zform hb; obtain ⟨k0, k1, k2, k3, k4, j0, j1, j2, j3, j4⟩ := hq) | skip); have HB := Lib.hid hb; clear hb))
    all_goals (go_wp2_with fail)
    all_goals go_meet
    · exact putF_new HW.out X0.out x1 (((Below.refl _ _).drew).trans HB.out) hFK
    · exact putF_new HW.out X0.out x1 (((Below.refl _ _).drew).trans HB.out) hFK
    · exact putF_set HW.out X0.out x1 (((Below.refl _ _).drew).trans HB.out) hFK
  case rest =>
    obtain ⟨bf, A1, n1, c1, b2, rfl, rfl, hG⟩ := hcut
    have i1 : (op == 1) = false := by simp; omega
    have i2 : (op == 2) = false := by simp; omega
    have i3 : (op == 3) = false := by simp; omega
    have f3 : wc.cell? ⟨bf, 3, none⟩ = some (.int .i64 (rankOf op)) := by rw [Lib.cell_of_heap hG.1]; rfl
    have e0 : wc.cell? ⟨w.heap.size, 0, none⟩ = some (.int .i64 op) := by rw [Lib.cell_of_heap hG.2.1]; rfl
    have HG := Lib.hid hG
    clear hG
    by_cases hbr : rankOf op < least
    · have d1 : decide (rankOf op < least) = true := by simpa using hbr
      have hlen2 : txt.length + 1 + (beginOf op).length + (textF l op 0).length + (endOf op).length + 1 ≤ 140737488355328 := by
        have := hlen; simp only [d1, brk, textE, body, if_neg (show ¬ op = 1 by omega), if_neg (show ¬ op = 2 by omega), if_neg (show ¬ op = 3 by omega), List.length_append, List.length_cons, List.length_nil, if_true] at this; omega
      clear hlen
      go_wp2_with fail
      refine (ws_any b txt ⟨#[40]⟩ _ HG.out.2.2.2.1 (by show txt.length + 1 ≤ _; omega)).mono ?_
      rintro e w3 ⟨rfl, y1, y2, y3⟩
      have hG3 := HG.out.write y1 y2 y3
      rw [show bl ⟨#[40]⟩ = [40] from rfl] at hG3
      have e0' : w3.cell? ⟨w.heap.size, 0, none⟩ = some (.int .i64 op) := by rw [Lib.cell_of_heap hG3.2.1]; rfl
      clear HG y1 y2 y3 f3 e0
      have HG := Lib.hid hG3
      clear hG3
      go_wp2_with fail
      clear e0'
      have f0 : w3.cell? ⟨bf, 0, none⟩ = some (.string (mk (beginOf op))) := by rw [Lib.cell_of_heap HG.out.1]; rfl
      go_still_tail 5, (by kernel_rfl)
      change wpList _ _ _ _ _ w3.drew
      have hG1 := HG.out.drew
      clear f0 HG
      generalize w3.drew = w1 at *
      have HG1 := Lib.hid hG1
      clear hG1
      go_wp2_with fail
      refine (ws_any b (txt ++ [40]) (mk (beginOf op)) _ HG1.out.2.2.2.1 (by rw [size_mk]; (try simp only [List.length_append]); (try simp only [List.length_cons, List.length_nil]); omega)).mono ?_
      rintro e w2 ⟨rfl, y1, y2, y3⟩
      have hG2 := HG1.out.write y1 y2 y3
      rw [bl_mk] at hG2
      have e2 : w2.cell? ⟨w.heap.size, 2, none⟩ = some (.slice A (flen l) c) := by rw [Lib.cell_of_heap hG2.2.1]; rfl
      have HG2 := Lib.hid hG2
      clear hG2 y1 y2 y3 HG1
      have hkm : flen l ≤ 3 := by rw [HK.out]; unfold arity; split <;> (try split) <;> omega
      go_wp2_with fail
      go_loopw [44] (fun i wr => PutL b w op n l (.slice A (flen l) c) bf A1 n1 c1 b2 ((txt ++ [40]) ++ beginOf op ++ textF l op 0) i wr) (fun i _ => flen l - (intOf i).toNat)
      case atStart => exact ⟨0, _, by omega, rfl, HG2.out, by rw [dropF]⟩
      case round =>
        clear e2 HG2
        obtain ⟨k, acc, hkl, rfl, hGr, hacc⟩ := hrel
        have HG := Lib.hid hGr
        have HC := Lib.hid hacc
        clear hGr hacc
        by_cases hlt : k < flen l
        · have hkeep : ∀ p : Addr, p.block < B → wr.cell? p = w.cell? p := fun p hp => HG.out.2.2.2.2.1.cell (by omega)
          obtain ⟨ad, A', c', rfl, hlo, t0, t1, t2, t3⟩ := FoAt.get l A 0 k (FoAt.keep hkeep l A 0 HA.out) hlt
          rw [Nat.zero_add] at t0 t1 t2
          obtain ⟨bb, oo, hd⟩ := dropF_get l k hlt
          have hrec := HI.out k hlt
          have hok := okF_get l k HO.out hlt
          obtain ⟨⟨op', n'⟩, l', hel⟩ : ∃ a' l', getF l k = (a', l') := ⟨_, _, rfl⟩
          rw [hel] at t0 t1 t2 t3 hd hrec hok
          dsimp only at t0 t1 t2 t3 hd hrec hok
          have hstep : textF (dropF l k) op k = (if 0 < k then sepOf op k else []) ++ brk (decide (rankOf op' < Px.leastOf op k)) (textE op' n' l') ++ textF (dropF l (k + 1)) op (k + 1) := by rw [hd]; rfl
          have hls := (least_le op k).1
          have hls7 := least_at7 op k (by rw [← HK.out]; exact hlt) ho ho2
          have hlens : acc.length + (if 0 < k then sepOf op k else []).length + (brk (decide (rankOf op' < Px.leastOf op k)) (textE op' n' l')).length ≤ 140737488355328 := by
            have := congrArg List.length HC.out; rw [hstep] at this; simp only [List.length_append] at this; (try simp only [List.length_cons, List.length_nil] at this); omega
          have HR := Lib.hid hrec
          have HOK := Lib.hid hok
          have HS := Lib.hid hstep
          have T3 := Lib.hid t3
          have hb2 : (ad.add (k * 3)).block < wr.heap.size := by have := wd_lt HG.out.2.2.2.1; rw [add_block']; omega
          have gl := formK_least HG.out.2.2.1 (by rw [← HK.out]; exact hlt) ho ho2
          clear hrec hok hstep t3 hd hel hkeep
          have har : k < arity op := by rw [← HK.out]; exact hlt
          clear gl
          by_cases hk0 : 0 < k
          · obtain ⟨bs, rfl, hn1, _⟩ := formK_sep (k := k - 1) HG.out.2.2.1 (by omega)
            go_wp2_with fail
            have hGa := HG.out.alloc (.cells #[.int .i64 op', .int .i64 n', .slice A' (flen l') c'] 24)
            have hXa := World.alloc_heap_new wr (.cells #[.int .i64 op', .int .i64 n', .slice A' (flen l') c'] 24)
            generalize wr.alloc (.cells #[.int .i64 op', .int .i64 n', .slice A' (flen l') c'] 24) = wk at *
            obtain ⟨q, hq⟩ : ∃ q, q = wr.heap.size := ⟨_, rfl⟩
            rw [← hq] at hXa ⊢
            have HQ := Lib.hid hq
            clear hq
            obtain ⟨bs', hbs, _, gs⟩ := formK_sep (k := k - 1) hGa.2.2.1 (by omega)
            rw [show k - 1 + 1 = k from by omega] at gs
            injection hbs with hbs
            injection hbs with hbs _ _
            subst hbs
            have g1 : wk.cell? ⟨bf, 1, none⟩ = some (.slice (some ⟨bs, 0, none⟩) n1 c1) := by rw [Lib.cell_of_heap hGa.1]; rfl
            have HGa := Lib.hid hGa
            have HXa := Lib.hid hXa
            clear hGa hXa
            have b1 : (0 : Int) ≤ (k : Int) - 1 := by omega
            have b3 : (k : Int) - 1 < (n1 : Int) := by omega
            have b4 : ((k : Int) - 1).toNat = k - 1 := by omega
            have b5 : IntKind.i64.wrap ((k : Int) - 1) = (k : Int) - 1 := IntWalk.i64_in _ (by omega)
            have b6 : (1 : Int) ≤ (k : Int) := by omega
            go_still_tail 9, (by kernel_rfl)
            change wpList _ _ _ _ _ wk.drew
            clear b1 b3 b4 b5 b6 g1 gs
            have hGd := HGa.out.drew
            have hXd : wk.drew.heap[q]? = _ := HXa.out
            clear HGa HXa
            generalize wk.drew = w5 at *
            have HGb := Lib.hid hGd
            have HXb := Lib.hid hXd
            clear hGd hXd
            go_wp2_with fail
            refine (ws_any b acc (mk (sepOf op k)) _ HGb.out.2.2.2.1 (by rw [size_mk]; rw [if_pos hk0] at hlens; omega)).mono ?_
            rintro e w6 ⟨rfl, y1, y2, y3⟩
            have hG6 := HGb.out.write y1 y2 y3
            have hX6 := okp_cells HGb.out.2.2.2.1 y3 HXb.out (by decide) (by decide)
            rw [bl_mk] at hG6
            have HGc := Lib.hid hG6
            have HXc := Lib.hid hX6
            clear hG6 hX6 y1 y2 y3 HGb HXb
            go_wp2_with fail
            have hGk := HGc.out
            have m0 : w6.cell? ⟨q, 0, none⟩ = some (.int .i64 op') := by rw [Lib.cell_of_heap HXc.out]; rfl
            have m1 : w6.cell? ⟨q, 1, none⟩ = some (.int .i64 n') := by rw [Lib.cell_of_heap HXc.out]; rfl
            have m2 : w6.cell? ⟨q, 2, none⟩ = some (.slice A' (flen l') c') := by rw [Lib.cell_of_heap HXc.out]; rfl
            have m4 : w6.cell? ⟨bf, 4, none⟩ = some (.slice (some ⟨b2, 0, none⟩) (arity op) (arity op)) := by rw [Lib.cell_of_heap hGk.1]; rfl
            have ml := formK_least hGk.2.2.1 har ho ho2
            clear hGk
            have mi : (k : Int) < (arity op : Int) := by omega
            go_still_tail 7, (by kernel_rfl)
            change wpList _ _ _ _ _ w6.drew
            clear mi m0 m1 m2 m4 ml
            have hGd := HGc.out.drew
            generalize w6.drew = w7 at *
            have HGd := Lib.hid hGd
            clear hGd
            go_wp2_with fail
            refine (HR.out (Px.leastOf op k) w7 (.slice A' (flen l') c') B b _ HOK.out.1 HOK.out.2 ⟨A', c', rfl, FoAt.keep (fun p hp => (HGd.out.2.2.2.2.1.cell (by omega)).trans (HG.out.2.2.2.2.1.cell (by omega)).symm) l' A' 0 T3.out⟩ hB (HT.out.on (HGd.out.2.2.2.2.1.mono hB)) HGd.out.2.2.2.1 hls hls7 (by rw [if_pos hk0] at hlens; simpa [List.length_append, Nat.add_assoc] using hlens)).mono ?_
            rintro e w8 ⟨rfl, y1, y2, y3⟩
            have hG8 := HGd.out.write y1 y2 y3
            have HG8 := Lib.hid hG8
            clear hG8 y1 y2 y3 HGd
            go_wp2_with fail
            go_roundw
            case rel => exact ⟨k + 1, _, by omega, by go_num, HG8.out, by rw [← HC.out, HS.out, if_pos hk0]; simp⟩
            case measure => simp [intOf]; omega
          · go_wp2_with fail
            have hGa := HG.out.alloc (.cells #[.int .i64 op', .int .i64 n', .slice A' (flen l') c'] 24)
            have hXa := World.alloc_heap_new wr (.cells #[.int .i64 op', .int .i64 n', .slice A' (flen l') c'] 24)
            generalize wr.alloc (.cells #[.int .i64 op', .int .i64 n', .slice A' (flen l') c'] 24) = wk at *
            obtain ⟨q, hq⟩ : ∃ q, q = wr.heap.size := ⟨_, rfl⟩
            rw [← hq] at hXa ⊢
            have HQ := Lib.hid hq
            have HGa := Lib.hid hGa
            have HXa := Lib.hid hXa
            clear hGa hXa hq
            have hGk := HGa.out
            have m0 : wk.cell? ⟨q, 0, none⟩ = some (.int .i64 op') := by rw [Lib.cell_of_heap HXa.out]; rfl
            have m1 : wk.cell? ⟨q, 1, none⟩ = some (.int .i64 n') := by rw [Lib.cell_of_heap HXa.out]; rfl
            have m2 : wk.cell? ⟨q, 2, none⟩ = some (.slice A' (flen l') c') := by rw [Lib.cell_of_heap HXa.out]; rfl
            have m4 : wk.cell? ⟨bf, 4, none⟩ = some (.slice (some ⟨b2, 0, none⟩) (arity op) (arity op)) := by rw [Lib.cell_of_heap hGk.1]; rfl
            have ml := formK_least hGk.2.2.1 har ho ho2
            clear hGk
            have mi : (k : Int) < (arity op : Int) := by omega
            go_still_tail 7, (by kernel_rfl)
            change wpList _ _ _ _ _ wk.drew
            clear mi m0 m1 m2 m4 ml
            have hGd := HGa.out.drew
            generalize wk.drew = w7 at *
            have HGd := Lib.hid hGd
            clear hGd
            go_wp2_with fail
            refine (HR.out (Px.leastOf op k) w7 (.slice A' (flen l') c') B b _ HOK.out.1 HOK.out.2 ⟨A', c', rfl, FoAt.keep (fun p hp => (HGd.out.2.2.2.2.1.cell (by omega)).trans (HG.out.2.2.2.2.1.cell (by omega)).symm) l' A' 0 T3.out⟩ hB (HT.out.on (HGd.out.2.2.2.2.1.mono hB)) HGd.out.2.2.2.1 hls hls7 (by rw [if_neg hk0] at hlens; simpa [List.length_append] using hlens)).mono ?_
            rintro e w8 ⟨rfl, y1, y2, y3⟩
            have hG8 := HGd.out.write y1 y2 y3
            have HG8 := Lib.hid hG8
            clear hG8 y1 y2 y3 HGd
            go_wp2_with fail
            go_roundw
            case rel => exact ⟨k + 1, _, by omega, by go_num, HG8.out, by rw [← HC.out, HS.out, if_neg hk0]; simp⟩
            case measure => simp [intOf]; omega
        · have hke : dropF l k = .nil := dropF_len l k (by omega)
          have hC := HC.out
          rw [hke, textF, List.append_nil] at hC
          subst hC
          clear HC
          have g2 : wr.cell? ⟨bf, 2, none⟩ = some (.string (mk (endOf op))) := by rw [Lib.cell_of_heap HG.out.1]; rfl
          go_wp2_with fail
          go_still_tail 5, (by kernel_rfl)
          change wpList _ _ _ _ _ wr.drew
          have hG1 := HG.out.drew
          clear g2 HG
          generalize wr.drew = w4 at *
          have HG1 := Lib.hid hG1
          clear hG1
          go_wp2_with fail
          refine (ws_any b _ (mk (endOf op)) _ HG1.out.2.2.2.1 (by rw [size_mk]; (try simp only [List.length_append]); (try simp only [List.length_cons, List.length_nil]); omega)).mono ?_
          rintro e w5 ⟨rfl, y1, y2, y3⟩
          have hG5 := HG1.out.write y1 y2 y3
          rw [bl_mk] at hG5
          have HG5 := Lib.hid hG5
          clear hG5 y1 y2 y3 HG1
          go_wp2_with fail
          have hout : txt ++ brk (decide (rankOf op < least)) (textE op n l) = txt ++ [40] ++ beginOf op ++ textF l op 0 ++ endOf op ++ [41] := by
            simp [d1, brk, textE, body, if_neg (show ¬ op = 1 by omega), if_neg (show ¬ op = 2 by omega), if_neg (show ¬ op = 3 by omega)]
          rw [hout]
          refine leaves_cons (f := 63) (args := #[.pointer (some ⟨b, 0, none⟩), .string ⟨#[41]⟩]) (by simp) (by simp [go_sem]) ?_
          refine (ws_defer b _ ⟨#[41]⟩ _ .returning HG5.out.2.2.2.1 (by show _ + 1 ≤ _; simp only [List.length_append, List.length_cons, List.length_nil]; omega)).mono ?_
          rintro e u' w9 ⟨rfl, rfl, y1, y2, y3⟩
          have hG9 := HG5.out.write y1 y2 y3
          exact ⟨_, results_none rfl _ _ _, rfl, hG9.2.2.2.1, hG9.2.2.2.2.1, hG9.2.2.2.2.2⟩
    · have d1 : decide (rankOf op < least) = false := by simpa using hbr
      have hlen2 : txt.length + (beginOf op).length + (textF l op 0).length + (endOf op).length ≤ 140737488355328 := by
        have := hlen; simp only [d1, brk, textE, body, if_neg (show ¬ op = 1 by omega), if_neg (show ¬ op = 2 by omega), if_neg (show ¬ op = 3 by omega), List.length_append, Bool.false_eq_true, if_false] at this; omega
      clear hlen
      go_wp2_with fail
      clear f3 e0
      have f0 : wc.cell? ⟨bf, 0, none⟩ = some (.string (mk (beginOf op))) := by rw [Lib.cell_of_heap HG.out.1]; rfl
      go_still_tail 5, (by kernel_rfl)
      change wpList _ _ _ _ _ wc.drew
      have hG1 := HG.out.drew
      clear f0 HG
      generalize wc.drew = w1 at *
      have HG1 := Lib.hid hG1
      clear hG1
      go_wp2_with fail
      refine (ws_any b txt (mk (beginOf op)) _ HG1.out.2.2.2.1 (by rw [size_mk]; (try simp only [List.length_append]); (try simp only [List.length_cons, List.length_nil]); omega)).mono ?_
      rintro e w2 ⟨rfl, y1, y2, y3⟩
      have hG2 := HG1.out.write y1 y2 y3
      rw [bl_mk] at hG2
      have e2 : w2.cell? ⟨w.heap.size, 2, none⟩ = some (.slice A (flen l) c) := by rw [Lib.cell_of_heap hG2.2.1]; rfl
      have HG2 := Lib.hid hG2
      clear hG2 y1 y2 y3 HG1
      have hkm : flen l ≤ 3 := by rw [HK.out]; unfold arity; split <;> (try split) <;> omega
      go_wp2_with fail
      go_loopw [44] (fun i wr => PutL b w op n l (.slice A (flen l) c) bf A1 n1 c1 b2 (txt ++ beginOf op ++ textF l op 0) i wr) (fun i _ => flen l - (intOf i).toNat)
      case atStart => exact ⟨0, _, by omega, rfl, HG2.out, by rw [dropF]⟩
      case round =>
        clear e2 HG2
        obtain ⟨k, acc, hkl, rfl, hGr, hacc⟩ := hrel
        have HG := Lib.hid hGr
        have HC := Lib.hid hacc
        clear hGr hacc
        by_cases hlt : k < flen l
        · have hkeep : ∀ p : Addr, p.block < B → wr.cell? p = w.cell? p := fun p hp => HG.out.2.2.2.2.1.cell (by omega)
          obtain ⟨ad, A', c', rfl, hlo, t0, t1, t2, t3⟩ := FoAt.get l A 0 k (FoAt.keep hkeep l A 0 HA.out) hlt
          rw [Nat.zero_add] at t0 t1 t2
          obtain ⟨bb, oo, hd⟩ := dropF_get l k hlt
          have hrec := HI.out k hlt
          have hok := okF_get l k HO.out hlt
          obtain ⟨⟨op', n'⟩, l', hel⟩ : ∃ a' l', getF l k = (a', l') := ⟨_, _, rfl⟩
          rw [hel] at t0 t1 t2 t3 hd hrec hok
          dsimp only at t0 t1 t2 t3 hd hrec hok
          have hstep : textF (dropF l k) op k = (if 0 < k then sepOf op k else []) ++ brk (decide (rankOf op' < Px.leastOf op k)) (textE op' n' l') ++ textF (dropF l (k + 1)) op (k + 1) := by rw [hd]; rfl
          have hls := (least_le op k).1
          have hls7 := least_at7 op k (by rw [← HK.out]; exact hlt) ho ho2
          have hlens : acc.length + (if 0 < k then sepOf op k else []).length + (brk (decide (rankOf op' < Px.leastOf op k)) (textE op' n' l')).length ≤ 140737488355328 := by
            have := congrArg List.length HC.out; rw [hstep] at this; simp only [List.length_append] at this; (try simp only [List.length_cons, List.length_nil] at this); omega
          have HR := Lib.hid hrec
          have HOK := Lib.hid hok
          have HS := Lib.hid hstep
          have T3 := Lib.hid t3
          have hb2 : (ad.add (k * 3)).block < wr.heap.size := by have := wd_lt HG.out.2.2.2.1; rw [add_block']; omega
          have gl := formK_least HG.out.2.2.1 (by rw [← HK.out]; exact hlt) ho ho2
          clear hrec hok hstep t3 hd hel hkeep
          have har : k < arity op := by rw [← HK.out]; exact hlt
          clear gl
          by_cases hk0 : 0 < k
          · obtain ⟨bs, rfl, hn1, _⟩ := formK_sep (k := k - 1) HG.out.2.2.1 (by omega)
            go_wp2_with fail
            have hGa := HG.out.alloc (.cells #[.int .i64 op', .int .i64 n', .slice A' (flen l') c'] 24)
            have hXa := World.alloc_heap_new wr (.cells #[.int .i64 op', .int .i64 n', .slice A' (flen l') c'] 24)
            generalize wr.alloc (.cells #[.int .i64 op', .int .i64 n', .slice A' (flen l') c'] 24) = wk at *
            obtain ⟨q, hq⟩ : ∃ q, q = wr.heap.size := ⟨_, rfl⟩
            rw [← hq] at hXa ⊢
            have HQ := Lib.hid hq
            clear hq
            obtain ⟨bs', hbs, _, gs⟩ := formK_sep (k := k - 1) hGa.2.2.1 (by omega)
            rw [show k - 1 + 1 = k from by omega] at gs
            injection hbs with hbs
            injection hbs with hbs _ _
            subst hbs
            have g1 : wk.cell? ⟨bf, 1, none⟩ = some (.slice (some ⟨bs, 0, none⟩) n1 c1) := by rw [Lib.cell_of_heap hGa.1]; rfl
            have HGa := Lib.hid hGa
            have HXa := Lib.hid hXa
            clear hGa hXa
            have b1 : (0 : Int) ≤ (k : Int) - 1 := by omega
            have b3 : (k : Int) - 1 < (n1 : Int) := by omega
            have b4 : ((k : Int) - 1).toNat = k - 1 := by omega
            have b5 : IntKind.i64.wrap ((k : Int) - 1) = (k : Int) - 1 := IntWalk.i64_in _ (by omega)
            have b6 : (1 : Int) ≤ (k : Int) := by omega
            go_still_tail 9, (by kernel_rfl)
            change wpList _ _ _ _ _ wk.drew
            clear b1 b3 b4 b5 b6 g1 gs
            have hGd := HGa.out.drew
            have hXd : wk.drew.heap[q]? = _ := HXa.out
            clear HGa HXa
            generalize wk.drew = w5 at *
            have HGb := Lib.hid hGd
            have HXb := Lib.hid hXd
            clear hGd hXd
            go_wp2_with fail
            refine (ws_any b acc (mk (sepOf op k)) _ HGb.out.2.2.2.1 (by rw [size_mk]; rw [if_pos hk0] at hlens; omega)).mono ?_
            rintro e w6 ⟨rfl, y1, y2, y3⟩
            have hG6 := HGb.out.write y1 y2 y3
            have hX6 := okp_cells HGb.out.2.2.2.1 y3 HXb.out (by decide) (by decide)
            rw [bl_mk] at hG6
            have HGc := Lib.hid hG6
            have HXc := Lib.hid hX6
            clear hG6 hX6 y1 y2 y3 HGb HXb
            go_wp2_with fail
            have hGk := HGc.out
            have m0 : w6.cell? ⟨q, 0, none⟩ = some (.int .i64 op') := by rw [Lib.cell_of_heap HXc.out]; rfl
            have m1 : w6.cell? ⟨q, 1, none⟩ = some (.int .i64 n') := by rw [Lib.cell_of_heap HXc.out]; rfl
            have m2 : w6.cell? ⟨q, 2, none⟩ = some (.slice A' (flen l') c') := by rw [Lib.cell_of_heap HXc.out]; rfl
            have m4 : w6.cell? ⟨bf, 4, none⟩ = some (.slice (some ⟨b2, 0, none⟩) (arity op) (arity op)) := by rw [Lib.cell_of_heap hGk.1]; rfl
            have ml := formK_least hGk.2.2.1 har ho ho2
            clear hGk
            have mi : (k : Int) < (arity op : Int) := by omega
            go_still_tail 7, (by kernel_rfl)
            change wpList _ _ _ _ _ w6.drew
            clear mi m0 m1 m2 m4 ml
            have hGd := HGc.out.drew
            generalize w6.drew = w7 at *
            have HGd := Lib.hid hGd
            clear hGd
            go_wp2_with fail
            refine (HR.out (Px.leastOf op k) w7 (.slice A' (flen l') c') B b _ HOK.out.1 HOK.out.2 ⟨A', c', rfl, FoAt.keep (fun p hp => (HGd.out.2.2.2.2.1.cell (by omega)).trans (HG.out.2.2.2.2.1.cell (by omega)).symm) l' A' 0 T3.out⟩ hB (HT.out.on (HGd.out.2.2.2.2.1.mono hB)) HGd.out.2.2.2.1 hls hls7 (by rw [if_pos hk0] at hlens; simpa [List.length_append, Nat.add_assoc] using hlens)).mono ?_
            rintro e w8 ⟨rfl, y1, y2, y3⟩
            have hG8 := HGd.out.write y1 y2 y3
            have HG8 := Lib.hid hG8
            clear hG8 y1 y2 y3 HGd
            go_wp2_with fail
            go_roundw
            case rel => exact ⟨k + 1, _, by omega, by go_num, HG8.out, by rw [← HC.out, HS.out, if_pos hk0]; simp⟩
            case measure => simp [intOf]; omega
          · go_wp2_with fail
            have hGa := HG.out.alloc (.cells #[.int .i64 op', .int .i64 n', .slice A' (flen l') c'] 24)
            have hXa := World.alloc_heap_new wr (.cells #[.int .i64 op', .int .i64 n', .slice A' (flen l') c'] 24)
            generalize wr.alloc (.cells #[.int .i64 op', .int .i64 n', .slice A' (flen l') c'] 24) = wk at *
            obtain ⟨q, hq⟩ : ∃ q, q = wr.heap.size := ⟨_, rfl⟩
            rw [← hq] at hXa ⊢
            have HQ := Lib.hid hq
            have HGa := Lib.hid hGa
            have HXa := Lib.hid hXa
            clear hGa hXa hq
            have hGk := HGa.out
            have m0 : wk.cell? ⟨q, 0, none⟩ = some (.int .i64 op') := by rw [Lib.cell_of_heap HXa.out]; rfl
            have m1 : wk.cell? ⟨q, 1, none⟩ = some (.int .i64 n') := by rw [Lib.cell_of_heap HXa.out]; rfl
            have m2 : wk.cell? ⟨q, 2, none⟩ = some (.slice A' (flen l') c') := by rw [Lib.cell_of_heap HXa.out]; rfl
            have m4 : wk.cell? ⟨bf, 4, none⟩ = some (.slice (some ⟨b2, 0, none⟩) (arity op) (arity op)) := by rw [Lib.cell_of_heap hGk.1]; rfl
            have ml := formK_least hGk.2.2.1 har ho ho2
            clear hGk
            have mi : (k : Int) < (arity op : Int) := by omega
            go_still_tail 7, (by kernel_rfl)
            change wpList _ _ _ _ _ wk.drew
            clear mi m0 m1 m2 m4 ml
            have hGd := HGa.out.drew
            generalize wk.drew = w7 at *
            have HGd := Lib.hid hGd
            clear hGd
            go_wp2_with fail
            refine (HR.out (Px.leastOf op k) w7 (.slice A' (flen l') c') B b _ HOK.out.1 HOK.out.2 ⟨A', c', rfl, FoAt.keep (fun p hp => (HGd.out.2.2.2.2.1.cell (by omega)).trans (HG.out.2.2.2.2.1.cell (by omega)).symm) l' A' 0 T3.out⟩ hB (HT.out.on (HGd.out.2.2.2.2.1.mono hB)) HGd.out.2.2.2.1 hls hls7 (by rw [if_neg hk0] at hlens; simpa [List.length_append] using hlens)).mono ?_
            rintro e w8 ⟨rfl, y1, y2, y3⟩
            have hG8 := HGd.out.write y1 y2 y3
            have HG8 := Lib.hid hG8
            clear hG8 y1 y2 y3 HGd
            go_wp2_with fail
            go_roundw
            case rel => exact ⟨k + 1, _, by omega, by go_num, HG8.out, by rw [← HC.out, HS.out, if_neg hk0]; simp⟩
            case measure => simp [intOf]; omega
        · have hke : dropF l k = .nil := dropF_len l k (by omega)
          have hC := HC.out
          rw [hke, textF, List.append_nil] at hC
          subst hC
          clear HC
          have g2 : wr.cell? ⟨bf, 2, none⟩ = some (.string (mk (endOf op))) := by rw [Lib.cell_of_heap HG.out.1]; rfl
          go_wp2_with fail
          go_still_tail 5, (by kernel_rfl)
          change wpList _ _ _ _ _ wr.drew
          have hG1 := HG.out.drew
          clear g2 HG
          generalize wr.drew = w4 at *
          have HG1 := Lib.hid hG1
          clear hG1
          go_wp2_with fail
          refine (ws_any b _ (mk (endOf op)) _ HG1.out.2.2.2.1 (by rw [size_mk]; (try simp only [List.length_append]); (try simp only [List.length_cons, List.length_nil]); omega)).mono ?_
          rintro e w5 ⟨rfl, y1, y2, y3⟩
          have hG5 := HG1.out.write y1 y2 y3
          rw [bl_mk] at hG5
          have HG5 := Lib.hid hG5
          clear hG5 y1 y2 y3 HG1
          go_wp2_with fail
          have hout : txt ++ brk (decide (rankOf op < least)) (textE op n l) = txt ++ beginOf op ++ textF l op 0 ++ endOf op := by
            simp [d1, brk, textE, body, if_neg (show ¬ op = 1 by omega), if_neg (show ¬ op = 2 by omega), if_neg (show ¬ op = 3 by omega)]
          rw [hout]
          exact ⟨_, results_none rfl _ _ _, rfl, HG5.out.2.2.2.1, HG5.out.2.2.2.2.1, HG5.out.2.2.2.2.2⟩
end Go.Proofs.YtomnjamldbficaaGreatDoor
