/-
  Plain: rules of reading, for tokens that cannot be read too.
-/
import Derived.Test.YtomnjamldbficaaGreatDoorPrtRead
namespace Go.Proofs.YtomnjamldbficaaGreatDoor
namespace Px
open Lx
/-- with enough steps it is this -/
def Ev (E : Nat → Option Res) (r : Res) : Prop := ∃ f0, ∀ f, f0 ≤ f → E f = some r
theorem Ev_pure (r : Res) : Ev (fun _ => some r) r := ⟨0, fun _ _ => rfl⟩
theorem Ev_rd {n : Nat} {acc : Option Ex} {ts : List Bytes} {r : Res} (h : Rd n acc ts r) : Ev (fun f => rd f n acc ts) r := by
  obtain ⟨f, hf⟩ := h
  exact ⟨f, fun g hg => rd_ge hf hg⟩
theorem Ev_bnd {n : Nat} {acc : Option Ex} {ts s : List Bytes} {e : Ex} {K : Nat → Ex → List Bytes → Option Res} {r : Res} (h : Rd n acc ts (.ok e s)) (hk : Ev (fun f => K f e s) r) : Ev (fun f => bnd (rd f n acc ts) (K f)) r := by
  obtain ⟨f, hf⟩ := Ev_rd h
  obtain ⟨g, hg⟩ := hk
  refine ⟨max f g, fun x hx => ?_⟩
  have h1 : rd x n acc ts = some (.ok e s) := hf x (by omega)
  show bnd (rd x n acc ts) (K x) = some r
  rw [h1]
  exact hg x (by omega)
theorem Ev_bnd_no {n : Nat} {acc : Option Ex} {ts s : List Bytes} {K : Nat → Ex → List Bytes → Option Res} (h : Rd n acc ts (.no s)) : Ev (fun f => bnd (rd f n acc ts) (K f)) (.no s) := by
  obtain ⟨f, hf⟩ := Ev_rd h
  refine ⟨f, fun x hx => ?_⟩
  have h1 : rd x n acc ts = some (.no s) := hf x hx
  show bnd (rd x n acc ts) (K x) = _
  rw [h1]
  rfl
theorem Ev_mst {t : Bytes} {ts : List Bytes} {K : Nat → List Bytes → Option Res} {r : Res} (hk : Ev (fun f => K f ts) r) : Ev (fun f => mst t (t :: ts) (K f)) r := by
  obtain ⟨g, hg⟩ := hk
  exact ⟨g, fun x hx => by simp only [mst, if_true]; exact hg x hx⟩
theorem Ev_mst_no {t : Bytes} {ts : List Bytes} {K : Nat → List Bytes → Option Res} (h : ts.head? ≠ some t) : Ev (fun f => mst t ts (K f)) (.no ts) := by
  refine ⟨0, fun x _ => ?_⟩
  cases ts with
  | nil => rfl
  | cons u r =>
    have : ¬ u = t := by simpa using h
    simp only [mst, if_neg this]
theorem Rd_of' {n : Nat} {acc : Option Ex} {ts : List Bytes} {r : Res} {E : Nat → Option Res} (he : ∀ f, stepR (rd f) n acc ts = E f) (h : Ev E r) : Rd n acc ts r := by
  obtain ⟨g, hg⟩ := h
  exact ⟨g + 1, (he g).trans (hg g (Nat.le_refl _))⟩
theorem Rd_of {n : Nat} {acc : Option Ex} {ts : List Bytes} {r : Res} (h : Ev (fun f => stepR (rd f) n acc ts) r) : Rd n acc ts r := by
  obtain ⟨g, hg⟩ := h
  exact ⟨g + 1, hg g (Nat.le_refl _)⟩
/-! the rules of each level -/
theorem Rd_if_of {ts : List Bytes} {r : Res} (h : Ev (fun f => bnd (rd f 0 none ts) fun a r => mst kThen r fun r => bnd (rd f 0 none r) fun b r => mst kElse r fun r => bnd (rd f 0 none r) fun c r => some (.ok (triE 10 a b c) r)) r) : Rd 0 none (kIf :: ts) r := by
  refine Rd_of' (fun f => ?_) h
  simp only [stepR, List.head?_cons, List.tail_cons, if_true]
theorem Rd_left_no {n : Nat} (h0 : n ≠ 0) (h3 : n ≠ 3) (h5 : n ≤ 5) {ts s : List Bytes} (h1 : Rd (n + 1) none ts (.no s)) : Rd n none ts (.no s) := by
  refine Rd_of' (fun f => ?_) (Ev_bnd_no h1 (K := fun f e r => rd f n (some e) r))
  simp only [stepR]
  rw [if_neg h0, if_neg h3, if_pos h5]
theorem Rd_loop_no {n : Nat} {e : Ex} {u : Bytes} {ts s : List Bytes} (ho : opAt n u ≠ 0) (h1 : Rd (n + 1) none ts (.no s)) : Rd n (some e) (u :: ts) (.no s) := by
  refine Rd_of' (fun f => ?_) (Ev_bnd_no h1 (K := fun f b r' => rd f n (some (pairE (opAt n u) e b)) r'))
  simp only [stepR]
  rw [if_neg ho]
theorem Rd_not_no {ts s : List Bytes} (h1 : Rd 3 none ts (.no s)) : Rd 3 none (kNot :: ts) (.no s) := by
  refine Rd_of' (fun f => ?_) (Ev_bnd_no h1 (K := fun _ e r => some (.ok (oneE 15 e) r)))
  simp only [stepR, List.head?_cons, List.tail_cons, if_true]
  rw [if_neg (by decide)]
theorem Rd_sum_no {ts s : List Bytes} (h : ts.head? ≠ some kNot) (h1 : Rd 4 none ts (.no s)) : Rd 3 none ts (.no s) := by
  refine Rd_of' (fun f => ?_) (Ev_bnd_no h1 (K := fun f e r => match r with
        | [] => some (.ok e [])
        | u :: r' => if opAt 3 u = 0 then some (.ok e (u :: r')) else bnd (rd f 4 none r') fun b r'' => some (.ok (pairE (opAt 3 u) e b) r'')))
  simp only [stepR, if_true]
  rw [if_neg (by decide), if_neg h]
  rfl
theorem Rd_cmp_no {ts r s : List Bytes} {u : Bytes} {e : Ex} (h : ts.head? ≠ some kNot) (h1 : Rd 4 none ts (.ok e (u :: r))) (ho : opAt 3 u ≠ 0) (h2 : Rd 4 none r (.no s)) : Rd 3 none ts (.no s) := by
  refine Rd_of' (fun f => ?_) (Ev_bnd h1 (K := fun f e r => match r with
        | [] => some (.ok e [])
        | u :: r' => if opAt 3 u = 0 then some (.ok e (u :: r')) else bnd (rd f 4 none r') fun b r'' => some (.ok (pairE (opAt 3 u) e b) r'')) ?_)
  · simp only [stepR, if_true]
    rw [if_neg (by decide), if_neg h]
    rfl
  · simp only [if_neg ho]
    exact Ev_bnd_no h2
theorem Rd_atom_nil : Rd 6 none [] (.no []) := ⟨1, rfl⟩
theorem Rd_both_of {t : Bytes} {ts : List Bytes} {r : Res} (h2 : kindOf t ≠ 2) (h3 : kindOf t ≠ 3) (hv : ¬ varOf t > 0) (hb : bothOf t > 0)
    (h : Ev (fun f => mst [40] ts fun r => bnd (rd f 0 none r) fun a r => mst [44] r fun r => bnd (rd f 0 none r) fun b r => mst [41] r fun r => some (.ok (pairE (bothOf t) a b) r)) r) : Rd 6 none (t :: ts) r := by
  refine Rd_of' (fun f => ?_) h
  simp only [stepR]
  rw [if_neg (by decide), if_neg (by decide), if_neg (by decide)]
  simp only [if_neg h2, if_neg h3, if_neg hv, if_pos hb]
theorem Rd_brk_of {t : Bytes} {ts : List Bytes} {r : Res} (h2 : kindOf t ≠ 2) (h3 : kindOf t ≠ 3) (hv : ¬ varOf t > 0) (hb : ¬ bothOf t > 0)
    (h : Ev (fun f => mst [40] (t :: ts) fun r => bnd (rd f 0 none r) fun e r => mst [41] r fun r => some (.ok e r)) r) : Rd 6 none (t :: ts) r := by
  refine Rd_of' (fun f => ?_) h
  simp only [stepR]
  rw [if_neg (by decide), if_neg (by decide), if_neg (by decide)]
  simp only [if_neg h2, if_neg h3, if_neg hv, if_neg hb]
theorem Rd_var' {t : Bytes} (r : List Bytes) (h2 : kindOf t ≠ 2) (h3 : kindOf t ≠ 3) (hv : varOf t > 0) : Rd 6 none (t :: r) (.ok ((3, varOf t), .nil) r) := ⟨1, by
  simp only [rd_succ, stepR]
  rw [if_neg (by decide), if_neg (by decide), if_neg (by decide)]
  rw [if_neg h2, if_neg h3, if_pos hv]⟩
end Px
end Go.Proofs.YtomnjamldbficaaGreatDoor
