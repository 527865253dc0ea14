/-
  Several texts in one: ParFg, ParFh, ParFi, ParFl, ParFj.
-/
import Derived.Test.YtomnjamldbficaaGreatDoorParFf
import Derived.Test.YtomnjamldbficaaGreatDoorParW11
namespace Go.Proofs.YtomnjamldbficaaGreatDoor
open Go.RowKit Lx Px
/-- the operator of the next token, of a parser that may have failed -/
def opB (ts : List Tok) (p : Nat × Bool) (n : Nat) : Int := if p.2 then 0 else Px.opAt n (nxt ts p.1)
theorem op_q (w : World) (v : Value) (ts : List Tok) (p : Nat × Bool) (n : Nat) (h1 : 1 ≤ n) (h5 : n ≤ 5) (h : Tk w v ts) :
    Calls Tryz.prog 109 #[.agg #[v, .int .i64 (p.1 : Nat), .bool p.2], .int .i64 n] w fun e w' => e = .returned (.int .i64 (opB ts p n)) ∧ Below w.heap.size w w' := by
  obtain ⟨k, b⟩ := p
  cases b with
  | true => exact op_bad w v ts k n h
  | false => exact op8_any w v ts k n h1 h5 h
/-- how the parts of a level come to an outcome -/
structure LvC (v : Value) (ts : List Tok) (k n : Nat) (o : Out) (G : Ex → Nat → Prop) : Prop where
  first : ∃ o0, okK ts k o0 ∧ (∀ W, Tk W v ts → Calls Tryz.prog 76 #[.agg #[v, .int .i64 k, .bool false], .int .i64 ((n : Int) + 1)] W (RfP v o0 W)) ∧ (∀ j, o0 = .no j → o = .no j) ∧ ∀ x j, o0 = .ok x j → G x j
  fin : ∀ x j, G x j → Px.opAt n (nxt ts j) = 0 → o = .ok x j
  step : ∀ x j, G x j → k ≤ j → j < ts.length → Px.opAt n (nxt ts j) ≠ 0 → ∃ o2, okK ts (j + 1) o2 ∧ (∀ W, Tk W v ts → Calls Tryz.prog 76 #[.agg #[v, .int .i64 ((j : Int) + 1), .bool false], .int .i64 ((n : Int) + 1)] W (RfP v o2 W)) ∧
    (∀ i, o2 = .no i → o = .no i) ∧ ∀ y i, o2 = .ok y i → (if n = 3 then o = .ok (pairE (Px.opAt n (nxt ts j)) x y) i else G (pairE (Px.opAt n (nxt ts j)) x y) i)
/-- what holds in the loop of a level -/
structure LvI (w : World) (v : Value) (ts : List Tok) (k b9 : Nat) (G : Ex → Nat → Prop) (o : Out) (p : Nat × Bool) (a a2 : Int) (A : Option Addr) (m c : Nat) (W : World) : Prop where
  q : Bq w v p W
  e : W.heap[b9]? = some (.cells #[.int .i64 a, .int .i64 a2, .slice A m c] 24 (0, 0))
  le : k ≤ p.1
  ge : p.1 ≤ ts.length
  bad : p.2 = true → o = .no p.1
  good : p.2 = false → ∃ x : Ex, a = x.1.1 ∧ a2 = x.1.2 ∧ m = flen x.2 ∧ FoD W (fun b => w.heap.size + 1 + 1 < b ∧ b ≠ b9 ∧ b < W.heap.size) (.slice A m c) x.2 ∧ G x p.1
theorem LvI.on {w W W' : World} {v : Value} {ts : List Tok} {k b9 : Nat} {G : Ex → Nat → Prop} {o : Out} {p : Nat × Bool} {a a2 : Int} {A : Option Addr} {m c : Nat} (h : LvI w v ts k b9 G o p a a2 A m c W) (hb : Below W.heap.size W W') : LvI w v ts k b9 G o p a a2 A m c W' :=
  ⟨h.q.on hb, (hb.block _ (Array.getElem?_eq_some_iff.1 h.e).1).trans h.e, h.le, h.ge, h.bad, fun e => by
    obtain ⟨x, e1, e2, e3, e4, e5⟩ := h.good e
    have := hb.size
    exact ⟨x, e1, e2, e3, e4.keep (fun b q => ⟨q.1, q.2.1, by have := q.2.2; omega⟩) (fun b q => hb.block b q.2.2), e5⟩⟩
theorem LvI.ret {w W : World} {v : Value} {ts : List Tok} {k b9 : Nat} {G : Ex → Nat → Prop} {o : Out} {p : Nat × Bool} {a a2 : Int} {A : Option Addr} {m c : Nat} (h : LvI w v ts k b9 G o p a a2 A m c W) (hf : p.2 = false → ∀ x, G x p.1 → o = .ok x p.1) :
    RfP v o w (.returned (.tuple #[.agg #[v, .int .i64 (p.1 : Nat), .bool p.2], .agg #[.int .i64 a, .int .i64 a2, .slice A m c]]))
      ((((((W.setCell ⟨w.heap.size + 1, 0, none⟩ v).setCell ⟨w.heap.size + 1, 1, none⟩ (.int .i64 (p.1 : Nat))).setCell ⟨w.heap.size + 1, 2, none⟩ (.bool p.2)).setCell ⟨w.heap.size + 1 + 1, 0, none⟩ (.int .i64 a)).setCell ⟨w.heap.size + 1 + 1, 1, none⟩ (.int .i64 a2)).setCell ⟨w.heap.size + 1 + 1, 2, none⟩ (.slice A m c)) := by
  have q1 : w.heap.size ≤ w.heap.size + 1 := by omega
  have q2 : w.heap.size ≤ w.heap.size + 1 + 1 := by omega
  have hbl := (((((h.q.b.setCell (p := ⟨w.heap.size + 1, 0, none⟩) q1 v).setCell (p := ⟨w.heap.size + 1, 1, none⟩) q1 (.int .i64 (p.1 : Nat))).setCell (p := ⟨w.heap.size + 1, 2, none⟩) q1 (.bool p.2)).setCell (p := ⟨w.heap.size + 1 + 1, 0, none⟩) q2 (.int .i64 a)).setCell (p := ⟨w.heap.size + 1 + 1, 1, none⟩) q2 (.int .i64 a2)).setCell (p := ⟨w.heap.size + 1 + 1, 2, none⟩) q2 (.slice A m c)
  obtain ⟨j, b⟩ := p
  cases b with
  | true =>
    have ho := h.bad rfl
    subst ho
    exact ⟨hbl, a, a2, A, m, c, rfl⟩
  | false =>
    obtain ⟨x, rfl, rfl, rfl, hF, hG⟩ := h.good rfl
    have ho := hf rfl x hG
    subst ho
    refine ⟨hbl, A, c, rfl, hF.keep (fun b q => ⟨by have := q.1; omega, by rw [size_set3, size_set3]; exact q.2.2⟩) (fun b q => ?_)⟩
    have := q.1
    exact (heap_far3 (by omega) _ _ _).trans (heap_far3 (by omega) _ _ _)
/-- the index of a parser in its box -/
def idxAt (b : Nat) (w : World) : Nat := match w.cell? ⟨b, 1, none⟩ with
  | some (.int _ x) => x.toNat
  | _ => 0
theorem LvI.idx {w W : World} {v : Value} {ts : List Tok} {k b9 : Nat} {G : Ex → Nat → Prop} {o : Out} {p : Nat × Bool} {a a2 : Int} {A : Option Addr} {m c : Nat} (h : LvI w v ts k b9 G o p a a2 A m c W) : idxAt w.heap.size W = p.1 := by
  have := (three_cells h.q.x).2.1
  simp [idxAt, this]
end Go.Proofs.YtomnjamldbficaaGreatDoor
namespace Go.Proofs.YtomnjamldbficaaGreatDoor
open Go.RowKit Lx Px
/-- a level is read from a token on -/
def LvF (n : Nat) (v : Value) (ts : List Tok) (k : Nat) : Prop :=
  ∃ o : Out, Rd n none (txt ts k) (o.res ts) ∧ okK ts k o ∧ ∀ W, Tk W v ts → Calls Tryz.prog 76 #[.agg #[v, .int .i64 k, .bool false], .int .i64 n] W (RfP v o W)
theorem cast1 (n : Nat) : ((n + 1 : Nat) : Int) = (n : Int) + 1 := by omega
theorem lvl_left (n : Nat) (hn : lft n) (v : Value) (ts : List Tok) (k : Nat) (hk : k ≤ ts.length) (hg : ∀ k', k ≤ k' → k' ≤ ts.length → LvF (n + 1) v ts k') :
    ∃ o G, Rd n none (txt ts k) (o.res ts) ∧ okK ts k o ∧ LvC v ts k n o G := by
  have hn' : n ≠ 0 ∧ n ≠ 3 ∧ n ≤ 5 := by unfold lft at hn; omega
  obtain ⟨o0, hr0, ho0, hc0⟩ := hg k (Nat.le_refl _) hk
  rw [cast1] at hc0
  cases o0 with
  | no k0 =>
    refine ⟨.no k0, fun _ _ => False, Rd_left_no hn'.1 hn'.2.1 hn'.2.2 hr0, ho0, ⟨⟨.no k0, ho0, hc0, fun j e => e, fun x j e => by cases e⟩, fun x j h => h.elim, fun x j h => h.elim⟩⟩
  | ok e0 k0 =>
    obtain ⟨o, hro, hko⟩ := loop_out ts n (ts.length - k0) k0 e0 (Nat.le_refl _) ho0.2 (fun k' h1 h2 => by
      obtain ⟨o, h3, h4, _⟩ := hg k' (by have := ho0.1; omega) h2
      exact ⟨o, h3, h4⟩)
    have hok : okK ts k o := by
      have := ho0.1
      cases o with
      | ok e' k' => exact ⟨by have := hko.1; omega, hko.2⟩
      | no k' => exact ⟨by have := hko.1; omega, hko.2⟩
    refine ⟨o, fun x j => j ≤ ts.length ∧ Rd n (some x) (txt ts j) (o.res ts), Rd_left hn'.1 hn'.2.1 hn'.2.2 hr0 hro, hok, ⟨⟨.ok e0 k0, ho0, hc0, fun j e => (by cases e), fun x j e => ?_⟩, fun x j h h0 => ?_, fun x j h hkj hj h0 => ?_⟩⟩
    · injection e with e1 e2
      subst e1 e2
      exact ⟨ho0.2, hro⟩
    · exact res_ok (Rd_det h.2 (loop_end x h0)) h.1 hok
    · obtain ⟨o2, hr2, ho2, hc2⟩ := hg (j + 1) (by omega) (by omega)
      rw [cast1, cast1] at hc2
      refine ⟨o2, ho2, hc2, fun i e => ?_, fun y i e => ?_⟩
      · subst e
        exact res_no (Rd_det h.2 (by rw [txt_nxt hj]; exact Rd_loop_no h0 hr2)) ho2.2 hok
      · subst e
        rw [if_neg hn'.2.1]
        have h21 := ho2.1
        have h22 := ho2.2
        obtain ⟨o3, hr3, hk3⟩ := loop_out ts n (ts.length - i) i (pairE (Px.opAt n (nxt ts j)) x y) (Nat.le_refl _) h22 (fun k' h1 h2 => by
          obtain ⟨o, h3, h4, _⟩ := hg k' (by omega) h2
          exact ⟨o, h3, h4⟩)
        refine ⟨h22, ?_⟩
        have h5 := Rd_loop (e := x) h0 hr2 hr3
        rw [← txt_nxt hj] at h5
        rw [Rd_det h.2 h5]
        exact hr3
theorem lvl_cmp (v : Value) (ts : List Tok) (k : Nat) (hk : k ≤ ts.length) (hn : nxt ts k ≠ kNot) (hg : ∀ k', k ≤ k' → k' ≤ ts.length → LvF 4 v ts k') :
    ∃ o G, Rd 3 none (txt ts k) (o.res ts) ∧ okK ts k o ∧ LvC v ts k 3 o G := by
  obtain ⟨o0, hr0, ho0, hc0⟩ := hg k (Nat.le_refl _) hk
  cases o0 with
  | no k0 =>
    exact ⟨.no k0, fun _ _ => False, Rd_sum_no (head_ne hn) hr0, ho0, ⟨⟨.no k0, ho0, hc0, fun j e => e, fun x j e => by cases e⟩, fun x j h => h.elim, fun x j h => h.elim⟩⟩
  | ok x k1 =>
    have h01 := ho0.1
    have h02 := ho0.2
    by_cases h0 : Px.opAt 3 (nxt ts k1) = 0
    · refine ⟨.ok x k1, fun y j => y = x ∧ j = k1, Rd_sum (head_ne hn) hr0 (fun u r hu => ?_), ho0, ⟨⟨.ok x k1, ho0, hc0, fun j e => (by cases e), fun y j e => ?_⟩, fun y j h _ => by rw [h.1, h.2], fun y j h _ _ h3 => ?_⟩⟩
      · by_cases hlt : k1 < ts.length
        · rw [txt_nxt hlt] at hu
          injection hu with hu _
          rw [← hu]; exact h0
        · rw [txt_end ts k1 (by omega)] at hu; cases hu
      · injection e with e1 e2; exact ⟨e1.symm, e2.symm⟩
      · exact absurd h0 (by rw [h.2] at h3; exact h3)
    · have hlt := op_lt h0
      have htx1 : txt ts k1 = nxt ts k1 :: txt ts (k1 + 1) := txt_nxt hlt
      have hr0' : Rd 4 none (txt ts k) (.ok x (nxt ts k1 :: txt ts (k1 + 1))) := by rw [← htx1]; exact hr0
      obtain ⟨o2, hr2, ho2, hc2⟩ := hg (k1 + 1) (by omega) (by omega)
      rw [cast1] at hc2
      cases o2 with
      | no k2 =>
        refine ⟨.no k2, fun y j => y = x ∧ j = k1, Rd_cmp_no (head_ne hn) hr0' h0 hr2, ⟨by have := ho2.1; omega, ho2.2⟩, ⟨⟨.ok x k1, ho0, hc0, fun j e => (by cases e), fun y j e => ?_⟩, fun y j h h3 => ?_, fun y j h _ _ _ => ?_⟩⟩
        · injection e with e1 e2; exact ⟨e1.symm, e2.symm⟩
        · exact absurd h3 (by rw [h.2]; exact h0)
        · obtain ⟨rfl, rfl⟩ := h
          exact ⟨.no k2, ho2, hc2, fun i e => e, fun z i e => by cases e⟩
      | ok z k2 =>
        refine ⟨.ok (pairE (Px.opAt 3 (nxt ts k1)) x z) k2, fun y j => y = x ∧ j = k1, Rd_cmp (head_ne hn) hr0' h0 hr2, ⟨by have := ho2.1; omega, ho2.2⟩, ⟨⟨.ok x k1, ho0, hc0, fun j e => (by cases e), fun y j e => ?_⟩, fun y j h h3 => ?_, fun y j h _ _ _ => ?_⟩⟩
        · injection e with e1 e2; exact ⟨e1.symm, e2.symm⟩
        · exact absurd h3 (by rw [h.2]; exact h0)
        · obtain ⟨rfl, rfl⟩ := h
          refine ⟨.ok z k2, ho2, hc2, fun i e => (by cases e), fun y' i e => ?_⟩
          injection e with e1 e2
          subst e1 e2
          rw [if_pos rfl]
end Go.Proofs.YtomnjamldbficaaGreatDoor
namespace Go.Proofs.YtomnjamldbficaaGreatDoor
open Go.RowKit Lx Px
def ifO (ex : Nat → Out) (ts : List Tok) (k : Nat) : Out :=
  bndO (ex (k + 1)) fun a j => mstO ts kThen j fun j => bndO (ex j) fun b j => mstO ts kElse j fun j => bndO (ex j) fun c j => .ok (triE 10 a b c) j
theorem if_eq (ex : Nat → Out) (ts : List Tok) (k : Nat) {p2 p3 : Nat × Bool} {o1 o2 o3 : Out} (h1 : o1 = ex (k + 1)) (h2 : p2 = musS ts kThen (stO o1)) (h3 : o2 = xbO ex p2.1 p2.2) (h4 : p3 = musS ts kElse (stO o2)) (h5 : o3 = xbO ex p3.1 p3.2) :
    ifO ex ts k = if (stO o3).2 then .no (stO o3).1 else .ok (triE 10 (treO o1) (treO o2) (treO o3)) (stO o3).1 := by
  unfold ifO
  rw [← h1]
  cases o1 with
  | no j =>
    have e2 : p2 = (j, true) := h2
    subst e2
    have e3 : o2 = .no j := h3
    subst e3
    have e4 : p3 = (j, true) := h4
    subst e4
    have e5 : o3 = .no j := h5
    subst e5
    rfl
  | ok a j =>
    simp only [bndO, mstO]
    by_cases a1 : nxt ts j = kThen
    · have e2 : p2 = (j + 1, false) := by rw [h2]; exact musS_yes (by decide) a1
      subst e2
      rw [if_pos a1]
      have e3 : o2 = ex (j + 1) := h3
      rw [← e3]
      cases o2 with
      | no j2 =>
        have e4 : p3 = (j2, true) := h4
        subst e4
        have e5 : o3 = .no j2 := h5
        subst e5
        rfl
      | ok b j2 =>
        dsimp only
        by_cases a2 : nxt ts j2 = kElse
        · have e4 : p3 = (j2 + 1, false) := by rw [h4]; exact musS_yes (by decide) a2
          subst e4
          rw [if_pos a2]
          have e5 : o3 = ex (j2 + 1) := h5
          rw [← e5]
          cases o3 <;> rfl
        · have e4 : p3 = (j2, true) := by rw [h4]; exact musS_no (by decide) a2
          subst e4
          have e5 : o3 = .no j2 := h5
          subst e5
          rw [if_neg a2]
          rfl
    · have e2 : p2 = (j, true) := by rw [h2]; exact musS_no (by decide) a1
      subst e2
      have e3 : o2 = .no j := h3
      subst e3
      have e4 : p3 = (j, true) := h4
      subst e4
      have e5 : o3 = .no j := h5
      subst e5
      rw [if_neg a1]
      rfl
/-- all trees are there, if the parser did not fail -/
theorem if_ok {ts : List Tok} {ex : Nat → Out} {p2 p3 : Nat × Bool} {o1 o2 o3 : Out} (h2 : p2 = musS ts kThen (stO o1)) (h3 : o2 = xbO ex p2.1 p2.2) (h4 : p3 = musS ts kElse (stO o2)) (h5 : o3 = xbO ex p3.1 p3.2) (hf : (stO o3).2 = false) :
    (∃ x j, o1 = .ok x j) ∧ (∃ x j, o2 = .ok x j) ∧ ∃ x j, o3 = .ok x j := by
  cases o3 with
  | no j => cases hf
  | ok x3 j3 =>
    cases o2 with
    | no j2 =>
      have e4 : p3 = (j2, true) := h4
      subst e4
      have e5 : Out.ok x3 j3 = .no j2 := h5
      cases e5
    | ok x2 j2 =>
      cases o1 with
      | no j1 =>
        have e2 : p2 = (j1, true) := h2
        subst e2
        have e3 : Out.ok x2 j2 = .no j1 := h3
        cases e3
      | ok x1 j1 => exact ⟨⟨x1, j1, rfl⟩, ⟨x2, j2, rfl⟩, x3, j3, rfl⟩
/-- a tree in a box of its own -/
structure TrB (w : World) (b : Nat) (o : Out) (a1 a2 : Int) (A : Option Addr) (n c : Nat) (W : World) : Prop where
  e : W.heap[b]? = some (.cells #[.int .i64 a1, .int .i64 a2, .slice A n c] 24 (0, 0))
  lo : w.heap.size + 1 + 1 < b
  t : ∀ x j, o = .ok x j → a1 = x.1.1 ∧ a2 = x.1.2 ∧ n = flen x.2 ∧ FoD W (fun d => w.heap.size + 1 + 1 < d ∧ d < b) (.slice A n c) x.2
theorem TrB.hi {w W : World} {b : Nat} {o : Out} {a1 a2 : Int} {A : Option Addr} {n c : Nat} (h : TrB w b o a1 a2 A n c W) : b < W.heap.size := (Array.getElem?_eq_some_iff.1 h.e).1
theorem TrB.far {w W W' : World} {b : Nat} {o : Out} {a1 a2 : Int} {A : Option Addr} {n c : Nat} (h : TrB w b o a1 a2 A n c W) (hk : ∀ d, w.heap.size + 1 + 1 < d → d ≤ b → W'.heap[d]? = W.heap[d]?) : TrB w b o a1 a2 A n c W' :=
  ⟨(hk b h.lo (Nat.le_refl _)).trans h.e, h.lo, fun x j e => by
    obtain ⟨e1, e2, e3, e4⟩ := h.t x j e
    exact ⟨e1, e2, e3, e4.keep (fun d q => q) (fun d q => hk d q.1 (by have := q.2; omega))⟩⟩
theorem TrB.on {w W W' : World} {b : Nat} {o : Out} {a1 a2 : Int} {A : Option Addr} {n c : Nat} (h : TrB w b o a1 a2 A n c W) (hb : Below W.heap.size W W') : TrB w b o a1 a2 A n c W' :=
  h.far fun d _ q2 => hb.block d (by have := h.hi; omega)
theorem TrB.set {w W : World} {b : Nat} {o : Out} {a1 a2 : Int} {A : Option Addr} {n c : Nat} (h : TrB w b o a1 a2 A n c W) (x y z : Value) : TrB w b o a1 a2 A n c (((W.setCell ⟨w.heap.size, 0, none⟩ x).setCell ⟨w.heap.size, 1, none⟩ y).setCell ⟨w.heap.size, 2, none⟩ z) :=
  h.far fun d q1 _ => heap_far3 (by omega) _ _ _
theorem TrB.lv {w w3 W : World} {b : Nat} {o : Out} {a1 a2 : Int} {A : Option Addr} {n c : Nat} {v' k' b' a' a2' a3' : Value} (h : TrB w b o a1 a2 A n c w3) (hl : Lv8 w w3 W v' k' b' a' a2' a3') : TrB w b o a1 a2 A n c W :=
  h.far fun d q1 q2 => hl.far d (by have := h.hi; omega) (by omega)
theorem TrB.new {w w4 w5 W : World} {o : Out} {a1 a2 : Int} {A : Option Addr} {n c : Nat} {v' k' b' : Value} (hl : Lv8 w w5 W v' k' b' (.int .i64 a1) (.int .i64 a2) (.slice A n c)) (h4 : w.heap.size + 1 + 1 < w4.heap.size) (hb : Below w4.heap.size w4 w5)
    (ht : ∀ x j, o = .ok x j → a1 = x.1.1 ∧ a2 = x.1.2 ∧ n = flen x.2 ∧ FoD w5 (fun b => w4.heap.size ≤ b ∧ b < w5.heap.size) (.slice A n c) x.2) : TrB w w5.heap.size o a1 a2 A n c W :=
  ⟨hl.n, by have := hb.size; omega, fun x j e => by
    obtain ⟨e1, e2, e3, e4⟩ := ht x j e
    exact ⟨e1, e2, e3, e4.keep (fun d q => ⟨by have := q.1; omega, q.2⟩) (fun d q => hl.far d q.2 (by have := q.1; omega))⟩⟩
theorem TrB.three {w W : World} {b : Nat} {o : Out} {a1 a2 : Int} {A : Option Addr} {n c : Nat} (h : TrB w b o a1 a2 A n c W) : W.cell? ⟨b, 0, none⟩ = some (.int .i64 a1) ∧ W.cell? ⟨b, 1, none⟩ = some (.int .i64 a2) ∧ W.cell? ⟨b, 2, none⟩ = some (.slice A n c) := by
  refine ⟨?_, ?_, ?_⟩ <;> (rw [Lib.cell_of_heap h.e]; rfl)
theorem ifO_rd {ts : List Tok} {ex : Nat → Out} {k : Nat} (hi : nxt ts k = kIf) (he : ∀ k', k < k' → k' ≤ ts.length → Rd 0 none (txt ts k') ((ex k').res ts) ∧ okK ts k' (ex k')) :
    Rd 0 none (txt ts k) ((ifO ex ts k).res ts) ∧ okK ts k (ifO ex ts k) := by
  have hlt := nxt_lt hi (by decide)
  have htx : txt ts k = kIf :: txt ts (k + 1) := by rw [txt_nxt hlt, hi]
  rw [htx]
  unfold ifO
  obtain ⟨hr1, ho1⟩ := he (k + 1) (by omega) (by omega)
  cases hx1 : ex (k + 1) with
  | no k2 =>
    rw [hx1] at hr1 ho1
    exact ⟨Rd_if_of (Ev_bnd_no hr1), ⟨by have := ho1.1; omega, ho1.2⟩⟩
  | ok a k1 =>
    rw [hx1] at hr1 ho1
    have h11 := ho1.1
    have h12 := ho1.2
    simp only [bndO, mstO]
    by_cases ht : nxt ts k1 = kThen
    · have hlt1 := nxt_lt ht (by decide)
      have htx1 : txt ts k1 = kThen :: txt ts (k1 + 1) := by rw [txt_nxt hlt1, ht]
      have hr1' : Rd 0 none (txt ts (k + 1)) (.ok a (kThen :: txt ts (k1 + 1))) := by rw [← htx1]; exact hr1
      obtain ⟨hr2, ho2⟩ := he (k1 + 1) (by omega) (by omega)
      rw [if_pos ht]
      cases hx2 : ex (k1 + 1) with
      | no k2 =>
        rw [hx2] at hr2 ho2
        exact ⟨Rd_if_of (Ev_bnd hr1' (Ev_mst (Ev_bnd_no hr2))), ⟨by have := ho2.1; omega, ho2.2⟩⟩
      | ok b k2 =>
        rw [hx2] at hr2 ho2
        have h21 := ho2.1
        have h22 := ho2.2
        dsimp only
        by_cases hl : nxt ts k2 = kElse
        · have hlt2 := nxt_lt hl (by decide)
          have htx2 : txt ts k2 = kElse :: txt ts (k2 + 1) := by rw [txt_nxt hlt2, hl]
          have hr2' : Rd 0 none (txt ts (k1 + 1)) (.ok b (kElse :: txt ts (k2 + 1))) := by rw [← htx2]; exact hr2
          obtain ⟨hr3, ho3⟩ := he (k2 + 1) (by omega) (by omega)
          rw [if_pos hl]
          cases hx3 : ex (k2 + 1) with
          | no k3 =>
            rw [hx3] at hr3 ho3
            exact ⟨Rd_if_of (Ev_bnd hr1' (Ev_mst (Ev_bnd hr2' (Ev_mst (Ev_bnd_no hr3))))), ⟨by have := ho3.1; omega, ho3.2⟩⟩
          | ok c k3 =>
            rw [hx3] at hr3 ho3
            exact ⟨Rd_if hr1' hr2' hr3, ⟨by have := ho3.1; omega, ho3.2⟩⟩
        · rw [if_neg hl]
          exact ⟨Rd_if_of (Ev_bnd hr1' (Ev_mst (Ev_bnd hr2 (Ev_mst_no (head_ne hl))))), ⟨by omega, h22⟩⟩
    · rw [if_neg ht]
      exact ⟨Rd_if_of (Ev_bnd hr1 (Ev_mst_no (head_ne ht))), ⟨by omega, h12⟩⟩
end Go.Proofs.YtomnjamldbficaaGreatDoor
namespace Go.Proofs.YtomnjamldbficaaGreatDoor
open Go.RowKit Lx Px
/-- the state behind a number, and this -/
def numS (ts : List Tok) (p : Nat × Bool) : (Nat × Bool) × Int :=
  if p.2 = false ∧ p.1 < ts.length ∧ kindOf (nxt ts p.1) = 2 then ((p.1 + 1, false), dval (nxt ts p.1)) else ((p.1, true), 0)
theorem numS_le {ts : List Tok} {p : Nat × Bool} (h : p.1 ≤ ts.length) : p.1 ≤ (numS ts p).1.1 ∧ (numS ts p).1.1 ≤ ts.length := by
  unfold numS
  split
  · rename_i hc
    exact ⟨by show p.1 ≤ p.1 + 1; omega, by show p.1 + 1 ≤ ts.length; omega⟩
  · exact ⟨Nat.le_refl _, h⟩
theorem number_q (w : World) (v : Value) (ts : List Tok) (p : Nat × Bool) (h : Tk w v ts) :
    Calls Tryz.prog 115 #[.agg #[v, .int .i64 (p.1 : Nat), .bool p.2]] w fun e w' => e = .returned (.tuple #[.agg #[v, .int .i64 ((numS ts p).1.1 : Nat), .bool (numS ts p).1.2], .int .i64 (numS ts p).2]) ∧ Below w.heap.size w w' := by
  obtain ⟨k, b⟩ := p
  unfold numS
  cases b with
  | true => rw [if_neg (by simp)]; exact number_bad w v ts k h
  | false =>
    by_cases hk : k < ts.length
    · have hki := (h.2.2 ts[k] (List.getElem_mem hk)).1
      dsimp only
      rw [nxt_at ts k hk]
      by_cases h2 : kindOf ts[k].2.2 = 2
      · rw [if_pos ⟨rfl, hk, h2⟩]
        have := number_ok w v ts k hk (by rw [hki]; exact h2) h
        rwa [show (k : Int) + 1 = ((k + 1 : Nat) : Int) by omega] at this
      · rw [if_neg (fun x => h2 x.2.2)]
        exact number_no w v ts k hk (by rw [hki]; exact h2) h
    · rw [if_neg (fun x => hk x.2.1)]; exact number_end w v ts k hk h
/-- the state behind a word and a number, and this -/
def namS (ts : List Tok) (s : Bytes) (p : Nat × Bool) : (Nat × Bool) × Int := numS ts (musS ts s p)
theorem namS_le {ts : List Tok} {s : Bytes} {p : Nat × Bool} (h : p.1 ≤ ts.length) : p.1 ≤ (namS ts s p).1.1 ∧ (namS ts s p).1.1 ≤ ts.length := by
  have h1 := musS_le (s := s) h
  have h2 := numS_le (ts := ts) h1.2
  exact ⟨Nat.le_trans h1.1 h2.1, h2.2⟩
theorem namS_bad (ts : List Tok) (s : Bytes) (j : Nat) : namS ts s (j, true) = ((j, true), 0) := rfl
theorem namS_rd {ts : List Tok} {s : Bytes} (hs : s ≠ []) (k : Nat) : namS ts s (k, false) = match rdNamed s ts k with
    | .ok (n, k') => ((k', false), n)
    | .error j => ((j, true), 0) := by
  unfold namS rdNamed
  by_cases h : nxt ts k = s
  · rw [musS_yes hs h, if_pos h]
    unfold numS
    by_cases h2 : kindOf (nxt ts (k + 1)) = 2
    · rw [if_pos h2, if_pos ⟨rfl, kind_lt h2, h2⟩]
    · rw [if_neg h2, if_neg (fun x => h2 x.2.2)]
  · rw [musS_no hs h, if_neg h]
    rfl
theorem boxes2 (w : World) (o0 o1 : Obj) : ((w.alloc o0).alloc o1).heap[w.heap.size]? = some o0 ∧ ((w.alloc o0).alloc o1).heap[w.heap.size + 1]? = some o1 ∧ Below w.heap.size w ((w.alloc o0).alloc o1) := by
  have e0 := World.alloc_heap_new w o0
  have e1 := World.alloc_heap_new (w.alloc o0) o1
  have s1 : (w.alloc o0).heap.size = w.heap.size + 1 := by simp
  rw [s1] at e1
  exact ⟨heap_on e0 o1, e1, ((Below.refl _ _).alloc (Nat.le_refl _) _).alloc (by omega) _⟩
set_option maxRecDepth 100000 in
set_option maxHeartbeats 1000000 in
theorem named8_any (w : World) (v : Value) (ts : List Tok) (p : Nat × Bool) (s : Bytes) (h : Tk w v ts) (hk : p.1 ≤ ts.length) :
    Calls Tryz.prog 82 #[.agg #[v, .int .i64 (p.1 : Nat), .bool p.2], .string (mk s)] w fun e w' => e = .returned (.tuple #[.agg #[v, .int .i64 ((namS ts s p).1.1 : Nat), .bool (namS ts s p).1.2], .int .i64 (namS ts s p).2]) ∧ Below w.heap.size w w' := by
  have h' := h
  obtain ⟨A, c, rfl, _⟩ := h'.1
  have hl := h.2.1
  obtain ⟨hx, hy, hb⟩ := boxes2 w (.cells #[.slice A ts.length c, .int .i64 (p.1 : Nat), .bool p.2] 76) (.cells #[.slice none 0 0, .int .i64 0, .bool false] 76)
  have H0 := Lib.hid h
  have HB := Lib.hid hb
  have HX := Lib.hid hx
  have HY := Lib.hid hy
  have HM := Lib.hid (fun W (hW : Tk W (.slice A ts.length c) ts) => must_q W _ ts p s hW (by omega))
  have HN := Lib.hid (fun W (hW : Tk W (.slice A ts.length c) ts) => number_q W _ ts (musS ts s p) hW)
  have hr : numS ts (musS ts s p) = namS ts s p := rfl
  rw [hr] at HN
  obtain ⟨r, her⟩ : ∃ r, r = namS ts s p := ⟨_, rfl⟩
  obtain ⟨q, heq⟩ : ∃ q, q = musS ts s p := ⟨_, rfl⟩
  rw [← her, ← heq] at HN
  rw [← heq] at HM
  rw [← her]
  clear h h' hb hx hy hr her heq
  go_enter Tryz.func82, Tryz.ntmps82
  go_upto_region 1 with fail
  generalize (w.alloc (.cells #[.slice A ts.length c, .int .i64 (p.1 : Nat), .bool p.2] 76)).alloc (.cells #[.slice none 0 0, .int .i64 0, .bool false] 76) = w1 at *
  obtain ⟨x0, x1, x2, _, _, _⟩ := three_cells HX.out
  go_wp2_with fail
  refine (HM.out _ (H0.out.on HB.out)).mono ?_
  rintro e w2 ⟨rfl, hb⟩
  have B2 := Lib.hid (bthen' HB.out hb)
  have Y2 := Lib.hid ((hb.block _ (Array.getElem?_eq_some_iff.1 HY.out).1).trans HY.out)
  clear hb x0 x1 x2 HX HY HB HM
  go_wp2_with fail
  refine (HN.out _ (H0.out.on B2.out)).mono ?_
  rintro e w3 ⟨rfl, hb⟩
  have B3 := Lib.hid (bthen' B2.out hb)
  have Y3 := Lib.hid ((hb.block _ (Array.getElem?_eq_some_iff.1 Y2.out).1).trans Y2.out)
  clear hb Y2 B2 HN
  obtain ⟨y0, y1, y2, g0, g1, g2⟩ := three_cells Y3.out
  go_wp2_with fail
  refine bodyPost_ret (v := .tuple #[.agg #[.slice A ts.length c, .int .i64 (r.1.1 : Nat), .bool r.1.2], .int .i64 r.2]) (by simp [results, Tryz.results82, go_sem, y0, y1, y2]) rfl ⟨rfl, ?_⟩
  exact (((B3.out.setCell (p := ⟨w.heap.size + 1, 0, none⟩) (by show w.heap.size ≤ w.heap.size + 1; omega) _).setCell (p := ⟨w.heap.size + 1, 1, none⟩) (by show w.heap.size ≤ w.heap.size + 1; omega) _).setCell (p := ⟨w.heap.size + 1, 2, none⟩) (by show w.heap.size ≤ w.heap.size + 1; omega) _)
end Go.Proofs.YtomnjamldbficaaGreatDoor
namespace Go.Proofs.YtomnjamldbficaaGreatDoor
open Go.RowKit Lx Px
/-- a tree in the box of a level, which is being read on -/
structure LvT (w : World) (v : Value) (b9 : Nat) (x : Ex) (A : Option Addr) (c : Nat) (p : Nat × Bool) (W : World) : Prop where
  q : Bq w v p W
  e : W.heap[b9]? = some (.cells #[.int .i64 x.1.1, .int .i64 x.1.2, .slice A (flen x.2) c] 24 (0, 0))
  t : FoD W (fun b => w.heap.size + 1 + 1 < b ∧ b ≠ b9 ∧ b < W.heap.size) (.slice A (flen x.2) c) x.2
  h : w.heap.size + 1 + 1 < b9
theorem LvT.lt {w W : World} {v : Value} {b9 : Nat} {x : Ex} {A : Option Addr} {c : Nat} {p : Nat × Bool} (h : LvT w v b9 x A c p W) : b9 < W.heap.size := (Array.getElem?_eq_some_iff.1 h.e).1
theorem LvT.far {w W W' : World} {v : Value} {b9 : Nat} {x : Ex} {A : Option Addr} {c : Nat} {p q : Nat × Bool} (h : LvT w v b9 x A c p W) (hq : Bq w v q W') (hs : W.heap.size ≤ W'.heap.size) (hk : ∀ b, w.heap.size + 1 + 1 < b → b < W.heap.size → W'.heap[b]? = W.heap[b]?) : LvT w v b9 x A c q W' :=
  ⟨hq, (hk b9 h.h h.lt).trans h.e, h.t.keep (fun b q => ⟨q.1, q.2.1, by have := q.2.2; omega⟩) (fun b q => hk b q.1 q.2.2), h.h⟩
theorem LvT.on {w W W' : World} {v : Value} {b9 : Nat} {x : Ex} {A : Option Addr} {c : Nat} {p : Nat × Bool} (h : LvT w v b9 x A c p W) (hb : Below W.heap.size W W') : LvT w v b9 x A c p W' :=
  h.far (h.q.on hb) hb.size (fun b _ q => hb.block b q)
theorem LvT.inc {w W : World} {v : Value} {b9 : Nat} {x : Ex} {A : Option Addr} {c k : Nat} {b : Bool} (h : LvT w v b9 x A c (k, b) W) : LvT w v b9 x A c (k + 1, b) (W.setCell ⟨w.heap.size, 1, none⟩ (.int .i64 ((k : Int) + 1))) :=
  h.far h.q.inc (by simp [World.setCell]) (fun b q _ => Below.heap_setCell _ _ _ _ (by show b ≠ w.heap.size; omega))
theorem LvT.set {w W : World} {v : Value} {b9 : Nat} {x : Ex} {A : Option Addr} {c : Nat} {p : Nat × Bool} (h : LvT w v b9 x A c p W) (q : Nat × Bool) : LvT w v b9 x A c q (((W.setCell ⟨w.heap.size, 0, none⟩ v).setCell ⟨w.heap.size, 1, none⟩ (.int .i64 (q.1 : Nat))).setCell ⟨w.heap.size, 2, none⟩ (.bool q.2)) :=
  h.far (h.q.set q) (by rw [size_set3]; omega) (fun b q _ => heap_far3 (by omega) _ _ _)
theorem LvI.mono {w W : World} {v : Value} {ts : List Tok} {k b9 : Nat} {G G' : Ex → Nat → Prop} {o : Out} {p : Nat × Bool} {a a2 : Int} {A : Option Addr} {m c : Nat} (h : LvI w v ts k b9 G o p a a2 A m c W) (hG : ∀ x j, G x j → G' x j) : LvI w v ts k b9 G' o p a a2 A m c W :=
  ⟨h.q, h.e, h.le, h.ge, h.bad, fun e => by
    obtain ⟨x, e1, e2, e3, e4, e5⟩ := h.good e
    exact ⟨x, e1, e2, e3, e4, hG x _ e5⟩⟩
theorem RfP.drew {v : Value} {o : Out} {w w' : World} {e : Ending} (h : RfP v o w e w') : RfP v o w e w'.drew := by
  obtain ⟨hb, h⟩ := h
  refine ⟨hb.drew, ?_⟩
  cases o with
  | ok x j =>
    obtain ⟨A, c, e, hF⟩ := h
    exact ⟨A, c, e, hF.keep (fun b q => q) (fun _ _ => rfl)⟩
  | no j => exact h
set_option maxRecDepth 100000 in
set_option maxHeartbeats 2000000 in
theorem level_any (w : World) (v : Value) (ts : List Tok) (k n : Nat) (b3 : Bool) (h3 : ((n : Int) == 3) = b3) (h1 : 1 ≤ n) (hn : n ≤ 5) (hnot : n = 3 → nxt ts k ≠ kNot) (o : Out) (G : Ex → Nat → Prop) (hC : LvC v ts k n o G) (h : Tk w v ts) :
    Calls Tryz.prog 76 #[.agg #[v, .int .i64 k, .bool false], .int .i64 n] w (RfP v o w) := by
  have h' := h
  obtain ⟨A, c, rfl, _⟩ := h'.1
  have hl := h.2.1
  obtain ⟨o0, ho0, hc0, hno0, hyes0⟩ := hC.first
  obtain ⟨bn, hbn⟩ : ∃ b, b = isB ts k false [110, 111, 116] := ⟨_, rfl⟩
  have hbx : b3 = true → bn = false := fun e => by
    rw [hbn, isB_nxt (by decide), decide_eq_false_iff_not]
    exact hnot (by rw [← h3] at e; have := of_decide_eq_true e; omega)
  have hn3 : b3 = decide (n = 3) := by
    rw [← h3, Bool.eq_iff_iff]; simp; omega
  have H0 := Lib.hid h
  have HB := Lib.hid (Bq.new w (.slice A ts.length c) k false)
  have HC := Lib.hid hC
  have HI := Lib.hid hc0
  have HBN := Lib.hid hbn
  have HO0 := Lib.hid ho0
  have HNO := Lib.hid hno0
  have HYES := Lib.hid hyes0
  have HN3 := Lib.hid hn3
  have d5 : decide ((5 : Int) < (n : Int)) = false := by simp; omega
  clear h h' hC hc0 hbn ho0 hno0 hyes0 hnot hn3
  go_enter Tryz.func76, Tryz.ntmps76
  go_upto_region 1 with fail
  generalize ((w.alloc (.cells #[.slice A ts.length c, .int .i64 k, .bool false] 76)).alloc (.cells #[.slice none 0 0, .int .i64 0, .bool false] 76)).alloc (.cells #[.int .i64 0, .int .i64 0, .slice none 0 0] 24) = w1 at *
  obtain ⟨x0, x1, x2, _, _, _⟩ := three_cells HB.out.x
  go_wp2_with fail
  refine (is_any w1 _ ts k false [110, 111, 116] (H0.out.on HB.out.b)).mono ?_
  rintro e w2 ⟨rfl, hb⟩
  rw [← HBN.out]
  have B2 := Lib.hid (HB.out.on hb)
  clear hb HB x0 x1 x2 HBN
  obtain ⟨x0, x1, x2, f0, f1, f2⟩ := three_cells B2.out.x
  cases b3
  case' true => obtain rfl := hbx rfl
  all_goals
    clear hbx
    go_wp2_with fail
    refine (HI.out w2 (H0.out.on B2.out.b)).mono ?_
    intro e w3 hq
    obtain ⟨a, a2, A2, m, c2, rfl, hb, ht⟩ := hq.q
    obtain ⟨p, hp⟩ : ∃ p, p = stO o0 := ⟨_, rfl⟩
    rw [← hp]
    have HP := Lib.hid hp
    have HT := Lib.hid ht
    have hw2 := B2.out.lt
    have B3 := Lib.hid (B2.out.on hb)
    have hs3 := hb.size
    clear hb x0 x1 x2 f0 f1 f2 hp ht hq HI
    obtain ⟨x0, x1, x2, f0, f1, f2⟩ := three_cells B3.out.x
    obtain ⟨x0', x1', x2', f0', f1', f2'⟩ := three_cells (heap_on B3.out.x (.cells #[.int .i64 0, .int .i64 0, .slice none 0 0] 24))
    obtain ⟨n0, n1, n2', m0, m1, m2⟩ := three_cells (World.alloc_heap_new w3 (.cells #[.int .i64 0, .int .i64 0, .slice none 0 0] 24))
    have hlt := B3.out.lt
    have hne : w.heap.size ≠ w3.heap.size := by omega
    have hne' : w3.heap.size ≠ w.heap.size := by omega
    go_wp2_with fail
    have L4 := lv8 (v' := .slice A ts.length c) (k' := .int .i64 (p.1 : Nat)) (b' := .bool p.2) (a' := .int .i64 a) (a2' := .int .i64 a2) (a3' := .slice A2 m c2) B3.out.x B3.out.b
    have hz := L4.size
    have I4 : LvI w (.slice A ts.length c) ts k w3.heap.size G o p a a2 A2 m c2 (((((((w3.alloc (.cells #[.int .i64 0, .int .i64 0, .slice none 0 0] 24)).setCell ⟨w.heap.size, 0, none⟩ (.slice A ts.length c)).setCell ⟨w.heap.size, 1, none⟩ (.int .i64 (p.1 : Nat))).setCell ⟨w.heap.size, 2, none⟩ (.bool p.2)).setCell ⟨w3.heap.size, 0, none⟩ (.int .i64 a)).setCell ⟨w3.heap.size, 1, none⟩ (.int .i64 a2)).setCell ⟨w3.heap.size, 2, none⟩ (.slice A2 m c2)) := by
      have hp := HP.out
      have ho0 := HO0.out
      cases o0 with
      | no j =>
        subst hp
        exact ⟨B3.out.lv (q := (j, true)) L4, L4.n, ho0.1, ho0.2, fun _ => HNO.out j rfl, fun e => by cases e⟩
      | ok x j =>
        subst hp
        have hj := ho0.1
        refine ⟨B3.out.lv (q := (j, false)) L4, L4.n, by show k ≤ j; omega, ho0.2, fun e => (by cases e), fun _ => ?_⟩
        obtain ⟨e1, e2, e3, e4⟩ := HT.out x j rfl
        exact ⟨x, e1, e2, e3, e4.keep (fun b q => ⟨by have := q.1; omega, by have := q.2; omega, by have := q.2; omega⟩) (fun b q => L4.far b q.2 (by have := q.1; omega)), HYES.out x j rfl⟩
    generalize ((((((w3.alloc (.cells #[.int .i64 0, .int .i64 0, .slice none 0 0] 24)).setCell ⟨w.heap.size, 0, none⟩ (.slice A ts.length c)).setCell ⟨w.heap.size, 1, none⟩ (.int .i64 (p.1 : Nat))).setCell ⟨w.heap.size, 2, none⟩ (.bool p.2)).setCell ⟨w3.heap.size, 0, none⟩ (.int .i64 a)).setCell ⟨w3.heap.size, 1, none⟩ (.int .i64 a2)).setCell ⟨w3.heap.size, 2, none⟩ (.slice A2 m c2) = w4 at *
    have HL := Lib.hid I4
    have h9 : w.heap.size + 1 + 1 < w3.heap.size := hlt
    clear L4 hz I4 B3 B2 HT HP HO0 HNO HYES x0 x1 x2 f0 f1 f2 x0' x1' x2' f0' f1' f2' n0 n1 n2' m0 m1 m2 hs3 hw2 hlt hne hne'
    generalize w3.heap.size = b9 at *
    go_loopw [] (fun wr => ∃ p a a2 A2 m c2, LvI w (.slice A ts.length c) ts k b9 G o p a a2 A2 m c2 wr) (fun wr => ts.length - idxAt w.heap.size wr)
    case atStart => exact ⟨_, _, _, _, _, _, HL.out⟩
    case round =>
      clear HL
      obtain ⟨p, a, a2, A2, m, c2, hI⟩ := hrel
      have HL := Lib.hid hI
      obtain ⟨x0, x1, x2, f0, f1, f2⟩ := three_cells hI.q.x
      clear hI
      go_wp2_with fail
      refine (op_q wr _ ts p n h1 hn (H0.out.on HL.out.q.b)).mono ?_
      rintro e w5 ⟨rfl, hb⟩
      have L5 := Lib.hid (HL.out.on hb)
      have hidx := HL.out.idx
      clear hb HL x0 x1 x2 f0 f1 f2
      obtain ⟨ob, hob⟩ : ∃ ob, ob = opB ts p n := ⟨_, rfl⟩
      rw [← hob]
      have HOB := Lib.hid hob
      clear hob
      by_cases hz : ob = 0
      · subst hz
        obtain ⟨x0, x1, x2, f0, f1, f2⟩ := three_cells L5.out.q.x
        obtain ⟨y0, y1, y2, g0, g1, g2⟩ := three_cells L5.out.q.y
        obtain ⟨z0, z1, z2, i0, i1, i2⟩ := three_cells L5.out.q.z
        obtain ⟨n0, n1, n2', m0, m1, m2⟩ := three_cells L5.out.e
        have hne1 : b9 ≠ w.heap.size + 1 := by omega
        have hne2 : b9 ≠ w.heap.size + 1 + 1 := by omega
        have LX := Lib.hid (L5.out.ret (fun e x hG => HC.out.fin x p.1 hG (by have := HOB.out; unfold opB at this; rw [e] at this; exact this.symm)))
        go_upto_region 11 with fail
        go_region
        all_goals go_wp2_with fail
        all_goals
          refine bodyPost_ret (v := .tuple #[.agg #[.slice A ts.length c, .int .i64 (p.1 : Nat), .bool p.2], .agg #[.int .i64 a, .int .i64 a2, .slice A2 m c2]]) (by simp [results, Tryz.results76, go_sem, y0, y1, y2, z0, z1, z2]) rfl ?_
          exact LX.out.drew
      · have hp2 : p.2 = false := by
          cases e : p.2 with
          | false => rfl
          | true => exact absurd (by rw [HOB.out]; unfold opB; rw [e]; rfl) hz
        obtain ⟨j, bb⟩ := p
        have hp2' : bb = false := hp2
        subst hp2'
        clear hp2
        have hop : ob = Px.opAt n (nxt ts j) := HOB.out
        clear HOB
        have hlt := op_lt (n := n) (ts := ts) (k := j) (by rw [← hop]; exact hz)
        obtain ⟨x, rfl, rfl, rfl, hF, hG⟩ := L5.out.good rfl
        obtain ⟨o2, ho2, hc2, hno2, hyes2⟩ := HC.out.step x j hG L5.out.le hlt (by rw [← hop]; exact hz)
        rw [← hop] at hyes2
        have hkj : k ≤ j := L5.out.le
        have T5 := Lib.hid (show LvT w (.slice A ts.length c) b9 x A2 c2 (j, false) w5 from ⟨L5.out.q, L5.out.e, hF, h9⟩)
        have HC2 := Lib.hid hc2
        have HNO := Lib.hid hno2
        have HYES := Lib.hid hyes2
        have HO2 := Lib.hid ho2
        clear hF hG hc2 hno2 hyes2 ho2 L5 hop
        have q0 : (ob == 0) = false := by simpa using hz
        clear hz
        obtain ⟨x0, x1, x2, f0, f1, f2⟩ := three_cells T5.out.q.x
        go_upto_region 13 with fail
        have T6 := Lib.hid T5.out.inc
        clear T5 x0 x1 x2 f0 f1 f2
        generalize w5.setCell ⟨w.heap.size, 1, none⟩ (.int .i64 ((j : Int) + 1)) = w6 at *
        obtain ⟨x0, x1, x2, f0, f1, f2⟩ := three_cells T6.out.q.x
        have hc1 : ((j + 1 : Nat) : Int) = (j : Int) + 1 := by omega
        rw [hc1] at x1
        go_wp2_with fail
        refine (HC2.out w6 (H0.out.on T6.out.q.b)).mono ?_
        intro e w7 hq
        obtain ⟨a3, a4, A3, n3, c3, rfl, hb, ht⟩ := hq.q
        obtain ⟨s, hs⟩ : ∃ s, s = stO o2 := ⟨_, rfl⟩
        rw [← hs]
        have HS := Lib.hid hs
        have HT := Lib.hid ht
        have T7 := Lib.hid (T6.out.on hb)
        have hw6 := T6.out.q.lt
        have h96 := T6.out.lt
        have hs7 := hb.size
        clear hq hs ht hb HC2 T6 x0 x1 x2 f0 f1 f2
        go_upto_region 14 with fail
        obtain ⟨lx, ln8, lb8⟩ := boxes2 w7 (.cells #[.slice A ts.length c, .int .i64 (s.1 : Nat), .bool s.2] 76) (.cells #[.int .i64 a3, .int .i64 a4, .slice A3 n3 c3] 24)
        have hs8 : ((w7.alloc (.cells #[.slice A ts.length c, .int .i64 (s.1 : Nat), .bool s.2] 76)).alloc (.cells #[.int .i64 a3, .int .i64 a4, .slice A3 n3 c3] 24)).heap.size = w7.heap.size + 2 := by simp
        generalize (w7.alloc (.cells #[.slice A ts.length c, .int .i64 (s.1 : Nat), .bool s.2] 76)).alloc (.cells #[.int .i64 a3, .int .i64 a4, .slice A3 n3 c3] 24) = w8 at *
        have T8 := Lib.hid (T7.out.on lb8)
        have HN8 := Lib.hid ln8
        have HT8 : ∀ y i, o2 = .ok y i → a3 = y.1.1 ∧ a4 = y.1.2 ∧ n3 = flen y.2 ∧ FoD w8 (fun b => w6.heap.size ≤ b ∧ b < w7.heap.size) (.slice A3 n3 c3) y.2 := fun y i e => by
          obtain ⟨e1, e2, e3, e4⟩ := HT.out y i e
          exact ⟨e1, e2, e3, e4.keep (fun b q => q) (fun b q => lb8.block b q.2)⟩
        have HU8 := Lib.hid HT8
        clear HT8 HT T7 ln8 lb8
        obtain ⟨x0, x1, x2, f0, f1, f2⟩ := three_cells T8.out.q.x
        obtain ⟨q0', q1', q2', _, _, _⟩ := three_cells lx
        clear lx
        generalize w7.heap.size = b7 at *
        have hb7 : w.heap.size ≠ b7 := by omega
        have hb7' : b7 ≠ w.heap.size := by omega
        go_upto_region 15 with fail
        have T9 := Lib.hid (T8.out.set s)
        have N9 := (heap_far3 (w := w8) (b := w.heap.size) (k := b7 + 1) (by omega) (.slice A ts.length c) (.int .i64 (s.1 : Nat)) (.bool s.2)).trans HN8.out
        have HU9 : ∀ y i, o2 = .ok y i → a3 = y.1.1 ∧ a4 = y.1.2 ∧ n3 = flen y.2 ∧ FoD (((w8.setCell ⟨w.heap.size, 0, none⟩ (.slice A ts.length c)).setCell ⟨w.heap.size, 1, none⟩ (.int .i64 (s.1 : Nat))).setCell ⟨w.heap.size, 2, none⟩ (.bool s.2)) (fun b => w6.heap.size ≤ b ∧ b < b7) (.slice A3 n3 c3) y.2 := fun y i e => by
          obtain ⟨e1, e2, e3, e4⟩ := HU8.out y i e
          exact ⟨e1, e2, e3, e4.keep (fun b q => q) (fun b q => heap_far3 (by have := q.1; omega) _ _ _)⟩
        have hs9 := size_set3 w8 w.heap.size (.slice A ts.length c) (.int .i64 (s.1 : Nat)) (.bool s.2)
        generalize (((w8.setCell ⟨w.heap.size, 0, none⟩ (.slice A ts.length c)).setCell ⟨w.heap.size, 1, none⟩ (.int .i64 (s.1 : Nat))).setCell ⟨w.heap.size, 2, none⟩ (.bool s.2)) = w9 at *
        have HN9 := Lib.hid N9
        have HV9 := Lib.hid HU9
        clear N9 HU9 HU8 HN8 T8 x0 x1 x2 f0 f1 f2 q0' q1' q2'
        obtain ⟨n0, n1, n2', m0, m1, m2⟩ := three_cells T9.out.e
        obtain ⟨l0, l1, l2, _, _, _⟩ := three_cells HN9.out
        go_wp2_with fail
        (with_reducible refine (pair8_any ob _ _ _ _ _ _ _ _ _ _ _).mono ?_)
        rintro e w10 ⟨g, rfl, hg, hgx, hb⟩
        have T10 := Lib.hid (T9.out.on hb)
        have hs10 := hb.size
        have h910 := T9.out.lt
        have HB10 := Lib.hid hb
        have HGX := Lib.hid hgx
        clear hb hgx T9 n0 n1 n2' m0 m1 m2 l0 l1 l2
        obtain ⟨n0, n1, n2', m0, m1, m2⟩ := three_cells T10.out.e
        go_upto_region 16 with fail
        have LN : LvI w (.slice A ts.length c) ts k b9 (fun y i => if n = 3 then o = .ok y i else G y i) o s ob 0 (some ⟨g, 0, none⟩) 2 2 (((w10.setCell ⟨b9, 0, none⟩ (.int .i64 ob)).setCell ⟨b9, 1, none⟩ (.int .i64 0)).setCell ⟨b9, 2, none⟩ (.slice (some ⟨g, 0, none⟩) 2 2)) := by
          have hq : Bq w (.slice A ts.length c) s (((w10.setCell ⟨b9, 0, none⟩ (.int .i64 ob)).setCell ⟨b9, 1, none⟩ (.int .i64 0)).setCell ⟨b9, 2, none⟩ (.slice (some ⟨g, 0, none⟩) 2 2)) :=
            ⟨(heap_far3 (by omega) _ _ _).trans T10.out.q.x, (heap_far3 (by omega) _ _ _).trans T10.out.q.y, (heap_far3 (by omega) _ _ _).trans T10.out.q.z, ((T10.out.q.b.setCell (p := ⟨b9, 0, none⟩) (by show w.heap.size ≤ b9; omega) _).setCell (p := ⟨b9, 1, none⟩) (by show w.heap.size ≤ b9; omega) _).setCell (p := ⟨b9, 2, none⟩) (by show w.heap.size ≤ b9; omega) _⟩
          have he := heap_set3 (x' := .int .i64 ob) (y' := .int .i64 0) (z' := .slice (some ⟨g, 0, none⟩) 2 2) T10.out.e
          have hz11 := size_set3 w10 b9 (.int .i64 ob) (.int .i64 0) (.slice (some ⟨g, 0, none⟩) 2 2)
          have hsx := HS.out
          have ho2 := HO2.out
          cases o2 with
          | no i =>
            subst hsx
            have h21 : j + 1 ≤ i := ho2.1
            have h22 : i ≤ ts.length := ho2.2
            exact ⟨hq, he, by show k ≤ i; omega, h22, fun _ => HNO.out i rfl, fun e => by cases e⟩
          | ok y i =>
            subst hsx
            have h21 : j + 1 < i := ho2.1
            have h22 : i ≤ ts.length := ho2.2
            obtain ⟨rfl, rfl, rfl, e4⟩ := HV9.out y i rfl
            refine ⟨hq, he, by show k ≤ i; omega, h22, fun e => (by cases e), fun _ => ⟨pairE ob x y, rfl, rfl, rfl, ?_, HYES.out y i rfl⟩⟩
            have k1 := T10.out.t.keep (w' := (((w10.setCell ⟨b9, 0, none⟩ (.int .i64 ob)).setCell ⟨b9, 1, none⟩ (.int .i64 0)).setCell ⟨b9, 2, none⟩ (.slice (some ⟨g, 0, none⟩) 2 2))) (E := fun b => w.heap.size + 1 + 1 < b ∧ b ≠ b9 ∧ b < ((((w10.setCell ⟨b9, 0, none⟩ (.int .i64 ob)).setCell ⟨b9, 1, none⟩ (.int .i64 0)).setCell ⟨b9, 2, none⟩ (.slice (some ⟨g, 0, none⟩) 2 2))).heap.size) (fun b q => ⟨q.1, q.2.1, by rw [hz11]; exact q.2.2⟩) (fun b q => heap_far3 q.2.1 _ _ _)
            have k2 := e4.keep (w' := (((w10.setCell ⟨b9, 0, none⟩ (.int .i64 ob)).setCell ⟨b9, 1, none⟩ (.int .i64 0)).setCell ⟨b9, 2, none⟩ (.slice (some ⟨g, 0, none⟩) 2 2))) (E := fun b => w.heap.size + 1 + 1 < b ∧ b ≠ b9 ∧ b < ((((w10.setCell ⟨b9, 0, none⟩ (.int .i64 ob)).setCell ⟨b9, 1, none⟩ (.int .i64 0)).setCell ⟨b9, 2, none⟩ (.slice (some ⟨g, 0, none⟩) 2 2))).heap.size) (fun b q => ⟨by have := q.1; omega, by have := q.1; omega, by rw [hz11]; have := q.2; omega⟩) (fun b q => (heap_far3 (by have := q.1; omega) _ _ _).trans (HB10.out.block b (by have := q.2; omega)))
            exact FoD.two (D := fun b => w.heap.size + 1 + 1 < b ∧ b ≠ b9 ∧ b < ((((w10.setCell ⟨b9, 0, none⟩ (.int .i64 ob)).setCell ⟨b9, 1, none⟩ (.int .i64 0)).setCell ⟨b9, 2, none⟩ (.slice (some ⟨g, 0, none⟩) 2 2))).heap.size) ⟨by omega, by omega, by rw [hz11]; exact (Array.getElem?_eq_some_iff.1 HGX.out).1⟩ ((heap_far3 (by omega) _ _ _).trans HGX.out) k1 k2 2
        have hjs : j < s.1 := by
          rw [HS.out]
          have ho2 := HO2.out
          cases o2 with
          | no i => exact ho2.1
          | ok y i => have h21 : j + 1 < i := ho2.1; show j < i; omega
        generalize (((w10.setCell ⟨b9, 0, none⟩ (.int .i64 ob)).setCell ⟨b9, 1, none⟩ (.int .i64 0)).setCell ⟨b9, 2, none⟩ (.slice (some ⟨g, 0, none⟩) 2 2)) = w11 at *
        have HLN := Lib.hid LN
        clear LN T10 HB10 HGX HV9 n0 n1 n2' m0 m1 m2 HNO HYES HO2 HS HN9 hs10 hs9 hs8 h910 hg
        by_cases hn3 : n = 3
        · first
            | (exfalso; have hx := HN3.out; simp [hn3] at hx; done)
            | (obtain ⟨x0, x1, x2, f0, f1, f2⟩ := three_cells HLN.out.q.x
               obtain ⟨y0, y1, y2, g0, g1, g2⟩ := three_cells HLN.out.q.y
               obtain ⟨z0, z1, z2, i0, i1, i2⟩ := three_cells HLN.out.q.z
               obtain ⟨n0, n1, n2', m0, m1, m2⟩ := three_cells HLN.out.e
               have hne1 : b9 ≠ w.heap.size + 1 := by omega
               have hne2 : b9 ≠ w.heap.size + 1 + 1 := by omega
               have LX := Lib.hid (HLN.out.ret (fun e y hG => by rw [if_pos hn3] at hG; exact hG))
               have HN3' := Lib.hid hn3
               clear HLN hn3
               go_upto_region 17 with fail
               go_region
               all_goals go_wp2_with fail
               all_goals
                 refine bodyPost_ret (v := .tuple #[.agg #[.slice A ts.length c, .int .i64 (s.1 : Nat), .bool s.2], .agg #[.int .i64 ob, .int .i64 0, .slice (some ⟨g, 0, none⟩) 2 2]]) (by simp [results, Tryz.results76, go_sem, y0, y1, y2, z0, z1, z2]) rfl ?_
                 exact LX.out.drew)
        · first
            | (exfalso; have hx := HN3.out; simp [hn3] at hx; done)
            | (have hI2 := HLN.out.mono (G' := G) (fun y i h => by rw [if_neg hn3] at h; exact h)
               have hidx2 := hI2.idx
               have hrel' : ∃ p a a2 A2 m c2, LvI w (.slice A ts.length c) ts k b9 G o p a a2 A2 m c2 w11 := ⟨_, _, _, _, _, _, hI2⟩
               clear HLN hI2
               go_wp2_with fail
               exact ⟨hrel', by rw [hidx, hidx2]; omega⟩)
end Go.Proofs.YtomnjamldbficaaGreatDoor
