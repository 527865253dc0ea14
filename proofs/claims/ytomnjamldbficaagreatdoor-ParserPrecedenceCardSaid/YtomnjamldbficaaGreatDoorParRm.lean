/-
  Words: rates in memory.
-/
import Derived.Test.YtomnjamldbficaaGreatDoorParChain
import Derived.Test.YtomnjamldbficaaGreatDoorPrtRate
import Derived.Deep.AppendLies
namespace Go.Proofs.YtomnjamldbficaaGreatDoor
open Go.RowKit Lx Px
def Rr.rt (r : Rr) : Rt := ⟨r.id, r.lv, r.kd, r.fr, r.un, r.ls, r.mo, r.ar, pctN r.kp, pctD r.kp, r.wh.1.1, r.wh.1.2, r.wh.2, r.pr.1.1, r.pr.1.2, r.pr.2⟩
/-- the cells of a rate -/
def rtCells (r : Rt) (wv pv : Value) : List Value := [.int .i64 r.id, .int .i64 r.lv, .int .i64 r.kd, .int .i64 r.fr, .int .i64 r.un, .int .i64 r.ls, .int .i64 r.mo, .int .i64 r.ar, .int .i64 r.kn, .int .i64 r.kq, .int .i64 r.wo, .int .i64 r.wn, wv, .int .i64 r.po, .int .i64 r.pn, pv]
/-- a rate, and the values of its trees -/
structure Rm where
  r : Rt
  wv : Value
  pv : Value
def Rm.cells (m : Rm) : List Value := rtCells m.r m.wv m.pv
theorem Rm.cells_len (m : Rm) : m.cells.length = 16 := rfl
def rmCells (ms : List Rm) : List Value := ms.flatMap Rm.cells
theorem rmCells_len (ms : List Rm) : (rmCells ms).length = ms.length * 16 := by
  induction ms with
  | nil => rfl
  | cons m ms ih => simp only [rmCells, List.flatMap_cons, List.length_append, List.length_cons, Rm.cells_len] at ih ⊢; rw [ih]; omega
theorem rmCells_snoc (ms : List Rm) (m : Rm) : rmCells (ms ++ [m]) = rmCells ms ++ m.cells := by simp [rmCells]
theorem rmCells_get (ms : List Rm) (k j : Nat) (h : k < ms.length) (hj : j < 16) : (rmCells ms)[k * 16 + j]? = ms[k].cells[j]? := by
  induction ms generalizing k with
  | nil => simp at h
  | cons m ms ih =>
    have hc : rmCells (m :: ms) = m.cells ++ rmCells ms := by simp [rmCells]
    rw [hc]
    cases k with
    | zero => simp only [Nat.zero_mul, Nat.zero_add, List.getElem_cons_zero]; rw [List.getElem?_append_left (by rw [Rm.cells_len]; omega)]
    | succ k =>
      rw [List.getElem?_append_right (by rw [Rm.cells_len]; omega)]
      have := ih k (by simpa using h)
      simp only [Rm.cells_len, List.getElem_cons_succ]
      rw [← this]; congr 1; omega
/-- a rate lies from an address on -/
def RtAt (w : World) (B : Nat) (p : Addr) (r : Rt) : Prop :=
  p.spot = none ∧ ∃ wv pv, (∀ j u, (rtCells r wv pv)[j]? = some u → w.cell? ⟨p.block, p.off + j, none⟩ = some u) ∧ FoV w B wv r.wl ∧ FoV w B pv r.pl
/-- a slice value reads as a list of rates -/
def RtsV (w : World) (B : Nat) (v : Value) (rs : List Rt) : Prop :=
  ∃ A c, v = .slice A rs.length c ∧ ∀ i (h : i < rs.length), ∃ ad, A = some ad ∧ ad.block < B ∧ RtAt w B (ad.add (i * 16)) rs[i]
theorem RtAt.keep {w w' : World} {B : Nat} {p : Addr} {r : Rt} (h : RtAt w B p r) (hb : Below B w w') (hp : p.block < B) : RtAt w' B p r := by
  obtain ⟨hs, wv, pv, hc, h1, h2⟩ := h
  exact ⟨hs, wv, pv, fun j u hj => (hb.cell (p := ⟨p.block, p.off + j, none⟩) hp).trans (hc j u hj), h1.on hb, h2.on hb⟩
theorem RtAt.up {w : World} {B B' : Nat} {p : Addr} {r : Rt} (h : RtAt w B p r) (hb : B ≤ B') : RtAt w B' p r := by
  obtain ⟨hs, wv, pv, hc, h1, h2⟩ := h
  exact ⟨hs, wv, pv, hc, h1.up hb, h2.up hb⟩
theorem RtsV.on {w w' : World} {B : Nat} {v : Value} {rs : List Rt} (h : RtsV w B v rs) (hb : Below B w w') : RtsV w' B v rs := by
  obtain ⟨A, c, e, hA⟩ := h
  refine ⟨A, c, e, fun i hi => ?_⟩
  obtain ⟨ad, e1, hl, hr⟩ := hA i hi
  exact ⟨ad, e1, hl, hr.keep hb (by rw [add_block]; exact hl)⟩
theorem RtsV.up {w : World} {B B' : Nat} {v : Value} {rs : List Rt} (h : RtsV w B v rs) (hb : B ≤ B') : RtsV w B' v rs := by
  obtain ⟨A, c, e, hA⟩ := h
  refine ⟨A, c, e, fun i hi => ?_⟩
  obtain ⟨ad, e1, hl, hr⟩ := hA i hi
  exact ⟨ad, e1, by omega, hr.up hb⟩
theorem RtsV.nil (w : World) (B : Nat) : RtsV w B (.slice none 0 0) [] := ⟨none, 0, rfl, fun i h => absurd h (by simp)⟩
/-- the blocks of the trees of a list that is being made: of the call's own, and not that of the list -/
def OwnD (w : World) (lo : Nat) (v : Value) (b : Nat) : Prop := lo ≤ b ∧ b < w.heap.size ∧ some b ≠ v.ownBlock
/-- a list of rates that is being made -/
def OwnR (w : World) (lo : Nat) (v : Value) (rs : List Rt) : Prop :=
  ∃ ms : List Rm, ms.map (·.r) = rs ∧ w.ownsRow lo 47 16 v ms.length (rmCells ms) ∧ ∀ m ∈ ms, FoD w (OwnD w lo v) m.wv m.r.wl ∧ FoD w (OwnD w lo v) m.pv m.r.pl
theorem OwnR.nil (w : World) (lo : Nat) : OwnR w lo (.slice none 0 0) [] := ⟨[], rfl, World.ownsRow_nil _ _ _ _, fun m h => absurd h (by simp)⟩
theorem ownsRow_keep {w w' : World} {lo size n : Nat} {e : TypeId} {v : Value} {xs : List Value} (h : w.ownsRow lo e size v n xs) (hb : ∀ k, lo ≤ k → k < w.heap.size → w'.heap[k]? = w.heap[k]?) : w'.ownsRow lo e size v n xs := by
  refine ⟨h.1, ?_⟩
  rcases h.2 with hn | ⟨g, cap, cur, rfl, hg, hgg, rest⟩
  · exact .inl hn
  · exact .inr ⟨g, cap, cur, rfl, hg, (hb g hg (Array.getElem?_eq_some_iff.1 hgg).1).trans hgg, rest⟩
theorem OwnR.keep {w w' : World} {lo : Nat} {v : Value} {rs : List Rt} (h : OwnR w lo v rs) (hs : w.heap.size ≤ w'.heap.size) (hb : ∀ k, lo ≤ k → k < w.heap.size → w'.heap[k]? = w.heap[k]?) : OwnR w' lo v rs := by
  obtain ⟨ms, e, ho, hf⟩ := h
  refine ⟨ms, e, ⟨ho.1, ?_⟩, fun m hm => ⟨(hf m hm).1.keep (fun b x => ⟨x.1, by have := x.2.1; omega, x.2.2⟩) (fun b x => hb b x.1 x.2.1), (hf m hm).2.keep (fun b x => ⟨x.1, by have := x.2.1; omega, x.2.2⟩) (fun b x => hb b x.1 x.2.1)⟩⟩
  rcases ho.2 with hn | ⟨g, cap, cur, rfl, hg, hgg, rest⟩
  · exact .inl hn
  · exact .inr ⟨g, cap, cur, rfl, hg, (hb g hg (Array.getElem?_eq_some_iff.1 hgg).1).trans hgg, rest⟩
theorem OwnR.but {w w' : World} {lo pb : Nat} {v : Value} {rs : List Rt} (h : OwnR w lo v rs) (hb : But pb w w') (hp : pb < lo) : OwnR w' lo v rs := h.keep hb.size (fun k h1 h2 => hb.block k h2 (by omega))
theorem OwnR.form {w : World} {lo : Nat} {v : Value} {rs : List Rt} (h : OwnR w lo v rs) : ∃ A c, v = .slice A rs.length c := by
  obtain ⟨ms, e, ho, _⟩ := h
  have hl : rs.length = ms.length := by rw [← e, List.length_map]
  rw [hl]
  rcases ho.2 with ⟨hv, h0⟩ | ⟨g, cap, cur, hv, _⟩
  · exact ⟨none, 0, by rw [hv, h0]⟩
  · exact ⟨_, _, hv⟩
/-- behind an append of one rate -/
theorem OwnR.snoc {w w1 w2 : World} {lo : Nat} {v v' : Value} {ms : List Rm} {m : Rm} {c g : Nat}
    (hm : ∀ x ∈ ms, FoD w (OwnD w lo v) x.wv x.r.wl ∧ FoD w (OwnD w lo v) x.pv x.r.pl) (hlo : ∀ k, v.ownBlock = some k → lo ≤ k ∧ k < w.heap.size)
    (h1 : FoD w1 (fun b => w.heap.size ≤ b ∧ b < w1.heap.size) m.wv m.r.wl) (h2 : FoD w1 (fun b => w.heap.size ≤ b ∧ b < w1.heap.size) m.pv m.r.pl)
    (hw : ∀ k, lo ≤ k → k < w.heap.size → w1.heap[k]? = w.heap[k]?) (hs : w.heap.size ≤ w1.heap.size) (hl : lo ≤ w.heap.size)
    (hown : w2.ownsRow lo 47 16 v' c (rmCells ms ++ m.cells)) (hc : c = ms.length + 1) (hgrow : w1.grownBy w2 v.ownBlock) (hv' : v'.ownBlock = some g) (hg : v.ownBlock = some g ∨ g = w1.heap.size) :
    OwnR w2 lo v' ((ms ++ [m]).map (·.r)) := by
  refine ⟨ms ++ [m], rfl, ?_, ?_⟩
  · rw [List.length_append, List.length_singleton, ← hc, rmCells_snoc]; exact hown
  · have hne : ∀ b, lo ≤ b → b < w1.heap.size → some b ≠ v.ownBlock → some b ≠ v'.ownBlock := by
      intro b hb1 hb2 hn e
      rw [hv'] at e
      injection e with e
      rcases hg with hg | hg
      · exact hn (by rw [hg, e])
      · omega
    intro x hx
    rw [List.mem_append, List.mem_singleton] at hx
    rcases hx with hx | rfl
    · obtain ⟨f1, f2⟩ := hm x hx
      refine ⟨f1.keep (fun b y => ⟨y.1, ?_, ?_⟩) (fun b y => ?_), f2.keep (fun b y => ⟨y.1, ?_, ?_⟩) (fun b y => ?_)⟩
      all_goals first
        | (have := y.2.1; have := hgrow.size; omega)
        | exact hne b y.1 (by have := y.2.1; omega) y.2.2
        | (rw [hgrow.block b (by have := y.2.1; omega) y.2.2, hw b y.1 y.2.1])
    · have hnew : ∀ b, w.heap.size ≤ b → some b ≠ v.ownBlock := by
        intro b hb e
        have := (hlo b e.symm).2
        omega
      refine ⟨h1.keep (fun b y => ⟨?_, ?_, ?_⟩) (fun b y => ?_), h2.keep (fun b y => ⟨?_, ?_, ?_⟩) (fun b y => ?_)⟩
      all_goals first
        | (have := y.1; omega)
        | (have := y.2; have := hgrow.size; omega)
        | exact hne b (by have := y.1; omega) y.2 (hnew b y.1)
        | exact hgrow.block b y.2 (hnew b y.1)
theorem OwnR.v {w : World} {lo : Nat} {v : Value} {rs : List Rt} (h : OwnR w lo v rs) : RtsV w w.heap.size v rs := by
  obtain ⟨ms, rfl, ho, hf⟩ := h
  rcases ho.2 with ⟨hv, h0⟩ | ⟨g, cap, cur, hv, _, hg, _⟩
  · have : ms = [] := List.length_eq_zero_iff.1 h0
    subst this
    subst hv
    exact RtsV.nil _ _
  · refine ⟨some ⟨g, 0, none⟩, cap, by rw [hv, List.length_map], fun i hi => ⟨⟨g, 0, none⟩, rfl, (Array.getElem?_eq_some_iff.1 hg).1, ?_⟩⟩
    have hi' : i < ms.length := by simpa using hi
    obtain ⟨f1, f2⟩ := hf ms[i] (List.getElem_mem hi')
    rw [add_zero3]
    refine ⟨rfl, ms[i].wv, ms[i].pv, ?_, ?_, ?_⟩
    · intro j u hj
      subst hv
      have hj16 : j < 16 := by
        rcases Nat.lt_or_ge j 16 with h | h
        · exact h
        · rw [List.getElem?_eq_none (by show 16 ≤ j; exact h)] at hj; cases hj
      show w.cell? ⟨g, i * 16 + j, none⟩ = some u
      rw [ho.cellAt (i * 16 + j) (by omega), rmCells_get ms i j hi' hj16, ← hj]
      simp only [List.getElem_map]
      rfl
    · simp only [List.getElem_map]; exact f1.v (fun b x => x.2.1)
    · simp only [List.getElem_map]; exact f2.v (fun b x => x.2.1)
/-- the news of an append of one rate, in a box of its own -/
theorem news_box {w : World} {b : Nat} {cs : Array Value} {t : TypeId} {fr : Nat × Nat} (h : w.heap[b]? = some (.cells cs t fr)) (l : List Value) (hl : l = cs.toList) : ∀ j u, l[j]? = some u → w.cell? ((⟨b, 0, none⟩ : Addr).add j) = some u := by
  subst hl
  exact World.news_of_block h
theorem Tryz.infoRate : (Tryz.prog.info? 47).map (fun i => (i.zero, i.size, i.bytes)) = some (some (.agg #[.int .i64 0, .int .i64 0, .int .i64 0, .int .i64 0, .int .i64 0, .int .i64 0, .int .i64 0, .int .i64 0, .int .i64 0, .int .i64 0, .int .i64 0, .int .i64 0, .slice none 0 0, .int .i64 0, .int .i64 0, .slice none 0 0]), 16, 160) := by kernel_rfl
end Go.Proofs.YtomnjamldbficaaGreatDoor
