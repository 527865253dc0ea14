/-
  Several texts in one: PrtForms, PrtW4.
-/
import Derived.Test.YtomnjamldbficaaGreatDoorPrtW3
import Derived.Test.YtomnjamldbficaaGreatDoorPrtMap
namespace Go.Proofs.YtomnjamldbficaaGreatDoor
open Go.RowKit Lx Px
namespace Px
def arity (op : Int) : Nat := if op = 10 then 3 else if op = 15 then 1 else 2
def sepL (op : Int) : List Bytes := if op = 10 then [sepOf 10 1, sepOf 10 2] else if op = 15 then [] else [sepOf op 1]
def leastL (op : Int) : List Int := if op = 10 then [0, 0, 0] else if op = 15 then [3] else [leastOf op 0, leastOf op 1]
end Px
/-- the entries of a map's literal with integer keys -/
def esOf : List (Int × Value) → Nat → List MapEntry
  | [], _ => []
  | p :: r, i => { key := .int .i64 p.1, val := p.2, born := i } :: esOf r (i + 1)
theorem esOf_snoc (p : Int × Value) : ∀ (L : List (Int × Value)) (i : Nat), esOf (L ++ [p]) i = esOf L i ++ [{ key := .int .i64 p.1, val := p.2, born := i + L.length }] := by
  intro L
  induction L with
  | nil => intro i; rfl
  | cons q r ih => intro i; simp only [List.cons_append, esOf, ih, List.length_cons]; rw [show i + 1 + r.length = i + (r.length + 1) from by omega]
/-- a value is the form of an operator; its slices lie in blocks of their own -/
def FormV (w : World) (r : Nat) (op : Int) (v : Value) : Prop :=
  ∃ bs b2 : Nat, v = .agg #[.string (mk (beginOf op)), (if op = 15 then .slice none 0 0 else .slice (some ⟨bs, 0, none⟩) (arity op - 1) (arity op - 1)), .string (mk (endOf op)), .int .i64 (rankOf op), .slice (some ⟨b2, 0, none⟩) (arity op) (arity op)] ∧
    (op ≠ 15 → bs ≠ r ∧ w.heap[bs]? = some (.cells ((sepL op).map fun s => .string (mk s)).toArray 9 (0, 0))) ∧
    b2 ≠ r ∧ w.heap[b2]? = some (.cells ((leastL op).map (.int .i64)).toArray 3 (0, 0))
def FormsIn (w : World) (r : Nat) (L : List (Int × Value)) : Prop := w.heap[r]? = some (.map (esOf L 0).toArray L.length) ∧ ∀ p ∈ L, FormV w r p.1 p.2
theorem FormV.grown {w w' : World} {r : Nat} {op : Int} {v : Value} (h : FormV w r op v) (hg : w.grownBy w' (some r)) : FormV w' r op v := by
  obtain ⟨bs, b2, hv, h1, h2, h3⟩ := h
  refine ⟨bs, b2, hv, fun ho => ?_, h2, ?_⟩
  · obtain ⟨g1, g2⟩ := h1 ho
    exact ⟨g1, (hg.block bs (Array.getElem?_eq_some_iff.1 g2).1 (by simpa using g1)).trans g2⟩
  · exact (hg.block b2 (Array.getElem?_eq_some_iff.1 h3).1 (by simpa using h2)).trans h3
theorem findNow_none (n : Int) : ∀ (L : List (Int × Value)) (i j : Nat), (∀ p ∈ L, p.1 ≠ n) → Instr.findNow (.int .i64) (.int .i64 n) (esOf L i) j = some none := by
  intro L
  induction L with
  | nil => intro i j _; rfl
  | cons q r ih =>
    intro i j h
    have h1 : q.1 ≠ n := h q (by simp)
    have h2 := ih (i + 1) (j + 1) (fun p hp => h p (by simp [hp]))
    have h3 : Instr.sameNow (.int .i64) (.int .i64 n) (.int .i64 q.1) = some false := by
      simp [Instr.sameNow, Ne.symm h1]
    simp only [esOf, Instr.findNow, h3]
    exact h2
theorem findNow_at (n : Int) (v : Value) : ∀ (L L2 : List (Int × Value)) (i j : Nat), (∀ p ∈ L, p.1 ≠ n) → Instr.findNow (.int .i64) (.int .i64 n) (esOf (L ++ (n, v) :: L2) i) j = some (some (j + L.length, v)) := by
  intro L
  induction L with
  | nil => intro L2 i j _; simp [esOf, Instr.findNow, Instr.sameNow]
  | cons q r ih =>
    intro L2 i j h
    have h1 : q.1 ≠ n := h q (by simp)
    have h2 := ih L2 (i + 1) (j + 1) (fun p hp => h p (by simp [hp]))
    have h3 : Instr.sameNow (.int .i64) (.int .i64 n) (.int .i64 q.1) = some false := by
      simp [Instr.sameNow, Ne.symm h1]
    simp only [List.cons_append, esOf, Instr.findNow, h3, h2, List.length_cons]
    rw [show j + 1 + r.length = j + (r.length + 1) from by omega]
theorem heap_new2 (w : World) (o o2 : Obj) : ((w.alloc o).alloc o2).heap[w.heap.size]? = some o ∧ ((w.alloc o).alloc o2).heap[w.heap.size + 1]? = some o2 :=
  ⟨heap_on (World.alloc_heap_new w o) o2, by have := World.alloc_heap_new (w.alloc o) o2; simpa using this⟩
theorem grown_row {w w' : World} (h : w.grownBy w' none) (r : Nat) : w.grownBy w' (some r) := by
  obtain ⟨h1, h2, h3, h4, h5⟩ := h
  exact ⟨h1, h2, h3, h4, fun i hi _ => h5 i hi (by simp)⟩
theorem FormsIn.new (w : World) : FormsIn (w.alloc (.map #[] 0)) w.heap.size [] := ⟨World.alloc_heap_new w _, by simp⟩
theorem FormsIn.step {w w1 w' : World} {r : Nat} {L : List (Int × Value)} {op : Int} {V : Value} (h : FormsIn w r L) (hw : w.grownBy w1 none) (hV : FormV w1 r op V)
    (hr : w'.heap[r]? = some (.map ((esOf L 0).toArray.push { key := .int .i64 op, val := V, born := L.length }) (L.length + 1))) (hg : w1.grownBy w' (some r)) : FormsIn w' r (L ++ [(op, V)]) := by
  have hrl : r < w.heap.size := (Array.getElem?_eq_some_iff.1 h.1).1
  refine ⟨?_, ?_⟩
  · rw [hr, esOf_snoc]; simp
  · intro p hp
    rcases List.mem_append.1 hp with hp | hp
    · exact ((h.2 p hp).grown (grown_row hw r)).grown hg
    · simp at hp; subst hp; exact hV.grown hg
theorem FormsIn.lt {w : World} {r : Nat} {L : List (Int × Value)} (h : FormsIn w r L) : r < w.heap.size := (Array.getElem?_eq_some_iff.1 h.1).1
/-- the insertion of a form into the map -/
theorem upon_form {o : Oper} {a : Act} {K : Act → World → Prop} {Q : Exit → Act → World → Prop} {w w1 : World} {r : Nat} {L : List (Int × Value)} {op : Int} {V : Value} (h : FormsIn w r L) (hw : w.grownBy w1 none) (hV : FormV w1 r op V)
    (hn : ∀ p ∈ L, p.1 ≠ op) (hK : ∀ w', FormsIn w' r (L ++ [(op, V)]) → w.grownBy w' (some r) → Oper.upon Tryz.prog o a K Q (.ok .skip w')) :
    Oper.upon Tryz.prog o a K Q (((Instr.mapUpdate 138 (.map (some r)) (.int .i64 op) V).run Tryz.prog w1).andThen fun _ w' => .ok .skip w') := by
  have hr1 : w1.heap[r]? = some (.map (esOf L 0).toArray L.length) := (hw.block r h.lt (by simp)).trans h.1
  have hrun := run_mapUpdate_new (P := Tryz.prog) (v := V) Tryz.underlying138 Tryz.underlying3 hr1 (findNow_none op L 0 0 hn)
  rw [hrun]
  have hlt := (Array.getElem?_eq_some_iff.1 hr1).1
  have hg : w1.grownBy (w1.putObj r (.map ((esOf L 0).toArray.push { key := .int .i64 op, val := V, born := L.length }) (L.length + 1))) (some r) :=
    ⟨rfl, rfl, rfl, by simp [World.putObj], fun i hi hne => World.putObj_heap_other (by intro e; subst e; exact hne rfl)⟩
  refine hK _ (h.step hw hV ?_ hg) ((grown_row hw r).trans hg)
  simp [World.putObj, hlt]
theorem formV_two {w : World} {r : Nat} {op : Int} {b1 b2 k : Nat} {s1 s2 : ByteArray} {rk : Int} {cs ls : Array Value} (hr : r < w.heap.size) (hb1 : b1 = w.heap.size) (hb2 : b2 = w.heap.size + 1) (ho : op ≠ 15) (h1 : s1 = mk (beginOf op)) (h2 : s2 = mk (endOf op)) (h3 : rk = rankOf op)
    (hk : k = arity op) (hcs : cs = ((sepL op).map fun s => .string (mk s)).toArray) (hls : ls = ((leastL op).map (.int .i64)).toArray) :
    FormV ((w.alloc (.cells cs 9 (0, 0))).alloc (.cells ls 3 (0, 0))) r op (.agg #[.string s1, .slice (some ⟨b1, 0, none⟩) (k - 1) (k - 1), .string s2, .int .i64 rk, .slice (some ⟨b2, 0, none⟩) k k]) := by
  subst hb1 hb2 h1 h2 h3 hk hcs hls
  obtain ⟨g1, g2⟩ := heap_new2 w (.cells ((sepL op).map fun s => .string (mk s)).toArray 9 (0, 0)) (.cells ((leastL op).map (.int .i64)).toArray 3 (0, 0))
  exact ⟨w.heap.size, w.heap.size + 1, by rw [if_neg ho], fun _ => ⟨by omega, g1⟩, by omega, g2⟩
theorem formV_not {w : World} {r : Nat} {b2 : Nat} (hr : r < w.heap.size) (hb2 : b2 = w.heap.size) :
    FormV (w.alloc (.cells #[.int .i64 3] 3 (0, 0))) r 15 (.agg #[.string ⟨#[110, 111, 116, 32]⟩, .slice none 0 0, .string ⟨#[]⟩, .int .i64 3, .slice (some ⟨b2, 0, none⟩) 1 1]) := by
  subst hb2
  exact ⟨0, w.heap.size, rfl, fun h => absurd rfl h, by omega, World.alloc_heap_new w _⟩
end Go.Proofs.YtomnjamldbficaaGreatDoor
namespace Go.Proofs.YtomnjamldbficaaGreatDoor
open Go.RowKit Lx Px
/-- what forms hands back: a map from operators to their forms -/
def FormsPost (w : World) (e : Ending) (w' : World) : Prop :=
  ∃ (r : Nat) (v0 v1 v2 v3 v4 v5 v6 v7 v8 v9 v10 v11 : Value), e = .returned (.map (some r)) ∧ w.heap.size ≤ r ∧ FormsIn w' r [(10, v0), (14, v1), (13, v2), (15, v3), (11, v4), (12, v5), (4, v6), (5, v7), (6, v8), (7, v9), (8, v10), (9, v11)] ∧ Below w.heap.size w w'
theorem below_row {w w1 w2 : World} {B r : Nat} (h : Below B w w1) (hB : B ≤ w1.heap.size) (hg : w1.grownBy w2 (some r)) (hr : B ≤ r) : Below B w w2 :=
  h.grown hg hB (fun g e => by injection e with e; omega)
set_option maxRecDepth 100000 in
set_option maxHeartbeats 4000000 in
theorem forms_any (w : World) : Calls Tryz.prog 90 #[] w (FormsPost w) := by
  have hmm := @run_makeMap Tryz.prog
  have h0 := FormsIn.new w
  have g0 : Below w.heap.size w (w.alloc (.map #[] 0)) := (Below.refl _ _).alloc (Nat.le_refl _) _
  go_enter Tryz.func90, Tryz.ntmps90
  go_wp2_with fail
  refine upon_form h0 ((World.grownBy_alloc (w.alloc (.map #[] 0)) _ none).trans (World.grownBy_alloc _ _ none)) (formV_two (op := 10) (k := arity 10) h0.lt (by simp) (by simp) (by decide) rfl rfl rfl rfl rfl rfl) (by simp) ?_
  intro w1 h1 q1
  have g1 := below_row g0 (by have := g0.size; omega) q1 (Nat.le_refl _)
  simp only [List.nil_append] at h1
  clear h0 g0 q1
  clear hmm
  go_wp2_with fail
  refine upon_form h1 ((World.grownBy_alloc w1 _ none).trans (World.grownBy_alloc _ _ none)) (formV_two (op := 14) (k := arity 14) h1.lt (by simp) (by simp) (by decide) rfl rfl rfl rfl rfl rfl) (by simp) ?_
  intro w2 h2 q2
  have g2 := below_row g1 (by have := g1.size; omega) q2 (Nat.le_refl _)
  simp only [List.nil_append, List.cons_append] at h2
  clear h1 g1 q2
  go_wp2_with fail
  refine upon_form h2 ((World.grownBy_alloc w2 _ none).trans (World.grownBy_alloc _ _ none)) (formV_two (op := 13) (k := arity 13) h2.lt (by simp) (by simp) (by decide) rfl rfl rfl rfl rfl rfl) (by simp) ?_
  intro w3 h3 q3
  have g3 := below_row g2 (by have := g2.size; omega) q3 (Nat.le_refl _)
  simp only [List.nil_append, List.cons_append] at h3
  clear h2 g2 q3
  go_wp2_with fail
  refine upon_form h3 (World.grownBy_alloc w3 _ none) (formV_not h3.lt (by simp)) (by simp) ?_
  intro w4 h4 q4
  have g4 := below_row g3 (by have := g3.size; omega) q4 (Nat.le_refl _)
  simp only [List.nil_append, List.cons_append] at h4
  clear h3 g3 q4
  go_wp2_with fail
  refine upon_form h4 ((World.grownBy_alloc w4 _ none).trans (World.grownBy_alloc _ _ none)) (formV_two (op := 11) (k := arity 11) h4.lt (by simp) (by simp) (by decide) rfl rfl rfl rfl rfl rfl) (by simp) ?_
  intro w5 h5 q5
  have g5 := below_row g4 (by have := g4.size; omega) q5 (Nat.le_refl _)
  simp only [List.nil_append, List.cons_append] at h5
  clear h4 g4 q5
  go_wp2_with fail
  refine upon_form h5 ((World.grownBy_alloc w5 _ none).trans (World.grownBy_alloc _ _ none)) (formV_two (op := 12) (k := arity 12) h5.lt (by simp) (by simp) (by decide) rfl rfl rfl rfl rfl rfl) (by simp) ?_
  intro w6 h6 q6
  have g6 := below_row g5 (by have := g5.size; omega) q6 (Nat.le_refl _)
  simp only [List.nil_append, List.cons_append] at h6
  clear h5 g5 q6
  go_wp2_with fail
  refine upon_form h6 ((World.grownBy_alloc w6 _ none).trans (World.grownBy_alloc _ _ none)) (formV_two (op := 4) (k := arity 4) h6.lt (by simp) (by simp) (by decide) rfl rfl rfl rfl rfl rfl) (by simp) ?_
  intro w7 h7 q7
  have g7 := below_row g6 (by have := g6.size; omega) q7 (Nat.le_refl _)
  simp only [List.nil_append, List.cons_append] at h7
  clear h6 g6 q7
  go_wp2_with fail
  refine upon_form h7 ((World.grownBy_alloc w7 _ none).trans (World.grownBy_alloc _ _ none)) (formV_two (op := 5) (k := arity 5) h7.lt (by simp) (by simp) (by decide) rfl rfl rfl rfl rfl rfl) (by simp) ?_
  intro w8 h8 q8
  have g8 := below_row g7 (by have := g7.size; omega) q8 (Nat.le_refl _)
  simp only [List.nil_append, List.cons_append] at h8
  clear h7 g7 q8
  go_wp2_with fail
  refine upon_form h8 ((World.grownBy_alloc w8 _ none).trans (World.grownBy_alloc _ _ none)) (formV_two (op := 6) (k := arity 6) h8.lt (by simp) (by simp) (by decide) rfl rfl rfl rfl rfl rfl) (by simp) ?_
  intro w9 h9 q9
  have g9 := below_row g8 (by have := g8.size; omega) q9 (Nat.le_refl _)
  simp only [List.nil_append, List.cons_append] at h9
  clear h8 g8 q9
  go_wp2_with fail
  refine upon_form h9 ((World.grownBy_alloc w9 _ none).trans (World.grownBy_alloc _ _ none)) (formV_two (op := 7) (k := arity 7) h9.lt (by simp) (by simp) (by decide) rfl rfl rfl rfl rfl rfl) (by simp) ?_
  intro w10 h10 q10
  have g10 := below_row g9 (by have := g9.size; omega) q10 (Nat.le_refl _)
  simp only [List.nil_append, List.cons_append] at h10
  clear h9 g9 q10
  go_wp2_with fail
  refine upon_form h10 ((World.grownBy_alloc w10 _ none).trans (World.grownBy_alloc _ _ none)) (formV_two (op := 8) (k := arity 8) h10.lt (by simp) (by simp) (by decide) rfl rfl rfl rfl rfl rfl) (by simp) ?_
  intro w11 h11 q11
  have g11 := below_row g10 (by have := g10.size; omega) q11 (Nat.le_refl _)
  simp only [List.nil_append, List.cons_append] at h11
  clear h10 g10 q11
  go_wp2_with fail
  refine upon_form h11 ((World.grownBy_alloc w11 _ none).trans (World.grownBy_alloc _ _ none)) (formV_two (op := 9) (k := arity 9) h11.lt (by simp) (by simp) (by decide) rfl rfl rfl rfl rfl rfl) (by simp) ?_
  intro w12 h12 q12
  have g12 := below_row g11 (by have := g11.size; omega) q12 (Nat.le_refl _)
  simp only [List.nil_append, List.cons_append] at h12
  clear h11 g11 q12
  go_wp2_with fail
  go_ret
  exact ⟨_, _, _, _, _, _, _, _, _, _, _, _, _, rfl, Nat.le_refl _, h12, g12⟩
end Go.Proofs.YtomnjamldbficaaGreatDoor
