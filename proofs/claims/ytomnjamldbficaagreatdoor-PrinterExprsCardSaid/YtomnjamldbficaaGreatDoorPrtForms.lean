/-
  The map that forms of package printer makes: what it holds.
-/
import Derived.Test.YtomnjamldbficaaGreatDoorPrtW1
import Derived.Test.YtomnjamldbficaaGreatDoorPrtMap
namespace Go.Proofs.YtomnjamldbficaaGreatDoor
open Go.RowKit Lx Px
namespace Px
def arity (op : Int) : Nat := if op = 10 then 3 else if op = 15 then 1 else 2
def sepL (op : Int) : List Bytes := if op = 10 then [sepOf 10 1, sepOf 10 2] else if op = 15 then [] else [sepOf op 1]
def leastL (op : Int) : List Int := if op = 10 then [0, 0, 0] else if op = 15 then [3] else [leastOf op 0, leastOf op 1]
end Px
/-- the entries of a map's literal with integer keys -/
def esOf : List (Int × Value) → Nat → List MapEntry
  | [], _ => []
  | p :: r, i => { key := .int .i64 p.1, val := p.2, born := i } :: esOf r (i + 1)
theorem esOf_snoc (p : Int × Value) : ∀ (L : List (Int × Value)) (i : Nat), esOf (L ++ [p]) i = esOf L i ++ [{ key := .int .i64 p.1, val := p.2, born := i + L.length }] := by
  intro L
  induction L with
  | nil => intro i; rfl
  | cons q r ih => intro i; simp only [List.cons_append, esOf, ih, List.length_cons]; rw [show i + 1 + r.length = i + (r.length + 1) from by omega]
/-- a value is the form of an operator; its slices lie in blocks of their own -/
def FormV (w : World) (r : Nat) (op : Int) (v : Value) : Prop :=
  ∃ bs b2 : Nat, v = .agg #[.string (mk (beginOf op)), (if op = 15 then .slice none 0 0 else .slice (some ⟨bs, 0, none⟩) (arity op - 1) (arity op - 1)), .string (mk (endOf op)), .int .i64 (rankOf op), .slice (some ⟨b2, 0, none⟩) (arity op) (arity op)] ∧
    (op ≠ 15 → bs ≠ r ∧ w.heap[bs]? = some (.cells ((sepL op).map fun s => .string (mk s)).toArray 9 (0, 0))) ∧
    b2 ≠ r ∧ w.heap[b2]? = some (.cells ((leastL op).map (.int .i64)).toArray 3 (0, 0))
def FormsIn (w : World) (r : Nat) (L : List (Int × Value)) : Prop := w.heap[r]? = some (.map (esOf L 0).toArray L.length) ∧ ∀ p ∈ L, FormV w r p.1 p.2
theorem FormV.grown {w w' : World} {r : Nat} {op : Int} {v : Value} (h : FormV w r op v) (hg : w.grownBy w' (some r)) : FormV w' r op v := by
  obtain ⟨bs, b2, hv, h1, h2, h3⟩ := h
  refine ⟨bs, b2, hv, fun ho => ?_, h2, ?_⟩
  · obtain ⟨g1, g2⟩ := h1 ho
    exact ⟨g1, (hg.block bs (Array.getElem?_eq_some_iff.1 g2).1 (by simpa using g1)).trans g2⟩
  · exact (hg.block b2 (Array.getElem?_eq_some_iff.1 h3).1 (by simpa using h2)).trans h3
theorem findNow_none (n : Int) : ∀ (L : List (Int × Value)) (i j : Nat), (∀ p ∈ L, p.1 ≠ n) → Instr.findNow (.int .i64) (.int .i64 n) (esOf L i) j = some none := by
  intro L
  induction L with
  | nil => intro i j _; rfl
  | cons q r ih =>
    intro i j h
    have h1 : q.1 ≠ n := h q (by simp)
    have h2 := ih (i + 1) (j + 1) (fun p hp => h p (by simp [hp]))
    have h3 : Instr.sameNow (.int .i64) (.int .i64 n) (.int .i64 q.1) = some false := by
      simp [Instr.sameNow, Ne.symm h1]
    simp only [esOf, Instr.findNow, h3]
    exact h2
theorem findNow_at (n : Int) (v : Value) : ∀ (L L2 : List (Int × Value)) (i j : Nat), (∀ p ∈ L, p.1 ≠ n) → Instr.findNow (.int .i64) (.int .i64 n) (esOf (L ++ (n, v) :: L2) i) j = some (some (j + L.length, v)) := by
  intro L
  induction L with
  | nil => intro L2 i j _; simp [esOf, Instr.findNow, Instr.sameNow]
  | cons q r ih =>
    intro L2 i j h
    have h1 : q.1 ≠ n := h q (by simp)
    have h2 := ih L2 (i + 1) (j + 1) (fun p hp => h p (by simp [hp]))
    have h3 : Instr.sameNow (.int .i64) (.int .i64 n) (.int .i64 q.1) = some false := by
      simp [Instr.sameNow, Ne.symm h1]
    simp only [List.cons_append, esOf, Instr.findNow, h3, h2, List.length_cons]
    rw [show j + 1 + r.length = j + (r.length + 1) from by omega]
theorem heap_new2 (w : World) (o o2 : Obj) : ((w.alloc o).alloc o2).heap[w.heap.size]? = some o ∧ ((w.alloc o).alloc o2).heap[w.heap.size + 1]? = some o2 :=
  ⟨heap_on (World.alloc_heap_new w o) o2, by have := World.alloc_heap_new (w.alloc o) o2; simpa using this⟩
theorem grown_row {w w' : World} (h : w.grownBy w' none) (r : Nat) : w.grownBy w' (some r) := by
  obtain ⟨h1, h2, h3, h4, h5⟩ := h
  exact ⟨h1, h2, h3, h4, fun i hi _ => h5 i hi (by simp)⟩
theorem FormsIn.new (w : World) : FormsIn (w.alloc (.map #[] 0)) w.heap.size [] := ⟨World.alloc_heap_new w _, by simp⟩
theorem FormsIn.step {w w1 w' : World} {r : Nat} {L : List (Int × Value)} {op : Int} {V : Value} (h : FormsIn w r L) (hw : w.grownBy w1 none) (hV : FormV w1 r op V)
    (hr : w'.heap[r]? = some (.map ((esOf L 0).toArray.push { key := .int .i64 op, val := V, born := L.length }) (L.length + 1))) (hg : w1.grownBy w' (some r)) : FormsIn w' r (L ++ [(op, V)]) := by
  have hrl : r < w.heap.size := (Array.getElem?_eq_some_iff.1 h.1).1
  refine ⟨?_, ?_⟩
  · rw [hr, esOf_snoc]; simp
  · intro p hp
    rcases List.mem_append.1 hp with hp | hp
    · exact ((h.2 p hp).grown (grown_row hw r)).grown hg
    · simp at hp; subst hp; exact hV.grown hg
theorem FormsIn.lt {w : World} {r : Nat} {L : List (Int × Value)} (h : FormsIn w r L) : r < w.heap.size := (Array.getElem?_eq_some_iff.1 h.1).1
/-- the insertion of a form into the map -/
theorem upon_form {o : Oper} {a : Act} {K : Act → World → Prop} {Q : Exit → Act → World → Prop} {w w1 : World} {r : Nat} {L : List (Int × Value)} {op : Int} {V : Value} (h : FormsIn w r L) (hw : w.grownBy w1 none) (hV : FormV w1 r op V)
    (hn : ∀ p ∈ L, p.1 ≠ op) (hK : ∀ w', FormsIn w' r (L ++ [(op, V)]) → w.grownBy w' (some r) → Oper.upon Tryz.prog o a K Q (.ok .skip w')) :
    Oper.upon Tryz.prog o a K Q (((Instr.mapUpdate 138 (.map (some r)) (.int .i64 op) V).run Tryz.prog w1).andThen fun _ w' => .ok .skip w') := by
  have hr1 : w1.heap[r]? = some (.map (esOf L 0).toArray L.length) := (hw.block r h.lt (by simp)).trans h.1
  have hrun := run_mapUpdate_new (P := Tryz.prog) (v := V) Tryz.underlying138 Tryz.underlying3 hr1 (findNow_none op L 0 0 hn)
  rw [hrun]
  have hlt := (Array.getElem?_eq_some_iff.1 hr1).1
  have hg : w1.grownBy (w1.putObj r (.map ((esOf L 0).toArray.push { key := .int .i64 op, val := V, born := L.length }) (L.length + 1))) (some r) :=
    ⟨rfl, rfl, rfl, by simp [World.putObj], fun i hi hne => World.putObj_heap_other (by intro e; subst e; exact hne rfl)⟩
  refine hK _ (h.step hw hV ?_ hg) ((grown_row hw r).trans hg)
  simp [World.putObj, hlt]
theorem formV_two {w : World} {r : Nat} {op : Int} {b1 b2 k : Nat} {s1 s2 : ByteArray} {rk : Int} {cs ls : Array Value} (hr : r < w.heap.size) (hb1 : b1 = w.heap.size) (hb2 : b2 = w.heap.size + 1) (ho : op ≠ 15) (h1 : s1 = mk (beginOf op)) (h2 : s2 = mk (endOf op)) (h3 : rk = rankOf op)
    (hk : k = arity op) (hcs : cs = ((sepL op).map fun s => .string (mk s)).toArray) (hls : ls = ((leastL op).map (.int .i64)).toArray) :
    FormV ((w.alloc (.cells cs 9 (0, 0))).alloc (.cells ls 3 (0, 0))) r op (.agg #[.string s1, .slice (some ⟨b1, 0, none⟩) (k - 1) (k - 1), .string s2, .int .i64 rk, .slice (some ⟨b2, 0, none⟩) k k]) := by
  subst hb1 hb2 h1 h2 h3 hk hcs hls
  obtain ⟨g1, g2⟩ := heap_new2 w (.cells ((sepL op).map fun s => .string (mk s)).toArray 9 (0, 0)) (.cells ((leastL op).map (.int .i64)).toArray 3 (0, 0))
  exact ⟨w.heap.size, w.heap.size + 1, by rw [if_neg ho], fun _ => ⟨by omega, g1⟩, by omega, g2⟩
theorem formV_not {w : World} {r : Nat} {b2 : Nat} (hr : r < w.heap.size) (hb2 : b2 = w.heap.size) :
    FormV (w.alloc (.cells #[.int .i64 3] 3 (0, 0))) r 15 (.agg #[.string ⟨#[110, 111, 116, 32]⟩, .slice none 0 0, .string ⟨#[]⟩, .int .i64 3, .slice (some ⟨b2, 0, none⟩) 1 1]) := by
  subst hb2
  exact ⟨0, w.heap.size, rfl, fun h => absurd rfl h, by omega, World.alloc_heap_new w _⟩
end Go.Proofs.YtomnjamldbficaaGreatDoor
