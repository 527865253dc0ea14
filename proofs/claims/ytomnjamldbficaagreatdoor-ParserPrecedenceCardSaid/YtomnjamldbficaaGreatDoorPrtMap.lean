/-
  Maps with integer keys that a call makes, at the level of objects: a new key stored.
-/
import Derived.Test.YtomnjamldbficaaGreatDoorPrtMem
import Derived.Tactics
import Derived.MapKept
import Derived.RangeFuncRecord
import Derived.Maps.Own
namespace Go.Proofs.YtomnjamldbficaaGreatDoor
open Go.RowKit
theorem heap_on {w : World} {r : Nat} {o : Obj} (h : w.heap[r]? = some o) (x : Obj) : (w.alloc x).heap[r]? = some o := ((World.grownBy_alloc w x none).block r (Array.getElem?_eq_some_iff.1 h).1 (by simp)).trans h
theorem run_mapUpdate_new {P : Program} {w : World} {t k e : TypeId} {r : Nat} {es : Array MapEntry} {clk : Nat} {n : Int} {v : Value} (ht : P.underlying t = some (.map k e)) (hk : P.underlying k = some (.int .i64))
    (hr : w.heap[r]? = some (.map es clk)) (hf : Instr.findNow (.int .i64) (.int .i64 n) es.toList 0 = some none) :
    (Instr.mapUpdate t (.map (some r)) (.int .i64 n) v).run P w = .ok () (w.putObj r (.map (es.push { key := .int .i64 n, val := v, born := clk }) (clk + 1))) := by
  have hck : (Instr.checkKey false (9999 + 1) k (.int .i64 n)).run P w = .ok () w := Go.MapKept.run_checkKey hk (by simp [MapKept.IsKey]) false 9999
  simp only [Instr.mapUpdate, Instr.findKey, Sem.run_bind, Sem.run_pure, run_underlying ht, run_underlying hk, Go.MapKept.run_getObj_map hr, hck, hf, Result.andThen_ok]
  rw [Go.MapKept.run_setObj_map _ hr]
  rfl
theorem run_lookup_at {P : Program} {w : World} {t k e : TypeId} {r : Nat} {es : Array MapEntry} {clk : Nat} {n : Int} {i : Nat} {v : Value} (ht : P.underlying t = some (.map k e)) (hk : P.underlying k = some (.int .i64))
    (hr : w.heap[r]? = some (.map es clk)) (hf : Instr.findNow (.int .i64) (.int .i64 n) es.toList 0 = some (some (i, v))) :
    (Instr.lookup t (.map (some r)) (.int .i64 n) true).run P w = .ok (.tuple #[v, .bool true]) w := by
  have hck : (Instr.checkKey es.isEmpty (9999 + 1) k (.int .i64 n)).run P w = .ok () w := Go.MapKept.run_checkKey hk (by simp [MapKept.IsKey]) _ 9999
  simp only [Instr.lookup, Instr.findKey, Sem.run_bind, Sem.run_pure, run_underlying ht, run_underlying hk, Go.MapKept.run_getObj_map hr, hck, hf, Result.andThen_ok]
  rfl
theorem run_lookup_none {P : Program} {w : World} {t k e : TypeId} {r : Nat} {es : Array MapEntry} {clk : Nat} {n : Int} {z : Value} (ht : P.underlying t = some (.map k e)) (hk : P.underlying k = some (.int .i64))
    (hr : w.heap[r]? = some (.map es clk)) (hf : Instr.findNow (.int .i64) (.int .i64 n) es.toList 0 = some none) (hz : (zeroValue e).run P w = .ok z w) :
    (Instr.lookup t (.map (some r)) (.int .i64 n) true).run P w = .ok (.tuple #[z, .bool false]) w := by
  have hck : (Instr.checkKey es.isEmpty (9999 + 1) k (.int .i64 n)).run P w = .ok () w := Go.MapKept.run_checkKey hk (by simp [MapKept.IsKey]) _ 9999
  simp only [Instr.lookup, Instr.findKey, Sem.run_bind, Sem.run_pure, run_underlying ht, run_underlying hk, Go.MapKept.run_getObj_map hr, hck, hf, hz, Result.andThen_ok]
  rfl
/-- a new key stored, as a law at the operation: the world behind it has a name -/
theorem wpList_mapUpdate_new {P : Program} (w : World) {ops : Array Oper} {rest : List Oper} {o : Oper} {a : Act} {Q : Exit → Act → World → Prop}
    (hg : o.guard = none) (m x v : Operand) (t : TypeId) (hop : o.op = Op.mapUpdate t m x v) (k e : TypeId) (ht : P.underlying t = some (.map k e)) (hk : P.underlying k = some (.int .i64)) (r : Nat) (es : Array MapEntry) (clk : Nat)
    (hm : a.eval m = .map (some r)) (hr : w.heap[r]? = some (.map es clk)) (n : Int) (val : Value) (hx : a.eval x = .int .i64 n) (hv : a.eval v = val) (hf : Instr.findNow (.int .i64) (.int .i64 n) es.toList 0 = some none)
    (hK : ∀ w', w'.heap[r]? = some (.map (es.push { key := .int .i64 n, val := val, born := clk }) (clk + 1)) → w.grownBy w' (some r) → wpList P ops Q rest (a.put o.dst undef) w') :
    wpList P ops Q (o :: rest) a w := by
  refine wpList_plain hg fun K' hK' => ?_
  have hrun := run_mapUpdate_new (v := val) ht hk hr hf
  have hlt := (Array.getElem?_eq_some_iff.1 hr).1
  unfold Oper.wp
  simp [execOp, hop, hm, hx, hv, hrun, Result.andThen]
  refine hK' _ _ (hK _ ?_ ?_)
  · simp [World.putObj, hlt]
  · refine ⟨rfl, rfl, rfl, by simp [World.putObj], fun i hi hne => ?_⟩
    exact World.putObj_heap_other (by intro e; subst e; exact hne rfl)
/-- a new key of a map's literal, as a law at the operation: the world behind it has a name -/
theorem wpList_insert_new {P : Program} (w : World) {ops : Array Oper} {rest : List Oper} {o : Oper} {a : Act} {Q : Exit → Act → World → Prop}
    (hg : o.guard = none) (m x v : Operand) (t : TypeId) (hop : o.op = Op.insert t m x v) (k e : TypeId) (ht : P.underlying t = some (.map k e)) (hk : P.underlying k = some (.int .i64)) (r : Nat) (es : Array MapEntry) (clk : Nat)
    (hm : a.eval m = .map (some r)) (hr : w.heap[r]? = some (.map es clk)) (n : Int) (val : Value) (hx : a.eval x = .int .i64 n) (hv : a.eval v = val) (hf : Instr.findNow (.int .i64) (.int .i64 n) es.toList 0 = some none)
    (hK : ∀ w', w'.heap[r]? = some (.map (es.push { key := .int .i64 n, val := val, born := clk }) (clk + 1)) → w.grownBy w' (some r) → wpList P ops Q rest (a.put o.dst undef) w') :
    wpList P ops Q (o :: rest) a w := by
  refine wpList_plain hg fun K' hK' => ?_
  have hrun := run_mapUpdate_new (v := val) ht hk hr hf
  have hlt := (Array.getElem?_eq_some_iff.1 hr).1
  unfold Oper.wp
  simp [execOp, hop, hm, hx, hv, hrun, Result.andThen]
  refine hK' _ _ (hK _ ?_ ?_)
  · simp [World.putObj, hlt]
  · refine ⟨rfl, rfl, rfl, by simp [World.putObj], fun i hi hne => ?_⟩
    exact World.putObj_heap_other (by intro e; subst e; exact hne rfl)
end Go.Proofs.YtomnjamldbficaaGreatDoor
