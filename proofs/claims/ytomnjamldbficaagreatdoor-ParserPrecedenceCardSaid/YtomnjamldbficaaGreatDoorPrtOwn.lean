/-
  A slice of bytes of the call's own.
-/
import Derived.Test.YtomnjamldbficaaGreatDoorPrtW3
import Derived.Lib.AppendStr
import Derived.Lib.SlBytesRow
namespace Go.Proofs.YtomnjamldbficaaGreatDoor
open Go.RowKit Lx
def Own8 (w : World) (B : Nat) (v : Value) (l : Bytes) : Prop := w.ownsRow B 5 1 v l.length (Lib.byteCells l)
theorem own8_form {w : World} {B : Nat} {v : Value} {l : Bytes} (h : Own8 w B v l) : ∃ A c, v = .slice A l.length c := by
  rcases h.2 with ⟨hv, h0⟩ | ⟨g, cap, cur, hv, _⟩
  · exact ⟨none, 0, by rw [hv, h0]⟩
  · exact ⟨_, _, hv⟩
theorem below_own {w0 w w' : World} {B : Nat} {v : Value} {l : Bytes} {tmp : Obj} (hB : Below B w0 w) (hz : B ≤ w.heap.size) (ho : Own8 w B v l) (hg : (w.alloc tmp).grownBy w' v.ownBlock) : Below B w0 w' :=
  (hB.alloc hz _).grown hg (by simp; omega) (fun g e => (ho.lt g e).1)
theorem news1at (w : World) (n : Nat) (x : Value) (t : TypeId) (hn : n = w.heap.size) : ∀ (j : Nat) (u : Value), [x][j]? = some u → (w.alloc (.cells #[x] t)).cell? ((⟨n, 0, none⟩ : Addr).add j) = some u := by
  subst hn
  intro j u hj
  match j, hj with
  | 0, hj => simp at hj; subst hj; simp [Addr.add]
theorem news3at (w : World) (n : Nat) (x y z : Value) (t : TypeId) (hn : n = w.heap.size) : ∀ (j : Nat) (u : Value), [x, y, z][j]? = some u → (w.alloc (.cells #[x, y, z] t)).cell? ((⟨n, 0, none⟩ : Addr).add j) = some u := by
  subst hn
  intro j u hj
  match j, hj with
  | 0, hj => simp at hj; subst hj; simp [Addr.add]
  | 1, hj => simp at hj; subst hj; simp [Addr.add]
  | 2, hj => simp at hj; subst hj; simp [Addr.add]
theorem own8_nil (w : World) (B : Nat) : Own8 w B (.slice none 0 0) [] := ⟨rfl, .inl ⟨rfl, rfl⟩⟩
set_option maxRecDepth 100000 in
theorem conv_own8 {w : World} {B : Nat} {A : Option Addr} {c : Nat} {l : Bytes} (h : Own8 w B (.slice A l.length c) l) : (convert 91 9 (.slice A l.length c)).run Tryz.prog w = .ok (.string (mk l)) w := by
  rcases h.2 with ⟨hv, h0⟩ | ⟨g, cap, cur, hv, _, hg, _⟩
  · have hl : l = [] := List.length_eq_zero_iff.1 h0
    subst hl
    injection hv with e1 e2 e3
    subst e1 e3
    rw [run_convert_bytes_string w _ _ 5 _ _ _ Tryz.underlying91 Tryz.underlying5 Tryz.underlying9]
    simp [Conv.bytesToString, mk]
    rfl
  · injection hv with e1 e2 e3
    subst e1 e3
    have := Lib.run_convert_whole (P := Tryz.prog) w 91 5 9 Tryz.underlying91 Tryz.underlying5 Tryz.underlying9 g 0 (mk l) (fun i hi => by
      have hi' : i < l.length := by rw [size_mk] at hi; exact hi
      rw [Nat.zero_add, h.cellAt i (by omega), Lib.byteCells, List.getElem?_map, List.getElem?_eq_getElem hi']
      rfl) c
    rw [size_mk] at this
    exact this
theorem Tryz.infoByte : (Tryz.prog.info? 5).map (fun i => (i.zero, i.size, i.bytes)) = some (some (.int .u8 0), 1, 1) := by kernel_rfl
end Go.Proofs.YtomnjamldbficaaGreatDoor
