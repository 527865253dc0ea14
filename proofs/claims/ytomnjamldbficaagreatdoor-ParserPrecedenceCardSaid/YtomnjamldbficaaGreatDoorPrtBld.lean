/-
  The printer's writer (a struct that embeds a strings.Builder) in a block of its own holds bytes.
-/
import Derived.Test.YtomnjamldbficaaGreatDoorBldW
import Derived.Test.YtomnjamldbficaaGreatDoorPrtMem
namespace Go.Proofs.YtomnjamldbficaaGreatDoor
open Go.RowKit Lx
/-- the writer in block b holds the bytes l -/
def Wd (b : Nat) (l : Bytes) (w : World) : Prop := Lib.IsBuilderF 97 5 b b (Lib.byteCells l) w
/-- whatever is not this writer, nor a row of bytes, lies as it lay -/
def Okp (b : Nat) (w w' : World) : Prop := Lib.OthersKept 5 (some b) w w'
theorem wd_new (w : World) : Wd w.heap.size [] (w.alloc (.cells #[.pointer none, .slice none 0 0] 97)) :=
  .inl ⟨Nat.le_refl _, .slice none 0 0, heap_alloc_new w _, World.ownsRowF_nil _ _ _ _, by simp [Value.ownBlock]⟩
theorem bat_below {T e : TypeId} {B b : Nat} {p : Value} {bs : List Value} {w w' : World} (h : Lib.BuilderAtF T e B b p bs w) (hb : Below w.heap.size w w') : Lib.BuilderAtF T e B b p bs w' := by
  obtain ⟨hB, v, hbk, ⟨hl, hown⟩, hne⟩ := h
  refine ⟨hB, v, (hb.block b (Array.getElem?_eq_some_iff.1 hbk).1).trans hbk, ⟨hl, ?_⟩, hne⟩
  rcases hown with h0 | ⟨g, cap, cur, fz, hv, hg, hgk, rest⟩
  · exact .inl h0
  · exact .inr ⟨g, cap, cur, fz, hv, hg, (hb.block g (Array.getElem?_eq_some_iff.1 hgk).1).trans hgk, rest⟩
theorem wd_below {b : Nat} {l : Bytes} {w w' : World} (h : Wd b l w) (hb : Below w.heap.size w w') : Wd b l w' := by
  rcases h with h | h
  · exact .inl (bat_below h hb)
  · exact .inr (bat_below h hb)
theorem wd_alloc {b : Nat} {l : Bytes} {w : World} (h : Wd b l w) (o : Obj) : Wd b l (w.alloc o) := wd_below h ((Below.refl _ _).alloc (Nat.le_refl _) _)
theorem wd_drew {b : Nat} {l : Bytes} {w : World} (h : Wd b l w) : Wd b l w.drew := h
theorem wd_lt {b : Nat} {l : Bytes} {w : World} (h : Wd b l w) : b < w.heap.size := by
  rcases h with h | h <;> exact h.lt
theorem lies166 : Bw.Lies Tryz.prog Tryz.bRen 97 := ⟨by kernel_rfl, by decide⟩
theorem lies169 : Bw.Lies Tryz.prog Tryz.lays169_ren 97 := ⟨by kernel_rfl, by decide⟩
def WsPost (b : Nat) (l : Bytes) (s : ByteArray) (w : World) (e : Ending) (w' : World) : Prop := e = .returned (.tuple #[.int .i64 s.size, .nilIface]) ∧ Wd b (l ++ bl s) w' ∧ Below b w w' ∧ Okp b w w'
theorem ws_any (b : Nat) (l : Bytes) (s : ByteArray) (w : World) (h : Wd b l w) (hlen : l.length + s.size ≤ 140737488355328) :
    Calls Tryz.prog 63 #[.pointer (some ⟨b, 0, none⟩), .string s] w fun e w' => WsPost b l s w e w' :=
  (Bw.WriteString_k lies166 Tryz.lays166 Tryz.bExtra b b (Lib.byteCells l) s w h (by rw [Lib.byteCells_length]; exact hlen) (Nat.le_of_lt (wd_lt h))).1.mono fun _ _ ⟨he, h1, h2, h3⟩ =>
    ⟨he, .inr (by rw [Lib.byteCells_append]; exact h1), h2, h3⟩
theorem ws_defer (b : Nat) (l : Bytes) (s : ByteArray) (w : World) (u : FrameMode) (h : Wd b l w) (hlen : l.length + s.size ≤ 140737488355328) :
    CallsD Tryz.prog 63 #[.pointer (some ⟨b, 0, none⟩), .string s] u w fun e u' w' => u' = u ∧ WsPost b l s w e w' :=
  ((Bw.WriteString_k lies166 Tryz.lays166 Tryz.bExtra b b (Lib.byteCells l) s w h (by rw [Lib.byteCells_length]; exact hlen) (Nat.le_of_lt (wd_lt h))).2 u).mono fun _ _ _ ⟨hu, he, h1, h2, h3⟩ =>
    ⟨hu, he, .inr (by rw [Lib.byteCells_append]; exact h1), h2, h3⟩
theorem wb_any (b : Nat) (l : Bytes) (c : UInt8) (w : World) (h : Wd b l w) (hlen : l.length + 1 ≤ 140737488355328) :
    Calls Tryz.prog 98 #[.pointer (some ⟨b, 0, none⟩), .int .u8 c.toNat] w fun e w' => e = .returned .nilIface ∧ Wd b (l ++ [c]) w' ∧ Below b w w' ∧ Okp b w w' :=
  (Bw.WriteByte_k lies166 Tryz.lays167 Tryz.bExtra b b (Lib.byteCells l) c.toNat w h (by rw [Lib.byteCells_length]; exact hlen) (Nat.le_of_lt (wd_lt h))).mono fun _ _ ⟨he, h1, h2, h3⟩ =>
    ⟨he, .inr (by rw [Lib.byteCells_append]; exact h1), h2, h3⟩
theorem wstr_any (b : Nat) (l : Bytes) (w : World) (h : Wd b l w) :
    Calls Tryz.prog 59 #[.pointer (some ⟨b, 0, none⟩)] w fun e w' => e = .returned (.string (mk l)) ∧ Below b w w' :=
  (Bw.String_any lies169 Tryz.lays169 Tryz.Builder_Extra_169 b b l w h (Nat.le_of_lt (wd_lt h))).mono fun _ _ ⟨he, hw⟩ => ⟨he, hw.2⟩
/-- a block of another kind than the writer's and than a row of bytes is kept -/
theorem okp_block {b k : Nat} {w w' : World} {cs : Array Value} {t : TypeId} {fz : Nat × Nat} (h : Okp b w w') (hk : w.heap[k]? = some (.cells cs t fz)) (hb : k ≠ b) (ht : t ≠ 5) : w'.heap[k]? = some (.cells cs t fz) :=
  h k _ hk (by simpa using hb) (fun c fz' e => by cases e; exact ht rfl)
end Go.Proofs.YtomnjamldbficaaGreatDoor
