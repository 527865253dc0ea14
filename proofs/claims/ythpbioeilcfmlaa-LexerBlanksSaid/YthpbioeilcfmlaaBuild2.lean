/-
  strings.Builder at this program: a builder in a block of its own holds bytes.
-/
import Derived.Test.YthpbioeilcfmlaaBuild
import Derived.Test.YthpbioeilcfmlaaLexPlain
namespace Go.Proofs.Ythpbioeilcfmlaa
open Go.RowKit Lx
/-- the builder in block b holds the bytes l -/
def Bd (b : Nat) (l : Bytes) (w : World) : Prop := Lib.IsBuilderF 46 5 b b (Lib.byteCells l) w
/-- whatever is not this builder, nor a row of bytes, lies as it lay -/
def Okp (b : Nat) (w w' : World) : Prop := Lib.OthersKept 5 (some b) w w'
theorem bd_new (w : World) : Bd w.heap.size [] (w.alloc (.cells #[.pointer none, .slice none 0 0] 46)) :=
  .inl ⟨Nat.le_refl _, .slice none 0 0, heap_alloc_new w _, World.ownsRowF_nil _ _ _ _, by simp [Value.ownBlock]⟩
theorem bat_below {T e : TypeId} {B b : Nat} {p : Value} {bs : List Value} {w w' : World} (h : Lib.BuilderAtF T e B b p bs w) (hb : Below w.heap.size w w') : Lib.BuilderAtF T e B b p bs w' := by
  obtain ⟨hB, v, hbk, ⟨hl, hown⟩, hne⟩ := h
  refine ⟨hB, v, (hb.block b (Array.getElem?_eq_some_iff.1 hbk).1).trans hbk, ⟨hl, ?_⟩, hne⟩
  rcases hown with h0 | ⟨g, cap, cur, fz, hv, hg, hgk, rest⟩
  · exact .inl h0
  · exact .inr ⟨g, cap, cur, fz, hv, hg, (hb.block g (Array.getElem?_eq_some_iff.1 hgk).1).trans hgk, rest⟩
theorem bd_below {b : Nat} {l : Bytes} {w w' : World} (h : Bd b l w) (hb : Below w.heap.size w w') : Bd b l w' := by
  rcases h with h | h
  · exact .inl (bat_below h hb)
  · exact .inr (bat_below h hb)
theorem bd_alloc {b : Nat} {l : Bytes} {w : World} (h : Bd b l w) (o : Obj) : Bd b l (w.alloc o) := bd_below h ((Below.refl _ _).alloc (Nat.le_refl _) _)
theorem bd_lt {b : Nat} {l : Bytes} {w : World} (h : Bd b l w) : b < w.heap.size := by
  rcases h with h | h <;> exact h.lt
theorem ws_any (b : Nat) (l : Bytes) (s : ByteArray) (w : World) (h : Bd b l w) (hlen : l.length + s.size ≤ 140737488355328) :
    Calls Try.prog 22 #[.pointer (some ⟨b, 0, none⟩), .string s] w fun e w' => e = .returned (.tuple #[.int .i64 s.size, .nilIface]) ∧ Bd b (l ++ bl s) w' ∧ Below b w w' ∧ Okp b w w' :=
  (writeString_any b b (Lib.byteCells l) s w h (by rw [Lib.byteCells_length]; exact hlen) (Nat.le_of_lt (bd_lt h))).mono fun _ _ ⟨he, h1, h2, h3⟩ =>
    ⟨he, .inr (by rw [Lib.byteCells_append]; exact h1), h2, h3⟩
theorem blen_any (b : Nat) (l : Bytes) (w : World) (h : Bd b l w) :
    Calls Try.prog 24 #[.pointer (some ⟨b, 0, none⟩)] w fun e w' => e = .returned (.int .i64 l.length) ∧ w = w' :=
  (Try.Builder_Len_f b b (Lib.byteCells l) w h).mono fun _ _ ⟨he, hw⟩ => ⟨by rw [he, Lib.byteCells_length], hw.symm⟩
theorem bstr_any (b : Nat) (l : Bytes) (w : World) (h : Bd b l w) :
    Calls Try.prog 25 #[.pointer (some ⟨b, 0, none⟩)] w fun e w' => e = .returned (.string (mk l)) ∧ Below b w w' :=
  (Try.Builder_String_any_f b b l w h (Nat.le_of_lt (bd_lt h))).mono fun _ _ ⟨he, hw⟩ => ⟨he, hw.2⟩
/-- a block of another kind than the builder's and than a row of bytes is kept -/
theorem okp_block {b k : Nat} {w w' : World} {cs : Array Value} {t : TypeId} {fz : Nat × Nat} (h : Okp b w w') (hk : w.heap[k]? = some (.cells cs t fz)) (hb : k ≠ b) (ht : t ≠ 5) : w'.heap[k]? = some (.cells cs t fz) :=
  h k _ hk (by simpa using hb) (fun c fz' e => by cases e; exact ht rfl)
theorem repeat_any (c : Nat) (w : World) (hc : c ≤ 1000000) :
    Calls Try.prog 23 #[.string ⟨#[10]⟩, .int .i64 c] w fun e w' => e = .returned (.string (mk (List.replicate c 10))) ∧ Below w.heap.size w w' :=
  (Try.strings_Repeat ⟨#[10]⟩ c w (by omega) (by show 1 * c ≤ _; omega)).mono fun _ _ ⟨he, hw⟩ => ⟨by
    rw [he]
    have := Lib.repeatL_replicate 10 1 c
    rw [Nat.mul_one] at this
    exact congrArg (fun l : List UInt8 => Ending.returned (.string ⟨l.toArray⟩)) this, hw⟩
end Go.Proofs.Ythpbioeilcfmlaa
