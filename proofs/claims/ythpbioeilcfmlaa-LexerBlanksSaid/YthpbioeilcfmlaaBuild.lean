/-
  strings.Builder at this program: WriteString, with the frame that reaches above the builder (the shelf's contract at this program's numbers).
-/
import Derived.Test.YthpbioeilcfmlaaShelf
import Derived.Shelf.Strings.BuilderK
import Derived.WalkKit
import Derived.WalkSpells
import Derived.Lib.Hide
namespace Go.Proofs.Ythpbioeilcfmlaa
open Go.RowKit Go.Shelf
theorem Try.infoByte : (Try.prog.info? 5).map (fun i => (i.zero, i.size, i.bytes)) = some (some (.int .u8 0), 1, 1) := by kernel_rfl
theorem writeString_any (B b : Nat) (bs : List Value) (s : ByteArray) (w : World) (h : Lib.IsBuilderF 46 5 B b bs w) (hlen : bs.length + s.size ≤ 140737488355328) (hBw : B ≤ w.heap.size) :
    Calls Try.prog 22 #[.pointer (some ⟨b, 0, none⟩), .string s] w fun e w' => e = .returned (.tuple #[.int .i64 s.size, .nilIface]) ∧ (Lib.BuilderAtF 46 5 B b (.pointer (some ⟨b, 0, none⟩)) (bs ++ Lib.strCells s) w' ∧ Below B w w' ∧ Lib.OthersKept 5 (some b) w w') :=
  Any.Builder_WriteString_k { Try.lays105 with } Try.Builder_Extra_105 B b bs s w h hlen hBw
end Go.Proofs.Ythpbioeilcfmlaa
