/-
  Plain: the text of an expression is read as this expression.
-/
import Derived.Test.YtomnjamldbficaaGreatDoorPrtRead
namespace Go.Proofs.YtomnjamldbficaaGreatDoor
namespace Px
open Lx
end Px
end Go.Proofs.YtomnjamldbficaaGreatDoor
