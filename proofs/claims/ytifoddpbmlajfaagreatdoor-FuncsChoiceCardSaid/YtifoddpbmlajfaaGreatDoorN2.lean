/-
  The program's naturals: shifts and quotients by one limb, in place.
-/
import Derived.Test.YtifoddpbmlajfaaGreatDoorS5
import Derived.Test.YtifoddpbmlajfaaGreatDoorN1
import Derived.Test.YtifoddpbmlajfaaGreatDoorS6
import Derived.Lib.ItoaNum
namespace Go.Proofs.YtifoddpbmlajfaaGreatDoor
open Go Go.RowKit

end Go.Proofs.YtifoddpbmlajfaaGreatDoor

namespace Go.Proofs.YtifoddpbmlajfaaGreatDoor
open Go Go.RowKit

end Go.Proofs.YtifoddpbmlajfaaGreatDoor

namespace Go.Proofs.YtifoddpbmlajfaaGreatDoor
open Go Go.RowKit
end Go.Proofs.YtifoddpbmlajfaaGreatDoor

namespace Go.Proofs.YtifoddpbmlajfaaGreatDoor
open Go Go.RowKit

end Go.Proofs.YtifoddpbmlajfaaGreatDoor

namespace Go.Proofs.YtifoddpbmlajfaaGreatDoor
open Go Go.RowKit

end Go.Proofs.YtifoddpbmlajfaaGreatDoor

namespace Go.Proofs.YtifoddpbmlajfaaGreatDoor
open Go Go.RowKit

end Go.Proofs.YtifoddpbmlajfaaGreatDoor

namespace Go.Proofs.YtifoddpbmlajfaaGreatDoor
open Go Go.RowKit

end Go.Proofs.YtifoddpbmlajfaaGreatDoor

namespace Go.Proofs.YtifoddpbmlajfaaGreatDoor
open Go

def dgt (n : Nat) : UInt8 := UInt8.ofNat (48 + n)
def decF : Nat → Nat → List UInt8 → List UInt8
  | 0, _, acc => acc
  | f + 1, n, acc => if n < 10 then dgt n :: acc else decF f (n / 10) (dgt (n % 10) :: acc)
def dec (n : Nat) : List UInt8 := decF (n + 1) n []
end Go.Proofs.YtifoddpbmlajfaaGreatDoor
