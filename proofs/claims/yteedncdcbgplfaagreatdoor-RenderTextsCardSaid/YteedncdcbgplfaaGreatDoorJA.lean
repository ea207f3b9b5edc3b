import Derived.Test.YteedncdcbgplfaaGreatDoorJ9
namespace Go.Proofs.YteedncdcbgplfaaGreatDoor
open Go.Proofs.Tryz
open Go Go.RowKit
end Go.Proofs.YteedncdcbgplfaaGreatDoor
