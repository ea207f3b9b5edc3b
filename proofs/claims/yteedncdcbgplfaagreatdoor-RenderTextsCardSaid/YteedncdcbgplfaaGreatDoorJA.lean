import Derived.Test.YteedncdcbgplfaaGreatDoorJ9
namespace Go.Proofs.YteedncdcbgplfaaGreatDoor
open Go Go.RowKit

end Go.Proofs.YteedncdcbgplfaaGreatDoor
