import Derived.Test.YtmmgbnolccpjoaaGreatDoorVbk
namespace Go.Proofs.YtmmgbnolccpjoaaGreatDoor
open Go.Proofs.Tryz
open Go Go.RowKit
def ops17:List (List UInt8):=[[43],[45],[42],[47],[94],[38],[61],[60,62],[60],[60,61],[62],[62,61],[37]]
theorem ciQ:ops17.length=13:=rfl
attribute [local irreducible] yR acV acN
end Go.Proofs.YtmmgbnolccpjoaaGreatDoor
