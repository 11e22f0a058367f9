/- Rosters: the reference's Move, Same. -/
import Derived.Test.YtedemhmlaodblabDoorRn
namespace Go.Proofs.YtedemhmlaodblabDoor
open Go Go.SX Go.RowKit
set_option maxRecDepth 100000
set_option maxHeartbeats 0
set_option synthInstance.maxSize 100000
set_option synthInstance.maxHeartbeats 400000
end Go.Proofs.YtedemhmlaodblabDoor
