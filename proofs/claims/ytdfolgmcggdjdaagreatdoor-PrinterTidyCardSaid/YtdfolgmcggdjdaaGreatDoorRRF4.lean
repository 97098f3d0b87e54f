/-
  Walks: the reference's rest.
-/
import Derived.Test.YtdfolgmcggdjdaaGreatDoorRGI0
namespace Go.Proofs.YtdfolgmcggdjdaaGreatDoor
open Go.RowKit
set_option maxHeartbeats 16000000
set_option maxRecDepth 100000
end Go.Proofs.YtdfolgmcggdjdaaGreatDoor


