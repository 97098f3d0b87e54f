/-
  Walks: value.Compare.
-/
import Derived.Test.YtdfolgmcggdjdaaGreatDoorRGG0
namespace Go.Proofs.YtdfolgmcggdjdaaGreatDoor
open Go.RowKit
set_option maxHeartbeats 16000000
set_option maxRecDepth 100000
end Go.Proofs.YtdfolgmcggdjdaaGreatDoor


