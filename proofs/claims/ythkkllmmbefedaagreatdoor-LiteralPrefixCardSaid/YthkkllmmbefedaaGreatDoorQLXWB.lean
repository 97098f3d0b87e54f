/-
  lexer.token, whatever stands in front.
-/
import Derived.Test.YthkkllmmbefedaaGreatDoorQLXWA
namespace Go.Proofs.YthkkllmmbefedaaGreatDoor
open Go.RowKit
set_option maxHeartbeats 16000000
set_option maxRecDepth 100000
