/- Texts of ParsePrints, joined. -/
import Derived.Test.YtmippldlhnajkaaGreatDoorParsePrintsJ4
set_option maxRecDepth 100000
set_option maxHeartbeats 20000000
set_option linter.unusedSimpArgs false
set_option linter.unusedVariables false
set_option linter.unusedSectionVars false
namespace Go.Proofs.YtmippldlhnajkaaGreatDoor.Sc
open Go Go.Vm
end Go.Proofs.YtmippldlhnajkaaGreatDoor.Sc
namespace Go.Proofs.YtmippldlhnajkaaGreatDoor.Sc
open Go Go.Vm
end Go.Proofs.YtmippldlhnajkaaGreatDoor.Sc
namespace Go.Proofs.YtmippldlhnajkaaGreatDoor.Sc
open Go Go.Vm
def RBd:MR->Prop | .done l=>l.length<=3000 | .err _ _=>True | .go _=>False
def b6o:MR->V | .done l=>.tuple [.slice .sealed l.length (b1S l),.agg [.i 0,.i 0]] | .err c a=>.tuple [.slice .sealed 0 [],.agg [.i c,.i (a:Int)]] | .go _=>.undef
end Go.Proofs.YtmippldlhnajkaaGreatDoor.Sc
