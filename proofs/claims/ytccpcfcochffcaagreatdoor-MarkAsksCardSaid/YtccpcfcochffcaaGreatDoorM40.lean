/- MarkAsks (Rows.MarkAsksCardSaid) is proved: whatever a query answers refers to what is marked alone; no condition beyond the card's own. -/
import Derived.Test.YtccpcfcochffcaaGreatDoorM31
import Derived.Test.YtccpcfcochffcaaGreatDoorM38
import Derived.Test.YtccpcfcochffcaaGreatDoorM39
set_option linter.all false
set_option maxHeartbeats 8000000
set_option maxRecDepth 100000
namespace Go.Proofs.YtccpcfcochffcaaGreatDoor
open Go.ChangeShapes Go.WideShapes Go.ChangeAt Go.RowKit
namespace asks
theorem law:tw:=λW a b c qv ls os rs q hG s0 s1 s2 hq=>by
 have Nz:∀W',Bd xF W':=λW' i hi=>hi.elim;obtain⟨a0,n0,rfl,_⟩:=s0.open_;obtain⟨a1,n1,rfl,_⟩:=s1.open_;obtain⟨a2,n2,rfl,_⟩:=s2.open_;exact TN W hG _ _ _ _ _ _ _ _ _ qv q hq (λW' hb=>JH ls os rs xF W' (Nz W') _ _ _ (s0.below hb) (s1.below hb) (s2.below hb))
theorem holds:Rows.MarkAsksCardSaid:=Ti law
end asks
end Go.Proofs.YtccpcfcochffcaaGreatDoor
