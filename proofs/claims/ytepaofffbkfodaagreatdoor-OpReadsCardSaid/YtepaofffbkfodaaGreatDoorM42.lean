/- A part of OpReads's proof; no condition. -/
import Derived.Test.YtepaofffbkfodaaGreatDoorM23
import Derived.Test.YtepaofffbkfodaaGreatDoorM40
import Derived.Test.YtepaofffbkfodaaGreatDoorM41
set_option linter.all false
set_option maxHeartbeats 8000000
set_option maxRecDepth 100000
namespace Go.Proofs.YtepaofffbkfodaaGreatDoor
open Go.ChangeShapes Go.WideShapes Go.ChangeAt Go.RowKit
namespace opreads
def law:sx:=λW a b c qv ls os rs q hG s0 s1 s2 s3 hq=>by
 have vS:∀W',Bd xF W':=λW' i hi=>hi.elim;obtain⟨a0,n0,rfl,_⟩:=s0.open_;obtain⟨a1,n1,rfl,_⟩:=s1.open_;obtain⟨a2,n2,rfl,_⟩:=s2.open_;exact Jg W hG _ _ _ _ _ _ _ _ _ qv q s3 hq (λW' hb=>Jh ls os rs xF W' (vS W') _ _ _ (s0.below hb) (s1.below hb) (s2.below hb))
theorem holds:Rows.OpReadsCardSaid:=SA law
end opreads
end Go.Proofs.YtepaofffbkfodaaGreatDoor
