/- Rows.MarkReachesCardSaid is proved: marked is just what is reached. No condition beyond the card's own. -/
import Derived.Test.YtlkjnefenialbaaGreatDoorM27
import Derived.Test.YtlkjnefenialbaaGreatDoorM47
import Derived.Test.YtlkjnefenialbaaGreatDoorM49
import Derived.Test.YtlkjnefenialbaaGreatDoorM51
set_option linter.unusedVariables false
set_option linter.unusedSimpArgs false
set_option maxHeartbeats 8000000
set_option maxRecDepth 100000
namespace Go.Proofs.YtlkjnefenialbaaGreatDoor
open Go.ChangeShapes Go.WideShapes Go.ChangeAt Go.RowKit
namespace reaches
theorem law:qb:=fun W a b c tv ls os rs ts hG s0 s1 s2 st ht=>by
 have ID:∀W',Bd (fun _=>False) W':=fun W' i hi=>hi.elim
 obtain⟨a0,n0,rfl,_⟩:=s0.open_
 obtain⟨a1,n1,rfl,_⟩:=s1.open_
 obtain⟨a2,n2,rfl,_⟩:=s2.open_
 exact Qj W hG _ _ _ _ _ _ _ _ _ (fun _=>False) tv ts st ht (fun W' hb=>Ex ls os rs (fun _=>False) W' (ID W') _ _ _ (s0.below hb) (s1.below hb) (s2.below hb)) (fun x W' lv ov rv hx hg hl ho hr=>Ij x W' lv ov rv hx hg hl ho hr)
theorem holds:Rows.MarkReachesCardSaid:=Nf law
end reaches
end Go.Proofs.YtlkjnefenialbaaGreatDoor
