/- Two markers; no condition beyond each theorem's own. -/
import Derived.Test.YtlkjnefenialbaaGreatDoorM30
import Derived.Test.YtlkjnefenialbaaGreatDoorM40
set_option linter.unusedVariables false
set_option linter.unusedSimpArgs false
set_option maxHeartbeats 8000000
set_option maxRecDepth 100000
namespace Go.Proofs.YtlkjnefenialbaaGreatDoor
open Go.RowKit
namespace Mk
theorem lL {M:Nat→Prop}{w:World}{v:Value}{xs:List Int}(h:ae (α:=Int) M w v xs):cF (fun i=>¬M i) w v xs:=by
 obtain⟨css,h1,h2,h3⟩:=h
 have e:css=xs.map (fun x=>[Value.int .i64 x]):=by
  refine List.ext_getElem (by simpa using h2) (fun i p q=> ?_)
  rw[List.getElem_map]
  exact h3 i _ _ (List.getElem?_eq_getElem p) (List.getElem?_eq_getElem (by simpa using q))
 have e2:css.flatten=xs.map (Value.int .i64):=by
  rw[e];clear h1 h2 h3 e
  induction xs with
  |nil=>rfl
  |cons a r ih=>simp only[List.map_cons,List.flatten_cons,ih];rfl
 unfold cF
 rw[←e2]
 exact h1
structure oR(w0 w:World)(m n:Nat)(G B G2 B2:List Int):Prop where
 ex:∃F F2,bW w m F G B∧bW w n F2 G2 B2∧(∀i,F i→w0.heap.size≤i)∧(∀i,F2 i→w0.heap.size≤i)∧∀i,F i→¬F2 i
 bel:Below w0.heap.size w0 w
section
variable {w0 w u:World}{m n:Nat}{G B G2 B2 ids:List Int}{iv:Value}
theorem lH {F:Nat→Prop}(h:Below w0.heap.size w0 w)(hF:∀i,F i→w0.heap.size≤i)(ho:ag F w u):Below w0.heap.size w0 u:=
 ⟨ho.os.trans h.os,ho.tape.trans h.tape,ho.output.trans h.output,Nat.le_trans h.size ho.size,fun i hi=>(ho.block i (Nat.lt_of_lt_of_le hi h.size) (fun h1=>by have:=hF i h1;omega)).trans (h.block i hi)⟩
theorem oR.swap(h:oR w0 w m n G B G2 B2):oR w0 w n m G2 B2 G B:=by
 obtain⟨⟨F,F2,h1,h2,h3,h4,h5⟩,hb⟩:=h
 exact⟨⟨F2,F,h2,h1,h4,h3,fun i a b=>h5 i b a⟩,hb⟩
theorem oR.later(h:oR w0 w m n G B G2 B2)(hu:Below w.heap.size w u):oR w0 u m n G B G2 B2:=by
 obtain⟨⟨F,F2,h1,h2,h3,h4,h5⟩,hb⟩:=h
 exact⟨⟨F,F2,h1.only (T:=fun i=>w.heap.size≤i) (ag.aj hu) (fun i hi=>by have:=h1.lt i hi;show¬_;omega),h2.only (T:=fun i=>w.heap.size≤i) (ag.aj hu) (fun i hi=>by have:=h2.lt i hi;show¬_;omega),h3,h4,h5⟩,dY hb hu⟩
theorem oR.DR {F F2 F':Nat→Prop}{G' B':List Int}(h1:bW w m F G B)(h2:bW w n F2 G2 B2)(h3:∀i,F i→w0.heap.size≤i)(h4:∀i,F2 i→w0.heap.size≤i)(h5:∀i,F i→¬F2 i)(hb:Below w0.heap.size w0 w)(k1:bW u m F' G' B')(k2:ag F w u)(k3:∀i,F' i→F i∨w.heap.size≤i):oR w0 u m n G' B' G2 B2:=
 ⟨⟨F',F2,k1,h2.only k2 (fun i a b=>h5 i b a),fun i hi=>(k3 i hi).elim (h3 i) (fun hh=>Nat.le_trans hb.size hh),h4,fun i hi ha=>(k3 i hi).elim (fun hh=>h5 i hh ha) (fun hh=>by have:=h2.lt i ha;omega)⟩,lH hb h3 k2⟩
theorem Nv(hb:Below w0.heap.size w0 w)(hs:ae (α:=Int) (fun _=>False) w iv ids)(hr:dw ids=true):Calls Tryz.prog 7 #[iv] w fun e w'=>∃n,e= .returned (.tuple #[.pointer (some ⟨n,0,none⟩), .int .i64 0])∧St w0 w' n (dI [] [] ids) []:=by
 refine(yW _ ids iv w (lL hs) hr).mono ?_
 rintro e w'⟨n,F',rfl,h1,h2,h3⟩
 exact⟨n,rfl,⟨⟨F',h1,fun i hi=>Nat.le_trans hb.size (h3 i hi)⟩,dY hb h2⟩⟩
theorem Nw(h:St w0 w m G B)(hs:ae (α:=Int) (fun _=>False) w iv ids)(hr:dw ids=true):Calls Tryz.prog 7 #[iv] w fun e w'=>∃n,e= .returned (.tuple #[.pointer (some ⟨n,0,none⟩), .int .i64 0])∧oR w0 w' m n G B (dI [] [] ids) []:=by
 obtain⟨⟨F,hm,hF⟩,hb⟩:=h
 refine(yW _ ids iv w (lL hs) hr).mono ?_
 rintro e w'⟨n,F',rfl,h1,h2,h3⟩
 refine⟨n,rfl,⟨F,F',hm.only (T:=fun i=>w.heap.size≤i) (ag.aj h2) (fun i hi=>by have:=hm.lt i hi;show¬_;omega),h1,hF,fun i hi=>Nat.le_trans hb.size (h3 i hi),fun i hi hj=>by have:=hm.lt i hi;have:=h3 i hj;omega⟩,dY hb h2⟩
theorem oR.scan(h:oR w0 w m n G B G2 B2)(hu:Below w.heap.size w u)(hs:ae (α:=Int) (fun i=>w0.heap.size≤i∧i<w.heap.size) u iv ids)(id:Int)(hg:id∈G)(hr:dw ids=true):
 Calls Tryz.prog 10 #[.pointer (some ⟨m,0,none⟩), .int .i64 id,iv] u fun e w'=>e= .returned (.int .i64 0)∧oR w0 w' m n (xy G B id ids) (eH B id) G2 B2:=by
 have aT:∀F,bW w m F G B→∀i,F i→i<w.heap.size:=fun F h=>h.lt
 obtain⟨⟨F,F2,h1,h2,h3,h4,h5⟩,hb⟩:=h
 have l1:=aT F h1
 have Xp:=h1.only (T:=fun i=>w.heap.size≤i) (ag.aj hu) (fun i hi=>by have:=h1.lt i hi;show¬_;omega)
 have h2':=h2.only (T:=fun i=>w.heap.size≤i) (ag.aj hu) (fun i hi=>by have:=h2.lt i hi;show¬_;omega)
 refine(Bi m F _ G B id ids iv u Xp hg (lL hs) (fun i hi hf=>hi ⟨h3 i hf,l1 i hf⟩) hr).mono ?_
 rintro e w'⟨rfl,F',k1,k2,k3⟩
 exact⟨rfl,oR.DR Xp h2' h3 h4 h5 (dY hb hu) k1 k2 k3⟩
theorem oR.Tr(h:oR w0 w m n G B G2 B2)(hu:Below w.heap.size w u)(id:Int)(iv:Value)(hg:id∉G):
 Calls Tryz.prog 10 #[.pointer (some ⟨m,0,none⟩), .int .i64 id,iv] u fun e w'=>e= .returned (.int .i64 190)∧oR w0 w' m n G B G2 B2:=by
 have h':=h.later hu
 obtain⟨⟨F,F2,h1,h2,h3,h4,h5⟩,hb⟩:=h'
 refine(lC m F G B id iv u h1 hg).mono ?_
 rintro e w'⟨rfl,rfl⟩
 exact⟨rfl,⟨F,F2,h1,h2,h3,h4,h5⟩,hb⟩
theorem oR.next(h:oR w0 w m n G B G2 B2)(i:Int)(b:Bool)(hi:uA G=i)(yd:uB G=b):
 Calls Tryz.prog 9 #[.pointer (some ⟨m,0,none⟩)] w fun e w'=>e= .returned (.tuple #[.int .i64 i, .bool b])∧oR w0 w' m n G B G2 B2:=by
 subst hi yd
 obtain⟨⟨F,F2,h1,h2,h3,h4,h5⟩,hb⟩:=h
 refine(uC m F G B w h1).mono ?_
 rintro e w'⟨rfl,F',k1,k2,k3⟩
 exact⟨rfl,oR.DR h1 h2 h3 h4 h5 hb k1 k2 k3⟩
theorem oR.done(h:oR w0 w m n G B G2 B2)(b:Bool)(yd:G.isEmpty=b):Calls Tryz.prog 12 #[.pointer (some ⟨m,0,none⟩)] w fun e w'=>e= .returned (.bool b)∧w=w':=by
 subst yd
 obtain⟨⟨F,F2,h1,h2,h3,h4,h5⟩,hb⟩:=h
 exact Bh m F G B w h1
theorem oR.marked(h:oR w0 w m n G B G2 B2):Calls Tryz.prog 13 #[.pointer (some ⟨m,0,none⟩)] w fun e w'=>∃v,e= .returned v∧cF (fun i=>w.heap.size≤i) w' v (dD G B)∧Below w.heap.size w w':=by
 obtain⟨⟨F,F2,h1,h2,h3,h4,h5⟩,hb⟩:=h
 exact uF m F G B w h1
end
end Mk
end Go.Proofs.YtlkjnefenialbaaGreatDoor
