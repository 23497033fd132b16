/- What the marker does; no condition beyond each theorem's own. -/
import Derived.Test.YtlkjnefenialbaaGreatDoorM01
import Derived.Test.YtlkjnefenialbaaGreatDoorProg
import Derived.RegionTactic
import Derived.BigRegion
import Derived.Maps.RangeRun
import Derived.Maps.Own
set_option linter.unusedVariables false
set_option linter.unusedSimpArgs false
set_option maxHeartbeats 8000000
set_option maxRecDepth 100000
namespace Go.Proofs.YtlkjnefenialbaaGreatDoor
namespace Mk
open Go.RowKit
def dw(xs:List Int):Bool:=xs.all fun x=>decide (1≤x∧x≤100000)
theorem A9 {xs:List Int}{k:Nat}(h:dw (xs.take k)=true){x:Int}(hx:xs[k]? =some x)(hb:1≤x∧x≤100000):dw (xs.take (k+1))=true:=by
 rw[List.take_add_one,hx];unfold dw at*;simp[List.all_append]at*;exact⟨h,hb⟩
theorem xp {xs:List Int}{k:Nat}{x:Int}(hx:xs[k]? =some x)(hb:¬(1≤x∧x≤100000)):dw xs=false:=by
 unfold dw;rw[List.all_eq_false];exact⟨x,List.mem_of_getElem? hx,by simpa using hb⟩
theorem uw {xs:List Int}(h:dw xs=true){x:Int}(hx:x∈xs):1≤x∧x≤100000:=by
 unfold dw at h;rw[List.all_eq_true]at h;simpa using h x hx
theorem kH(F:Nat→Prop)(v:Value)(w:World)(xs:List Int)(hr:cF F w v xs):
 Calls Tryz.prog 26 #[v] w fun e w'=>e= .returned (.bool (dw xs))∧w=w':=by
 obtain⟨a,cap,rfl,cq,hm,hc⟩:=hr.open_
 have HC:=hD hc;clear hc hr
 generalize hn:xs.length=n at*
 have HN:=hD hn;clear hn
 go_enter Tryz.func26,Tryz.ntmps26
 go_wp2
 go_loop [4,7](fun _ i=>∃k:Nat,k≤n∧i= .int .i64 k∧Hid (dw (xs.take k)=true))(fun _ i=>n-(intOf i).toNat)
 case atStart=>exact⟨0,Nat.zero_le _,rfl,by exact(rfl:dw (xs.take 0)=true)⟩
 case round=>
  obtain⟨k,hk,rfl,UE⟩:=hrel
  by_cases aT:k<n
  ·obtain⟨b,off,rfl,_,_,aC⟩:=HC.out (by omega)
   obtain⟨x,hx⟩:∃x,xs[k]? =some x:=⟨_,List.getElem?_eq_getElem (by rw[HN.out];exact aT)⟩
   have Xc:=aC k x hx
   have HX:=hD hx
   clear aC hx
   by_cases hb:x<1
   ·go_wp2
    go_ret
    exact⟨by rw[xp HX.out (by omega)];rfl,rfl⟩
   ·by_cases aM:100000<x
    ·go_wp2
     go_ret
     exact⟨by rw[xp HX.out (by omega)];rfl,rfl⟩
    ·go_wp2
     go_round
     case rel=>exact⟨k+1,by omega,by go_num,A9 UE HX.out (by omega)⟩
     case measure=>simp[intOf];omega
  ·go_wp2
   go_ret
   refine⟨?_,rfl⟩
   have h1:=UE.out
   rw[List.take_of_length_le (by rw[HN.out];omega)]at h1
   rw[h1];rfl
def kI(xs ys:List Int):Bool:=decide (xs=ys)
theorem yS {xs ys:List Int}{k:Nat}{x:Int}(h:xs.take k=ys.take k)(hx:xs[k]? =some x)(hy:ys[k]? =some x):xs.take (k+1)=ys.take (k+1):=by
 rw[List.take_add_one,List.take_add_one,hx,hy,h]
theorem mQ(F G:Nat→Prop)(v u:Value)(w:World)(xs ys:List Int)(hx:cF F w v xs)(hy:cF G w u ys):
 Calls Tryz.prog 15 #[v,u] w fun e w'=>e= .returned (.bool (kI xs ys))∧∃n,w'=w.drewN n:=by
 obtain⟨a,cap,rfl,cq,hm,hc⟩:=hx.open_
 obtain⟨b,rI,rfl,UF,T9,qw⟩:=hy.open_
 have HC:=hD hc;clear hc hx
 have HD:=hD qw;clear qw hy
 by_cases hne:xs.length=ys.length
 ·have HE:=hD hne
  rw[←hne]at HD UF⊢
  clear hne
  generalize hn:xs.length=n at*
  have HN:=hD hn;clear hn
  go_enter Tryz.func15,Tryz.ntmps15
  go_wp2
  go_loopw [5](fun i wr=>∃k:Nat,k≤n∧i= .int .i64 k∧Hid (xs.take k=ys.take k)∧∃d,wr=w.drewN d)(fun i _=>n-(intOf i).toNat)
  case atStart=>exact⟨0,Nat.zero_le _,rfl,by exact(by simp:xs.take 0=ys.take 0),0,rfl⟩
  case round=>
   obtain⟨k,hk,rfl,UE,d,rfl⟩:=hrel
   by_cases aT:k<n
   ·obtain⟨b1,qct,rfl,_,_,LI⟩:=HC.out (by omega)
    obtain⟨b2,UG,rfl,_,_,LJ⟩:=HD.out (by omega)
    obtain⟨x,hx⟩:∃x,xs[k]? =some x:=⟨_,List.getElem?_eq_getElem (by rw[HN.out];exact aT)⟩
    obtain⟨y,hy⟩:∃x,ys[k]? =some x:=⟨_,List.getElem?_eq_getElem (by rw[←HE.out];exact aT)⟩
    have Xc:=LI k x hx
    have hcy:=LJ k y hy
    have HX:=hD hx
    have HY:=hD hy
    have hi:(k:Int)<n:=by omega
    clear LI LJ hx hy
    by_cases hb:x=y
    ·subst hb
     go_wp2
     go_quiet(fail)
     go_wp2
     go_roundw
     case rel=>exact⟨k+1,by omega,by go_num,yS UE HX.out HY.out,d+nq,by simp⟩
     case measure=>simp[intOf];omega
    ·have jq:(x !=y)=true:=by simpa using hb
     go_wp2
     go_quiet(fail)
     go_wp2
     go_ret
     refine⟨aN ?_,d+nq,by simp⟩
     unfold kI
     symm
     simp only[decide_eq_false_iff_not]
     rintro rfl
     have h1:=HX.out
     rw[HY.out]at h1
     exact hb (by simpa using h1.symm)
   ·go_wp2
    go_ret
    refine⟨aN ?_,_,rfl⟩
    have h1:=UE.out
    rw[List.take_of_length_le (by rw[HN.out];omega),List.take_of_length_le (by rw[←HE.out];omega)]at h1
    simp[kI,h1]
 ·have TP:(((xs.length:Nat):Int)!=((ys.length:Nat):Int))=true:=by simpa using(by omega:¬(xs.length:Int)=ys.length)
  have HL:=hD hne;clear hne
  generalize hn:xs.length=n at*
  generalize wi:ys.length=n2 at*
  have HN:=hD hn;clear hn
  have ve:=hD wi;clear wi
  go_enter Tryz.func15,Tryz.ntmps15
  go_wp2
  go_ret
  refine⟨aN ?_,0,rfl⟩
  unfold kI
  symm
  simp only[decide_eq_false_iff_not]
  rintro rfl
  exact HL.out (by rw[←HN.out,←ve.out])
def eH:List Int→Int→List Int
 |[],n=>[n]
 |x::r,n=>if x<n then x::eH r n else if x=n then x::r else n::x::r
theorem jz:(Tryz.prog.info? 3).map (fun i=>(i.zero,i.size,i.bytes))=some (some (.int .i64 0),1,8):=by kernel_rfl
theorem P4(p:Addr)(w:World):(method 493 82 (.pointer (some p)) "Push").run Tryz.prog w= .ok (325, .pointer (some p)) w:=by kernel_rfl
theorem Tj(p:Addr)(w:World):(method 493 82 (.pointer (some p)) "Pop").run Tryz.prog w= .ok (324, .pointer (some p)) w:=by kernel_rfl
theorem Ba(p:Addr)(w:World)(a:Option Addr)(n c:Nat)(h:w.cell? p=some (.slice a n c)):(loadVar 77 p).run Tryz.prog w= .ok (.slice a n c) w:=by
 have e:(loadVar 77 p).run Tryz.prog w=(load p).run Tryz.prog w:=by kernel_rfl
 rw[e]
 simp[go_sem,h]
theorem yT(p:Addr)(w:World)(a:Option Addr)(n c:Nat)(h:w.cell? p=some (.slice a n c))(k:Nat)(name:String)(f:FuncId)
 (hi:((Tryz.prog.info? 82).map fun i=>(i.methods.find? (·.name==name)).map fun m=>(m.path,m.func))=some (some (#[],some (f,false)))):
 (method (k+1) 82 (.pointer (some p)) name).run Tryz.prog w= .ok (f, .slice a n c) w:=by
 have h1:=Ba p w a n c h
 have hw:∀(nm:String)(w:World),(Builtin.ssaWrapNilChk_ #[82] 82 #[.pointer (some p),strVal "",strVal nm]).run Tryz.prog w= .ok (.pointer (some p)) w:=fun _ _=>rfl
 cases hI:Tryz.prog.info? 82 with
 |none=>rw[hI]at hi;cases hi
 |some I=>
  rw[hI]at hi
  simp only[Option.map_some,Option.some.injEq]at hi
  cases hM:I.methods.find? (·.name==name)with
  |none=>rw[hM]at hi;cases hi
  |some M=>
   rw[hM]at hi
   simp only[Option.map_some,Option.some.injEq,Prod.mk.injEq]at hi
   obtain⟨hp,hf⟩:=hi
   simp[method,typeInfo,hI,hM,hp,hf,follow,receiverAt,Place.get,run_underlying Tryz.underlying82,hw,asAddr,h1]
theorem Tk:((Tryz.prog.info? 82).map fun i=>(i.methods.find? (·.name== "Len")).map fun m=>(m.path,m.func))=some (some (#[],some (321,false))):=by kernel_rfl
theorem OL(p:Addr)(w:World)(a:Option Addr)(n c:Nat)(h:w.cell? p=some (.slice a n c)):(method 493 82 (.pointer (some p)) "Len").run Tryz.prog w= .ok (321, .slice a n c) w:=
 yT p w a n c h 492 _ _ Tk
theorem P5:((Tryz.prog.info? 82).map fun i=>(i.methods.find? (·.name== "Less")).map fun m=>(m.path,m.func))=some (some (#[],some (322,false))):=by kernel_rfl
theorem Ke(p:Addr)(w:World)(a:Option Addr)(n c:Nat)(h:w.cell? p=some (.slice a n c)):(method 493 82 (.pointer (some p)) "Less").run Tryz.prog w= .ok (322, .slice a n c) w:=
 yT p w a n c h 492 _ _ P5
theorem P6:((Tryz.prog.info? 82).map fun i=>(i.methods.find? (·.name== "Swap")).map fun m=>(m.path,m.func))=some (some (#[],some (323,false))):=by kernel_rfl
theorem DK(p:Addr)(w:World)(a:Option Addr)(n c:Nat)(h:w.cell? p=some (.slice a n c)):(method 493 82 (.pointer (some p)) "Swap").run Tryz.prog w= .ok (323, .slice a n c) w:=
 yT p w a n c h 492 _ _ P6
theorem Fy(a:Option Addr)(n c:Nat)(w:World):Calls Tryz.prog 321 #[.slice a n c] w fun e w'=>e= .returned (.int .i64 n)∧w=w':=by
 go_enter Tryz.func321,Tryz.ntmps321
 go_wp2
 go_ret
 exact⟨rfl,rfl⟩
theorem Kf(g n cap:Nat)(i j:Int)(x y:Int)(w:World)(dF:0≤i)(hi:i<n)(Mr:0≤j)(hj:j<n)(hn:n≤9223372036854775807)(hx:w.cell? ⟨g,i.toNat,none⟩=some (.int .i64 x))(hy:w.cell? ⟨g,j.toNat,none⟩=some (.int .i64 y)):
 Calls Tryz.prog 322 #[.slice (some ⟨g,0,none⟩) n cap, .int .i64 i, .int .i64 j] w fun e w'=>e= .returned (.bool (decide (x<y)))∧∃d,w'=w.drewN d:=by
 obtain⟨i,rfl⟩:=Int.eq_ofNat_of_zero_le dF
 obtain⟨j,rfl⟩:=Int.eq_ofNat_of_zero_le Mr
 rw[Int.toNat_natCast]at hx hy
 go_enter Tryz.func322,Tryz.ntmps322
 go_wp2
 go_quiet(fail)
 go_wp2
 go_ret
 exact⟨rfl,_,rfl⟩
theorem Nh(g n cap i j:Nat)(x y:Int)(w:World)(hi:i<n)(hj:j<n)(FU:i≠j)(hn:n≤9223372036854775807)(hx:w.cell? ⟨g,i,none⟩=some (.int .i64 x))(hy:w.cell? ⟨g,j,none⟩=some (.int .i64 y))
 (IX:w.frozen? ⟨g,i,none⟩=false)(hfj:w.frozen? ⟨g,j,none⟩=false):
 Calls Tryz.prog 323 #[.slice (some ⟨g,0,none⟩) n cap, .int .i64 i, .int .i64 j] w fun e w'=>e= .returned (.tuple #[])∧w'=((w.setCell ⟨g,i,none⟩ (.int .i64 y)).setCell ⟨g,j,none⟩ (.int .i64 x)).drew:=by
 have Mn:(i:Int)<n:=by omega
 have hj':(j:Int)<n:=by omega
 have SF:¬j=i:=fun e=>FU e.symm
 have qcu:¬i=j:=FU
 go_enter Tryz.func323,Tryz.ntmps323
 go_wp2
 go_region
 all_goals(go_end0;exact⟨rfl,rfl⟩)
theorem swap_eq(g n cap i:Nat)(x:Int)(w:World)(hi:i<n)(hn:n≤9223372036854775807)(hx:w.cell? ⟨g,i,none⟩=some (.int .i64 x))(IX:w.frozen? ⟨g,i,none⟩=false):
 Calls Tryz.prog 323 #[.slice (some ⟨g,0,none⟩) n cap, .int .i64 i, .int .i64 i] w fun e w'=>e= .returned (.tuple #[])∧w'=((w.setCell ⟨g,i,none⟩ (.int .i64 x)).setCell ⟨g,i,none⟩ (.int .i64 x)).drew:=by
 have Mn:(i:Int)<n:=by omega
 obtain⟨u,hu⟩:=cell?_setCell_some (w:=w.drew) (p:=⟨g,i,none⟩) (x:= .int .i64 x) (q:=⟨g,i,none⟩) (v:= .int .i64 x) (by go_simp)
 go_enter Tryz.func323,Tryz.ntmps323
 go_wp2
 go_region
 all_goals(go_end0;exact⟨rfl,rfl⟩)
structure bt(w:World)(bm:Nat)(m1 m2 v:Value)(xs:List Int):Prop where
 blk:w.heap[bm]? =some (.cells #[v,m1,m2] 79 (0,0))
 own:w.ownsRow 0 3 1 v xs.length (xs.map (Value.int .i64))
section
variable {w w':World}{bm:Nat}{m1 m2 v:Value}{xs:List Int}
theorem bt.lt(h:bt w bm m1 m2 v xs):bm<w.heap.size:=(Array.getElem?_eq_some_iff.1 h.blk).1
theorem bt.cell(h:bt w bm m1 m2 v xs):w.cell? ⟨bm,0,none⟩=some v:=by simp[World.cell?,h.blk]
theorem bt.free(h:bt w bm m1 m2 v xs):w.frozen? ⟨bm,0,none⟩=false:=by simp[World.frozen?,h.blk]
theorem bt.ne(h:bt w bm m1 m2 v xs):v.ownBlock≠some bm:=by
 intro e
 rcases h.own.2 with⟨rfl,_⟩|⟨g,cap,cur,rfl,_,hg,_⟩
 ·simp[Value.ownBlock]at e
 ·have:g=bm:=by simpa [Value.ownBlock]using e
  subst this
  rw[h.blk]at hg
  simp at hg
theorem bt.form(h:bt w bm m1 m2 v xs)(hx:0<xs.length):∃g cap,v= .slice (some ⟨g,0,none⟩) xs.length cap∧g≠bm∧g<w.heap.size∧xs.length≤9223372036854775807∧(∀k,k<xs.length→w.cell? ⟨g,k,none⟩=some (.int .i64 (aR xs k)))∧∀k,w.frozen? ⟨g,k,none⟩=false:=by
 have hne:=h.ne
 rcases h.own.2 with⟨rfl,h0⟩|⟨g,cap,cur,rfl,hb,hg,R3,u7,bE,Wj⟩
 ·omega
 ·refine⟨g,cap,rfl,fun e=>hne (by simp[Value.ownBlock,e]),(Array.getElem?_eq_some_iff.1 hg).1,by unfold maxLen at u7;omega,fun k hk=> ?_,fun k=>h.own.frozenAt k⟩
  rw[h.own.cellAt k (by omega),List.getElem?_map,xq hk];rfl
theorem bt.drewN(h:bt w bm m1 m2 v xs)(d:Nat):bt (w.drewN d) bm m1 m2 v xs:=⟨h.blk,h.own⟩
theorem bt.only {S:Nat→Prop}(h:bt w bm m1 m2 v xs)(ho:ag S w w')(h1:¬S bm)(h2:∀g,v.ownBlock=some g→¬S g):bt w' bm m1 m2 v xs:=by
 refine⟨(ho.block bm h.lt h1).trans h.blk,?_⟩
 have aT:=h.own.lt
 refine⟨h.own.1,?_⟩
 rcases h.own.2 with⟨rfl,h0⟩|⟨g,cap,cur,rfl,hb,hg,R3,u7,bE,Wj⟩
 ·exact .inl ⟨rfl,h0⟩
 ·exact .inr ⟨g,cap,cur,rfl,hb,(ho.block g (aT g rfl).2 (h2 g rfl)).trans hg,R3,u7,bE,Wj⟩
theorem bt.set {g cap:Nat}(h:bt w bm m1 m2 v xs)(hv:v= .slice (some ⟨g,0,none⟩) xs.length cap)(k:Nat)(x:Int):bt (w.setCell ⟨g,k,none⟩ (.int .i64 x)) bm m1 m2 v (xs.set k x):=by
 have hne:=h.ne
 subst hv
 have hg:bm≠g:=fun e=>hne (by simp[Value.ownBlock,e])
 refine⟨(Below.heap_setCell w _ _ bm hg).trans h.blk,?_⟩
 have h1:=(h.own.stored k (.int .i64 x)).1
 rw[List.length_set]
 simpa [List.map_set]using h1
theorem bt.swap {g cap i j:Nat}(h:bt w bm m1 m2 v xs)(hv:v= .slice (some ⟨g,0,none⟩) xs.length cap):bt ((w.setCell ⟨g,i,none⟩ (.int .i64 (aR xs j))).setCell ⟨g,j,none⟩ (.int .i64 (aR xs i))).drew bm m1 m2 v (ja xs i j):=by
 have h1:=(h.set hv i (aR xs j)).set (g:=g) (cap:=cap) (by rw[List.length_set];exact hv) j (aR xs i)
 exact⟨h1.blk,h1.own⟩
end
theorem G6 {bm:Nat}{m1 m2 v:Value}{xs:List Int}{w:World}{g cap:Nat}(h:bt w bm m1 m2 v xs)(hv:v= .slice (some ⟨g,0,none⟩) xs.length cap)(i j:Int)(dF:0≤i)(Mr:0≤j)(hi:i.toNat<xs.length)(hj:j.toNat<xs.length):
 Calls Tryz.prog 323 #[.slice (some ⟨g,0,none⟩) xs.length cap, .int .i64 i, .int .i64 j] w fun e w'=>e= .returned (.tuple #[])∧bt w' bm m1 m2 v (ja xs i.toNat j.toNat)∧ag (fun k=>k=g) w w':=by
 obtain⟨i,rfl⟩:=Int.eq_ofNat_of_zero_le dF
 obtain⟨j,rfl⟩:=Int.eq_ofNat_of_zero_le Mr
 rw[Int.toNat_natCast]at*
 obtain⟨g',dE,lP,UI,Xd,qG,aC,kX⟩:=h.form (by omega)
 obtain⟨rfl,rfl⟩:g=g'∧cap=dE:=by rw[hv]at lP;simpa using lP
 have ho:∀x y:Value,ag (fun k=>k=g) w (((w.setCell ⟨g,i,none⟩ x).setCell ⟨g,j,none⟩ y).drew):=fun x y=>(((ag.refl (fun k=>k=g) w).setCell (p:=⟨g,i,none⟩) (.inl rfl) x).setCell (p:=⟨g,j,none⟩) (.inl rfl) y).drew
 by_cases FU:i=j
 ·subst FU
  refine(swap_eq g xs.length cap i _ w hi qG (aC i hi) (kX i)).mono ?_
  rintro e w'⟨rfl,rfl⟩
  exact⟨rfl,h.swap hv,ho _ _⟩
 ·refine(Nh g xs.length cap i j _ _ w hi hj FU qG (aC i hi) (aC j hj) (kX i) (kX j)).mono ?_
  rintro e w'⟨rfl,rfl⟩
  exact⟨rfl,h.swap hv,ho _ _⟩
theorem jG {bm:Nat}{m1 m2:Value}{xs:List Int}{w:World}{g cap n:Nat}(h:bt w bm m1 m2 (.slice (some ⟨g,0,none⟩) n cap) xs)(hn:xs.length=n)(i j:Int)(dF:0≤i)(Mr:0≤j)(hi:i.toNat<n)(hj:j.toNat<n):
 Calls Tryz.prog 323 #[.slice (some ⟨g,0,none⟩) n cap, .int .i64 i, .int .i64 j] w fun e w'=>e= .returned (.tuple #[])∧bt w' bm m1 m2 (.slice (some ⟨g,0,none⟩) n cap) (ja xs i.toNat j.toNat)∧ag (fun k=>k=g) w w':=by
 subst hn;exact G6 h rfl i j dF Mr hi hj
theorem fV(b:Bool)(g n cap:Nat)(i j:Int)(x y:Int)(w:World)(hb:decide (x<y)=b)(dF:0≤i)(hi:i<n)(Mr:0≤j)(hj:j<n)(hn:n≤9223372036854775807)(hx:w.cell? ⟨g,i.toNat,none⟩=some (.int .i64 x))(hy:w.cell? ⟨g,j.toNat,none⟩=some (.int .i64 y)):
 Calls Tryz.prog 322 #[.slice (some ⟨g,0,none⟩) n cap, .int .i64 i, .int .i64 j] w fun e w'=>e= .returned (.bool b)∧∃d,w'=w.drewN d:=by
 subst hb;exact Kf g n cap i j x y w dF hi Mr hj hn hx hy
def Kg(bm:Nat)(m1 m2 v:Value)(xs:List Int)(w:World)(e:Ending)(w':World):Prop:=
 e= .returned (.tuple #[])∧∃ys,bt w' bm m1 m2 v ys∧ys.Perm xs∧eI ys ys.length∧ag (fun i=>v.ownBlock=some i) w w'
theorem P7(bm:Nat)(m1 m2 v:Value)(xs:List Int)(w:World)(j:Int)(Mr:0≤j)(h:bt w bm m1 m2 v xs)(hu:ux xs j.toNat):
 Calls Tryz.prog 48 #[.iface 82 (.pointer (some ⟨bm,0,none⟩)), .int .i64 j] w (Kg bm m1 m2 v xs w):=by
 obtain⟨j,rfl⟩:=Int.eq_ofNat_of_zero_le Mr
 rw[Int.toNat_natCast]at hu
 have aT:=hu.lt
 obtain⟨g,cap,rfl,UI,Xd,qG,_,_⟩:=h.form (by omega)
 generalize hn:xs.length=n at*
 have HN:=hD hn;clear hn
 have HH:=hD h;clear h
 have HU:=hD hu;clear hu
 have Q3:=fun(w:World)=>Ke ⟨bm,0,none⟩ w (some ⟨g,0,none⟩) n cap
 have LK:=fun(w:World)=>DK ⟨bm,0,none⟩ w (some ⟨g,0,none⟩) n cap
 go_enter Tryz.func48,Tryz.ntmps48
 go_wp2_with fail
 go_loopw [1,4](fun jv _ wr=>∃(k:Nat)(ys:List Int),k<n∧jv= .int .i64 k∧Hid (ys.length=n)∧Hid (bt wr bm m1 m2 (.slice (some ⟨g,0,none⟩) n cap) ys)∧Hid (ys.Perm xs)∧Hid (ux ys k)∧Hid (ag (fun i=>i=g) w wr))(fun jv _ _=>(intOf jv).toNat)
 case atStart=>exact⟨j,xs,aT,rfl,HN,HH,by exact(List.Perm.refl xs),HU,by exact(ag.refl _ w)⟩
 case round=>
  obtain⟨k,ys,hk,rfl,HY,HA,HP,HI,HO⟩:=hrel
  obtain⟨g',dE,lP,_,_,_,aC,kX⟩:=HA.out.form (by rw[HY.out];omega)
  obtain⟨rfl,rfl⟩:g=g'∧cap=dE:=by rw[HY.out]at lP;simpa using lP
  clear lP
  have u7:=HA.out.cell
  have fin:∀w'':World,bt w'' bm m1 m2 (.slice (some ⟨g,0,none⟩) n cap) ys→ag (fun i=>i=g) w w''→eI ys ys.length→Kg bm m1 m2 (.slice (some ⟨g,0,none⟩) n cap) xs w (.returned (.tuple #[])) w'':=
   fun w'' h1 h2 h3=>⟨rfl,ys,h1,HP.out,h3,h2.mono fun i hi=>by rw[hi];rfl⟩
  have kR:=hD fin;clear fin
  by_cases R8:k=0
  ·subst R8
   clear aC kX
   go_wp2_with fail
   go_end0
   exact kR.out _ HA.out HO.out (Fx HI.out (.inl rfl))
  ·have gz:=aC k (by rw[HY.out];exact hk)
   have qw:=aC ((k-1)/2) (by rw[HY.out];omega)
   have wA:=hD gz
   have FV:=hD qw
   clear aC kX gz qw
   have hd:(((k:Int)-1)/2==(k:Int))=false:=by simpa using(by omega:¬((k:Int)-1)/2=k)
   have ht:(((k:Int)-1)/2).toNat=(k-1)/2:=by omega
   have HT:=hD ht;clear ht
   by_cases hs:aR ys k<aR ys ((k-1)/2)
   ·have dc:decide (aR ys k<aR ys ((k-1)/2))=true:=by simpa using hs
    have HS:=hD dc;clear dc
    go_wp2_with(first
     |(go_at_call 322;refine(fV true g n cap _ _ (aR ys k) (aR ys ((k-1)/2)) _ HS.out (by omega) (by omega) (by omega) (by omega) qG ?_ ?_).mono ?_;(rw[Int.toNat_natCast];exact wA.out);(rw[HT.out];exact FV.out);rintro e w'⟨rfl,d,rfl⟩)
     |(go_at_call 323;refine(jG (HA.out.drewN d) HY.out _ _ (by omega) (by omega) (by rw[HT.out];omega) (by omega)).mono ?_;rintro e w'⟨rfl,EP,FZ⟩))
    rw[HT.out,Int.toNat_natCast]at EP
    have dd:=(jF (ys:=ys) (i:=(k-1)/2) (j:=k) (by rw[HY.out];omega) (by rw[HY.out];omega)).trans HP.out
    have Q4:=hD dd
    have Q5:=hD EP
    have LM:=((HO.out.drewN d).trans FZ)
    have Q6:=hD LM
    clear EP FZ dd LM
    go_wp2_with fail
    go_roundw
    case rel=>exact⟨(k-1)/2,ja ys ((k-1)/2) k,by omega,by go_num,by have h:(ja ys ((k-1)/2) k).length=n:=by {rw[cN];exact HY.out};exact h,Q5,Q4,by exact(Ng HI.out (by omega) hs),Q6⟩
    case measure=>simp[intOf];omega
   ·have dc:decide (aR ys k<aR ys ((k-1)/2))=false:=by simpa using hs
    have HS:=hD dc;clear dc
    have eB:=hD hs;clear hs
    go_wp2_with(first
     |(go_at_call 322;refine(fV false g n cap _ _ (aR ys k) (aR ys ((k-1)/2)) _ HS.out (by omega) (by omega) (by omega) (by omega) qG ?_ ?_).mono ?_;(rw[Int.toNat_natCast];exact wA.out);(rw[HT.out];exact FV.out);rintro e w'⟨rfl,d,rfl⟩))
    go_end0
    exact kR.out _ (HA.out.drewN d) (HO.out.drewN d) (Fx HI.out (.inr (by have:=eB.out;omega)))
theorem ru {ys xs:List Int}{k j n:Nat}(hk:k<ys.length)(hj:j<ys.length)(h1:k<n)(h2:j<n)(h:aR ys n=aR xs n):aR (ja ys k j) n=aR xs n:=by
 rw[jE hk hj,if_neg (by omega),if_neg (by omega)];exact h
def Bb(bm:Nat)(m1 m2 v:Value)(xs:List Int)(n:Nat)(w:World)(e:Ending)(w':World):Prop:=
 (∃b,e= .returned (.bool b))∧∃ys,bt w' bm m1 m2 v ys∧ys.length=xs.length∧ys.Perm xs∧eI ys n∧aR ys n=aR xs n∧ag (fun i=>v.ownBlock=some i) w w'
theorem Kh(bm:Nat)(m1 m2 v:Value)(xs:List Int)(w:World)(nn:Int)(vG:0≤nn)(h:bt w bm m1 m2 v xs)(hu:nD xs 0 nn.toNat)(hlen:nn.toNat<xs.length)(ER:xs.length≤1000000000):
 Calls Tryz.prog 47 #[.iface 82 (.pointer (some ⟨bm,0,none⟩)), .int .i64 0, .int .i64 nn] w (Bb bm m1 m2 v xs nn.toNat w):=by
 obtain⟨n,rfl⟩:=Int.eq_ofNat_of_zero_le vG
 rw[Int.toNat_natCast]at*
 obtain⟨g,cap,rfl,UI,Xd,qG,_,_⟩:=h.form (by omega)
 generalize hn:xs.length=L at*
 have HN:=hD hn;clear hn
 have HH:=hD h;clear h
 have HU:=hD hu;clear hu
 have Q3:=fun(w:World)=>Ke ⟨bm,0,none⟩ w (some ⟨g,0,none⟩) L cap
 have LK:=fun(w:World)=>DK ⟨bm,0,none⟩ w (some ⟨g,0,none⟩) L cap
 go_enter Tryz.func47,Tryz.ntmps47
 go_wp2_with fail
 go_loopw [7,8,9,10](fun iv _ _ _ wr=>∃(k:Nat)(ys:List Int),k<L∧iv= .int .i64 k∧Hid (ys.length=L)∧Hid (bt wr bm m1 m2 (.slice (some ⟨g,0,none⟩) L cap) ys)∧Hid (ys.Perm xs)∧Hid (aR ys n=aR xs n)∧Hid (nD ys k n)∧Hid (ag (fun i=>i=g) w wr))(fun iv _ _ _ _=>L-(intOf iv).toNat)
 case atStart=>exact⟨0,xs,by omega,rfl,HN,HH,by exact(List.Perm.refl xs),by exact(rfl:aR xs n=aR xs n),HU,by exact(ag.refl _ w)⟩
 case round=>
  obtain⟨k,ys,hk,rfl,HY,HA,HP,HK,HI,HO⟩:=hrel
  obtain⟨g',dE,lP,_,_,_,aC,kX⟩:=HA.out.form (by rw[HY.out];omega)
  obtain⟨rfl,rfl⟩:g=g'∧cap=dE:=by rw[HY.out]at lP;simpa using lP
  clear lP kX
  have u7:=HA.out.cell
  have fx:=hD aC;clear aC
  have fin:∀(b:Bool)(w'':World),bt w'' bm m1 m2 (.slice (some ⟨g,0,none⟩) L cap) ys→ag (fun i=>i=g) w w''→eI ys n→Bb bm m1 m2 (.slice (some ⟨g,0,none⟩) L cap) xs n w (.returned (.bool b)) w'':=
   fun b w'' h1 h2 h3=>⟨⟨b,rfl⟩,ys,h1,by rw[HY.out,HN.out],HP.out,h3,HK.out,h2.mono fun i hi=>by rw[hi];rfl⟩
  have kR:=hD fin;clear fin
  by_cases h1n:n≤2*k+1
  ·go_wp2_with fail
   go_ret
   exact kR.out _ _ HA.out HO.out (nF HI.out (fun c h1 h2 h3=>by omega))
  ·by_cases h2n:2*k+2<n
   ·by_cases hl:aR ys (2*k+2)<aR ys (2*k+1)
    ·have qt:decide (aR ys (2*k+2)<aR ys (2*k+1))=true:=by simpa using hl
     have N4:=hD qt;clear qt
     have qz:=hD hl;clear hl
     by_cases hs:aR ys (2*k+2)<aR ys k
     ·have dc:decide (aR ys (2*k+2)<aR ys k)=true:=by simpa using hs
      have HS:=hD dc;clear dc
      have eB:=hD hs;clear hs
      go_wp2_with fail
      refine(fV true g L cap _ _ (aR ys ((2*k+2))) (aR ys ((2*k+1))) _ N4.out (by omega) (by omega) (by omega) (by omega) qG ?_ ?_).mono ?_
      ·rw[show(2*↑k+1+1:Int).toNat=(2*k+2)from by omega];exact(fx.out (2*k+2) (by rw[HY.out];omega))
      ·rw[show(2*↑k+1:Int).toNat=(2*k+1)from by omega];exact(fx.out (2*k+1) (by rw[HY.out];omega))
      rintro e w'⟨rfl,d1,rfl⟩
      go_wp2_with fail
      refine(fV true g L cap _ _ (aR ys ((2*k+2))) (aR ys (k)) _ HS.out (by omega) (by omega) (by omega) (by omega) qG ?_ ?_).mono ?_
      ·rw[show(2*↑k+1+1:Int).toNat=(2*k+2)from by omega];exact(fx.out (2*k+2) (by rw[HY.out];omega))
      ·rw[show(↑k:Int).toNat=k from by omega];exact(fx.out k (by rw[HY.out];omega))
      rintro e w'⟨rfl,d2,rfl⟩
      go_wp2_with fail
      refine(jG (HA.out.drewN _) HY.out _ _ (by omega) (by omega) (by omega) (by omega)).mono ?_
      rintro e w'⟨rfl,EP,FZ⟩
      rw[show(2*↑k+1+1:Int).toNat=2*k+2 from by omega,Int.toNat_natCast]at EP
      have eT:=hD (rr (j:=2*k+2) HI.out (by omega) (by omega) (by omega) (by simpa using eB.out) (fun c h1 h2 h3=>by have:=qz.out;rcases(by omega:c=2*k+1∨c=2*k+2)with rfl|rfl<;>omega))
      have dd:=(jF (ys:=ys) (i:=k) (j:=2*k+2) (by rw[HY.out];omega) (by rw[HY.out];omega)).trans HP.out
      have Q4:=hD dd
      have Q5:=hD EP
      have UJ:=hD (ru (k:=k) (j:=2*k+2) (n:=n) (by rw[HY.out];omega) (by rw[HY.out];omega) (by omega) (by omega) HK.out)
      have UK:=hD ((cN ys k (2*k+2)).trans HY.out)
      have LM:=((HO.out.drewN _).trans FZ)
      have Q6:=hD LM
      clear EP FZ dd LM
      go_wp2_with fail
      go_roundw
      case rel=>exact⟨2*k+2,_,by omega,by go_num,UK,Q5,Q4,UJ,eT,Q6⟩
      case measure=>simp[intOf];omega
     ·have dc:decide (aR ys (2*k+2)<aR ys k)=false:=by simpa using hs
      have HS:=hD dc;clear dc
      have eB:=hD hs;clear hs
      go_wp2_with fail
      refine(fV true g L cap _ _ (aR ys ((2*k+2))) (aR ys ((2*k+1))) _ N4.out (by omega) (by omega) (by omega) (by omega) qG ?_ ?_).mono ?_
      ·rw[show(2*↑k+1+1:Int).toNat=(2*k+2)from by omega];exact(fx.out (2*k+2) (by rw[HY.out];omega))
      ·rw[show(2*↑k+1:Int).toNat=(2*k+1)from by omega];exact(fx.out (2*k+1) (by rw[HY.out];omega))
      rintro e w'⟨rfl,d1,rfl⟩
      go_wp2_with fail
      refine(fV false g L cap _ _ (aR ys ((2*k+2))) (aR ys (k)) _ HS.out (by omega) (by omega) (by omega) (by omega) qG ?_ ?_).mono ?_
      ·rw[show(2*↑k+1+1:Int).toNat=(2*k+2)from by omega];exact(fx.out (2*k+2) (by rw[HY.out];omega))
      ·rw[show(↑k:Int).toNat=k from by omega];exact(fx.out k (by rw[HY.out];omega))
      rintro e w'⟨rfl,d2,rfl⟩
      go_wp2_with fail
      go_ret
      exact kR.out _ _ (HA.out.drewN _) (HO.out.drewN _) (nF HI.out (fun c h1 h2 h3=>by have:=qz.out;have:=eB.out;rcases(by omega:c=2*k+1∨c=2*k+2)with rfl|rfl<;>omega))
    ·have qt:decide (aR ys (2*k+2)<aR ys (2*k+1))=false:=by simpa using hl
     have N4:=hD qt;clear qt
     have qz:=hD hl;clear hl
     by_cases hs:aR ys (2*k+1)<aR ys k
     ·have dc:decide (aR ys (2*k+1)<aR ys k)=true:=by simpa using hs
      have HS:=hD dc;clear dc
      have eB:=hD hs;clear hs
      go_wp2_with fail
      refine(fV false g L cap _ _ (aR ys ((2*k+2))) (aR ys ((2*k+1))) _ N4.out (by omega) (by omega) (by omega) (by omega) qG ?_ ?_).mono ?_
      ·rw[show(2*↑k+1+1:Int).toNat=(2*k+2)from by omega];exact(fx.out (2*k+2) (by rw[HY.out];omega))
      ·rw[show(2*↑k+1:Int).toNat=(2*k+1)from by omega];exact(fx.out (2*k+1) (by rw[HY.out];omega))
      rintro e w'⟨rfl,d1,rfl⟩
      go_wp2_with fail
      refine(fV true g L cap _ _ (aR ys ((2*k+1))) (aR ys (k)) _ HS.out (by omega) (by omega) (by omega) (by omega) qG ?_ ?_).mono ?_
      ·rw[show(2*↑k+1:Int).toNat=(2*k+1)from by omega];exact(fx.out (2*k+1) (by rw[HY.out];omega))
      ·rw[show(↑k:Int).toNat=k from by omega];exact(fx.out k (by rw[HY.out];omega))
      rintro e w'⟨rfl,d2,rfl⟩
      go_wp2_with fail
      refine(jG (HA.out.drewN _) HY.out _ _ (by omega) (by omega) (by omega) (by omega)).mono ?_
      rintro e w'⟨rfl,EP,FZ⟩
      rw[show(2*↑k+1:Int).toNat=2*k+1 from by omega,Int.toNat_natCast]at EP
      have eT:=hD (rr (j:=2*k+1) HI.out (by omega) (by omega) (by omega) (by simpa using eB.out) (fun c h1 h2 h3=>by have:=qz.out;rcases(by omega:c=2*k+1∨c=2*k+2)with rfl|rfl<;>omega))
      have dd:=(jF (ys:=ys) (i:=k) (j:=2*k+1) (by rw[HY.out];omega) (by rw[HY.out];omega)).trans HP.out
      have Q4:=hD dd
      have Q5:=hD EP
      have UJ:=hD (ru (k:=k) (j:=2*k+1) (n:=n) (by rw[HY.out];omega) (by rw[HY.out];omega) (by omega) (by omega) HK.out)
      have UK:=hD ((cN ys k (2*k+1)).trans HY.out)
      have LM:=((HO.out.drewN _).trans FZ)
      have Q6:=hD LM
      clear EP FZ dd LM
      go_wp2_with fail
      go_roundw
      case rel=>exact⟨2*k+1,_,by omega,by go_num,UK,Q5,Q4,UJ,eT,Q6⟩
      case measure=>simp[intOf];omega
     ·have dc:decide (aR ys (2*k+1)<aR ys k)=false:=by simpa using hs
      have HS:=hD dc;clear dc
      have eB:=hD hs;clear hs
      go_wp2_with fail
      refine(fV false g L cap _ _ (aR ys ((2*k+2))) (aR ys ((2*k+1))) _ N4.out (by omega) (by omega) (by omega) (by omega) qG ?_ ?_).mono ?_
      ·rw[show(2*↑k+1+1:Int).toNat=(2*k+2)from by omega];exact(fx.out (2*k+2) (by rw[HY.out];omega))
      ·rw[show(2*↑k+1:Int).toNat=(2*k+1)from by omega];exact(fx.out (2*k+1) (by rw[HY.out];omega))
      rintro e w'⟨rfl,d1,rfl⟩
      go_wp2_with fail
      refine(fV false g L cap _ _ (aR ys ((2*k+1))) (aR ys (k)) _ HS.out (by omega) (by omega) (by omega) (by omega) qG ?_ ?_).mono ?_
      ·rw[show(2*↑k+1:Int).toNat=(2*k+1)from by omega];exact(fx.out (2*k+1) (by rw[HY.out];omega))
      ·rw[show(↑k:Int).toNat=k from by omega];exact(fx.out k (by rw[HY.out];omega))
      rintro e w'⟨rfl,d2,rfl⟩
      go_wp2_with fail
      go_ret
      exact kR.out _ _ (HA.out.drewN _) (HO.out.drewN _) (nF HI.out (fun c h1 h2 h3=>by have:=qz.out;have:=eB.out;rcases(by omega:c=2*k+1∨c=2*k+2)with rfl|rfl<;>omega))
   ·by_cases hs:aR ys (2*k+1)<aR ys k
    ·have dc:decide (aR ys (2*k+1)<aR ys k)=true:=by simpa using hs
     have HS:=hD dc;clear dc
     have eB:=hD hs;clear hs
     go_wp2_with fail
     refine(fV true g L cap _ _ (aR ys ((2*k+1))) (aR ys (k)) _ HS.out (by omega) (by omega) (by omega) (by omega) qG ?_ ?_).mono ?_
     ·rw[show(2*↑k+1:Int).toNat=(2*k+1)from by omega];exact(fx.out (2*k+1) (by rw[HY.out];omega))
     ·rw[show(↑k:Int).toNat=k from by omega];exact(fx.out k (by rw[HY.out];omega))
     rintro e w'⟨rfl,d2,rfl⟩
     go_wp2_with fail
     refine(jG (HA.out.drewN _) HY.out _ _ (by omega) (by omega) (by omega) (by omega)).mono ?_
     rintro e w'⟨rfl,EP,FZ⟩
     rw[show(2*↑k+1:Int).toNat=2*k+1 from by omega,Int.toNat_natCast]at EP
     have eT:=hD (rr (j:=2*k+1) HI.out (by omega) (by omega) (by omega) (by simpa using eB.out) (fun c h1 h2 h3=>by obtain rfl:c=2*k+1:=(by omega);omega))
     have dd:=(jF (ys:=ys) (i:=k) (j:=2*k+1) (by rw[HY.out];omega) (by rw[HY.out];omega)).trans HP.out
     have Q4:=hD dd
     have Q5:=hD EP
     have UJ:=hD (ru (k:=k) (j:=2*k+1) (n:=n) (by rw[HY.out];omega) (by rw[HY.out];omega) (by omega) (by omega) HK.out)
     have UK:=hD ((cN ys k (2*k+1)).trans HY.out)
     have LM:=((HO.out.drewN _).trans FZ)
     have Q6:=hD LM
     clear EP FZ dd LM
     go_wp2_with fail
     go_roundw
     case rel=>exact⟨2*k+1,_,by omega,by go_num,UK,Q5,Q4,UJ,eT,Q6⟩
     case measure=>simp[intOf];omega
    ·have dc:decide (aR ys (2*k+1)<aR ys k)=false:=by simpa using hs
     have HS:=hD dc;clear dc
     have eB:=hD hs;clear hs
     go_wp2_with fail
     refine(fV false g L cap _ _ (aR ys ((2*k+1))) (aR ys (k)) _ HS.out (by omega) (by omega) (by omega) (by omega) qG ?_ ?_).mono ?_
     ·rw[show(2*↑k+1:Int).toNat=(2*k+1)from by omega];exact(fx.out (2*k+1) (by rw[HY.out];omega))
     ·rw[show(↑k:Int).toNat=k from by omega];exact(fx.out k (by rw[HY.out];omega))
     rintro e w'⟨rfl,d2,rfl⟩
     go_wp2_with fail
     go_ret
     exact kR.out _ _ (HA.out.drewN _) (HO.out.drewN _) (nF HI.out (fun c h1 h2 h3=>by obtain rfl:c=2*k+1:=(by omega);have:=eB.out;omega))
theorem yU(w:World)(u:Value)(t:TypeId):ba (fun _=>True) (w.alloc (.cells #[u] t)) 1 (.slice (some ⟨w.heap.size,0,none⟩) 1 1) 1 [u]:=
 ⟨rfl,_,_,rfl,Nat.le_refl _,by unfold maxLen;omega,fun _=>⟨_,0,rfl,trivial,by simp,fun j u' hu=>by
   have hj:j=0:=by have:=(List.getElem?_eq_some_iff.1 hu).1;simp at this;omega
   subst hj;simp at hu;subst hu;simp⟩⟩
def Bc(bm:Nat)(m1 m2 v:Value)(P:List Int→Prop)(w:World)(e:Ending)(w':World):Prop:=
 e= .returned (.tuple #[])∧∃v' ys,bt w' bm m1 m2 v' ys∧P ys∧ag (fun i=>i=bm∨v.ownBlock=some i) w w'∧(∀g,v'.ownBlock=some g→v.ownBlock=some g∨w.heap.size≤g)
theorem uy(x:Int)(w:World):(Instr.typeAssert (.iface 3 (.int .i64 x)) 20 3 true).run Tryz.prog w= .ok (.tuple #[.int .i64 x, .bool true]) w:=by kernel_rfl
theorem G7(bm:Nat)(m1 m2 v:Value)(xs:List Int)(w:World)(x:Int)(h:bt w bm m1 m2 v xs)(ER:xs.length≤1000000000):
 Calls Tryz.prog 325 #[.pointer (some ⟨bm,0,none⟩), .iface 3 (.int .i64 x)] w (Bc bm m1 m2 v (fun ys=>ys=xs++[x]) w):=by
 obtain⟨i0,dF,dM,db,dL⟩:=info_parts jz
 have u7:=h.cell
 have hne:=h.ne
 have aT:=h.lt
 have zX:=hD hne;clear hne
 have HH:=hD h;clear h
 generalize hn:xs.length=n at*
 have HN:=hD hn;clear hn
 have Zs:Hid (∀o,(w.alloc o).ownsRow 0 3 1 v n (xs.map (Value.int .i64))):=by
  have h1:∀o,(w.alloc o).ownsRow 0 3 1 v n (xs.map (Value.int .i64)):=fun o=>by rw[←HN.out];exact HH.out.own.alloc o
  exact h1
 have hta:=uy x
 go_enter Tryz.func325,Tryz.ntmps325
 go_wp2_with(first
  |(at_builtin
    refine fz (F:=fun _=>True) _ rfl (.tmp 15) (.tmp 17) _ rfl 0 3 i0 _ 1 8 Tryz.underlying77 dF dM db dL rfl (by omega) v n _ rfl (Zs.out _) _ 1 [Value.int .i64 x] rfl ?c3 ?c4 ?c5 ?c6 ?c7 ?_
    case c3=>exact yU _ _ _
    case c4=>intro u hu;simp at hu;subst hu;rfl
    case c5=>unfold maxLen;omega
    case c6=>omega
    case c7=>omega
    intro a1 c1 w1 ei Mo Iv
    have dc:=Mo.size
    have Of:w1.heap[bm]? =some (.cells #[v,m1,m2] 79 (0,0)):=(Mo.block bm (by simp;omega) (fun e=>zX.out e.symm)).trans ((Below.heap_alloc w _ bm aT).trans HH.out.blk)
    have qcv:w1.cell? ⟨bm,0,none⟩=some v:=by simp[World.cell?,Of]
    have qcw:w1.frozen? ⟨bm,0,none⟩=false:=by simp[World.frozen?,Of]
    have aO:=hD Of
    have nh:=hD ei
    have IT:=hD Mo
    have Pn:=hD Iv
    clear Of ei Mo Iv))
 go_end0
 refine⟨rfl, .slice a1 (n+1) c1,xs++[x],⟨?_,?_⟩,rfl,?_,?_⟩
 ·have e:=aO.out
  simp[World.setCell,Array.getElem?_modify,e]
 ·have h1:=nh.out
  have hl:(xs++[x]).length=n+1:=by rw[List.length_append,HN.out];rfl
  rw[hl,List.map_append]
  refine h1.kept (w':=_) (row:=some bm) ⟨rfl,rfl,rfl,by simp[World.setCell],fun i _ hi=>Below.heap_setCell _ _ _ i (fun e=>hi (by rw[e]))⟩ (.inr ?_)
  intro e
  rcases Pn.out with h|h
  ·exact zX.out (by rw[←h];exact e)
  ·rw[e]at h;simp at h;omega
 ·exact((((ag.refl _ w).alloc _).grown IT.out (fun g hg=> .inl (.inr hg)))).setCell (p:=⟨bm,0,none⟩) (.inl (.inl rfl)) _
 ·intro g hg
  rcases Pn.out with h|h
  ·exact .inl (by rw[←h];exact hg)
  ·rw[hg]at h;simp at h;exact .inr (by omega)
theorem bt.slice {w:World}{bm:Nat}{m1 m2 v:Value}{xs:List Int}(h:bt w bm m1 m2 v xs):∃a c,v= .slice a xs.length c:=by
 obtain⟨a,c,e,_,_⟩:=dG h.own
 exact⟨a,c,e⟩
theorem lB(bm:Nat)(m1 m2 v:Value)(xs:List Int)(w:World)(x:Int)(h:bt w bm m1 m2 v xs)(hh:eI xs xs.length)(ER:xs.length≤1000000000):
 Calls Tryz.prog 29 #[.iface 82 (.pointer (some ⟨bm,0,none⟩)), .iface 3 (.int .i64 x)] w (Bc bm m1 m2 v (fun ys=>ys.Perm (x::xs)∧eI ys ys.length) w):=by
 have Iw:=P4 ⟨bm,0,none⟩
 have H1:=hD (G7 bm m1 m2 v xs w x h ER)
 have HB:=hD hh
 clear hh
 go_enter Tryz.func29,Tryz.ntmps29
 go_wp2_with fail
 refine(H1.out).mono ?_
 rintro e w1⟨rfl,v1,ys,ha,rfl,ho,hb⟩
 obtain⟨n,hn⟩:∃n,xs.length=n:=⟨_,rfl⟩
 obtain⟨a1,c1,e1⟩:=ha.slice
 have e2:v1= .slice a1 (n+1) c1:=by rw[e1,List.length_append,hn];rfl
 subst e2
 clear e1
 have qG:=OL ⟨bm,0,none⟩ w1 _ _ _ ha.cell
 have H2:Hid (ux (xs++[x]) n):=by rw[←hn];exact Kd HB.out
 have HO:=hD ho
 have EI:=hD hb
 have HA:=hD ha
 rw[hn]at ER
 clear ho hb ha H1 HB hn
 go_wp2_with fail
 refine(Fy _ _ _ _).mono ?_
 rintro e w'⟨rfl,rfl⟩
 go_wp2_with fail
 refine(P7 bm m1 m2 _ (xs++[x]) w1 _ (by omega) HA.out (by rw[Int.toNat_natCast];exact H2.out)).mono ?_
 rintro e w2⟨rfl,zs,hz,hp,gw,fK⟩
 go_wp2_with fail
 go_end0
 refine⟨rfl,_,zs,hz,⟨hp.trans (List.perm_append_comm (l₁:=xs) (l₂:=[x])),gw⟩,?_,EI.out⟩
 exact HO.out.cD fK fun i hi aT=>by
  rcases EI.out i hi with h1|h1
  ·exact .inr h1
  ·omega
def Ni(bm:Nat)(m1 m2 v:Value)(xs:List Int)(w:World)(e:Ending)(w':World):Prop:=
 ∃v' x ys,e= .returned (.iface 3 (.int .i64 x))∧bt w' bm m1 m2 v' ys∧xs.Perm (x::ys)∧(∀y∈xs,x≤y)∧eI ys ys.length∧ys.length+1=xs.length∧ag (fun i=>i=bm∨v.ownBlock=some i) w w'∧v'.ownBlock=v.ownBlock
theorem Ki(bm:Nat)(m1 m2 v:Value)(xs:List Int)(w:World)(n:Nat)(h:bt w bm m1 m2 v xs)(hn:xs.length=n+1):
 Calls Tryz.prog 324 #[.pointer (some ⟨bm,0,none⟩)] w fun e w'=>e= .returned (.iface 3 (.int .i64 (aR xs n)))∧∃v',bt w' bm m1 m2 v' (xs.take n)∧ag (fun i=>i=bm) w w'∧v'.ownBlock=v.ownBlock:=by
 obtain⟨g,cap,rfl,UI,Xd,qG,aC,_⟩:=h.form (by omega)
 have eU:=aC n (by omega)
 have HN:=hD hn
 rw[hn]at h qG
 have u7:=h.cell
 have hfm:=h.free
 have HH:=hD h
 obtain⟨_,_,e,cq,_⟩:=dG h.own
 rw[hn]at e cq
 simp only[Value.slice.injEq]at e
 obtain⟨rfl,_,rfl⟩:=e
 clear aC h hn
 go_enter Tryz.func324,Tryz.ntmps324
 go_wp2_with fail
 go_ret
 refine⟨rfl, .slice (some ⟨g,0,none⟩) n cap,⟨?_,?_⟩,(ag.refl (fun i=>i=bm) w).setCell (p:=⟨bm,0,none⟩) (.inl rfl) _,rfl⟩
 ·have e:=HH.out.blk
  simp[World.setCell,Array.getElem?_modify,e]
 ·have h1:=HH.out.own
  have h2:(w.setCell ⟨bm,0,none⟩ (.slice (some ⟨g,0,none⟩) n cap)).heap[g]? =w.heap[g]? :=Below.heap_setCell _ _ _ g UI
  rcases h1.2 with⟨h,_⟩|⟨g',dE,cur,hv,_,hg,h3,h4,h5,h6⟩
  ·cases h
  ·simp only[Value.slice.injEq,Option.some.injEq,Addr.mk.injEq]at hv
   obtain⟨⟨rfl,_⟩,_,rfl⟩:=hv
   have hl:(xs.take n).length=n:=by rw[List.length_take,HN.out];omega
   rw[hl]
   refine⟨by rw[List.length_map,hl,Nat.mul_one], .inr ⟨g,cap,cur,rfl,Nat.zero_le _,h2.trans hg,by omega,h4,h5,?_⟩⟩
   rw[List.map_take,←h6,List.take_take]
   congr 1
   rw[HN.out];omega
theorem Be(bm:Nat)(m1 m2 v:Value)(xs:List Int)(w:World)(h:bt w bm m1 m2 v xs)(hh:eI xs xs.length)(h0:0<xs.length)(ER:xs.length≤1000000000):
 Calls Tryz.prog 28 #[.iface 82 (.pointer (some ⟨bm,0,none⟩))] w (Ni bm m1 m2 v xs w):=by
 obtain⟨n,hn⟩:∃n,xs.length=n+1:=⟨xs.length-1,by omega⟩
 obtain⟨g,cap,rfl,UI,Xd,qG,_,_⟩:=h.form h0
 have HN:=hD hn
 rw[hn]at h hh qG ER⊢
 have u7:=h.cell
 have HH:=hD h
 have HB:=hD hh
 have qbv:=Tj ⟨bm,0,none⟩
 have qbw:=OL ⟨bm,0,none⟩ w _ _ _ u7
 have LK:=DK ⟨bm,0,none⟩ w _ _ _ u7
 clear h hn u7 h0
 go_enter Tryz.func28,Tryz.ntmps28
 go_wp2_with fail
 refine(Fy _ _ _ _).mono ?_
 rintro e w'⟨rfl,rfl⟩
 go_wp2_with fail
 refine(jG HH.out HN.out _ _ (by omega) (by omega) (by omega) (by omega)).mono ?_
 rintro e w1⟨rfl,MB,ei⟩
 rw[Int.toNat_natCast,show(0:Int).toNat=0 from rfl]at MB
 have Cd:=hD MB
 have nh:=hD ei
 clear MB ei
 go_wp2_with fail
 refine(Kh bm m1 m2 _ (ja xs 0 n) w1 _ (by omega) Cd.out (by rw[Int.toNat_natCast];exact DJ (by rw[HN.out];exact HB.out) HN.out) (by rw[cN,HN.out];omega) (by rw[cN,HN.out];omega)).mono ?_
 rintro e w2⟨⟨b,rfl⟩,ys,UL,sK,zC,gw,qB,fK⟩
 rw[Int.toNat_natCast]at gw qB
 rw[cN,HN.out]at sK
 have lS:=hD UL
 have zG:=hD sK
 have NX:=hD zC
 have aA:=hD gw
 have Og:=hD qB
 have wj:=hD fK
 clear UL sK zC gw qB fK
 go_wp2_with fail
 refine(Ki bm m1 m2 _ ys w2 n lS.out zG.out).mono ?_
 rintro e w3⟨rfl,v',ha3,pq,lP⟩
 have YE:=hD ha3
 have sB:=hD pq
 have UM:=hD lP
 clear ha3 pq lP
 go_wp2_with fail
 go_ret
 have Im:aR ys n=aR xs 0:=by
  rw[Og.out,jE (by rw[HN.out];omega) (by rw[HN.out];omega),if_pos rfl]
 have dd:ys.Perm xs:=NX.out.trans (jF (by rw[HN.out];omega) (by rw[HN.out];omega))
 have Xe:=G5 zG.out
 refine⟨v',aR ys n,ys.take n,rfl,YE.out,?_,?_,aA.out.take (by rw[zG.out];omega),?_,?_,UM.out⟩
 ·refine dd.symm.trans ?_
  rw(occs:= .pos [1]) [Xe]
  exact List.perm_append_comm
 ·intro y hy
  rw[Im]
  obtain⟨c,hc,hcy⟩:=List.mem_iff_getElem?.1 hy|>.imp fun c hc=>(show c<xs.length∧aR xs c=y from⟨(List.getElem?_eq_some_iff.1 hc).1,by simp[aR,List.getD,hc]⟩)
  rw[←hcy]
  exact DI HB.out c (by rw[←HN.out];exact hc)
 ·rw[List.length_take,zG.out,HN.out,Nat.min_eq_left (by omega)]
 ·have a1:ag (fun i=>i=bm∨(Value.slice (some ⟨g,0,none⟩) (n+1) cap).ownBlock=some i) w w1:=nh.out.mono fun i hi=> .inr (by rw[hi];rfl)
  have a2:ag (fun i=>i=bm∨(Value.slice (some ⟨g,0,none⟩) (n+1) cap).ownBlock=some i) w1 w2:=wj.out.mono fun i hi=> .inr hi
  exact(a1.trans a2).trans (sB.out.mono fun i hi=> .inl hi)
end Mk
namespace Mk
open Go.RowKit
open Go.ChangeMaps (setBlock heap_setBlock_same heap_setBlock_other)
def nU(p:Int×Nat):MapEntry:=⟨.int .i64 p.1, .bool true,p.2⟩
def l7(w:World)(b:Nat)(es:List (Int×Nat))(clk:Nat):Prop:=
 w.heap[b]? =some (.map (es.map nU).toArray clk)∧(es.map (·.1)).Nodup∧(es.map (·.2)).Nodup∧∀p∈es,p.2<clk
def cL(w:World)(b:Nat)(S:List Int):Prop:=∃es clk,l7 w b es clk∧es.map (·.1)=S
theorem rU(x:Int):∀(es:List (Int×Nat))(i:Nat),Instr.findNow (.int .i64) (.int .i64 x) (es.map nU) i=some (if x∈es.map (·.1)then some (i+(es.map (·.1)).idxOf x, .bool true)else none)
 |[],i=>by simp[Instr.findNow]
 |p::r,i=>by
  by_cases h:x=p.1
  ·subst h;simp[Instr.findNow,nU,Instr.sameNow]
  ·have h':(x==p.1)=false:=by simpa using h
   have h2:(p.1==x)=false:=by simpa using fun e=>h e.symm
   have e:Instr.findNow (.int .i64) (.int .i64 x) ((p::r).map nU) i=Instr.findNow (.int .i64) (.int .i64 x) (r.map nU) (i+1):=by
    simp[Instr.findNow,nU,Instr.sameNow,h']
   rw[e,rU x r (i+1)]
   simp only[List.map_cons,List.mem_cons,h,false_or,List.idxOf_cons,h2,cond_false]
   split<;>simp<;>omega
theorem kJ:∀(es:List (Int×Nat))(i:Nat),(es.map nU).eraseIdx i=(es.eraseIdx i).map nU
 |[],i=>by simp
 |p::r,0=>by simp
 |p::r,i+1=>by simp[kJ r i]
theorem oF(x:Int):∀(es:List (Int×Nat)),x∈es.map (·.1)→(es.eraseIdx ((es.map (·.1)).idxOf x)).map (·.1)=(es.map (·.1)).erase x
 |[],h=>by simp at h
 |p::r,h=>by
  by_cases e:p.1=x
  ·subst e;simp
  ·have e':(p.1==x)=false:=by simpa using e
   have hr:x∈r.map (·.1):=by
    rcases List.mem_cons.1 (show x∈p.1::r.map (·.1)from h)with h|h
    ·exact absurd h.symm e
    ·exact h
   simp only[List.map_cons,List.idxOf_cons,e',cond_false,List.eraseIdx_cons_succ,List.erase_cons,Bool.false_eq_true,if_false]
   rw[oF x r hr]
section
variable {w w':World}{b:Nat}{S:List Int}{es:List (Int×Nat)}{clk:Nat}
theorem l7.lt(h:l7 w b es clk):b<w.heap.size:=(Array.getElem?_eq_some_iff.1 h.1).1
theorem cL.lt(h:cL w b S):b<w.heap.size:=by obtain⟨es,clk,h,_⟩:=h;exact h.lt
theorem cL.nodup(h:cL w b S):S.Nodup:=by obtain⟨es,clk,h,rfl⟩:=h;exact h.2.1
theorem l7.same(h:l7 w b es clk)(hk:w'.heap[b]? =w.heap[b]?):l7 w' b es clk:=⟨hk.trans h.1,h.2⟩
theorem cL.same(h:cL w b S)(hk:w'.heap[b]? =w.heap[b]?):cL w' b S:=by obtain⟨es,clk,h,e⟩:=h;exact⟨es,clk,h.same hk,e⟩
theorem cL.only {T:Nat→Prop}(h:cL w b S)(ho:ag T w w')(hb:¬T b):cL w' b S:=h.same (ho.block b h.lt hb)
theorem cL.made(w:World):cL (w.alloc (.map #[] 0)) w.heap.size []:=⟨[],0,⟨(MapKept.heap_alloc w _).1,by simp,by simp,by simp⟩,rfl⟩
theorem run_findKey(x:Int)(es:List (Int×Nat))(w:World):(Instr.findKey 3 (.int .i64 x) (es.map nU)).run Tryz.prog w= .ok (if x∈es.map (·.1)then some ((es.map (·.1)).idxOf x, .bool true)else none) w:=by
 simp only[Instr.findKey,Sem.run_bind,run_underlying Tryz.underlying3,Result.andThen_ok,rU x es 0,Nat.zero_add]
 rfl
theorem run_checkKey(e:Bool)(x:Int)(w:World):(Instr.checkKey e 10000 3 (.int .i64 x)).run Tryz.prog w= .ok () w:=by
 show(Instr.checkKey e (9999+1) 3 (.int .i64 x)).run Tryz.prog w= .ok () w
 rw[Instr.checkKey]
 simp only[Sem.run_bind,run_underlying Tryz.underlying3,Result.andThen_ok]
 rfl
theorem G8(w:World):(zeroValue 4).run Tryz.prog w= .ok (.bool false) w:=by kernel_rfl
theorem cL.lookup(h:cL w b S)(x:Int):(Instr.lookup 74 (.map (some b)) (.int .i64 x) false).run Tryz.prog w= .ok (.bool (decide (x∈S))) w:=by
 obtain⟨es,clk,h,rfl⟩:=h
 simp only[Instr.lookup,Sem.run_bind,run_underlying Tryz.underlying74,Result.andThen_ok,MapKept.run_getObj_map h.1,Sem.run_pure,run_checkKey,run_findKey]
 by_cases hx:x∈es.map (·.1)
 ·simp[hx]
 ·simp[hx,G8]
theorem cL.len(h:cL w b S)(ty:TypeId):(Builtin.len_ #[74] ty #[.map (some b)]).run Tryz.prog w= .ok (.int .i64 S.length) w:=by
 obtain⟨es,clk,h,rfl⟩:=h
 simp[Builtin.len_,run_underlying Tryz.underlying74,MapKept.run_getObj_map h.1,goInt]
theorem cL.store(h:cL w b S)(x:Int)(hx:x∉S):∃w',(Instr.mapUpdate 74 (.map (some b)) (.int .i64 x) (.bool true)).run Tryz.prog w= .ok () w'∧cL w' b (S++[x])∧ag (fun i=>i=b) w w':=by
 obtain⟨es,clk,h,rfl⟩:=h
 refine⟨setBlock w b (.map ((es++[(x,clk)]).map nU).toArray (clk+1)),?_,⟨es++[(x,clk)],clk+1,⟨heap_setBlock_same h.1 _,?_,?_,?_⟩,by simp⟩,⟨rfl,rfl,rfl,by simp[setBlock],fun i _ hi=>heap_setBlock_other h.1 _ hi⟩⟩
 ·simp only[Instr.mapUpdate,Sem.run_bind,run_underlying Tryz.underlying74,Result.andThen_ok,MapKept.run_getObj_map h.1,run_checkKey,run_findKey,hx,if_false,MapKept.run_setObj_map _ h.1]
  simp[nU]
  rfl
 ·rw[List.map_append,List.nodup_append]
  refine⟨h.2.1,by simp,?_⟩
  intro a ha c hc
  simp at hc;subst hc
  rintro rfl;exact hx ha
 ·rw[List.map_append,List.nodup_append]
  refine⟨h.2.2.1,by simp,?_⟩
  intro a ha c hc
  simp at hc;subst hc
  obtain⟨p,hp,rfl⟩:=List.mem_map.1 ha
  have:=h.2.2.2 p hp
  omega
 ·intro p hp
  rcases List.mem_append.1 hp with hp|hp
  ·have:=h.2.2.2 p hp;omega
  ·simp at hp;subst hp;simp
theorem cL.drop(h:cL w b S)(x:Int)(hx:x∈S)(ty:TypeId):∃w',(Builtin.delete_ #[74,3] ty #[.map (some b), .int .i64 x]).run Tryz.prog w= .ok (.tuple #[]) w'∧cL w' b (S.erase x)∧ag (fun i=>i=b) w w':=by
 obtain⟨es,clk,h,rfl⟩:=h
 have hsub:(es.eraseIdx ((es.map (·.1)).idxOf x)).Sublist es:=List.eraseIdx_sublist _ _
 refine⟨setBlock w b (.map ((es.eraseIdx ((es.map (·.1)).idxOf x)).map nU).toArray clk),?_,⟨es.eraseIdx ((es.map (·.1)).idxOf x),clk,⟨heap_setBlock_same h.1 _,h.2.1.sublist (hsub.map _),h.2.2.1.sublist (hsub.map _),fun p hp=>h.2.2.2 p (hsub.subset hp)⟩,?_⟩,⟨rfl,rfl,rfl,by simp[setBlock],fun i _ hi=>heap_setBlock_other h.1 _ hi⟩⟩
 ·simp only[Builtin.delete_]
  simp[run_underlying Tryz.underlying74,MapKept.run_getObj_map h.1,run_checkKey,run_findKey,hx,MapKept.run_setObj_map _ h.1,kJ]
  rfl
 ·exact oF x es hx
end
end Mk
namespace Mk
def gj(xs:List Int):Prop:=xs.Pairwise (·< ·)
theorem cY(x n:Int):∀xs:List Int,x∈eH xs n↔x=n∨x∈xs
 |[]=>by simp[eH]
 |a::r=>by
  simp only[eH]
  split
  ·simp[cY x n r]
   constructor
   ·rintro(h|h|h)<;>simp[h]
   ·rintro(h|h|h)<;>simp[h]
  ·split
   ·rename_i h;subst h;simp
   ·simp
theorem iA(n:Int):∀xs:List Int,gj xs→gj (eH xs n)
 |[],_=>by simp[eH,gj]
 |a::r,h=>by
  unfold gj at h⊢
  rw[List.pairwise_cons]at h
  simp only[eH]
  split
  ·rw[List.pairwise_cons]
   refine⟨fun y hy=> ?_,iA n r h.2⟩
   rcases(cY y n r).1 hy with rfl|hy
   ·assumption
   ·exact h.1 y hy
  ·split
   ·exact List.pairwise_cons.2 h
   ·rw[List.pairwise_cons]
    refine⟨fun y hy=> ?_,List.pairwise_cons.2 h⟩
    rcases List.mem_cons.1 hy with rfl|hy
    ·omega
    ·have:=h.1 y hy;omega
theorem gj.nodup {xs:List Int}(h:gj xs):xs.Nodup:=by
 unfold gj at h
 exact List.Pairwise.imp (fun hab=>by omega) h
theorem qc:∀{xs ys:List Int},gj xs→gj ys→(∀x,x∈xs↔x∈ys)→xs=ys
 |[],[],_,_,_=>rfl
 |[],y::r,_,_,h=>by have:=(h y).2 (by simp);simp at this
 |x::r,[],_,_,h=>by have:=(h x).1 (by simp);simp at this
 |x::r,y::s,hx,hy,h=>by
  unfold gj at hx hy
  rw[List.pairwise_cons]at hx hy
  have e:x=y:=by
   rcases List.mem_cons.1 ((h x).1 (by simp))with h1|h1
   ·exact h1
   ·rcases List.mem_cons.1 ((h y).2 (by simp))with h2|h2
    ·exact h2.symm
    ·have:=hx.1 y h2;have:=hy.1 x h1;omega
  subst e
  rw[qc hx.2 hy.2 fun z=> ?_]
  constructor
  ·intro hz
   rcases List.mem_cons.1 ((h z).1 (by simp[hz]))with h1|h1
   ·subst h1;have:=hx.1 z hz;omega
   ·exact h1
  ·intro hz
   rcases List.mem_cons.1 ((h z).2 (by simp[hz]))with h1|h1
   ·subst h1;have:=hy.1 z hz;omega
   ·exact h1
theorem rV {xs:List Int}{n:Int}(h:gj xs)(hn:n∈xs):eH xs n=xs:=
 qc (iA n xs h) h fun x=>by rw[cY];constructor; ·rintro(rfl|h)<;>assumption
                            ·exact .inr
theorem gj.erase {xs:List Int}(h:gj xs)(n:Int):gj (xs.filter (·≠n)):=List.Pairwise.filter _ h
theorem di:∀(N:Nat)(xs:List Int),xs.Nodup→(∀x∈xs,1≤x∧x≤N)→xs.length≤N
 |0,xs,_,h=>by
  cases xs with
  |nil=>simp
  |cons a r=>have:=h a (by simp);omega
 |N+1,xs,hn,h=>by
  have h1:=di N (xs.erase ((N:Int)+1)) (hn.erase _) fun x hx=>by
   have h2:=h x (List.mem_of_mem_erase hx)
   have h3:x≠(N:Int)+1:=fun e=>by
    subst e
    exact(List.Nodup.not_mem_erase hn) hx
   omega
  have h4:=List.length_erase (a:=((N:Int)+1)) (l:=xs)
  split at h4<;>omega
def dI(G B:List Int)(ids:List Int):List Int:=ids.foldl (fun G x=>if x∈B then G else eH G x) G
theorem jl {G B ids:List Int}{k:Nat}{x:Int}(hx:ids[k]? =some x):dI G B (ids.take (k+1))=if x∈B then dI G B (ids.take k)else eH (dI G B (ids.take k)) x:=by
 unfold dI;rw[List.take_add_one,hx];simp[List.foldl_append]
theorem uz(x:Int)(B:List Int):∀(ids G:List Int),x∈dI G B ids↔x∈G∨(x∈ids∧x∉B)
 |[],G=>by simp[dI]
 |a::r,G=>by
  have e:dI G B (a::r)=dI (if a∈B then G else eH G a) B r:=rfl
  rw[e,uz x B r]
  by_cases h:a∈B
  ·simp only[h,if_true,List.mem_cons]
   constructor
   ·rintro(h1|⟨h1,h2⟩)
    ·exact .inl h1
    ·exact .inr ⟨.inr h1,h2⟩
   ·rintro(h1|⟨h1|h1,h2⟩)
    ·exact .inl h1
    ·subst h1;exact absurd h h2
    ·exact .inr ⟨h1,h2⟩
  ·simp only[h,if_false,cY,List.mem_cons]
   constructor
   ·rintro((h1|h1)|⟨h1,h2⟩)
    ·subst h1;exact .inr ⟨.inl rfl,h⟩
    ·exact .inl h1
    ·exact .inr ⟨.inr h1,h2⟩
   ·rintro(h1|⟨h1|h1,h2⟩)
    ·exact .inl (.inr h1)
    ·exact .inl (.inl h1)
    ·exact .inr ⟨h1,h2⟩
theorem ry(B:List Int):∀(ids G:List Int),gj G→gj (dI G B ids)
 |[],G,h=>h
 |a::r,G,h=>by
  have e:dI G B (a::r)=dI (if a∈B then G else eH G a) B r:=rfl
  rw[e]
  refine ry B r _ ?_
  split
  ·exact h
  ·exact iA a G h
end Mk
namespace Mk
open Go.RowKit
structure cE(w:World)(bm:Nat)(F:Nat→Prop)(G B:List Int)(v:Value)(bg bb:Nat)(xs SG SB:List Int):Prop where
 heap:bt w bm (.map (some bg)) (.map (some bb)) v xs
 gs:cL w bg SG
 bs:cL w bb SB
 ne:bg≠bb
 mg:∀x,x∈SG↔x∈G
 mb:∀x,x∈SB↔x∈B
 sg:gj G
 sb:gj B
 dis:∀x,x∈G→x∉B
 hp:eI xs xs.length
 hn:xs.Nodup
 hsub:∀x,x∈xs→x∈G∨x∈B
 hall:∀x,x∈G→x∈xs
 rng:∀x,x∈G∨x∈B→1≤x∧x≤100000
 foot:∀i,F i↔i=bm∨i=bg∨i=bb∨v.ownBlock=some i
def bW(w:World)(bm:Nat)(F:Nat→Prop)(G B:List Int):Prop:=∃v bg bb xs SG SB,cE w bm F G B v bg bb xs SG SB
section
variable {w w':World}{bm:Nat}{F:Nat→Prop}{G B:List Int}{v:Value}{bg bb:Nat}{xs SG SB:List Int}
theorem cE.short(h:cE w bm F G B v bg bb xs SG SB):xs.length≤1000000000:=by
 have:=di 100000 xs h.hn fun x hx=>h.rng x (h.hsub x hx)
 omega
theorem cE.xu(h:cE w bm F G B v bg bb xs SG SB):bg≠bm:=by
 rintro rfl
 obtain⟨es,clk,hs,_⟩:=h.gs
 have:=h.heap.blk
 rw[hs.1]at this;simp at this
theorem cE.Kj(h:cE w bm F G B v bg bb xs SG SB):bb≠bm:=by
 rintro rfl
 obtain⟨es,clk,hs,_⟩:=h.bs
 have:=h.heap.blk
 rw[hs.1]at this;simp at this
theorem iB {base:Nat}{e:TypeId}{size n:Nat}{ys:List Value}{b:Nat}{S:List Int}(h:w.ownsRow base e size v n ys)(hs:cL w b S):v.ownBlock≠some b:=by
 intro he
 obtain⟨es,clk,hs,_⟩:=hs
 rcases h.2 with⟨rfl,_⟩|⟨g,cap,cur,rfl,_,hg,_⟩
 ·simp[Value.ownBlock]at he
 ·have:g=b:=by simpa [Value.ownBlock]using he
  subst this
  rw[hs.1]at hg;simp at hg
theorem cE.lt(h:cE w bm F G B v bg bb xs SG SB):∀i,F i→i<w.heap.size:=by
 intro i hi
 rcases(h.foot i).1 hi with rfl|rfl|rfl|hi
 ·exact h.heap.lt
 ·exact h.gs.lt
 ·exact h.bs.lt
 ·exact(h.heap.own.lt i hi).2
theorem bW.lt(h:bW w bm F G B):∀i,F i→i<w.heap.size:=by obtain⟨_,_,_,_,_,_,h⟩:=h;exact h.lt
theorem bW.only {T:Nat→Prop}(h:bW w bm F G B)(ho:ag T w w')(hd:∀i,F i→¬T i):bW w' bm F G B:=by
 obtain⟨v,bg,bb,xs,SG,SB,h⟩:=h
 refine⟨v,bg,bb,xs,SG,SB,⟨h.heap.only ho (hd _ ((h.foot _).2 (.inl rfl))) (fun g hg=>hd _ ((h.foot _).2 (.inr (.inr (.inr hg))))),h.gs.only ho (hd _ ((h.foot _).2 (.inr (.inl rfl)))),h.bs.only ho (hd _ ((h.foot _).2 (.inr (.inr (.inl rfl))))),h.ne,h.mg,h.mb,h.sg,h.sb,h.dis,h.hp,h.hn,h.hsub,h.hall,h.rng,h.foot⟩⟩
theorem cE.xw {w1:World}{x:Int}(h:cE w bm F G B v bg bb xs SG SB)(jK:cL w1 bg (SG++[x]))(ho:ag (fun i=>i=bg) w w1)(hg:x∉G)(hb:x∉B)(hx:1≤x∧x≤100000):
 bt w1 bm (.map (some bg)) (.map (some bb)) v xs∧
 ∀(w2:World)(v':Value)(ys:List Int),bt w2 bm (.map (some bg)) (.map (some bb)) v' ys→ys.Perm (x::xs)→eI ys ys.length→ag (fun i=>i=bm∨v.ownBlock=some i) w1 w2→(∀g,v'.ownBlock=some g→v.ownBlock=some g∨w1.heap.size≤g)→
  ∃F2,bW w2 bm F2 (eH G x) B∧(∀i,F2 i→F i∨w.heap.size≤i)∧ag F w w2:=by
 have e1:bt w1 bm (.map (some bg)) (.map (some bb)) v xs:=h.heap.only ho (fun e=>h.xu e.symm) (fun g hg e=>iB h.heap.own h.gs (by rw[hg,e]))
 refine⟨e1,fun w2 v' ys ha dd gw fK lP=> ?_⟩
 have zy:∀b S,cL w1 b S→b≠bm→¬(b=bm∨v.ownBlock=some b):=fun b S hs hne h1=>by
  rcases h1 with h1|h1
  ·exact hne h1
  ·exact iB e1.own hs h1
 have UN:cL w1 bb SB:=h.bs.only ho (fun e=>h.ne e.symm)
 have fH:x∉xs:=fun CF=>(h.hsub x CF).elim hg hb
 refine⟨fun i=>i=bm∨i=bg∨i=bb∨v'.ownBlock=some i,⟨v',bg,bb,ys,SG++[x],SB,⟨ha,jK.only fK (zy _ _ jK h.xu),UN.only fK (zy _ _ UN h.Kj),h.ne,?_,h.mb,iA x G h.sg,h.sb,?_,gw,?_,?_,?_,?_,fun i=>Iff.rfl⟩⟩,?_,?_⟩
 ·intro y;rw[cY,List.mem_append,h.mg y];simp;constructor
  ·rintro(h1|h1)<;>simp[h1]
  ·rintro(h1|h1)<;>simp[h1]
 ·intro y hy
  rcases(cY y x G).1 hy with rfl|hy
  ·exact hb
  ·exact h.dis y hy
 ·exact dd.nodup_iff.2 (List.nodup_cons.2 ⟨fH,h.hn⟩)
 ·intro y hy
  rcases List.mem_cons.1 (dd.mem_iff.1 hy)with rfl|hy
  ·exact .inl ((cY y y G).2 (.inl rfl))
  ·exact(h.hsub y hy).imp (fun h1=>(cY y x G).2 (.inr h1)) id
 ·intro y hy
  refine dd.mem_iff.2 (List.mem_cons.2 ?_)
  rcases(cY y x G).1 hy with rfl|hy
  ·exact .inl rfl
  ·exact .inr (h.hall y hy)
 ·intro y hy
  rcases hy with hy|hy
  ·rcases(cY y x G).1 hy with rfl|hy
   ·exact hx
   ·exact h.rng y (.inl hy)
  ·exact h.rng y (.inr hy)
 ·rintro i(rfl|rfl|rfl|hi)
  ·exact .inl ((h.foot _).2 (.inl rfl))
  ·exact .inl ((h.foot _).2 (.inr (.inl rfl)))
  ·exact .inl ((h.foot _).2 (.inr (.inr (.inl rfl))))
  ·rcases lP i hi with h1|h1
   ·exact .inl ((h.foot _).2 (.inr (.inr (.inr h1))))
   ·have:=ho.size;exact .inr (by omega)
 ·exact(ho.mono fun i hi=>(h.foot _).2 (.inr (.inl hi))).trans (fK.mono fun i hi=>(h.foot _).2 (hi.elim .inl fun h1=> .inr (.inr (.inr h1))))
end
def yV(bm:Nat)(F:Nat→Prop)(G B ids:List Int)(w:World)(e:Ending)(w':World):Prop:=
 e= .returned (.tuple #[])∧∃F',bW w' bm F' (dI G B ids) B∧ag F w w'∧∀i,F' i→F i∨w.heap.size≤i
theorem Bf(w:World)(r:Nat):(binOp .eql 74 (.map (some r)) (.map none)).run Tryz.prog w= .ok (.bool false) w:=run_eql_map_nil w _ _ _ (some r) Tryz.underlying74
theorem DL(w:World):(binOp .eql 74 (.map none) (.map none)).run Tryz.prog w= .ok (.bool true) w:=run_eql_map_nil w _ _ _ none Tryz.underlying74
theorem Fz(bm:Nat)(F Fi:Nat→Prop)(G B ids:List Int)(iv:Value)(w:World)(h:bW w bm F G B)(hi:cF Fi w iv ids)(hd:∀i,Fi i→¬F i)(hr:dw ids=true):
 Calls Tryz.prog 27 #[.pointer (some ⟨bm,0,none⟩),iv] w (yV bm F G B ids w):=by
 obtain⟨a,cap,rfl,cq,hm,hc⟩:=hi.open_
 have HC:=hD hc;clear hc hi
 have HD:=hD hd;clear hd
 have HR:Hid (∀x∈ids,1≤x∧x≤100000):=by
  have h1:∀x∈ids,1≤x∧x≤100000:=fun x hx=>uw hr hx
  exact h1
 clear hr
 generalize hn:ids.length=n at*
 have HN:=hD hn;clear hn
 have jL:Hid (bW w bm F (dI G B (ids.take 0)) B):=h
 have LN:Hid (ag F w w):=ag.refl F w
 have Q7:Hid (∀i,F i→F i∨w.heap.size≤i):=by
  have h1:∀i,F i→F i∨w.heap.size≤i:=fun i hi=> .inl hi
  exact h1
 obtain⟨v,bg,bb,xs,SG,SB,bK⟩:=h
 have gz:w.cell? ⟨bm,1,none⟩=some (.map (some bg)):=by simp[World.cell?,bK.heap.blk]
 have hq:=fun w=>Bf w bg
 clear bK
 go_enter Tryz.func27,Tryz.ntmps27
 go_wp2_with fail
 go_loopw [5,21](fun _ iv wr=>∃(k:Nat)(F':Nat→Prop),k≤n∧iv= .int .i64 k∧Hid (bW wr bm F' (dI G B (ids.take k)) B)∧Hid (ag F w wr)∧Hid (∀i,F' i→F i∨w.heap.size≤i)∧w.heap.size≤wr.heap.size)(fun _ iv _=>n-(intOf iv).toNat)
 case atStart=>exact⟨0,_,Nat.zero_le _,rfl,jL,LN,Q7,by exact Nat.le_refl _⟩
 case round=>
  obtain⟨k,F',hk,rfl,HS,HO,np,cB⟩:=hrel
  by_cases aT:k<n
  ·obtain⟨b,off,rfl,UO,bZ,aC⟩:=HC.out (by omega)
   obtain⟨x,hx⟩:∃x,ids[k]? =some x:=⟨_,List.getElem?_eq_getElem (by rw[HN.out];exact aT)⟩
   have Xc:wr.cell? ⟨b,off+k,none⟩=some (.int .i64 x):=by
    rw[HO.out.cell (p:=⟨b,off+k,none⟩) bZ (HD.out b UO)]
    exact aC k x hx
   have Zt:=HR.out x (List.mem_of_getElem? hx)
   have HX:=hD hx
   clear aC hx bZ UO
   obtain⟨v,bg,bb,xs,SG,SB,bK⟩:=HS.out
   have gz:wr.cell? ⟨bm,1,none⟩=some (.map (some bg)):=by simp[World.cell?,bK.heap.blk]
   have qw:wr.cell? ⟨bm,2,none⟩=some (.map (some bb)):=by simp[World.cell?,bK.heap.blk]
   have UP:=bK.gs.lookup x
   have Ms:=bK.bs.lookup x
   by_cases hg:x∈dI G B (ids.take k)
   ·have EB:decide (x∈SG)=true:=by simpa using(bK.mg x).2 hg
    rw[EB]at UP
    have eT:Hid (bW wr bm F' (dI G B (ids.take (k+1))) B):=by
     rw[jl HX.out,if_neg (bK.dis x hg),rV bK.sg hg];exact HS.out
    clear bK Ms hg EB
    go_wp2_with fail
    go_roundw
    case rel=>exact⟨k+1,F',by omega,by go_num,eT,HO,np,cB⟩
    case measure=>simp[intOf];omega
   ·have EB:decide (x∈SG)=false:=by simpa using fun h=>hg ((bK.mg x).1 h)
    rw[EB]at UP
    by_cases hb:x∈B
    ·have jq:decide (x∈SB)=true:=by simpa using(bK.mb x).2 hb
     rw[jq]at Ms
     have eT:Hid (bW wr bm F' (dI G B (ids.take (k+1))) B):=by
      rw[jl HX.out,if_pos hb];exact HS.out
     clear bK hg EB hb jq
     go_wp2_with fail
     go_roundw
     case rel=>exact⟨k+1,F',by omega,by go_num,eT,HO,np,cB⟩
     case measure=>simp[intOf];omega
    ·have jq:decide (x∈SB)=false:=by simpa using fun h=>hb ((bK.mb x).1 h)
     rw[jq]at Ms
     obtain⟨w1,Wt,jK,kW⟩:=bK.gs.store x (fun h=>hg ((bK.mg x).1 h))
     have kh:=bK.xw jK kW hg hb Zt
     have nr:=hD kh
     have Cm:=lB bm _ _ v xs w1 x kh.1 bK.hp bK.short
     have vy:=hD Cm
     have TD:Hid (dI G B (ids.take (k+1))=eH (dI G B (ids.take k)) x):=by
      rw[jl HX.out,if_neg hb];exact(rfl:eH (dI G B (ids.take k)) x=_)
     have iI:=hD kW
     clear bK kh Cm jK kW hg EB hb jq
     go_wp2_with fail
     refine vy.out.mono ?_
     rintro e w2⟨rfl,v',ys,ha,⟨dd,gw⟩,fK,lP⟩
     obtain⟨F2,F0,Cn,vz⟩:=nr.out.2 w2 v' ys ha dd gw fK lP
     have EL:Hid (bW w2 bm F2 (dI G B (ids.take (k+1))) B):=by rw[TD.out];exact F0
     have LO:Hid (∀i,F2 i→F i∨w.heap.size≤i):=by
      have h:∀i,F2 i→F i∨w.heap.size≤i:=fun i hi=>by
       rcases Cn i hi with h|h
       ·exact np.out i h
       ·right;omega
      exact h
     have wj:Hid (ag F w w2):=by
      have h:ag F w w2:=HO.out.cD vz fun i hi aT=>by
       rcases np.out i hi with h|h
       ·exact h
       ·omega
      exact h
     have Ll:w.heap.size≤w2.heap.size:=wj.out.size
     clear F0 Cn vz ha dd gw fK lP vy nr
     go_wp2_with fail
     go_roundw
     case rel=>exact⟨k+1,F2,by omega,by go_num,EL,wj,LO,Ll⟩
     case measure=>simp[intOf];omega
  ·go_wp2_with fail
   go_end0
   refine⟨rfl,F',?_,HO.out,np.out⟩
   have h:=HS.out
   rw[List.take_of_length_le (by rw[HN.out];omega)]at h
   exact h
def mR(w:World)(bm:Nat):Prop:=w.heap[bm]? =some (.cells #[.slice none 0 0, .map none, .map none] 79 (0,0))
def jH(w:World)(bm:Nat):World:=(((w.setCell ⟨bm,1,none⟩ (.map (some w.heap.size))).setCell ⟨bm,2,none⟩ (.map (some (w.heap.size+1)))).alloc (.map #[] 0)).alloc (.map #[] 0)
theorem Bg {w:World}{bm:Nat}(h:mR w bm):bW (jH w bm) bm (fun i=>i=bm∨i=w.heap.size∨i=w.heap.size+1) [] []∧ag (fun i=>i=bm) w (jH w bm):=by
 have aT:bm<w.heap.size:=(Array.getElem?_eq_some_iff.1 h).1
 obtain⟨u,hu⟩:∃u,u=(w.setCell ⟨bm,1,none⟩ (.map (some w.heap.size))).setCell ⟨bm,2,none⟩ (.map (some (w.heap.size+1))):=⟨_,rfl⟩
 have vL:u.heap.size=w.heap.size:=by rw[hu];simp[World.setCell]
 have h1:u.heap[bm]? =some (.cells #[.slice none 0 0, .map (some w.heap.size), .map (some (w.heap.size+1))] 79 (0,0)):=by
  unfold mR at h
  rw[hu]
  simp[World.setCell,Array.getElem?_modify,h]
 have e:jH w bm=(u.alloc (.map #[] 0)).alloc (.map #[] 0):=by rw[hu];rfl
 have s1:cL (jH w bm) w.heap.size []:=by
  rw[e,←vL];exact(cL.made u).same (Below.heap_alloc _ _ _ (by simp))
 have s2:cL (jH w bm) (w.heap.size+1) []:=by
  have:=cL.made (u.alloc (.map #[] 0))
  rw[e,←vL]
  simpa using this
 refine⟨⟨.slice none 0 0,w.heap.size,w.heap.size+1,[],[],[],⟨⟨?_,World.ownsRow_nil _ _ _ _⟩,s1,s2,by omega,by simp,by simp,List.Pairwise.nil,List.Pairwise.nil,by simp,fun c _ hc=>by simp at hc,List.nodup_nil,by simp,by simp,by simp,fun i=>by simp[Value.ownBlock]⟩⟩,?_⟩
 ·rw[e]
  exact(Below.heap_alloc _ _ bm (by simp;omega)).trans ((Below.heap_alloc u _ bm (by omega)).trans h1)
 ·exact((((ag.refl (fun i=>i=bm) w).setCell (p:=⟨bm,1,none⟩) (.inl rfl) _).setCell (p:=⟨bm,2,none⟩) (.inl rfl) _).alloc _).alloc _
theorem G9(bm:Nat)(Fi:Nat→Prop)(ids:List Int)(iv:Value)(w:World)(h:mR w bm)(hi:cF Fi w iv ids)(hd:∀i,Fi i→i≠bm)(hr:dw ids=true):
 Calls Tryz.prog 27 #[.pointer (some ⟨bm,0,none⟩),iv] w (yV bm (fun i=>i=bm) [] [] ids w):=by
 obtain⟨a,cap,rfl,cq,hm,hc⟩:=hi.open_
 have HC:=hD hc;clear hc hi
 have HD:=hD hd;clear hd
 have HR:Hid (∀x∈ids,1≤x∧x≤100000):=by
  have h1:∀x∈ids,1≤x∧x≤100000:=fun x hx=>uw hr hx
  exact h1
 clear hr
 generalize hn:ids.length=n at*
 have HN:=hD hn;clear hn
 obtain⟨G,hG⟩:∃G:List Int,G=[]:=⟨_,rfl⟩
 obtain⟨B,hB⟩:∃B:List Int,B=[]:=⟨_,rfl⟩
 obtain⟨F,hF⟩:∃F:Nat→Prop,F=fun i=>i=bm:=⟨_,rfl⟩
 have bz:=Bg h
 have jL:Hid (bW (jH w bm) bm (fun i=>i=bm∨i=w.heap.size∨i=w.heap.size+1) (dI G B (ids.take 0)) B):=by subst hG hB;exact bz.1
 have LN:Hid (ag F w (jH w bm)):=by subst hF;exact bz.2
 have Q7:Hid (∀i,(i=bm∨i=w.heap.size∨i=w.heap.size+1)→F i∨w.heap.size≤i):=by
  have h1:∀i,(i=bm∨i=w.heap.size∨i=w.heap.size+1)→F i∨w.heap.size≤i:=fun i hi=>by
   subst hF
   rcases hi with h|h|h
   ·exact .inl h
   ·exact .inr (by omega)
   ·exact .inr (by omega)
  exact h1
 have HD:Hid (∀i,Fi i→¬F i):=by subst hF;exact HD.out
 have aT:bm<w.heap.size:=(Array.getElem?_eq_some_iff.1 h).1
 have UQ:Calls Tryz.prog 27 #[.pointer (some ⟨bm,0,none⟩), .slice a n cap] w (yV bm F G B ids w):=by
  have gz:w.cell? ⟨bm,1,none⟩=some (.map none):=by unfold mR at h;simp[World.cell?,h]
  have qw:w.cell? ⟨bm,2,none⟩=some (.map none):=by unfold mR at h;simp[World.cell?,h]
  have pj:w.frozen? ⟨bm,1,none⟩=false:=by unfold mR at h;simp[World.frozen?,h]
  have WL:w.frozen? ⟨bm,2,none⟩=false:=by unfold mR at h;simp[World.frozen?,h]
  have hq:=DL
  have hmm:= @run_makeMap Tryz.prog
  clear bz h hG hB hF
  go_enter Tryz.func27,Tryz.ntmps27
  go_wp2_with fail
  go_loopw [5,21](fun _ iv wr=>∃(k:Nat)(F':Nat→Prop),k≤n∧iv= .int .i64 k∧Hid (bW wr bm F' (dI G B (ids.take k)) B)∧Hid (ag F w wr)∧Hid (∀i,F' i→F i∨w.heap.size≤i)∧w.heap.size≤wr.heap.size)(fun _ iv _=>n-(intOf iv).toNat)
  case atStart=>exact⟨0,_,Nat.zero_le _,rfl,jL,LN,Q7,by simp[World.setCell];omega⟩
  case round=>
   obtain⟨k,F',hk,rfl,HS,HO,np,cB⟩:=hrel
   by_cases aT:k<n
   ·obtain⟨b,off,rfl,UO,bZ,aC⟩:=HC.out (by omega)
    obtain⟨x,hx⟩:∃x,ids[k]? =some x:=⟨_,List.getElem?_eq_getElem (by rw[HN.out];exact aT)⟩
    have Xc:wr.cell? ⟨b,off+k,none⟩=some (.int .i64 x):=by
     rw[HO.out.cell (p:=⟨b,off+k,none⟩) bZ (HD.out b UO)]
     exact aC k x hx
    have Zt:=HR.out x (List.mem_of_getElem? hx)
    have HX:=hD hx
    clear aC hx bZ UO
    obtain⟨v,bg,bb,xs,SG,SB,bK⟩:=HS.out
    have gz:wr.cell? ⟨bm,1,none⟩=some (.map (some bg)):=by simp[World.cell?,bK.heap.blk]
    have qw:wr.cell? ⟨bm,2,none⟩=some (.map (some bb)):=by simp[World.cell?,bK.heap.blk]
    have UP:=bK.gs.lookup x
    have Ms:=bK.bs.lookup x
    by_cases hg:x∈dI G B (ids.take k)
    ·have EB:decide (x∈SG)=true:=by simpa using(bK.mg x).2 hg
     rw[EB]at UP
     have eT:Hid (bW wr bm F' (dI G B (ids.take (k+1))) B):=by
      rw[jl HX.out,if_neg (bK.dis x hg),rV bK.sg hg];exact HS.out
     clear bK Ms hg EB
     go_wp2_with fail
     go_roundw
     case rel=>exact⟨k+1,F',by omega,by go_num,eT,HO,np,cB⟩
     case measure=>simp[intOf];omega
    ·have EB:decide (x∈SG)=false:=by simpa using fun h=>hg ((bK.mg x).1 h)
     rw[EB]at UP
     by_cases hb:x∈B
     ·have jq:decide (x∈SB)=true:=by simpa using(bK.mb x).2 hb
      rw[jq]at Ms
      have eT:Hid (bW wr bm F' (dI G B (ids.take (k+1))) B):=by
       rw[jl HX.out,if_pos hb];exact HS.out
      clear bK hg EB hb jq
      go_wp2_with fail
      go_roundw
      case rel=>exact⟨k+1,F',by omega,by go_num,eT,HO,np,cB⟩
      case measure=>simp[intOf];omega
     ·have jq:decide (x∈SB)=false:=by simpa using fun h=>hb ((bK.mb x).1 h)
      rw[jq]at Ms
      obtain⟨w1,Wt,jK,kW⟩:=bK.gs.store x (fun h=>hg ((bK.mg x).1 h))
      have kh:=bK.xw jK kW hg hb Zt
      have nr:=hD kh
      have Cm:=lB bm _ _ v xs w1 x kh.1 bK.hp bK.short
      have vy:=hD Cm
      have TD:Hid (dI G B (ids.take (k+1))=eH (dI G B (ids.take k)) x):=by
       rw[jl HX.out,if_neg hb];exact(rfl:eH (dI G B (ids.take k)) x=_)
      have iI:=hD kW
      clear bK kh Cm jK kW hg EB hb jq
      go_wp2_with fail
      refine vy.out.mono ?_
      rintro e w2⟨rfl,v',ys,ha,⟨dd,gw⟩,fK,lP⟩
      obtain⟨F2,F0,Cn,vz⟩:=nr.out.2 w2 v' ys ha dd gw fK lP
      have EL:Hid (bW w2 bm F2 (dI G B (ids.take (k+1))) B):=by rw[TD.out];exact F0
      have LO:Hid (∀i,F2 i→F i∨w.heap.size≤i):=by
       have h:∀i,F2 i→F i∨w.heap.size≤i:=fun i hi=>by
        rcases Cn i hi with h|h
        ·exact np.out i h
        ·right;omega
       exact h
      have wj:Hid (ag F w w2):=by
       have h:ag F w w2:=HO.out.cD vz fun i hi aT=>by
        rcases np.out i hi with h|h
        ·exact h
        ·omega
       exact h
      have Ll:w.heap.size≤w2.heap.size:=wj.out.size
      clear F0 Cn vz ha dd gw fK lP vy nr
      go_wp2_with fail
      go_roundw
      case rel=>exact⟨k+1,F2,by omega,by go_num,EL,wj,LO,Ll⟩
      case measure=>simp[intOf];omega
   ·go_wp2_with fail
    go_end0
    refine⟨rfl,F',?_,HO.out,np.out⟩
    have h:=HS.out
    rw[List.take_of_length_le (by rw[HN.out];omega)]at h
    exact h
 subst hG hB hF
 exact UQ
def Nj(ids:List Int)(w:World)(e:Ending)(w':World):Prop:=
 ∃bm F',e= .returned (.tuple #[.pointer (some ⟨bm,0,none⟩), .int .i64 0])∧bW w' bm F' (dI [] [] ids) []∧Below w.heap.size w w'∧∀i,F' i→w.heap.size≤i
theorem mR.made(w:World):mR (w.alloc (.cells #[.slice none 0 0, .map none, .map none] 79)) w.heap.size:=heap_alloc_new w _
theorem yW(Fi:Nat→Prop)(ids:List Int)(iv:Value)(w:World)(hi:cF Fi w iv ids)(hr:dw ids=true):
 Calls Tryz.prog 7 #[iv] w (Nj ids w):=by
 have H1:=hD (kH Fi iv w ids hi)
 obtain⟨u,hu⟩:∃u,u=w.alloc (.cells #[.slice none 0 0, .map none, .map none] 79):=⟨_,rfl⟩
 have hf:mR u w.heap.size:=by rw[hu];exact mR.made w
 have Mn:cF (fun i=>Fi i∧i<w.heap.size) u iv ids:=by
  rw[hu];exact(hi.mono fun i h h2=>⟨h,h2⟩).alloc _
 have H2:=hD (G9 w.heap.size (fun i=>Fi i∧i<w.heap.size) ids iv u hf Mn (fun i h=>by omega) hr)
 have HU:=hD hu
 rw[hu]at H2
 clear hi Mn hf hu
 rw[hr]at H1
 go_enter Tryz.func7,Tryz.ntmps7
 go_wp2_with fail
 refine(H1.out).mono ?_
 rintro e w'⟨rfl,rfl⟩
 go_wp2_with fail
 refine(H2.out).mono ?_
 rintro e w1⟨rfl,F',hm,ho,hs⟩
 have HM:=hD hm
 have HO:=hD ho
 have HS:=hD hs
 clear hm ho hs
 go_wp2_with fail
 go_ret2
 refine⟨w.heap.size,F',rfl,HM.out,?_,?_⟩
 ·have hb:Below w.heap.size w (w.alloc (.cells #[.slice none 0 0, .map none, .map none] 79)):=(Below.refl _ _).alloc (Nat.le_refl _) _
  exact⟨HO.out.os.trans hb.os,HO.out.tape.trans hb.tape,HO.out.output.trans hb.output,Nat.le_trans hb.size HO.out.size,fun k hk=>(HO.out.block k (by simp;omega) (by omega)).trans (hb.block k hk)⟩
 ·intro i hi
  rcases HS.out i hi with h|h
  ·omega
  ·simp at h;omega
theorem Nk(Fi:Nat→Prop)(ids:List Int)(iv:Value)(w:World)(hi:cF Fi w iv ids)(hr:dw ids=false):
 Calls Tryz.prog 7 #[iv] w fun e w'=>e= .returned (.tuple #[.pointer none, .int .i64 2])∧w=w':=by
 have H1:=hD (kH Fi iv w ids hi)
 rw[hr]at H1
 clear hi
 go_enter Tryz.func7,Tryz.ntmps7
 go_wp2_with fail
 refine(H1.out).mono ?_
 rintro e w'⟨rfl,rfl⟩
 go_wp2_with fail
 go_ret2
 exact⟨rfl,rfl⟩
theorem Ha(Fi:Nat→Prop)(ids:List Int)(iv:Value)(p:Addr)(w:World)(hi:cF Fi w iv ids)(hr:dw ids=false):
 Calls Tryz.prog 16 #[.pointer (some p),iv] w fun e w'=>e= .returned (.int .i64 2)∧w=w':=by
 have H1:=hD (kH Fi iv w ids hi)
 rw[hr]at H1
 clear hi
 go_enter Tryz.func16,Tryz.ntmps16
 go_wp2_with fail
 refine(H1.out).mono ?_
 rintro e w'⟨rfl,rfl⟩
 go_wp2_with fail
 go_ret
 exact⟨rfl,rfl⟩
def xx(bm:Nat)(F:Nat→Prop)(G B:List Int)(w:World)(e:Ending)(w':World):Prop:=
 e= .returned (.int .i64 0)∧∃F',bW w' bm F' G B∧ag F w w'∧∀i,F' i→F i∨w.heap.size≤i
theorem Hb(bm:Nat)(F Fi:Nat→Prop)(G B ids:List Int)(iv:Value)(w:World)(h:bW w bm F G B)(hi:cF Fi w iv ids)(hd:∀i,Fi i→¬F i)(hr:dw ids=true):
 Calls Tryz.prog 16 #[.pointer (some ⟨bm,0,none⟩),iv] w (xx bm F (dI G B ids) B w):=by
 have H1:=hD (kH Fi iv w ids hi)
 have H2:=hD (Fz bm F Fi G B ids iv w h hi hd hr)
 rw[hr]at H1
 clear hi h hd
 go_enter Tryz.func16,Tryz.ntmps16
 go_wp2_with fail
 refine(H1.out).mono ?_
 rintro e w'⟨rfl,rfl⟩
 go_wp2_with fail
 refine(H2.out).mono ?_
 rintro e w1⟨rfl,hx⟩
 have HX:=hD hx
 clear hx
 go_wp2_with fail
 go_ret
 exact⟨rfl,HX.out⟩
theorem Bh(bm:Nat)(F:Nat→Prop)(G B:List Int)(w:World)(h:bW w bm F G B):
 Calls Tryz.prog 12 #[.pointer (some ⟨bm,0,none⟩)] w fun e w'=>e= .returned (.bool G.isEmpty)∧w=w':=by
 obtain⟨v,bg,bb,xs,SG,SB,bK⟩:=h
 have gz:w.cell? ⟨bm,1,none⟩=some (.map (some bg)):=by simp[World.cell?,bK.heap.blk]
 have hl:=fun ty=>bK.gs.len ty
 cases hG:G with
 |nil=>
  have hS:SG=[]:=List.eq_nil_iff_forall_not_mem.2 fun x hx=>by have:=(bK.mg x).1 hx;rw[hG]at this;simp at this
  rw[hS]at hl
  clear bK
  go_enter Tryz.func12,Tryz.ntmps12
  go_wp2_with fail
  go_ret
  exact⟨rfl,rfl⟩
 |cons g r=>
  have hS:SG.length≠0:=fun e=>by
   have h1:SG=[]:=List.eq_nil_of_length_eq_zero e
   have:=(bK.mg g).2 (by rw[hG];simp)
   rw[h1]at this;simp at this
  have hb:(((SG.length:Nat):Int)==0)=false:=by simpa using hS
  clear bK
  generalize SG.length=q at*
  go_enter Tryz.func12,Tryz.ntmps12
  go_wp2_with fail
  go_ret
  exact⟨rfl,rfl⟩
theorem lC(bm:Nat)(F:Nat→Prop)(G B:List Int)(id:Int)(iv:Value)(w:World)(h:bW w bm F G B)(hg:id∉G):
 Calls Tryz.prog 10 #[.pointer (some ⟨bm,0,none⟩), .int .i64 id,iv] w fun e w'=>e= .returned (.int .i64 190)∧w=w':=by
 obtain⟨v,bg,bb,xs,SG,SB,bK⟩:=h
 have gz:w.cell? ⟨bm,1,none⟩=some (.map (some bg)):=by simp[World.cell?,bK.heap.blk]
 have hl:=bK.gs.lookup id
 have hd:decide (id∈SG)=false:=by simpa using fun h=>hg ((bK.mg id).1 h)
 rw[hd]at hl
 clear bK hd
 go_enter Tryz.func10,Tryz.ntmps10
 go_wp2_with fail
 go_ret
 exact⟨rfl,rfl⟩
def xy(G B:List Int)(id:Int)(ids:List Int):List Int:=dI (G.filter (·≠id)) (eH B id) ids
theorem cE.DM {w w1 w2:World}{bm:Nat}{F:Nat→Prop}{G B:List Int}{v:Value}{bg bb:Nat}{xs SG SB:List Int}{id:Int}(h:cE w bm F G B v bg bb xs SG SB)(hg:id∈G)
 (dc:cL w1 bg (SG.erase id))(ei:ag (fun i=>i=bg) w w1)(iJ:cL w2 bb (SB++[id]))(fK:ag (fun i=>i=bb) w1 w2):bW w2 bm F (G.filter (·≠id)) (eH B id)∧ag F w w2:=by
 have hb:id∉B:=h.dis id hg
 have e1:bt w1 bm (.map (some bg)) (.map (some bb)) v xs:=h.heap.only ei (fun e=>h.xu e.symm) (fun g hg e=>iB h.heap.own h.gs (by rw[hg,e]))
 have b1:cL w1 bb SB:=h.bs.only ei (fun e=>h.ne e.symm)
 have e2:bt w2 bm (.map (some bg)) (.map (some bb)) v xs:=e1.only fK (fun e=>h.Kj e.symm) (fun g hg e=>iB e1.own b1 (by rw[hg,e]))
 refine⟨⟨v,bg,bb,xs,SG.erase id,SB++[id],⟨e2,dc.only fK h.ne,iJ,h.ne,?_,?_,h.sg.erase id,iA id B h.sb,?_,h.hp,h.hn,?_,?_,?_,h.foot⟩⟩,?_⟩
 ·intro x
  rw[List.Nodup.mem_erase_iff h.gs.nodup,h.mg x];simp;exact And.comm
 ·intro x;rw[cY,List.mem_append,h.mb x];simp;exact Or.comm
 ·intro x hx CF
  simp at hx
  rcases(cY x id B).1 CF with h1|h1
  ·exact hx.2 h1
  ·exact h.dis x hx.1 h1
 ·intro x hx
  by_cases e:x=id
  ·exact .inr ((cY x id B).2 (.inl e))
  ·exact(h.hsub x hx).imp (fun h1=>by simp[h1,e]) (fun h1=>(cY x id B).2 (.inr h1))
 ·intro x hx;simp at hx;exact h.hall x hx.1
 ·intro x hx
  rcases hx with hx|hx
  ·simp at hx;exact h.rng x (.inl hx.1)
  ·rcases(cY x id B).1 hx with rfl|hx
   ·exact h.rng x (.inl hg)
   ·exact h.rng x (.inr hx)
 ·exact(ei.mono fun i hi=>(h.foot _).2 (.inr (.inl hi))).trans (fK.mono fun i hi=>(h.foot _).2 (.inr (.inr (.inl hi))))
theorem Bi(bm:Nat)(F Fi:Nat→Prop)(G B:List Int)(id:Int)(ids:List Int)(iv:Value)(w:World)(h:bW w bm F G B)(hg:id∈G)(hi:cF Fi w iv ids)(Q8:∀i,Fi i→¬F i)(hr:dw ids=true):
 Calls Tryz.prog 10 #[.pointer (some ⟨bm,0,none⟩), .int .i64 id,iv] w (xx bm F (xy G B id ids) (eH B id) w):=by
 obtain⟨v,bg,bb,xs,SG,SB,bK⟩:=h
 have gz:w.cell? ⟨bm,1,none⟩=some (.map (some bg)):=by simp[World.cell?,bK.heap.blk]
 have hl:=bK.gs.lookup id
 have jP:=(bK.mg id).2 hg
 have hd:decide (id∈SG)=true:=by simpa using jP
 rw[hd]at hl
 obtain⟨w1,qcx,dc,ei⟩:=bK.gs.drop id jP 0
 have b1:cL w1 bb SB:=bK.bs.only ei (fun e=>bK.ne e.symm)
 obtain⟨w2,Wt,iJ,fK⟩:=b1.store id (fun h=>bK.dis id hg ((bK.mb id).1 h))
 have qw:w1.cell? ⟨bm,2,none⟩=some (.map (some bb)):=by
  rw[ei.cell (p:=⟨bm,2,none⟩) bK.heap.lt (fun e=>bK.xu e.symm)]
  simp[World.cell?,bK.heap.blk]
 obtain⟨UR,hU⟩:=bK.DM hg dc ei iJ fK
 have H1:=hD (kH Fi iv w ids hi)
 rw[hr]at H1
 have H2:=hD (Fz bm F Fi _ _ ids iv w2 UR (hi.only hU Q8) Q8 hr)
 have ko:=hD hU
 clear bK hd hi dc ei b1 iJ fK UR hU Q8 jP
 go_enter Tryz.func10,Tryz.ntmps10
 go_wp2_with fail
 refine(H1.out).mono ?_
 rintro e w'⟨rfl,rfl⟩
 go_wp2_with fail
 refine(H2.out).mono ?_
 rintro e w3⟨rfl,F',FN,xX,OV⟩
 have gZ:=hD FN
 have jN:=hD xX
 have Q9:=hD OV
 clear FN xX OV
 go_wp2_with fail
 go_ret
 exact⟨rfl,F',gZ.out,ko.out.trans jN.out,fun i hi=>(Q9.out i hi).imp (fun h=>h) fun h=>by have:=ko.out.size;omega⟩
def lD(w:World)(bm:Nat):Nat:=match w.cell? ⟨bm,0,none⟩with|some (.slice _ n _)=>n|_=>0
theorem bt.len {w:World}{bm:Nat}{m1 m2 v:Value}{xs:List Int}(h:bt w bm m1 m2 v xs):lD w bm=xs.length:=by
 obtain⟨a,c,rfl⟩:=h.slice
 simp[lD,h.cell]
def uA(G:List Int):Int:=G.headD 0
def uB(G:List Int):Bool:= !G.isEmpty
theorem DN {G:List Int}{x:Int}(h:gj G)(hx:x∈G)(hl:∀y∈G,x≤y):uA G=x∧uB G=true:=by
 cases G with
 |nil=>simp at hx
 |cons g r=>
  unfold gj at h
  rw[List.pairwise_cons]at h
  have h1:=hl g (by simp)
  rcases List.mem_cons.1 hx with rfl|h2
  ·simp[uA,uB]
  ·have:=h.1 x h2;omega
def Bj(bm:Nat)(F:Nat→Prop)(G B:List Int)(w:World)(e:Ending)(w':World):Prop:=
 e= .returned (.tuple #[.int .i64 (uA G), .bool (uB G)])∧∃F',bW w' bm F' G B∧ag F w w'∧∀i,F' i→F i∨w.heap.size≤i
theorem cE.swap {w w2:World}{bm:Nat}{F:Nat→Prop}{G B:List Int}{v v':Value}{bg bb:Nat}{xs ys SG SB:List Int}(h:cE w bm F G B v bg bb xs SG SB)
 (ha:bt w2 bm (.map (some bg)) (.map (some bb)) v' ys)(ho:ag (fun i=>i=bm∨v.ownBlock=some i) w w2)(hv:∀g,v'.ownBlock=some g→v.ownBlock=some g∨w.heap.size≤g)
 (gw:eI ys ys.length)(hn:ys.Nodup)(hsub:∀x,x∈ys→x∈xs)(hall:∀x,x∈G→x∈ys):
 cE w2 bm (fun i=>i=bm∨i=bg∨i=bb∨v'.ownBlock=some i) G B v' bg bb ys SG SB∧(∀i,(i=bm∨i=bg∨i=bb∨v'.ownBlock=some i)→F i∨w.heap.size≤i)∧ag F w w2:=by
 have zy:∀b S,cL w b S→b≠bm→¬(b=bm∨v.ownBlock=some b):=fun b S hs hne h1=>by
  rcases h1 with h1|h1
  ·exact hne h1
  ·exact iB h.heap.own hs h1
 refine⟨⟨ha,h.gs.only ho (zy _ _ h.gs h.xu),h.bs.only ho (zy _ _ h.bs h.Kj),h.ne,h.mg,h.mb,h.sg,h.sb,h.dis,gw,hn,fun x hx=>h.hsub x (hsub x hx),hall,h.rng,fun i=>Iff.rfl⟩,?_,?_⟩
 ·rintro i(rfl|rfl|rfl|hi)
  ·exact .inl ((h.foot _).2 (.inl rfl))
  ·exact .inl ((h.foot _).2 (.inr (.inl rfl)))
  ·exact .inl ((h.foot _).2 (.inr (.inr (.inl rfl))))
  ·rcases hv i hi with h1|h1
   ·exact .inl ((h.foot _).2 (.inr (.inr (.inr h1))))
   ·exact .inr h1
 ·exact ho.mono fun i hi=>(h.foot _).2 (hi.elim .inl fun h1=> .inr (.inr (.inr h1)))
theorem uC(bm:Nat)(F:Nat→Prop)(G B:List Int)(w:World)(h:bW w bm F G B):
 Calls Tryz.prog 9 #[.pointer (some ⟨bm,0,none⟩)] w (Bj bm F G B w):=by
 have jL:Hid (bW w bm F G B):=h
 clear h
 have hta:=uy
 go_enter Tryz.func9,Tryz.ntmps9
 go_wp2_with fail
 go_loopw [4,5](fun _ _ wr=>∃(F':Nat→Prop),Hid (bW wr bm F' G B)∧Hid (ag F w wr)∧Hid (∀i,F' i→F i∨w.heap.size≤i))(fun _ _ wr=>lD wr bm)
 case atStart=>exact⟨F,jL,by exact(ag.refl F w),by {have h1:∀i,F i→F i∨w.heap.size≤i:=fun i hi=> .inl hi;exact h1}⟩
 case round=>
  obtain⟨F',HS,HO,np⟩:=hrel
  obtain⟨v,bg,bb,xs,SG,SB,bK⟩:=HS.out
  obtain⟨a,cap,rfl⟩:=bK.heap.slice
  have oN:=bK.heap.cell
  have Ra:=bK.short
  by_cases h0:xs.length=0
  ·have hG:G=[]:=List.eq_nil_iff_forall_not_mem.2 fun x hx=>by
    have:=bK.hall x hx
    rw[List.eq_nil_of_length_eq_zero h0]at this;simp at this
   have HG:=hD hG
   rw[h0]at oN
   clear bK hG Ra
   have h00:¬(0:Int)<0:=by omega
   go_wp2_with fail
   go_ret2
   refine⟨?_,F',HS.out,HO.out,np.out⟩
   rw[HG.out];rfl
  ·have LP:=Be bm _ _ _ xs wr bK.heap bK.hp (by omega) bK.short
   have wE:=hD LP
   have eT:=hD bK
   generalize hn:xs.length=n at*
   have HN:=hD hn
   clear bK LP hn
   go_wp2_with fail
   refine wE.out.mono ?_
   rintro e w1⟨v1,x,ys,rfl,MB,dd,ES,gw,hlen,ei,Iv⟩
   have bK:=eT.out
   have Rb:=cE.swap (F:=F') bK MB ei (fun g hg=> .inl (by rw[←Iv];exact hg)) gw
   have IU:(x::ys).Nodup:=dd.nodup_iff.1 bK.hn
   rw[List.nodup_cons]at IU
   have gz:w1.cell? ⟨bm,1,none⟩=some (.map (some bg)):=by simp[World.cell?,MB.blk]
   have zy:¬(bg=bm∨(Value.slice a n cap).ownBlock=some bg):=fun h1=>by
    rcases h1 with h1|h1
    ·exact bK.xu h1
    ·exact iB bK.heap.own bK.gs h1
   have nQ:=(bK.gs.only ei zy).lookup x
   by_cases hg:x∈G
   ·have hd:decide (x∈SG)=true:=by simpa using(bK.mg x).2 hg
    rw[hd]at nQ
    have vy:=hD (lB bm _ _ v1 ys w1 x MB gw (by rw[HN.out]at hlen;omega))
    obtain⟨wh,wi⟩:=DN bK.sg hg fun y hy=>ES y (bK.hall y hy)
    have vK:=hD wh
    have ve:=hD wi
    have ye:=hD dd
    have nh:=hD ei
    have Pn:=hD Iv
    have HGG:=hD hg
    clear bK Rb IU zy MB gw hd wh wi dd ei Iv ES hg hlen
    go_wp2_with fail
    refine vy.out.mono ?_
    rintro e w2⟨rfl,v2,zs,UL,⟨LQ,LR⟩,fK,Co⟩
    have bK:=eT.out
    have hp:zs.Perm xs:=LQ.trans ye.out.symm
    have ho:ag (fun i=>i=bm∨(Value.slice a n cap).ownBlock=some i) wr w2:=nh.out.trans (fK.mono fun i hi=>hi.imp (fun h=>h) fun h=>by rw[←Pn.out];exact h)
    have oY:=cE.swap (F:=F') bK UL ho (fun g hg=>(Co g hg).imp (fun h=>by rw[←Pn.out];exact h) (fun h=>by have:=nh.out.size;omega)) LR (hp.nodup_iff.2 bK.hn) (fun y hy=>hp.mem_iff.1 hy) (fun y hy=>hp.mem_iff.2 (bK.hall y hy))
    have rE:=hD oY
    clear bK hp ho oY UL LQ LR fK Co
    go_wp2_with fail
    go_ret2
    refine⟨by rw[vK.out,ve.out];rfl,_,⟨_,_,_,_,_,_,rE.out.1⟩,HO.out.cD rE.out.2.2 fun i hi aT=> ?_,fun i hi=> ?_⟩
    ·rcases np.out i hi with h|h
     ·exact h
     ·omega
    ·rcases rE.out.2.1 i hi with h|h
     ·exact np.out i h
     ·have:=HO.out.size;exact .inr (by omega)
   ·have hd:decide (x∈SG)=false:=by simpa using fun h=>hg ((bK.mg x).1 h)
    rw[hd]at nQ
    have oY:=Rb IU.2 (fun y hy=>dd.mem_iff.2 (List.mem_cons.2 (.inr hy))) (fun y hy=>by
     rcases List.mem_cons.1 (dd.mem_iff.1 (bK.hall y hy))with h|h
     ·subst h;exact absurd hy hg
     ·exact h)
    have rE:=hD oY
    have hL1:=MB.len
    have Zu:=bK.heap.len
    have HL:Hid (lD w1 bm<lD wr bm):=by
     have h:lD w1 bm<lD wr bm:=by rw[HN.out]at hlen Zu;rw[hL1,Zu];omega
     exact h
    clear bK Rb IU zy MB gw hd dd ei Iv ES hg hlen hL1 Zu oY
    go_wp2_with fail
    go_roundw
    case rel=>
     refine⟨_,⟨_,_,_,_,_,_,rE.out.1⟩,?_,?_⟩
     ·have h:ag F w w1:=HO.out.cD rE.out.2.2 fun i hi aT=>by
       rcases np.out i hi with h|h
       ·exact h
       ·omega
      exact h
     ·have h:∀i,(i=bm∨i=bg∨i=bb∨v1.ownBlock=some i)→F i∨w.heap.size≤i:=fun i hi=>by
       rcases rE.out.2.1 i hi with h|h
       ·exact np.out i h
       ·have:=HO.out.size;exact .inr (by omega)
      exact h
    case measure=>exact HL.out
end Mk
namespace Mk
inductive BI(roots:List Int)(R:Int→List Int):Int→Prop
 |root(x:Int):x∈roots→BI roots R x
 |step(x y:Int):BI roots R x→y∈R x→BI roots R y
structure zm(n:Nat)(roots:List Int)(R:Int→List Int):Prop where
 roots:∀x∈roots,1≤x∧x≤(n:Int)
 refs:∀x,1≤x→x≤(n:Int)→∀y∈R x,1≤y∧y≤(n:Int)
theorem zm.range {n:Nat}{roots:List Int}{R:Int→List Int}(h:zm n roots R){x:Int}(hx:BI roots R x):1≤x∧x≤(n:Int):=by
 induction hx with
 |root x hx=>exact h.roots x hx
 |step x y _ hy ih=>exact h.refs x ih.1 ih.2 y hy
structure kg(roots:List Int)(R:Int→List Int)(G B:List Int):Prop where
 gr:gj G
 br:gj B
 apart:∀x∈G,x∉B
 reached:∀x,x∈G∨x∈B→BI roots R x
 all:∀x∈roots,x∈G∨x∈B
 closed:∀x∈B,∀y∈R x,y∈G∨y∈B
theorem kg.start(roots:List Int)(R:Int→List Int):kg roots R (dI [] [] roots) []:=by
 have hm:∀x,x∈dI [] [] roots↔x∈roots:=fun x=>by rw[uz];simp
 exact⟨ry _ _ _ List.Pairwise.nil,List.Pairwise.nil,fun x _ h=>(by cases h),fun x hx=> .root x ((hm x).1 (hx.resolve_right (fun h=>by cases h))),fun x hx=> .inl ((hm x).2 hx),fun x hx=>by cases hx⟩
section
variable {roots:List Int}{R:Int→List Int}{G B:List Int}
theorem kg.scan(h:kg roots R G B){id:Int}(hid:id∈G):kg roots R (dI (G.filter (·≠id)) (eH B id) (R id)) (eH B id):=by
 have hm:∀x,x∈dI (G.filter (·≠id)) (eH B id) (R id)↔(x∈G∧x≠id)∨(x∈R id∧¬(x=id∨x∈B)):=fun x=>by
  rw[uz,cY];simp
 have hp:∀x,x∈eH B id↔x=id∨x∈B:=fun x=>cY x id B
 have hr:=h.reached id (.inl hid)
 have old:∀x,x∈G∨x∈B→x∈dI (G.filter (·≠id)) (eH B id) (R id)∨x∈eH B id:=fun x hx=>by
  rw[hm,hp]
  by_cases hi:x=id
  ·exact .inr (.inl hi)
  ·rcases hx with hx|hx
   ·exact .inl (.inl ⟨hx,hi⟩)
   ·exact .inr (.inr hx)
 refine⟨ry _ _ _ (h.gr.erase id),iA id B h.br,fun x hx hb=> ?_,fun x hx=> ?_,fun x hx=>old x (h.all x hx),fun x hx y hy=> ?_⟩
 ·rw[hm]at hx
  rw[hp]at hb
  rcases hx with⟨h1,h2⟩|⟨_,h2⟩
  ·rcases hb with hb|hb
   ·exact h2 hb
   ·exact h.apart x h1 hb
  ·exact h2 hb
 ·rw[hm,hp]at hx
  rcases hx with(⟨h1,_⟩|⟨h1,_⟩)|rfl|h1
  ·exact h.reached x (.inl h1)
  ·exact .step id x hr h1
  ·exact hr
  ·exact h.reached x (.inr h1)
 ·rw[hp]at hx
  rcases hx with rfl|hx
  ·rw[hm,hp]
   by_cases hb:y=x∨y∈B
   ·exact .inr hb
   ·exact .inl (.inr ⟨hy,hb⟩)
  ·exact old y (h.closed x hx y hy)
theorem nH:∀(B:List Int)(id:Int),id∉B→(eH B id).length=B.length+1
 |[],id,_=>by simp[eH]
 |b::B,id,h=>by
  simp only[List.mem_cons,not_or]at h
  have:=nH B id h.2
  unfold eH
  repeat' split
  all_goals first|(simp;done)|(simp[this];done)|omega
theorem kg.short(h:kg roots R G B){n:Nat}(hc:zm n roots R):B.length≤n:=
 di n B h.br.nodup fun x hx=>hc.range (h.reached x (.inr hx))
theorem kg.done(h:kg roots R [] B){L:List Int}(hL:gj L)(hm:∀x,x∈L↔BI roots R x):B=L:=by
 refine qc h.br hL fun x=> ?_
 rw[hm]
 refine⟨fun hx=>h.reached x (.inr hx),fun hx=> ?_⟩
 induction hx with
 |root x hx=>exact(h.all x hx).resolve_left (by simp)
 |step x y _ hy ih=>exact(h.closed x ih y hy).resolve_left (by simp)
end
def cZ(p:List Int×List Int)(ids:List Int):List Int×List Int:=ids.foldl (fun p x=>if x∈p.1 then p else(p.1++[x],p.2++[x])) p
theorem xI {p:List Int×List Int}{ids:List Int}{k:Nat}{x:Int}(hx:ids[k]? =some x):cZ p (ids.take (k+1))=if x∈(cZ p (ids.take k)).1 then cZ p (ids.take k)else((cZ p (ids.take k)).1++[x],(cZ p (ids.take k)).2++[x]):=by
 unfold cZ
 rw[List.take_add_one,hx,List.foldl_append];rfl
theorem mV:∀(ids S wk:List Int),∃new,cZ (S,wk) ids=(S++new,wk++new)∧(∀x∈new,x∈ids∧x∉S)∧∀x∈ids,x∈S++new
 |[],S,wk=>⟨[],by simp[cZ],fun x h=>(by cases h),fun x h=>by cases h⟩
 |a::ids,S,wk=>by
  by_cases ha:a∈S
  ·obtain⟨new,h1,h2,h3⟩:=mV ids S wk
   refine⟨new,?_,fun x hx=>⟨List.mem_cons_of_mem _ (h2 x hx).1,(h2 x hx).2⟩,fun x hx=> ?_⟩
   ·rw[←h1];unfold cZ;rw[List.foldl_cons];simp[ha]
   ·rcases List.mem_cons.1 hx with rfl|hx
    ·exact List.mem_append_left _ ha
    ·exact h3 x hx
  ·obtain⟨new,h1,h2,h3⟩:=mV ids (S++[a]) (wk++[a])
   refine⟨a::new,?_,fun x hx=> ?_,fun x hx=> ?_⟩
   ·have e:cZ (S,wk) (a::ids)=cZ (S++[a],wk++[a]) ids:=by unfold cZ;rw[List.foldl_cons];simp[ha]
    rw[e,h1];simp
   ·rcases List.mem_cons.1 hx with rfl|hx
    ·exact⟨List.mem_cons_self,ha⟩
    ·exact⟨List.mem_cons_of_mem _ (h2 x hx).1,fun h=>(h2 x hx).2 (List.mem_append_left _ h)⟩
   ·rcases List.mem_cons.1 hx with rfl|hx
    ·simp
    ·have:=h3 x hx
     simp only[List.mem_append,List.mem_cons,List.not_mem_nil,or_false]at this⊢
     rcases this with(h|h)|h
     ·exact .inl h
     ·exact .inr (.inl h)
     ·exact .inr (.inr h)
structure l9(roots:List Int)(R:Int→List Int)(S wk:List Int):Prop where
 sub:∀x∈wk,x∈S
 reached:∀x∈S,BI roots R x
 all:∀x∈roots,x∈S
 closed:∀x∈S,x∈wk∨∀y∈R x,y∈S
theorem l9.start(roots:List Int)(R:Int→List Int):l9 roots R (cZ ([],[]) roots).1 (cZ ([],[]) roots).2:=by
 obtain⟨new,h1,h2,h3⟩:=mV roots [] []
 rw[h1]
 simp only[List.nil_append]at h3⊢
 exact⟨fun x h=>h,fun x h=> .root x (h2 x h).1,h3,fun x h=> .inl h⟩
section
variable {roots:List Int}{R:Int→List Int}{S wk:List Int}
theorem l9.step {id:Int}(h:l9 roots R S (wk++[id])):l9 roots R (cZ (S,wk) (R id)).1 (cZ (S,wk) (R id)).2:=by
 obtain⟨new,h1,h2,h3⟩:=mV (R id) S wk
 rw[h1]
 have hid:id∈S:=h.sub id (by simp)
 refine⟨fun x hx=> ?_,fun x hx=> ?_,fun x hx=>List.mem_append_left _ (h.all x hx),fun x hx=> ?_⟩
 ·rcases List.mem_append.1 hx with hx|hx
  ·exact List.mem_append_left _ (h.sub x (List.mem_append_left _ hx))
  ·exact List.mem_append_right _ hx
 ·rcases List.mem_append.1 hx with hx|hx
  ·exact h.reached x hx
  ·exact .step id x (h.reached id hid) (h2 x hx).1
 ·rcases List.mem_append.1 hx with hx|hx
  ·by_cases e:x=id
   ·subst e;exact .inr h3
   ·rcases h.closed x hx with hc|hc
    ·rcases List.mem_append.1 hc with hc|hc
     ·exact .inl (List.mem_append_left _ hc)
     ·simp at hc;exact absurd hc e
    ·exact .inr fun y hy=>List.mem_append_left _ (hc y hy)
  ·exact .inl (List.mem_append_right _ hx)
theorem l9.done(h:l9 roots R S []):∀x,x∈S↔BI roots R x:=by
 refine fun x=>⟨h.reached x,fun hx=> ?_⟩
 induction hx with
 |root x hx=>exact h.all x hx
 |step x y _ hy ih=>exact((h.closed x ih).resolve_left (by simp)) y hy
def mW(n:Nat)(S wk:List Int):Nat:=2*(n-S.length)+wk.length
theorem BJ {n:Nat}{id:Int}{S' F3:List Int}(he:cZ (S,wk) (R id)=(S',F3))(hS:S'.length≤n):mW n S' F3<mW n S (wk++[id]):=by
 obtain⟨new,h1,_,_⟩:=mV (R id) S wk
 rw[h1]at he
 cases he
 unfold mW
 simp only[List.length_append,List.length_cons,List.length_nil]at hS⊢
 omega
end
end Mk
end Go.Proofs.YtlkjnefenialbaaGreatDoor
