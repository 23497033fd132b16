/- What IndexFunc and each answer; no condition beyond each theorem's own. -/
import Derived.Test.YtlkjnefenialbaaGreatDoorM11
import Derived.Test.YtlkjnefenialbaaGreatDoorM14
import Derived.Test.YtlkjnefenialbaaGreatDoorM16
import Derived.LoopIn
import Derived.TacticsIn
import Derived.RegionIn
set_option linter.unusedVariables false
set_option linter.unusedSimpArgs false
set_option maxHeartbeats 8000000
set_option maxRecDepth 100000
namespace Go.Proofs.YtlkjnefenialbaaGreatDoor
open Go.RowKit Go.Shelf
section
attribute [local go_sem]Oper.semAt_some
theorem kG {M:Nat→Prop}{w:World}{v:Value}{l:List Int}(h:ae M w v l){i:Nat}{x:Int}(hx:l[i]? =some x):∃b off cap,v= .slice (some ⟨b,off,none⟩) l.length cap∧b<w.heap.size∧∀W,Below w.heap.size w W→W.cell? ⟨b,off+i,none⟩=some (.int .i64 x):=by
 obtain⟨a,cap,rfl,hl,_,hc⟩:=h.open_
 have hk:=(List.getElem?_eq_some_iff.1 hx).1
 obtain⟨b,off,rfl,_,hb,aC⟩:=hc (by omega)
 obtain⟨cs,rfl,bE⟩:=aC i _ hx
 refine⟨b,off,cap,rfl,hb,fun W hB=> ?_⟩
 have:=(hB.cell (p:=⟨b,off+i*1+0,none⟩) hb).trans (bE 0 _ rfl)
 simpa using this
theorem GN(gf:Nat)(lb:Array Value)(eg:∀args w,(callFunc gf args).run Tryz.prog w= .ok (.enter gf args) w)(l:List Int)(M:Nat→Prop)(v:Value)(w:World)(h:ae M w v l)
 (hf:∀x∈l,∀W,Below w.heap.size w W→Calls Tryz.prog gf (#[.int .i64 x]++lb) W fun e w'=>e= .returned (.bool false)∧Below W.heap.size W w'):
 Calls Tryz.prog 97 #[v, .func (.func gf) #[] lb] w fun e w'=>e= .returned (.int .i64 (-1))∧Below w.heap.size w w':=by
 have HC:Hid (∀(i:Nat)(x:Int),l[i]? =some x→_):=(show∀(i:Nat)(x:Int),_→_ from fun i x hx=>kG h hx)
 have HN:=hD hf
 obtain⟨a,bu,rfl,cq,po,_⟩:=h.open_
 clear h hf
 generalize hn:l.length=n at*
 have dZ:=hD hn;clear hn
 go_enter Tryz.func97,Tryz.ntmps97
 go_wp2_with fail
 go_loopg [5,8]n(fun g _ iv wr=>∃k:Nat,k≤n∧g=n-k∧iv= .int .i64 k∧Hid (Below w.heap.size w wr))
 case atStart=>exact⟨0,Nat.zero_le _,rfl,rfl,(show Below _ _ _ from Below.refl _ _)⟩
 case round=>
  obtain⟨i,hi,rfl,rfl,HB⟩:=hrel
  by_cases aT:i<n
  ·obtain⟨x,hx⟩:∃x,l[i]? =some x:=⟨_,List.getElem?_eq_getElem (by rw[dZ.out];exact aT)⟩
   obtain⟨b,off,cap,hv,hb,ao⟩:=HC.out i x hx
   obtain⟨rfl,rfl⟩:a=some ⟨b,off,none⟩∧bu=cap:=by simpa using hv
   have g0:=ao wr HB.out
   have oW:=hD (HN.out x (List.mem_of_getElem? hx) wr HB.out)
   clear hv ao hx
   go_wp2_with fail
   refine oW.out.mono ?_
   rintro e w1⟨rfl,aw⟩
   have aO:Hid (Below w.heap.size w w1):=HB.out.trans (aw.mono HB.out.size)
   clear aw
   go_wp2_with fail
   go_roundg(n-(i+1))
   case measure=>omega
   case rel=>exact⟨i+1,by omega,rfl,by go_num,aO⟩
  ·go_wp2_with fail
   go_ret
   exact⟨rfl,HB.out⟩
theorem lz(gf:Nat)(lb:Array Value)(eg:∀args w,(callFunc gf args).run Tryz.prog w= .ok (.enter gf args) w)(l:List Int)(M:Nat→Prop)(v:Value)(w:World)(h:ae M w v l)
 (hf:∀x∈l,∀W,Below w.heap.size w W→Calls Tryz.prog gf (#[.int .i64 x]++lb) W fun e w'=>e= .returned (.bool false)∧Below W.heap.size W w'):
 Calls Tryz.prog 70 #[v, .func (.func gf) #[] lb] w fun e w'=>e= .returned (.bool false)∧Below w.heap.size w w':=by
 have HI:=hD (GN gf lb eg l M v w h hf)
 clear h hf
 go_enter Tryz.func70,Tryz.ntmps70
 go_wp2_with fail
 refine HI.out.mono ?_
 rintro e w1⟨rfl,aw⟩
 have HB:=hD aw
 clear aw
 go_wp2_with fail
 go_ret
 exact⟨rfl,HB.out⟩
theorem wY(x:Int)(hx:0≤x)(w:World):Calls Tryz.prog 103 #[.int .i64 x] w fun e w'=>e= .returned (.bool false)∧Below w.heap.size w w':=by
 have h0:decide (x<0)=false:=by simp;omega
 go_enter Tryz.func103,Tryz.ntmps103
 go_wp2_with fail
 go_ret
 exact⟨by first|rfl|simp[h0],Below.refl _ _⟩
theorem JM {t:aJ}{many:Int}{v:au}(h:cX t many v)(hm:many≤100000){M:Nat→Prop}{w:World}(hM:Bd M w){u:Value}(hu:bI M w u v)(hT:Tb w):
 Calls Tryz.prog 74 #[u] w fun e w'=>e= .returned (.bool false)∧Below w.heap.size w w':=by
 have HR:Hid (∀W,Below w.heap.size w W→_):=(show∀W,_→_ from fun W hb=>AD h hm (hM.below hb) (hu.below hb) (hT.below hb))
 have HW:Hid (∀W,Below w.heap.size w W→_):=(show∀W,_→_ from fun W hb=>GL h hm (hM.below hb) (hu.below hb) (hT.below hb))
 have eg:∀args w,(callFunc 103 args).run Tryz.prog w= .ok (.enter 103 args) w:=enters_of Tryz.func103 (by kernel_rfl) rfl
 have n3:=oU h (j:=3) (.inl rfl)
 have n4:=oU h (j:=4) (.inr rfl)
 have HC3:Hid (∀W r,ae M W r (bT 3 v)→_):=(show∀W r,_→_ from fun W r hs=>lz 103 #[] eg _ M r W hs fun x hx W' _=>wY x (by have:=(n3 x hx).1;omega) W')
 have It:Hid (∀W r,ae M W r (bT 4 v)→_):=(show∀W r,_→_ from fun W r hs=>lz 103 #[] eg _ M r W hs fun x hx W' _=>wY x (by have:=(n4 x hx).1;omega) W')
 obtain⟨k,n,s,l⟩:=v
 obtain⟨a,cap,rfl,_⟩:=cj hu
 clear h hM hu hT n3 n4
 go_enter Tryz.func74,Tryz.ntmps74
 go_wp2_with fail
 refine(HR.out _ ((Below.refl _ _).alloc (Nat.le_refl _) _)).mono ?_
 rintro e w1⟨r1,rfl,dc,aw⟩
 obtain⟨x1,y1,rfl,_⟩:=dc.open_
 have gZ:=hD (boxed aw)
 have aO:=hD (aL aw)
 have pd:=hD dc
 clear aw dc
 go_wp2_with fail
 refine(HC3.out _ _ pd.out).mono ?_
 rintro e w2⟨rfl,aM⟩
 have jN:Hid (w2.heap[w.heap.size]? =_):=(show _=_ from(aM.block _ (Array.getElem?_eq_some_iff.1 gZ.out).1).trans gZ.out)
 have aA:Hid (Below w.heap.size w w2):=(show Below _ _ _ from aO.out.trans (aM.mono aO.out.size))
 obtain⟨c0,c1,c2,c3⟩:=ab jN.out
 clear aM
 go_wp2_with fail
 refine(HW.out _ aA.out).mono ?_
 rintro e w3⟨r2,rfl,nZ,bP⟩
 obtain⟨x2,y2,rfl,_⟩:=nZ.open_
 have bO:Hid (Below w.heap.size w w3):=(show Below _ _ _ from aA.out.trans (bP.mono aA.out.size))
 have jr:=hD nZ
 clear bP nZ
 go_wp2_with fail
 refine(It.out _ _ jr.out).mono ?_
 rintro e w4⟨rfl,eS⟩
 have fJ:Hid (Below w.heap.size w w4):=(show Below _ _ _ from bO.out.trans (eS.mono bO.out.size))
 clear eS
 go_wp2_with fail
 go_ret
 exact⟨by first|rfl|simp,fJ.out⟩
end
section
attribute [local go_sem]Oper.semAt_some
theorem GO {C:Nat→Prop}{w0 w A B:World}{k:Nat}(h:Below w0.heap.size w0 A)(ho:ag (RW C w k) A B)(hC:∀i,C i→w0.heap.size≤i)(hw:w0.heap.size≤w.heap.size):Below w0.heap.size w0 B:=
 ⟨ho.os.trans h.os,ho.tape.trans h.tape,ho.output.trans h.output,Nat.le_trans h.size ho.size,fun i hi=>(ho.block i (Nat.lt_of_lt_of_le hi h.size) (fun hS=>by
   rcases hS with hS|hS|hS
   ·have:=hC i hS;omega
   ·omega
   ·omega)).trans (h.block i hi)⟩
theorem Fv(a:Option Addr)(n c:Nat)(w:World):Calls Tryz.prog 53 #[.slice a n c] w fun e w'=>e= .returned (.func (.func 76) #[] #[.pointer (some ⟨w.heap.size,0,none⟩)])∧w.alloc (.cells #[.slice a n c] 54)=w':=by
 have Is:∀(fn:Fn)(first cap:Array Value)(w:World),(Instr.makeFunc fn first cap).run Tryz.prog w= .ok (.func fn first cap) w:=fun _ _ _ _=>rfl
 go_enter Tryz.func53,Tryz.ntmps53
 go_wp2_with fail
 go_ret
 exact⟨rfl,rfl⟩
def yK(M:Nat→Prop)(w0:World):Nat→Prop:=fun i=>M i∨w0.heap.size≤i
theorem M3 {M:Nat→Prop}{w0 A:World}(hb:Below w0.heap.size w0 A):Ev M w0 (yK M w0) A:=⟨ag.aj hb,fun _ hi=>hi⟩
def um(vs:List au)(N:Nat→Prop)(i:Nat)(args:Array Value)(j:Nat)(A:World):Prop:=j=i+1∧∃v u,vs[i]? =some v∧args= #[u]∧bI N A u v
theorem AJ(vs:List au)(M C:Nat→Prop)(p:Nat)(w0 w:World)(hw:Below w0.heap.size w0 w)(vv:Value)(dk:ae M w0 vv vs)(hp:w.heap[p]? =some (.cells #[vv] 54 (0,0)))(hC:∀i,C i→w0.heap.size≤i):
 Ds Tryz.prog 76 #[.pointer (some ⟨p,0,none⟩)] w C 0 0 (um vs (yK M w0)) (fun i=>i=vs.length):=by
 intro J Jx W hz hb hJ Pe hY h0
 have HJ:=hD hJ
 have HJX:=hD Pe
 have HY:=hD hY
 have CD:=hw.size
 have gy:p<w.heap.size:=(Array.getElem?_eq_some_iff.1 hp).1
 have YM:W.cell? ⟨p,0,none⟩=some vv:=one_cell ((hb.block p gy).trans hp)
 have lR:Hid (Below w0.heap.size w0 W∧w.heap.size+2≤W.heap.size):=(show _∧_ from⟨hw.trans (hb.mono CD),by omega⟩)
 have HC:Hid (∀(i:Nat)(k n:Int)(s:ByteArray)(ll:List au),vs[i]? =some (.mk k n s ll)→_):=(show∀(i:Nat)(k n:Int)(s:ByteArray)(ll:List au),_→_ from fun i k n s ll hx=>eL dk hx)
 have Us:=hD h0
 obtain⟨a,bu,rfl,cq,po,_⟩:=dk.open_
 clear hJ Pe hY h0 hp dk hb hw
 generalize hn:vs.length=n at*
 have dZ:=hD hn;clear hn
 refine callsIn_of_wp Tryz.func76 rfl trivial ?_ rfl
 simp only[Tryz.ntmps76,List.size_toArray,List.length_cons,List.length_nil,Nat.reduceAdd,Nat.reduceSub,Array.replicate_succ,Array.replicate_zero,List.push_toArray,List.append_toArray,List.nil_append,List.cons_append]
 gi_wp2_with fail
 gi_loopw [4,7](fun _ k wr=>∃i:Nat,k= .int .i64 i∧i≤n∧Hid (J i wr)∧Hid (Below w0.heap.size w0 wr∧w.heap.size+2≤wr.heap.size))(fun _ k _=>n-(intOf k).toNat)
 case atStart=>exact⟨0,rfl,Nat.zero_le _,Us,lR⟩
 case round=>
  obtain⟨i,rfl,hi,Pf,HB⟩:=hrel
  by_cases aT:i<n
  ·obtain⟨⟨xk,xn,xs,xl⟩,hx⟩:∃x,vs[i]? =some x:=⟨_,List.getElem?_eq_getElem (by rw[dZ.out];exact aT)⟩
   obtain⟨b,off,cap,a',c',hv,bZ,aU,iD,ao⟩:=HC.out i xk xn xs xl hx
   obtain⟨rfl,rfl⟩:a=some ⟨b,off,none⟩∧bu=cap:=by simpa using hv
   obtain⟨⟨g0,g1,g2,g3⟩,_⟩:=ao wr HB.out.1
   have HX:=hD hx
   have eM:=hD aU
   have sx:=hD iD
   clear hv ao hx aU iD
   have HO:∀o,Hid (Below wr.heap.size wr (wr.alloc o)):=fun o=>(show Below _ _ _ from(Below.refl _ _).alloc (Nat.le_refl _) o)
   have hyy:=HY.out i #[.agg #[.int .i64 xk, .int .i64 xn, .string xs, .slice a' xl.length c']] (i+1) (wr.alloc (fD xk xn xs (.slice a' xl.length c'))) (HJ.out i wr _ Pf.out (ag.aj (HO _).out)) ⟨rfl,_,_,HX.out,rfl,_,rfl,gK (eM.out.ev (M3 (HB.out.1.trans ((HO _).out.mono HB.out.1.size)))) sx.out⟩
   unfold fD at hyy
   obtain⟨fn,tmps,assign,body,hy,hR⟩:=hyy
   have HR:=hD hR
   clear hR
   gi_wp2_with fail
   refine⟨rfl,HR.out.mono ?_⟩
   rintro e W3(⟨rfl,Pg,zF⟩|⟨rfl,Ck⟩)
   ·have SD:=hD Pg
    have bO:Hid (Below w0.heap.size w0 W3∧w.heap.size+2≤W3.heap.size):=(show _∧_ from⟨GO (HB.out.1.trans ((HO _).out.mono HB.out.1.size)) zF hC CD,by have:=zF.size;have:=HB.out.2;simp at*;omega⟩)
    clear Pg zF hy
    gi_wp2_with fail
    go_roundw
    case rel=>exact⟨i+1,by go_num,by omega,SD,bO⟩
    case measure=>simp[intOf];omega
   ·have LD:=hD Ck
    clear Ck hy
    gi_wp2_with fail
    refine bodyPost_ret (results_none rfl _ _ _) rfl ?_
    exact⟨⟨_,rfl⟩, .inr LD.out⟩
  ·obtain rfl:i=n:=by omega
   gi_wp2_with fail
   refine bodyPost_end (results_none rfl _ _ _) rfl ?_
   exact⟨⟨_,rfl⟩, .inl ⟨i,rfl,Pf.out⟩⟩
end
end Go.Proofs.YtlkjnefenialbaaGreatDoor
