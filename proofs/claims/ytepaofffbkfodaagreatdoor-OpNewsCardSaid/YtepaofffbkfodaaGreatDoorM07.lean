/- A part; no condition. -/
import Derived.Test.YtepaofffbkfodaaGreatDoorM06
set_option linter.all false
set_option maxHeartbeats 8000000
set_option maxRecDepth 100000
namespace Go.Proofs.YtepaofffbkfodaaGreatDoor
open Tryz
open Go.RowKit
variable{W w W' wr wx w1 w':ax}{g B k cap K:Nat}{M:aV}{v fv c0 c1 c2 c3 a0 a1 a2 a3 cv:aA}{o2 o4 o o0 o1:Obj}{nm s s1 s2:aY}{t:TypeId}{c d:aI}{a:fx}{tk tf:Int}
def nz(M:aV)(w:ax)(hM:Bd M w)(x:tw)(fv:aA)(hs:ab M w fv x.ah)(hn:I6 x.ai):
 xG 50 #[.agg #[x.ai,fv]] w λv w'=>∃c,iZ c/\(0<x.ah.length->0<c.ah.length)/\cB M w' v c:=by
 have⟨i0,hi0,hz0,hz1,hz2⟩:=info_parts gu
 obtain⟨a,cj,rfl,cY,hm,hc⟩:=hs.aq
 have HC:=ag hc;clear hc;have HI:=ag hn;clear hn
 clear hs
 generalize hn:x.ah.length=n at*
 have HN:=ag hn;clear hn
 have hp:=cR x.ai 6 (by omega)
 go_enter func50,ntmps50
 go_wp2_with fail
 refine dw (fg _ _ _ HI.o (by omega) (by omega)) ?_
 obtain⟨W,hW⟩:∃W:ax,W=(((w.alloc (xK #[x.ai,xL a n cj] 138)).alloc (xK #["",()] 47)).alloc
  (xK #[xS ⟨#[97]⟩,xS ⟨#[98,50]⟩,xS ⟨#[110,97,109,101]⟩,xS ⟨#[110,101,120,116,95,111,110,101]⟩,xS ⟨#[107,105,100,115]⟩,xS ⟨#[120]⟩] 9)).alloc
  (xK #[xS ⟨#[110,111,100,101]⟩,xS ⟨#[105,116,101,109]⟩,xS ⟨#[117,115,101,114]⟩,xS ⟨#[112,97,103,101,95,49]⟩,xS ⟨#[108,101,97,102]⟩,xS ⟨#[113]⟩] 9):=⟨_,rfl⟩
 rw[<-hW]
 have⟨b0,b1,b2,b3,hz,hb⟩:=Tg hW
 clear hW
 have hz':w.heap.size+3<W:=by omega
 have hcn:bJ W [w,w,w] (aU x.ai 6) (xS (NB (aU x.ai 6))):=cell_of_heap b3 (Rr hp)
 have B0:=ag b0;clear b0;have B1:=ag b1;clear b1;have B2:=ag b2;clear b2;have HZ:=ag hz;clear hz;have HB:=ag hb;clear hb
 clear b3
 go_wp2_with fail
 have⟨nm,hnm⟩:=bY (NB (aU x.ai 6))
 rw[<-hnm]
 have qW:=ag (show nm∈lQ by rw[hnm];exact NC hp)
 clear hnm hcn
 have zC:Hd (∀i,(M i\/(w.heap.size<=i/\i<=W.heap.size))->i<W.heap.size+1):=λi h=>by rcases h with h|h;have:=hM i h;omega;omega
 go_loopg [5,6,7,8,9]6(λg iv _ _ _ _ wr=>∃(k:Nat)(jK:aA)(fs:List aH),k<=n/\k<=6/\g=6-k/\iv=xI k/\fs.length<=k/\Hd (gI fs/\(0<k->0<fs.length))/\Hd (aS (λi=>M i\/(w<=i/\i<=W)) [W] 60 wr jK fs)/\Hd (aC W wr)/\Hd (dk wr W (xK #[nm,jK] 47)))
 case atStart=>exact⟨0,(),[],Qbf _,by omega,rfl,rfl,bT,by {have h:gI []/\(0<0->0<([]:List aH).length):=⟨⟨λf h=>(by cases h),λj f h=>(by simp at h)⟩,λh=>absurd h (by omega)⟩;exact h},by exact(aS.nil _ _ _ _),by exact bU,by {have h:=Qbh W (xK #[nm,()] 47);exact h}⟩
 case round=>
  obtain⟨k,jK,fs,hk,hk6,rfl,rfl,hfs,HG,HA,HW,J4⟩:=hrel
  have hsz:W.heap.size<wr:=(Qaa.1 J4.o).1
  obtain⟨a',c',rfl,hc1,A7⟩:=HA.o.aq
  have⟨g0,g1⟩:=ak ((HW.o.block w (by omega)).trans B0.o)
  have⟨g2,g3⟩:=ak J4.o
  have bz:Hd (bW wr [w] (xK #["",()] 47)):=(HW.o.block [w] (by omega)).trans B1.o
  have⟨g4,g5⟩:=ak bz.o
  have⟨f4,f5⟩:=mu bz.o
  have⟨f2,f3⟩:=mu J4.o
  have pJ:Hd (∀W',W'=(wr.setCell ([w],0) nm).setCell ([w],1) (xL a' fs.length c')->(∃c,iZ c/\(0<k->0<c.ah.length)/\cB M W' (.agg #[nm,xL a' fs.length c']) c)/\aC w W'):=λW' hW'=>by
   refine⟨⟨⟨nm,fs⟩,HG.o.1.cL (by omega) qW.o,HG.o.2,_,rfl,_,rfl,((HA.o.slice zC.o).ev ?_),cM (ic nm qW.o).2⟩,?_⟩
   .rw[hW']
    exact((Ev.dL wr (λi h=> .inl h)).setCell (.inl (.inr ⟨by simp,by simp;omega⟩)) _).setCell (.inl (.inr ⟨by simp,by simp;omega⟩)) _
   .rw[hW']
    exact((HB.o.trans (HW.o.mono (by omega))).setCell (by simp) _).setCell (by simp) _
  by_cases bH:k<n
  .by_cases hl6:k<6
   .obtain⟨b,off,rfl,hMb,hbl,hcell⟩:=HC.o (by omega)
    have⟨r,hr⟩:=eG x.ah k (by rw[HN.o];exact bH)
    obtain⟨cs,⟨rfl,hr1,hr2,SG⟩,hcs⟩:=hcell k r hr
    have hcl:∀(j:Nat)(u:aA),[Value.int .i64 r.ai,xI r.an,xI r.of,xB r.indexed][j]? =some u->bJ wr b (off+k*4+j) u:=λj u hu=>(HW.o.cell (p:=⟨b,off+k*4+j,none⟩) (by show b<W;omega)).trans ((HB.o.cell (p:=⟨b,off+k*4+j,none⟩) hbl).trans (hcs j u hu))
    have q0:bJ wr b (off+k*4) r.ai:=hcl 0 _ rfl
    have q1:=hcl 1 _ rfl
    have q2:=hcl 2 _ rfl
    have q3:=hcl 3 _ rfl
    have sX:b≠w:=by omega
    have Vy:=cR r.ai 6 (by omega)
    have hpk:=cR r.an 5 (by omega)
    have Q1:=cR r.of 4 (by omega)
    have qcx:bJ wr [w,w] (aU r.ai 6) (xS (Ti (aU r.ai 6))):=cell_of_heap ((HW.o.block (↑w+2) (by omega)).trans B2.o) (Uu Vy)
    clear hcell hcs hcl hr
    have mZ:=ag hr1;clear hr1;have vI:=ag hr2;clear hr2;have XD:=ag SG;clear SG
    go_upto_region 7 with fail
    go_cut [7](λs7 wx=>s7=xP [wr]/\wx=((wr.alloc (xK #[r.ai,r.an,r.of,xB r.indexed] 198)).alloc (xK #[xS (Ti (aU r.ai 6)),xI (1+(aU r.an 5:Int)),xI 0,false] 60)).drew)
    case first=>
     have z1:(0:Int)<=(aU r.ai 6:Int):=Qba _
     have z2:(aU r.ai 6:Int)<6:=by omega
     have z3:IntKind.i64.wrap (1+(aU r.an 5:Int))=1+(aU r.an 5:Int):=Qbe _ (by omega)
     go_region_held3(λw'=>w'.cell? ([w,w],aU r.ai 6)=some (xS (Ti (aU r.ai 6)))/\w'.cell? (wr,0)=some (xI r.ai)/\w'.cell? (wr,1)=some (xI r.an))
      (first|go_keep)
      (first|(go_at_call 117;refine dw (fg _ _ _ (by first|exact mZ.o|exact vI.o) (by omega) (by omega)) ?_))
     all_goals(go_wp2_with fail;go_meet;exact⟨rfl,rfl⟩)
    case rest=>
     obtain⟨rfl,rfl⟩:=hcut
     have⟨f,hf⟩:=bY (rJ r)
     have MO:=ag (show bS f=true/\f.ai∈lZ by rw[hf];exact wL r)
     have HNO:Hd (idxOf (λg:aH=>cq g.ai f.ai) fs<0->∀W':ax,aC wr W'->xC 118 #[.agg #[nm,xL a' fs.length c'],f.ai] W' λe w'=>e=xR (.tuple #[xI 0,false])/\Below W' W' w'):=λh W' hb=>CZ _ _ W' fs nm f.ai ((HA.o.ae hb).slice zC.o) h
     have qcy:Hd (¬idxOf (λg:aH=>cq g.ai f.ai) fs<0->∀W':ax,aC wr W'->xC 118 #[.agg #[nm,xL a' fs.length c'],f.ai] W' λe w'=>e=xR (.tuple #[xI (idxOf (λg:aH=>cq g.ai f.ai) fs),true])/\Below W' W' w'):=λh W' hb=>Bm _ _ W' fs nm f.ai ((HA.o.ae hb).slice zC.o) h
     have HNZ:=ag (show f.ai=Ti (aU r.ai 6)by rw[hf];rfl)
     have v7:=ag (show f.type.an=1+(aU r.an 5:Int)by rw[hf];rfl)
     have HOZ:=ag (show f.type.of=if aU r.an 5=4 then 1+(aU r.of 4:Int)else 0 by rw[hf];rfl)
     have ZL:=ag (show f.indexed=(r.indexed&&decide (1+(aU r.an 5:Int)<=3))by rw[hf];rfl)
     clear hf qcx
     rw[<-HNZ.o]
     rw[<-v7.o]at ZL⊢
     go_upto_if 49 with fail
     go_cut [](λwx=>wx=((wr.alloc (xK #[r.ai,r.an,r.of,xB r.indexed] 198)).alloc (xK #[f.ai,f.type.an,f.type.of,false] 60)).drew)
     case first=>
      by_cases h4:aU r.an 5=4
      .have e5:(f.type.an==5)=true:=by rw[v7.o];simp;omega
       rw[if_pos h4]at HOZ
       clear h4
       go_wp2_with(go_at_call 117;refine dw (fg _ _ _ XD.o (by omega) (by omega)) ?_)
       go_meet
       rw[HOZ.o]
      .have e5:(f.type.an==5)=false:=by rw[v7.o];simp;omega
       rw[if_neg h4]at HOZ
       clear h4
       go_wp2
       go_meet
       rw[HOZ.o]
     case rest=>
      obtain rfl:=hcut
      go_upto_region 10 with fail
      go_cut [](λwx=>wx=((wr.alloc (xK #[r.ai,r.an,r.of,xB r.indexed] 198)).alloc (xK #[f.ai,f.type.an,f.type.of,xB f.indexed] 60)).drew)
      case first=>
       by_cases h3:f.type.an<=3
       .rw[decide_eq_true h3,Bool.and_true]at ZL
        cases TC:r.indexed
        all_goals
         have HIX:=ag TC;clear TC
         go_wp2
         go_meet
         rw[ZL.o,HIX.o]
       .rw[decide_eq_false h3,Bool.and_false]at ZL
        cases TC:r.indexed
        all_goals
         have HIX:=ag TC;clear TC
         go_wp2
         go_meet
         rw[ZL.o,HIX.o]
      case rest=>
       obtain rfl:=hcut
       by_cases hm:idxOf (λg:aH=>cq g.ai f.ai) fs<0
       .have HM:=ag hm;clear hm
        go_wp2_with fail
        refine cC (HNO.o HM.o _ (by exact(bU.alloc (by simp) _).drew)) λw1 hb1=> ?_
        have hs1:=hb1.size
        simp at hs1
        have FH:Hd (aC wr w1):=(bU.alloc (by simp) _).drew.trans (hb1.mono (by simp;omega))
        have jq:=ag ((hb1.block [wr] (by simp)).trans (jZ (w:=wr) rfl).2.1)
        have⟨p0,p1,p2,p3⟩:=af jq.o
        have yM:Hd (dk w1 W (xK #[nm,xL a' fs.length c'] 47)):=(FH.o.block W hsz).trans J4.o
        have⟨p4,p5⟩:=ak yM.o
        have Cn:=ag (HA.o.ae FH.o)
        have qcz:Hd (aC W w1):=HW.o.trans (FH.o.mono (by omega))
        clear hb1
        go_wp2_with(at_builtin
                    refine bo (α:=aH) rfl _ _ _ rfl _ _ 60 i0 _ 40 underlying45 hi0 hz0 hz1 hz2 rfl (by decide) _ fs rfl (Cn.o.alloc _) (λ_=>True) _ _ f rfl (cF _ _ _ _ rfl trivial) ?c1 ?c2 ?c3 ?c4 ?_
                    case c1=>exact⟨rfl,cM (rI _ MO.o.2).2⟩
                    case c2=>unfold maxLen;omega
                    case c3=>omega
                    case c4=>simp;omega
                    intro a2 c2 w2 bD dK bE
                    have J5:Hd (dk w2 W (xK #[nm,xL a' fs.length c'] 47)):=(bE.block W (by omega)).trans ((Qcb w1 _ W (by omega)).trans yM.o)
                    have⟨r4,r5⟩:=ak J5.o
                    have r6:=aj J5.o 1
                    have mz:=ag bD
                    have bg:Hd (aC W w2):=(qcz.o.alloc (by omega) _).trans (bE.mono (by omega))
                    clear bD dK bE)
        go_roundg(6-(k+1))
        case measure=>omega
        case rel=>
         refine⟨k+1,xL a2 (fs.length+1) c2,fs++[f],by omega,by omega,rfl,by go_num,by simp;omega,?_,?_,?_,?_⟩
         .exact(show gI (fs++[f])/\(0<k+1->0<(fs++[f]).length)from⟨HG.o.1.snoc MO.o.2 MO.o.1 (by have:=rj (λg:aH=>cq g.ai f.ai) fs;have:=HM.o;omega),λ_=>by simp⟩)
         .exact(show aS _ _ _ _ _ (fs++[f])from mz.o.rC (.inr ⟨by simp;omega,by simp⟩) (by simp) _)
         .exact(show aC W _ from bg.o.setCell bT _)
         .exact Qca w2 W 1 _ _ _ J5.o
       .have HM:=ag hm;clear hm
        go_wp2_with fail
        refine cC (qcy.o HM.o _ (by exact(bU.alloc (by simp) _).drew)) λw1 hb1=> ?_
        have FH:Hd (aC wr w1):=(bU.alloc (by simp) _).drew.trans (hb1.mono (by simp;omega))
        clear hb1
        go_wp2
        go_roundg(6-(k+1))
        case measure=>omega
        case rel=>exact⟨k+1,_,fs,by omega,by omega,rfl,by go_num,by omega,(show gI fs/\(0<k+1->0<fs.length)from⟨HG.o.1,λ_=>by have:=wh (λg:aH=>cq g.ai f.ai) fs;have:=HM.o;omega⟩),HA.o.ae FH.o,(HW.o.trans (FH.o.mono (by omega))),(FH.o.block W hsz).trans J4.o⟩
   .go_wp2_with fail
    refine Qae (v:= .agg #[nm,xL a' fs.length c']) (by simp[results,results50,go_sem,g4,g5]) rfl ⟨_,rfl,?_⟩
    have⟨⟨c,h1,h2,h3⟩,h4⟩:=pJ.o _ rfl
    exact⟨⟨c,h1,λh=>h2 (by omega),h3⟩,h4⟩
  .go_wp2_with fail
   refine Qae (v:= .agg #[nm,xL a' fs.length c']) (by simp[results,results50,go_sem,g4,g5]) rfl ⟨_,rfl,?_⟩
   have⟨⟨c,h1,h2,h3⟩,h4⟩:=pJ.o _ rfl
   exact⟨⟨c,h1,λh=>h2 (by omega),h3⟩,h4⟩
def qm(k:Nat):aY:=([⟨#[110,101,119,95,49]⟩,⟨#[109,111,114,101]⟩,⟨#[122,57]⟩,⟨#[97]⟩,⟨#[110,97,109,101]⟩,⟨#[107,105,100,115]⟩]:List aY).getD k ow
def Rw:∀k,k<6->(qm k).data.toList∈names9:=by
 intro k hk;rcases k with _|_|_|_|_|_|k;all_goals first|decide|omega
def NR {k:Nat}(hk:k<6):(#[xS ⟨#[110,101,119,95,49]⟩,xS ⟨#[109,111,114,101]⟩,xS ⟨#[122,57]⟩,xS ⟨#[97]⟩,xS ⟨#[110,97,109,101]⟩,xS ⟨#[107,105,100,115]⟩]:Array aA)[k]? =some (xS (qm k)):=by
 rcases k with _|_|_|_|_|_|k;all_goals first|rfl|omega
def wU:Obj:=xK #[xS ⟨#[110,101,119,95,49]⟩,xS ⟨#[109,111,114,101]⟩,xS ⟨#[122,57]⟩,xS ⟨#[97]⟩,xS ⟨#[110,97,109,101]⟩,xS ⟨#[107,105,100,115]⟩] 9
def wV(r:fM):Obj:=xK #[r.an,r.field,r.ai,r.more,r.type.an,r.type.of,r.cX,r.bZ] 195
def zX(t:br):Obj:=xK #[xI 0,t.an,t.of,false] 198
def Rx(t:br):Obj:=xK #[t.an,t.of] 49
def Jn:I6 0:=⟨by omega,by omega⟩
def Gk {t:br}(hM:Bd M w)(hk:I6 t.an)(ho:I6 t.of)(hg:bW W g (zX t))(hz:w<=g):ab M W (xL (g,0) 1 1) [(⟨0,t.an,t.of,false⟩:jF)]:=by
 refine⟨[[xI 0,xI t.an,xI t.of,xB false]],?_,rfl,?_⟩
 .refine⟨by simp[aD.size],some ⟨g,0,none⟩,1,rfl,bT,by unfold maxLen;omega,λ_=>⟨g,0,rfl,λh=>by have:=hM g h;omega,(Qaa.1 hg).1,?_⟩⟩;intro i u hu;simp only[List.flatten_cons,List.flatten_nil,List.append_nil]at hu;rcases i with _|_|_|_|i;all_goals first|(simp at hu;done)|(simp at hu;subst hu;simp[World.cell?,hg,zX])
 .intro i cs x hc hx;cases i with
  |zero=>simp at hc hx;subst hc hx;exact⟨rfl,⟨by show-9223372036854775808<=(0:Int);omega,by show(0:Int)<=9223372036854775807;omega⟩,hk,ho⟩
  |succ i=>simp at hc
def oQ {l:List aH}(h:ab M w v l){k:Nat}{x:aH}(hx:l[k]? =some x):∃b off cap,v=xL (b,off) l.length cap/\b<w.heap.size/\∀W,aC w W->bJ W b (off+k*4) x.ai/\bJ W b (off+k*4+1) x.type.an/\bJ W b (off+k*4+2) x.type.of/\bJ W b (off+k*4+3) (xB x.indexed):=by
 obtain⟨a,cap,rfl,hl,_,hc⟩:=h.aq;have hk:=(Qad.1 hx).1;obtain⟨b,off,rfl,_,hb,hcell⟩:=hc (by omega);obtain⟨cs,⟨rfl,_⟩,hcs⟩:=hcell k x hx;refine⟨b,off,cap,rfl,hb,λW hB=> ?_⟩;have g:∀j u,([xS x.ai,xI x.type.an,xI x.type.of,xB x.indexed]:List aA)[j]? =some u->bJ W b (off+k*4+j) u:=λj u hu=>(hB.cell (p:=⟨b,off+k*4+j,none⟩) hb).trans (hcs j u hu);exact⟨g 0 _ rfl,g 1 _ rfl,g 2 _ rfl,g 3 _ rfl⟩
def NS {c:aI}(h:iZ c){k:Nat}{f:aH}(hf:c.ah[k]? =some f):aR f.type=true:=by
 have:=h.1;have hm:=Qaf hf;simp only[aX,bS,Qce,List.all_eq_true]at this;grind
abbrev CgS(w:ax)(rk rn rm rx ro FI FJ:Int)(nm:aY)(fv:aA)(T:Nat)(w':ax):Prop:=w'.cell? (w,0)=some (xI rk)/\w'.cell? (w,2)=some (xI rn)/\w'.cell? (w,3)=some (xI rm)/\w'.cell? (w,6)=some (xI rx)/\w'.cell? (w,7)=some (xI ro)/\w'.cell? ([w,w,w],aU rn 6)=some (xS (qm (aU rn 6)))/\w'.cell? ([w,w,w],aU rm 6)=some (xS (qm (aU rm 6)))/\w'.cell? (T,0)=some (xI FI)/\w'.cell? (T,1)=some (xI FJ)/\w'.cell? ([w],0)=some (xS nm)/\w'.cell? ([w],1)=some fv
def cgS {W2:ax}{rk rf rn rm rx ro tk tf FI FJ:Int}{T:Nat}(h:Bx w [wV ⟨rk,rf,rn,rm,⟨tk,tf⟩,rx,ro⟩,cW nm fv,o2,wU,o4] W2)(hT:bW W2 T (Rx ⟨FI,FJ⟩))(hb:aC W2 W'):CgS w rk rn rm rx ro FI FJ nm fv T W':=by
 have h':=h.ae hb;have hT':=(hb.block T (Qaa.1 hT).1).trans hT;have⟨a0,a1,a2,a3,a4,a5,a6,a7⟩:=aB (h'.bO rfl);have⟨b0,b1⟩:=ak (h'.cg rfl);have⟨t0,t1⟩:=ak hT';exact⟨a0,a2,a3,a6,a7,cell_of_heap (h'.Bv rfl) (NR (cR _ _ (by omega))),cell_of_heap (h'.Bv rfl) (NR (cR _ _ (by omega))),t0,t1,b0,b1⟩
def oR(W2:ax)(c:aI)(x:aN)(K:Nat)(wx:ax):Prop:=
 wx.heap[K]? =some (sV x)/\ig c x.type x.cX/\ig c x.type x.bZ/\aC W2 wx/\W2<=K
def Ry {W2 w':ax}{K:Nat}(h:bW W K o/\W2<=K)(hb:aC W w'):w'.heap[K]? =some o/\W2<=K:=⟨(hb.block K (Qaa.1 h.1).1).trans h.1,h.2⟩
def Jo {W2 w':ax}(hj:aC W2 W)(hb:Below (W.alloc o).heap.size (W.alloc o) w'):w'.heap[W.heap.size]? =some o/\W2.heap.size<=W:=Ry (W2:=W2) ⟨Qbh W o,hj.size⟩ hb
def Jp {W2 w':ax}(hj:aC W2 W)(hb:Below (W.alloc o).drew.heap.size (W.alloc o).drew w'):w'.heap[W.heap.size]? =some o/\W2.heap.size<=W:=Ry (W2:=W2) (W:=(W.alloc o).drew) ⟨Qbh W o,hj.size⟩ hb
def UA {W2 w':ax}(hj:aC W2 W)(hb:aC W w'):aC W2 w':=hj.trans (hb.mono hj.size)
def trB {W2 w':ax}(hj:aC W2 W)(hb:Below W.drew.heap.size W.drew w'):aC W2 w':=hj.drew.trans (hb.mono hj.size)
def trC {W2 w':ax}(hj:aC W2 W)(hb:Below (W.alloc o).heap.size (W.alloc o) w'):aC W2 w':=UA (hj.alloc hj.size o) hb
def trD {W2 w':ax}(hj:aC W2 W)(hb:Below (W.alloc o).drew.heap.size (W.alloc o).drew w'):aC W2 w':=UA (hj.alloc hj.size o).drew hb
def jG {K:Nat}{c4 c5 c6 c7:aA}(h:bW W K (xK #[c0,c1,c2,c3,c4,c5,c6,c7] t))(a0 a1 a2 a3 a4 a5 a6 a7:aA):
 ((((((((W.setCell (K,0) a0).setCell (K,1) a1).setCell (K,2) a2).setCell (K,3) a3).setCell (K,4) a4).setCell (K,5) a5).setCell (K,6) a6).setCell (K,7) a7).heap[K]? =some (xK #[a0,a1,a2,a3,a4,a5,a6,a7] t):=by
 have h1:=Qca _ K 0 _ _ a0 h;have h2:=Qca _ K 1 _ _ a1 h1;have h3:=Qca _ K 2 _ _ a2 h2;have h4:=Qca _ K 3 _ _ a3 h3;have h5:=Qca _ K 4 _ _ a4 h4;have h6:=Qca _ K 5 _ _ a5 h5;have h7:=Qca _ K 6 _ _ a6 h6;have h8:=Qca _ K 7 _ _ a7 h7;simpa using h8
def fh {K:Nat}(h:Below B w W)(hK:B<=K){a4 a5 a6 a7:aA}:
 Below B w ((((((((W.setCell (K,0) a0).setCell (K,1) a1).setCell (K,2) a2).setCell (K,3) a3).setCell (K,4) a4).setCell (K,5) a5).setCell (K,6) a6).setCell (K,7) a7):=
 (((((((h.setCell hK _).setCell hK _).setCell hK _).setCell hK _).setCell hK _).setCell hK _).setCell hK _).setCell hK _
section
variable {W2 w':ax}{c:aI}{k:Int}{f n m:aY}{tk tf:Int}{s1 s2:aY}
def NT(h1:Hd (ig c ⟨tk,tf⟩ s1))(h2:Hd (ig c ⟨tk,tf⟩ s2))(hj:aC W2 w'):oR W2 c ⟨k,f,n,m,⟨tk,tf⟩,s1,s2⟩ w' (w'.alloc (xK #[k,f,n,m,tk,tf,s1,s2] 51)):=
 ⟨Qbh w' _,h1.o,h2.o,hj.alloc hj.size _,hj.size⟩
def UB {K:Nat}{x0 x1 x2 x3 x4 x5 x6 x7:aA}(h1:Hd (ig c ⟨tk,tf⟩ s1))(h2:Hd (ig c ⟨tk,tf⟩ s2))(hj:aC W2 w')(hk:w'.heap[K]? =some (xK #[x0,x1,x2,x3,x4,x5,x6,x7] 51)/\W2<=K):
 oR W2 c ⟨k,f,n,m,⟨tk,tf⟩,s1,s2⟩ K ((((((((w'.setCell (K,0) k).setCell (K,1) f).setCell (K,2) n).setCell (K,3) m).setCell (K,4) tk).setCell (K,5) tf).setCell (K,6) s1).setCell (K,7) s2):=
 ⟨jG hk.1 _ _ _ _ _ _ _ _,h1.o,h2.o,fh hj hk.2,hk.2⟩
end
def NU(c:aI)(v:aA)(_:ax):Prop:=∃(x:aN)(ok:Bool),jc c x/\jo c x=ok/\v= .tuple #[.agg #[x.an,x.field,x.ai,x.more,x.type.an,x.type.of,x.cX,x.bZ],ok]
def Gl(W2:ax)(c:aI)(x:aN)(K:Nat)(wx:ax):Prop:=wx.heap[K]? =some (sV x)/\jc c x/\aC W2 wx
def Bw:∀s∈names9,aM (bL s)=true:=by decide
def pT {k:Nat}(h:k<6):aM (qm k)=true/\(qm k).data.toList∈names9/\(qm k).size<=maxLen:=by
 have h1:=Rw k h;have h2:=Bw _ h1;rw[Jj]at h2;exact⟨h2,h1,cM (wQ h1)⟩
def eC(c:aI)(t:br):oO c t ():= .inl rfl
def vS {c:aI}(hc:cN c){t:br}(h:ig c t s):oO c t s:=by
 by_cases hs:s.data.toList=[]
 .exact .inl hs
 .exact .inr (C6 hc.right hc.names h hs)
def C8 {W2 wx:ax}{c:aI}{k:Int}{f n m:aY}{t:br}{s1 s2:aY}{K:Nat}(h:oR W2 c ⟨k,f,n,m,t,s1,s2⟩ K wx)(g:aY):oR W2 c ⟨k,g,n,m,t,s1,s2⟩ K (wx.drew.setCell (K,1) g):=by
 obtain⟨h1,h2,h3,h4,h5⟩:=h;refine⟨?_,h2,h3,h4.drew.setCell h5 _,h5⟩;have:=Qca wx.drew K 1 _ _ g h1;simpa [sV]using this
def KI {W2 wx:ax}{c:aI}{k:Int}{f n m:aY}{t:br}{s1 s2:aY}{K:Nat}(h:oR W2 c ⟨k,f,n,m,t,s1,s2⟩ K wx)(g:aY):oR W2 c ⟨k,g,n,m,t,s1,s2⟩ K (wx.setCell (K,1) g).drew:=C8 h g
def rM:(():aY).size<=maxLen:=by unfold maxLen;decide
abbrev Yr(w:ax)(K:Nat)(a b c d e f g h:aA):ax:=(((((((w.setCell (K,0) a).setCell (K,1) b).setCell (K,2) c).setCell (K,3) d).setCell (K,4) e).setCell (K,5) f).setCell (K,6) g).setCell (K,7) h
section
variable {W2 wx:ax}{c:aI}{p:Int}{fn:aY}{i j:Nat}{tk tf:Int}{s1 s2:aY}{K:Nat}
def cg1(h:oR W2 c ⟨p,fn,qm i,qm j,⟨tk,tf⟩,s1,s2⟩ K wx)(hc:cN c)(hf:fn.size<=20)(ht:aR ⟨tk,tf⟩=true)(hi:i<6)(hj:j<6):Gl W2 c ⟨1,(),qm i,(),⟨tk,tf⟩,s1,()⟩ K (Yr wx K (xI 1) "" (qm i) "" tk tf s1 ""):=by
 obtain⟨h1,h2,h3,h4,h5⟩:=h;have t1:=vS hc h2;have⟨n1,n2,n3⟩:=pT hi;exact⟨jG h1 _ _ _ _ _ _ _ _,⟨⟨.inl ⟨rfl,rfl,rfl,rfl⟩,λ_=>n1,λh=>by simp at h,λ_=>ht,t1.nV,(eC _ _).nV,rM,n3,rM⟩,t1,eC _ _,λ_=>n2,λh=>by simp at h⟩,fh h4 h5⟩
def cg2(h:oR W2 c ⟨p,fn,qm i,qm j,⟨tk,tf⟩,s1,s2⟩ K wx)(hc:cN c)(hf:fn.size<=20)(ht:aR ⟨tk,tf⟩=true)(hi:i<6)(hj:j<6):Gl W2 c ⟨2,fn,(),(),⟨0,0⟩,(),()⟩ K (Yr wx K (xI 2) fn "" "" (xI 0) (xI 0) "" ""):=by
 obtain⟨h1,h2,h3,h4,h5⟩:=h;exact⟨jG h1 _ _ _ _ _ _ _ _,⟨⟨.inr (.inl ⟨rfl,rfl,rfl,rfl,rfl,rfl⟩),λh=>by simp at h,λh=>by simp at h,λh=>by simp at h,(eC _ _).nV,(eC _ _).nV,cM hf,rM,rM⟩,eC _ _,eC _ _,λh=>by simp at h,λh=>by simp at h⟩,fh h4 h5⟩
def cg6(h:oR W2 c ⟨p,fn,qm i,qm j,⟨tk,tf⟩,s1,s2⟩ K wx)(hc:cN c)(hf:fn.size<=20)(ht:aR ⟨tk,tf⟩=true)(hi:i<6)(hj:j<6):Gl W2 c ⟨6,fn,(),(),⟨0,0⟩,(),()⟩ K (Yr wx K (xI 6) fn "" "" (xI 0) (xI 0) "" ""):=by
 obtain⟨h1,h2,h3,h4,h5⟩:=h;exact⟨jG h1 _ _ _ _ _ _ _ _,⟨⟨.inr (.inr (.inr (.inr (.inr ⟨rfl,rfl,rfl,rfl,rfl,rfl⟩)))),λh=>by simp at h,λh=>by simp at h,λh=>by simp at h,(eC _ _).nV,(eC _ _).nV,cM hf,rM,rM⟩,eC _ _,eC _ _,λh=>by simp at h,λh=>by simp at h⟩,fh h4 h5⟩
def cg3(h:oR W2 c ⟨p,fn,qm i,qm j,⟨tk,tf⟩,s1,s2⟩ K wx)(hc:cN c)(hf:fn.size<=20)(ht:aR ⟨tk,tf⟩=true)(hi:i<6)(hj:j<6):Gl W2 c ⟨3,fn,qm i,(),⟨0,0⟩,(),()⟩ K (Yr wx K (xI 3) fn (qm i) "" (xI 0) (xI 0) "" ""):=by
 obtain⟨h1,h2,h3,h4,h5⟩:=h;have⟨n1,n2,n3⟩:=pT hi;exact⟨jG h1 _ _ _ _ _ _ _ _,⟨⟨.inr (.inr (.inl ⟨rfl,rfl,rfl,rfl,rfl⟩)),λ_=>n1,λh=>by simp at h,λh=>by simp at h,(eC _ _).nV,(eC _ _).nV,cM hf,n3,rM⟩,eC _ _,eC _ _,λ_=>n2,λh=>by simp at h⟩,fh h4 h5⟩
def cg4(h:oR W2 c ⟨p,fn,qm i,qm j,⟨tk,tf⟩,s1,s2⟩ K wx)(hc:cN c)(hf:fn.size<=20)(ht:aR ⟨tk,tf⟩=true)(hi:i<6)(hj:j<6):Gl W2 c ⟨4,fn,(),(),⟨tk,tf⟩,s1,()⟩ K (Yr wx K (xI 4) fn "" "" tk tf s1 ""):=by
 obtain⟨h1,h2,h3,h4,h5⟩:=h;have t1:=vS hc h2;exact⟨jG h1 _ _ _ _ _ _ _ _,⟨⟨.inr (.inr (.inr (.inl ⟨rfl,rfl,rfl,rfl⟩))),λh=>by simp at h,λh=>by simp at h,λ_=>ht,t1.nV,(eC _ _).nV,cM hf,rM,rM⟩,t1,eC _ _,λh=>by simp at h,λh=>by simp at h⟩,fh h4 h5⟩
def cg5(h:oR W2 c ⟨5,fn,qm i,qm j,⟨tk,tf⟩,s1,s2⟩ K wx)(hc:cN c)(hf:fn.size<=20)(ht:aR ⟨tk,tf⟩=true)(hi:i<6)(hj:j<6):Gl W2 c ⟨5,fn,qm i,qm j,⟨tk,tf⟩,s1,s2⟩ K wx:=by
 obtain⟨h1,h2,h3,h4,h5⟩:=h;have t1:=vS hc h2;have t2:=vS hc h3;have⟨n1,n2,n3⟩:=pT hi;have⟨m1,m2,m3⟩:=pT hj;exact⟨h1,⟨⟨.inr (.inr (.inr (.inr (.inl rfl)))),λ_=>n1,λ_=>m1,λ_=>ht,t1.nV,t2.nV,cM hf,n3,m3⟩,t1,t2,λ_=>n2,λ_=>m2⟩,h4⟩
end
set_option maxHeartbeats 40000000 in
theorem C9(r:fM)(hr:I6 r.an/\I6 r.field/\I6 r.ai/\I6 r.more/\I6 r.type.an/\I6 r.type.of/\I6 r.cX/\I6 r.bZ)(c:aI)(hc:cN c)(M:Nat->Prop)(w:World)(hM:Bd M w)(fv:Value)(hfs:ab M w fv c.ah)(VO:c.ah.length<=8)(hnm:∀f∈c.ah,f.ai.size<=20):
 xG 115 #[.agg #[r.an,r.field,r.ai,r.more,r.type.an,r.type.of,r.cX,r.bZ], .agg #[c.ai,fv]] w (NU c):=by
 have iD:=ag hfs;obtain⟨fa,fc,rfl,hlc,MD,_⟩:=hfs.aq;obtain⟨g0,g1,g2,g3,g4,g5,g6,g7⟩:=hr;have HG0:=ag g0;clear g0;have MM:=ag g1;clear g1;have SD:=ag g2;clear g2;have VW:=ag g3;clear g3;have HG4:=ag g4;clear g4;have XE:=ag g5;clear g5;have HG6:=ag g6;clear g6;have HG7:=ag g7;clear g7;clear hfs;obtain⟨nm,fs⟩:=c;obtain⟨rk,rf,rn,rm,⟨tk,tf⟩,rx,ro⟩:=r;dsimp only at*;go_enter func115,ntmps115;go_wp2_with fail;have⟨W,hW⟩:=bY (((((w.alloc (wV ⟨rk,rf,rn,rm,⟨tk,tf⟩,rx,ro⟩)).alloc (cW nm (xL fa fs.length fc))).alloc (sV ⟨0,(),(),(),⟨0,0⟩,(),()⟩)).alloc wU).alloc (zX ⟨tk,tf⟩));have HB:=ag (show Bx w [wV ⟨rk,rf,rn,rm,⟨tk,tf⟩,rx,ro⟩,cW nm (xL fa fs.length fc),sV ⟨0,(),(),(),⟨0,0⟩,(),()⟩,wU,zX ⟨tk,tf⟩] W by rw[hW];exact Bx.NQ w _ _ _ _ _);unfold wV cW sV wU zX at hW;rw[<-hW];clear hW;have hsz:=HB.o.bQ;simp only[Qcc,Qcd]at hsz;refine(nz M W (hM.ae HB.o.1) ⟨0,[⟨0,tk,tf,false⟩]⟩ _ (Gk hM HG4.o XE.o (HB.o.Xn rfl) (by omega)) (Jn)).mono ?_;rintro e w1⟨_,rfl,⟨d,hgd,XF,⟨_,rfl,⟨dv,rfl,hdf,_⟩⟩⟩,hb1⟩;have⟨t,ht⟩:=eG d.ah 0 (XF (by show 0<1;omega));have⟨b,off,cap,hdv,hbl,hcells⟩:=oQ hdf ht;subst hdv;have HT:Hd (aR t.type=true):=NS hgd ht;have⟨d0,d1,d2,d3⟩:=hcells w1 dS;have hdl:=XF (by show 0<1;omega);have bz:=ag (HB.o.ae hb1);clear hcells hgd XF hdf hb1 HB;obtain⟨⟨tn,⟨FI,FJ⟩,ti⟩,CF⟩:∃t',t'=t:=⟨t,rfl⟩;subst CF;dsimp only at*;simp only[Nat.zero_mul,Nat.add_zero]at d0 d1 d2 d3;have hfd:∀(s:ByteArray)(a:Option Addr)(n cap:Nat)(w:World),(Instr.field 47 (.agg #[s,xL a n cap]) 1).run prog w= .ok (xL a n cap) w:=λ_ _ _ _ _=>by kernel_rfl
 go_upto_region 3 with fail;have⟨W2,hW2⟩:=bY (w1.alloc (Rx ⟨FI,FJ⟩));have bg:=ag (show Bx w [wV ⟨rk,rf,rn,rm,⟨tk,tf⟩,rx,ro⟩,cW nm (xL fa fs.length fc),sV ⟨0,(),(),(),⟨0,0⟩,(),()⟩,wU,zX ⟨tk,tf⟩] W2 by rw[hW2];exact bz.o.alloc _);have Qa:=ag (show W2.heap[w1.heap.size]? =some (Rx ⟨FI,FJ⟩)by rw[hW2];exact Qbh w1 _);have hT2:w1.heap.size<W2:=(Qaa.1 Qa.o).1;have hs2:=bg.o.bQ;simp only[Qcc,Qcd]at hs2;unfold Rx at hW2;rw[<-hW2];clear hW2 d0 d1 d2 d3 bz;generalize w1.heap.size=T at*;have HS:Hd (∀W',aC W2 W'->CgS w rk rn rm rx ro FI FJ nm (xL fa fs.length fc) T W'):=λW' hb=>cgS bg.o Qa.o hb;have TH:Hd (∀W n,aC W2 W->I6 n->xC 179 #[xI n, .agg #[FI,FJ], .agg #[nm,xL fa fs.length fc]] W (cm W λv _=>∃s,v=xS s/\ig ⟨nm,fs⟩ ⟨FI,FJ⟩ s)):=λW n hb hn=>Gb M W ⟨nm,fs⟩ _ n ⟨FI,FJ⟩ ((iD.o.ae bg.o.1).ae hb) VO hn HT.o hnm;have HJ:Hd (aC W2 W2):=dS;have hp0:=cR rk 6 (by omega);have hp1:=cR rn 6 (by omega);have A8:=cR rm 6 (by omega);go_cut [8](λs8 wx=>∃(K:Nat)(s1 s2:ByteArray),s8=xP K/\Hd (oR W2 ⟨nm,fs⟩ ⟨1+(aU rk 6:Int),(),qm (aU rn 6),qm (aU rm 6),⟨FI,FJ⟩,s1,s2⟩ K wx));case first=>
  have z1:(0:Int)<=(aU rn 6:Int):=Qba _;have z2:(aU rn 6:Int)<6:=by omega
  have z3:(0:Int)<=(aU rm 6:Int):=Qba _;have z4:(aU rm 6:Int)<6:=by omega
  have z5:IntKind.i64.wrap (1+(aU rk 6:Int))=1+(aU rk 6:Int):=Qbe _ (by omega);have⟨c0,c1,c2,c3,c4,c5,c6,c7,c8,c9,c10⟩:=HS.o W2 dS;go_region_held3(λw'=>w'.cell? (w,0)=some (xI rk)/\w'.cell? (w,2)=some (xI rn)/\w'.cell? (w,3)=some (xI rm)/\w'.cell? (w,6)=some (xI rx)/\w'.cell? (w,7)=some (xI ro)/\w'.cell? ([w,w,w],aU rn 6)=some (xS (qm (aU rn 6)))/\w'.cell? ([w,w,w],aU rm 6)=some (xS (qm (aU rm 6)))/\w'.cell? (T,0)=some (xI FI)/\w'.cell? (T,1)=some (xI FJ)/\w'.cell? ([w],0)=some (xS nm)/\w'.cell? ([w],1)=some (xL fa fs.length fc))
   (with_reducible first|exact HS.o _ HJ.o|exact HS.o _ HJ.o.drew|exact HS.o _ (HJ.o.alloc HJ.o.size _)|exact HS.o _ ((HJ.o.alloc HJ.o.size _).drew)|exact HS.o _ fI.o|exact HS.o _ fI.o.drew|exact HS.o _ (fI.o.alloc fI.o.size _)|exact HS.o _ ((fI.o.alloc fI.o.size _).drew)|exact HS.o _ dP.o|exact HS.o _ dP.o.drew|exact HS.o _ (dP.o.alloc dP.o.size _)|exact HS.o _ ((dP.o.alloc dP.o.size _).drew)|exact HS.o _ (fh dP.o nf.o.2))
   (first
     |(go_at_call 178;refine(iH _ _ _ (by first|exact HG0.o|exact SD.o|exact VW.o) (by omega) (by omega)).mono ?_;rintro e w'⟨rfl,rfl⟩)
     |(go_at_call 179;with_reducible refine(TH.o _ rx (by with_reducible first|exact HJ.o|exact HJ.o.drew|exact HJ.o.alloc HJ.o.size _|exact(HJ.o.alloc HJ.o.size _).drew) HG6.o).mono ?_
       rintro e wa⟨_,rfl,⟨s1,rfl,hs1⟩,hb⟩;have HXa:=ag hs1;clear hs1;try(with_reducible(have Ct:=ag (Jo HJ.o hb)))
       try(with_reducible(have Ct:=ag (Jp HJ.o hb)))
       have fI:Hd (aC W2 wa):=(by with_reducible first|exact ag (UA HJ.o hb)|exact ag (trB HJ.o hb)|exact ag (trC HJ.o hb)|exact ag (trD HJ.o hb));clear hb)
     |(go_at_call 179;with_reducible refine(TH.o _ ro (by with_reducible first|exact fI.o|exact fI.o.drew|exact fI.o.alloc fI.o.size _|exact(fI.o.alloc fI.o.size _).drew) HG7.o).mono ?_
       rintro e wb⟨_,rfl,⟨s2,rfl,hs1⟩,hb⟩;have HXb:=ag hs1;clear hs1;try(with_reducible(have nf:=ag (Ry Ct.o hb)))
       try(with_reducible(have nf:=ag (Jo fI.o hb)))
       try(with_reducible(have nf:=ag (Jp fI.o hb)))
       try with_reducible have k0:=(aB nf.o.1).1
       try with_reducible have k1:=(aB nf.o.1).2.1
       try with_reducible have k2:=(aB nf.o.1).2.2.1
       try with_reducible have k3:=(aB nf.o.1).2.2.2.1
       try with_reducible have k4:=(aB nf.o.1).2.2.2.2.1
       try with_reducible have k5:=(aB nf.o.1).2.2.2.2.2.1
       try with_reducible have k6:=(aB nf.o.1).2.2.2.2.2.2.1
       try with_reducible have k7:=(aB nf.o.1).2.2.2.2.2.2.2
       try with_reducible have y0:=aj nf.o.1 0
       try with_reducible have y1:=aj nf.o.1 1
       try with_reducible have y2:=aj nf.o.1 2
       try with_reducible have y3:=aj nf.o.1 3
       try with_reducible have y4:=aj nf.o.1 4
       try with_reducible have y5:=aj nf.o.1 5
       try with_reducible have y6:=aj nf.o.1 6
       try with_reducible have y7:=aj nf.o.1 7
       have dP:Hd (aC W2 wb):=(by with_reducible first|exact ag (UA fI.o hb)|exact ag (trB fI.o hb)|exact ag (trC fI.o hb)|exact ag (trD fI.o hb));clear hb));all_goals(go_wp2;go_meet)
  .refine⟨_,s1,s2,rfl,?_⟩;exact ag (NT HXa HXb dP.o)
  all_goals
   refine⟨_,s1,s2,rfl,?_⟩;exact ag (UB HXa HXb dP.o nf.o)
 case rest=>
  obtain⟨K,s1,s2,rfl,HC⟩:=hcut;have⟨wx,hwx⟩:=bY (wc);subst hwx;have HKW:Hd (∀W',aC wx W'->CgS w rk rn rm rx ro FI FJ nm (xL fa fs.length fc) T W'):=λW' hb=>HS.o W' (UA HC.o.2.2.2.1 hb);have⟨c0,c1,c2,c3,c4,c5,c6,c7,c8,c9,c10⟩:=HKW.o wx dS;have⟨k0,k1,k2,k3,k4,k5,k6,k7⟩:=aB HC.o.1;have y1:=aj HC.o.1 1;have hr1:=(aB ((bg.o.dG HC.o.2.2.2.1 (by have:=bg.o.bQ;exact this)).bO rfl)).2.1;go_upto_if 55 with fail;go_cut [](λwy=>∃fn:ByteArray,Hd (fn.size<=20/\oR W2 ⟨nm,fs⟩ ⟨1+(aU rk 6:Int),fn,qm (aU rn 6),qm (aU rm 6),⟨FI,FJ⟩,s1,s2⟩ K wy));case first=>
   by_cases h0:0<fs.length
   .have hpf:=cR rf fs.length h0;have⟨f,hf⟩:=eG fs (aU rf fs.length) hpf;have⟨bf,of,cf,hfv,hbf,hfc⟩:=oQ iD.o hf;obtain⟨rfl,rfl⟩:=iY hfv;have q0:=(hfc wx (bg.o.1.trans (HC.o.2.2.2.1.mono (by omega)))).1;have A9:Hd (f.ai.size<=20):=hnm f (Qaf hf);have J6:Hd (∀W,xC 178 #[rf,xI (fs.length:Int)] W (jt (xI (aU rf fs.length:Int)) W)):=λW=>by
     have h:=iH rf (fs.length:Int) W MM.o (by omega) (by omega);simpa using h
    clear hf hfv hfc;have z1:(0:Int)<=(aU rf fs.length:Int):=Qba _;have z2:(aU rf fs.length:Int)<(fs.length:Int):=by omega
    have hKW:=HC.o.2.2.2.2;have nK1:w≠K:=by omega
    have nK2:w.heap.size+1≠K:=by omega
    have nK3:bf≠K:=by omega
    go_wp2_with fail;go_region_law(first
     |(go_simp;go_at_call 178;refine(J6.o _).mono ?_;rintro e w'⟨rfl,rfl⟩));all_goals(go_wp2;go_meet)
    all_goals exact⟨f.ai,(show _/\oR _ _ _ _ _ from⟨A9.o,by first|exact C8 HC.o f.ai|exact KI HC.o f.ai⟩)⟩
   .go_wp2;go_meet;exact⟨⟨#[]⟩,(show _/\oR _ _ _ _ _ from⟨by decide,HC.o⟩)⟩
  case rest=>
   obtain⟨fn,HF⟩:=hcut;have⟨wy,hwy⟩:=bY (wc);subst hwy;clear c0 c1 c2 c3 c4 c5 c6 c7 c8 c9 c10 k0 k1 k2 k3 k4 k5 k6 k7 y1 hr1 HKW HC;have HC:Hd (oR W2 ⟨nm,fs⟩ ⟨1+(aU rk 6:Int),fn,qm (aU rn 6),qm (aU rm 6),⟨FI,FJ⟩,s1,s2⟩ K wy):=HF.o.2;have A9:Hd (fn.size<=20):=HF.o.1;have HX:Hd (cN ⟨nm,fs⟩):=hc;have⟨c0,c1,c2,c3,c4,c5,c6,c7,c8,c9,c10⟩:=HS.o wy HC.o.2.2.2.1;have hq:1<=1+(aU rk 6:Int)/\1+(aU rk 6:Int)<=6:=by omega
   generalize 1+(aU rk 6:Int)=p at*;obtain⟨hq1,TR⟩:=hq;have⟨k0,k1,k2,k3,k4,k5,k6,k7⟩:=aB HC.o.1;go_upto_block 0 with fail;go_cut [](λwz=>∃x:aN,Hd (Gl W2 ⟨nm,fs⟩ x K wz));case rest=>
    obtain⟨x,HD⟩:=hcut;have⟨W6,hW6⟩:=bY (wc);subst hW6;clear c0 c1 c2 c3 c4 c5 c6 c7 c8 c9 c10 k0 k1 k2 k3 k4 k5 k6 k7 HC HF;obtain⟨⟨xk,xf,xn,xm,⟨xt,xo⟩,xe,xz⟩,hx⟩:∃y,y=x:=⟨x,rfl⟩;subst hx;have⟨m0,m1,m2,m3,m4,m5,m6,m7⟩:=aB HD.o.1;have⟨c0,c1,c2,c3,c4,c5,c6,c7,c8,c9,c10⟩:=HS.o W6 HD.o.2.2;have cI:=ag (bg.o.dG HD.o.2.2 (by have:=bg.o.bQ;exact this));have⟨b,hb⟩:=jN (jo ⟨nm,fs⟩ ⟨xk,xf,xn,xm,⟨xt,xo⟩,xe,xz⟩);have ML:=ag (uF ⟨nm,fs⟩ ⟨xk,xf,xn,xm,⟨xt,xo⟩,xe,xz⟩ HD.o.2.1.pre HX.o.right (cM HX.o.small) b hb M W6.drew (hM.ae (w':=W6) cI.o.1) (xL fa fs.length fc) ((iD.o.ae cI.o.1).ev ((Ev.refl _ _).drew)));have CG:=ag hb;clear hb;clear c0 c1 c2 c3 c4 c5 c6 c7 c8;have HSD:Hd (∀W',Below W6.drew.heap.size W6.drew W'->(W'.cell? (K,0)=some (xI xk)/\W'.cell? (K,1)=some (xS xf)/\W'.cell? (K,2)=some (xS xn)/\W'.cell? (K,3)=some (xS xm)/\W'.cell? (K,4)=some (xI xt)/\W'.cell? (K,5)=some (xI xo)/\W'.cell? (K,6)=some (xS xe)/\W'.cell? (K,7)=some (xS xz)/\W'.cell? ([w],0)=some (xS nm)/\W'.cell? ([w],1)=some (xL fa fs.length fc))):=λW' hb=>by
     have hk:=(hb.block K (Qaa.1 HD.o.1).1).trans HD.o.1;have⟨m0,m1,m2,m3,m4,m5,m6,m7⟩:=aB hk;have⟨r0,r1⟩:=ak ((cI.o.drew.ae hb).cg rfl);exact⟨m0,m1,m2,m3,m4,m5,m6,m7,r0,r1⟩
    go_upto_region 15 with fail;go_region_law(first
     |(go_simp;go_at_call 180;refine ML.o.mono ?_;rintro e w7⟨rfl,XG⟩;have mA:=ag (cI.o.drew.ae XG);have FK:=ag (HSD.o w7 XG);have t0:=FK.o.1;have t1:=FK.o.2.1;have t2:=FK.o.2.2.1;have t3:=FK.o.2.2.2.1;have t4:=FK.o.2.2.2.2.1;have t5:=FK.o.2.2.2.2.2.1;have t6:=FK.o.2.2.2.2.2.2.1;have t7:=FK.o.2.2.2.2.2.2.2.1;have g0:=(aB (mA.o.fB rfl)).1;have g1:=(aB (mA.o.fB rfl)).2.1;have g2:=(aB (mA.o.fB rfl)).2.2.1;have g3:=(aB (mA.o.fB rfl)).2.2.2.1;have g4:=(aB (mA.o.fB rfl)).2.2.2.2.1;have g5:=(aB (mA.o.fB rfl)).2.2.2.2.2.1;have g6:=(aB (mA.o.fB rfl)).2.2.2.2.2.2.1;have g7:=(aB (mA.o.fB rfl)).2.2.2.2.2.2.2;have⟨f0,f1,f2,f3,f4,f5,f6,f7⟩:=xf8 (mA.o.fB rfl);clear XG));all_goals
     go_wp2_with fail;refine Qae (v:= .tuple #[.agg #[xk,xf,xn,xm,xt,xo,xe,xz],b]) (by simp[results,results115,go_sem,g0,g1,g2,g3,g4,g5,g6,g7]) rfl ⟨_,rfl,(show NU _ _ _ from⟨⟨xk,xf,xn,xm,⟨xt,xo⟩,xe,xz⟩,b,HD.o.2.1,CG.o,rfl⟩),?_⟩;exact fh mA.o.1 (by show w.heap.size<=[w,w];omega)
   clear k0 k1 k2 k3 k4 k5 k6 k7;obtain rfl|rfl|rfl|rfl|rfl|rfl:p=1\/p=2\/p=3\/p=4\/p=5\/p=6:=by omega
   all_goals
    have⟨k0,k1,k2,k3,k4,k5,k6,k7⟩:=aB HC.o.1;have⟨y0,y1,y2,y3,y4,y5,y6,y7⟩:=xf8 HC.o.1;go_wp2;go_meet
   .exact⟨_,ag (cg1 HC.o HX.o A9.o HT.o hp1 A8)⟩
   .exact⟨_,ag (cg2 HC.o HX.o A9.o HT.o hp1 A8)⟩
   .exact⟨_,ag (cg3 HC.o HX.o A9.o HT.o hp1 A8)⟩
   .exact⟨_,ag (cg4 HC.o HX.o A9.o HT.o hp1 A8)⟩
   .exact⟨_,ag (cg5 HC.o HX.o A9.o HT.o hp1 A8)⟩
   .exact⟨_,ag (cg6 HC.o HX.o A9.o HT.o hp1 A8)⟩
def NX:∀s∈lZ,s.data.toList∈names9:=by decide
def lR(h:iZ c):cN c:=⟨h.1,λf hf=>NX _ (h.2.2.1 f hf),(ic _ h.2.2.2).2⟩
def By(n:Int)(fv cv:aA):Obj:=xK #[n,fv,cv] 141
def Da {l:List fM}(h:ab M w cv l){x:fM}(hx:l[k]? =some x):∃b off cap,cv=xL (b,off) l.length cap/\b<w.heap.size/\(I6 x.an/\I6 x.field/\I6 x.ai/\I6 x.more/\I6 x.type.an/\I6 x.type.of/\I6 x.cX/\I6 x.bZ)/\∀W,aC w W->bJ W b (off+k*8) x.an/\bJ W b (off+k*8+1) x.field/\bJ W b (off+k*8+2) x.ai/\bJ W b (off+k*8+3) x.more/\bJ W b (off+k*8+4) x.type.an/\bJ W b (off+k*8+5) x.type.of/\bJ W b (off+k*8+6) x.cX/\bJ W b (off+k*8+7) x.bZ:=by
 obtain⟨a,cap,rfl,hl,_,hc⟩:=h.aq;have hk:=(Qad.1 hx).1;obtain⟨b,off,rfl,_,hb,hcell⟩:=hc (by omega);obtain⟨cs,⟨rfl,hi⟩,hcs⟩:=hcell k x hx;refine⟨b,off,cap,rfl,hb,hi,λW hB=> ?_⟩;have g:∀j u,([xI x.an,xI x.field,xI x.ai,xI x.more,xI x.type.an,xI x.type.of,xI x.cX,xI x.bZ]:List aA)[j]? =some u->bJ W b (off+k*8+j) u:=λj u hu=>(hB.cell (p:=⟨b,off+k*8+j,none⟩) hb).trans (hcs j u hu);exact⟨g 0 _ rfl,g 1 _ rfl,g 2 _ rfl,g 3 _ rfl,g 4 _ rfl,g 5 _ rfl,g 6 _ rfl,g 7 _ rfl⟩
def qZ(M:aV)(w:ax)(K:Nat):Nat->Prop:=λi=>dX M w 2 i\/i=K
structure wY(M:aV)(w w1:ax)(o0 o1:Obj)(c:aI)(fv:aA)(K k n:Nat)(a:fx)(cap:Nat)(chs:List aN)(d:aI)(wr:ax):Prop where
 cok:dm c chs d
 len:chs.length=n
 le:n<=k
 blk:wr.heap[K]? =some (cP c.ai fv (xL a n cap))
 acc:aS (qZ M w K) (K+1) 51 wr (xL a n cap) chs
 fs0:ab (dX M w 2) w1 fv c.ah
 low:Below K w1 wr
 kw:K=w1
 bx:Bx w [o0,o1] wr
 hK:↑w+2<=K
theorem wY.ae {n:Nat}{chs:List aN}(h:wY M w w1 o0 o1 c fv K k n a cap chs d wr)(hb:aC wr wx):wY M w w1 o0 o1 c fv K k n a cap chs d wx:=
 ⟨h.cok,h.len,h.le,(hb.block K (Qaa.1 h.blk).1).trans h.blk,h.acc.ae hb,h.fs0,h.low.trans (hb.mono (by have:=(Qaa.1 h.blk).1;omega)),h.kw,h.bx.ae hb,h.hK⟩
theorem wY.fs {n:Nat}{chs:List aN}(h:wY M w w1 o0 o1 c fv K k n a cap chs d wr):ab (qZ M w K) wr fv c.ah:=
 h.fs0.ev ⟨ao.az (by rw[<-h.kw];exact h.low),λi hi=>hi.imp_right λe=>by rw[e,h.kw];exact bT⟩
theorem wY.next {n:Nat}{chs:List aN}(h:wY M w w1 o0 o1 c fv K k n a cap chs d wr):wY M w w1 o0 o1 c fv K (k+1) n a cap chs d wr:=
 ⟨h.cok,h.len,Nat.le_succ_of_le h.le,h.blk,h.acc,h.fs0,h.low,h.kw,h.bx,h.hK⟩
def tH(hM:Bd M w)(hK:↑w+2<=K):∀i,qZ M w K i->i<K+1:=λi hi=>by
 rcases hi with(hi|hi)|hi
 .have:=hM i hi;omega
 .omega
 .omega
structure Gp(d:aI)(x:aN)(ok:Bool)(wr:ax)(K5:Nat)(wx:ax):Prop where
 blk:wx.heap[K5]? =some (sV x)
 gen:jc d x
 ok:jo d x=ok
 ae:aC wr wx
 hK:wr<=K5
def Bz {k:Int}{f n m:aY}{ok:Bool}(h1:Hd (jc d ⟨k,f,n,m,⟨tk,tf⟩,s1,s2⟩))(h2:Hd (jo d ⟨k,f,n,m,⟨tk,tf⟩,s1,s2⟩=ok))(hj:aC wr w'):Gp d ⟨k,f,n,m,⟨tk,tf⟩,s1,s2⟩ ok wr w' (w'.alloc (xK #[k,f,n,m,tk,tf,s1,s2] 51)):=
 ⟨Qbh w' _,h1.o,h2.o,hj.alloc hj.size _,hj.size⟩
def Gq {k:Int}{f n m:aY}{ok:Bool}{x0 x1 x2 x3 x4 x5 x6 x7:aA}(h1:Hd (jc d ⟨k,f,n,m,⟨tk,tf⟩,s1,s2⟩))(h2:Hd (jo d ⟨k,f,n,m,⟨tk,tf⟩,s1,s2⟩=ok))(hj:aC wr w')(hk:w'.heap[K]? =some (xK #[x0,x1,x2,x3,x4,x5,x6,x7] 51)/\wr<=K):
 Gp d ⟨k,f,n,m,⟨tk,tf⟩,s1,s2⟩ ok wr K ((((((((w'.setCell (K,0) k).setCell (K,1) f).setCell (K,2) n).setCell (K,3) m).setCell (K,4) tk).setCell (K,5) tf).setCell (K,6) s1).setCell (K,7) s2):=
 ⟨jG hk.1 _ _ _ _ _ _ _ _,h1.o,h2.o,fh hj hk.2,hk.2⟩
def Db {t:br}(h:oO c t s):s.size<=maxLen:=by
 rcases h with h|⟨x,hx⟩
 .have h0:s.size=0:=by rw[<-bG,h];rfl
  rw[h0];exact Qbf _
 .have h1:=hx.parse;unfold eu at h1;split at h1
  .cases h1
  .split at h1
   .split at h1
    .rename_i hh;have:=hh.1;rw[bG]at this;unfold maxLen;omega
    .cases h1
   .cases h1
def KK {k:Int}{f n m:aY}(h:jc d ⟨k,f,n,m,⟨tk,tf⟩,s1,s2⟩)(M:aV)(w:ax):aD.rep (α:=aN) M w [xI k,xS f,xS n,xS m,xI tk,xI tf,xS s1,xS s2] ⟨k,f,n,m,⟨tk,tf⟩,s1,s2⟩:=
 ⟨rfl,h.pre.s1,h.pre.s2,h.pre.s3,Db h.cX,Db h.bZ⟩
abbrev LnS(w:ax)(b off k K:Nat)(r:fM)(cv fv lv:aA)(nm:aY)(w':ax):Prop:=w'.cell? (w,2)=some cv/\w'.cell? (b,off+k*8)=some (xI r.an)/\w'.cell? (b,off+k*8+1)=some (xI r.field)/\w'.cell? (b,off+k*8+2)=some (xI r.ai)/\w'.cell? (b,off+k*8+3)=some (xI r.more)/\w'.cell? (b,off+k*8+4)=some (xI r.type.an)/\w'.cell? (b,off+k*8+5)=some (xI r.type.of)/\w'.cell? (b,off+k*8+6)=some (xI r.cX)/\w'.cell? (b,off+k*8+7)=some (xI r.bZ)/\w'.cell? (K,0)=some (xS nm)/\w'.cell? (K,1)=some fv/\w'.cell? (K,2)=some lv
def KL(x:ib)(hxn:I6 x.cL.ai)(M:aV)(w:ax)(hM:Bd M w)(fv cv:aA)(hfs:ab M w fv x.cL.ah)(hcs:ab M w cv x.aw):
 xG 48 #[.agg #[x.cL.ai,fv,cv]] w λv w'=>∃l:aQ,ee l/\iZ l.au/\cB M w' v l:=by
 have⟨i0,hi0,hz0,hz1,hz2⟩:=info_parts uH;have iD:=ag hfs;have Cr:Hd (∀k r,x.aw[k]? =some r->_):=λk r h=>Da hcs h;have VX:Hd (∀W,Bx w [By x.cL.ai fv cv,cP () () ()] W->_):=λW hB=>nz (dX M w 2) W (dt hM hB.bQ) x.cL fv (iD.o.ev (dj hB.1)) hxn;obtain⟨fa,fc,rfl,hlc,MD,_⟩:=hfs.aq;obtain⟨ca,cc,rfl,VU,VV,_⟩:=hcs.aq;clear hfs hcs;obtain⟨⟨xn,xfs⟩,Ri⟩:=x;dsimp only at*;go_enter func48,ntmps48;go_wp2_with fail;refine(VX.o _ (Bx.du w _ _)).mono ?_;rintro e w1⟨_,rfl,⟨c,IW,_,⟨_,rfl,⟨fv1,rfl,hsl,_⟩⟩⟩,hb1⟩;obtain⟨ya,yc,rfl,_⟩:=hsl.aq;have bz:=ag ((Bx.du w (By xn (xL fa xfs.length fc) (xL ca Ri.length cc)) (cP () () ())).ae hb1);have SH:=ag IW;have gO:=ag hsl;have s1:=bz.o.bQ;simp only[Qcc,Qcd]at s1;clear hsl IW hb1;go_wp2_with fail;obtain⟨nm,yN⟩:=c;dsimp only at*;have⟨K,hK⟩:=bY (w1.heap.size);have ia:Hd (wY M w w1 (By xn (xL fa xfs.length fc) (xL ca Ri.length cc)) (cP () () ()) ⟨nm,yN⟩ (xL ya yN.length yc) K 0 0 none 0 [] ⟨nm,yN⟩ (w1.alloc (xK #[nm,xL ya yN.length yc,()] 72))):=⟨.nil _,rfl,bT,by rw[hK];exact Qbh w1 _,aS.nil _ _ _ _,gO.o,dS.alloc (Nat.le_of_eq hK) _,hK,bz.o.alloc _,by omega⟩;rw[<-hK];have⟨W1,hW1⟩:=bY (w1.alloc (xK #[nm,xL ya yN.length yc,()] 72));rw[<-hW1]at ia⊢;clear hW1 hK bz gO;go_loopg [4,5,6]5(λg iv _ _ wr=>∃(k n cap:Nat)(a:fx)(chs:List aN)(d:aI),k<=Ri.length/\k<=5/\g=5-k/\iv=xI k/\Hd (wY M w w1 (By xn (xL fa xfs.length fc) (xL ca Ri.length cc)) (cP () () ()) ⟨nm,yN⟩ (xL ya yN.length yc) K k n a cap chs d wr));case atStart=>exact⟨0,0,0,none,[],_,Qbf _,by omega,rfl,rfl,ia⟩
 case round=>
  obtain⟨k,n,cap,a,chs,d,hk,Xq,rfl,rfl,HS⟩:=hrel;have⟨l0,l1,l2⟩:=aO (HS.o.bx.bO rfl);have⟨o0,o1,o2⟩:=aO HS.o.blk;have Q2:K<wr:=(Qaa.1 HS.o.blk).1;have VY:=HS.o.hK;have qfx:w≠K:=by omega
  have qcs:w.heap.size+1≠K:=by omega
  have pJ:Hd (∀W',W'=((wr.setCell ([w],0) nm).setCell ([w],1) (xL ya yN.length yc)).setCell ([w],2) (xL a n cap)->(∃l:aQ,ee l/\iZ l.au/\cB M W' (.agg #[nm,xL ya yN.length yc,xL a n cap]) l)/\aC w W'):=λW' hW'=>by
   have hle:=HS.o.le;have MP:=HS.o.len;have E:Ev (qZ M w K) wr M W':=by
    rw[hW'];exact(((Ev.dL wr λi hi=> .inl (.inl hi)).setCell (.inl (.inl (.inr ⟨by simp,by simp⟩))) _).setCell (.inl (.inl (.inr ⟨by simp,by simp⟩))) _).setCell (.inl (.inl (.inr ⟨by simp,by simp⟩))) _
   refine⟨⟨⟨⟨nm,yN⟩,chs⟩,⟨lR SH.o,by show chs.length<=12;omega,d,HS.o.cok⟩,SH.o,_,rfl,_,_,rfl,HS.o.fs.ev E,?_,cM (ic _ SH.o.2.2.2).2⟩,?_⟩
   .exact(HS.o.acc.slice (tH hM VY)).ev E
   .rw[hW'];exact((HS.o.bx.1.setCell (by simp) _).setCell (by simp) _).setCell (by simp) _
  by_cases bH:k<Ri.length
  .by_cases VG:k<5
   .have⟨r,hr⟩:=eG Ri k bH;have⟨b,off,cap',hcv,hbl,hI,hcells⟩:=Cr.o k r hr;obtain⟨rfl,rfl⟩:=iY hcv;have Su:Hd (cN d):=HS.o.cok.ok (lR SH.o);have HD8:Hd (d.ah.length<=8):=((dU _).1 Su.o.right).2.1;have ZM:Hd (d.ai=nm):=HS.o.cok.ai;have ni:Hd (∀W,aC wr W->Bd (qZ M w K) W):=λW hb i hi=>by have:=tH hM VY i hi;have:=hb.size;omega
    have hn5:chs.length<=12:=by have:=HS.o.le;have:=HS.o.len;omega
    have ZN:Hd (∀W,aC wr W->xC 116 #[.agg #[nm,xL ya yN.length yc,xL a n cap]] W (cm W λv w'=>∃jK,v= .agg #[nm,jK]/\ab (qZ M w K) w' jK d.ah)):=λW hb=>KH ⟨⟨nm,yN⟩,chs⟩ d (lR SH.o) HS.o.cok hn5 (qZ M w K) W (ni.o W hb) (xL ya yN.length yc) (xL a n cap) (HS.o.fs.ae hb) ((HS.o.acc.slice (tH hM VY)).ae hb);have HCH:Hd (∀W jK,aC wr W->ab (qZ M w K) W jK d.ah->xC 115 #[.agg #[r.an,r.field,r.ai,r.more,r.type.an,r.type.of,r.cX,r.bZ], .agg #[nm,jK]] W (cm W (NU d))):=λW jK hb hs=>by
     have h:=C9 r hI d Su.o (qZ M w K) W (ni.o W hb) jK hs HD8.o (λf hf=>wQ (Su.o.names f hf));rw[ZM.o]at h;exact h
    have q8:Hd (∀W',aC wr W'->LnS w b off k K r (xL (b,off) Ri.length cc) (xL ya yN.length yc) (xL a n cap) nm W'):=λW' hb=>by
     have⟨q0,q1,q2,q3,q4,q5,q6,q7⟩:=hcells W' (HS.o.bx.ae hb).1;have⟨_,_,l2⟩:=aO ((HS.o.bx.ae hb).bO rfl);have⟨o0,o1,o2⟩:=aO ((hb.block K Q2).trans HS.o.blk);exact⟨l2,q0,q1,q2,q3,q4,q5,q6,q7,o0,o1,o2⟩
    have⟨c0,c1,c2,c3,c4,c5,c6,c7,c8,c9,c10,c11⟩:=q8.o wr dS;have HJ:Hd (aC wr wr):=dS;clear hr hcv hcells hI;obtain⟨rk,rf,rn,rm,⟨tk,tf⟩,rx,ro⟩:=r;dsimp only at*;go_upto_region 5 with fail;go_cut [5,6](λs5 s6 wx=>∃(K5:Nat)(x:aN)(ok:Bool),s5=xP K5/\s6=xB ok/\Hd (Gp d x ok wr K5 wx));case first=>
     go_region_held3(λw'=>w'.cell? (w,2)=some (xL (b,off) Ri.length cc)/\w'.cell? (b,off+k*8)=some (xI rk)/\w'.cell? (b,off+k*8+1)=some (xI rf)/\w'.cell? (b,off+k*8+2)=some (xI rn)/\w'.cell? (b,off+k*8+3)=some (xI rm)/\w'.cell? (b,off+k*8+4)=some (xI tk)/\w'.cell? (b,off+k*8+5)=some (xI tf)/\w'.cell? (b,off+k*8+6)=some (xI rx)/\w'.cell? (b,off+k*8+7)=some (xI ro)/\w'.cell? (K,0)=some (xS nm)/\w'.cell? (K,1)=some (xL ya yN.length yc)/\w'.cell? (K,2)=some (xL a n cap))
      (with_reducible first|exact q8.o _ HJ.o|exact q8.o _ HJ.o.drew|exact q8.o _ (HJ.o.alloc HJ.o.size _)|exact q8.o _ ((HJ.o.alloc HJ.o.size _).drew)|exact q8.o _ fI.o|exact q8.o _ fI.o.drew|exact q8.o _ (fI.o.alloc fI.o.size _)|exact q8.o _ ((fI.o.alloc fI.o.size _).drew)|exact q8.o _ dP.o|exact q8.o _ dP.o.drew|exact q8.o _ (dP.o.alloc dP.o.size _)|exact q8.o _ ((dP.o.alloc dP.o.size _).drew)|exact q8.o _ (fh dP.o nf.o.2))
      (first
        |(go_at_call 116;with_reducible refine(ZN.o _ (by with_reducible first|exact HJ.o|exact HJ.o.drew|exact HJ.o.alloc HJ.o.size _|exact(HJ.o.alloc HJ.o.size _).drew)).mono ?_
          rintro e wa⟨_,rfl,⟨jK,rfl,hsl⟩,hb⟩;have HZL:=ag hsl;clear hsl;try(with_reducible(have Ct:=ag (Jo HJ.o hb)))
          try(with_reducible(have Ct:=ag (Jp HJ.o hb)))
          have fI:Hd (aC wr wa):=(by with_reducible first|exact ag (UA HJ.o hb)|exact ag (trB HJ.o hb)|exact ag (trC HJ.o hb)|exact ag (trD HJ.o hb));clear hb)
        |(go_at_call 115;with_reducible refine(HCH.o _ _ (by with_reducible first|exact fI.o|exact fI.o.drew|exact fI.o.alloc fI.o.size _|exact(fI.o.alloc fI.o.size _).drew) (by with_reducible first|exact HZL.o|exact HZL.o.ae bU)).mono ?_
          rintro e wb⟨_,rfl,⟨⟨xk,xf,SI,xm,⟨xt,xo⟩,xe,xz⟩,ok,ZO,hok,rfl⟩,hb⟩;have ZP:=ag ZO;have ZQ:=ag hok;clear ZO hok;try(with_reducible(have nf:=ag (Ry Ct.o hb)))
          try(with_reducible(have nf:=ag (Jo fI.o hb)))
          try(with_reducible(have nf:=ag (Jp fI.o hb)))
          try with_reducible have k0:=(aB nf.o.1).1
          try with_reducible have k1:=(aB nf.o.1).2.1
          try with_reducible have k2:=(aB nf.o.1).2.2.1
          try with_reducible have k3:=(aB nf.o.1).2.2.2.1
          try with_reducible have k4:=(aB nf.o.1).2.2.2.2.1
          try with_reducible have k5:=(aB nf.o.1).2.2.2.2.2.1
          try with_reducible have k6:=(aB nf.o.1).2.2.2.2.2.2.1
          try with_reducible have k7:=(aB nf.o.1).2.2.2.2.2.2.2
          try with_reducible have y0:=aj nf.o.1 0
          try with_reducible have y1:=aj nf.o.1 1
          try with_reducible have y2:=aj nf.o.1 2
          try with_reducible have y3:=aj nf.o.1 3
          try with_reducible have y4:=aj nf.o.1 4
          try with_reducible have y5:=aj nf.o.1 5
          try with_reducible have y6:=aj nf.o.1 6
          try with_reducible have y7:=aj nf.o.1 7
          have dP:Hd (aC wr wb):=(by with_reducible first|exact ag (UA fI.o hb)|exact ag (trB fI.o hb)|exact ag (trC fI.o hb)|exact ag (trD fI.o hb));clear hb));all_goals(go_wp2;go_meet)
     .refine⟨_,⟨xk,xf,SI,xm,⟨xt,xo⟩,xe,xz⟩,ok,rfl,rfl,?_⟩;exact ag (Bz ZP ZQ dP.o)
     all_goals
      refine⟨_,⟨xk,xf,SI,xm,⟨xt,xo⟩,xe,xz⟩,ok,rfl,rfl,?_⟩;exact ag (Gq ZP ZQ dP.o nf.o)
    case rest=>
     obtain⟨K5,x,ok,rfl,rfl,HD⟩:=hcut;have⟨wx,hwx⟩:=bY (wc);subst hwx;clear c0 c1 c2 c3 c4 c5 c6 c7 c8 c9 c10 c11 l0 l1 l2 o0 o1 o2;have gn:=ag (HS.o.ae HD.o.ae);have qfy:=HD.o.hK;have hxl:K5<wx:=(Qaa.1 HD.o.blk).1;have⟨o0,o1,o2⟩:=aO gn.o.blk;have f2:=aj gn.o.blk 2;cases ok with
     |false=>
      go_wp2;go_roundg(5-(k+1));case measure=>omega
      case rel=>exact⟨k+1,n,cap,a,chs,d,by omega,by omega,rfl,by go_num,(gn.o.next)⟩
     |true=>
      obtain⟨⟨xk,xf,SI,xm,⟨xt,xo⟩,xe,xz⟩,hx⟩:∃y,y=x:=⟨x,rfl⟩;subst hx;have⟨m0,m1,m2,m3,m4,m5,m6,m7⟩:=aB HD.o.blk;have ku:=ag gn.o.len;have fq:Hd (aD.rep (α:=aN) (bu (xL a n cap) (qZ M w K)) (wx.alloc (xK #[xk,xf,SI,xm,xt,xo,xe,xz] 51)) [xI xk,xS xf,xS SI,xS xm,xI xt,xI xo,xS xe,xS xz] ⟨xk,xf,SI,xm,⟨xt,xo⟩,xe,xz⟩):=KK HD.o.gen _ _;have qfz:n<=5:=by have:=gn.o.le;omega
      have hKx:K<wx:=by omega
      go_wp2_with(at_builtin;refine bo (α:=aN) rfl _ _ _ rfl (qZ M w K) (K+1) 51 i0 _ 104 underlying70 hi0 hz0 hz1 hz2 rfl (by decide) (.slice a n cap) chs rfl (gn.o.acc.alloc _) (λ_=>True) _ _ ⟨xk,xf,SI,xm,⟨xt,xo⟩,xe,xz⟩ rfl (cF _ _ _ _ rfl trivial) fq.o (by rw[ku.o];unfold maxLen;omega) (by rw[ku.o];omega) (by simp;omega) ?_;rw[ku.o];intro a2 c2 w2 bD dK bE;have dr:=ag bD;have qf0:=ag dK;have bg:=ag bE;have jL:Hd (bW w2 K (cP nm (xL ya yN.length yc) (xL a n cap))):=(bE.block K (by omega)).trans ((Qcb wx _ K hKx).trans gn.o.blk);have p2:=(aO jL.o).2.2;have g2:=aj jL.o 2;clear bD dK bE);go_roundg(5-(k+1));case measure=>omega
      case rel=>
       refine⟨k+1,n+1,c2,a2,chs++[⟨xk,xf,SI,xm,⟨xt,xo⟩,xe,xz⟩],cw d ⟨xk,xf,SI,xm,⟨xt,xo⟩,xe,xz⟩,by omega,by omega,rfl,by go_num,?_⟩;refine(show wY _ _ _ _ _ _ _ _ _ _ _ _ _ _ _ from⟨gn.o.cok.snoc HD.o.gen HD.o.ok,by simp[ku.o],by have:=gn.o.le;omega,?_,?_,?_,?_,?_,?_,VY⟩)
       .have:=Qca w2 K 2 _ _ (xL a2 (n+1) c2) jL.o;simpa [cP]using this
       .exact dr.o.rC (p:=⟨K,2,none⟩) (.inr rfl) (by show K<K+1;omega) _
       .exact gn.o.fs0
       .exact(((gn.o.low.alloc (by omega) _).trans (bg.o.mono (by omega))).setCell (Qab K) _)
       .exact gn.o.kw
       .exact((gn.o.bx.alloc _).dG bg.o (by simp;omega)).dG (B:=K) (dS.setCell (Qab K) _) (by simp;omega)
   .have⟨r0,r1,r2⟩:=aO (HS.o.bx.cg rfl);have⟨g0,g1⟩:=mu (HS.o.bx.cg rfl);have g2:=aj (HS.o.bx.cg rfl) 2;go_wp2_with fail;exact Qae (v:= .agg #[nm,xL ya yN.length yc,xL a n cap]) (by simp[results,results48,go_sem,r0,r1,r2]) rfl ⟨_,rfl,pJ.o _ rfl⟩
  .have⟨r0,r1,r2⟩:=aO (HS.o.bx.cg rfl);have⟨g0,g1⟩:=mu (HS.o.bx.cg rfl);have g2:=aj (HS.o.bx.cg rfl) 2;go_wp2_with fail;exact Qae (v:= .agg #[nm,xL ya yN.length yc,xL a n cap]) (by simp[results,results48,go_sem,r0,r1,r2]) rfl ⟨_,rfl,pJ.o _ rfl⟩
end Go.Proofs.YtepaofffbkfodaaGreatDoor
