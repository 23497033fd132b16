/- A part of the proof; no condition. -/
import Derived.Test.YtpjdjlnknfmfkaaGreatDoorM04
import Derived.Shelf.Strings.Prefix
set_option linter.all false
set_option maxHeartbeats 8000000
set_option maxRecDepth 100000
namespace Go.Proofs.YtpjdjlnknfmfkaaGreatDoor
open Tryz
variable{W w W' wr wx w1 w':bq}{g B k cap K i base X b j:Nat}{M F:bY}{v fv c0 c1 c2 c3 a0 a1 a2 a3 cv u:bt}{o2 o4 o o0 o1:Obj}{nm s s1 s2:bS}{t e:TypeId}{c d:bI}{a:fM}{tk tf br:Int}{l vs us:List bE}{ls:List bQ}{x:bK}{f:bJ}{cur:Array bt}{cs:List bt}
section
open Go.RowKit
def oy(M:bY)(w:bq)(hM:Bd M w)(x:ud)(fv:bt)(hs:aS M w fv x.aW)(hn:I6 x.aX):
 xG 55 #[.agg #[x.aX,fv]] w λv w'=>∃c,jO c/\(0<x.aW.length->0<c.aW.length)/\dq M w' v c:=by
 have⟨i0,hi0,hz0,hz1,hz2⟩:=info_parts jx
 obtain⟨a,cY,rfl,dN,hm,hc⟩:=hs.bj
 have HC:=aV hc;clear hc;have HI:=aV hn;clear hn
 clear hs
 generalize hn:x.aW.length=n at*
 have HN:=aV hn;clear hn
 have hp:=dJ x.aX 6 (by omega)
 delta xG
 go_in
 go_wp2_with fail
 refine ey (gi _ _ _ HI.o (by omega) (by omega)) ?_
 obtain⟨W,hW⟩:∃W:bq,W=(((w.alloc (xK #[x.aX,xL a n cY] 151)).alloc (xK #["",()] 53)).alloc
  (xK #[xS ⟨#[97]⟩,xS ⟨#[98,50]⟩,xS ⟨#[110,97,109,101]⟩,xS ⟨#[110,101,120,116,95,111,110,101]⟩,xS ⟨#[107,105,100,115]⟩,xS ⟨#[120]⟩] 9)).alloc
  (xK #[xS ⟨#[110,111,100,101]⟩,xS ⟨#[105,116,101,109]⟩,xS ⟨#[117,115,101,114]⟩,xS ⟨#[112,97,103,101,95,49]⟩,xS ⟨#[108,101,97,102]⟩,xS ⟨#[113]⟩] 9):=⟨_,rfl⟩
 rw[<-hW]
 have⟨b0,b1,b2,b3,hz,hb⟩:=T4 hW
 clear hW
 have hz':w.heap.size+3<W:=by omega
 have hcn:cC W [w,w,w] (bW x.aX 6) (xS (Oe (bW x.aX 6))):=cell_of_heap b3 (Sj hp)
 have B0:=aV b0;clear b0;have B1:=aV b1;clear b1;have B2:=aV b2;clear b2;have HZ:=aV hz;clear hz;have HB:=aV hb;clear hb
 clear b3
 go_wp2_with fail
 have⟨nm,hnm⟩:=dd (Oe (bW x.aX 6))
 rw[<-hnm]
 have tM:=aV (show nm∈mH by rw[hnm];exact Of hp)
 clear hnm hcn
 have v8:Hd (∀i,(M i\/(w.heap.size<=i/\i<=W.heap.size))->i<W.heap.size+1):=λi h=>by rcases h with h|h;have:=hM i h;omega;omega
 go_loopg [5,6,7,8,9]6(λg iv _ _ _ _ wr=>∃(k:Nat)(kF:bt)(fs:List bJ),k<=n/\k<=6/\g=6-k/\iv=xI k/\fs.length<=k/\Hd (iL fs/\(0<k->0<fs.length))/\Hd (bP (λi=>M i\/(w<=i/\i<=W)) [W] 78 wr kF fs)/\Hd (bC W wr)/\Hd (ed wr W (xK #[nm,kF] 53)))
 exact⟨0,(),[],ax _,by omega,rfl,rfl,cN,by {have h:iL []/\(0<0->0<([]:List bJ).length):=⟨⟨λf h=>(by cases h),λj f h=>(by simp at h)⟩,λh=>absurd h (by omega)⟩;exact h},by exact(bP.nil _ _ _ _),by exact cU,by {have h:=az W (xK #[nm,()] 53);exact h}⟩
 obtain⟨k,kF,fs,hk,hk6,rfl,rfl,hfs,HG,HA,HW,KM⟩:=hrel
 have hsz:W.heap.size<wr:=(ab.1 KM.o).1
 obtain⟨a',c',rfl,hc1,hc2⟩:=HA.o.bj
 have⟨g0,g1⟩:=aZ ((HW.o.block w (by omega)).trans B0.o)
 have⟨g2,g3⟩:=aZ KM.o
 have cu:Hd (cX wr [w] (xK #["",()] 53)):=(HW.o.block [w] (by omega)).trans B1.o
 have⟨g4,g5⟩:=aZ cu.o
 have⟨f4,f5⟩:=nZ cu.o
 have⟨f2,f3⟩:=nZ KM.o
 have po:Hd (∀W',W'=(wr.setCell ([w],0) nm).setCell ([w],1) (xL a' fs.length c')->(∃c,jO c/\(0<k->0<c.aW.length)/\dq M W' (.agg #[nm,xL a' fs.length c']) c)/\bC w W'):=λW' hW'=>by
  refine⟨⟨⟨nm,fs⟩,HG.o.1.dz (by omega) tM.o,HG.o.2,_,rfl,_,rfl,((HA.o.slice v8.o).ev ?_),dD (ja nm tM.o).2⟩,?_⟩
  .rw[hW']
   exact((Ev.eO wr (λi h=> .inl h)).setCell (.inl (.inr ⟨by simp,by simp;omega⟩)) _).setCell (.inl (.inr ⟨by simp,by simp;omega⟩)) _
  rw[hW']
  exact((HB.o.trans (HW.o.mono (by omega))).setCell (by simp) _).setCell (by simp) _
 by_cases cE:k<n
 rotate_left
 .go_wp2_with fail
  refine ah (v:= .agg #[nm,xL a' fs.length c']) (by simp[results,results55,go_sem,g4,g5]) rfl ⟨_,rfl,?_⟩
  have⟨⟨c,h1,h2,h3⟩,h4⟩:=po.o _ rfl
  exact⟨⟨c,h1,λh=>h2 (by omega),h3⟩,h4⟩
 by_cases hl6:k<6
 .obtain⟨b,off,rfl,hMb,hbl,hcell⟩:=HC.o (by omega)
  have⟨r,hr⟩:=fg x.aW k (by rw[HN.o];exact cE)
  obtain⟨cs,⟨rfl,hr1,hr2,Tu⟩,hcs⟩:=hcell k r hr
  have hcl:∀(j:Nat)(u:bt),[Value.int .i64 r.aX,xI r.bg,xI r.of,xB r.indexed][j]? =some u->cC wr b (off+k*4+j) u:=λj u hu=>(HW.o.cell (p:=⟨b,off+k*4+j,none⟩) (by show b<W;omega)).trans ((HB.o.cell (p:=⟨b,off+k*4+j,none⟩) hbl).trans (hcs j u hu))
  have q0:cC wr b (off+k*4) r.aX:=hcl 0 _ rfl
  have q1:=hcl 1 _ rfl
  have q2:=hcl 2 _ rfl
  have q3:=hcl 3 _ rfl
  have wI:b≠w:=by omega
  have Wk:=dJ r.aX 6 (by omega)
  have hpk:=dJ r.bg 5 (by omega)
  have RU:=dJ r.of 4 (by omega)
  have qdi:cC wr [w,w] (bW r.aX 6) (xS (T6 (bW r.aX 6))):=cell_of_heap ((HW.o.block (↑w+2) (by omega)).trans B2.o) (Vd Wk)
  clear hcell hcs hcl hr
  have nU:=aV hr1;clear hr1;have vZ:=aV hr2;clear hr2;have Ym:=aV Tu;clear Tu
  go_upto_region 7 with fail
  go_cut [7](λs7 wx=>s7=xP [wr]/\wx=((wr.alloc (xK #[r.aX,r.bg,r.of,xB r.indexed] 218)).alloc (xK #[xS (T6 (bW r.aX 6)),xI (1+(bW r.bg 5:Int)),xI 0,false] 78)).drew)
  .have z1:(0:Int)<=(bW r.aX 6:Int):=an _
   have z2:(bW r.aX 6:Int)<6:=by omega
   have z3:IntKind.i64.wrap (1+(bW r.bg 5:Int))=1+(bW r.bg 5:Int):=aw _ (by omega)
   go_region_held3(λw'=>w'.cell? ([w,w],bW r.aX 6)=some (xS (T6 (bW r.aX 6)))/\w'.cell? (wr,0)=some (xI r.aX)/\w'.cell? (wr,1)=some (xI r.bg))
    (first|go_keep)
    (first|(go_at_call 134;refine ey (gi _ _ _ (by first|exact nU.o|exact vZ.o) (by omega) (by omega)) ?_))
   all_goals(go_wp2_with fail;go_meet;exact⟨rfl,rfl⟩)
  obtain⟨rfl,rfl⟩:=hcut
  have⟨f,hf⟩:=dd (sy r)
  have Q2:=aV (show cT f=true/\f.aX∈mS by rw[hf];exact xw r)
  have HNO:Hd (idxOf (λg:bJ=>dh g.aX f.aX) fs<0->∀W':bq,bC wr W'->xC 135 #[.agg #[nm,xL a' fs.length c'],f.aX] W' λe w'=>e=xR (.tuple #[xI 0,false])/\Below W' W' w'):=λh W' hb=>Dp _ _ W' fs nm f.aX ((HA.o.aT hb).slice v8.o) h
  have qdj:Hd (¬idxOf (λg:bJ=>dh g.aX f.aX) fs<0->∀W':bq,bC wr W'->xC 135 #[.agg #[nm,xL a' fs.length c'],f.aX] W' λe w'=>e=xR (.tuple #[xI (idxOf (λg:bJ=>dh g.aX f.aX) fs),true])/\Below W' W' w'):=λh W' hb=>BP _ _ W' fs nm f.aX ((HA.o.aT hb).slice v8.o) h
  have HNZ:=aV (show f.aX=T6 (bW r.aX 6)by rw[hf];rfl)
  have qL:=aV (show f.type.bg=1+(bW r.bg 5:Int)by rw[hf];rfl)
  have HOZ:=aV (show f.type.of=if bW r.bg 5=4 then 1+(bW r.of 4:Int)else 0 by rw[hf];rfl)
  have HIZ:=aV (show f.indexed=(r.indexed&&decide (1+(bW r.bg 5:Int)<=3))by rw[hf];rfl)
  clear hf qdi
  rw[<-HNZ.o]
  rw[<-qL.o]at HIZ⊢
  go_upto_if 49 with fail
  go_cut [](λwx=>wx=((wr.alloc (xK #[r.aX,r.bg,r.of,xB r.indexed] 218)).alloc (xK #[f.aX,f.type.bg,f.type.of,false] 78)).drew)
  .by_cases h4:bW r.bg 5=4
   .have e5:(f.type.bg==5)=true:=by rw[qL.o];simp;omega
    rw[if_pos h4]at HOZ
    clear h4
    go_wp2_with(go_at_call 134;refine ey (gi _ _ _ Ym.o (by omega) (by omega)) ?_)
    go_meet
    rw[HOZ.o]
   have e5:(f.type.bg==5)=false:=by rw[qL.o];simp;omega
   rw[if_neg h4]at HOZ
   clear h4
   go_wp2
   go_meet
   rw[HOZ.o]
  obtain rfl:=hcut
  go_upto_region 10 with fail
  go_cut [](λwx=>wx=((wr.alloc (xK #[r.aX,r.bg,r.of,xB r.indexed] 218)).alloc (xK #[f.aX,f.type.bg,f.type.of,xB f.indexed] 78)).drew)
  .by_cases h3:f.type.bg<=3
   .rw[decide_eq_true h3,Bool.and_true]at HIZ
    cases Un:r.indexed
    all_goals
     have Uz:=aV Un;clear Un
     go_wp2
     go_meet
     rw[HIZ.o,Uz.o]
   rw[decide_eq_false h3,Bool.and_false]at HIZ
   cases Un:r.indexed
   all_goals
    have Uz:=aV Un;clear Un
    go_wp2
    go_meet
    rw[HIZ.o,Uz.o]
  obtain rfl:=hcut
  by_cases hm:idxOf (λg:bJ=>dh g.aX f.aX) fs<0
  rotate_left
  .have HM:=aV hm;clear hm
   go_wp2_with fail
   refine dx (qdj.o HM.o _ (by exact(cU.alloc (by simp) _).drew)) λw1 hb1=> ?_
   have Gk:Hd (bC wr w1):=(cU.alloc (by simp) _).drew.trans (hb1.mono (by simp;omega))
   clear hb1
   go_wp2
   go_roundg(6-(k+1))
   exact⟨k+1,_,fs,by omega,by omega,rfl,by go_num,by omega,(show iL fs/\(0<k+1->0<fs.length)from⟨HG.o.1,λ_=>by have:=wS (λg:bJ=>dh g.aX f.aX) fs;have:=HM.o;omega⟩),HA.o.aT Gk.o,(HW.o.trans (Gk.o.mono (by omega))),(Gk.o.block W hsz).trans KM.o⟩
   omega
  have HM:=aV hm;clear hm
  go_wp2_with fail
  refine dx (HNO.o HM.o _ (by exact(cU.alloc (by simp) _).drew)) λw1 hb1=> ?_
  have hs1:=hb1.size
  simp at hs1
  have Gk:Hd (bC wr w1):=(cU.alloc (by simp) _).drew.trans (hb1.mono (by simp;omega))
  have iY:=aV ((hb1.block [wr] (by simp)).trans (kQ (w:=wr) rfl).2.1)
  have⟨p0,p1,p2,p3⟩:=aU iY.o
  have wN:Hd (ed w1 W (xK #[nm,xL a' fs.length c'] 53)):=(Gk.o.block W hsz).trans KM.o
  have⟨p4,p5⟩:=aZ wN.o
  have zX:=aV (HA.o.aT Gk.o)
  have qdk:Hd (bC W w1):=HW.o.trans (Gk.o.mono (by omega))
  clear hb1
  go_wp2_with(at_builtin
              refine cA (α:=bJ) rfl _ _ _ rfl _ _ 78 i0 _ 40 underlying51 hi0 hz0 hz1 hz2 rfl (by decide) _ fs rfl (zX.o.alloc _) (λ_=>True) _ _ f rfl (dj _ _ _ _ rfl trivial) ?c1 ?c2 ?c3 ?c4 ?_
              case c1=>exact⟨rfl,dD (sx _ Q2.o.2).2⟩
              case c2=>unfold maxLen;omega
              case c3=>omega
              case c4=>simp;omega
              intro a2 c2 w2 cF eD cJ
              have Q3:Hd (ed w2 W (xK #[nm,xL a' fs.length c'] 53)):=(cJ.block W (by omega)).trans ((aB w1 _ W (by omega)).trans wN.o)
              have⟨r4,r5⟩:=aZ Q3.o
              have r6:=aY Q3.o 1
              have lJ:=aV cF
              have bZ:Hd (bC W w2):=(qdk.o.alloc (by omega) _).trans (cJ.mono (by omega))
              clear cF eD cJ)
  go_roundg(6-(k+1))
  case measure=>omega
  case rel=>
   refine⟨k+1,xL a2 (fs.length+1) c2,fs++[f],by omega,by omega,rfl,by go_num,by simp;omega,?_,?_,?_,?_⟩
   .exact(show iL (fs++[f])/\(0<k+1->0<(fs++[f]).length)from⟨HG.o.1.snoc Q2.o.2 Q2.o.1 (by have:=rY (λg:bJ=>dh g.aX f.aX) fs;have:=HM.o;omega),λ_=>by simp⟩)
   .exact(show bP _ _ _ _ _ (fs++[f])from lJ.o.ue (.inr ⟨by simp;omega,by simp⟩) (by simp) _)
   .exact(show bC W _ from bZ.o.setCell cN _)
   exact aA w2 W 1 _ _ _ Q3.o
 go_wp2_with fail
 refine ah (v:= .agg #[nm,xL a' fs.length c']) (by simp[results,results55,go_sem,g4,g5]) rfl ⟨_,rfl,?_⟩
 have⟨⟨c,h1,h2,h3⟩,h4⟩:=po.o _ rfl
 exact⟨⟨c,h1,λh=>h2 (by omega),h3⟩,h4⟩
def qO(k:Nat):bS:=([⟨#[110,101,119,95,49]⟩,⟨#[109,111,114,101]⟩,⟨#[122,57]⟩,⟨#[97]⟩,⟨#[110,97,109,101]⟩,⟨#[107,105,100,115]⟩]:List bS).getD k mz
def Sp:∀k,k<6->(qO k).data.toList∈names9:=by
 intro k hk;rcases k with _|_|_|_|_|_|k;all_goals first|decide|omega
def Ov {k:Nat}(hk:k<6):(#[xS ⟨#[110,101,119,95,49]⟩,xS ⟨#[109,111,114,101]⟩,xS ⟨#[122,57]⟩,xS ⟨#[97]⟩,xS ⟨#[110,97,109,101]⟩,xS ⟨#[107,105,100,115]⟩]:Array bt)[k]? =some (xS (qO k)):=by
 rcases k with _|_|_|_|_|_|k;all_goals first|rfl|omega
def xM:Obj:=xK #[xS ⟨#[110,101,119,95,49]⟩,xS ⟨#[109,111,114,101]⟩,xS ⟨#[122,57]⟩,xS ⟨#[97]⟩,xS ⟨#[110,97,109,101]⟩,xS ⟨#[107,105,100,115]⟩] 9
def xN(r:gW):Obj:=xK #[r.bg,r.field,r.aX,r.more,r.type.bg,r.type.of,r.dO,r.cW] 215
def Av(t:cq):Obj:=xK #[xI 0,t.bg,t.of,false] 218
def Sq(t:cq):Obj:=xK #[t.bg,t.of] 55
def J5:I6 0:=⟨by omega,by omega⟩
def GY {t:cq}(hM:Bd M w)(hk:I6 t.bg)(ho:I6 t.of)(hg:cX W g (Av t))(hz:w<=g):aS M W (xL (g,0) 1 1) [(⟨0,t.bg,t.of,false⟩:ky)]:=by
 refine⟨[[xI 0,xI t.bg,xI t.of,xB false]],?_,rfl,?_⟩
 .refine⟨by simp[bD.size],some ⟨g,0,none⟩,1,rfl,cN,by unfold maxLen;omega,λ_=>⟨g,0,rfl,λh=>by have:=hM g h;omega,(ab.1 hg).1,?_⟩⟩;intro i u hu;simp only[List.flatten_cons,List.flatten_nil,List.append_nil]at hu;rcases i with _|_|_|_|i;all_goals first|(simp at hu;done)|(simp at hu;subst hu;simp[World.cell?,hg,Av])
 intro i cs x hc hx;cases i with
 |zero=>simp at hc hx;subst hc hx;exact⟨rfl,⟨by show-9223372036854775808<=(0:Int);omega,by show(0:Int)<=9223372036854775807;omega⟩,hk,ho⟩
 |succ i=>simp at hc
def vd {l:List bJ}(h:aS M w v l){k:Nat}{x:bJ}(hx:l[k]? =some x):∃b off cap,v=xL (b,off) l.length cap/\b<w.heap.size/\∀W,bC w W->cC W b (off+k*4) x.aX/\cC W b (off+k*4+1) x.type.bg/\cC W b (off+k*4+2) x.type.of/\cC W b (off+k*4+3) (xB x.indexed):=by
 obtain⟨a,cap,rfl,hl,_,hc⟩:=h.bj;have hk:=(ag.1 hx).1;obtain⟨b,off,rfl,_,hb,hcell⟩:=hc (by omega);obtain⟨cs,⟨rfl,_⟩,hcs⟩:=hcell k x hx;refine⟨b,off,cap,rfl,hb,λW hB=> ?_⟩;have g:∀j u,([xS x.aX,xI x.type.bg,xI x.type.of,xB x.indexed]:List bt)[j]? =some u->cC W b (off+k*4+j) u:=λj u hu=>(hB.cell (p:=⟨b,off+k*4+j,none⟩) hb).trans (hcs j u hu);exact⟨g 0 _ rfl,g 1 _ rfl,g 2 _ rfl,g 3 _ rfl⟩
def Ow {c:bI}(h:jO c){k:Nat}{f:bJ}(hf:c.aW[k]? =some f):bO f.type=true:=by
 have:=h.1;have hm:=ai hf;simp only[cj,cT,aF,List.all_eq_true]at this;grind
abbrev CgS(w:bq)(rk rn rm rx ro Gl Gm:Int)(nm:bS)(fv:bt)(T:Nat)(w':bq):Prop:=w'.cell? (w,0)=some (xI rk)/\w'.cell? (w,2)=some (xI rn)/\w'.cell? (w,3)=some (xI rm)/\w'.cell? (w,6)=some (xI rx)/\w'.cell? (w,7)=some (xI ro)/\w'.cell? ([w,w,w],bW rn 6)=some (xS (qO (bW rn 6)))/\w'.cell? ([w,w,w],bW rm 6)=some (xS (qO (bW rm 6)))/\w'.cell? (T,0)=some (xI Gl)/\w'.cell? (T,1)=some (xI Gm)/\w'.cell? ([w],0)=some (xS nm)/\w'.cell? ([w],1)=some fv
def cgS {W2:bq}{rk rf rn rm rx ro tk tf Gl Gm:Int}{T:Nat}(h:Bx w [xN ⟨rk,rf,rn,rm,⟨tk,tf⟩,rx,ro⟩,dP nm fv,o2,xM,o4] W2)(hT:cX W2 T (Sq ⟨Gl,Gm⟩))(hb:bC W2 W'):CgS w rk rn rm rx ro Gl Gm nm fv T W':=by
 have h':=h.aT hb;have hT':=(hb.block T (ab.1 hT).1).trans hT;have⟨a0,a1,a2,a3,a4,a5,a6,a7⟩:=bz (h'.cP rfl);have⟨b0,b1⟩:=aZ (h'.cZ rfl);have⟨t0,t1⟩:=aZ hT';exact⟨a0,a2,a3,a6,a7,cell_of_heap (h'.Au rfl) (Ov (dJ _ _ (by omega))),cell_of_heap (h'.Au rfl) (Ov (dJ _ _ (by omega))),t0,t1,b0,b1⟩
def pN(W2:bq)(c:bI)(x:bK)(K:Nat)(wx:bq):Prop:=
 wx.heap[K]? =some (tQ x)/\jb c x.type x.dO/\jb c x.type x.cW/\bC W2 wx/\W2<=K
def Sr {W2 w':bq}{K:Nat}(h:cX W K o/\W2<=K)(hb:bC W w'):w'.heap[K]? =some o/\W2<=K:=⟨(hb.block K (ab.1 h.1).1).trans h.1,h.2⟩
def J6 {W2 w':bq}(hj:bC W2 W)(hb:Below (W.alloc o).heap.size (W.alloc o) w'):w'.heap[W.heap.size]? =some o/\W2.heap.size<=W:=Sr (W2:=W2) ⟨az W o,hj.size⟩ hb
def J7 {W2 w':bq}(hj:bC W2 W)(hb:Below (W.alloc o).drew.heap.size (W.alloc o).drew w'):w'.heap[W.heap.size]? =some o/\W2.heap.size<=W:=Sr (W2:=W2) (W:=(W.alloc o).drew) ⟨az W o,hj.size⟩ hb
def Vj {W2 w':bq}(hj:bC W2 W)(hb:bC W w'):bC W2 w':=hj.trans (hb.mono hj.size)
def trB {W2 w':bq}(hj:bC W2 W)(hb:Below W.drew.heap.size W.drew w'):bC W2 w':=hj.drew.trans (hb.mono hj.size)
def trC {W2 w':bq}(hj:bC W2 W)(hb:Below (W.alloc o).heap.size (W.alloc o) w'):bC W2 w':=Vj (hj.alloc hj.size o) hb
def trD {W2 w':bq}(hj:bC W2 W)(hb:Below (W.alloc o).drew.heap.size (W.alloc o).drew w'):bC W2 w':=Vj (hj.alloc hj.size o).drew hb
def kz {K:Nat}{c4 c5 c6 c7:bt}(h:cX W K (xK #[c0,c1,c2,c3,c4,c5,c6,c7] t))(a0 a1 a2 a3 a4 a5 a6 a7:bt):
 ((((((((W.setCell (K,0) a0).setCell (K,1) a1).setCell (K,2) a2).setCell (K,3) a3).setCell (K,4) a4).setCell (K,5) a5).setCell (K,6) a6).setCell (K,7) a7).heap[K]? =some (xK #[a0,a1,a2,a3,a4,a5,a6,a7] t):=by
 have h1:=aA _ K 0 _ _ a0 h;have h2:=aA _ K 1 _ _ a1 h1;have h3:=aA _ K 2 _ _ a2 h2;have h4:=aA _ K 3 _ _ a3 h3;have h5:=aA _ K 4 _ _ a4 h4;have h6:=aA _ K 5 _ _ a5 h5;have h7:=aA _ K 6 _ _ a6 h6;have h8:=aA _ K 7 _ _ a7 h7;simpa using h8
def gj {K:Nat}(h:Below B w W)(hK:B<=K){a4 a5 a6 a7:bt}:
 Below B w ((((((((W.setCell (K,0) a0).setCell (K,1) a1).setCell (K,2) a2).setCell (K,3) a3).setCell (K,4) a4).setCell (K,5) a5).setCell (K,6) a6).setCell (K,7) a7):=
 (((((((h.setCell hK _).setCell hK _).setCell hK _).setCell hK _).setCell hK _).setCell hK _).setCell hK _).setCell hK _
section
variable {W2 w':bq}{c:bI}{k:Int}{f n m:bS}{tk tf:Int}{s1 s2:bS}
def Ox(h1:Hd (jb c ⟨tk,tf⟩ s1))(h2:Hd (jb c ⟨tk,tf⟩ s2))(hj:bC W2 w'):pN W2 c ⟨k,f,n,m,⟨tk,tf⟩,s1,s2⟩ w' (w'.alloc (xK #[k,f,n,m,tk,tf,s1,s2] 57)):=
 ⟨az w' _,h1.o,h2.o,hj.alloc hj.size _,hj.size⟩
def Vk {K:Nat}{x0 x1 x2 x3 x4 x5 x6 x7:bt}(h1:Hd (jb c ⟨tk,tf⟩ s1))(h2:Hd (jb c ⟨tk,tf⟩ s2))(hj:bC W2 w')(hk:w'.heap[K]? =some (xK #[x0,x1,x2,x3,x4,x5,x6,x7] 57)/\W2<=K):
 pN W2 c ⟨k,f,n,m,⟨tk,tf⟩,s1,s2⟩ K ((((((((w'.setCell (K,0) k).setCell (K,1) f).setCell (K,2) n).setCell (K,3) m).setCell (K,4) tk).setCell (K,5) tf).setCell (K,6) s1).setCell (K,7) s2):=
 ⟨kz hk.1 _ _ _ _ _ _ _ _,h1.o,h2.o,gj hj hk.2,hk.2⟩
end
def Oy(c:bI)(v:bt)(_:bq):Prop:=∃(x:bK)(ok:Bool),jR c x/\j8 c x=ok/\v= .tuple #[.agg #[x.bg,x.field,x.aX,x.more,x.type.bg,x.type.of,x.dO,x.cW],ok]
def GZ(W2:bq)(c:bI)(x:bK)(K:Nat)(wx:bq):Prop:=wx.heap[K]? =some (tQ x)/\jR c x/\bC W2 wx
def BW:∀s∈names9,bF (bL s)=true:=by decide
def qy {k:Nat}(h:k<6):bF (qO k)=true/\(qO k).data.toList∈names9/\(qO k).size<=maxLen:=by
 have h1:=Sp k h;have h2:=BW _ h1;rw[J0]at h2;exact⟨h2,h1,dD (xD h1)⟩
def fy(c:bI)(t:cq):pL c t ():= .inl rfl
def wm {c:bI}(hc:dE c){t:cq}(h:jb c t s):pL c t s:=by
 by_cases hs:s.data.toList=[]
 .exact .inl hs
 exact .inr (Dv hc.right hc.names h hs)
def Dx {W2 wx:bq}{c:bI}{k:Int}{f n m:bS}{t:cq}{s1 s2:bS}{K:Nat}(h:pN W2 c ⟨k,f,n,m,t,s1,s2⟩ K wx)(g:bS):pN W2 c ⟨k,g,n,m,t,s1,s2⟩ K (wx.drew.setCell (K,1) g):=by
 obtain⟨h1,h2,h3,h4,h5⟩:=h;refine⟨?_,h2,h3,h4.drew.setCell h5 _,h5⟩;have:=aA wx.drew K 1 _ _ g h1;simpa [tQ]using this
def Lo {W2 wx:bq}{c:bI}{k:Int}{f n m:bS}{t:cq}{s1 s2:bS}{K:Nat}(h:pN W2 c ⟨k,f,n,m,t,s1,s2⟩ K wx)(g:bS):pN W2 c ⟨k,g,n,m,t,s1,s2⟩ K (wx.setCell (K,1) g).drew:=Dx h g
def sC:(():bS).size<=maxLen:=by unfold maxLen;decide
abbrev Y4(w:bq)(K:Nat)(a b c d e f g h:bt):bq:=(((((((w.setCell (K,0) a).setCell (K,1) b).setCell (K,2) c).setCell (K,3) d).setCell (K,4) e).setCell (K,5) f).setCell (K,6) g).setCell (K,7) h
section
variable {W2 wx:bq}{c:bI}{p:Int}{fn:bS}{i j:Nat}{tk tf:Int}{s1 s2:bS}{K:Nat}
def cg1(h:pN W2 c ⟨p,fn,qO i,qO j,⟨tk,tf⟩,s1,s2⟩ K wx)(hc:dE c)(hf:fn.size<=20)(ht:bO ⟨tk,tf⟩=true)(hi:i<6)(hj:j<6):GZ W2 c ⟨1,(),qO i,(),⟨tk,tf⟩,s1,()⟩ K (Y4 wx K (xI 1) "" (qO i) "" tk tf s1 ""):=by
 obtain⟨h1,h2,h3,h4,h5⟩:=h;have t1:=wm hc h2;have⟨n1,n2,n3⟩:=qy hi;exact⟨kz h1 _ _ _ _ _ _ _ _,⟨⟨.inl ⟨rfl,rfl,rfl,rfl⟩,λ_=>n1,λh=>by simp at h,λ_=>ht,t1.oY,(fy _ _).oY,sC,n3,sC⟩,t1,fy _ _,λ_=>n2,λh=>by simp at h⟩,gj h4 h5⟩
def cg2(h:pN W2 c ⟨p,fn,qO i,qO j,⟨tk,tf⟩,s1,s2⟩ K wx)(hc:dE c)(hf:fn.size<=20)(ht:bO ⟨tk,tf⟩=true)(hi:i<6)(hj:j<6):GZ W2 c ⟨2,fn,(),(),⟨0,0⟩,(),()⟩ K (Y4 wx K (xI 2) fn "" "" (xI 0) (xI 0) "" ""):=by
 obtain⟨h1,h2,h3,h4,h5⟩:=h;exact⟨kz h1 _ _ _ _ _ _ _ _,⟨⟨.inr (.inl ⟨rfl,rfl,rfl,rfl,rfl,rfl⟩),λh=>by simp at h,λh=>by simp at h,λh=>by simp at h,(fy _ _).oY,(fy _ _).oY,dD hf,sC,sC⟩,fy _ _,fy _ _,λh=>by simp at h,λh=>by simp at h⟩,gj h4 h5⟩
def cg6(h:pN W2 c ⟨p,fn,qO i,qO j,⟨tk,tf⟩,s1,s2⟩ K wx)(hc:dE c)(hf:fn.size<=20)(ht:bO ⟨tk,tf⟩=true)(hi:i<6)(hj:j<6):GZ W2 c ⟨6,fn,(),(),⟨0,0⟩,(),()⟩ K (Y4 wx K (xI 6) fn "" "" (xI 0) (xI 0) "" ""):=by
 obtain⟨h1,h2,h3,h4,h5⟩:=h;exact⟨kz h1 _ _ _ _ _ _ _ _,⟨⟨.inr (.inr (.inr (.inr (.inr ⟨rfl,rfl,rfl,rfl,rfl,rfl⟩)))),λh=>by simp at h,λh=>by simp at h,λh=>by simp at h,(fy _ _).oY,(fy _ _).oY,dD hf,sC,sC⟩,fy _ _,fy _ _,λh=>by simp at h,λh=>by simp at h⟩,gj h4 h5⟩
def cg3(h:pN W2 c ⟨p,fn,qO i,qO j,⟨tk,tf⟩,s1,s2⟩ K wx)(hc:dE c)(hf:fn.size<=20)(ht:bO ⟨tk,tf⟩=true)(hi:i<6)(hj:j<6):GZ W2 c ⟨3,fn,qO i,(),⟨0,0⟩,(),()⟩ K (Y4 wx K (xI 3) fn (qO i) "" (xI 0) (xI 0) "" ""):=by
 obtain⟨h1,h2,h3,h4,h5⟩:=h;have⟨n1,n2,n3⟩:=qy hi;exact⟨kz h1 _ _ _ _ _ _ _ _,⟨⟨.inr (.inr (.inl ⟨rfl,rfl,rfl,rfl,rfl⟩)),λ_=>n1,λh=>by simp at h,λh=>by simp at h,(fy _ _).oY,(fy _ _).oY,dD hf,n3,sC⟩,fy _ _,fy _ _,λ_=>n2,λh=>by simp at h⟩,gj h4 h5⟩
def cg4(h:pN W2 c ⟨p,fn,qO i,qO j,⟨tk,tf⟩,s1,s2⟩ K wx)(hc:dE c)(hf:fn.size<=20)(ht:bO ⟨tk,tf⟩=true)(hi:i<6)(hj:j<6):GZ W2 c ⟨4,fn,(),(),⟨tk,tf⟩,s1,()⟩ K (Y4 wx K (xI 4) fn "" "" tk tf s1 ""):=by
 obtain⟨h1,h2,h3,h4,h5⟩:=h;have t1:=wm hc h2;exact⟨kz h1 _ _ _ _ _ _ _ _,⟨⟨.inr (.inr (.inr (.inl ⟨rfl,rfl,rfl,rfl⟩))),λh=>by simp at h,λh=>by simp at h,λ_=>ht,t1.oY,(fy _ _).oY,dD hf,sC,sC⟩,t1,fy _ _,λh=>by simp at h,λh=>by simp at h⟩,gj h4 h5⟩
def cg5(h:pN W2 c ⟨5,fn,qO i,qO j,⟨tk,tf⟩,s1,s2⟩ K wx)(hc:dE c)(hf:fn.size<=20)(ht:bO ⟨tk,tf⟩=true)(hi:i<6)(hj:j<6):GZ W2 c ⟨5,fn,qO i,qO j,⟨tk,tf⟩,s1,s2⟩ K wx:=by
 obtain⟨h1,h2,h3,h4,h5⟩:=h;have t1:=wm hc h2;have t2:=wm hc h3;have⟨n1,n2,n3⟩:=qy hi;have⟨m1,m2,m3⟩:=qy hj;exact⟨h1,⟨⟨.inr (.inr (.inr (.inr (.inl rfl)))),λ_=>n1,λ_=>m1,λ_=>ht,t1.oY,t2.oY,dD hf,n3,m3⟩,t1,t2,λ_=>n2,λ_=>m2⟩,h4⟩
end
set_option maxHeartbeats 40000000 in
theorem Dy(r:gW)(hr:I6 r.bg/\I6 r.field/\I6 r.aX/\I6 r.more/\I6 r.type.bg/\I6 r.type.of/\I6 r.dO/\I6 r.cW)(c:bI)(hc:dE c)(M:Nat->Prop)(w:World)(hM:Bd M w)(fv:Value)(hfs:aS M w fv c.aW)(WC:c.aW.length<=8)(hnm:∀f∈c.aW,f.aX.size<=20):
 xG 132 #[.agg #[r.bg,r.field,r.aX,r.more,r.type.bg,r.type.of,r.dO,r.cW], .agg #[c.aX,fv]] w (Oy c):=by
 have jL:=aV hfs;obtain⟨fa,fc,rfl,hlc,Jo,_⟩:=hfs.bj;obtain⟨g0,g1,g2,g3,g4,g5,g6,g7⟩:=hr;have HG0:=aV g0;clear g0;have C4:=aV g1;clear g1;have QX:=aV g2;clear g2;have Tv:=aV g3;clear g3;have HG4:=aV g4;clear g4;have HG5:=aV g5;clear g5;have HG6:=aV g6;clear g6;have HG7:=aV g7;clear g7;clear hfs;obtain⟨nm,fs⟩:=c;obtain⟨rk,rf,rn,rm,⟨tk,tf⟩,rx,ro⟩:=r;dsimp only at*;go_enter func132,ntmps132;go_wp2_with fail;have⟨W,hW⟩:=dd (((((w.alloc (xN ⟨rk,rf,rn,rm,⟨tk,tf⟩,rx,ro⟩)).alloc (dP nm (xL fa fs.length fc))).alloc (tQ ⟨0,(),(),(),⟨0,0⟩,(),()⟩)).alloc xM).alloc (Av ⟨tk,tf⟩));have HB:=aV (show Bx w [xN ⟨rk,rf,rn,rm,⟨tk,tf⟩,rx,ro⟩,dP nm (xL fa fs.length fc),tQ ⟨0,(),(),(),⟨0,0⟩,(),()⟩,xM,Av ⟨tk,tf⟩] W by rw[hW];exact Bx.Ou w _ _ _ _ _);unfold xN dP tQ xM Av at hW;rw[<-hW];clear hW;have hsz:=HB.o.cM;simp only[aC,aD]at hsz;refine(oy M W (hM.aT HB.o.1) ⟨0,[⟨0,tk,tf,false⟩]⟩ _ (GY hM HG4.o HG5.o (HB.o.X7 rfl) (by omega)) (J5)).mono ?_;rintro e w1⟨_,rfl,⟨d,hgd,WL,⟨_,rfl,⟨dv,rfl,hdf,_⟩⟩⟩,hb1⟩;have⟨t,ht⟩:=fg d.aW 0 (WL (by show 0<1;omega));have⟨b,off,cap,hdv,hbl,hcells⟩:=vd hdf ht;subst hdv;have HT:Hd (bO t.type=true):=Ow hgd ht;have⟨d0,d1,d2,d3⟩:=hcells w1 eH;have hdl:=WL (by show 0<1;omega);have cu:=aV (HB.o.aT hb1);clear hcells hgd WL hdf hb1 HB;obtain⟨⟨tn,⟨Gl,Gm⟩,ti⟩,BA⟩:∃t',t'=t:=⟨t,rfl⟩;subst BA;dsimp only at*;simp only[Nat.zero_mul,Nat.add_zero]at d0 d1 d2 d3;have hfd:∀(s:ByteArray)(a:Option Addr)(n cap:Nat)(w:World),(Instr.field 53 (.agg #[s,xL a n cap]) 1).run prog w= .ok (xL a n cap) w:=λ_ _ _ _ _=>by kernel_rfl
 go_upto_region 3 with fail;have⟨W2,hW2⟩:=dd (w1.alloc (Sq ⟨Gl,Gm⟩));have bZ:=aV (show Bx w [xN ⟨rk,rf,rn,rm,⟨tk,tf⟩,rx,ro⟩,dP nm (xL fa fs.length fc),tQ ⟨0,(),(),(),⟨0,0⟩,(),()⟩,xM,Av ⟨tk,tf⟩] W2 by rw[hW2];exact cu.o.alloc _);have QI:=aV (show W2.heap[w1.heap.size]? =some (Sq ⟨Gl,Gm⟩)by rw[hW2];exact az w1 _);have hT2:w1.heap.size<W2:=(ab.1 QI.o).1;have hs2:=bZ.o.cM;simp only[aC,aD]at hs2;unfold Sq at hW2;rw[<-hW2];clear hW2 d0 d1 d2 d3 cu;generalize w1.heap.size=T at*;have HS:Hd (∀W',bC W2 W'->CgS w rk rn rm rx ro Gl Gm nm (xL fa fs.length fc) T W'):=λW' hb=>cgS bZ.o QI.o hb;have Ur:Hd (∀W n,bC W2 W->I6 n->xC 203 #[xI n, .agg #[Gl,Gm], .agg #[nm,xL fa fs.length fc]] W (de W λv _=>∃s,v=xS s/\jb ⟨nm,fs⟩ ⟨Gl,Gm⟩ s)):=λW n hb hn=>GP M W ⟨nm,fs⟩ _ n ⟨Gl,Gm⟩ ((jL.o.aT bZ.o.1).aT hb) WC hn HT.o hnm;have HJ:Hd (bC W2 W2):=eH;have hp0:=dJ rk 6 (by omega);have hp1:=dJ rn 6 (by omega);have Gj:=dJ rm 6 (by omega);go_cut [8](λs8 wx=>∃(K:Nat)(s1 s2:ByteArray),s8=xP K/\Hd (pN W2 ⟨nm,fs⟩ ⟨1+(bW rk 6:Int),(),qO (bW rn 6),qO (bW rm 6),⟨Gl,Gm⟩,s1,s2⟩ K wx));case first=>
  have z1:(0:Int)<=(bW rn 6:Int):=an _;have z2:(bW rn 6:Int)<6:=by omega
  have z3:(0:Int)<=(bW rm 6:Int):=an _;have z4:(bW rm 6:Int)<6:=by omega
  have z5:IntKind.i64.wrap (1+(bW rk 6:Int))=1+(bW rk 6:Int):=aw _ (by omega);have⟨c0,c1,c2,c3,c4,c5,c6,c7,c8,c9,c10⟩:=HS.o W2 eH;go_region_held3(λw'=>w'.cell? (w,0)=some (xI rk)/\w'.cell? (w,2)=some (xI rn)/\w'.cell? (w,3)=some (xI rm)/\w'.cell? (w,6)=some (xI rx)/\w'.cell? (w,7)=some (xI ro)/\w'.cell? ([w,w,w],bW rn 6)=some (xS (qO (bW rn 6)))/\w'.cell? ([w,w,w],bW rm 6)=some (xS (qO (bW rm 6)))/\w'.cell? (T,0)=some (xI Gl)/\w'.cell? (T,1)=some (xI Gm)/\w'.cell? ([w],0)=some (xS nm)/\w'.cell? ([w],1)=some (xL fa fs.length fc))
   (with_reducible first|exact HS.o _ HJ.o|exact HS.o _ HJ.o.drew|exact HS.o _ (HJ.o.alloc HJ.o.size _)|exact HS.o _ ((HJ.o.alloc HJ.o.size _).drew)|exact HS.o _ gN.o|exact HS.o _ gN.o.drew|exact HS.o _ (gN.o.alloc gN.o.size _)|exact HS.o _ ((gN.o.alloc gN.o.size _).drew)|exact HS.o _ ee.o|exact HS.o _ ee.o.drew|exact HS.o _ (ee.o.alloc ee.o.size _)|exact HS.o _ ((ee.o.alloc ee.o.size _).drew)|exact HS.o _ (gj ee.o nW.o.2))
   (first
     |(go_at_call 202;refine(jw _ _ _ (by first|exact HG0.o|exact QX.o|exact Tv.o) (by omega) (by omega)).mono ?_;rintro e w'⟨rfl,rfl⟩)
     |(go_at_call 203;with_reducible refine(Ur.o _ rx (by with_reducible first|exact HJ.o|exact HJ.o.drew|exact HJ.o.alloc HJ.o.size _|exact(HJ.o.alloc HJ.o.size _).drew) HG6.o).mono ?_
       rintro e wa⟨_,rfl,⟨s1,rfl,hs1⟩,hb⟩;have HXa:=aV hs1;clear hs1;try(with_reducible(have CR:=aV (J6 HJ.o hb)))
       try(with_reducible(have CR:=aV (J7 HJ.o hb)))
       have gN:Hd (bC W2 wa):=(by with_reducible first|exact aV (Vj HJ.o hb)|exact aV (trB HJ.o hb)|exact aV (trC HJ.o hb)|exact aV (trD HJ.o hb));clear hb)
     |(go_at_call 203;with_reducible refine(Ur.o _ ro (by with_reducible first|exact gN.o|exact gN.o.drew|exact gN.o.alloc gN.o.size _|exact(gN.o.alloc gN.o.size _).drew) HG7.o).mono ?_
       rintro e wb⟨_,rfl,⟨s2,rfl,hs1⟩,hb⟩;have HXb:=aV hs1;clear hs1;try(with_reducible(have nW:=aV (Sr CR.o hb)))
       try(with_reducible(have nW:=aV (J6 gN.o hb)))
       try(with_reducible(have nW:=aV (J7 gN.o hb)))
       try with_reducible have k0:=(bz nW.o.1).1
       try with_reducible have k1:=(bz nW.o.1).2.1
       try with_reducible have k2:=(bz nW.o.1).2.2.1
       try with_reducible have k3:=(bz nW.o.1).2.2.2.1
       try with_reducible have k4:=(bz nW.o.1).2.2.2.2.1
       try with_reducible have k5:=(bz nW.o.1).2.2.2.2.2.1
       try with_reducible have k6:=(bz nW.o.1).2.2.2.2.2.2.1
       try with_reducible have k7:=(bz nW.o.1).2.2.2.2.2.2.2
       try with_reducible have y0:=aY nW.o.1 0
       try with_reducible have y1:=aY nW.o.1 1
       try with_reducible have y2:=aY nW.o.1 2
       try with_reducible have y3:=aY nW.o.1 3
       try with_reducible have y4:=aY nW.o.1 4
       try with_reducible have y5:=aY nW.o.1 5
       try with_reducible have y6:=aY nW.o.1 6
       try with_reducible have y7:=aY nW.o.1 7
       have ee:Hd (bC W2 wb):=(by with_reducible first|exact aV (Vj gN.o hb)|exact aV (trB gN.o hb)|exact aV (trC gN.o hb)|exact aV (trD gN.o hb));clear hb));all_goals(go_wp2;go_meet)
  .refine⟨_,s1,s2,rfl,?_⟩;exact aV (Ox HXa HXb ee.o)
  all_goals
   refine⟨_,s1,s2,rfl,?_⟩;exact aV (Vk HXa HXb ee.o nW.o)
 case rest=>
  obtain⟨K,s1,s2,rfl,HC⟩:=hcut;have⟨wx,hwx⟩:=dd (wc);subst hwx;have HKW:Hd (∀W',bC wx W'->CgS w rk rn rm rx ro Gl Gm nm (xL fa fs.length fc) T W'):=λW' hb=>HS.o W' (Vj HC.o.2.2.2.1 hb);have⟨c0,c1,c2,c3,c4,c5,c6,c7,c8,c9,c10⟩:=HKW.o wx eH;have⟨k0,k1,k2,k3,k4,k5,k6,k7⟩:=bz HC.o.1;have y1:=aY HC.o.1 1;have hr1:=(bz ((bZ.o.ej HC.o.2.2.2.1 (by have:=bZ.o.cM;exact this)).cP rfl)).2.1;go_upto_if 55 with fail;go_cut [](λwy=>∃fn:ByteArray,Hd (fn.size<=20/\pN W2 ⟨nm,fs⟩ ⟨1+(bW rk 6:Int),fn,qO (bW rn 6),qO (bW rm 6),⟨Gl,Gm⟩,s1,s2⟩ K wy));case first=>
   by_cases h0:0<fs.length
   .have hpf:=dJ rf fs.length h0;have⟨f,hf⟩:=fg fs (bW rf fs.length) hpf;have⟨bf,of,cf,hfv,hbf,hfc⟩:=vd jL.o hf;obtain⟨rfl,rfl⟩:=jk hfv;have q0:=(hfc wx (bZ.o.1.trans (HC.o.2.2.2.1.mono (by omega)))).1;have Ad:Hd (f.aX.size<=20):=hnm f (ai hf);have KN:Hd (∀W,xC 202 #[rf,xI (fs.length:Int)] W (j7 (xI (bW rf fs.length:Int)) W)):=λW=>by
     have h:=jw rf (fs.length:Int) W C4.o (by omega) (by omega);simpa using h
    clear hf hfv hfc;have z1:(0:Int)<=(bW rf fs.length:Int):=an _;have z2:(bW rf fs.length:Int)<(fs.length:Int):=by omega
    have hKW:=HC.o.2.2.2.2;have nK1:w≠K:=by omega
    have nK2:w.heap.size+1≠K:=by omega
    have nK3:bf≠K:=by omega
    go_wp2_with fail;go_region_law(first
     |(go_simp;go_at_call 202;refine(KN.o _).mono ?_;rintro e w'⟨rfl,rfl⟩));all_goals(go_wp2;go_meet)
    all_goals exact⟨f.aX,(show _/\pN _ _ _ _ _ from⟨Ad.o,by first|exact Dx HC.o f.aX|exact Lo HC.o f.aX⟩)⟩
   .go_wp2;go_meet;exact⟨⟨#[]⟩,(show _/\pN _ _ _ _ _ from⟨by decide,HC.o⟩)⟩
  case rest=>
   obtain⟨fn,HF⟩:=hcut;have⟨wy,hwy⟩:=dd (wc);subst hwy;clear c0 c1 c2 c3 c4 c5 c6 c7 c8 c9 c10 k0 k1 k2 k3 k4 k5 k6 k7 y1 hr1 HKW HC;have HC:Hd (pN W2 ⟨nm,fs⟩ ⟨1+(bW rk 6:Int),fn,qO (bW rn 6),qO (bW rm 6),⟨Gl,Gm⟩,s1,s2⟩ K wy):=HF.o.2;have Ad:Hd (fn.size<=20):=HF.o.1;have HX:Hd (dE ⟨nm,fs⟩):=hc;have⟨c0,c1,c2,c3,c4,c5,c6,c7,c8,c9,c10⟩:=HS.o wy HC.o.2.2.2.1;have hq:1<=1+(bW rk 6:Int)/\1+(bW rk 6:Int)<=6:=by omega
   generalize 1+(bW rk 6:Int)=p at*;obtain⟨hq1,hq2⟩:=hq;have⟨k0,k1,k2,k3,k4,k5,k6,k7⟩:=bz HC.o.1;go_upto_block 0 with fail;go_cut [](λwz=>∃x:bK,Hd (GZ W2 ⟨nm,fs⟩ x K wz));case rest=>
    obtain⟨x,HD⟩:=hcut;have⟨W6,hW6⟩:=dd (wc);subst hW6;clear c0 c1 c2 c3 c4 c5 c6 c7 c8 c9 c10 k0 k1 k2 k3 k4 k5 k6 k7 HC HF;obtain⟨⟨xk,xf,xn,xm,⟨xt,xo⟩,xe,xz⟩,hx⟩:∃y,y=x:=⟨x,rfl⟩;subst hx;have⟨m0,m1,m2,m3,m4,m5,m6,m7⟩:=bz HD.o.1;have⟨c0,c1,c2,c3,c4,c5,c6,c7,c8,c9,c10⟩:=HS.o W6 HD.o.2.2;have dp:=aV (bZ.o.ej HD.o.2.2 (by have:=bZ.o.cM;exact this));have⟨b,hb⟩:=js (j8 ⟨nm,fs⟩ ⟨xk,xf,xn,xm,⟨xt,xo⟩,xe,xz⟩);have KL:=aV (u4 ⟨nm,fs⟩ ⟨xk,xf,xn,xm,⟨xt,xo⟩,xe,xz⟩ HD.o.2.1.pre HX.o.right (dD HX.o.small) b hb M W6.drew (hM.aT (w':=W6) dp.o.1) (xL fa fs.length fc) ((jL.o.aT dp.o.1).ev ((Ev.refl _ _).drew)));have BB:=aV hb;clear hb;clear c0 c1 c2 c3 c4 c5 c6 c7 c8;have HSD:Hd (∀W',Below W6.drew.heap.size W6.drew W'->(W'.cell? (K,0)=some (xI xk)/\W'.cell? (K,1)=some (xS xf)/\W'.cell? (K,2)=some (xS xn)/\W'.cell? (K,3)=some (xS xm)/\W'.cell? (K,4)=some (xI xt)/\W'.cell? (K,5)=some (xI xo)/\W'.cell? (K,6)=some (xS xe)/\W'.cell? (K,7)=some (xS xz)/\W'.cell? ([w],0)=some (xS nm)/\W'.cell? ([w],1)=some (xL fa fs.length fc))):=λW' hb=>by
     have hk:=(hb.block K (ab.1 HD.o.1).1).trans HD.o.1;have⟨m0,m1,m2,m3,m4,m5,m6,m7⟩:=bz hk;have⟨r0,r1⟩:=aZ ((dp.o.drew.aT hb).cZ rfl);exact⟨m0,m1,m2,m3,m4,m5,m6,m7,r0,r1⟩
    go_upto_region 15 with fail;go_region_law(first
     |(go_simp;go_at_call 204;refine KL.o.mono ?_;rintro e w7⟨rfl,hbr⟩;have og:=aV (dp.o.drew.aT hbr);have KO:=aV (HSD.o w7 hbr);have t0:=KO.o.1;have t1:=KO.o.2.1;have t2:=KO.o.2.2.1;have t3:=KO.o.2.2.2.1;have t4:=KO.o.2.2.2.2.1;have t5:=KO.o.2.2.2.2.2.1;have t6:=KO.o.2.2.2.2.2.2.1;have t7:=KO.o.2.2.2.2.2.2.2.1;have g0:=(bz (og.o.im rfl)).1;have g1:=(bz (og.o.im rfl)).2.1;have g2:=(bz (og.o.im rfl)).2.2.1;have g3:=(bz (og.o.im rfl)).2.2.2.1;have g4:=(bz (og.o.im rfl)).2.2.2.2.1;have g5:=(bz (og.o.im rfl)).2.2.2.2.2.1;have g6:=(bz (og.o.im rfl)).2.2.2.2.2.2.1;have g7:=(bz (og.o.im rfl)).2.2.2.2.2.2.2;have⟨f0,f1,f2,f3,f4,f5,f6,f7⟩:=xf8 (og.o.im rfl);clear hbr));all_goals
     go_wp2_with fail;refine ah (v:= .tuple #[.agg #[xk,xf,xn,xm,xt,xo,xe,xz],b]) (by simp[results,results132,go_sem,g0,g1,g2,g3,g4,g5,g6,g7]) rfl ⟨_,rfl,(show Oy _ _ _ from⟨⟨xk,xf,xn,xm,⟨xt,xo⟩,xe,xz⟩,b,HD.o.2.1,BB.o,rfl⟩),?_⟩;exact gj og.o.1 (by show w.heap.size<=[w,w];omega)
   clear k0 k1 k2 k3 k4 k5 k6 k7;obtain rfl|rfl|rfl|rfl|rfl|rfl:p=1\/p=2\/p=3\/p=4\/p=5\/p=6:=by omega
   all_goals
    have⟨k0,k1,k2,k3,k4,k5,k6,k7⟩:=bz HC.o.1;have⟨y0,y1,y2,y3,y4,y5,y6,y7⟩:=xf8 HC.o.1;go_wp2;go_meet
   .exact⟨_,aV (cg1 HC.o HX.o Ad.o HT.o hp1 Gj)⟩
   .exact⟨_,aV (cg2 HC.o HX.o Ad.o HT.o hp1 Gj)⟩
   .exact⟨_,aV (cg3 HC.o HX.o Ad.o HT.o hp1 Gj)⟩
   .exact⟨_,aV (cg4 HC.o HX.o Ad.o HT.o hp1 Gj)⟩
   .exact⟨_,aV (cg5 HC.o HX.o Ad.o HT.o hp1 Gj)⟩
   .exact⟨_,aV (cg6 HC.o HX.o Ad.o HT.o hp1 Gj)⟩
def OA:∀s∈mS,s.data.toList∈names9:=by decide
def mI(h:jO c):dE c:=⟨h.1,λf hf=>OA _ (h.2.2.1 f hf),(ja _ h.2.2.2).2⟩
def BY(n:Int)(fv cv:bt):Obj:=xK #[n,fv,cv] 154
def Dz {l:List gW}(h:aS M w cv l){x:gW}(hx:l[k]? =some x):∃b off cap,cv=xL (b,off) l.length cap/\b<w.heap.size/\(I6 x.bg/\I6 x.field/\I6 x.aX/\I6 x.more/\I6 x.type.bg/\I6 x.type.of/\I6 x.dO/\I6 x.cW)/\∀W,bC w W->cC W b (off+k*8) x.bg/\cC W b (off+k*8+1) x.field/\cC W b (off+k*8+2) x.aX/\cC W b (off+k*8+3) x.more/\cC W b (off+k*8+4) x.type.bg/\cC W b (off+k*8+5) x.type.of/\cC W b (off+k*8+6) x.dO/\cC W b (off+k*8+7) x.cW:=by
 obtain⟨a,cap,rfl,hl,_,hc⟩:=h.bj;have hk:=(ag.1 hx).1;obtain⟨b,off,rfl,_,hb,hcell⟩:=hc (by omega);obtain⟨cs,⟨rfl,hi⟩,hcs⟩:=hcell k x hx;refine⟨b,off,cap,rfl,hb,hi,λW hB=> ?_⟩;have g:∀j u,([xI x.bg,xI x.field,xI x.aX,xI x.more,xI x.type.bg,xI x.type.of,xI x.dO,xI x.cW]:List bt)[j]? =some u->cC W b (off+k*8+j) u:=λj u hu=>(hB.cell (p:=⟨b,off+k*8+j,none⟩) hb).trans (hcs j u hu);exact⟨g 0 _ rfl,g 1 _ rfl,g 2 _ rfl,g 3 _ rfl,g 4 _ rfl,g 5 _ rfl,g 6 _ rfl,g 7 _ rfl⟩
def rS(M:bY)(w:bq)(K:Nat):Nat->Prop:=λi=>eo M w 2 i\/i=K
structure xT(M:bY)(w w1:bq)(o0 o1:Obj)(c:bI)(fv:bt)(K k n:Nat)(a:fM)(cap:Nat)(chs:List bK)(d:bI)(wr:bq):Prop where
 cok:dX c chs d
 len:chs.length=n
 le:n<=k
 blk:wr.heap[K]? =some (dG c.aX fv (xL a n cap))
 acc:bP (rS M w K) (K+1) 57 wr (xL a n cap) chs
 fs0:aS (eo M w 2) w1 fv c.aW
 low:Below K w1 wr
 kw:K=w1
 bx:Bx w [o0,o1] wr
 hK:↑w+2<=K
def xT.aT {n:Nat}{chs:List bK}(h:xT M w w1 o0 o1 c fv K k n a cap chs d wr)(hb:bC wr wx):xT M w w1 o0 o1 c fv K k n a cap chs d wx:=
 ⟨h.cok,h.len,h.le,(hb.block K (ab.1 h.blk).1).trans h.blk,h.acc.aT hb,h.fs0,h.low.trans (hb.mono (by have:=(ab.1 h.blk).1;omega)),h.kw,h.bx.aT hb,h.hK⟩
def xT.fs {n:Nat}{chs:List bK}(h:xT M w w1 o0 o1 c fv K k n a cap chs d wr):aS (rS M w K) wr fv c.aW:=
 h.fs0.ev ⟨bh.bA (by rw[<-h.kw];exact h.low),λi hi=>hi.imp_right λe=>by rw[e,h.kw];exact cN⟩
def xT.next {n:Nat}{chs:List bK}(h:xT M w w1 o0 o1 c fv K k n a cap chs d wr):xT M w w1 o0 o1 c fv K (k+1) n a cap chs d wr:=
 ⟨h.cok,h.len,Nat.le_succ_of_le h.le,h.blk,h.acc,h.fs0,h.low,h.kw,h.bx,h.hK⟩
def uu(hM:Bd M w)(hK:↑w+2<=K):∀i,rS M w K i->i<K+1:=λi hi=>by
 rcases hi with(hi|hi)|hi
 .have:=hM i hi;omega
 .omega
 omega
structure G6(d:bI)(x:bK)(ok:Bool)(wr:bq)(K5:Nat)(wx:bq):Prop where
 blk:wx.heap[K5]? =some (tQ x)
 gen:jR d x
 ok:j8 d x=ok
 aT:bC wr wx
 hK:wr<=K5
def BZ {k:Int}{f n m:bS}{ok:Bool}(h1:Hd (jR d ⟨k,f,n,m,⟨tk,tf⟩,s1,s2⟩))(h2:Hd (j8 d ⟨k,f,n,m,⟨tk,tf⟩,s1,s2⟩=ok))(hj:bC wr w'):G6 d ⟨k,f,n,m,⟨tk,tf⟩,s1,s2⟩ ok wr w' (w'.alloc (xK #[k,f,n,m,tk,tf,s1,s2] 57)):=
 ⟨az w' _,h1.o,h2.o,hj.alloc hj.size _,hj.size⟩
def G7 {k:Int}{f n m:bS}{ok:Bool}{x0 x1 x2 x3 x4 x5 x6 x7:bt}(h1:Hd (jR d ⟨k,f,n,m,⟨tk,tf⟩,s1,s2⟩))(h2:Hd (j8 d ⟨k,f,n,m,⟨tk,tf⟩,s1,s2⟩=ok))(hj:bC wr w')(hk:w'.heap[K]? =some (xK #[x0,x1,x2,x3,x4,x5,x6,x7] 57)/\wr<=K):
 G6 d ⟨k,f,n,m,⟨tk,tf⟩,s1,s2⟩ ok wr K ((((((((w'.setCell (K,0) k).setCell (K,1) f).setCell (K,2) n).setCell (K,3) m).setCell (K,4) tk).setCell (K,5) tf).setCell (K,6) s1).setCell (K,7) s2):=
 ⟨kz hk.1 _ _ _ _ _ _ _ _,h1.o,h2.o,gj hj hk.2,hk.2⟩
def DA {t:cq}(h:pL c t s):s.size<=maxLen:=by
 rcases h with h|⟨x,hx⟩
 .have h0:s.size=0:=by rw[<-cH,h];rfl
  rw[h0];exact ax _
 have h1:=hx.parse;unfold fj at h1;split at h1
 .cases h1
 split at h1
 .split at h1
  .rename_i hh;have:=hh.1;rw[cH]at this;unfold maxLen;omega
  cases h1
 cases h1
def Lq {k:Int}{f n m:bS}(h:jR d ⟨k,f,n,m,⟨tk,tf⟩,s1,s2⟩)(M:bY)(w:bq):bD.rep (α:=bK) M w [xI k,xS f,xS n,xS m,xI tk,xI tf,xS s1,xS s2] ⟨k,f,n,m,⟨tk,tf⟩,s1,s2⟩:=
 ⟨rfl,h.pre.s1,h.pre.s2,h.pre.s3,DA h.dO,DA h.cW⟩
abbrev LnS(w:bq)(b off k K:Nat)(r:gW)(cv fv lv:bt)(nm:bS)(w':bq):Prop:=w'.cell? (w,2)=some cv/\w'.cell? (b,off+k*8)=some (xI r.bg)/\w'.cell? (b,off+k*8+1)=some (xI r.field)/\w'.cell? (b,off+k*8+2)=some (xI r.aX)/\w'.cell? (b,off+k*8+3)=some (xI r.more)/\w'.cell? (b,off+k*8+4)=some (xI r.type.bg)/\w'.cell? (b,off+k*8+5)=some (xI r.type.of)/\w'.cell? (b,off+k*8+6)=some (xI r.dO)/\w'.cell? (b,off+k*8+7)=some (xI r.cW)/\w'.cell? (K,0)=some (xS nm)/\w'.cell? (K,1)=some fv/\w'.cell? (K,2)=some lv
def Lr(x:iZ)(hxn:I6 x.dz.aX)(M:bY)(w:bq)(hM:Bd M w)(fv cv:bt)(hfs:aS M w fv x.dz.aW)(hcs:aS M w cv x.bo):
 xG 53 #[.agg #[x.dz.aX,fv,cv]] w λv w'=>∃l:bQ,ff l/\jO l.bu/\dq M w' v l:=by
 have⟨i0,hi0,hz0,hz1,hz2⟩:=info_parts u9;have jL:=aV hfs;have zj:Hd (∀k r,x.bo[k]? =some r->_):=λk r h=>Dz hcs h;have WM:Hd (∀W,Bx w [BY x.dz.aX fv cv,dG () () ()] W->_):=λW hB=>oy (eo M w 2) W (dZ hM hB.cM) x.dz fv (jL.o.ev (dH hB.1)) hxn;obtain⟨fa,fc,rfl,hlc,Jo,_⟩:=hfs.bj;obtain⟨ca,cc,rfl,WJ,WK,_⟩:=hcs.bj;clear hfs hcs;obtain⟨⟨xn,xfs⟩,Sa⟩:=x;dsimp only at*;delta xG;go_in;go_wp2_with fail;refine(WM.o _ (Bx.ei w _ _)).mono ?_;rintro e w1⟨_,rfl,⟨c,FU,_,⟨_,rfl,⟨fv1,rfl,hsl,_⟩⟩⟩,hb1⟩;obtain⟨ya,yc,rfl,_⟩:=hsl.bj;have cu:=aV ((Bx.ei w (BY xn (xL fa xfs.length fc) (xL ca Sa.length cc)) (dG () () ())).aT hb1);have Tw:=aV FU;have gS:=aV hsl;have s1:=cu.o.cM;simp only[aC,aD]at s1;clear hsl FU hb1;go_wp2_with fail;obtain⟨nm,zm⟩:=c;dsimp only at*;have⟨K,hK⟩:=dd (w1.heap.size);have iG:Hd (xT M w w1 (BY xn (xL fa xfs.length fc) (xL ca Sa.length cc)) (dG () () ()) ⟨nm,zm⟩ (xL ya zm.length yc) K 0 0 none 0 [] ⟨nm,zm⟩ (w1.alloc (xK #[nm,xL ya zm.length yc,()] 72))):=⟨.nil _,rfl,cN,by rw[hK];exact az w1 _,bP.nil _ _ _ _,gS.o,eH.alloc (Nat.le_of_eq hK) _,hK,cu.o.alloc _,by omega⟩;rw[<-hK];have⟨W1,hW1⟩:=dd (w1.alloc (xK #[nm,xL ya zm.length yc,()] 72));rw[<-hW1]at iG⊢;clear hW1 hK cu gS;go_loopg [4,5,6]5(λg iv _ _ wr=>∃(k n cap:Nat)(a:fM)(chs:List bK)(d:bI),k<=Sa.length/\k<=5/\g=5-k/\iv=xI k/\Hd (xT M w w1 (BY xn (xL fa xfs.length fc) (xL ca Sa.length cc)) (dG () () ()) ⟨nm,zm⟩ (xL ya zm.length yc) K k n a cap chs d wr));exact⟨0,0,0,none,[],_,ax _,by omega,rfl,rfl,iG⟩;obtain⟨k,n,cap,a,chs,d,hk,Yc,rfl,rfl,HS⟩:=hrel;have⟨l0,l1,l2⟩:=bM (HS.o.bx.cP rfl);have⟨o0,o1,o2⟩:=bM HS.o.blk;have RV:K<wr:=(ab.1 HS.o.blk).1;have WN:=HS.o.hK;have qgg:w≠K:=by omega
 have qdd:w.heap.size+1≠K:=by omega
 have po:Hd (∀W',W'=((wr.setCell ([w],0) nm).setCell ([w],1) (xL ya zm.length yc)).setCell ([w],2) (xL a n cap)->(∃l:bQ,ff l/\jO l.bu/\dq M W' (.agg #[nm,xL ya zm.length yc,xL a n cap]) l)/\bC w W'):=λW' hW'=>by
  have hle:=HS.o.le;have hln:=HS.o.len;have E:Ev (rS M w K) wr M W':=by
   rw[hW'];exact(((Ev.eO wr λi hi=> .inl (.inl hi)).setCell (.inl (.inl (.inr ⟨by simp,by simp⟩))) _).setCell (.inl (.inl (.inr ⟨by simp,by simp⟩))) _).setCell (.inl (.inl (.inr ⟨by simp,by simp⟩))) _
  refine⟨⟨⟨⟨nm,zm⟩,chs⟩,⟨mI Tw.o,by show chs.length<=12;omega,d,HS.o.cok⟩,Tw.o,_,rfl,_,_,rfl,HS.o.fs.ev E,?_,dD (ja _ Tw.o.2.2.2).2⟩,?_⟩
  .exact(HS.o.acc.slice (uu hM WN)).ev E
  rw[hW'];exact((HS.o.bx.1.setCell (by simp) _).setCell (by simp) _).setCell (by simp) _
 by_cases cE:k<Sa.length;rotate_left
 .have⟨r0,r1,r2⟩:=bM (HS.o.bx.cZ rfl);have⟨g0,g1⟩:=nZ (HS.o.bx.cZ rfl);have g2:=aY (HS.o.bx.cZ rfl) 2;go_wp2_with fail;exact ah (v:= .agg #[nm,xL ya zm.length yc,xL a n cap]) (by simp[results,results53,go_sem,r0,r1,r2]) rfl ⟨_,rfl,po.o _ rfl⟩
 by_cases Wt:k<5
 .have⟨r,hr⟩:=fg Sa k cE;have⟨b,off,cap',hcv,hbl,hI,hcells⟩:=zj.o k r hr;obtain⟨rfl,rfl⟩:=jk hcv;have Wl:Hd (dE d):=HS.o.cok.ok (mI Tw.o);have HD8:Hd (d.aW.length<=8):=((fe _).1 Wl.o.right).2.1;have HDN:Hd (d.aX=nm):=HS.o.cok.aX;have nk:Hd (∀W,bC wr W->Bd (rS M w K) W):=λW hb i hi=>by have:=uu hM WN i hi;have:=hb.size;omega
  have hn5:chs.length<=12:=by have:=HS.o.le;have:=HS.o.len;omega
  have HNW:Hd (∀W,bC wr W->xC 133 #[.agg #[nm,xL ya zm.length yc,xL a n cap]] W (de W λv w'=>∃kF,v= .agg #[nm,kF]/\aS (rS M w K) w' kF d.aW)):=λW hb=>Ln ⟨⟨nm,zm⟩,chs⟩ d (mI Tw.o) HS.o.cok hn5 (rS M w K) W (nk.o W hb) (xL ya zm.length yc) (xL a n cap) (HS.o.fs.aT hb) ((HS.o.acc.slice (uu hM WN)).aT hb);have HCH:Hd (∀W kF,bC wr W->aS (rS M w K) W kF d.aW->xC 132 #[.agg #[r.bg,r.field,r.aX,r.more,r.type.bg,r.type.of,r.dO,r.cW], .agg #[nm,kF]] W (de W (Oy d))):=λW kF hb hs=>by
   have h:=Dy r hI d Wl.o (rS M w K) W (nk.o W hb) kF hs HD8.o (λf hf=>xD (Wl.o.names f hf));rw[HDN.o]at h;exact h
  have nS:Hd (∀W',bC wr W'->LnS w b off k K r (xL (b,off) Sa.length cc) (xL ya zm.length yc) (xL a n cap) nm W'):=λW' hb=>by
   have⟨q0,q1,q2,q3,q4,q5,q6,q7⟩:=hcells W' (HS.o.bx.aT hb).1;have⟨_,_,l2⟩:=bM ((HS.o.bx.aT hb).cP rfl);have⟨o0,o1,o2⟩:=bM ((hb.block K RV).trans HS.o.blk);exact⟨l2,q0,q1,q2,q3,q4,q5,q6,q7,o0,o1,o2⟩
  have⟨c0,c1,c2,c3,c4,c5,c6,c7,c8,c9,c10,c11⟩:=nS.o wr eH;have HJ:Hd (bC wr wr):=eH;clear hr hcv hcells hI;obtain⟨rk,rf,rn,rm,⟨tk,tf⟩,rx,ro⟩:=r;dsimp only at*;go_upto_region 5 with fail;go_cut [5,6](λs5 s6 wx=>∃(K5:Nat)(x:bK)(ok:Bool),s5=xP K5/\s6=xB ok/\Hd (G6 d x ok wr K5 wx))
  .go_region_held3(λw'=>w'.cell? (w,2)=some (xL (b,off) Sa.length cc)/\w'.cell? (b,off+k*8)=some (xI rk)/\w'.cell? (b,off+k*8+1)=some (xI rf)/\w'.cell? (b,off+k*8+2)=some (xI rn)/\w'.cell? (b,off+k*8+3)=some (xI rm)/\w'.cell? (b,off+k*8+4)=some (xI tk)/\w'.cell? (b,off+k*8+5)=some (xI tf)/\w'.cell? (b,off+k*8+6)=some (xI rx)/\w'.cell? (b,off+k*8+7)=some (xI ro)/\w'.cell? (K,0)=some (xS nm)/\w'.cell? (K,1)=some (xL ya zm.length yc)/\w'.cell? (K,2)=some (xL a n cap))
    (with_reducible first|exact nS.o _ HJ.o|exact nS.o _ HJ.o.drew|exact nS.o _ (HJ.o.alloc HJ.o.size _)|exact nS.o _ ((HJ.o.alloc HJ.o.size _).drew)|exact nS.o _ gN.o|exact nS.o _ gN.o.drew|exact nS.o _ (gN.o.alloc gN.o.size _)|exact nS.o _ ((gN.o.alloc gN.o.size _).drew)|exact nS.o _ ee.o|exact nS.o _ ee.o.drew|exact nS.o _ (ee.o.alloc ee.o.size _)|exact nS.o _ ((ee.o.alloc ee.o.size _).drew)|exact nS.o _ (gj ee.o nW.o.2))
    (first
      |(go_at_call 133;with_reducible refine(HNW.o _ (by with_reducible first|exact HJ.o|exact HJ.o.drew|exact HJ.o.alloc HJ.o.size _|exact(HJ.o.alloc HJ.o.size _).drew)).mono ?_
        rintro e wa⟨_,rfl,⟨kF,rfl,hsl⟩,hb⟩;have HZL:=aV hsl;clear hsl;try(with_reducible(have CR:=aV (J6 HJ.o hb)))
        try(with_reducible(have CR:=aV (J7 HJ.o hb)))
        have gN:Hd (bC wr wa):=(by with_reducible first|exact aV (Vj HJ.o hb)|exact aV (trB HJ.o hb)|exact aV (trC HJ.o hb)|exact aV (trD HJ.o hb));clear hb)
      |(go_at_call 132;with_reducible refine(HCH.o _ _ (by with_reducible first|exact gN.o|exact gN.o.drew|exact gN.o.alloc gN.o.size _|exact(gN.o.alloc gN.o.size _).drew) (by with_reducible first|exact HZL.o|exact HZL.o.aT cU)).mono ?_
        rintro e wb⟨_,rfl,⟨⟨xk,xf,Tx,xm,⟨xt,xo⟩,xe,xz⟩,ok,qae,hok,rfl⟩,hb⟩;have qaf:=aV qae;have qag:=aV hok;clear qae hok;try(with_reducible(have nW:=aV (Sr CR.o hb)))
        try(with_reducible(have nW:=aV (J6 gN.o hb)))
        try(with_reducible(have nW:=aV (J7 gN.o hb)))
        try with_reducible have k0:=(bz nW.o.1).1
        try with_reducible have k1:=(bz nW.o.1).2.1
        try with_reducible have k2:=(bz nW.o.1).2.2.1
        try with_reducible have k3:=(bz nW.o.1).2.2.2.1
        try with_reducible have k4:=(bz nW.o.1).2.2.2.2.1
        try with_reducible have k5:=(bz nW.o.1).2.2.2.2.2.1
        try with_reducible have k6:=(bz nW.o.1).2.2.2.2.2.2.1
        try with_reducible have k7:=(bz nW.o.1).2.2.2.2.2.2.2
        try with_reducible have y0:=aY nW.o.1 0
        try with_reducible have y1:=aY nW.o.1 1
        try with_reducible have y2:=aY nW.o.1 2
        try with_reducible have y3:=aY nW.o.1 3
        try with_reducible have y4:=aY nW.o.1 4
        try with_reducible have y5:=aY nW.o.1 5
        try with_reducible have y6:=aY nW.o.1 6
        try with_reducible have y7:=aY nW.o.1 7
        have ee:Hd (bC wr wb):=(by with_reducible first|exact aV (Vj gN.o hb)|exact aV (trB gN.o hb)|exact aV (trC gN.o hb)|exact aV (trD gN.o hb));clear hb));all_goals(go_wp2;go_meet)
   .refine⟨_,⟨xk,xf,Tx,xm,⟨xt,xo⟩,xe,xz⟩,ok,rfl,rfl,?_⟩;exact aV (BZ qaf qag ee.o)
   all_goals
    refine⟨_,⟨xk,xf,Tx,xm,⟨xt,xo⟩,xe,xz⟩,ok,rfl,rfl,?_⟩;exact aV (G7 qaf qag ee.o nW.o)
  obtain⟨K5,x,ok,rfl,rfl,HD⟩:=hcut;have⟨wx,hwx⟩:=dd (wc);subst hwx;clear c0 c1 c2 c3 c4 c5 c6 c7 c8 c9 c10 c11 l0 l1 l2 o0 o1 o2;have iy:=aV (HS.o.aT HD.o.aT);have qgh:=HD.o.hK;have hxl:K5<wx:=(ab.1 HD.o.blk).1;have⟨o0,o1,o2⟩:=bM iy.o.blk;have f2:=aY iy.o.blk 2;cases ok with
  |false=>
   go_wp2;go_roundg(5-(k+1));exact⟨k+1,n,cap,a,chs,d,by omega,by omega,rfl,by go_num,(iy.o.next)⟩;omega
  |true=>
   obtain⟨⟨xk,xf,Tx,xm,⟨xt,xo⟩,xe,xz⟩,hx⟩:∃y,y=x:=⟨x,rfl⟩;subst hx;have⟨m0,m1,m2,m3,m4,m5,m6,m7⟩:=bz HD.o.blk;have lp:=aV iy.o.len;have fR:Hd (bD.rep (α:=bK) (cz (xL a n cap) (rS M w K)) (wx.alloc (xK #[xk,xf,Tx,xm,xt,xo,xe,xz] 57)) [xI xk,xS xf,xS Tx,xS xm,xI xt,xI xo,xS xe,xS xz] ⟨xk,xf,Tx,xm,⟨xt,xo⟩,xe,xz⟩):=Lq HD.o.gen _ _;have qgi:n<=5:=by have:=iy.o.le;omega
   have hKx:K<wx:=by omega
   go_wp2_with(at_builtin;refine cA (α:=bK) rfl _ _ _ rfl (rS M w K) (K+1) 57 i0 _ 104 underlying70 hi0 hz0 hz1 hz2 rfl (by decide) (.slice a n cap) chs rfl (iy.o.acc.alloc _) (λ_=>True) _ _ ⟨xk,xf,Tx,xm,⟨xt,xo⟩,xe,xz⟩ rfl (dj _ _ _ _ rfl trivial) fR.o (by rw[lp.o];unfold maxLen;omega) (by rw[lp.o];omega) (by simp;omega) ?_;rw[lp.o];intro a2 c2 w2 cF eD cJ;have dR:=aV cF;have qgj:=aV eD;have bZ:=aV cJ;have jM:Hd (cX w2 K (dG nm (xL ya zm.length yc) (xL a n cap))):=(cJ.block K (by omega)).trans ((aB wx _ K hKx).trans iy.o.blk);have p2:=(bM jM.o).2.2;have g2:=aY jM.o 2;clear cF eD cJ);go_roundg(5-(k+1));case measure=>omega
   case rel=>
    refine⟨k+1,n+1,c2,a2,chs++[⟨xk,xf,Tx,xm,⟨xt,xo⟩,xe,xz⟩],dk d ⟨xk,xf,Tx,xm,⟨xt,xo⟩,xe,xz⟩,by omega,by omega,rfl,by go_num,?_⟩;refine(show xT _ _ _ _ _ _ _ _ _ _ _ _ _ _ _ from⟨iy.o.cok.snoc HD.o.gen HD.o.ok,by simp[lp.o],by have:=iy.o.le;omega,?_,?_,?_,?_,?_,?_,WN⟩)
    .have:=aA w2 K 2 _ _ (xL a2 (n+1) c2) jM.o;simpa [dG]using this
    .exact dR.o.ue (p:=⟨K,2,none⟩) (.inr rfl) (by show K<K+1;omega) _
    .exact iy.o.fs0
    .exact(((iy.o.low.alloc (by omega) _).trans (bZ.o.mono (by omega))).setCell (ae K) _)
    .exact iy.o.kw
    exact((iy.o.bx.alloc _).ej bZ.o (by simp;omega)).ej (B:=K) (eH.setCell (ae K) _) (by simp;omega)
 have⟨r0,r1,r2⟩:=bM (HS.o.bx.cZ rfl);have⟨g0,g1⟩:=nZ (HS.o.bx.cZ rfl);have g2:=aY (HS.o.bx.cZ rfl) 2;go_wp2_with fail;exact ah (v:= .agg #[nm,xL ya zm.length yc,xL a n cap]) (by simp[results,results53,go_sem,r0,r1,r2]) rfl ⟨_,rfl,po.o _ rfl⟩
def xU(k n:Int)(a:fM)(cap:Nat)(w:bq):
 xC 118 #[.agg #[k,n,"",xL a 0 cap]] w (di true w):=by
 delta xC;go_in;go_wp2;go_ret;exact⟨rfl,cU⟩
def DC(n:Int)(h1:1<=n)(h2:n<=100000)(w:bq):xC 120 #[n] w (j7 true w):=by
 delta xC;go_in;go_wp2;go_ret;exact⟨rfl,rfl⟩
def Lx(r:Int)(h1:32<=r)(h2:(r !=127)=true)(w:bq):xC 192 #[.int .i32 r] w (j7 true w):=by
 delta xC;go_in;go_wp2;go_ret;exact⟨rfl,rfl⟩
def zH(s:bS)(h:il s)(w:bq)(hT:Tb w):xC 119 #[s] w (di true w):=by
 have HT:=aV hT;have qgk:=h.1;have HS:=aV h.2;have HV:Hd (∀W,Tb W->_):=λW hT=>by
  have h1:=Ls s W (by omega) hT;rw[DB HS.o]at h1;exact h1
 delta xC;go_in;go_wp2_with fail;refine dx (HV.o _ HT.o) λw1 hb1=> ?_;have cu:=aV hb1;go_wp2;go_loopg [4](s.size+1)(λg _ wr=>∃p:Nat,p<=s.size/\g=s.size+1-p/\wr=w1.iter s p/\Hd (qP s p));exact⟨0,ax _,rfl,rfl,(ux HS.o)⟩;obtain⟨p,hp,rfl,rfl,HA⟩:=hrel;by_cases cE:p<s.size
 .have⟨r,k,hd,hk,hA2⟩:=HA.o.step cE;have hn:=run_next_any (P:=prog) w1 s p 0 cE;rw[hd]at hn;dsimp only at hn;have RR:(32:Int)<=(r:Int):=by omega
  have qdl:((r:Int)!=127)=true:=by simp;omega
  have hk1:1<=k:=by omega
  have hA3:=hA2.1;have lJ:=aV hA2;go_wp2_with fail;refine ey (Lx _ RR qdl _) ?_;go_wp2;go_roundg(s.size+1-(p+k));exact⟨p+k,hA3,rfl,rfl,lJ⟩;omega
 have hn:=run_next_end (P:=prog) w1 s p 0 cE;go_wp2;go_ret;exact⟨rfl,cu.o.alloc cu.o.size _⟩
def Ly(a:fM)(cap:Nat)(w:bq):
 xC 49 #[.agg #[xI 0,xI 0,"",xL a 0 cap]] w (di true w):=by
 delta xC;go_in;go_wp2_with fail;refine dx (xU _ _ _ _ _) λw1 hb1=> ?_;have⟨g0,g1,g2,g3⟩:=aU (boxed hb1);have HB:=aV (ct hb1);go_wp2;go_ret;exact⟨rfl,HB.o⟩
def Lz(n:Int)(h1: -1000000000000000<=n)(h2:n<=1000000000000000)(a:fM)(cap:Nat)(w:bq):
 xC 49 #[.agg #[xI 1,n,"",xL a 0 cap]] w (di true w):=by
 delta xC;go_in;go_wp2_with fail;refine dx (xU _ _ _ _ _) λw1 hb1=> ?_;have⟨g0,g1,g2,g3⟩:=aU (boxed hb1);have HB:=aV (ct hb1);go_wp2;go_ret;exact⟨rfl,HB.o⟩
def xV(s:bS)(h:il s)(a:fM)(cap:Nat)(w:bq)(hT:Tb w):
 xC 49 #[.agg #[xI 2,xI 0,s,xL a 0 cap]] w (di true w):=by
 have HR:Hd (∀W,Tb W->_):=λW hT=>zH s h W hT;have HT:=aV (λo=>hT.aT (w':=w.alloc o) cU);delta xC;go_in;go_wp2_with fail;refine dx (HR.o _ (HT.o _)) λw1 hb1=> ?_;have HB:=aV (ct hb1);go_wp2;go_ret;exact⟨rfl,HB.o⟩
def LA(k n:Int)(hk:k=3\/k=4)(h1:1<=n)(h2:n<=100000)(a:fM)(cap:Nat)(w:bq):
 xC 49 #[.agg #[k,n,"",xL a 0 cap]] w (di true w):=by
 rcases hk with rfl|rfl;all_goals
  delta xC;go_in;go_wp2_with fail;refine dx (xU _ _ _ _ _) λw1 hb1=> ?_;have⟨g0,g1,g2,g3⟩:=aU (boxed hb1);have HB:=aV (ct hb1);go_wp2_with fail;refine ey (DC n h1 h2 _) ?_;go_wp2;go_ret;exact⟨rfl,HB.o⟩
def ec {k n:Int}(h:dq M w v (bE.mk k n s l)):∃a cap,v= .agg #[k,n,s,xL a l.length cap]/\aS M w (xL a l.length cap) l:=by
 obtain⟨cs,rfl,hr⟩:=h;obtain⟨av,rfl,hs,_⟩:=fZ.iff.1 hr;have hs2:=hs;obtain⟨a,cap,rfl,_⟩:=hs2.bj;exact⟨a,cap,rfl,hs⟩
def Az {k:Int}{v:bE}(h:mA k br v)(hm:br<=100000)(hu:dq M w u v)(hT:Tb w):
 xC 49 #[u] w (di true w):=by
 rcases h with⟨_,n,rfl,h1,h2⟩|⟨_,s,rfl,h1⟩|⟨hk,rfl|⟨n,rfl,h1,h2⟩⟩
 .obtain⟨a,cap,rfl,_⟩:=ec hu;exact Lz n h1 h2 a cap w
 .obtain⟨a,cap,rfl,_⟩:=ec hu;exact xV s h1 a cap w hT
 .obtain⟨a,cap,rfl,_⟩:=ec hu;exact Ly a cap w
 obtain⟨a,cap,rfl,_⟩:=ec hu;exact LA k n hk h1 (by omega) a cap w
def LB {k:Int}{v:bE}(h:mA k br v):v.bg≠5:=by
 rcases h with⟨_,n,rfl,h1,h2⟩|⟨_,s,rfl,h1⟩|⟨hk,rfl|⟨n,rfl,h1,h2⟩⟩<;>simp[bE.bg];omega
def LC {k:Int}{v:bE}(h:mA k br v)(hm:br<=100000)(hu:dq M w u v)(hT:Tb w):
 xC 122 #[u] w (di false w):=by
 have HR:=ie (w:=w) (λW hb=>Az h hm (hu.aT hb) (hT.aT hb));have Yc:(v.bg==5)=false:=by simpa using LB h
 obtain⟨vk,vn,vs,vl⟩:=v;obtain⟨a,cap,rfl,_⟩:=ec hu;dsimp only[bE.bg]at Yc;delta xC;go_in;go_wp2_with fail;refine dx (HR.o _ cU) λw1 hb1=> ?_;have HB:=aV (ct hb1);go_wp2;go_ret;exact⟨rfl,HB.o⟩
def ep(h:aS M w v l){k n:Int}{ll:List bE}(hx:l[i]? =some (.mk k n s ll)):∃b off cap a c,v=xL (b,off) l.length cap/\b<w.heap.size/\aS M w (xL a ll.length c) ll/\s.size<=maxLen/\∀W,bC w W->(cC W b (off+i*4) k/\cC W b (off+i*4+1) n/\cC W b (off+i*4+2) s/\cC W b (off+i*4+3) (xL a ll.length c))/\dq M W (.agg #[k,n,s,xL a ll.length c]) (bE.mk k n s ll):=by
 obtain⟨a,cap,rfl,hl,_,hc⟩:=h.bj;have hk:=(ag.1 hx).1;obtain⟨b,off,rfl,_,hb,hcell⟩:=hc (by omega);have⟨cs,hr,hcs⟩:=hcell i _ hx;have Yo:=hr;obtain⟨av,rfl,hs,hsz⟩:=fZ.iff.1 hr;have hs2:=hs;obtain⟨a,c,rfl,_⟩:=hs2.bj;refine⟨b,off,cap,a,c,rfl,hb,hs,hsz,λW hB=>⟨?_,_,rfl,bD.ev Yo (Ev.bA hB)⟩⟩;have g:∀j u,([xI k,xI n,xS s,xL a ll.length c]:List bt)[j]? =some u->cC W b (off+i*4+j) u:=λj u hu=>(hB.cell (p:=⟨b,off+i*4+j,none⟩) hb).trans (hcs j u hu);exact⟨g 0 _ rfl,g 1 _ rfl,g 2 _ rfl,g 3 _ rfl⟩
def B4(k br:Int)(hm:br<=100000)(l:List bE)(hl:∀x∈l,mA k br x)(M:bY)(v:bt)(w:bq)(h:aS M w v l)(hT:Tb w):
 xC 193 #[v, .func (.func 122) #[] #[]] w (di (xI (-1)) w):=by
 have HC:Hd (∀(i:Nat)(k n:Int)(s:bS)(ll:List bE),l[i]? =some (.mk k n s ll)->_):=λi k n s ll hx=>ep h hx;have HN:Hd (∀W(x:bE)u,bC w W->x∈l->dq M W u x->_):=λW x u hb hx hu=>LC (hl x hx) hm hu (hT.aT hb);obtain⟨a,cY,rfl,dN,hmx,_⟩:=h.bj;generalize hn:l.length=n at*;have fB:=aV hn;delta xC;go_in;go_wp2;go_loopg [5,8]n(λg _ iv wr=>∃k:Nat,k<=n/\g=n-k/\iv=xI k/\Hd (bC w wr));exact⟨0,ax _,rfl,rfl,eH⟩;obtain⟨i,hi,rfl,rfl,HB⟩:=hrel;by_cases cE:i<n
 .have⟨⟨xk,xn,xs,xl⟩,hx⟩:=fg l i (by rw[fB.o];exact cE);have⟨b,off,cap,a',c',hv,hb,_,_,hcells⟩:=HC.o i xk xn xs xl hx;obtain⟨rfl,rfl⟩:=jk hv;have⟨⟨g0,g1,g2,g3⟩,hag⟩:=hcells wr HB.o;have mC:=aV (HN.o wr _ _ HB.o (ai hx) hag);go_wp2_with fail;refine mC.o.mono ?_;rintro e w1⟨rfl,hb1⟩;have cu:Hd (bC w w1):=HB.o.trans (hb1.mono HB.o.size);go_wp2;go_roundg(n-(i+1));exact⟨i+1,by omega,rfl,by go_num,cu⟩;omega
 go_wp2;go_ret;exact⟨rfl,HB.o⟩
def vR(k br:Int)(hm:br<=100000)(l:List bE)(hl:∀x∈l,mA k br x)(M:bY)(v:bt)(w:bq)(h:aS M w v l)(hT:Tb w):
 xC 121 #[v, .func (.func 122) #[] #[]] w (di false w):=by
 have HI:=aV (B4 k br hm l hl M v w h hT);delta xC;go_in;go_wp2_with fail;refine HI.o.mono ?_;rintro e w1⟨rfl,hb1⟩;have HB:=aV hb1;go_wp2;go_ret;exact⟨rfl,HB.o⟩
def Hc(k br:Int)(hm:br<=100000)(l:List bE)(hl:∀x∈l,mA k br x)(h12:l.length<=12)(M:bY)(a:fM)(cap:Nat)(w:bq)(h:aS M w (xL a l.length cap) l)(hT:Tb w):
 xC 49 #[.agg #[xI 5,xI 0,"",xL a l.length cap]] w (di true w):=by
 have HCN:=ie (w:=w) (λW hb=>vR k br hm l hl M _ W (h.aT hb) (hT.aT hb));delta xC;go_in;go_wp2_with fail;refine dx (HCN.o _ cU) λw1 hb1=> ?_;have HB:=aV (ct hb1);go_wp2;go_ret;exact⟨rfl,HB.o⟩
def sE {t:cq}{v:bE}(h:eF t br v)(hm:br<=100000)(hu:dq M w u v)(hT:Tb w):
 xC 49 #[u] w (di true w):=by
 rcases h with⟨ht,l,rfl,hl,ha⟩|⟨ht,h1⟩
 .obtain⟨a,cap,rfl,hs⟩:=ec hu;exact Hc t.of br hm l ha hl M a cap w hs hT
 exact Az h1 hm hu hT
def pP(t:cq)(h:bO t=true)(w:bq):xC 183 #[.agg #[t.bg,t.of]] w (di true w):=by
 obtain⟨k,o⟩:=t;dsimp only at*;unfold bO at h;dsimp only at h;by_cases h5:k=5
 .subst h5;simp at h;obtain⟨h1,h2⟩:=h;go_enter func183,ntmps183;go_wp2;go_ret;exact⟨rfl,cU⟩
 rw[if_neg h5]at h;simp at h;obtain⟨h1,h2,h3⟩:=h;have e5:(k==5)=false:=by simpa using h5
 subst h3;clear h5;go_enter func183,ntmps183;go_wp2;go_ret;exact⟨rfl,cU⟩
def xW(vk vn:Int)(vs:bS)(a:fM)(n cap:Nat)(k:Int)(h:vk=k\/(vk=0/\(k=3\/k=4)))(w:bq):
 xC 184 #[.agg #[vk,vn,vs,xL a n cap],k] w (di true w):=by
 rcases h with rfl|⟨rfl,rfl|rfl⟩
 .go_enter func184,ntmps184;go_wp2;go_ret;exact⟨rfl,cU⟩
 .go_enter func184,ntmps184;go_wp2;go_ret;exact⟨rfl,cU⟩
 delta xC;go_in;go_wp2;go_ret;exact⟨rfl,cU⟩
def Ka {k:Int}{v:bE}(h:mA k br v):v.bg=k\/(v.bg=0/\(k=3\/k=4)):=by
 rcases h with⟨rfl,n,rfl,h1,h2⟩|⟨rfl,s,rfl,h1⟩|⟨hk,rfl|⟨n,rfl,h1,h2⟩⟩
 .exact .inl rfl
 .exact .inl rfl
 .exact .inr ⟨rfl,hk⟩
 exact .inl rfl
def OG {v:bE}(k o:Int)(p:Nat)(h:mA o br v)(hu:dq M w u v)(hp:cX w p (xK #[k,o] 55)):
 xC 185 #[u,xP p] w (di false w):=by
 have ho:=Ka h;obtain⟨vk,vn,vs,vl⟩:=v;obtain⟨a,cap,rfl,_⟩:=ec hu;have HO:Hd (∀W,_):=λW=>xW vk vn vs a vl.length cap o ho W;have⟨c0,c1⟩:=aZ hp;have iJ:p<w:=(ab.1 hp).1;have Wk:p≠w:=by omega
 clear hu h ho hp;delta xC;go_in;go_wp2_with fail;refine dx (HO.o _) λw1 hb1=> ?_;have HB:=aV (ct hb1);clear hb1;go_wp2;go_ret;exact⟨rfl,HB.o⟩
def B5(k o br:Int)(p:Nat)(l:List bE)(hl:∀x∈l,mA o br x)(M:bY)(v:bt)(w:bq)(h:aS M w v l)(hp:cX w p (xK #[k,o] 55)):
 xC 193 #[v, .func (.func 185) #[] #[xP p]] w (di (xI (-1)) w):=by
 have HC:Hd (∀(i:Nat)(k n:Int)(s:bS)(ll:List bE),l[i]? =some (.mk k n s ll)->_):=λi k n s ll hx=>ep h hx;have iJ:p<w:=(ab.1 hp).1;have HN:Hd (∀W(x:bE)u,bC w W->x∈l->dq M W u x->_):=λW x u hb hx hu=>OG k o p (hl x hx) hu ((hb.block p iJ).trans hp);obtain⟨a,cY,rfl,dN,hmx,_⟩:=h.bj;clear h hl hp iJ;generalize hn:l.length=n at*;have fB:=aV hn;clear hn;delta xC;go_in;go_wp2;go_loopg [5,8]n(λg _ iv wr=>∃k:Nat,k<=n/\g=n-k/\iv=xI k/\Hd (bC w wr));exact⟨0,ax _,rfl,rfl,eH⟩;obtain⟨i,hi,rfl,rfl,HB⟩:=hrel;by_cases cE:i<n
 .have⟨⟨xk,xn,xs,xl⟩,hx⟩:=fg l i (by rw[fB.o];exact cE);have⟨b,off,cap,a',c',hv,hb,_,_,hcells⟩:=HC.o i xk xn xs xl hx;obtain⟨rfl,rfl⟩:=jk hv;have⟨⟨g0,g1,g2,g3⟩,hag⟩:=hcells wr HB.o;have mC:=aV (HN.o wr _ _ HB.o (ai hx) hag);clear hv hcells hag hx;go_wp2_with fail;refine mC.o.mono ?_;rintro e w1⟨rfl,hb1⟩;have cu:Hd (bC w w1):=HB.o.trans (hb1.mono HB.o.size);clear hb1;go_wp2;go_roundg(n-(i+1));exact⟨i+1,by omega,rfl,by go_num,cu⟩;omega
 go_wp2;go_ret;exact⟨rfl,HB.o⟩
def vS(k o br:Int)(p:Nat)(l:List bE)(hl:∀x∈l,mA o br x)(M:bY)(v:bt)(w:bq)(h:aS M w v l)(hp:cX w p (xK #[k,o] 55)):
 xC 121 #[v, .func (.func 185) #[] #[xP p]] w (di false w):=by
 have HI:=aV (B5 k o br p l hl M v w h hp);clear h hl hp;delta xC;go_in;go_wp2_with fail;refine HI.o.mono ?_;rintro e w1⟨rfl,hb1⟩;have HB:=aV hb1;clear hb1;go_wp2;go_ret;exact⟨rfl,HB.o⟩
def OH {t:cq}{v:bE}(h:eF t br v):v.bg=t.bg\/(v.bg=0/\(t.bg=3\/t.bg=4)):=by
 rcases h with⟨h5,l,rfl,_⟩|⟨_,h1⟩
 .exact .inl h5.symm
 exact Ka h1
def He {t:cq}{v:bE}(h:eF t br v):∀x∈v.list,mA t.of br x:=by
 rcases h with⟨h5,l,rfl,_,ha⟩|⟨_,h1⟩
 .exact ha
 have:=(lL h1 (.inl rfl)).1.1;rw[this];intro x hx;cases hx
def OI {t:cq}{v:bE}(h:eF t br v)(ht:bO t=true)(hm:br<=100000)(hu:dq M w u v)(hT:Tb w):
 xC 110 #[u, .agg #[t.bg,t.of]] w (di true w):=by
 have HR:=ie (w:=w) (λW hb=>sE h hm (hu.aT hb) (hT.aT hb));have HT:Hd (∀W,_):=λW=>pP t ht W;have hvo:=OH h;have C7:=He h;obtain⟨vk,vn,vs,vl⟩:=v;obtain⟨a,cap,rfl,hs⟩:=ec hu;obtain⟨tk,Gi⟩:=t;dsimp only[bE.bg,bE.list]at*;have HO:Hd (∀W,_):=λW=>xW vk vn vs a vl.length cap tk hvo W;have HCN:Hd (∀W,Bx w [xK #[vk,vn,vs,xL a vl.length cap] 50,xK #[tk,Gi] 55] W->_):=λW hb=>vS tk Gi br [w] vl C7 M _ W (hs.aT hb.1) (hb.cZ rfl);clear h hu hT hvo C7 ht hs;delta xC;go_in;go_wp2_with fail;refine dx (HR.o _ (Bx.ei w _ _).1) λw1 hb1=> ?_;have HB:=aV ((Bx.ei w (xK #[vk,vn,vs,xL a vl.length cap] 50) (xK #[tk,Gi] 55)).aT hb1);have⟨c0,c1⟩:=aZ (HB.o.cZ rfl);clear hb1;go_wp2_with fail;refine dx (HT.o _) λw2 cJ=> ?_;have bZ:=aV (HB.o.aT cJ);have⟨d0,d1⟩:=aZ (bZ.o.cZ rfl);have⟨e0,e1,e2,e3⟩:=aU (bZ.o.cP rfl);clear cJ c0 c1;go_wp2_with fail;refine dx (HO.o _) λw3 hb3=> ?_;have cR:=aV (bZ.o.aT hb3);have⟨f0,f1,f2,f3⟩:=aU (cR.o.cP rfl);clear hb3 d0 d1 e0 e1 e2 e3;go_wp2_with fail;refine dx (HCN.o _ cR.o) λw4 eZ=> ?_;have fh:=aV (cR.o.aT eZ);clear eZ;go_wp2;go_ret;exact⟨rfl,fh.o.1⟩
def OJ(t:cq)(ht:bO t=true)(M:bY)(w:bq):xG 316 #[.agg #[t.bg,t.of]] w λv w'=>dq M w' v (lq t):=by
 have HT:Hd (∀W,_):=λW=>pP t ht W;by_cases CM:t.bg=3\/t.bg=4
 .have HZ:=aV (show lq t= .mk 0 0 mz []by unfold lq;rw[if_pos CM]);obtain⟨k,o⟩:=t;dsimp only at*;clear ht;rcases CM with rfl|rfl;all_goals
   go_enter func316,ntmps316;go_wp2_with fail;refine dx (HT.o _) λw1 hb1=> ?_;have HB:=aV ((Bx.ei w (xK #[xI _,o] 55) (xK jl 50)).aT hb1);have⟨c0,c1⟩:=aZ (HB.o.cP rfl);have⟨q0,q1,q2,q3⟩:=aU (HB.o.cZ rfl);have⟨f0,f1,f2,f3⟩:=iS (HB.o.cZ rfl);clear hb1;go_wp2_with fail;refine ah (v:= .agg jl) (by simp[results,results316,go_sem,q0,q1,q2,q3]) rfl ⟨_,rfl,(by rw[HZ.o];exact pH _ _ _ iM),?_⟩;exact(((HB.o.1.setCell (by simp) _).setCell (by simp) _).setCell (by simp) _).setCell (by simp) _
 have HZ:=aV (show lq t= .mk t.bg 0 mz []by unfold lq;rw[if_neg CM]);obtain⟨k,o⟩:=t;dsimp only at*;clear ht;have e3:(k==3)=false:=by simp;omega
 have e4:(k==4)=false:=by simp;omega
 clear CM;go_enter func316,ntmps316;go_wp2_with fail;refine dx (HT.o _) λw1 hb1=> ?_;have HB:=aV ((Bx.ei w (xK #[k,o] 55) (xK jl 50)).aT hb1);have⟨c0,c1⟩:=aZ (HB.o.cP rfl);have⟨q0,q1,q2,q3⟩:=aU (HB.o.cZ rfl);have⟨f0,f1,f2,f3⟩:=iS (HB.o.cZ rfl);clear hb1;go_wp2_with fail;refine ah (v:= .agg #[k,xI 0,"",()]) (by simp[results,results316,go_sem,q0,q1,q2,q3]) rfl ⟨_,rfl,(by rw[HZ.o];exact pH _ _ _ iM),?_⟩;exact(((HB.o.1.setCell (by simp) _).setCell (by simp) _).setCell (by simp) _).setCell (by simp) _
def sF:(Tryz.prog.info? 3).map (λi=>(i.zero,i.size,i.bytes))=some (some (xI 0),1,8):=by kernel_rfl
def OK {M:bY}(w:bq)(n:Int):bP (α:=Int) M w 3 (w.alloc (xK #[n] 3)) (xL (w,0) 1 1) [n]:=by
 refine⟨[[xI n]],⟨rfl, .inr ⟨w,1,#[n],rfl,cN,az w _,cN,by unfold maxLen;omega,rfl,rfl⟩⟩,rfl,λi cs x hc hx=> ?_⟩;cases i with
 |zero=>simp at hc hx;subst hc hx;rfl
 |succ i=>simp at hc
def bP.anyM {α:Type} [bD α]{M:bY}{w:bq}{v:bt}{xs:List α}(h:bP M B e W v xs)(hB:w<=B)(hM:Bd M w):aS M W v xs:=h.slice λi hi=>aN (hM i hi) hB
def Hf(w:bq)(o:Obj)(cs:Array bt)(t:TypeId)(size:Nat)(hs:cs.size=size)(hF:F [w]):du F ((w.alloc o).alloc (.cells cs t)) size (xL ([w],0) 1 1) 1 cs.toList:=by
 have h:=dj (F:=F) (w.alloc o) cs t size hs (by simpa using hF);simpa using h
def DD {k:Int}{x:bE}(hx:l[i]? =some x):((l.take (i+1)).filter λy=>decide (y.bg=k)).map bE.num=((l.take i).filter λy=>decide (y.bg=k)).map bE.num++if x.bg=k then[x.num]else[]:=by
 rw[ao,hx];simp only[Option.toList,List.filter_append,List.map_append];by_cases h:x.bg=k<;>simp[h]
def ve {t:cq}{br:Int}{v:bE}(j:Int)(hj:j=3\/j=4)(h:eF t br v)(hm:br<=100000){M:bY}{w:bq}(hM:Bd M w){u:bt}(hu:dq M w u v)(hT:Tb w):
 xG 212 #[u,xI j] w λr w'=>∃B,w.heap.size<=B/\bP (α:=Int) M B 3 w' r (dm j v):=by
 have HR:=ie (w:=w) (λW hb=>sE h hm (hu.aT hb) (hT.aT hb));obtain⟨i0,hi0,hz0,hz1,hz2⟩:=info_parts sF;have WO:v.list.length<=12:=by
  rcases h with⟨h5,l,rfl,hl,_⟩|⟨_,h1⟩
  .exact hl
  rw[(lL h1 hj).1.1];simp
 obtain⟨vk,vn,vs,vl⟩:=v;obtain⟨a,cap,rfl,hs⟩:=ec hu;have HC:Hd (∀(i:Nat)(k n:Int)(s:bS)(ll:List bE),vl[i]? =some (.mk k n s ll)->_):=λi k n s ll hx=>ep hs hx;have dN:vl.length<=cap/\cap<=9223372036854775807:=by obtain⟨_,_,e,h1,h2,_⟩:=hs.bj;cases e;exact⟨h1,h2⟩
 obtain⟨Q4,Q5⟩:=dN;dsimp only[bE.list]at WO;by_cases hk:vk=j
 .subst hk;have HV:=aV (show dm vk (.mk vk vn vs vl)=[vn]by simp[dm,bE.bg,bE.num]);go_enter func212,ntmps212;go_wp2_with fail;refine dx (HR.o _ cU) λw1 hb1=> ?_;obtain⟨g0,g1,g2,g3⟩:=aU (boxed hb1);have HB:=aV (ct hb1);go_wp2;go_ret;exact⟨_,rfl,⟨w1,HB.o.size,by rw[HV.o];exact OK w1 vn⟩,HB.o.alloc HB.o.size _⟩
 have hkf:(vk==j)=false:=by simpa using hk
 have HV:=aV (show dm j (.mk vk vn vs vl)=(vl.filter λy=>decide (y.bg=j)).map bE.num by simp[dm,bE.bg,bE.list,hk]);have v8:Hd (∀i,M i->i<w.heap.size+1):=λi h=>Nat.lt_succ_of_lt (hM i h);go_enter func212,ntmps212;go_wp2_with fail;refine dx (HR.o _ cU) λw1 hb1=> ?_;obtain⟨g0,g1,g2,g3⟩:=aU (boxed hb1);have HB:=aV (ct hb1);have qdm:w.heap.size<w1.heap.size:=by have:=hb1.size;simp at this;omega
 generalize hn:vl.length=n at*;have fB:=aV hn;go_wp2;go_loopg [5,7,21]n(λg r5 _ iv wr=>∃(i m c1:Nat)(a1:fM)(xs:List Int),i<=n/\g=n-i/\iv=xI i/\r5=xL a1 m c1/\m<=i/\Hd (xs.length=m)/\Hd (xs=((vl.take i).filter λy=>decide (y.bg=j)).map bE.num)/\Hd (bP M [w] 3 wr (xL a1 m c1) xs)/\Hd (bC w wr)/\w.heap.size<wr.heap.size);exact⟨0,0,0,none,[],ax _,rfl,rfl,rfl,cN,(show _=_ from rfl),(show _=_ by simp),(bP.nil _ _ _ _),HB,qdm⟩;obtain⟨i,m,c1,a1,xs,hi,rfl,rfl,rfl,hmi,HL,HX,HA,bZ,hwz⟩:=hrel;by_cases cE:i<n
 .obtain⟨⟨xk,xn,xs',xl⟩,hx⟩:=fg vl i (by rw[fB.o];exact cE);obtain⟨b,off,cap',a',c',hv,hb,_,_,hcells⟩:=HC.o i xk xn xs' xl hx;obtain⟨rfl,rfl⟩:=jk hv;obtain⟨⟨q0,q1,q2,q3⟩,_⟩:=hcells wr bZ.o;have HF:Hd (((vl.take (i+1)).filter λy=>decide (y.bg=j)).map bE.num=((vl.take i).filter λy=>decide (y.bg=j)).map bE.num++if xk=j then[xn]else[]):=DD hx;by_cases hxk:xk=j
  .have hxe:(xk==j)=true:=by simpa using hxk
   have HXK:=aV hxk;go_wp2_with(at_builtin;go_loud(refine cA (α:=Int) rfl _ _ _ rfl M [w] 3 i0 _ 8 underlying65 hi0 hz0 hz1 hz2 rfl (by decide) (.slice a1 m c1) xs rfl ((HA.o.alloc _).alloc _) (λ_=>True) _ [.int .i64 xn] xn rfl (Hf wr _ #[.int .i64 xn] _ 1 rfl trivial) (show _=_ from rfl) (by rw[HL.o];unfold maxLen;omega) (by rw[HL.o];omega) (by simp;omega) ?_);rw[HL.o];intro a2 c2 w2 cF eD cJ;have dR:=aV cF;have cR:=aV cJ;clear cF eD cJ);go_roundg(n-(i+1));case measure=>omega
   case rel=>
    refine⟨i+1,m+1,c2,a2,xs++[xn],by omega,rfl,by go_num,rfl,by omega,(show _=_ by simp[HL.o]),(show _=_ by rw[HF.o,if_pos HXK.o,HX.o]),dR,((((bZ.o.alloc (by omega) _).alloc (by simp;omega) _).trans (cR.o.mono (by omega)))),by have:=cR.o.size;simp at this;omega⟩
  have hxe:(xk==j)=false:=by simpa using hxk
  have HXK:=aV hxk;go_wp2;go_roundg(n-(i+1));case measure=>omega
  case rel=>
   refine⟨i+1,m,c1,a1,xs,by omega,rfl,by go_num,rfl,by omega,HL,(show _=_ by rw[HF.o,if_neg HXK.o,HX.o];simp),(HA.o.alloc _),(bZ.o.alloc (by omega) _),by simp;omega⟩
 go_wp2;go_ret;have ji:i=n:=by omega
 refine⟨_,rfl,⟨[w],by omega,?_⟩,bZ.o⟩;rw[HV.o];have h1:=HA.o;rw[HX.o,ji,<-fB.o,List.take_length]at h1;exact h1
section
variable {t:cq}{br:Int}{v:bE}{M:bY}{w:bq}{u:bt}
def OL(h:eF t br v)(hm:br<=100000)(hM:Bd M w)(hu:dq M w u v)(hT:Tb w):
 xG 146 #[u] w λr w'=>∃B,w.heap.size<=B/\bP (α:=Int) M B 3 w' r (dm 3 v):=by
 have HN:=ie (w:=w) (λW hb=>ve 3 (.inl rfl) h hm (hM.aT hb) (hu.aT hb) (hT.aT hb));obtain⟨vk,vn,vs,vl⟩:=v;obtain⟨a,cap,rfl,_⟩:=ec hu;delta xG;go_in;go_wp2_with fail;refine(HN.o _ cU).mono ?_;rintro e w1⟨r,rfl,⟨B,hB,hs⟩,hb1⟩;have HB:=aV (ct hb1);have HS:=aV hs;have HZ:=aV (show w<=B by simp at hB;omega);go_wp2;go_ret;exact⟨_,rfl,⟨B,HZ.o,HS.o⟩,HB.o⟩
def LD(h:eF t br v)(hm:br<=100000)(hM:Bd M w)(hu:dq M w u v)(hT:Tb w):
 xG 148 #[u] w λr w'=>∃B,w.heap.size<=B/\bP (α:=Int) M B 3 w' r (dm 4 v):=by
 have HN:=ie (w:=w) (λW hb=>ve 4 (.inr rfl) h hm (hM.aT hb) (hu.aT hb) (hT.aT hb));obtain⟨vk,vn,vs,vl⟩:=v;obtain⟨a,cap,rfl,_⟩:=ec hu;delta xG;go_in;go_wp2_with fail;refine(HN.o _ cU).mono ?_;rintro e w1⟨r,rfl,⟨B,hB,hs⟩,hb1⟩;have HB:=aV (ct hb1);have HS:=aV hs;have HZ:=aV (show w<=B by simp at hB;omega);go_wp2;go_ret;exact⟨_,rfl,⟨B,HZ.o,HS.o⟩,HB.o⟩
def DE(h:eF t br v)(hm:br<=100000)(hM:Bd M w)(hu:dq M w u v)(hT:Tb w):
 xC 146 #[u] w (de w λr w'=>aS M w' r (dm 3 v)):=
 (OL h hm hM hu hT).mono (by rintro e w'⟨r,rfl,⟨B,hB,h⟩,hb⟩;exact⟨_,rfl,h.anyM hB hM,hb⟩)
def AA(h:eF t br v)(hm:br<=100000)(hM:Bd M w)(hu:dq M w u v)(hT:Tb w):
 xC 148 #[u] w (de w λr w'=>aS M w' r (dm 4 v)):=
 (LD h hm hM hu hT).mono (by rintro e w'⟨r,rfl,⟨B,hB,h⟩,hb⟩;exact⟨_,rfl,h.anyM hB hM,hb⟩)
end
def xX:Nat->bE->Prop
 |0,v=>v.list=[]
 |h+1,v=>v.list.length<=12/\∀x∈v.list,xX h x
def AB {k:Int}{v:bE}(h:mA k br v):xX 0 v:=(lL h (.inl rfl)).1.1
def oG {t:cq}{v:bE}(h:eF t br v):xX 1 v:=by
 rcases h with⟨h5,l,rfl,hl,ha⟩|⟨_,h1⟩
 .exact⟨hl,λx hx=>AB (ha x hx)⟩
 have:=AB h1;unfold xX at this;exact⟨by rw[this];simp,by rw[this];intro x hx;cases hx⟩
def xY(f:Nat)(l:List bE):Prop:=∀(M:bY)(w:bq)(v:bt),Bd M w->aS M w v l->xC f #[v] w (de w λv' w'=>aS M w' v' l)
def DF(f:Nat)(x:bE):Prop:=∀(M:bY)(w:bq)(v:bt),Bd M w->dq M w v x->xC f #[v] w (de w λv' w'=>dq M w' v' x)
def lE {k n:Int}(h:aS M w (xL a l.length cap) l)(hs:s.size<=maxLen):bD.rep (α:=bE) M w [xI k,xI n,xS s,xL a l.length cap] (.mk k n s l):=fZ.iff.2 ⟨_,rfl,h,hs⟩
def B6 {xs:List bE}(h:bP M base e w v xs)(hM:Bd M w):Bd (cz v M) w:=λi hi=>by
 rcases hi with hi|hi
 .exact hM i hi
 exact(h.dC i hi).2
def jz(w:bq)(g:Nat)(cs:Array bt)(t:TypeId)(size:Nat)(hs:cs.size=size)(hg:w=g)(hF:F g):du F (w.alloc (.cells cs t)) size (xL (g,0) 1 1) 1 cs.toList:=by
 subst hg;exact dj w cs t size hs hF
def Vp {xs:List bE}(h:bP M base e wr v xs)(hbs:w<=base)(hb:bC w W)(hX:w<=X):Ev M w (orM (cz v M) X) W:=
 ⟨bh.bA hb,λi hi=>by
   rcases hi with(hi|hi)|hi
   .exact .inl hi
   .exact .inr (aH hbs (h.dC i hi).1)
   exact .inr (by omega)⟩
def mU(l:List bE)(hl:l.length<=12)(ji:∀x∈l,xY 366 x.list)(M:bY)(w:bq)(v:bt)(hM:Bd M w)(hs:aS M w v l):xG 366 #[v] w λv' w'=>bP M w 50 w' v' l:=by
 have⟨i0,hi0,hz0,hz1,hz2⟩:=info_parts iD;have HC:Hd (∀(i:Nat)(k n:Int)(s:bS)(ll:List bE),l[i]? =some (.mk k n s ll)->_):=λi k n s ll hx=>ep hs hx;have zo:Hd (∀x∈l,xY 366 x.list):=ji;obtain⟨a,cY,rfl,dN,hmx,_⟩:=hs.bj;generalize hn:l.length=n at*;have fB:=aV hn;delta xG;go_in;go_wp2;go_loopg [3,5,8]n(λg r3 _ iv wr=>∃(i c1:Nat)(a1:fM),i<=n/\g=n-i/\iv=xI i/\r3=xL a1 i c1/\Hd (bP M w 50 wr (xL a1 i c1) (l.take i))/\Hd (bC w wr));exact⟨0,0,none,ax _,rfl,rfl,rfl,(bP.nil _ _ _ _),eH⟩;obtain⟨i,c1,a1,hi,rfl,rfl,rfl,HA,HB⟩:=hrel;by_cases cE:i<n
 .have⟨⟨xk,xn,xs,xl⟩,hx⟩:=fg l i (by rw[fB.o];exact cE);have⟨b,off,cap,a',c',hv,hb,hsl,hxs,hcells⟩:=HC.o i xk xn xs xl hx;obtain⟨rfl,rfl⟩:=jk hv;have⟨⟨q0,q1,q2,q3⟩,_⟩:=hcells wr HB.o;have pr:=aV (show(l.take i).length=i by have:=fB.o;rw[aK];omega);have oQ:=aV (show l.take (i+1)=l.take i++[.mk xk xn xs xl]by rw[ao,hx];rfl);have hsz:=HB.o.size;have cI:Hd (∀o,xC 366 #[xL a' xl.length c'] (wr.alloc o) (de (wr.alloc o) λv' w'=>aS (orM (cz (xL a1 i c1) M) wr) w' v' xl)):=λo=>by
   refine zo.o _ (ai hx) _ _ _ (λj hj=> ?_) (hsl.ev (Vp HA.o cN (HB.o.alloc hsz o) hsz));rcases hj with hj|hj
   .have:=B6 HA.o (hM.aT HB.o) j hj;simp;omega
   simp;omega
  have wH:=aV hxs;go_wp2_with fail;refine(cI.o _).mono ?_;rintro e w1⟨_,rfl,hs1,hb1⟩;obtain⟨za,zc,rfl,_⟩:=hs1.bj;have HX:Hd (ed w1 wr (xK #[xk,xn,xs,xL a' xl.length c'] 50)):=boxed hb1;have⟨g0,g1,g2,g3⟩:=aU HX.o;have f3:=aY HX.o 3;have s1:=hb1.size;simp only[World.size_alloc]at s1;have cu:=aV (ct hb1);have bZ:Hd (bC wr (w1.setCell (wr,3) (xL za xl.length zc))):=cu.o.setCell cN _;have re:Hd (aS (cz (xL a1 i c1) M) (w1.setCell (wr,3) (xL za xl.length zc)) (xL za xl.length zc) xl):=hs1.ev ((Ev.eO w1 λi h=> .inl h).setCell (.inl (.inr rfl)) _);have lJ:=aV (HA.o.aT bZ.o);go_wp2_with(at_builtin;go_loud(refine cA (α:=bE) rfl _ _ _ rfl M w 50 i0 _ 56 underlying39 hi0 hz0 hz1 hz2 rfl (by decide) (.slice a1 i c1) (l.take i) rfl (lJ.o.alloc _) (λ_=>True) _ _ (.mk xk xn xs xl) rfl (jz _ _ _ _ 4 rfl (by simp[World.setCell]) trivial) (lE (re.o.ev ((Ev.refl _ _).alloc _)) wH.o) (by rw[pr.o];unfold maxLen;omega) (by rw[pr.o];omega) (by simp;omega) ?_);rw[pr.o,<-oQ.o];intro a2 c2 w2 cF eD cJ;have dR:=aV cF;have cR:=aV cJ;clear cF eD cJ);go_roundg(n-(i+1));case measure=>omega
  case rel=>
   refine⟨i+1,c2,a2,by omega,rfl,by go_num,rfl,dR,((HB.o.trans (bZ.o.mono hsz)).alloc (by simp;omega) _|>.trans cR.o)⟩
 go_wp2;go_ret;refine⟨_,rfl,?_,HB.o⟩;have h1:=HA.o;rw[ak (by rw[fB.o];omega)]at h1;exact h1
def lF(l:List bE)(hl:l.length<=12)(ji:∀x∈l,xY 366 x.list):xY 366 l:=λM w v hM hs=>
 (mU l hl ji M w v hM hs).mono (by rintro e w'⟨_,rfl,h,hb⟩;exact⟨_,rfl,h.slice hM,hb⟩)
theorem oH:∀(h:Nat)(l:List bE),l.length<=12->(∀x∈l,xX h x)->xY 366 l
 |0,l,hl,hx=>lF l hl λx hm=>by
  rw[show x.list=[]from hx x hm];exact lF [] (by simp) λy hy=>by cases hy
 |h+1,l,hl,hx=>lF l hl λx hm=>oH h x.list (hx x hm).1 (hx x hm).2
def fI {fs:List bJ}(h:cD fs br vs):∀v∈vs,∃f∈fs,eF f.type br v:=by
 intro v hv;have⟨i,hi⟩:=aP hv;have hl:=(ag.1 hi).1;have⟨f,hf⟩:=fg fs i (by rw[<-h.1];exact hl);exact⟨f,ai hf,h.2 i f v hf hi⟩
def lY {fs:List bJ}(h:cD fs br vs)(hu:∀x∈us,x∈vs)(hl:us.length<=12):xY 366 us:=
 oH 1 us hl λx hx=>by
  have⟨f,_,hv⟩:=fI h x (hu x hx);exact oG hv
def fT(k n:Int)(s:bS)(v:bt):Obj:=xK #[k,n,s,v] 50
def pQ {n:Nat}(hM:Bd M w):∀i,eo M w n i->i<w.heap.size+n:=λi hi=>by
 rcases hi with hi|hi
 .have:=hM i hi;omega
 exact hi.2
def sG(x:bE)(hl:x.list.length<=12)(ji:∀y∈x.list,DF 406 y):DF 406 x:=by
 intro M w v hM hu;have⟨i0,hi0,hz0,hz1,hz2⟩:=info_parts iD;obtain⟨vk,vn,vs,l⟩:=x;have hvs:vs.size<=maxLen:=by obtain⟨cs,_,hr⟩:=hu;have⟨_,_,_,h⟩:=fZ.iff.1 hr;exact h
 obtain⟨a,cY,rfl,hs⟩:=ec hu;dsimp only[bE.list]at*;have HC:Hd (∀(i:Nat)(k n:Int)(s:bS)(ll:List bE),l[i]? =some (.mk k n s ll)->_):=λi k n s ll hx=>ep hs hx;have zo:Hd (∀y∈l,DF 406 y):=ji;have dN:l.length<=cY/\cY<=9223372036854775807:=by have⟨_,_,e,h1,h2,_⟩:=hs.bj;cases e;exact⟨h1,h2⟩
 obtain⟨Q4,Q5⟩:=dN;have zy:=aV hvs;generalize hn:l.length=n at*;have fB:=aV hn;go_enter func406,ntmps406;go_wp2;go_loopg [3,5,9]n(λg r3 _ iv wr=>∃(i c1:Nat)(a1:fM),i<=n/\g=n-i/\iv=xI i/\r3=xL a1 i c1/\Hd (bP (eo M w 2) (↑w+2) 50 wr (xL a1 i c1) (l.take i))/\Hd (Bx w [fT vk vn vs (xL a n cY),fT 0 0 () ()] wr));exact⟨0,0,none,ax _,rfl,rfl,rfl,(bP.nil _ _ _ _),(Bx.ei w _ _)⟩;obtain⟨i,c1,a1,hi,rfl,rfl,rfl,HA,HB⟩:=hrel;have hsz:w.heap.size+2<=wr:=HB.o.cM;by_cases cE:i<n
 .have⟨⟨xk,xn,xs,xl⟩,hx⟩:=fg l i (by rw[fB.o];exact cE);have⟨b,off,cap,a',c',hv,hb,hsl,hxs,hcells⟩:=HC.o i xk xn xs xl hx;obtain⟨rfl,rfl⟩:=jk hv;have⟨⟨q0,q1,q2,q3⟩,_⟩:=hcells wr HB.o.1;have pr:=aV (show(l.take i).length=i by have:=fB.o;rw[aK];omega);have oQ:=aV (show l.take (i+1)=l.take i++[.mk xk xn xs xl]by rw[ao,hx];rfl);have cI:Hd (∀o,xC 406 #[.agg #[xk,xn,xs,xL a' xl.length c']] (wr.alloc o) (de (wr.alloc o) λv' w'=>dq (cz (xL a1 i c1) (eo M w 2)) w' v' (bE.mk xk xn xs xl))):=λo=>by
   refine zo.o _ (ai hx) _ _ _ (λj hj=> ?_) ⟨_,rfl,?_⟩
   .have:=B6 HA.o (dZ hM hsz) j hj;simp;omega
   refine lE (hsl.ev ⟨bh.bA (HB.o.alloc o).1,λj hj=> ?_⟩) hxs;rcases hj with(hj|hj)|hj
   .exact .inl hj
   .exact .inr hj.1
   have:=(HA.o.dC j hj).1;exact .inr (by omega)
  go_wp2_with fail;refine(cI.o _).mono ?_;rintro e w1⟨_,rfl,hag,hb1⟩;obtain⟨za,zc,rfl,hs1⟩:=ec hag;have tU:Hd (aS (cz (xL a1 i c1) (eo M w 2)) w1 (xL za xl.length zc) xl/\xs.size<=maxLen):=⟨hs1,hxs⟩;have s1:=hb1.size;simp only[World.size_alloc]at s1;have cu:=aV (ct hb1);have lJ:=aV (HA.o.aT cu.o);have dp:=aV (HB.o.aT cu.o);go_wp2_with(at_builtin;refine cA (α:=bE) rfl _ _ _ rfl (eo M w 2) (↑w+2) 50 i0 _ 56 underlying39 hi0 hz0 hz1 hz2 rfl (by decide) (.slice a1 i c1) (l.take i) rfl (lJ.o.alloc _) (λ_=>True) _ _ (.mk xk xn xs xl) rfl (jz _ _ _ _ 4 rfl (by simp) trivial) (lE (tU.o.1.ev ((Ev.refl _ _).alloc _)) tU.o.2) (by rw[pr.o];unfold maxLen;omega) (by rw[pr.o];omega) (by simp;omega) ?_;rw[pr.o,<-oQ.o];intro a2 c2 w2 cF eD cJ;have dR:=aV cF;have cR:=aV cJ;clear cF eD cJ);go_roundg(n-(i+1));case measure=>omega
  case rel=>
   refine⟨i+1,c2,a2,by omega,rfl,by go_num,rfl,dR,((dp.o.alloc _).ej cR.o (by simp))⟩
 have⟨r0,r1,r2,r3⟩:=aU (HB.o.cP rfl);have⟨e0,e1,e2,e3⟩:=aU (HB.o.cZ rfl);have f3:=aY (HB.o.cP rfl) 3;have⟨g0,g1,g2,g3⟩:=iS (HB.o.cZ rfl);obtain rfl:i=n:=by omega
 go_wp2_with fail;refine ah (v:= .agg #[vk,vn,vs,xL a1 i c1]) (by simp[results,results406,go_sem,e0,e1,e2,e3]) rfl ⟨_,rfl,⟨_,rfl,?_⟩,?_⟩
 .have h1:=HA.o.slice (pQ hM);rw[ak (by rw[fB.o];omega)]at h1;have e:l.length=i:=fB.o;refine fZ.iff.2 ⟨_,rfl,h1.ev ?_,zy.o⟩;exact(((((fx wr).setCell (.inl (.inr ⟨by simp,by simp⟩)) _).setCell (.inl (.inr ⟨by simp,by simp⟩)) _).setCell (.inl (.inr ⟨by simp,by simp⟩)) _).setCell (.inl (.inr ⟨by simp,by simp⟩)) _).setCell (.inl (.inr ⟨by simp,by simp⟩)) _
 exact((((HB.o.1.setCell (by simp) _).setCell (by simp) _).setCell (by simp) _).setCell (by simp) _).setCell (by simp) _
def Hg:(Tryz.prog.info? 72).map (λi=>(i.zero,i.size,i.bytes))=some (some (.agg #["",(),()]),3,64):=by kernel_rfl
def DG {l:List iZ}(h:aS M w v l){x:iZ}(hx:l[k]? =some x):∃b off cap fv cv,v=xL (b,off) l.length cap/\b<w.heap.size/\aS M w fv x.dz.aW/\aS M w cv x.bo/\I6 x.dz.aX/\∀W,bC w W->cC W b (off+k*3) x.dz.aX/\cC W b (off+k*3+1) fv/\cC W b (off+k*3+2) cv:=by
 obtain⟨a,cap,rfl,hl,_,hc⟩:=h.bj;have hk:=(ag.1 hx).1;obtain⟨b,off,rfl,_,hb,hcell⟩:=hc (by omega);obtain⟨cs,⟨fv,cv,rfl,h1,h2,h3⟩,hcs⟩:=hcell k x hx;refine⟨b,off,cap,fv,cv,rfl,hb,h1,h2,h3,λW hB=> ?_⟩;have g:∀j u,([xI x.dz.aX,fv,cv]:List bt)[j]? =some u->cC W b (off+k*3+j) u:=λj u hu=>(hB.cell (p:=⟨b,off+k*3+j,none⟩) hb).trans (hcs j u hu);exact⟨g 0 _ rfl,g 1 _ rfl,g 2 _ rfl⟩
def B7(ls:List bQ)(s:bS): -1<=ek ls s/\ek ls s<ls.length\/ek ls s= -1:=by
 have h1:=rY (λl:bQ=>dh l.bu.aX s) ls;rcases wS (λl:bQ=>dh l.bu.aX s) ls with h|h
 .exact .inl ⟨h1,h⟩
 exact .inr h
def DH(h:ek ls s<0):∀l∈ls,dh l.bu.aX s=false:=λl hl=>by
 have h1:=rY (λl:bQ=>dh l.bu.aX s) ls;have h2:ek ls s= -1:=by show idxOf _ _=_;have:idxOf (λl:bQ=>dh l.bu.aX s) ls<0:=h;omega
 unfold ek idxOf at h2;split at h2
 .omega
 rename_i hn;have:=List.findIdx?_eq_none_iff.1 hn l hl;simpa using this
theorem eS.snoc(h:eS ls){l:bQ}(hl:ff l)(h4:ls.length<8)(hn:ek ls l.bu.aX<0):eS (ls++[l]):=by
 refine⟨by simp;omega,λy hy=> ?_,λk y hy=> ?_⟩
 .rcases aI.1 hy with hy|hy
  .exact h.bH y hy
  simp at hy;subst hy;exact hl
 by_cases hk:k<ls.length
 .rw[aq hk]at hy;have h1:=h.apart k y hy;unfold ek at h1⊢;exact uX h1
 have hkl:=(ag.1 hy).1;simp at hkl;obtain rfl:k=ls.length:=by omega
 have e:y=l:=by simpa using hy.symm
 subst e;refine idxOf_hit (λz hz=> ?_) hy (by simp[dh]);rw[List.take_left']at hz
 .exact DH hn z hz
 rfl
def eS.one(h:jO c):eS [⟨c,[]⟩]:=by
 refine⟨by simp,λl hl=> ?_,λk l hk=> ?_⟩
 .simp at hl;subst hl;exact⟨mI h,by simp,c, .nil _⟩
 match k,hk with
 |0,hk=>simp at hk;subst hk;exact idxOf_hit (by simp) rfl (by simp[dh])
 |k+1,hk=>simp at hk
structure DI(M:bY)(w:bq)(n:Nat)(v:bt)(ls:List bQ)(i:Nat)(wr:bq):Prop where
 len:ls.length=n
 le:n<=i
 ok:eS ls
 some_:0<i->0<n
 acc:bP (eo M w 2) (↑w+2) 72 wr v ls
 nm:∀l∈ls,l.bu.aX≠BX
def sH:∀s∈mH,s≠BX:=by decide
def DI.aT {n:Nat}(h:DI M w n v ls i wr)(hb:bC wr W):DI M w n v ls i W:=⟨h.len,h.le,h.ok,h.some_,h.acc.aT hb,h.nm⟩
def LF:eS []:=⟨by simp,λ_ h=>(by cases h),λ_ _ h=>by simp at h⟩
def OM {l:bQ}(hg:cX W g (xK #[l.bu.aX,fv,cv] t))(hM:¬M g)(h1:aS M W fv l.bu.aW)(h2:aS M W cv l.bo)(hn:l.bu.aX.size<=maxLen):aS M W (xL (g,0) 1 1) [l]:=by
 refine⟨[[xS l.bu.aX,fv,cv]],⟨rfl,some ⟨g,0,none⟩,1,rfl,cN,by unfold maxLen;omega,λ_=>⟨g,0,rfl,hM,(ab.1 hg).1,λj u hu=> ?_⟩⟩,rfl,λi cs x hc hx=> ?_⟩
 .simp only[World.cell?,hg,Nat.zero_add];simpa using hu
 match i,hc,hx with
 |0,hc,hx=>cases hc;cases hx;exact⟨fv,cv,rfl,h1,h2,hn⟩
 |i+1,hc,hx=>simp at hx
def DJ(h:jO c):c.aX.size<=maxLen:=dD (ja _ h.2.2.2).2
def DK(xs:List iZ)(M:bY)(w:bq)(hM:Bd M w)(v:bt)(hv:aS M w v xs):
 xG 16 #[v] w λu w'=>∃ls,eS ls/\(0<ls.length/\Y5 ls)/\∃lv,u= .agg #[lv]/\aS M w' lv ls:=by
 have⟨i0,hi0,hz0,hz1,hz2⟩:=info_parts Hg;have HR:Hd (∀k r,xs[k]? =some r->_):=λk r h=>DG hv h;have mQ:=aV hM;obtain⟨ra,rc,rfl,QS,Q7,_⟩:=hv.bj;clear hv hM;generalize hn:xs.length=m at*;have HN:=aV hn;clear hn;delta xG;go_in;go_wp2;go_loopg [4,5,6,7]4(λg iv _ _ _ wr=>∃(i n cap:Nat)(a:fM)(ls:List bQ),i<=m/\i<=4/\g=4-i/\iv=xI i/\Hd (DI M w n (xL a n cap) ls i wr)/\Hd (Bx w [iq (),iq (xL a n cap)] wr));exact⟨0,0,0,none,[],ax _,by omega,rfl,rfl,(show DI _ _ _ _ _ _ _ from⟨rfl,cN,LF,λh=>by omega,bP.nil _ _ _ _,λ_ h=>by cases h⟩),(Bx.ei w _ _)⟩;obtain⟨i,n,cap,a,ls,hi,Yp,rfl,rfl,HS,HB⟩:=hrel;have hsz:=HB.o.cM;simp only[aC,aD]at hsz;have qgl:=HS.o.le;by_cases hgo:i<m/\i<4
 .obtain⟨cE,hl4⟩:=hgo;have⟨r,hr⟩:=fg xs i (by rw[HN.o];exact cE);have⟨b,off,cap',fv,cv,hv,hbl,hf,hc,hxn,hcells⟩:=HR.o i r hr;obtain⟨rfl,rfl⟩:=jk hv;have⟨q0,q1,q2⟩:=hcells wr HB.o.1;have HE:Hd (Ev M w (cz (xL a n cap) (eo M w 2)) wr):=⟨bh.bA HB.o.1,λj hj=>by
   rcases hj with(hj|hj)|hj
   .exact .inl hj
   .exact .inr hj.1
   have:=(HS.o.acc.dC j hj).1;right;omega⟩;have C8:Hd (Bd (cz (xL a n cap) (eo M w 2)) wr):=λj hj=>by
   rcases hj with hj|hj
   .have:=pQ mQ.o j hj;omega
   exact(HS.o.acc.dC j hj).2
  have Yq:=aV (Lr r hxn (cz (xL a n cap) (eo M w 2)) wr C8.o fv cv (hf.ev HE.o) (hc.ev HE.o));have hf':=hf;have hc':=hc;obtain⟨fa,fc,rfl,_⟩:=hf'.bj;obtain⟨ca,cc,rfl,_⟩:=hc'.bj;obtain⟨⟨rn,rfs⟩,rcs⟩:=r;dsimp only at*;clear hcells hv hr hf hc hxn;go_wp2_with fail;refine(Yq.o).mono ?_;rintro e w1⟨_,rfl,⟨l,mD,FU,_,rfl,fv1,cv1,rfl,hf1,hc1,qah⟩,hb1⟩;have hf2:=hf1;have hc2:=hc1;obtain⟨Ty,Yr,rfl,_⟩:=hf2.bj;obtain⟨Ys,Yt,rfl,_⟩:=hc2.bj;obtain⟨⟨nm,Q8⟩,lcs⟩:=l;dsimp only at*;have C6:=aV mD;have Q9:Hd (nm≠BX):=sH _ FU.2.2.2;have iY:=aV hf1;have wN:=aV hc1;have tM:=aV qah;have cu:=aV (HB.o.aT hb1);have re:=aV (HS.o.aT hb1);clear mD FU hf1 hc1 qah hb1 q0 q1 q2;have⟨W1,hW1⟩:=dd (w1.alloc (dG nm (xL Ty Q8.length Yr) (xL Ys lcs.length Yt)));have bZ:=aV (show Bx w [iq (),iq (xL a n cap)] W1 by rw[hW1];exact cu.o.alloc _);have iy:=aV (show DI M w n (xL a n cap) ls i W1 by rw[hW1];exact re.o.aT cU);have pA:=aV (show ed W1 w1 (dG nm (xL Ty Q8.length Yr) (xL Ys lcs.length Yt))by rw[hW1];exact az w1 _);have Tz:=aV (show aS (cz (xL a n cap) (eo M w 2)) W1 (xL Ty Q8.length Yr) Q8/\aS (cz (xL a n cap) (eo M w 2)) W1 (xL Ys lcs.length Yt) lcs by
   rw[hW1];exact⟨iY.o.aT cU,wN.o.aT cU⟩);clear iY wN re;unfold dG at hW1;go_upto_region 6 with fail;rw[<-hW1];clear hW1 cu;have⟨at_,hat⟩:=js ((if ek ls nm<0 then 0 else ek ls nm));have⟨is,his⟩:=js ((!decide (ek ls nm<0)));have Um:=aV his;have QZ:=aV (xO (eo M w 2) (xL a n cap) W1 ls nm (iy.o.acc.slice (λj hj=>pQ mQ.o j hj)) (by have:=iy.o.ok.len;omega) at_ is (aV hat) (aV his));clear hat his;have y1:=one_cell (bZ.o.cZ rfl);have⟨c0,c1,c2⟩:=bM pA.o;go_wp2_with fail;refine dx (QZ.o) λw2 cJ=> ?_;have cR:=aV (bZ.o.aT cJ);have jM:=aV (iy.o.aT cJ);have JA:Hd (ed w2 w1 (dG nm (xL Ty Q8.length Yr) (xL Ys lcs.length Yt))):=(cJ.block _ (ab.1 pA.o).1).trans pA.o;have UB:Hd (aS (cz (xL a n cap) (eo M w 2)) w2 (xL Ty Q8.length Yr) Q8/\aS (cz (xL a n cap) (eo M w 2)) w2 (xL Ys lcs.length Yt) lcs):=⟨Tz.o.1.aT cJ,Tz.o.2.aT cJ⟩;clear cJ Tz iy y1 c0 c1 c2;cases is with
  |true=>
   go_wp2;go_roundg(4-(i+1));case measure=>omega
   case rel=>
    refine⟨i+1,n,cap,a,ls,by omega,by omega,rfl,by go_num,(show DI _ _ _ _ _ _ _ from⟨jM.o.len,by omega,jM.o.ok,λ_=> ?_,jM.o.acc,jM.o.nm⟩),cR⟩;have h1:¬ek ls nm<0:=by simpa using Um.o
    have h2:=jM.o.len;rcases B7 ls nm with h3|h3<;>omega
  |false=>
   have CS:=aV (show ek ls nm<0 by simpa using Um.o);have lp:=aV jM.o.len;have y1:=one_cell (cR.o.cZ rfl);have⟨c0,c1,c2⟩:=bM JA.o;have hs2:=cR.o.cM;simp only[aC,aD]at hs2;have fR:Hd (∀o,bD.rep (α:=bQ) (cz (xL a n cap) (eo M w 2)) (w2.alloc o) [xS nm,xL Ty Q8.length Yr,xL Ys lcs.length Yt] ⟨⟨nm,Q8⟩,lcs⟩):=λo=>⟨_,_,rfl,UB.o.1.aT cU,UB.o.2.aT cU,tM.o⟩;go_wp2_with(at_builtin;refine cA (α:=bQ) rfl _ _ _ rfl (eo M w 2) (↑w+2) 72 i0 _ 64 underlying28 hi0 hz0 hz1 hz2 rfl (by decide) (.slice a n cap) ls rfl (jM.o.acc.alloc _) (λ_=>True) _ _ ⟨⟨nm,Q8⟩,lcs⟩ rfl (dj _ _ _ _ rfl trivial) (fR.o _) (by rw[lp.o];unfold maxLen;omega) (by rw[lp.o];omega) (by simp;omega) ?_;rw[lp.o];intro a2 c2' w3 cF eD hb3;have dR:=aV cF;have fh:Hd (Bx w [iq (),iq (xL a n cap)] w3):=(cR.o.alloc _).ej hb3 (by simp);have p1:=one_cell (fh.o.cZ rfl);have g1:=aY (fh.o.cZ rfl) 0;clear cF eD hb3);go_roundg(4-(i+1));case measure=>omega
   case rel=>
    refine⟨i+1,n+1,c2',a2,ls++[⟨⟨nm,Q8⟩,lcs⟩],by omega,by omega,rfl,by go_num,(show DI _ _ _ _ _ _ _ from⟨by simp[lp.o],by omega,jM.o.ok.snoc C6.o (by rw[lp.o];omega) CS.o,λ_=>by omega,?_,λy hy=>by
     rcases aI.1 hy with hy|hy
     .exact jM.o.nm y hy
     rw[aR.1 hy];exact Q9.o⟩),(show Bx _ _ _ from ?_)⟩
    .exact dR.o.ue (p:=⟨[w],0,none⟩) (.inr ⟨by show w.heap.size<=[w];omega,by show w.heap.size+1<_;omega⟩) (by show w.heap.size+1<_;omega) _
    simpa [iq]using fh.o.set 1 0 rfl (xL a2 (n+1) c2')
 have hex:m<=i\/(i<m/\i=4):=by omega
 have y1:=one_cell (HB.o.cZ rfl);have g0:=aY (HB.o.cP rfl) 0;have z0:=one_cell (HB.o.cP rfl);have g1:=aY (HB.o.cZ rfl) 0;rcases Nat.eq_zero_or_pos n with wK|wK
 .have TA:i=0:=Nat.eq_zero_of_not_pos λh=>by have:=HS.o.some_ h;omega
  subst wK TA;have Yu:m=0:=by omega
  subst Yu;have WM:=aV (oy (eo M w 2) wr (dZ mQ.o hsz) ⟨0,[]⟩ () (aS.nil _ _) J5);go_wp2_with fail;refine(WM.o).mono ?_;rintro e w1⟨_,rfl,⟨c,FU,_,⟨_,rfl,⟨fv1,rfl,hsl,_⟩⟩⟩,hb1⟩;have CQ:=hsl;obtain⟨fa,fc,rfl,_⟩:=CQ.bj;have cu:=aV (HB.o.aT hb1);have Tw:=aV FU;have gS:=aV hsl;clear hsl FU hb1 y1 g0 z0 g1;obtain⟨nm,zm⟩:=c;dsimp only at*;have y1:=λo=>one_cell ((cu.o.alloc o).cZ rfl);have g1:=λo=>aY ((cu.o.alloc o).cZ rfl) 0;have z0:=λo=>one_cell ((cu.o.alloc o).cP rfl);have g0:=λo=>aY ((cu.o.alloc o).cP rfl) 0;have s1:=cu.o.cM;simp only[aC,aD]at s1;have po:Hd (∀W',W'=((w1.alloc (dG nm (xL fa zm.length fc) ())).setCell ([w],0) (xL (w1,0) 1 1)).setCell (w,0) (xL (w1,0) 1 1)->(∃ls,eS ls/\(0<ls.length/\Y5 ls)/\∃lv,Value.agg #[xL (w1,0) 1 1]= .agg #[lv]/\aS M W' lv ls)/\bC w W'):=λW' hW'=>by
   have E:Ev (eo M w 2) w1 M W':=by
    rw[hW'];exact(((Ev.eO w1 λi hi=> .inl hi).alloc _).setCell (.inl (.inr ⟨by simp,by simp⟩)) _).setCell (.inl (.inr ⟨by simp,by simp⟩)) _
   have hblk:W'.heap[w1.heap.size]? =some (xK #[nm,xL fa zm.length fc,()] 72):=by
    rw[hW'];refine(aj _ _ _ _ (by show w1.heap.size≠w;omega)).trans ((aj _ _ _ _ (by show w1.heap.size≠[w];omega)).trans ?_);exact az w1 _
   refine⟨⟨[⟨⟨nm,zm⟩,[]⟩],eS.one Tw.o,⟨by simp,by simp,λy hy=>by rw[aR.1 hy];exact sH _ Tw.o.2.2.2⟩,_,rfl,OM (l:=⟨⟨nm,zm⟩,[]⟩) hblk (λhm=>by have:=mQ.o _ hm;omega) (gS.o.ev E) (aS.nil _ _) (DJ Tw.o)⟩,?_⟩;rw[hW'];exact((cu.o.alloc _).1.setCell (by simp) _).setCell (by simp) _
  unfold dG at po;go_wp2_with fail;exact ah (v:= .agg #[xL (w1,0) 1 1]) (by simp[results,results16,go_sem,z0,g0]) rfl ⟨_,rfl,po.o _ rfl⟩
 have po:Hd (∀W',W'=wr.setCell (w,0) (xL a n cap)->(∃ls,eS ls/\(0<ls.length/\Y5 ls)/\∃lv,Value.agg #[xL a n cap]= .agg #[lv]/\aS M W' lv ls)/\bC w W'):=λW' hW'=>by
  have E:Ev (eo M w 2) wr M W':=by
   rw[hW'];exact((Ev.eO wr λi hi=> .inl hi).setCell (.inl (.inr ⟨by simp,by simp⟩)) _)
  refine⟨⟨ls,HS.o.ok,⟨by rw[HS.o.len];exact wK,by have:=HS.o.len;have:=HS.o.le;omega,HS.o.nm⟩,_,rfl,(HS.o.acc.slice (λj hj=>pQ mQ.o j hj)).ev E⟩,?_⟩;rw[hW'];exact HB.o.1.setCell (by simp) _
 rcases hex with hex|⟨hex,rfl⟩;all_goals
  go_wp2_with fail;exact ah (v:= .agg #[xL a n cap]) (by simp[results,results16,go_sem,z0,g0]) rfl ⟨_,rfl,po.o _ rfl⟩
def pR(c:bI)(l:List bK):bI:=l.foldl dk c
def bV(l:bQ)(v:Nat):bI:=pR l.bu (l.bo.take v)
def dX.dz {l:List bK}(h:dX c l d):d=pR c l:=by
 induction h with
 |nil c=>rfl
 |cons c d x l _ _ _ ih=>exact ih
def dX.DL {l:List bK}(h:dX c l d)(v:Nat):dX c (l.take v) (pR c (l.take v))/\dX (pR c (l.take v)) (l.drop v) d:=by
 have⟨e,h1,h2⟩:=h.split v;obtain rfl:=h1.dz;exact⟨h1,h2⟩
def ff.at_ {l:bQ}(h:ff l)(v:Nat):dX l.bu (l.bo.take v) (bV l v):=by
 have⟨d,hd⟩:=h.chs;exact(hd.DL v).1
def ff.lr {l:bQ}(h:ff l)(v:Nat):dE (bV l v):=(h.at_ v).ok h.bu
theorem ff.step {l:bQ}(h:ff l){v:Nat}(hx:l.bo[v]? =some x):jR (bV l v) x/\j8 (bV l v) x=true/\bV l (v+1)=dk (bV l v) x:=by
 have⟨d,hd⟩:=h.chs;have⟨h1,h2,_⟩:=xJ (h.at_ v) hd hx;refine⟨h1,h2,?_⟩;unfold bV pR;rw[ao,hx,List.foldl_append];rfl
def ff.aX {l:bQ}(h:ff l)(v:Nat):(bV l v).aX=l.bu.aX:=(h.at_ v).aX
def fz(l:bQ)(v:Nat):bQ:=⟨bV l v,l.bo.drop v⟩
def ff.from_ {l:bQ}(h:ff l)(v:Nat):ff (fz l v):=by
 have⟨d,hd⟩:=h.chs;exact⟨h.lr v,by have:=h.len;simp[fz];omega,d,(hd.DL v).2⟩
def pS {l:bQ}(v k:Nat):bV (fz l v) k=bV l (v+k):=by
 unfold bV fz pR bV pR;dsimp only;rw[<-List.foldl_append,List.take_add]
def kR(c:bI)(l:List bK)(br:Int)(vs us:List bE):Prop:=cD (pR c l).aW br us/\us.map (dm 3)=qz c l (vs.map (dm 3))
def kR.snoc {l:List bK}{ts:List bE}(hc:dX c l d)(h:kR c l br vs us)(k:iW d x br us ts):kR c (l++[x]) br vs ts:=by
 obtain⟨h1,h2⟩:=h;obtain⟨k1,k2⟩:=k;obtain rfl:=hc.dz;refine⟨?_,?_⟩
 .unfold pR at k1⊢;rw[List.foldl_append];exact k1
 rw[k2,h2,B3 c _ l x _ hc]
def refsOf(l:bQ)(v:Nat)(vs:List bE):List Int:=(qz (bV l v) (l.bo.drop v) (vs.map (dm 3))).flatten
def kR.refs {l:bQ}{v:Nat}(h:kR (bV l v) (l.bo.drop v) br vs us):us.flatMap (dm 3)=refsOf l v vs:=by
 unfold refsOf;rw[<-h.2,List.flatMap_def]
def mK {rs:List (List Int)}{P:Int->Prop}(h:∀r∈rs,∀n∈r,P n):∀n∈lC c s rs,P n:=by
 intro n hn;unfold lC at hn;split at hn
 .unfold G9 at hn;split at hn
  .rw[List.getD_eq_getElem?_getD]at hn;rename_i e _ _;cases hq:rs[(fieldAt c e.str).toNat]? with
   |none=>rw[hq]at hn;simp at hn
   |some r=>rw[hq]at hn;exact h r (ai hq) n hn
  simp at hn
 simp at hn
def Hh {rs:List (List Int)}{P:Int->Prop}(h:∀r∈rs,∀n∈r,P n):∀r∈mT c x rs,∀n∈r,P n:=by
 intro r hr;have h1:∀k,∀r∈rs.take k,∀n∈r,P n:=λk r hr=>h r (List.mem_of_mem_take hr);have h2:∀k,∀r∈rs.drop k,∀n∈r,P n:=λk r hr=>h r (List.mem_of_mem_drop hr);unfold mT at hr;split at hr
 .rcases aI.1 hr with hr|hr
  .exact h r hr
  simp at hr;subst hr;exact mK h
 split at hr
 .rcases aI.1 hr with hr|hr
  .exact h1 _ r hr
  exact h2 _ r hr
 split at hr
 .rcases aI.1 hr with hr|hr
  .exact h1 _ r hr
  rcases aO.1 hr with rfl|hr
  .exact mK h
  exact h2 _ r hr
 split at hr
 .rcases aI.1 hr with hr|hr
  .exact h1 _ r hr
  rcases aO.1 hr with rfl|hr
  .exact mK h
  rcases aO.1 hr with rfl|hr
  .exact mK h
  exact h2 _ r hr
 exact h r hr
theorem vg {P:Int->Prop}:∀(l:List bK)(c:bI)(rs:List (List Int)),(∀r∈rs,∀n∈r,P n)->∀r∈qz c l rs,∀n∈r,P n
 |[],_,_,h=>h
 |_::l,_,_,h=>vg l _ _ (Hh h)
def B8 {l:bQ}{v:Nat}(h:cD (bV l v).aW br vs):∀n∈refsOf l v vs,1<=n/\n<=br:=by
 intro n hn;unfold refsOf at hn;have⟨r,hr,hn⟩:=List.mem_flatten.1 hn;refine vg (P:=λn=>1<=n/\n<=br) _ _ _ (λr hr=> ?_) r hr n hn;obtain⟨u,hu,rfl⟩:=aQ.1 hr;have⟨f,_,hf⟩:=fI h u hu;exact rN hf (.inl rfl)
structure jS(ls:List bQ)(br:Int)(o:cm)(k v:Nat)(l:bQ):Prop where
 dz:o.dz=k
 dB:o.dB=v
 line:ls[k]? =some l
 le:v<=l.bo.length
 bR:cD (bV l v).aW br o.bR
def vT(k:Nat):bS:=([⟨#[97]⟩,⟨#[98,50]⟩,⟨#[104,111,109,101]⟩,⟨#[116,111,112,95,49]⟩,⟨#[122]⟩]:List bS).getD k mz
def AD:∀k,k<5->bF (vT k)=true/\(vT k).size<=20:=by
 intro k hk;rcases k with _|_|_|_|_|k;all_goals first|(decide+kernel)|omega
def x8:∀i,i<5->∀j,j<5->Op.bytesLess (vT i).toList (vT j).toList=decide (i<j):=by decide+kernel
def ON:∀i,i<5->∀j,j<5->((vT i).toList==(vT j).toList)=decide (i=j):=by decide+kernel
structure B9(x:bU):Prop where
 sch:eS x.bH
 len:x.bN.length<=10
 bN:∀(i:Nat)(o:cm),x.bN[i]? =some o->o.id=(i:Int)+1/\∃k v l,jS x.bH x.bN.length o k v l
 rlen:x.bB.length<=5
 bB:∀r∈x.bB,1<=r.id/\r.id<=x.bN.length
 names:∃ks:List Nat,ks.Pairwise (·< ·)/\(∀k∈ks,k<5)/\x.bB.map bT.aX=ks.map vT
 next:(x.bN.length:Int)+1<=x.next/\x.next<=(x.bN.length:Int)+3
 few:Y5 x.bH
def B9.mL {x:bU}(h:B9 x){r:bT}(hr:x.bB[i]? =some r):bF r.aX=true/\r.aX.size<=20:=by
 have⟨ks,_,h2,h3⟩:=h.names;have hm:r.aX∈x.bB.map bT.aX:=List.mem_map_of_mem (ai hr);rw[h3]at hm;have⟨k,hk,e⟩:=aQ.1 hm;rw[<-e];exact AD k (h2 k hk)
def B9.x9 {x:bU}(h:B9 x){r s:bT}(hr:x.bB[i]? =some r)(hs:x.bB[i+1]? =some s):(Op.bytesLess s.aX.toList r.aX.toList||s.aX.toList==r.aX.toList)=false:=by
 have⟨ks,h1,h2,h3⟩:=h.names;have e1:(x.bB.map bT.aX)[i]? =some r.aX:=by simp[hr]
 have e2:(x.bB.map bT.aX)[i+1]? =some s.aX:=by simp[hs]
 rw[h3,List.getElem?_map,Option.map_eq_some_iff]at e1 e2;obtain⟨a,ha,e1⟩:=e1;obtain⟨b,hb,e2⟩:=e2;have⟨l1,g1⟩:=ag.1 ha;have⟨l2,g2⟩:=ag.1 hb;have cE:=List.pairwise_iff_getElem.1 h1 i (i+1) l1 l2 (by omega);rw[g1,g2]at cE;have k1:=h2 a (ai ha);have k2:=h2 b (ai hb);rw[<-e1,<-e2,x8 b k2 a k1,ON b k2 a k1];simp;omega
def cV(x:bU):List Int:=x.bB.map bT.id
end
section
open Go.RowKit Go.Shelf
def gX {l:List cm}(h:aS M w v l){x:cm}(hx:l[i]? =some x):∃b off cap a c,v=xL (b,off) l.length cap/\b<w.heap.size/\aS M w (xL a x.bR.length c) x.bR/\∀W,bC w W->(cC W b (off+i*4) x.id/\cC W b (off+i*4+1) x.dz/\cC W b (off+i*4+2) x.dB/\cC W b (off+i*4+3) (xL a x.bR.length c)):=by
 obtain⟨a,cap,rfl,hl,_,hc⟩:=h.bj;have hk:=(ag.1 hx).1;obtain⟨b,off,rfl,_,hb,hcell⟩:=hc (by omega);obtain⟨cs,⟨vv,rfl,hs⟩,hcs⟩:=hcell i _ hx;have hs2:=hs;obtain⟨a,c,rfl,_⟩:=hs2.bj;refine⟨b,off,cap,a,c,rfl,hb,hs,λW hB=> ?_⟩;have g:∀j u,([xI x.id,xI x.dz,xI x.dB,xL a x.bR.length c]:List bt)[j]? =some u->cC W b (off+i*4+j) u:=λj u hu=>(hB.cell (p:=⟨b,off+i*4+j,none⟩) hb).trans (hcs j u hu);exact⟨g 0 _ rfl,g 1 _ rfl,g 2 _ rfl,g 3 _ rfl⟩
def fU {l:List bT}(h:aS M w v l){x:bT}(hx:l[i]? =some x):∃b off cap,v=xL (b,off) l.length cap/\b<w.heap.size/\x.aX.size<=maxLen/\∀W,bC w W->(cC W b (off+i*2) x.aX/\cC W b (off+i*2+1) x.id):=by
 obtain⟨a,cap,rfl,hl,_,hc⟩:=h.bj;have hk:=(ag.1 hx).1;obtain⟨b,off,rfl,_,hb,hcell⟩:=hc (by omega);obtain⟨cs,⟨rfl,hs⟩,hcs⟩:=hcell i _ hx;refine⟨b,off,cap,rfl,hb,hs,λW hB=> ?_⟩;have g:∀j u,([xS x.aX,xI x.id]:List bt)[j]? =some u->cC W b (off+i*2+j) u:=λj u hu=>(hB.cell (p:=⟨b,off+i*2+j,none⟩) hb).trans (hcs j u hu);exact⟨g 0 _ rfl,g 1 _ rfl⟩
def dI(lv ov rv:bt)(n:Int):Obj:=xK #[lv,ov,rv,n] 34
def RL(k:Nat):Nat:=([2,0,1,3,4]:List Nat).getD k 0
def Vs(h:k<5):RL k<5:=by
 rcases k with _|_|_|_|_|k<;>first|decide|omega
def Vt(h:k<5):(#[xS ⟨#[104,111,109,101]⟩,xS ⟨#[97]⟩,xS ⟨#[98,50]⟩,xS ⟨#[116,111,112,95,49]⟩,xS ⟨#[122]⟩]:Array bt)[k]? =some (xS (vT (RL k))):=by
 rcases k with _|_|_|_|_|k<;>first|rfl|omega
def Hl(c:Int)(hc:I6 c)(w:bq):
 xC 19 #[c] w (di (xS (vT (RL (bW c 5)))) w):=by
 have hp:bW c 5<5:=dJ c 5 (by omega);have HP:Hd (∀w,_):=λw=>lX c 5 w hc (by omega) (by omega);have hcell:∀(t:TypeId),(w.alloc (xK #[xS ⟨#[104,111,109,101]⟩,xS ⟨#[97]⟩,xS ⟨#[98,50]⟩,xS ⟨#[116,111,112,95,49]⟩,xS ⟨#[122]⟩] t)).cell? (w,bW c 5)=some (xS (vT (RL (bW c 5)))):=λt=>by
  simp only[World.cell?,az];exact Vt hp
 have Gj:((bW c 5:Nat):Int)<5:=by omega
 have FR:(0:Int)<=((bW c 5:Nat):Int):=an _;rw[show(5:Int).toNat=5 from rfl]at HP;generalize bW c 5=q at*;delta xC;go_in;go_wp2_with fail;refine ey (HP.o _) ?_;go_wp2;go_ret;exact⟨rfl,cU⟩
end
section
open Go.RowKit
theorem sL:∀(h:Nat)(x:bE),xX h x->DF 406 x
 |0,x,hx=>sG x (by rw[show x.list=[]from hx];simp) λy hy=>by rw[show x.list=[]from hx]at hy;cases hy
 |h+1,x,hx=>sG x hx.1 λy hy=>sL h y (hx.2 y hy)
def DZ(a:fM)(cap:Nat)(fv:bt)(w:bq):xC 232 #[xL a 0 cap,fv] w (j7 () w):=by
 delta xC;go_in;go_wp2;go_ret;exact⟨rfl,rfl⟩
def nF {P:Program}(w:bq)(t e:TypeId)(i:TypeInfo)(z:bt)(ht:P.underlying t=some (.slice e))(hi:P.info? e=some i)(hz:i.zero=some z)(n:Nat)(hn:n<=1000)(hb:i.bytes<=1000):
 ∃cur:Array bt,(Instr.makeSlice t n n).run P w= .ok (xL (w,0) n n) (w.alloc (.cells cur e))/\cur.size=n*i.size:=by
 have hr:=run_make (P:=P) w t e i z ht hi hz .i64 .i64 n n (by omega) (Int.le_refl _) (by
  have:i.bytes*n<=1000*1000:=Nat.mul_le_mul hb hn;have h2:((i.bytes*n:Nat):Int)<=1000000:=by omega
  rw[Int.natCast_mul]at h2;omega) (by omega);simp only[Int.toNat_natCast]at hr;exact⟨_,hr,size_madeCells _ _⟩
def oK {l:List bJ}(h:aS M w v l){x:bJ}(hx:l[k]? =some x):∃b off cap,v=xL (b,off) l.length cap/\b<w.heap.size/\x.aX.size<=maxLen/\∀W,bC w W->cC W b (off+k*4) x.aX/\cC W b (off+k*4+1) x.type.bg/\cC W b (off+k*4+2) x.type.of/\cC W b (off+k*4+3) (xB x.indexed):=by
 obtain⟨a,cap,rfl,hl,_,hc⟩:=h.bj;have hk:=(ag.1 hx).1;obtain⟨b,off,rfl,_,hb,hcell⟩:=hc (by omega);obtain⟨cs,⟨rfl,hs⟩,hcs⟩:=hcell k x hx;refine⟨b,off,cap,rfl,hb,hs,λW hB=> ?_⟩;have g:∀j u,([xS x.aX,xI x.type.bg,xI x.type.of,xB x.indexed]:List bt)[j]? =some u->cC W b (off+k*4+j) u:=λj u hu=>(hB.cell (p:=⟨b,off+k*4+j,none⟩) hb).trans (hcs j u hu);exact⟨g 0 _ rfl,g 1 _ rfl,g 2 _ rfl,g 3 _ rfl⟩
def OV(n:bS)(k o:Int)(i:Bool)(w:bq):xC 228 #[.agg #[n,k,o,i]] w (di (.agg #[n,k,o,i]) w):=by
 delta xC;go_in;go_wp2_with fail;refine ah (v:= .agg #[n,k,o,i]) (by simp[results,results228,go_sem]) rfl ⟨rfl,?_⟩;exact cU.alloc (by simp) _
def ye(l:List bJ)(hl:l.length<=12)(h0:0<l.length)(M:bY)(w:bq)(v:bt)(hM:Bd M w)(hs:aS M w v l):
 xG 227 #[v, .func (.func 228) #[] #[]] w λv' w'=>aS M w' v' l:=by
 have⟨i0,hi0,hz0,hz1,hz2⟩:=info_parts jx;have HC:Hd (∀(i:Nat)(x:bJ),l[i]? =some x->_):=λi x hx=>oK hs hx;obtain⟨a,cY,rfl,dN,hmx,_⟩:=hs.bj;generalize hn:l.length=n at*;have fB:=aV hn;have wK:((n:Int)==0)=false:=by simp;omega
 have⟨cur,hmk,hcs⟩:=nF (P:=prog) w 51 78 i0 _ underlying51 hi0 hz0 n (by omega) (by omega);have JF:Hd (eM (α:=bJ) M w 78 (w.alloc (.cells cur 78)) n []):=eM.made cur (az w _) (by rw[hcs,hz1];rfl);delta xG;go_in;go_wp2;go_loopg [6,7,16]n(λg _ _ iv wr=>∃i:Nat,i<=n/\g=n-i/\iv=xI i/\Hd (eM M w 78 wr n (l.take i))/\Hd (bC w wr));exact⟨0,ax _,rfl,rfl,JF,cU⟩;obtain⟨i,hi,rfl,rfl,HA,HB⟩:=hrel;have hsz:w.heap.size<wr:=HA.o.lt;by_cases cE:i<n
 .have⟨⟨xn,⟨xk,xo⟩,xi⟩,hx⟩:=fg l i (by rw[fB.o];exact cE);have⟨b,off,cap,hv,hb,hxs,hcells⟩:=HC.o i _ hx;obtain⟨rfl,rfl⟩:=jk hv;have⟨q0,q1,q2,q3⟩:=hcells wr HB.o;have pr:=aV (show(l.take i).length=i by have:=fB.o;rw[aK];omega);have oQ:=aV (show l.take (i+1)=l.take i++[⟨xn,⟨xk,xo⟩,xi⟩]by rw[ao,hx];rfl);have wH:=aV hxs;dsimp only at q0 q1 q2 q3;go_wp2_with fail;refine dx (OV _ _ _ _ _) λw1 hb1=> ?_;have tU:Hd (bD.rep (α:=bJ) (orM M w) w1 [xS xn,xI xk,xI xo,xB xi] ⟨xn,⟨xk,xo⟩,xi⟩):=⟨rfl,wH.o⟩;have cu:=aV (ct hb1);have lJ:=aV (HA.o.aT cu.o);have Yp:i*4+3<n*4:=by omega
  have⟨u0,p0,f0⟩:=lJ.o.cell (j:=i*4) (by show _<n*4;omega);have⟨u1,p1,f1⟩:=lJ.o.cell (j:=i*4+1) (by show _<n*4;omega);have⟨u2,p2,f2⟩:=lJ.o.cell (j:=i*4+2) (by show _<n*4;omega);have⟨u3,p3,f3⟩:=lJ.o.cell (j:=i*4+3) (by show _<n*4;omega);go_wp2;go_roundg(n-(i+1));case measure=>omega
  case rel=>
   refine⟨i+1,by omega,rfl,by go_num,(show eM _ _ _ _ _ _ by rw[oQ.o];exact lJ.o.lD rfl pr.o cE tU.o),(show Below _ _ _ from ?_)⟩;exact(((((HB.o.trans (cu.o.mono (by omega))).setCell (by simp) _).setCell (by simp) _).setCell (by simp) _).setCell (by simp) _)
 go_wp2;go_ret;refine⟨_,rfl,?_,HB.o⟩;have h1:=HA.o;rw[ak (by rw[fB.o];omega)]at h1;exact h1.slice fB.o (λh=>by have:=hM _ h;omega) (by unfold maxLen;omega)
def D1(a:fM)(cap:Nat)(fv:bt)(w:bq):xC 227 #[xL a 0 cap,fv] w (j7 () w):=by
 delta xC;go_in;go_wp2;go_ret;exact⟨rfl,rfl⟩
def Cc(l:List bJ)(hl:l.length<=12)(M:bY)(w:bq)(v:bt)(hM:Bd M w)(hs:aS M w v l):
 xG 227 #[v, .func (.func 228) #[] #[]] w λv' w'=>aS M w' v' l:=by
 by_cases h0:0<l.length
 .exact ye l hl h0 M w v hM hs
 have e:l=[]:=aM (by omega);subst e;obtain⟨a,cap,rfl,_⟩:=hs.bj;refine ey (D1 a cap _ w) ?_;exact⟨_,rfl,aS.nil _ _,eH⟩
def rA(nm:bS)(l:List bJ)(hl:l.length<=12)(M:bY)(w:bq)(v:bt)(hM:Bd M w)(hs:aS M w v l):
 xG 168 #[.agg #[nm,v]] w λu w'=>∃v',u= .agg #[nm,v']/\aS M w' v' l:=by
 have zo:Hd (∀W,bC w W->w.heap.size+2<=W->_):=λW hb hz=>Cc l hl (eo M w 2) W v (dZ hM hz) (hs.ev (dH hb));obtain⟨a,cY,rfl,_⟩:=hs.bj;delta xG;go_in;go_wp2_with fail;refine(zo.o _ (Bx.ei w _ _).1 (by simp)).mono ?_;rintro e w1⟨_,rfl,hs1,hb1⟩;obtain⟨za,zc,rfl,_⟩:=hs1.bj;have HB:=aV ((Bx.ei w (dP nm (xL a l.length cY)) (dP () ())).aT hb1);have⟨r0,r1⟩:=aZ (HB.o.cP rfl);have⟨e0,e1⟩:=aZ (HB.o.cZ rfl);have f1:=aY (HB.o.cP rfl) 1;have⟨g0,g1⟩:=nZ (HB.o.cZ rfl);have HS:=aV hs1;go_wp2_with fail;refine ah (v:= .agg #[nm,xL za l.length zc]) (by simp[results,results168,go_sem,e0,e1]) rfl ⟨_,rfl,⟨_,rfl,HS.o.ev ?_⟩,?_⟩
 .exact((((fx w1).setCell (.inl (.inr ⟨by simp,by simp⟩)) _).setCell (.inl (.inr ⟨by simp,by simp⟩)) _).setCell (.inl (.inr ⟨by simp,by simp⟩)) _)
 exact((HB.o.1.setCell (by simp) _).setCell (by simp) _).setCell (by simp) _
def D2(h:cj c=true)(hf:c.aW[i]? =some f):bO f.type=true:=
 (u6 (((fe c).1 h).2.2.1 f (ai hf))).2.1
def jd(c:bI)(hc:cj c=true)(hcn:c.aX.size<=maxLen)(br:Int)(hm:br<=100000)(vs:List bE)(hv:cD c.aW br vs)(M:bY)(w:bq)(fv vv:bt)(hfs:aS M w fv c.aW)(hvs:aS M w vv vs)(hT:Tb w):
 xC 157 #[.agg #[c.aX,fv],vv] w (di (.tuple #[xI 0,xI 0]) w):=by
 have h8:c.aW.length<=8:=((fe c).1 hc).2.1;have HR:Hd (∀W,bC w W->xC 50 #[.agg #[c.aX,fv]] W (di true W)):=λW hb=>by
  have h:=iA M fv W c (hfs.aT hb) hcn;rw[hc]at h;exact h
 have Tz:Hd (∀(i:Nat)(x:bJ),c.aW[i]? =some x->_):=λi x hx=>oK hfs hx;have Yz:Hd (∀(i:Nat)(k n:Int)(s:bS)(ll:List bE),vs[i]? =some (.mk k n s ll)->_):=λi k n s ll hx=>ep hvs hx;have HFT:Hd (∀(i:Nat)(f:bJ)(x:bE)(W:bq)(u:bt),c.aW[i]? =some f->vs[i]? =some x->bC w W->dq M W u x->_):=λi f x W u hf hx hb hu=>OI (hv.2 i f x hf hx) (D2 hc hf) hm hu (hT.aT hb);have hln:=hv.1;obtain⟨fa,fc,rfl,hlc,Jo,_⟩:=hfs.bj;obtain⟨va,vc,rfl,iH,hvm,_⟩:=hvs.bj;obtain⟨nm,fs⟩:=c;dsimp only at*;generalize hvn:vs.length=m at*;generalize hn:fs.length=n at*;obtain rfl:m=n:=hln;have fB:=aV hvn;have Ad:=aV hn;have hnn:((m:Int)!=(m:Int))=false:=by simp
 delta xC;go_in;go_wp2_with fail;refine dx (HR.o _ cU) λw1 hb1=> ?_;have cu:=aV ((Bx.fm w (dP nm (xL fa m fc))).aT hb1);have⟨c0,c1⟩:=aZ (cu.o.cP rfl);go_wp2;go_loopg [6,7,26]m(λg _ _ iv wr=>∃i:Nat,i<=m/\g=m-i/\iv=xI i/\Hd (bC w wr));exact⟨0,ax _,rfl,rfl,(cu.o.1)⟩;obtain⟨i,hi,rfl,rfl,HB⟩:=hrel;by_cases cE:i<m
 .have⟨⟨xn,⟨xk,xo⟩,xi⟩,hx⟩:=fg fs i (by rw[Ad.o];exact cE);have⟨⟨yk,yn,ys,yl⟩,hy⟩:=fg vs i (by rw[fB.o];exact cE);have⟨b,off,cap,hfv,hb,_,hcells⟩:=Tz.o i _ hx;obtain⟨rfl,rfl⟩:=jk hfv;have⟨bv,offv,capv,a',c',hvv,hbv,_,_,hvcells⟩:=Yz.o i yk yn ys yl hy;obtain⟨rfl,rfl⟩:=jk hvv;have hsz:=HB.o.size;have bZ:=aV (λo=>HB.o.alloc hsz o);have⟨q0,q1,q2,q3⟩:=hcells wr HB.o;have p0:=λo=>(hvcells _ (bZ.o o)).1.1;have p1:=λo=>(hvcells _ (bZ.o o)).1.2.1;have p2:=λo=>(hvcells _ (bZ.o o)).1.2.2.1;have p3:=λo=>(hvcells _ (bZ.o o)).1.2.2.2;have mC:=aV (λo=>HFT.o i _ _ (wr.alloc o).drew _ hx hy (bZ.o o).drew ((hvcells _ (bZ.o o)).2.ev ((Ev.refl _ _).drew)));dsimp only at q0 q1 q2 q3;go_upto_region 8 with fail;go_region_law(first
   |(go_simp;go_at_call 110;refine dx (mC.o _) λw2 cJ=> ?_;have cR:Hd (bC w w2):=(bZ.o _).drew.trans (cJ.mono (by have:=(bZ.o (xK #[] 0)).size;simp at this⊢;omega));clear cJ));all_goals
   go_wp2;go_roundg(m-(i+1));exact⟨i+1,by omega,rfl,by go_num,cR⟩;omega
 go_wp2;go_ret2;exact⟨rfl,HB.o⟩
def lu(k n:Int)(s:bS)(p:Int):bt:= .agg #[k,n,s,p]
def yf(h:bF nm=true):cj ⟨nm,[]⟩=true:=by
 rw[fe];refine⟨h,by simp,?_,by simp⟩;intro f hf;cases hf
def AI(s:bS)(h:bF s=true)(hs:s.size<=20)(w:bq):xC 410 #[s] w (di true w):=by
 have HR:=aV (show xC 50 #[.agg #[s,()]] w (di true w)by
  have h1:=iA xF () w ⟨s,[]⟩ (aS.nil _ _) (dD hs);rw[yf h]at h1;exact h1);clear h;delta xC;go_in;go_wp2_with fail;refine dx (HR.o) λw1 hb1=> ?_;have HB:=aV hb1;clear hb1;go_wp2;go_ret;exact⟨rfl,HB.o⟩
def D3(h:kO s.data.toList=true):il s:=by
 unfold kO at h;simp only[aF,decide_eq_true_eq,List.all_eq_true]at h;exact⟨by rw[<-cH];exact h.1,pO _ λc hc=>h.2 c hc⟩
def AJ(s:bS)(h:il s)(w:bq)(hT:Tb w):xC 411 #[s] w (di true w):=by
 have HR:=aV (xV s h none 0 w hT);clear h hT;delta xC;go_in;go_wp2_with fail;refine dx (HR.o) λw1 hb1=> ?_;have HB:=aV hb1;clear hb1;go_wp2;go_ret;exact⟨rfl,HB.o⟩
def zI(s:bS)(hs:s.size<=200)(h0:0<s.size)(c:Int)(hc:((s[0]'h0).toNat:Int)=c)(h1:48<=c)(h2:c<=57)(hn:∀h:1<s.size,¬(48<=((s[1]'h).toNat:Int)/\((s[1]'h).toNat:Int)<=57))(w:bq):
 xC 369 #[s] w (di (.tuple #[lu 1 (c-48) () 0,xI 1]) w):=by
 have HC:=aV hc;have HN:=aV hn;clear hc hn;delta xC;go_in;go_wp2;go_loopg [4,5]2(λg n k wr=>wr=w.alloc (xK #[xI 0,xI 0,"",xI 0] 396)/\((g=2/\n=xI 0/\k=xI 0)\/(g=1/\n=xI (c-48)/\k=xI 1)));exact⟨rfl, .inl ⟨rfl,rfl,rfl⟩⟩;obtain⟨rfl,⟨rfl,rfl,rfl⟩|⟨rfl,rfl,rfl⟩⟩:=hrel
 .have q0:∀h,((s[0]'h).toNat:Int)=c:=λ_=>HC.o;have q1:0<s.size:=h0;go_wp2;go_roundg 1;exact⟨rfl, .inr ⟨rfl,by rw[Int.min_eq_left (by omega)],rfl⟩⟩;omega
 have hg:¬(c-48>1000000000000000):=by omega
 by_cases hl:1<s.size
 .have hn1:=HN.o hl;have⟨d,hd⟩:=js (((s[1]'hl).toNat:Int));rw[hd]at hn1;have q1:∀h,((s[1]'h).toNat:Int)=d:=λ_=>hd;clear hd;by_cases a1:48<=d
  .have a2:¬d<=57:=λh=>hn1 ⟨a1,h⟩;clear hn1;go_wp2_with fail;refine ah (v:= .tuple #[lu 1 (c-48) () 0,xI 1]) (by simp[results,results369,go_sem,lu]) rfl ⟨rfl,?_⟩;exact cU
  clear hn1;go_wp2_with fail;refine ah (v:= .tuple #[lu 1 (c-48) () 0,xI 1]) (by simp[results,results369,go_sem,lu]) rfl ⟨rfl,?_⟩;exact cU
 go_wp2_with fail;refine ah (v:= .tuple #[lu 1 (c-48) () 0,xI 1]) (by simp[results,results369,go_sem,lu]) rfl ⟨rfl,?_⟩;exact(ay _ w).alloc cN _
def sM(c:Int):Bool:=decide (97<=c/\c<=122)||decide (48<=c/\c<=57)||decide (c=95)
def pc0:Obj:=xK #[xI 0,xI 0,"",xI 0] 396
def D4(s:bS)(hs:s.size<=200)(m:Nat)(hm:m<=s.size)(qgn:m<=20)(hall:∀k(h:k<s.size),k<m->sM ((s[k]'h).toNat:Int)=true)(JG:∀h:m<s.size,sM ((s[m]'h).toNat:Int)=false)(nm:bS)(hnm:s.extract 0 m=nm)(hr:bF nm=true)(w:bq):
 xC 370 #[s] w (di (.tuple #[lu 3 0 nm 0,m]) w):=by
 have HA:=aV hall;have HE:=aV JG;have HN:=aV hnm;have HS:=aV (show nm.size<=20 by rw[<-hnm];simp[ByteArray.size_extract];omega);have HR:Hd (∀W,xC 410 #[xS (s.extract 0 m)] W (di true W)):=λW=>by rw[hnm];exact AI nm hr HS.o W
 clear hall JG hr hnm;delta xC;go_in;go_wp2;go_loopg [4](m+1)(λg k wr=>∃i:Nat,i<=m/\g=m+1-i/\k=xI i/\wr=w.alloc pc0);exact⟨0,ax _,rfl,rfl,rfl⟩;obtain⟨i,hi,rfl,rfl,rfl⟩:=hrel;by_cases cE:i<s.size
 .have⟨d,hd⟩:=js (((s[i]'cE).toNat:Int));have HW:=aV (show sM d=decide (i<m)by
   by_cases h:i<m
   .rw[<-hd,HA.o i cE h];simp[h]
   have:i=m:=by omega
   subst this;rw[<-hd,HE.o cE];simp);have q1:∀h,((s[i]'h).toNat:Int)=d:=λ_=>hd;clear hd;by_cases Tm:i<m
  .have hw:sM d=true:=by rw[HW.o];simpa using Tm
   have hcs:(97<=d/\d<=122)\/(¬97<=d/\48<=d/\d<=57)\/(¬97<=d/\48<=d/\¬d<=57/\(d==95)=true):=by
    unfold sM at hw;simp at hw;simp;omega
   clear hw;rcases hcs with⟨a1,a2⟩|⟨a1,a2,a3⟩|⟨a1,a2,a3,a4⟩;all_goals
    go_wp2;go_roundg(m+1-(i+1));exact⟨i+1,by omega,rfl,by go_num,rfl⟩;omega
  have hw:sM d=false:=by rw[HW.o];simpa using Tm
  obtain rfl:i=m:=by omega
  have hcs:(97<=d/\¬d<=122/\48<=d/\¬d<=57/\(d==95)=false)\/(¬97<=d/\48<=d/\¬d<=57/\(d==95)=false)\/(¬97<=d/\¬48<=d/\(d==95)=false):=by
   unfold sM at hw;simp at hw;simp;omega
  clear hw;rcases hcs with⟨a1,a2,a3,a4,a5⟩|⟨a1,a2,a3,a4⟩|⟨a1,a2,a3⟩;all_goals
   go_wp2_with fail;refine dx (HR.o _) λw1 hb1=> ?_;have⟨g0,g1,g2,g3⟩:=aU (boxed hb1);have⟨f0,f1,f2,f3⟩:=iS (boxed hb1);have HB:=aV (ct hb1);clear hb1;go_wp2_with fail;refine ah (v:= .tuple #[lu 3 0 nm 0,i]) (by rw[<-HN.o];simp[results,results370,go_sem,lu,g0,g1,g2,g3]) rfl ⟨rfl,?_⟩;exact(((HB.o.setCell (by simp) _).setCell (by simp) _).setCell (by simp) _).setCell (by simp) _
 obtain rfl:i=m:=by omega
 go_wp2_with fail;refine dx (HR.o _) λw1 hb1=> ?_;have⟨g0,g1,g2,g3⟩:=aU (boxed hb1);have⟨f0,f1,f2,f3⟩:=iS (boxed hb1);have HB:=aV (ct hb1);clear hb1;go_wp2_with fail;refine ah (v:= .tuple #[lu 3 0 nm 0,i]) (by rw[<-HN.o];simp[results,results370,go_sem,lu,g0,g1,g2,g3]) rfl ⟨rfl,?_⟩;exact(((HB.o.setCell (by simp) _).setCell (by simp) _).setCell (by simp) _).setCell (by simp) _
instance:bD UInt8 where
 size:=1
 rep:=λ_ _ cs x=>cs=[.int .u8 (x.toNat:Int)]
 len:=λh=>by rw[h];rfl
 flat:=λh u hu=>by rw[h]at hu;simp at hu;subst hu;rfl
 ev:=λh _=>h
def LN:(Tryz.prog.info? 5).map (λi=>(i.zero,i.size,i.bytes))=some (some (.int .u8 0),1,1):=by kernel_rfl
def yg {n:Nat}{bs:List UInt8}(h:aS xF w (xL a n cap) bs):(convert 277 9 (xL a n cap)).run prog w= .ok (bL bs) w:=by
 have⟨a',cap',e,_,_,hc⟩:=h.bj;obtain⟨rfl,rfl,rfl⟩:a=a'/\n=bs.length/\cap=cap':=by simpa using e
 cases bs with
 |nil=>
  rw[run_convert_bytes_string w 277 9 5 a _ cap underlying277 underlying5 underlying9];cases a with
  |none=>rfl
  |some ad=>
   have:=run_bytesToString (P:=prog) w ad 0 cap [] (by simpa using run_loadCells_list (P:=prog) w ad [] (λj v hj=>by simp at hj));exact this
 |cons c r=>
  obtain⟨b,off,rfl,_,_,hcell⟩:=hc (by simp);refine run_convert_bytes_back w 277 9 5 ⟨b,off,none⟩ cap (c::r) underlying277 underlying5 underlying9 λj hj=> ?_;obtain⟨cs,rfl,hcs⟩:=hcell j _ (af hj);have:=hcs 0 _ rfl;rw[show bD.size UInt8=1 from rfl]at this;unfold Addr.add;split
  .rename_i h;subst h;simpa using this
  simpa using this
def D5 {l:List UInt8}(h:s.data.toList=l){c:UInt8}(hk:l[k]? =some c):∃h:k<s.size,s[k]'h=c:=by
 subst h;have hl:=(ag.1 hk).1;have h3:k<s.size:=by rw[<-cH];exact hl
 have:=dY s k h3;rw[this]at hk;exact⟨h3,by simpa using hk⟩
def D6(s:ByteArray)(hs:s.size<=200)(bs rest:List UInt8)(hl:s.data.toList=34::(bs++34::rest))(hp:∀c∈bs,gu c=true)(ht:kO bs=true)(w:World)(hT:Tb w):
 xC 371 #[.string s] w (di (.tuple #[lu 2 0 (bL bs) 0, .int .i64 (bs.length+2:Nat)]) w):=by
 have⟨i0,hi0,hz0,hz1,hz2⟩:=info_parts LN;have hlen:bs.length+2+rest.length=s.size:=by rw[<-cH,hl];simp;omega
 have HBY:Hd (∀i c,bs[i]? =some c->∃h:i+1<s.size,s[i+1]'h=c):=(show∀i c,_->_ fromλi c h=>D5 hl (by
  rw[List.getElem?_cons_succ,aq (ag.1 h).1];exact h));have HEN:Hd (∃h:bs.length+1<s.size,s[bs.length+1]'h=34):=(show _ from D5 hl (by
  rw[List.getElem?_cons_succ,au cN];simp));have HP:=aV hp;have Gn:Hd (il (bL bs)):=(show _ from D3 (by simpa [bL]using ht));have UF:=aV hT;have HX:Hd (∀W,bC w W->_):=(show∀W,_->_ fromλW hb=>AJ (bL bs) Gn.o W (UF.o.aT hb));generalize hm:bs.length=m at*;have HM:=aV hm;delta xC;go_in;go_wp2;go_loopg [4,5,14,15,27]m(λg r4 r5 _ _ _ wr=>∃(i c1:Nat)(a1:Option Addr),i<=m/\g=m-i/\r5= .int .i64 ((i:Int)+1)/\r4= .slice a1 i c1/\Hd (bP xF [w] 5 wr (.slice a1 i c1) (bs.take i))/\Hd (Bx w [pc0] wr));exact⟨0,0,none,ax _,rfl,rfl,rfl,(show bP _ _ _ _ _ _ from bP.nil _ _ _ _),(show Bx _ _ _ from Bx.fm w _)⟩;obtain⟨i,c1,a1,hi,rfl,rfl,rfl,HA,HB⟩:=hrel;have hsz:=HB.o.cM;simp only[aC,aD]at hsz;have pr:Hd ((bs.take i).length=i):=(show _=_ by have:=HM.o;rw[aK];omega);by_cases cE:i<m
 .have⟨d,hd⟩:=fg bs i (by rw[HM.o];exact cE);have⟨hb1,cJ⟩:=HBY.o i d hd;have oQ:Hd (bs.take (i+1)=bs.take i++[d]):=(show _=_ by rw[ao,hd];rfl);have iJ:=HP.o d (ai hd);have q1:∀h,s[i+1]'h=d:=λ_=>cJ;have e1:((d.toNat:Int)==34)=false:=by
   unfold gu at iJ;simp at iJ;have h1:=iJ.1;have:d.toNat≠34:=λh=>h1 (by rw[<-UInt8.toNat_inj];simpa using h);simpa using by omega
  have e2:((d.toNat:Int)==92)=false:=by
   unfold gu at iJ;simp at iJ;have h1:=iJ.2;have:d.toNat≠92:=λh=>h1 (by rw[<-UInt8.toNat_inj];simpa using h);simpa using by omega
  go_wp2_with(at_builtin;refine cA (α:=UInt8) rfl _ _ _ rfl xF [w] 5 i0 _ 1 underlying277 hi0 hz0 hz1 hz2 rfl (by decide) (.slice a1 i c1) (bs.take i) rfl (HA.o.alloc _) (λ_=>True) _ [.int .u8 (d.toNat:Int)] d rfl (jz _ _ #[.int .u8 (d.toNat:Int)] _ 1 rfl rfl trivial) (show _=_ from rfl) (by rw[pr.o];unfold maxLen;omega) (by rw[pr.o];omega) (by simp;omega) ?_;rw[pr.o,<-oQ.o];intro a2 c2 w2 cF eD cJ;have dR:=aV cF;have cR:=aV cJ;clear cF eD cJ);go_roundg(m-(i+1));case measure=>omega
  case rel=>
   exact⟨i+1,c2,a2,by omega,rfl,by go_num,rfl,dR,(show Bx _ _ _ from(HB.o.alloc _).ej cR.o (by simp))⟩
 obtain rfl:i=m:=by omega
 have⟨hb1,cJ⟩:=HEN.o;have q1:∀h,s[i+1]'h=34:=λ_=>cJ;have HS:Hd (aS xF wr (.slice a1 i c1) bs):=(show _ by
  have h1:=HA.o.slice (λi h=>h.elim);rw[ak (by rw[HM.o];omega)]at h1;exact h1);have hcv:=yg HS.o;have mC:=aV (HX.o wr HB.o.1);go_wp2_with fail;refine(mC.o).mono ?_;rintro e w1⟨rfl,qai⟩;have cu:=aV (HB.o.aT qai);have qgo:=yg (HS.o.aT qai);have⟨g0,g1,g2,g3⟩:=aU (cu.o.cP rfl);have⟨f0,f1,f2,f3⟩:=iS (cu.o.cP rfl);go_wp2_with fail;refine ah (v:= .tuple #[lu 2 0 (bL bs) 0, .int .i64 ((i:Int)+1+1)]) (by simp[results,results371,go_sem,lu,g0,g1,g2,g3]) rfl ⟨by first|rfl|(congr 3;done)|(congr 3;omega),?_⟩;exact(((cu.o.1.setCell (by simp) _).setCell (by simp) _).setCell (by simp) _).setCell (by simp) _
end
section
open Go.RowKit Go.Shelf
def pU:Go.Shelf.Ren:=⟨λ|99=>412|206=>435|n=>n,λ|9=>9|4=>4|3=>3|n=>n,λ|n=>n⟩
def Hq:Go.Proofs.Lays.n99 prog pU:={
 mixed:=by kernel_rfl
 f99:=Tryz.func412.trans (by kernel_rfl)
 f206:=Tryz.func435.trans (by kernel_rfl)
 t3:=underlying3
 a3:=isAgg3
 z3:=sizeOf3
 v3:=zeroValue3
 t4:=underlying4
 a4:=isAgg4
 z4:=sizeOf4
 v4:=zeroValue4
 t9:=underlying9
 a9:=isAgg9
 z9:=sizeOf9
 v9:=zeroValue9}
def Sy:pU.f 99=412:=by kernel_rfl
def Hr(s p:bS)(w:bq):xC 412 #[s,p] w (j7 (xB (Lib.hasPrefix s.data.toList p.data.toList)) w):=by
 have h:=Any.strings_HasPrefix Hq s p w;rw[Sy]at h;exact h.mono λe w'⟨h1,h2⟩=>⟨h1,h2.symm⟩
def eB:List (List UInt8):=[[61],[60,62],[60],[60,61],[62],[62,61],[38],[43],[45],[42],[47],[37],[40],[41],[44]]
def Cd:Obj:=xK #[xS ⟨#[61]⟩,xS ⟨#[60,62]⟩,xS ⟨#[60]⟩,xS ⟨#[60,61]⟩,xS ⟨#[62]⟩,xS ⟨#[62,61]⟩,xS ⟨#[38]⟩,xS ⟨#[43]⟩,xS ⟨#[45]⟩,xS ⟨#[42]⟩,xS ⟨#[47]⟩,xS ⟨#[37]⟩,xS ⟨#[40]⟩,xS ⟨#[41]⟩,xS ⟨#[44]⟩] 9
def OW(h:cX W B Cd)(hk:k<15):cC W B k (xS (bL (eB.getD k []))):=by
 rcases k with _|_|_|_|_|_|_|_|_|_|_|_|_|_|_|k;all_goals first|omega|exact cell_of_heap h rfl
def Hs:∀k:Fin 15,eB.getD k.val []∉eB.take k.val:=by decide
def Ht(k:Nat)(hk:k<15):eB.take (k+1)=eB.take k++[eB.getD k []]:=by
 rw[ao,List.getD_eq_getElem?_getD,af (show k<eB.length from hk)];rfl
def Hu(s:bS)(c:UInt8)(hc:[c]∈eB)(hp:∀t∈eB,Lib.hasPrefix s.data.toList t=decide (t=[c]))(B:Nat)(w:bq)(hB:cX w B Cd):
 xC 372 #[s,xL (B,0) 15 15] w (j7 (xS ⟨#[c]⟩) w):=by
 have wM:Hd (∀k,k<15->cC w B k (xS (bL (eB.getD k [])))):=λk hk=>OW hB hk;have HP:Hd (∀k,k<15->xC 412 #[s,xS (bL (eB.getD k []))] w (j7 (xB (decide (eB.getD k []=[c]))) w)):=λk hk=>by
  have h:=Hr s (bL (eB.getD k [])) w;have hm:eB.getD k []∈eB:=by
   rw[List.getD_eq_getElem?_getD,af (show k<eB.length from hk)];exact List.getElem_mem _
  rw[show(bL (eB.getD k [])).data.toList=eB.getD k []by simp[bL],hp _ hm]at h;exact h
 have HC:=aV hc;clear hc hp hB;have hs1:(⟨#[c]⟩:bS).size=1:=rfl;delta xC;go_in;go_wp2;go_loopg [5,7,10]15(λg r5 _ iv wr=>∃k:Nat,k<=15/\g=15-k/\iv=xI k/\w=wr/\((r5= ""/\Hd ([c]∉eB.take k))\/(r5=xS ⟨#[c]⟩/\Hd ([c]∈eB.take k))));exact⟨0,ax _,rfl,rfl,rfl, .inl ⟨rfl,(show _∉_ by simp)⟩⟩;obtain⟨k,hk,rfl,rfl,rfl,hr⟩:=hrel;by_cases cE:k<15
 .have q0:=wM.o k cE;have mC:=aV (HP.o k cE);have oQ:=aV (Ht k cE);have lT:=aV (Hs ⟨k,cE⟩);have⟨t,ht⟩:=js (eB.getD k []);rw[ht]at q0 mC oQ;dsimp only at lT;rw[ht]at lT;clear ht;by_cases htc:t=[c]
  .subst htc;have hd:decide ([c]=[c])=true:=by simp
   rw[hd]at mC;clear hd;have q1:cC w B k (xS ⟨#[c]⟩):=q0;have TH:Hd (xC 412 #[s,xS ⟨#[c]⟩] w (j7 true w)):=mC.o;clear q0 mC;rcases hr with⟨rfl,HR⟩|⟨rfl,HR⟩
   .go_wp2_with fail;refine ey (TH.o) ?_;go_wp2;go_roundg(15-(k+1));exact⟨k+1,by omega,rfl,by go_num,rfl, .inr ⟨rfl,(show _∈_ by rw[oQ.o];simp)⟩⟩;omega
   exact absurd HR.o lT.o
  have hd:decide (t=[c])=false:=by simpa using htc
  rw[hd]at mC;have CS:=aV htc;clear hd htc;rcases hr with⟨rfl,HR⟩|⟨rfl,HR⟩;all_goals
   go_wp2_with fail;refine ey (mC.o) ?_;go_wp2;go_roundg(15-(k+1));case measure=>omega
   case rel=>
    first
     |exact⟨k+1,by omega,rfl,by go_num,rfl, .inl ⟨rfl,(show _∉_ by rw[oQ.o];intro h;rcases aI.1 h with h|h;exact HR.o h;simp at h;exact CS.o h.symm)⟩⟩
     |exact⟨k+1,by omega,rfl,by go_num,rfl, .inr ⟨rfl,(show _∈_ by rw[oQ.o];exact List.mem_append_left _ HR.o)⟩⟩
 obtain rfl:k=15:=by omega
 rcases hr with⟨rfl,HR⟩|⟨rfl,HR⟩
 .exact absurd HC.o HR.o
 go_wp2;go_ret;exact⟨rfl,rfl⟩
def Ze {c:UInt8}:er c=sM (c.toNat:Int):=by
 unfold er sM;rw[sq,ot];congr 1;rw[Bool.eq_iff_iff];simp;constructor
 .rintro rfl;rfl
 intro h;rw[<-UInt8.toNat_inj];simpa using(by omega:c.toNat=95)
def OX(s:bS)(h0:0<s.size)(c:Int)(hc:∀h,((s[0]'h).toNat:Int)=c)(h1:48<=c)(h2:c<=57)(k n:Int)(t:bS)(m:Int)(w:bq)
 (HN:Hd (∀W,xC 369 #[s] W (di (.tuple #[lu k n t 0,m]) W))):
 xC 346 #[s] w (di (.tuple #[lu k n t 0,m]) w):=by
 delta xC;go_in;go_wp2_with fail;refine dx (HN.o _) λw1 hb1=> ?_;have⟨g0,g1,g2,g3⟩:=aU (boxed hb1);have⟨f0,f1,f2,f3⟩:=iS (boxed hb1);have HB:=aV (ct hb1);unfold lu;go_wp2_with fail;refine ah (v:= .tuple #[lu k n t 0,m]) (by simp[results,results346,go_sem,lu,g0,g1,g2,g3]) rfl ⟨rfl,?_⟩;exact(((HB.o.setCell (by simp) _).setCell (by simp) _).setCell (by simp) _).setCell (by simp) _
def LO(s:bS)(h0:0<s.size)(c:Int)(hc:∀h,((s[0]'h).toNat:Int)=c)(h1:97<=c)(h2:c<=122)(k n:Int)(t:bS)(m:Int)(w:bq)
 (HN:Hd (∀W,xC 370 #[s] W (di (.tuple #[lu k n t 0,m]) W))):
 xC 346 #[s] w (di (.tuple #[lu k n t 0,m]) w):=by
 have a1:48<=c:=by omega
 have a2:¬c<=57:=by omega
 delta xC;go_in;go_wp2_with fail;refine dx (HN.o _) λw1 hb1=> ?_;have⟨g0,g1,g2,g3⟩:=aU (boxed hb1);have⟨f0,f1,f2,f3⟩:=iS (boxed hb1);have HB:=aV (ct hb1);unfold lu;go_wp2_with fail;refine ah (v:= .tuple #[lu k n t 0,m]) (by simp[results,results346,go_sem,lu,g0,g1,g2,g3]) rfl ⟨rfl,?_⟩;exact(((HB.o.setCell (by simp) _).setCell (by simp) _).setCell (by simp) _).setCell (by simp) _
def LP(s:bS)(h0:0<s.size)(hc:∀h,((s[0]'h).toNat:Int)=34)(k n:Int)(t:bS)(m:Int)(w:bq)
 (HN:Hd (∀W,bC w W->xC 371 #[s] W (di (.tuple #[lu k n t 0,m]) W))):
 xC 346 #[s] w (di (.tuple #[lu k n t 0,m]) w):=by
 delta xC;go_in;go_wp2_with fail;refine dx (HN.o _ cU) λw1 hb1=> ?_;have⟨g0,g1,g2,g3⟩:=aU (boxed hb1);have⟨f0,f1,f2,f3⟩:=iS (boxed hb1);have HB:=aV (ct hb1);unfold lu;go_wp2_with fail;refine ah (v:= .tuple #[lu k n t 0,m]) (by simp[results,results346,go_sem,lu,g0,g1,g2,g3]) rfl ⟨rfl,?_⟩;exact(((HB.o.setCell (by simp) _).setCell (by simp) _).setCell (by simp) _).setCell (by simp) _
def AK(s:bS)(h0:0<s.size)(c:UInt8)(hc:∀h,s[0]'h=c)(h1:c∈([38,43,45,42,47,37,40,41,44,61,62]:List UInt8))(hp:∀t∈eB,Lib.hasPrefix s.data.toList t=decide (t=[c]))(w:bq):
 xC 346 #[s] w (di (.tuple #[lu 4 0 ⟨#[c]⟩ 0,xI 1]) w):=by
 have ji:[c]∈eB:=by
  simp only[aO,List.not_mem_nil,or_false]at h1;rcases h1 with rfl|rfl|rfl|rfl|rfl|rfl|rfl|rfl|rfl|rfl|rfl<;>decide
 have HLG:Hd (∀(W:bq)(B:Nat),cX W B Cd->_):=λW B hB=>Hu s c ji hp B W hB;have⟨d,hd⟩:=js ((c.toNat:Int));have hcd:((48<=d/\¬d<=57)\/¬48<=d)/\¬97<=d/\(d==34)=false:=by
  simp only[aO,List.not_mem_nil,or_false]at h1;subst hd;rcases h1 with rfl|rfl|rfl|rfl|rfl|rfl|rfl|rfl|rfl|rfl|rfl<;>decide
 obtain⟨hc1,hc2,Q6⟩:=hcd;have q0:∀h,((s[0]'h).toNat:Int)=d:=λh=>by rw[hc h];exact hd
 have hs1:(⟨#[c]⟩:bS).size=1:=rfl;have hne:((⟨#[c]⟩:bS).toList==(():bS).toList)=false:=by
  cases hq:((⟨#[c]⟩:bS).toList==(():bS).toList)with
  |false=>rfl
  |true=>have:=congrArg ByteArray.size (rM hq);cases this
 rcases hc1 with⟨hc1,hc4⟩|hc1;all_goals
  delta xC;go_in;go_wp2_with fail;refine ey (HLG.o _ _ (by exact(Bx.ei w pc0 Cd).cZ rfl)) ?_;go_wp2_with fail;refine ah (v:= .tuple #[lu 4 0 ⟨#[c]⟩ 0,xI 1]) (by simp[results,results346,go_sem,lu]) rfl ⟨rfl,?_⟩;exact cU.alloc (by simp) _
def qcf(c x:UInt8)(r:List UInt8):Lib.hasPrefix (c::r) [x]=decide (x=c):=by
 unfold Lib.hasPrefix;rw[Bool.eq_iff_iff];simp[List.isPrefixOf]
def Zf(c x y:UInt8)(r:List UInt8)(h:x≠c\/r.head?≠some y):Lib.hasPrefix (c::r) [x,y]=false:=by
 cases hq:Lib.hasPrefix (c::r) [x,y]with
 |false=>rfl
 |true=>
  unfold Lib.hasPrefix at hq;cases r with
  |nil=>simp[List.isPrefixOf]at hq
  |cons d r=>simp[List.isPrefixOf]at hq;rcases h with h|h;exact absurd hq.1 h;simp at h;exact absurd hq.2.symm h
def D7(c:UInt8)(r:List UInt8)(h:c∈([38,43,45,42,47,37,40,41,44,61]:List UInt8)\/(c=62/\r.head?≠some 61)):∀t∈eB,Lib.hasPrefix (c::r) t=decide (t=[c]):=by
 intro t ht;simp only[eB,aO,List.not_mem_nil,or_false]at ht;have TG:c≠60:=by
  rcases h with h|h
  .intro e;subst e;revert h;decide
  rw[h.1];decide
 have h61:(62:UInt8)≠c\/r.head?≠some 61:=by
  rcases h with h|h
  .left;intro e;subst e;revert h;decide
  exact .inr h.2
 rcases ht with rfl|rfl|rfl|rfl|rfl|rfl|rfl|rfl|rfl|rfl|rfl|rfl|rfl|rfl|rfl;all_goals first
  |(rw[qcf];simp;done)
  |(rw[Zf _ _ _ _ (.inl (λe=>TG e.symm))];simp)
  |(rw[Zf _ _ _ _ h61];simp)
def OY(s:bS)(hs:s.size<=200)(kd n:Nat)(str:List UInt8)(size:Nat)(h:sd s.data.toList=some ((kd,n,str),size))(w:bq)(hT:Tb w):
 (xC 346 #[s] w (di (.tuple #[lu kd n (bL str) 0,xI (size:Int)]) w))/\0<size/\size<=s.size/\1<=kd:=by
 cases hl:s.data.toList with
 |nil=>rw[hl]at h;simp[sd]at h
 |cons c r=>
  rw[hl]at h
  have hlen:r.length+1=s.size:=by rw[<-cH,hl];rfl
  have ha:0<s.size:=by omega
  have h0:s.data.toList[0]? =some c:=by rw[hl];rfl
  have hca:∀h,s[0]'h=c:=λh=>by have:=dY s 0 h;rw[h0]at this;simpa using this.symm
  have hcz:∀h,((s[0]'h).toNat:Int)=(c.toNat:Int):=λh=>by rw[hca h]
  unfold sd at h
  dsimp only at h
  by_cases hd:oV c=true
  .rw[if_pos hd]at h
   have hr:r9 r=false:=by
    cases hq:r9 r with
    |false=>rfl
    |true=>rw[hq]at h;simp at h
   rw[hr]at h
   simp only[Bool.false_eq_true,if_false,aG,Prod.mk.injEq]at h
   obtain⟨⟨rfl,rfl,rfl⟩,rfl⟩:=h
   have aV:=hd
   rw[ot]at aV
   have⟨e1,e2⟩:=of_decide_eq_true aV
   refine⟨?_,by omega,by omega,by omega⟩
   have hcall:=OX s ha (c.toNat:Int) hcz e1 e2 1 ((c.toNat:Int)-48) () 1 w (show∀W,_ fromλW=>zI s hs ha (c.toNat:Int) (hcz ha) e1 e2 (λh1 hx=>by
    have hb:=dY s 1 h1
    rw[hl]at hb
    cases r with
    |nil=>simp at hb
    |cons x y=>
     simp at hb
     have hx1:oV x=true:=by rw[ot];rw[<-hb]at hx;exact decide_eq_true hx
     have No:oV x=false:=hr
     rw[hx1]at No;cases No) W)
   rw[show((c.toNat-48:Nat):Int)=(c.toNat:Int)-48 from by omega]
   exact hcall
  rw[if_neg hd]at h
  by_cases jE:rj c=true
  .rw[if_pos jE]at h
   by_cases hn:rq ((c::r).takeWhile er)=true
   .rw[if_pos hn]at h
    simp only[aG,Prod.mk.injEq]at h
    obtain⟨⟨rfl,rfl,rfl⟩,rfl⟩:=h
    have hw:er c=true:=by unfold er;rw[jE];rfl
    have tN:0<((c::r).takeWhile er).length:=by rw[List.takeWhile_cons_of_pos hw];simp
    have hle:((c::r).takeWhile er).length<=(c::r).length:=(List.takeWhile_prefix er).length_le
    have qda:((c::r).takeWhile er).length<=r.length+1:=by simpa using hle
    have Tl:(s.extract 0 ((c::r).takeWhile er).length).data.toList=(c::r).takeWhile er:=by
     rw[Lib.extract_data,List.drop_zero,hl,Nat.sub_zero,wi]
    have UG:=jE
    rw[sq]at UG
    have⟨e1,e2⟩:=of_decide_eq_true UG
    have h20:((c::r).takeWhile er).length<=20:=by
     unfold rq at hn;simp only[aF,decide_eq_true_eq]at hn;exact hn.1.1.2
    refine⟨?_,tN,by omega,by omega⟩
    have hcall:=LO s ha (c.toNat:Int) hcz e1 e2 3 0 (bL ((c::r).takeWhile er)) (((c::r).takeWhile er).length:Int) w (show∀W,_ fromλW=>D4 s hs _ (by omega) h20 (λk hk hkm=>by
     obtain⟨v,hv⟩:∃v,((c::r).takeWhile er)[k]? =some v:=⟨_,af hkm⟩
     have⟨h3,h4⟩:=wZ hv
     have hb:=dY s k hk
     rw[hl,h3]at hb
     cases hb
     rw[<-Ze];exact h4) (λhk=>by
     have hb:=dY s _ hk
     rw[hl]at hb
     rw[<-Ze];exact N7 hb) (bL ((c::r).takeWhile er)) (gD Tl) (by rw[<-qs];simpa [bL]using hn) W)
    exact hcall
   rw[if_neg hn]at h;cases h
  rw[if_neg jE]at h
  by_cases CM:c=34
  .rw[if_pos CM]at h
   subst CM
   have hq:r[(r.takeWhile gu).length]? =some 34/\kO (r.takeWhile gu)=true/\kd=2/\n=0/\str=r.takeWhile gu/\size=(r.takeWhile gu).length+2:=by
    split at h
    .rename_i x hx
     split at h
     .simp only[aG,Prod.mk.injEq]at h
      obtain⟨⟨rfl,rfl,rfl⟩,rfl⟩:=h
      refine⟨?_,by assumption,rfl,rfl,rfl,rfl⟩
      have h5:=congrArg (λl=>l[0]?) hx
      simp only[List.getElem?_drop,Nat.add_zero]at h5
      simpa using h5
     cases h
    cases h
   obtain⟨hq,ht,rfl,rfl,rfl,rfl⟩:=hq
   have cE:=(ag.1 hq).1
   have Yj:r=r.takeWhile gu++34::r.drop ((r.takeWhile gu).length+1):=by
    have e1:r.drop (r.takeWhile gu).length=34::r.drop ((r.takeWhile gu).length+1):=by
     rw[List.drop_eq_getElem_cons cE,(ag.1 hq).2]
    rw[<-e1]
    conv=>lhs;rw[<-List.take_append_drop (r.takeWhile gu).length r]
    rw[wi]
   refine⟨?_,by omega,by omega,by omega⟩
   have hcall:=LP s ha (λh=>by rw[hca h];rfl) 2 0 (bL (r.takeWhile gu)) (((r.takeWhile gu).length+2:Nat):Int) w (show∀W,_->_ fromλW hb=>D6 s hs (r.takeWhile gu) (r.drop ((r.takeWhile gu).length+1)) (by rw[hl];congr 1) (λc hc=>by
    have⟨i,hi⟩:=aP hc
    exact(wZ hi).2) ht W (hT.aT hb))
   exact hcall
  rw[if_neg CM]at h
  by_cases hsg:[38,43,45,42,47,37,40,41,44,61].contains c=true
  .rw[if_pos hsg]at h
   simp only[aG,Prod.mk.injEq]at h
   obtain⟨⟨rfl,rfl,rfl⟩,rfl⟩:=h
   have hm:c∈([38,43,45,42,47,37,40,41,44,61]:List UInt8):=by simpa using hsg
   refine⟨AK s ha c hca (by exact List.mem_append_left [62] hm) ?_ w,by omega,by omega,by omega⟩
   intro t ht
   rw[hl]
   exact D7 c r (.inl hm) t ht
  rw[if_neg hsg]at h
  by_cases Jq:c=62/\r.head?≠some 61
  .rw[if_pos Jq]at h
   simp only[aG,Prod.mk.injEq]at h
   obtain⟨⟨rfl,rfl,rfl⟩,rfl⟩:=h
   refine⟨AK s ha c hca (by rw[Jq.1];decide) ?_ w,by omega,by omega,by omega⟩
   intro t ht
   rw[hl]
   exact D7 c r (.inr Jq) t ht
  rw[if_neg Jq]at h;cases h
end
section
open Go.RowKit
theorem tq {size:Nat}:∀{css:List (List bt)},(∀cs∈css,cs.length=size)->css.flatten.length=css.length*size
 |[],_=>by simp
 |a::r,h=>by rw[List.flatten_cons,aJ,h a (by simp),tq λcs hc=>h cs (by simp[hc]),aC,Nat.succ_mul,Nat.add_comm]
def l9 {α:Type} [bD α]{w:bq}{xs:List α}{off:Nat}(hc:xs.length<=cap)(hm:cap<=maxLen)(hB:¬M b)(hb:b<w)
 (h:∀(i:Nat)(x:α),xs[i]? =some x->∃cs,bD.rep M w cs x/\∀(j:Nat)(u:bt),cs[j]? =some u->cC w b (off+i*bD.size α+j) u):aS M w (xL (b,off) xs.length cap) xs:=by
 have hex:∀i:Fin xs.length,∃cs:List bt,bD.rep M w cs xs[i]/\∀(j:Nat)(u:bt),cs[j]? =some u->cC w b (off+i*bD.size α+j) u:=λi=>h i xs[i] (by simp);have⟨f,hf⟩:=Classical.axiomOfChoice hex;have hlen:∀(i:Nat)(cs:List bt),(List.ofFn f)[i]? =some cs->cs.length=bD.size α:=λi cs hcs=>by
  rw[List.getElem?_ofFn]at hcs;split at hcs
  .cases hcs;exact bD.len (hf _).1
  cases hcs
 have JE:(List.ofFn f).flatten.length=xs.length*bD.size α:=by
  rw[tq (size:=bD.size α) λcs hc=>by have⟨i,hi⟩:=List.mem_iff_getElem?.1 hc;exact hlen i cs hi];simp
 refine⟨List.ofFn f,⟨JE,_,cap,rfl,hc,hm,λ_=>⟨b,off,rfl,hB,hb,λj u hu=> ?_⟩⟩,by simp,λi cs x hcs hx=> ?_⟩
 .have hj:=(ag.1 hu).1;rw[JE]at hj;have hs0:0<bD.size α:=by
   rcases Nat.eq_zero_or_pos (bD.size α)with h0|h0
   .rw[h0]at hj;omega
   exact h0
  have hi:j/bD.size α<xs.length:=Nat.div_lt_of_lt_mul (by rw[Nat.mul_comm];exact hj);have hr:j%bD.size α<bD.size α:=Nat.mod_lt _ hs0;have Nw:(List.ofFn f)[j/bD.size α]? =some (f ⟨_,hi⟩):=by rw[List.getElem?_ofFn,dif_pos hi]
  have hl:=hlen _ _ Nw;have hcell:=(hf ⟨_,hi⟩).2 (j%bD.size α) _ (af (by rw[hl];exact hr));have hat:=jt hlen _ _ (j%bD.size α) _ Nw (af (by rw[hl];exact hr));have hjj:j/bD.size α*bD.size α+j%bD.size α=j:=by rw[Nat.mul_comm];exact Nat.div_add_mod j _
  rw[hjj,hu]at hat;cases hat;dsimp only at hcell;rw[Nat.add_assoc,hjj]at hcell;exact hcell
 rw[List.getElem?_ofFn]at hcs;split at hcs
 .rename_i hi;cases hcs;rw[af hi]at hx;cases hx;exact(hf ⟨i,hi⟩).1
 cases hcs
abbrev VF:=Nat->Nat->bq->List bt->bE->Prop
def yD(R:VF):Prop:=∀lo lo' hi w w' cs x,R lo hi w cs x->lo'<=lo->hi<=w.heap.size->(∀k,lo<=k->k<hi->w'.heap[k]? =w.heap[k]?)->R lo' hi w' cs x
def lH(R:VF)(B:Nat)(w:bq)(n:Nat)(xs:List bE)(s:Nat->Nat):Prop:=
 ∃cur:Array bt,w.heap[B]? =some (.cells cur 50 (0,0))/\cur.size=n*4/\xs.length<=n/\B<s 0/\(∀i,s i<=s (i+1))/\s xs.length<=w/\
  ∀(i:Nat)(x:bE),xs[i]? =some x->∃a b c d,cur[i*4]? =some a/\cur[i*4+1]? =some b/\cur[i*4+2]? =some c/\cur[i*4+3]? =some d/\R (s i) (s (i+1)) w [a,b,c,d] x
def me(R:VF)(B:Nat)(w:bq)(n:Nat)(xs:List bE):Prop:=∃s,lH R B w n xs s
section
variable {R:VF}{B:Nat}{w w':bq}{n:Nat}{xs:List bE}{s:Nat->Nat}
def me.made(cur:Array bt)(h:cX w B (.cells cur 50 (0,0)))(hs:cur.size=n*4):me R B w n []:=
 ⟨λ_=>w.heap.size,cur,h,hs,ax _,(ab.1 h).1,λ_=>cN,cN,λi x h=>by simp at h⟩
def me.lt(h:me R B w n xs):B<w:=by obtain⟨_,cur,h1,_⟩:=h;exact(ab.1 h1).1
theorem jY(h:∀i,s i<=s (i+1)):∀{i j},i<=j->s i<=s j
 |i,0,hij=>by rw[Nat.le_zero.1 hij];exact cN
 |i,j+1,hij=>by
  rcases Nat.lt_or_ge i (j+1)with hl|hl
  .exact aH (jY h (Nat.le_of_lt_succ hl)) (h j)
  rw[Nat.le_antisymm hij hl];exact ae _
def lH.stay(hR:yD R)(h:lH R B w n xs s)(hz:w.heap.size<=w')(hk:∀k,B<=k->k<w.heap.size->w'.heap[k]? =w.heap[k]?):lH R B w' n xs s:=by
 obtain⟨cur,h1,h2,h3,h4,h5,h6,h7⟩:=h;refine⟨cur,(hk B cN (ab.1 h1).1).trans h1,h2,h3,h4,h5,aH h6 hz,λi x hx=> ?_⟩;have⟨a,b,c,d,p0,p1,p2,p3,hr⟩:=h7 i x hx;have hi:=(ag.1 hx).1;have hle:s (i+1)<=s xs.length:=jY h5 hi;have hge:s 0<=s i:=jY h5 (ax _);exact⟨a,b,c,d,p0,p1,p2,p3,hR _ _ _ _ _ _ _ hr cN (by omega) λk k1 k2=>hk k (by omega) (by omega)⟩
def me.stay(hR:yD R)(h:me R B w n xs)(hz:w.heap.size<=w')(hk:∀k,B<=k->k<w.heap.size->w'.heap[k]? =w.heap[k]?):me R B w' n xs:=by
 obtain⟨s,h⟩:=h;exact⟨s,h.stay hR hz hk⟩
def lH.aT(hR:yD R)(h:lH R B w n xs s)(hb:bC w w'):lH R B w' n xs s:=h.stay hR hb.size λk _ k2=>hb.block k k2
def me.aT(hR:yD R)(h:me R B w n xs)(hb:bC w w'):me R B w' n xs:=by obtain⟨s,h⟩:=h;exact⟨s,h.aT hR hb⟩
def me.cell(h:me R B w n xs)(hj:j<n*4):∃v,cC w B j v/\w.frozen? (B,j)=false:=by
 obtain⟨_,cur,h1,h2,_⟩:=h;exact⟨cur[j]'(by omega),cell_of_heap h1 (by simp[h2,hj]),aY h1 j⟩
def eC {o:Nat}{a b c d:bt}(h:o+4<=cur.size)(j:Nat):
 ((((cur.setIfInBounds o a).setIfInBounds (o+1) b).setIfInBounds (o+2) c).setIfInBounds (o+3) d)[j]? =
   if j=o then some a else if j=o+1 then some b else if j=o+2 then some c else if j=o+3 then some d else cur[j]? :=by
 have q0:o<cur.size:=by omega
 have q1:o+1<cur.size:=by omega
 have q2:o+2<cur.size:=by omega
 have q3:o+3<cur.size:=by omega
 by_cases e0:j=o
 .subst e0;simp[Array.getElem?_setIfInBounds,q0]
 by_cases e1:j=o+1
 .subst e1;simp[Array.getElem?_setIfInBounds,q1]
 by_cases e2:j=o+2
 .subst e2;simp[Array.getElem?_setIfInBounds,q2]
 by_cases e3:j=o+3
 .subst e3;simp[Array.getElem?_setIfInBounds,q3]
 rw[if_neg e0,if_neg e1,if_neg e2,if_neg e3];simp only[Array.getElem?_setIfInBounds,Array.size_setIfInBounds,if_neg (Ne.symm e0),if_neg (Ne.symm e1),if_neg (Ne.symm e2),if_neg (Ne.symm e3)]
def lD(w:bq)(B o:Nat)(a b c d:bt):bq:=(((w.setCell (B,o) a).setCell (B,o+1) b).setCell (B,o+2) c).setCell (B,o+3) d
def iE {o:Nat}{a b c d:bt}(h:k≠B):(lD w B o a b c d).heap[k]? =w.heap[k]? :=by
 unfold lD;rw[aj _ _ _ _ (by simpa using h),aj _ _ _ _ (by simpa using h),aj _ _ _ _ (by simpa using h),aj _ _ _ _ (by simpa using h)]
def lP {o:Nat}{a b c d:bt}:(lD w B o a b c d).heap.size=w:=by simp[lD,World.setCell]
def me.snoc(hR:yD R)(h:me R B w n xs)(hb:bC w w')(hn:xs.length<n){x:bE}{a b c d:bt}(hx:R w w' w' [a,b,c,d] x):
 me R B (lD w' B (xs.length*4) a b c d) n (xs++[x]):=by
 have hBl:=h.lt;obtain⟨s,hS⟩:=h;have hs6:s xs.length<=w:=by obtain⟨_,_,_,_,_,_,h6,_⟩:=hS;exact h6
 have⟨cur,h1,h2,h3,h4,h5,h6,h7⟩:=hS.aT hR hb;have hzz:=hb.size;have qaq:∀i,(λj=>if j<=xs.length then s j else w'.heap.size) i<=(λj=>if j<=xs.length then s j else w'.heap.size) (i+1):=λi=>by
  have h0:=h5 i;have h00:i<=xs.length->s i<=s xs.length:=λh=>jY h5 h;dsimp only;split<;>split<;>omega
 refine⟨λj=>if j<=xs.length then s j else w'.heap.size,_,fG h1 a b c d,by simp[h2],by simp;omega,by simpa using h4,qaq,by simp[lP,Nat.not_succ_le_self],λi y hy=> ?_⟩;have hcs:xs.length*4+4<=cur.size:=by omega
 have hst:∀k,k≠B->(lD w' B (xs.length*4) a b c d).heap[k]? =w'.heap[k]? :=λk hk=>iE hk;by_cases hi:i<xs.length
 .rw[aq hi]at hy;have⟨a',b',c',d',p0,p1,p2,p3,hr⟩:=h7 i y hy;have hge:s 0<=s i:=jY h5 (ax _);have hle:s (i+1)<=s xs.length:=jY h5 hi;refine⟨a',b',c',d',?_,?_,?_,?_,?_⟩
  .rw[eC hcs,if_neg (by omega),if_neg (by omega),if_neg (by omega),if_neg (by omega)];exact p0
  .rw[eC hcs,if_neg (by omega),if_neg (by omega),if_neg (by omega),if_neg (by omega)];exact p1
  .rw[eC hcs,if_neg (by omega),if_neg (by omega),if_neg (by omega),if_neg (by omega)];exact p2
  .rw[eC hcs,if_neg (by omega),if_neg (by omega),if_neg (by omega),if_neg (by omega)];exact p3
  dsimp only;rw[if_pos (by omega),if_pos (by omega)];exact hR _ _ _ _ _ _ _ hr cN (by omega) λk k1 k2=>hst k (by omega)
 have hlen:=(ag.1 hy).1;have e:i=xs.length:=by simp at hlen;omega
 subst e;have e2:y=x:=by simpa using hy.symm
 subst e2;refine⟨a,b,c,d,?_,?_,?_,?_,?_⟩
 .rw[eC hcs,if_pos rfl]
 .rw[eC hcs,if_neg (by omega),if_pos rfl]
 .rw[eC hcs,if_neg (by omega),if_neg (by omega),if_pos rfl]
 .rw[eC hcs,if_neg (by omega),if_neg (by omega),if_neg (by omega),if_pos rfl]
 dsimp only;rw[if_pos cN,if_neg (by omega)];exact hR _ _ _ _ _ _ _ hx hs6 cN λk k1 k2=>hst k (by omega)
end
def tt(b:Nat)(w:bq)(l:List bE):Prop:=
 ∃cur:Array bt,w.heap[b]? =some (.cells cur 50 (0,0))/\cur.size=l.length*4/\∀(i:Nat)(x:bE),l[i]? =some x->∃k n t,x= .mk k n t []/\t.size<=maxLen/\
  cur[i*4]? =some (xI k)/\cur[i*4+1]? =some (xI n)/\cur[i*4+2]? =some (xS t)/\cur[i*4+3]? =some (xL none 0 0)
def nP:VF:=λlo hi w cs x=>∃k n t l a,x=bE.mk k n t l/\t.size<=maxLen/\cs=[xI k,xI n,xS t,xL a l.length l.length]/\l.length<=12/\
 (l=[]/\a=none\/∃b,0<l.length/\lo<=b/\b<hi/\a=some ⟨b,0,none⟩/\tt b w l)
def kE:yD nP:=λlo lo' hi w w' cs x h h1 h2 h3=>by
 obtain⟨k,n,t,l,a,e1,e2,e3,e5,e4⟩:=h;refine⟨k,n,t,l,a,e1,e2,e3,e5,?_⟩;rcases e4 with e4|⟨b,b0,b1,b2,b3,cur,c1,c2,c3⟩
 .exact .inl e4
 exact .inr ⟨b,b0,by omega,b2,b3,cur,(h3 b b1 b2).trans c1,c2,c3⟩
def tt.slice {w:bq}(h:tt b w l)(hl:l.length<=12)(hM:¬M b):aS M w (xL (b,0) l.length l.length) l:=by
 obtain⟨cur,h1,h2,h3⟩:=h;refine l9 cN (by unfold maxLen;omega) hM (ab.1 h1).1 λi x hx=> ?_;obtain⟨k,n,t,rfl,ht,p0,p1,p2,p3⟩:=h3 i x hx;refine⟨_,fZ.iff.2 ⟨_,rfl,aS.nil _ _,ht⟩,λj u hu=> ?_⟩;rw[Nat.zero_add,show bD.size bE=4 from rfl];rcases j with _|_|_|_|j
 .simp at hu;subst hu;exact cell_of_heap h1 p0
 .simp at hu;subst hu;exact cell_of_heap h1 p1
 .simp at hu;subst hu;exact cell_of_heap h1 p2
 .simp at hu;subst hu;exact cell_of_heap h1 p3
 simp at hu
def nP.rep {lo hi:Nat}{w:bq}{x:bE}(h:nP lo hi w cs x)(hM:∀i,M i->i<lo):bD.rep (α:=bE) M w cs x:=by
 obtain⟨k,n,t,l,a,rfl,ht,rfl,hl,⟨rfl,rfl⟩|⟨b,b0,b1,b2,rfl,hr⟩⟩:=h
 .exact fZ.iff.2 ⟨_,rfl,aS.nil _ _,ht⟩
 exact fZ.iff.2 ⟨_,rfl,hr.slice hl λh=>by have:=hM b h;omega,ht⟩
def me.slice {B:Nat}{w:bq}{xs:List bE}(h:me nP B w xs.length xs)(hl:xs.length<=maxLen)(hM:∀i,M i->i<B):aS M w (xL (B,0) xs.length xs.length) xs:=by
 obtain⟨s,cur,h1,h2,h3,h4,h5,h6,h7⟩:=h;refine l9 cN hl (λh=>by have:=hM B h;omega) (ab.1 h1).1 λi x hx=> ?_;have⟨a,b,c,d,p0,p1,p2,p3,hr⟩:=h7 i x hx;have hge:s 0<=s i:=jY h5 (ax _);refine⟨_,hr.rep λj hj=>by have:=hM j hj;omega,λj u hu=> ?_⟩;rw[Nat.zero_add,show bD.size bE=4 from rfl];rcases j with _|_|_|_|j
 .simp at hu;subst hu;exact cell_of_heap h1 p0
 .simp at hu;subst hu;exact cell_of_heap h1 p1
 .simp at hu;subst hu;exact cell_of_heap h1 p2
 .simp at hu;subst hu;exact cell_of_heap h1 p3
 simp at hu
def V0 {l:List bK}(h:aS M w cv l)(hx:l[k]? =some x)(N:bY)(W:bq):
 bD.rep (α:=bK) N W [xI x.bg,xS x.field,xS x.aX,xS x.more,xI x.type.bg,xI x.type.of,xS x.dO,xS x.cW] x:=by
 obtain⟨a,cap,rfl,hl,_,hc⟩:=h.bj;have hk:=(ag.1 hx).1;obtain⟨b,off,rfl,_,hb,hcell⟩:=hc (by omega);obtain⟨cs,⟨rfl,hs⟩,_⟩:=hcell k x hx;exact⟨rfl,hs⟩
theorem mf(hK:B<=K):∀(vs:List bt)(o:Nat){w W:bq},Below B w W->Below B w (W.setCells K o vs)
 |[],_,_,_,h=>h
 |v::r,o,_,_,h=>mf hK r (o+1) (h.setCell (p:=(K,o)) hK v)
def PW(k t o:Int)(f n m e r:bS)(w:bq):xC 231 #[.agg #[k,f,n,m,t,o,e,r]] w λq w'=>q=xR (.agg #[k,f,n,m,t,o,e,r])/\bC w w':=by
 delta xC;go_in;go_wp2_with fail;refine ah (v:= .agg #[k,f,n,m,t,o,e,r]) (by simp[results,results231,go_sem]) rfl ⟨rfl,?_⟩;exact cU.alloc (by simp) _
def vV(l:List bK)(hl:l.length<=12)(h0:0<l.length)(M:bY)(w:bq)(v:bt)(hM:Bd M w)(hs:aS M w v l):
 xG 230 #[v, .func (.func 231) #[] #[]] w λv' w'=>aS M w' v' l:=by
 have⟨i0,hi0,hz0,hz1,hz2⟩:=info_parts u9
 have HC:Hd (∀(i:Nat)(x:bK),l[i]? =some x->_):=λi x hx=>And.intro (V0 hs hx) (pM hs hx)
 obtain⟨a,cY,rfl,dN,hmx,_⟩:=hs.bj
 generalize hn:l.length=n at*
 have fB:=aV hn
 have wK:((n:Int)==0)=false:=by simp;omega
 have⟨cur,hmk,hcs⟩:=nF (P:=prog) w 70 57 i0 _ underlying70 hi0 hz0 n (by omega) (by omega)
 have JF:Hd (eM (α:=bK) M w 57 (w.alloc (.cells cur 57)) n []):=eM.made cur (az w _) (by rw[hcs,hz1];rfl)
 delta xG
 go_in
 go_wp2
 go_loopg [6,7,16]n(λg _ _ iv wr=>∃i:Nat,i<=n/\g=n-i/\iv=xI i/\Hd (eM M w 57 wr n (l.take i))/\Hd (bC w wr))
 exact⟨0,ax _,rfl,rfl,JF,cU⟩
 obtain⟨i,hi,rfl,rfl,HA,HB⟩:=hrel
 have hsz:w.heap.size<wr:=HA.o.lt
 by_cases cE:i<n
 rotate_left
 .go_wp2
  go_ret
  refine⟨_,rfl,?_,HB.o⟩
  have h1:=HA.o
  rw[ak (by rw[fB.o];omega)]at h1
  exact h1.slice fB.o (λh=>by have:=hM _ h;omega) (by unfold maxLen;omega)
 have⟨⟨xk,x1,x2,x3,⟨x4,x5⟩,x6,x7⟩,hx⟩:=fg l i (by rw[fB.o];exact cE)
 have⟨hxs,b,off,cap,hv,hb,hcells⟩:=HC.o i _ hx
 obtain⟨rfl,rfl⟩:=jk hv
 have⟨q0,q1,q2,q3,q4,q5,q6,q7⟩:=hcells wr HB.o
 have pr:=aV (show(l.take i).length=i by have:=fB.o;rw[aK];omega)
 have oQ:=aV (show l.take (i+1)=l.take i++[⟨xk,x1,x2,x3,⟨x4,x5⟩,x6,x7⟩]by rw[ao,hx];rfl)
 have wH:=aV hxs
 dsimp only at q0 q1 q2 q3 q4 q5 q6 q7
 go_wp2_with fail
 refine dx (PW _ _ _ _ _ _ _ _ _) λw1 hb1=> ?_
 have tU:=aV (wH.o (orM M w) w1)
 have cu:=aV (ct hb1)
 have lJ:=aV (HA.o.aT cu.o)
 have Yp:i*8+7<n*8:=by omega
 have hTH:w1.there w (i*8) 8:=λj hj=>by
  have⟨u,p,f⟩:=lJ.o.cell (j:=i*8+j) (by show _<n*8;omega)
  exact⟨by rw[p];rfl,f⟩
 have qer:(Tryz.prog.info? 57).map (·.size)=some 8:=by simp[hi0,hz1]
 have qbf:(#[xk,x1,x2,x3,x4,x5,x6,x7]:Array bt).all (·.oneCell')=true:=by simp[Value.oneCell']
 have QN:=aV (And.intro hTH (And.intro qer qbf))
 go_wp2_with(with_reducible refine wpList_store_mid ?_ 57 (.tmp 26) (.tmp 25) ?_ w (i*8) #[xk,x1,x2,x3,x4,x5,x6,x7] ?_ ?_ ?_ ?_ ?_ ?_
             .exact rfl
             .exact rfl
             .exact rfl
             .exact rfl
             .exact QN.o.1
             .exact QN.o.2.1
             exact QN.o.2.2)
 go_roundg(n-(i+1))
 case measure=>omega
 case rel=>
  refine⟨i+1,by omega,rfl,by go_num,(show eM _ _ _ _ _ _ by rw[oQ.o];exact lJ.o.ZD pr.o cE tU.o),(show Below _ _ _ from ?_)⟩
  exact mf (by omega) _ _ (HB.o.trans (cu.o.mono (by omega)))
def Fb(a:fM)(cap:Nat)(fv:bt)(w:bq):xC 230 #[xL a 0 cap,fv] w (j7 () w):=by
 delta xC;go_in;go_wp2;go_ret;exact⟨rfl,rfl⟩
def zP(l:List bK)(hl:l.length<=12)(M:bY)(w:bq)(v:bt)(hM:Bd M w)(hs:aS M w v l):
 xG 230 #[v, .func (.func 231) #[] #[]] w λv' w'=>aS M w' v' l:=by
 by_cases h0:0<l.length
 .exact vV l hl h0 M w v hM hs
 have e:l=[]:=aM (by omega);subst e;obtain⟨a,cap,rfl,_⟩:=hs.bj;refine ey (Fb a cap _ w) ?_;exact⟨_,rfl,aS.nil _ _,eH⟩
def Cs(nm:bS)(fs:List bJ)(chs:List bK)(hf:fs.length<=12)(hc:chs.length<=12)(M:bY)(w:bq)(fv cv:bt)(hM:Bd M w)(hfs:aS M w fv fs)(hcs:aS M w cv chs):
 xG 173 #[.agg #[nm,fv,cv]] w λu w'=>∃kF cv',u= .agg #[nm,kF,cv']/\aS M w' kF fs/\aS M w' cv' chs:=by
 have zo:Hd (∀W,bC w W->w.heap.size+2<=W->_):=λW hb hz=>rA nm fs hf (eo M w 2) W fv (dZ hM hz) (hfs.ev (dH hb));have HIC:Hd (∀W,bC w W->w.heap.size+2<=W->_):=λW hb hz=>zP chs hc (eo M w 2) W cv (dZ hM hz) (hcs.ev (dH hb));obtain⟨a,cY,rfl,_⟩:=hfs.bj;obtain⟨ca,qbg,rfl,_⟩:=hcs.bj;clear hfs hcs;delta xG;go_in;go_wp2_with fail;refine(zo.o _ (Bx.ei w _ _).1 (by simp)).mono ?_;rintro e w1⟨_,rfl,⟨_,rfl,hs1⟩,hb1⟩;obtain⟨za,zc,rfl,_⟩:=hs1.bj;have HB:=aV ((Bx.ei w (dG nm (xL a fs.length cY) (xL ca chs.length qbg)) (dG () () ())).aT hb1);have⟨r0,r1,r2⟩:=bM (HB.o.cP rfl);have⟨f0,f1⟩:=nZ (HB.o.cP rfl);have HS:=aV hs1;clear hs1 hb1;go_upto_region 2 with fail;have⟨W2,hW2⟩:=dd ((w1.setCell (w,0) nm).setCell (w,1) (xL za fs.length zc));have bZ:=aV (show Bx w [dG nm (xL za fs.length zc) (xL ca chs.length qbg),dG () () ()] W2 by rw[hW2];exact(HB.o.set 0 0 rfl _).set 0 1 rfl _);have iy:=aV (show aS (eo M w 2) W2 (xL za fs.length zc) fs by
  rw[hW2];exact HS.o.ev (((Ev.refl _ w1).setCell (.inl (.inr ⟨by simp,by simp⟩)) _).setCell (.inl (.inr ⟨by simp,by simp⟩)) _));rw[<-hW2];clear hW2 r0 r1 r2 f0 f1 HB HS;have⟨r0,r1,r2⟩:=bM (bZ.o.cP rfl);go_wp2_with fail;refine(HIC.o _ bZ.o.1 bZ.o.cM).mono ?_;rintro e w3⟨_,rfl,qX,hb3⟩;obtain⟨ya,yc,rfl,_⟩:=qX.bj;have cR:=aV (bZ.o.aT hb3);have jM:=aV (And.intro (iy.o.aT hb3) qX);clear qX hb3 r0 r1 r2;have⟨r0,r1,r2⟩:=bM (cR.o.cP rfl);have⟨e0,e1,e2⟩:=bM (cR.o.cZ rfl);have f2:=aY (cR.o.cP rfl) 2;have⟨g0,g1⟩:=nZ (cR.o.cZ rfl);have g2:=aY (cR.o.cZ rfl) 2;go_wp2_with fail;refine ah (v:= .agg #[nm,xL za fs.length zc,xL ya chs.length yc]) (by simp[results,results173,go_sem,e0,e1,e2]) rfl ⟨_,rfl,⟨_,_,rfl,jM.o.1.ev ?_,jM.o.2.ev ?_⟩,?_⟩
 .exact((((fx w3).setCell (.inl (.inr ⟨by simp,by simp⟩)) _).setCell (.inl (.inr ⟨by simp,by simp⟩)) _).setCell (.inl (.inr ⟨by simp,by simp⟩)) _).setCell (.inl (.inr ⟨by simp,by simp⟩)) _
 .exact((((fx w3).setCell (.inl (.inr ⟨by simp,by simp⟩)) _).setCell (.inl (.inr ⟨by simp,by simp⟩)) _).setCell (.inl (.inr ⟨by simp,by simp⟩)) _).setCell (.inl (.inr ⟨by simp,by simp⟩)) _
 exact(((cR.o.1.setCell (by simp) _).setCell (by simp) _).setCell (by simp) _).setCell (by simp) _
def IW:(Tryz.prog.info? 72).map (λi=>(i.zero,i.size,i.bytes))=some (some (.agg #["",(),()]),3,64):=by kernel_rfl
def zQ(l:List bQ)(hl:l.length<=12)(h0:0<l.length)(h12:∀y∈l,y.bu.aW.length<=12/\y.bo.length<=12)(M:bY)(w:bq)(v:bt)(hM:Bd M w)(hs:aS M w v l):
 xG 172 #[v, .func (.func 173) #[] #[]] w λv' w'=>aS M w' v' l:=by
 have⟨i0,hi0,hz0,hz1,hz2⟩:=info_parts IW
 have HC:Hd (∀(i:Nat)(x:bQ),l[i]? =some x->_):=λi x hx=>fp hs hx
 have H12:Hd (∀y∈l,y.bu.aW.length<=12/\y.bo.length<=12):=h12
 obtain⟨a,cY,rfl,dN,hmx,_⟩:=hs.bj
 generalize hn:l.length=n at*
 have fB:=aV hn
 have wK:((n:Int)==0)=false:=by simp;omega
 have⟨cur,hmk,hcs⟩:=nF (P:=prog) w 28 72 i0 _ underlying28 hi0 hz0 n (by omega) (by omega)
 have JF:Hd (eM (α:=bQ) M w 72 (w.alloc (.cells cur 72)) n []):=eM.made cur (az w _) (by rw[hcs,hz1];rfl)
 delta xG
 go_in
 go_wp2
 go_loopg [6,7,16]n(λg _ _ iv wr=>∃i:Nat,i<=n/\g=n-i/\iv=xI i/\Hd (eM M w 72 wr n (l.take i))/\Hd (bC w wr))
 exact⟨0,ax _,rfl,rfl,JF,cU⟩
 obtain⟨i,hi,rfl,rfl,HA,HB⟩:=hrel
 have hsz:w.heap.size<wr:=HA.o.lt
 by_cases cE:i<n
 rotate_left
 .go_wp2
  go_ret
  refine⟨_,rfl,?_,HB.o⟩
  have h1:=HA.o
  rw[ak (by rw[fB.o];omega)]at h1
  exact h1.slice fB.o (λh=>by have:=hM _ h;omega) (by unfold maxLen;omega)
 have⟨x,hx⟩:=fg l i (by rw[fB.o];exact cE)
 have⟨b,off,cap,fa,fc,ca,cc,hv,hb,hfs,hcs,hnm,hcells⟩:=HC.o i x hx
 obtain⟨rfl,rfl⟩:=jk hv
 have⟨q0,q1,q2⟩:=hcells wr HB.o
 have pr:=aV (show(l.take i).length=i by have:=fB.o;rw[aK];omega)
 have oQ:=aV (show l.take (i+1)=l.take i++[x]by rw[ao,hx];rfl)
 have hxl:=H12.o x (ai hx)
 have TQ:Hd (∀o,Ev M w (orM M w) (wr.alloc o)):=λo=>⟨bh.bA (HB.o.alloc (by omega) o),λj hj=>by
  rcases hj with hj|hj
  .exact .inl hj
  exact .inr (by omega)⟩
 have cI:=aV (λo=>Cs x.bu.aX x.bu.aW x.bo hxl.1 hxl.2 (orM M w) (wr.alloc o) (xL fa x.bu.aW.length fc) (xL ca x.bo.length cc) (λj hj=>by
  rcases hj with hj|hj
  .have:=hM j hj;simp;omega
  simp;omega) (hfs.ev (TQ.o o)) (hcs.ev (TQ.o o)))
 have wH:=aV hnm
 go_wp2_with fail
 refine(cI.o _).mono ?_
 rintro e w1⟨_,rfl,⟨fv,cv,rfl,h1,h2⟩,hb1⟩
 obtain⟨za,zc,rfl,_⟩:=h1.bj
 obtain⟨ya,yc,rfl,_⟩:=h2.bj
 have tU:Hd (bD.rep (α:=bQ) (orM M w) w1 [xS x.bu.aX,xL za x.bu.aW.length zc,xL ya x.bo.length yc] x):=⟨_,_,rfl,h1,h2,wH.o⟩
 have cu:=aV (ct hb1)
 have lJ:=aV (HA.o.aT cu.o)
 have Yp:i*3+2<n*3:=by omega
 have hTH:w1.there w (i*3) 3:=λj hj=>by
  have⟨u,p,f⟩:=lJ.o.cell (j:=i*3+j) (by show _<n*3;omega)
  exact⟨by rw[p];rfl,f⟩
 have Xf:(Tryz.prog.info? 72).map (·.size)=some 3:=by simp[hi0,hz1]
 have qbh:(#[x.bu.aX,xL za x.bu.aW.length zc,xL ya x.bo.length yc]:Array bt).all (·.oneCell')=true:=by simp[Value.oneCell']
 have QN:=aV (And.intro hTH (And.intro Xf qbh))
 go_wp2_with(with_reducible refine wpList_store_mid ?_ 72 (.tmp 26) (.tmp 25) ?_ w (i*3) #[x.bu.aX,xL za x.bu.aW.length zc,xL ya x.bo.length yc] ?_ ?_ ?_ ?_ ?_ ?_
             .exact rfl
             .exact rfl
             .exact rfl
             .exact rfl
             .exact QN.o.1
             .exact QN.o.2.1
             exact QN.o.2.2)
 go_roundg(n-(i+1))
 case measure=>omega
 case rel=>
  refine⟨i+1,by omega,rfl,by go_num,(show eM _ _ _ _ _ _ by rw[oQ.o];exact lJ.o.ZD pr.o cE tU.o),(show Below _ _ _ from ?_)⟩
  exact mf (by omega) _ _ (HB.o.trans (cu.o.mono (by omega)))
def Fc(a:fM)(cap:Nat)(fv:bt)(w:bq):xC 172 #[xL a 0 cap,fv] w (j7 () w):=by
 delta xC;go_in;go_wp2;go_ret;exact⟨rfl,rfl⟩
def Fe(l:List bQ)(hl:l.length<=12)(h12:∀y∈l,y.bu.aW.length<=12/\y.bo.length<=12)(M:bY)(w:bq)(v:bt)(hM:Bd M w)(hs:aS M w v l):
 xG 172 #[v, .func (.func 173) #[] #[]] w λv' w'=>aS M w' v' l:=by
 by_cases h0:0<l.length
 .exact zQ l hl h0 h12 M w v hM hs
 have e:l=[]:=aM (by omega);subst e;obtain⟨a,cap,rfl,_⟩:=hs.bj;refine ey (Fc a cap _ w) ?_;exact⟨_,rfl,aS.nil _ _,eH⟩
def mg(ls:List bQ)(hl:ls.length<=12)(h12:∀y∈ls,y.bu.aW.length<=12/\y.bo.length<=12)(M:bY)(w:bq)(v:bt)(hM:Bd M w)(hs:aS M w v ls):
 xG 93 #[.agg #[v]] w λu w'=>∃v',u= .agg #[v']/\aS M w' v' ls:=by
 have zo:Hd (∀W,bC w W->w.heap.size+2<=W->_):=λW hb hz=>Fe ls hl h12 (eo M w 2) W v (dZ hM hz) (hs.ev (dH hb));obtain⟨a,cY,rfl,_⟩:=hs.bj;delta xG;go_in;go_wp2_with fail;refine(zo.o _ (Bx.ei w _ _).1 (by simp)).mono ?_;rintro e w1⟨_,rfl,hs1,hb1⟩;obtain⟨za,zc,rfl,_⟩:=hs1.bj;have HB:=aV ((Bx.ei w (xK #[xL a ls.length cY] 30) (xK #[()] 30)).aT hb1);have e0:=one_cell (HB.o.cZ rfl);have g0:=aY (HB.o.cZ rfl) 0;have HS:=aV hs1;go_wp2_with fail;refine ah (v:= .agg #[xL za ls.length zc]) (by simp[results,results93,go_sem,e0]) rfl ⟨_,rfl,⟨_,rfl,HS.o.ev ?_⟩,?_⟩
 .exact(fx w1).setCell (.inl (.inr ⟨by simp,by simp⟩)) _
 exact HB.o.1.setCell (by simp) _
end
end Go.Proofs.YtpjdjlnknfmfkaaGreatDoor
