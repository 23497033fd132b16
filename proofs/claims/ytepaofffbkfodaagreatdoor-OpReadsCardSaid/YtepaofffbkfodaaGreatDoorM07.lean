/- A part of OpReads's proof; no condition. -/
import Derived.Test.YtepaofffbkfodaaGreatDoorM06
set_option linter.all false
set_option maxHeartbeats 8000000
set_option maxRecDepth 100000
namespace Go.Proofs.YtepaofffbkfodaaGreatDoor
open Tryz
open Go.RowKit
variable{W w W' wr wx w1 w':aj}{g B k cap K:Nat}{M:aN}{v fv c0 c1 c2 c3 a0 a1 a2 a3 cv:an}{o2 o4 o o0 o1:Obj}{nm s s1 s2:aM}{t:TypeId}{c d:ax}{a:fA}{tk tf:Int}
def nt(M:aN)(w:aj)(hM:Bd M w)(x:tR)(fv:an)(hs:ab M w fv x.fields)(hn:I6 x.name):
 xG 50 #[.agg #[xI x.name,fv]] w λv w'=>∃c,iO c/\(0<x.fields.length->0<c.fields.length)/\ct M w' v c:=by
 obtain⟨i0,ed,ej,dO,er⟩:=info_parts iz
 obtain⟨a,bQ,rfl,cV,hm,hc⟩:=hs.open_
 have HC:=af hc;clear hc;have HI:=af hn;clear hn
 clear hs
 generalize hn:x.fields.length=n at*
 have HN:=af hn;clear hn
 have hp:=cM x.name 6 (by omega)
 go_enter func50,ntmps50
 go_wp2_with fail
 refine cT (eR _ _ _ HI.o (by omega) (by omega)) ?_
 obtain⟨W,hW⟩:∃W:aj,W=(((w.alloc (xK #[xI x.name,xL a n bQ] 138)).alloc (xK #[xS ⟨#[]⟩,xL none 0 0] 47)).alloc
  (xK #[xS ⟨#[97]⟩,xS ⟨#[98,50]⟩,xS ⟨#[110,97,109,101]⟩,xS ⟨#[110,101,120,116,95,111,110,101]⟩,xS ⟨#[107,105,100,115]⟩,xS ⟨#[120]⟩] 9)).alloc
  (xK #[xS ⟨#[110,111,100,101]⟩,xS ⟨#[105,116,101,109]⟩,xS ⟨#[117,115,101,114]⟩,xS ⟨#[112,97,103,101,95,49]⟩,xS ⟨#[108,101,97,102]⟩,xS ⟨#[113]⟩] 9):=⟨_,rfl⟩
 rw[<-hW]
 obtain⟨b0,b1,b2,b3,hz,hb⟩:=T7 hW
 clear hW
 have hz':w.heap.size+3<W.heap.size:=by omega
 have fV:bt W (w.heap.size+1+1+1) (aJ x.name 6) (xS (Og (aJ x.name 6))):=cell_of_heap b3 (Sf hp)
 have B0:=af b0;clear b0;have B1:=af b1;clear b1;have B2:=af b2;clear b2;have HZ:=af hz;clear hz;have HB:=af hb;clear hb
 clear b3
 go_wp2_with fail
 obtain⟨nm,mW⟩:=bS (Og (aJ x.name 6))
 rw[<-mW]
 have tl:=af (show nm∈nk by rw[mW];exact Oh hp)
 clear mW fV
 have Cy:Hd (∀i,(M i\/(w.heap.size<=i/\i<=W.heap.size))->i<W.heap.size+1):=λi h=>by rcases h with h|h;have:=hM i h;omega;omega
 go_loopg [5,6,7,8,9]6(λg iv _ _ _ _ wr=>∃(k:Nat)(jA:an)(fs:List az),k<=n/\k<=6/\g=6-k/\iv=xI k/\fs.length<=k/\Hd (gw fs/\(0<k->0<fs.length))/\Hd (aK (λi=>M i\/(w.heap.size<=i/\i<=W.heap.size)) (W.heap.size+1) 60 wr jA fs)/\Hd (aq W wr)/\Hd (di wr W (xK #[xS nm,jA] 47)))
 case atStart=>exact⟨0,xL none 0 0,[],Qbf _,by omega,rfl,rfl,bN,by {have h:gw []/\(0<0->0<([]:List az).length):=⟨⟨λf h=>(by cases h),λj f h=>(by simp at h)⟩,λh=>absurd h (by omega)⟩;exact h},by exact(aK.nil _ _ _ _),by exact bM,by {have h:=Qbh W (xK #[xS nm,xL none 0 0] 47);exact h}⟩
 case round=>
  obtain⟨k,jA,fs,hk,hk6,rfl,rfl,cq,HG,HA,HW,KK⟩:=hrel
  have hsz:W.heap.size<wr.heap.size:=(Qaa.1 KK.o).1
  obtain⟨a',c',rfl,mZ,CO⟩:=HA.o.open_
  obtain⟨g0,g1⟩:=ah ((HW.o.block w.heap.size (by omega)).trans B0.o)
  obtain⟨g2,g3⟩:=ah KK.o
  have aY:Hd (bR wr (w.heap.size+1) (xK #[xS ⟨#[]⟩,xL none 0 0] 47)):=(HW.o.block (w.heap.size+1) (by omega)).trans B1.o
  obtain⟨g4,g5⟩:=ah aY.o
  obtain⟨f4,f5⟩:=mV aY.o
  obtain⟨f2,f3⟩:=mV KK.o
  have pH:Hd (∀W',W'=(wr.setCell ⟨w.heap.size+1,0,none⟩ (xS nm)).setCell ⟨w.heap.size+1,1,none⟩ (xL a' fs.length c')->(∃c,iO c/\(0<k->0<c.fields.length)/\ct M W' (.agg #[xS nm,xL a' fs.length c']) c)/\aq w W'):=λW' gU=>by
   refine⟨⟨⟨nm,fs⟩,HG.o.1.cls (by omega) tl.o,HG.o.2,_,rfl,_,rfl,((HA.o.slice Cy.o).ev ?_),cF (gX nm tl.o).2⟩,?_⟩
   .rw[gU]
    exact((Ev.dD wr (λi h=> .inl h)).setCell (.inl (.inr ⟨by simp,by simp;omega⟩)) _).setCell (.inl (.inr ⟨by simp,by simp;omega⟩)) _
   .rw[gU]
    exact((HB.o.trans (HW.o.mono (by omega))).setCell (by simp) _).setCell (by simp) _
  by_cases bu:k<n
  .by_cases hl6:k<6
   .obtain⟨b,off,rfl,wh,cR,aL⟩:=HC.o (by omega)
    obtain⟨r,hr⟩:=eB x.fields k (by rw[HN.o];exact bu)
    obtain⟨cs,⟨rfl,rC,CN,WN⟩,bJ⟩:=aL k r hr
    have l8:∀(j:Nat)(u:an),[Value.int .i64 r.name,xI r.kind,xI r.of,xB r.indexed][j]? =some u->bt wr b (off+k*4+j) u:=λj u hu=>(HW.o.cell (p:=⟨b,off+k*4+j,none⟩) (by show b<W.heap.size;omega)).trans ((HB.o.cell (p:=⟨b,off+k*4+j,none⟩) cR).trans (bJ j u hu))
    have q0:bt wr b (off+k*4) (xI r.name):=l8 0 _ rfl
    have q1:=l8 1 _ rfl
    have q2:=l8 2 _ rfl
    have q3:=l8 3 _ rfl
    have y9:b≠w.heap.size:=by omega
    have We:=cM r.name 6 (by omega)
    have Yq:=cM r.kind 5 (by omega)
    have RN:=cM r.of 4 (by omega)
    have qdk:bt wr (w.heap.size+1+1) (aJ r.name 6) (xS (T9 (aJ r.name 6))):=cell_of_heap ((HW.o.block (w.heap.size+2) (by omega)).trans B2.o) (U9 We)
    clear aL bJ l8 hr
    have mY:=af rC;clear rC;have vL:=af CN;clear CN;have Yr:=af WN;clear WN
    go_upto_region 7 with fail
    go_cut [7](λs7 wx=>s7=xP (wr.heap.size+1)/\wx=((wr.alloc (xK #[xI r.name,xI r.kind,xI r.of,xB r.indexed] 198)).alloc (xK #[xS (T9 (aJ r.name 6)),xI (1+(aJ r.kind 5:Int)),xI 0,xB false] 60)).drew)
    case first=>
     have z1:(0:Int)<=(aJ r.name 6:Int):=Qba _
     have z2:(aJ r.name 6:Int)<6:=by omega
     have z3:IntKind.i64.wrap (1+(aJ r.kind 5:Int))=1+(aJ r.kind 5:Int):=Qbe _ (by omega)
     go_region_held3(λw'=>w'.cell? ⟨w.heap.size+1+1,aJ r.name 6,none⟩=some (xS (T9 (aJ r.name 6)))/\w'.cell? ⟨wr.heap.size,0,none⟩=some (xI r.name)/\w'.cell? ⟨wr.heap.size,1,none⟩=some (xI r.kind))
      (first|go_keep)
      (first|(go_at_call 117;refine cT (eR _ _ _ (by first|exact mY.o|exact vL.o) (by omega) (by omega)) ?_))
     all_goals(go_wp2_with fail;go_meet;exact⟨rfl,rfl⟩)
    case rest=>
     obtain⟨rfl,rfl⟩:=hcut
     obtain⟨f,hf⟩:=bS (rT r)
     have QR:=af (show bH f=true/\f.name∈lO by rw[hf];exact wT r)
     have HNO:Hd (idxOf (λg:az=>cj g.name f.name) fs<0->∀W':aj,aq wr W'->xC 118 #[.agg #[xS nm,xL a' fs.length c'],xS f.name] W' λe w'=>e=xR (.tuple #[xI 0,xB false])/\Below W'.heap.size W' w'):=λh W' hb=>Df _ _ W' fs nm f.name ((HA.o.below hb).slice Cy.o) h
     have qdl:Hd (¬idxOf (λg:az=>cj g.name f.name) fs<0->∀W':aj,aq wr W'->xC 118 #[.agg #[xS nm,xL a' fs.length c'],xS f.name] W' λe w'=>e=xR (.tuple #[xI (idxOf (λg:az=>cj g.name f.name) fs),xB true])/\Below W'.heap.size W' w'):=λh W' hb=>Bw _ _ W' fs nm f.name ((HA.o.below hb).slice Cy.o) h
     have HNZ:=af (show f.name=T9 (aJ r.name 6)by rw[hf];rfl)
     have zh:=af (show f.type.kind=1+(aJ r.kind 5:Int)by rw[hf];rfl)
     have HOZ:=af (show f.type.of=if aJ r.kind 5=4 then 1+(aJ r.of 4:Int)else 0 by rw[hf];rfl)
     have HIZ:=af (show f.indexed=(r.indexed&&decide (1+(aJ r.kind 5:Int)<=3))by rw[hf];rfl)
     clear hf qdk
     rw[<-HNZ.o]
     rw[<-zh.o]at HIZ⊢
     go_upto_if 49 with fail
     go_cut [](λwx=>wx=((wr.alloc (xK #[xI r.name,xI r.kind,xI r.of,xB r.indexed] 198)).alloc (xK #[xS f.name,xI f.type.kind,xI f.type.of,xB false] 60)).drew)
     case first=>
      by_cases h4:aJ r.kind 5=4
      .have e5:(f.type.kind==5)=true:=by rw[zh.o];simp;omega
       rw[if_pos h4]at HOZ
       clear h4
       go_wp2_with(go_at_call 117;refine cT (eR _ _ _ Yr.o (by omega) (by omega)) ?_)
       go_meet
       rw[HOZ.o]
      .have e5:(f.type.kind==5)=false:=by rw[zh.o];simp;omega
       rw[if_neg h4]at HOZ
       clear h4
       go_wp2
       go_meet
       rw[HOZ.o]
     case rest=>
      obtain rfl:=hcut
      go_upto_region 10 with fail
      go_cut [](λwx=>wx=((wr.alloc (xK #[xI r.name,xI r.kind,xI r.of,xB r.indexed] 198)).alloc (xK #[xS f.name,xI f.type.kind,xI f.type.of,xB f.indexed] 60)).drew)
      case first=>
       by_cases h3:f.type.kind<=3
       .rw[decide_eq_true h3,Bool.and_true]at HIZ
        cases Uo:r.indexed
        all_goals
         have HIX:=af Uo;clear Uo
         go_wp2
         go_meet
         rw[HIZ.o,HIX.o]
       .rw[decide_eq_false h3,Bool.and_false]at HIZ
        cases Uo:r.indexed
        all_goals
         have HIX:=af Uo;clear Uo
         go_wp2
         go_meet
         rw[HIZ.o,HIX.o]
      case rest=>
       obtain rfl:=hcut
       by_cases hm:idxOf (λg:az=>cj g.name f.name) fs<0
       .have HM:=af hm;clear hm
        go_wp2_with fail
        refine bY (HNO.o HM.o _ (by exact(bM.alloc (by simp) _).drew)) λw1 aF=> ?_
        have fu:=aF.size
        simp at fu
        have F7:Hd (aq wr w1):=(bM.alloc (by simp) _).drew.trans (aF.mono (by simp;omega))
        have jy:=af ((aF.block (wr.heap.size+1) (by simp)).trans (jR (w:=wr) rfl).2.1)
        obtain⟨p0,p1,p2,p3⟩:=ae jy.o
        have wm:Hd (di w1 W (xK #[xS nm,xL a' fs.length c'] 47)):=(F7.o.block W.heap.size hsz).trans KK.o
        obtain⟨p4,p5⟩:=ah wm.o
        have zK:=af (HA.o.below F7.o)
        have qdm:Hd (aq W w1):=HW.o.trans (F7.o.mono (by omega))
        clear aF
        go_wp2_with(at_builtin
                    refine aW (α:=az) rfl _ _ _ rfl _ _ 60 i0 _ 40 underlying45 ed ej dO er rfl (by decide) _ fs rfl (zK.o.alloc _) (λ_=>True) _ _ f rfl (cD _ _ _ _ rfl trivial) ?c1 ?c2 ?c3 ?c4 ?_
                    case c1=>exact⟨rfl,cF (rS _ QR.o.2).2⟩
                    case c2=>unfold maxLen;omega
                    case c3=>omega
                    case c4=>simp;omega
                    intro a2 c2 w2 bj dz bC
                    have QS:Hd (di w2 W (xK #[xS nm,xL a' fs.length c'] 47)):=(bC.block W.heap.size (by omega)).trans ((Qcb w1 _ W.heap.size (by omega)).trans wm.o)
                    obtain⟨r4,r5⟩:=ah QS.o
                    have r6:=ag QS.o 1
                    have lK:=af bj
                    have aQ:Hd (aq W w2):=(qdm.o.alloc (by omega) _).trans (bC.mono (by omega))
                    clear bj dz bC)
        go_roundg(6-(k+1))
        case measure=>omega
        case rel=>
         refine⟨k+1,xL a2 (fs.length+1) c2,fs++[f],by omega,by omega,rfl,by go_num,by simp;omega,?_,?_,?_,?_⟩
         .exact(show gw (fs++[f])/\(0<k+1->0<(fs++[f]).length)from⟨HG.o.1.snoc QR.o.2 QR.o.1 (by have:=rH (λg:az=>cj g.name f.name) fs;have:=HM.o;omega),λ_=>by simp⟩)
         .exact(show aK _ _ _ _ _ (fs++[f])from lK.o.vz (.inr ⟨by simp;omega,by simp⟩) (by simp) _)
         .exact(show aq W _ from aQ.o.setCell bN _)
         .exact Qca w2 W.heap.size 1 _ _ _ QS.o
       .have HM:=af hm;clear hm
        go_wp2_with fail
        refine bY (qdl.o HM.o _ (by exact(bM.alloc (by simp) _).drew)) λw1 aF=> ?_
        have F7:Hd (aq wr w1):=(bM.alloc (by simp) _).drew.trans (aF.mono (by simp;omega))
        clear aF
        go_wp2
        go_roundg(6-(k+1))
        case measure=>omega
        case rel=>exact⟨k+1,_,fs,by omega,by omega,rfl,by go_num,by omega,(show gw fs/\(0<k+1->0<fs.length)from⟨HG.o.1,λ_=>by have:=wC (λg:az=>cj g.name f.name) fs;have:=HM.o;omega⟩),HA.o.below F7.o,(HW.o.trans (F7.o.mono (by omega))),(F7.o.block W.heap.size hsz).trans KK.o⟩
   .go_wp2_with fail
    refine Qae (v:= .agg #[xS nm,xL a' fs.length c']) (by simp[results,results50,go_sem,g4,g5]) rfl ⟨_,rfl,?_⟩
    obtain⟨⟨c,h1,h2,h3⟩,h4⟩:=pH.o _ rfl
    exact⟨⟨c,h1,λh=>h2 (by omega),h3⟩,h4⟩
  .go_wp2_with fail
   refine Qae (v:= .agg #[xS nm,xL a' fs.length c']) (by simp[results,results50,go_sem,g4,g5]) rfl ⟨_,rfl,?_⟩
   obtain⟨⟨c,h1,h2,h3⟩,h4⟩:=pH.o _ rfl
   exact⟨⟨c,h1,λh=>h2 (by omega),h3⟩,h4⟩
def qx(k:Nat):aM:=([⟨#[110,101,119,95,49]⟩,⟨#[109,111,114,101]⟩,⟨#[122,57]⟩,⟨#[97]⟩,⟨#[110,97,109,101]⟩,⟨#[107,105,100,115]⟩]:List aM).getD k oe
def Sk:∀k,k<6->(qx k).data.toList∈names9:=by
 intro k hk;rcases k with _|_|_|_|_|_|k;all_goals first|decide|omega
def Ox {k:Nat}(hk:k<6):(#[xS ⟨#[110,101,119,95,49]⟩,xS ⟨#[109,111,114,101]⟩,xS ⟨#[122,57]⟩,xS ⟨#[97]⟩,xS ⟨#[110,97,109,101]⟩,xS ⟨#[107,105,100,115]⟩]:Array an)[k]? =some (xS (qx k)):=by
 rcases k with _|_|_|_|_|_|k;all_goals first|rfl|omega
def xd:Obj:=xK #[xS ⟨#[110,101,119,95,49]⟩,xS ⟨#[109,111,114,101]⟩,xS ⟨#[122,57]⟩,xS ⟨#[97]⟩,xS ⟨#[110,97,109,101]⟩,xS ⟨#[107,105,100,115]⟩] 9
def xg(r:fD):Obj:=xK #[xI r.kind,xI r.field,xI r.name,xI r.more,xI r.type.kind,xI r.type.of,xI r.expr,xI r.other] 195
def Al(t:aT):Obj:=xK #[xI 0,xI t.kind,xI t.of,xB false] 198
def Sl(t:aT):Obj:=xK #[xI t.kind,xI t.of] 49
def JS:I6 0:=⟨by omega,by omega⟩
def GP {t:aT}(hM:Bd M w)(hk:I6 t.kind)(ho:I6 t.of)(hg:bR W g (Al t))(hz:w.heap.size<=g):ab M W (xL (some ⟨g,0,none⟩) 1 1) [(⟨0,t.kind,t.of,false⟩:jn)]:=by
 refine⟨[[xI 0,xI t.kind,xI t.of,xB false]],?_,rfl,?_⟩
 .refine⟨by simp[au.size],some ⟨g,0,none⟩,1,rfl,bN,by unfold maxLen;omega,λ_=>⟨g,0,rfl,λh=>by have:=hM g h;omega,(Qaa.1 hg).1,?_⟩⟩;intro i u hu;simp only[List.flatten_cons,List.flatten_nil,List.append_nil]at hu;rcases i with _|_|_|_|i;all_goals first|(simp at hu;done)|(simp at hu;subst hu;simp[World.cell?,hg,Al])
 .intro i cs x hc hx;cases i with
  |zero=>simp at hc hx;subst hc hx;exact⟨rfl,⟨by show-9223372036854775808<=(0:Int);omega,by show(0:Int)<=9223372036854775807;omega⟩,hk,ho⟩
  |succ i=>simp at hc
def uT {l:List az}(h:ab M w v l){k:Nat}{x:az}(hx:l[k]? =some x):∃b off cap,v=xL (some ⟨b,off,none⟩) l.length cap/\b<w.heap.size/\∀W,aq w W->bt W b (off+k*4) (xS x.name)/\bt W b (off+k*4+1) (xI x.type.kind)/\bt W b (off+k*4+2) (xI x.type.of)/\bt W b (off+k*4+3) (xB x.indexed):=by
 obtain⟨a,cap,rfl,hl,_,hc⟩:=h.open_;have hk:=(Qad.1 hx).1;obtain⟨b,off,rfl,_,hb,aL⟩:=hc (by omega);obtain⟨cs,⟨rfl,_⟩,bJ⟩:=aL k x hx;refine⟨b,off,cap,rfl,hb,λW hB=> ?_⟩;have g:∀j u,([xS x.name,xI x.type.kind,xI x.type.of,xB x.indexed]:List an)[j]? =some u->bt W b (off+k*4+j) u:=λj u hu=>(hB.cell (p:=⟨b,off+k*4+j,none⟩) hb).trans (bJ j u hu);exact⟨g 0 _ rfl,g 1 _ rfl,g 2 _ rfl,g 3 _ rfl⟩
def Oy {c:ax}(h:iO c){k:Nat}{f:az}(hf:c.fields[k]? =some f):aG f.type=true:=by
 have:=h.1;have hm:=Qaf hf;simp only[aP,bH,Qce,List.all_eq_true]at this;grind
abbrev CgS(w:aj)(rk rn rm rx ro F8 F9:Int)(nm:aM)(fv:an)(T:Nat)(w':aj):Prop:=w'.cell? ⟨w.heap.size,0,none⟩=some (xI rk)/\w'.cell? ⟨w.heap.size,2,none⟩=some (xI rn)/\w'.cell? ⟨w.heap.size,3,none⟩=some (xI rm)/\w'.cell? ⟨w.heap.size,6,none⟩=some (xI rx)/\w'.cell? ⟨w.heap.size,7,none⟩=some (xI ro)/\w'.cell? ⟨w.heap.size+1+1+1,aJ rn 6,none⟩=some (xS (qx (aJ rn 6)))/\w'.cell? ⟨w.heap.size+1+1+1,aJ rm 6,none⟩=some (xS (qx (aJ rm 6)))/\w'.cell? ⟨T,0,none⟩=some (xI F8)/\w'.cell? ⟨T,1,none⟩=some (xI F9)/\w'.cell? ⟨w.heap.size+1,0,none⟩=some (xS nm)/\w'.cell? ⟨w.heap.size+1,1,none⟩=some fv
def cgS {W2:aj}{rk rf rn rm rx ro tk tf F8 F9:Int}{T:Nat}(h:Bx w [xg ⟨rk,rf,rn,rm,⟨tk,tf⟩,rx,ro⟩,cU nm fv,o2,xd,o4] W2)(hT:bR W2 T (Sl ⟨F8,F9⟩))(hb:aq W2 W'):CgS w rk rn rm rx ro F8 F9 nm fv T W':=by
 have h':=h.below hb;have hT':=(hb.block T (Qaa.1 hT).1).trans hT;obtain⟨a0,a1,a2,a3,a4,a5,a6,a7⟩:=ak (h'.bG rfl);obtain⟨b0,b1⟩:=ah (h'.bU rfl);obtain⟨t0,t1⟩:=ah hT';exact⟨a0,a2,a3,a6,a7,cell_of_heap (h'.BD rfl) (Ox (cM _ _ (by omega))),cell_of_heap (h'.BD rfl) (Ox (cM _ _ (by omega))),t0,t1,b0,b1⟩
def oQ(W2:aj)(c:ax)(x:aC)(K:Nat)(wx:aj):Prop:=
 wx.heap[K]? =some (tA x)/\gZ c x.type x.expr/\gZ c x.type x.other/\aq W2 wx/\W2.heap.size<=K
def Sm {W2 w':aj}{K:Nat}(h:bR W K o/\W2.heap.size<=K)(hb:aq W w'):w'.heap[K]? =some o/\W2.heap.size<=K:=⟨(hb.block K (Qaa.1 h.1).1).trans h.1,h.2⟩
def JT {W2 w':aj}(hj:aq W2 W)(hb:Below (W.alloc o).heap.size (W.alloc o) w'):w'.heap[W.heap.size]? =some o/\W2.heap.size<=W.heap.size:=Sm (W2:=W2) ⟨Qbh W o,hj.size⟩ hb
def JU {W2 w':aj}(hj:aq W2 W)(hb:Below (W.alloc o).drew.heap.size (W.alloc o).drew w'):w'.heap[W.heap.size]? =some o/\W2.heap.size<=W.heap.size:=Sm (W2:=W2) (W:=(W.alloc o).drew) ⟨Qbh W o,hj.size⟩ hb
def Vf {W2 w':aj}(hj:aq W2 W)(hb:aq W w'):aq W2 w':=hj.trans (hb.mono hj.size)
def trB {W2 w':aj}(hj:aq W2 W)(hb:Below W.drew.heap.size W.drew w'):aq W2 w':=hj.drew.trans (hb.mono hj.size)
def trC {W2 w':aj}(hj:aq W2 W)(hb:Below (W.alloc o).heap.size (W.alloc o) w'):aq W2 w':=Vf (hj.alloc hj.size o) hb
def trD {W2 w':aj}(hj:aq W2 W)(hb:Below (W.alloc o).drew.heap.size (W.alloc o).drew w'):aq W2 w':=Vf (hj.alloc hj.size o).drew hb
def jo {K:Nat}{c4 c5 c6 c7:an}(h:bR W K (xK #[c0,c1,c2,c3,c4,c5,c6,c7] t))(a0 a1 a2 a3 a4 a5 a6 a7:an):
 ((((((((W.setCell ⟨K,0,none⟩ a0).setCell ⟨K,1,none⟩ a1).setCell ⟨K,2,none⟩ a2).setCell ⟨K,3,none⟩ a3).setCell ⟨K,4,none⟩ a4).setCell ⟨K,5,none⟩ a5).setCell ⟨K,6,none⟩ a6).setCell ⟨K,7,none⟩ a7).heap[K]? =some (xK #[a0,a1,a2,a3,a4,a5,a6,a7] t):=by
 have h1:=Qca _ K 0 _ _ a0 h;have h2:=Qca _ K 1 _ _ a1 h1;have h3:=Qca _ K 2 _ _ a2 h2;have h4:=Qca _ K 3 _ _ a3 h3;have h5:=Qca _ K 4 _ _ a4 h4;have h6:=Qca _ K 5 _ _ a5 h5;have h7:=Qca _ K 6 _ _ a6 h6;have h8:=Qca _ K 7 _ _ a7 h7;simpa using h8
def eS {K:Nat}(h:Below B w W)(hK:B<=K){a4 a5 a6 a7:an}:
 Below B w ((((((((W.setCell ⟨K,0,none⟩ a0).setCell ⟨K,1,none⟩ a1).setCell ⟨K,2,none⟩ a2).setCell ⟨K,3,none⟩ a3).setCell ⟨K,4,none⟩ a4).setCell ⟨K,5,none⟩ a5).setCell ⟨K,6,none⟩ a6).setCell ⟨K,7,none⟩ a7):=
 (((((((h.setCell hK _).setCell hK _).setCell hK _).setCell hK _).setCell hK _).setCell hK _).setCell hK _).setCell hK _
section
variable {W2 w':aj}{c:ax}{k:Int}{f n m:aM}{tk tf:Int}{s1 s2:aM}
def Oz(h1:Hd (gZ c ⟨tk,tf⟩ s1))(h2:Hd (gZ c ⟨tk,tf⟩ s2))(hj:aq W2 w'):oQ W2 c ⟨k,f,n,m,⟨tk,tf⟩,s1,s2⟩ w'.heap.size (w'.alloc (xK #[xI k,xS f,xS n,xS m,xI tk,xI tf,xS s1,xS s2] 51)):=
 ⟨Qbh w' _,h1.o,h2.o,hj.alloc hj.size _,hj.size⟩
def Vg {K:Nat}{x0 x1 x2 x3 x4 x5 x6 x7:an}(h1:Hd (gZ c ⟨tk,tf⟩ s1))(h2:Hd (gZ c ⟨tk,tf⟩ s2))(hj:aq W2 w')(hk:w'.heap[K]? =some (xK #[x0,x1,x2,x3,x4,x5,x6,x7] 51)/\W2.heap.size<=K):
 oQ W2 c ⟨k,f,n,m,⟨tk,tf⟩,s1,s2⟩ K ((((((((w'.setCell ⟨K,0,none⟩ (xI k)).setCell ⟨K,1,none⟩ (xS f)).setCell ⟨K,2,none⟩ (xS n)).setCell ⟨K,3,none⟩ (xS m)).setCell ⟨K,4,none⟩ (xI tk)).setCell ⟨K,5,none⟩ (xI tf)).setCell ⟨K,6,none⟩ (xS s1)).setCell ⟨K,7,none⟩ (xS s2)):=
 ⟨jo hk.1 _ _ _ _ _ _ _ _,h1.o,h2.o,eS hj hk.2,hk.2⟩
end
def OA(c:ax)(v:an)(_:aj):Prop:=∃(x:aC)(ok:Bool),iR c x/\iZ c x=ok/\v= .tuple #[.agg #[xI x.kind,xS x.field,xS x.name,xS x.more,xI x.type.kind,xI x.type.of,xS x.expr,xS x.other],xB ok]
def GQ(W2:aj)(c:ax)(x:aC)(K:Nat)(wx:aj):Prop:=wx.heap[K]? =some (tA x)/\iR c x/\aq W2 wx
def BE:∀s∈names9,aB (bL s)=true:=by decide
def pT {k:Nat}(h:k<6):aB (qx k)=true/\(qx k).data.toList∈names9/\(qx k).size<=maxLen:=by
 have h1:=Sk k h;have h2:=BE _ h1;rw[JO]at h2;exact⟨h2,h1,cF (wX h1)⟩
def eo(c:ax)(t:aT):oO c t ⟨#[]⟩:= .inl rfl
def vX {c:ax}(hc:cG c){t:aT}(h:gZ c t s):oO c t s:=by
 by_cases hs:s.data.toList=[]
 .exact .inl hs
 .exact .inr (Dl hc.right hc.names h hs)
def Dn {W2 wx:aj}{c:ax}{k:Int}{f n m:aM}{t:aT}{s1 s2:aM}{K:Nat}(h:oQ W2 c ⟨k,f,n,m,t,s1,s2⟩ K wx)(g:aM):oQ W2 c ⟨k,g,n,m,t,s1,s2⟩ K (wx.drew.setCell ⟨K,1,none⟩ (xS g)):=by
 obtain⟨h1,h2,h3,h4,h5⟩:=h;refine⟨?_,h2,h3,h4.drew.setCell h5 _,h5⟩;have:=Qca wx.drew K 1 _ _ (xS g) h1;simpa [tA]using this
def Lq {W2 wx:aj}{c:ax}{k:Int}{f n m:aM}{t:aT}{s1 s2:aM}{K:Nat}(h:oQ W2 c ⟨k,f,n,m,t,s1,s2⟩ K wx)(g:aM):oQ W2 c ⟨k,g,n,m,t,s1,s2⟩ K (wx.setCell ⟨K,1,none⟩ (xS g)).drew:=Dn h g
def rW:(⟨#[]⟩:aM).size<=maxLen:=by unfold maxLen;decide
abbrev Ze(w:aj)(K:Nat)(a b c d e f g h:an):aj:=(((((((w.setCell ⟨K,0,none⟩ a).setCell ⟨K,1,none⟩ b).setCell ⟨K,2,none⟩ c).setCell ⟨K,3,none⟩ d).setCell ⟨K,4,none⟩ e).setCell ⟨K,5,none⟩ f).setCell ⟨K,6,none⟩ g).setCell ⟨K,7,none⟩ h
section
variable {W2 wx:aj}{c:ax}{p:Int}{fn:aM}{i j:Nat}{tk tf:Int}{s1 s2:aM}{K:Nat}
def cg1(h:oQ W2 c ⟨p,fn,qx i,qx j,⟨tk,tf⟩,s1,s2⟩ K wx)(hc:cG c)(hf:fn.size<=20)(ht:aG ⟨tk,tf⟩=true)(hi:i<6)(hj:j<6):GQ W2 c ⟨1,⟨#[]⟩,qx i,⟨#[]⟩,⟨tk,tf⟩,s1,⟨#[]⟩⟩ K (Ze wx K (xI 1) (xS ⟨#[]⟩) (xS (qx i)) (xS ⟨#[]⟩) (xI tk) (xI tf) (xS s1) (xS ⟨#[]⟩)):=by
 obtain⟨h1,h2,h3,h4,h5⟩:=h;have t1:=vX hc h2;obtain⟨n1,n2,n3⟩:=pT hi;exact⟨jo h1 _ _ _ _ _ _ _ _,⟨⟨.inl ⟨rfl,rfl,rfl,rfl⟩,λ_=>n1,λh=>by simp at h,λ_=>ht,t1.nR,(eo _ _).nR,rW,n3,rW⟩,t1,eo _ _,λ_=>n2,λh=>by simp at h⟩,eS h4 h5⟩
def cg2(h:oQ W2 c ⟨p,fn,qx i,qx j,⟨tk,tf⟩,s1,s2⟩ K wx)(hc:cG c)(hf:fn.size<=20)(ht:aG ⟨tk,tf⟩=true)(hi:i<6)(hj:j<6):GQ W2 c ⟨2,fn,⟨#[]⟩,⟨#[]⟩,⟨0,0⟩,⟨#[]⟩,⟨#[]⟩⟩ K (Ze wx K (xI 2) (xS fn) (xS ⟨#[]⟩) (xS ⟨#[]⟩) (xI 0) (xI 0) (xS ⟨#[]⟩) (xS ⟨#[]⟩)):=by
 obtain⟨h1,h2,h3,h4,h5⟩:=h;exact⟨jo h1 _ _ _ _ _ _ _ _,⟨⟨.inr (.inl ⟨rfl,rfl,rfl,rfl,rfl,rfl⟩),λh=>by simp at h,λh=>by simp at h,λh=>by simp at h,(eo _ _).nR,(eo _ _).nR,cF hf,rW,rW⟩,eo _ _,eo _ _,λh=>by simp at h,λh=>by simp at h⟩,eS h4 h5⟩
def cg6(h:oQ W2 c ⟨p,fn,qx i,qx j,⟨tk,tf⟩,s1,s2⟩ K wx)(hc:cG c)(hf:fn.size<=20)(ht:aG ⟨tk,tf⟩=true)(hi:i<6)(hj:j<6):GQ W2 c ⟨6,fn,⟨#[]⟩,⟨#[]⟩,⟨0,0⟩,⟨#[]⟩,⟨#[]⟩⟩ K (Ze wx K (xI 6) (xS fn) (xS ⟨#[]⟩) (xS ⟨#[]⟩) (xI 0) (xI 0) (xS ⟨#[]⟩) (xS ⟨#[]⟩)):=by
 obtain⟨h1,h2,h3,h4,h5⟩:=h;exact⟨jo h1 _ _ _ _ _ _ _ _,⟨⟨.inr (.inr (.inr (.inr (.inr ⟨rfl,rfl,rfl,rfl,rfl,rfl⟩)))),λh=>by simp at h,λh=>by simp at h,λh=>by simp at h,(eo _ _).nR,(eo _ _).nR,cF hf,rW,rW⟩,eo _ _,eo _ _,λh=>by simp at h,λh=>by simp at h⟩,eS h4 h5⟩
def cg3(h:oQ W2 c ⟨p,fn,qx i,qx j,⟨tk,tf⟩,s1,s2⟩ K wx)(hc:cG c)(hf:fn.size<=20)(ht:aG ⟨tk,tf⟩=true)(hi:i<6)(hj:j<6):GQ W2 c ⟨3,fn,qx i,⟨#[]⟩,⟨0,0⟩,⟨#[]⟩,⟨#[]⟩⟩ K (Ze wx K (xI 3) (xS fn) (xS (qx i)) (xS ⟨#[]⟩) (xI 0) (xI 0) (xS ⟨#[]⟩) (xS ⟨#[]⟩)):=by
 obtain⟨h1,h2,h3,h4,h5⟩:=h;obtain⟨n1,n2,n3⟩:=pT hi;exact⟨jo h1 _ _ _ _ _ _ _ _,⟨⟨.inr (.inr (.inl ⟨rfl,rfl,rfl,rfl,rfl⟩)),λ_=>n1,λh=>by simp at h,λh=>by simp at h,(eo _ _).nR,(eo _ _).nR,cF hf,n3,rW⟩,eo _ _,eo _ _,λ_=>n2,λh=>by simp at h⟩,eS h4 h5⟩
def cg4(h:oQ W2 c ⟨p,fn,qx i,qx j,⟨tk,tf⟩,s1,s2⟩ K wx)(hc:cG c)(hf:fn.size<=20)(ht:aG ⟨tk,tf⟩=true)(hi:i<6)(hj:j<6):GQ W2 c ⟨4,fn,⟨#[]⟩,⟨#[]⟩,⟨tk,tf⟩,s1,⟨#[]⟩⟩ K (Ze wx K (xI 4) (xS fn) (xS ⟨#[]⟩) (xS ⟨#[]⟩) (xI tk) (xI tf) (xS s1) (xS ⟨#[]⟩)):=by
 obtain⟨h1,h2,h3,h4,h5⟩:=h;have t1:=vX hc h2;exact⟨jo h1 _ _ _ _ _ _ _ _,⟨⟨.inr (.inr (.inr (.inl ⟨rfl,rfl,rfl,rfl⟩))),λh=>by simp at h,λh=>by simp at h,λ_=>ht,t1.nR,(eo _ _).nR,cF hf,rW,rW⟩,t1,eo _ _,λh=>by simp at h,λh=>by simp at h⟩,eS h4 h5⟩
def cg5(h:oQ W2 c ⟨5,fn,qx i,qx j,⟨tk,tf⟩,s1,s2⟩ K wx)(hc:cG c)(hf:fn.size<=20)(ht:aG ⟨tk,tf⟩=true)(hi:i<6)(hj:j<6):GQ W2 c ⟨5,fn,qx i,qx j,⟨tk,tf⟩,s1,s2⟩ K wx:=by
 obtain⟨h1,h2,h3,h4,h5⟩:=h;have t1:=vX hc h2;have t2:=vX hc h3;obtain⟨n1,n2,n3⟩:=pT hi;obtain⟨m1,m2,m3⟩:=pT hj;exact⟨h1,⟨⟨.inr (.inr (.inr (.inr (.inl rfl)))),λ_=>n1,λ_=>m1,λ_=>ht,t1.nR,t2.nR,cF hf,n3,m3⟩,t1,t2,λ_=>n2,λ_=>m2⟩,h4⟩
end
set_option maxHeartbeats 40000000 in
theorem Dp(r:fD)(hr:I6 r.kind/\I6 r.field/\I6 r.name/\I6 r.more/\I6 r.type.kind/\I6 r.type.of/\I6 r.expr/\I6 r.other)(c:ax)(hc:cG c)(M:Nat->Prop)(w:World)(hM:Bd M w)(fv:Value)(cq:ab M w fv c.fields)(Wz:c.fields.length<=8)(mW:∀f∈c.fields,f.name.size<=20):
 xG 115 #[.agg #[xI r.kind,xI r.field,xI r.name,xI r.more,xI r.type.kind,xI r.type.of,xI r.expr,xI r.other], .agg #[xS c.name,fv]] w (OA c):=by
 have iL:=af cq;obtain⟨fa,fc,rfl,Jq,M9,_⟩:=cq.open_;obtain⟨g0,g1,g2,g3,g4,g5,g6,g7⟩:=hr;have HG0:=af g0;clear g0;have RL:=af g1;clear g1;have To:=af g2;clear g2;have WO:=af g3;clear g3;have HG4:=af g4;clear g4;have HG5:=af g5;clear g5;have HG6:=af g6;clear g6;have HG7:=af g7;clear g7;clear cq;obtain⟨nm,fs⟩:=c;obtain⟨rk,rf,rn,rm,⟨tk,tf⟩,rx,ro⟩:=r;dsimp only at*;go_enter func115,ntmps115;go_wp2_with fail;obtain⟨W,hW⟩:=bS (((((w.alloc (xg ⟨rk,rf,rn,rm,⟨tk,tf⟩,rx,ro⟩)).alloc (cU nm (xL fa fs.length fc))).alloc (tA ⟨0,⟨#[]⟩,⟨#[]⟩,⟨#[]⟩,⟨0,0⟩,⟨#[]⟩,⟨#[]⟩⟩)).alloc xd).alloc (Al ⟨tk,tf⟩));have HB:=af (show Bx w [xg ⟨rk,rf,rn,rm,⟨tk,tf⟩,rx,ro⟩,cU nm (xL fa fs.length fc),tA ⟨0,⟨#[]⟩,⟨#[]⟩,⟨#[]⟩,⟨0,0⟩,⟨#[]⟩,⟨#[]⟩⟩,xd,Al ⟨tk,tf⟩] W by rw[hW];exact Bx.GO w _ _ _ _ _);unfold xg cU tA xd Al at hW;rw[<-hW];clear hW;have hsz:=HB.o.bF;simp only[Qcc,Qcd]at hsz;refine(nt M W (hM.below HB.o.1) ⟨0,[⟨0,tk,tf,false⟩]⟩ _ (GP hM HG4.o HG5.o (HB.o.Ub rfl) (by omega)) (JS)).mono ?_;rintro e w1⟨_,rfl,⟨d,hgd,WQ,⟨_,rfl,⟨dv,rfl,CS,_⟩⟩⟩,aF⟩;obtain⟨t,ht⟩:=eB d.fields 0 (WQ (by show 0<1;omega));obtain⟨b,off,cap,hdv,cR,ay⟩:=uT CS ht;subst hdv;have HT:Hd (aG t.type=true):=Oy hgd ht;obtain⟨d0,d1,d2,d3⟩:=ay w1 dQ;have Yh:=WQ (by show 0<1;omega);have aY:=af (HB.o.below aF);clear ay hgd WQ CS aF HB;obtain⟨⟨tn,⟨F8,F9⟩,ti⟩,Fv⟩:∃t',t'=t:=⟨t,rfl⟩;subst Fv;dsimp only at*;simp only[Nat.zero_mul,Nat.add_zero]at d0 d1 d2 d3;have F6:∀(s:ByteArray)(a:Option Addr)(n cap:Nat)(w:World),(Instr.field 47 (.agg #[xS s,xL a n cap]) 1).run prog w= .ok (xL a n cap) w:=λ_ _ _ _ _=>by kernel_rfl
 go_upto_region 3 with fail;obtain⟨W2,gS⟩:=bS (w1.alloc (Sl ⟨F8,F9⟩));have aQ:=af (show Bx w [xg ⟨rk,rf,rn,rm,⟨tk,tf⟩,rx,ro⟩,cU nm (xL fa fs.length fc),tA ⟨0,⟨#[]⟩,⟨#[]⟩,⟨#[]⟩,⟨0,0⟩,⟨#[]⟩,⟨#[]⟩⟩,xd,Al ⟨tk,tf⟩] W2 by rw[gS];exact aY.o.alloc _);have Qz:=af (show W2.heap[w1.heap.size]? =some (Sl ⟨F8,F9⟩)by rw[gS];exact Qbh w1 _);have hT2:w1.heap.size<W2.heap.size:=(Qaa.1 Qz.o).1;have j6:=aQ.o.bF;simp only[Qcc,Qcd]at j6;unfold Sl at gS;rw[<-gS];clear gS d0 d1 d2 d3 aY;generalize w1.heap.size=T at*;have HS:Hd (∀W',aq W2 W'->CgS w rk rn rm rx ro F8 F9 nm (xL fa fs.length fc) T W'):=λW' hb=>cgS aQ.o Qz.o hb;have RG:Hd (∀W n,aq W2 W->I6 n->xC 179 #[xI n, .agg #[xI F8,xI F9], .agg #[xS nm,xL fa fs.length fc]] W (cg W λv _=>∃s,v=xS s/\gZ ⟨nm,fs⟩ ⟨F8,F9⟩ s)):=λW n hb hn=>GG M W ⟨nm,fs⟩ _ n ⟨F8,F9⟩ ((iL.o.below aQ.o.1).below hb) Wz hn HT.o mW;have HJ:Hd (aq W2 W2):=dQ;have hp0:=cM rk 6 (by omega);have uE:=cM rn 6 (by omega);have F4:=cM rm 6 (by omega);go_cut [8](λs8 wx=>∃(K:Nat)(s1 s2:ByteArray),s8=xP K/\Hd (oQ W2 ⟨nm,fs⟩ ⟨1+(aJ rk 6:Int),⟨#[]⟩,qx (aJ rn 6),qx (aJ rm 6),⟨F8,F9⟩,s1,s2⟩ K wx));case first=>
  have z1:(0:Int)<=(aJ rn 6:Int):=Qba _;have z2:(aJ rn 6:Int)<6:=by omega
  have z3:(0:Int)<=(aJ rm 6:Int):=Qba _;have z4:(aJ rm 6:Int)<6:=by omega
  have z5:IntKind.i64.wrap (1+(aJ rk 6:Int))=1+(aJ rk 6:Int):=Qbe _ (by omega);obtain⟨c0,c1,c2,c3,c4,c5,c6,c7,c8,c9,c10⟩:=HS.o W2 dQ;go_region_held3(λw'=>w'.cell? ⟨w.heap.size,0,none⟩=some (xI rk)/\w'.cell? ⟨w.heap.size,2,none⟩=some (xI rn)/\w'.cell? ⟨w.heap.size,3,none⟩=some (xI rm)/\w'.cell? ⟨w.heap.size,6,none⟩=some (xI rx)/\w'.cell? ⟨w.heap.size,7,none⟩=some (xI ro)/\w'.cell? ⟨w.heap.size+1+1+1,aJ rn 6,none⟩=some (xS (qx (aJ rn 6)))/\w'.cell? ⟨w.heap.size+1+1+1,aJ rm 6,none⟩=some (xS (qx (aJ rm 6)))/\w'.cell? ⟨T,0,none⟩=some (xI F8)/\w'.cell? ⟨T,1,none⟩=some (xI F9)/\w'.cell? ⟨w.heap.size+1,0,none⟩=some (xS nm)/\w'.cell? ⟨w.heap.size+1,1,none⟩=some (xL fa fs.length fc))
   (with_reducible first|exact HS.o _ HJ.o|exact HS.o _ HJ.o.drew|exact HS.o _ (HJ.o.alloc HJ.o.size _)|exact HS.o _ ((HJ.o.alloc HJ.o.size _).drew)|exact HS.o _ fx.o|exact HS.o _ fx.o.drew|exact HS.o _ (fx.o.alloc fx.o.size _)|exact HS.o _ ((fx.o.alloc fx.o.size _).drew)|exact HS.o _ dE.o|exact HS.o _ dE.o.drew|exact HS.o _ (dE.o.alloc dE.o.size _)|exact HS.o _ ((dE.o.alloc dE.o.size _).drew)|exact HS.o _ (eS dE.o mS.o.2))
   (first
     |(go_at_call 178;refine(iy _ _ _ (by first|exact HG0.o|exact To.o|exact WO.o) (by omega) (by omega)).mono ?_;rintro e w'⟨rfl,rfl⟩)
     |(go_at_call 179;with_reducible refine(RG.o _ rx (by with_reducible first|exact HJ.o|exact HJ.o.drew|exact HJ.o.alloc HJ.o.size _|exact(HJ.o.alloc HJ.o.size _).drew) HG6.o).mono ?_
       rintro e wa⟨_,rfl,⟨s1,rfl,fu⟩,hb⟩;have HXa:=af fu;clear fu;try(with_reducible(have CB:=af (JT HJ.o hb)))
       try(with_reducible(have CB:=af (JU HJ.o hb)))
       have fx:Hd (aq W2 wa):=(by with_reducible first|exact af (Vf HJ.o hb)|exact af (trB HJ.o hb)|exact af (trC HJ.o hb)|exact af (trD HJ.o hb));clear hb)
     |(go_at_call 179;with_reducible refine(RG.o _ ro (by with_reducible first|exact fx.o|exact fx.o.drew|exact fx.o.alloc fx.o.size _|exact(fx.o.alloc fx.o.size _).drew) HG7.o).mono ?_
       rintro e wb⟨_,rfl,⟨s2,rfl,fu⟩,hb⟩;have HXb:=af fu;clear fu;try(with_reducible(have mS:=af (Sm CB.o hb)))
       try(with_reducible(have mS:=af (JT fx.o hb)))
       try(with_reducible(have mS:=af (JU fx.o hb)))
       try with_reducible have k0:=(ak mS.o.1).1
       try with_reducible have k1:=(ak mS.o.1).2.1
       try with_reducible have k2:=(ak mS.o.1).2.2.1
       try with_reducible have k3:=(ak mS.o.1).2.2.2.1
       try with_reducible have k4:=(ak mS.o.1).2.2.2.2.1
       try with_reducible have k5:=(ak mS.o.1).2.2.2.2.2.1
       try with_reducible have k6:=(ak mS.o.1).2.2.2.2.2.2.1
       try with_reducible have k7:=(ak mS.o.1).2.2.2.2.2.2.2
       try with_reducible have y0:=ag mS.o.1 0
       try with_reducible have y1:=ag mS.o.1 1
       try with_reducible have y2:=ag mS.o.1 2
       try with_reducible have y3:=ag mS.o.1 3
       try with_reducible have y4:=ag mS.o.1 4
       try with_reducible have y5:=ag mS.o.1 5
       try with_reducible have y6:=ag mS.o.1 6
       try with_reducible have y7:=ag mS.o.1 7
       have dE:Hd (aq W2 wb):=(by with_reducible first|exact af (Vf fx.o hb)|exact af (trB fx.o hb)|exact af (trC fx.o hb)|exact af (trD fx.o hb));clear hb));all_goals(go_wp2;go_meet)
  .refine⟨_,s1,s2,rfl,?_⟩;exact af (Oz HXa HXb dE.o)
  all_goals
   refine⟨_,s1,s2,rfl,?_⟩;exact af (Vg HXa HXb dE.o mS.o)
 case rest=>
  obtain⟨K,s1,s2,rfl,HC⟩:=hcut;obtain⟨wx,FB⟩:=bS (wc);subst FB;have HKW:Hd (∀W',aq wx W'->CgS w rk rn rm rx ro F8 F9 nm (xL fa fs.length fc) T W'):=λW' hb=>HS.o W' (Vf HC.o.2.2.2.1 hb);obtain⟨c0,c1,c2,c3,c4,c5,c6,c7,c8,c9,c10⟩:=HKW.o wx dQ;obtain⟨k0,k1,k2,k3,k4,k5,k6,k7⟩:=ak HC.o.1;have y1:=ag HC.o.1 1;have rC:=(ak ((aQ.o.du HC.o.2.2.2.1 (by have:=aQ.o.bF;exact this)).bG rfl)).2.1;go_upto_if 55 with fail;go_cut [](λwy=>∃fn:ByteArray,Hd (fn.size<=20/\oQ W2 ⟨nm,fs⟩ ⟨1+(aJ rk 6:Int),fn,qx (aJ rn 6),qx (aJ rm 6),⟨F8,F9⟩,s1,s2⟩ K wy));case first=>
   by_cases h0:0<fs.length
   .have hpf:=cM rf fs.length h0;obtain⟨f,hf⟩:=eB fs (aJ rf fs.length) hpf;obtain⟨bf,of,cf,Nk,F2,hfc⟩:=uT iL.o hf;obtain⟨rfl,rfl⟩:=iB Nk;have q0:=(hfc wx (aQ.o.1.trans (HC.o.2.2.2.1.mono (by omega)))).1;have FC:Hd (f.name.size<=20):=mW f (Qaf hf);have NP:Hd (∀W,xC 178 #[xI rf,xI (fs.length:Int)] W (ji (xI (aJ rf fs.length:Int)) W)):=λW=>by
     have h:=iy rf (fs.length:Int) W RL.o (by omega) (by omega);simpa using h
    clear hf Nk hfc;have z1:(0:Int)<=(aJ rf fs.length:Int):=Qba _;have z2:(aJ rf fs.length:Int)<(fs.length:Int):=by omega
    have hKW:=HC.o.2.2.2.2;have nK1:w.heap.size≠K:=by omega
    have nK2:w.heap.size+1≠K:=by omega
    have nK3:bf≠K:=by omega
    go_wp2_with fail;go_region_law(first
     |(go_simp;go_at_call 178;refine(NP.o _).mono ?_;rintro e w'⟨rfl,rfl⟩));all_goals(go_wp2;go_meet)
    all_goals exact⟨f.name,(show _/\oQ _ _ _ _ _ from⟨FC.o,by first|exact Dn HC.o f.name|exact Lq HC.o f.name⟩)⟩
   .go_wp2;go_meet;exact⟨⟨#[]⟩,(show _/\oQ _ _ _ _ _ from⟨by decide,HC.o⟩)⟩
  case rest=>
   obtain⟨fn,HF⟩:=hcut;obtain⟨wy,WR⟩:=bS (wc);subst WR;clear c0 c1 c2 c3 c4 c5 c6 c7 c8 c9 c10 k0 k1 k2 k3 k4 k5 k6 k7 y1 rC HKW HC;have HC:Hd (oQ W2 ⟨nm,fs⟩ ⟨1+(aJ rk 6:Int),fn,qx (aJ rn 6),qx (aJ rm 6),⟨F8,F9⟩,s1,s2⟩ K wy):=HF.o.2;have FC:Hd (fn.size<=20):=HF.o.1;have HX:Hd (cG ⟨nm,fs⟩):=hc;obtain⟨c0,c1,c2,c3,c4,c5,c6,c7,c8,c9,c10⟩:=HS.o wy HC.o.2.2.2.1;have hq:1<=1+(aJ rk 6:Int)/\1+(aJ rk 6:Int)<=6:=by omega
   generalize 1+(aJ rk 6:Int)=p at*;obtain⟨hq1,hq2⟩:=hq;obtain⟨k0,k1,k2,k3,k4,k5,k6,k7⟩:=ak HC.o.1;go_upto_block 0 with fail;go_cut [](λwz=>∃x:aC,Hd (GQ W2 ⟨nm,fs⟩ x K wz));case rest=>
    obtain⟨x,HD⟩:=hcut;obtain⟨W6,nY⟩:=bS (wc);subst nY;clear c0 c1 c2 c3 c4 c5 c6 c7 c8 c9 c10 k0 k1 k2 k3 k4 k5 k6 k7 HC HF;obtain⟨⟨xk,xf,xn,xm,⟨xt,xo⟩,xe,xz⟩,hx⟩:∃y,y=x:=⟨x,rfl⟩;subst hx;obtain⟨m0,m1,m2,m3,m4,m5,m6,m7⟩:=ak HD.o.1;obtain⟨c0,c1,c2,c3,c4,c5,c6,c7,c8,c9,c10⟩:=HS.o W6 HD.o.2.2;have bW:=af (aQ.o.du HD.o.2.2 (by have:=aQ.o.bF;exact this));obtain⟨b,hb⟩:=jO (iZ ⟨nm,fs⟩ ⟨xk,xf,xn,xm,⟨xt,xo⟩,xe,xz⟩);have Tn:=af (uQ ⟨nm,fs⟩ ⟨xk,xf,xn,xm,⟨xt,xo⟩,xe,xz⟩ HD.o.2.1.pre HX.o.right (cF HX.o.small) b hb M W6.drew (hM.below (w':=W6) bW.o.1) (xL fa fs.length fc) ((iL.o.below bW.o.1).ev ((Ev.refl _ _).drew)));have KJ:=af hb;clear hb;clear c0 c1 c2 c3 c4 c5 c6 c7 c8;have HSD:Hd (∀W',Below W6.drew.heap.size W6.drew W'->(W'.cell? ⟨K,0,none⟩=some (xI xk)/\W'.cell? ⟨K,1,none⟩=some (xS xf)/\W'.cell? ⟨K,2,none⟩=some (xS xn)/\W'.cell? ⟨K,3,none⟩=some (xS xm)/\W'.cell? ⟨K,4,none⟩=some (xI xt)/\W'.cell? ⟨K,5,none⟩=some (xI xo)/\W'.cell? ⟨K,6,none⟩=some (xS xe)/\W'.cell? ⟨K,7,none⟩=some (xS xz)/\W'.cell? ⟨w.heap.size+1,0,none⟩=some (xS nm)/\W'.cell? ⟨w.heap.size+1,1,none⟩=some (xL fa fs.length fc))):=λW' hb=>by
     have hk:=(hb.block K (Qaa.1 HD.o.1).1).trans HD.o.1;obtain⟨m0,m1,m2,m3,m4,m5,m6,m7⟩:=ak hk;obtain⟨r0,r1⟩:=ah ((bW.o.drew.below hb).bU rfl);exact⟨m0,m1,m2,m3,m4,m5,m6,m7,r0,r1⟩
    go_upto_region 15 with fail;go_region_law(first
     |(go_simp;go_at_call 180;refine Tn.o.mono ?_;rintro e w7⟨rfl,hbr⟩;have pJ:=af (bW.o.drew.below hbr);have QT:=af (HSD.o w7 hbr);have t0:=QT.o.1;have t1:=QT.o.2.1;have t2:=QT.o.2.2.1;have t3:=QT.o.2.2.2.1;have t4:=QT.o.2.2.2.2.1;have t5:=QT.o.2.2.2.2.2.1;have t6:=QT.o.2.2.2.2.2.2.1;have t7:=QT.o.2.2.2.2.2.2.2.1;have g0:=(ak (pJ.o.fR rfl)).1;have g1:=(ak (pJ.o.fR rfl)).2.1;have g2:=(ak (pJ.o.fR rfl)).2.2.1;have g3:=(ak (pJ.o.fR rfl)).2.2.2.1;have g4:=(ak (pJ.o.fR rfl)).2.2.2.2.1;have g5:=(ak (pJ.o.fR rfl)).2.2.2.2.2.1;have g6:=(ak (pJ.o.fR rfl)).2.2.2.2.2.2.1;have g7:=(ak (pJ.o.fR rfl)).2.2.2.2.2.2.2;obtain⟨f0,f1,f2,f3,f4,f5,f6,f7⟩:=xf8 (pJ.o.fR rfl);clear hbr));all_goals
     go_wp2_with fail;refine Qae (v:= .tuple #[.agg #[xI xk,xS xf,xS xn,xS xm,xI xt,xI xo,xS xe,xS xz],xB b]) (by simp[results,results115,go_sem,g0,g1,g2,g3,g4,g5,g6,g7]) rfl ⟨_,rfl,(show OA _ _ _ from⟨⟨xk,xf,xn,xm,⟨xt,xo⟩,xe,xz⟩,b,HD.o.2.1,KJ.o,rfl⟩),?_⟩;exact eS pJ.o.1 (by show w.heap.size<=w.heap.size+1+1;omega)
   clear k0 k1 k2 k3 k4 k5 k6 k7;obtain rfl|rfl|rfl|rfl|rfl|rfl:p=1\/p=2\/p=3\/p=4\/p=5\/p=6:=by omega
   all_goals
    obtain⟨k0,k1,k2,k3,k4,k5,k6,k7⟩:=ak HC.o.1;obtain⟨y0,y1,y2,y3,y4,y5,y6,y7⟩:=xf8 HC.o.1;go_wp2;go_meet
   .exact⟨_,af (cg1 HC.o HX.o FC.o HT.o uE F4)⟩
   .exact⟨_,af (cg2 HC.o HX.o FC.o HT.o uE F4)⟩
   .exact⟨_,af (cg3 HC.o HX.o FC.o HT.o uE F4)⟩
   .exact⟨_,af (cg4 HC.o HX.o FC.o HT.o uE F4)⟩
   .exact⟨_,af (cg5 HC.o HX.o FC.o HT.o uE F4)⟩
   .exact⟨_,af (cg6 HC.o HX.o FC.o HT.o uE F4)⟩
def OD:∀s∈lO,s.data.toList∈names9:=by decide
def lA(h:iO c):cG c:=⟨h.1,λf hf=>OD _ (h.2.2.1 f hf),(gX _ h.2.2.2).2⟩
def BF(n:Int)(fv cv:an):Obj:=xK #[xI n,fv,cv] 141
def Dq {l:List fD}(h:ab M w cv l){x:fD}(hx:l[k]? =some x):∃b off cap,cv=xL (some ⟨b,off,none⟩) l.length cap/\b<w.heap.size/\(I6 x.kind/\I6 x.field/\I6 x.name/\I6 x.more/\I6 x.type.kind/\I6 x.type.of/\I6 x.expr/\I6 x.other)/\∀W,aq w W->bt W b (off+k*8) (xI x.kind)/\bt W b (off+k*8+1) (xI x.field)/\bt W b (off+k*8+2) (xI x.name)/\bt W b (off+k*8+3) (xI x.more)/\bt W b (off+k*8+4) (xI x.type.kind)/\bt W b (off+k*8+5) (xI x.type.of)/\bt W b (off+k*8+6) (xI x.expr)/\bt W b (off+k*8+7) (xI x.other):=by
 obtain⟨a,cap,rfl,hl,_,hc⟩:=h.open_;have hk:=(Qad.1 hx).1;obtain⟨b,off,rfl,_,hb,aL⟩:=hc (by omega);obtain⟨cs,⟨rfl,hi⟩,bJ⟩:=aL k x hx;refine⟨b,off,cap,rfl,hb,hi,λW hB=> ?_⟩;have g:∀j u,([xI x.kind,xI x.field,xI x.name,xI x.more,xI x.type.kind,xI x.type.of,xI x.expr,xI x.other]:List an)[j]? =some u->bt W b (off+k*8+j) u:=λj u hu=>(hB.cell (p:=⟨b,off+k*8+j,none⟩) hb).trans (bJ j u hu);exact⟨g 0 _ rfl,g 1 _ rfl,g 2 _ rfl,g 3 _ rfl,g 4 _ rfl,g 5 _ rfl,g 6 _ rfl,g 7 _ rfl⟩
def rA(M:aN)(w:aj)(K:Nat):Nat->Prop:=λi=>ew M w 2 i\/i=K
structure xp(M:aN)(w w1:aj)(o0 o1:Obj)(c:ax)(fv:an)(K k n:Nat)(a:fA)(cap:Nat)(chs:List aC)(d:ax)(wr:aj):Prop where
 cok:cY c chs d
 len:chs.length=n
 le:n<=k
 blk:wr.heap[K]? =some (cI c.name fv (xL a n cap))
 acc:aK (rA M w K) (K+1) 51 wr (xL a n cap) chs
 fs0:ab (ew M w 2) w1 fv c.fields
 low:Below K w1 wr
 kw:K=w1.heap.size
 bx:Bx w [o0,o1] wr
 hK:w.heap.size+2<=K
theorem xp.below {n:Nat}{chs:List aC}(h:xp M w w1 o0 o1 c fv K k n a cap chs d wr)(hb:aq wr wx):xp M w w1 o0 o1 c fv K k n a cap chs d wx:=
 ⟨h.cok,h.len,h.le,(hb.block K (Qaa.1 h.blk).1).trans h.blk,h.acc.below hb,h.fs0,h.low.trans (hb.mono (by have:=(Qaa.1 h.blk).1;omega)),h.kw,h.bx.below hb,h.hK⟩
theorem xp.fs {n:Nat}{chs:List aC}(h:xp M w w1 o0 o1 c fv K k n a cap chs d wr):ab (rA M w K) wr fv c.fields:=
 h.fs0.ev ⟨ai.ao (by rw[<-h.kw];exact h.low),λi hi=>hi.imp_right λe=>by rw[e,h.kw];exact bN⟩
theorem xp.next {n:Nat}{chs:List aC}(h:xp M w w1 o0 o1 c fv K k n a cap chs d wr):xp M w w1 o0 o1 c fv K (k+1) n a cap chs d wr:=
 ⟨h.cok,h.len,Nat.le_succ_of_le h.le,h.blk,h.acc,h.fs0,h.low,h.kw,h.bx,h.hK⟩
def ud(hM:Bd M w)(hK:w.heap.size+2<=K):∀i,rA M w K i->i<K+1:=λi hi=>by
 rcases hi with(hi|hi)|hi
 .have:=hM i hi;omega
 .omega
 .omega
structure GU(d:ax)(x:aC)(ok:Bool)(wr:aj)(K5:Nat)(wx:aj):Prop where
 blk:wx.heap[K5]? =some (tA x)
 gen:iR d x
 ok:iZ d x=ok
 below:aq wr wx
 hK:wr.heap.size<=K5
def BG {k:Int}{f n m:aM}{ok:Bool}(h1:Hd (iR d ⟨k,f,n,m,⟨tk,tf⟩,s1,s2⟩))(h2:Hd (iZ d ⟨k,f,n,m,⟨tk,tf⟩,s1,s2⟩=ok))(hj:aq wr w'):GU d ⟨k,f,n,m,⟨tk,tf⟩,s1,s2⟩ ok wr w'.heap.size (w'.alloc (xK #[xI k,xS f,xS n,xS m,xI tk,xI tf,xS s1,xS s2] 51)):=
 ⟨Qbh w' _,h1.o,h2.o,hj.alloc hj.size _,hj.size⟩
def GV {k:Int}{f n m:aM}{ok:Bool}{x0 x1 x2 x3 x4 x5 x6 x7:an}(h1:Hd (iR d ⟨k,f,n,m,⟨tk,tf⟩,s1,s2⟩))(h2:Hd (iZ d ⟨k,f,n,m,⟨tk,tf⟩,s1,s2⟩=ok))(hj:aq wr w')(hk:w'.heap[K]? =some (xK #[x0,x1,x2,x3,x4,x5,x6,x7] 51)/\wr.heap.size<=K):
 GU d ⟨k,f,n,m,⟨tk,tf⟩,s1,s2⟩ ok wr K ((((((((w'.setCell ⟨K,0,none⟩ (xI k)).setCell ⟨K,1,none⟩ (xS f)).setCell ⟨K,2,none⟩ (xS n)).setCell ⟨K,3,none⟩ (xS m)).setCell ⟨K,4,none⟩ (xI tk)).setCell ⟨K,5,none⟩ (xI tf)).setCell ⟨K,6,none⟩ (xS s1)).setCell ⟨K,7,none⟩ (xS s2)):=
 ⟨jo hk.1 _ _ _ _ _ _ _ _,h1.o,h2.o,eS hj hk.2,hk.2⟩
def Dr {t:aT}(h:oO c t s):s.size<=maxLen:=by
 rcases h with h|⟨x,hx⟩
 .have h0:s.size=0:=by rw[<-bq,h];rfl
  rw[h0];exact Qbf _
 .have h1:=hx.parse;unfold ee at h1;split at h1
  .cases h1
  .split at h1
   .split at h1
    .rename_i hh;have:=hh.1;rw[bq]at this;unfold maxLen;omega
    .cases h1
   .cases h1
def Ls {k:Int}{f n m:aM}(h:iR d ⟨k,f,n,m,⟨tk,tf⟩,s1,s2⟩)(M:aN)(w:aj):au.rep (α:=aC) M w [xI k,xS f,xS n,xS m,xI tk,xI tf,xS s1,xS s2] ⟨k,f,n,m,⟨tk,tf⟩,s1,s2⟩:=
 ⟨rfl,h.pre.s1,h.pre.s2,h.pre.s3,Dr h.expr,Dr h.other⟩
abbrev LnS(w:aj)(b off k K:Nat)(r:fD)(cv fv lv:an)(nm:aM)(w':aj):Prop:=w'.cell? ⟨w.heap.size,2,none⟩=some cv/\w'.cell? ⟨b,off+k*8,none⟩=some (xI r.kind)/\w'.cell? ⟨b,off+k*8+1,none⟩=some (xI r.field)/\w'.cell? ⟨b,off+k*8+2,none⟩=some (xI r.name)/\w'.cell? ⟨b,off+k*8+3,none⟩=some (xI r.more)/\w'.cell? ⟨b,off+k*8+4,none⟩=some (xI r.type.kind)/\w'.cell? ⟨b,off+k*8+5,none⟩=some (xI r.type.of)/\w'.cell? ⟨b,off+k*8+6,none⟩=some (xI r.expr)/\w'.cell? ⟨b,off+k*8+7,none⟩=some (xI r.other)/\w'.cell? ⟨K,0,none⟩=some (xS nm)/\w'.cell? ⟨K,1,none⟩=some fv/\w'.cell? ⟨K,2,none⟩=some lv
def Lt(x:gW)(UC:I6 x.cls.name)(M:aN)(w:aj)(hM:Bd M w)(fv cv:an)(cq:ab M w fv x.cls.fields)(bJ:ab M w cv x.changes):
 xG 48 #[.agg #[xI x.cls.name,fv,cv]] w λv w'=>∃l:aH,dZ l/\iO l.first/\ct M w' v l:=by
 obtain⟨i0,ed,ej,dO,er⟩:=info_parts uS;have iL:=af cq;have zf:Hd (∀k r,x.changes[k]? =some r->_):=λk r h=>Dq bJ h;have WS:Hd (∀W,Bx w [BF x.cls.name fv cv,cI ⟨#[]⟩ (xL none 0 0) (xL none 0 0)] W->_):=λW hB=>nt (ew M w 2) W (dN hM hB.bF) x.cls fv (iL.o.ev (dF hB.1)) UC;obtain⟨fa,fc,rfl,Jq,M9,_⟩:=cq.open_;obtain⟨ca,cc,rfl,WJ,WK,_⟩:=bJ.open_;clear cq bJ;obtain⟨⟨xn,xfs⟩,UD⟩:=x;dsimp only at*;go_enter func48,ntmps48;go_wp2_with fail;refine(WS.o _ (Bx.dq w _ _)).mono ?_;rintro e w1⟨_,rfl,⟨c,Jr,_,⟨_,rfl,⟨fv1,rfl,bI,_⟩⟩⟩,aF⟩;obtain⟨ya,yc,rfl,_⟩:=bI.open_;have aY:=af ((Bx.dq w (BF xn (xL fa xfs.length fc) (xL ca UD.length cc)) (cI ⟨#[]⟩ (xL none 0 0) (xL none 0 0))).below aF);have UE:=af Jr;have gp:=af bI;have s1:=aY.o.bF;simp only[Qcc,Qcd]at s1;clear bI Jr aF;go_wp2_with fail;obtain⟨nm,yP⟩:=c;dsimp only at*;obtain⟨K,hK⟩:=bS (w1.heap.size);have gM:Hd (xp M w w1 (BF xn (xL fa xfs.length fc) (xL ca UD.length cc)) (cI ⟨#[]⟩ (xL none 0 0) (xL none 0 0)) ⟨nm,yP⟩ (xL ya yP.length yc) K 0 0 none 0 [] ⟨nm,yP⟩ (w1.alloc (xK #[xS nm,xL ya yP.length yc,xL none 0 0] 72))):=⟨.nil _,rfl,bN,by rw[hK];exact Qbh w1 _,aK.nil _ _ _ _,gp.o,dQ.alloc (Nat.le_of_eq hK) _,hK,aY.o.alloc _,by omega⟩;rw[<-hK];obtain⟨W1,bT⟩:=bS (w1.alloc (xK #[xS nm,xL ya yP.length yc,xL none 0 0] 72));rw[<-bT]at gM⊢;clear bT hK aY gp;go_loopg [4,5,6]5(λg iv _ _ wr=>∃(k n cap:Nat)(a:fA)(chs:List aC)(d:ax),k<=UD.length/\k<=5/\g=5-k/\iv=xI k/\Hd (xp M w w1 (BF xn (xL fa xfs.length fc) (xL ca UD.length cc)) (cI ⟨#[]⟩ (xL none 0 0) (xL none 0 0)) ⟨nm,yP⟩ (xL ya yP.length yc) K k n a cap chs d wr));case atStart=>exact⟨0,0,0,none,[],_,Qbf _,by omega,rfl,rfl,gM⟩
 case round=>
  obtain⟨k,n,cap,a,chs,d,hk,Yb,rfl,rfl,HS⟩:=hrel;obtain⟨l0,l1,l2⟩:=aD (HS.o.bx.bG rfl);obtain⟨o0,o1,o2⟩:=aD HS.o.blk;have Tr:K<wr.heap.size:=(Qaa.1 HS.o.blk).1;have WT:=HS.o.hK;have qgz:w.heap.size≠K:=by omega
  have qdf:w.heap.size+1≠K:=by omega
  have pH:Hd (∀W',W'=((wr.setCell ⟨w.heap.size+1,0,none⟩ (xS nm)).setCell ⟨w.heap.size+1,1,none⟩ (xL ya yP.length yc)).setCell ⟨w.heap.size+1,2,none⟩ (xL a n cap)->(∃l:aH,dZ l/\iO l.first/\ct M W' (.agg #[xS nm,xL ya yP.length yc,xL a n cap]) l)/\aq w W'):=λW' gU=>by
   have hle:=HS.o.le;have Nl:=HS.o.len;have E:Ev (rA M w K) wr M W':=by
    rw[gU];exact(((Ev.dD wr λi hi=> .inl (.inl hi)).setCell (.inl (.inl (.inr ⟨by simp,by simp⟩))) _).setCell (.inl (.inl (.inr ⟨by simp,by simp⟩))) _).setCell (.inl (.inl (.inr ⟨by simp,by simp⟩))) _
   refine⟨⟨⟨⟨nm,yP⟩,chs⟩,⟨lA UE.o,by show chs.length<=12;omega,d,HS.o.cok⟩,UE.o,_,rfl,_,_,rfl,HS.o.fs.ev E,?_,cF (gX _ UE.o.2.2.2).2⟩,?_⟩
   .exact(HS.o.acc.slice (ud hM WT)).ev E
   .rw[gU];exact((HS.o.bx.1.setCell (by simp) _).setCell (by simp) _).setCell (by simp) _
  by_cases bu:k<UD.length
  .by_cases Wo:k<5
   .obtain⟨r,hr⟩:=eB UD k bu;obtain⟨b,off,ig,vN,cR,hI,ay⟩:=zf.o k r hr;obtain⟨rfl,rfl⟩:=iB vN;have Wf:Hd (cG d):=HS.o.cok.ok (lA UE.o);have HD8:Hd (d.fields.length<=8):=((dY _).1 Wf.o.right).2.1;have HDN:Hd (d.name=nm):=HS.o.cok.name;have nJ:Hd (∀W,aq wr W->Bd (rA M w K) W):=λW hb i hi=>by have:=ud hM WT i hi;have:=hb.size;omega
    have hn5:chs.length<=12:=by have:=HS.o.le;have:=HS.o.len;omega
    have HNW:Hd (∀W,aq wr W->xC 116 #[.agg #[xS nm,xL ya yP.length yc,xL a n cap]] W (cg W λv w'=>∃jA,v= .agg #[xS nm,jA]/\ab (rA M w K) w' jA d.fields)):=λW hb=>Lp ⟨⟨nm,yP⟩,chs⟩ d (lA UE.o) HS.o.cok hn5 (rA M w K) W (nJ.o W hb) (xL ya yP.length yc) (xL a n cap) (HS.o.fs.below hb) ((HS.o.acc.slice (ud hM WT)).below hb);have HCH:Hd (∀W jA,aq wr W->ab (rA M w K) W jA d.fields->xC 115 #[.agg #[xI r.kind,xI r.field,xI r.name,xI r.more,xI r.type.kind,xI r.type.of,xI r.expr,xI r.other], .agg #[xS nm,jA]] W (cg W (OA d))):=λW jA hb hs=>by
     have h:=Dp r hI d Wf.o (rA M w K) W (nJ.o W hb) jA hs HD8.o (λf hf=>wX (Wf.o.names f hf));rw[HDN.o]at h;exact h
    have rB:Hd (∀W',aq wr W'->LnS w b off k K r (xL (some ⟨b,off,none⟩) UD.length cc) (xL ya yP.length yc) (xL a n cap) nm W'):=λW' hb=>by
     obtain⟨q0,q1,q2,q3,q4,q5,q6,q7⟩:=ay W' (HS.o.bx.below hb).1;obtain⟨_,_,l2⟩:=aD ((HS.o.bx.below hb).bG rfl);obtain⟨o0,o1,o2⟩:=aD ((hb.block K Tr).trans HS.o.blk);exact⟨l2,q0,q1,q2,q3,q4,q5,q6,q7,o0,o1,o2⟩
    obtain⟨c0,c1,c2,c3,c4,c5,c6,c7,c8,c9,c10,c11⟩:=rB.o wr dQ;have HJ:Hd (aq wr wr):=dQ;clear hr vN ay hI;obtain⟨rk,rf,rn,rm,⟨tk,tf⟩,rx,ro⟩:=r;dsimp only at*;go_upto_region 5 with fail;go_cut [5,6](λs5 s6 wx=>∃(K5:Nat)(x:aC)(ok:Bool),s5=xP K5/\s6=xB ok/\Hd (GU d x ok wr K5 wx));case first=>
     go_region_held3(λw'=>w'.cell? ⟨w.heap.size,2,none⟩=some (xL (some ⟨b,off,none⟩) UD.length cc)/\w'.cell? ⟨b,off+k*8,none⟩=some (xI rk)/\w'.cell? ⟨b,off+k*8+1,none⟩=some (xI rf)/\w'.cell? ⟨b,off+k*8+2,none⟩=some (xI rn)/\w'.cell? ⟨b,off+k*8+3,none⟩=some (xI rm)/\w'.cell? ⟨b,off+k*8+4,none⟩=some (xI tk)/\w'.cell? ⟨b,off+k*8+5,none⟩=some (xI tf)/\w'.cell? ⟨b,off+k*8+6,none⟩=some (xI rx)/\w'.cell? ⟨b,off+k*8+7,none⟩=some (xI ro)/\w'.cell? ⟨K,0,none⟩=some (xS nm)/\w'.cell? ⟨K,1,none⟩=some (xL ya yP.length yc)/\w'.cell? ⟨K,2,none⟩=some (xL a n cap))
      (with_reducible first|exact rB.o _ HJ.o|exact rB.o _ HJ.o.drew|exact rB.o _ (HJ.o.alloc HJ.o.size _)|exact rB.o _ ((HJ.o.alloc HJ.o.size _).drew)|exact rB.o _ fx.o|exact rB.o _ fx.o.drew|exact rB.o _ (fx.o.alloc fx.o.size _)|exact rB.o _ ((fx.o.alloc fx.o.size _).drew)|exact rB.o _ dE.o|exact rB.o _ dE.o.drew|exact rB.o _ (dE.o.alloc dE.o.size _)|exact rB.o _ ((dE.o.alloc dE.o.size _).drew)|exact rB.o _ (eS dE.o mS.o.2))
      (first
        |(go_at_call 116;with_reducible refine(HNW.o _ (by with_reducible first|exact HJ.o|exact HJ.o.drew|exact HJ.o.alloc HJ.o.size _|exact(HJ.o.alloc HJ.o.size _).drew)).mono ?_
          rintro e wa⟨_,rfl,⟨jA,rfl,bI⟩,hb⟩;have HZL:=af bI;clear bI;try(with_reducible(have CB:=af (JT HJ.o hb)))
          try(with_reducible(have CB:=af (JU HJ.o hb)))
          have fx:Hd (aq wr wa):=(by with_reducible first|exact af (Vf HJ.o hb)|exact af (trB HJ.o hb)|exact af (trC HJ.o hb)|exact af (trD HJ.o hb));clear hb)
        |(go_at_call 115;with_reducible refine(HCH.o _ _ (by with_reducible first|exact fx.o|exact fx.o.drew|exact fx.o.alloc fx.o.size _|exact(fx.o.alloc fx.o.size _).drew) (by with_reducible first|exact HZL.o|exact HZL.o.below bM)).mono ?_
          rintro e wb⟨_,rfl,⟨⟨xk,xf,Ts,xm,⟨xt,xo⟩,xe,xz⟩,ok,qao,zd,rfl⟩,hb⟩;have qap:=af qao;have qaq:=af zd;clear qao zd;try(with_reducible(have mS:=af (Sm CB.o hb)))
          try(with_reducible(have mS:=af (JT fx.o hb)))
          try(with_reducible(have mS:=af (JU fx.o hb)))
          try with_reducible have k0:=(ak mS.o.1).1
          try with_reducible have k1:=(ak mS.o.1).2.1
          try with_reducible have k2:=(ak mS.o.1).2.2.1
          try with_reducible have k3:=(ak mS.o.1).2.2.2.1
          try with_reducible have k4:=(ak mS.o.1).2.2.2.2.1
          try with_reducible have k5:=(ak mS.o.1).2.2.2.2.2.1
          try with_reducible have k6:=(ak mS.o.1).2.2.2.2.2.2.1
          try with_reducible have k7:=(ak mS.o.1).2.2.2.2.2.2.2
          try with_reducible have y0:=ag mS.o.1 0
          try with_reducible have y1:=ag mS.o.1 1
          try with_reducible have y2:=ag mS.o.1 2
          try with_reducible have y3:=ag mS.o.1 3
          try with_reducible have y4:=ag mS.o.1 4
          try with_reducible have y5:=ag mS.o.1 5
          try with_reducible have y6:=ag mS.o.1 6
          try with_reducible have y7:=ag mS.o.1 7
          have dE:Hd (aq wr wb):=(by with_reducible first|exact af (Vf fx.o hb)|exact af (trB fx.o hb)|exact af (trC fx.o hb)|exact af (trD fx.o hb));clear hb));all_goals(go_wp2;go_meet)
     .refine⟨_,⟨xk,xf,Ts,xm,⟨xt,xo⟩,xe,xz⟩,ok,rfl,rfl,?_⟩;exact af (BG qap qaq dE.o)
     all_goals
      refine⟨_,⟨xk,xf,Ts,xm,⟨xt,xo⟩,xe,xz⟩,ok,rfl,rfl,?_⟩;exact af (GV qap qaq dE.o mS.o)
    case rest=>
     obtain⟨K5,x,ok,rfl,rfl,HD⟩:=hcut;obtain⟨wx,FB⟩:=bS (wc);subst FB;clear c0 c1 c2 c3 c4 c5 c6 c7 c8 c9 c10 c11 l0 l1 l2 o0 o1 o2;have gE:=af (HS.o.below HD.o.below);have qg0:=HD.o.hK;have KI:K5<wx.heap.size:=(Qaa.1 HD.o.blk).1;obtain⟨o0,o1,o2⟩:=aD gE.o.blk;have f2:=ag gE.o.blk 2;cases ok with
     |false=>
      go_wp2;go_roundg(5-(k+1));case measure=>omega
      case rel=>exact⟨k+1,n,cap,a,chs,d,by omega,by omega,rfl,by go_num,(gE.o.next)⟩
     |true=>
      obtain⟨⟨xk,xf,Ts,xm,⟨xt,xo⟩,xe,xz⟩,hx⟩:∃y,y=x:=⟨x,rfl⟩;subst hx;obtain⟨m0,m1,m2,m3,m4,m5,m6,m7⟩:=ak HD.o.blk;have j7:=af gE.o.len;have eX:Hd (au.rep (α:=aC) (bg (xL a n cap) (rA M w K)) (wx.alloc (xK #[xI xk,xS xf,xS Ts,xS xm,xI xt,xI xo,xS xe,xS xz] 51)) [xI xk,xS xf,xS Ts,xS xm,xI xt,xI xo,xS xe,xS xz] ⟨xk,xf,Ts,xm,⟨xt,xo⟩,xe,xz⟩):=Ls HD.o.gen _ _;have qg1:n<=5:=by have:=gE.o.le;omega
      have hKx:K<wx.heap.size:=by omega
      go_wp2_with(at_builtin;refine aW (α:=aC) rfl _ _ _ rfl (rA M w K) (K+1) 51 i0 _ 104 underlying70 ed ej dO er rfl (by decide) (.slice a n cap) chs rfl (gE.o.acc.alloc _) (λ_=>True) _ _ ⟨xk,xf,Ts,xm,⟨xt,xo⟩,xe,xz⟩ rfl (cD _ _ _ _ rfl trivial) eX.o (by rw[j7.o];unfold maxLen;omega) (by rw[j7.o];omega) (by simp;omega) ?_;rw[j7.o];intro a2 c2 w2 bj dz bC;have dh:=af bj;have qg2:=af dz;have aQ:=af bC;have jC:Hd (bR w2 K (cI nm (xL ya yP.length yc) (xL a n cap))):=(bC.block K (by omega)).trans ((Qcb wx _ K hKx).trans gE.o.blk);have p2:=(aD jC.o).2.2;have g2:=ag jC.o 2;clear bj dz bC);go_roundg(5-(k+1));case measure=>omega
      case rel=>
       refine⟨k+1,n+1,c2,a2,chs++[⟨xk,xf,Ts,xm,⟨xt,xo⟩,xe,xz⟩],bZ d ⟨xk,xf,Ts,xm,⟨xt,xo⟩,xe,xz⟩,by omega,by omega,rfl,by go_num,?_⟩;refine(show xp _ _ _ _ _ _ _ _ _ _ _ _ _ _ _ from⟨gE.o.cok.snoc HD.o.gen HD.o.ok,by simp[j7.o],by have:=gE.o.le;omega,?_,?_,?_,?_,?_,?_,WT⟩)
       .have:=Qca w2 K 2 _ _ (xL a2 (n+1) c2) jC.o;simpa [cI]using this
       .exact dh.o.vz (p:=⟨K,2,none⟩) (.inr rfl) (by show K<K+1;omega) _
       .exact gE.o.fs0
       .exact(((gE.o.low.alloc (by omega) _).trans (aQ.o.mono (by omega))).setCell (Qab K) _)
       .exact gE.o.kw
       .exact((gE.o.bx.alloc _).du aQ.o (by simp;omega)).du (B:=K) (dQ.setCell (Qab K) _) (by simp;omega)
   .obtain⟨r0,r1,r2⟩:=aD (HS.o.bx.bU rfl);obtain⟨g0,g1⟩:=mV (HS.o.bx.bU rfl);have g2:=ag (HS.o.bx.bU rfl) 2;go_wp2_with fail;exact Qae (v:= .agg #[xS nm,xL ya yP.length yc,xL a n cap]) (by simp[results,results48,go_sem,r0,r1,r2]) rfl ⟨_,rfl,pH.o _ rfl⟩
  .obtain⟨r0,r1,r2⟩:=aD (HS.o.bx.bU rfl);obtain⟨g0,g1⟩:=mV (HS.o.bx.bU rfl);have g2:=ag (HS.o.bx.bU rfl) 2;go_wp2_with fail;exact Qae (v:= .agg #[xS nm,xL ya yP.length yc,xL a n cap]) (by simp[results,results48,go_sem,r0,r1,r2]) rfl ⟨_,rfl,pH.o _ rfl⟩
end Go.Proofs.YtepaofffbkfodaaGreatDoor
