/- OpNews: the call gives true for every input. No condition. -/
import Derived.Test.YtepaofffbkfodaaGreatDoorM18
import Derived.Test.YtepaofffbkfodaaGreatDoorM34
set_option linter.all false
set_option maxHeartbeats 8000000
set_option maxRecDepth 100000
namespace Go.Proofs.YtepaofffbkfodaaGreatDoor
open Go.Proofs.Tryz
variable{s:aY}{ls:List aQ}{j i g m:Nat}{w W w0 wr w2:ax}{M:aV}
section
open Go.RowKit Go.Shelf
section
variable {x:oh}{M:aV}{z:Nat}{p:qH}{W W':ax}{sv dv kv sv' dv':aA}{ls':List aQ}{ds':List ec}
theorem kT.Y9(h:kT x M z p W)(ha:FE M z p)(h4:aS (nh M p) z 9 W kv x.reads)(h5:fV (bu kv (nh M p)) W p.mo x.aP)(o:ao (λi=>i=p.T) W W')(hc:W'.heap[p.T]? =some (qhe p sv' x.next x.news x.made dv' kv))(h2:ab (bu kv (nh M p)) W' sv' ls')(h3:Ca (bu kv (nh M p)) W' dv' ds'):
 kT {x with jR:=ls',defs:=ds'} M z p W'/\ao (yR p z) W W':=by
 obtain⟨⟨n1,n2,n3,n4,n5,n6⟩,-⟩:=ha.ne;have hzW:=h.low;have hb:∀i,kS p i->i≠p.T->W'.heap[i]? =W.heap[i]? :=λi hi hne=>o.block i (by have:=ha.lt i hi;omega) hne;have E:Ev (bu kv (nh M p)) W (bu kv (nh M p)) W':=⟨o.mono λi hi=> .inl (.inr (.inl hi)),λi hi=> .inl hi⟩;have hT:=ha.lt p.T (.inl rfl);have a7:=h4.pA o (λi hi=> .inr (.inl hi)) (λg hg he=>by have h1:=(h4.cG g hg).1;have h2:g=p.T:=he;omega);exact⟨⟨⟨sv',dv',kv,hc,h2,h3,a7,h5.ev E (hb p.mo (by unfold kS;simp) (λe=>n2 e.symm))⟩,h.reach.same (hb p.rb (by unfold kS;simp) (λe=>n1 e.symm)),h.aF.ev (hb p.mr (by unfold kS;simp) (λe=>n4 e.symm)),(hb p.ms (by unfold kS;simp) (λe=>n5 e.symm)).trans h.snaps,h.seen.same (hb p.sb (by unfold kS;simp) (λe=>n6 e.symm)),Qcg h.low o.size⟩,o.mono λi hi=> .inl (.inl hi)⟩
end
def PV(p:qH)(sv kv:aA)(nx nw md:Int)(W:ax)(hT:bW W p.T (qhe p sv nx nw md () kv))(K:aV)(hK:Bd K W)(hKT:K p.T)(r:ec)(lv:aA)(hl:ab K W lv [r]):
 xC 146 #[xP p.T,lv] W λe w'=>e=xR (.tuple #[])/\∃dv',w'.heap[p.T]? =some (qhe p sv nx nw md dv' kv)/\ab K w' dv' [r]/\ao (λi=>i=p.T) W w':=by
 have⟨i0,hi0,hz0,hz1,hz2⟩:=info_parts tX;have CL:=ag hT;have HKB:=ag hK;have HPL:Hd (p.T<W):=(Qaa.1 hT).1;obtain⟨css,hcr,hcl,hrep⟩:=hl;obtain⟨cs,rfl⟩:∃cs,css=[cs]:=by
  match css,hcl with
  |[cs],_=>exact⟨cs,rfl⟩
 have hr:=hrep 0 cs r rfl rfl;have HRP:=ag hr;have TG:=ag (show ct (λi=>¬K i) W (aD.size ec) lv 1 cs by simpa using hcr);obtain⟨-,c11⟩:True/\bJ W p.T 11 ():=⟨trivial,(dJ hT).2.2.2.2.2.2.2.2.1⟩;have f11:=aj hT 11;clear hT hK hcr hrep hr hcl;go_enter func146,ntmps146;go_wp2_with(at_builtin;refine bo (α:=ec) rfl _ _ _ rfl K W 75 i0 _ 232 underlying55 hi0 hz0 hz1 hz2 rfl (by decide) (.slice none 0 0) [] rfl (aS.nil _ _ _ _) (λi=>¬K i) lv cs r rfl TG.o (aD.ev HRP.o (Ev.dL W λi hi=>hi.elim id λh=>by cases h)) (by unfold maxLen;simp) (by simp) bT ?_;intro a2 c2 w1 hacc vK hb;have HA:=ag hacc;have HB:Hd (aC W w1):=hb;have g11:=(hb.cell (p:=⟨p.T,11,none⟩) HPL.o).trans c11;have q11:=aj ((hb.block _ HPL.o).trans CL.o) 11;clear hacc vK hb);refine bodyPost_end (results_none rfl _ _ _) rfl ⟨rfl,xL a2 1 c2,?_,?_,?_⟩
 .have:=Qca w1 p.T 11 _ _ (xL a2 1 c2) ((HB.o.block _ HPL.o).trans CL.o);simpa [qhe]using this
 .exact(HA.o.slice λi hi=>HKB.o i hi).ev ⟨((ao.refl (λi=>i=p.T) w1).setCell (.inl rfl) _).mono λi hi=>(by rw[show i=p.T from hi];exact hKT),λi hi=> .inl hi⟩
 .exact(ao.az (S:=λi=>i=p.T) HB.o).setCell (p:=⟨p.T,11,none⟩) (.inl rfl) _
def E5(n:Int)(c:aI):ec:=⟨3,⟨0,0,0,[]⟩,n,0,(),c,Pv⟩
def Mv(v:aA):Obj:=xK #[v] 31
def DfA(W:ax)(o:Obj)(K:aV)(g:Nat)(v:aA)(ls:List aQ)(wx:ax):Prop:=Bx W [o] wx/\W<g/\wx.heap[g]? =some (Mv v)/\ab K wx v ls
def ID(t:oh)(M:aV)(z:Nat)(p:qH)(ha:FE M z p)(W:ax)(h:kT t M z p W)(hg:Gd W)(vO:dF t.jR)(nm:aY)(f:aH)(hok:E4 t.jR ⟨nm,[f]⟩)(hnm:nm.size<=maxLen)(hfn:f.ai.size<=maxLen)(hd:t.defs=[])(Bc:t.reads.length<=1000)(df:aA)(hdf:ab (allM M p z) W df [f]):
 xC 69 #[xP p.T,yr 5 0 () () () nm df] W λe w'=>e=xR (.tuple #[])/\(∃t',oh.tV {t with jR:=t.jR++[⟨⟨nm,[f]⟩,[]⟩],defs:=[E5 t.jR.length ⟨nm,[f]⟩]} ⟨#[115]⟩ t'/\kT t' M z p w')/\ao (yR p z) W w':=by
 have⟨i0,hi0,hz0,hz1,hz2⟩:=info_parts gu;have h':=h;have⟨sv,dv,kv,h1,h2,h3,h4,h5⟩:=h'.st;obtain rfl:=h3.2 hd;have hbk:=h.bd ha h4;have⟨K,hK⟩:=bY (bu kv (nh M p));have hKT:K p.T:=by rw[hK];exact .inl (.inr (.inl rfl))
 have hKA:∀i,K i->allM M p z i:=λi hi=>by
  rw[hK]at hi;rcases hi with(hi|hi)|hi
  .exact .inl hi
  .exact .inr (.inl hi)
  .exact .inr (.inr (h4.cG i hi).1)
 have hdK:ab K W df [f]:=hdf.ev (Ev.dL W hKA);have hdO:=hdK.aq;rw[<-hK]at h2 hbk;have XB:Hd (∀V,aC W V->xC 85 #[.agg #[sv], .agg #[nm,df]] V λe w'=>∃a c,e=xR (.tuple #[.agg #[xL a (t.jR.length+1) c],xI 0])/\ab (Ex K W V) w' (xL a (t.jR.length+1) c) (t.jR++[⟨⟨nm,[f]⟩,[]⟩])/\aC V w'):=λV hb=>JW t.jR vO ⟨nm,[f]⟩ hok hnm (Ex K W V) V (Pf hbk hb bT) (hg.tb.ae hb) sv df (h2.ev (tT _ hb)) (hdK.ev (tT _ hb));have S6:Hd (∀W' sv' dv',ao (λi=>i=p.T) W W'->W'.heap[p.T]? =some (qhe p sv' t.next t.news t.made dv' kv)->ab K W' sv' (t.jR++[⟨⟨nm,[f]⟩,[]⟩])->ab K W' dv' [E5 t.jR.length ⟨nm,[f]⟩]->kT {t with jR:=t.jR++[⟨⟨nm,[f]⟩,[]⟩],defs:=[E5 t.jR.length ⟨nm,[f]⟩]} M z p W'/\ao (yR p z) W W'):=λW' sv' dv' o hc hs hd'=>by
  rw[hK]at hs hd';exact h.Y9 ha h4 h5 o hc hs ⟨hd',λe=>by cases e⟩
 have MH:Hd (∀V b off c,kT {t with jR:=t.jR++[⟨⟨nm,[f]⟩,[]⟩],defs:=[E5 t.jR.length ⟨nm,[f]⟩]} M z p V->bJ V b off (xS ⟨#[115]⟩)->_):=λV b off c hT hc=>JP _ M z p ha V hT ⟨#[115]⟩ b off c hc Bc;have sZ:Hd (∀V lv,bW V p.T (qhe p sv t.next t.news t.made () kv)->Bd K V->ab K V lv [E5 t.jR.length ⟨nm,[f]⟩]->_):=λV lv h1 h2 h3=>PV p sv kv t.next t.news t.made V h1 K h2 hKT _ lv h3;have HX:=ag (Bx.eI W (gU 5 0 () () () nm df));have CL:Hd (∀V,aC W V->bW V p.T (qhe p sv t.next t.news t.made () kv)):=λV hb=>(hb.block _ (Qaa.1 h1).1).trans h1;have HKB:=ag hbk;have HKT:=ag hKT;obtain⟨fss,hcr,hcl,hrep⟩:=hdK;obtain⟨fcs,rfl⟩:∃cs,fss=[cs]:=by
  match fss,hcl with
  |[cs],_=>exact⟨cs,rfl⟩
 have MO:Hd (aD.rep K W fcs f):=hrep 0 fcs f rfl rfl;have Ng:=ag (show ct (λi=>¬K i) W (aD.size aH) df 1 fcs by simpa using hcr);have qg2:=vO.len;have A9:=ag hfn;have qW:=ag hnm;have Kh:=ag tU;have HPL:Hd (p.T<W):=(Qaa.1 h1).1;obtain⟨sa,sc,rfl,-⟩:=h2.aq;obtain⟨da,dc,rfl,-⟩:=hdO;clear hcr hcl hrep h h' h1 h2 h3 h4 h5 hbk hdf hKA hKT hK ha hg vO hok hnm hfn hd Bc;dsimp only[List.length_cons,List.length_nil,Nat.reduceAdd]at*;generalize t.jR.length=sn at*;generalize t.next=nx at*;generalize t.news=nw at*;generalize t.made=md at*;go_enter func69,ntmps69;go_upto_region 1 with fail;have⟨W1,hW1⟩:=bY (W.alloc (gU 5 0 () () () nm (xL da 1 dc)));rw[<-hW1]at HX;unfold gU at hW1;rw[<-hW1];clear hW1;have Cy:=ag (show W.heap.size<W1 by have:=HX.o.bQ;simp at this;omega);have s9:=(bM (HX.o.bO rfl)).c9;have TM:=(bM (HX.o.bO rfl)).c10;have t0:=(dJ (CL.o _ HX.o.1)).1;have s9a:=λo=>bR W1 o _ s9;have qg3:=λo=>bR W1 o _ TM;have t0a:=λo=>bR W1 o _ t0;have Zh:Hd (aC W W1):=HX.o.1;have HXA:Hd (∀o,aC W (W1.alloc o)):=λo=>HX.o.1.alloc HX.o.1.size o;go_cut [4,5](λs4 s5 wx=>∃g a c,s4=xP g/\s5=xI 0/\Hd (DfA W (gU 5 0 () () () nm (xL da 1 dc)) K g (xL a (sn+1) c) (t.jR++[⟨⟨nm,[f]⟩,[]⟩]) wx));case first=>
  go_region_law(first
   |(go_simp;go_at_call 85;refine(XB.o _ (by with_reducible first|exact Zh.o.drew|exact HXA.o _|exact(HXA.o _).drew)).mono ?_;rintro e w2⟨a2,c2,rfl,hs2,bE⟩;have gn:=ag hs2;have bg:=ag bE;try
      have z2:=(bE.block W1 (by show W1.heap.size<(W1.alloc _).heap.size;simp)).trans (show(W1.alloc (xK #[()] 31)).heap[W1.heap.size]? =_ from Qbh W1 _);have z20:=one_cell z2;have z2f:=aj z2 0;have yV:=ag z2;clear z2
     clear hs2 bE)
   |fail);all_goals(go_wp2;go_meet)
  all_goals
   have hz:=bg.o.size;have hz1:=Cy.o;first
   |exact⟨_,_,_,rfl,rfl,ag (show DfA _ _ _ _ _ _ _ from by
     have hb:aC W1 w2:=(Qbg _ W1).drew.trans bg.o;refine⟨(HX.o.ae hb).alloc _,by show W.heap.size<w2;have:W1.heap.size<=w2:=hz;omega,Qbh w2 _,(gn.o.ev (Ev.dL _ λi hi=> .inl hi)).ae bU⟩)⟩
   |exact⟨_,_,_,rfl,rfl,ag (show DfA _ _ _ _ _ _ _ from by
     have hb:Below (W1.alloc (xK #[()] 31)).heap.size (W1.alloc (xK #[()] 31)) w2:=(Qbg _ (W1.alloc (xK #[()] 31))).drew.trans bg.o;have o2:ao (λi=>i=W1) w2 (w2.setCell (W1,0) (xL a2 (sn+1) c2)):=(ao.refl (λi=>i=W1) w2).setCell (.inl rfl) _;refine⟨((HX.o.alloc _).ae hb).only o2 (λj hj=>by have hj:j=W1:=hj;simp;omega),hz1,?_,gn.o.ev ⟨o2.mono λi hi=> .inr ⟨by have hi:i=W1:=hi;omega,by have hi:i=W1:=hi;rw[hi];show W1.heap.size<(W1.alloc _).heap.size;simp⟩,λi hi=> .inl (.inl hi)⟩⟩;have:=Qca w2 W1 0 _ _ (xL a2 (sn+1) c2) yV.o;simpa [Mv]using this)⟩
 case rest=>
  obtain⟨g,Uo,Up,rfl,rfl,HD⟩:=hcut;rename World=>W2;clear s9 TM t0 s9a qg3 t0a;go_wp2_with fail;refine(Kh.o _).mono ?_;rintro e w3⟨rfl,rfl⟩;have s9:=(bM (HD.o.1.bO rfl)).c9;have TM:=(bM (HD.o.1.bO rfl)).c10;go_upto_region 4 with fail;have⟨W3,hW3⟩:=bY (w3.alloc (xK #[nm,xL da 1 dc] 47));have bV:=ag (show aC w3 W3 by rw[hW3];exact bU);have um:=ag (show dk W3 w3 (xK #[nm,xL da 1 dc] 47)by rw[hW3];exact Qbh w3 _);rw[<-hW3];clear hW3 s9 TM;have ky:=ag (HD.o.1.ae bV.o);have TM:=(bM (ky.o.bO rfl)).c10;have Uh:Hd (W.heap.size+1<=w3):=HD.o.1.bQ;go_cut [6](λs6 wx=>s6=xP w3/\∃a4 c4,Hd (aC w3 wx/\dk wx w3 (xK #[nm,xL a4 1 c4] 47)/\ab K wx (xL a4 1 c4) [f]));case first=>
   go_wp2_with(at_builtin;refine bo (α:=aH) rfl _ _ _ rfl (Ex K W W3) W3 60 i0 _ 40 underlying45 hi0 hz0 hz1 hz2 rfl (by decide) (.slice none 0 0) [] rfl (aS.nil _ _ _ _) (λi=>¬Ex K W W3 i) (.slice da 1 dc) fcs f rfl (Ng.o.ev (tT _ ky.o.1)) (aD.ev MO.o ⟨ao.az ky.o.1,λi hi=>(hi.elim id λh=>by cases h).imp_right λh=>h.1⟩) (by unfold maxLen;simp) (by simp) bT ?_;intro a4 c4 w4 hacc vK eA;have HA4:=ag hacc;have ek:Hd (aC W3 w4):=eA;have k1:=(ak ((ek.o.block _ (Qaa.1 um.o).1).trans um.o)).2;have q1:=aj ((ek.o.block _ (Qaa.1 um.o).1).trans um.o) 1;clear hacc vK eA);go_meet;have⟨W5,hW5⟩:=bY (w4.setCell (w3,1) (xL a4 1 c4));have Uq:Hd (dk w4 w3 (xK #[nm,xL da 1 dc] 47)):=(ek.o.block _ (Qaa.1 um.o).1).trans um.o;have Cx:=ag (show dk W5 w3 (xK #[nm,xL a4 1 c4] 47)by
    rw[hW5];have:=Qca w4 w3 1 _ _ (xL a4 1 c4) Uq.o;simpa using this);have Cm:=ag (show ao (λi=>i=w3) w4 W5 by rw[hW5];exact(ao.refl (λi=>i=w3) w4).setCell (.inl rfl) _);have iU:=ag (show aC w3 W5 by
    rw[hW5];exact(bV.o.trans (ek.o.mono bV.o.size)).setCell bT _);have V1:Hd (w3.heap.size<W3):=(Qaa.1 um.o).1;have ZV:=ag (show ab K W5 (xL a4 1 c4) [f]by
    have h1:=HA4.o.slice (λi hi=>by
     have:=Uh.o;have:=V1.o;rcases hi with hi|hi
     .have:=HKB.o i hi;omega
     .exact hi.2);exact h1.ev ⟨Cm.o.mono λi hi=> .inr (by have hi:i=w3:=hi;have:=Uh.o;have:=V1.o;omega),λi hi=> .inl (.inl hi)⟩);rw[<-hW5];exact⟨rfl,_,_,ag ⟨iU.o,Cx.o,ZV.o⟩⟩
  case rest=>
   obtain⟨rfl,a4,c4,H5⟩:=hcut;rename World=>W5;have iU:Hd (aC w3 W5):=H5.o.1;have Cx:Hd (dk W5 w3 (xK #[nm,xL a4 1 c4] 47)):=H5.o.2.1;have ZV:Hd (ab K W5 (xL a4 1 c4) [f]):=H5.o.2.2;clear TM H5;have lE:=ag (HD.o.1.ae iU.o);have XE:Hd (bW W5 g (Mv (xL Uo (sn+1) Up))/\g<w3):=⟨(iU.o.block g (Qaa.1 HD.o.2.2.1).1).trans HD.o.2.2.1,(Qaa.1 HD.o.2.2.1).1⟩;have S4:=ag (HD.o.2.2.2.ae iU.o);have g0:bJ W5 g 0 (xL Uo (sn+1) Up):=by have h:=XE.o.1;unfold Mv at h;exact one_cell h
   have⟨k0,k1⟩:=ak Cx.o;have sU:∀(n:Int)(W:ax),(Instr.build 75 #[(0,xI 3),(2,xI n),(5, .agg #[nm,xL a4 1 c4])]).run prog W= .ok (.agg #[xI 3,xI 0,xI 0,xI 0,(),xI n,xI 0,"",nm,xL a4 1 c4,xI 0,"","","",xI 0,xI 0,"",""]) W:=λn W=>run_build W _ _ _ (by kernel_rfl);have ZJ:((sn:Int)+1-1)=sn:=by omega
   iterate 28 go_step
   have⟨W6,hW6⟩:=bY (W5.alloc (xK #[xI 3,xI 0,xI 0,xI 0,(),sn,xI 0,"",nm,xL a4 1 c4,xI 0,"","","",xI 0,xI 0,"",""] 75));have kE:=ag (show aC W5 W6 by rw[hW6];exact bU);have HR6:=ag (show ab K W6 (xL (W5,0) 1 1) [E5 sn ⟨nm,[f]⟩]by
    have hk:dk W6 W5 (lL (E5 sn ⟨nm,[f]⟩) () (xL a4 1 c4)):=by rw[hW6];exact Qbh W5 _
    refine⟨[vE (E5 sn ⟨nm,[f]⟩) () (xL a4 1 c4)],fT hk 18 1 (by omega) rfl (λh=>by have:=HKB.o _ h;have:=Uh.o;have:=iU.o.size;omega),rfl,λi cs x hc hx=> ?_⟩;cases i with
    |succ i=>simp at hx
    |zero=>
     simp only[List.getElem?_cons_zero,Qcf]at hc hx;subst hc;subst hx;exact⟨_,_,rfl,ab.nil _ _,ZV.o.ae kE.o,Qbf _,qW.o⟩);rw[<-hW6];clear hW6 sU g0 k0 k1 ZJ;have yT:=ag (lE.o.ae kE.o);have qe4:Hd (Bd K W6):=λi hi=>Qde (HKB.o i hi) yT.o.1.size;have HT6:=ag (sZ.o W6 _ (CL.o W6 yT.o.1) qe4.o HR6.o);go_step;go_at_call 146;refine HT6.o.mono ?_;rintro e w7⟨rfl,dv',hc7,hd7,ho7⟩;have X2:=ag hc7;have HD7:=ag hd7;have Zi:=ag ho7;have HG7:=ag (show bW w7 g (Mv (xL Uo (sn+1) Up))from
    (ho7.block g (by have:=XE.o.2;have:=iU.o.size;have:=kE.o.size;omega) (by have:=HD.o.2.1;have:=HPL.o;omega)).trans ((kE.o.block g (by have:=XE.o.2;have:=iU.o.size;omega)).trans XE.o.1));have hV7:ab K w7 (xL Uo (sn+1) Up) (t.jR++[⟨⟨nm,[f]⟩,[]⟩]):=(S4.o.ae kE.o).ev ⟨ho7.mono λi hi=>(by rw[show i=p.T from hi];exact HKT.o),λi hi=> .inl hi⟩;have Wu:=ag hV7;have g0:bJ w7 g 0 (xL Uo (sn+1) Up):=by have h:=HG7.o;unfold Mv at h;exact one_cell h
   have x0:=(dJ hc7).1;have y0:=aj hc7 0;clear hc7 hd7 ho7 hV7;go_upto_region 7 with fail;have⟨W8,hW8⟩:=bY (w7.setCell (p.T,0) (xL Uo (sn+1) Up));have HO8:=ag (show ao (λi=>i=p.T) w7 W8 by rw[hW8];exact(ao.refl (λi=>i=p.T) w7).setCell (.inl rfl) _);have Ra:=ag (show bW W8 p.T (qhe p (xL Uo (sn+1) Up) nx nw md dv' kv)by
    rw[hW8];have:=Qca w7 p.T 0 _ _ (xL Uo (sn+1) Up) X2.o;simpa [qhe]using this);have hE8:Ev K w7 K W8:=⟨HO8.o.mono λi hi=>(by rw[show i=p.T from hi];exact HKT.o),λi hi=> .inl hi⟩;have HT8:=ag (S6.o W8 _ dv' (((ao.az yT.o.1).trans Zi.o).trans HO8.o) Ra.o (Wu.o.ev hE8) (HD7.o.ev hE8));rw[<-hW8];clear hW8 hE8 g0 x0 y0;go_wp2_with fail;have M3:∀o,(W8.alloc (xK #[xS ⟨#[115]⟩] o)).cell? (W8,0)=some (xS ⟨#[115]⟩):=λo=>one_cell (Qbh W8 _);refine(MH.o _ _ 0 _ (HT8.o.1.ae bU) (M3 _)).mono ?_;rintro e w9⟨rfl,⟨t',h1,h2⟩,h3⟩;have HE:=ag (And.intro h1 (And.intro h2 h3));clear h1 h2 h3 M3;go_wp2_with fail;refine bodyPost_end (results_none rfl _ _ _) rfl ⟨rfl,⟨t',HE.o.1,HE.o.2.1⟩,?_⟩;exact(HT8.o.2.trans (ao.az bU)).trans HE.o.2.2
def JY:aI:=⟨dH,[⟨⟨#[110,101,120,116]⟩,⟨3,0⟩,false⟩]⟩
def ub:aQ:=⟨JY,[]⟩
abbrev qJ:aY:=⟨#[114,105,110,103]⟩
def mY:aM qJ=true/\qJ.size<=20:=by decide+kernel
def ud:aX JY=true:=by decide+kernel
def Vs:ee ub:=⟨⟨ud,λf hf=>by rw[Qea.1 hf];decide+kernel,by decide⟩,by simp[ub],_, .nil _⟩
def vm(m i:Nat):Nat:=(i+1)%m
def PX(n:Int):aJ:= .mk 3 n () []
def JZ(x:aW)(m i:Nat):bF:=⟨x.next+(i:Nat),x.aK.length,0,[PX (x.next+(vm m i:Nat))]⟩
def fH(x:aW)(m j:Nat):List bF:=(List.range j).map (JZ x m)
def Nc(x:aW)(m j:Nat):aW:=⟨x.aK++[ub],x.aP++fH x m j,x.aF,x.next+(j:Nat)⟩
def kU(x:aW)(m:Nat):aW:=⟨x.aK++[ub],x.aP++fH x m m,mh x.aF ⟨qJ,x.next⟩,x.next+(m:Nat)⟩
def QT(x:aW):ec:=⟨3,⟨0,0,0,[]⟩,x.aK.length,0,(),JY,Pv⟩
def Tx(x:aW):lA:=⟨QT x,by show 1<=(3:Int)/\(3:Int)<=3;omega⟩
structure qhk(x:aW)(m:Nat):Prop where
 wr:gx x
 len:x.aK.length<=4
 nm:∀l∈x.aK,l.au.ai≠dH
 next:x.next<=1000
 aP:x.aP.length<=100
 aF:x.aF.length<=100
 m0:1<=m
 m9:m<=9
def yC(h:∀l∈ls,l.au.ai≠s):dx ls s= -1:=kW (p:=λl:aQ=>cq l.au.ai s) λl hl=>wP (h l hl)
section
variable {x:aW}{m:Nat}
theorem qhk.jR(h:qhk x m):dF (x.aK++[ub]):=h.wr.jR.snoc Vs (by have:=h.len;omega) (by rw[show dx x.aK ub.au.ai= -1 from yC h.nm];omega)
theorem qhk.add(h:qhk x m):E4 x.aK JY:=⟨ud,yC h.nm,by have:=h.len;omega⟩
theorem qhk.lt(h:qhk x m)(i:Nat):vm m i<m:=Nat.mod_lt _ h.m0
theorem qhk.aZ(h:qhk x m)(i:Nat):bA (aT ub ub.aw.length).ah 100000 [PX (x.next+(vm m i:Nat))]:=⟨rfl,λj f v hf hv=>by
 cases j with
 |zero=>
  have hf:some _=some f:=hf;have hv:some (PX _)=some v:=hv;simp at hf hv;subst hf;subst hv;have h1:=h.lt i;have h2:=h.wr.next;have h3:=h.next;have h4:=h.m9;exact .inr ⟨by decide, .inr (.inr ⟨.inl rfl, .inr ⟨_,rfl,by omega,by omega⟩⟩)⟩
 |succ j=>simp at hv⟩
theorem qhk.kD(h:qhk x m)(i:Nat):iR (x.aK++[ub]) 100000 (JZ x m i) x.aK.length 0 ub where
 cL:=rfl
 cQ:=rfl
 line:=by simp
 le:=Qbf _
 aZ:=h.aZ i
def ue(x:aW)(m j:Nat):fH x m (j+1)=fH x m j++[JZ x m j]:=by simp[fH,List.range_succ]
def E6(x:aW)(m j:Nat):(fH x m j).length=j:=by simp[fH]
def pG {x:aW}{m:Nat}{o:bF}:o∈fH x m j↔∃i,i<j/\JZ x m i=o:=by simp[fH]
def AZ {l:List bF}{o:bF}(h:∀p∈l,p.id<o.id):mg l o=l++[o]:=by
 have h1:l.filter (λp=>decide (p.id<o.id))=l:=List.filter_eq_self.2 λp hp=>by simpa using h p hp
 have h2:l.filter (λp=>decide (o.id<p.id))=[]:=List.filter_eq_nil_iff.2 λp hp=>by have:=h p hp;simp;omega
 unfold mg;rw[h1,h2]
theorem qhk.Ty(h:qhk x m){o:bF}(ho:o∈x.aP):1<=o.id/\o.id<x.next:=by
 have⟨i,hi⟩:=Qdg ho;exact⟨(h.wr.aP i o hi).1,(h.wr.aP i o hi).2.1⟩
theorem qhk.IF(h:qhk x m)(j:Nat):∀p∈x.aP++fH x m j,p.id<x.next+(j:Nat):=λp hp=>by
 rcases Qch.1 hp with hp|hp
 .have:=(h.Ty hp).2;omega
 .obtain⟨i,hi,rfl⟩:=pG.1 hp;show x.next+(i:Nat)<_;omega
theorem fW.append {a b c:aW}{l k:List ec}(h:fW a l b)(h2:fW b k c):fW a (l++k) c:=by
 induction h with
 |nil=>exact h2
 |cons h1 _ ih=>exact .cons h1 (ih h2)
theorem qhk.Za(h:qhk x m):∀j,j<=m->fW (Nc x m 0) ((fH x m j).map pE) (Nc x m j)
 |0,_=>fW.nil _
 |j+1,hj=>by
  have hn:=h.wr.next;have h1:=h.next;have h2:=h.m9;rw[ue,List.map_append];refine(h.Za j (by omega)).append ?_;have hd:=EN (x:=Nc x m j) (r:=pE (JZ x m j)) h.jR rfl (h.kD j) ⟨by show 1<=x.next+(j:Nat);omega,by show x.next+(j:Nat)<=100000;omega⟩ ⟨by show 1<=x.next+(j:Nat);omega,by show x.next+(j:Nat)<=100001;omega⟩;have e:(⟨(Nc x m j).aK,mg (Nc x m j).aP (JZ x m j),(Nc x m j).aF,yh (Nc x m j).next ((JZ x m j).id+1)⟩:aW)=Nc x m (j+1):=by
   have e1:mg (x.aP++fH x m j) (JZ x m j)=x.aP++fH x m (j+1):=by
    rw[AZ (h.IF j),ue,List.append_assoc]
   have e2:yh (x.next+(j:Nat)) (x.next+(j:Nat)+1)=x.next+((j+1:Nat):Nat):=by unfold yh;split<;>omega
   unfold Nc;rw[<-e1,<-e2];rfl
  exact fW.cons (e▸hd) (fW.nil _)
theorem qhk.all(h:qhk x m):fW x ((nM [Tx x] (fH x m m) [⟨qJ,x.next⟩]).map Subtype.val) (kU x m):=by
 have hn:=h.wr.next;have h1:=h.next;have e:(nM [Tx x] (fH x m m) [⟨qJ,x.next⟩]).map Subtype.val=QT x::((fH x m m).map pE++[kC ⟨qJ,x.next⟩]):=by
  unfold nM;rw[List.map_append,List.map_append,List.map_map];rfl
 rw[e];have hc:=IE (x:=x) (r:=QT x) h.wr.jR rfl rfl h.add (by show dH.size<=maxLen;decide);have e0:(⟨x.aK++[⟨(QT x).cL,[]⟩],x.aP,x.aF,x.next⟩:aW)=Nc x m 0:=by
  unfold Nc;rw[show fH x m 0=[]from rfl,List.append_nil];simp[QT,ub]
 rw[e0]at hc;refine fW.cons hc ((h.Za m bT).append ?_);exact fW.cons (AO (x:=Nc x m m) (r:=kC ⟨qJ,x.next⟩) rfl ⟨mY.1,by have:=mY.2;unfold maxLen;show qJ.size<=_;omega⟩ ⟨by show 1<=x.next;omega,by show x.next<=100000;omega⟩) (fW.nil _)
theorem qhk.nI(h:qhk x m):(cA (kU x m).aP).Pairwise (·< ·):=by
 show(cA (x.aP++fH x m m)).Pairwise _;have hr:=h.wr.nI;unfold cA at hr⊢;rw[List.map_append,List.pairwise_append];refine⟨hr,?_,λa ha b hb=> ?_⟩
 .unfold fH;rw[List.map_map,List.pairwise_map];exact List.pairwise_lt_range.imp λ{a b}hab=>by show x.next+(a:Nat)<x.next+(b:Nat);omega
 .obtain⟨o,ho,rfl⟩:=Qdh.1 ha;obtain⟨p,hp,rfl⟩:=Qdh.1 hb;obtain⟨i,hi,rfl⟩:=pG.1 hp;have:=(h.Ty ho).2;show _<x.next+(i:Nat);omega
theorem qhk.Tp(h:qhk x m){n:Int}(hn:n<x.next):de (kU x m) n=de x n:=by
 have e:iS (kU x m).aP n=iS x.aP n:=by
  show iS (x.aP++fH x m m) n=_;unfold iS;rw[List.find?_append];have h2:(fH x m m).find? (λo=>decide (o.id=n))=none:=List.find?_eq_none.2 λo ho=>by
   obtain⟨i,hi,rfl⟩:=pG.1 ho;have:¬(JZ x m i).id=n:=by show¬x.next+(i:Nat)=n;omega
   simpa using this
  rw[h2,Option.or_none]
 unfold de;rw[e];cases ho:iS x.aP n with
 |none=>rfl
 |some o=>
  have⟨h1,h2⟩:=(LH h.wr.nI).1 ho;have⟨i,hi⟩:=Qdg h1;obtain⟨-,-,k,v,l,hk⟩:=h.wr.aP i o hi;have hl:=(Qad.1 hk.line).1;have hc:o.cL.toNat<x.aK.length:=by rw[hk.cL];omega
  show(match(x.aK++[ub])[o.cL.toNat]? with|none=>[]|some l=>refsOf l o.cQ.toNat o.aZ)=_;rw[Qbc hc];rfl
theorem qhk.at_(h:qhk x m)(hi:i<m):(kU x m).aP[x.aP.length+i]? =some (JZ x m i):=by
 show(x.aP++fH x m m)[x.aP.length+i]? =_;rw[Qbd (by omega)];simp[fH,hi]
theorem qhk.new(h:qhk x m)(hi:i<m):de (kU x m) (x.next+(i:Nat))=[x.next+(vm m i:Nat)]:=by
 have ho:=xW h.nI (h.at_ hi);have ho:iS (kU x m).aP (x.next+(i:Nat))=some (JZ x m i):=ho;unfold de;rw[ho];show(match(x.aK++[ub])[((x.aK.length:Nat):Int).toNat]? with|none=>[]|some l=>refsOf l (0:Int).toNat [PX (x.next+(vm m i:Nat))])=_;rw[show((x.aK.length:Nat):Int).toNat=x.aK.length by omega,Qbd bT,Nat.sub_self];rfl
theorem qhk.o(h:qhk x m){n:Int}(hn:x.next+(m:Nat)<=n):de (kU x m) n=[]:=by
 have e:iS (kU x m).aP n=none:=Hk λhm=>by
  obtain⟨o,ho,rfl⟩:=Qdh.1 hm;have:=h.IF m o ho;omega
 unfold de;rw[e]
theorem qhk.Tz(h:qhk x m)(hi:i<m):x.next+(i:Nat)∈cA (kU x m).aP:=Qdh.2 ⟨_,Qaf (h.at_ hi),rfl⟩
theorem qhk.TA {n:Int}(hn:n∈cA x.aP):n∈cA (kU x m).aP:=by
 show n∈cA (x.aP++fH x m m);unfold cA at hn⊢;rw[List.map_append];exact List.mem_append_left _ hn
theorem qhk.ok(h:qhk x m):gx (kU x m)where
 jR:=h.jR
 len:=by
  show(x.aP++fH x m m).length<=500;have:=h.aP;have:=h.m9;rw[Qda,E6];omega
 aP:=λi o ho=>by
  have h1:=h.wr.next;have ho2:o∈x.aP++fH x m m:=Qaf ho;rcases Qch.1 ho2 with hm|hm
  .have⟨j,hj⟩:=Qdg hm;have⟨h2,h3,k,v,l,hk⟩:=h.wr.aP j o hj;refine⟨h2,by show o.id<x.next+(m:Nat);omega,k,v,l,hk.cL,hk.cQ,?_,hk.le,hk.aZ⟩;show(x.aK++[ub])[k]? =some l;rw[Qbc (Qad.1 hk.line).1];exact hk.line
  .obtain⟨j,hj,rfl⟩:=pG.1 hm;exact⟨by show 1<=x.next+(j:Nat);omega,by show x.next+(j:Nat)<x.next+(m:Nat);omega,_,_,_,h.kD j⟩
 nI:=h.nI
 refs:=λn y hy=>by
  by_cases hn:n<x.next
  .rw[h.Tp hn]at hy;exact qhk.TA (h.wr.refs n y hy)
  .by_cases hn2:x.next+(m:Nat)<=n
   .rw[h.o hn2]at hy;cases hy
   .obtain⟨i,rfl⟩:∃i:Nat,n=x.next+(i:Nat):=⟨(n-x.next).toNat,by omega⟩;rw[h.new (by omega),Qea]at hy;rw[hy];exact h.Tz (h.lt i)
 rlen:=by
  have h1:=h.aF;show(mh x.aF ⟨qJ,x.next⟩).length<=500;unfold mh;rw[Qda,Qcc];have h2:=List.length_filter_le (λp:bj=>eP p.ai qJ) x.aF;have h3:=List.length_filter_le (λp:bj=>eP qJ p.ai) x.aF;show(x.aF.filter (λp=>eP p.ai qJ)).length+((x.aF.filter (λp=>eP qJ p.ai)).length+1)<=500;omega
 aF:=λr hr=>by
  rcases ji.1 hr with⟨h1,_⟩|rfl
  .exact qhk.TA (h.wr.aF r h1)
  .have:=h.Tz (i:=0) h.m0;simpa using this
 mL:=λr hr=>by
  rcases ji.1 hr with⟨h1,_⟩|rfl
  .exact h.wr.mL r h1
  .exact mY
 uK:=λi r s h1 h2=>(LI h.wr.x9 _).less h1 h2
 next:=by
  have:=h.wr.next;have:=h.next;have:=h.m9;exact⟨by show 1<=x.next+(m:Nat);omega,by show x.next+(m:Nat)<=100001;omega⟩
theorem qhk.sorted(h:qhk x m):(nM [Tx x] (fH x m m) [⟨qJ,x.next⟩]).Pairwise (λa b=>zu (tW a.1) (tW b.1)=true):=by
 unfold nM;rw[List.pairwise_append,List.pairwise_append];refine⟨⟨List.pairwise_singleton _ _,?_,λa ha b hb=> ?_⟩,List.pairwise_singleton _ _,λa ha b hb=> ?_⟩
 .unfold fH;rw[List.map_map,List.pairwise_map];refine List.pairwise_lt_range.imp λ{a b}hab=> ?_;rw[qh];exact .inr ⟨rfl, .inl (by show x.next+(a:Nat)<x.next+(b:Nat);omega)⟩
 .rw[Qea.1 ha];obtain⟨o,ho,rfl⟩:=Qdh.1 hb;rw[qh];exact .inl (show(1:Int)<3 by decide)
 .rw[Qea.1 hb,qh];rcases Qch.1 ha with ha|ha
  .rw[Qea.1 ha];exact .inl (show(1:Int)<4 by decide)
  .obtain⟨o,ho,rfl⟩:=Qdh.1 ha;exact .inl (show(3:Int)<4 by decide)
theorem qhk.rch(h:qhk x m):∀i,i<m->Mk.D9 (cE (kU x m)) (de (kU x m)) (x.next+(i:Nat))
 |0,_=> .root _ (by
    show x.next+((0:Nat):Int)∈(mh x.aF ⟨qJ,x.next⟩).map bj.id;exact Qdh.2 ⟨⟨qJ,x.next⟩,ji.2 (.inr rfl),by simp⟩)
 |i+1,hi=> .step _ _ (h.rch i (by omega)) (by
   rw[h.new (by omega),Qea];unfold vm;rw[Nat.mod_eq_of_lt hi])
theorem qhk.count(h:qhk x m){L:List Int}(hr:Mk.LB L)(hL:∀n,n∈L↔Mk.D9 (cE (kU x m)) (de (kU x m)) n):(L.filter (λn=>decide (x.next<=n))).length=m:=by
 have hp:(L.filter (λn=>decide (x.next<=n))).Perm ((List.range m).map λi=>x.next+(i:Nat)):=by
  refine(List.perm_ext_iff_of_nodup ?_ ?_).2 λn=>⟨λhn=> ?_,λhn=> ?_⟩
  .exact(hr.imp (λ{a b}h e=>by omega)).filter _
  .unfold List.Nodup;rw[List.pairwise_map];exact List.pairwise_lt_range.imp λ{a b}hab e=>by omega
  .have⟨h1,h2⟩:=List.mem_filter.1 hn;have h2:x.next<=n:=by simpa using h2
   obtain⟨o,ho,rfl⟩:=Qdh.1 (h.ok.closed.RW ((hL n).1 h1));have h3:=h.IF m o ho;exact Qdh.2 ⟨(o.id-x.next).toNat,List.mem_range.2 (by omega),by omega⟩
  .obtain⟨i,hi,rfl⟩:=Qdh.1 hn;exact List.mem_filter.2 ⟨(hL _).2 (h.rch i (List.mem_range.1 hi)),by simp;omega⟩
 rw[hp.length_eq];simp
theorem qhk.late(h:qhk x m)(hi:i<m){o:bF}(hl:il (kU x m) (x.aP.length+i) o):o.aZ=[PX (x.next+(vm m i:Nat))]/\o.id=x.next+(i:Nat):=by
 obtain⟨o0,k,v,l,us,h1,h2,h3,rfl⟩:=hl;rw[h.at_ hi]at h1;cases h1;obtain rfl:k=x.aK.length:=by have:((x.aK.length:Nat):Int)=k:=h2.cL;omega
 obtain rfl:l=ub:=by
  have hl:(x.aK++[ub])[x.aK.length]? =some l:=h2.line;simpa using hl.symm
 obtain⟨k1,k2⟩:=h3;have e0:ub.aw.drop v=[]:=by simp[ub]
 have e1:aT ub v=JY:=by simp[aT,nW,ub]
 rw[e0,e1]at k1 k2;have k2:us.map (cr 3)=[[x.next+(vm m i:Nat)]]:=k2;match us,k1.1,k2 with
 |[u],_,k2=>
  refine⟨?_,rfl⟩;have hn:cr 3 u=[x.next+(vm m i:Nat)]:=by simpa using k2
  have hu:=k1.2 0 _ u rfl rfl;rcases hu with⟨h5,_⟩|⟨_,⟨h1,_⟩|⟨h1,_⟩|⟨_,rfl|⟨j,rfl,_⟩⟩⟩
  .exact absurd h5 (by decide)
  .exact absurd h1 (by decide)
  .exact absurd h1 (by decide)
  .simp[cr,aJ.an,aJ.list]at hn
  .have:j=x.next+(vm m i:Nat):=by simpa [cr,aJ.an,aJ.num]using hn
   show [aJ.mk 3 j ow []]=[aJ.mk 3 _ () []];rw[this];rfl
end
abbrev rgF:aA:= .agg #[xS ⟨#[110,101,120,116]⟩,xI 3,xI 0,false]
def zx(M:aV)(w:ax)(df:aA)(h:ab M w df JY.ah):xC 177 #[df,df] w (cu true w):=by
 have heq:∀w,(Op.equal 60 rgF rgF).run prog w= .ok true w:=λw=>by kernel_rfl
 unfold rgF at heq;have⟨b,off,cap,hv,hb,hcells⟩:=oQ h (k:=0) rfl;have⟨g0,g1,g2,g3⟩:=hcells w dS;dsimp only[JY,List.length_cons,List.length_nil]at hv g0 g1 g2 g3;subst hv;simp only[Nat.zero_mul,Nat.add_zero]at g0 g1 g2 g3;clear h hcells;go_enter func177,ntmps177;go_wp2_with fail;refine wp_loop_rounds 2 ?_;rw[rounds_succ];go_wp2_with fail;go_quiet(fail);go_wp2_with fail;rw[rounds_succ];go_wp2;go_ret;exact⟨rfl,below_drewNv dS _⟩
def Ch(M:aV)(w:ax)(df:aA)(h:ab M w df JY.ah):xC 113 #[.agg #[dH,df], .agg #[dH,df]] w (cu true w):=by
 have HX:=ag (Bx.du w (xK #[dH,df] 47) (xK #[dH,df] 47));have iD:=ag (zx M _ df (h.ae HX.o.1));obtain⟨a,c,rfl,-⟩:=h.aq;have⟨c0,c1⟩:=ak (HX.o.bO rfl);have⟨d0,d1⟩:=ak (HX.o.cg rfl);clear h;go_enter func113,ntmps113;go_wp2_with fail;refine cC (iD.o) λw' hb=> ?_;have HB:=ag (HX.o.ae hb);clear hb;go_wp2;go_ret;exact⟨rfl,HB.o.1⟩
def E8(M:aV)(w:ax)(df:aA)(hT:Tb w)(h:ab M w df JY.ah):xC 15 #[yr 5 0 () () () dH df] w (cu true w):=by
 have WY:=gQ (w:=w) (λW hb=>qe 5 0 () () () dH df W ⟨⟨_,_,_,rfl⟩,by obtain⟨a,c,e,-⟩:=h.aq;exact⟨_,_,_,e⟩,λW _=>sK W,λW' hb'=>Ch M W' df (h.ae (hb.trans (hb'.mono hb.size)))⟩);have HR:=gQ (w:=w) (λW hb=>ff M df W JY (h.ae hb) (by show dH.size<=maxLen;decide));rw[ud]at HR;obtain⟨da,dc,rfl,-⟩:=h.aq;clear h hT;dsimp only[JY,List.length_cons,List.length_nil,Nat.zero_add]at*;have sU:∀W,(Instr.build 53 #[(6, .agg #[dH,xL da 1 dc])]).run prog W= .ok (.agg #[xI 0,xI 0,"","",xI 0,xI 0,"",(),(),dH,(xL da 1 dc),xI 0,"","","",xI 0,xI 0,"",""]) W:=λW=>run_build W _ _ _ (by kernel_rfl);have HX:=ag (Bx.du w (gU 5 0 () () () dH (xL da 1 dc)) (gU 0 0 () () () () ()));generalize dH=nR at*;go_enter func15,ntmps15;go_upto_region 2 with fail;have⟨W1,hW1⟩:=bY ((w.alloc (gU 5 0 () () () nR (xL da 1 dc))).alloc (gU 0 0 () () () () ()));rw[<-hW1]at HX;unfold gU at hW1;rw[<-hW1];clear hW1;obtain⟨a0,a1,a2,a3,-,-,-,-,a8,a9,zN,-,-,-,-,-,-,-,-⟩:=bM (HX.o.bO rfl);go_upto_region 20 with fail;iterate 10 go_step
 refine fX rfl (.tmp 3) (.tmp 76) rfl _ rfl rfl rfl rfl (HX.o.cg rfl) λW2 h2 o2=> ?_;have HY:=ag (sL HX.o h2 o2);clear h2 o2 a0 a1 a2 a3 a8 a9 zN;obtain⟨a0,a1,a2,a3,-,-,-,-,a8,a9,zN,-,-,-,-,-,-,-,-⟩:=bM (HY.o.bO rfl);go_wp2_with fail;refine cC (HR.o _ HY.o.1) λw' hb'=> ?_;have HY':=ag (HY.o.ae hb');clear hb' a0 a1 a2 a3 a8 a9 zN;have a0:=(bM (HY'.o.bO rfl)).c0;have f0:=aj (HY'.o.cg rfl) 0;have b0:=(bM (HY'.o.cg rfl)).c0;go_upto_region 30 with fail;have⟨W3,hW3⟩:=bY (w'.setCell ([w],0) (xI 5));have HZ:=ag (show Bx w [gU 5 0 () () () nR (xL da 1 dc),gU 5 0 () () () nR (xL da 1 dc)] W3 by rw[hW3];exact vY HY'.o);rw[<-hW3];clear hW3 f0 b0 a0;go_wp2_with(first|(refine dC rfl (.tmp 1) rfl w rfl (HZ.o.bO rfl) ?_)|(refine dC rfl (.tmp 3) rfl [w] rfl (HZ.o.cg rfl) ?_));refine cC (WY.o _ HZ.o.1) λw9 vu=> ?_;have HF:=ag (HZ.o.ae vu);clear vu;go_wp2;go_ret;exact⟨rfl,HF.o.1⟩
def vp:pF:=⟨5,0,(),(),[],JY⟩
def pH(m i:Nat):pF:=⟨1,0,dH,(),[PX (-1-((vm m i:Nat):Int))],⟨⟨#[]⟩,[]⟩⟩
def jm:pF:=⟨3,-1,(),qJ,[],⟨⟨#[]⟩,[]⟩⟩
def gX(m j:Nat):List pF:=vp::(List.range j).map (pH m)
def IG(m j:Nat):madeOf (gX m j++[jm])=j:=by
 have h:((List.range j).map (pH m)).filter (λo=>decide (o.an=1))=(List.range j).map (pH m):=List.filter_eq_self.2 λo ho=>by
  obtain⟨i,_,rfl⟩:=Qdh.1 ho;rfl
 unfold madeOf gX;rw[List.cons_append,List.filter_cons_of_neg (by decide),List.filter_append,h,List.filter_cons_of_neg (by decide)];simp
def er(m j:Nat):(gX m j).length=j+1:=by simp[gX]
def yD {m:Nat}{o:pF}(h:(gX m m++[jm])[i]? =some o):(i=0/\o=vp)\/(∃j,i=j+1/\j<m/\o=pH m j)\/(i=m+1/\o=jm):=by
 have hl:=(Qad.1 h).1;rw[Qda,er]at hl;simp at hl;match i,h with
 |0,h=>simp[gX]at h;exact .inl ⟨rfl,h.symm⟩
 |j+1,h=>
  by_cases hj:j<m
  .rw[Qbc (by rw[er];omega)]at h;simp[gX,hj]at h;exact .inr (.inl ⟨j,rfl,hj,h.symm⟩)
  .obtain rfl:j=m:=by omega
   rw[Qbd (by rw[er];omega),er]at h;simp at h;exact .inr (.inr ⟨rfl,h.symm⟩)
def uf {m:Nat}{o:pF}(h:o∈gX m m++[jm]):o=vp\/(∃j,j<m/\o=pH m j)\/o=jm:=by
 have⟨i,hi⟩:=Qdg h;rcases yD hi with⟨_,e⟩|⟨j,_,hj,e⟩|⟨_,e⟩
 .exact .inl e
 .exact .inr (.inl ⟨j,hj,e⟩)
 .exact .inr (.inr e)
def Sm:aY:=⟨#[115]⟩
def Zb(x:aW)(m i:Nat)(t:oh):Prop:=∃L:List Int,(∀n∈L,1<=n)/\((i=0/\t=⟨x.aK,x.next,L,(m:Nat),0,[],[],[],[]⟩)\/(∃j:Nat,i=j+1/\j<=m/\t=⟨x.aK++[ub],x.next,L,(m:Nat),(j:Nat),fH x m j,[],[QT x],[Sm]⟩)\/(i=m+2/\t=⟨x.aK++[ub],x.next,L,(m:Nat),(m:Nat),fH x m m,[⟨qJ,x.next⟩],[QT x],[Sm]⟩))
def E9(n:Int)(h1: -20<=n)(h2:n<=-1)(w:ax):xC 102 #[n] w (jt true w):=by
 have h3:¬1<=n:=by omega
 go_enter func102,ntmps102;go_wp2;go_ret;exact⟨rfl,rfl⟩
def Mx(n:Int)(h: -20<=n/\n<=-1)(M:aV)(w:ax)(u:aA)(hu:cB M w u (PX n)):xC 44 #[u] w (cu true w):=by
 obtain⟨a,cap,rfl,-⟩:=dh hu;have HR:Hd (∀W,_):=λW=>E9 n h.1 h.2 W;clear hu h;dsimp only[List.length_nil];go_enter func44,ntmps44;go_wp2_with fail;refine cC (rO _ _ _ _ _) λw1 hb1=> ?_;have⟨g0,g1,g2,g3⟩:=af (boxed hb1);have HB:=ag (bt hb1);clear hb1;go_wp2_with fail;refine dw (HR.o _) ?_;go_wp2;go_ret;exact⟨rfl,HB.o⟩
section
variable {x:aW}{m:Nat}{L:List Int}
def Vt(h:qhk x m)(hL:∀n∈L,1<=n):vg ⟨x.aK,x.next,L,(m:Nat),0,[],[],[],[]⟩ vp (Zb x m 1):=
 ⟨_, .inr (.inr (.inl ⟨rfl,rfl⟩)),λM z p W vv df hA hT hG hv hd hz=>by
   obtain rfl:=hz.1 rfl;refine(ID _ M z p hA W hT hG h.wr.jR dH ⟨⟨#[110,101,120,116]⟩,⟨3,0⟩,false⟩ h.add (by decide) (by decide) rfl (Qbf _) df hd).mono ?_;rintro e w'⟨rfl,⟨t',h1,h2⟩,h3⟩;refine⟨rfl,⟨t',⟨L,hL, .inr (.inl ⟨0,rfl,Qbf _,?_⟩)⟩,h2⟩,h3⟩;rcases h1 with⟨h1,_⟩|⟨_,rfl⟩
   .cases h1
   .rfl⟩
def Vu(h:qhk x m)(hL:∀n∈L,1<=n)(hj:j<m):vg ⟨x.aK++[ub],x.next,L,(m:Nat),(j:Nat),fH x m j,[],[QT x],[Sm]⟩ (pH m j) (Zb x m (j+2)):=
 ⟨_, .inl ⟨rfl,rfl⟩,λM z p W vv df hA hT hG hv hd hz=>by
   obtain rfl:=hz.2 rfl;have h1:=h.wr.next;have h2:=h.next;have h3:=h.m9;have h4:=h.lt j;have hat:(x.aK++[ub])[x.aK.length]? =some ub:=by simp
   refine(yA _ M z p hA W hT hG dH x.aK.length ub h.jR (h.jR.apart _ _ hat) hat 3 (-1-((vm m j:Nat):Int)) (x.next+(vm m j:Nat)) () (λ_=>⟨?_,?_,?_⟩) (λhn=>absurd (.inl rfl) hn) ⟨?_,?_⟩ (by decide) (h.aZ j) ⟨?_,?_⟩ ⟨?_,?_⟩ ?_ _ vv hv).mono ?_
   .show-((m:Nat):Int)<=_;omega
   .omega
   .show x.next+((vm m j:Nat):Int)=x.next-(-1-((vm m j:Nat):Int))-1;omega
   .show(0:Int)<=((m:Nat):Int);omega
   .show((m:Nat):Int)<=100;omega
   .show(0:Int)<=((j:Nat):Int);omega
   .show((j:Nat):Int)<=100;omega
   .show(0:Int)<=x.next;omega
   .show x.next<=200000;omega
   .show 1<=1000;decide
   .rintro e w'⟨rfl,⟨t',k1,k2⟩,k3⟩;refine⟨rfl,⟨t',⟨L,hL, .inr (.inl ⟨j+1,rfl,hj,?_⟩)⟩,k2⟩,k3⟩;have ep:mg (fH x m j) (JZ x m j)=fH x m (j+1):=by
     rw[ue];exact AZ λp hp=>by
      obtain⟨i,hi,rfl⟩:=pG.1 hp;show x.next+((i:Nat):Int)<x.next+((j:Nat):Int);omega
    rw[<-ep,show((j+1:Nat):Int)=(j:Nat)+1 by omega];rcases k1 with⟨_,rfl⟩|⟨hne,_⟩
    .rfl
    .exact absurd (Qea.2 rfl) hne⟩
def Sn(h:qhk x m)(hL:∀n∈L,1<=n):vg ⟨x.aK++[ub],x.next,L,(m:Nat),(m:Nat),fH x m m,[],[QT x],[Sm]⟩ jm (Zb x m (m+2)):=
 ⟨_, .inr (.inl ⟨rfl,rfl⟩),λM z p W vv df hA hT hG hv hd hz=>by
   obtain rfl:=hz.1 rfl;obtain rfl:=hz.2 rfl;have h1:=h.wr.next;have h2:=h.next;have h3:=h.m0;refine(EY _ M z p hA W hT (-1) qJ (λhn=>by have:=hL _ hn;omega) ⟨by decide,by decide,by show-(-1:Int)<=((m:Nat):Int);omega⟩ ⟨by show(0:Int)<=x.next;omega,by show x.next<=1000000;omega⟩).mono ?_;rintro e w'⟨rfl,k2,k3⟩;refine⟨rfl,⟨_,⟨L,hL, .inr (.inr ⟨rfl,?_⟩)⟩,k2⟩,k3⟩;have e1:x.next- -1-1=x.next:=by omega
   show(⟨_,_,_,_,_,_,mh [] ⟨qJ,x.next- -1-1⟩,_,_⟩:oh)=_;rw[e1];rfl⟩
def Vv(h:qhk x m){t:oh}(hj:Zb x m (m+2) t):Cd x t:=by
 have h3:=h.m9;obtain⟨L,hL,⟨e,_⟩|⟨j,e,hjm,_⟩|⟨_,rfl⟩⟩:=hj
 .omega
 .omega
 .exact {
   recs:=⟨[Tx x],rfl,by simp,h.sorted,kU x m,h.ok,h.all⟩
   nI:=by
    have hr:=h.nI;have e:cA (kU x m).aP=cA x.aP++cA (fH x m m):=by
     show cA (x.aP++fH x m m)=_;unfold cA;rw[List.map_append]
    rw[e]at hr;exact(List.pairwise_append.1 hr).2.1
   x9:=by simp[eN]
   mL:=λr hr=>by rw[Qea.1 hr];have:=mY.2;unfold maxLen;show qJ.size<=_;omega
   olen:=by show(fH x m m).length<=400;rw[E6];omega
   rlen:=by simp}
def PY(h:qhk x m)(hG:Gd w):∀o∈gX m m++[jm],tY M w o:=by
 intro o ho W vv df hb h1 h2 hz;have h3:=h.m9;rcases uf ho with rfl|⟨j,hj,rfl⟩|rfl
 .obtain rfl:=hz.1 rfl;exact E8 M W df (hG.tb.ae hb) h2
 .obtain rfl:=hz.2 rfl;refine qhd dH (by decide+kernel) [PX (-1-((vm m j:Nat):Int))] (λy hy=>by rw[Qea.1 hy];exact⟨_,_,_,rfl⟩) (λy hy=> ?_) (by simp) M vv W (hG.tb.ae hb) h1;rw[Qea.1 hy];intro M' w' u hu hT;have:=h.lt j;exact Mx (-1-((vm m j:Nat):Int)) ⟨by omega,by omega⟩ M' w' u hu
 .obtain rfl:=hz.1 rfl;obtain rfl:=hz.2 rfl;exact sN (-1) qJ mY.1 (.inr ⟨by decide,by decide⟩) W
def PZ(h:qhk x m)(M:aV)(w:ax)(hM:Bd M w)(hG:Gd w)(lv ov rv qv:aA)(js:ab M w lv x.aK)(kM:ab M w ov x.aP)(iM:ab M w rv x.aF)(hq:ab M w qv (gX m m++[jm])):
 xG 9 #[.agg #[lv,ov,rv,x.next],qv] w λu w'=>∃(cv kv:aA)(ks:List aY),u= .tuple #[cv,kv,xI (x.next+(m:Nat)),xI 0]/\ab M w' cv ((nM [Tx x] (fH x m m) [⟨qJ,x.next⟩]).map Subtype.val)/\ab M w' kv ks:=by
 have h1:=h.wr.next;have h2:=h.next;have h3:=h.m9;have h0:=h.m0;have yX:=IG m m;refine(PK x h.wr (gX m m++[jm]) (by rw[Qda,er];simp;omega) M w hM hG lv ov rv qv js kM iM hq (PY h hG) (.inr (by rw[yX];omega)) (λo ho=>⟨?_,?_⟩) (Zb x m) (λL hL _=>⟨L,λn hn=>(AY h.wr ((hL n).1 hn)).1, .inl ⟨rfl,by rw[yX]⟩⟩) (λi o t ho hj=> ?_) (λt hj=>Vv h (by rw[Qda,er]at hj;exact hj))).mono ?_
 .rw[yX];rcases uf ho with rfl|⟨j,hj,rfl⟩|rfl
  .exact⟨by show _<=(0:Int);omega,by decide⟩
  .exact⟨by show _<=(0:Int);omega,by show(0:Int)<=100000;decide⟩
  .exact⟨by show _<=(-1:Int);omega,by decide⟩
 .rw[yX];rcases uf ho with rfl|⟨j,hj,rfl⟩|rfl
  .exact⟨λ_ hv=>(by cases hv),λ_ hv=>(by cases hv)⟩
  .refine⟨λv hv=>(by rw[Qea.1 hv];exact⟨_,_,_,rfl⟩),λn hn=> ?_⟩;have hn:n∈[(-1-((vm m j:Nat):Int))]:=hn;rw[Qea.1 hn];have:=h.lt j;omega
  .exact⟨λ_ hv=>(by cases hv),λ_ hv=>(by cases hv)⟩
 .obtain⟨L,hL,⟨rfl,rfl⟩|⟨j,rfl,hjm,rfl⟩|⟨rfl,rfl⟩⟩:=hj
  .rcases yD ho with⟨_,rfl⟩|⟨j,e,_,_⟩|⟨e,_⟩
   .exact Vt h hL
   .omega
   .omega
  .rcases yD ho with⟨e,_⟩|⟨j',e,XW,rfl⟩|⟨e,rfl⟩
   .omega
   .obtain rfl:j=j':=by omega
    exact Vu h hL XW
   .obtain rfl:j=m:=by omega
    exact Sn h hL
  .have:=(Qad.1 ho).1;rw[Qda,er]at this;simp at this
 .rintro e w'⟨u,rfl,⟨t,ds,cv,kv,hj,hds,rfl,k1,k2⟩,hb⟩;rw[Qda,er]at hj;obtain⟨L,hL,⟨e,_⟩|⟨j,e,_,_⟩|⟨_,rfl⟩⟩:=hj
  .simp at e
  .simp at e;omega
  .have e0:ds=[Tx x]:=by
    have h:[QT x]=ds.map Subtype.val:=hds;have⟨d,hd,e⟩:=List.map_eq_singleton_iff.1 h.symm;rw[hd];exact congrArg (λz=>[z]) (Subtype.ext e)
   rw[e0]at k1;exact⟨_,rfl,⟨cv,kv,_,by rw[yX],k1,k2⟩,hb⟩
end
def P4(hG:Gd w)(lv qv:aA)(js:ab xF w lv [eF])(hq:ab xF w qv [AX 4]):
 xC 9 #[.agg #[lv,(),(),xI 5],qv] w (cm w λu w'=>u= .tuple #[(),(),xI 0,xI 101]):=
 (Ce Nb yB [AX 4] (by decide) xF w (λi hi=>hi.elim) hG lv () () qv js (ab.nil _ _) (ab.nil _ _) hq
   (λo ho=>by rw[Qea.1 ho];exact Iz ⟨by decide,by decide⟩) (.inl (by decide)) (λn=>n=101) (λi t=>i=0/\4∉t.reach)
   (.inl ⟨λo ho=>by rw[Qea.1 ho];exact⟨by decide,λ_ hv=>(by cases hv),λ_ hv=>(by cases hv)⟩,λL hL _=>⟨rfl,λh=>by
     have h1:=yB.closed.RW ((hL _).1 h);cases h1⟩⟩) (λi o t ho hj=>by
     obtain⟨rfl,hj⟩:=hj;obtain rfl:AX 4=o:=Option.some.inj ho;exact .inr ⟨101,rfl,Iy hj⟩) (λt hj=>by cases hj.1)).mono λ_ _⟨u,h1,h2,h3⟩=>⟨u,h1,h2.elim (λ⟨_,e,h⟩=>by rw[h,e]) (λ⟨_,_,_,_,h,_⟩=>by cases h.1),h3⟩
def Vw(hG:Gd w)(lv qv:aA)(js:ab xF w lv [eF])(hq:ab xF w qv [kq]):
 xC 9 #[.agg #[lv,(),(),xI 5],qv] w (cm w λu w'=>u= .tuple #[(),(),xI 0,xI 170]):=
 (Ce Nb yB [kq] (by decide) xF w (λi hi=>hi.elim) hG lv () () qv js (ab.nil _ _) (ab.nil _ _) hq
   (λo ho=>E0 hG o (List.mem_cons_of_mem _ ho)) (.inl (by decide)) (λn=>n=170) (λ_ _=>False) (.inr ⟨⟨kq,rfl,by decide,by decide⟩,rfl⟩) (λ_ _ _ _ h=>h.elim) (λ_ h=>h.elim)).mono λ_ _⟨u,h1,h2,h3⟩=>⟨u,h1,h2.elim (λ⟨_,e,h⟩=>by rw[h,e]) (λ⟨_,_,_,_,h,_⟩=>h.elim),h3⟩
def yE:Obj:=xK #[xS ⟨#[97]⟩,xI 1,xI 0,false] 60
def yF(f:Nat):Obj:=xK #[xS ⟨#[99]⟩,xL (f,0) 1 1] 47
def yG(f:Nat):Obj:=xK #[xS ⟨#[99]⟩,xL (f,0) 1 1,()] 72
def yH(g:Nat):Obj:=xK #[xL (g,0) 1 1,(),(),xI 5] 35
abbrev qhj:Obj:=xK #[xI 1,xI 3,"",()] 44
abbrev qhf(p:Nat):Obj:=xK #[xI 1,xI 0,xS ⟨#[99]⟩,xS ⟨#[]⟩,xI 0,xI 0,xS ⟨#[]⟩,xL none 0 0,xL (some ⟨p,0,none⟩) 1 1,xS ⟨#[]⟩,xL none 0 0,xI 0,xS ⟨#[]⟩,xS ⟨#[]⟩,xS ⟨#[]⟩,xI 0,xI 0,xS ⟨#[]⟩,xS ⟨#[]⟩,xI 3,xI (-1),xS ⟨#[]⟩,xS ⟨#[104,111,109,101]⟩,xI 0,xI 0,xS ⟨#[]⟩,xL none 0 0,xL none 0 0,xS ⟨#[]⟩,xL none 0 0,xI 0,xS ⟨#[]⟩,xS ⟨#[]⟩,xS ⟨#[]⟩,xI 0,xI 0,xS ⟨#[]⟩,xS ⟨#[]⟩] 53
abbrev qhi:Obj:=xK #[xI 7,xI 4,"","",xI 0,xI 0,"",(),(),"",(),xI 0,"","","",xI 0,xI 0,"",""] 53
abbrev qhh:Obj:=xK #[xI 3,xI (-1),"",xS ⟨#[104,111,109,101]⟩,xI 0,xI 0,"",(),(),"",(),xI 0,"","","",xI 0,xI 0,"",""] 53
def P5(w:ax)(hG:Gd w):xC 5 #[] w (cu true w):=by
 have hb1:∀W,(Instr.build 49 #[(0,xI 1)]).run prog W= .ok (.agg #[xI 1,xI 0]) W:=λW=>run_build W _ _ _ (by kernel_rfl);have bE:∀W,(Instr.build 60 #[(0,xS ⟨#[97]⟩),(1, .agg #[xI 1,xI 0])]).run prog W= .ok (.agg #[xS ⟨#[97]⟩,xI 1,xI 0,false]) W:=λW=>run_build W _ _ _ (by kernel_rfl);have hb3:∀b W,(Instr.build 47 #[(0,xS ⟨#[99]⟩),(1,xL (some ⟨b,0,none⟩) 1 1)]).run prog W= .ok (.agg #[xS ⟨#[99]⟩,xL (b,0) 1 1]) W:=λb W=>run_build W _ _ _ (by kernel_rfl);have eA:∀b W,(Instr.build 72 #[(0, .agg #[xS ⟨#[99]⟩,xL (some ⟨b,0,none⟩) 1 1])]).run prog W= .ok (.agg #[xS ⟨#[99]⟩,xL (b,0) 1 1,()]) W:=λb W=>run_build W _ _ _ (by kernel_rfl);have iL:∀b W,(Instr.build 31 #[(0,xL (some ⟨b,0,none⟩) 1 1)]).run prog W= .ok (.agg #[xL (b,0) 1 1]) W:=λb W=>run_build W _ _ _ (by kernel_rfl);have jn:∀b W,(Instr.build 35 #[(0, .agg #[xL (some ⟨b,0,none⟩) 1 1]),(3,xI 5)]).run prog W= .ok (.agg #[xL (b,0) 1 1,(),(),xI 5]) W:=λb W=>run_build W _ _ _ (by kernel_rfl);have gP:∀b W,(Instr.build 53 #[(0,xI 1),(2,xS ⟨#[99]⟩),(5,xL (some ⟨b,0,none⟩) 1 1)]).run prog W= .ok (.agg #[xI 1,xI 0,xS ⟨#[99]⟩,"",xI 0,xI 0,"",(),xL (b,0) 1 1,"",(),xI 0,"","","",xI 0,xI 0,"",""]) W:=λb W=>run_build W _ _ _ (by kernel_rfl);have Be:∀W,(Instr.build 53 #[(0,xI 3),(3,xS ⟨#[104,111,109,101]⟩),(1,xI (-1))]).run prog W= .ok (.agg #[xI 3,xI (-1),"",xS ⟨#[104,111,109,101]⟩,xI 0,xI 0,"",(),(),"",(),xI 0,"","","",xI 0,xI 0,"",""]) W:=λW=>run_build W _ _ _ (by kernel_rfl);have vu:∀W,(Instr.build 53 #[(0,xI 7),(1,xI 4)]).run prog W= .ok (.agg #[xI 7,xI 4,"","",xI 0,xI 0,"",(),(),"",(),xI 0,"","","",xI 0,xI 0,"",""]) W:=λW=>run_build W _ _ _ (by kernel_rfl);have ng:∀W,(Instr.build 35 #[]).run prog W= .ok (.agg #[(),(),(),xI 0]) W:=λW=>run_build W _ _ _ (by kernel_rfl);have I8:∀b W,(Instr.build 66 #[(0,xI 5),(3,xL (some ⟨b,0,none⟩) 1 1)]).run prog W= .ok (.agg #[xI 5,xI 0,xI 0,xL (b,0) 1 1]) W:=λb W=>run_build W _ _ _ (by kernel_rfl);have M4:∀b W,(Instr.build 75 #[(0,xI 1),(1, .agg #[xI 5,xI 0,xI 0,xL (some ⟨b,0,none⟩) 1 1])]).run prog W= .ok (.agg #[xI 1,xI 5,xI 0,xI 0,xL (b,0) 1 1,xI 0,xI 0,"","",(),xI 0,"","","",xI 0,xI 0,"",""]) W:=λb W=>run_build W _ _ _ (by kernel_rfl);have I9:∀W,(Instr.build 75 #[(0,xI 2),(4,xS ⟨#[104,111,109,101]⟩),(2,xI 5)]).run prog W= .ok (.agg #[xI 2,xI 0,xI 0,xI 0,(),xI 5,xI 0,xS ⟨#[104,111,109,101]⟩,"",(),xI 0,"","","",xI 0,xI 0,"",""]) W:=λW=>run_build W _ _ _ (by kernel_rfl);have qg4:∀W,(Instr.build 53 #[]).run prog W= .ok (.agg #[xI 0,xI 0,"","",xI 0,xI 0,"",(),(),"",(),xI 0,"","","",xI 0,xI 0,"",""]) W:=λW=>run_build W _ _ _ (by kernel_rfl);have HX:=ag (Bx.KE w yE (yF w) (yG w) (yH [w,w]));have HG:=ag hG;clear hG;have eJ:Hd (∀V,Bx w [yE,yF w,yG w,yH [w,w]] V->ab xF V (xL (some ⟨[w,w],0,none⟩) 1 1) [eF]):=λV hb=>Si (hb.bO rfl) (hb.fB rfl);have mZ:Hd (∀V,Bx w [yE,yF w,yG w,yH [w,w]] V->xC 9 #[.agg #[xL (some ⟨[w,w],0,none⟩) 1 1,(),(),xI 5],xL ([V],0) 2 2] ((V.alloc qhj).alloc (qhf V)) (cm ((V.alloc qhj).alloc (qhf V)) λu w'=>∃(cv kv:aA),u= .tuple #[cv,kv,xI 6,xI 0]/\ab xF w' cv [pE gD,kC ox]/\ab xF w' kv [(⟨#[115]⟩:aY)])):=λV hb=>by
  have h0:=(hb.alloc qhj).alloc (qhf V);have h1:=Qbh V qhj;have h2:=Qbh (V.alloc qhj) (qhf V);have h3:=(Qcb (V.alloc qhj) (qhf V) V (by simp)).trans h1;have e:(V.alloc qhj).heap.size=[V]:=by simp
  rw[e]at h2;exact Ml xF _ (λi hi=>hi.elim) (HG.o.ae h0.1) _ _ (eJ.o _ h0) (Vr h3 h2)
 have vI:Hd (∀V,Bx w [yE,yF w,yG w,yH [w,w]] V->xC 9 #[.agg #[xL (some ⟨[w,w],0,none⟩) 1 1,(),(),xI 5],xL (V,0) 1 1] (V.alloc qhi) (cm (V.alloc qhi) λu w'=>u= .tuple #[(),(),xI 0,xI 101])):=λV hb=>by
  have h0:=hb.alloc qhi;exact P4 (HG.o.ae h0.1) _ _ (eJ.o _ h0) (PT (AX 4) rfl rfl (Qbh V qhi))
 have XD:Hd (∀V,Bx w [yE,yF w,yG w,yH [w,w]] V->xC 9 #[.agg #[xL (some ⟨[w,w],0,none⟩) 1 1,(),(),xI 5],xL (V,0) 1 1] (V.alloc qhh) (cm (V.alloc qhh) λu w'=>u= .tuple #[(),(),xI 0,xI 170])):=λV hb=>by
  have h0:=hb.alloc qhh;exact Vw (HG.o.ae h0.1) _ _ (eJ.o _ h0) (PT kq rfl rfl (Qbh V qhh))
 have MS:Hd (∀V,Bx w [yE,yF w,yG w,yH [w,w]] V->_):=λV hb=>PL V (HG.o.ae hb.1).tb none 0 0;have Cr:Hd (∀V,Bx w [yE,yF w,yG w,yH [w,w]] V->ab xF ((V.alloc qhj).alloc (xK #[xI 1,xI 5,xI 0,xI 0,xL (some ⟨V.heap.size,0,none⟩) 1 1,xI 0,xI 0,xS ⟨#[]⟩,xS ⟨#[]⟩,xL none 0 0,xI 0,xS ⟨#[]⟩,xS ⟨#[]⟩,xS ⟨#[]⟩,xI 0,xI 0,xS ⟨#[]⟩,xS ⟨#[]⟩,xI 2,xI 0,xI 0,xI 0,xL none 0 0,xI 5,xI 0,xS ⟨#[104,111,109,101]⟩,xS ⟨#[]⟩,xL none 0 0,xI 0,xS ⟨#[]⟩,xS ⟨#[]⟩,xS ⟨#[]⟩,xI 0,xI 0,xS ⟨#[]⟩,xS ⟨#[]⟩] 75)) (xL ([V],0) 2 2) [pE gD,kC ox]):=λV hb=>by
  have h1:=Qbh V qhj;have h2:=Qbh (V.alloc qhj) (xK #[xI 1,xI 5,xI 0,xI 0,xL (some ⟨V.heap.size,0,none⟩) 1 1,xI 0,xI 0,xS ⟨#[]⟩,xS ⟨#[]⟩,xL none 0 0,xI 0,xS ⟨#[]⟩,xS ⟨#[]⟩,xS ⟨#[]⟩,xI 0,xI 0,xS ⟨#[]⟩,xS ⟨#[]⟩,xI 2,xI 0,xI 0,xI 0,xL none 0 0,xI 5,xI 0,xS ⟨#[104,111,109,101]⟩,xS ⟨#[]⟩,xL none 0 0,xI 0,xS ⟨#[]⟩,xS ⟨#[]⟩,xS ⟨#[]⟩,xI 0,xI 0,xS ⟨#[]⟩,xS ⟨#[]⟩] 75);have h3:=(Qcb (V.alloc qhj) (xK #[xI 1,xI 5,xI 0,xI 0,xL (some ⟨V.heap.size,0,none⟩) 1 1,xI 0,xI 0,xS ⟨#[]⟩,xS ⟨#[]⟩,xL none 0 0,xI 0,xS ⟨#[]⟩,xS ⟨#[]⟩,xS ⟨#[]⟩,xI 0,xI 0,xS ⟨#[]⟩,xS ⟨#[]⟩,xI 2,xI 0,xI 0,xI 0,xL none 0 0,xI 5,xI 0,xS ⟨#[104,111,109,101]⟩,xS ⟨#[]⟩,xL none 0 0,xI 0,xS ⟨#[]⟩,xS ⟨#[]⟩,xS ⟨#[]⟩,xI 0,xI 0,xS ⟨#[]⟩,xS ⟨#[]⟩] 75) V (by simp)).trans h1;have e:(V.alloc qhj).heap.size=[V]:=by simp
  rw[e]at h2;exact Sj h3 h2
 go_enter func5,ntmps5;go_upto_region 3 with fail;have⟨W3,hW3⟩:=bY ((((w.alloc yE).alloc (yF w)).alloc (yG w)).alloc (yH [w,w]));rw[<-hW3]at HX;unfold yE yF yG yH at hW3;rw[<-hW3];clear hW3 hb1 bE hb3 eA iL jn;have Xk:Hd (∀V,Bx w [yE,yF w,yG w,yH [w,w]] V->_):=λV hb=>af (show V.heap[w.heap.size+1+1+1]? =_ from hb.at_ 3 rfl);have HWA:Hd (∀V,Bx w [yE,yF w,yG w,yH [w,w]] V->∀o,_):=λV hb o=>af (show(V.alloc o).heap[w.heap.size+1+1+1]? =_ from(hb.alloc o).at_ 3 rfl);have TP:Hd (∀V,Bx w [yE,yF w,yG w,yH [w,w]] V->∀o o2,_):=λV hb o o2=>af (show((V.alloc o).alloc o2).heap[w.heap.size+1+1+1]? =_ from((hb.alloc o).alloc o2).at_ 3 rfl);have ui:Hd (Bx w [yE,yF w,yG w,yH [w,w]] W3.drew):=HX.o.drew;have⟨k0,k1,k2,k3⟩:=Xk.o _ HX.o;go_cut [3,4,5,6](λv3 v4 v5 v6 wx=>∃cv kv:aA,v3=cv/\v4=kv/\v5=xI 6/\v6=xI 0/\Hd (ab xF wx cv [pE gD,kC ox]/\ab xF wx kv [(⟨#[115]⟩:aY)]/\Bx w [yE,yF w,yG w,yH [w,w]] wx));case first=>
  go_region_law(first
   |(go_simp;go_at_call 13;refine cC (PU 3 _) λw4 eA=> ?_;have nQ:Hd (Bx w [yE,yF w,yG w,yH [w,w]] w4):=ui.o.ae eA;have k0:=(Xk.o _ nQ.o).1;have k1:=(Xk.o _ nQ.o).2.1;have k2:=(Xk.o _ nQ.o).2.2.1;have k3:=(Xk.o _ nQ.o).2.2.2;have l0:=λo=>(HWA.o _ nQ.o o).1;have l1:=λo=>(HWA.o _ nQ.o o).2.1;have l2:=λo=>(HWA.o _ nQ.o o).2.2.1;have l3:=λo=>(HWA.o _ nQ.o o).2.2.2;have m0:=λo o2=>(TP.o _ nQ.o o o2).1;have m1:=λo o2=>(TP.o _ nQ.o o o2).2.1;have m2:=λo o2=>(TP.o _ nQ.o o o2).2.2.1;have m3:=λo o2=>(TP.o _ nQ.o o o2).2.2.2;clear eA)
   |(go_simp;go_at_call 9;refine(mZ.o _ nQ.o).mono ?_;rintro e w5⟨_,rfl,⟨cv,kv,rfl,hc,hk⟩,iL⟩;have Wq:Hd (ab xF w5 cv [pE gD,kC ox]/\ab xF w5 kv [(⟨#[115]⟩:aY)]/\Bx w [yE,yF w,yG w,yH [w,w]] w5):=⟨hc,hk,((nQ.o.alloc _).alloc _).ae iL⟩;clear hc hk iL)
   |fail);all_goals(go_wp2;go_meet)
  all_goals exact⟨_,_,rfl,rfl,rfl,rfl,Wq⟩
 case rest=>
  obtain⟨cv,kv,rfl,rfl,rfl,rfl,HC⟩:=hcut;obtain⟨ca,cc,rfl,-⟩:=HC.o.1.aq;obtain⟨kb,ko,kc,rfl,-,hkc⟩:=Mt (i:=0) HC.o.2.1 rfl;have I2:=ag hkc;have HXC:Hd (Bx w [yE,yF w,yG w,yH [w,w]] wc):=HC.o.2.2;have HCS:Hd (ab xF wc (xL ca [pE gD,kC ox].length cc) [pE gD,kC ox]):=HC.o.1;clear hkc HC gP k0 k1 k2 k3 mZ;dsimp only[List.length_cons,List.length_nil,Nat.zero_add,Nat.reduceAdd]at*;have⟨k0,k1,k2,k3⟩:=Xk.o _ HXC.o;go_wp2_with fail;refine(vI.o _ HXC.o).mono ?_;rintro e w6⟨_,rfl,rfl,jn⟩;have yT:Hd (Bx w [yE,yF w,yG w,yH [w,w]] w6/\aC wc w6):=⟨(HXC.o.alloc _).ae jn,bU.trans (jn.mono (by simp))⟩;clear jn k0 k1 k2 k3;have⟨k0,k1,k2,k3⟩:=Xk.o _ yT.o.1;go_wp2_with fail;refine(XD.o _ yT.o.1).mono ?_;rintro e w7⟨_,rfl,rfl,gP⟩;have MW:Hd (Bx w [yE,yF w,yG w,yH [w,w]] w7/\aC wc w7):=⟨(yT.o.1.alloc _).ae gP,yT.o.2.trans ((bU.trans (gP.mono (by simp))).mono yT.o.2.size)⟩;clear gP k0 k1 k2 k3;go_wp2_with fail;refine(MS.o _ MW.o.1).mono ?_;rintro e w8⟨_,rfl,rfl,Be⟩;have QP:Hd (Bx w [yE,yF w,yG w,yH [w,w]] w8/\aC wc w8):=⟨MW.o.1.ae Be,MW.o.2.trans (Be.mono MW.o.2.size)⟩;clear Be;go_wp2_with fail;refine cC (PU 3 _) λw9 vu=> ?_;have CO:Hd (Bx w [yE,yF w,yG w,yH [w,w]] w9/\aC wc w9):=⟨QP.o.1.ae vu,QP.o.2.trans (vu.mono QP.o.2.size)⟩;clear vu;go_upto_region 8 with fail;have⟨W9,hW9⟩:=bY ((w9.alloc qhj).alloc (xK #[xI 1,xI 5,xI 0,xI 0,xL (some ⟨w9.heap.size,0,none⟩) 1 1,xI 0,xI 0,xS ⟨#[]⟩,xS ⟨#[]⟩,xL none 0 0,xI 0,xS ⟨#[]⟩,xS ⟨#[]⟩,xS ⟨#[]⟩,xI 0,xI 0,xS ⟨#[]⟩,xS ⟨#[]⟩,xI 2,xI 0,xI 0,xI 0,xL none 0 0,xI 5,xI 0,xS ⟨#[104,111,109,101]⟩,xS ⟨#[]⟩,xL none 0 0,xI 0,xS ⟨#[]⟩,xS ⟨#[]⟩,xS ⟨#[]⟩,xI 0,xI 0,xS ⟨#[]⟩,xS ⟨#[]⟩] 75));have Bg:=ag (show aC wc W9/\Bx w [yE,yF w,yG w,yH [w,w]] W9 by rw[hW9];exact⟨CO.o.2.trans ((bU.alloc (by simp) _).mono CO.o.2.size),(CO.o.1.alloc _).alloc _⟩);have T6:=ag (show ab xF W9 (xL ([w9],0) 2 2) [pE gD,kC ox]by rw[hW9];exact Cr.o _ CO.o.1);rw[<-hW9];clear hW9 Be ng I8 M4 I9;have hkv:=I2.o _ Bg.o.1;go_wp2_with fail;refine cC (E3 _ Sk _ _ _ _ (HCS.o.ae Bg.o.1) T6.o) λw10 ng=> ?_;have uz:Hd (aC wc w10/\Bx w [yE,yF w,yG w,yH [w,w]] w10):=⟨Bg.o.1.trans (ng.mono Bg.o.1.size),Bg.o.2.ae ng⟩;clear ng hkv;have hkv:=I2.o _ uz.o.1;rw[Nat.add_zero]at hkv;go_wp2_with fail;refine cC (sM 4 ⟨by decide,by decide⟩ _) λw11 I8=> ?_;have Wz:=ag (uz.o.2.ae I8);clear I8 hkv;go_wp2_with fail;refine cC (B9 _) λw12 M4=> ?_;have mn:=ag (Wz.o.ae M4);clear M4;go_wp2;go_ret;exact⟨rfl,mn.o.1⟩
def P6:(Tryz.prog.info? 53).map (λi=>(i.zero,i.size,i.bytes))=some (some (.agg #[xI 0,xI 0,"","",xI 0,xI 0,"",(),(),"",(),xI 0,"","","",xI 0,xI 0,"",""]),19,272):=by kernel_rfl
def Vx {n:Int}(h:bW W g (xK #[xI 3,n,"",()] 44))(hM:¬M g):ab M W (xL (g,0) 1 1) [PX n]:=by
 refine⟨[[xI 3,xI n,"",()]],fT h 4 1 (by omega) rfl hM,rfl,λi cs x hc hx=> ?_⟩;cases i with
 |succ i=>simp at hx
 |zero=>
  simp at hc hx;subst hc;subst hx;exact eU.iff.2 ⟨_,rfl,ab.nil _ _,by decide⟩
def P7(h:bW W g (xK #[xS ⟨#[110,101,120,116]⟩,xI 3,xI 0,false] 60))(hM:¬M g):ab M W (xL (g,0) 1 1) JY.ah:=by
 refine⟨[[xS ⟨#[110,101,120,116]⟩,xI 3,xI 0,xB false]],fT h 4 1 (by omega) rfl hM,rfl,λi cs x hc hx=> ?_⟩;cases i with
 |succ i=>
  have hx:([]:List aH)[i]? =some x:=hx;simp at hx
 |zero=>
  have hx:some (⟨⟨#[110,101,120,116]⟩,⟨3,0⟩,false⟩:aH)=some x:=hx;simp at hc hx;subst hc;subst hx;exact⟨rfl,by decide⟩
structure Fa(m j:Nat)(w0 wr:ax)(tv:aA):Prop where
 acc:aS (α:=pF) (λk=>k<w0) w0 53 wr tv (gX m j)
 bel:aC w0 wr
def IJ(m j:Nat):gX m (j+1)=gX m j++[pH m j]:=by simp[gX,List.range_succ]
theorem Fa.next {w4:ax}{tv tv':aA}(h:Fa m j w0 wr tv)(hb:aC wr w2)(ha:aS (λk=>k<w0) w0 53 w4 tv' (gX m j++[pH m j]))(eA:Below w0 w2 w4):Fa m (j+1) w0 w4 tv':=
 ⟨by rw[IJ];exact ha,(h.bel.trans (hb.mono h.bel.size)).trans eA⟩
theorem Fa.au(m:Nat)(w0 W:ax)(f:Nat)(hf:bW W f (xK #[xS ⟨#[110,101,120,116]⟩,xI 3,xI 0,false] 60))(hfw:w0<=f)(hb:aC w0 W):
 Fa m 0 w0 (W.alloc (.cells (ET vp () (xL (f,0) 1 1)).toArray 53)) (xL (W,0) 1 1):=by
 have vN:=(Qaa.1 hf).1;refine⟨⟨[ET vp () (xL (f,0) 1 1)],World.ownsRow_lit W _ 1 hb.size (by unfold maxLen;omega) rfl,rfl,λi cs x hc hx=> ?_⟩,hb.alloc hb.size _⟩;cases i with
 |succ i=>simp[gX]at hx
 |zero=>
  simp[gX]at hc hx;subst hc;subst hx;refine⟨_,_,rfl,ab.nil _ _,P7 ((Qcb W _ f vN).trans hf) (λh=> ?_),λ_=>rfl,λh=>by cases h⟩;rcases h with h|h
  .have h:f<w0:=h;omega
  .have h:W=f:=by simpa [Value.ownBlock]using h
   omega
def Fb(c:Int)(W:ax)(hc:I6 c):xC 8 #[c,xI 9] W λe w'=>(∃m:Nat,1<=m/\m<=9/\e=xR (xI ((m:Int)-1)))/\W=w':=by
 refine dw (II c 9 W hc (by omega) (by omega)) ?_;have h:=cR c (9:Int).toNat (by decide);exact⟨⟨aU c (9:Int).toNat+1,by omega,by have h:aU c (9:Int).toNat<9:=h;omega,by congr 2;omega⟩,rfl⟩
def Sr(hm:1<=m):((j:Int)+1).tmod (m:Int)=((vm m j:Nat):Int):=by
 unfold vm;rw[Int.tmod_eq_emod_of_nonneg (by omega)];push_cast;rfl
def zy(n:Int)(L:List Int)(i:Nat):Nat:=((L.take i).filter (λy=>decide (n<=y))).length
def Ss(n:Int)(L:List Int)(i:Nat):zy n L i<=i:=Qcg (List.length_filter_le _ _) (by simp;omega)
def MB {n:Int}{L:List Int}{y:Int}(h:L[i]? =some y):zy n L (i+1)=zy n L i+(if n<=y then 1 else 0):=by
 unfold zy;rw[Qbb,h,List.filter_append,Qda];by_cases hk:n<=y<;>simp[hk]
theorem xj.ring {x:aW}(h:xj x)(h1:1<=m)(h9:m<=9):qhk x m:=⟨h.wr,h.few.1,h.few.2,by have:=h.next;have:=h.len;omega,by have:=h.len;omega,by have:=h.rlen;omega,h1,h9⟩
theorem qhk.flat {x:aW}(h:qhk x m):∀o,il (kU x m) (x.aP.length+(m-1)) o->Ci o:=λo ho=>⟨_,_,_,(h.late (by have:=h.m0;omega) ho).1,by decide,by decide⟩
theorem qhk.last {x:aW}(h:qhk x m){o:bF}(ho:il (kU x m) (x.aP.length+(m-1)) o):o.aZ=[PX x.next]:=by
 have h0:=h.m0;rw[(h.late (by omega) ho).1];unfold vm;rw[show m-1+1=m by omega,Nat.mod_self];simp
theorem qhk.root {x:aW}(h:qhk x m){n:Int}{b:Bool}(h1:b=true->∃r∈(kU x m).aF,r.ai=qJ/\n=r.id)(h2:b=false->∀r∈(kU x m).aF,r.ai≠qJ):b=true/\n=x.next:=by
 have hm:(⟨qJ,x.next⟩:bj)∈(kU x m).aF:=ji.2 (.inr rfl);cases b with
 |false=>exact absurd rfl (h2 rfl _ hm)
 |true=>
  obtain⟨r,hr,hn,rfl⟩:=h1 rfl;rcases ji.1 hr with⟨_,k⟩|rfl
  .exact absurd hn k
  .exact⟨rfl,rfl⟩
def MC(w:ax)(hG:Gd w)(r0 r1 r2:fx)(n0 c0 n1 c1 n2 c2:Nat)(ay:Int)(TN:I6 ay)
 (XZ:∀W,aC w W->xC 6 #[.agg #[xL r0 n0 c0,xL r1 n1 c1,xL r2 n2 c2]] W (cm W λu w'=>∃(x:aW)(lv ov rv:aA),xj x/\u= .agg #[lv,ov,rv,x.next]/\ab xF w' lv x.aK/\ab xF w' ov x.aP/\ab xF w' rv x.aF)):
 xC 4 #[.agg #[xL r0 n0 c0,xL r1 n1 c1,xL r2 n2 c2],ay] w (cu true w):=by
 have⟨i0,hi0,hz0,hz1,hz2⟩:=info_parts P6;have SX:=ag XZ;have HGW:=ag hG;have J6:Hd (∀W,_):=λW=>Fb ay W TN;have iW:=ag (Bx.eI w (xK #[xL r0 n0 c0,xL r1 n1 c1,xL r2 n2 c2] 26));have TI:=gQ (w:=w) (λW hb=>P5 W (hG.ae hb));clear XZ hG TN;go_enter func4,ntmps4;go_wp2_with fail;refine cC (TI.o _ iW.o.1) λw1 hb1=> ?_;have bz:=ag (iW.o.ae hb1);have⟨y0,y1,y2⟩:=aO (bz.o.bO rfl);clear hb1 iW TI;go_wp2_with fail;refine(SX.o _ bz.o.1).mono ?_;rintro e w2⟨_,rfl,⟨x,lv,ov,rv,hx,rfl,js,kM,iM⟩,bE⟩;obtain⟨la,lc,rfl,-⟩:=js.aq;obtain⟨oa,oc,rfl,-⟩:=kM.aq;obtain⟨ra,rc,rfl,-⟩:=iM.aq;have HX:=ag hx;have bg:=ag (bz.o.ae bE);have qY:=ag (And.intro js (And.intro kM iM));have hxn:1<=x.next/\x.next<=13:=by have:=hx.next;have:=hx.len;omega
 clear bE hx js kM iM y0 y1 y2 bz SX;obtain⟨qg5,qg6⟩:=hxn;go_upto_region 3 with fail;have⟨W2,hW2⟩:=bY (w2.alloc (xK #[xL la x.aK.length lc,xL oa x.aP.length oc,xL ra x.aF.length rc,x.next] 35));have bV:=ag (show Bx w _ W2 by rw[hW2];exact bg.o.alloc _);have qj:=ag (show aC w2 W2/\dk W2 w2 (xK #[xL la x.aK.length lc,xL oa x.aP.length oc,xL ra x.aF.length rc,x.next] 35)by rw[hW2];exact⟨bU,Qbh w2 _⟩);rw[<-hW2];clear hW2 bg;go_wp2_with fail;refine(J6.o _).mono ?_;rintro e w3⟨⟨m,oF,hm9,rfl⟩,rfl⟩;have uu:=ag (HX.o.ring oF hm9);have qg7:(1:Int)<=(m:Int):=by omega
 have qg8:(m:Int)<=9:=by omega
 have hb1:∀W,(Instr.build 49 #[(0,xI 3)]).run prog W= .ok (.agg #[xI 3,xI 0]) W:=λW=>run_build W _ _ _ (by kernel_rfl);have bE:∀W,(Instr.build 60 #[(0,xS ⟨#[110,101,120,116]⟩),(1, .agg #[xI 3,xI 0])]).run prog W= .ok (.agg #[xS ⟨#[110,101,120,116]⟩,xI 3,xI 0,false]) W:=λW=>run_build W _ _ _ (by kernel_rfl);have hb3:∀b W,(Instr.build 47 #[(0,xS dH),(1,xL (some ⟨b,0,none⟩) 1 1)]).run prog W= .ok (.agg #[dH,xL (b,0) 1 1]) W:=λb W=>run_build W _ _ _ (by kernel_rfl);have eA:∀b W,(Instr.build 53 #[(0,xI 5),(6, .agg #[dH,xL (some ⟨b,0,none⟩) 1 1])]).run prog W= .ok (yr 5 0 () () () dH (xL (b,0) 1 1)) W:=λb W=>run_build W _ _ _ (by kernel_rfl);have iL:∀n W,(Instr.build 44 #[(0,xI 3),(1,xI n)]).run prog W= .ok (.agg #[xI 3,xI n,"",()]) W:=λn W=>run_build W _ _ _ (by kernel_rfl);have jn:∀b W,(Instr.build 53 #[(0,xI 1),(2,xS dH),(5,xL (some ⟨b,0,none⟩) 1 1)]).run prog W= .ok (yr 1 0 dH () (xL (b,0) 1 1) () ()) W:=λb W=>run_build W _ _ _ (by kernel_rfl);have gP:∀W,(Instr.build 53 #[(0,xI 3),(3,xS qJ),(1,xI (-1))]).run prog W= .ok (yr 3 (-1) () qJ () () ()) W:=λW=>run_build W _ _ _ (by kernel_rfl);go_upto_region 4 with fail;rw[show(1:Int)+((m:Int)-1)=(m:Int)by omega];go_upto_region 6 with fail;have⟨W4,hW4⟩:=bY (((W2.alloc (xK #[xS ⟨#[110,101,120,116]⟩,xI 3,xI 0,false] 60)).alloc (xK #[dH,xL (W2,0) 1 1] 47)).alloc (.cells (ET vp () (xL (W2,0) 1 1)).toArray 53));have qe6:=ag (show Fa m 0 W2 W4 (xL (some ⟨[W2,W2],0,none⟩) 1 1)by
  rw[hW4];have h:=Fa.au m W2 ((W2.alloc (xK #[xS ⟨#[110,101,120,116]⟩,xI 3,xI 0,false] 60)).alloc (xK #[dH,xL (W2,0) 1 1] 47)) W2 ((Qcb _ _ _ (by simp)).trans (Qbh W2 _)) bT (bU.alloc (by simp) _);simpa using h);dsimp only[ET,vp,JY,dH]at hW4;rw[<-hW4];clear hW4;have V3:(m:Int)≠0:=by omega
 have I2:=gQ (w:=W2) (λW hb=>af ((hb.block _ (Qaa.1 qj.o.2).1).trans qj.o.2));have qe7:Hd (∀W qv,aC W2 W->ab xF W qv (gX m m++[jm])->_):=λW qv hb hq=>PZ uu.o xF W (λi hi=>hi.elim) (HGW.o.ae (bV.o.1.trans (hb.mono bV.o.1.size))) _ _ _ qv (qY.o.1.ae (qj.o.1.trans (hb.mono qj.o.1.size))) (qY.o.2.1.ae (qj.o.1.trans (hb.mono qj.o.1.size))) (qY.o.2.2.ae (qj.o.1.trans (hb.mono qj.o.1.size))) hq;have pL:Hd (∀W cv,aC W2 W->ab xF W cv ((nM [Tx x] (fH x m m) [⟨qJ,x.next⟩]).map Subtype.val)->_):=λW cv hb hc=>AP x (kU x m) uu.o.wr uu.o.ok _ uu.o.all (by rw[Qdc];unfold nM;simp[fH];omega) xF W (λi hi=>hi.elim) (HGW.o.ae (bV.o.1.trans (hb.mono bV.o.1.size))) _ _ _ cv (qY.o.1.ae (qj.o.1.trans (hb.mono qj.o.1.size))) (qY.o.2.1.ae (qj.o.1.trans (hb.mono qj.o.1.size))) (qY.o.2.2.ae (qj.o.1.trans (hb.mono qj.o.1.size))) hc;go_wp2;go_loopg [8,9]m(λgg tv iv wr=>∃(j:Nat)(ta:fx)(tc:Nat),gg=m-j/\j<=m/\iv=xI j/\tv=xL ta (j+1) tc/\Hd (Fa m j W2 wr (xL ta (j+1) tc)));case atStart=>exact⟨0,_,_,rfl,Qbf _,rfl,rfl,qe6⟩
 case round=>
  obtain⟨j,ta,tc,rfl,hjm,rfl,rfl,HS⟩:=hrel;rename World=>wr;by_cases bH:j<m
  .have Ck:(j:Int)<(m:Int):=by omega
   have V0:((j:Int)+1).tmod (m:Int)=((vm m j:Nat):Int):=Sr oF;have Bc:((vm m j:Nat):Int)<(m:Int):=by have:=uu.o.lt j;omega
   have IL:Hd (W2.heap.size<=wr):=HS.o.bel.size;have CN:Hd (∀o,aC wr ((wr.alloc (xK #[xI 3,xI (-1-((vm m j:Nat):Int)),"",()] 44)).alloc o)):=λo=>bU.alloc (by simp) _;have Ui:Hd (∀o,ab (bu (xL ta (j+1) tc) (λk=>k<W2)) ((wr.alloc (xK #[xI 3,xI (-1-((vm m j:Nat):Int)),"",()] 44)).alloc o) (xL (wr,0) 1 1) [PX (-1-((vm m j:Nat):Int))]):=λo=>Vx ((Qcb _ _ _ (by simp)).trans (Qbh wr _)) (λh=>by
    rcases h with h|h
    .have h:wr.heap.size<W2:=h;have:=IL.o;omega
    .have:=(HS.o.acc.cG _ h).2;omega);go_wp2_with(at_builtin;refine bo (α:=pF) rfl _ _ _ rfl (λk=>k<W2) W2 53 i0 _ 272 underlying40 hi0 hz0 hz1 hz2 rfl (by decide) (.slice ta (j+1) tc) (gX m j) rfl (HS.o.acc.ae (CN.o _)) (λ_=>True) _ (ET (pH m j) (.slice (wr,0) 1 1) (.slice none 0 0)) (pH m j) rfl (fN _ _ (ET (pH m j) (.slice (wr,0) 1 1) (.slice none 0 0)).toArray _ 19 rfl (by simp) trivial) ⟨_,_,rfl,Ui.o _,ab.nil _ _,λh=>(by cases h),λ_=>rfl⟩ (by rw[er];unfold maxLen;omega) (by rw[er];omega) (by have:=IL.o;simp;omega) ?_;rw[er];intro a2 c2 w6 bD dK jn;have HN:=ag (HS.o.next (CN.o _) bD jn);clear bD dK jn);go_roundg(m-(j+1));case measure=>omega
   case rel=>exact⟨j+1,a2,c2,rfl,by omega,by go_num,rfl,HN⟩
  .obtain rfl:j=m:=by omega
   have HAO:Hd (∀o,aC wr (wr.alloc o)):=λo=>bU;have IL:Hd (W2.heap.size<=wr):=HS.o.bel.size;go_wp2_with(at_builtin;refine bo (α:=pF) rfl _ _ _ rfl (λk=>k<W2) W2 53 i0 _ 272 underlying40 hi0 hz0 hz1 hz2 rfl (by decide) (.slice ta (j+1) tc) (gX j j) rfl (HS.o.acc.ae (HAO.o _)) (λ_=>True) _ (ET jm (.slice none 0 0) (.slice none 0 0)) jm rfl (fN _ _ (ET jm (.slice none 0 0) (.slice none 0 0)).toArray _ 19 rfl (by simp) trivial) ⟨_,_,rfl,ab.nil _ _,ab.nil _ _,λ_=>rfl,λ_=>rfl⟩ (by rw[er];unfold maxLen;omega) (by rw[er];omega) (by have:=IL.o;simp;omega) ?_;rw[er];intro a2 c2 w6 bD dK jn;have kE:Hd (aC W2 w6):=(HS.o.bel.trans ((HAO.o _).mono HS.o.bel.size)).trans jn;have HQ6:Hd (ab xF w6 (xL a2 (j+1+1) c2) (gX j j++[jm])):=(bD.slice λi hi=>hi).ev (Ev.dL _ λi hi=>hi.elim);have⟨k0,k1,k2,k3⟩:=I2.o w6 kE.o;clear bD dK jn);refine(qe7.o w6 _ kE.o HQ6.o).mono ?_;rintro e w7⟨_,rfl,⟨cv,kv,ks,rfl,hcv,hkv⟩,gP⟩;have mA:Hd (aC W2 w7):=kE.o.trans (gP.mono kE.o.size);have X2:=ag hcv;obtain⟨za,zc,rfl,-⟩:=hcv.aq;obtain⟨ya,yc,rfl,-⟩:=hkv.aq;generalize ks.length=kn at*;generalize XS:((nM [Tx x] (fH x j j) [⟨qJ,x.next⟩]).map Subtype.val).length=rn at*;clear hcv hkv gP k0 k1 k2 k3 HQ6 HS IL HAO;have⟨k0,k1,k2,k3⟩:=I2.o w7 mA.o;go_wp2_with fail;refine(pL.o w7 _ mA.o X2.o).mono ?_;rintro e w8⟨_,rfl,⟨lz,oz,rz,rfl,hlz,hoz,hrz⟩,Be⟩;have QE:Hd (aC W2 w8):=mA.o.trans (Be.mono mA.o.size);have HZ8:=ag (And.intro hlz (And.intro hoz hrz));obtain⟨lza,lzc,rfl,-⟩:=hlz.aq;obtain⟨oza,ozc,rfl,-⟩:=hoz.aq;obtain⟨rza,rzc,rfl,-⟩:=hrz.aq;have WJ:(kU x j).next=x.next+(j:Int):=rfl;rw[WJ];clear hlz hoz hrz Be k0 k1 k2 k3 X2;go_upto_region 15 with fail;have⟨W9,hW9⟩:=bY (w8.alloc (xK #[xL lza (kU x j).aK.length lzc,xL oza (kU x j).aP.length ozc,xL rza (kU x j).aF.length rzc,xI (x.next+(j:Int))] 35));have HK9:=ag (show aC w8 W9/\dk W9 w8 (xK #[xL lza (kU x j).aK.length lzc,xL oza (kU x j).aP.length ozc,xL rza (kU x j).aF.length rzc,xI (x.next+(j:Int))] 35)by rw[hW9];exact⟨bU,Qbh w8 _⟩);rw[<-hW9];clear hW9;have Bg:Hd (aC W2 W9):=QE.o.trans (HK9.o.1.mono QE.o.size);have HGZ:Hd (∀W,aC W9 W->Gd W):=λW hb=>HGW.o.ae (bV.o.1.trans ((Bg.o.trans (hb.mono Bg.o.size)).mono bV.o.1.size));have Xl:Hd (∀W,aC W9 W->ab xF W (xL lza (kU x j).aK.length lzc) (kU x j).aK/\ab xF W (xL oza (kU x j).aP.length ozc) (kU x j).aP/\ab xF W (xL rza (kU x j).aF.length rzc) (kU x j).aF):=λW hb=>by
    have Be:aC w8 W:=HK9.o.1.trans (hb.mono HK9.o.1.size);exact⟨HZ8.o.1.ae Be,HZ8.o.2.1.ae Be,HZ8.o.2.2.ae Be⟩
   have v7:=gQ (w:=W9) (λW hb=>af ((hb.block _ (Qaa.1 HK9.o.2).1).trans HK9.o.2));have Xc:=gQ (w:=W9) (λW hb=>AW (kU x j) W _ _ _ uu.o.ok (HGZ.o W hb) (Xl.o W hb).1 (Xl.o W hb).2.1 (Xl.o W hb).2.2);have ML:=gQ (w:=W9) (λW hb=>My (kU x j) xF W (xL lza (kU x j).aK.length lzc) (xL oza (kU x j).aP.length ozc) (xL rza (kU x j).aF.length rzc) rfl rfl qJ (Xl.o W hb).2.2);have HGT:=gQ (w:=W9) (λW hb=>Sq (kU x j) W _ _ _ uu.o.ok (HGZ.o W hb) (Xl.o W hb).1 (Xl.o W hb).2.1 (Xl.o W hb).2.2 (x.aP.length+(j-1)) (JZ x j (j-1)) (uu.o.at_ (by omega)) uu.o.flat (uu.o.rch (j-1) (by omega)));have qe8:(JZ x j (j-1)).id=x.next+(j:Int)-1:=(show x.next+((j-1:Nat):Int)=_ by omega);rw[qe8,WJ]at HGT;rw[WJ]at Xc ML;unfold qJ at ML;clear qe8 WJ pL qe7 HZ8;generalize(kU x j).aK.length=z1 at*;generalize(kU x j).aP.length=z2 at*;generalize(kU x j).aF.length=z3 at*;have⟨v0,v1,v2,v3⟩:=v7.o W9 dS;go_wp2_with fail;refine(Xc.o W9 dS).mono ?_;rintro e w10⟨_,rfl,⟨L,mv,rfl,hL,Q5,jr⟩,ng⟩;have HLC:Hd (∀i y,L[i]? =some y->_):=λi y hy=>pW hL hy;obtain⟨ma,mc,rfl,hmc,hmm,-⟩:=hL.aq;have VZ:=ag (show zy x.next L L.length=j by unfold zy;rw[List.take_length];exact uu.o.count Q5 jr);have ku:=ag (show L.length<=500 by
    have h1:=im (cA (kU x j).aP) L (Q5.imp (λ{a b}h e=>by omega)) (λn hn=>uu.o.ok.closed.RW ((jr n).1 hn));have h2:=uu.o.ok.len;unfold cA at h1;rw[Qdc]at h1;omega);have uz:=ag ng;generalize T5:L.length=ll at*;clear ng hL jr Q5 v0 v1 v2 v3;have Ka:=ag T5;clear T5;have qg9:=ku.o;go_wp2;go_loopg [19,20]ll(λgg nv iv wr=>∃i:Nat,gg=ll-i/\i<=ll/\iv=xI i/\nv=xI (zy x.next L i:Int)/\Hd (aC w10 wr));case atStart=>exact⟨0,rfl,Qbf _,rfl,rfl,dS⟩
   case round=>
    obtain⟨i,rfl,vZ,rfl,rfl,HS⟩:=hrel;rename World=>wr;have qX:Hd (aC W9 wr):=uz.o.trans (HS.o.mono uz.o.size);have⟨k0,k1,k2,k3⟩:=I2.o wr (Bg.o.trans (qX.o.mono Bg.o.size));by_cases bH:i<ll
    .have qha:(i:Int)<(ll:Int):=by omega
     have⟨y,hy⟩:=eG L i (by rw[Ka.o];exact bH);obtain⟨b2,off2,cap2,hv2,-,A7⟩:=HLC.o i y hy;obtain⟨rfl,rfl⟩:=iY hv2;have hcell:=A7 wr HS.o;have HCS:=ag (MB (n:=x.next) hy);have hcl:=Ss x.next L i;clear hv2 A7 hy;generalize zy x.next L i=cn at*;generalize A7:zy x.next L (i+1)=cn2 at*;have J5:=ag A7;clear A7;go_upto_region 20 with fail;go_quiet(fail);have HN:Hd (aC w10 (wr.drewN nq)):=below_drewNv HS.o nq;have hcs:=HCS.o;by_cases hge:x.next<=y
     .rw[if_pos hge]at hcs;obtain rfl:cn2=cn+1:=hcs;go_wp2;go_roundg(ll-(i+1));case measure=>omega
      case rel=>exact⟨i+1,rfl,by omega,by go_num,by rw[J5.o];go_num,HN⟩
     .rw[if_neg hge]at hcs;obtain rfl:cn2=cn:=hcs;go_wp2;go_roundg(ll-(i+1));case measure=>omega
      case rel=>exact⟨i+1,rfl,by omega,by go_num,by rw[J5.o],HN⟩
    .obtain rfl:i=ll:=by omega
     have hcn:(zy x.next L i:Int)=(j:Int):=by rw[VZ.o]
     rw[hcn];have⟨v0,v1,v2,v3⟩:=v7.o wr qX.o;go_wp2_with fail;refine(ML.o wr qX.o).mono ?_;rintro e w12⟨⟨n,b,rfl,h1,h2⟩,M4⟩;obtain⟨rfl,rfl⟩:=uu.o.root h1 h2;have mn:Hd (aC W9 w12):=qX.o.trans (M4.mono qX.o.size);clear h1 h2 M4 v0 v1 v2 v3 k0 k1 k2 k3;have⟨v0,v1,v2,v3⟩:=v7.o w12 mn.o;have⟨k0,k1,k2,k3⟩:=I2.o w12 (Bg.o.trans (mn.o.mono Bg.o.size));go_wp2_with fail;refine(HGT.o w12 mn.o).mono ?_;rintro e Xh⟨_,rfl,⟨o,vv,I3,rfl,hvv⟩,I9⟩;rw[uu.o.last I3]at hvv;obtain⟨vb,vo,vcp,va2,vc2,rfl,-,-,-,hvc⟩:=dy (i:=0) hvv rfl;have qby:Hd (aC W9 Xh):=mn.o.trans (I9.mono mn.o.size);have XU:=ag hvc;clear I3 hvv I9 hvc v0 v1 v2 v3 k0 k1 k2 k3;dsimp only[List.length_cons,List.length_nil,Nat.reduceAdd]at*;go_upto_region 24 with fail;have⟨W14,hW14⟩:=bY (Xh.alloc (xK #[o.id,o.cL,o.cQ,xL (vb,vo) 1 vcp] 66));have Xm:=ag (show aC Xh W14/\dk W14 Xh (xK #[o.id,o.cL,o.cQ,xL (vb,vo) 1 vcp] 66)by rw[hW14];exact⟨bU,Qbh Xh _⟩);rw[<-hW14];clear hW14;have qbz:Hd (aC W2 W14):=(Bg.o.trans (qby.o.mono Bg.o.size)).trans (Xm.o.1.mono (Qcg Bg.o.size qby.o.size));obtain⟨-,-,-,k3⟩:=I2.o W14 qbz.o;obtain⟨-,-,-,q3⟩:=af Xm.o.2;obtain⟨⟨-,g1,-,-⟩,-⟩:=XU.o W14 Xm.o.1;simp only[Nat.zero_mul,Nat.add_zero]at g1;go_quiet(fail);go_wp2;go_ret;exact⟨rfl,below_drewNv (bV.o.1.trans (qbz.o.mono bV.o.1.size)) _⟩
end
namespace opnews
open Go.ChangeShapes Go.WideShapes Go.ChangeAt Go.RowKit
def law:r9:=λW a b c n ls os rs hG s0 s1 s2 hn=>by
 have sU:∀W',Bd xF W':=λW' i hi=>hi.elim;obtain⟨a0,n0,rfl,_⟩:=s0.aq;obtain⟨a1,n1,rfl,_⟩:=s1.aq;obtain⟨a2,n2,rfl,_⟩:=s2.aq;exact MC W hG _ _ _ _ _ _ _ _ _ n hn (λW' hb=>IK ls os rs xF W' (sU W') _ _ _ (s0.ae hb) (s1.ae hb) (s2.ae hb))
theorem holds:Rows.OpNewsCardSaid:=RO law
end opnews
end Go.Proofs.YtepaofffbkfodaaGreatDoor
