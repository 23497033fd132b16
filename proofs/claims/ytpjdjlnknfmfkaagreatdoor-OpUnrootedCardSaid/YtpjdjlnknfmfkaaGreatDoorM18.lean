/- A part; no condition. -/
import Derived.Test.YtpjdjlnknfmfkaaGreatDoorM11
import Derived.Test.YtpjdjlnknfmfkaaGreatDoorM16
import Derived.Test.YtpjdjlnknfmfkaaGreatDoorM17
set_option linter.all false
set_option maxHeartbeats 8000000
set_option maxRecDepth 100000
namespace Go.Proofs.YtpjdjlnknfmfkaaGreatDoor
open Go.Proofs.Tryz
variable{cv v u:bt}{o0 o:Obj}{w W W' W1 w1 w':bq}{id:Int}{M M' F:bY}{base g i:Nat}{t:TypeId}{S:List Int}
section
open Go.RowKit Go.Shelf
def Qh(k:Int)(F:Nat):Prop:=(k=1/\F=71)\/(k=3/\F=73)\/(k=4/\F=74)\/(k=7/\F=77)
def allM(M:bY)(p:rT)(z:Nat):Nat->Prop:=λi=>M i\/wF p z i
def Qi(M:bY)(z:Nat)(p:rT)(W:bq)(rs:List bT):Prop:=(∃a n c,p.ov=xL a n c)/\aS (allM M p z) W p.rv rs
def Bs(rs:List bT)(t:qk)(o:uJ)(J:qk->Prop):Prop:=∃F:Nat,Qh o.bg F/\∀(M:bY)(z:Nat)(p:rT)(W:bq)(vv df:bt),IZ M z p->mh t M z p W->Gd W->aS (allM M p z) W vv o.bR->aS (allM M p z) W df o.CL.aW->Bm o vv df->Qi M z p W rs->
 xC F #[xP p.T,zR o.bg o.id o.dz o.aX vv o.CL.aX df] W λe w'=>e=xR (.tuple #[])/\(∃t',J t'/\mh t' M z p w')/\bh (wF p z) W w'
def Ja(rs:List bT)(t:qk)(o:uJ)(n:Int):Prop:=∃F:Nat,Qh o.bg F/\∀(M:bY)(z:Nat)(p:rT)(W:bq)(vv df:bt),IZ M z p->mh t M z p W->Gd W->aS (allM M p z) W vv o.bR->aS (allM M p z) W df o.CL.aW->Bm o vv df->Qi M z p W rs->
 xC F #[xP p.T,zR o.bg o.id o.dz o.aX vv o.CL.aX df] W λe w'=>e= .panicked (yR n)/\bh (wF p z) W w'
structure CF(x:bU)(t:qk):Prop where
 recs:∃ds:List mB,t.defs=ds.map Subtype.val/\ds.length<=40/\(yT ds t.bN t.bB).Pairwise (λa b=>Bk (yS a.1) (yS b.1)=true)/\∃y,fL y/\mP x ((yT ds t.bN t.bB).map Subtype.val) y
 rise:(dV t.bN).Pairwise (·< ·)
 AX:gJ t.bB
 mL:∀r∈t.bB,r.aX.size<=maxLen
 olen:t.bN.length<=400
 rlen:t.bB.length<=400
def S9 {kv:bt}{n:Int}(h:Bx w [o0,eX 45 cv,eX 46 (),eX 3 (xI 0),eX 42 (xI 0)] W)
 (hW:W'=((((W.setCell ([w],0) cv).setCell ([w,w],0) kv).setCell ([w,w,w],0) n).setCell (w.heap.size+1+1+1+1,0) (xI 0)).drew):
 Bx w [o0,eX 45 cv,eX 46 kv,eX 3 n,eX 42 (xI 0)] W'/\bh (λk=>w<=k/\k<↑w+5) W W':=by
 have h1:=h.set 1 0 (v:=cv) rfl;have h2:=h1.set 2 0 (v:=kv) rfl;have h3:=h2.set 3 0 (v:=xI n) rfl;have h4:=(h3.set 4 0 (v:=xI 0) rfl).drew;refine⟨by rw[hW];simpa [eX]using h4,?_⟩;rw[hW];exact(((((bh.refl (λk=>w<=k/\k<↑w+5) W).setCell (p:=⟨[w],0,none⟩) (.inl ⟨by simp,by simp⟩) _).setCell (p:=⟨[w,w],0,none⟩) (.inl ⟨by simp;omega,by simp⟩) _).setCell (p:=⟨[w,w,w],0,none⟩) (.inl ⟨by simp;omega,by simp⟩) _).setCell (p:=⟨w.heap.size+1+1+1+1,0,none⟩) (.inl ⟨by simp;omega,by simp⟩) _).drew
def Qj(x:bU)(l:List uJ)(M:bY)(J:Nat->qk->Prop)(u:bt)(w':bq):Prop:=∃(t:qk)(ds:List mB)(cv kv:bt),J l.length t/\t.defs=ds.map Subtype.val/\u= .tuple #[cv,kv,xI (x.next+madeOf l),xI 0]/\aS M w' cv ((yT ds t.bN t.bB).map Subtype.val)/\aS M w' kv t.reads
def Ta {rs:List bT}{t:qk}{o:uJ}{J:qk->Prop}{B:Int->Prop}(h:Bs rs t o J\/∃n,B n/\Ja rs t o n):∃F:Nat,Qh o.bg F/\∀(M:bY)(z:Nat)(p:rT)(W:bq)(vv df:bt),IZ M z p->mh t M z p W->Gd W->aS (allM M p z) W vv o.bR->aS (allM M p z) W df o.CL.aW->Bm o vv df->Qi M z p W rs->
 xC F #[xP p.T,zR o.bg o.id o.dz o.aX vv o.CL.aX df] W λe w'=>((e=xR (.tuple #[])/\∃t',J t'/\mh t' M z p w')\/∃n,B n/\e= .panicked (yR n))/\bh (wF p z) W w':=by
 rcases h with⟨F,hF,h⟩|⟨n,hB,F,hF,h⟩
 .exact⟨F,hF,λM z p W vv df h1 h2 h3 h4 h5 h6 h7=>(h M z p W vv df h1 h2 h3 h4 h5 h6 h7).mono λ_ _ k=>⟨.inl ⟨k.1,k.2.1⟩,k.2.2⟩⟩
 exact⟨F,hF,λM z p W vv df h1 h2 h3 h4 h5 h6 h7=>(h M z p W vv df h1 h2 h3 h4 h5 h6 h7).mono λ_ _ k=>⟨.inr ⟨n,hB,k.1⟩,k.2⟩⟩
def CG(x:bU)(hx:fL x)(l:List uJ)(hl:l.length<=20)(M:bY)(w:bq)(hM:Bd M w)(hG:Gd w)(lv ov rv qv:bt)(iH:aS M w lv x.bH)(hov:aS M w ov x.bN)(ib:aS M w rv x.bB)(hq:aS M w qv l)
 (hR:∀o∈l,yU M w o)(zA:madeOf l=0\/x.next+madeOf l-1<=100000)(B:Int->Prop)
 (J:Nat->qk->Prop)(h0:(yV l/\∀L:List Int,(∀n,n∈L↔Mk.wD (cV x) (dT x) n)->L.length<=500->J 0 ⟨x.bH,x.next,L,madeOf l,0,[],[],[],[]⟩)\/(Fq l/\B 170))(vP:∀i o t,l[i]? =some o->J i t->Bs x.bB t o (J (i+1))\/∃n,B n/\Ja x.bB t o n)(JG:∀t,J l.length t->CF x t):
 xG 8 #[.agg #[lv,ov,rv,x.next],qv] w λu w'=>(∃n,B n/\u= .tuple #[(),(),xI 0,xI n])\/Qj x l M J u w':=by
 have BC:∀(fn:Fn)(bu cap:Array bt)(w:bq),(Instr.makeFunc fn bu cap).run prog w= .ok (.func fn bu cap) w:=λ_ _ _ _=>rfl;have XW:=ie (w:=w) (λW hb=>Bq x W lv ov rv hx (hG.aT hb) ((iH.aT hb).ev (Ev.eO W λi hi=>hi.elim)) ((hov.aT hb).ev (Ev.eO W λi hi=>hi.elim)) ((ib.aT hb).ev (Ev.eO W λi hi=>hi.elim)));have CS:=ie (w:=w) (λW hb=>Qd x.next ⟨by have:=hx.next;omega,by have:=hx.next;omega⟩ l hl M W lv ov rv qv (by have⟨a,c,e,_⟩:=iH.bj;exact⟨_,_,_,e⟩) (by have⟨a,c,e,_⟩:=hov.bj;exact⟨_,_,_,e⟩) (by have⟨a,c,e,_⟩:=ib.bj;exact⟨_,_,_,e⟩) (hq.aT hb) (λo ho W' vv df hb' h1 h2 h3=>hR o ho W' vv df (hb.trans (hb'.mono hb.size)) h1 h2 h3) zA (h0.imp And.left And.left));obtain⟨M1,TZ⟩:∃M1:bY,M1=(λi=>M i\/(w<=i/\i<↑w+5)):=⟨_,rfl⟩;have hMM:∀i,M1 i->M i\/w.heap.size<=i:=λi hi=>by
  rw[TZ]at hi;exact hi.imp_right λe=>e.1
 have hE:∀W,bC w W->Ev M w M1 W:=λW hb=>⟨bh.bA hb,hMM⟩;have JI:Hd (∀W,w.heap.size+5<=W.heap.size->Bd M1 W):=λW hz i hi=>by
  rw[TZ]at hi;rcases hi with hi|hi
  .have:=hM i hi;omega
  omega
 have HBG:Hd (∀(W:bq)(L:List Int)(wv:bt)(n:Int),bC w W->w.heap.size+5<=W->aS xF W wv L->L.length<=1000->_):=λW L wv n hb hz hL YI=>MO x M1 W (JI.o W hz) lv ov rv wv (iH.ev (hE W hb)) (hov.ev (hE W hb)) (ib.ev (hE W hb)) L hL (by have:=hx.len;omega) YI n;have zj:Hd (∀W,bC w W->∀i o,l[i]? =some o->_):=λW hb i o ho=>Qa (hq.ev (M':=λi=>M i\/w.heap.size<=i) ⟨bh.bA hb,λi hi=>hi⟩) ho;have HPR:Hd (∀W,bC w W->aS (λi=>M i\/w<=i) W rv x.bB):=λW hb=>ib.ev ⟨bh.bA hb,λi hi=>hi⟩;have pB:Hd (∀(y:bU)(recs:List fC)(W:bq)(cv:bt),fL y->mP x recs y->recs.length<=1000->bC w W->w.heap.size+5<=W->aS M1 W cv recs->_):=λy recs W cv hy hd hn hb hz hc=>Bg x y hx hy recs hd hn M1 W (JI.o W hz) (hG.aT hb) lv ov rv cv (iH.ev (hE W hb)) (hov.ev (hE W hb)) (ib.ev (hE W hb)) hc;have JC:Hd (∀L:List Int,Mk.PB L->(∀n,n∈L↔Mk.wD (cV x) (dT x) n)->L.length<=500):=λL hr hL=>by
  have h1:=je (dV x.bN) L (hr.imp (λ{a b}h e=>by omega)) (λn hn=>hx.closed.Ud ((hL n).1 hn));have h2:=hx.len;unfold dV at h1;rw[aL]at h1;omega
 have zW:=aV TZ;have HJ0:=aV h0;have HJS:=aV vP;have HJE:=aV JG;have HGD:=aV hG;have HMD:=aV zA;have HXN:=aV hx.next;have QT:=aV hx.len;obtain⟨la,lc,rfl,-⟩:=iH.bj;obtain⟨oa,oc,rfl,-⟩:=hov.bj;obtain⟨ra,rc,rfl,-⟩:=ib.bj;obtain⟨qa,qc,rfl,hqc,hqm,-⟩:=hq.bj;clear hx iH hov ib hq hM hG hR zA h0 vP JG TZ hMM hE;generalize rW:x.next=nx at*;generalize qJ:x.bH.length=m1 at*;generalize hm2:x.bN.length=m2 at*;generalize Nv:x.bB.length=m3 at*;generalize hnn:l.length=n at*;have rX:=aV rW;clear rW;have zX:=aV qJ;clear qJ;have lJ:=aV hm2;clear hm2;have RT:=aV Nv;clear Nv;have wP:=aV hnn;clear hnn;have dp:=aV (Bx.Ou w (dI (xL la m1 lc) (xL oa m2 oc) (xL ra m3 rc) nx) (eX 45 ()) (eX 46 ()) (eX 3 (xI 0)) (eX 42 (xI 0)));go_enter_defers func8,ntmps8;go_upto_region 2 with fail;have⟨W1,hW1⟩:=dd (((((w.alloc (dI (xL la m1 lc) (xL oa m2 oc) (xL ra m3 rc) nx)).alloc (eX 45 ())).alloc (eX 46 ())).alloc (eX 3 (xI 0))).alloc (eX 42 (xI 0)));rw[<-hW1]at dp;unfold dI eX at hW1;rw[<-hW1];clear hW1;have gy:=aV dp.o.1;have⟨a0,a1,a2,a3⟩:=aU (dp.o.cP rfl);go_wp2_with fail;refine(XW.o _ dp.o.1).mono ?_;rintro e w2⟨_,rfl,⟨L,wv,rfl,hL,TD,hLi⟩,cJ⟩;have YI:=JC.o L TD hLi;have HLI:=aV hLi;have pA:=aV hL;have bZ:=aV (dp.o.aT cJ);obtain⟨wa,wc,rfl,-⟩:=hL.bj;have Aa:Hd (L.length<=500):=YI;clear hL TD hLi cJ a0 a1 a2 a3 YI;have⟨a0,a1,a2,a3⟩:=aU (bZ.o.cP rfl);have NY:=aV Bh;go_wp2_with fail;refine(NY.o _).mono ?_;rintro e w3⟨rfl,rfl⟩;go_wp2_with fail;refine(CS.o _ bZ.o.1).mono ?_;rintro e w4⟨hnw,eZ⟩;have fh:=aV (bZ.o.aT eZ);rcases hnw with⟨hng,rfl⟩|⟨QQ,rfl⟩;rotate_left
 .exact yW fh.o (by simp[go_sem]) (λW' z1 z2 z3 z4=>by simp[results,results8,go_sem,z1,z2,z3,z4]) λW' hb=>⟨_,rfl, .inl ⟨170,HJ0.o.elim (λh=>(Qc h.1 QQ).elim) And.right,rfl⟩,hb⟩
 have HJG:Hd (∀L:List Int,_):=HJ0.o.elim And.right λh=>(Qc hng h.1).elim;clear hng HJ0;have nk:=aV (HBG.o w4 L _ (madeOf l) fh.o.1 fh.o.cM (pA.o.aT eZ) (by have:=Aa.o;omega));clear eZ a0 a1 a2 a3;have⟨a0,a1,a2,a3⟩:=aU (fh.o.cP rfl);generalize zA:(madeOf l:Int)=md at*;have vM:=aV zA;clear zA;go_wp2_with fail;refine(nk.o).mono ?_;rintro e w5⟨p,rfl,hov,ib,hA,hS,hT,iz⟩;have HPV:=aV (And.intro hov ib);have HTA:=aV hA;have Ac:=aV hS;have HTT:=aV hT;have jF:=aV (fh.o.aT iz);clear hov ib hA hS hT iz a0 a1 a2 a3;have HDO:=aV P9;go_wp2_with fail;refine(HDO.o _).mono ?_;rintro e w6⟨db,rfl,hda,Jp,kN⟩;have ph:=aV (jF.o.aT kN);have Gn:=aV (HTT.o w6 kN);have XX:=aV (HTA.o _ kN.size);have HDA:=aV hda;have HDB:Hd (w5<=db/\db<w6/\w.heap.size+5<=w5):=⟨Jp,hda.lt,jF.o.cM⟩;have tT:Hd (∀i,ng p i->w4.heap.size<=i/\i<w5.heap.size):=λi hi=>⟨Ac.o i hi,(HTA.o _ cN).lt i hi⟩;clear hda Jp kN HTT HTA Ac;have zu:Hd (∀i,allM M1 p w6 i->M i\/w.heap.size<=i):=λi hi=>by
  have h4:=fh.o.1.size;have h6:=ph.o.1.size;rcases hi with hi|hi|hi
  .rw[zW.o]at hi;exact hi.imp_right λe=>e.1
  .have:=tT.o i hi;omega
  omega
 generalize hz:w6.heap.size=z at*;have HZ:=aV hz;clear hz;have iG:Hd ((∃t,J 0 t/\mh t M1 z p w6)/\bh (wF p z) w6 w6):=⟨⟨_,HJG.o L HLI.o Aa.o,Gn.o⟩,bh.refl _ _⟩;have HFZ:Hd (∀i,i<w5.heap.size->¬ng p i->¬wF p z i):=λi hi hn hf=>by
  rcases hf with hf|hf
  .exact hn hf
  have:=HDB.o;omega
 have HBO:Hd (∀j,wF p z j->w.heap.size+5<=j):=λj hj=>by
  have h1:=HDB.o;have h4:=fh.o.cM;simp at h4;rcases hj with hj|hj
  .have:=tT.o j hj;omega
  omega
 go_wp2;go_loopg [14,33]n(λgg _ iv wr=>∃i:Nat,gg=n-i/\i<=n/\iv=xI i/\Hd ((∃t,J i t/\mh t M1 z p wr)/\bh (wF p z) w6 wr));exact⟨0,rfl,ax _,rfl,iG⟩;obtain⟨i,rfl,hi,rfl,HS⟩:=hrel;rename World=>wr;have Dd:Hd (Bx w [dI (xL la m1 lc) (xL oa m2 oc) (xL ra m3 rc) nx,eX 45 (),eX 46 (),eX 3 (xI 0),eX 42 (xI 0)] wr):=ph.o.only HS.o.2 HBO.o;have NQ:Hd (kM wr db):=HDA.o.same (HS.o.2.block db HDA.o.lt (λhf=>by
  have h1:=HDB.o;rcases hf with hf|hf
  .have:=tT.o db hf;omega
  omega));by_cases cE:i<n
 .have⟨o,ho⟩:=fg l i (by have:=wP.o;omega);have⟨b,off,cap,vv,df,hv1,hvv,hdf,hzv,hrg⟩:=zj.o wr Dd.o.1 i o ho;obtain⟨rfl,rfl⟩:=jk hv1;have Q9:=aV (hrg wr eH);have⟨t,hJ,hTx⟩:=HS.o.1;have⟨F,hF,hdo⟩:=Ta (HJS.o i o t ho hJ);have qbz:=ie (w:=wr) (λW hb=>hdo M1 z p W vv df XX.o (hTx.aT hb) (HGD.o.aT (Dd.o.1.trans (hb.mono Dd.o.1.size))) ((hvv.ev (Ev.eO wr zu.o)).aT hb) ((hdf.ev (Ev.eO wr zu.o)).aT hb) hzv ⟨⟨_,_,_,HPV.o.1⟩,by rw[HPV.o.2];exact((HPR.o wr Dd.o.1).ev (Ev.eO wr zu.o)).aT hb⟩);have C6:=ie (w:=wr) (λW hb=>(NQ.o.same (hb.block _ NQ.o.lt)).look hF);obtain⟨va,vc,rfl,-⟩:=hvv.bj;obtain⟨da,dc,rfl,-⟩:=hdf.bj;clear hv1 hvv hdf hzv hrg ho hdo hJ hTx;generalize o.bR.length=vn at*;generalize o.CL.aW.length=dn at*;have HFF:=aV hF;clear hF;go_upto_region 9 with fail;iterate 4 go_step
  refine lh rfl (.tmp 35) rfl b (off+i*19) rfl Q9.o ?_;iterate 3 go_step
  refine mj rfl (.tmp 14) (.tmp 36) rfl rfl rfl rfl rfl λW3 mn cR=> ?_;have k0:=(cQ mn.o).c0;have mD:=C6.o _ cR.o;have HD3:=aV (qbz.o _ cR.o);clear qbz C6 Q9;dsimp only[Fp]at mD;have hfd:∀(f:Nat)(W:bq),(Instr.field 110 (.agg #[.func (.func f) #[] #[]]) 0).run prog W= .ok (.func (.func f) #[] #[]) W:=λ_ _=>by kernel_rfl
  have hF:=HFF.o;clear HFF;go_upto_region 10 with fail;rcases hF with⟨-,rfl⟩|⟨-,rfl⟩|⟨-,rfl⟩|⟨-,rfl⟩;all_goals
   go_wp2_with(refine ew rfl (.tmp 14) rfl wr rfl mn.o ?_);refine(HD3.o).mono ?_;rintro e w9⟨NP,ho'⟩;rcases NP with⟨rfl,BA⟩|⟨en,hen,rfl⟩;rotate_left
   .exact yW ((Dd.o.aT cR.o).only ho' HBO.o) (by simp[go_sem]) (λW' z1 z2 z3 z4=>by simp[results,results8,go_sem,z1,z2,z3,z4]) λW' hb=>⟨_,rfl, .inl ⟨en,hen,rfl⟩,hb⟩
   have HN:Hd ((∃t,J (i+1) t/\mh t M1 z p w9)/\bh (wF p z) w6 w9):=⟨BA,(HS.o.2.trans (bh.bA cR.o)).trans ho'⟩;clear BA ho' mD k0;go_wp2;go_roundg(n-(i+1));exact⟨i+1,rfl,by omega,by go_num,HN⟩;omega
 obtain rfl:i=n:=by omega
 have⟨t,hJ,hTx⟩:=HS.o.1;have hE:=HJE.o t hJ;have⟨ds,hds,hdl,hst,y,hy,hdo⟩:=hE.recs;have HRK:=aV (I5 t M1 z p XX.o wr hTx ds hds hdl hE.mL hE.rise hE.AX (by have:=hE.olen;omega) (by have:=hE.rlen;omega) hst);obtain⟨sv,dv,kv,h1,-,-,h4,-⟩:=hTx.st;have HKV:Hd (aS M1 wr kv t.reads):=(h4.more λk hk=> .inl (.inl hk)).slice (λk hk=>XX.o.far k hk);have JJ:=aV h1;have RF:Hd (p.T<w5/\w4<=p.T):=⟨(tT.o p.T (.inl rfl)).2,(tT.o p.T (.inl rfl)).1⟩;have HJT:=aV (And.intro hJ (And.intro hds (And.intro hy hdo)));have UX:=aV (show((yT ds t.bN t.bB).map Subtype.val).length<=1000 by
  have h2:=hE.olen;have h3:=hE.rlen;unfold yT;simp;omega);obtain⟨ka,kn,kc,rfl⟩:∃a n c,kv=xL a n c:=by have⟨a,c,e,_⟩:=h4.bj;exact⟨_,_,_,e⟩
 clear hJ hTx hE hds hdl hst hy hdo h1 h4;go_wp2_with fail;refine(HRK.o).mono ?_;rintro e w8⟨_,rfl,hsl,F1⟩;obtain⟨ca,cc,rfl,-⟩:=hsl.bj;generalize JK:((yT ds t.bN t.bB).map Subtype.val).length=rl at*;have XY:=aV (Dd.o.aT F1);have qfa:=aV hsl;have qfb:=aV (HKV.o.aT F1);have qb0:Hd (cX w8 p.T (CY p sv t.next t.news t.made dv (xL ka kn kc))):=(F1.block _ (ab.1 JJ.o).1).trans JJ.o;have x1:=one_cell (XY.o.cZ rfl);have y1:=aY (XY.o.cZ rfl) 0;have qfc:=aV JK;clear hsl F1 JK;go_upto_region 13 with fail;clear x1 y1;have⟨W9,hW9⟩:=dd (w8.setCell ([w],0) (xL ca rl cc));have HO9:=aV (show bh (λk=>k=[w]) w8 W9 by rw[hW9];exact(bh.refl (λk=>k=[w]) w8).setCell (p:=⟨[w],0,none⟩) (.inl rfl) _);have RG:=aV (show Bx w [dI (xL la m1 lc) (xL oa m2 oc) (xL ra m3 rc) nx,eX 45 (xL ca rl cc),eX 46 (),eX 3 (xI 0),eX 42 (xI 0)] W9 by
  rw[hW9];have h:=XY.o.set 1 0 (v:=xL ca rl cc) rfl;simpa [eX]using h);rw[<-hW9];clear hW9;have hE9:Ev M1 w8 M1 W9:=⟨HO9.o.mono λk hk=>by rw[zW.o];right;have hk:k=[w]:=hk;omega,λk hk=> .inl hk⟩;have qb1:=aV (qfa.o.ev hE9);have qfd:=aV (qfb.o.ev hE9);have qb2:Hd (cX W9 p.T (CY p sv t.next t.news t.made dv (xL ka kn kc))):=(HO9.o.block _ (ab.1 qb0.o).1 (by have:=RF.o;have:=fh.o.cM;simp at this;omega)).trans qb0.o;clear hE9;have zu:=aV (pB.o y _ W9 _ HJT.o.2.2.1 HJT.o.2.2.2 (by rw[qfc.o];exact UX.o) RG.o.1 RG.o.cM qb1.o);have⟨a0,a1,a2,a3⟩:=aU (RG.o.cP rfl);have x1:=one_cell (RG.o.cZ rfl);go_wp2_with fail;refine(zu.o).mono ?_;rintro e w10⟨_,rfl,⟨l2,o2,r2,rfl,hl2,ho2,hr2⟩,nY⟩;obtain⟨l2a,l2c,rfl,-⟩:=hl2.bj;obtain⟨o2a,o2c,rfl,-⟩:=ho2.bj;obtain⟨r2a,r2c,rfl,-⟩:=hr2.bj;have Ak:=aV (RG.o.aT nY);have qfe:=aV (qb1.o.aT nY);have qff:=aV (qfd.o.aT nY);have qfg:Hd (cX w10 p.T (CY p sv t.next t.news t.made dv (xL ka kn kc))):=(nY.block _ (ab.1 qb2.o).1).trans qb2.o;clear hl2 ho2 hr2 nY a0 a1 a2 a3 x1;go_wp2_with fail;refine(NY.o _).mono ?_;rintro e w11⟨rfl,rfl⟩;have⟨a0,a1,a2,a3⟩:=aU (Ak.o.cP rfl);have x1:=one_cell (Ak.o.cZ rfl);have x2:=one_cell (Ak.o.im rfl);have x3:=one_cell (Ak.o.Au rfl);have x4:=one_cell (Ak.o.X7 rfl);have y1:=aY (Ak.o.cZ rfl) 0;have y2:=aY (Ak.o.im rfl) 0;have y3:=aY (Ak.o.Au rfl) 0;have y4:=aY (Ak.o.X7 rfl) 0;obtain⟨-,-,-,-,-,-,-,-,-,t12,-⟩:=fA qfg.o;have hT1:p.T≠[w]:=by have:=RF.o;have:=fh.o.cM;simp at this;omega
 have hT2:p.T≠[w,w]:=by have:=RF.o;have:=fh.o.cM;simp at this;omega
 have hT3:p.T≠[w,w,w]:=by have:=RF.o;have:=fh.o.cM;simp at this;omega
 have hT4:p.T≠w.heap.size+1+1+1+1:=by have:=RF.o;have:=fh.o.cM;simp at this;omega
 have hn1:(1:Int)<=nx:=HXN.o.1;have hn2:nx<=100001:=HXN.o.2;have Yu:(0:Int)<=md:=by rw[<-vM.o];omega
 have hm9:md<=100:=by have h:=KA l;have h2:=wP.o;rw[<-vM.o];omega
 go_upto_region 15 with fail;go_region_held3(λV=>zB V w 0 (xL ca rl cc)/\oT V w 3 nx/\cC V p.T 12 (xL ka kn kc))
  (first|(refine⟨?_,?_,?_⟩<;>simp_all[go_sem])|fail)
  (first|fail);rw[show IntKind.i64.wrap (nx+md)=nx+md from aw _ (by omega)];have⟨W',hW'⟩:=dd (((((w11.setCell ([w],0) (xL ca rl cc)).setCell ([w,w],0) (xL ka kn kc)).setCell ([w,w,w],0) (xI (nx+md))).setCell (w.heap.size+1+1+1+1,0) (xI 0)).drew);have Ad:=aV (S9 Ak.o hW');rw[<-hW'];clear hW' a0 a1 a2 a3 x1 x2 x3 x4 y1 y2 y3 y4 t12 hT1 hT2 hT3 hT4;have z1:=one_cell (Ad.o.1.cZ rfl);have z2:=one_cell (Ad.o.1.im rfl);have z3:=one_cell (Ad.o.1.Au rfl);have z4:=one_cell (Ad.o.1.X7 rfl);go_wp2_with fail;refine leaves_cons (f:=24) (args:= #[xP [w],xP [w,w],xP [w,w,w],xP (w.heap.size+1+1+1+1)]) (by simp) (by simp[go_sem]) ?_;refine(Qe ⟨[w],0,none⟩ ⟨[w,w],0,none⟩ ⟨[w,w,w],0,none⟩ ⟨w.heap.size+1+1+1+1,0,none⟩ _).mono ?_;rintro e u' w''⟨rfl,rfl,rfl⟩;have hE:Ev M1 w11 M w'':=⟨Ad.o.2.mono λk hk=>by rw[zW.o];exact .inr hk,λk hk=> .inl (by rw[zW.o];exact .inl hk)⟩;refine⟨.tuple #[xL ca rl cc,xL ka kn kc,xI (nx+md),xI 0],by simp[results,results8,go_sem,z1,z2,z3,z4],⟨_,rfl, .inr ⟨t,ds,_,_,by rw[wP.o];exact HJT.o.1,HJT.o.2.1,by rw[rX.o,vM.o],qfe.o.ev hE,qff.o.ev hE⟩,Ad.o.1.1⟩⟩
def Qk(x:bU)(hx:fL x)(l:List uJ)(hl:l.length<=20)(M:bY)(w:bq)(hM:Bd M w)(hG:Gd w)(lv ov rv qv:bt)(iH:aS M w lv x.bH)(hov:aS M w ov x.bN)(ib:aS M w rv x.bB)(hq:aS M w qv l)
 (hR:∀o∈l,yU M w o)(zA:madeOf l=0\/x.next+madeOf l-1<=100000)(hN:yV l)
 (J:Nat->qk->Prop)(h0:∀L:List Int,(∀n,n∈L↔Mk.wD (cV x) (dT x) n)->L.length<=500->J 0 ⟨x.bH,x.next,L,madeOf l,0,[],[],[],[]⟩)(vP:∀i o t,l[i]? =some o->J i t->Bs x.bB t o (J (i+1)))(JG:∀t,J l.length t->CF x t):
 xC 8 #[.agg #[lv,ov,rv,x.next],qv] w (de w (Qj x l M J)):=
 (CG x hx l hl M w hM hG lv ov rv qv iH hov ib hq hR zA (λ_:Int=>False) J (.inl ⟨hN,h0⟩) (λi o t h1 h2=> .inl (vP i o t h1 h2)) JG).mono λ_ _⟨u,h1,h2,h3⟩=>⟨u,h1,h2.resolve_left λ⟨_,h,_⟩=>h,h3⟩
def gJ.filter {l:List bT}(h:gJ l)(p:bT->Bool):gJ (l.filter p):=by
 unfold gJ at h⊢;exact h.sublist ((List.filter_sublist (l:=l) (p:=p)).map bT.aX)
abbrev unX(x:bU)(n:bS):bU:=⟨x.bH,x.bN,Cv x.bB n,x.next⟩
def fL.Ql {x:bU}(h:fL x)(n:bS):fL (unX x n):=
 ⟨h.sch,h.len,h.bN,h.rise,h.refs,aH (List.length_filter_le _ _) h.rlen,λr hr=>h.bB r (qh.1 hr).1,λr hr=>h.mL r (qh.1 hr).1,λi r s hr hs=>(h.AX.filter _).less hr hs,h.next⟩
def unOp(n:bS):uJ:=⟨4,0,(),n,[],⟨⟨#[]⟩,[]⟩⟩
def fL.Tc {x:bU}(h:fL x){r:bT}(hr:r∈x.bB):∃(i:Nat)(o0:cm)(k:Nat)(l:bQ),x.bN[i]? =some o0/\o0.id=r.id/\o0.dz=(k:Int)/\x.bH[k]? =some l/\ek x.bH l.bu.aX=k:=by
 have⟨o0,ho,e⟩:=aQ.1 (h.bB r hr);have⟨i,hi⟩:=aP ho;have⟨_,_,k,v,l,hk⟩:=h.bN i o0 hi;exact⟨i,o0,k,l,hi,e,hk.dz,hk.line,h.sch.apart k l hk.line⟩
def fL.Qm {x:bU}(h:fL x){r:bT}(hr:r∈x.bB):1<=r.id:=by
 have⟨o0,ho,e⟩:=aQ.1 (h.bB r hr);have⟨i,hi⟩:=aP ho;rw[<-e];exact(h.bN i o0 hi).1
def UnJ(n:bS)(i:Nat)(t:qk):Prop:=t.bN=[]/\t.defs=[]/\((i=0/\t.bB=[]/\t.reads=[])\/(i=1/\t.bB=[⟨n,0⟩]))
def Qn {x:bU}{n:bS}(hn:bF n=true/\n.size<=maxLen):mP x ((yT [] [] [⟨n,0⟩]).map Subtype.val) (unX x n):=
 .cons (Fi (r:=kk ⟨n,0⟩) rfl hn rfl) (.nil _)
def V9 {x:bU}(h:fL x){n:bS}(hn:bF n=true/\n.size<=maxLen){t:qk}(ht:UnJ n 1 t):CF x t:=by
 obtain⟨h1,h2,⟨e,_⟩|⟨_,h3⟩⟩:=ht
 .cases e
 refine⟨⟨[],by rw[h2];rfl,by simp,?_,unX x n,h.Ql n,?_⟩,?_,?_,?_,?_,?_⟩
 .rw[h1,h3];exact List.pairwise_singleton _ _
 .rw[h1,h3];exact Qn hn
 .rw[h1];exact List.Pairwise.nil
 .rw[h3];exact List.pairwise_singleton _ _
 .intro r hr;rw[h3,aR]at hr;rw[hr];exact hn.2
 .rw[h1];simp
 rw[h3];simp
def Bt(id:Int):uJ:=⟨7,id,(),(),[],⟨⟨#[]⟩,[]⟩⟩
def Jb {rs:List bT}{t:qk}(hr:id∉t.reach):Ja rs t (Bt id) 101:=
 ⟨_, .inr (.inr (.inr ⟨rfl,rfl⟩)),λM z p W vv df hA hT hG hv hd hz _=>by
   obtain rfl:=hz.1 rfl;obtain rfl:=hz.2 rfl;refine dx (ML t M z p W hT id hr) λw' h3=> ?_;exact⟨rfl,bh.bA h3⟩⟩
def Jc(h:1<=id/\id<=100000):yU M w (Bt id):=λW vv df _ _ _ hz=>by
 obtain rfl:=hz.1 rfl;obtain rfl:=hz.2 rfl;exact tC id h W
def MU {x:bU}(hx:fL x)(h:Mk.wD (cV x) (dT x) id):1<=id/\id<=100000:=by
 obtain⟨o,ho,rfl⟩:=aQ.1 (hx.closed.Ud h);have⟨i,hi⟩:=aP ho;have⟨h1,h2,_⟩:=hx.bN i o hi;have:=hx.next;omega
abbrev KC:bt:= .agg #[(),(),(),xI 0]
def CH(w:bq):xC 59 #[KC] w (di false w):=by
 have HX:=aV (Bx.fm w (dI () () () 0));delta xC;go_in;go_upto_region 1 with fail;have⟨W1,hW1⟩:=dd (w.alloc (dI () () () 0));rw[<-hW1]at HX;unfold dI at hW1;rw[<-hW1];clear hW1;have⟨a0,a1,a2,a3⟩:=aU (HX.o.cP rfl);go_wp2;go_ret;exact⟨rfl,HX.o.1⟩
def Fu(w:bq)(hT:Tb w):xC 21 #[KC] w λe w'=>(∃mb,e=xR (.tuple #[.agg #[(), .map mb],xI 100]))/\bC w w':=by
 have Gg:=ie (w:=w) (λW hb=>qF [] ⟨by simp,by simp,by simp⟩ xF W (λi h=>h.elim) (hT.aT hb) () (aS.nil _ _));have HOR:=aV CH;have HX:=aV (Bx.ei w (dI () () () 0) (xK #[(), .map none] 93));clear hT;delta xC;go_in;go_upto_region 1 with fail;have⟨W1,hW1⟩:=dd ((w.alloc (dI () () () 0)).alloc (xK #[(), .map none] 93));rw[<-hW1]at HX;unfold dI at hW1;rw[<-hW1];clear hW1;have⟨a0,a1,a2,a3⟩:=aU (HX.o.cP rfl);go_wp2_with fail;refine dx (Gg.o _ HX.o.1) λw2 hb=> ?_;have gz:=aV (HX.o.aT hb);clear hb a0 a1 a2 a3;have⟨a0,a1,a2,a3⟩:=aU (gz.o.cP rfl);go_wp2_with fail;refine dx (HOR.o _) λw3 hb=> ?_;have mn:=aV (gz.o.aT hb);clear hb a0 a1 a2 a3;have⟨b0,b1⟩:=aZ (mn.o.cZ rfl);have⟨f0,f1⟩:=nZ (mn.o.cZ rfl);go_wp2_with fail;refine ah (v:= .tuple #[.agg #[(), .map none],xI 100]) (by simp[results,results21,go_sem,b0,b1,f0,f1]) rfl ⟨⟨none,rfl⟩,?_⟩;exact(mn.o.1.setCell (p:=⟨[w],0,none⟩) (by simp) _).setCell (p:=⟨[w],1,none⟩) (by simp) _
def Jd(w:bq)(hT:Tb w):xC 11 #[KC] w (di (.tuple #[(),xI 100]) w):=by
 have HX:=aV (Bx.fm w (dI () () () 0));have U4:=aV (Fu _ (hT.aT HX.o.1));clear hT;delta xC;go_in;go_upto_region 1 with fail;have⟨W1,hW1⟩:=dd (w.alloc (dI () () () 0));rw[<-hW1]at HX U4;unfold dI at hW1;rw[<-hW1];clear hW1;have⟨a0,a1,a2,a3⟩:=aU (HX.o.cP rfl);go_wp2_with fail;refine(U4.o).mono ?_;rintro e w2⟨⟨mb,rfl⟩,hb⟩;have gz:=aV (HX.o.aT hb);clear hb a0 a1 a2 a3;go_wp2_with fail;exact ah (results_tmp2 rfl _ _ _) rfl ⟨rfl,gz.o.1.alloc gz.o.1.size _⟩
def Qo(w:bq)(hT:Tb w)(qa:fM)(qn qc:Nat):xG 8 #[KC,xL qa qn qc] w λu w'=>u= .tuple #[(),(),xI 0,xI 100]:=by
 have BC:∀(fn:Fn)(bu cap:Array bt)(w:bq),(Instr.makeFunc fn bu cap).run prog w= .ok (.func fn bu cap) w:=λ_ _ _ _=>rfl;have dp:=aV (Bx.Ou w (dI () () () 0) (eX 45 ()) (eX 46 ()) (eX 3 (xI 0)) (eX 42 (xI 0)));have XW:=aV (Jd _ (hT.aT dp.o.1));have NY:=aV (MH 100 (by decide));clear hT;go_enter_defers func8,ntmps8;go_upto_region 2 with fail;have⟨W1,hW1⟩:=dd (((((w.alloc (dI () () () 0)).alloc (eX 45 ())).alloc (eX 46 ())).alloc (eX 3 (xI 0))).alloc (eX 42 (xI 0)));rw[<-hW1]at dp XW;unfold dI eX at hW1;rw[<-hW1];clear hW1;have⟨a0,a1,a2,a3⟩:=aU (dp.o.cP rfl);go_wp2_with fail;refine(XW.o).mono ?_;rintro e w2⟨rfl,cJ⟩;have fh:=aV (dp.o.aT cJ);clear cJ a0 a1 a2 a3;go_wp2_with fail;refine(NY.o _).mono ?_;rintro e w4⟨rfl,rfl⟩;exact yW fh.o (by simp[go_sem]) (λW' z1 z2 z3 z4=>by simp[results,results8,go_sem,z1,z2,z3,z4]) λW' hb=>⟨_,rfl,rfl,hb⟩
def MV(t:qk)(M:bY)(z:Nat)(p:rT)(W:bq)(h:mh t M z p W)(h8:t.sch.length<=8)(aX:bS)(n:Nat)(hn:ek t.sch aX=n):xC 152 #[xP p.T,aX] W (di n W):=by
 obtain⟨sv,dv,kv,h1,h2,-⟩:=h.st;obtain⟨c0,-⟩:=fA h1;have HF:=aV (EP _ sv W t.sch aX h2 h8 n hn);have HU:=aV (nQ 170);obtain⟨sa,sc,rfl,-⟩:=h2.bj;generalize t.sch.length=sn at*;delta xC;go_in;go_wp2_with fail;refine(HF.o).mono ?_;rintro e w2⟨rfl,hb⟩;have HB:=aV hb;go_wp2_with fail;refine(HU.o _).mono ?_;rintro e w3⟨rfl,rfl⟩;go_wp2;go_ret;exact⟨rfl,HB.o⟩
def CI(T:bt)(k n:Int)(s:bS)(a:fM)(c:Nat)(hk:k≠3/\k≠4)(w:bq):xC 156 #[T, .agg #[k,n,s,xL a 0 c]] w (di (.agg #[k,n,s,()]) w):=by
 have h3:(k==3)=false:=by simpa using hk.1
 have h4:(k==4)=false:=by simpa using hk.2
 have HX:=aV (Bx.ei w (fT k n s (xL a 0 c)) (fT 0 0 () ()));clear hk;delta xC;go_in;go_upto_region 1 with fail;have⟨W1,hW1⟩:=dd ((w.alloc (fT k n s (xL a 0 c))).alloc (fT 0 0 () ()));rw[<-hW1]at HX;unfold fT at hW1;rw[<-hW1];clear hW1;have⟨c0,c1,c2,c3⟩:=aU (HX.o.cP rfl);have⟨b0,b1,b2,b3⟩:=aU (HX.o.cZ rfl);have d3:=aY (HX.o.cP rfl) 3;have⟨f0,f1,f2,f3⟩:=iS (HX.o.cZ rfl);go_wp2;go_loopg [5,7,24]0(λgg v5 _ iv wr=>gg=0/\v5=()/\iv=xI 0/\wr=W1);exact⟨rfl,rfl,rfl,rfl⟩;obtain⟨rfl,rfl,rfl,rfl⟩:=hrel;go_wp2_with fail;refine ah (v:= .agg #[k,n,s,()]) (by simp[results,results156,go_sem,c0,c1,c2,b0,b1,b2,b3,f0,f1,f2,f3]) rfl ⟨rfl,?_⟩;exact((((HX.o.1.setCell (p:=⟨w,3,none⟩) (by simp) _).setCell (p:=⟨[w],0,none⟩) (by simp) _).setCell (p:=⟨[w],1,none⟩) (by simp) _).setCell (p:=⟨[w],2,none⟩) (by simp) _).setCell (p:=⟨[w],3,none⟩) (by simp) _
def mh.E0 {x:qk}{z:Nat}{p:rT}(h:mh x M z p W)(ha:IZ M z p){rs:List bT}(o1:bh (λi=>i=p.mr) W W1)(hr:iw W1 p.mr rs):mh {x with bB:=rs} M z p W1/\bh (wF p z) W W1:=by
 have⟨⟨n1,n2,n3,n4,n5,n6⟩,⟨n7,n8,n9,n10⟩,⟨n11,n12,n13⟩,⟨n14,n15⟩,n16⟩:=ha.ne;have⟨sv,dv,kv,h1,h2,h3,h4,h5⟩:=h.st;have hzW:=h.low;have hs1:=o1.size;have hmr:ng p p.mr:=by unfold ng;simp
 have hb:∀i,ng p i->i≠p.mr->W1.heap[i]? =W.heap[i]? :=λi hi hne=>o1.block i (by have:=ha.lt i hi;omega) hne;have E:Ev (cz kv (qU M p)) W (cz kv (qU M p)) W1:=⟨o1.mono λi hi=> .inl (.inr (by have hi:i=p.mr:=hi;rw[hi];exact hmr)),λi hi=> .inl hi⟩;have a7:=h4.tz o1 (λi hi=> .inr (by have hi:i=p.mr:=hi;rw[hi];exact hmr)) (λg hg he=>by have h1:=(h4.dC g hg).1;have h2:g=p.mr:=he;have:=ha.lt p.mr hmr;omega);exact⟨⟨⟨sv,dv,kv,(hb p.T (by unfold ng;simp) n4).trans h1,h2.ev E,h3.ev E,a7,h5.ev E (hb p.mo (by unfold ng;simp) n11)⟩,h.reach.same (hb p.rb (by unfold ng;simp) n8),hr,(hb p.ms (by unfold ng;simp) (λe=>n14 e.symm)).trans h.snaps,h.seen.same (hb p.sb (by unfold ng;simp) (λe=>n15 e.symm)),aH h.low o1.size⟩,o1.mono λi hi=> .inl (by have hi:i=p.mr:=hi;rw[hi];exact hmr)⟩
def Qp(t:qk)(M:bY)(z:Nat)(p:rT)(ha:IZ M z p)(W:bq)(h:mh t M z p W)(id:Int)(n:bS)(hr:id∉t.reach)(hid: -20<=id/\id<0/\-id<=t.news)(hx:0<=t.next/\t.next<=1000000):
 xC 73 #[xP p.T,zR 3 id () n () () ()] W λe w'=>e=xR (.tuple #[])/\mh {t with bB:=tm t.bB ⟨n,t.next-id-1⟩} M z p w'/\bh (wF p z) W w':=by
 have HF:Hd (∀V,bC W V->_):=λV hb=>Bj t M z p V (h.aT hb) id hr;have HN:Hd (∀V,bC W V->xC 158 #[xP p.T,id] V λe w'=>e=xR (xI (t.next-id-1))/\w'=V):=λV hb=>by
  have h1:=numberT_ok t M z p V (h.aT hb) id ⟨by omega,by omega⟩ hx;rw[if_pos hid.2.1]at h1;exact h1
 have T3:Hd (∀V,bC W V->∃w',(Instr.mapUpdate 115 (.map (some p.mr)) n (xI (t.next-id-1))).run prog V= .ok () w'/\mh {t with bB:=tm t.bB ⟨n,t.next-id-1⟩} M z p w'/\bh (wF p z) W w'):=λV hb=>by
  have⟨w',e,h1,h2⟩:=(h.aT hb).bB.put (r:=⟨n,t.next-id-1⟩);have⟨h3,h4⟩:=(h.aT hb).E0 ha h2 h1;exact⟨w',e,h3,(bh.bA hb).dL h4 (λi hi _=>hi)⟩
 have HU:=aV (nQ 101);have HX:=aV (Bx.fm W (ir 3 id () n () () ()));obtain⟨sv,dv,kv,h1,-⟩:=h.st;have JJ:=aV h1;clear h hr h1 hx ha;obtain⟨g1,g2,g3⟩:=hid;generalize t.news=nw at*;generalize t.next=nx at*;delta xC;go_in;go_upto_region 1 with fail;have⟨W1,hW1⟩:=dd (W.alloc (ir 3 id () n () () ()));rw[<-hW1]at HX;unfold ir at hW1;rw[<-hW1];clear hW1;have pr:=aV (show W.heap.size<W1 by have:=HX.o.cM;simp at this;omega);have s0:=(cQ (HX.o.cP rfl)).c1;have s1:=(fA ((HX.o.1.block _ (ab.1 JJ.o).1).trans JJ.o)).2.2.2.1;have Gk:=aV (show decide (IntKind.i64.wrap (-id)<=nw)=true by rw[aw _ (by omega)];simpa using g3);go_cut [24](λ_ wx=>wx=W1.drew)
 .go_region_law(first
   |(go_simp;go_at_call 159;refine(HF.o _ HX.o.1.drew).mono ?_;rintro e w2⟨rfl,rfl⟩)
   |(go_simp;rw[show decide (IntKind.i64.wrap (-id)<=nw)=true from Gk.o];go_at_call 69;refine(HU.o _).mono ?_;rintro e w3⟨rfl,rfl⟩)
   |fail);all_goals(go_wp2;go_meet)
  all_goals exact rfl
 obtain rfl:=hcut;clear s0 s1;have gz:=aV HX.o.drew;go_upto_region 2 with fail;refine' j5 10 ?hl ?hm ?hB1 ?hB ?hh;case hl=>exact rfl
 case hm=>kernel_rfl
 case hB1=>kernel_rfl
 case hB=>kernel_rfl
 intro ι _ F jr vO;have s0:=λi=>(cQ ((gz.o.aT (jr i)).cP rfl)).c1;have s1:=λi=>(cQ ((gz.o.aT (jr i)).cP rfl)).c3;have s2:=λi=>(fA (((gz.o.aT (jr i)).1.block _ (ab.1 JJ.o).1).trans JJ.o)).2.2.2.2.2.2.1;have iY:=aV jr;have uR:=aV vO;clear jr vO;simp only[List.take_succ_cons,List.take_zero,Act.put,List.setIfInBounds_toArray,List.set_cons_zero,List.set_cons_succ];repeat(go_big_quiet_step(first
  |(go_at_call 158;refine(HN.o _ (gz.o.aT (iY.o _)).1).mono ?_;rintro e w3⟨rfl,rfl⟩;exact⟨rfl,uR.o _ (iY.o _)⟩)))
 refine wpQuiet_nil ?_;rintro _⟨nq,rfl⟩;have⟨w4,e4,h4,o4⟩:=T3.o _ (gz.o.aT (iY.o nq)).1;have H4:=aV (And.intro h4 o4);clear h4 o4 s0 s1 s2;go_simp;go_wp2_with fail;exact bodyPost_end (results_none rfl _ _ _) rfl ⟨rfl,H4.o.1,H4.o.2⟩
def MW(x:bU)(t:qk)(M N:bY)(z:Nat)(p:rT)(ha:IZ M z p)(W:bq)(h:mh t M z p W)(hz:t.bB=[])(hl:t.reads.length<=1000)(n:bS)(hn:n.size<=20)(ib:aS N W p.rv x.bB)(hov:p.ov.oneCell'=true)(ji:∃r∈x.bB,r.aX=n)(tN:∀r∈x.bB,1<=r.id):
 xC 74 #[xP p.T,zR 4 0 () n () () ()] W λe w'=>e=xR (.tuple #[])/\(∃k x',{t with bB:=[⟨n,0⟩]}.uI k x'/\mh x' M z p w')/\bh (wF p z) W w':=by
 have HR:Hd (∀V k b off c,mh {t with bB:=[⟨n,0⟩]} M z p V->cC V b off (xS k)->_):=λV k b off c hb hc=>Kv {t with bB:=[⟨n,0⟩]} M z p ha V hb k b off c hc hl;obtain⟨sv,dv,kv,h1,h2,-⟩:=h.st;have KL:Hd (∀V,bC W V->_):=λV hb=>Bu ⟨t.sch,[],x.bB,t.next⟩ N V sv p.ov p.rv (eL h2) hov n (ib.aT hb);have T3:Hd (∀V,bC W V->∃w',(Instr.mapUpdate 115 (.map (some p.mr)) n (xI 0)).run prog V= .ok () w'/\mh {t with bB:=[⟨n,0⟩]} M z p w'/\bh (wF p z) W w'/\bh (λi=>i=p.mr) V w'):=λV hb=>by
  have⟨w',e,k1,k2⟩:=(h.aT hb).bB.put (r:=⟨n,0⟩);rw[hz]at k1;have⟨k3,k4⟩:=(h.aT hb).E0 ha k2 (rs:=[⟨n,0⟩]) k1;exact⟨w',e,k3,(bh.bA hb).dL k4 (λi hi _=>hi),k2⟩
 have CS:Hd (W≠p.mr):=λe=>by
  have h1:=h.bB.lt;omega
 have XR:Hd (∀V,bC W V->(Instr.lookup 115 (.map (some p.mr)) n true).run prog V= .ok (.tuple #[xI 0,false]) V):=λV hb=>by
  obtain⟨es,clk,k1,k2,-⟩:=(h.aT hb).bB;have hv:cB es n=none:=eE.2 λhh=>by
   have⟨q,hq,_⟩:=aQ.1 hh;have⟨r,hr,_⟩:=k2 q hq;rw[hz]at hr;cases hr
  exact cO.Ue fW underlying115 lQ jo k1.is_ n (.int .i64 0) (by kernel_rfl) hv
 have HU:=aV (nQ 101);have UB:Hd (∀(m:Int)(b:Bool),(b=true->∃r∈x.bB,r.aX=n/\m=r.id)->(b=false->∀r∈x.bB,r.aX≠n)->m≠0):=λm b g1 g2=>by
  cases b with
  |false=>
   obtain⟨r,hr,e⟩:=ji;exact absurd e (g2 rfl r hr)
  |true=>
   obtain⟨r,hr,_,rfl⟩:=g1 rfl;have:=tN r hr;omega
 have HX:=aV (Bx.fm W (ir 4 0 () n () () ()));have JJ:Hd (∀V,bC W V->cC V p.T 0 sv/\cC V p.T 1 p.ov/\cC V p.T 2 p.rv/\cC V p.T 3 t.next/\cC V p.T 9 (.map (some p.mr))):=λV hb=>by
  have h2:=(hb.block _ (ab.1 h1).1).trans h1;unfold CY at h2;simp[World.cell?,h2]
 have YY:Hd (∀V,Bx W [ir 4 0 () n () () ()] V->_):=λV hb=>(cQ (hb.cP rfl)).c3;clear h h1 h2 ha hl hz ib hov ji tN;delta xC;go_in;go_upto_region 1 with fail;have⟨W1,hW1⟩:=dd (W.alloc (ir 4 0 () n () () ()));rw[<-hW1]at HX;unfold ir at hW1;rw[<-hW1];clear hW1;have s3:=YY.o _ HX.o;have s4:=YY.o _ HX.o.drew;have mD:=XR.o _ HX.o.1;have WW:=XR.o _ HX.o.drew.1;obtain⟨-,-,-,-,s9⟩:=JJ.o _ HX.o.1;obtain⟨-,-,-,-,Z2⟩:=JJ.o _ HX.o.drew.1;go_cut [4,5](λv4 v5 wx=>v4=xI 0/\v5=xB false/\wx=W1.drew)
 .go_region_law fail;all_goals(go_wp2;go_meet)
  all_goals exact⟨rfl,rfl,rfl⟩
 obtain⟨rfl,rfl,hw2⟩:=hcut;rename World=>W2;have gz:=aV (show Bx W [ir 4 0 () n () () ()] W2 by rw[hw2];exact HX.o.drew);clear s3 s4 mD WW s9 Z2 hw2 HX;have s3:=YY.o _ gz.o;obtain⟨d0,d1,d2,d3,-⟩:=JJ.o _ gz.o.1;go_upto_region 3 with fail;go_cut [4](λv4 wx=>∃m:Int,v4=xI m/\Hd (m≠0)/\Hd (Bx W [ir 4 0 () n () () ()] wx))
 .go_region_law(first
   |(go_simp;go_at_call 10;refine(KL.o _ gz.o.drew.1).mono ?_;rintro e w3⟨⟨m,b,rfl,g1,g2⟩,hb3⟩;have HM:=aV (UB.o m b g1 g2);have cR:=aV (gz.o.drew.aT hb3);clear g1 g2 hb3)
   |fail);all_goals(go_wp2;go_meet)
  all_goals exact⟨_,rfl,HM,cR⟩
 obtain⟨m,rfl,HM,mn⟩:=hcut;rename World=>W3;clear s3 d0 d1 d2 d3 gz;have hne:(m !=0)=true:=by simpa using HM.o
 go_wp2_with fail;refine(HU.o _).mono ?_;rintro e w'⟨rfl,rfl⟩;clear hne;have s3:=YY.o _ mn.o;obtain⟨-,-,-,-,s9⟩:=JJ.o _ mn.o.1;have⟨wa,ea,ma1,ma2,ma3⟩:=T3.o _ mn.o.1;have⟨wb,eb,mb1,mb2,mb3⟩:=T3.o _ mn.o.drew.1;have HKO:Hd (∀V V',Bx W [ir 4 0 () n () () ()] V->bh (λi=>i=p.mr) V V'->V'.heap[W.heap.size]? =some (ir 4 0 () n () () ())):=λV V' hb ho=>(ho.block _ (by have:=hb.cM;simp at this;omega) CS.o).trans (hb.cP rfl);have Gu:Hd (mh {t with bB:=[⟨n,0⟩]} M z p wa/\bh (wF p z) W wa/\ed wa W (ir 4 0 () n () () ())):=⟨ma1,ma2,HKO.o _ _ mn.o ma3⟩;have v8:Hd (mh {t with bB:=[⟨n,0⟩]} M z p wb/\bh (wF p z) W wb/\ed wb W (ir 4 0 () n () () ())):=⟨mb1,mb2,HKO.o _ _ mn.o.drew mb3⟩;clear ma1 ma2 ma3 mb1 mb2 mb3;go_upto_region 5 with fail;go_cut [](λwx=>Hd (mh {t with bB:=[⟨n,0⟩]} M z p wx/\bh (wF p z) W wx/\ed wx W (ir 4 0 () n () () ())))
 .go_region_law fail;all_goals go_wp2_with fail
  all_goals go_meet
  all_goals first|exact v8|exact Gu|trace_state
 rename World=>W5;have HC:=hcut;clear s3 s9 ea eb Gu v8 hcut mn;have s3:=(cQ HC.o.2.2).c3;have NB:∀s o,(W5.alloc (xK #[xS s] o)).cell? (W5,0)=some (xS s):=λs o=>one_cell (az W5 _);go_wp2_with fail;refine(HR.o _ _ _ 0 _ (HC.o.1.aT cU) (NB _ _)).mono ?_;rintro e w6⟨rfl,⟨x',h1,h2⟩,h3⟩;have HE:=aV (And.intro h1 (And.intro h2 h3));clear h1 h2 h3;go_wp2_with fail;refine bodyPost_end (results_none rfl _ _ _) rfl ⟨rfl,⟨_,x',HE.o.1,HE.o.2.1⟩,?_⟩;exact(HC.o.2.1.trans (bh.bA cU)).trans HE.o.2.2
def Td {x:bU}(h:fL x){r:bT}(hr:r∈x.bB){t:qk}(ht:UnJ r.aX 0 t):Bs x.bB t (unOp r.aX) (UnJ r.aX 1):=
 ⟨_, .inr (.inr (.inl ⟨rfl,rfl⟩)),λM z p W vv df hA hT hG hv hd hz hrt=>by
   obtain⟨h1,h2,⟨_,h3,h4⟩|⟨e,_⟩⟩:=ht;rotate_left
   .cases e
   obtain rfl:=hz.1 rfl;obtain rfl:=hz.2 rfl;have⟨oa,on,oc,hov⟩:=hrt.1;refine(MW x t M (allM M p z) z p hA W hT h3 (by rw[h4];simp) r.aX (h.mL r hr).2 hrt.2 (by rw[hov];rfl) ⟨r,hr,rfl⟩ (λq hq=>h.Qm hq)).mono ?_;rintro e w'⟨rfl,⟨k,t',k1,k2⟩,k3⟩;refine⟨rfl,⟨t',?_,k2⟩,k3⟩;rcases k1 with⟨_,rfl⟩|⟨_,rfl⟩
   .exact⟨h1,h2, .inr ⟨rfl,rfl⟩⟩
   exact⟨h1,h2, .inr ⟨rfl,rfl⟩⟩⟩
def Wa(x:bU)(h:fL x){r:bT}(hr:r∈x.bB)(M:bY)(w:bq)(hM:Bd M w)(hG:Gd w)(lv ov rv qv:bt)(iH:aS M w lv x.bH)(hov:aS M w ov x.bN)(ib:aS M w rv x.bB)(hq:aS M w qv [unOp r.aX]):
 xG 8 #[.agg #[lv,ov,rv,x.next],qv] w λu w'=>∃(cv kv:bt)(ks:List bS),u= .tuple #[cv,kv,x.next,xI 0]/\aS M w' cv [kk ⟨r.aX,0⟩]/\aS M w' kv ks:=by
 have hn:=h.mL r hr;have hn2:bF r.aX=true/\r.aX.size<=maxLen:=⟨hn.1,by have:=hn.2;unfold maxLen;omega⟩;have zA:madeOf [unOp r.aX]=0:=by simp[madeOf,unOp]
 refine(Qk x h [unOp r.aX] (by simp) M w hM hG lv ov rv qv iH hov ib hq (λo ho=> ?_) (.inl zA) (λo ho=> ?_) (UnJ r.aX) (λL hL _=>⟨rfl,rfl, .inl ⟨rfl,rfl,rfl⟩⟩) (λi o t ho hj=> ?_) (λt hj=>V9 h hn2 hj)).mono ?_
 .rw[aR.1 ho];intro W vv df hb h1 h2 hz;obtain rfl:=hz.1 rfl;obtain rfl:=hz.2 rfl;exact yY r.aX hn.1 W
 .rw[aR.1 ho,zA];exact⟨⟨by show-((0:Nat):Int)<=(0:Int);decide,by show(0:Int)<=100000;decide⟩,λ_ hv=>(by cases hv)⟩
 .cases i with
  |succ i=>simp at ho
  |zero=>
   have e:unOp r.aX=o:=by simpa using ho
   rw[<-e];exact Td h hr hj
 rintro e w'⟨u,rfl,⟨t,ds,cv,kv,⟨h1,h2,h3⟩,hds,rfl,k1,k2⟩,hb⟩;have h3:t.bB=[⟨r.aX,0⟩]:=by
  rcases h3 with⟨e,_⟩|⟨_,h3⟩
  .cases e
  exact h3
 have e0:ds=[]:=by
  rw[h2]at hds;exact List.map_eq_nil_iff.1 hds.symm
 rw[h1,h3,e0]at k1;refine⟨_,rfl,⟨cv,kv,t.reads,?_,k1,k2⟩,hb⟩;rw[zA];simp
def Qw(w:bq)(k n:Int)(s:bS)(hs:s.size<=maxLen)(a:fM)(c:Nat)(hl:aS (α:=bE) xF w (xL a 0 c) []):aS xF (w.alloc (xK #[k,n,s,xL a 0 c] 50)) (xL (w,0) 1 1) [bE.mk k n s []]:=by
 refine⟨[[xI k,xI n,xS s,xL a 0 c]],(dj w #[k,n,s,xL a 0 c] 50 4 rfl (F:=λi=>¬False) (λh=>h)),rfl,λi cs x hc hx=> ?_⟩;cases i with
 |succ i=>simp at hx
 |zero=>
  simp at hc hx;subst hc;subst hx;exact fZ.iff.2 ⟨_,rfl,hl.aT cU,hs⟩
def Qx(T:Nat)(k n:Int)(s:bS)(hk:k≠3/\k≠4)(hs:s.size<=maxLen)(M:bY)(W:bq)(vv:bt)(hv0:aS M W vv [bE.mk k n s []]):
 xC 153 #[xP T,vv] W (di true W):=by
 have hv:aS xF W vv [bE.mk k n s []]:=hv0.ev (Ev.eO W λi hi=>hi.elim);clear hv0;obtain⟨b,off,cap,za,zc,rfl,hbl,hsl,-,hcells⟩:=ep (i:=0) hv rfl;have gS:=aV hsl;have mC:=aV hcells;have HK:=aV hk;have nS:=aV hs;have dp:=aV (Bx.ei W (xK #[xP T] 104) (xK #[true] 4));clear hv hcells hk hs hsl;dsimp only[List.length_cons,List.length_nil]at*;refine callsIn_wide.1 (callsIn_of_wp_marks (n:=0) func153 rfl trivial (wpIn_wide.2 ?_) rfl);simp only[ntmps153,List.size_toArray,aC,aD,Nat.reduceAdd,Nat.reduceSub,Array.replicate_succ,Array.replicate_zero,List.push_toArray,List.append_toArray,List.nil_append,List.cons_append];go_wp2_with fail;refine wp_scope_straight ?_;go_wp2_with fail;refine wp_label ?_;simp only[Exit.then];have⟨W1,hW1⟩:=dd ((W.alloc (xK #[xP T] 104)).alloc (xK #[true] 4));rw[<-hW1]at dp;rw[<-hW1];clear hW1;go_wp2_with fail;refine wp_loop_rounds 2 ?_;rw[rounds_succ];obtain⟨⟨g0,g1,g2,g3⟩,-⟩:=mC.o W1 dp.o.1;simp only[Nat.zero_mul,Nat.add_zero]at g0 g1 g2 g3;go_upto_region 5 with fail;have⟨W2,hW2⟩:=dd (W1.alloc (xK #[k,n,s,xL za 0 zc] 50));have bZ:=aV (show Bx W _ W2 by rw[hW2];exact dp.o.alloc _);have gz:=aV (show ed W2 W1 (xK #[k,n,s,xL za 0 zc] 50)by rw[hW2];exact az W1 _);rw[<-hW2];clear hW2 g0 g1 g2 g3;have⟨c0,c1,c2,c3⟩:=aU gz.o;go_wp2_with fail;refine ey (mZ _ 1 1 _) ?_;have⟨W4,hW4⟩:=dd ((W2.alloc (xK #[k,n,s,xL za 0 zc] 50)).alloc (xK #[xL (W2,0) 1 1] 39));have fh:=aV (show bC W2 W4 by rw[hW4];exact cU.alloc (by simp) _);have NT:=aV (show cX W4 [W2] (xK #[xL (W2,0) 1 1] 39)by rw[hW4];have:=az (W2.alloc (xK #[k,n,s,xL za 0 zc] 50)) (xK #[xL (W2,0) 1 1] 39);simpa using this);have R8:=aV (show aS xF W4 (xL (W2,0) 1 1) [bE.mk k n s []]by rw[hW4];exact(Qw W2 k n s nS.o za zc (gS.o.aT bZ.o.1)).aT cU);rw[<-hW4];clear hW4 c0 c1 c2 c3;have nX:=aV (bZ.o.aT fh.o);go_wp2_with fail;refine I8 [bE.mk k n s []] (λv hv=>by rw[aR.1 hv];exact⟨HK.o.1,HK.o.2,rfl⟩) xF [W2] W4 W4 eH _ R8.o NT.o rfl ?_;intro W5 iz hd5;have od:=aV (nX.o.aT iz);have HD5:=aV hd5;have HZ5:=aV (show W.heap.size+2<=W4 by have:=nX.o.cM;simpa using this);clear iz hd5;have hok:zB W5 W 0 true:=one_cell (od.o.cZ rfl);go_simp;go_wp2_with fail;rw[rounds_succ];go_wp2_with fail;rw[Exit.noGoto_ret];refine⟨by simp, .inl ⟨_,_,rfl,run_takeDeferred HD5.o,?_⟩⟩;refine⟨xB true,by simp[results,results153,go_sem],rfl,?_⟩;exact cr od.o.1 od.o.1.size ((bh.refl (λj=>j=W4) W5).putObj (.inl rfl) _) (λj hj=>by have:j=W4:=hj;have:=HZ5.o;omega)
def mh.bd {x:qk}{z:Nat}{p:rT}{kv:bt}(h:mh x M z p W)(ha:IZ M z p)(h4:bP (qU M p) z 9 W kv x.reads):Bd (cz kv (qU M p)) W:=λi hi=>by
 have hz:=h.low;rcases hi with(hi|hi)|hi
 .have:=ha.far i hi;omega
 .have:=ha.lt i hi;omega
 exact(h4.dC i hi).2
def mh.qc6 {x:qk}{z:Nat}{p:rT}{W0:bq}(h:mh x M z p W0)(ha:IZ M z p)(hb:bC W0 W)(m:Int)(o:cm)(vv:bt)(hv:aS (λi=>i<W0) W vv o.bR):
 mh {x with made:=m} M z p (W.setCell (p.T,6) m)/\∃w',(Instr.mapUpdate 114 (.map (some p.mo)) o.id (rO o vv)).run prog (W.setCell (p.T,6) m)= .ok () w'/\mh {x with made:=m,bN:=qR x.bN o} M z p w'/\bh (wF p z) W0 w':=by
 have⟨⟨n1,n2,n3,n4,n5,n6⟩,⟨n7,n8,n9,n10⟩,⟨n11,n12,n13⟩,⟨n14,n15⟩,n16⟩:=ha.ne;have qM:=λ{kv:bt}(h4:bP (qU M p) z 9 W0 kv x.reads)=>h.bd ha h4;have⟨sv,dv,kv,h1,h2,h3,h4,h5⟩:=h.st;have hbk:=qM h4;have hz0:=h.low;have hzs:=hb.size;have hT:=ha.lt p.T (.inl rfl);have Jv:ng p p.mo:=by unfold ng;simp
 have qhh:=ha.lt p.mo Jv;have o7:bh (λi=>i=p.T) W (W.setCell (p.T,6) m):=(bh.refl (λi=>i=p.T) W).setCell (.inl rfl) _;have⟨V,hV⟩:=dd (W.setCell (p.T,6) m);rw[<-hV]at o7⊢;have hsv:=o7.size;have hcell:cX V p.T (CY p sv x.next x.news m dv kv):=by
  rw[hV];have:=aA W p.T 6 _ _ m (show cX W p.T (CY p sv x.next x.news x.made dv kv)from(hb.block p.T (by omega)).trans h1);simpa [CY]using this
 have hk:∀i,ng p i->i≠p.T->V.heap[i]? =W0.heap[i]? :=λi hi hne=>(o7.block i (by have:=ha.lt i hi;omega) hne).trans (hb.block i (by have:=ha.lt i hi;omega));have E:Ev (cz kv (qU M p)) W0 (cz kv (qU M p)) V:=⟨(bh.bA hb).trans (o7.mono λi hi=> .inl (.inr (.inl hi))),λi hi=> .inl hi⟩;have a7:bP (qU M p) z 9 V kv x.reads:=(h4.aT hb).tz o7 (λi hi=> .inr (.inl hi)) (λg hg he=>by have h1:=(h4.dC g hg).1;have h2:g=p.T:=he;omega);have hob:=h5.ev E (hk p.mo Jv (λe=>n2 e.symm));have hT1:mh {x with made:=m} M z p V:=⟨⟨sv,dv,kv,hcell,h2.ev E,h3.ev E,a7,hob⟩,h.reach.same (hk p.rb (by unfold ng;simp) (λe=>n1 e.symm)),h.bB.ev (hk p.mr (by unfold ng;simp) (λe=>n4 e.symm)),(hk p.ms (by unfold ng;simp) (λe=>n5 e.symm)).trans h.snaps,h.seen.same (hk p.sb (by unfold ng;simp) (λe=>n6 e.symm)),by omega⟩;refine⟨hT1,?_⟩;have hvV:aS (cz kv (qU M p)) V vv o.bR:=hv.ev ⟨o7.mono λi hi=>(show i<W0 by have hi:i=p.T:=hi;omega),λi hi=> .inl (hbk i hi)⟩;have⟨w',e,h6,o8⟩:=hob.put (o:=o) (.inl (.inr Jv)) hvV;have ZR:=o8.size;have hk2:∀i,ng p i->i≠p.mo->w'.heap[i]? =V.heap[i]? :=λi hi hne=>o8.block i (by have:=ha.lt i hi;omega) hne;have E2:Ev (cz kv (qU M p)) V (cz kv (qU M p)) w':=⟨o8.mono λi hi=> .inl (.inr (by have hi:i=p.mo:=hi;rw[hi];exact Jv)),λi hi=> .inl hi⟩;have a8:bP (qU M p) z 9 w' kv x.reads:=a7.tz o8 (λi hi=> .inr (by have hi:i=p.mo:=hi;rw[hi];exact Jv)) (λg hg he=>by have h1:=(h4.dC g hg).1;have h2:g=p.mo:=he;omega);refine⟨w',e,⟨⟨sv,dv,kv,(hk2 p.T (.inl rfl) n2).trans hcell,(h2.ev E).ev E2,(h3.ev E).ev E2,a8,h6⟩,hT1.reach.same (hk2 p.rb (by unfold ng;simp) n7),hT1.bB.ev (hk2 p.mr (by unfold ng;simp) (λe=>n11 e.symm)),(hk2 p.ms (by unfold ng;simp) (λe=>n12 e.symm)).trans hT1.snaps,hT1.seen.same (hk2 p.sb (by unfold ng;simp) (λe=>n13 e.symm)),by omega⟩,?_⟩;exact(bh.bA hb).dL ((o7.mono λi hi=>(show wF p z i from .inl (.inl hi))).trans (o8.mono λi hi=>(show wF p z i from .inl (by have hi:i=p.mo:=hi;rw[hi];exact Jv)))) (λi hi _=>hi)
def Jk(hb:Below base (w.alloc o) w1)(zq:Ev (cz () (λi=>i<base)) (w.alloc o) M' w1):bC w w1:=by
 refine⟨hb.os,hb.tape,hb.output,by have:=hb.size;simp at this;omega,λi hi=> ?_⟩;have h0:=aB w o i hi;by_cases h:i<base
 .exact(hb.block i h).trans h0
 exact(zq.1.block i (by simp;omega) (λhh=>by
  rcases hh with hh|hh
  .exact h hh
  cases hh)).trans h0
def Jl(t:qk)(M:bY)(z:Nat)(p:rT)(ha:IZ M z p)(W:bq)(h:mh t M z p W)(hg:Gd W)(dz:bS)(kc:Nat)(l:bQ)(CV:eS t.sch)(hn:ek t.sch dz=kc)(hl:t.sch[kc]? =some l)
 (k n:Int)(s:bS)(hk:k≠3/\k≠4)(hs:s.size<=maxLen)(hv:cD (bV l l.bo.length).aW 100000 [bE.mk k n s []])(qb5:0<=t.made/\t.made<=100)(hx:0<=t.next/\t.next<=200000)(JK:t.reads.length<=1000)(N:bY)(vv:bt)(hvv:aS N W vv [bE.mk k n s []]):
 xC 71 #[xP p.T,zR 1 0 dz () vv () ()] W λe w'=>e=xR (.tuple #[])/\(∃t',qk.uI {t with made:=t.made+1,bN:=qR t.bN ⟨t.next+t.made,kc,l.bo.length,[bE.mk k n s []]⟩} ⟨#[115]⟩ t'/\mh t' M z p w')/\bh (wF p z) W w':=by
 have⟨i0,hi0,hz0,hz1,hz2⟩:=info_parts iD;have hco:=(CV.bH l (ai hl)).lr l.bo.length;have hcn:=(CV.bH l (ai hl)).aX l.bo.length;have qM:=λ{kv:bt}(h4:bP (qU M p) z 9 W kv t.reads)=>h.bd ha h4;have mC:Hd (∀V,bC W V->_):=λV hb=>MV t M z p V (h.aT hb) CV.len dz kc hn;have HGO:Hd (∀V,bC W V->_):=λV hb=>Qx p.T k n s hk hs N V vv (hvv.aT hb);have Yz:Hd (∀V,bC W V->_):=λV hb=>ep (i:=0) (hvv.aT hb) rfl;have Gk:Hd (∀V a c,_):=λV a c=>CI (xP p.T) k n s a c hk V;have HNW:Hd (∀V uv,bC W V->aS (λi=>i<W) V uv [bE.mk k n s []]->_):=λV uv hb hu=>h.qc6 ha hb (t.made+1) ⟨t.next+t.made,kc,l.bo.length,[bE.mk k n s []]⟩ uv hu;have HNU:Hd (∀V,mh {t with made:=t.made+1} M z p V->xC 158 #[xP p.T,xI (-(t.made+1))] V λe w'=>e=xR (xI (t.next+t.made))/\w'=V):=λV hT=>by
  have h1:=numberT_ok {t with made:=t.made+1} M z p V hT (-(t.made+1)) ⟨by omega,by omega⟩ ⟨hx.1,by show t.next<=_;omega⟩;rw[if_pos (by omega)]at h1;have e:t.next- -(t.made+1)-1=t.next+t.made:=by omega
  rw[<-e];exact h1
 have QO:Hd (∀V b off c,mh {t with made:=t.made+1,bN:=qR t.bN ⟨t.next+t.made,kc,l.bo.length,[bE.mk k n s []]⟩} M z p V->cC V b off (xS ⟨#[115]⟩)->_):=λV b off c hT hc=>Kv _ M z p ha V hT ⟨#[115]⟩ b off c hc JK;have Nq:=aV (nQ 101);have NY:=aV Bh;have HX:=aV (Bx.fm W (ir 1 0 dz () vv () ()));have⟨sv,dv,kv,h1,h2,h3,h4,h5⟩:=h.st;have hbk:=qM h4;have Xz:Hd (∀V,bC W V->_):=λV hb=>ER t.sch CV kc l hl (cz kv (qU M p)) V (hbk.aT hb) (hg.tb.aT hb) sv (h2.aT hb);have uN:Hd (∀V,bC W V->_):=λV hb=>IE t.sch CV kc l hl l.bo.length cN (cz kv (qU M p)) V (hbk.aT hb) (hg.tb.aT hb) sv (h2.aT hb);have Gg:Hd (∀V fv uv,bC W V->aS xF V fv (bV l l.bo.length).aW->aS xF V uv [bE.mk k n s []]->xC 157 #[.agg #[l.bu.aX,fv],uv] V (di (.tuple #[xI 0,xI 0]) V)):=λV fv uv hb hf hu=>by
  rw[<-hcn];exact jd _ hco.right (aH hco.small (by unfold maxLen;omega)) 100000 (Int.le_refl _) _ hv xF V fv uv hf hu (hg.tb.aT hb)
 have JJ:=aV h1;have FY:=aV hbk;obtain⟨sa,sc,rfl,-⟩:=h2.bj;obtain⟨b,off,cap,za,zc,rfl,hbl,-,-,hcells⟩:=ep (i:=0) hvv rfl;have Yz:=aV hcells;have nS:=aV hs;have oQ:Hd (∀V,bC W V->_):=λV hb=>fA ((hb.block _ (ab.1 h1).1).trans h1);have Nr:Hd (∀V,bC W V->_):=λV hb=>aY ((hb.block _ (ab.1 h1).1).trans h1) 6;clear h h1 h2 h3 h4 h5 hbk qM CV hn hl hk hs hv hvv hcells JK ha hg hco hcn;dsimp only[List.length_cons,List.length_nil,Nat.zero_add]at*;generalize t.sch.length=sn at*;generalize t.news=nw at*;generalize rW:t.next=nx at*;generalize zA:t.made=md at*;generalize UM:(l.bo.length:Int)=ll at*;obtain⟨Yu,qJ⟩:=qb5;obtain⟨QJ,hx1⟩:=hx;have HE1:=aV rW;clear rW;have Tn:=aV zA;clear zA;have HE3:=aV UM;clear UM;delta xC;go_in;go_upto_region 1 with fail;have⟨W1,hW1⟩:=dd (W.alloc (ir 1 0 dz () (xL (b,off) 1 cap) () ()));rw[<-hW1]at HX;unfold ir at hW1;rw[<-hW1];clear hW1;have k2:=(cQ (HX.o.cP rfl)).c2;go_wp2_with fail;refine(mC.o _ HX.o.1).mono ?_;rintro e w2⟨rfl,cJ⟩;have gz:=aV (HX.o.aT cJ);clear cJ k2;have k8:=(cQ (gz.o.cP rfl)).c8;go_wp2_with fail;refine(HGO.o _ gz.o.1).mono ?_;rintro e w3⟨rfl,hb3⟩;have mn:=aV (gz.o.aT hb3);clear hb3 k8;go_wp2_with fail;refine(Nq.o _).mono ?_;rintro e w4⟨rfl,rfl⟩;have q0:=(oQ.o _ mn.o.1).1;go_wp2_with fail;refine(Xz.o _ mn.o.1).mono ?_;rintro e w5⟨rfl,iz⟩;have od:=aV (mn.o.aT iz);clear iz q0;go_wp2_with fail;refine(NY.o _).mono ?_;rintro e w6⟨rfl,rfl⟩;have q0:=(oQ.o _ od.o.1).1;go_wp2_with fail;refine(uN.o _ od.o.1).mono ?_;rintro e w7⟨_,rfl,⟨fv,rfl,hfv⟩,gw⟩;have Nx:=aV (od.o.aT gw);obtain⟨fa,fc,rfl,-⟩:=hfv.bj;have HFV:=aV hfv;generalize(bV l l.bo.length).aW.length=fn at*;clear gw q0 hfv;go_upto_region 6 with fail;have⟨W8,hW8⟩:=dd (w7.alloc (xK #[l.bu.aX,xL fa fn fc] 53));have RD:=aV (show Bx W _ W8 by rw[hW8];exact Nx.o.alloc _);have UO:=aV (show bC w7 W8/\ed W8 w7 (xK #[l.bu.aX,xL fa fn fc] 53)by rw[hW8];exact⟨cU,az w7 _⟩);rw[<-hW8];clear hW8;go_wp2_with fail;refine(NY.o _).mono ?_;rintro e w9⟨rfl,rfl⟩;have k8:=(cQ (RD.o.cP rfl)).c8;go_wp2_with fail;refine wp_loop_rounds 2 ?_;rw[rounds_succ];obtain⟨⟨g0,g1,g2,g3⟩,-⟩:=Yz.o w9 RD.o.1;simp only[Nat.zero_mul,Nat.add_zero]at g0 g1 g2 g3;clear k8;go_upto_region 11 with fail;have⟨W9,hW9⟩:=dd (w9.alloc (xK #[k,n,s,xL za 0 zc] 50));have FX:=aV (show Bx W _ W9 by rw[hW9];exact RD.o.alloc _);have YH:=aV (show bC w9 W9/\ed W9 w9 (xK #[k,n,s,xL za 0 zc] 50)by rw[hW9];exact⟨cU,az w9 _⟩);rw[<-hW9];clear hW9 g0 g1 g2 g3;have⟨d0,d1,d2,d3⟩:=aU YH.o.2;go_wp2_with fail;refine(Gk.o _ _ _).mono ?_;rintro e w10⟨rfl,nY⟩;have qb6:=aV (FX.o.aT nY);have qfl:Hd (W.heap.size<=w10):=qb6.o.1.size;have U8:Hd (bC w9 w10):=YH.o.1.trans (nY.mono YH.o.1.size);clear nY d0 d1 d2 d3;go_wp2_with(at_builtin;refine cA (α:=bE) rfl _ _ _ rfl (λi=>i<W) W 50 i0 _ 56 underlying39 hi0 hz0 hz1 hz2 rfl (by decide) (.slice none 0 0) [] rfl (bP.nil _ _ _ _) (λ_=>True) _ [.int .i64 k, .int .i64 n, .string s, .slice none 0 0] (.mk k n s []) rfl (jz _ _ #[.int .i64 k, .int .i64 n, .string s, .slice none 0 0] _ 4 rfl rfl trivial) (fZ.iff.2 ⟨_,rfl,aS.nil _ _,nS.o⟩) (by unfold maxLen;simp) (by simp) (by have:=qfl.o;simp;omega) ?_;intro a2 c2 w11 hacc zq CW;have TV:=aV hacc;have qb7:Hd (bC w10 w11):=Jk CW zq;clear hacc zq CW);have qb8:Hd (bP (α:=bE) (λi=>i<W) W 50 w11 (xL a2 1 c2) [bE.mk k n s []]):=TV.o;have qb9:=aV (qb6.o.aT qb7.o);have X1:=aV (show ed w11 w7 (xK #[l.bu.aX,xL fa fn fc] 53)/\bC w7 w11 by
  have h1:=UO.o.1.size;have h2:=YH.o.1.size;have hl:=(ab.1 UO.o.2).1;have hb:bC w9 w11:=(U8.o).trans (qb7.o.mono U8.o.size);exact⟨(hb.block _ hl).trans UO.o.2,UO.o.1.trans (hb.mono h1)⟩);clear TV;rw[rounds_succ];have e0:=(aZ X1.o.1).1;have e1:=(aZ X1.o.1).2;go_wp2_with fail;refine(Gg.o _ _ _ qb9.o.1 ((HFV.o.ev (Ev.eO _ λi hi=>hi.elim)).aT X1.o.2) ((qb8.o.slice λi hi=>hi).ev (Ev.eO _ λi hi=>hi.elim))).mono ?_;rintro e w13⟨rfl,RI⟩;have X2:=aV (qb9.o.aT RI);have qfm:Hd (aS (λi=>i<W) w13 (xL a2 1 c2) [bE.mk k n s []]):=(qb8.o.slice λi hi=>hi).aT RI;clear RI e0 e1;go_wp2_with fail;refine(NY.o _).mono ?_;rintro e w14⟨rfl,rfl⟩;have⟨hT1,w16,hput,hT2,ho2⟩:=HNW.o _ _ X2.o.1 qfm.o;have zz:=aV hT1;have QI:=aV (And.intro hT2 ho2);have hf:=Nr.o _ X2.o.1;obtain⟨-,-,-,-,q6,q7,-⟩:=oQ.o _ X2.o.1;clear hT1 hT2 ho2;go_wp2_with fail;refine(HNU.o _ zz.o).mono ?_;rintro e w17⟨rfl,X3⟩;rw[<-X3]at hput zz;have qhi:Hd (w17=w14.setCell (p.T,6) (xI (md+1))):=X3;clear X3 q6 hf;have hbo:∀(a b d:Int)(x:fM)(y:Nat)(W:bq),(Instr.build 41 #[(0,xI a),(1,xI b),(2,xI d),(3,xL x 1 y)]).run prog W= .ok (.agg #[a,b,d,xL x 1 y]) W:=λ_ _ _ _ _ W=>run_build W _ _ _ (by kernel_rfl);dsimp only[rO]at hput;clear q7;have q7:cC w17 p.T 7 (.map (some p.mo)):=by
  obtain⟨sv',dv',kv',h1,-⟩:=zz.o.st;exact(fA h1).2.2.2.2.2.1
 go_wp2_with fail;have NB:∀o,(w16.alloc (xK #[xS ⟨#[115]⟩] o)).cell? (w16,0)=some (xS ⟨#[115]⟩):=λo=>one_cell (az w16 _);clear q7 hput hbo;refine(QO.o _ _ 0 _ (QI.o.1.aT cU) (NB _)).mono ?_;rintro e w20⟨rfl,⟨t',h1,h2⟩,h3⟩;have HE:=aV (And.intro h1 (And.intro h2 h3));clear h1 h2 h3;go_wp2_with fail;refine bodyPost_end (results_none rfl _ _ _) rfl ⟨rfl,⟨t',?_,HE.o.2.1⟩,?_⟩
 .exact HE.o.1
 exact(QI.o.2.trans (bh.bA cU)).trans HE.o.2.2
def ZK:bI:=⟨⟨#[99]⟩,[⟨⟨#[97]⟩,⟨1,0⟩,false⟩]⟩
def fD:bQ:=⟨ZK,[]⟩
def NL:bU:=⟨[fD],[],[],5⟩
def tL:bE:= .mk 1 3 () []
def vJ:bS:=⟨#[104,111,109,101]⟩
def vK:uJ:=⟨1,0,⟨#[99]⟩,(),[tL],⟨⟨#[]⟩,[]⟩⟩
def lj:uJ:=⟨3,-1,(),vJ,[],⟨⟨#[]⟩,[]⟩⟩
def iF:cm:=⟨5,0,0,[tL]⟩
def pj:bT:=⟨vJ,5⟩
def CK:bU:=⟨[fD],[iF],[pj],6⟩
def KH:eS [fD]where
 len:=by decide
 bH:=λl hl=>by
  rw[aR.1 hl];exact⟨⟨by decide+kernel,λf hf=>by rw[aR.1 hf];decide+kernel,by decide⟩,by simp[fD],_, .nil _⟩
 apart:=λk l h=>by
  cases k with
  |zero=>simp at h;subst h;decide+kernel
  |succ k=>simp at h
def Qy:cD (bV fD fD.bo.length).aW 100000 [tL]:=⟨rfl,λi f v hf hv=>by
 cases i with
 |zero=>
  have hf:some _=some f:=hf;have hv:some tL=some v:=hv;simp at hf hv;subst hf;subst hv;exact .inr ⟨by decide, .inl ⟨rfl,3,rfl,by omega,by omega⟩⟩
 |succ i=>simp at hv⟩
def kX:bF vJ=true/\vJ.size<=20:=by decide+kernel
def y9:fL NL where
 sch:=KH
 len:=by decide
 bN:=λi o h=>by simp[NL]at h
 rise:=by simp[NL,dV]
 refs:=λn y hy=>by simp[dT,NL,tj]at hy
 rlen:=by decide
 bB:=λr hr=>by simp[NL]at hr
 mL:=λr hr=>by simp[NL]at hr
 x9:=λi r s h=>by simp[NL]at h
 next:=by decide
def FG:jS [fD] 100000 iF 0 0 fD where
 dz:=rfl
 dB:=rfl
 line:=rfl
 le:=by decide
 bR:=Qy
def Te:refsOf fD 0 [tL]=[]:=by decide+kernel
def Tf:fL CK where
 sch:=KH
 len:=by decide
 bN:=λi o h=>by
  cases i with
  |zero=>
   have h:some iF=some o:=h;simp at h;subst h;exact⟨by decide,by decide,0,0,fD,FG⟩
  |succ i=>simp[CK]at h
 rise:=by simp[CK,dV]
 refs:=λn y hy=>by
  by_cases h5:iF.id=n
  .have e:tj CK.bN n=some iF:=by simp[tj,CK,h5]
   unfold dT at hy;rw[e]at hy;have hy:y∈refsOf fD 0 [tL]:=hy;rw[Te]at hy;cases hy
  have e:tj CK.bN n=none:=by simp[tj,CK,h5]
  unfold dT at hy;rw[e]at hy;cases hy
 rlen:=by decide
 bB:=λr hr=>by
  have hr:r∈[pj]:=hr;rw[aR.1 hr];decide
 mL:=λr hr=>by
  have hr:r∈[pj]:=hr;rw[aR.1 hr];exact kX
 x9:=λi r s h1 h2=>by simp[CK]at h2
 next:=by decide
def ShJ(i:Nat)(t:qk):Prop:=∃L:List Int,(-1:Int)∉L/\((i=0/\t=⟨[fD],5,L,1,0,[],[],[],[]⟩)\/(i=1/\t=⟨[fD],5,L,1,1,[iF],[],[],[⟨#[115]⟩]⟩)\/(i=2/\t=⟨[fD],5,L,1,1,[iF],[pj],[],[⟨#[115]⟩]⟩))
def Wb {rs:List bT}{L:List Int}(hL:(-1:Int)∉L):Bs rs ⟨[fD],5,L,1,0,[],[],[],[]⟩ vK (ShJ 1):=
 ⟨_, .inl ⟨rfl,rfl⟩,λM z p W vv df hA hT hG hv hd hz _=>by
   obtain rfl:=hz.2 rfl;refine(Jl _ M z p hA W hT hG ⟨#[99]⟩ 0 fD KH (show ek [fD] ⟨#[99]⟩=(0:Nat)by decide+kernel) rfl 1 3 () ⟨by decide,by decide⟩ (by decide) Qy ⟨show(0:Int)<=0 by decide,show(0:Int)<=100 by decide⟩ ⟨show(0:Int)<=5 by decide,show(5:Int)<=200000 by decide⟩ (show 0<=1000 by decide) _ vv hv).mono ?_;rintro e w'⟨rfl,⟨t',h1,h2⟩,h3⟩;refine⟨rfl,⟨t',⟨L,hL, .inr (.inl ⟨rfl,?_⟩)⟩,h2⟩,h3⟩;rcases h1 with⟨h1,_⟩|⟨_,rfl⟩
   .cases h1
   rfl⟩
def Tg {rs:List bT}{L:List Int}(hL:(-1:Int)∉L):Bs rs ⟨[fD],5,L,1,1,[iF],[],[],[⟨#[115]⟩]⟩ lj (ShJ 2):=
 ⟨_, .inr (.inl ⟨rfl,rfl⟩),λM z p W vv df hA hT hG hv hd hz _=>by
   obtain rfl:=hz.1 rfl;obtain rfl:=hz.2 rfl;refine(Qp _ M z p hA W hT (-1) vJ hL ⟨by decide,by decide,show-(-1:Int)<=1 by decide⟩ ⟨show(0:Int)<=5 by decide,show(5:Int)<=1000000 by decide⟩).mono ?_;rintro e w'⟨rfl,h2,h3⟩;exact⟨rfl,⟨_,⟨L,hL, .inr (.inr ⟨rfl,rfl⟩)⟩,h2⟩,h3⟩⟩
def Wc {t:qk}(h:ShJ 2 t):CF NL t:=by
 obtain⟨L,hL,⟨e,_⟩|⟨e,_⟩|⟨_,rfl⟩⟩:=h
 .cases e
 .cases e
 exact {
  recs:=⟨[],rfl,by simp,by
   show [zT iF,rH pj].Pairwise _;rw[List.pairwise_cons];refine⟨λb hb=> ?_,List.pairwise_singleton _ _⟩;rw[aR.1 hb];decide+kernel,CK,Tf,mP.cons (PX (x:=NL) (r:=tD iF) KH rfl FG ⟨by decide,by decide⟩ ⟨by decide,by decide⟩) (mP.cons (MC (x:=⟨[fD],[iF],[],6⟩) (r:=kk pj) rfl ⟨kX.1,by have:=kX.2;unfold maxLen;show vJ.size<=_;omega⟩ ⟨by decide,by decide⟩) (mP.nil _))⟩
  rise:=by simp[dV]
  AX:=by simp[gJ]
  mL:=λr hr=>by rw[aR.1 hr];have:=kX.2;unfold maxLen;show vJ.size<=_;omega
  olen:=by simp
  rlen:=by simp}
def FH(hG:Gd w):∀o∈[vK,lj],yU M w o:=by
 intro o ho;rcases aO.1 ho with rfl|ho
 .intro W vv df hb h1 h2 hz;obtain rfl:=hz.2 rfl;have hvo:eF ⟨1,0⟩ 100000 tL:= .inr ⟨by decide, .inl ⟨rfl,3,rfl,by omega,by omega⟩⟩;exact Fj ⟨#[99]⟩ (by decide+kernel) [tL] (λy hy=>by rw[aR.1 hy];exact⟨_,_,_,rfl⟩) (λy hy=>by rw[aR.1 hy];exactλM w u hu hT=>sE hvo (Int.le_refl _) hu hT) (by decide) M vv W (hG.tb.aT hb) h1
 rw[aR.1 ho];intro W vv df hb h1 h2 hz;obtain rfl:=hz.1 rfl;obtain rfl:=hz.2 rfl;exact CA (-1) vJ kX.1 (.inr ⟨by decide,by decide⟩) W
def M8(M:bY)(w:bq)(hM:Bd M w)(hG:Gd w)(lv qv:bt)(iH:aS M w lv [fD])(hq:aS M w qv [vK,lj]):
 xG 8 #[.agg #[lv,(),(),xI 5],qv] w λu w'=>∃(cv kv:bt),u= .tuple #[cv,kv,xI 6,xI 0]/\aS M w' cv [tD iF,kk pj]/\aS M w' kv [(⟨#[115]⟩:bS)]:=by
 refine(Qk NL y9 [vK,lj] (by decide) M w hM hG lv () () qv iH (aS.nil _ _) (aS.nil _ _) hq (FH hG) (.inr (by decide)) (λo ho=>⟨?_,?_⟩) ShJ (λL hL _=>⟨L,λh=> ?_, .inl ⟨rfl,rfl⟩⟩) (λi o t ho hj=> ?_) (λt hj=>Wc hj)).mono ?_
 .rcases aO.1 ho with rfl|ho
  .decide
  rw[aR.1 ho];decide
 .rcases aO.1 ho with rfl|ho
  .exactλv hv=>(by rw[aR.1 hv];exact⟨by decide,by decide,rfl⟩)
  rw[aR.1 ho];exactλ_ hv=>(by cases hv)
 .have:=MU y9 ((hL _).1 h);omega
 .obtain⟨L,hL,⟨rfl,rfl⟩|⟨rfl,rfl⟩|⟨rfl,rfl⟩⟩:=hj
  .have ho:some vK=some o:=ho;simp at ho;subst ho;exact Wb hL
  .have ho:some lj=some o:=ho;simp at ho;subst ho;exact Tg hL
  simp at ho
 rintro e w'⟨u,rfl,⟨t,ds,cv,kv,hj,hds,rfl,h1,h2⟩,hb⟩;obtain⟨L,hL,⟨e,_⟩|⟨e,_⟩|⟨_,rfl⟩⟩:=hj
 .cases e
 .cases e
 have e0:ds=[]:=by
  have h:([]:List fC)=ds.map Subtype.val:=hds;exact List.map_eq_nil_iff.1 h.symm
 rw[e0]at h1;exact⟨_,rfl,⟨cv,kv,rfl,h1,h2⟩,hb⟩
def jC {cs:Array bt}{fr:Nat×Nat}(h:cX W g (.cells cs t fr))(size n:Nat)(hn:n<=1000)(hs:cs.size=n*size)(hF:F g):du F W size (xL (g,0) n n) n cs.toList:=by
 refine⟨by simp[hs],some ⟨g,0,none⟩,n,rfl,cN,by unfold maxLen;omega,λ_=>⟨g,0,rfl,hF,(ab.1 h).1,λj u hu=> ?_⟩⟩;simp only[World.cell?,h,Nat.zero_add];simpa using hu
def Nh {l:List bS}(h:aS M w v l){x:bS}(hx:l[i]? =some x):∃b off cap,v=xL (some ⟨b,off,none⟩) l.length cap/\b<w.heap.size/\∀W,bC w W->cC W b (off+i) x:=by
 obtain⟨a,cap,rfl,hl,_,hc⟩:=h.bj;have hk:=(ag.1 hx).1;obtain⟨b,off,rfl,_,hb,hcell⟩:=hc (by omega);have⟨cs,hcs,hcc⟩:=hcell i _ hx;have hcs:cs=[xS x]:=hcs;subst hcs;refine⟨b,off,cap,rfl,hb,λW hB=> ?_⟩;have h1:=hcc 0 x rfl;have e:off+i*bD.size bS+0=off+i:=by show off+i*1+0=off+i;omega
 exact(hB.cell (p:=⟨b,off+i,none⟩) hb).trans (by rw[<-e];exact h1)
def Th {f:Nat}(h1:cX W f (xK #[xS ⟨#[97]⟩,xI 1,xI 0,false] 78))(h2:cX W g (xK #[xS ⟨#[99]⟩,xL (f,0) 1 1,()] 72)):aS xF W (xL (g,0) 1 1) [fD]:=by
 refine⟨[[xS ⟨#[99]⟩,xL (f,0) 1 1,()]],jC h2 3 1 (by omega) rfl (λh=>h),rfl,λi cs x hc hx=> ?_⟩;cases i with
 |succ i=>simp at hx
 |zero=>
  simp at hc hx;subst hc;subst hx;refine⟨_,_,rfl,⟨[[xS ⟨#[97]⟩,xI 1,xI 0,xB false]],jC h1 4 1 (by omega) rfl (λh=>h),rfl,λi cs x hc hx=> ?_⟩,aS.nil _ _,by decide⟩;cases i with
  |succ i=>
   have hx:([]:List bJ)[i]? =some x:=hx;simp at hx
  |zero=>
   have hx:some (⟨⟨#[97]⟩,⟨1,0⟩,false⟩:bJ)=some x:=hx;simp at hc hx;subst hc;subst hx;exact⟨rfl,by decide⟩
def QB {v:Nat}(h:cX W v (xK #[xI 1,xI 3,"",()] 50)):aS xF W (xL (v,0) 1 1) [tL]:=by
 refine⟨[[xI 1,xI 3,"",()]],jC h 4 1 (by omega) rfl (λh=>h),rfl,λi cs x hc hx=> ?_⟩;cases i with
 |succ i=>simp at hx
 |zero=>
  simp at hc hx;subst hc;subst hx;exact fZ.iff.2 ⟨_,rfl,aS.nil _ _,by decide⟩
def Wf {v q:Nat}(hv:cX W v (xK #[xI 1,xI 3,"",()] 50))
 (hq:cX W q (.cells (NK vK (xL (v,0) 1 1) ()++NK lj () ()).toArray 59 (0,0))):aS xF W (xL (q,0) 2 2) [vK,lj]:=by
 refine⟨[NK vK (xL (v,0) 1 1) (),NK lj () ()],jC hq 19 2 (by omega) rfl (λh=>h),rfl,λi cs x hc hx=> ?_⟩;cases i with
 |zero=>
  simp only[List.getElem?_cons_zero,aG]at hc hx;subst hc;subst hx;exact⟨_,_,rfl,QB hv,aS.nil _ _,λh=>(by cases h),λ_=>rfl⟩
 |succ i=>
  cases i with
  |zero=>
   simp only[List.getElem?_cons_succ,List.getElem?_cons_zero,aG]at hc hx;subst hc;subst hx;exact⟨_,_,rfl,aS.nil _ _,aS.nil _ _,λ_=>rfl,λ_=>rfl⟩
  |succ i=>simp at hx
def QC {q:Nat}(o:uJ)(hv:o.bR=[])(hf:o.CL.aW=[])
 (hq:cX W q (.cells (NK o () ()).toArray 59 (0,0))):aS xF W (xL (q,0) 1 1) [o]:=by
 refine⟨[NK o () ()],jC hq 19 1 (by omega) rfl (λh=>h),rfl,λi cs x hc hx=> ?_⟩;cases i with
 |zero=>
  simp only[List.getElem?_cons_zero,aG]at hc hx;subst hc;subst hx;exact⟨_,_,rfl,by rw[hv];exact aS.nil _ _,by rw[hf];exact aS.nil _ _,λ_=>rfl,λ_=>rfl⟩
 |succ i=>simp at hx
def Ti {v q:Nat}(hv:cX W v (xK #[xI 1,xI 3,"",()] 50))
 (hq:cX W q (.cells (yN (tD iF) (xL (v,0) 1 1) ()++yN (kk pj) () ()).toArray 81 (0,0))):aS xF W (xL (q,0) 2 2) [tD iF,kk pj]:=by
 refine⟨[yN (tD iF) (xL (v,0) 1 1) (),yN (kk pj) () ()],jC hq 18 2 (by omega) rfl (λh=>h),rfl,λi cs x hc hx=> ?_⟩;cases i with
 |zero=>
  simp only[List.getElem?_cons_zero,aG]at hc hx;subst hc;subst hx;exact⟨_,_,rfl,QB hv,aS.nil _ _,by decide,by decide⟩
 |succ i=>
  cases i with
  |zero=>
   simp only[List.getElem?_cons_succ,List.getElem?_cons_zero,aG]at hc hx;subst hc;subst hx;exact⟨_,_,rfl,aS.nil _ _,aS.nil _ _,by decide,by decide⟩
  |succ i=>simp at hx
def Tj:∀r∈[tD iF,kk pj],We r:=by
 intro r hr;rcases aO.1 hr with rfl|hr
 .exact⟨rfl,rfl,rfl,λy hy=>by rw[aR.1 hy];exact⟨_,_,_,rfl⟩,by decide⟩
 rw[aR.1 hr];exact⟨rfl,rfl,rfl,λy hy=>(by cases hy),by decide⟩
def QD(n:Int)(w:bq):xC 13 #[n] w (di (.agg #[xI 1,n,"",()]) w):=by
 have qM:∀W,(Instr.build 50 #[(0,xI 1),(1,xI n)]).run prog W= .ok (.agg #[xI 1,n,"",()]) W:=λW=>run_build W _ _ _ (by kernel_rfl);have HX:=aV (Bx.fm w (fT 0 0 () ()));delta xC;go_in;go_upto_region 1 with fail;have⟨W1,hW1⟩:=dd (w.alloc (fT 0 0 () ()));rw[<-hW1]at HX;unfold fT at hW1;rw[<-hW1];clear hW1;have⟨b0,b1,b2,b3⟩:=aU (HX.o.cP rfl);have⟨f0,f1,f2,f3⟩:=iS (HX.o.cP rfl);go_wp2_with fail;refine ah (v:= .agg #[xI 1,n,"",()]) (by simp[results,results13,go_sem,b0,b1,b2,b3,f0,f1,f2,f3]) rfl ⟨rfl,?_⟩;exact(((HX.o.1.setCell (p:=⟨w,0,none⟩) (by simp) _).setCell (p:=⟨w,1,none⟩) (by simp) _).setCell (p:=⟨w,2,none⟩) (by simp) _).setCell (p:=⟨w,3,none⟩) (by simp) _
def QE(hG:Gd w)(lv qv:bt)(iH:aS xF w lv [fD])(hq:aS xF w qv [Bt 4]):
 xC 8 #[.agg #[lv,(),(),xI 5],qv] w (de w λu w'=>u= .tuple #[(),(),xI 0,xI 101]):=
 (CG NL y9 [Bt 4] (by decide) xF w (λi hi=>hi.elim) hG lv () () qv iH (aS.nil _ _) (aS.nil _ _) hq
   (λo ho=>by rw[aR.1 ho];exact Jc ⟨by decide,by decide⟩) (.inl (by decide)) (λn=>n=101) (λi t=>i=0/\4∉t.reach)
   (.inl ⟨λo ho=>by rw[aR.1 ho];exact⟨by decide,λ_ hv=>(by cases hv)⟩,λL hL _=>⟨rfl,λh=>by
     have h1:=y9.closed.Ud ((hL _).1 h);cases h1⟩⟩) (λi o t ho hj=>by
     obtain⟨rfl,hj⟩:=hj;obtain rfl:Bt 4=o:=Option.some.inj ho;exact .inr ⟨101,rfl,Jb hj⟩) (λt hj=>by cases hj.1)).mono λ_ _⟨u,h1,h2,h3⟩=>⟨u,h1,h2.elim (λ⟨_,e,h⟩=>by rw[h,e]) (λ⟨_,_,_,_,h,_⟩=>by cases h.1),h3⟩
def Wg(hG:Gd w)(lv qv:bt)(iH:aS xF w lv [fD])(hq:aS xF w qv [lj]):
 xC 8 #[.agg #[lv,(),(),xI 5],qv] w (de w λu w'=>u= .tuple #[(),(),xI 0,xI 170]):=
 (CG NL y9 [lj] (by decide) xF w (λi hi=>hi.elim) hG lv () () qv iH (aS.nil _ _) (aS.nil _ _) hq
   (λo ho=>FH hG o (List.mem_cons_of_mem _ ho)) (.inl (by decide)) (λn=>n=170) (λ_ _=>False) (.inr ⟨⟨lj,rfl,by decide,by decide⟩,rfl⟩) (λ_ _ _ _ h=>h.elim) (λ_ h=>h.elim)).mono λ_ _⟨u,h1,h2,h3⟩=>⟨u,h1,h2.elim (λ⟨_,e,h⟩=>by rw[h,e]) (λ⟨_,_,_,_,h,_⟩=>h.elim),h3⟩
def zb:Obj:=xK #[xS ⟨#[97]⟩,xI 1,xI 0,false] 78
def zd(f:Nat):Obj:=xK #[xS ⟨#[99]⟩,xL (f,0) 1 1] 53
def ze(f:Nat):Obj:=xK #[xS ⟨#[99]⟩,xL (f,0) 1 1,()] 72
def zf(g:Nat):Obj:=xK #[xL (g,0) 1 1,(),(),xI 5] 34
abbrev Ni:Obj:=xK #[xI 1,xI 3,"",()] 50
abbrev ZM(p:Nat):Obj:=xK #[xI 1,xI 0,xS ⟨#[99]⟩,xS ⟨#[]⟩,xI 0,xI 0,xS ⟨#[]⟩,xL none 0 0,xL (some ⟨p,0,none⟩) 1 1,xS ⟨#[]⟩,xL none 0 0,xI 0,xS ⟨#[]⟩,xS ⟨#[]⟩,xS ⟨#[]⟩,xI 0,xI 0,xS ⟨#[]⟩,xS ⟨#[]⟩,xI 3,xI (-1),xS ⟨#[]⟩,xS ⟨#[104,111,109,101]⟩,xI 0,xI 0,xS ⟨#[]⟩,xL none 0 0,xL none 0 0,xS ⟨#[]⟩,xL none 0 0,xI 0,xS ⟨#[]⟩,xS ⟨#[]⟩,xS ⟨#[]⟩,xI 0,xI 0,xS ⟨#[]⟩,xS ⟨#[]⟩] 59
abbrev shE:Obj:=xK #[xI 7,xI 4,"","",xI 0,xI 0,"",(),(),"",(),xI 0,"","","",xI 0,xI 0,"",""] 59
abbrev shD:Obj:=xK #[xI 3,xI (-1),"",xS ⟨#[104,111,109,101]⟩,xI 0,xI 0,"",(),(),"",(),xI 0,"","","",xI 0,xI 0,"",""] 59
def QF(w:bq)(hG:Gd w):xC 4 #[] w (di true w):=by
 have hb1:∀W,(Instr.build 55 #[(0,xI 1)]).run prog W= .ok (.agg #[xI 1,xI 0]) W:=λW=>run_build W _ _ _ (by kernel_rfl);have cJ:∀W,(Instr.build 78 #[(0,xS ⟨#[97]⟩),(1, .agg #[xI 1,xI 0])]).run prog W= .ok (.agg #[xS ⟨#[97]⟩,xI 1,xI 0,false]) W:=λW=>run_build W _ _ _ (by kernel_rfl);have hb3:∀b W,(Instr.build 53 #[(0,xS ⟨#[99]⟩),(1,xL (some ⟨b,0,none⟩) 1 1)]).run prog W= .ok (.agg #[xS ⟨#[99]⟩,xL (b,0) 1 1]) W:=λb W=>run_build W _ _ _ (by kernel_rfl);have eZ:∀b W,(Instr.build 72 #[(0, .agg #[xS ⟨#[99]⟩,xL (some ⟨b,0,none⟩) 1 1])]).run prog W= .ok (.agg #[xS ⟨#[99]⟩,xL (b,0) 1 1,()]) W:=λb W=>run_build W _ _ _ (by kernel_rfl);have iz:∀b W,(Instr.build 30 #[(0,xL (some ⟨b,0,none⟩) 1 1)]).run prog W= .ok (.agg #[xL (b,0) 1 1]) W:=λb W=>run_build W _ _ _ (by kernel_rfl);have kN:∀b W,(Instr.build 34 #[(0, .agg #[xL (some ⟨b,0,none⟩) 1 1]),(3,xI 5)]).run prog W= .ok (.agg #[xL (b,0) 1 1,(),(),xI 5]) W:=λb W=>run_build W _ _ _ (by kernel_rfl);have gw:∀b W,(Instr.build 59 #[(0,xI 1),(2,xS ⟨#[99]⟩),(5,xL (some ⟨b,0,none⟩) 1 1)]).run prog W= .ok (.agg #[xI 1,xI 0,xS ⟨#[99]⟩,"",xI 0,xI 0,"",(),xL (b,0) 1 1,"",(),xI 0,"","","",xI 0,xI 0,"",""]) W:=λb W=>run_build W _ _ _ (by kernel_rfl);have F1:∀W,(Instr.build 59 #[(0,xI 3),(3,xS ⟨#[104,111,109,101]⟩),(1,xI (-1))]).run prog W= .ok (.agg #[xI 3,xI (-1),"",xS ⟨#[104,111,109,101]⟩,xI 0,xI 0,"",(),(),"",(),xI 0,"","","",xI 0,xI 0,"",""]) W:=λW=>run_build W _ _ _ (by kernel_rfl);have vN:∀W,(Instr.build 59 #[(0,xI 7),(1,xI 4)]).run prog W= .ok (.agg #[xI 7,xI 4,"","",xI 0,xI 0,"",(),(),"",(),xI 0,"","","",xI 0,xI 0,"",""]) W:=λW=>run_build W _ _ _ (by kernel_rfl);have nY:∀W,(Instr.build 34 #[]).run prog W= .ok (.agg #[(),(),(),xI 0]) W:=λW=>run_build W _ _ _ (by kernel_rfl);have CW:∀b W,(Instr.build 41 #[(0,xI 5),(3,xL (some ⟨b,0,none⟩) 1 1)]).run prog W= .ok (.agg #[xI 5,xI 0,xI 0,xL (b,0) 1 1]) W:=λb W=>run_build W _ _ _ (by kernel_rfl);have JQ:∀b W,(Instr.build 81 #[(0,xI 1),(1, .agg #[xI 5,xI 0,xI 0,xL (some ⟨b,0,none⟩) 1 1])]).run prog W= .ok (.agg #[xI 1,xI 5,xI 0,xI 0,xL (b,0) 1 1,xI 0,xI 0,"","",(),xI 0,"","","",xI 0,xI 0,"",""]) W:=λb W=>run_build W _ _ _ (by kernel_rfl);have RI:∀W,(Instr.build 81 #[(0,xI 2),(4,xS ⟨#[104,111,109,101]⟩),(2,xI 5)]).run prog W= .ok (.agg #[xI 2,xI 0,xI 0,xI 0,(),xI 5,xI 0,xS ⟨#[104,111,109,101]⟩,"",(),xI 0,"","","",xI 0,xI 0,"",""]) W:=λW=>run_build W _ _ _ (by kernel_rfl);have qca:∀W,(Instr.build 59 #[]).run prog W= .ok (.agg #[xI 0,xI 0,"","",xI 0,xI 0,"",(),(),"",(),xI 0,"","","",xI 0,xI 0,"",""]) W:=λW=>run_build W _ _ _ (by kernel_rfl);have HX:=aV (Bx.Lk w zb (zd w) (ze w) (zf [w,w]));have HG:=aV hG;clear hG;have fB:Hd (∀V,Bx w [zb,zd w,ze w,zf [w,w]] V->aS xF V (xL (some ⟨[w,w],0,none⟩) 1 1) [fD]):=λV hb=>Th (hb.cP rfl) (hb.im rfl);have nU:Hd (∀V,Bx w [zb,zd w,ze w,zf [w,w]] V->xC 8 #[.agg #[xL (some ⟨[w,w],0,none⟩) 1 1,(),(),xI 5],xL ([V],0) 2 2] ((V.alloc Ni).alloc (ZM V)) (de ((V.alloc Ni).alloc (ZM V)) λu w'=>∃(cv kv:bt),u= .tuple #[cv,kv,xI 6,xI 0]/\aS xF w' cv [tD iF,kk pj]/\aS xF w' kv [(⟨#[115]⟩:bS)])):=λV hb=>by
  have h0:=(hb.alloc Ni).alloc (ZM V);have h1:=az V Ni;have h2:=az (V.alloc Ni) (ZM V);have h3:=(aB (V.alloc Ni) (ZM V) V (by simp)).trans h1;have e:(V.alloc Ni).heap.size=[V]:=by simp
  rw[e]at h2;exact M8 xF _ (λi hi=>hi.elim) (HG.o.aT h0.1) _ _ (fB.o _ h0) (Wf h3 h2)
 have vZ:Hd (∀V,Bx w [zb,zd w,ze w,zf [w,w]] V->xC 8 #[.agg #[xL (some ⟨[w,w],0,none⟩) 1 1,(),(),xI 5],xL (V,0) 1 1] (V.alloc shE) (de (V.alloc shE) λu w'=>u= .tuple #[(),(),xI 0,xI 101])):=λV hb=>by
  have h0:=hb.alloc shE;exact QE (HG.o.aT h0.1) _ _ (fB.o _ h0) (QC (Bt 4) rfl rfl (az V shE))
 have Ym:Hd (∀V,Bx w [zb,zd w,ze w,zf [w,w]] V->xC 8 #[.agg #[xL (some ⟨[w,w],0,none⟩) 1 1,(),(),xI 5],xL (V,0) 1 1] (V.alloc shD) (de (V.alloc shD) λu w'=>u= .tuple #[(),(),xI 0,xI 170])):=λV hb=>by
  have h0:=hb.alloc shD;exact Wg (HG.o.aT h0.1) _ _ (fB.o _ h0) (QC lj rfl rfl (az V shD))
 have Nt:Hd (∀V,Bx w [zb,zd w,ze w,zf [w,w]] V->_):=λV hb=>Qo V (HG.o.aT hb.1).tb none 0 0;have zj:Hd (∀V,Bx w [zb,zd w,ze w,zf [w,w]] V->aS xF ((V.alloc Ni).alloc (xK #[xI 1,xI 5,xI 0,xI 0,xL (some ⟨V.heap.size,0,none⟩) 1 1,xI 0,xI 0,xS ⟨#[]⟩,xS ⟨#[]⟩,xL none 0 0,xI 0,xS ⟨#[]⟩,xS ⟨#[]⟩,xS ⟨#[]⟩,xI 0,xI 0,xS ⟨#[]⟩,xS ⟨#[]⟩,xI 2,xI 0,xI 0,xI 0,xL none 0 0,xI 5,xI 0,xS ⟨#[104,111,109,101]⟩,xS ⟨#[]⟩,xL none 0 0,xI 0,xS ⟨#[]⟩,xS ⟨#[]⟩,xS ⟨#[]⟩,xI 0,xI 0,xS ⟨#[]⟩,xS ⟨#[]⟩] 81)) (xL ([V],0) 2 2) [tD iF,kk pj]):=λV hb=>by
  have h1:=az V Ni;have h2:=az (V.alloc Ni) (xK #[xI 1,xI 5,xI 0,xI 0,xL (some ⟨V.heap.size,0,none⟩) 1 1,xI 0,xI 0,xS ⟨#[]⟩,xS ⟨#[]⟩,xL none 0 0,xI 0,xS ⟨#[]⟩,xS ⟨#[]⟩,xS ⟨#[]⟩,xI 0,xI 0,xS ⟨#[]⟩,xS ⟨#[]⟩,xI 2,xI 0,xI 0,xI 0,xL none 0 0,xI 5,xI 0,xS ⟨#[104,111,109,101]⟩,xS ⟨#[]⟩,xL none 0 0,xI 0,xS ⟨#[]⟩,xS ⟨#[]⟩,xS ⟨#[]⟩,xI 0,xI 0,xS ⟨#[]⟩,xS ⟨#[]⟩] 81);have h3:=(aB (V.alloc Ni) (xK #[xI 1,xI 5,xI 0,xI 0,xL (some ⟨V.heap.size,0,none⟩) 1 1,xI 0,xI 0,xS ⟨#[]⟩,xS ⟨#[]⟩,xL none 0 0,xI 0,xS ⟨#[]⟩,xS ⟨#[]⟩,xS ⟨#[]⟩,xI 0,xI 0,xS ⟨#[]⟩,xS ⟨#[]⟩,xI 2,xI 0,xI 0,xI 0,xL none 0 0,xI 5,xI 0,xS ⟨#[104,111,109,101]⟩,xS ⟨#[]⟩,xL none 0 0,xI 0,xS ⟨#[]⟩,xS ⟨#[]⟩,xS ⟨#[]⟩,xI 0,xI 0,xS ⟨#[]⟩,xS ⟨#[]⟩] 81) V (by simp)).trans h1;have e:(V.alloc Ni).heap.size=[V]:=by simp
  rw[e]at h2;exact Ti h3 h2
 delta xC;go_in;go_upto_region 3 with fail;have⟨W3,hW3⟩:=dd ((((w.alloc zb).alloc (zd w)).alloc (ze w)).alloc (zf [w,w]));rw[<-hW3]at HX;unfold zb zd ze zf at hW3;rw[<-hW3];clear hW3 hb1 cJ hb3 eZ iz kN;have X4:Hd (∀V,Bx w [zb,zd w,ze w,zf [w,w]] V->_):=λV hb=>aU (show V.heap[w.heap.size+1+1+1]? =_ from hb.at_ 3 rfl);have HWA:Hd (∀V,Bx w [zb,zd w,ze w,zf [w,w]] V->∀o,_):=λV hb o=>aU (show(V.alloc o).heap[w.heap.size+1+1+1]? =_ from(hb.alloc o).at_ 3 rfl);have Ux:Hd (∀V,Bx w [zb,zd w,ze w,zf [w,w]] V->∀o o2,_):=λV hb o o2=>aU (show((V.alloc o).alloc o2).heap[w.heap.size+1+1+1]? =_ from((hb.alloc o).alloc o2).at_ 3 rfl);have uO:Hd (Bx w [zb,zd w,ze w,zf [w,w]] W3.drew):=HX.o.drew;have⟨k0,k1,k2,k3⟩:=X4.o _ HX.o;go_cut [3,4,5,6](λv3 v4 v5 v6 wx=>∃cv kv:bt,v3=cv/\v4=kv/\v5=xI 6/\v6=xI 0/\Hd (aS xF wx cv [tD iF,kk pj]/\aS xF wx kv [(⟨#[115]⟩:bS)]/\Bx w [zb,zd w,ze w,zf [w,w]] wx))
 .go_region_law(first
   |(go_simp;go_at_call 13;refine dx (QD 3 _) λw4 eZ=> ?_;have nX:Hd (Bx w [zb,zd w,ze w,zf [w,w]] w4):=uO.o.aT eZ;have k0:=(X4.o _ nX.o).1;have k1:=(X4.o _ nX.o).2.1;have k2:=(X4.o _ nX.o).2.2.1;have k3:=(X4.o _ nX.o).2.2.2;have l0:=λo=>(HWA.o _ nX.o o).1;have l1:=λo=>(HWA.o _ nX.o o).2.1;have l2:=λo=>(HWA.o _ nX.o o).2.2.1;have l3:=λo=>(HWA.o _ nX.o o).2.2.2;have m0:=λo o2=>(Ux.o _ nX.o o o2).1;have m1:=λo o2=>(Ux.o _ nX.o o o2).2.1;have m2:=λo o2=>(Ux.o _ nX.o o o2).2.2.1;have m3:=λo o2=>(Ux.o _ nX.o o o2).2.2.2;clear eZ)
   |(go_simp;go_at_call 8;refine(nU.o _ nX.o).mono ?_;rintro e w5⟨_,rfl,⟨cv,kv,rfl,hc,hk⟩,iz⟩;have HA5:Hd (aS xF w5 cv [tD iF,kk pj]/\aS xF w5 kv [(⟨#[115]⟩:bS)]/\Bx w [zb,zd w,ze w,zf [w,w]] w5):=⟨hc,hk,((nX.o.alloc _).alloc _).aT iz⟩;clear hc hk iz)
   |fail);all_goals(go_wp2;go_meet)
  all_goals exact⟨_,_,rfl,rfl,rfl,rfl,HA5⟩
 obtain⟨cv,kv,rfl,rfl,rfl,rfl,HC⟩:=hcut;obtain⟨ca,cc,rfl,-⟩:=HC.o.1.bj;obtain⟨kb,ko,kc,rfl,-,hkc⟩:=Nh (i:=0) HC.o.2.1 rfl;have FV:=aV hkc;have HXC:Hd (Bx w [zb,zd w,ze w,zf [w,w]] wc):=HC.o.2.2;have Xo:Hd (aS xF wc (xL ca [tD iF,kk pj].length cc) [tD iF,kk pj]):=HC.o.1;clear hkc HC gw k0 k1 k2 k3 nU;dsimp only[List.length_cons,List.length_nil,Nat.zero_add,Nat.reduceAdd]at*;have⟨k0,k1,k2,k3⟩:=X4.o _ HXC.o;go_wp2_with fail;refine(vZ.o _ HXC.o).mono ?_;rintro e w6⟨_,rfl,rfl,kN⟩;have Db:Hd (Bx w [zb,zd w,ze w,zf [w,w]] w6/\bC wc w6):=⟨(HXC.o.alloc _).aT kN,cU.trans (kN.mono (by simp))⟩;clear kN k0 k1 k2 k3;have⟨k0,k1,k2,k3⟩:=X4.o _ Db.o.1;go_wp2_with fail;refine(Ym.o _ Db.o.1).mono ?_;rintro e w7⟨_,rfl,rfl,gw⟩;have Nx:Hd (Bx w [zb,zd w,ze w,zf [w,w]] w7/\bC wc w7):=⟨(Db.o.1.alloc _).aT gw,Db.o.2.trans ((cU.trans (gw.mono (by simp))).mono Db.o.2.size)⟩;clear gw k0 k1 k2 k3;go_wp2_with fail;refine(Nt.o _ Nx.o.1).mono ?_;rintro e w8⟨_,rfl,rfl,F1⟩;have RD:Hd (Bx w [zb,zd w,ze w,zf [w,w]] w8/\bC wc w8):=⟨Nx.o.1.aT F1,Nx.o.2.trans (F1.mono Nx.o.2.size)⟩;clear F1;go_wp2_with fail;refine dx (QD 3 _) λw9 vN=> ?_;have FX:Hd (Bx w [zb,zd w,ze w,zf [w,w]] w9/\bC wc w9):=⟨RD.o.1.aT vN,RD.o.2.trans (vN.mono RD.o.2.size)⟩;clear vN;go_upto_region 8 with fail;have⟨W9,hW9⟩:=dd ((w9.alloc Ni).alloc (xK #[xI 1,xI 5,xI 0,xI 0,xL (some ⟨w9.heap.size,0,none⟩) 1 1,xI 0,xI 0,xS ⟨#[]⟩,xS ⟨#[]⟩,xL none 0 0,xI 0,xS ⟨#[]⟩,xS ⟨#[]⟩,xS ⟨#[]⟩,xI 0,xI 0,xS ⟨#[]⟩,xS ⟨#[]⟩,xI 2,xI 0,xI 0,xI 0,xL none 0 0,xI 5,xI 0,xS ⟨#[104,111,109,101]⟩,xS ⟨#[]⟩,xL none 0 0,xI 0,xS ⟨#[]⟩,xS ⟨#[]⟩,xS ⟨#[]⟩,xI 0,xI 0,xS ⟨#[]⟩,xS ⟨#[]⟩] 81));have JP:=aV (show bC wc W9/\Bx w [zb,zd w,ze w,zf [w,w]] W9 by rw[hW9];exact⟨FX.o.2.trans ((cU.alloc (by simp) _).mono FX.o.2.size),(FX.o.1.alloc _).alloc _⟩);have Gt:=aV (show aS xF W9 (xL ([w9],0) 2 2) [tD iF,kk pj]by rw[hW9];exact zj.o _ FX.o.1);rw[<-hW9];clear hW9 F1 nY CW JQ RI;have hkv:=FV.o _ JP.o.1;go_wp2_with fail;refine dx (FI _ Tj _ _ _ _ (Xo.o.aT JP.o.1) Gt.o) λw10 nY=> ?_;have rQ:Hd (bC wc w10/\Bx w [zb,zd w,ze w,zf [w,w]] w10):=⟨JP.o.1.trans (nY.mono JP.o.1.size),JP.o.2.aT nY⟩;clear nY hkv;have hkv:=FV.o _ rQ.o.1;rw[Nat.add_zero]at hkv;go_wp2_with fail;refine dx (tC 4 ⟨by decide,by decide⟩ _) λw11 CW=> ?_;have F2:=aV (rQ.o.2.aT CW);clear CW hkv;go_wp2_with fail;refine dx (CB _) λw12 JQ=> ?_;have rR:=aV (F2.o.aT JQ);clear JQ;go_wp2;go_ret;exact⟨rfl,rR.o.1⟩
def Wh {n:bS}(h:cX W g (.cells (NK (unOp n) () ()).toArray 59 (0,0)))(hM:¬M g):aS M W (xL (g,0) 1 1) [unOp n]:=by
 refine⟨[NK (unOp n) () ()],jC h 19 1 (by omega) rfl hM,rfl,λi cs x hc hx=> ?_⟩;cases i with
 |succ i=>simp at hx
 |zero=>
  simp at hc hx;subst hc;subst hx;exact⟨_,_,rfl,aS.nil _ _,aS.nil _ _,λ_=>rfl,λ_=>rfl⟩
def Nj {x:bU}{ls:List cm}{n:Nat}{o0:cm}(h:Jg x S x.bN.length ls)(h0:x.bN[i]? =some o0)(hc:o0.dz=n):(∃v∈dW n ls,v.num=o0.id)↔o0.id∈S:=by
 unfold dW;constructor
 .rintro⟨v,hv,e⟩;obtain⟨o,ho,rfl⟩:=aQ.1 hv;have⟨j,o1,_,hS,e1,_⟩:=h.from_ o (List.mem_filter.1 ho).1;have e:o.id=o0.id:=e;rw[<-e,e1];exact hS
 intro hS;have⟨o,ho,e1,e2⟩:=h.all i o0 (ag.1 h0).1 h0 hS;exact⟨_,aQ.2 ⟨o,List.mem_filter.2 ⟨ho,by rw[e2,hc];simp⟩,rfl⟩,e1⟩
def vX(n:Int)(L:List Int)(i:Nat):Bool:=(L.take i).any λy=>decide (y=n)
def Bv {n:Int}{L:List Int}{y:Int}(h:L[i]? =some y):vX n L (i+1)=(vX n L i||decide (y=n)):=by
 unfold vX;rw[ao,h,List.any_append];simp
def QG {n:Int}{L:List Int}:vX n L L.length=decide (n∈L):=by
 unfold vX;rw[List.take_length,Bool.eq_iff_iff];simp
def FJ {n:Int}{L:List Int}:vX n L L.length=true↔n∈L:=by
 rw[QG];simp
def Nk {x:bU}{ls:List cm}{n:Nat}{o0:cm}(h:Jg x S x.bN.length ls)(h0:x.bN[i]? =some o0)(hc:o0.dz=n):o0.id∈(dW n ls).map bE.num↔o0.id∈S:=by
 rw[aQ];exact Nj h h0 hc
def Wi {y:bU}{o0:cm}(h:ZJ y o0 u w'):∃(a b c:Int)(va:fM)(vn vc:Nat)(en:Int),u= .tuple #[.agg #[a,b,c,xL va vn vc],en]/\(en=0↔Mk.wD (cV y) (dT y) o0.id):=by
 rcases h with⟨h,dB,vs,vv,rfl,hv⟩|⟨h,rfl⟩
 .obtain⟨va,vc,rfl,-⟩:=hv.bj;exact⟨_,_,_,_,_,_,_,rfl,λ_=>h,λ_=>rfl⟩
 exact⟨_,_,_,_,_,_,_,rfl,λe=>(by cases e),λe=>absurd e h⟩
def FK(c:Int)(n:Nat)(h1:1<=n)(h5:n<=5)(W:bq)(hc:I6 c):xC 6 #[c,xI (n:Int)] W λe W'=>(∃m:Nat,m<n/\e=xR (xI (m:Int)))/\W=W':=by
 refine ey (Jm c n W hc (by omega) (by omega)) ?_;exact⟨⟨_,dJ c (n:Int).toNat (by omega),rfl⟩,rfl⟩
set_option maxHeartbeats 30000000 in
theorem zV(w:World)(hG:Gd w)(r0 r1 r2:Option Addr)(n0 c0 n1 c1 n2 c2:Nat)(RJ:Int)(X5:I6 RJ)
 (YC:∀W,Below w.heap.size w W->Calls prog 5 #[.agg #[.slice r0 n0 c0, .slice r1 n1 c1, .slice r2 n2 c2]] W (de W λu w'=>∃(x:bU)(lv ov rv:Value),B9 x/\u= .agg #[lv,ov,rv, .int .i64 x.next]/\aS (λ_=>False) w' lv x.bH/\aS (λ_=>False) w' ov x.bN/\aS (λ_=>False) w' rv x.bB)):
 Calls prog 3 #[.agg #[.slice r0 n0 c0, .slice r1 n1 c1, .slice r2 n2 c2], .int .i64 RJ] w λe w'=>e= .returned (.bool true)/\Below w.heap.size w w':=by
 have BF:=hD YC;have RH:=hD hG;have KN:Hid (∀W n,_):=(show∀W n,_ fromλW n h1 h5=>FK RJ n h1 h5 W X5);have ik:=hD (Bx.fm w (.cells #[.slice r0 n0 c0, .slice r1 n1 c1, .slice r2 n2 c2] 26 (0,0)));have Us:Hid (∀W,Below w.heap.size w W->_):=(show∀W,_->_ fromλW hb=>QF W (hG.aT hb));clear YC hG X5;go_enter func3,ntmps3;go_wp2_with fail;refine(Us.out _ ik.out.1).mono ?_;rintro e w1⟨rfl,hb1⟩;have cu:=hD (ik.out.aT hb1);obtain⟨y0,y1,y2⟩:=bM (cu.out.cP rfl);clear hb1 ik Us;go_wp2_with fail;refine(BF.out _ cu.out.1).mono ?_;rintro e w2⟨_,rfl,⟨x,lv,ov,rv,hx,rfl,iH,hov,ib⟩,cJ⟩;obtain⟨la,lc,rfl,-⟩:=iH.bj;obtain⟨oa,oc,rfl,-⟩:=hov.bj;obtain⟨ra,rc,rfl,-⟩:=ib.bj;have HX:=hD hx.wr;have Gh:=hD hx.rlen;have bZ:=hD (cu.out.aT cJ);have pA:=hD (And.intro iH (And.intro hov ib));clear cJ hx iH hov ib y0 y1 y2 cu BF;go_upto_region 3 with fail;obtain⟨W2,hW2⟩:∃W2:World,W2=w2.alloc (.cells #[.slice la x.bH.length lc, .slice oa x.bN.length oc, .slice ra x.bB.length rc, .int .i64 x.next] 34):=⟨_,rfl⟩;have cR:Hid (Bx w _ W2):=(show Bx w _ W2 from by rw[hW2];exact bZ.out.alloc _);have nh:Hid (Below w2.heap.size w2 W2/\W2.heap[w2.heap.size]? =some (.cells #[.slice la x.bH.length lc, .slice oa x.bN.length oc, .slice ra x.bB.length rc, .int .i64 x.next] 34 (0,0))):=(show _/\_ from by rw[hW2];exact⟨(ay _ _).alloc (ae _) _,az w2 _⟩);rw[<-hW2];clear hW2 bZ;have FV:Hid (∀W,Below W2.heap.size W2 W->_):=(show∀W,_->_ fromλW hb=>aU ((hb.block _ (ab.1 nh.out.2).1).trans nh.out.2));obtain⟨k0,k1,k2,k3⟩:=FV.out W2 (ay _ _);by_cases Yo:x.bB.length=0
 .rw[Yo]at k2;go_wp2_with fail;go_ret;exact⟨rfl,cR.out.1⟩
 have HPX:Hid (∀W,_):=(show∀W,_ fromλW=>KN.out W x.bB.length (by omega) Gh.out);have hr1:(0:Int)<(x.bB.length:Int):=by omega
 obtain⟨b3,X6,qhj,hv3,-,-,-⟩:=fU pA.out.2.2 (af (show 0<x.bB.length by omega));obtain⟨rfl,rfl⟩:ra=some ⟨b3,X6,none⟩/\rc=qhj:=by simpa using hv3
 have zj:Hid (∀m:Nat,m<x.bB.length->∃r,x.bB[m]? =some r/\∀W,Below w2.heap.size w2 W->W.cell? ⟨b3,X6+m*2,none⟩=some (.string r.aX)/\W.cell? ⟨b3,X6+m*2+1,none⟩=some (.int .i64 r.id)):=(show∀m:Nat,_->_ fromλm hm=>by
  refine⟨_,af hm,?_⟩;obtain⟨b,off,cap,hv,-,-,hc⟩:=fU pA.out.2.2 (af hm);obtain⟨⟨rfl,rfl⟩,rfl⟩:(b3=b/\X6=off)/\rc=cap:=by simpa using hv
  exact hc);have qfo:Below w2.heap.size w2 W2.drew:=nh.out.1.drew;have qcb:=hD qfo;clear hv3 qfo;go_upto_region 5 with fail;go_cut [7](λv7 wx=>∃(m K:Nat)(r:bT),v7= .pointer (some ⟨K,0,none⟩)/\Hid (x.bB[m]? =some r/\Below W2.heap.size W2 wx/\W2.heap.size<=K/\wx.heap[K]? =some (.cells #[.string r.aX, .int .i64 r.id] 37 (0,0))));case first=>
  have gK:=λo=>(FV.out (W2.alloc o) ((ay _ _).alloc (ae _) o)).2.2.1;go_region_law(first
   |(go_simp;go_at_call 6;refine(HPX.out _).mono ?_;rintro e w3⟨⟨m,hm,rfl⟩,rfl⟩;obtain⟨r,hr,hc⟩:=zj.out m hm;have gA:=hc _ nh.out.1;have gB:=λo=>hc (W2.alloc o) (nh.out.1.alloc nh.out.1.size o);have gC:=λo=>hc (W2.drew.alloc o) (qcb.out.alloc qcb.out.size o))
   |fail);all_goals(go_wp2_with fail;go_meet)
  all_goals exact⟨m,_,r,rfl,hD ⟨hr,((ay _ _).alloc (ae _) _).drew,ae _,az W2 _⟩⟩
 case rest=>
 obtain⟨m,K,r,rfl,zY⟩:=hcut;rename World=>W3;have Q7:=ai zY.out.1;obtain⟨i0,o0,kc,l0,h0,hid,hcl,hln,hat⟩:=HX.out.Tc Q7;have hnm:=HX.out.mL r Q7;obtain⟨y,hy⟩:∃y:bU,y=unX x r.aX:=⟨_,rfl⟩;have YZ:Hid (fL y):=(show fL y from by rw[hy];exact HX.out.Ql r.aX);have hyn:y.next=x.next:=by rw[hy]
 have hyl:y.bH=x.bH:=by rw[hy]
 have h0y:y.bN[i0]? =some o0:=by rw[hy];exact h0
 have HYR:Hid (∀q∈y.bB,q.aX≠r.aX):=(show∀q∈y.bB,_ fromλq hq=>by rw[hy]at hq;exact(qh.1 hq).2);have hcn:bF l0.bu.aX=true:=((cw _).1 (HX.out.sch.bH l0 (ai hln)).bu.right).1;have hkl:kc<x.bH.length:=(ag.1 hln).1;obtain⟨lb,lo,lcap,_,_,_,_,iH,-,-,-,-,hlc⟩:=fp pA.out.1 hln;obtain⟨rfl,rfl⟩:la=some ⟨lb,lo,none⟩/\lc=lcap:=by simpa using iH
 have HNC:=hD hlc;have zh:Hid (∀W,Below W3.heap.size W3 W->_):=(show∀W,_->_ fromλW hb=>aZ ((hb.block _ (ab.1 zY.out.2.2.2).1).trans zY.out.2.2.2));have qp:Hid (∀W,Below W3.heap.size W3 W->Below W2.heap.size W2 W):=(show∀W,_->_ fromλW hb=>zY.out.2.1.trans (hb.mono zY.out.2.1.size));have JA:Hid (∀W,Below W3.heap.size W3 W->Below w2.heap.size w2 W):=(show∀W,_->_ fromλW hb=>nh.out.1.trans ((qp.out W hb).mono nh.out.1.size));have oe:Hid (∀W,Below W3.heap.size W3 W->Below w.heap.size w W):=(show∀W,_->_ fromλW hb=>cR.out.1.trans ((qp.out W hb).mono cR.out.1.size));have HGT:Hid (∀W,Below W3.heap.size W3 W->_):=(show∀W,_->_ fromλW hb=>KG x W _ _ _ HX.out (RH.out.aT (oe.out W hb)) (pA.out.1.aT (JA.out W hb)) (pA.out.2.1.aT (JA.out W hb)) (pA.out.2.2.aT (JA.out W hb)) i0 o0 h0);have HRU:Hid (∀W qv,Below W3.heap.size W3 W->aS (λ_=>False) W qv [unOp r.aX]->_):=(show∀W qv,_->_->_ fromλW qv hb hq=>Wa x HX.out Q7 (λ_=>False) W (λi hi=>hi.elim) (RH.out.aT (oe.out W hb)) _ _ _ qv (pA.out.1.aT (JA.out W hb)) (pA.out.2.1.aT (JA.out W hb)) (pA.out.2.2.aT (JA.out W hb)) hq);have pB:Hid (∀W cv,Below W3.heap.size W3 W->aS (λ_=>False) W cv [kk ⟨r.aX,0⟩]->_):=(show∀W cv,_->_->_ fromλW cv hb hc=>Bg x y HX.out YZ.out [kk ⟨r.aX,0⟩] (by rw[hy];exact Qn ⟨hnm.1,by have:=hnm.2;unfold maxLen;omega⟩) (by simp) (λ_=>False) W (λi hi=>hi.elim) (RH.out.aT (oe.out W hb)) _ _ _ cv (pA.out.1.aT (JA.out W hb)) (pA.out.2.1.aT (JA.out W hb)) (pA.out.2.2.aT (JA.out W hb)) hc);have qfp:Mk.wD (cV x) (dT x) o0.id:= .root _ (by rw[hid];exact aQ.2 ⟨r,Q7,rfl⟩);have hb1:∀(n:ByteArray)(W:World),(Instr.build 59 #[(0, .int .i64 4),(3, .string n)]).run prog W= .ok (zR 4 0 ⟨#[]⟩ n (.slice none 0 0) ⟨#[]⟩ (.slice none 0 0)) W:=λ_ W=>run_build W _ _ _ (by kernel_rfl);have cJ:∀(n:ByteArray)(W:World),(Instr.build 75 #[(0, .int .i64 2),(3, .string n)]).run prog W= .ok (Qu n) W:=λ_ W=>run_build W _ _ _ (by kernel_rfl);rw[hid]at HGT;rw[hyn]at pB;have HQ:Hid (x.bN[i0]? =some o0/\o0.id=r.id/\o0.dz=(kc:Int)/\Mk.wD (cV x) (dT x) o0.id/\y.bN[i0]? =some o0/\y.bH=x.bH/\ek x.bH l0.bu.aX=kc/\bF l0.bu.aX=true/\kc<x.bH.length):=(show _/\_ from⟨h0,hid,hcl,qfp,h0y,hyl,hat,hcn,hkl⟩);have hk1:(kc:Int)<(x.bH.length:Int):=by omega
 have hk2:¬(x.bH.length:Int)<=(kc:Int):=by omega
 have NN:(0:Int)<=(kc:Int):=by omega
 clear Q7 h0 hid hcl hln hat hnm hy hyl h0y hcn hkl iH hlc qfp;obtain⟨k0,k1,k2,k3⟩:=FV.out W3 zY.out.2.1;obtain⟨c0,c1⟩:=zh.out W3 (ay _ _);go_wp2_with fail;refine(HGT.out W3 (ay _ _)).mono ?_;rintro e w4⟨_,rfl,⟨-,dB,vs,vv,rfl,hvv⟩|⟨hno,-⟩,eZ⟩;rotate_left
 .exact absurd HQ.out.2.2.2.1 hno
 obtain⟨va,vc,rfl,-⟩:=hvv.bj;rw[HQ.out.2.1,HQ.out.2.2.1];generalize vs.length=vn at*;clear hvv k0 k1 k2 k3 c0 c1 HGT;go_upto_region 7 with fail;obtain⟨W5,hW5⟩:∃W5:World,W5=w4.alloc (.cells #[.int .i64 r.id, .int .i64 kc, .int .i64 dB, .slice va vn vc] 41):=⟨_,rfl⟩;have FZ:Hid (W5.heap[w4.heap.size]? =some (.cells #[.int .i64 r.id, .int .i64 kc, .int .i64 dB, .slice va vn vc] 41 (0,0))):=(show _=_ from by rw[hW5];exact az w4 _);have jF:Hid (Below W3.heap.size W3 W5):=(show Below _ _ _ from by rw[hW5];exact eZ.alloc eZ.size _);rw[<-hW5];clear hW5 eZ;obtain⟨k0,k1,k2,k3⟩:=FV.out W5 (qp.out _ jF.out);obtain⟨c0,c1⟩:=zh.out W5 jF.out;have HR6:=hD (HRU.out (W5.alloc (.cells (NK (unOp r.aX) (.slice none 0 0) (.slice none 0 0)).toArray 59)) (.slice (some ⟨W5.heap.size,0,none⟩) 1 1) (jF.out.alloc jF.out.size _) (Wh (az W5 _) (λh=>h)));go_wp2_with fail;refine(HR6.out).mono ?_;rintro e w7⟨_,rfl,⟨cv,kv,ks,rfl,hcv,hkv⟩,gw⟩;have og:Hid (Below W3.heap.size W3 w7):=(show Below _ _ _ from(jF.out.alloc jF.out.size _).trans (gw.mono (jF.out.alloc jF.out.size _).size));have KO:Hid (w7.heap[w4.heap.size]? =_):=(show _=_ from(gw.block _ (by have:=(ab.1 FZ.out).1;simp;omega)).trans ((aB _ _ _ (ab.1 FZ.out).1).trans FZ.out));have HC7:=hD hcv;obtain⟨za,zc,rfl,-⟩:=hcv.bj;obtain⟨ya,yc,rfl,-⟩:=hkv.bj;generalize ks.length=kn at*;dsimp only[List.length_cons,List.length_nil,Nat.reduceAdd]at*;clear hcv hkv gw k0 k1 k2 k3 c0 c1 FZ HR6 jF HRU hb1;obtain⟨k0,k1,k2,k3⟩:=FV.out w7 (qp.out _ og.out);go_wp2_with fail;refine(pB.out w7 _ og.out HC7.out).mono ?_;rintro e w8⟨_,rfl,⟨lz,oz,rz,rfl,hlz,hoz,hrz⟩,F1⟩;have HZ8:=hD (And.intro hlz (And.intro hoz hrz));obtain⟨lza,lzc,rfl,-⟩:=hlz.bj;obtain⟨oza,ozc,rfl,-⟩:=hoz.bj;obtain⟨rza,rzc,rfl,-⟩:=hrz.bj;clear hlz hoz hrz k0 k1 k2 k3 HC7 pB;go_upto_region 9 with fail;obtain⟨W9,hW9⟩:∃W9:World,W9=w8.alloc (.cells #[.slice lza y.bH.length lzc, .slice oza y.bN.length ozc, .slice rza y.bB.length rzc, .int .i64 x.next] 34):=⟨_,rfl⟩;have HK9:Hid (Below w8.heap.size w8 W9/\W9.heap[w8.heap.size]? =some (.cells #[.slice lza y.bH.length lzc, .slice oza y.bN.length ozc, .slice rza y.bB.length rzc, .int .i64 x.next] 34 (0,0))):=(show _/\_ from by rw[hW9];exact⟨(ay _ _).alloc (ae _) _,az w8 _⟩);rw[<-hW9];clear hW9;have JP:Hid (∀W,Below W9.heap.size W9 W->Below w8.heap.size w8 W):=(show∀W,_->_ fromλW hb=>HK9.out.1.trans (hb.mono HK9.out.1.size));have H79:Hid (∀W,Below W9.heap.size W9 W->Below w7.heap.size w7 W):=(show∀W,_->_ fromλW hb=>F1.trans ((JP.out W hb).mono F1.size));have U9:Hid (∀W,Below W9.heap.size W9 W->Below W3.heap.size W3 W):=(show∀W,_->_ fromλW hb=>og.out.trans ((H79.out W hb).mono og.out.size));have HKB:Hid (∀W,Below W9.heap.size W9 W->_):=(show∀W,_->_ fromλW hb=>aU (((H79.out W hb).block _ (ab.1 KO.out).1).trans KO.out));have qL:Hid (∀W,Below W9.heap.size W9 W->_):=(show∀W,_->_ fromλW hb=>aU ((hb.block _ (ab.1 HK9.out.2).1).trans HK9.out.2));have HGZ:Hid (∀W,Below W9.heap.size W9 W->Gd W):=(show∀W,_->_ fromλW hb=>RH.out.aT (oe.out W (U9.out W hb)));have R9:Hid (∀W,Below W9.heap.size W9 W->_/\_/\_):=(show∀W,_->_/\_/\_ fromλW hb=>⟨HZ8.out.1.aT (JP.out W hb),HZ8.out.2.1.aT (JP.out W hb),HZ8.out.2.2.aT (JP.out W hb)⟩);have XW:Hid (∀W,Below W9.heap.size W9 W->_):=(show∀W,_->_ fromλW hb=>Bq y W _ _ _ YZ.out (HGZ.out W hb) (R9.out W hb).1 (R9.out W hb).2.1 (R9.out W hb).2.2);have KL:Hid (∀W,Below W9.heap.size W9 W->_):=(show∀W,_->_ fromλW hb=>Bu y (λ_=>False) W (.slice lza y.bH.length lzc) (.slice oza y.bN.length ozc) (.slice rza y.bB.length rzc) rfl rfl r.aX (R9.out W hb).2.2);have HGT:Hid (∀W,Below W9.heap.size W9 W->_):=(show∀W,_->_ fromλW hb=>KG y W _ _ _ YZ.out (HGZ.out W hb) (R9.out W hb).1 (R9.out W hb).2.1 (R9.out W hb).2.2 i0 o0 HQ.out.2.2.2.2.1);have HQU:Hid (∀W,Below W9.heap.size W9 W->_):=(show∀W,_->_ fromλW hb=>M7 y YZ.out (λ_=>False) W (λi hi=>hi.elim) (HGZ.out W hb) _ _ _ (R9.out W hb).1 (R9.out W hb).2.1 (R9.out W hb).2.2 l0.bu.aX HQ.out.2.2.2.2.2.2.2.1 kc (by rw[HQ.out.2.2.2.2.2.1];exact HQ.out.2.2.2.2.2.2.2.2) (by rw[HQ.out.2.2.2.2.2.1];exact HQ.out.2.2.2.2.2.2.1));rw[HQ.out.2.1,hyn]at HGT;rw[hyn]at XW KL HQU;clear hyn F1 KO HK9 HZ8 og;generalize y.bH.length=z1 at*;generalize y.bB.length=z3 at*;obtain⟨v0,v1,v2,v3⟩:=qL.out W9 (ay _ _);obtain⟨c0,c1⟩:=zh.out W9 (U9.out _ (ay _ _));go_wp2_with fail;refine(KL.out W9 (ay _ _)).mono ?_;rintro e w10⟨⟨n,b,rfl,hbt,-⟩,nY⟩;cases b;rotate_left
 .obtain⟨q,hq,TI,-⟩:=hbt rfl;exact absurd TI (HYR.out q hq)
 have rQ:=hD nY;clear hbt nY v0 v1 v2 v3 c0 c1 KL;obtain⟨v0,v1,v2,v3⟩:=qL.out w10 rQ.out;go_wp2_with fail;refine(XW.out w10 rQ.out).mono ?_;rintro e w11⟨_,rfl,⟨L,mv,rfl,hL,TD,hmem⟩,CW⟩;have HLC:Hid (∀i y,L[i]? =some y->_):=(show∀i y,_->_ fromλi y hy=>lM hL hy);obtain⟨ma,mc,rfl,hmc,hmm,-⟩:=hL.bj;have HME:=hD hmem;have lp:Hid (L.length<=500):=(show _<=_ by
  have h1:=je (dV y.bN) L (TD.imp (λ{a b}h e=>by omega)) (λn hn=>YZ.out.closed.Ud ((hmem n).1 hn));have h2:=YZ.out.len;unfold dV at h1;rw[aL]at h1;omega);have F2:Hid (Below W9.heap.size W9 w11):=(show Below _ _ _ from rQ.out.trans (CW.mono rQ.out.size));generalize UM:L.length=ll at*;clear CW hL hmem TD v0 v1 v2 v3 XW rQ;have JC:=hD UM;clear UM;have qhk:=lp.out;obtain⟨k0,k1,k2,k3⟩:=FV.out w11 (qp.out _ (U9.out _ F2.out));obtain⟨e0,e1,e2,e3⟩:=HKB.out w11 F2.out;go_wp2_with fail;go_loopg [21,22]ll(λgg v21 iv wr=>∃i:Nat,gg=ll-i/\i<=ll/\v21= .bool (vX r.id L i)/\iv= .int .i64 i/\Hid (Below w11.heap.size w11 wr));case atStart=>exact⟨0,rfl,ax _,rfl,rfl,(show Below _ _ _ from ay _ _)⟩
 case round=>
  obtain⟨i,rfl,wJ,rfl,rfl,HS⟩:=hrel;rename World=>wr;have qW:Hid (Below W9.heap.size W9 wr):=(show Below _ _ _ from F2.out.trans (HS.out.mono F2.out.size));clear k0 k1 k2 k3 e0 e1 e2 e3;obtain⟨c0,c1⟩:=zh.out wr (U9.out _ qW.out);by_cases cE:i<ll
  .have qhl:(i:Int)<(ll:Int):=by omega
   obtain⟨n1,hn1⟩:∃y,L[i]? =some y:=⟨_,af (by rw[JC.out];exact cE)⟩;obtain⟨b2,off2,cap2,hv2,-,hc2⟩:=HLC.out i n1 hn1;obtain⟨rfl,rfl⟩:ma=some ⟨b2,off2,none⟩/\mc=cap2:=by first|simpa using hv2|(rw[JC.out]at hv2;simpa using hv2)
   have hcell:=hc2 wr HS.out;have Xo:=hD (Bv (n:=r.id) hn1);clear hv2 hc2 hn1;generalize vX r.id L i=hi at*;go_upto_region 17 with fail;cases hi;all_goals
    go_quiet(fail);have HN:Hid (Below w11.heap.size w11 (wr.drewN nq)):=(show Below _ _ _ from below_drewNv HS.out nq);go_wp2_with fail;go_roundg(ll-(i+1));case measure=>omega
    case rel=>exact⟨i+1,rfl,by omega,by rw[Xo.out];simp<;>rfl,by go_num,HN⟩
  .obtain rfl:i=ll:=by omega
   obtain⟨bL,hbL⟩:∃b,vX r.id L i=b:=⟨_,rfl⟩;have Aa:Hid (bL=true↔Mk.wD (cV y) (dT y) o0.id):=(show _↔_ from by rw[<-hbL,<-JC.out,FJ,HQ.out.2.1];exact HME.out _);rw[hbL];clear hbL;obtain⟨v0,v1,v2,v3⟩:=qL.out wr qW.out;go_wp2_with fail;refine(HGT.out wr qW.out).mono ?_;rintro e w12⟨_,rfl,hgr,JQ⟩;obtain⟨ga,gb,gc,da,dn,dc,en,rfl,hen⟩:=Wi hgr;have HEN:=hD hen;clear hgr hen v0 v1 v2 v3 c0 c1;go_upto_region 19 with fail;obtain⟨W13,hW13⟩:∃W13:World,W13=w12.alloc (.cells #[.int .i64 ga, .int .i64 gb, .int .i64 gc, .slice da dn dc] 41):=⟨_,rfl⟩;have qfq:Hid (Below W9.heap.size W9 W13):=(show Below _ _ _ from by rw[hW13];exact(qW.out.trans (JQ.mono qW.out.size)).alloc (qW.out.trans (JQ.mono qW.out.size)).size _);rw[<-hW13];clear hW13 JQ;go_cut [25,26](λv25 v26 wx=>∃(ls:List cm)(S:List Int)(wa:Option Addr)(wc:Nat),v25= .slice wa (dW kc ls).length wc/\v26= .int .i64 0/\Hid (aS (λ_=>False) wx (.slice wa (dW kc ls).length wc) (dW kc ls)/\(∀n,n∈S↔Mk.wD (cV y) (dT y) n)/\Jg y S y.bN.length ls/\Below W9.heap.size W9 wx));case first=>
    have qM:Below W9.heap.size W9 W13.drew:=qfq.out.drew;have C8:=hD qM;obtain⟨v0,v1,v2,v3⟩:=qL.out _ qM;obtain⟨k0,k1,k2,k3⟩:=FV.out _ (qp.out _ (U9.out _ qM));obtain⟨e0,e1,e2,e3⟩:=HKB.out _ qM;obtain⟨g0,g1,g2⟩:=HNC.out _ (JA.out _ (U9.out _ qM));clear qM;go_region_law(first
     |(go_simp;go_at_call 12;refine(HQU.out _ C8.out).mono ?_;rintro e w14⟨_,rfl,⟨wv,S,ls,rfl,hsl,hS,tP⟩,qca⟩;obtain⟨wa,wc,rfl,-⟩:=hsl.bj)
     |fail);all_goals(go_wp2_with fail;go_meet)
    all_goals exact⟨ls,S,_,_,rfl,rfl,hD ⟨hsl,hS,tP,C8.out.trans (qca.mono C8.out.size)⟩⟩
   case rest=>
   obtain⟨ls,S,wa,wc,rfl,rfl,nS⟩:=hcut;rename World=>w14;have Yz:Hid (∀(i:Nat)(k n:Int)(s:ByteArray)(l:List bE),(dW kc ls)[i]? =some (.mk k n s l)->_):=(show∀(i:Nat)(k n:Int)(s:ByteArray)(l:List bE),_->_ fromλi k n s l hx=>ep nS.out.1 hx);have C7:(dW kc ls).length<=9223372036854775807:=by obtain⟨_,_,_,h1,h2,-⟩:=nS.out.1.bj;omega
   have fB:Hid (((dW kc ls).map bE.num).length=(dW kc ls).length):=(show _=_ from by simp);generalize htn:(dW kc ls).length=tn at*;have Jr:=hD htn;clear htn;go_wp2_with fail;go_loopg [27,28]tn(λgg v27 iv wr=>∃i:Nat,gg=tn-i/\i<=tn/\v27= .bool (vX r.id ((dW kc ls).map bE.num) i)/\iv= .int .i64 i/\Hid (Below w14.heap.size w14 wr));case atStart=>exact⟨0,rfl,ax _,rfl,rfl,(show Below _ _ _ from ay _ _)⟩
   case round=>
    obtain⟨j,rfl,zx,rfl,rfl,HT⟩:=hrel;rename World=>wt;have HBT:Hid (Below W9.heap.size W9 wt):=(show Below _ _ _ from nS.out.2.2.2.trans (HT.out.mono nS.out.2.2.2.size));obtain⟨c0,c1⟩:=zh.out wt (U9.out _ HBT.out);by_cases cE:j<tn
    .have qhm:(j:Int)<(tn:Int):=by omega
     obtain⟨⟨vk,vn,vs,vl⟩,hx⟩:∃v,(dW kc ls)[j]? =some v:=⟨_,af (by rw[Jr.out];exact cE)⟩;obtain⟨b2,off2,cap2,_,_,hv2,-,-,-,hc2⟩:=Yz.out j _ _ _ _ hx;obtain⟨rfl,rfl⟩:wa=some ⟨b2,off2,none⟩/\wc=cap2:=by first|simpa using hv2|(rw[Jr.out]at hv2;simpa using hv2)
     obtain⟨⟨-,g1,-,-⟩,-⟩:=hc2 wt HT.out;have Xo:=hD (Bv (n:=r.id) (L:=(dW kc ls).map bE.num) (i:=j) (y:=vn) (by rw[List.getElem?_map,hx];rfl));clear hv2 hc2 hx;generalize vX r.id ((dW kc ls).map bE.num) j=hi at*;go_upto_region 24 with fail;cases hi;all_goals
      go_quiet(fail);have HN:Hid (Below w14.heap.size w14 (wt.drewN nq)):=(show Below _ _ _ from below_drewNv HT.out nq);go_wp2_with fail;go_roundg(tn-(j+1));case measure=>omega
      case rel=>exact⟨j+1,rfl,by omega,by rw[Xo.out];simp<;>rfl,by go_num,HN⟩
    .obtain rfl:j=tn:=by omega
     have JE:vX r.id ((dW kc ls).map bE.num) j=bL:=by
      rw[Bool.eq_iff_iff,Aa.out,<-fB.out,FJ,<-HQ.out.2.1,Nk nS.out.2.2.1 HQ.out.2.2.2.2.1 HQ.out.2.2.1];exact nS.out.2.1 _
     rw[JE];have hw:=oe.out wt (U9.out _ HBT.out);have hen:en=0↔bL=true:=HEN.out.trans Aa.out.symm;have HFW:=hD hw;clear JE hw;cases bL
     .have wK:¬en=0:=λe=>by have:=hen.1 e;cases this
      go_wp2_with fail;go_ret;exact⟨rfl,HFW.out⟩
     .obtain rfl:en=0:=hen.2 rfl;go_wp2_with fail;go_ret;exact⟨rfl,HFW.out⟩
end
namespace opunrooted
open Go.ChangeShapes Go.WideShapes Go.ChangeAt Go.RowKit
def law:sP:=λW a b c n ls os rs hG s0 s1 s2 hn=>by
 have qM:∀W',Bd xF W':=λW' i hi=>hi.elim;obtain⟨a0,n0,rfl,_⟩:=s0.bj;obtain⟨a1,n1,rfl,_⟩:=s1.bj;obtain⟨a2,n2,rfl,_⟩:=s2.bj;exact zV W hG _ _ _ _ _ _ _ _ _ n hn (λW' hb=>Jn ls os rs xF W' (qM W') _ _ _ (s0.aT hb) (s1.aT hb) (s2.aT hb))
theorem holds:Rows.OpUnrootedCardSaid:=SF law
end opunrooted
end Go.Proofs.YtpjdjlnknfmfkaaGreatDoor
