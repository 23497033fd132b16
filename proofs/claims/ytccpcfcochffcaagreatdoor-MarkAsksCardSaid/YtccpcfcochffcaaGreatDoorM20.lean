/- A part of MarkAsks's proof; no condition. -/
import Derived.Test.YtccpcfcochffcaaGreatDoorM16
import Derived.Test.YtccpcfcochffcaaGreatDoorM18
set_option linter.all false
set_option maxHeartbeats 8000000
set_option maxRecDepth 100000
namespace Go.Proofs.YtccpcfcochffcaaGreatDoor
open Tryz
open Go.RowKit
variable{a0 a1 a2 a3 v fv:an}{w W w' w2:aj}{B K bm i m j b:Nat}{s s1 nm:aT}{l:List au}{a:dC}{M M':aS}{c:az}{many:Int}{o:Obj}
def da(h:Below B w W)(hK:B<=K):Below B w ((((W.setCell ⟨K,0,none⟩ a0).setCell ⟨K,1,none⟩ a1).setCell ⟨K,2,none⟩ a2).setCell ⟨K,3,none⟩ a3):=
 (((h.setCell hK _).setCell hK _).setCell hK _).setCell hK _
def IS(s:aT)(hs:s=⟨#[42]⟩\/s=⟨#[45]⟩\/s=⟨#[47]⟩\/s=⟨#[61]⟩\/s=⟨#[62]⟩)(m n:Int)(hm:uP m)(hn:uP n)(a b:dC)(c d:Nat)(w:aj):
 xG 303 #[xS s, .agg #[xI 1,xI m,xS ⟨#[]⟩,xL a 0 c], .agg #[xI 1,xI n,xS ⟨#[]⟩,xL b 0 d]] w ju:=by
 have bN:=af (Bx.gI w (fZ 1 m ⟨#[]⟩ (xL a 0 c)) (fZ 1 n ⟨#[]⟩ (xL b 0 d)) (fZ 0 0 ⟨#[]⟩ (xL none 0 0)));have JR:=af (Bx.gI w (fZ 1 m ⟨#[]⟩ (xL a 0 c)) (fZ 1 (-n) ⟨#[]⟩ (xL b 0 d)) (fZ 0 0 ⟨#[]⟩ (xL none 0 0)));have HP:=af (EM m n hm hn);have HQ:=af (CG m n hm hn);have HH:Hd (∀s:aT,s=⟨#[61]⟩\/s=⟨#[62]⟩->∀x W,xC 321 #[xS s,xI x] W (OZ W)):=λs hs x W=>by
  rcases hs with rfl|rfl
  .exact By [61] (.inl rfl) x W
  .exact By [62] (.inr rfl) x W
 obtain⟨m1,m2⟩:=hm;obtain⟨n1,n2⟩:=hn;have qeg:(s=⟨#[61]⟩\/s=⟨#[62]⟩)\/s=⟨#[42]⟩\/s=⟨#[45]⟩\/s=⟨#[47]⟩:=by
  rcases hs with h|h|h|h|h
  .exact .inr (.inl h)
  .exact .inr (.inr (.inl h))
  .exact .inr (.inr (.inr h))
  .exact .inl (.inl h)
  .exact .inl (.inr h)
 rcases qeg with h|rfl|rfl|rfl
 .skip;rcases h with rfl|rfl;all_goals
   go_enter func303,ntmps303;go_wp2_with fail;refine(EL m n _ _ _ _ _).mono ?_;rintro e w1⟨x,rfl,aC⟩;have aO:=af (bN.o.below aC);go_wp2_with fail;refine(HH.o _ (by first|exact .inl rfl|exact .inr rfl) x _).mono ?_;rintro e w'⟨y,rfl,rfl⟩;cases y;all_goals
    go_wp2_with fail;refine(jw _ _).mono ?_;rintro e w2⟨_,rfl,⟨z,hz,rfl⟩,aY⟩;have aL:=af (aO.o.below aY);have HZ:=af hz;obtain⟨c0,c1,c2,c3⟩:=ae (aL.o.gy rfl);obtain⟨f0,f1,f2,f3⟩:=ic (aL.o.gy rfl);unfold kx;go_wp2_with fail;refine Qae (v:=kx z) (by simp[results,results303,go_sem,kx,c0,c1,c2,c3]) rfl (show bW w ju _ _ from⟨_,rfl,⟨_,HZ.o,rfl⟩,?_⟩);exact da aL.o.1 (by omega)
 .go_enter func303,ntmps303;go_wp2_with fail;refine(HP.o _).mono ?_;rintro e w'⟨x,rfl,rfl⟩;go_wp2_with fail;refine(jw _ _).mono ?_;rintro e w2⟨_,rfl,⟨z,hz,rfl⟩,aY⟩;have aL:=af (bN.o.below aY);have HZ:=af hz;obtain⟨c0,c1,c2,c3⟩:=ae (aL.o.gy rfl);obtain⟨f0,f1,f2,f3⟩:=ic (aL.o.gy rfl);unfold kx;go_wp2_with fail;refine Qae (v:=kx z) (by simp[results,results303,go_sem,kx,c0,c1,c2,c3]) rfl (show bW w ju _ _ from⟨_,rfl,⟨_,HZ.o,rfl⟩,?_⟩);exact da aL.o.1 (by omega)
 .go_enter func303,ntmps303;go_wp2_with fail;refine(jw _ _).mono ?_;rintro e w2⟨_,rfl,⟨z,hz,rfl⟩,aY⟩;have aL:=af (JR.o.below aY);have HZ:=af hz;obtain⟨c0,c1,c2,c3⟩:=ae (aL.o.gy rfl);obtain⟨f0,f1,f2,f3⟩:=ic (aL.o.gy rfl);unfold kx;go_wp2_with fail;refine Qae (v:=kx z) (by simp[results,results303,go_sem,kx,c0,c1,c2,c3]) rfl (show bW w ju _ _ from⟨_,rfl,⟨_,HZ.o,rfl⟩,?_⟩);exact da aL.o.1 (by omega)
 .go_enter func303,ntmps303;go_wp2_with fail;refine(HQ.o _).mono ?_;rintro e w'⟨x,rfl,rfl⟩;go_wp2_with fail;refine(jw _ _).mono ?_;rintro e w2⟨_,rfl,⟨z,hz,rfl⟩,aY⟩;have aL:=af (bN.o.below aY);have HZ:=af hz;obtain⟨c0,c1,c2,c3⟩:=ae (aL.o.gy rfl);obtain⟨f0,f1,f2,f3⟩:=ic (aL.o.gy rfl);unfold kx;go_wp2_with fail;refine Qae (v:=kx z) (by simp[results,results303,go_sem,kx,c0,c1,c2,c3]) rfl (show bW w ju _ _ from⟨_,rfl,⟨_,HZ.o,rfl⟩,?_⟩);exact da aL.o.1 (by omega)
def E8(s t:aT)(hs:fN s)(ht:fN t)(a b:dC)(c d:Nat)(w:aj):
 xG 303 #[xS ⟨#[38]⟩, .agg #[xI 2,xI 0,xS s,xL a 0 c], .agg #[xI 2,xI 0,xS t,xL b 0 d]] w eZ:=by
 have bN:=af (Bx.gI w (fZ 2 0 s (xL a 0 c)) (fZ 2 0 t (xL b 0 d)) (fZ 0 0 ⟨#[]⟩ (xL none 0 0)));have h1:=hs.1;have h2:=ht.1;have HT:Hd (∀u:aT,u.data.toList=s.data.toList++t.data.toList->∀W,xC 287 #[xS u] W (bW W eZ)):=λu hu W=>sN u (by rw[hu];exact uK hs.2 ht.2) (by have:=congrArg List.length hu;rw[Qda,bh,bh,bh]at this;omega) W;go_enter func303,ntmps303;go_wp2_with fail;refine(HT.o _ (by simp) _).mono ?_;rintro e w2⟨_,rfl,⟨z,hz,rfl⟩,aY⟩;have aL:=af (bN.o.below aY);have HZ:=af hz;obtain⟨c0,c1,c2,c3⟩:=ae (aL.o.gy rfl);obtain⟨f0,f1,f2,f3⟩:=ic (aL.o.gy rfl);unfold mQ;go_wp2_with fail;refine Qae (v:=mQ z) (by simp[results,results303,go_sem,mQ,c0,c1,c2,c3]) rfl (show bW w eZ _ _ from⟨_,rfl,⟨_,HZ.o,rfl⟩,?_⟩);exact da aL.o.1 (by omega)
def zh(c:az)(many:Int)(e:ax)(t:aR):Prop:=∀(M N:aS)(w:aj)(v:an)(b bm:Nat)(vs:List au),Bd N w->bS M w v e->sZ N c vs b bm w->aW c.fields many vs->Gd w->
 xC 270 #[xP b,v] w (bW w λu w'=>∃x,nG c t many e vs x/\bS N w' u x)
def tj {many:Int}{x:au}(h:db ⟨1,0⟩ many x):∃n,x= .mk 1 n jN []/\uP n:=by
 rcases h with⟨h,_⟩|⟨_,h⟩
 .simp at h
 .rcases h with⟨_,n,rfl,h1,h2⟩|⟨h,_⟩|⟨h,_⟩
  .exact⟨n,rfl,h1,h2⟩
  .simp at h
  .simp at h
def xu {many:Int}{x:au}(h:db ⟨2,0⟩ many x):∃s,x= .mk 2 0 s []/\fN s:=by
 rcases h with⟨h,_⟩|⟨_,h⟩
 .simp at h
 .rcases h with⟨h,_⟩|⟨_,s,rfl,h1⟩|⟨h,_⟩
  .simp at h
  .exact⟨s,rfl,h1⟩
  .simp at h
def KI(many n:Int)(h:uP n):db ⟨1,0⟩ many (.mk 1 n jN []):= .inr ⟨by simp, .inl ⟨rfl,n,rfl,h.1,h.2⟩⟩
def KJ(many:Int)(s:aT)(h:fN s):db ⟨2,0⟩ many (.mk 2 0 s []):= .inr ⟨by simp, .inr (.inl ⟨rfl,s,rfl,h⟩)⟩
def E9(h:fN s):s.size<=maxLen:=by have:=h.1;unfold maxLen;omega
def Te {c:az}{many:Int}{e:ax}{vs:List au}{N:aS}{w:aj}(he:e.kind≠3)(h:ju v w):∃x,nG c ⟨1,0⟩ many e vs x/\bS N w' v x:=by
 obtain⟨n,hn,rfl⟩:=h;exact⟨_,⟨KI many n hn,λh=>absurd h he⟩,po 1 n jN fR⟩
def Px {c:az}{many:Int}{e:ax}{vs:List au}{N:aS}{w:aj}(he:e.kind≠3)(h:eZ v w):∃x,nG c ⟨2,0⟩ many e vs x/\bS N w' v x:=by
 obtain⟨s,hs,rfl⟩:=h;exact⟨_,⟨KJ many s hs,λh=>absurd h he⟩,po 2 0 s (E9 hs)⟩
def jQ {w:aj}(h:fC w bm):
 (∃v,∀W,W.heap[bm]? =w.heap[bm]?->(Instr.lookup 349 (.map (some bm)) (xS ⟨#[108,101,110]⟩) false).run prog W= .ok (gP v 283) W)/\
 (∃v,∀W,W.heap[bm]? =w.heap[bm]?->(Instr.lookup 349 (.map (some bm)) (xS ⟨#[108,101,102,116]⟩) false).run prog W= .ok (gP v 286) W)/\
 (∃v,∀W,W.heap[bm]? =w.heap[bm]?->(Instr.lookup 349 (.map (some bm)) (xS ⟨#[102,114,111,109]⟩) false).run prog W= .ok (gP v 290) W)/\
 (∃v,∀W,W.heap[bm]? =w.heap[bm]?->(Instr.lookup 349 (.map (some bm)) (xS ⟨#[102,105,110,100]⟩) false).run prog W= .ok (gP v 291) W)/\
 (∃v,∀W,W.heap[bm]? =w.heap[bm]?->(Instr.lookup 349 (.map (some bm)) (xS ⟨#[116,101,120,116]⟩) false).run prog W= .ok (gP v 293) W):=by
 obtain⟨es,clk,h0,⟨v1,a1,t1⟩,⟨v2,a2,t2⟩,⟨v3,a3,t3⟩,⟨v4,a4,t4⟩,⟨v5,a5,t5⟩,h6⟩:=h;exact⟨⟨v1,λW hW=>fh (hW.trans h0) _ _ a1⟩,⟨v2,λW hW=>fh (hW.trans h0) _ _ a2⟩,⟨v3,λW hW=>fh (hW.trans h0) _ _ a3⟩,⟨v4,λW hW=>fh (hW.trans h0) _ _ a4⟩,⟨v5,λW hW=>fh (hW.trans h0) _ _ a5⟩⟩
inductive oH(c:az):Int->Int->aT->List aR->aR->Prop
 |num(n:Int)(s:aT):oH c 1 n s [] ⟨1,0⟩
 |txt(n:Int)(s:aT):iD s.data.toList->s.size<=100->oH c 2 n s [] ⟨2,0⟩
 |fld(n:Int)(f:ay)(i:Nat):fieldAt c f.name=i->c.fields[i]? =some f->oH c 3 n f.name [] f.type
 |ari(n:Int)(s:aT):s=⟨#[42]⟩\/s=⟨#[45]⟩\/s=⟨#[47]⟩\/s=⟨#[61]⟩\/s=⟨#[62]⟩->oH c 4 n s [⟨1,0⟩,⟨1,0⟩] ⟨1,0⟩
 |cat(n:Int):oH c 4 n ⟨#[38]⟩ [⟨2,0⟩,⟨2,0⟩] ⟨2,0⟩
 |len(n:Int):oH c 6 n ⟨#[108,101,110]⟩ [⟨2,0⟩] ⟨1,0⟩
 |left(n:Int):oH c 6 n ⟨#[108,101,102,116]⟩ [⟨2,0⟩,⟨1,0⟩] ⟨2,0⟩
 |from_(n:Int):oH c 6 n ⟨#[102,114,111,109]⟩ [⟨2,0⟩,⟨1,0⟩] ⟨2,0⟩
 |find(n:Int):oH c 6 n ⟨#[102,105,110,100]⟩ [⟨2,0⟩,⟨2,0⟩] ⟨1,0⟩
 |text(n:Int):oH c 6 n ⟨#[116,101,120,116]⟩ [⟨1,0⟩] ⟨2,0⟩
 |ite(n p:Int):p=1\/p=2->oH c 6 n ⟨#[105,102]⟩ [⟨1,0⟩,⟨p,0⟩,⟨p,0⟩] ⟨p,0⟩
def qc3 {α:Type}{l:List α}(h:l.length=1):∃a,l=[a]:=List.length_eq_one_iff.1 h
def qc4 {α:Type}{l:List α}(h:l.length=2):∃a b,l=[a,b]:=by
 match l,h with
 |[a,b],_=>exact⟨a,b,rfl⟩
def qc5 {α:Type}{l:List α}(h:l.length=3):∃a b c,l=[a,b,c]:=by
 match l,h with
 |[a,b,c],_=>exact⟨a,b,c,rfl⟩
def NI(N:aS)(R:Nat)(m:Nat)(many:Int)(ts:List aR)(i:Nat)(wr:aj):Prop:=
 ∃xs:List au,xs.length=i/\(∀(j:Nat)(x:au)(u:aR),xs[j]? =some x->ts[j]? =some u->db u many x)/\dD N R 30 wr m xs
theorem NI.below {N:aS}{R:Nat}{many:Int}{ts:List aR}{w:aj}(h:NI N R m many ts i w)(hb:aq w w'):NI N R m many ts i w':=by
 obtain⟨xs,h1,h2,h3⟩:=h;exact⟨xs,h1,h2,h3.below hb⟩
theorem NI.lt {N:aS}{R:Nat}{many:Int}{ts:List aR}{w:aj}(h:NI N R m many ts i w):R<w.heap.size:=by
 obtain⟨xs,h1,h2,h3⟩:=h;exact h3.lt
theorem NI.cell {N:aS}{R:Nat}{many:Int}{ts:List aR}{w:aj}(h:NI N R m many ts i w)(hj:j<m*4):∃v,aU w R j v/\w.frozen? ⟨R,j,none⟩=false:=by
 obtain⟨xs,h1,h2,h3⟩:=h;exact h3.cell (j:=j) hj
theorem NI.step {N:aS}{R:Nat}{many:Int}{ts:List aR}{w:aj}(h:NI N R m many ts i w)(hi:i<m){u:aR}(hu:ts[i]? =some u){x:au}(hx:db u many x){a b c d:an}(hr:aA.rep (orM N R) w [a,b,c,d] x):
 NI N R m many ts (i+1) ((((w.setCell ⟨R,i*4,none⟩ a).setCell ⟨R,i*4+1,none⟩ b).setCell ⟨R,i*4+2,none⟩ c).setCell ⟨R,i*4+3,none⟩ d):=by
 obtain⟨xs,h1,h2,h3⟩:=h;refine⟨xs++[x],by simp[h1],λj y v hy hv=> ?_,h3.gJ rfl h1 hi hr⟩;by_cases hj:j<xs.length
 .rw[Qbc hj]at hy;exact h2 j y v hy hv
 .rw[Qbd (by omega)]at hy;have h0:j-xs.length=0:=by
   cases hq:j-xs.length with
   |zero=>rfl
   |succ q=>rw[hq]at hy;simp at hy
  rw[h0]at hy;simp at hy;subst hy;have:j=i:=by omega
  subst this;rw[hu]at hv;cases hv;exact hx
theorem sZ.or {N:aS}{c:az}{vs:List au}{R:Nat}{w:aj}(h:sZ N c vs b bm w)(k:aq w w')(hR:w.heap.size<=R):sZ (orM N R) c vs b bm w':=by
 obtain⟨⟨fa,fc,vv,h1,h2,h3⟩,h4⟩:=h;have E:Ev N w (orM N R) w':=⟨ai.ao k,λi hi=>hi.imp_right λe=>by rw[e];exact hR⟩;exact⟨⟨fa,fc,vv,(k.block b (Qaa.1 h1).1).trans h1,h2.ev E,h3.ev E⟩,h4.below k⟩
def tm {N:aS}{w:aj}{k n:Int}{a:an}(h:bS N w a (au.mk k n s l)):s.size<=maxLen:=by
 obtain⟨cs,_,h⟩:=h;obtain⟨_,_,_,h⟩:=eN.iff.1 h;exact h
def Fa {w:aj}{c:Nat}(h:ab M w (xL a 0 c) ([]:List au)):ab M' w' (xL a 0 c) ([]:List au):=by
 obtain⟨css,⟨h1,a',c',h2,h3,h4,h5⟩,h6,h7⟩:=h;cases h2;exact⟨[],⟨rfl,a,c,rfl,h3,h4,λh=>absurd h (by simp)⟩,rfl,λi cs x h=>by simp at h⟩
def Py {p many:Int}(hp:p=1\/p=2){w:aj}{k n:Int}(h:db ⟨p,0⟩ many (.mk k n s l)){c:Nat}(hs:ab M w (xL a l.length c) l)(hz:s.size<=maxLen):bS M' w' (.agg #[xI k,xI n,xS s,xL a l.length c]) (au.mk k n s l):=by
 have e:l=[]:=by
  rcases hp with rfl|rfl
  .obtain⟨_,h,_⟩:=tj h;cases h;rfl
  .obtain⟨_,h,_⟩:=xu h;cases h;rfl
 subst e;exact⟨_,rfl,eN.iff.2 ⟨_,rfl,Fa hs,hz⟩⟩
def WF(c:az)(t:aR)(many:Int)(e:ax)(vs:List au)(u:an)(_:aj):Prop:=∃(k n:Int)(s:aT)(a:dC)(g:Nat)(x:au),u= .agg #[xI k,xI n,xS s,xL a 0 g]/\nG c t many e vs x/\∀N w',bS N w' u x
section
variable {c:az}{many:Int}{e:ax}{vs:List au}{w0 w wr:aj}{f:Nat}{args:Array an}{N:aS}{R:Nat}
def IT(he:e.kind≠3)(h:xC f args w (bW w0 ju)):xC f args w (bW w0 (WF c ⟨1,0⟩ many e vs)):=h.mono (by
 rintro _ w'⟨_,rfl,⟨n,hn,rfl⟩,hb⟩;exact⟨_,rfl,⟨_,_,_,_,_,_,rfl,⟨KI many n hn,λh=>absurd h he⟩,λN w'=>po 1 n jN fR⟩,hb⟩)
def CP(he:e.kind≠3)(h:xC f args w (bW w0 eZ)):xC f args w (bW w0 (WF c ⟨2,0⟩ many e vs)):=h.mono (by
 rintro _ w'⟨_,rfl,⟨s,hs,rfl⟩,hb⟩;exact⟨_,rfl,⟨_,_,_,_,_,_,rfl,⟨KJ many s hs,λh=>absurd h he⟩,λN w'=>po 2 0 s (E9 hs)⟩,hb⟩)
def V9 {k0 n0 k1 n1:Int}{s0:aT}(h:ab N wr (xL (some ⟨R,0,none⟩) 2 2) [au.mk k0 n0 s0 [],au.mk k1 n1 s1 []]):∃a0 g0 a1 g1,(aU wr R 0 (xI k0)/\aU wr R 1 (xI n0)/\aU wr R 2 (xS s0)/\aU wr R 3 (xL a0 0 g0))/\aU wr R 4 (xI k1)/\aU wr R 5 (xI n1)/\aU wr R 6 (xS s1)/\aU wr R 7 (xL a1 0 g1):=by
 obtain⟨bp,op,cp,a0,g0,Sh,_,_,tX⟩:=iz h (i:=0) rfl;obtain⟨bp',op',cp',a1,g1,Si,_,_,iB⟩:=iz h (i:=1) rfl;simp only[Value.slice.injEq,Qcf,Addr.mk.injEq]at Sh Si;obtain⟨⟨rfl,rfl,-⟩,-⟩:=Sh;obtain⟨⟨rfl,rfl,-⟩,-⟩:=Si;have q:=(tX wr dK).1;have r:=(iB wr dK).1;simp only[Nat.zero_mul,Nat.one_mul,Nat.add_zero,Nat.zero_add,Qcd]at q r;exact⟨a0,g0,a1,g1,q,r⟩
end
set_option maxHeartbeats 16000000 in
theorem ej(c:az)(fS:c.name.size<=maxLen)(many:Int)(k n:Int)(s:aT)(l:List ax)(ts:List aR)(t:aR)(NS:ts.length<=3)(Ri:l.length=ts.length)(Rj:∀(i:Nat)(x:ax)(u:aR),l[i]? =some x->ts[i]? =some u->zh c many x u)(Gy:oH c k n s ts t):zh c many (.mk k n s l) t:=by
 intro M N w v b bm vs hN gz Gp dt hg;obtain⟨cs,rfl,bU⟩:=gz;obtain⟨lv,rfl,bo,j6⟩:=cC.iff.1 bU;obtain⟨i0,dz,dX,cY,dA⟩:=info_parts fY;have HN:=af hN;have HG:=af hg;have AZ:=af dt;have Gz:Hd (∀W,aq w W->sZ N c vs b bm W):=λW hb=>Gp.below hb;have HK:Hd (∀(i:Nat)(k n:Int)(s:aT)(ll:List ax),l[i]? =some (ax.mk k n s ll)->_):=λi k n s ll hx=>KH bo hx;have bt:Hd (∀(i:Nat)(x:ax)(u:aR)(W:aj)(v:an),l[i]? =some x->ts[i]? =some u->aq w W->w.heap.size+1+1<W.heap.size->bS M W v x->_):=λi x u W v h1 h2 h3 h5 h4=>Rj i x u h1 h2 M (orM N (w.heap.size+1+1)) W v b bm vs (λj hj=>by rcases hj with hj|rfl;(have:=hN j hj;have:=h3.size;omega);exact h5) h4 (Gp.or h3 (by omega)) dt (hg.below h3);have Vf:b<w.heap.size:=by
  obtain⟨⟨fa,fc,vv,h1,_⟩,_⟩:=Gp;exact(Qaa.1 h1).1
 have Uf:bm<w.heap.size:=by
  obtain⟨_,es,clk,h0,_⟩:=Gp;exact(Qaa.1 h0).1
 have xO:=af Gy;obtain⟨la,lc,rfl,AW,XA,_⟩:=bo.open_;generalize NV:ts.length=m at*;have ek:=af Ri;rw[Ri]at AW HK⊢;obtain⟨cur,Cb,bD⟩:=mR (P:=prog) ((w.alloc (E7 k n s (.slice la m lc))).alloc (fZ 0 0 ⟨#[]⟩ (.slice none 0 0))) 28 30 i0 _ underlying28 dz dX m (by omega) (by omega);have Cf:=af NV;clear Gp bU bo Rj Gy Ri NV hN hg dt;have iA:Hd (Bx w [E7 k n s (xL la m lc),fZ 0 0 ⟨#[]⟩ (xL none 0 0)] (((w.alloc (E7 k n s (xL la m lc))).alloc (fZ 0 0 ⟨#[]⟩ (xL none 0 0))).alloc (.cells cur 30))):=(Bx.dh w _ _).alloc _;have Nt:Hd (NI N (w.heap.size+1+1) m many ts 0 (((w.alloc (E7 k n s (xL la m lc))).alloc (fZ 0 0 ⟨#[]⟩ (xL none 0 0))).alloc (.cells cur 30))):=⟨[],rfl,λj x u h=>by simp at h,dD.made cur ((Bx.gI w _ _ _).gy rfl) (by rw[bD,cY];rfl)⟩;clear bD;rw[show((w.alloc (E7 k n s (xL la m lc))).alloc (fZ 0 0 ⟨#[]⟩ (xL none 0 0))).heap.size=w.heap.size+1+1 from by simp]at Cb;unfold E7 fZ at Cb iA Nt;go_enter func270,ntmps270;go_wp2;go_loopg [6,7,17]m(λg _ _ iv wr=>∃i:Nat,i<=m/\g=m-i/\iv=xI i/\Hd (Bx w [E7 k n s (xL la m lc),fZ 0 0 ⟨#[]⟩ (xL none 0 0)] wr)/\Hd (NI N (w.heap.size+1+1) m many ts i wr));case atStart=>exact⟨0,Qbf _,rfl,rfl,iA,Nt⟩
 case round=>
  obtain⟨i,hi,rfl,rfl,HB,HA⟩:=hrel;have hsz:=HB.o.bY;simp only[Qcc,Qcd]at hsz;have XB:w.heap.size+1+1<wr.heap.size:=HA.o.lt;by_cases aX:i<m
  .obtain⟨⟨xk,xn,xs,xl⟩,hx⟩:=dQ l i (by rw[ek.o];exact aX);obtain⟨u,hu⟩:=dQ ts i (by rw[Cf.o];exact aX);obtain⟨bk,off,cap,xa,xc,hv,Lh,aw⟩:=HK.o i _ _ _ _ hx;obtain⟨rfl,rfl⟩:=gY hv;obtain⟨⟨q0,q1,q2,q3⟩,_⟩:=aw wr HB.o.1;have pX:=af (λo=>bt.o i _ _ (wr.alloc o) _ hx hu (HB.o.1.alloc HB.o.1.size o) (by simp;omega) (aw (wr.alloc o) (HB.o.1.alloc HB.o.1.size o)).2);have HU:=af hu;clear hv aw hx hu;go_wp2_with fail;refine(pX.o _).mono ?_;rintro e w1⟨_,rfl,⟨⟨yk,yn,ys,yl⟩,hy,GQ⟩,aC⟩;obtain⟨ua,uc,rfl,Dy⟩:=cQ GQ;have aO:=af (HB.o.below (aQ aC));have kj:=af (HA.o.below (aQ aC));have HY:=af hy;have HYA:=af (show aA.rep (α:=au) (orM N (w.heap.size+1+1)) w1 [xI yk,xI yn,xS ys,xL ua yl.length uc] (.mk yk yn ys yl)by
    obtain⟨cs,hc,hr⟩:=GQ;have jh:=congrArg (λv:an=>match v with| .agg a=>a.toList|_=>[]) hc;simp at jh;rw[jh];exact hr);have qef:=kj.o.lt;clear aC hy GQ Dy;have YT:i*4+3<m*4:=by omega
   obtain⟨u0,p0,f0⟩:=kj.o.cell (j:=i*4) (by omega);obtain⟨u1,p1,f1⟩:=kj.o.cell (j:=i*4+1) (by omega);obtain⟨u2,p2,f2⟩:=kj.o.cell (j:=i*4+2) (by omega);obtain⟨u3,p3,f3⟩:=kj.o.cell (j:=i*4+3) (by omega);go_wp2;go_roundg(m-(i+1));case measure=>omega
   case rel=>
    refine⟨i+1,by omega,rfl,by go_num,?_,?_⟩
    .exact((aO.o.cP (B:=w.heap.size+2) ((((dK.setCell (by simp) _).setCell (by simp) _).setCell (by simp) _).setCell (by simp) _) (by simp)))
    .exact(kj.o.step aX HU.o HY.o.1 HYA.o)
  .have tZ:=af (show∃xs:List au,xs.length=m/\(∀(j:Nat)(x:au)(u:aR),xs[j]? =some x->ts[j]? =some u->db u many x)/\ab N wr (xL (some ⟨w.heap.size+1+1,0,none⟩) m m) xs by
    obtain⟨xs,h1,h2,h3⟩:=HA.o;obtain rfl:i=m:=by omega
    exact⟨xs,h1,h2,h3.slice h1 (λh=>by have:=HN.o _ h;omega) (by unfold maxLen;omega)⟩);obtain⟨e0,e1,e2,e3⟩:=ae (HB.o.bJ rfl);obtain⟨c0,c1,c2,c3⟩:=ae (HB.o.cE rfl);obtain⟨f0,f1,f2,f3⟩:=ic (HB.o.cE rfl);clear HA;cases xO.o with
   |num n s=>
    go_wp2_with fail;refine(jw _ _).mono ?_;rintro e w2⟨_,rfl,⟨z,hz,rfl⟩,aY⟩;have aL:=af (HB.o.below aY);have HZ:=af hz;clear aY hz;obtain⟨c0,c1,c2,c3⟩:=ae (aL.o.cE rfl);obtain⟨f0,f1,f2,f3⟩:=ic (aL.o.cE rfl);unfold kx;go_wp2_with fail;refine Qae (v:=kx z) (by simp[results,results270,go_sem,kx,c0,c1,c2,c3]) rfl ⟨_,rfl,Te (w:=w2) (by simp[ax.kind]) ⟨_,HZ.o,rfl⟩,?_⟩;exact da aL.o.1 (by omega)
   |txt n s dB jC=>
    go_wp2_with fail;refine(sN s dB (by omega) _).mono ?_;rintro e w2⟨_,rfl,⟨z,hz,rfl⟩,aY⟩;have aL:=af (HB.o.below aY);have HZ:=af hz;clear aY hz;obtain⟨c0,c1,c2,c3⟩:=ae (aL.o.cE rfl);obtain⟨f0,f1,f2,f3⟩:=ic (aL.o.cE rfl);unfold mQ;go_wp2_with fail;refine Qae (v:=mQ z) (by simp[results,results270,go_sem,mQ,c0,c1,c2,c3]) rfl ⟨_,rfl,Px (w:=w2) (by simp[ax.kind]) ⟨_,HZ.o,rfl⟩,?_⟩;exact da aL.o.1 (by omega)
   |fld n f i Vj JW=>
    obtain⟨⟨fa,fc,vv,wE,bR,wX⟩,_⟩:=Gz.o w dK;have bN:Hd (∀W,aq w W->cI W b (xK #[xS c.name,xL fa c.fields.length fc,vv, .map (some bm)] 352)):=λW hb=>(hb.block b Vf).trans wE;have R9:Hd (∀W,aq w W->xC 60 #[.agg #[xS c.name,xL fa c.fields.length fc],xS f.name] W (cN (.tuple #[xI (i:Int),xB true]) W)):=λW hb=>jJ N _ W c f.name i true (bR.below hb) fS (by rw[Vj];rw[if_neg (by omega)]) (by rw[Vj];simp);obtain⟨⟨xk,xn,xs,xl⟩,hx⟩:=dQ vs i (by rw[AZ.o.1];exact(Qad.1 JW).1);obtain⟨bf,of,cf,xa,xc,rfl,zV,GR,wT⟩:=iz wX hx;have HCV:=af wT;have qbd:=af (wT w dK).2;have tM:Hd (xs.size<=maxLen):=(tm qbd.o);have NT:Hd (db f.type many (.mk xk xn xs xl)):=AZ.o.2 i f _ JW hx;have wY:=af (show vs[(fieldAt c f.name).toNat]? =some (.mk xk xn xs xl)by rw[Vj];simpa using hx);have Q2:Hd (Ep 302 (.mk xk xn xs xl)):=sP 1 _ (nH NT.o);obtain⟨b0,b1,b2,b3⟩:=ae (bN.o wr HB.o.1);clear wE bR wX Vj JW hx wT;go_upto_region 11 with fail;go_region_law(first
     |(go_simp;go_at_call 60;refine cG (R9.o _ HB.o.1.drew) λw2 aY=> ?_;have aL:=af (HB.o.drew.below aY);clear aY));all_goals
     obtain⟨b0,b1,b2,b3⟩:=ae (bN.o w2 aL.o.1);obtain⟨⟨q0,q1,q2,q3⟩,gz⟩:=HCV.o w2 aL.o.1;have AY:=af (Q2.o (dP N w 2) w2 _ (dp HN.o aL.o.bY) (qbd.o.ev (cW aL.o.1)));clear gz;go_wp2_with fail;refine(AY.o).mono ?_;rintro e w3⟨_,rfl,hy,bG⟩;obtain⟨ua,uc,rfl,Dy⟩:=cQ hy;have bI:=af (aL.o.below bG);have HY:=af Dy;clear bG hy Dy;obtain⟨c0,c1,c2,c3⟩:=ae (bI.o.cE rfl);obtain⟨f0,f1,f2,f3⟩:=ic (bI.o.cE rfl);go_wp2_with fail;refine Qae (v:= .agg #[xI xk,xI xn,xS xs,xL ua xl.length uc]) (by simp[results,results270,go_sem,c0,c1,c2,c3]) rfl ⟨_,rfl,⟨.mk xk xn xs xl,⟨NT.o,λ_=>wY.o⟩,?_⟩,?_⟩
     .exact⟨_,rfl,kr (HY.o.ev ((((((ep w3).setCell (.inl (.inr ⟨by simp,by simp⟩)) _).setCell (.inl (.inr ⟨by simp,by simp⟩)) _).setCell (.inl (.inr ⟨by simp,by simp⟩)) _).setCell (.inl (.inr ⟨by simp,by simp⟩)) _))) tM.o⟩
     .exact da bI.o.1 (by omega)
   |ari n s hs=> ?ari
   |cat n=> ?cat
   |len n=> ?len
   |left n=> ?left
   |from_ n=> ?from_
   |find n=> ?find
   |text n=> ?text
   |ite n p hp=> ?ite;all_goals
    obtain⟨xs,Ad,Sj,iO⟩:=tZ.o;obtain⟨⟨fa,fc,vv,wE,-,-⟩,mB⟩:=Gz.o wr HB.o.1;obtain⟨b0,b1,b2,b3⟩:=ae wE;have dz:(0:Int)<2:=by omega
    have TU:(1:Int)<2:=by omega
    have AX:∀(v u:an)(w:aj),(Instr.field 373 (.agg #[v,u]) 1).run prog w= .ok u w:=λ_ _ _=>by kernel_rfl
    have Nn:aq wr wr.drew:=⟨rfl,rfl,rfl,bq,λ_ _=>rfl⟩;have hgd:=HG.o.below HB.o.1.drew
   case' ari|cat|left|from_|find=>
    obtain rfl:m=2:=by simpa using Cf.o.symm
    obtain⟨x0,x1,rfl⟩:=qc4 Ad
   case' len|text=>
    obtain rfl:m=1:=by simpa using Cf.o.symm
    obtain⟨x0,rfl⟩:=qc3 Ad
   case' ari|text=>
    obtain⟨z0,rfl,dX⟩:=tj (Sj 0 _ _ rfl rfl)
   case' cat|left|from_|find|len=>
    obtain⟨z0,rfl,dX⟩:=xu (Sj 0 _ _ rfl rfl)
   case' ari|left|from_=>
    obtain⟨z1,rfl,cY⟩:=tj (Sj 1 _ _ rfl rfl)
   case' cat|find=>
    obtain⟨z1,rfl,cY⟩:=xu (Sj 1 _ _ rfl rfl)
   case' ari|cat=>
    obtain⟨a0,g0,a1,g1,⟨q0,q1,q2,q3⟩,r0,r1,r2,r3⟩:=V9 iO
   case' ari=>
    unfold jN at q2 r2;have Sk:=af (IT (c:=c) (many:=many) (e:= .mk 4 n s l) (vs:=vs) (by simp[ax.kind]) (IS s hs z0 z1 dX cY a0 a1 g0 g1 wr.drew));clear hs wE mB iO Sj Ad Nn hgd;go_upto_region 14 with fail
   case' cat=>
    have Sk:=af (CP (c:=c) (many:=many) (e:= .mk 4 n ⟨#[38]⟩ l) (vs:=vs) (by simp[ax.kind]) (E8 z0 z1 dX cY a0 a1 g0 g1 wr.drew));clear wE mB iO Sj Ad Nn hgd;go_upto_region 14 with fail
   case' len=>
    have Sk:=af (IT (c:=c) (many:=many) (e:= .mk 6 n ⟨#[108,101,110]⟩ l) (vs:=vs) (by simp[ax.kind]) (S8 (iO.below Nn) 2 0 z0 [] rfl dX));obtain⟨v,oW⟩:=(jQ mB).1
   case' left=>
    have Sk:=af (CP (c:=c) (many:=many) (e:= .mk 6 n ⟨#[108,101,102,116]⟩ l) (vs:=vs) (by simp[ax.kind]) (Pb (iO.below Nn) 2 0 z0 [] rfl 1 z1 jN [] rfl dX));obtain⟨v,oW⟩:=(jQ mB).2.1
   case' from_=>
    have Sk:=af (CP (c:=c) (many:=many) (e:= .mk 6 n ⟨#[102,114,111,109]⟩ l) (vs:=vs) (by simp[ax.kind]) (Pc (iO.below Nn) 2 0 z0 [] rfl 1 z1 jN [] rfl dX));obtain⟨v,oW⟩:=(jQ mB).2.2.1
   case' find=>
    have Sk:=af (IT (c:=c) (many:=many) (e:= .mk 6 n ⟨#[102,105,110,100]⟩ l) (vs:=vs) (by simp[ax.kind]) (Pd (iO.below Nn) 2 0 z0 [] rfl 2 0 z1 [] rfl dX hgd));obtain⟨v,oW⟩:=(jQ mB).2.2.2.1
   case' text=>
    have Sk:=af (CP (c:=c) (many:=many) (e:= .mk 6 n ⟨#[116,101,120,116]⟩ l) (vs:=vs) (by simp[ax.kind]) (Pe (iO.below Nn) 1 z0 jN [] rfl dX hgd));obtain⟨v,oW⟩:=(jQ mB).2.2.2.2
   case' ite=>
    obtain rfl:m=3:=by simpa using Cf.o.symm
    obtain⟨x0,x1,x2,rfl⟩:=qc5 Ad;obtain⟨z0,rfl,dX⟩:=tj (Sj 0 _ _ rfl rfl);have DO:db ⟨p,0⟩ many (if z0=0 then x2 else x1):=by
     split
     .exact Sj 2 _ _ rfl rfl
     .exact Sj 1 _ _ rfl rfl
    have Sk:Hd (xC 298 _ wr.drew (bW wr.drew (WF c ⟨p,0⟩ many (.mk 6 n ⟨#[105,102]⟩ l) vs))):=(V4 (iO.below Nn) 1 z0 jN [] rfl x1 x2 rfl rfl).mono (by
     rintro _ w'⟨u,rfl,hu,hb⟩;generalize(if z0=0 then x2 else x1)=x at*;obtain⟨yk,yn,ys,yl⟩:=x;obtain⟨ua,uc,rfl,Dy⟩:=cQ hu;have e:yl=[]:=by
      rcases hp with rfl|rfl
      .obtain⟨_,h,_⟩:=tj DO;cases h;rfl
      .obtain⟨_,h,_⟩:=xu DO;cases h;rfl
     subst e;exact⟨_,rfl,⟨_,_,_,_,_,_,rfl,⟨DO,λh=>by simp[ax.kind]at h⟩,λN w'=>Py hp DO Dy (tm hu)⟩,hb⟩);have oW:=KG mB
   case' len|left|from_|find|text|ite=>
    have Rk:=oW wr.drew rfl;clear oW wE mB iO Sj Ad Nn hgd;unfold gP at Rk;go_upto_region 18 with fail
   all_goals
    go_region_law(first
     |(go_simp;first|go_at_call 303|go_at_call 283|go_at_call 286|go_at_call 290|go_at_call 291|go_at_call 293|go_at_call 298
       refine(Sk.o).mono ?_;rintro e w2⟨_,rfl,⟨yk,yn,ys,ya,yc,x,rfl,hx⟩,aY⟩;have aL:=af (HB.o.drew.below aY);have HX:=af hx;clear aY hx;have c0:=(ae (aL.o.cE rfl)).1;have c1:=(ae (aL.o.cE rfl)).2.1;have c2:=(ae (aL.o.cE rfl)).2.2.1;have c3:=(ae (aL.o.cE rfl)).2.2.2;obtain⟨f0,f1⟩:=nu (aL.o.cE rfl);have f2:=ag (aL.o.cE rfl) 2;have f3:=ag (aL.o.cE rfl) 3))
   all_goals
    go_wp2_with fail;exact Qae (v:= .agg #[xI yk,xI yn,xS ys,xL ya 0 yc]) (by simp[results,results270,go_sem,c0,c1,c2,c3]) rfl ⟨_,rfl,⟨x,HX.o.1,HX.o.2 _ _⟩,da aL.o.1 (by omega)⟩
def gK {l:List ax}{ts:List aR}(h:∀p∈l.zip ts,tg c p.1 p.2):∀(i:Nat)(x:ax)(u:aR),l[i]? =some x->ts[i]? =some u->tg c x u:=by
 intro i x u hx hu;refine h (x,u) (Qaf (i:=i) ?_);rw[List.getElem?_zip_eq_some];exact⟨hx,hu⟩
def fD {l:List ax}{ts:List aR}(h:∀p∈l.zip ts,zh c many p.1 p.2):∀(i:Nat)(x:ax)(u:aR),l[i]? =some x->ts[i]? =some u->zh c many x u:=by
 intro i x u hx hu;refine h (x,u) (Qaf (i:=i) ?_);rw[List.getElem?_zip_eq_some];exact⟨hx,hu⟩
def Mu(fS:c.name.size<=maxLen){e:ax}{t:aR}(h:lN c e t):tg c e t:=by
 induction h with
 |num n h1 h2=>exact dE c fS _ _ _ [] [] _ (by decide) rfl (λi x u h=>by simp at h) (.num _)
 |txt s hs=>exact dE c fS _ _ _ [] [] _ (by decide) rfl (λi x u h=>by simp at h) (.txt _)
 |fld f i h1 h2=>exact dE c fS _ _ _ [] [] _ (by decide) rfl (λi x u h=>by simp at h) (.fld f i h1 h2)
 |ari s a b hs _ _ h1 h2=>exact dE c fS _ _ _ [a,b] [⟨1,0⟩,⟨1,0⟩] _ (by decide) rfl (gK (by simp;exact⟨h1,h2⟩)) (.ari _ (by rcases hs with rfl|rfl|rfl;exact .inl rfl;exact .inr (.inl rfl);exact .inr (.inr rfl)))
 |cat a b _ _ h1 h2=>exact dE c fS _ _ _ [a,b] [⟨2,0⟩,⟨2,0⟩] _ (by decide) rfl (gK (by simp;exact⟨h1,h2⟩)) .cat
 |cmp s a b hs _ _ h1 h2=>exact dE c fS _ _ _ [a,b] [⟨1,0⟩,⟨1,0⟩] _ (by decide) rfl (gK (by simp;exact⟨h1,h2⟩)) (.cmp _ (by rcases hs with rfl|rfl;exact .inl rfl;exact .inr rfl))
 |len a _ h1=>exact dE c fS _ _ _ [a] [⟨2,0⟩] _ (by decide) rfl (gK (by simp;exact h1)) (.call ⟨#[108,101,110]⟩ 1 [⟨2,0⟩] (by simp[jP]))
 |text a _ h1=>exact dE c fS _ _ _ [a] [⟨1,0⟩] _ (by decide) rfl (gK (by simp;exact h1)) (.call ⟨#[116,101,120,116]⟩ 2 [⟨1,0⟩] (by simp[jP]))
 |left a b _ _ h1 h2=>exact dE c fS _ _ _ [a,b] [⟨2,0⟩,⟨1,0⟩] _ (by decide) rfl (gK (by simp;exact⟨h1,h2⟩)) (.call ⟨#[108,101,102,116]⟩ 2 [⟨2,0⟩,⟨1,0⟩] (by simp[jP]))
 |from_ a b _ _ h1 h2=>exact dE c fS _ _ _ [a,b] [⟨2,0⟩,⟨1,0⟩] _ (by decide) rfl (gK (by simp;exact⟨h1,h2⟩)) (.call ⟨#[102,114,111,109]⟩ 2 [⟨2,0⟩,⟨1,0⟩] (by simp[jP]))
 |find a b _ _ h1 h2=>exact dE c fS _ _ _ [a,b] [⟨2,0⟩,⟨2,0⟩] _ (by decide) rfl (gK (by simp;exact⟨h1,h2⟩)) (.call ⟨#[102,105,110,100]⟩ 1 [⟨2,0⟩,⟨2,0⟩] (by simp[jP]))
 |ite a b d p hp _ _ _ h1 h2 h3=>exact dE c fS _ _ _ [a,b,d] [⟨1,0⟩,⟨p,0⟩,⟨p,0⟩] _ (by simp) rfl (gK (by simp;exact⟨h1,h2,h3⟩)) (.ite p hp)
def Tf:∀s∈([[120],[45],[98],[110,111],[97,32,98]]:List (List UInt8)),s.length<=100/\∀c∈s,32<=c/\c<127:=by decide
def Pz(fS:c.name.size<=maxLen)(many:Int){e:ax}{t:aR}(h:lN c e t):zh c many e t:=by
 induction h with
 |num n h1 h2=>exact ej c fS many _ _ _ [] [] _ (by decide) rfl (λi x u h=>by simp at h) (.num _ _)
 |txt s hs=>
  obtain⟨h1,h2⟩:=Tf s hs;exact ej c fS many _ _ _ [] [] _ (by decide) rfl (λi x u h=>by simp at h) (.txt _ _ (pE _ (by simpa [bL]using h2)) (by simpa [bL,ByteArray.size]using h1))
 |fld f i h1 h2=>exact ej c fS many _ _ _ [] [] _ (by decide) rfl (λi x u h=>by simp at h) (.fld _ f i h1 h2)
 |ari s a b hs _ _ h1 h2=>exact ej c fS many _ _ _ [a,b] [⟨1,0⟩,⟨1,0⟩] _ (by decide) rfl (fD (by simp;exact⟨h1,h2⟩)) (.ari _ _ (by rcases hs with rfl|rfl|rfl;exact .inl rfl;exact .inr (.inl rfl);exact .inr (.inr (.inl rfl))))
 |cat a b _ _ h1 h2=>exact ej c fS many _ _ _ [a,b] [⟨2,0⟩,⟨2,0⟩] _ (by decide) rfl (fD (by simp;exact⟨h1,h2⟩)) (.cat _)
 |cmp s a b hs _ _ h1 h2=>exact ej c fS many _ _ _ [a,b] [⟨1,0⟩,⟨1,0⟩] _ (by decide) rfl (fD (by simp;exact⟨h1,h2⟩)) (.ari _ _ (by rcases hs with rfl|rfl;exact .inr (.inr (.inr (.inl rfl)));exact .inr (.inr (.inr (.inr rfl)))))
 |len a _ h1=>exact ej c fS many _ _ _ [a] [⟨2,0⟩] _ (by decide) rfl (fD (by simp;exact h1)) (.len _)
 |text a _ h1=>exact ej c fS many _ _ _ [a] [⟨1,0⟩] _ (by decide) rfl (fD (by simp;exact h1)) (.text _)
 |left a b _ _ h1 h2=>exact ej c fS many _ _ _ [a,b] [⟨2,0⟩,⟨1,0⟩] _ (by decide) rfl (fD (by simp;exact⟨h1,h2⟩)) (.left _)
 |from_ a b _ _ h1 h2=>exact ej c fS many _ _ _ [a,b] [⟨2,0⟩,⟨1,0⟩] _ (by decide) rfl (fD (by simp;exact⟨h1,h2⟩)) (.from_ _)
 |find a b _ _ h1 h2=>exact ej c fS many _ _ _ [a,b] [⟨2,0⟩,⟨2,0⟩] _ (by decide) rfl (fD (by simp;exact⟨h1,h2⟩)) (.find _)
 |ite a b d p hp _ _ _ h1 h2 h3=>exact ej c fS many _ _ _ [a,b,d] [⟨1,0⟩,⟨p,0⟩,⟨p,0⟩] _ (by simp) rfl (fD (by simp;exact⟨h1,h2,h3⟩)) (.ite _ p hp)
structure XOk(e:ax):Prop where
 nodes:ir e=true
 deep:kR e<=8
 size:eo e<=40
def scO(s:aT)(a b c:an):Obj:=xK #[xS s,a,b,c] 352
def Tg(w2:aj)(nm:aT)(fv vv:an)(K bm:Nat)(wx:aj):Prop:=wx.heap[K]? =some (scO nm fv vv (.map (some bm)))/\fC wx bm/\aq w2 wx
def Fb {vv:an}(mB:fC w' bm)(hj:aq w2 w'):Tg w2 nm fv vv w'.heap.size bm (w'.alloc (xK #[xS nm,fv,vv, .map (some bm)] 352)):=
 ⟨Qbh w' _,mB.below bO,hj.alloc hj.size _⟩
def PA {vv:an}{x0 x1 x2 x3:an}(mB:fC w' bm)(hj:aq w2 w')(hk:w'.heap[K]? =some (xK #[x0,x1,x2,x3] 352)/\w2.heap.size<=K)(hb:K<bm):
 Tg w2 nm fv vv K bm ((((w'.setCell ⟨K,0,none⟩ (xS nm)).setCell ⟨K,1,none⟩ fv).setCell ⟨K,2,none⟩ vv).setCell ⟨K,3,none⟩ (.map (some bm))):=by
 have h1:=Qca _ K 0 _ _ (xS nm) hk.1;have h2:=Qca _ K 1 _ _ fv h1;have h3:=Qca _ K 2 _ _ vv h2;have h4:=Qca _ K 3 _ _ (.map (some bm)) h3;refine⟨by simpa [scO]using h4,mB.only (S:=λi=>i=K) ?_ (λi hi=>by rw[hi];exact hb),da hj hk.2⟩;exact((((ai.refl (λi=>i=K) w').setCell (p:=⟨K,0,none⟩) (.inl rfl) _).setCell (p:=⟨K,1,none⟩) (.inl rfl) _).setCell (p:=⟨K,2,none⟩) (.inl rfl) _).setCell (p:=⟨K,3,none⟩) (.inl rfl) _
def IU(h:Below B w W)(hK:B<=K)(hB:B<=W.heap.size):Below B w (((W.setCell ⟨K,0,none⟩ a0).setCell ⟨K,1,none⟩ a1).alloc o):=by
 have h1:=(h.setCell (p:=⟨K,0,none⟩) hK a0).setCell (p:=⟨K,1,none⟩) hK a1;exact h1.alloc (by simpa [World.setCell]using hB) o
def zD(hb:Below (w2.alloc o).drew.heap.size (w2.alloc o).drew w'):w'.heap[w2.heap.size]? =some o/\w2.heap.size<=w2.heap.size:=⟨(hb.block w2.heap.size (by show _<(w2.alloc o).heap.size;simp)).trans (Qbh w2 o),bq⟩
def jB(hb:Below w2.drew.heap.size w2.drew w'):aq w2 w':=(Qbg _ w2).drew.trans hb
def jD(hb:Below (w2.alloc o).drew.heap.size (w2.alloc o).drew w'):aq w2 w':=((Qbg _ w2).alloc bq o).drew.trans (hb.mono (by show w2.heap.size<=(w2.alloc o).heap.size;simp))
def bmD(h:(w2.alloc o).drew.heap.size<=bm):w2.heap.size<bm:=by
 have:(w2.alloc o).heap.size<=bm:=h;simp at this;omega
def Fc(c:az)(hc:cA c)(e:ax)(t:aR)(hx:XOk e)(ht:lN c e t)(M:aS)(w:aj)(v fv:an)(hM:Bd M w)(gz:bS M w v e)(bR:ab M w fv c.fields)(hT:Tb w):
 xC 238 #[v, .agg #[xS c.name,fv]] w λε w'=>ε=xR (.tuple #[.agg #[xI t.kind,xI t.of],xI 0])/\aq w w':=by
 have fS:=cz hc.small;have HR:=fV (w:=w) (λW hb=>BH e hx.nodes hx.deep hx.size M W v (hM.below hb) (gz.below hb) (hT.below hb));have HC:Hd (∀W,aq w W->xC 185 #[.agg #[xS c.name,fv]] W (cN (xB true) W)):=λW hb=>by
  have h:=fW M fv W c (bR.below hb) fS;rw[hc.right]at h;exact h
 have NX:Hd (∀W b bm,aq w W->sZ M c [] b bm W->_):=λW b bm h1 h2=>Mu fS ht M M W v b bm [] (gz.below h1) h2;have im:=af bR;obtain⟨cs,rfl,bU⟩:=gz;obtain⟨k,n,s,l⟩:=e;obtain⟨lv,rfl,bo,_⟩:=cC.iff.1 bU;obtain⟨la,lc,rfl,_⟩:=bo.open_;obtain⟨fa,fc,rfl,_⟩:=bR.open_;clear hx ht bR bU bo hT;go_enter func238,ntmps238;go_wp2_with fail;refine cG (HR.o _ (Bx.gI w _ _ _).1) λw1 aC=> ?_;have aO:=af ((Bx.gI w (E7 k n s (xL la l.length lc)) (cS c.name (xL fa c.fields.length fc)) (GK 0 0)).below aC);obtain⟨a0,a1⟩:=ah (aO.o.cE rfl);clear aC;go_wp2_with fail;refine cG (HC.o _ aO.o.1) λw2 aY=> ?_;have aL:=af (aO.o.below aY);have HS:Hd (∀W',aq w2 W'->W'.cell? ⟨w.heap.size+1,0,none⟩=some (xS c.name)/\W'.cell? ⟨w.heap.size+1,1,none⟩=some (xL fa c.fields.length fc)):=λW' hb=>ah ((aL.o.below hb).cE rfl);obtain⟨a0,a1⟩:=ah (aL.o.cE rfl);have HJ:Hd (aq w2 w2):=dK;clear aY;go_upto_region 5 with fail;go_cut [6](λs6 wx=>∃K bm:Nat,s6=xP K/\Hd (Tg w2 c.name (xL fa c.fields.length fc) (xL none 0 0) K bm wx));case first=>
  go_region_held3(λw'=>w'.cell? ⟨w.heap.size+1,0,none⟩=some (xS c.name)/\w'.cell? ⟨w.heap.size+1,1,none⟩=some (xL fa c.fields.length fc))
   (with_reducible first|exact HS.o _ HJ.o|exact HS.o _ HJ.o.drew|exact HS.o _ (HJ.o.alloc HJ.o.size _)|exact HS.o _ ((HJ.o.alloc HJ.o.size _).drew)|exact HS.o _ (da HJ.o HK.o.2))
   ((go_at_call 268;refine(E6 _).mono ?_;rintro e w3⟨bm,rfl,mB,Uf,bG⟩;have DN:=af mB;try(with_reducible(have Vi:=af (bmD Uf)))
     try(with_reducible(have HK:=af (zD bG)))
     try with_reducible have k0:=(ae HK.o.1).1
     try with_reducible have k1:=(ae HK.o.1).2.1
     try with_reducible have k2:=(ae HK.o.1).2.2.1
     try with_reducible have k3:=(ae HK.o.1).2.2.2
     try with_reducible have y0:=ag HK.o.1 0
     try with_reducible have y1:=ag HK.o.1 1
     try with_reducible have y2:=ag HK.o.1 2
     try with_reducible have y3:=ag HK.o.1 3
     have HJ:Hd (aq w2 w3):=(by with_reducible first|exact af (jB bG)|exact af (jD bG));clear bG mB Uf));all_goals(go_wp2;go_meet)
  all_goals
   refine⟨_,bm,rfl,?_⟩;first
    |with_reducible exact af (Fb DN.o HJ.o)
    |with_reducible exact af (PA DN.o HJ.o HK.o Vi.o)
 case rest=>
  obtain⟨K,bm,rfl,HM⟩:=hcut;obtain⟨w3,hw3⟩:=cM (wc);subst hw3;have bI:=af (aL.o.below HM.o.2.2);obtain⟨e0,e1,e2,e3⟩:=ae (bI.o.bJ rfl);have Gz:Hd (sZ M c [] K bm w3):=⟨⟨fa,fc,xL none 0 0,HM.o.1,im.o.below bI.o.1,ab.nil _ _⟩,HM.o.2.1⟩;clear a0 a1 HS;go_wp2_with fail;refine cG (NX.o _ _ _ bI.o.1 Gz.o) λw4 dT=> ?_;have eH:=af (bI.o.below dT);obtain⟨c0,c1⟩:=ah (eH.o.gy rfl);obtain⟨f0,f1⟩:=nu (eH.o.gy rfl);have Ns:w.heap.size+1+1<w4.heap.size:=(Qaa.1 (eH.o.gy rfl)).1;clear dT;go_wp2_with fail;refine Qae (v:= .tuple #[.agg #[xI t.kind,xI t.of],xI 0]) (by simp[results,results238,go_sem,c0,c1,Ns]) rfl ⟨rfl,?_⟩;exact IU eH.o.1 (by omega) (by omega)
def PB(c:az)(hc:cA c)(many:Int)(hm:many<=100000)(e:ax)(t:aR)(hx:XOk e)(ht:lN c e t)(M:aS)(w:aj)(v fv vv:an)(vs:List au)(hM:Bd M w)(gz:bS M w v e)(bR:ab M w fv c.fields)(dt:ab M w vv vs)(hv:aW c.fields many vs)(hg:Gd w):
 xG 240 #[v, .agg #[xS c.name,fv],vv] w λr w'=>∃u x,r= .tuple #[u,xI 0]/\nG c t many e vs x/\bS M w' u x:=by
 have fS:=cz hc.small;have NX:=fV (w:=w) (λW hb=>Fc c hc e t hx ht M W v fv (hM.below hb) (gz.below hb) (bR.below hb) (hg.tb.below hb));have sd:=fV (w:=w) (λW hb=>mw c hc.right fS many hm vs hv M W fv vv (bR.below hb) (dt.below hb) (hg.tb.below hb));have HWX:Hd (∀W b bm,aq w W->w.heap.size+3<=W.heap.size->sZ (dP M w 3) c vs b bm W->_):=λW b bm h1 h3 h2=>Pz fS many ht M (dP M w 3) W v b bm vs (dp hM h3) (gz.below h1) h2 hv (hg.below h1);have im:=af bR;have AZ:=af dt;obtain⟨cs,rfl,bU⟩:=gz;obtain⟨k,n,s,l⟩:=e;obtain⟨lv,rfl,bo,_⟩:=cC.iff.1 bU;obtain⟨la,lc,rfl,_⟩:=bo.open_;obtain⟨fa,fc,rfl,_⟩:=bR.open_;obtain⟨va,vc,rfl,_⟩:=dt.open_;clear hx ht bR bU bo hg dt hv;go_enter func240,ntmps240;go_wp2_with fail;refine cG (NX.o _ (Bx.gI w _ _ _).1) λw1 aC=> ?_;have aO:=af ((Bx.gI w (E7 k n s (xL la l.length lc)) (cS c.name (xL fa c.fields.length fc)) (fZ 0 0 ⟨#[]⟩ (xL none 0 0))).below aC);obtain⟨a0,a1⟩:=ah (aO.o.cE rfl);have vi:w.heap.size+1<w1.heap.size:=(Qaa.1 (aO.o.cE rfl)).1;clear aC;go_wp2_with fail;refine cG (sd.o _ (aO.o.1.alloc aO.o.1.size _)) λw2 aY=> ?_;have aL:=af (aO.o.below (aQ aY));have HS:Hd (∀W',aq w2 W'->W'.cell? ⟨w.heap.size+1,0,none⟩=some (xS c.name)/\W'.cell? ⟨w.heap.size+1,1,none⟩=some (xL fa c.fields.length fc)):=λW' hb=>ah ((aL.o.below hb).cE rfl);obtain⟨a0,a1⟩:=ah (aL.o.cE rfl);have HJ:Hd (aq w2 w2):=dK;clear aY;go_upto_region 7 with fail;go_cut [12](λs6 wx=>∃K bm:Nat,s6=xP K/\Hd (Tg w2 c.name (xL fa c.fields.length fc) (xL va vs.length vc) K bm wx));case first=>
  go_region_held3(λw'=>w'.cell? ⟨w.heap.size+1,0,none⟩=some (xS c.name)/\w'.cell? ⟨w.heap.size+1,1,none⟩=some (xL fa c.fields.length fc))
   (with_reducible first|exact HS.o _ HJ.o|exact HS.o _ HJ.o.drew|exact HS.o _ (HJ.o.alloc HJ.o.size _)|exact HS.o _ ((HJ.o.alloc HJ.o.size _).drew)|exact HS.o _ (da HJ.o HK.o.2))
   ((go_at_call 268;refine(E6 _).mono ?_;rintro e w3⟨bm,rfl,mB,Uf,bG⟩;have DN:=af mB;try(with_reducible(have Vi:=af (bmD Uf)))
     try(with_reducible(have HK:=af (zD bG)))
     try with_reducible have k0:=(ae HK.o.1).1
     try with_reducible have k1:=(ae HK.o.1).2.1
     try with_reducible have k2:=(ae HK.o.1).2.2.1
     try with_reducible have k3:=(ae HK.o.1).2.2.2
     try with_reducible have y0:=ag HK.o.1 0
     try with_reducible have y1:=ag HK.o.1 1
     try with_reducible have y2:=ag HK.o.1 2
     try with_reducible have y3:=ag HK.o.1 3
     have HJ:Hd (aq w2 w3):=(by with_reducible first|exact af (jB bG)|exact af (jD bG));clear bG mB Uf));all_goals(go_wp2;go_meet)
  all_goals
   refine⟨_,bm,rfl,?_⟩;first
    |with_reducible exact af (Fb DN.o HJ.o)
    |with_reducible exact af (PA DN.o HJ.o HK.o Vi.o)
 case rest=>
  obtain⟨K,bm,rfl,HM⟩:=hcut;obtain⟨w3,hw3⟩:=cM (wc);subst hw3;have bI:=af (aL.o.below HM.o.2.2);obtain⟨e0,e1,e2,e3⟩:=ae (bI.o.bJ rfl);have Gz:Hd (sZ (dP M w 3) c vs K bm w3):=⟨⟨fa,fc,_,HM.o.1,im.o.ev (cW bI.o.1),AZ.o.ev (cW bI.o.1)⟩,HM.o.2.1⟩;clear a0 a1 HS;go_wp2_with fail;refine(HWX.o _ _ _ bI.o.1 bI.o.bY Gz.o).mono ?_;rintro e w4⟨_,rfl,⟨⟨yk,yn,ys,yl⟩,Ug,GQ⟩,dT⟩;obtain⟨ua,uc,rfl,Dy⟩:=cQ GQ;have HY:=af Dy;have HY2:Hd (ys.size<=maxLen):=tm GQ;have wY:=af Ug;have eH:=af (bI.o.below dT);obtain⟨c0,c1,c2,c3⟩:=ae (eH.o.gy rfl);obtain⟨f0,f1,f2,f3⟩:=ic (eH.o.gy rfl);clear dT GQ Ug Dy;go_wp2_with fail;refine Qae (v:= .tuple #[.agg #[xI yk,xI yn,xS ys,xL ua yl.length uc],xI 0]) (by simp[results,results240,go_sem,c0,c1,c2,c3]) rfl ⟨_,rfl,⟨_,_,rfl,wY.o,⟨_,rfl,kr (HY.o.ev ?_) HY2.o⟩⟩,da eH.o.1 (by omega)⟩;exact((((ep w4).setCell (.inl (.inr ⟨by simp;omega,by simp⟩)) _).setCell (.inl (.inr ⟨by simp;omega,by simp⟩)) _).setCell (.inl (.inr ⟨by simp;omega,by simp⟩)) _).setCell (.inl (.inr ⟨by simp;omega,by simp⟩)) _
end Go.Proofs.YtccpcfcochffcaaGreatDoor
