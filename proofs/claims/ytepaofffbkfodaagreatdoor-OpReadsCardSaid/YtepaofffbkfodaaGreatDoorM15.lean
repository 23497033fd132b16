/- A part of OpReads's proof; no condition. -/
import Derived.Test.YtepaofffbkfodaaGreatDoorM14
import Derived.OwnWalkIn
set_option linter.all false
set_option maxHeartbeats 8000000
set_option maxRecDepth 100000
namespace Go.Proofs.YtepaofffbkfodaaGreatDoor
open Tryz
variable{i j R b bm yc base B:Nat}{v u lv a0 a1 a2 a3 v0 v1 v2 v3:an}{w w0 A w3 W' w1 wr w2 W2 W:aj}{M M':aN}{many sz:Int}{o:Obj}{t e:TypeId}{a ya:fA}
section
open Go.RowKit Go.Shelf
attribute [local go_sem]Oper.semAt_some
def mA {l:List Int}(h:ab M w v l){x:Int}(hx:l[i]? =some x):∃b off cap,v=xL (some ⟨b,off,none⟩) l.length cap/\b<w.heap.size/\∀W,aq w W->bt W b (off+i) (xI x):=by
 obtain⟨a,cap,rfl,hl,_,hc⟩:=h.open_;have hk:=(Qad.1 hx).1;obtain⟨b,off,rfl,_,hb,aL⟩:=hc (by omega);obtain⟨cs,rfl,bJ⟩:=aL i _ hx;refine⟨b,off,cap,rfl,hb,λW hB=> ?_⟩;have:=(hB.cell (p:=⟨b,off+i*1+0,none⟩) hb).trans (bJ 0 _ rfl);simpa using this
def LI(gf:Nat)(lb:Array an)(eg:∀args w,(callFunc gf args).run prog w= .ok (.enter gf args) w)(l:List Int)(M:aN)(v:an)(w:aj)(h:ab M w v l)
 (hf:∀x∈l,∀W,aq w W->xC gf (#[xI x]++lb) W (cr (xB false) W)):
 xC 160 #[v, .func (.func gf) #[] lb] w (cr (xI (-1)) w):=by
 have HC:Hd (∀(i:Nat)(x:Int),l[i]? =some x->_):=λi x hx=>mA h hx;have HN:=af hf;obtain⟨a,bQ,rfl,cV,lL,_⟩:=h.open_;generalize hn:l.length=n at*;have eF:=af hn;go_enter func160,ntmps160;go_wp2;go_loopg [5,8]n(λg _ iv wr=>∃k:Nat,k<=n/\g=n-k/\iv=xI k/\Hd (aq w wr));case atStart=>exact⟨0,Qbf _,rfl,rfl,dQ⟩
 case round=>
  obtain⟨i,hi,rfl,rfl,HB⟩:=hrel;by_cases bu:i<n
  .obtain⟨x,hx⟩:=eB l i (by rw[eF.o];exact bu);obtain⟨b,off,cap,hv,hb,ay⟩:=HC.o i x hx;obtain⟨rfl,rfl⟩:=iB hv;have g0:=ay wr HB.o;have mP:=af (HN.o x (Qaf hx) wr HB.o);go_wp2_with fail;refine mP.o.mono ?_;rintro e w1⟨rfl,aF⟩;have aY:Hd (aq w w1):=HB.o.trans (aF.mono HB.o.size);go_wp2;go_roundg(n-(i+1));case measure=>omega
   case rel=>exact⟨i+1,by omega,rfl,by go_num,aY⟩
  .go_wp2;go_ret;exact⟨rfl,HB.o⟩
def nA(gf:Nat)(lb:Array an)(eg:∀args w,(callFunc gf args).run prog w= .ok (.enter gf args) w)(l:List Int)(M:aN)(v:an)(w:aj)(h:ab M w v l)
 (hf:∀x∈l,∀W,aq w W->xC gf (#[xI x]++lb) W (cr (xB false) W)):
 xC 128 #[v, .func (.func gf) #[] lb] w (cr (xB false) w):=by
 have HI:=af (LI gf lb eg l M v w h hf);go_enter func128,ntmps128;go_wp2_with fail;refine HI.o.mono ?_;rintro e w1⟨rfl,aF⟩;have HB:=af aF;go_wp2;go_ret;exact⟨rfl,HB.o⟩
def Au(x:Int)(hx:0<=x)(w:aj):xC 256 #[xI x] w (cr (xB false) w):=by
 have h0:decide (x<0)=false:=by simp;omega
 go_enter func256,ntmps256;go_wp2;go_ret;exact⟨by first|rfl|simp[h0],dQ⟩
def OQ {t:aT}{v:aA}(h:dx t many v)(hm:many<=100000)(hM:Bd M w)(hu:ct M w u v)(hT:Tb w):
 xC 202 #[u] w (cr (xB false) w):=by
 have HR:=gG (w:=w) (λW hb=>Dv h hm (hM.below hb) (hu.below hb) (hT.below hb));have HW:=gG (w:=w) (λW hb=>Aq h hm (hM.below hb) (hu.below hb) (hT.below hb));have eg:∀args w,(callFunc 256 args).run prog w= .ok (.enter 256 args) w:=enters_of func256 (by kernel_rfl) rfl;have n3:=q9 h (j:=3) (.inl rfl);have n4:=q9 h (j:=4) (.inr rfl);have HC3:Hd (∀W r,ab M W r (cC 3 v)->_):=λW r hs=>nA 256 #[] eg _ M r W hs λx hx W' _=>Au x (by have:=(n3 x hx).1;omega) W';have KK:Hd (∀W r,ab M W r (cC 4 v)->_):=λW r hs=>nA 256 #[] eg _ M r W hs λx hx W' _=>Au x (by have:=(n4 x hx).1;omega) W';obtain⟨k,n,s,l⟩:=v;obtain⟨a,cap,rfl,_⟩:=dd hu;go_enter func202,ntmps202;go_wp2_with fail;refine(HR.o _ bM).mono ?_;rintro e w1⟨r1,rfl,fu,aF⟩;obtain⟨x1,y1,rfl,_⟩:=fu.open_;have fL:=af (boxed aF);have aY:=af (aU aF);have qH:=af fu;go_wp2_with fail;refine bY (HC3.o _ _ qH.o) λw2 bC=> ?_;have fU:Hd (w2.heap[w.heap.size]? =_):=(bC.block _ (Qaa.1 fL.o).1).trans fL.o;have aQ:Hd (aq w w2):=aY.o.trans (bC.mono aY.o.size);obtain⟨c0,c1,c2,c3⟩:=ae fU.o;go_wp2_with fail;refine(HW.o _ aQ.o).mono ?_;rintro e w3⟨r2,rfl,qX,bP⟩;obtain⟨x2,y2,rfl,_⟩:=qX.open_;have bO:Hd (aq w w3):=aQ.o.trans (bP.mono aQ.o.size);have jC:=af qX;go_wp2_with fail;refine bY (KK.o _ _ jC.o) λw4 eA=> ?_;have dI:Hd (aq w w4):=bO.o.trans (eA.mono bO.o.size);go_wp2;go_ret;exact⟨by first|rfl|simp,dI.o⟩
end
section
open Go.RowKit Go.Shelf
attribute [local go_sem]Oper.semAt_some
def JZ(a:fA)(n c:Nat)(w:aj):xC 132 #[xL a n c] w λe w'=>e=xR (.func (.func 198) #[] #[xP w.heap.size])/\w.alloc (xK #[xL a n c] 42)=w':=by
 have CA:∀(fn:Fn)(first cap:Array an)(w:aj),(Instr.makeFunc fn first cap).run prog w= .ok (.func fn first cap) w:=λ_ _ _ _=>rfl;go_enter func132,ntmps132;go_wp2;go_ret;exact⟨rfl,rfl⟩
def BQ(M:aN)(w0:aj):Nat->Prop:=λi=>M i\/w0.heap.size<=i
def Sq(hb:aq w0 A):Ev M w0 (BQ M w0) A:=⟨ai.ao hb,λ_ hi=>hi⟩
def xE(vs:List aA)(N:aN)(i:Nat)(args:Array an)(j:Nat)(A:aj):Prop:=j=i+1/\∃v u,vs[i]? =some v/\args= #[u]/\ct N A u v
def DE(vs:List aA)(M C:aN)(p:Nat)(w0 w:aj)(hw:aq w0 w)(vv:an)(dA:ab M w0 vv vs)(hp:bR w p (xK #[vv] 42))(hC:∀i,C i->w0.heap.size<=i):
 G9 prog 198 #[xP p] w C 0 0 (xE vs (BQ M w0)) (λi=>i=vs.length):=by
 intro J Jx W hz hb hJ UF hY h0;have HJ:=af hJ;have HJX:=af UF;have HY:=af hY;have CU:=hw.size;have ij:p<w.heap.size:=(Qaa.1 hp).1;have hp0:bt W p 0 vv:=one_cell ((hb.block p ij).trans hp);have jN:Hd (aq w0 W/\w.heap.size+2<=W.heap.size):=⟨hw.trans (hb.mono CU),by omega⟩;have HC:Hd (∀(i:Nat)(k n:Int)(s:aM)(ll:List aA),vs[i]? =some (.mk k n s ll)->_):=λi k n s ll hx=>dy dA hx;have Ty:=af h0;obtain⟨a,bQ,rfl,cV,lL,_⟩:=dA.open_;generalize hn:vs.length=n at*;have eF:=af hn;refine callsIn_of_wp func198 rfl trivial ?_ rfl;simp only[ntmps198,List.size_toArray,Qcc,Qcd,Nat.reduceAdd,Nat.reduceSub,Array.replicate_succ,Array.replicate_zero,List.push_toArray,List.append_toArray,List.nil_append,List.cons_append];gi_wp2_with fail;gi_loopw [4,7](λ_ k wr=>∃i:Nat,k=xI i/\i<=n/\Hd (J i wr)/\Hd (aq w0 wr/\w.heap.size+2<=wr.heap.size))(λ_ k _=>n-(intOf k).toNat);case atStart=>exact⟨0,rfl,Qbf _,Ty,jN⟩
 case round=>
  obtain⟨i,rfl,hi,QY,HB⟩:=hrel;by_cases bu:i<n
  .obtain⟨⟨xk,xn,xs,xl⟩,hx⟩:=eB vs i (by rw[eF.o];exact bu);obtain⟨b,off,cap,a',c',hv,cR,bI,ke,ay⟩:=HC.o i xk xn xs xl hx;obtain⟨rfl,rfl⟩:=iB hv;obtain⟨⟨g0,g1,g2,g3⟩,_⟩:=ay wr HB.o.1;have HX:=af hx;have gp:=af bI;have rB:=af ke;have HO:∀o,Hd (aq wr (wr.alloc o)):=λo=>(dQ.alloc bN o);have hyy:=HY.o i #[.agg #[xI xk,xI xn,xS xs,xL a' xl.length c']] (i+1) (wr.alloc (eN xk xn xs (xL a' xl.length c'))) (HJ.o i wr _ QY.o (ai.ao (HO _).o)) ⟨rfl,_,_,HX.o,rfl,_,rfl,kz (gp.o.ev (Sq (HB.o.1.trans ((HO _).o.mono HB.o.1.size)))) rB.o⟩;unfold eN at hyy;obtain⟨fn,tmps,assign,body,hy,hR⟩:=hyy;have HR:=af hR;gi_wp2_with fail;refine⟨rfl,HR.o.mono ?_⟩;rintro e W3(⟨rfl,WV,Bm⟩|⟨rfl,Js⟩)
   .have UG:=af WV;have bO:Hd (aq w0 W3/\w.heap.size+2<=W3.heap.size):=⟨DD (HB.o.1.trans ((HO _).o.mono HB.o.1.size)) Bm hC CU,by have:=Bm.size;have:=HB.o.2;simp at*;omega⟩;gi_wp2_with fail;go_roundw;case rel=>exact⟨i+1,by go_num,by omega,UG,bO⟩
    case measure=>simp[intOf];omega
   .have QZ:=af Js;gi_wp2_with fail;refine Qae (results_none rfl _ _ _) rfl ?_;exact⟨⟨_,rfl⟩, .inr QZ.o⟩
  .obtain rfl:i=n:=by omega
   gi_wp2_with fail;refine bodyPost_end (results_none rfl _ _ _) rfl ?_;exact⟨⟨_,rfl⟩, .inl ⟨i,rfl,QY.o⟩⟩
end
section
open Go.RowKit
def fG(t:Tok):wL:=⟨t.kind,t.n,bL t.s,t.at_⟩
structure eU(b bm:Nat)(lv:an)(sz:Int)(T:List Tok)(w:aj)(i:Nat):Prop where
 box:w.heap[b]? =some (xK #[lv,xI i,xI sz, .map (some bm)] 354)
 toks:ab (aO b) w lv (T.map fG)
 binds:eP w bm
 ne:bm≠b
 few:T.length<=200
 le:i<=T.length
 kinds:∀t∈T,1<=t.kind/\t.kind<=4
section
variable {b bm:Nat}{lv:an}{sz:Int}{T:List Tok}{w w':aj}{i j:Nat}
theorem eU.lt(h:eU b bm lv sz T w i):b<w.heap.size:=(Qaa.1 h.box).1
theorem eU.step(h:eU b bm lv sz T w i)(ho:ai (aO b) w w')(hb:w'.heap[b]? =some (xK #[lv,xI j,xI sz, .map (some bm)] 354))(hj:j<=T.length):eU b bm lv sz T w' j:=
 ⟨hb,h.toks.ev ⟨ho,λ_ h=> .inl h⟩,h.binds.only ho h.ne,h.ne,h.few,hj,h.kinds⟩
theorem eU.below(h:eU b bm lv sz T w i)(hb:aq w w'):eU b bm lv sz T w' i:=
 h.step (ai.ao hb) ((hb.block b h.lt).trans h.box) h.le
theorem eU.next(h:eU b bm lv sz T w i)(hi:i<T.length):eU b bm lv sz T (w.setCell ⟨b,1,none⟩ (xI ((i:Int)+1))) (i+1)/\ai (aO b) w (w.setCell ⟨b,1,none⟩ (xI ((i:Int)+1))):=by
 have ho:ai (aO b) w (w.setCell ⟨b,1,none⟩ (xI ((i:Int)+1))):=(ai.refl (aO b) w).setCell (p:=⟨b,1,none⟩) (.inl rfl) _;refine⟨h.step ho ?_ (by omega),ho⟩;have:=Qca w b 1 _ _ (xI ((i:Int)+1)) h.box;simpa using this
theorem eU.cells(h:eU b bm lv sz T w i):∃a cap,lv=xL a T.length cap/\T.length<=cap/\cap<=9223372036854775807/\(∀t,T[i]? =some t->∃bl off,a=some ⟨bl,off,none⟩/\bl≠b/\bl<w.heap.size/\bt w bl (off+i*4) (xI t.kind)/\bt w bl (off+i*4+1) (xI t.n)/\bt w bl (off+i*4+2) (xS (bL t.s))/\bt w bl (off+i*4+3) (xI t.at_)):=by
 obtain⟨a,cap,hv,h1,h2,hc⟩:=h.toks.open_;rw[Qdc]at hv hc h1;refine⟨a,cap,hv,h1,h2,λt ht=> ?_⟩;have hl:=(Qad.1 ht).1;obtain⟨bl,off,ha,hM,cR,aL⟩:=hc (by omega);obtain⟨cs,⟨rfl,_⟩,bJ⟩:=aL i (fG t) (by rw[List.getElem?_map,ht];rfl);exact⟨bl,off,ha,hM,cR,bJ 0 _ rfl,bJ 1 _ rfl,bJ 2 _ rfl,bJ 3 _ rfl⟩
end
def J5(b bm:Nat)(lv:an)(sz:Int)(T:List Tok)(w:aj)(i:Nat)(h:eU b bm lv sz T w i)(t:Tok)(ht:T[i]? =some t):
 xC 314 #[xP b] w (cr (km t.kind t.n (bL t.s) t.at_) w):=by
 obtain⟨a,cap,rfl,QU,QV,hc⟩:=h.cells;obtain⟨p0,p1,p2,p3⟩:=ae h.box;obtain⟨bl,off,rfl,y9,cR,q0,q1,q2,q3⟩:=hc t ht;have RR:=h.lt;have hi:=(Qad.1 ht).1;have Fp:=h.few;have RB:(i:Int)<(T.length:Int):=by omega
 have ed:(0:Int)<=(i:Int):=Qba _;have Wd:decide (i<T.length)=true:=by simpa using hi
 have Yc:decide ((i:Int)<(T.length:Int))=true:=by simpa using RB
 have qd6:b≠w.heap.size:=by omega
 have qa8:bl≠w.heap.size:=by omega
 go_enter func314,ntmps314;go_wp2_with fail;go_quiet(fail);go_wp2_with fail;go_region;all_goals
  go_wp2_with fail;refine Qae (v:=km t.kind t.n (bL t.s) t.at_) (by simp[results,results314,go_sem,km]) rfl ⟨rfl,?_⟩;exact((((below_drewNv bM _).setCell (by simp) _).setCell (by simp) _).setCell (by simp) _).setCell (by simp) _
def Ph(b bm:Nat)(lv:an)(sz:Int)(T:List Tok)(w:aj)(i:Nat)(h:eU b bm lv sz T w i)(hi:i=T.length):
 xC 314 #[xP b] w (cr (km 0 0 ⟨#[]⟩ sz) w):=by
 obtain⟨a,cap,rfl,QU,QV,hc⟩:=h.cells;obtain⟨p0,p1,p2,p3⟩:=ae h.box;have RR:=h.lt;have Fp:=h.few;have RB:¬(i:Int)<(T.length:Int):=by omega
 have Wd:decide (i<T.length)=false:=by simp;omega
 have Yc:decide ((i:Int)<(T.length:Int))=false:=by simp;omega
 have qd6:b≠w.heap.size:=by omega
 go_enter func314,ntmps314;go_wp2_with fail;go_quiet(fail);go_wp2_with fail;refine Qae (v:=km 0 0 ⟨#[]⟩ sz) (by simp[results,results314,go_sem,km]) rfl ⟨rfl,?_⟩;exact((((below_drewNv bM _).setCell (by simp) _).setCell (by simp) _).setCell (by simp) _).setCell (by simp) _
def xW(b bm:Nat)(lv:an)(sz:Int)(T:List Tok)(w:aj)(i:Nat)(h:eU b bm lv sz T w i):∃(k n:Int)(s:aM)(p:Int),(∀x,dT (T.drop i) x=(decide (k=4)&&decide (s.data.toList=x)))/\(∀t,T[i]? =some t->k=t.kind/\n=t.n/\s=bL t.s)/\(T[i]? =none->k=0/\s=⟨#[]⟩)/\xC 314 #[xP b] w (cr (km k n s p) w):=by
 cases hq:T[i]? with
 |none=>
  have hi:i=T.length:=by have:=h.le;have:=List.getElem?_eq_none_iff.1 hq;omega
  refine⟨0,0,⟨#[]⟩,sz,λx=> ?_,(λt ht=>by cases ht),λ_=>⟨rfl,rfl⟩,Ph b bm lv sz T w i h hi⟩;rw[List.drop_of_length_le (by omega)];rfl
 |some t=>
  refine⟨t.kind,t.n,bL t.s,t.at_,λx=> ?_,(λt' ht=>by cases ht;exact⟨rfl,rfl,rfl⟩),(λh=>by cases h),J5 b bm lv sz T w i h t hq⟩;rw[drop_cons hq];simp only[dT,lz];rw[Bool.eq_iff_iff];simp;try omega
def D5(b bm:Nat)(lv:an)(sz:Int)(T:List Tok)(w:aj)(i:Nat)(h:eU b bm lv sz T w i)(s:aM)(hs:dT (T.drop i) s.data.toList=true):
 xC 378 #[xP b,xS s] w λe w'=>e=xR (xB true)/\eU b bm lv sz T w' (i+1)/\ai (aO b) w w':=by
 obtain⟨k,n,x,p,h1,h2,h3,Yq⟩:=xW b bm lv sz T w i h;have bu:i<T.length:=by
  cases hq:T[i]? with
  |none=>rw[h1,(h3 hq).1]at hs;simp at hs
  |some t=>exact(Qad.1 hq).1
 rw[h1]at hs;simp only[Qce,decide_eq_true_eq]at hs;obtain⟨rfl,hx⟩:=hs;obtain rfl:x=s:=by cases x;cases s;simp at hx;simpa using hx
 have NP:=af Yq;have gM:=af h;go_enter func378,ntmps378;go_wp2_with fail;refine bY (NP.o) λw1 aF=> ?_;have qH:=af (gM.o.below aF);have aY:=af aF;obtain⟨p0,p1,p2,p3⟩:=ae qH.o.box;have f1:=ag qH.o.box 1;have cR:=qH.o.lt;have y9:b≠w1.heap.size:=by omega
 have Fp:=qH.o.few;unfold km;go_wp2;go_ret;exact⟨rfl,((qH.o.next bu).1).below bM,((ai.ao aY.o).trans (qH.o.next bu).2).alloc _⟩
def J6(b bm:Nat)(lv:an)(sz:Int)(T:List Tok)(w:aj)(i:Nat)(h:eU b bm lv sz T w i)(s:aM)(hs:dT (T.drop i) s.data.toList=false):
 xC 378 #[xP b,xS s] w (cr (xB false) w):=by
 obtain⟨k,n,x,p,h1,h2,h3,Yq⟩:=xW b bm lv sz T w i h;rw[h1]at hs;have bJ:(k !=4)=true\/((k !=4)=false/\(!(x.toList==s.toList))=true):=by
  by_cases hk:k=4
  .right;refine⟨by simpa using hk,?_⟩;rw[decide_eq_true hk,Bool.true_and,decide_eq_false_iff_not]at hs;simp only[Bool.not_eq_true'];cases hq:(x.toList==s.toList)with
   |false=>rfl
   |true=>exact absurd (by rw[tZ hq]) hs
  .left;simpa using hk
 have NP:=af Yq;rcases bJ with e1|⟨e1,e2⟩;all_goals
  go_enter func378,ntmps378;go_wp2_with fail;refine bY (NP.o) λw1 aF=> ?_;have aY:=af aF;unfold km;go_wp2;go_ret;exact⟨rfl,aY.o.alloc aY.o.size _⟩
def J7(b bm:Nat)(lv:an)(sz:Int)(T:List Tok)(w:aj)(i:Nat)(h:eU b bm lv sz T w i)(s:aM)(hs:dT (T.drop i) s.data.toList=true):
 xC 379 #[xP b,xS s] w λe w'=>(∃v,e=xR v)/\eU b bm lv sz T w' (i+1)/\ai (aO b) w w':=by
 have HT:=af (D5 b bm lv sz T w i h s hs);go_enter func379,ntmps379;go_wp2_with fail;refine(HT.o).mono ?_;rintro e w1⟨rfl,h1,h2⟩;have H1:=af h1;have H2:=af h2;go_wp2_with fail;go_end0;exact⟨⟨_,rfl⟩,H1.o,H2.o⟩
def lF(b bm:Nat)(lv:an)(sz:Int)(T:List Tok)(w:aj)(x:aw)(r:List Tok)(e:Ending)(w':aj):Prop:=
 ∃v j,e=xR v/\ct (fy w) w' v x/\eU b bm lv sz T w' j/\r=T.drop j/\ai (aO b) w w'
def Pj(b bm:Nat)(lv:an)(sz:Int)(T:List Tok)(w:aj)(l:List aw)(r:List Tok)(e:Ending)(w':aj):Prop:=
 ∃v j,e=xR v/\ab (fy w) w' v l/\eU b bm lv sz T w' j/\r=T.drop j/\ai (aO b) w w'
def D6(b bm:Nat)(lv:an)(sz:Int)(T:List Tok)(k:Nat):Prop:=∀(least i:Nat)(x:aw)(r:List Tok)(w:aj),1<=least->least<=5->eU b bm lv sz T w i->jb k least (T.drop i)=some (x,r)->
 xC 313 #[xP b,xI least] w (lF b bm lv sz T w x r)
def Hs(b bm:Nat)(lv:an)(sz:Int)(T:List Tok)(k:Nat):Prop:=∀(i:Nat)(x:aw)(r:List Tok)(w:aj),eU b bm lv sz T w i->jm k (T.drop i)=some (x,r)->
 xC 338 #[xP b] w (lF b bm lv sz T w x r)
def BV(b bm:Nat)(lv:an)(sz:Int)(T:List Tok)(k:Nat):Prop:=∀(n i:Nat)(l:List aw)(r:List Tok)(w:aj),0<n->n<=3->eU b bm lv sz T w i->eM k n (T.drop i)=some (l,r)->
 xC 381 #[xP b,xI n] w (Pj b bm lv sz T w l r)
def FR(k n:Int)(s:aM)(v:an):Obj:=xK #[xI k,xI n,xS s,v] 319
def Pk {T:List Tok}(h0:eU b bm lv sz T w i)(h:eU b bm lv sz T w3 j)(ho:ai (aO b) w w3)(hR:w.heap.size<=R)(v0 v1 v2 v3:an):
 eU b bm lv sz T ((((w3.setCell ⟨R,0,none⟩ v0).setCell ⟨R,1,none⟩ v1).setCell ⟨R,2,none⟩ v2).setCell ⟨R,3,none⟩ v3) j/\ai (aO b) w ((((w3.setCell ⟨R,0,none⟩ v0).setCell ⟨R,1,none⟩ v1).setCell ⟨R,2,none⟩ v2).setCell ⟨R,3,none⟩ v3):=by
 have RR:=h0.lt;have zT:=(((ho.setCell (p:=⟨R,0,none⟩) (.inr hR) v0).setCell (p:=⟨R,1,none⟩) (.inr hR) v1).setCell (p:=⟨R,2,none⟩) (.inr hR) v2).setCell (p:=⟨R,3,none⟩) (.inr hR) v3;refine⟨h0.step zT ?_ h.le,zT⟩;exact(Qag _ _ _ _ (by show b≠R;omega)).trans ((Qag _ _ _ _ (by show b≠R;omega)).trans ((Qag _ _ _ _ (by show b≠R;omega)).trans ((Qag _ _ _ _ (by show b≠R;omega)).trans h.box)))
def Vy:(⟨#[]⟩:aM).size<=maxLen:=by unfold maxLen;decide
def Pl {T:List Tok}{w4:aj}(h0:eU b bm lv sz T w i)(h:eU b bm lv sz T w4 j)(ho:ai (aO b) w w4)(hR:di w4 w (xK #[a0,a1,a2,a3] t))
 (hW:W'=((((w4.setCell ⟨w.heap.size,0,none⟩ v0).setCell ⟨w.heap.size,1,none⟩ v1).setCell ⟨w.heap.size,2,none⟩ v2).setCell ⟨w.heap.size,3,none⟩ v3).alloc o):
 eU b bm lv sz T W' j/\ai (aO b) w W'/\W'.heap[w.heap.size]? =some (xK #[v0,v1,v2,v3] t):=by
 obtain⟨h1,h2⟩:=Pk h0 h ho bN v0 v1 v2 v3;have h3:=iE (o:=0) hR v0 v1 v2 v3;simp only[Nat.zero_add]at h3;subst hW;refine⟨h1.below bM,h2.alloc _,(Qcb _ _ _ (Qaa.1 h3).1).trans ?_⟩;simpa using h3
def vY {T:List Tok}{w4:aj}(h0:eU b bm lv sz T w i)(h:eU b bm lv sz T w4 j)(ho:ai (aO b) w w4)(hR:di w4 w (xK #[a0,a1,a2,a3] t))
 (hW:W'=(((w4.setCell ⟨w.heap.size,0,none⟩ v0).setCell ⟨w.heap.size,1,none⟩ v1).setCell ⟨w.heap.size,2,none⟩ v2).setCell ⟨w.heap.size,3,none⟩ v3):
 eU b bm lv sz T W' j/\ai (aO b) w W'/\W'.heap[w.heap.size]? =some (xK #[v0,v1,v2,v3] t):=by
 obtain⟨h1,h2⟩:=Pk h0 h ho bN v0 v1 v2 v3;have h3:=iE (o:=0) hR v0 v1 v2 v3;simp only[Nat.zero_add]at h3;subst hW;exact⟨h1,h2,by simpa using h3⟩
def D7(b bm:Nat)(lv:an)(sz:Int)(T:List Tok)(nX:qL T)(k:Nat)(HC:BV b bm lv sz T k):Hs b bm lv sz T (k+1):=by
 intro i x r w fJ hp;have cR:=fJ.lt;obtain⟨t,ht⟩:∃t,T[i]? =some t:=by
  cases hq:T[i]? with
  |some t=>exact⟨t,rfl⟩
  |none=>
   rw[List.drop_of_length_le (List.getElem?_eq_none_iff.1 hq)]at hp;simp[jm]at hp
 have hi:=(Qad.1 ht).1;have jZ:=Qaf ht;obtain⟨vJ,QA,Z3,_⟩:=nX t jZ;have oy:=fJ.kinds t jZ;have Ng:=drop_cons ht;rw[Ng]at hp;unfold jm at hp;dsimp only at hp;have TH:t.kind≠4:=by
  intro h4;rw[if_neg (by omega),if_neg (by omega),if_neg (by omega)]at hp;cases hp
 have Bi:∀s,dT (T.drop i) s=false:=λs=>by rw[Ng];simp[dT,TH]
 have Q3:Hd (∀W s,aq w W->_):=λW s hb=>J6 b bm lv sz T W i (fJ.below hb) s (Bi _);have NP:=gG (w:=w) (λW hb=>J5 b bm lv sz T W i (fJ.below hb) t ht);have gM:=af fJ;have KF:=af Ng;have HP:=af hp;have Uu:=af (show(bL t.s).size<=maxLen by rw[jG];unfold maxLen;omega);have Fp:=fJ.few;have y9:b≠w.heap.size:=by omega
 clear fJ hp Ng Bi ht jZ;go_enter func338,ntmps338;go_wp2_with fail;refine bY (Q3.o _ _ bM) λw1 aF=> ?_;have aY:=af ((Bx.eD w (FR 0 0 ⟨#[]⟩ (xL none 0 0))).below aF);clear aF;go_wp2_with fail;refine bY (Q3.o _ _ aY.o.1) λw2 bC=> ?_;have aQ:=af (aY.o.below bC);clear bC;go_wp2_with fail;refine bY (NP.o _ aQ.o.1) λw3 bP=> ?_;have bO:=af (aQ.o.below bP);clear bP;have jC:=af (gM.o.below bO.o.1);obtain⟨p0,p1,p2,p3⟩:=ae jC.o.box;have f1:=ag jC.o.box 1;obtain⟨g0,g1,g2,g3⟩:=ae (bO.o.bG rfl);obtain⟨y0,y1,y2,y3⟩:=iK (bO.o.bG rfl);have qX:w.heap.size<w3.heap.size:=by have:=bO.o.bF;simp at this;omega
 have qhf:b<w3.heap.size:=jC.o.lt;have qhg:b≠w3.heap.size:=by omega
 have qd7:w.heap.size≠w3.heap.size:=by omega
 have HN3:=af (jC.o.next hi);have uJ:Hd (ai (aO b) w (w3.setCell ⟨b,1,none⟩ (xI ((i:Int)+1)))):=(ai.ao bO.o.1).trans HN3.o.2;have Nq:Hd ((w3.setCell ⟨b,1,none⟩ (xI ((i:Int)+1))).heap[w.heap.size]? =some (FR 0 0 ⟨#[]⟩ (xL none 0 0))):=(Qag _ _ _ _ (by show w.heap.size≠b;omega)).trans (bO.o.bG rfl);unfold km;have ot:=af QA;have vP:=af Z3;clear QA Z3;obtain⟨kd,NM⟩:=jO ((t.kind:Int));have Uv:=af NM;rw[NM];clear NM;have bJ:t.kind=1\/t.kind=2\/t.kind=3:=by omega
 rcases bJ with h1|h1|h1
 .obtain rfl:kd=1:=by have:=Uv.o;omega
  have HX:=af (show x= .mk 1 t.n (bL []) []/\r=T.drop (i+1)by have h:=HP.o;rw[if_pos h1]at h;simp at h;exact⟨h.1.symm,h.2.symm⟩);clear h1 Uv oy TH;go_wp2_with fail;obtain⟨W',gU⟩:=bS ((((((w3.setCell ⟨b,1,none⟩ (xI ((i:Int)+1))).setCell ⟨w.heap.size,0,none⟩ (xI 1)).setCell ⟨w.heap.size,1,none⟩ (xI t.n)).setCell ⟨w.heap.size,2,none⟩ (xS ⟨#[]⟩)).setCell ⟨w.heap.size,3,none⟩ (xL none 0 0)).alloc (xK #[xI 1,xI t.n,xS (bL t.s),xI t.at_] 359));rw[<-gU];obtain⟨k1,k2,k3⟩:=Pl gM.o HN3.o.1 uJ.o Nq.o gU;obtain⟨c0,c1,c2,c3⟩:=ae k3;exact Qae (v:= .agg #[xI 1,xI t.n,xS ⟨#[]⟩,xL none 0 0]) (by simp[results,results338,go_sem,c0,c1,c2,c3]) rfl (show lF _ _ _ _ _ _ _ _ _ _ from⟨_,i+1,rfl,by rw[HX.o.1];exact uM _ _ _ Vy,k1,HX.o.2,k2⟩)
 .obtain rfl:kd=2:=by have:=Uv.o;omega
  have HX:=af (show x= .mk 2 0 (bL t.s) []/\r=T.drop (i+1)by have h:=HP.o;rw[if_neg (by omega),if_pos h1]at h;simp at h;exact⟨h.1.symm,h.2.symm⟩);clear h1 Uv oy TH;go_wp2_with fail;obtain⟨W',gU⟩:=bS ((((((w3.setCell ⟨b,1,none⟩ (xI ((i:Int)+1))).setCell ⟨w.heap.size,0,none⟩ (xI 2)).setCell ⟨w.heap.size,1,none⟩ (xI 0)).setCell ⟨w.heap.size,2,none⟩ (xS (bL t.s))).setCell ⟨w.heap.size,3,none⟩ (xL none 0 0)).alloc (xK #[xI 2,xI t.n,xS (bL t.s),xI t.at_] 359));rw[<-gU];obtain⟨k1,k2,k3⟩:=Pl gM.o HN3.o.1 uJ.o Nq.o gU;obtain⟨c0,c1,c2,c3⟩:=ae k3;exact Qae (v:= .agg #[xI 2,xI 0,xS (bL t.s),xL none 0 0]) (by simp[results,results338,go_sem,c0,c1,c2,c3]) rfl (show lF _ _ _ _ _ _ _ _ _ _ from⟨_,i+1,rfl,by rw[HX.o.1];exact uM _ _ _ Uu.o,k1,HX.o.2,k2⟩)
 .obtain rfl:kd=3:=by have:=Uv.o;omega
  have fL:=HP.o;rw[if_neg (by omega),if_neg (by omega),if_pos h1]at fL;have fU:=af fL;have nG:Hd (∀W,_):=λW=>Ae (bL t.s) W;clear h1 Uv oy TH fL;have har:=Da t.s;go_wp2_with fail;obtain⟨W4,j8⟩:=bS ((w3.setCell ⟨b,1,none⟩ (xI ((i:Int)+1))).alloc (xK #[xI 3,xI t.n,xS (bL t.s),xI t.at_] 359));rw[<-j8];have qG:=af (show eU b bm lv sz T W4 (i+1)by rw[j8];exact HN3.o.1.below bM);have UH:=af (show ai (aO b) w W4 by rw[j8];exact uJ.o.alloc _);have HZ4:=af (show di W4 w (FR 0 0 ⟨#[]⟩ (xL none 0 0))by rw[j8];exact(Qcb _ _ _ (Qaa.1 Nq.o).1).trans Nq.o);have NU:=af (show di W4 w3 (xK #[xI 3,xI t.n,xS (bL t.s),xI t.at_] 359)by
   rw[j8];have h:=Qbh (w3.setCell ⟨b,1,none⟩ (xI ((i:Int)+1))) (xK #[xI 3,xI t.n,xS (bL t.s),xI t.at_] 359);rw[show(w3.setCell ⟨b,1,none⟩ (xI ((i:Int)+1))).heap.size=w3.heap.size by simp[World.setCell]]at h;exact h);clear j8 p0 p1 p2 p3 f1 g0 g1 g2 g3 y0 y1 y2 y3 Q3 NP aY aQ;refine cT (nG.o _) ?_;obtain⟨m0,m1,m2,m3⟩:=ae NU.o;rw[lz];obtain⟨ar,qa9⟩:=jO (dB t.s);rw[qa9]at fU har⊢;clear qa9 nG;have qhh:w.heap.size≠w3.heap.size:=qd7;by_cases Yd:0<ar
  .have hz:(0:Int)<(ar:Int):=by omega
   by_cases yL:dT (T.drop (i+1)) [40]=true
   .have Xa:=af (D5 b bm lv sz T W4 (i+1) qG.o ⟨#[40]⟩ yL);have HX:=af (show∃l,eM k ar (T.drop (i+1+1))=some (l,r)/\x= .mk 6 0 (bL t.s) l by
     have h:=fU.o;rw[if_pos ⟨Yd,yL⟩,List.drop_drop]at h;split at h
     .cases h
     .rename_i l r' hq;simp at h;exact⟨l,by rw[<-h.2];exact hq,h.1.symm⟩);clear yL fU HP;go_wp2_with fail;refine(Xa.o).mono ?_;rintro e w6⟨rfl,h61,Ji⟩;have vw:=af h61;have qhi:=af Ji;have RE:Hd (ai (aO b) w w6):=UH.o.trans Ji;have HZ6:Hd (di w6 w (FR 0 0 ⟨#[]⟩ (xL none 0 0))):=Ji.at_ HZ4.o (by show¬(w.heap.size=b);omega);have HP6:Hd (di w6 w3 (xK #[xI 3,xI t.n,xS (bL t.s),xI t.at_] 359)):=Ji.at_ NU.o (by show¬(w3.heap.size=b);omega);clear h61 Ji m0 m1 m2 m3;obtain⟨m0,m1,m2,m3⟩:=ae HP6.o;obtain⟨l,Ct,Bh⟩:=HX.o;have hs6:w.heap.size<w6.heap.size:=(Qaa.1 HZ6.o).1;have ry:=af (HC ar (i+1+1) l r w6.drew Yd har (vw.o.below (w':=w6.drew) ⟨rfl,rfl,rfl,bN,λ_ _=>rfl⟩) Ct);have HXX:=af Bh;clear Ct Bh HX;go_upto_region 17 with fail;go_region_law(first
     |(go_simp;go_at_call 381;refine ry.o.mono ?_;rintro e w7⟨v,j,rfl,bI,QC,YF,Jl⟩;obtain⟨za,zc,rfl,_⟩:=bI.open_;have gp:=af bI;have zU:=af QC;have Ur:=af YF;have HO7:Hd (ai (aO b) w w7):=RE.o.drew.trans Jl;have YG:Hd (di w7 w (FR 0 0 ⟨#[]⟩ (xL none 0 0))):=Jl.at_ (w:=w6.drew) HZ6.o (by show¬(w.heap.size=b);omega);have HP7:Hd (di w7 w3 (xK #[xI 3,xI t.n,xS (bL t.s),xI t.at_] 359)):=Jl.at_ (w:=w6.drew) HP6.o (by show¬(w3.heap.size=b);omega);have r2:=(ae HP7.o).2.2.1;have c0:=(ae YG.o).1;have c1:=(ae YG.o).2.1;have c2:=(ae YG.o).2.2.1;have c3:=(ae YG.o).2.2.2;obtain⟨z0,z1,z2,z3⟩:=iK YG.o;clear bI QC YF Jl));all_goals
     go_wp2_with fail;obtain⟨W',gU⟩:=bS (((((w7.setCell ⟨w.heap.size,0,none⟩ (xI 6)).setCell ⟨w.heap.size,1,none⟩ (xI 0)).setCell ⟨w.heap.size,2,none⟩ (xS (bL t.s))).setCell ⟨w.heap.size,3,none⟩ (xL za l.length zc)));rw[<-gU];obtain⟨k1,k2,k3⟩:=vY gM.o zU.o HO7.o YG.o gU;obtain⟨d0,d1,d2,d3⟩:=ae k3;have tG:=af (show ab (fy w) W' (xL za l.length zc) l by
      rw[gU];have e0:Ev (fy w6.drew) w7 (fy w) w7:=Ev.dD w7 λi hi=>by have h1:i<w.heap.size:=hi;show i<w6.heap.size;omega
      exact gp.o.ev ((((e0.setCell (p:=⟨w.heap.size,0,none⟩) (.inl (by show w.heap.size<w6.heap.size;omega)) _).setCell (p:=⟨w.heap.size,1,none⟩) (.inl (by show w.heap.size<w6.heap.size;omega)) _).setCell (p:=⟨w.heap.size,2,none⟩) (.inl (by show w.heap.size<w6.heap.size;omega)) _).setCell (p:=⟨w.heap.size,3,none⟩) (.inl (by show w.heap.size<w6.heap.size;omega)) _));exact Qae (v:= .agg #[xI 6,xI 0,xS (bL t.s),xL za l.length zc]) (by simp[results,results338,go_sem,d0,d1,d2,d3]) rfl (show lF _ _ _ _ _ _ _ _ _ _ from⟨_,j,rfl,by rw[HXX.o];exact xV tG.o Uu.o,k1,Ur.o,k2⟩)
   .have hsf:dT (T.drop (i+1)) [40]=false:=by simpa using yL
    have Wi:=af (J6 b bm lv sz T W4 (i+1) qG.o ⟨#[40]⟩ hsf);have HX:=af (show x= .mk 3 0 (bL t.s) []/\r=T.drop (i+1)by have h:=fU.o;rw[if_neg (λh=>yL h.2)]at h;simp at h;exact⟨h.1.symm,h.2.symm⟩);clear yL hsf fU HP;go_wp2_with fail;refine bY (Wi.o) λw6 jz=> ?_;have rB:=af (qG.o.below jz);have HOO:Hd (ai (aO b) w w6):=UH.o.trans (ai.ao jz);have RS:Hd (di w6 w (FR 0 0 ⟨#[]⟩ (xL none 0 0))):=(jz.block _ (Qaa.1 HZ4.o).1).trans HZ4.o;have uG:Hd (di w6 w3 (xK #[xI 3,xI t.n,xS (bL t.s),xI t.at_] 359)):=(jz.block _ (Qaa.1 NU.o).1).trans NU.o;clear jz m0 m1 m2 m3;obtain⟨m0,m1,m2,m3⟩:=ae uG.o;obtain⟨c0,c1,c2,c3⟩:=ae RS.o;obtain⟨z0,z1,z2,z3⟩:=iK RS.o;go_wp2_with fail;obtain⟨W',gU⟩:=bS (((((w6.setCell ⟨w.heap.size,0,none⟩ (xI 3)).setCell ⟨w.heap.size,1,none⟩ (xI 0)).setCell ⟨w.heap.size,2,none⟩ (xS (bL t.s))).setCell ⟨w.heap.size,3,none⟩ (xL none 0 0)));rw[<-gU];obtain⟨k1,k2,k3⟩:=vY gM.o rB.o HOO.o RS.o gU;obtain⟨d0,d1,d2,d3⟩:=ae k3;exact Qae (v:= .agg #[xI 3,xI 0,xS (bL t.s),xL none 0 0]) (by simp[results,results338,go_sem,d0,d1,d2,d3]) rfl (show lF _ _ _ _ _ _ _ _ _ _ from⟨_,i+1,rfl,by rw[HX.o.1];exact uM _ _ _ Uu.o,k1,HX.o.2,k2⟩)
  .have HX:=af (show x= .mk 3 0 (bL t.s) []/\r=T.drop (i+1)by have h:=fU.o;rw[if_neg (λh=>Yd h.1)]at h;simp at h;exact⟨h.1.symm,h.2.symm⟩);have hz:¬(0:Int)<(ar:Int):=by omega
   have rB:=qG;have HOO:=UH;have RS:=HZ4;clear fU HP;obtain⟨c0,c1,c2,c3⟩:=ae RS.o;obtain⟨z0,z1,z2,z3⟩:=iK RS.o;go_wp2_with fail;obtain⟨W',gU⟩:=bS (((((W4.setCell ⟨w.heap.size,0,none⟩ (xI 3)).setCell ⟨w.heap.size,1,none⟩ (xI 0)).setCell ⟨w.heap.size,2,none⟩ (xS (bL t.s))).setCell ⟨w.heap.size,3,none⟩ (xL none 0 0)));rw[<-gU];obtain⟨k1,k2,k3⟩:=vY gM.o rB.o HOO.o RS.o gU;obtain⟨d0,d1,d2,d3⟩:=ae k3;exact Qae (v:= .agg #[xI 3,xI 0,xS (bL t.s),xL none 0 0]) (by simp[results,results338,go_sem,d0,d1,d2,d3]) rfl (show lF _ _ _ _ _ _ _ _ _ _ from⟨_,i+1,rfl,by rw[HX.o.1];exact uM _ _ _ Uu.o,k1,HX.o.2,k2⟩)
def L2(b bm:Nat)(lv:an)(sz:Int)(T:List Tok)(w:aj)(l:List aw)(a:fA)(q c:Nat)(C:List aw->Nat->Prop)(wr:aj):Prop:=
 ∃(kids rest:List aw)(j:Nat),kids.length=q/\kids++rest=l/\aK (fy w) w.heap.size 319 wr (xL a q c) kids/\eU b bm lv sz T wr j/\ai (aO b) w wr/\C rest j
def BW(b bm:Nat)(lv:an)(sz:Int)(T:List Tok)(k:Nat)(HE:∀m,m<k->D6 b bm lv sz T m):BV b bm lv sz T k:=by
 intro n i l r w yJ Yf fJ tD;obtain⟨i0,ed,ej,dO,er⟩:=info_parts Ag;have cR:=fJ.lt;have Us:Hd (∀m,m<k->D6 b bm lv sz T m):=HE;have H0:Hd (L2 b bm lv sz T w l none 0 0 (Oe T n r k 0) w):=⟨[],l,i,rfl,rfl,aK.nil _ _ _ _,fJ,ai.refl _ _, .inl ⟨rfl,k,bN,tD⟩⟩;have gM:=af fJ;go_enter func381,ntmps381;go_wp2;go_loopg [5,6,8]n(λg r5 _ iv wr=>∃(q c:Nat)(a:fA),q<=n/\g=n-q/\iv=xI q/\r5=xL a q c/\Hd (L2 b bm lv sz T w l a q c (Oe T n r k q) wr));case atStart=>exact⟨0,0,none,Qbf _,rfl,rfl,rfl,H0⟩
 case round=>
  obtain⟨q,c,a,hq,rfl,rfl,rfl,HL⟩:=hrel;by_cases bu:q<n
  .have Wj:(q:Int)<(n:Int):=by omega
   go_upto_if 12 with fail;go_cut [](λwx=>Hd (L2 b bm lv sz T w l a q c (U8 T n r k q) wx));case first=>
    obtain⟨kids,rest,j,CL,KA,hacc,j5,jx,hC⟩:=HL.o;by_cases hq0:0<q
    .have qhj:(0:Int)<(q:Int):=by omega
     have Ut:dT (T.drop j) [44]=true/\∃m,m<=k/\eM m (n-q) (T.drop (j+1))=some (rest,r):=by
      rcases hC with⟨h1,_⟩|⟨_,_,h1,h2⟩|⟨h1,_⟩
      .omega
      .exact⟨h1,h2⟩
      .omega
     have TG:=af (J7 b bm lv sz T wr j j5 ⟨#[44]⟩ Ut.1);have HM:=af Ut.2;have mQ:=af hacc;have kY:=af jx;have wi:=af CL;have Fu:=af KA;go_wp2_with fail;refine(TG.o).mono ?_;rintro e w1⟨⟨v1,rfl⟩,h1,h2⟩;have qH:=af h1;have rE:=af h2;go_wp2;go_meet;exact(show L2 _ _ _ _ _ _ _ _ _ _ _ _ from⟨kids,rest,j+1,wi.o,Fu.o,mQ.o.only rE.o (λi hi=>by have:i=b:=hi;exact⟨by show i<w.heap.size;omega,by omega⟩),qH.o,kY.o.trans rE.o,HM.o⟩)
    .obtain rfl:q=0:=by omega
     have Ut:∃m,m<=k/\eM m (n-0) (T.drop j)=some (rest,r):=by
      rcases hC with⟨_,h1⟩|⟨h1,_⟩|⟨h1,_⟩
      .exact h1
      .omega
      .omega
     have HM:Hd (L2 b bm lv sz T w l a 0 c (U8 T n r k 0) wr):=⟨kids,rest,j,CL,KA,hacc,j5,jx,Ut⟩;go_wp2;go_meet;exact HM
   case rest=>
    obtain⟨kids,rest,j,CL,KA,hacc,j5,jx,m,wj,tD⟩:=Hd.o hcut;obtain⟨m',e,r1,l',rfl,hex,rfl,hC⟩:=rQ tD (by omega);obtain⟨yk,yn,ys,yl⟩:=e;have br:=af (Us.o m' (by omega) 1 j (.mk yk yn ys yl) r1 wc (by omega) (by omega) j5 hex);have lY:=hacc.cJ;have qhk:=jx.size;have wi:=af CL;have Fu:=af KA;have mQ:=af hacc;have kY:=af jx;have qk:=af hC;have Wk:=af lY;go_wp2_with fail;refine(br.o).mono ?_;rintro e w1⟨_,jj,rfl,⟨cs,rfl,bV⟩,nH,rC,gQ⟩;obtain⟨av,rfl,bI,ke⟩:=cH.iff.1 bV;obtain⟨ya,yc,rfl,_⟩:=bI.open_;have s1:=gQ.size;have eX:Hd (au.rep (α:=aw) (bg (xL a q c) (fy w)) w1 [xI yk,xI yn,xS ys,xL ya yl.length yc] (aw.mk yk yn ys yl)):=au.ev (α:=aw) bV (Ev.dD w1 (λi hi=>by
     rcases hi with hi|hi
     .have h1:i<w.heap.size:=hi;show i<wc.heap.size;omega
     .exact(Wk.o i hi).2));have qE:=af nH;have mY:=af rC;have rE:Hd (ai (aO b) w w1):=kY.o.trans gQ;have zK:=af (mQ.o.only gQ (λi hi=>by have:i=b:=hi;exact⟨by show i<w.heap.size;omega,by omega⟩));go_wp2_with(at_builtin;refine aW (α:=aw) rfl _ _ _ rfl (fy w) w.heap.size 319 i0 _ 56 underlying317 ed ej dO er rfl (by decide) (.slice a q c) kids rfl (zK.o.alloc _) (λ_=>True) _ _ (.mk yk yn ys yl) rfl (fF _ _ _ _ 4 rfl rfl trivial) (au.ev (α:=aw) eX.o ((Ev.refl _ _).alloc _)) (by rw[wi.o];unfold maxLen;omega) (by rw[wi.o];omega) (by simp;omega) ?_;rw[wi.o];intro a2 c2 w2 bj dz bC;have dh:=af bj;have aQ:=af bC;clear bj dz bC);go_roundg(n-(q+1));case measure=>omega
    case rel=>
     refine⟨q+1,c2,a2,by omega,rfl,by go_num,rfl,?_⟩;have hO2:ai (aO b) w w2:=(rE.o.alloc _).du aQ.o bN;refine(show L2 _ _ _ _ _ _ _ _ _ _ _ _ from⟨kids++[.mk yk yn ys yl],l',jj,by simp[wi.o],by rw[<-Fu.o];simp,dh.o,?_,hO2,?_⟩)
     .exact gM.o.step hO2 ((aQ.o.block b cR).trans ((Qcb w1 _ b (by omega)).trans qE.o.box)) qE.o.le
     .have rC:=mY.o;rcases qk.o with⟨h1,h2,h3,h4⟩|⟨h1,h2,h3⟩
      .subst rC;exact .inr (.inr ⟨by omega,h2,h3,by rw[h4,List.drop_drop]⟩)
      .subst rC;rw[List.drop_drop]at h3;exact .inr (.inl ⟨by omega,by omega,h2,m',by omega,by rw[show n-(q+1)=n-q-1 from by omega];exact h3⟩)
  .have Wj:¬(q:Int)<(n:Int):=by omega
   obtain⟨kids,rest,j,CL,KA,hacc,j5,jx,hC⟩:=HL.o;have Ut:rest=[]/\dT (T.drop j) [41]=true/\r=T.drop (j+1):=by
    rcases hC with⟨h1,_⟩|⟨_,h2,_⟩|⟨_,h1,h2,h3⟩
    .omega
    .omega
    .exact⟨h1,h2,h3⟩
   obtain⟨rfl,h41,hr⟩:=Ut;rw[List.append_nil]at KA;have TG:=af (J7 b bm lv sz T wr j j5 ⟨#[41]⟩ h41);have wi:=af CL;have Fu:=af KA;have mQ:=af hacc;have kY:=af jx;have KC:=af hr;go_wp2_with fail;refine(TG.o).mono ?_;rintro e w1⟨⟨v1,rfl⟩,h1,h2⟩;have qH:=af h1;have zK:=af (mQ.o.only h2 (λi hi=>by have:i=b:=hi;exact⟨by show i<w.heap.size;omega,by omega⟩));have rE:Hd (ai (aO b) w w1):=kY.o.trans h2;go_wp2;go_ret;exact(show Pj _ _ _ _ _ _ _ _ _ _ from⟨_,j+1,rfl,by rw[<-Fu.o];exact zK.o.slice (λi hi=>hi),qH.o,KC.o,rE.o⟩)
def Vz(b bm:Nat)(lv:an)(sz:Int)(T:List Tok)(w:aj)(E:Nat)(C:aw->Nat->Prop)(wr:aj):Prop:=
 ∃(ck cn:Int)(cs:aM)(cl:List aw)(a:fA)(c j:Nat),wr.heap[E]? =some (xK #[xI ck,xI cn,xS cs,xL a cl.length c] 319)/\cH (Db w E) wr [xI ck,xI cn,xS cs,xL a cl.length c] (.mk ck cn cs cl)/\eU b bm lv sz T wr j/\ai (aO b) w wr/\
  wr.heap[w.heap.size]? =some (xK iH 319)/\C (.mk ck cn cs cl) j
def SD {T:List Tok}{WD:World}{jj:Nat}{ck cn fk fn:Int}{cs fs:ByteArray}{cl fl:List aw}{c:Nat}{ts:List UInt8}
 (cR:b<w.heap.size)(gM:eU b bm lv sz T w i)(kY:ai (aO b) w wr)(CM:ai (aO b) wr WD)(fO:ai (aO b) WD w2)
 (Te:w2.heap[w1.heap.size]? =some (.cells #[.int .i64 ck, .int .i64 cn, .string cs, .slice a cl.length c] 319 (0,0)))
 (QD:WD.heap[w.heap.size]? =some (.cells #[.int .i64 0, .int .i64 0, .string ⟨#[]⟩, .slice none 0 0] 319 (0,0)))
 (Wl:cH (Db w w1.heap.size) WD [.int .i64 ck, .int .i64 cn, .string cs, .slice a cl.length c] (.mk ck cn cs cl))
 (eX:cH (fy WD.drew) w2 [.int .i64 fk, .int .i64 fn, .string fs, .slice ya fl.length yc] (.mk fk fn fs fl))(Jn:eU b bm lv sz T w2 jj)
 (fu:w.heap.size+1<=w1.heap.size)(hE:w1.heap.size<wr.heap.size)(Z5:wr.heap.size<=WD.heap.size)(s2:WD.heap.size<=w2.heap.size)(uC:ts.length<=200)(C:aw->Nat->Prop)(hC:C (.mk 4 0 (bL ts) [.mk ck cn cs cl, .mk fk fn fs fl]) jj):
 Vz b bm lv sz T w w1.heap.size C (((((w2.setCell ⟨w1.heap.size,0,none⟩ (.int .i64 4)).setCell ⟨w1.heap.size,1,none⟩ (.int .i64 0)).setCell ⟨w1.heap.size,2,none⟩ (.string (bL ts))).setCell ⟨w1.heap.size,3,none⟩ (.slice (some ⟨w2.heap.size,0,none⟩) 2 2)).alloc (.cells #[.int .i64 ck, .int .i64 cn, .string cs, .slice a cl.length c, .int .i64 fk, .int .i64 fn, .string fs, .slice ya fl.length yc] 319)):=by
 obtain⟨W3,fw⟩:∃W3:World,W3=(((w2.setCell ⟨w1.heap.size,0,none⟩ (.int .i64 4)).setCell ⟨w1.heap.size,1,none⟩ (.int .i64 0)).setCell ⟨w1.heap.size,2,none⟩ (.string (bL ts))).setCell ⟨w1.heap.size,3,none⟩ (.slice (some ⟨w2.heap.size,0,none⟩) 2 2):=⟨_,rfl⟩;have yK:W3.heap.size=w2.heap.size:=by rw[fw];simp
 have hE3:W3.heap[w1.heap.size]? =some (.cells #[.int .i64 4, .int .i64 0, .string (bL ts), .slice (some ⟨w2.heap.size,0,none⟩) 2 2] 319 (0,0)):=by
  rw[fw];have h0:=Qca w2 w1.heap.size 0 _ _ (.int .i64 4) Te;have h1:=Qca _ w1.heap.size 1 _ _ (.int .i64 0) h0;have h2:=Qca _ w1.heap.size 2 _ _ (.string (bL ts)) h1;exact Qca _ w1.heap.size 3 _ _ (.slice (some ⟨w2.heap.size,0,none⟩) 2 2) h2
 have Bj:ai (λi=>i=w1.heap.size) w2 W3:=by
  rw[fw];exact((((ai.refl (λi=>i=w1.heap.size) w2).setCell (p:=⟨w1.heap.size,0,none⟩) (.inl rfl) _).setCell (p:=⟨w1.heap.size,1,none⟩) (.inl rfl) _).setCell (p:=⟨w1.heap.size,2,none⟩) (.inl rfl) _).setCell (p:=⟨w1.heap.size,3,none⟩) (.inl rfl) _
 rw[<-fw];clear fw;generalize hK:(Obj.cells #[.int .i64 ck, .int .i64 cn, .string cs, .slice a cl.length c, .int .i64 fk, .int .i64 fn, .string fs, .slice ya fl.length yc] 319 (0,0))=K;have Z6:ai (aO b) w (W3.alloc K):=by
  have h1:=(kY.trans CM).trans fO;have h2:ai (aO b) w W3:=h1.cO Bj (λi hi bu=>by omega);exact h2.alloc _
 have hKb:(W3.alloc K).heap[w2.heap.size]? =some (.cells (([.int .i64 ck, .int .i64 cn, .string cs, .slice a cl.length c]:List Value)++([.int .i64 fk, .int .i64 fn, .string fs, .slice ya fl.length yc]:List Value)).toArray 319 (0,0)):=by
  have h:=Qbh W3 K;rw[yK]at h;rw[h,<-hK];rfl
 have Wm:Ev (Db w w1.heap.size) WD (Db w w1.heap.size) (W3.alloc K):=
  ⟨((fO.mono (λi hi=> .inl (by unfold aO at hi;omega))).trans (Bj.mono (λi hi=> .inr hi))).alloc _,λi hi=> .inl hi⟩;have Wn:Ev (fy WD.drew) w2 (Db w w1.heap.size) (W3.alloc K):=
  ⟨(Bj.mono (λi hi=>by show i<WD.heap.size;omega)).alloc _,λi hi=> .inl (by show i<WD.heap.size;rcases hi with h|h<;>omega)⟩;refine⟨4,0,bL ts,[.mk ck cn cs cl, .mk fk fn fs fl],some ⟨w2.heap.size,0,none⟩,2,jj,(Qcb W3 _ _ (by omega)).trans hE3,cH.iff.2 ⟨_,rfl,?_,by rw[jG];unfold maxLen;omega⟩,gM.step Z6 ?_ Jn.le,Z6,?_,hC⟩
 .exact wO (by unfold Db;omega) hKb (Wl.zo Wm) (eX.zo Wn)
 .exact(Qcb W3 _ b (by omega)).trans ((Bj.block b (by omega) (by omega)).trans Jn.box)
 .exact(Qcb W3 _ _ (by omega)).trans ((Bj.block _ (by omega) (by omega)).trans ((fO.block _ (by omega) (by unfold aO;omega)).trans QD))
def sB(s:aM):Int:=match aZ oZ s with|some (.int _ v)=>v|_=>0
def Ht(s:aM):aZ oZ s=some (xI (sB s))\/(aZ oZ s=none/\sB s=0):=by
 unfold sB;cases hq:aZ oZ s with
 |none=>exact .inr ⟨rfl,rfl⟩
 |some v=>
  left;have hm:∃p∈oZ,p.2.1=v:=by
   unfold aZ at hq;rw[Option.map_eq_some_iff]at hq;obtain⟨p,h1,h2⟩:=hq;exact⟨p,List.mem_of_find?_eq_some h1,h2⟩
  obtain⟨p,hp,rfl⟩:=hm;simp only[oZ,Qdf,List.not_mem_nil,or_false]at hp;rcases hp with rfl|rfl|rfl|rfl|rfl|rfl|rfl|rfl|rfl|rfl|rfl|rfl<;>rfl
def Pm(w:aj):(zeroValue 3).run prog w= .ok (xI 0) w:=by kernel_rfl
def D8(h:eP w b)(s:aM):(Instr.lookup 114 (.map (some b)) (xS s) false).run prog w= .ok (xI (sB s)) w:=by
 rcases Ht s with h1|⟨h1,h2⟩
 .exact bD.lookup fe .string kR (P:=prog) underlying114 underlying9 jJ h s _ h1
 .rw[h2];exact bD.SB fe .string kR (P:=prog) underlying114 underlying9 jJ h s _ (Pm w) h1
def xX(c:UInt8)(hc:c∈dP):sB (bL [c])=(cB [c]:Int):=by
 simp only[dP,Qdf,List.not_mem_nil,or_false]at hc;rcases hc with rfl|rfl|rfl|rfl|rfl|rfl|rfl|rfl|rfl|rfl|rfl<;>rfl
def Hu(b bm:Nat)(lv:an)(sz:Int)(T:List Tok)(nX:qL T)(k:Nat)(HT:Hs b bm lv sz T k)(HE:∀m,m<k->D6 b bm lv sz T m):D6 b bm lv sz T (k+1):=by
 intro least i x r w Ct Wo fJ hp;have cR:=fJ.lt;obtain⟨e0,r0,Z7,KB⟩:∃e0 r0,jm k (T.drop i)=some (e0,r0)/\nP k least e0 r0=some (x,r):=by
  unfold jb at hp;cases hq:jm k (T.drop i)with
  |none=>rw[hq]at hp;cases hp
  |some q=>obtain⟨e0,r0⟩:=q;rw[hq]at hp;exact⟨e0,r0,rfl,hp⟩
 clear hp;have lZ:aq w (w.alloc (xK iH 319)):=bM;have bK:=HT i e0 r0 _ (fJ.below lZ) Z7;obtain⟨zk,zn,zs,zl⟩:=e0;have gM:=af fJ;clear fJ;have Bk:=af KB;clear KB;have br:=af bK;clear bK;have jN:=af lZ;clear lZ;clear Z7;go_enter func313,ntmps313;go_wp2_with fail;refine(br.o).mono ?_;rintro e w1⟨_,j0,rfl,⟨cs,rfl,bV⟩,nH,rC,gQ⟩;obtain⟨av,rfl,bI,ke⟩:=cH.iff.1 bV;obtain⟨za,zc,rfl,_⟩:=bI.open_;have fu:=gQ.size;simp at fu;have Jo:Hd (di w1 w (xK iH 319)):=(gQ.block _ (by simp) (by unfold aO;omega)).trans (Qbh w _);have rE:Hd (ai (aO b) w w1):=((ai.refl _ w).alloc _).cO gQ (λi hi _=>hi);have eX:=af bV;clear bV;have qE:=af nH;clear nH;have mY:=af rC;clear rC;clear bI ke gQ;go_wp2;go_loopg [6,7]k(λg _ _ wr=>∃m:Nat,m<=k/\g=m/\Hd (Vz b bm lv sz T w w1.heap.size (λcur j=>nP m least cur (T.drop j)=some (x,r)) wr)/\w1.heap.size<wr.heap.size);case atStart=>
  refine⟨k,bN,rfl,?_,by simp⟩;have FZ:aq w1 (w1.alloc (xK #[xI zk,xI zn,xS zs,xL za zl.length zc] 319)):=bM;refine(show Vz _ _ _ _ _ _ _ _ _ from⟨zk,zn,zs,zl,za,zc,j0,Qbh _ _,?_,qE.o.below FZ,rE.o.alloc _,(FZ.block _ (by omega)).trans Jo.o,by {show nP k least _ (T.drop j0)=_;rw[<-mY.o];exact Bk.o}⟩);exact eX.o.zo ⟨(ai.refl _ w1).alloc _,λi hi=>by
   rcases hi with h|h
   .exact .inl (by unfold fy;simp;omega)
   .exact .inr (by omega)⟩
 case round=>
  obtain⟨m,hm,rfl,HM,hE⟩:=hrel;obtain⟨ck,cn,cs,cl,a,c,j,QE,RF,j5,jx,hR,hC⟩:=HM.o;obtain⟨pk,pn,ps,pp,yL,Jp,Xb,UP⟩:=xW b bm lv sz T wr j j5;have NP:=af UP;have tF:=af j5;have HEB:=af QE;have Yg:=af RF;have kY:=af jx;have KC:=af hR;have HSP:=wN hC;clear UP j5 QE RF jx hR hC;go_wp2_with fail;refine bY (NP.o) λw2 bC=> ?_;have aQ:=af bC;have gE:=af (tF.o.below bC);clear bC;obtain⟨p0,p1,p2,p3⟩:=ae gE.o.box;have f1:=ag gE.o.box 1;have qa8:=gE.o.lt;have s2:=aQ.o.size;have qhl:b≠w2.heap.size:=by omega
  have qq:=λo=>D8 (gE.o.binds.below (w':=w2.alloc o) (dQ.alloc bN o)) ps;have qay:=λo=>D8 (w:=(w2.alloc o).drew) (gE.o.binds.below (w':=w2.alloc o) (dQ.alloc bN o)) ps;unfold km;go_upto_region 3 with fail;go_cut [7](λs7 wx=>s7=xI (sB ps)/\wx=(w2.alloc (xK #[xI pk,xI pn,xS ps,xI pp] 359)).drew);case first=>
   go_region;all_goals
    go_wp2;go_meet;exact⟨rfl,rfl⟩
  case rest=>
   obtain⟨rfl,hwc⟩:=hcut;obtain⟨W4,j8⟩:=bS (wc);subst j8;have dI:=af (show aq wr W4 by rw[hwc];exact(aQ.o.alloc aQ.o.size _).drew);have NU:=af (show di W4 w2 (xK #[xI pk,xI pn,xS ps,xI pp] 359)by rw[hwc];exact Qbh w2 _);clear hwc p0 p1 p2 p3 f1 qq qay;have qG:=af (tF.o.below dI.o);obtain⟨p0,p1,p2,p3⟩:=ae qG.o.box;have f1:=ag qG.o.box 1;obtain⟨m0,m1,m2,m3⟩:=ae NU.o;have HE4:Hd (di W4 w1 (xK #[xI ck,xI cn,xS cs,xL a cl.length c] 319)):=(dI.o.block _ hE).trans HEB.o;have Nq:Hd (di W4 w (xK iH 319)):=(dI.o.block _ (by omega)).trans KC.o;have KK:Hd (cH (Db w w1.heap.size) W4 [xI ck,xI cn,xS cs,xL a cl.length c] (.mk ck cn cs cl)):=Yg.o.zo (Ev.ao dI.o);have UH:Hd (ai (aO b) w W4):=kY.o.trans (ai.ao dI.o);obtain⟨e0,e1,e2,e3⟩:=ae HE4.o;have hw4:w2.heap.size<W4.heap.size:=(Qaa.1 NU.o).1;rcases HSP with⟨rfl,rfl,Bi⟩|⟨m',t,r',f,r2,rfl,vJ,oy,hlb,hex,QF⟩
   .have bJ:(pk !=4)=true\/((pk !=4)=false/\sB ps<(least:Int)):=by
     by_cases h4:pk=4
     .right;refine⟨by simpa using h4,?_⟩;cases hq:T[j]? with
      |none=>have:=(Xb hq).1;omega
      |some t=>
       obtain⟨h1,_,h3⟩:=Jp t hq;have oy:t.kind=4:=by omega
       obtain⟨c0,tC,Bl⟩:=(nX t (Qaf hq)).2.2.2 oy;have hn:=Bi t _ (drop_cons hq);rw[h3,Bl,xX c0 tC,<-Bl];have:¬least<=cB t.s:=λh=>hn ⟨oy,h⟩;omega
     .left;simpa using h4
    obtain⟨r0,r1,r2,r3⟩:=ae Nq.o;obtain⟨g0,g1,g2,g3⟩:=iK Nq.o;have hRE:w.heap.size≠w1.heap.size:=by omega
    generalize sB ps=bv at*;clear Bi Jp Xb yL;rcases bJ with h1|⟨h1,h2⟩;all_goals
     go_wp2_with fail;obtain⟨W',gU⟩:=bS (((((W4.setCell ⟨w.heap.size,0,none⟩ (xI ck)).setCell ⟨w.heap.size,1,none⟩ (xI cn)).setCell ⟨w.heap.size,2,none⟩ (xS cs)).setCell ⟨w.heap.size,3,none⟩ (xL a cl.length c)));rw[<-gU];obtain⟨k1,k2,k3⟩:=vY gM.o qG.o UH.o Nq.o gU;obtain⟨d0,d1,d2,d3⟩:=ae k3;have tG:=af (show cH (fy w) W' [xI ck,xI cn,xS cs,xL a cl.length c] (.mk ck cn cs cl)by
      rw[gU];exact KK.o.zo (((((Ev.dD (M:=Db w w1.heap.size) (N:=fy w) W4 (λi h=>by unfold fy at h;exact .inl (by omega))).setCell (p:=⟨w.heap.size,0,none⟩) (.inl (.inl bN)) _).setCell (p:=⟨w.heap.size,1,none⟩) (.inl (.inl bN)) _).setCell (p:=⟨w.heap.size,2,none⟩) (.inl (.inl bN)) _).setCell (p:=⟨w.heap.size,3,none⟩) (.inl (.inl bN)) _));exact Qae (v:= .agg #[xI ck,xI cn,xS cs,xL a cl.length c]) (by simp[results,results313,go_sem,d0,d1,d2,d3]) rfl (show lF _ _ _ _ _ _ _ _ _ _ from⟨_,j,rfl,⟨_,rfl,tG.o⟩,k1,rfl,k2⟩)
   .obtain⟨t',Fv⟩:∃t',T[j]? =some t':=by
     rcases Nat.lt_or_ge j T.length with h|h
     .exact⟨_,Qac h⟩
     .rw[List.drop_eq_nil_of_le h]at vJ;cases vJ
    rw[drop_cons Fv]at vJ;simp only[List.cons.injEq]at vJ;obtain⟨rfl,rfl⟩:=vJ;have CJ:j<T.length:=(Qad.1 Fv).1;have jZ:=Qaf Fv;obtain⟨c0,tC,Bl⟩:=(nX t' jZ).2.2.2 oy;obtain⟨h1,h2,h3⟩:=Jp t' Fv;subst h3;have hbv:sB (bL t'.s)=(cB t'.s:Int):=by rw[Bl];exact xX c0 tC
    have eA:=Dc t'.s;have Yq:(pk !=4)=false:=by simp;omega
    rw[hbv];have KE:¬(cB t'.s:Int)<(least:Int):=by omega
    have uC:Hd (t'.s.length<=200):=(nX t' jZ).1;have Fp:=qG.o.few;have RG:=af hex;have Wr:=af QF;clear hex QF jZ Fv oy Bl tC Jp Xb yL h1 h2 hbv;generalize FZ:cB t'.s=bb at*;go_upto_region 7 with fail;obtain⟨WD,Tf⟩:=bS (W4.setCell ⟨b,1,none⟩ (xI ((j:Int)+1)));rw[<-Tf];have HPD:=af (show eU b bm lv sz T WD (j+1)by rw[Tf];exact(qG.o.next CJ).1);have CM:=af (show ai (aO b) W4 WD by rw[Tf];exact(qG.o.next CJ).2);have Z9:Hd (di WD w1 (xK #[xI ck,xI cn,xS cs,xL a cl.length c] 319)):=CM.o.at_ HE4.o (by unfold aO;omega);have QD:Hd (di WD w (xK iH 319)):=CM.o.at_ Nq.o (by unfold aO;omega);have uG:Hd (di WD w2 (xK #[xI pk,xI pn,xS (bL t'.s),xI pp] 359)):=CM.o.at_ NU.o (by unfold aO;omega);have Wl:Hd (cH (Db w w1.heap.size) WD [xI ck,xI cn,xS cs,xL a cl.length c] (.mk ck cn cs cl)):=KK.o.zo ⟨CM.o.mono (λi hi=> .inl (by unfold aO at hi;omega)),λi hi=> .inl hi⟩;have Z5:=CM.o.size;clear Tf p0 p1 p2 p3 f1 m0 m1 m2 m3 e0 e1 e2 e3;obtain⟨d0,d1,d2,d3⟩:=ae Z9.o;obtain⟨m0,m1,m2,m3⟩:=ae uG.o;obtain⟨fk,fn,fs,fl⟩:=f;have bK:=HE m' (by omega) (bb+1) (j+1) (.mk fk fn fs fl) r2 WD.drew (by omega) (by omega) (HPD.o.below (w':=WD.drew) ⟨rfl,rfl,rfl,bN,λ_ _=>rfl⟩) RG.o;rw[show((bb+1:Nat):Int)=(bb:Int)+1 from by omega]at bK;have yM:=af bK;clear bK;have z1:IntKind.i64.wrap ((bb:Int)+1)=(bb:Int)+1:=Qbe _ (by omega);go_region_law(first
     |(go_simp;go_at_call 313;refine yM.o.mono ?_;rintro e w5⟨_,jj,rfl,⟨cs2,rfl,bV⟩,qba,hr5,Xc⟩;obtain⟨av,rfl,bI,ke⟩:=cH.iff.1 bV;obtain⟨ya,yc,rfl,_⟩:=bI.open_;have s5:=Xc.size;simp at s5;have qF:Hd (ai (aO b) WD w5):=(ai.refl _ WD).drew.trans Xc;have YH:Hd (di w5 w1 (xK #[xI ck,xI cn,xS cs,xL a cl.length c] 319)):=qF.o.at_ Z9.o (by unfold aO;omega);have HP5:Hd (di w5 w2 (xK #[xI pk,xI pn,xS (bL t'.s),xI pp] 359)):=qF.o.at_ uG.o (by unfold aO;omega);have qhm:w1.heap.size<w5.heap.size:=by omega
       have qhn:w2.heap.size<w5.heap.size:=by omega
       have k0:=(ae YH.o).1;have k1:=(ae YH.o).2.1;have k2:=(ae YH.o).2.2.1;have k3:=(ae YH.o).2.2.2;have j2:=(ae HP5.o).2.2.1;have j2':∀o,(w5.alloc o).cell? ⟨w2.heap.size,2,none⟩=some (xS (bL t'.s)):=λo=>cu w5 o _ j2;have n0:∀o,(w5.alloc o).cell? ⟨w1.heap.size,0,none⟩=some (xI ck):=λo=>cu w5 o _ k0;have n1:∀o,(w5.alloc o).cell? ⟨w1.heap.size,1,none⟩=some (xI cn):=λo=>cu w5 o _ k1;have n2:∀o,(w5.alloc o).cell? ⟨w1.heap.size,2,none⟩=some (xS cs):=λo=>cu w5 o _ k2;have n3:∀o,(w5.alloc o).cell? ⟨w1.heap.size,3,none⟩=some (xL a cl.length c):=λo=>cu w5 o _ k3;obtain⟨fz0,fz1,fz2,fz3⟩:=iK YH.o;have eX:=af bV;have qd8:=af qba;have Kz:=af hr5;clear Xc bV bI ke qba hr5));all_goals
     clear z1;go_wp2;go_roundg m';case measure=>omega
     case rel=>
      refine⟨m',by omega,rfl,?_,by simp;omega⟩;have Fw:=SD cR gM.o UH.o CM.o qF.o YH.o QD.o Wl.o eX.o qd8.o (by omega) (by omega) Z5 s5 uC.o;exact(Fw _ (by rw[<-Kz.o];exact Wr.o))
def VA(b bm:Nat)(lv:an)(sz:Int)(T:List Tok)(nX:qL T)(k:Nat):D6 b bm lv sz T k/\Hs b bm lv sz T k/\BV b bm lv sz T k:=by
 induction k using Nat.strongRecOn with
 |ind k ih=>
  refine⟨?_,?_,BW b bm lv sz T k λm hm=>(ih m hm).1⟩
  .cases k with
   |zero=>intro least i x r w _ _ _ h;simp[jb]at h
   |succ k=>exact Hu b bm lv sz T nX k (ih k (by omega)).2.1 λm hm=>(ih m (by omega)).1
  .cases k with
   |zero=>intro i x r w _ h;simp[jm]at h
   |succ k=>exact D7 b bm lv sz T nX k (ih k (by omega)).2.2
def Hv(p q r:Addr)(w:aj):
 CallsD prog 312 #[.pointer (some p), .pointer (some q), .pointer (some r)] .returning w λe u' w'=>e=xR (.tuple #[])/\u'= .returning/\w'=w:=by
 refine callsD_of_wpS func312 rfl λTI cs hu=> ?_;apply wpS_seq;apply wpS_region;simp[wpOpsS,go_sem,recoverD,hu,ntmps312,Exit.thenS];apply wpS_seq;apply wpS_region;simp[wpOpsS,go_sem,Exit.thenS];refine wpS_cond (t:=false) (by simp[Act.eval,Array.replicate]) ?_;simp only[Bool.false_eq_true,if_false];refine wpS_of_wp (wp_skip ?_);cases TI;simp_all[bodyPostS,results,results312]
def de(t:TypeId)(v:an):Obj:=xK #[v] t
def L3 {n:Nat}{xk xn:Int}{xs:aM}{xl:List aw}{xa:fA}{xc:Nat}(hb:b<w.heap.size)(ho:ai (aO b) w w1)(hR0:di w1 w (FR 0 0 ⟨#[]⟩ (xL none 0 0)))(hR1:bR w1 (w.heap.size+1) (de 3 (xI 0)))(hR2:bR w1 (w.heap.size+1+1) (de 4 (xB false)))
 (bI:ab (ew (fy w) w 3) w1 (xL xa xl.length xc) xl)(ke:xs.size<=maxLen)
 (hW:W'=(((((((((((w1.setCell ⟨w.heap.size,0,none⟩ (xI xk)).setCell ⟨w.heap.size,1,none⟩ (xI xn)).setCell ⟨w.heap.size,2,none⟩ (xS xs)).setCell ⟨w.heap.size,3,none⟩ (xL xa xl.length xc)).drewN n).setCell ⟨w.heap.size,0,none⟩ (xI xk)).setCell ⟨w.heap.size,1,none⟩ (xI xn)).setCell ⟨w.heap.size,2,none⟩ (xS xs)).setCell ⟨w.heap.size,3,none⟩ (xL xa xl.length xc)).setCell ⟨w.heap.size+1,0,none⟩ (xI 0)).setCell ⟨w.heap.size+1+1,0,none⟩ (xB true))):
 W'.heap[w.heap.size]? =some (FR xk xn xs (xL xa xl.length xc))/\W'.heap[w.heap.size+1]? =some (de 3 (xI 0))/\W'.heap[w.heap.size+1+1]? =some (de 4 (xB true))/\ct (fy w) W' (.agg #[xI xk,xI xn,xS xs,xL xa xl.length xc]) (aw.mk xk xn xs xl)/\ai (aO b) w W':=by
 have s4:∀W:aj,ai (λi=>i=w.heap.size) W ((((W.setCell ⟨w.heap.size,0,none⟩ (xI xk)).setCell ⟨w.heap.size,1,none⟩ (xI xn)).setCell ⟨w.heap.size,2,none⟩ (xS xs)).setCell ⟨w.heap.size,3,none⟩ (xL xa xl.length xc)):=λW=>
  ((((ai.refl (λi=>i=w.heap.size) W).setCell (p:=⟨w.heap.size,0,none⟩) (.inl rfl) _).setCell (p:=⟨w.heap.size,1,none⟩) (.inl rfl) _).setCell (p:=⟨w.heap.size,2,none⟩) (.inl rfl) _).setCell (p:=⟨w.heap.size,3,none⟩) (.inl rfl) _;obtain⟨A,hA⟩:=bS ((((w1.setCell ⟨w.heap.size,0,none⟩ (xI xk)).setCell ⟨w.heap.size,1,none⟩ (xI xn)).setCell ⟨w.heap.size,2,none⟩ (xS xs)).setCell ⟨w.heap.size,3,none⟩ (xL xa xl.length xc));have oA:ai (λi=>i=w.heap.size) w1 A:=by rw[hA];exact s4 w1
 have gA:=iE (o:=0) hR0 (xI xk) (xI xn) (xS xs) (xL xa xl.length xc);simp only[Nat.zero_add]at gA;rw[<-hA]at gA hW;have oB:ai (λi=>i=w.heap.size) w1 (A.drewN n):=oA.drewN n;have gB:(A.drewN n).heap[w.heap.size]? =_:=gA;generalize A.drewN n=B at*;obtain⟨C,hC⟩:=bS ((((B.setCell ⟨w.heap.size,0,none⟩ (xI xk)).setCell ⟨w.heap.size,1,none⟩ (xI xn)).setCell ⟨w.heap.size,2,none⟩ (xS xs)).setCell ⟨w.heap.size,3,none⟩ (xL xa xl.length xc));have oC:ai (λi=>i=w.heap.size) w1 C:=by rw[hC];exact oB.trans (s4 B)
 have gC:=iE (o:=0) gB (xI xk) (xI xn) (xS xs) (xL xa xl.length xc);simp only[Nat.zero_add]at gC;rw[<-hC]at gC hW;have gC1:=oC.at_ hR1 (by omega);have gC2:=oC.at_ hR2 (by omega);obtain⟨D,hD⟩:=bS (C.setCell ⟨w.heap.size+1,0,none⟩ (xI 0));have oD:ai (λi=>i=w.heap.size+1) C D:=by rw[hD];exact(ai.refl (λi=>i=w.heap.size+1) C).setCell (p:=⟨w.heap.size+1,0,none⟩) (.inl rfl) _
 have gD1:=Qca C (w.heap.size+1) 0 _ _ (xI 0) gC1;rw[<-hD]at gD1 hW;have oE:ai (λi=>i=w.heap.size+1+1) D W':=by rw[hW];exact(ai.refl (λi=>i=w.heap.size+1+1) D).setCell (p:=⟨w.heap.size+1+1,0,none⟩) (.inl rfl) _
 have gE2:=Qca D (w.heap.size+1+1) 0 _ _ (xB true) (oD.at_ gC2 (by omega));rw[<-hW]at gE2;have qbb:ai (λi=>w.heap.size<=i/\i<w.heap.size+1+1+1) w1 W':=((oC.mono λi hi=>by have:i=w.heap.size:=hi;omega).trans (oD.mono λi hi=>by have:i=w.heap.size+1:=hi;omega)).trans (oE.mono λi hi=>by have:i=w.heap.size+1+1:=hi;omega);refine⟨?_,?_,?_,⟨_,rfl,cH.iff.2 ⟨_,rfl,bI.ev ⟨qbb.mono λi hi=> .inr ⟨hi.1,by omega⟩,λi hi=> .inl (.inl hi)⟩,ke⟩⟩,?_⟩
 .exact oE.at_ (oD.at_ (by simpa [FR]using gC) (by omega)) (by omega)
 .exact oE.at_ (by simpa [de]using gD1) (by omega)
 .simpa [de]using gE2
 .exact ho.cO (qbb) λi hi bu=>by omega
def Pn(b bm:Nat)(lv:Value)(sz:Int)(T:List Tok)(nX:qL T)(x:aw)(hp:jb 60 1 T=some (x,[]))(w:World)(fJ:eU b bm lv sz T w 0):
 xC 272 #[xP b] w λe w'=>∃v,e=xR (.tuple #[v,xI 0,xB true])/\ct (fy w) w' v x/\ai (aO b) w w':=by
 have CA:∀(fn:Fn)(first cap:Array Value)(w:World),(Instr.makeFunc fn first cap).run prog w= .ok (.func fn first cap) w:=λ_ _ _ _=>rfl;have HE:=gG (w:=w) (λW hb=>(VA b bm lv sz T nX 60).1 1 0 x [] W (by omega) (by omega) (fJ.below hb) (by simpa using hp));have cR:=fJ.lt;have gM:=af fJ;go_enter_defers func272,ntmps272;go_wp2_with fail;refine(HE.o _ (Bx.gO w _ _ _).1).mono ?_;rintro e w1⟨_,j,rfl,⟨cs,rfl,bV⟩,j5,hj,jx⟩;obtain⟨xk,xn,xs,xl⟩:=x;obtain⟨av,rfl,bI,ke⟩:=cH.iff.1 bV;obtain⟨xa,xc,rfl,_⟩:=bI.open_;have tF:=af j5;have kY:Hd (ai (aO b) w w1):=((((ai.refl _ w).alloc _).alloc _).alloc _).trans jx;have gp:Hd (ab (ew (fy w) w 3) w1 (xL xa xl.length xc) xl):=bI.ev (Ev.dD w1 λi hi=>by
  show i<_;have:i<w.heap.size\/(w.heap.size<=i/\i<w.heap.size+3):=hi;simp;omega);have HJ:=af (show j=T.length by
  have h1:T.drop j=[]:=hj.symm;have h2:=j5.le;have h3:=congrArg List.length h1;simp at h3;omega);have Xd:Hd (w1.heap[w.heap.size]? =some (FR 0 0 ⟨#[]⟩ (xL none 0 0))):=jx.at_ ((Bx.gO w _ (de _ (xI 0)) (de _ (xB false))).bG rfl) (by unfold aO;omega);have mY:Hd (w1.heap[w.heap.size+1]? =some (de 3 (xI 0))):=jx.at_ ((Bx.gO w _ _ _).bU rfl) (by unfold aO;omega);have vL:Hd (w1.heap[w.heap.size+1+1]? =some (de 4 (xB false))):=jx.at_ ((Bx.gO w _ _ _).fR rfl) (by unfold aO;omega);obtain⟨r0,r1,r2,r3⟩:=ae Xd.o;obtain⟨f0,f1,f2,f3⟩:=iK Xd.o;have s0:=ag mY.o 0;have s1:=ag vL.o 0;have m0:w1.cell? ⟨w.heap.size+1,0,none⟩=some (xI 0):=by simp[World.cell?,mY.o,de]
 have m1:w1.cell? ⟨w.heap.size+1+1,0,none⟩=some (xB false):=by simp[World.cell?,vL.o,de]
 obtain⟨q0,q1,q2,q3⟩:=ae tF.o.box;have yJ:b≠w.heap.size:=by omega
 have ja:∃a c,lv=xL a T.length c:=by obtain⟨a,c,h,_⟩:=tF.o.cells;exact⟨a,c,h⟩
 obtain⟨lva,lvc,rfl⟩:=ja;have bu:¬(j:Int)<(T.length:Int):=by have:=HJ.o;omega
 go_wp2_with fail;go_quiet(fail);go_wp2_with fail;obtain⟨W',gU⟩:=bS ((((((((((((w1.setCell ⟨w.heap.size,0,none⟩ (xI xk)).setCell ⟨w.heap.size,1,none⟩ (xI xn)).setCell ⟨w.heap.size,2,none⟩ (xS xs)).setCell ⟨w.heap.size,3,none⟩ (xL xa xl.length xc)).drewN nq).setCell ⟨w.heap.size,0,none⟩ (xI xk)).setCell ⟨w.heap.size,1,none⟩ (xI xn)).setCell ⟨w.heap.size,2,none⟩ (xS xs)).setCell ⟨w.heap.size,3,none⟩ (xL xa xl.length xc)).setCell ⟨w.heap.size+1,0,none⟩ (xI 0)).setCell ⟨w.heap.size+1+1,0,none⟩ (xB true)));rw[<-gU];obtain⟨g0,g1,g2,g3,g4⟩:=L3 cR kY.o Xd.o mY.o vL.o gp.o ke gU;obtain⟨a0,a1,a2,a3⟩:=ae g0;have a4:W'.cell? ⟨w.heap.size+1,0,none⟩=some (xI 0):=by simp[World.cell?,g1,de]
 have a5:W'.cell? ⟨w.heap.size+1+1,0,none⟩=some (xB true):=by simp[World.cell?,g2,de]
 refine leaves_cons (f:=312) (args:= #[xP w.heap.size,xP (w.heap.size+1),xP (w.heap.size+1+1)]) (by simp) (by simp[go_sem]) ?_;refine(Hv ⟨w.heap.size,0,none⟩ ⟨w.heap.size+1,0,none⟩ ⟨w.heap.size+1+1,0,none⟩ _).mono ?_;rintro e u' w''⟨rfl,rfl,rfl⟩;refine⟨.tuple #[.agg #[xI xk,xI xn,xS xs,xL xa xl.length xc],xI 0,xB true],by simp[results,results272,go_sem,a0,a1,a2,a3,a4,a5],⟨_,rfl,g3,g4⟩⟩
def D9(w:aj)(o:Obj):(w.alloc o).heap.size=w.heap.size+1:=by simp
def Ea:(Tryz.prog.info? 359).map (λi=>(i.zero,i.size,i.bytes))=some (some (.agg #[xI 0,xI 0,xS ⟨#[]⟩,xI 0]),4,40):=by kernel_rfl
def L4(s:aM)(w:aj):xC 271 #[xS s] w λe w'=>e=xR (.func (.func 310) #[] #[xP w.heap.size])/\w.alloc (xK #[xS s] 9)=w':=by
 have CA:∀(fn:Fn)(first cap:Array an)(w:aj),(Instr.makeFunc fn first cap).run prog w= .ok (.func fn first cap) w:=λ_ _ _ _=>rfl;go_enter func271,ntmps271;go_wp2;go_ret;exact⟨rfl,rfl⟩
def L5(b bm:Nat)(sz:Nat)(T:List Tok)(w:aj)(i:Nat)(W:aj):Prop:=
 ∃lv,W.heap[b]? =some (xK #[lv,xI 0,xI sz, .map (some bm)] 354)/\aK xF (w.heap.size+2) 359 W lv ((T.take i).map fG)/\ai (λj=>j=b) w W/\eP W bm
theorem L5.only {sz:Nat}{T:List Tok}{B:aj}(h:L5 b bm sz T w i A)(ho:ai (Sp w 0) A B)(hb:b<w.heap.size)(hm:bm<w.heap.size):L5 b bm sz T w i B:=by
 obtain⟨lv,h1,h2,h3,h4⟩:=h;refine⟨lv,ho.at_ h1 (λh=>by have:=h.1;omega),?_,?_,h4.only ho (λh=>by have:=h.1;omega)⟩
 .obtain⟨css,k1,k2,k3⟩:=h2;refine⟨css,⟨k1.1,?_⟩,k2,k3⟩;rcases k1.2 with h0|⟨g,cap,cur,e1,e2,e3,e4⟩
  .exact .inl h0
  .exact .inr ⟨g,cap,cur,e1,e2,ho.at_ e3 (λh=>by have:=h.2;omega),e4⟩
 .exact h3.cO ho λi hi bu=>by have:=hi.1;omega
theorem aK.swap {α:Type} [au α]{xs:List α}(h:aK M base e w v xs)(hS:∀{M M':aN}{cs:List an}{x:α},au.rep M w cs x->au.rep M' w cs x):aK M' base e w v xs:=by
 obtain⟨css,k1,k2,k3⟩:=h;exact⟨css,k1,k2,λi cs x hc hx=>hS (k3 i cs x hc hx)⟩
def L6 {sz rz:Nat}{T:List Tok}{W3:aj}{a2:fA}{t:Tok}(jx:ai (λj=>j=b) w2 W2)(Nr:eP W2 bm)(hb:b<w2.heap.size)(hne:bm≠b)(TJ:bm<w2.heap.size)(h3:Below (w2.heap.size+2) (W2.alloc o) W3)(hz:w2.heap.size+2<=W2.heap.size)
 (yW:bR W3 b (xK #[lv,xI 0,xI sz, .map (some bm)] 354)){n:Nat}(hacc:aK xF (w2.heap.size+2) 359 W3 (xL a2 n rz) ((T.take i).map fG++[fG t]))(hT:(T.take (i+1)).map fG=(T.take i).map fG++[fG t]):
 ai (NG (λj=>j=b) w2 0) W2 (W3.setCell ⟨b,0,none⟩ (xL a2 n rz))/\L5 b bm sz T w2 (i+1) (W3.setCell ⟨b,0,none⟩ (xL a2 n rz)):=by
 have o3:ai (λj=>w2.heap.size+2<=j) W2 W3:=by
  have h1:ai (λj=>w2.heap.size+2<=j) W2 (W2.alloc o):=(ai.refl _ W2).alloc o;refine h1.trans ⟨h3.os,h3.tape,h3.output,h3.size,λj hj hS=>h3.block j (by omega)⟩
 have o4:ai (λj=>j=b) W3 (W3.setCell ⟨b,0,none⟩ (xL a2 n rz)):=(ai.refl (λj=>j=b) W3).setCell (p:=⟨b,0,none⟩) (.inl rfl) _;have o5:ai (NG (λj=>j=b) w2 0) W2 (W3.setCell ⟨b,0,none⟩ (xL a2 n rz)):=(o3.mono λj hj=> .inr hj).trans (o4.mono λj hj=> .inl hj);refine⟨o5,_,by simpa using Qca W3 b 0 _ _ (xL a2 n rz) yW,?_,?_,Nr.only o5 (λh=>by rcases h with h|h;exact hne h;omega)⟩
 .rw[hT];exact hacc.K3 o4 (λj hj=>by have:j=b:=hj;omega) (λh=>h)
 .exact jx.cO o5 λj hj bu=>by rcases hj with hj|hj;exact hj;omega
def jT {S:aN}(h:Below B w w2)(hB:B<=w2.heap.size)(k:ai S w2 W)(hS:∀i,S i->B<=i):Below B w W:=
 ⟨k.os.trans h.os,k.tape.trans h.tape,k.output.trans h.output,Qcg h.size k.size,λi hi=>(k.block i (by omega) (λhs=>by have:=hS i hs;omega)).trans (h.block i hi)⟩
def L7 {w4:aj}{xk xn:Int}{xs:aM}{sl:an}(h0:di w4 w (FR 0 0 ⟨#[]⟩ (xL none 0 0)))(h1:bR w4 (w.heap.size+1) (de 3 (xI 0)))(h2:bR w4 (w.heap.size+1+1) (de 37 (xI 0)))
 (hW:W'=(((((w4.setCell ⟨w.heap.size,0,none⟩ (xI xk)).setCell ⟨w.heap.size,1,none⟩ (xI xn)).setCell ⟨w.heap.size,2,none⟩ (xS xs)).setCell ⟨w.heap.size,3,none⟩ sl).setCell ⟨w.heap.size+1,0,none⟩ (xI 0)).setCell ⟨w.heap.size+1+1,0,none⟩ (xI 0)):
 W'.heap[w.heap.size]? =some (FR xk xn xs sl)/\W'.heap[w.heap.size+1]? =some (de 3 (xI 0))/\W'.heap[w.heap.size+1+1]? =some (de 37 (xI 0))/\ai (λj=>w.heap.size<=j/\j<w.heap.size+3) w4 W':=by
 obtain⟨C,hC⟩:=bS ((((w4.setCell ⟨w.heap.size,0,none⟩ (xI xk)).setCell ⟨w.heap.size,1,none⟩ (xI xn)).setCell ⟨w.heap.size,2,none⟩ (xS xs)).setCell ⟨w.heap.size,3,none⟩ sl);have oC:ai (λi=>i=w.heap.size) w4 C:=by rw[hC];exact((((ai.refl (λi=>i=w.heap.size) w4).setCell (p:=⟨w.heap.size,0,none⟩) (.inl rfl) _).setCell (p:=⟨w.heap.size,1,none⟩) (.inl rfl) _).setCell (p:=⟨w.heap.size,2,none⟩) (.inl rfl) _).setCell (p:=⟨w.heap.size,3,none⟩) (.inl rfl) _
 have gC:=iE (o:=0) h0 (xI xk) (xI xn) (xS xs) sl;simp only[Nat.zero_add]at gC;rw[<-hC]at gC hW;have gC1:=oC.at_ h1 (by omega);have gC2:=oC.at_ h2 (by omega);obtain⟨D,hD⟩:=bS (C.setCell ⟨w.heap.size+1,0,none⟩ (xI 0));have oD:ai (λi=>i=w.heap.size+1) C D:=by rw[hD];exact(ai.refl (λi=>i=w.heap.size+1) C).setCell (p:=⟨w.heap.size+1,0,none⟩) (.inl rfl) _
 have gD1:=Qca C (w.heap.size+1) 0 _ _ (xI 0) gC1;rw[<-hD]at gD1 hW;have oE:ai (λi=>i=w.heap.size+1+1) D W':=by rw[hW];exact(ai.refl (λi=>i=w.heap.size+1+1) D).setCell (p:=⟨w.heap.size+1+1,0,none⟩) (.inl rfl) _
 have gE2:=Qca D (w.heap.size+1+1) 0 _ _ (xI 0) (oD.at_ gC2 (by omega));rw[<-hW]at gE2;refine⟨oE.at_ (oD.at_ (by simpa [FR]using gC) (by omega)) (by omega),oE.at_ (by simpa [de]using gD1) (by omega),by simpa [de]using gE2,?_⟩;exact((oC.mono λi hi=>by have:i=w.heap.size:=hi;omega).trans (oD.mono λi hi=>by have:i=w.heap.size+1:=hi;omega)).trans (oE.mono λi hi=>by have:i=w.heap.size+1+1:=hi;omega)
def Po(w:aj)(x:aw)(v:an)(w':aj):Prop:=∃u,v= .tuple #[u,xI 0,xI 0]/\ct (fy w) w' u x
def L8(s:ByteArray)(x:aw)(T:List Tok)(hs:s.size<=200)(hT:lD s 0 T)(nX:qL T)(hk:∀t∈T,1<=t.kind/\t.kind<=4)(hl:T.length<=200)(hp:jb 60 1 T=some (x,[]))(UC:iw x=true)(hxd:kM x<=8)(mX:ek x<=40)(w:World)(hTb:Tb w):
 xG 237 #[xS s] w (Po w x):=by
 have Ws:=af hT;have YE:=af hTb;have HK:=af hk;clear hT hTb hk;refine callsIn_wide.1 (callsIn_of_wp_marks (n:=0) func237 rfl trivial (wpIn_wide.2 ?_) rfl);simp only[ntmps237,List.size_toArray,Qcc,Qcd,Nat.reduceAdd,Nat.reduceSub,Array.replicate_succ,Array.replicate_zero,List.push_toArray,List.append_toArray,List.nil_append,List.cons_append];go_wp2_with fail;refine(uX _).mono ?_;rintro e w1⟨bm,rfl,Nr,TJ,aF⟩;have aY:=af ((Bx.gO w (FR 0 0 ⟨#[]⟩ (xL none 0 0)) (de 3 (xI 0)) (de 37 (xI 0))).below aF);have Wq:=af Nr;have nJ:Hd (bm<w1.heap.size):=(Qaa.1 Nr).1;clear aF Nr;go_wp2_with fail;refine(L4 s _).mono ?_;rintro e w2⟨rfl,rfl⟩;go_wp2_with fail;obtain⟨w2,nK⟩:=bS ((w1.alloc (xK #[xL none 0 0,xI 0,xI s.size, .map (some bm)] 354)).alloc (xK #[xS s] 9));have aQ:=af (show Bx w [FR 0 0 ⟨#[]⟩ (xL none 0 0),de 3 (xI 0),de 37 (xI 0)] w2 by rw[nK];exact(aY.o.alloc _).alloc _);have qbc:=af (show eP w2 bm by rw[nK];exact Wq.o.below (bM.alloc (by simp) _));have HPB:=af (show w2.heap[w1.heap.size]? =some (xK #[xL none 0 0,xI 0,xI s.size, .map (some bm)] 354)by rw[nK];exact(Bx.dq w1 _ _).bG rfl);have tF:=af (show w2.heap[w1.heap.size+1]? =some (xK #[xS s] 9)by rw[nK];exact(Bx.dq w1 _ _).bU rfl);have er:w2.heap.size=w1.heap.size+1+1:=by rw[nK];simp
 have dO:=aY.o.bF;rw[<-nK];have CY:Hd (bm<w2.heap.size):=(Qaa.1 qbc.o).1;clear nK Wq;simp only[Qcc,Qcd]at dO;have yQ:=af (show G9 prog 310 #[xP (w1.heap.size+1)] w2 (λi=>i=w1.heap.size) 0 0 (Hn T) (λi=>i=T.length)from
  Ho s hs T Ws.o (w1.heap.size+1) w w2 aQ.o.1 YE.o (by have:=tF.o;simp[World.cell?,this]) (by omega) _ (by omega) (λi hi=>by rw[hi];omega));refine wpIn_wide.1 (pV rfl (enters_of func310 (by kernel_rfl) rfl) (λi=>i=w1.heap.size) 0 0 (Hn T) (λi=>i=T.length) yQ.o (λi args i' W h=>by obtain⟨t,_,rfl,_⟩:=h;rfl) (λi hi=>by rw[hi];omega)
  (L5 w1.heap.size bm s.size T w2) (λ_ _=>False) (λi A B h ho=>h.only ho (by omega) CY.o) (λc A B h _=>h) ?h0 ?hround ?hdone ?hstop);case h0=>
  exact⟨_,HPB.o,aK.nil _ _ _ _,ai.refl _ _,qbc.o⟩
 case hround=>
  intro l i args i' W hI Nf hsz;obtain⟨t,ht,rfl,rfl,Kv⟩:=Nf;obtain⟨lv,yW,hacc,jx,Nr⟩:=hI;simp only[km];gi_wp2_with(rw[Oper.semAt_eq _ _ _ (λc h=>by cases h)];go_simp;try go_bits);have hP:L5 w1.heap.size bm s.size T w2 i W:=⟨_,yW,hacc,jx,Nr⟩;refine⟨(ai.refl _ W).alloc _,λW2 nZ KG=> ?_⟩;have hP2:=(hP.only ((ai.refl (Sp w2 0) W).alloc _) (by omega) CY.o).only (nZ.mono λi hi=>(show Sp w2 0 i from by have:i=w2.heap.size+1:=hi;exact⟨by omega,by omega⟩)) (by omega) CY.o;have Q0:=nZ.at_ (Qbh W _) (by show¬W.heap.size=w2.heap.size+1;omega);obtain⟨lv,yW,hacc,jx,Nr⟩:=hP2;obtain⟨a,cap,rfl,l8,M9⟩:=hacc.open_;have qd9:=af yW;have mQ:=af hacc;have kY:=af jx;have qea:=af Nr;have HPC:=af Q0;obtain⟨q0,q1,q2,q3⟩:=ae Q0;obtain⟨p0,p1,p2,p3⟩:=ae yW;have oF:((t.kind:Int)==0)=false:=by simp;omega
  obtain⟨i0,ed,qeb,qec,qed⟩:=info_parts Ea;have ze:=(Qad.1 ht).1;have nG:=af (show(T.take (i+1)).map fG=(T.take i).map fG++[fG t]by rw[Qbb,ht];simp);simp only[Qdc,Qdb]at l8 p0;rw[Nat.min_eq_left (by omega)]at l8 p0;have zg:=af (show(bL t.s).size<=200 by have:=(nX t (Qaf ht)).1;simpa [bL,ByteArray.size]using this);have eF:=af (show((T.take i).map fG).length=i by simp;omega);have dh:=af (show aK xF (w2.heap.size+2) 359 W2 (xL a i cap) ((T.take i).map fG)by have h:=mQ.o;rw[eF.o]at h;exact h);have qee:=af (show W2.heap[w1.heap.size]? =some (xK #[xL a i cap,xI 0,xI s.size, .map (some bm)] 354)by have h:=qd9.o;rw[eF.o]at h;exact h);simp only[D9]at KG;clear yW hacc jx Nr Q0 hP ht nZ;gi_wp2_with(first
   |(gi_at_builtin;go_loud(refine qz (α:=wL) rfl _ _ _ rfl xF (w2.heap.size+2) 359 i0 _ 40 underlying349 ed qeb qec qed rfl (by decide) (.slice a i cap) ((T.take i).map fG) rfl (dh.o.alloc _) (λ_=>True) _ _ (fG t) rfl (fF _ _ _ _ 4 rfl KG trivial) ⟨rfl,zg.o⟩ (by rw[eF.o];unfold maxLen;omega) (by rw[eF.o];omega) (by show _<=(W2.alloc _).heap.size;simp;omega) ?_);rw[eF.o];intro a2 c2 W3 j9 yS bP;have pK:=af j9;have bO:=af bP;have Xe:Hd (W3.heap[w1.heap.size]? =some (xK #[xL a i cap,xI 0,xI s.size, .map (some bm)] 354)):=(bP.block _ (by omega)).trans ((Qcb W2 _ _ (by omega)).trans qee.o);have p0':=(ae Xe.o).1;have f0':=ag Xe.o 0;clear j9 yS bP)
   |(rw[Oper.semAt_eq _ _ _ (λc h=>by cases h)];go_simp;try go_bits));exact L6 kY.o qea.o (by omega) (by have:=nJ.o;omega) CY.o bO.o (by omega) Xe.o pK.o nG.o
 case hdone=>
  intro i W hE hI hD;obtain rfl:i=T.length:=hE;obtain⟨lv,yW,hacc,jx,Nr⟩:=hI;rw[List.take_length]at hacc;have Fz:=aQ.o.1.size;have hsW:=jx.size;have HPX:Hd (eU w1.heap.size bm lv s.size T W 0):=⟨yW,(hacc.swap (M':=aO w1.heap.size) (λh=>h)).slice (λj hj=>by have:j=w1.heap.size:=hj;omega),Nr,by have:=nJ.o;omega,hl,Qbf _,HK.o⟩;have HWH:=af (Pn w1.heap.size bm lv s.size T nX x hp W HPX.o);have kY:=af jx;have HD:=af hD;clear yW hacc jx Nr hD hp;go_wp2_with fail;refine(HWH.o).mono ?_;rintro e w3⟨_,rfl,gq,zV⟩;have HR:Hd (∀W' v,aq w3 W'->ct (fy W) w3 v x->_):=λW' v hb ha=>AD x UC hxd mX (fy W) W' v (λj hj=>by
   have:j<W.heap.size:=hj;have h1:=zV.size;have h2:=hb.size;omega) (ha.below hb) (YE.o.below ((jT (jT aQ.o.1 Fz kY.o (λj hj=>by omega)) (by omega) zV (λj hj=>by have:j=w1.heap.size:=hj;omega)).trans (hb.mono (by have:=zV.size;omega))));obtain⟨xk,xn,xs,xl⟩:=x;have tG:=af gq;obtain⟨cs,rfl,bV⟩:=gq;obtain⟨av,rfl,bI,ke⟩:=cH.iff.1 bV;obtain⟨xa,xc,rfl,_⟩:=bI.open_;have gp:=af bI;have R0:=zV.at_ (kY.o.at_ (aQ.o.bG rfl) (by omega)) (by unfold aO;omega);have R1:=zV.at_ (kY.o.at_ (aQ.o.bU rfl) (by omega)) (by unfold aO;omega);have R2:=zV.at_ (kY.o.at_ (aQ.o.fR rfl) (by omega)) (by unfold aO;omega);have YI:=af (zV.at_ HD.o (by unfold aO;omega));have bO:Hd (aq w w3):=jT (jT aQ.o.1 Fz kY.o (λj hj=>by omega)) (by omega) zV (λj hj=>by have:j=w1.heap.size:=hj;omega);have Xd:=af R0;have mY:=af R1;have vL:=af R2;have RO:=zV.size;clear bV bI zV UC hxd mX R0 R1 R2;go_wp2_with fail;refine(HR.o _ _ bM tG.o).mono ?_;rintro e w4⟨rfl,eA⟩;have pL:Hd (w4.heap[w3.heap.size]? =some (FR xk xn xs (xL xa xl.length xc))):=boxed eA;have dI:=af (aU eA);obtain⟨q0,q1,q2,q3⟩:=ae pL.o;have lt0:w.heap.size<w3.heap.size:=by omega
  have lt1:w.heap.size+1<w3.heap.size:=by omega
  have lt2:w.heap.size+1+1<w3.heap.size:=by omega
  have Xf:=af ((dI.o.block _ lt0).trans Xd.o);have Xg:=af ((dI.o.block _ lt1).trans mY.o);have Xh:=af ((dI.o.block _ lt2).trans vL.o);have Gf:=af ((dI.o.block _ (Qaa.1 YI.o).1).trans YI.o);obtain⟨r0,r1,r2,r3⟩:=ae Xf.o;obtain⟨f0,f1,f2,f3⟩:=iK Xf.o;have s0:=ag Xg.o 0;have s1:=ag Xh.o 0;have m0:w4.cell? ⟨w.heap.size+1,0,none⟩=some (xI 0):=by simp[World.cell?,Xg.o,de]
  have m1:w4.cell? ⟨w.heap.size+1+1,0,none⟩=some (xI 0):=by simp[World.cell?,Xh.o,de]
  clear eA HR;go_wp2_with fail;obtain⟨W',gU⟩:=bS ((((((w4.setCell ⟨w.heap.size,0,none⟩ (xI xk)).setCell ⟨w.heap.size,1,none⟩ (xI xn)).setCell ⟨w.heap.size,2,none⟩ (xS xs)).setCell ⟨w.heap.size,3,none⟩ (xL xa xl.length xc)).setCell ⟨w.heap.size+1,0,none⟩ (xI 0)).setCell ⟨w.heap.size+1+1,0,none⟩ (xI 0));rw[<-gU];obtain⟨g0,g1,g2,g3⟩:=L7 Xf.o Xg.o Xh.o gU;have gd:=g3.at_ Gf.o (by omega);refine⟨by simp, .inl ⟨_,_,rfl,run_takeDeferred gd,?_⟩⟩;obtain⟨W2,gS⟩:=bS (W'.putObj w2.heap.size (.deferred none));rw[<-gS];have o2:ai (λj=>j=w2.heap.size) W' W2:=by rw[gS];exact(ai.refl (λj=>j=w2.heap.size) W').putObj (.inl rfl) _
  have o4:ai (λj=>w.heap.size<=j/\j<=w2.heap.size) w4 W2:=(g3.mono λj hj=>⟨hj.1,by omega⟩).trans (o2.mono λj hj=>by have:j=w2.heap.size:=hj;omega);have k0:=o2.at_ g0 (by omega);have k1:=o2.at_ g1 (by omega);have k2:=o2.at_ g2 (by omega);have h2W:w2.heap.size<W.heap.size:=(Qaa.1 HD.o).1;obtain⟨a0,a1,a2,a3⟩:=ae k0;have a4:W2.cell? ⟨w.heap.size+1,0,none⟩=some (xI 0):=by simp[World.cell?,k1,de]
  have a5:W2.cell? ⟨w.heap.size+1+1,0,none⟩=some (xI 0):=by simp[World.cell?,k2,de]
  refine⟨.tuple #[.agg #[xI xk,xI xn,xS xs,xL xa xl.length xc],xI 0,xI 0],by simp[results,results237,go_sem,a0,a1,a2,a3,a4,a5],(show cg _ _ _ _ from⟨_,rfl,⟨_,rfl,⟨_,rfl,cH.iff.2 ⟨_,rfl,?_,ke⟩⟩⟩,?_⟩)⟩
  .refine ab.ev (gp.o.below dI.o) ⟨o4.mono λj hj=> ?_,λj hj=> .inl ?_⟩
   .show j<W.heap.size;omega
   .have h1:j<w.heap.size:=hj;show j<W.heap.size;omega
  .exact jT (bO.o.trans (dI.o.mono (by omega))) (by have:=dI.o.size;omega) o4 (λj hj=>hj.1)
 case hstop=>intro c W h;exact h.elim
end
end Go.Proofs.YtepaofffbkfodaaGreatDoor
