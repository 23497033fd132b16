/- A part; no condition. -/
import Derived.Test.YtepaofffbkfodaaGreatDoorM12
import Derived.OwnWalkIn
set_option linter.all false
set_option maxHeartbeats 8000000
set_option maxRecDepth 100000
namespace Go.Proofs.YtepaofffbkfodaaGreatDoor
open Tryz
variable{i j R b bm yc base B:Nat}{v u lv a0 a1 a2 a3 v0 v1 v2 v3:aA}{w w0 A w3 W' w1 wr w2 W2 W:ax}{M M':aV}{ay sz:Int}{o:Obj}{t e:TypeId}{a ya:fx}
section
open Go.RowKit Go.Shelf
attribute [local go_sem]Oper.semAt_some
def pW {l:List Int}(h:ab M w v l){x:Int}(hx:l[i]? =some x):∃b off cap,v=xL (b,off) l.length cap/\b<w.heap.size/\∀W,aC w W->bJ W b (off+i) x:=by
 obtain⟨a,cap,rfl,hl,_,hc⟩:=h.aq;have hk:=(Qad.1 hx).1;obtain⟨b,off,rfl,_,hb,hcell⟩:=hc (by omega);obtain⟨cs,rfl,hcs⟩:=hcell i _ hx;refine⟨b,off,cap,rfl,hb,λW hB=> ?_⟩;have:=(hB.cell (p:=⟨b,off+i*1+0,none⟩) hb).trans (hcs 0 _ rfl);simpa using this
def Af(gf:Nat)(lb:Array aA)(eg:∀args w,(callFunc gf args).run prog w= .ok (.enter gf args) w)(l:List Int)(M:aV)(v:aA)(w:ax)(h:ab M w v l)
 (hf:∀x∈l,∀W,aC w W->xC gf (#[xI x]++lb) W (cu (xB false) W)):
 xC 160 #[v, .func (.func gf) #[] lb] w (cu (xI (-1)) w):=by
 have HC:Hd (∀(i:Nat)(x:Int),l[i]? =some x->_):=λi x hx=>pW h hx;have HN:=ag hf;obtain⟨a,cj,rfl,cY,hmx,_⟩:=h.aq;generalize hn:l.length=n at*;have eJ:=ag hn;go_enter func160,ntmps160;go_wp2;go_loopg [5,8]n(λg _ iv wr=>∃k:Nat,k<=n/\g=n-k/\iv=xI k/\Hd (aC w wr));case atStart=>exact⟨0,Qbf _,rfl,rfl,dS⟩
 case round=>
  obtain⟨i,hi,rfl,rfl,HB⟩:=hrel;by_cases bH:i<n
  .obtain⟨x,hx⟩:=eG l i (by rw[eJ.o];exact bH);obtain⟨b,off,cap,hv,hb,hcells⟩:=HC.o i x hx;obtain⟨rfl,rfl⟩:=iY hv;have g0:=hcells wr HB.o;have lM:=ag (HN.o x (Qaf hx) wr HB.o);go_wp2_with fail;refine lM.o.mono ?_;rintro e w1⟨rfl,hb1⟩;have bz:Hd (aC w w1):=HB.o.trans (hb1.mono HB.o.size);go_wp2;go_roundg(n-(i+1));case measure=>omega
   case rel=>exact⟨i+1,by omega,rfl,by go_num,bz⟩
  .go_wp2;go_ret;exact⟨rfl,HB.o⟩
def nF(gf:Nat)(lb:Array aA)(eg:∀args w,(callFunc gf args).run prog w= .ok (.enter gf args) w)(l:List Int)(M:aV)(v:aA)(w:ax)(h:ab M w v l)
 (hf:∀x∈l,∀W,aC w W->xC gf (#[xI x]++lb) W (cu false W)):
 xC 128 #[v, .func (.func gf) #[] lb] w (cu false w):=by
 have HI:=ag (Af gf lb eg l M v w h hf);go_enter func128,ntmps128;go_wp2_with fail;refine HI.o.mono ?_;rintro e w1⟨rfl,hb1⟩;have HB:=ag hb1;go_wp2;go_ret;exact⟨rfl,HB.o⟩
def Ag(x:Int)(hx:0<=x)(w:ax):xC 256 #[x] w (cu false w):=by
 have h0:decide (x<0)=false:=by simp;omega
 go_enter func256,ntmps256;go_wp2;go_ret;exact⟨by first|rfl|simp[h0],dS⟩
def Ob {t:br}{v:aJ}(h:dI t ay v)(hm:ay<=100000)(hM:Bd M w)(hu:cB M w u v)(hT:Tb w):
 xC 202 #[u] w (cu false w):=by
 have HR:=gQ (w:=w) (λW hb=>Df h hm (hM.ae hb) (hu.ae hb) (hT.ae hb));have HW:=gQ (w:=w) (λW hb=>Ac h hm (hM.ae hb) (hu.ae hb) (hT.ae hb));have eg:∀args w,(callFunc 256 args).run prog w= .ok (.enter 256 args) w:=enters_of func256 (by kernel_rfl) rfl;have n3:=qQ h (j:=3) (.inl rfl);have n4:=qQ h (j:=4) (.inr rfl);have HC3:Hd (∀W r,ab M W r (cr 3 v)->_):=λW r hs=>nF 256 #[] eg _ M r W hs λx hx W' _=>Ag x (by have:=(n3 x hx).1;omega) W';have J4:Hd (∀W r,ab M W r (cr 4 v)->_):=λW r hs=>nF 256 #[] eg _ M r W hs λx hx W' _=>Ag x (by have:=(n4 x hx).1;omega) W';obtain⟨k,n,s,l⟩:=v;obtain⟨a,cap,rfl,_⟩:=dh hu;go_enter func202,ntmps202;go_wp2_with fail;refine(HR.o _ bU).mono ?_;rintro e w1⟨r1,rfl,hs1,hb1⟩;obtain⟨x1,y1,rfl,_⟩:=hs1.aq;have fp:=ag (boxed hb1);have bz:=ag (bt hb1);have qL:=ag hs1;go_wp2_with fail;refine cC (HC3.o _ _ qL.o) λw2 bE=> ?_;have eZ:Hd (w2.heap[w.heap.size]? =_):=(bE.block _ (Qaa.1 fp.o).1).trans fp.o;have bg:Hd (aC w w2):=bz.o.trans (bE.mono bz.o.size);have⟨c0,c1,c2,c3⟩:=af eZ.o;go_wp2_with fail;refine(HW.o _ bg.o).mono ?_;rintro e w3⟨r2,rfl,qK,hb3⟩;obtain⟨x2,y2,rfl,_⟩:=qK.aq;have bV:Hd (aC w w3):=bg.o.trans (hb3.mono bg.o.size);have jL:=ag qK;go_wp2_with fail;refine cC (J4.o _ _ jL.o) λw4 eA=> ?_;have ek:Hd (aC w w4):=bV.o.trans (eA.mono bV.o.size);go_wp2;go_ret;exact⟨by first|rfl|simp,ek.o⟩
end
section
open Go.RowKit Go.Shelf
attribute [local go_sem]Oper.semAt_some
def Ju(a:fx)(n c:Nat)(w:ax):xC 132 #[xL a n c] w λe w'=>e=xR (.func (.func 198) #[] #[xP w.heap.size])/\w.alloc (xK #[xL a n c] 42)=w':=by
 have Cs:∀(fn:Fn)(au cap:Array aA)(w:ax),(Instr.makeFunc fn au cap).run prog w= .ok (.func fn au cap) w:=λ_ _ _ _=>rfl;go_enter func132,ntmps132;go_wp2;go_ret;exact⟨rfl,rfl⟩
def BI(M:aV)(w0:ax):Nat->Prop:=λi=>M i\/w0<=i
def RB(hb:aC w0 A):Ev M w0 (BI M w0) A:=⟨ao.az hb,λ_ hi=>hi⟩
def xq(vs:List aJ)(N:aV)(i:Nat)(args:Array aA)(j:Nat)(A:ax):Prop:=j=i+1/\∃v u,vs[i]? =some v/\args= #[u]/\cB N A u v
def Dn(vs:List aJ)(M C:aV)(p:Nat)(w0 w:ax)(hw:aC w0 w)(vv:aA)(hvs:ab M w0 vv vs)(hp:bW w p (xK #[vv] 42))(hC:∀i,C i->w0.heap.size<=i):
 GA prog 198 #[xP p] w C 0 0 (xq vs (BI M w0)) (λi=>i=vs.length):=by
 intro J Jx W hz hb hJ TT hY h0;have HJ:=ag hJ;have HJX:=ag TT;have HY:=ag hY;have Cv:=hw.size;have iy:p<w:=(Qaa.1 hp).1;have hp0:bJ W p 0 vv:=one_cell ((hb.block p iy).trans hp);have iW:Hd (aC w0 W/\w.heap.size+2<=W):=⟨hw.trans (hb.mono Cv),by omega⟩;have HC:Hd (∀(i:Nat)(k n:Int)(s:aY)(ll:List aJ),vs[i]? =some (.mk k n s ll)->_):=λi k n s ll hx=>dy hvs hx;have SL:=ag h0;obtain⟨a,cj,rfl,cY,hmx,_⟩:=hvs.aq;generalize hn:vs.length=n at*;have eJ:=ag hn;refine callsIn_of_wp func198 rfl trivial ?_ rfl;simp only[ntmps198,List.size_toArray,Qcc,Qcd,Nat.reduceAdd,Nat.reduceSub,Array.replicate_succ,Array.replicate_zero,List.push_toArray,List.append_toArray,List.nil_append,List.cons_append];gi_wp2_with fail;gi_loopw [4,7](λ_ k wr=>∃i:Nat,k=xI i/\i<=n/\Hd (J i wr)/\Hd (aC w0 wr/\w.heap.size+2<=wr))(λ_ k _=>n-(intOf k).toNat);case atStart=>exact⟨0,rfl,Qbf _,SL,iW⟩
 case round=>
  obtain⟨i,rfl,hi,Nh,HB⟩:=hrel;by_cases bH:i<n
  .have⟨⟨xk,xn,xs,xl⟩,hx⟩:=eG vs i (by rw[eJ.o];exact bH);have⟨b,off,cap,a',c',hv,hbl,hsl,hss,hcells⟩:=HC.o i xk xn xs xl hx;obtain⟨rfl,rfl⟩:=iY hv;have⟨⟨g0,g1,g2,g3⟩,_⟩:=hcells wr HB.o.1;have HX:=ag hx;have gO:=ag hsl;have q8:=ag hss;have HO:∀o,Hd (aC wr (wr.alloc o)):=λo=>(dS.alloc bT o);have hyy:=HY.o i #[.agg #[xk,xn,xs,xL a' xl.length c']] (i+1) (wr.alloc (ej xk xn xs (xL a' xl.length c'))) (HJ.o i wr _ Nh.o (ao.az (HO _).o)) ⟨rfl,_,_,HX.o,rfl,_,rfl,kI (gO.o.ev (RB (HB.o.1.trans ((HO _).o.mono HB.o.1.size)))) q8.o⟩;unfold ej at hyy;obtain⟨fn,tmps,assign,body,hy,hR⟩:=hyy;have HR:=ag hR;gi_wp2_with fail;refine⟨rfl,HR.o.mono ?_⟩;rintro e W3(⟨rfl,Qs,vq⟩|⟨rfl,Cw⟩)
   .have TU:=ag Qs;have bV:Hd (aC w0 W3/\w.heap.size+2<=W3):=⟨xp (HB.o.1.trans ((HO _).o.mono HB.o.1.size)) vq hC Cv,by have:=vq.size;have:=HB.o.2;simp at*;omega⟩;gi_wp2_with fail;go_roundw;case rel=>exact⟨i+1,by go_num,by omega,TU,bV⟩
    case measure=>simp[intOf];omega
   .have IX:=ag Cw;gi_wp2_with fail;refine Qae (results_none rfl _ _ _) rfl ?_;exact⟨⟨_,rfl⟩, .inr IX.o⟩
  .obtain rfl:i=n:=by omega
   gi_wp2_with fail;refine bodyPost_end (results_none rfl _ _ _) rfl ?_;exact⟨⟨_,rfl⟩, .inl ⟨i,rfl,Nh.o⟩⟩
end
section
open Go.RowKit
def fQ(t:Tok):wD:=⟨t.an,t.n,bL t.s,t.at_⟩
structure fm(b bm:Nat)(lv:aA)(sz:Int)(T:List Tok)(w:ax)(i:Nat):Prop where
 box:w.heap[b]? =some (xK #[lv,i,sz, .map (some bm)] 354)
 toks:ab (bh b) w lv (T.map fQ)
 binds:eY w bm
 ne:bm≠b
 few:T.length<=200
 le:i<=T.length
 kinds:∀t∈T,1<=t.an/\t.an<=4
section
variable {b bm:Nat}{lv:aA}{sz:Int}{T:List Tok}{w w':ax}{i j:Nat}
theorem fm.lt(h:fm b bm lv sz T w i):b<w:=(Qaa.1 h.box).1
theorem fm.step(h:fm b bm lv sz T w i)(ho:ao (bh b) w w')(hb:w'.heap[b]? =some (xK #[lv,j,sz, .map (some bm)] 354))(hj:j<=T.length):fm b bm lv sz T w' j:=
 ⟨hb,h.toks.ev ⟨ho,λ_ h=> .inl h⟩,h.binds.only ho h.ne,h.ne,h.few,hj,h.kinds⟩
theorem fm.ae(h:fm b bm lv sz T w i)(hb:aC w w'):fm b bm lv sz T w' i:=
 h.step (ao.az hb) ((hb.block b h.lt).trans h.box) h.le
theorem fm.next(h:fm b bm lv sz T w i)(hi:i<T.length):fm b bm lv sz T (w.setCell (b,1) (xI ((i:Int)+1))) (i+1)/\ao (bh b) w (w.setCell (b,1) (xI ((i:Int)+1))):=by
 have ho:ao (bh b) w (w.setCell (b,1) (xI ((i:Int)+1))):=(ao.refl (bh b) w).setCell (p:=⟨b,1,none⟩) (.inl rfl) _;refine⟨h.step ho ?_ (by omega),ho⟩;have:=Qca w b 1 _ _ (xI ((i:Int)+1)) h.box;simpa using this
theorem fm.cells(h:fm b bm lv sz T w i):∃a cap,lv=xL a T.length cap/\T.length<=cap/\cap<=9223372036854775807/\(∀t,T[i]? =some t->∃bl off,a=some ⟨bl,off,none⟩/\bl≠b/\bl<w.heap.size/\bJ w bl (off+i*4) (xI t.an)/\bJ w bl (off+i*4+1) (xI t.n)/\bJ w bl (off+i*4+2) (xS (bL t.s))/\bJ w bl (off+i*4+3) (xI t.at_)):=by
 have⟨a,cap,hv,h1,h2,hc⟩:=h.toks.aq;rw[Qdc]at hv hc h1;refine⟨a,cap,hv,h1,h2,λt ht=> ?_⟩;have hl:=(Qad.1 ht).1;have⟨bl,off,ha,hM,hbl,hcell⟩:=hc (by omega);obtain⟨cs,⟨rfl,_⟩,hcs⟩:=hcell i (fQ t) (by rw[List.getElem?_map,ht];rfl);exact⟨bl,off,ha,hM,hbl,hcs 0 _ rfl,hcs 1 _ rfl,hcs 2 _ rfl,hcs 3 _ rfl⟩
end
def Jz(b bm:Nat)(lv:aA)(sz:Int)(T:List Tok)(w:ax)(i:Nat)(h:fm b bm lv sz T w i)(t:Tok)(ht:T[i]? =some t):
 xC 314 #[xP b] w (cu (kB t.an t.n (bL t.s) t.at_) w):=by
 obtain⟨a,cap,rfl,Qo,Qp,hc⟩:=h.cells;have⟨p0,p1,p2,p3⟩:=af h.box;obtain⟨bl,off,rfl,sX,hbl,q0,q1,q2,q3⟩:=hc t ht;have Qw:=h.lt;have hi:=(Qad.1 ht).1;have Ff:=h.few;have QU:(i:Int)<(T.length:Int):=by omega
 have hi0:(0:Int)<=(i:Int):=Qba _;have hd1:decide (i<T.length)=true:=by simpa using hi
 have hd2:decide ((i:Int)<(T.length:Int))=true:=by simpa using QU
 have qdh:b≠w:=by omega
 have hbl2:bl≠w:=by omega
 go_enter func314,ntmps314;go_wp2_with fail;go_quiet(fail);go_wp2_with fail;go_region;all_goals
  go_wp2_with fail;refine Qae (v:=kB t.an t.n (bL t.s) t.at_) (by simp[results,results314,go_sem,kB]) rfl ⟨rfl,?_⟩;exact((((below_drewNv bU _).setCell (by simp) _).setCell (by simp) _).setCell (by simp) _).setCell (by simp) _
def OG(b bm:Nat)(lv:aA)(sz:Int)(T:List Tok)(w:ax)(i:Nat)(h:fm b bm lv sz T w i)(hi:i=T.length):
 xC 314 #[xP b] w (cu (kB 0 0 () sz) w):=by
 obtain⟨a,cap,rfl,Qo,Qp,hc⟩:=h.cells;have⟨p0,p1,p2,p3⟩:=af h.box;have Qw:=h.lt;have Ff:=h.few;have QU:¬(i:Int)<(T.length:Int):=by omega
 have hd1:decide (i<T.length)=false:=by simp;omega
 have hd2:decide ((i:Int)<(T.length:Int))=false:=by simp;omega
 have qdh:b≠w:=by omega
 go_enter func314,ntmps314;go_wp2_with fail;go_quiet(fail);go_wp2_with fail;refine Qae (v:=kB 0 0 () sz) (by simp[results,results314,go_sem,kB]) rfl ⟨rfl,?_⟩;exact((((below_drewNv bU _).setCell (by simp) _).setCell (by simp) _).setCell (by simp) _).setCell (by simp) _
def xM(b bm:Nat)(lv:aA)(sz:Int)(T:List Tok)(w:ax)(i:Nat)(h:fm b bm lv sz T w i):∃(k n:Int)(s:aY)(p:Int),(∀x,ed (T.drop i) x=(decide (k=4)&&decide (s.data.toList=x)))/\(∀t,T[i]? =some t->k=t.an/\n=t.n/\s=bL t.s)/\(T[i]? =none->k=0/\s=⟨#[]⟩)/\xC 314 #[xP b] w (cu (kB k n s p) w):=by
 cases hq:T[i]? with
 |none=>
  have hi:i=T.length:=by have:=h.le;have:=List.getElem?_eq_none_iff.1 hq;omega
  refine⟨0,0,(),sz,λx=> ?_,(λt ht=>by cases ht),λ_=>⟨rfl,rfl⟩,OG b bm lv sz T w i h hi⟩;rw[List.drop_of_length_le (by omega)];rfl
 |some t=>
  refine⟨t.an,t.n,bL t.s,t.at_,λx=> ?_,(λt' ht=>by cases ht;exact⟨rfl,rfl,rfl⟩),(λh=>by cases h),Jz b bm lv sz T w i h t hq⟩;rw[drop_cons hq];simp only[ed,lP];rw[Bool.eq_iff_iff];simp;try omega
def DO(b bm:Nat)(lv:aA)(sz:Int)(T:List Tok)(w:ax)(i:Nat)(h:fm b bm lv sz T w i)(s:aY)(hs:ed (T.drop i) s.data.toList=true):
 xC 378 #[xP b,s] w λe w'=>e=xR true/\fm b bm lv sz T w' (i+1)/\ao (bh b) w w':=by
 have⟨k,n,x,p,h1,h2,h3,hpk⟩:=xM b bm lv sz T w i h;have bH:i<T.length:=by
  cases hq:T[i]? with
  |none=>rw[h1,(h3 hq).1]at hs;simp at hs
  |some t=>exact(Qad.1 hq).1
 rw[h1]at hs;simp only[Qce,decide_eq_true_eq]at hs;obtain⟨rfl,hx⟩:=hs;obtain rfl:x=s:=by cases x;cases s;simp at hx;simpa using hx
 have J6:=ag hpk;have ia:=ag h;go_enter func378,ntmps378;go_wp2_with fail;refine cC (J6.o) λw1 hb1=> ?_;have qL:=ag (ia.o.ae hb1);have bz:=ag hb1;have⟨p0,p1,p2,p3⟩:=af qL.o.box;have f1:=aj qL.o.box 1;have hbl:=qL.o.lt;have sX:b≠w1:=by omega
 have Ff:=qL.o.few;unfold kB;go_wp2;go_ret;exact⟨rfl,((qL.o.next bH).1).ae bU,((ao.az bz.o).trans (qL.o.next bH).2).alloc _⟩
def JA(b bm:Nat)(lv:aA)(sz:Int)(T:List Tok)(w:ax)(i:Nat)(h:fm b bm lv sz T w i)(s:aY)(hs:ed (T.drop i) s.data.toList=false):
 xC 378 #[xP b,s] w (cu false w):=by
 have⟨k,n,x,p,h1,h2,h3,hpk⟩:=xM b bm lv sz T w i h;rw[h1]at hs;have hcs:(k !=4)=true\/((k !=4)=false/\(!(x.toList==s.toList))=true):=by
  by_cases hk:k=4
  .right;refine⟨by simpa using hk,?_⟩;rw[decide_eq_true hk,Bool.true_and,decide_eq_false_iff_not]at hs;simp only[Bool.not_eq_true'];cases hq:(x.toList==s.toList)with
   |false=>rfl
   |true=>exact absurd (by rw[qP hq]) hs
  .left;simpa using hk
 have J6:=ag hpk;rcases hcs with e1|⟨e1,e2⟩;all_goals
  go_enter func378,ntmps378;go_wp2_with fail;refine cC (J6.o) λw1 hb1=> ?_;have bz:=ag hb1;unfold kB;go_wp2;go_ret;exact⟨rfl,bz.o.alloc bz.o.size _⟩
def JB(b bm:Nat)(lv:aA)(sz:Int)(T:List Tok)(w:ax)(i:Nat)(h:fm b bm lv sz T w i)(s:aY)(hs:ed (T.drop i) s.data.toList=true):
 xC 379 #[xP b,s] w λe w'=>(∃v,e=xR v)/\fm b bm lv sz T w' (i+1)/\ao (bh b) w w':=by
 have HT:=ag (DO b bm lv sz T w i h s hs);go_enter func379,ntmps379;go_wp2_with fail;refine(HT.o).mono ?_;rintro e w1⟨rfl,h1,h2⟩;have H1:=ag h1;have H2:=ag h2;go_wp2_with fail;go_end0;exact⟨⟨_,rfl⟩,H1.o,H2.o⟩
def lW(b bm:Nat)(lv:aA)(sz:Int)(T:List Tok)(w:ax)(x:aG)(r:List Tok)(e:Ending)(w':ax):Prop:=
 ∃v j,e=xR v/\cB (fJ w) w' v x/\fm b bm lv sz T w' j/\r=T.drop j/\ao (bh b) w w'
def OH(b bm:Nat)(lv:aA)(sz:Int)(T:List Tok)(w:ax)(l:List aG)(r:List Tok)(e:Ending)(w':ax):Prop:=
 ∃v j,e=xR v/\ab (fJ w) w' v l/\fm b bm lv sz T w' j/\r=T.drop j/\ao (bh b) w w'
def DP(b bm:Nat)(lv:aA)(sz:Int)(T:List Tok)(k:Nat):Prop:=∀(least i:Nat)(x:aG)(r:List Tok)(w:ax),1<=least->least<=5->fm b bm lv sz T w i->ju k least (T.drop i)=some (x,r)->
 xC 313 #[xP b,least] w (lW b bm lv sz T w x r)
def GU(b bm:Nat)(lv:aA)(sz:Int)(T:List Tok)(k:Nat):Prop:=∀(i:Nat)(x:aG)(r:List Tok)(w:ax),fm b bm lv sz T w i->jE k (T.drop i)=some (x,r)->
 xC 338 #[xP b] w (lW b bm lv sz T w x r)
def BM(b bm:Nat)(lv:aA)(sz:Int)(T:List Tok)(k:Nat):Prop:=∀(n i:Nat)(l:List aG)(r:List Tok)(w:ax),0<n->n<=3->fm b bm lv sz T w i->eV k n (T.drop i)=some (l,r)->
 xC 381 #[xP b,n] w (OH b bm lv sz T w l r)
def FA(k n:Int)(s:aY)(v:aA):Obj:=xK #[k,n,s,v] 319
def OI {T:List Tok}(h0:fm b bm lv sz T w i)(h:fm b bm lv sz T w3 j)(ho:ao (bh b) w w3)(hR:w<=R)(v0 v1 v2 v3:aA):
 fm b bm lv sz T ((((w3.setCell (R,0) v0).setCell (R,1) v1).setCell (R,2) v2).setCell (R,3) v3) j/\ao (bh b) w ((((w3.setCell (R,0) v0).setCell (R,1) v1).setCell (R,2) v2).setCell (R,3) v3):=by
 have Qw:=h0.lt;have ho':=(((ho.setCell (p:=⟨R,0,none⟩) (.inr hR) v0).setCell (p:=⟨R,1,none⟩) (.inr hR) v1).setCell (p:=⟨R,2,none⟩) (.inr hR) v2).setCell (p:=⟨R,3,none⟩) (.inr hR) v3;refine⟨h0.step ho' ?_ h.le,ho'⟩;exact(Qag _ _ _ _ (by show b≠R;omega)).trans ((Qag _ _ _ _ (by show b≠R;omega)).trans ((Qag _ _ _ _ (by show b≠R;omega)).trans ((Qag _ _ _ _ (by show b≠R;omega)).trans h.box)))
def UQ:(():aY).size<=maxLen:=by unfold maxLen;decide
def OJ {T:List Tok}{w4:ax}(h0:fm b bm lv sz T w i)(h:fm b bm lv sz T w4 j)(ho:ao (bh b) w w4)(hR:dk w4 w (xK #[a0,a1,a2,a3] t))
 (hW:W'=((((w4.setCell (w,0) v0).setCell (w,1) v1).setCell (w,2) v2).setCell (w,3) v3).alloc o):
 fm b bm lv sz T W' j/\ao (bh b) w W'/\W'.heap[w.heap.size]? =some (xK #[v0,v1,v2,v3] t):=by
 have⟨h1,h2⟩:=OI h0 h ho bT v0 v1 v2 v3;have h3:=iQ (o:=0) hR v0 v1 v2 v3;simp only[Nat.zero_add]at h3;subst hW;refine⟨h1.ae bU,h2.alloc _,(Qcb _ _ _ (Qaa.1 h3).1).trans ?_⟩;simpa using h3
def vT {T:List Tok}{w4:ax}(h0:fm b bm lv sz T w i)(h:fm b bm lv sz T w4 j)(ho:ao (bh b) w w4)(hR:dk w4 w (xK #[a0,a1,a2,a3] t))
 (hW:W'=(((w4.setCell (w,0) v0).setCell (w,1) v1).setCell (w,2) v2).setCell (w,3) v3):
 fm b bm lv sz T W' j/\ao (bh b) w W'/\W'.heap[w.heap.size]? =some (xK #[v0,v1,v2,v3] t):=by
 have⟨h1,h2⟩:=OI h0 h ho bT v0 v1 v2 v3;have h3:=iQ (o:=0) hR v0 v1 v2 v3;simp only[Nat.zero_add]at h3;subst hW;exact⟨h1,h2,by simpa using h3⟩
def DQ(b bm:Nat)(lv:aA)(sz:Int)(T:List Tok)(hsh:qz T)(k:Nat)(HC:BM b bm lv sz T k):GU b bm lv sz T (k+1):=by
 intro i x r w hst hp;have hbl:=hst.lt;obtain⟨t,ht⟩:∃t,T[i]? =some t:=by
  cases hq:T[i]? with
  |some t=>exact⟨t,rfl⟩
  |none=>
   rw[List.drop_of_length_le (List.getElem?_eq_none_iff.1 hq)]at hp;simp[jE]at hp
 have hi:=(Qad.1 ht).1;have jr:=Qaf ht;have⟨hts,htk1,htn,_⟩:=hsh t jr;have hk4:=hst.kinds t jr;have hdr:=drop_cons ht;rw[hdr]at hp;unfold jE at hp;dsimp only at hp;have SS:t.an≠4:=by
  intro h4;rw[if_neg (by omega),if_neg (by omega),if_neg (by omega)]at hp;cases hp
 have hno:∀s,ed (T.drop i) s=false:=λs=>by rw[hdr];simp[ed,SS]
 have Qx:Hd (∀W s,aC w W->_):=λW s hb=>JA b bm lv sz T W i (hst.ae hb) s (hno _);have J6:=gQ (w:=w) (λW hb=>Jz b bm lv sz T W i (hst.ae hb) t ht);have ia:=ag hst;have Nd:=ag hdr;have HP:=ag hp;have TI:=ag (show(bL t.s).size<=maxLen by rw[jP];unfold maxLen;omega);have Ff:=hst.few;have sX:b≠w:=by omega
 clear hst hp hdr hno ht jr;go_enter func338,ntmps338;go_wp2_with fail;refine cC (Qx.o _ _ bU) λw1 hb1=> ?_;have bz:=ag ((Bx.eI w (FA 0 0 () ())).ae hb1);clear hb1;go_wp2_with fail;refine cC (Qx.o _ _ bz.o.1) λw2 bE=> ?_;have bg:=ag (bz.o.ae bE);clear bE;go_wp2_with fail;refine cC (J6.o _ bg.o.1) λw3 hb3=> ?_;have bV:=ag (bg.o.ae hb3);clear hb3;have jL:=ag (ia.o.ae bV.o.1);have⟨p0,p1,p2,p3⟩:=af jL.o.box;have f1:=aj jL.o.box 1;have⟨g0,g1,g2,g3⟩:=af (bV.o.bO rfl);have⟨y0,y1,y2,y3⟩:=hZ (bV.o.bO rfl);have qK:w.heap.size<w3:=by have:=bV.o.bQ;simp at this;omega
 have qf9:b<w3:=jL.o.lt;have qga:b≠w3:=by omega
 have qdi:w.heap.size≠w3:=by omega
 have HN3:=ag (jL.o.next hi);have uw:Hd (ao (bh b) w (w3.setCell (b,1) (xI ((i:Int)+1)))):=(ao.az bV.o.1).trans HN3.o.2;have MS:Hd ((w3.setCell (b,1) (xI ((i:Int)+1))).heap[w.heap.size]? =some (FA 0 0 () ())):=(Qag _ _ _ _ (by show w≠b;omega)).trans (bV.o.bO rfl);unfold kB;have oy:=ag htk1;have vL:=ag htn;clear htk1 htn;have⟨kd,hkd⟩:=jN ((t.an:Int));have TJ:=ag hkd;rw[hkd];clear hkd;have hcs:t.an=1\/t.an=2\/t.an=3:=by omega
 rcases hcs with h1|h1|h1
 .obtain rfl:kd=1:=by have:=TJ.o;omega
  have HX:=ag (show x= .mk 1 t.n (bL []) []/\r=T.drop (i+1)by have h:=HP.o;rw[if_pos h1]at h;simp at h;exact⟨h.1.symm,h.2.symm⟩);clear h1 TJ hk4 SS;go_wp2_with fail;have⟨W',hW'⟩:=bY ((((((w3.setCell (b,1) (xI ((i:Int)+1))).setCell (w,0) (xI 1)).setCell (w,1) t.n).setCell (w,2) "").setCell (w,3) ()).alloc (xK #[xI 1,t.n,bL t.s,t.at_] 359));rw[<-hW'];have⟨k1,k2,k3⟩:=OJ ia.o HN3.o.1 uw.o MS.o hW';have⟨c0,c1,c2,c3⟩:=af k3;exact Qae (v:= .agg #[xI 1,t.n,"",()]) (by simp[results,results338,go_sem,c0,c1,c2,c3]) rfl (show lW _ _ _ _ _ _ _ _ _ _ from⟨_,i+1,rfl,by rw[HX.o.1];exact uB _ _ _ UQ,k1,HX.o.2,k2⟩)
 .obtain rfl:kd=2:=by have:=TJ.o;omega
  have HX:=ag (show x= .mk 2 0 (bL t.s) []/\r=T.drop (i+1)by have h:=HP.o;rw[if_neg (by omega),if_pos h1]at h;simp at h;exact⟨h.1.symm,h.2.symm⟩);clear h1 TJ hk4 SS;go_wp2_with fail;have⟨W',hW'⟩:=bY ((((((w3.setCell (b,1) (xI ((i:Int)+1))).setCell (w,0) (xI 2)).setCell (w,1) (xI 0)).setCell (w,2) (bL t.s)).setCell (w,3) ()).alloc (xK #[xI 2,t.n,bL t.s,t.at_] 359));rw[<-hW'];have⟨k1,k2,k3⟩:=OJ ia.o HN3.o.1 uw.o MS.o hW';have⟨c0,c1,c2,c3⟩:=af k3;exact Qae (v:= .agg #[xI 2,xI 0,bL t.s,()]) (by simp[results,results338,go_sem,c0,c1,c2,c3]) rfl (show lW _ _ _ _ _ _ _ _ _ _ from⟨_,i+1,rfl,by rw[HX.o.1];exact uB _ _ _ TI.o,k1,HX.o.2,k2⟩)
 .obtain rfl:kd=3:=by have:=TJ.o;omega
  have fp:=HP.o;rw[if_neg (by omega),if_neg (by omega),if_pos h1]at fp;have eZ:=ag fp;have nN:Hd (∀W,_):=λW=>zQ (bL t.s) W;clear h1 TJ hk4 SS fp;have har:=CU t.s;go_wp2_with fail;have⟨W4,hW4⟩:=bY ((w3.setCell (b,1) (xI ((i:Int)+1))).alloc (xK #[xI 3,t.n,bL t.s,t.at_] 359));rw[<-hW4];have oq:=ag (show fm b bm lv sz T W4 (i+1)by rw[hW4];exact HN3.o.1.ae bU);have Q4:=ag (show ao (bh b) w W4 by rw[hW4];exact uw.o.alloc _);have HZ4:=ag (show dk W4 w (FA 0 0 () ())by rw[hW4];exact(Qcb _ _ _ (Qaa.1 MS.o).1).trans MS.o);have Nj:=ag (show dk W4 w3 (xK #[xI 3,t.n,bL t.s,t.at_] 359)by
   rw[hW4];have h:=Qbh (w3.setCell (b,1) (xI ((i:Int)+1))) (xK #[xI 3,t.n,bL t.s,t.at_] 359);rw[show(w3.setCell (b,1) (xI ((i:Int)+1))).heap.size=w3 by simp[World.setCell]]at h;exact h);clear hW4 p0 p1 p2 p3 f1 g0 g1 g2 g3 y0 y1 y2 y3 Qx J6 bz bg;refine dw (nN.o _) ?_;have⟨m0,m1,m2,m3⟩:=af Nj.o;rw[lP];have⟨ar,har2⟩:=jN (dM t.s);rw[har2]at eZ har⊢;clear har2 nN;have qgb:w.heap.size≠w3:=qdi;by_cases Xr:0<ar
  .have hz:(0:Int)<(ar:Int):=by omega
   by_cases hsg:ed (T.drop (i+1)) [40]=true
   .have Wa:=ag (DO b bm lv sz T W4 (i+1) oq.o ⟨#[40]⟩ hsg);have HX:=ag (show∃l,eV k ar (T.drop (i+1+1))=some (l,r)/\x= .mk 6 0 (bL t.s) l by
     have h:=eZ.o;rw[if_pos ⟨Xr,hsg⟩,List.drop_drop]at h;split at h
     .cases h
     .rename_i l r' hq;simp at h;exact⟨l,by rw[<-h.2];exact hq,h.1.symm⟩);clear hsg eZ HP;go_wp2_with fail;refine(Wa.o).mono ?_;rintro e w6⟨rfl,h61,IN⟩;have ux:=ag h61;have qgc:=ag IN;have QY:Hd (ao (bh b) w w6):=Q4.o.trans IN;have Wc:Hd (dk w6 w (FA 0 0 () ())):=IN.at_ HZ4.o (by show¬(w=b);omega);have HP6:Hd (dk w6 w3 (xK #[xI 3,t.n,bL t.s,t.at_] 359)):=IN.at_ Nj.o (by show¬(w3=b);omega);clear h61 IN m0 m1 m2 m3;have⟨m0,m1,m2,m3⟩:=af HP6.o;have⟨l,hl1,hl2⟩:=HX.o;have hs6:w.heap.size<w6:=(Qaa.1 Wc.o).1;have Qe:=ag (HC ar (i+1+1) l r w6.drew Xr har (ux.o.ae (w':=w6.drew) ⟨rfl,rfl,rfl,bT,λ_ _=>rfl⟩) hl1);have HXX:=ag hl2;clear hl1 hl2 HX;go_upto_region 17 with fail;go_region_law(first
     |(go_simp;go_at_call 381;refine Qe.o.mono ?_;rintro e w7⟨v,j,rfl,hsl,Qd,Wd,ho7⟩;obtain⟨za,zc,rfl,_⟩:=hsl.aq;have gO:=ag hsl;have zH:=ag Qd;have TD:=ag Wd;have Zi:Hd (ao (bh b) w w7):=QY.o.drew.trans ho7;have XX:Hd (dk w7 w (FA 0 0 () ())):=ho7.at_ (w:=w6.drew) Wc.o (by show¬(w=b);omega);have HP7:Hd (dk w7 w3 (xK #[xI 3,t.n,bL t.s,t.at_] 359)):=ho7.at_ (w:=w6.drew) HP6.o (by show¬(w3=b);omega);have r2:=(af HP7.o).2.2.1;have c0:=(af XX.o).1;have c1:=(af XX.o).2.1;have c2:=(af XX.o).2.2.1;have c3:=(af XX.o).2.2.2;have⟨z0,z1,z2,z3⟩:=hZ XX.o;clear hsl Qd Wd ho7));all_goals
     go_wp2_with fail;have⟨W',hW'⟩:=bY (((((w7.setCell (w,0) (xI 6)).setCell (w,1) (xI 0)).setCell (w,2) (bL t.s)).setCell (w,3) (xL za l.length zc)));rw[<-hW'];have⟨k1,k2,k3⟩:=vT ia.o zH.o Zi.o XX.o hW';have⟨d0,d1,d2,d3⟩:=af k3;have tg:=ag (show ab (fJ w) W' (xL za l.length zc) l by
      rw[hW'];have e0:Ev (fJ w6.drew) w7 (fJ w) w7:=Ev.dL w7 λi hi=>by have h1:i<w:=hi;show i<w6;omega
      exact gO.o.ev ((((e0.setCell (p:=⟨w,0,none⟩) (.inl (by show w.heap.size<w6;omega)) _).setCell (p:=⟨w,1,none⟩) (.inl (by show w.heap.size<w6;omega)) _).setCell (p:=⟨w,2,none⟩) (.inl (by show w.heap.size<w6;omega)) _).setCell (p:=⟨w,3,none⟩) (.inl (by show w.heap.size<w6;omega)) _));exact Qae (v:= .agg #[xI 6,xI 0,bL t.s,xL za l.length zc]) (by simp[results,results338,go_sem,d0,d1,d2,d3]) rfl (show lW _ _ _ _ _ _ _ _ _ _ from⟨_,j,rfl,by rw[HXX.o];exact xJ tg.o TI.o,k1,TD.o,k2⟩)
   .have TV:ed (T.drop (i+1)) [40]=false:=by simpa using hsg
    have Sx:=ag (JA b bm lv sz T W4 (i+1) oq.o ⟨#[40]⟩ TV);have HX:=ag (show x= .mk 3 0 (bL t.s) []/\r=T.drop (i+1)by have h:=eZ.o;rw[if_neg (λh=>hsg h.2)]at h;simp at h;exact⟨h.1.symm,h.2.symm⟩);clear hsg TV eZ HP;go_wp2_with fail;refine cC (Sx.o) λw6 jn=> ?_;have q8:=ag (oq.o.ae jn);have HOO:Hd (ao (bh b) w w6):=Q4.o.trans (ao.az jn);have Q6:Hd (dk w6 w (FA 0 0 () ())):=(jn.block _ (Qaa.1 HZ4.o).1).trans HZ4.o;have uq:Hd (dk w6 w3 (xK #[xI 3,t.n,bL t.s,t.at_] 359)):=(jn.block _ (Qaa.1 Nj.o).1).trans Nj.o;clear jn m0 m1 m2 m3;have⟨m0,m1,m2,m3⟩:=af uq.o;have⟨c0,c1,c2,c3⟩:=af Q6.o;have⟨z0,z1,z2,z3⟩:=hZ Q6.o;go_wp2_with fail;have⟨W',hW'⟩:=bY (((((w6.setCell (w,0) (xI 3)).setCell (w,1) (xI 0)).setCell (w,2) (bL t.s)).setCell (w,3) ()));rw[<-hW'];have⟨k1,k2,k3⟩:=vT ia.o q8.o HOO.o Q6.o hW';have⟨d0,d1,d2,d3⟩:=af k3;exact Qae (v:= .agg #[xI 3,xI 0,bL t.s,()]) (by simp[results,results338,go_sem,d0,d1,d2,d3]) rfl (show lW _ _ _ _ _ _ _ _ _ _ from⟨_,i+1,rfl,by rw[HX.o.1];exact uB _ _ _ TI.o,k1,HX.o.2,k2⟩)
  .have HX:=ag (show x= .mk 3 0 (bL t.s) []/\r=T.drop (i+1)by have h:=eZ.o;rw[if_neg (λh=>Xr h.1)]at h;simp at h;exact⟨h.1.symm,h.2.symm⟩);have hz:¬(0:Int)<(ar:Int):=by omega
   have q8:=oq;have HOO:=Q4;have Q6:=HZ4;clear eZ HP;have⟨c0,c1,c2,c3⟩:=af Q6.o;have⟨z0,z1,z2,z3⟩:=hZ Q6.o;go_wp2_with fail;have⟨W',hW'⟩:=bY (((((W4.setCell (w,0) (xI 3)).setCell (w,1) (xI 0)).setCell (w,2) (bL t.s)).setCell (w,3) ()));rw[<-hW'];have⟨k1,k2,k3⟩:=vT ia.o q8.o HOO.o Q6.o hW';have⟨d0,d1,d2,d3⟩:=af k3;exact Qae (v:= .agg #[xI 3,xI 0,bL t.s,()]) (by simp[results,results338,go_sem,d0,d1,d2,d3]) rfl (show lW _ _ _ _ _ _ _ _ _ _ from⟨_,i+1,rfl,by rw[HX.o.1];exact uB _ _ _ TI.o,k1,HX.o.2,k2⟩)
def Lm(b bm:Nat)(lv:aA)(sz:Int)(T:List Tok)(w:ax)(l:List aG)(a:fx)(q c:Nat)(C:List aG->Nat->Prop)(wr:ax):Prop:=
 ∃(kids rest:List aG)(j:Nat),kids.length=q/\kids++rest=l/\aS (fJ w) w 319 wr (xL a q c) kids/\fm b bm lv sz T wr j/\ao (bh b) w wr/\C rest j
def BN(b bm:Nat)(lv:aA)(sz:Int)(T:List Tok)(k:Nat)(HE:∀m,m<k->DP b bm lv sz T m):BM b bm lv sz T k:=by
 intro n i l r w yI hn3 hst QX;have⟨i0,hi0,hz0,hz1,hz2⟩:=info_parts zS;have hbl:=hst.lt;have TE:Hd (∀m,m<k->DP b bm lv sz T m):=HE;have H0:Hd (Lm b bm lv sz T w l none 0 0 (Nz T n r k 0) w):=⟨[],l,i,rfl,rfl,aS.nil _ _ _ _,hst,ao.refl _ _, .inl ⟨rfl,k,bT,QX⟩⟩;have ia:=ag hst;go_enter func381,ntmps381;go_wp2;go_loopg [5,6,8]n(λg r5 _ iv wr=>∃(q c:Nat)(a:fx),q<=n/\g=n-q/\iv=xI q/\r5=xL a q c/\Hd (Lm b bm lv sz T w l a q c (Nz T n r k q) wr));case atStart=>exact⟨0,0,none,Qbf _,rfl,rfl,rfl,H0⟩
 case round=>
  obtain⟨q,c,a,hq,rfl,rfl,rfl,HL⟩:=hrel;by_cases bH:q<n
  .have VB:(q:Int)<(n:Int):=by omega
   go_upto_if 12 with fail;go_cut [](λwx=>Hd (Lm b bm lv sz T w l a q c (Ut T n r k q) wx));case first=>
    have⟨kids,rest,j,hkl,hkr,hacc,hps,hon,hC⟩:=HL.o;by_cases hq0:0<q
    .have qgd:(0:Int)<(q:Int):=by omega
     have TF:ed (T.drop j) [44]=true/\∃m,m<=k/\eV m (n-q) (T.drop (j+1))=some (rest,r):=by
      rcases hC with⟨h1,_⟩|⟨_,_,h1,h2⟩|⟨h1,_⟩
      .omega
      .exact⟨h1,h2⟩
      .omega
     have SR:=ag (JB b bm lv sz T wr j hps ⟨#[44]⟩ TF.1);have HM:=ag TF.2;have lD:=ag hacc;have lI:=ag hon;have A0:=ag hkl;have Fi:=ag hkr;go_wp2_with fail;refine(SR.o).mono ?_;rintro e w1⟨⟨v1,rfl⟩,h1,h2⟩;have qL:=ag h1;have q9:=ag h2;go_wp2;go_meet;exact(show Lm _ _ _ _ _ _ _ _ _ _ _ _ from⟨kids,rest,j+1,A0.o,Fi.o,lD.o.only q9.o (λi hi=>by have:i=b:=hi;exact⟨by show i<w;omega,by omega⟩),qL.o,lI.o.trans q9.o,HM.o⟩)
    .obtain rfl:q=0:=by omega
     have TF:∃m,m<=k/\eV m (n-0) (T.drop j)=some (rest,r):=by
      rcases hC with⟨_,h1⟩|⟨h1,_⟩|⟨h1,_⟩
      .exact h1
      .omega
      .omega
     have HM:Hd (Lm b bm lv sz T w l a 0 c (Ut T n r k 0) wr):=⟨kids,rest,j,hkl,hkr,hacc,hps,hon,TF⟩;go_wp2;go_meet;exact HM
   case rest=>
    have⟨kids,rest,j,hkl,hkr,hacc,hps,hon,m,hmk,QX⟩:=Hd.o hcut;obtain⟨m',e,r1,l',rfl,hex,rfl,hC⟩:=rG QX (by omega);obtain⟨yk,yn,ys,yl⟩:=e;have bI:=ag (TE.o m' (by omega) 1 j (.mk yk yn ys yl) r1 wc (by omega) (by omega) hps hex);have hown:=hacc.cG;have qge:=hon.size;have A0:=ag hkl;have Fi:=ag hkr;have lD:=ag hacc;have lI:=ag hon;have om:=ag hC;have VC:=ag hown;go_wp2_with fail;refine(bI.o).mono ?_;rintro e w1⟨_,jj,rfl,⟨cs,rfl,hrep⟩,nO,hr1,hU⟩;obtain⟨av,rfl,hsl,hss⟩:=cO.iff.1 hrep;obtain⟨ya,yc,rfl,_⟩:=hsl.aq;have s1:=hU.size;have fq:Hd (aD.rep (α:=aG) (bu (xL a q c) (fJ w)) w1 [xI yk,xI yn,xS ys,xL ya yl.length yc] (aG.mk yk yn ys yl)):=aD.ev (α:=aG) hrep (Ev.dL w1 (λi hi=>by
     rcases hi with hi|hi
     .have h1:i<w:=hi;show i<wc;omega
     .exact(VC.o i hi).2));have qt:=ag nO;have mZ:=ag hr1;have q9:Hd (ao (bh b) w w1):=lI.o.trans hU;have Cn:=ag (lD.o.only hU (λi hi=>by have:i=b:=hi;exact⟨by show i<w;omega,by omega⟩));go_wp2_with(at_builtin;refine bo (α:=aG) rfl _ _ _ rfl (fJ w) w 319 i0 _ 56 underlying317 hi0 hz0 hz1 hz2 rfl (by decide) (.slice a q c) kids rfl (Cn.o.alloc _) (λ_=>True) _ _ (.mk yk yn ys yl) rfl (fN _ _ _ _ 4 rfl rfl trivial) (aD.ev (α:=aG) fq.o ((Ev.refl _ _).alloc _)) (by rw[A0.o];unfold maxLen;omega) (by rw[A0.o];omega) (by simp;omega) ?_;rw[A0.o];intro a2 c2 w2 bD dK bE;have dr:=ag bD;have bg:=ag bE;clear bD dK bE);go_roundg(n-(q+1));case measure=>omega
    case rel=>
     refine⟨q+1,c2,a2,by omega,rfl,by go_num,rfl,?_⟩;have hO2:ao (bh b) w w2:=(q9.o.alloc _).dG bg.o bT;refine(show Lm _ _ _ _ _ _ _ _ _ _ _ _ from⟨kids++[.mk yk yn ys yl],l',jj,by simp[A0.o],by rw[<-Fi.o];simp,dr.o,?_,hO2,?_⟩)
     .exact ia.o.step hO2 ((bg.o.block b hbl).trans ((Qcb w1 _ b (by omega)).trans qt.o.box)) qt.o.le
     .have hr1:=mZ.o;rcases om.o with⟨h1,h2,h3,h4⟩|⟨h1,h2,h3⟩
      .subst hr1;exact .inr (.inr ⟨by omega,h2,h3,by rw[h4,List.drop_drop]⟩)
      .subst hr1;rw[List.drop_drop]at h3;exact .inr (.inl ⟨by omega,by omega,h2,m',by omega,by rw[show n-(q+1)=n-q-1 from by omega];exact h3⟩)
  .have VB:¬(q:Int)<(n:Int):=by omega
   have⟨kids,rest,j,hkl,hkr,hacc,hps,hon,hC⟩:=HL.o;have TF:rest=[]/\ed (T.drop j) [41]=true/\r=T.drop (j+1):=by
    rcases hC with⟨h1,_⟩|⟨_,h2,_⟩|⟨_,h1,h2,h3⟩
    .omega
    .omega
    .exact⟨h1,h2,h3⟩
   obtain⟨rfl,h41,hr⟩:=TF;rw[List.append_nil]at hkr;have SR:=ag (JB b bm lv sz T wr j hps ⟨#[41]⟩ h41);have A0:=ag hkl;have Fi:=ag hkr;have lD:=ag hacc;have lI:=ag hon;have FF:=ag hr;go_wp2_with fail;refine(SR.o).mono ?_;rintro e w1⟨⟨v1,rfl⟩,h1,h2⟩;have qL:=ag h1;have Cn:=ag (lD.o.only h2 (λi hi=>by have:i=b:=hi;exact⟨by show i<w;omega,by omega⟩));have q9:Hd (ao (bh b) w w1):=lI.o.trans h2;go_wp2;go_ret;exact(show OH _ _ _ _ _ _ _ _ _ _ from⟨_,j+1,rfl,by rw[<-Fi.o];exact Cn.o.slice (λi hi=>hi),qL.o,FF.o,q9.o⟩)
def UR(b bm:Nat)(lv:aA)(sz:Int)(T:List Tok)(w:ax)(E:Nat)(C:aG->Nat->Prop)(wr:ax):Prop:=
 ∃(ck cn:Int)(cs:aY)(cl:List aG)(a:fx)(c j:Nat),wr.heap[E]? =some (xK #[ck,cn,cs,xL a cl.length c] 319)/\cO (CV w E) wr [xI ck,xI cn,xS cs,xL a cl.length c] (.mk ck cn cs cl)/\fm b bm lv sz T wr j/\ao (bh b) w wr/\
  wr.heap[w.heap.size]? =some (xK iE 319)/\C (.mk ck cn cs cl) j
def RQ {T:List Tok}{WD:World}{jj:Nat}{ck cn fk fn:Int}{cs fs:ByteArray}{cl fl:List aG}{c:Nat}{ts:List UInt8}
 (hbl:b<w)(ia:fm b bm lv sz T w i)(lI:ao (bh b) w wr)(CE:ao (bh b) wr WD)(fZ:ao (bh b) WD w2)
 (Sz:w2.heap[w1.heap.size]? =some (.cells #[.int .i64 ck, .int .i64 cn, .string cs, .slice a cl.length c] 319 (0,0)))
 (MH:WD.heap[w.heap.size]? =some (.cells #[.int .i64 0, .int .i64 0, .string (), .slice none 0 0] 319 (0,0)))
 (VD:cO (CV w w1) WD [.int .i64 ck, .int .i64 cn, .string cs, .slice a cl.length c] (.mk ck cn cs cl))
 (fq:cO (fJ WD.drew) w2 [.int .i64 fk, .int .i64 fn, .string fs, .slice ya fl.length yc] (.mk fk fn fs fl))(IS:fm b bm lv sz T w2 jj)
 (hs1:w.heap.size+1<=w1)(hE:w1.heap.size<wr)(Zl:wr.heap.size<=WD)(s2:WD.heap.size<=w2)(sZ:ts.length<=200)(C:aG->Nat->Prop)(hC:C (.mk 4 0 (bL ts) [.mk ck cn cs cl, .mk fk fn fs fl]) jj):
 UR b bm lv sz T w w1 C (((((w2.setCell (w1,0) (.int .i64 4)).setCell (w1,1) (.int .i64 0)).setCell (w1,2) (.string (bL ts))).setCell (w1,3) (.slice (w2,0) 2 2)).alloc (.cells #[.int .i64 ck, .int .i64 cn, .string cs, .slice a cl.length c, .int .i64 fk, .int .i64 fn, .string fs, .slice ya fl.length yc] 319)):=by
 obtain⟨W3,hW3⟩:∃W3:World,W3=(((w2.setCell (w1,0) (.int .i64 4)).setCell (w1,1) (.int .i64 0)).setCell (w1,2) (.string (bL ts))).setCell (w1,3) (.slice (w2,0) 2 2):=⟨_,rfl⟩;have yJ:W3.heap.size=w2:=by rw[hW3];simp
 have hE3:W3.heap[w1.heap.size]? =some (.cells #[.int .i64 4, .int .i64 0, .string (bL ts), .slice (w2,0) 2 2] 319 (0,0)):=by
  rw[hW3];have h0:=Qca w2 w1 0 _ _ (.int .i64 4) Sz;have h1:=Qca _ w1 1 _ _ (.int .i64 0) h0;have h2:=Qca _ w1 2 _ _ (.string (bL ts)) h1;exact Qca _ w1 3 _ _ (.slice (w2,0) 2 2) h2
 have A5:ao (λi=>i=w1) w2 W3:=by
  rw[hW3];exact((((ao.refl (λi=>i=w1) w2).setCell (p:=⟨w1,0,none⟩) (.inl rfl) _).setCell (p:=⟨w1,1,none⟩) (.inl rfl) _).setCell (p:=⟨w1,2,none⟩) (.inl rfl) _).setCell (p:=⟨w1,3,none⟩) (.inl rfl) _
 rw[<-hW3];clear hW3;generalize hK:(Obj.cells #[.int .i64 ck, .int .i64 cn, .string cs, .slice a cl.length c, .int .i64 fk, .int .i64 fn, .string fs, .slice ya fl.length yc] 319 (0,0))=K;have Zm:ao (bh b) w (W3.alloc K):=by
  have h1:=(lI.trans CE).trans fZ;have h2:ao (bh b) w W3:=h1.cV A5 (λi hi bH=>by omega);exact h2.alloc _
 have hKb:(W3.alloc K).heap[w2.heap.size]? =some (.cells (([.int .i64 ck, .int .i64 cn, .string cs, .slice a cl.length c]:List Value)++([.int .i64 fk, .int .i64 fn, .string fs, .slice ya fl.length yc]:List Value)).toArray 319 (0,0)):=by
  have h:=Qbh W3 K;rw[yJ]at h;rw[h,<-hK];rfl
 have VE:Ev (CV w w1) WD (CV w w1) (W3.alloc K):=
  ⟨((fZ.mono (λi hi=> .inl (by unfold bh at hi;omega))).trans (A5.mono (λi hi=> .inr hi))).alloc _,λi hi=> .inl hi⟩;have VF:Ev (fJ WD.drew) w2 (CV w w1) (W3.alloc K):=
  ⟨(A5.mono (λi hi=>by show i<WD;omega)).alloc _,λi hi=> .inl (by show i<WD;rcases hi with h|h<;>omega)⟩;refine⟨4,0,bL ts,[.mk ck cn cs cl, .mk fk fn fs fl],some ⟨w2,0,none⟩,2,jj,(Qcb W3 _ _ (by omega)).trans hE3,cO.iff.2 ⟨_,rfl,?_,by rw[jP];unfold maxLen;omega⟩,ia.step Zm ?_ IS.le,Zm,?_,hC⟩
 .exact wG (by unfold CV;omega) hKb (VD.yZ VE) (fq.yZ VF)
 .exact(Qcb W3 _ b (by omega)).trans ((A5.block b (by omega) (by omega)).trans IS.box)
 .exact(Qcb W3 _ _ (by omega)).trans ((A5.block _ (by omega) (by omega)).trans ((fZ.block _ (by omega) (by unfold bh;omega)).trans MH))
def sf(s:aY):Int:=match bB oY s with|some (.int _ v)=>v|_=>0
def GV(s:aY):bB oY s=some (xI (sf s))\/(bB oY s=none/\sf s=0):=by
 unfold sf;cases hq:bB oY s with
 |none=>exact .inr ⟨rfl,rfl⟩
 |some v=>
  left;have hm:∃p∈oY,p.2.1=v:=by
   unfold bB at hq;rw[Option.map_eq_some_iff]at hq;obtain⟨p,h1,h2⟩:=hq;exact⟨p,List.mem_of_find?_eq_some h1,h2⟩
  obtain⟨p,hp,rfl⟩:=hm;simp only[oY,Qdf,List.not_mem_nil,or_false]at hp;rcases hp with rfl|rfl|rfl|rfl|rfl|rfl|rfl|rfl|rfl|rfl|rfl|rfl<;>rfl
def OK(w:ax):(zeroValue 3).run prog w= .ok (xI 0) w:=by kernel_rfl
def DR(h:eY w b)(s:aY):(Instr.lookup 114 (.map (some b)) s false).run prog w= .ok (sf s) w:=by
 rcases GV s with h1|⟨h1,h2⟩
 .exact bP.lookup fw .string lj (P:=prog) underlying114 underlying9 jT h s _ h1
 .rw[h2];exact bP.RP fw .string lj (P:=prog) underlying114 underlying9 jT h s _ (OK w) h1
def xN(c:UInt8)(hc:c∈dW):sf (bL [c])=(cH [c]:Int):=by
 simp only[dW,Qdf,List.not_mem_nil,or_false]at hc;rcases hc with rfl|rfl|rfl|rfl|rfl|rfl|rfl|rfl|rfl|rfl|rfl<;>rfl
def GW(b bm:Nat)(lv:aA)(sz:Int)(T:List Tok)(hsh:qz T)(k:Nat)(HT:GU b bm lv sz T k)(HE:∀m,m<k->DP b bm lv sz T m):DP b bm lv sz T (k+1):=by
 intro least i x r w hl1 VG hst hp;have hbl:=hst.lt;obtain⟨e0,r0,Zn,IT⟩:∃e0 r0,jE k (T.drop i)=some (e0,r0)/\nU k least e0 r0=some (x,r):=by
  unfold ju at hp;cases hq:jE k (T.drop i)with
  |none=>rw[hq]at hp;cases hp
  |some q=>obtain⟨e0,r0⟩:=q;rw[hq]at hp;exact⟨e0,r0,rfl,hp⟩
 clear hp;have hb0:aC w (w.alloc (xK iE 319)):=bU;have hcall:=HT i e0 r0 _ (hst.ae hb0) Zn;obtain⟨zk,zn,zs,zl⟩:=e0;have ia:=ag hst;clear hst;have A6:=ag IT;clear IT;have bI:=ag hcall;clear hcall;have iW:=ag hb0;clear hb0;clear Zn;go_enter func313,ntmps313;go_wp2_with fail;refine(bI.o).mono ?_;rintro e w1⟨_,j0,rfl,⟨cs,rfl,hrep⟩,nO,hr1,hU⟩;obtain⟨av,rfl,hsl,hss⟩:=cO.iff.1 hrep;obtain⟨za,zc,rfl,_⟩:=hsl.aq;have hs1:=hU.size;simp at hs1;have IU:Hd (dk w1 w (xK iE 319)):=(hU.block _ (by simp) (by unfold bh;omega)).trans (Qbh w _);have q9:Hd (ao (bh b) w w1):=((ao.refl _ w).alloc _).cV hU (λi hi _=>hi);have fq:=ag hrep;clear hrep;have qt:=ag nO;clear nO;have mZ:=ag hr1;clear hr1;clear hsl hss hU;go_wp2;go_loopg [6,7]k(λg _ _ wr=>∃m:Nat,m<=k/\g=m/\Hd (UR b bm lv sz T w w1 (λcur j=>nU m least cur (T.drop j)=some (x,r)) wr)/\w1.heap.size<wr);case atStart=>
  refine⟨k,bT,rfl,?_,by simp⟩;have hbb:aC w1 (w1.alloc (xK #[zk,zn,zs,xL za zl.length zc] 319)):=bU;refine(show UR _ _ _ _ _ _ _ _ _ from⟨zk,zn,zs,zl,za,zc,j0,Qbh _ _,?_,qt.o.ae hbb,q9.o.alloc _,(hbb.block _ (by omega)).trans IU.o,by {show nU k least _ (T.drop j0)=_;rw[<-mZ.o];exact A6.o}⟩);exact fq.o.yZ ⟨(ao.refl _ w1).alloc _,λi hi=>by
   rcases hi with h|h
   .exact .inl (by unfold fJ;simp;omega)
   .exact .inr (by omega)⟩
 case round=>
  obtain⟨m,hm,rfl,HM,hE⟩:=hrel;have⟨ck,cn,cs,cl,a,c,j,hEb,hcr,hps,hon,hR,hC⟩:=HM.o;have⟨pk,pn,ps,pp,hsg,hps2,hps3,hpeek⟩:=xM b bm lv sz T wr j hps;have J6:=ag hpeek;have sY:=ag hps;have HEB:=ag hEb;have TG:=ag hcr;have lI:=ag hon;have FF:=ag hR;have HSP:=wF hC;clear hpeek hps hEb hcr hon hR hC;go_wp2_with fail;refine cC (J6.o) λw2 bE=> ?_;have bg:=ag bE;have gn:=ag (sY.o.ae bE);clear bE;have⟨p0,p1,p2,p3⟩:=af gn.o.box;have f1:=aj gn.o.box 1;have hbl2:=gn.o.lt;have s2:=bg.o.size;have qgf:b≠w2:=by omega
  have pM:=λo=>DR (gn.o.binds.ae (w':=w2.alloc o) (dS.alloc bT o)) ps;have Z8:=λo=>DR (w:=(w2.alloc o).drew) (gn.o.binds.ae (w':=w2.alloc o) (dS.alloc bT o)) ps;unfold kB;go_upto_region 3 with fail;go_cut [7](λs7 wx=>s7=xI (sf ps)/\wx=(w2.alloc (xK #[pk,pn,ps,pp] 359)).drew);case first=>
   go_region;all_goals
    go_wp2;go_meet;exact⟨rfl,rfl⟩
  case rest=>
   obtain⟨rfl,hwc⟩:=hcut;have⟨W4,hW4⟩:=bY (wc);subst hW4;have ek:=ag (show aC wr W4 by rw[hwc];exact(bg.o.alloc bg.o.size _).drew);have Nj:=ag (show dk W4 w2 (xK #[pk,pn,ps,pp] 359)by rw[hwc];exact Qbh w2 _);clear hwc p0 p1 p2 p3 f1 pM Z8;have oq:=ag (sY.o.ae ek.o);have⟨p0,p1,p2,p3⟩:=af oq.o.box;have f1:=aj oq.o.box 1;have⟨m0,m1,m2,m3⟩:=af Nj.o;have HE4:Hd (dk W4 w1 (xK #[ck,cn,cs,xL a cl.length c] 319)):=(ek.o.block _ hE).trans HEB.o;have MS:Hd (dk W4 w (xK iE 319)):=(ek.o.block _ (by omega)).trans FF.o;have J4:Hd (cO (CV w w1) W4 [xI ck,xI cn,xS cs,xL a cl.length c] (.mk ck cn cs cl)):=TG.o.yZ (Ev.az ek.o);have Q4:Hd (ao (bh b) w W4):=lI.o.trans (ao.az ek.o);have⟨e0,e1,e2,e3⟩:=af HE4.o;have hw4:w2.heap.size<W4:=(Qaa.1 Nj.o).1;rcases HSP with⟨rfl,rfl,hno⟩|⟨m',t,r',f,r2,rfl,hts,hk4,hlb,hex,Qf⟩
   .have hcs:(pk !=4)=true\/((pk !=4)=false/\sf ps<(least:Int)):=by
     by_cases h4:pk=4
     .right;refine⟨by simpa using h4,?_⟩;cases hq:T[j]? with
      |none=>have:=(hps3 hq).1;omega
      |some t=>
       have⟨h1,_,h3⟩:=hps2 t hq;have hk4:t.an=4:=by omega
       have⟨c0,hc0,hs0⟩:=(hsh t (Qaf hq)).2.2.2 hk4;have hn:=hno t _ (drop_cons hq);rw[h3,hs0,xN c0 hc0,<-hs0];have:¬least<=cH t.s:=λh=>hn ⟨hk4,h⟩;omega
     .left;simpa using h4
    have⟨r0,r1,r2,r3⟩:=af MS.o;have⟨g0,g1,g2,g3⟩:=hZ MS.o;have hRE:w.heap.size≠w1:=by omega
    generalize sf ps=bv at*;clear hno hps2 hps3 hsg;rcases hcs with h1|⟨h1,h2⟩;all_goals
     go_wp2_with fail;have⟨W',hW'⟩:=bY (((((W4.setCell (w,0) ck).setCell (w,1) cn).setCell (w,2) cs).setCell (w,3) (xL a cl.length c)));rw[<-hW'];have⟨k1,k2,k3⟩:=vT ia.o oq.o Q4.o MS.o hW';have⟨d0,d1,d2,d3⟩:=af k3;have tg:=ag (show cO (fJ w) W' [xI ck,xI cn,xS cs,xL a cl.length c] (.mk ck cn cs cl)by
      rw[hW'];exact J4.o.yZ (((((Ev.dL (M:=CV w w1) (N:=fJ w) W4 (λi h=>by unfold fJ at h;exact .inl (by omega))).setCell (p:=⟨w,0,none⟩) (.inl (.inl bT)) _).setCell (p:=⟨w,1,none⟩) (.inl (.inl bT)) _).setCell (p:=⟨w,2,none⟩) (.inl (.inl bT)) _).setCell (p:=⟨w,3,none⟩) (.inl (.inl bT)) _));exact Qae (v:= .agg #[ck,cn,cs,xL a cl.length c]) (by simp[results,results313,go_sem,d0,d1,d2,d3]) rfl (show lW _ _ _ _ _ _ _ _ _ _ from⟨_,j,rfl,⟨_,rfl,tg.o⟩,k1,rfl,k2⟩)
   .obtain⟨t',CF⟩:∃t',T[j]? =some t':=by
     rcases Nat.lt_or_ge j T.length with h|h
     .exact⟨_,Qac h⟩
     .rw[List.drop_eq_nil_of_le h]at hts;cases hts
    rw[drop_cons CF]at hts;simp only[List.cons.injEq]at hts;obtain⟨rfl,rfl⟩:=hts;have Ck:j<T.length:=(Qad.1 CF).1;have jr:=Qaf CF;have⟨c0,hc0,hs0⟩:=(hsh t' jr).2.2.2 hk4;have⟨h1,h2,h3⟩:=hps2 t' CF;subst h3;have hbv:sf (bL t'.s)=(cH t'.s:Int):=by rw[hs0];exact xN c0 hc0
    have eA:=CW t'.s;have hpk:(pk !=4)=false:=by simp;omega
    rw[hbv];have hge:¬(cH t'.s:Int)<(least:Int):=by omega
    have sZ:Hd (t'.s.length<=200):=(hsh t' jr).1;have Ff:=oq.o.few;have TH:=ag hex;have VJ:=ag Qf;clear hex Qf jr CF hk4 hs0 hc0 hps2 hps3 hsg h1 h2 hbv;generalize hbb:cH t'.s=bb at*;go_upto_region 7 with fail;have⟨WD,hWD⟩:=bY (W4.setCell (b,1) (xI ((j:Int)+1)));rw[<-hWD];have HPD:=ag (show fm b bm lv sz T WD (j+1)by rw[hWD];exact(oq.o.next Ck).1);have CE:=ag (show ao (bh b) W4 WD by rw[hWD];exact(oq.o.next Ck).2);have Zo:Hd (dk WD w1 (xK #[ck,cn,cs,xL a cl.length c] 319)):=CE.o.at_ HE4.o (by unfold bh;omega);have MH:Hd (dk WD w (xK iE 319)):=CE.o.at_ MS.o (by unfold bh;omega);have uq:Hd (dk WD w2 (xK #[pk,pn,bL t'.s,pp] 359)):=CE.o.at_ Nj.o (by unfold bh;omega);have VD:Hd (cO (CV w w1) WD [xI ck,xI cn,xS cs,xL a cl.length c] (.mk ck cn cs cl)):=J4.o.yZ ⟨CE.o.mono (λi hi=> .inl (by unfold bh at hi;omega)),λi hi=> .inl hi⟩;have Zl:=CE.o.size;clear hWD p0 p1 p2 p3 f1 m0 m1 m2 m3 e0 e1 e2 e3;have⟨d0,d1,d2,d3⟩:=af Zo.o;have⟨m0,m1,m2,m3⟩:=af uq.o;obtain⟨fk,fn,fs,fl⟩:=f;have hcall:=HE m' (by omega) (bb+1) (j+1) (.mk fk fn fs fl) r2 WD.drew (by omega) (by omega) (HPD.o.ae (w':=WD.drew) ⟨rfl,rfl,rfl,bT,λ_ _=>rfl⟩) TH.o;rw[show((bb+1:Nat):Int)=(bb:Int)+1 from by omega]at hcall;have yK:=ag hcall;clear hcall;have z1:IntKind.i64.wrap ((bb:Int)+1)=(bb:Int)+1:=Qbe _ (by omega);go_region_law(first
     |(go_simp;go_at_call 313;refine yK.o.mono ?_;rintro e w5⟨_,jj,rfl,⟨cs2,rfl,hrep⟩,qaa,hr5,We⟩;obtain⟨av,rfl,hsl,hss⟩:=cO.iff.1 hrep;obtain⟨ya,yc,rfl,_⟩:=hsl.aq;have s5:=We.size;simp at s5;have qu:Hd (ao (bh b) WD w5):=(ao.refl _ WD).drew.trans We;have XY:Hd (dk w5 w1 (xK #[ck,cn,cs,xL a cl.length c] 319)):=qu.o.at_ Zo.o (by unfold bh;omega);have HP5:Hd (dk w5 w2 (xK #[pk,pn,bL t'.s,pp] 359)):=qu.o.at_ uq.o (by unfold bh;omega);have qgg:w1.heap.size<w5:=by omega
       have qgh:w2.heap.size<w5:=by omega
       have k0:=(af XY.o).1;have k1:=(af XY.o).2.1;have k2:=(af XY.o).2.2.1;have k3:=(af XY.o).2.2.2;have j2:=(af HP5.o).2.2.1;have j2':∀o,(w5.alloc o).cell? (w2,2)=some (xS (bL t'.s)):=λo=>bR w5 o _ j2;have n0:∀o,(w5.alloc o).cell? (w1,0)=some (xI ck):=λo=>bR w5 o _ k0;have n1:∀o,(w5.alloc o).cell? (w1,1)=some (xI cn):=λo=>bR w5 o _ k1;have n2:∀o,(w5.alloc o).cell? (w1,2)=some (xS cs):=λo=>bR w5 o _ k2;have n3:∀o,(w5.alloc o).cell? (w1,3)=some (xL a cl.length c):=λo=>bR w5 o _ k3;have⟨fz0,fz1,fz2,fz3⟩:=hZ XY.o;have fq:=ag hrep;have qdj:=ag qaa;have Fh:=ag hr5;clear We hrep hsl hss qaa hr5));all_goals
     clear z1;go_wp2;go_roundg m';case measure=>omega
     case rel=>
      refine⟨m',by omega,rfl,?_,by simp;omega⟩;have Fj:=RQ hbl ia.o Q4.o CE.o qu.o XY.o MH.o VD.o fq.o qdj.o (by omega) (by omega) Zl s5 sZ.o;exact(Fj _ (by rw[<-Fh.o];exact VJ.o))
def US(b bm:Nat)(lv:aA)(sz:Int)(T:List Tok)(hsh:qz T)(k:Nat):DP b bm lv sz T k/\GU b bm lv sz T k/\BM b bm lv sz T k:=by
 induction k using Nat.strongRecOn with
 |ind k ih=>
  refine⟨?_,?_,BN b bm lv sz T k λm hm=>(ih m hm).1⟩
  .cases k with
   |zero=>intro least i x r w _ _ _ h;simp[ju]at h
   |succ k=>exact GW b bm lv sz T hsh k (ih k (by omega)).2.1 λm hm=>(ih m (by omega)).1
  .cases k with
   |zero=>intro i x r w _ h;simp[jE]at h
   |succ k=>exact DQ b bm lv sz T hsh k (ih k (by omega)).2.2
def GX(p q r:Addr)(w:ax):
 CallsD prog 312 #[.pointer (some p), .pointer (some q), .pointer (some r)] .returning w λe u' w'=>e=xR (.tuple #[])/\u'= .returning/\w'=w:=by
 refine callsD_of_wpS func312 rfl λSU cs hu=> ?_;apply wpS_seq;apply wpS_region;simp[wpOpsS,go_sem,recoverD,hu,ntmps312,Exit.thenS];apply wpS_seq;apply wpS_region;simp[wpOpsS,go_sem,Exit.thenS];refine wpS_cond (t:=false) (by simp[Act.eval,Array.replicate]) ?_;simp only[Bool.false_eq_true,if_false];refine wpS_of_wp (wp_skip ?_);cases SU;simp_all[bodyPostS,results,results312]
def ei(t:TypeId)(v:aA):Obj:=xK #[v] t
def Ln {n:Nat}{xk xn:Int}{xs:aY}{xl:List aG}{xa:fx}{xc:Nat}(hb:b<w)(ho:ao (bh b) w w1)(hR0:dk w1 w (FA 0 0 () ()))(hR1:bW w1 [w] (ei 3 (xI 0)))(hR2:bW w1 [w,w] (ei 4 false))
 (hsl:ab (dX (fJ w) w 3) w1 (xL xa xl.length xc) xl)(hss:xs.size<=maxLen)
 (hW:W'=(((((((((((w1.setCell (w,0) xk).setCell (w,1) xn).setCell (w,2) xs).setCell (w,3) (xL xa xl.length xc)).drewN n).setCell (w,0) xk).setCell (w,1) xn).setCell (w,2) xs).setCell (w,3) (xL xa xl.length xc)).setCell ([w],0) (xI 0)).setCell ([w,w],0) true)):
 W'.heap[w.heap.size]? =some (FA xk xn xs (xL xa xl.length xc))/\W'.heap[w.heap.size+1]? =some (ei 3 (xI 0))/\W'.heap[w.heap.size+1+1]? =some (ei 4 true)/\cB (fJ w) W' (.agg #[xk,xn,xs,xL xa xl.length xc]) (aG.mk xk xn xs xl)/\ao (bh b) w W':=by
 have s4:∀W:ax,ao (λi=>i=w) W ((((W.setCell (w,0) xk).setCell (w,1) xn).setCell (w,2) xs).setCell (w,3) (xL xa xl.length xc)):=λW=>
  ((((ao.refl (λi=>i=w) W).setCell (p:=⟨w,0,none⟩) (.inl rfl) _).setCell (p:=⟨w,1,none⟩) (.inl rfl) _).setCell (p:=⟨w,2,none⟩) (.inl rfl) _).setCell (p:=⟨w,3,none⟩) (.inl rfl) _;have⟨A,hA⟩:=bY ((((w1.setCell (w,0) xk).setCell (w,1) xn).setCell (w,2) xs).setCell (w,3) (xL xa xl.length xc));have oA:ao (λi=>i=w) w1 A:=by rw[hA];exact s4 w1
 have gA:=iQ (o:=0) hR0 xk xn xs (xL xa xl.length xc);simp only[Nat.zero_add]at gA;rw[<-hA]at gA hW;have oB:ao (λi=>i=w) w1 (A.drewN n):=oA.drewN n;have gB:(A.drewN n).heap[w.heap.size]? =_:=gA;generalize A.drewN n=B at*;have⟨C,hC⟩:=bY ((((B.setCell (w,0) xk).setCell (w,1) xn).setCell (w,2) xs).setCell (w,3) (xL xa xl.length xc));have oC:ao (λi=>i=w) w1 C:=by rw[hC];exact oB.trans (s4 B)
 have gC:=iQ (o:=0) gB xk xn xs (xL xa xl.length xc);simp only[Nat.zero_add]at gC;rw[<-hC]at gC hW;have gC1:=oC.at_ hR1 (by omega);have gC2:=oC.at_ hR2 (by omega);have⟨D,hD⟩:=bY (C.setCell ([w],0) (xI 0));have oD:ao (λi=>i=[w]) C D:=by rw[hD];exact(ao.refl (λi=>i=[w]) C).setCell (p:=⟨[w],0,none⟩) (.inl rfl) _
 have gD1:=Qca C [w] 0 _ _ (xI 0) gC1;rw[<-hD]at gD1 hW;have oE:ao (λi=>i=[w,w]) D W':=by rw[hW];exact(ao.refl (λi=>i=[w,w]) D).setCell (p:=⟨[w,w],0,none⟩) (.inl rfl) _
 have gE2:=Qca D [w,w] 0 _ _ true (oD.at_ gC2 (by omega));rw[<-hW]at gE2;have qab:ao (λi=>w<=i/\i<[w,w,w]) w1 W':=((oC.mono λi hi=>by have:i=w:=hi;omega).trans (oD.mono λi hi=>by have:i=[w]:=hi;omega)).trans (oE.mono λi hi=>by have:i=[w,w]:=hi;omega);refine⟨?_,?_,?_,⟨_,rfl,cO.iff.2 ⟨_,rfl,hsl.ev ⟨qab.mono λi hi=> .inr ⟨hi.1,by omega⟩,λi hi=> .inl (.inl hi)⟩,hss⟩⟩,?_⟩
 .exact oE.at_ (oD.at_ (by simpa [FA]using gC) (by omega)) (by omega)
 .exact oE.at_ (by simpa [ei]using gD1) (by omega)
 .simpa [ei]using gE2
 .exact ho.cV (qab) λi hi bH=>by omega
def OL(b bm:Nat)(lv:Value)(sz:Int)(T:List Tok)(hsh:qz T)(x:aG)(hp:ju 60 1 T=some (x,[]))(w:World)(hst:fm b bm lv sz T w 0):
 xC 272 #[xP b] w λe w'=>∃v,e=xR (.tuple #[v,xI 0,true])/\cB (fJ w) w' v x/\ao (bh b) w w':=by
 have Cs:∀(fn:Fn)(au cap:Array Value)(w:World),(Instr.makeFunc fn au cap).run prog w= .ok (.func fn au cap) w:=λ_ _ _ _=>rfl;have HE:=gQ (w:=w) (λW hb=>(US b bm lv sz T hsh 60).1 1 0 x [] W (by omega) (by omega) (hst.ae hb) (by simpa using hp));have hbl:=hst.lt;have ia:=ag hst;go_enter_defers func272,ntmps272;go_wp2_with fail;refine(HE.o _ (Bx.gj w _ _ _).1).mono ?_;rintro e w1⟨_,j,rfl,⟨cs,rfl,hrep⟩,hps,hj,hon⟩;obtain⟨xk,xn,xs,xl⟩:=x;obtain⟨av,rfl,hsl,hss⟩:=cO.iff.1 hrep;obtain⟨xa,xc,rfl,_⟩:=hsl.aq;have sY:=ag hps;have lI:Hd (ao (bh b) w w1):=((((ao.refl _ w).alloc _).alloc _).alloc _).trans hon;have gO:Hd (ab (dX (fJ w) w 3) w1 (xL xa xl.length xc) xl):=hsl.ev (Ev.dL w1 λi hi=>by
  show i<_;have:i<w\/(w<=i/\i<↑w+3):=hi;simp;omega);have HJ:=ag (show j=T.length by
  have h1:T.drop j=[]:=hj.symm;have h2:=hps.le;have h3:=congrArg List.length h1;simp at h3;omega);have Wf:Hd (w1.heap[w.heap.size]? =some (FA 0 0 () ())):=hon.at_ ((Bx.gj w _ (ei _ (xI 0)) (ei _ false)).bO rfl) (by unfold bh;omega);have mZ:Hd (w1.heap[w.heap.size+1]? =some (ei 3 (xI 0))):=hon.at_ ((Bx.gj w _ _ _).cg rfl) (by unfold bh;omega);have vI:Hd (w1.heap[w.heap.size+1+1]? =some (ei 4 false)):=hon.at_ ((Bx.gj w _ _ _).fB rfl) (by unfold bh;omega);have⟨r0,r1,r2,r3⟩:=af Wf.o;have⟨f0,f1,f2,f3⟩:=hZ Wf.o;have s0:=aj mZ.o 0;have s1:=aj vI.o 0;have m0:w1.cell? ([w],0)=some (xI 0):=by simp[World.cell?,mZ.o,ei]
 have m1:w1.cell? ([w,w],0)=some (xB false):=by simp[World.cell?,vI.o,ei]
 have⟨q0,q1,q2,q3⟩:=af sY.o.box;have yI:b≠w:=by omega
 have js:∃a c,lv=xL a T.length c:=by have⟨a,c,h,_⟩:=sY.o.cells;exact⟨a,c,h⟩
 obtain⟨lva,lvc,rfl⟩:=js;have bH:¬(j:Int)<(T.length:Int):=by have:=HJ.o;omega
 go_wp2_with fail;go_quiet(fail);go_wp2_with fail;have⟨W',hW'⟩:=bY ((((((((((((w1.setCell (w,0) xk).setCell (w,1) xn).setCell (w,2) xs).setCell (w,3) (xL xa xl.length xc)).drewN nq).setCell (w,0) xk).setCell (w,1) xn).setCell (w,2) xs).setCell (w,3) (xL xa xl.length xc)).setCell ([w],0) (xI 0)).setCell ([w,w],0) true));rw[<-hW'];have⟨g0,g1,g2,g3,g4⟩:=Ln hbl lI.o Wf.o mZ.o vI.o gO.o hss hW';have⟨a0,a1,a2,a3⟩:=af g0;have a4:W'.cell? ([w],0)=some (xI 0):=by simp[World.cell?,g1,ei]
 have a5:W'.cell? ([w,w],0)=some (xB true):=by simp[World.cell?,g2,ei]
 refine leaves_cons (f:=312) (args:= #[xP w,xP [w],xP [w,w]]) (by simp) (by simp[go_sem]) ?_;refine(GX ⟨w,0,none⟩ ⟨[w],0,none⟩ ⟨[w,w],0,none⟩ _).mono ?_;rintro e u' w''⟨rfl,rfl,rfl⟩;refine⟨.tuple #[.agg #[xk,xn,xs,xL xa xl.length xc],xI 0,true],by simp[results,results272,go_sem,a0,a1,a2,a3,a4,a5],⟨_,rfl,g3,g4⟩⟩
def DS(w:ax)(o:Obj):(w.alloc o).heap.size=[w]:=by simp
def DT:(Tryz.prog.info? 359).map (λi=>(i.zero,i.size,i.bytes))=some (some (.agg #[xI 0,xI 0,"",xI 0]),4,40):=by kernel_rfl
def Lo(s:aY)(w:ax):xC 271 #[s] w λe w'=>e=xR (.func (.func 310) #[] #[xP w.heap.size])/\w.alloc (xK #[s] 9)=w':=by
 have Cs:∀(fn:Fn)(au cap:Array aA)(w:ax),(Instr.makeFunc fn au cap).run prog w= .ok (.func fn au cap) w:=λ_ _ _ _=>rfl;go_enter func271,ntmps271;go_wp2;go_ret;exact⟨rfl,rfl⟩
def Lp(b bm:Nat)(sz:Nat)(T:List Tok)(w:ax)(i:Nat)(W:ax):Prop:=
 ∃lv,W.heap[b]? =some (xK #[lv,xI 0,sz, .map (some bm)] 354)/\aS xF (↑w+2) 359 W lv ((T.take i).map fQ)/\ao (λj=>j=b) w W/\eY W bm
theorem Lp.only {sz:Nat}{T:List Tok}{B:ax}(h:Lp b bm sz T w i A)(ho:ao (RA w 0) A B)(hb:b<w)(hm:bm<w):Lp b bm sz T w i B:=by
 obtain⟨lv,h1,h2,h3,h4⟩:=h;refine⟨lv,ho.at_ h1 (λh=>by have:=h.1;omega),?_,?_,h4.only ho (λh=>by have:=h.1;omega)⟩
 .obtain⟨css,k1,k2,k3⟩:=h2;refine⟨css,⟨k1.1,?_⟩,k2,k3⟩;rcases k1.2 with h0|⟨g,cap,cur,e1,e2,e3,e4⟩
  .exact .inl h0
  .exact .inr ⟨g,cap,cur,e1,e2,ho.at_ e3 (λh=>by have:=h.2;omega),e4⟩
 .exact h3.cV ho λi hi bH=>by have:=hi.1;omega
theorem aS.swap {α:Type} [aD α]{xs:List α}(h:aS M base e w v xs)(hS:∀{M M':aV}{cs:List aA}{x:α},aD.rep M w cs x->aD.rep M' w cs x):aS M' base e w v xs:=by
 obtain⟨css,k1,k2,k3⟩:=h;exact⟨css,k1,k2,λi cs x hc hx=>hS (k3 i cs x hc hx)⟩
def Lq {sz cap2:Nat}{T:List Tok}{W3:ax}{a2:fx}{t:Tok}(hon:ao (λj=>j=b) w2 W2)(MT:eY W2 bm)(hb:b<w2)(hne:bm≠b)(SV:bm<w2)(h3:Below (↑w2+2) (W2.alloc o) W3)(hz:w2.heap.size+2<=W2)
 (th:bW W3 b (xK #[lv,xI 0,sz, .map (some bm)] 354)){n:Nat}(hacc:aS xF (↑w2+2) 359 W3 (xL a2 n cap2) ((T.take i).map fQ++[fQ t]))(hT:(T.take (i+1)).map fQ=(T.take i).map fQ++[fQ t]):
 ao (M5 (λj=>j=b) w2 0) W2 (W3.setCell (b,0) (xL a2 n cap2))/\Lp b bm sz T w2 (i+1) (W3.setCell (b,0) (xL a2 n cap2)):=by
 have o3:ao (λj=>↑w2+2<=j) W2 W3:=by
  have h1:ao (λj=>↑w2+2<=j) W2 (W2.alloc o):=(ao.refl _ W2).alloc o;refine h1.trans ⟨h3.os,h3.tape,h3.output,h3.size,λj hj hS=>h3.block j (by omega)⟩
 have o4:ao (λj=>j=b) W3 (W3.setCell (b,0) (xL a2 n cap2)):=(ao.refl (λj=>j=b) W3).setCell (p:=⟨b,0,none⟩) (.inl rfl) _;have o5:ao (M5 (λj=>j=b) w2 0) W2 (W3.setCell (b,0) (xL a2 n cap2)):=(o3.mono λj hj=> .inr hj).trans (o4.mono λj hj=> .inl hj);refine⟨o5,_,by simpa using Qca W3 b 0 _ _ (xL a2 n cap2) th,?_,?_,MT.only o5 (λh=>by rcases h with h|h;exact hne h;omega)⟩
 .rw[hT];exact hacc.Kk o4 (λj hj=>by have:j=b:=hj;omega) (λh=>h)
 .exact hon.cV o5 λj hj bH=>by rcases hj with hj|hj;exact hj;omega
def j6 {S:aV}(h:Below B w w2)(hB:B<=w2)(k:ao S w2 W)(hS:∀i,S i->B<=i):Below B w W:=
 ⟨k.os.trans h.os,k.tape.trans h.tape,k.output.trans h.output,Qcg h.size k.size,λi hi=>(k.block i (by omega) (λhs=>by have:=hS i hs;omega)).trans (h.block i hi)⟩
def Lr {w4:ax}{xk xn:Int}{xs:aY}{sl:aA}(h0:dk w4 w (FA 0 0 () ()))(h1:bW w4 [w] (ei 3 (xI 0)))(h2:bW w4 [w,w] (ei 37 (xI 0)))
 (hW:W'=(((((w4.setCell (w,0) xk).setCell (w,1) xn).setCell (w,2) xs).setCell (w,3) sl).setCell ([w],0) (xI 0)).setCell ([w,w],0) (xI 0)):
 W'.heap[w.heap.size]? =some (FA xk xn xs sl)/\W'.heap[w.heap.size+1]? =some (ei 3 (xI 0))/\W'.heap[w.heap.size+1+1]? =some (ei 37 (xI 0))/\ao (λj=>w<=j/\j<↑w+3) w4 W':=by
 have⟨C,hC⟩:=bY ((((w4.setCell (w,0) xk).setCell (w,1) xn).setCell (w,2) xs).setCell (w,3) sl);have oC:ao (λi=>i=w) w4 C:=by rw[hC];exact((((ao.refl (λi=>i=w) w4).setCell (p:=⟨w,0,none⟩) (.inl rfl) _).setCell (p:=⟨w,1,none⟩) (.inl rfl) _).setCell (p:=⟨w,2,none⟩) (.inl rfl) _).setCell (p:=⟨w,3,none⟩) (.inl rfl) _
 have gC:=iQ (o:=0) h0 xk xn xs sl;simp only[Nat.zero_add]at gC;rw[<-hC]at gC hW;have gC1:=oC.at_ h1 (by omega);have gC2:=oC.at_ h2 (by omega);have⟨D,hD⟩:=bY (C.setCell ([w],0) (xI 0));have oD:ao (λi=>i=[w]) C D:=by rw[hD];exact(ao.refl (λi=>i=[w]) C).setCell (p:=⟨[w],0,none⟩) (.inl rfl) _
 have gD1:=Qca C [w] 0 _ _ (xI 0) gC1;rw[<-hD]at gD1 hW;have oE:ao (λi=>i=[w,w]) D W':=by rw[hW];exact(ao.refl (λi=>i=[w,w]) D).setCell (p:=⟨[w,w],0,none⟩) (.inl rfl) _
 have gE2:=Qca D [w,w] 0 _ _ (xI 0) (oD.at_ gC2 (by omega));rw[<-hW]at gE2;refine⟨oE.at_ (oD.at_ (by simpa [FA]using gC) (by omega)) (by omega),oE.at_ (by simpa [ei]using gD1) (by omega),by simpa [ei]using gE2,?_⟩;exact((oC.mono λi hi=>by have:i=w:=hi;omega).trans (oD.mono λi hi=>by have:i=[w]:=hi;omega)).trans (oE.mono λi hi=>by have:i=[w,w]:=hi;omega)
def OM(w:ax)(x:aG)(v:aA)(w':ax):Prop:=∃u,v= .tuple #[u,xI 0,xI 0]/\cB (fJ w) w' u x
def Ls(s:ByteArray)(x:aG)(T:List Tok)(hs:s.size<=200)(hT:lU s 0 T)(hsh:qz T)(hk:∀t∈T,1<=t.an/\t.an<=4)(hl:T.length<=200)(hp:ju 60 1 T=some (x,[]))(hxn:iG x=true)(hxd:kX x<=8)(hxs:eB x<=40)(w:World)(hTb:Tb w):
 xG 237 #[s] w (OM w x):=by
 have VK:=ag hT;have XV:=ag hTb;have HK:=ag hk;clear hT hTb hk;refine callsIn_wide.1 (callsIn_of_wp_marks (n:=0) func237 rfl trivial (wpIn_wide.2 ?_) rfl);simp only[ntmps237,List.size_toArray,Qcc,Qcd,Nat.reduceAdd,Nat.reduceSub,Array.replicate_succ,Array.replicate_zero,List.push_toArray,List.append_toArray,List.nil_append,List.cons_append];go_wp2_with fail;refine(uM _).mono ?_;rintro e w1⟨bm,rfl,MT,SV,hb1⟩;have bz:=ag ((Bx.gj w (FA 0 0 () ()) (ei 3 (xI 0)) (ei 37 (xI 0))).ae hb1);have VI:=ag MT;have ni:Hd (bm<w1):=(Qaa.1 MT).1;clear hb1 MT;go_wp2_with fail;refine(Lo s _).mono ?_;rintro e w2⟨rfl,rfl⟩;go_wp2_with fail;have⟨w2,hw2⟩:=bY ((w1.alloc (xK #[(),xI 0,s.size, .map (some bm)] 354)).alloc (xK #[s] 9));have bg:=ag (show Bx w [FA 0 0 () (),ei 3 (xI 0),ei 37 (xI 0)] w2 by rw[hw2];exact(bz.o.alloc _).alloc _);have qac:=ag (show eY w2 bm by rw[hw2];exact VI.o.ae (bU.alloc (by simp) _));have HPB:=ag (show w2.heap[w1.heap.size]? =some (xK #[(),xI 0,s.size, .map (some bm)] 354)by rw[hw2];exact(Bx.du w1 _ _).bO rfl);have sY:=ag (show w2.heap[w1.heap.size+1]? =some (xK #[s] 9)by rw[hw2];exact(Bx.du w1 _ _).cg rfl);have hz2:w2.heap.size=[w1,w1]:=by rw[hw2];simp
 have hz1:=bz.o.bQ;rw[<-hw2];have I1:Hd (bm<w2):=(Qaa.1 qac.o).1;clear hw2 VI;simp only[Qcc,Qcd]at hz1;have yO:=ag (show GA prog 310 #[xP [w1]] w2 (λi=>i=w1) 0 0 (GO T) (λi=>i=T.length)from
  GP s hs T VK.o [w1] w w2 bg.o.1 XV.o (by have:=sY.o;simp[World.cell?,this]) (by omega) _ (by omega) (λi hi=>by rw[hi];omega));refine wpIn_wide.1 (pV rfl (enters_of func310 (by kernel_rfl) rfl) (λi=>i=w1) 0 0 (GO T) (λi=>i=T.length) yO.o (λi args i' W h=>by obtain⟨t,_,rfl,_⟩:=h;rfl) (λi hi=>by rw[hi];omega)
  (Lp w1 bm s.size T w2) (λ_ _=>False) (λi A B h ho=>h.only ho (by omega) I1.o) (λc A B h _=>h) ?h0 ?hround ?hdone ?hstop);case h0=>
  exact⟨_,HPB.o,aS.nil _ _ _ _,ao.refl _ _,qac.o⟩
 case hround=>
  intro l i args i' W hI hTl hsz;obtain⟨t,ht,rfl,rfl,P9⟩:=hTl;obtain⟨lv,th,hacc,hon,MT⟩:=hI;simp only[kB];gi_wp2_with(rw[Oper.semAt_eq _ _ _ (λc h=>by cases h)];go_simp;try go_bits);have hP:Lp w1 bm s.size T w2 i W:=⟨_,th,hacc,hon,MT⟩;refine⟨(ao.refl _ W).alloc _,λW2 ho2 hzW=> ?_⟩;have hP2:=(hP.only ((ao.refl (RA w2 0) W).alloc _) (by omega) I1.o).only (ho2.mono λi hi=>(show RA w2 0 i from by have:i=[w2]:=hi;exact⟨by omega,by omega⟩)) (by omega) I1.o;have Qu:=ho2.at_ (Qbh W _) (by show¬W.heap.size=[w2];omega);obtain⟨lv,th,hacc,hon,MT⟩:=hP2;obtain⟨a,cap,rfl,hcl,MD⟩:=hacc.aq;have qdk:=ag th;have lD:=ag hacc;have lI:=ag hon;have qdl:=ag MT;have HPC:=ag Qu;have⟨q0,q1,q2,q3⟩:=af Qu;have⟨p0,p1,p2,p3⟩:=af th;have hk1:((t.an:Int)==0)=false:=by simp;omega
  have⟨i0,hi0,hzz0,hzz1,hzz2⟩:=info_parts DT;have vZ:=(Qad.1 ht).1;have nN:=ag (show(T.take (i+1)).map fQ=(T.take i).map fQ++[fQ t]by rw[Qbb,ht];simp);simp only[Qdc,Qdb]at hcl p0;rw[Nat.min_eq_left (by omega)]at hcl p0;have zG:=ag (show(bL t.s).size<=200 by have:=(hsh t (Qaf ht)).1;simpa [bL,ByteArray.size]using this);have eJ:=ag (show((T.take i).map fQ).length=i by simp;omega);have dr:=ag (show aS xF (↑w2+2) 359 W2 (xL a i cap) ((T.take i).map fQ)by have h:=lD.o;rw[eJ.o]at h;exact h);have qdm:=ag (show W2.heap[w1.heap.size]? =some (xK #[xL a i cap,xI 0,s.size, .map (some bm)] 354)by have h:=qdk.o;rw[eJ.o]at h;exact h);simp only[DS]at hzW;clear th hacc hon MT Qu hP ht ho2;gi_wp2_with(first
   |(gi_at_builtin;go_loud(refine qp (α:=wD) rfl _ _ _ rfl xF (↑w2+2) 359 i0 _ 40 underlying349 hi0 hzz0 hzz1 hzz2 rfl (by decide) (.slice a i cap) ((T.take i).map fQ) rfl (dr.o.alloc _) (λ_=>True) _ _ (fQ t) rfl (fN _ _ _ _ 4 rfl hzW trivial) ⟨rfl,zG.o⟩ (by rw[eJ.o];unfold maxLen;omega) (by rw[eJ.o];omega) (by show _<=(W2.alloc _).heap.size;simp;omega) ?_);rw[eJ.o];intro a2 c2 W3 kh yQ hb3;have pN:=ag kh;have bV:=ag hb3;have Wg:Hd (W3.heap[w1.heap.size]? =some (xK #[xL a i cap,xI 0,s.size, .map (some bm)] 354)):=(hb3.block _ (by omega)).trans ((Qcb W2 _ _ (by omega)).trans qdm.o);have p0':=(af Wg.o).1;have f0':=aj Wg.o 0;clear kh yQ hb3)
   |(rw[Oper.semAt_eq _ _ _ (λc h=>by cases h)];go_simp;try go_bits));exact Lq lI.o qdl.o (by omega) (by have:=ni.o;omega) I1.o bV.o (by omega) Wg.o pN.o nN.o
 case hdone=>
  intro i W hE hI hD;obtain rfl:i=T.length:=hE;obtain⟨lv,th,hacc,hon,MT⟩:=hI;rw[List.take_length]at hacc;have hbW:=bg.o.1.size;have hsW:=hon.size;have HPX:Hd (fm w1 bm lv s.size T W 0):=⟨th,(hacc.swap (M':=bh w1) (λh=>h)).slice (λj hj=>by have:j=w1:=hj;omega),MT,by have:=ni.o;omega,hl,Qbf _,HK.o⟩;have HWH:=ag (OL w1 bm lv s.size T hsh x hp W HPX.o);have lI:=ag hon;have HD:=ag hD;clear th hacc hon MT hD hp;go_wp2_with fail;refine(HWH.o).mono ?_;rintro e w3⟨_,rfl,hag,zI⟩;have HR:Hd (∀W' v,aC w3 W'->cB (fJ W) w3 v x->_):=λW' v hb ha=>Ao x hxn hxd hxs (fJ W) W' v (λj hj=>by
   have:j<W:=hj;have h1:=zI.size;have h2:=hb.size;omega) (ha.ae hb) (XV.o.ae ((j6 (j6 bg.o.1 hbW lI.o (λj hj=>by omega)) (by omega) zI (λj hj=>by have:j=w1:=hj;omega)).trans (hb.mono (by have:=zI.size;omega))));obtain⟨xk,xn,xs,xl⟩:=x;have tg:=ag hag;obtain⟨cs,rfl,hrep⟩:=hag;obtain⟨av,rfl,hsl,hss⟩:=cO.iff.1 hrep;obtain⟨xa,xc,rfl,_⟩:=hsl.aq;have gO:=ag hsl;have R0:=zI.at_ (lI.o.at_ (bg.o.bO rfl) (by omega)) (by unfold bh;omega);have R1:=zI.at_ (lI.o.at_ (bg.o.cg rfl) (by omega)) (by unfold bh;omega);have R2:=zI.at_ (lI.o.at_ (bg.o.fB rfl) (by omega)) (by unfold bh;omega);have HD3:=ag (zI.at_ HD.o (by unfold bh;omega));have bV:Hd (aC w w3):=j6 (j6 bg.o.1 hbW lI.o (λj hj=>by omega)) (by omega) zI (λj hj=>by have:j=w1:=hj;omega);have Wf:=ag R0;have mZ:=ag R1;have vI:=ag R2;have Q3:=zI.size;clear hrep hsl zI hxn hxd hxs R0 R1 R2;go_wp2_with fail;refine(HR.o _ _ bU tg.o).mono ?_;rintro e w4⟨rfl,eA⟩;have nQ:Hd (w4.heap[w3.heap.size]? =some (FA xk xn xs (xL xa xl.length xc))):=boxed eA;have ek:=ag (bt eA);have⟨q0,q1,q2,q3⟩:=af nQ.o;have lt0:w.heap.size<w3:=by omega
  have lt1:w.heap.size+1<w3:=by omega
  have lt2:w.heap.size+1+1<w3:=by omega
  have Wh:=ag ((ek.o.block _ lt0).trans Wf.o);have Wi:=ag ((ek.o.block _ lt1).trans mZ.o);have Wj:=ag ((ek.o.block _ lt2).trans vI.o);have FO:=ag ((ek.o.block _ (Qaa.1 HD3.o).1).trans HD3.o);have⟨r0,r1,r2,r3⟩:=af Wh.o;have⟨f0,f1,f2,f3⟩:=hZ Wh.o;have s0:=aj Wi.o 0;have s1:=aj Wj.o 0;have m0:w4.cell? ([w],0)=some (xI 0):=by simp[World.cell?,Wi.o,ei]
  have m1:w4.cell? ([w,w],0)=some (xI 0):=by simp[World.cell?,Wj.o,ei]
  clear eA HR;go_wp2_with fail;have⟨W',hW'⟩:=bY ((((((w4.setCell (w,0) xk).setCell (w,1) xn).setCell (w,2) xs).setCell (w,3) (xL xa xl.length xc)).setCell ([w],0) (xI 0)).setCell ([w,w],0) (xI 0));rw[<-hW'];have⟨g0,g1,g2,g3⟩:=Lr Wh.o Wi.o Wj.o hW';have gd:=g3.at_ FO.o (by omega);refine⟨by simp, .inl ⟨_,_,rfl,run_takeDeferred gd,?_⟩⟩;have⟨W2,hW2⟩:=bY (W'.putObj w2 (.deferred none));rw[<-hW2];have o2:ao (λj=>j=w2) W' W2:=by rw[hW2];exact(ao.refl (λj=>j=w2) W').putObj (.inl rfl) _
  have o4:ao (λj=>w<=j/\j<=w2) w4 W2:=(g3.mono λj hj=>⟨hj.1,by omega⟩).trans (o2.mono λj hj=>by have:j=w2:=hj;omega);have k0:=o2.at_ g0 (by omega);have k1:=o2.at_ g1 (by omega);have k2:=o2.at_ g2 (by omega);have h2W:w2.heap.size<W:=(Qaa.1 HD.o).1;have⟨a0,a1,a2,a3⟩:=af k0;have a4:W2.cell? ([w],0)=some (xI 0):=by simp[World.cell?,k1,ei]
  have a5:W2.cell? ([w,w],0)=some (xI 0):=by simp[World.cell?,k2,ei]
  refine⟨.tuple #[.agg #[xk,xn,xs,xL xa xl.length xc],xI 0,xI 0],by simp[results,results237,go_sem,a0,a1,a2,a3,a4,a5],(show cm _ _ _ _ from⟨_,rfl,⟨_,rfl,⟨_,rfl,cO.iff.2 ⟨_,rfl,?_,hss⟩⟩⟩,?_⟩)⟩
  .refine ab.ev (gO.o.ae ek.o) ⟨o4.mono λj hj=> ?_,λj hj=> .inl ?_⟩
   .show j<W;omega
   .have h1:j<w:=hj;show j<W;omega
  .exact j6 (bV.o.trans (ek.o.mono (by omega))) (by have:=ek.o.size;omega) o4 (λj hj=>hj.1)
 case hstop=>intro c W h;exact h.elim
end
end Go.Proofs.YtepaofffbkfodaaGreatDoor
