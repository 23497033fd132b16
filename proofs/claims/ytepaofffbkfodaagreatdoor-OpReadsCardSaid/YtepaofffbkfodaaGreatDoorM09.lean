/- A part of OpReads's proof; no condition. -/
import Derived.Test.YtepaofffbkfodaaGreatDoorM07
import Derived.Test.YtepaofffbkfodaaGreatDoorM08
set_option linter.all false
set_option maxHeartbeats 8000000
set_option maxRecDepth 100000
namespace Go.Proofs.YtepaofffbkfodaaGreatDoor
open Tryz
variable{l vs us:List aA}{s nm:aM}{v u fv cv:an}{w W wr:aj}{M F:aN}{many:Int}{i B cap base X k g b j K:Nat}{e t:TypeId}{a:fA}{ls:List aH}{c d:ax}{x:aC}{f:az}{cur:Array an}{cs:List an}
section
open Go.RowKit
def xq(k n:Int)(a:fA)(cap:Nat)(w:aj):
 xC 100 #[.agg #[xI k,xI n,xS ⟨#[]⟩,xL a 0 cap]] w (cr (xB true) w):=by
 go_enter func100,ntmps100;go_wp2;go_ret;exact⟨rfl,bM⟩
def Dt(n:Int)(h1:1<=n)(h2:n<=100000)(w:aj):xC 102 #[xI n] w (ji (xB true) w):=by
 go_enter func102,ntmps102;go_wp2;go_ret;exact⟨rfl,rfl⟩
def Lz(r:Int)(h1:32<=r)(h2:(r !=127)=true)(w:aj):xC 165 #[.int .i32 r] w (ji (xB true) w):=by
 go_enter func165,ntmps165;go_wp2;go_ret;exact⟨rfl,rfl⟩
def zr(s:aM)(h:fQ s)(w:aj)(hT:Tb w):xC 101 #[xS s] w (cr (xB true) w):=by
 have HT:=af hT;have qg3:=h.1;have HS:=af h.2;have HV:Hd (∀W,Tb W->_):=λW hT=>by
  have h1:=Lu s W (by omega) hT;rw[Ds HS.o]at h1;exact h1
 go_enter func101,ntmps101;go_wp2_with fail;refine bY (HV.o _ HT.o) λw1 aF=> ?_;have aY:=af aF;go_wp2;go_loopg [4](s.size+1)(λg _ wr=>∃p:Nat,p<=s.size/\g=s.size+1-p/\wr=w1.iter s p/\Hd (qy s p));case atStart=>exact⟨0,Qbf _,rfl,rfl,(uf HS.o)⟩
 case round=>
  obtain⟨p,hp,rfl,rfl,HA⟩:=hrel;by_cases bu:p<s.size
  .obtain⟨r,k,hd,hk,Tt⟩:=HA.o.step bu;have hn:=run_next_any (P:=prog) w1 s p 0 bu;rw[hd]at hn;dsimp only at hn;have RH:(32:Int)<=(r:Int):=by omega
   have qdn:((r:Int)!=127)=true:=by simp;omega
   have oF:1<=k:=by omega
   have hA3:=Tt.1;have lK:=af Tt;go_wp2_with fail;refine cT (Lz _ RH qdn _) ?_;go_wp2;go_roundg(s.size+1-(p+k));case measure=>omega
   case rel=>exact⟨p+k,hA3,rfl,rfl,lK⟩
  .have hn:=run_next_end (P:=prog) w1 s p 0 bu;go_wp2;go_ret;exact⟨rfl,aY.o.alloc aY.o.size _⟩
def LA(a:fA)(cap:Nat)(w:aj):
 xC 44 #[.agg #[xI 0,xI 0,xS ⟨#[]⟩,xL a 0 cap]] w (cr (xB true) w):=by
 go_enter func44,ntmps44;go_wp2_with fail;refine bY (xq _ _ _ _ _) λw1 aF=> ?_;obtain⟨g0,g1,g2,g3⟩:=ae (boxed aF);have HB:=af (aU aF);go_wp2;go_ret;exact⟨rfl,HB.o⟩
def LB(n:Int)(h1: -1000000000000000<=n)(h2:n<=1000000000000000)(a:fA)(cap:Nat)(w:aj):
 xC 44 #[.agg #[xI 1,xI n,xS ⟨#[]⟩,xL a 0 cap]] w (cr (xB true) w):=by
 go_enter func44,ntmps44;go_wp2_with fail;refine bY (xq _ _ _ _ _) λw1 aF=> ?_;obtain⟨g0,g1,g2,g3⟩:=ae (boxed aF);have HB:=af (aU aF);go_wp2;go_ret;exact⟨rfl,HB.o⟩
def xu(s:aM)(h:fQ s)(a:fA)(cap:Nat)(w:aj)(hT:Tb w):
 xC 44 #[.agg #[xI 2,xI 0,xS s,xL a 0 cap]] w (cr (xB true) w):=by
 have HR:Hd (∀W,Tb W->_):=λW hT=>zr s h W hT;have HT:=af (λo=>hT.below (w':=w.alloc o) bM);go_enter func44,ntmps44;go_wp2_with fail;refine bY (HR.o _ (HT.o _)) λw1 aF=> ?_;have HB:=af (aU aF);go_wp2;go_ret;exact⟨rfl,HB.o⟩
def LC(k n:Int)(hk:k=3\/k=4)(h1:1<=n)(h2:n<=100000)(a:fA)(cap:Nat)(w:aj):
 xC 44 #[.agg #[xI k,xI n,xS ⟨#[]⟩,xL a 0 cap]] w (cr (xB true) w):=by
 rcases hk with rfl|rfl;all_goals
  go_enter func44,ntmps44;go_wp2_with fail;refine bY (xq _ _ _ _ _) λw1 aF=> ?_;obtain⟨g0,g1,g2,g3⟩:=ae (boxed aF);have HB:=af (aU aF);go_wp2_with fail;refine cT (Dt n h1 h2 _) ?_;go_wp2;go_ret;exact⟨rfl,HB.o⟩
def dd {k n:Int}(h:ct M w v (aA.mk k n s l)):∃a cap,v= .agg #[xI k,xI n,xS s,xL a l.length cap]/\ab M w (xL a l.length cap) l:=by
 obtain⟨cs,rfl,hr⟩:=h;obtain⟨av,rfl,hs,_⟩:=eZ.iff.1 hr;have j6:=hs;obtain⟨a,cap,rfl,_⟩:=j6.open_;exact⟨a,cap,rfl,hs⟩
def Ap {k:Int}{v:aA}(h:lh k many v)(hm:many<=100000)(hu:ct M w u v)(hT:Tb w):
 xC 44 #[u] w (cr (xB true) w):=by
 rcases h with⟨_,n,rfl,h1,h2⟩|⟨_,s,rfl,h1⟩|⟨hk,rfl|⟨n,rfl,h1,h2⟩⟩
 .obtain⟨a,cap,rfl,_⟩:=dd hu;exact LB n h1 h2 a cap w
 .obtain⟨a,cap,rfl,_⟩:=dd hu;exact xu s h1 a cap w hT
 .obtain⟨a,cap,rfl,_⟩:=dd hu;exact LA a cap w
 .obtain⟨a,cap,rfl,_⟩:=dd hu;exact LC k n hk h1 (by omega) a cap w
def LD {k:Int}{v:aA}(h:lh k many v):v.kind≠5:=by
 rcases h with⟨_,n,rfl,h1,h2⟩|⟨_,s,rfl,h1⟩|⟨hk,rfl|⟨n,rfl,h1,h2⟩⟩<;>simp[aA.kind];omega
def LF {k:Int}{v:aA}(h:lh k many v)(hm:many<=100000)(hu:ct M w u v)(hT:Tb w):
 xC 104 #[u] w (cr (xB false) w):=by
 have HR:=gG (w:=w) (λW hb=>Ap h hm (hu.below hb) (hT.below hb));have Yb:(v.kind==5)=false:=by simpa using LD h
 obtain⟨vk,vn,vs,vl⟩:=v;obtain⟨a,cap,rfl,_⟩:=dd hu;dsimp only[aA.kind]at Yb;go_enter func104,ntmps104;go_wp2_with fail;refine bY (HR.o _ bM) λw1 aF=> ?_;have HB:=af (aU aF);go_wp2;go_ret;exact⟨rfl,HB.o⟩
def dy(h:ab M w v l){k n:Int}{ll:List aA}(hx:l[i]? =some (.mk k n s ll)):∃b off cap a c,v=xL (some ⟨b,off,none⟩) l.length cap/\b<w.heap.size/\ab M w (xL a ll.length c) ll/\s.size<=maxLen/\∀W,aq w W->(bt W b (off+i*4) (xI k)/\bt W b (off+i*4+1) (xI n)/\bt W b (off+i*4+2) (xS s)/\bt W b (off+i*4+3) (xL a ll.length c))/\ct M W (.agg #[xI k,xI n,xS s,xL a ll.length c]) (aA.mk k n s ll):=by
 obtain⟨a,cap,rfl,hl,_,hc⟩:=h.open_;have hk:=(Qad.1 hx).1;obtain⟨b,off,rfl,_,hb,aL⟩:=hc (by omega);obtain⟨cs,hr,bJ⟩:=aL i _ hx;have hr0:=hr;obtain⟨av,rfl,hs,hsz⟩:=eZ.iff.1 hr;have j6:=hs;obtain⟨a,c,rfl,_⟩:=j6.open_;refine⟨b,off,cap,a,c,rfl,hb,hs,hsz,λW hB=>⟨?_,_,rfl,au.ev hr0 (Ev.ao hB)⟩⟩;have g:∀j u,([xI k,xI n,xS s,xL a ll.length c]:List an)[j]? =some u->bt W b (off+i*4+j) u:=λj u hu=>(hB.cell (p:=⟨b,off+i*4+j,none⟩) hb).trans (bJ j u hu);exact⟨g 0 _ rfl,g 1 _ rfl,g 2 _ rfl,g 3 _ rfl⟩
def BI(k many:Int)(hm:many<=100000)(l:List aA)(hl:∀x∈l,lh k many x)(M:aN)(v:an)(w:aj)(h:ab M w v l)(hT:Tb w):
 xC 166 #[v, .func (.func 104) #[] #[]] w (cr (xI (-1)) w):=by
 have HC:Hd (∀(i:Nat)(k n:Int)(s:aM)(ll:List aA),l[i]? =some (.mk k n s ll)->_):=λi k n s ll hx=>dy h hx;have HN:Hd (∀W(x:aA)u,aq w W->x∈l->ct M W u x->_):=λW x u hb hx hu=>LF (hl x hx) hm hu (hT.below hb);obtain⟨a,bQ,rfl,cV,lL,_⟩:=h.open_;generalize hn:l.length=n at*;have eF:=af hn;go_enter func166,ntmps166;go_wp2;go_loopg [5,8]n(λg _ iv wr=>∃k:Nat,k<=n/\g=n-k/\iv=xI k/\Hd (aq w wr));case atStart=>exact⟨0,Qbf _,rfl,rfl,dQ⟩
 case round=>
  obtain⟨i,hi,rfl,rfl,HB⟩:=hrel;by_cases bu:i<n
  .obtain⟨⟨xk,xn,xs,xl⟩,hx⟩:=eB l i (by rw[eF.o];exact bu);obtain⟨b,off,cap,a',c',hv,hb,_,_,ay⟩:=HC.o i xk xn xs xl hx;obtain⟨rfl,rfl⟩:=iB hv;obtain⟨⟨g0,g1,g2,g3⟩,gq⟩:=ay wr HB.o;have mP:=af (HN.o wr _ _ HB.o (Qaf hx) gq);go_wp2_with fail;refine mP.o.mono ?_;rintro e w1⟨rfl,aF⟩;have aY:Hd (aq w w1):=HB.o.trans (aF.mono HB.o.size);go_wp2;go_roundg(n-(i+1));case measure=>omega
   case rel=>exact⟨i+1,by omega,rfl,by go_num,aY⟩
  .go_wp2;go_ret;exact⟨rfl,HB.o⟩
def vB(k many:Int)(hm:many<=100000)(l:List aA)(hl:∀x∈l,lh k many x)(M:aN)(v:an)(w:aj)(h:ab M w v l)(hT:Tb w):
 xC 103 #[v, .func (.func 104) #[] #[]] w (cr (xB false) w):=by
 have HI:=af (BI k many hm l hl M v w h hT);go_enter func103,ntmps103;go_wp2_with fail;refine HI.o.mono ?_;rintro e w1⟨rfl,aF⟩;have HB:=af aF;go_wp2;go_ret;exact⟨rfl,HB.o⟩
def G4(k many:Int)(hm:many<=100000)(l:List aA)(hl:∀x∈l,lh k many x)(Ga:l.length<=12)(M:aN)(a:fA)(cap:Nat)(w:aj)(h:ab M w (xL a l.length cap) l)(hT:Tb w):
 xC 44 #[.agg #[xI 5,xI 0,xS ⟨#[]⟩,xL a l.length cap]] w (cr (xB true) w):=by
 have HCN:=gG (w:=w) (λW hb=>vB k many hm l hl M _ W (h.below hb) (hT.below hb));go_enter func44,ntmps44;go_wp2_with fail;refine bY (HCN.o _ bM) λw1 aF=> ?_;have HB:=af (aU aF);go_wp2;go_ret;exact⟨rfl,HB.o⟩
def rY {t:aT}{v:aA}(h:dx t many v)(hm:many<=100000)(hu:ct M w u v)(hT:Tb w):
 xC 44 #[u] w (cr (xB true) w):=by
 rcases h with⟨ht,l,rfl,hl,ha⟩|⟨ht,h1⟩
 .obtain⟨a,cap,rfl,hs⟩:=dd hu;exact G4 t.of many hm l ha hl M a cap w hs hT
 .exact Ap h1 hm hu hT
def oS(t:aT)(h:aG t=true)(w:aj):xC 253 #[.agg #[xI t.kind,xI t.of]] w (cr (xB true) w):=by
 obtain⟨k,o⟩:=t;dsimp only at*;unfold aG at h;dsimp only at h;by_cases h5:k=5
 .subst h5;simp at h;obtain⟨h1,h2⟩:=h;go_enter func253,ntmps253;go_wp2;go_ret;exact⟨rfl,bM⟩
 .rw[if_neg h5]at h;simp at h;obtain⟨h1,h2,h3⟩:=h;have e5:(k==5)=false:=by simpa using h5
  subst h3;clear h5;go_enter func253,ntmps253;go_wp2;go_ret;exact⟨rfl,bM⟩
def xw(vk vn:Int)(vs:aM)(a:fA)(n cap:Nat)(k:Int)(h:vk=k\/(vk=0/\(k=3\/k=4)))(w:aj):
 xC 254 #[.agg #[xI vk,xI vn,xS vs,xL a n cap],xI k] w (cr (xB true) w):=by
 rcases h with rfl|⟨rfl,rfl|rfl⟩
 .go_enter func254,ntmps254;go_wp2;go_ret;exact⟨rfl,bM⟩
 .go_enter func254,ntmps254;go_wp2;go_ret;exact⟨rfl,bM⟩
 .go_enter func254,ntmps254;go_wp2;go_ret;exact⟨rfl,bM⟩
def JX {k:Int}{v:aA}(h:lh k many v):v.kind=k\/(v.kind=0/\(k=3\/k=4)):=by
 rcases h with⟨rfl,n,rfl,h1,h2⟩|⟨rfl,s,rfl,h1⟩|⟨hk,rfl|⟨n,rfl,h1,h2⟩⟩
 .exact .inl rfl
 .exact .inl rfl
 .exact .inr ⟨rfl,hk⟩
 .exact .inl rfl
def OI {v:aA}(k o:Int)(p:Nat)(h:lh o many v)(hu:ct M w u v)(hp:bR w p (xK #[xI k,xI o] 49)):
 xC 255 #[u,xP p] w (cr (xB false) w):=by
 have ho:=JX h;obtain⟨vk,vn,vs,vl⟩:=v;obtain⟨a,cap,rfl,_⟩:=dd hu;have HO:Hd (∀W,_):=λW=>xw vk vn vs a vl.length cap o ho W;obtain⟨c0,c1⟩:=ah hp;have ij:p<w.heap.size:=(Qaa.1 hp).1;have We:p≠w.heap.size:=by omega
 clear hu h ho hp;go_enter func255,ntmps255;go_wp2_with fail;refine bY (HO.o _) λw1 aF=> ?_;have HB:=af (aU aF);clear aF;go_wp2;go_ret;exact⟨rfl,HB.o⟩
def BJ(k o many:Int)(p:Nat)(l:List aA)(hl:∀x∈l,lh o many x)(M:aN)(v:an)(w:aj)(h:ab M w v l)(hp:bR w p (xK #[xI k,xI o] 49)):
 xC 166 #[v, .func (.func 255) #[] #[xP p]] w (cr (xI (-1)) w):=by
 have HC:Hd (∀(i:Nat)(k n:Int)(s:aM)(ll:List aA),l[i]? =some (.mk k n s ll)->_):=λi k n s ll hx=>dy h hx;have ij:p<w.heap.size:=(Qaa.1 hp).1;have HN:Hd (∀W(x:aA)u,aq w W->x∈l->ct M W u x->_):=λW x u hb hx hu=>OI k o p (hl x hx) hu ((hb.block p ij).trans hp);obtain⟨a,bQ,rfl,cV,lL,_⟩:=h.open_;clear h hl hp ij;generalize hn:l.length=n at*;have eF:=af hn;clear hn;go_enter func166,ntmps166;go_wp2;go_loopg [5,8]n(λg _ iv wr=>∃k:Nat,k<=n/\g=n-k/\iv=xI k/\Hd (aq w wr));case atStart=>exact⟨0,Qbf _,rfl,rfl,dQ⟩
 case round=>
  obtain⟨i,hi,rfl,rfl,HB⟩:=hrel;by_cases bu:i<n
  .obtain⟨⟨xk,xn,xs,xl⟩,hx⟩:=eB l i (by rw[eF.o];exact bu);obtain⟨b,off,cap,a',c',hv,hb,_,_,ay⟩:=HC.o i xk xn xs xl hx;obtain⟨rfl,rfl⟩:=iB hv;obtain⟨⟨g0,g1,g2,g3⟩,gq⟩:=ay wr HB.o;have mP:=af (HN.o wr _ _ HB.o (Qaf hx) gq);clear hv ay gq hx;go_wp2_with fail;refine mP.o.mono ?_;rintro e w1⟨rfl,aF⟩;have aY:Hd (aq w w1):=HB.o.trans (aF.mono HB.o.size);clear aF;go_wp2;go_roundg(n-(i+1));case measure=>omega
   case rel=>exact⟨i+1,by omega,rfl,by go_num,aY⟩
  .go_wp2;go_ret;exact⟨rfl,HB.o⟩
def vC(k o many:Int)(p:Nat)(l:List aA)(hl:∀x∈l,lh o many x)(M:aN)(v:an)(w:aj)(h:ab M w v l)(hp:bR w p (xK #[xI k,xI o] 49)):
 xC 103 #[v, .func (.func 255) #[] #[xP p]] w (cr (xB false) w):=by
 have HI:=af (BJ k o many p l hl M v w h hp);clear h hl hp;go_enter func103,ntmps103;go_wp2_with fail;refine HI.o.mono ?_;rintro e w1⟨rfl,aF⟩;have HB:=af aF;clear aF;go_wp2;go_ret;exact⟨rfl,HB.o⟩
def OJ {t:aT}{v:aA}(h:dx t many v):v.kind=t.kind\/(v.kind=0/\(t.kind=3\/t.kind=4)):=by
 rcases h with⟨h5,l,rfl,_⟩|⟨_,h1⟩
 .exact .inl h5.symm
 .exact JX h1
def G5 {t:aT}{v:aA}(h:dx t many v):∀x∈v.list,lh t.of many x:=by
 rcases h with⟨h5,l,rfl,_,ha⟩|⟨_,h1⟩
 .exact ha
 .have:=(kE h1 (.inl rfl)).1.1;rw[this];intro x hx;cases hx
def OK {t:aT}{v:aA}(h:dx t many v)(ht:aG t=true)(hm:many<=100000)(hu:ct M w u v)(hT:Tb w):
 xC 200 #[u, .agg #[xI t.kind,xI t.of]] w (cr (xB true) w):=by
 have HR:=gG (w:=w) (λW hb=>rY h hm (hu.below hb) (hT.below hb));have HT:Hd (∀W,_):=λW=>oS t ht W;have NR:=OJ h;have Gb:=G5 h;obtain⟨vk,vn,vs,vl⟩:=v;obtain⟨a,cap,rfl,hs⟩:=dd hu;obtain⟨tk,F0⟩:=t;dsimp only[aA.kind,aA.list]at*;have HO:Hd (∀W,_):=λW=>xw vk vn vs a vl.length cap tk NR W;have HCN:Hd (∀W,Bx w [xK #[xI vk,xI vn,xS vs,xL a vl.length cap] 44,xK #[xI tk,xI F0] 49] W->_):=λW hb=>vC tk F0 many (w.heap.size+1) vl Gb M _ W (hs.below hb.1) (hb.bU rfl);clear h hu hT NR Gb ht hs;go_enter func200,ntmps200;go_wp2_with fail;refine bY (HR.o _ (Bx.dq w _ _).1) λw1 aF=> ?_;have HB:=af ((Bx.dq w (xK #[xI vk,xI vn,xS vs,xL a vl.length cap] 44) (xK #[xI tk,xI F0] 49)).below aF);obtain⟨c0,c1⟩:=ah (HB.o.bU rfl);clear aF;go_wp2_with fail;refine bY (HT.o _) λw2 bC=> ?_;have aQ:=af (HB.o.below bC);obtain⟨d0,d1⟩:=ah (aQ.o.bU rfl);obtain⟨e0,e1,e2,e3⟩:=ae (aQ.o.bG rfl);clear bC c0 c1;go_wp2_with fail;refine bY (HO.o _) λw3 bP=> ?_;have bO:=af (aQ.o.below bP);obtain⟨f0,f1,f2,f3⟩:=ae (bO.o.bG rfl);clear bP d0 d1 e0 e1 e2 e3;go_wp2_with fail;refine bY (HCN.o _ bO.o) λw4 eA=> ?_;have dI:=af (bO.o.below eA);clear eA;go_wp2;go_ret;exact⟨rfl,dI.o.1⟩
def OL(t:aT)(ht:aG t=true)(M:aN)(w:aj):xG 286 #[.agg #[xI t.kind,xI t.of]] w λv w'=>ct M w' v (kj t):=by
 have HT:Hd (∀W,_):=λW=>oS t ht W;by_cases Cu:t.kind=3\/t.kind=4
 .have HZ:=af (show kj t= .mk 0 0 oe []by unfold kj;rw[if_pos Cu]);obtain⟨k,o⟩:=t;dsimp only at*;clear ht;rcases Cu with rfl|rfl;all_goals
   go_enter func286,ntmps286;go_wp2_with fail;refine bY (HT.o _) λw1 aF=> ?_;have HB:=af ((Bx.dq w (xK #[xI _,xI o] 49) (xK iH 44)).below aF);obtain⟨c0,c1⟩:=ah (HB.o.bG rfl);obtain⟨q0,q1,q2,q3⟩:=ae (HB.o.bU rfl);obtain⟨f0,f1,f2,f3⟩:=iK (HB.o.bU rfl);clear aF;go_wp2_with fail;refine Qae (v:= .agg iH) (by simp[results,results286,go_sem,q0,q1,q2,q3]) rfl ⟨_,rfl,(by rw[HZ.o];exact oK _ _ _ jH),?_⟩;exact(((HB.o.1.setCell (by simp) _).setCell (by simp) _).setCell (by simp) _).setCell (by simp) _
 .have HZ:=af (show kj t= .mk t.kind 0 oe []by unfold kj;rw[if_neg Cu]);obtain⟨k,o⟩:=t;dsimp only at*;clear ht;have e3:(k==3)=false:=by simp;omega
  have e4:(k==4)=false:=by simp;omega
  clear Cu;go_enter func286,ntmps286;go_wp2_with fail;refine bY (HT.o _) λw1 aF=> ?_;have HB:=af ((Bx.dq w (xK #[xI k,xI o] 49) (xK iH 44)).below aF);obtain⟨c0,c1⟩:=ah (HB.o.bG rfl);obtain⟨q0,q1,q2,q3⟩:=ae (HB.o.bU rfl);obtain⟨f0,f1,f2,f3⟩:=iK (HB.o.bU rfl);clear aF;go_wp2_with fail;refine Qae (v:= .agg #[xI k,xI 0,xS ⟨#[]⟩,xL none 0 0]) (by simp[results,results286,go_sem,q0,q1,q2,q3]) rfl ⟨_,rfl,(by rw[HZ.o];exact oK _ _ _ jH),?_⟩;exact(((HB.o.1.setCell (by simp) _).setCell (by simp) _).setCell (by simp) _).setCell (by simp) _
def rZ:(Tryz.prog.info? 3).map (λi=>(i.zero,i.size,i.bytes))=some (some (xI 0),1,8):=by kernel_rfl
def OM {M:aN}(w:aj)(n:Int):aK (α:=Int) M w.heap.size 3 (w.alloc (xK #[xI n] 3)) (xL (some ⟨w.heap.size,0,none⟩) 1 1) [n]:=by
 refine⟨[[xI n]],⟨rfl, .inr ⟨w.heap.size,1,#[xI n],rfl,bN,Qbh w _,bN,by unfold maxLen;omega,rfl,rfl⟩⟩,rfl,λi cs x hc hx=> ?_⟩;cases i with
 |zero=>simp at hc hx;subst hc hx;rfl
 |succ i=>simp at hc
theorem aK.anyM {α:Type} [au α]{M:aN}{w:aj}{v:an}{xs:List α}(h:aK M B e W v xs)(hB:w.heap.size<=B)(hM:Bd M w):ab M W v xs:=h.slice λi hi=>Qde (hM i hi) hB
def G6(w:aj)(o:Obj)(cs:Array an)(t:TypeId)(size:Nat)(hs:cs.size=size)(hF:F (w.heap.size+1)):cA F ((w.alloc o).alloc (.cells cs t)) size (xL (some ⟨w.heap.size+1,0,none⟩) 1 1) 1 cs.toList:=by
 have h:=cD (F:=F) (w.alloc o) cs t size hs (by simpa using hF);simpa using h
def Du {k:Int}{x:aA}(hx:l[i]? =some x):((l.take (i+1)).filter λy=>decide (y.kind=k)).map aA.num=((l.take i).filter λy=>decide (y.kind=k)).map aA.num++if x.kind=k then[x.num]else[]:=by
 rw[Qbb,hx];simp only[Option.toList,List.filter_append,List.map_append];by_cases h:x.kind=k<;>simp[h]
def uU {t:aT}{many:Int}{v:aA}(j:Int)(hj:j=3\/j=4)(h:dx t many v)(hm:many<=100000){M:aN}{w:aj}(hM:Bd M w){u:an}(hu:ct M w u v)(hT:Tb w):
 xG 199 #[u,xI j] w λr w'=>∃B,w.heap.size<=B/\aK (α:=Int) M B 3 w' r (cC j v):=by
 have HR:=gG (w:=w) (λW hb=>rY h hm (hu.below hb) (hT.below hb));obtain⟨i0,ed,ej,dO,er⟩:=info_parts rZ;have qdo:v.list.length<=12:=by
  rcases h with⟨h5,l,rfl,hl,_⟩|⟨_,h1⟩
  .exact hl
  .rw[(kE h1 hj).1.1];simp
 obtain⟨vk,vn,vs,vl⟩:=v;obtain⟨a,cap,rfl,hs⟩:=dd hu;have HC:Hd (∀(i:Nat)(k n:Int)(s:aM)(ll:List aA),vl[i]? =some (.mk k n s ll)->_):=λi k n s ll hx=>dy hs hx;have cV:vl.length<=cap/\cap<=9223372036854775807:=by obtain⟨_,_,e,h1,h2,_⟩:=hs.open_;cases e;exact⟨h1,h2⟩
 obtain⟨QU,QV⟩:=cV;dsimp only[aA.list]at qdo;by_cases hk:vk=j
 .subst hk;have HV:=af (show cC vk (.mk vk vn vs vl)=[vn]by simp[cC,aA.kind,aA.num]);go_enter func199,ntmps199;go_wp2_with fail;refine bY (HR.o _ bM) λw1 aF=> ?_;obtain⟨g0,g1,g2,g3⟩:=ae (boxed aF);have HB:=af (aU aF);go_wp2;go_ret;exact⟨_,rfl,⟨w1.heap.size,HB.o.size,by rw[HV.o];exact OM w1 vn⟩,HB.o.alloc HB.o.size _⟩
 .have hkf:(vk==j)=false:=by simpa using hk
  have HV:=af (show cC j (.mk vk vn vs vl)=(vl.filter λy=>decide (y.kind=j)).map aA.num by simp[cC,aA.kind,aA.list,hk]);have Cy:Hd (∀i,M i->i<w.heap.size+1):=λi h=>Nat.lt_succ_of_lt (hM i h);go_enter func199,ntmps199;go_wp2_with fail;refine bY (HR.o _ bM) λw1 aF=> ?_;obtain⟨g0,g1,g2,g3⟩:=ae (boxed aF);have HB:=af (aU aF);have qdp:w.heap.size<w1.heap.size:=by have:=aF.size;simp at this;omega
  generalize hn:vl.length=n at*;have eF:=af hn;go_wp2;go_loopg [5,7,21]n(λg r5 _ iv wr=>∃(i m c1:Nat)(a1:fA)(xs:List Int),i<=n/\g=n-i/\iv=xI i/\r5=xL a1 m c1/\m<=i/\Hd (xs.length=m)/\Hd (xs=((vl.take i).filter λy=>decide (y.kind=j)).map aA.num)/\Hd (aK M (w.heap.size+1) 3 wr (xL a1 m c1) xs)/\Hd (aq w wr)/\w.heap.size<wr.heap.size);case atStart=>exact⟨0,0,0,none,[],Qbf _,rfl,rfl,rfl,bN,(show _=_ from rfl),(show _=_ by simp),(aK.nil _ _ _ _),HB,qdp⟩
  case round=>
   obtain⟨i,m,c1,a1,xs,hi,rfl,rfl,rfl,hmi,HL,HX,HA,aQ,hwz⟩:=hrel;by_cases bu:i<n
   .obtain⟨⟨xk,xn,xs',xl⟩,hx⟩:=eB vl i (by rw[eF.o];exact bu);obtain⟨b,off,ig,a',c',hv,hb,_,_,ay⟩:=HC.o i xk xn xs' xl hx;obtain⟨rfl,rfl⟩:=iB hv;obtain⟨⟨q0,q1,q2,q3⟩,_⟩:=ay wr aQ.o;have HF:Hd (((vl.take (i+1)).filter λy=>decide (y.kind=j)).map aA.num=((vl.take i).filter λy=>decide (y.kind=j)).map aA.num++if xk=j then[xn]else[]):=Du hx;by_cases hxk:xk=j
    .have hxe:(xk==j)=true:=by simpa using hxk
     have HXK:=af hxk;go_wp2_with(at_builtin;go_loud(refine aW (α:=Int) rfl _ _ _ rfl M (w.heap.size+1) 3 i0 _ 8 underlying27 ed ej dO er rfl (by decide) (.slice a1 m c1) xs rfl ((HA.o.alloc _).alloc _) (λ_=>True) _ [.int .i64 xn] xn rfl (G6 wr _ #[.int .i64 xn] _ 1 rfl trivial) (show _=_ from rfl) (by rw[HL.o];unfold maxLen;omega) (by rw[HL.o];omega) (by simp;omega) ?_);rw[HL.o];intro a2 c2 w2 bj dz bC;have dh:=af bj;have bO:=af bC;clear bj dz bC);go_roundg(n-(i+1));case measure=>omega
     case rel=>
      refine⟨i+1,m+1,c2,a2,xs++[xn],by omega,rfl,by go_num,rfl,by omega,(show _=_ by simp[HL.o]),(show _=_ by rw[HF.o,if_pos HXK.o,HX.o]),dh,((((aQ.o.alloc (by omega) _).alloc (by simp;omega) _).trans (bO.o.mono (by omega)))),by have:=bO.o.size;simp at this;omega⟩
    .have hxe:(xk==j)=false:=by simpa using hxk
     have HXK:=af hxk;go_wp2;go_roundg(n-(i+1));case measure=>omega
     case rel=>
      refine⟨i+1,m,c1,a1,xs,by omega,rfl,by go_num,rfl,by omega,HL,(show _=_ by rw[HF.o,if_neg HXK.o,HX.o];simp),(HA.o.alloc _),(aQ.o.alloc (by omega) _),by simp;omega⟩
   .go_wp2;go_ret;have kp:i=n:=by omega
    refine⟨_,rfl,⟨w.heap.size+1,by omega,?_⟩,aQ.o⟩;rw[HV.o];have h1:=HA.o;rw[HX.o,kp,<-eF.o,List.take_length]at h1;exact h1
section
variable {t:aT}{many:Int}{v:aA}{M:aN}{w:aj}{u:an}
def ON(h:dx t many v)(hm:many<=100000)(hM:Bd M w)(hu:ct M w u v)(hT:Tb w):
 xG 133 #[u] w λr w'=>∃B,w.heap.size<=B/\aK (α:=Int) M B 3 w' r (cC 3 v):=by
 have HN:=gG (w:=w) (λW hb=>uU 3 (.inl rfl) h hm (hM.below hb) (hu.below hb) (hT.below hb));obtain⟨vk,vn,vs,vl⟩:=v;obtain⟨a,cap,rfl,_⟩:=dd hu;go_enter func133,ntmps133;go_wp2_with fail;refine(HN.o _ bM).mono ?_;rintro e w1⟨r,rfl,⟨B,hB,hs⟩,aF⟩;have HB:=af (aU aF);have HS:=af hs;have HZ:=af (show w.heap.size<=B by simp at hB;omega);go_wp2;go_ret;exact⟨_,rfl,⟨B,HZ.o,HS.o⟩,HB.o⟩
def LG(h:dx t many v)(hm:many<=100000)(hM:Bd M w)(hu:ct M w u v)(hT:Tb w):
 xG 161 #[u] w λr w'=>∃B,w.heap.size<=B/\aK (α:=Int) M B 3 w' r (cC 4 v):=by
 have HN:=gG (w:=w) (λW hb=>uU 4 (.inr rfl) h hm (hM.below hb) (hu.below hb) (hT.below hb));obtain⟨vk,vn,vs,vl⟩:=v;obtain⟨a,cap,rfl,_⟩:=dd hu;go_enter func161,ntmps161;go_wp2_with fail;refine(HN.o _ bM).mono ?_;rintro e w1⟨r,rfl,⟨B,hB,hs⟩,aF⟩;have HB:=af (aU aF);have HS:=af hs;have HZ:=af (show w.heap.size<=B by simp at hB;omega);go_wp2;go_ret;exact⟨_,rfl,⟨B,HZ.o,HS.o⟩,HB.o⟩
def Dv(h:dx t many v)(hm:many<=100000)(hM:Bd M w)(hu:ct M w u v)(hT:Tb w):
 xC 133 #[u] w (cg w λr w'=>ab M w' r (cC 3 v)):=
 (ON h hm hM hu hT).mono (by rintro e w'⟨r,rfl,⟨B,hB,h⟩,hb⟩;exact⟨_,rfl,h.anyM hB hM,hb⟩)
def Aq(h:dx t many v)(hm:many<=100000)(hM:Bd M w)(hu:ct M w u v)(hT:Tb w):
 xC 161 #[u] w (cg w λr w'=>ab M w' r (cC 4 v)):=
 (LG h hm hM hu hT).mono (by rintro e w'⟨r,rfl,⟨B,hB,h⟩,hb⟩;exact⟨_,rfl,h.anyM hB hM,hb⟩)
end
def xx:Nat->aA->Prop
 |0,v=>v.list=[]
 |h+1,v=>v.list.length<=12/\∀x∈v.list,xx h x
def Ar {k:Int}{v:aA}(h:lh k many v):xx 0 v:=(kE h (.inl rfl)).1.1
def nv {t:aT}{v:aA}(h:dx t many v):xx 1 v:=by
 rcases h with⟨h5,l,rfl,hl,ha⟩|⟨_,h1⟩
 .exact⟨hl,λx hx=>Ar (ha x hx)⟩
 .have:=Ar h1;unfold xx at this;exact⟨by rw[this];simp,by rw[this];intro x hx;cases hx⟩
def xy(f:Nat)(l:List aA):Prop:=∀(M:aN)(w:aj)(v:an),Bd M w->ab M w v l->xC f #[v] w (cg w λv' w'=>ab M w' v' l)
def Dw(f:Nat)(x:aA):Prop:=∀(M:aN)(w:aj)(v:an),Bd M w->ct M w v x->xC f #[v] w (cg w λv' w'=>ct M w' v' x)
def kz {k n:Int}(h:ab M w (xL a l.length cap) l)(hs:s.size<=maxLen):au.rep (α:=aA) M w [xI k,xI n,xS s,xL a l.length cap] (.mk k n s l):=eZ.iff.2 ⟨_,rfl,h,hs⟩
def BL {xs:List aA}(h:aK M base e w v xs)(hM:Bd M w):Bd (bg v M) w:=λi hi=>by
 rcases hi with hi|hi
 .exact hM i hi
 .exact(h.cJ i hi).2
def fF(w:aj)(g:Nat)(cs:Array an)(t:TypeId)(size:Nat)(hs:cs.size=size)(hg:w.heap.size=g)(hF:F g):cA F (w.alloc (.cells cs t)) size (xL (some ⟨g,0,none⟩) 1 1) 1 cs.toList:=by
 subst hg;exact cD w cs t size hs hF
def Vm {xs:List aA}(h:aK M base e wr v xs)(hbs:w.heap.size<=base)(hb:aq w W)(hX:w.heap.size<=X):Ev M w (orM (bg v M) X) W:=
 ⟨ai.ao hb,λi hi=>by
   rcases hi with(hi|hi)|hi
   .exact .inl hi
   .exact .inr (Qcg hbs (h.cJ i hi).1)
   .exact .inr (by omega)⟩
def lQ(l:List aA)(hl:l.length<=12)(kp:∀x∈l,xy 331 x.list)(M:aN)(w:aj)(v:an)(hM:Bd M w)(hs:ab M w v l):xG 331 #[v] w λv' w'=>aK M w.heap.size 44 w' v' l:=by
 obtain⟨i0,ed,ej,dO,er⟩:=info_parts gY;have HC:Hd (∀(i:Nat)(k n:Int)(s:aM)(ll:List aA),l[i]? =some (.mk k n s ll)->_):=λi k n s ll hx=>dy hs hx;have CT:Hd (∀x∈l,xy 331 x.list):=kp;obtain⟨a,bQ,rfl,cV,lL,_⟩:=hs.open_;generalize hn:l.length=n at*;have eF:=af hn;go_enter func331,ntmps331;go_wp2;go_loopg [3,5,8]n(λg r3 _ iv wr=>∃(i c1:Nat)(a1:fA),i<=n/\g=n-i/\iv=xI i/\r3=xL a1 i c1/\Hd (aK M w.heap.size 44 wr (xL a1 i c1) (l.take i))/\Hd (aq w wr));case atStart=>exact⟨0,0,none,Qbf _,rfl,rfl,rfl,(aK.nil _ _ _ _),dQ⟩
 case round=>
  obtain⟨i,c1,a1,hi,rfl,rfl,rfl,HA,HB⟩:=hrel;by_cases bu:i<n
  .obtain⟨⟨xk,xn,xs,xl⟩,hx⟩:=eB l i (by rw[eF.o];exact bu);obtain⟨b,off,cap,a',c',hv,hb,bI,mX,ay⟩:=HC.o i xk xn xs xl hx;obtain⟨rfl,rfl⟩:=iB hv;obtain⟨⟨q0,q1,q2,q3⟩,_⟩:=ay wr HB.o;have ow:=af (show(l.take i).length=i by have:=eF.o;rw[Qdb];omega);have nG:=af (show l.take (i+1)=l.take i++[.mk xk xn xs xl]by rw[Qbb,hx];rfl);have hsz:=HB.o.size;have br:Hd (∀o,xC 331 #[xL a' xl.length c'] (wr.alloc o) (cg (wr.alloc o) λv' w'=>ab (orM (bg (xL a1 i c1) M) wr.heap.size) w' v' xl)):=λo=>by
    refine CT.o _ (Qaf hx) _ _ _ (λj hj=> ?_) (bI.ev (Vm HA.o bN (HB.o.alloc hsz o) hsz));rcases hj with hj|hj
    .have:=BL HA.o (hM.below HB.o) j hj;simp;omega
    .simp;omega
   have CK:=af mX;go_wp2_with fail;refine(br.o _).mono ?_;rintro e w1⟨_,rfl,fu,aF⟩;obtain⟨za,zc,rfl,_⟩:=fu.open_;have HX:Hd (di w1 wr (xK #[xI xk,xI xn,xS xs,xL a' xl.length c'] 44)):=boxed aF;obtain⟨g0,g1,g2,g3⟩:=ae HX.o;have f3:=ag HX.o 3;have s1:=aF.size;simp only[World.size_alloc]at s1;have aY:=af (aU aF);have aQ:Hd (aq wr (w1.setCell ⟨wr.heap.size,3,none⟩ (xL za xl.length zc))):=aY.o.setCell bN _;have qH:Hd (ab (bg (xL a1 i c1) M) (w1.setCell ⟨wr.heap.size,3,none⟩ (xL za xl.length zc)) (xL za xl.length zc) xl):=fu.ev ((Ev.dD w1 λi h=> .inl h).setCell (.inl (.inr rfl)) _);have lK:=af (HA.o.below aQ.o);go_wp2_with(at_builtin;go_loud(refine aW (α:=aA) rfl _ _ _ rfl M w.heap.size 44 i0 _ 56 underlying42 ed ej dO er rfl (by decide) (.slice a1 i c1) (l.take i) rfl (lK.o.alloc _) (λ_=>True) _ _ (.mk xk xn xs xl) rfl (fF _ _ _ _ 4 rfl (by simp[World.setCell]) trivial) (kz (qH.o.ev ((Ev.refl _ _).alloc _)) CK.o) (by rw[ow.o];unfold maxLen;omega) (by rw[ow.o];omega) (by simp;omega) ?_);rw[ow.o,<-nG.o];intro a2 c2 w2 bj dz bC;have dh:=af bj;have bO:=af bC;clear bj dz bC);go_roundg(n-(i+1));case measure=>omega
   case rel=>
    refine⟨i+1,c2,a2,by omega,rfl,by go_num,rfl,dh,((HB.o.trans (aQ.o.mono hsz)).alloc (by simp;omega) _|>.trans bO.o)⟩
  .go_wp2;go_ret;refine⟨_,rfl,?_,HB.o⟩;have h1:=HA.o;rw[Qah (by rw[eF.o];omega)]at h1;exact h1
def kA(l:List aA)(hl:l.length<=12)(kp:∀x∈l,xy 331 x.list):xy 331 l:=λM w v hM hs=>
 (lQ l hl kp M w v hM hs).mono (by rintro e w'⟨_,rfl,h,hb⟩;exact⟨_,rfl,h.slice hM,hb⟩)
theorem ny:∀(h:Nat)(l:List aA),l.length<=12->(∀x∈l,xx h x)->xy 331 l
 |0,l,hl,hx=>kA l hl λx hm=>by
  rw[show x.list=[]from hx x hm];exact kA [] (by simp) λy hy=>by cases hy
 |h+1,l,hl,hx=>kA l hl λx hm=>ny h x.list (hx x hm).1 (hx x hm).2
def eT {fs:List az}(h:bh fs many vs):∀v∈vs,∃f∈fs,dx f.type many v:=by
 intro v hv;obtain⟨i,hi⟩:=List.getElem?_of_mem hv;have hl:=(Qad.1 hi).1;obtain⟨f,hf⟩:=eB fs i (by rw[<-h.1];exact hl);exact⟨f,Qaf hf,h.2 i f v hf hi⟩
def kP {fs:List az}(h:bh fs many vs)(hu:∀x∈us,x∈vs)(hl:us.length<=12):xy 331 us:=
 ny 1 us hl λx hx=>by
  obtain⟨f,_,hv⟩:=eT h x (hu x hx);exact nv hv
def eN(k n:Int)(s:aM)(v:an):Obj:=xK #[xI k,xI n,xS s,v] 44
def BM {n:Nat}(hM:Bd M w):∀i,ew M w n i->i<w.heap.size+n:=λi hi=>by
 rcases hi with hi|hi
 .have:=hM i hi;omega
 .exact hi.2
def r9(x:aA)(hl:x.list.length<=12)(kp:∀y∈x.list,Dw 371 y):Dw 371 x:=by
 intro M w v hM hu;obtain⟨i0,ed,ej,dO,er⟩:=info_parts gY;obtain⟨vk,vn,vs,l⟩:=x;have dA:vs.size<=maxLen:=by obtain⟨cs,_,hr⟩:=hu;obtain⟨_,_,_,h⟩:=eZ.iff.1 hr;exact h
 obtain⟨a,bQ,rfl,hs⟩:=dd hu;dsimp only[aA.list]at*;have HC:Hd (∀(i:Nat)(k n:Int)(s:aM)(ll:List aA),l[i]? =some (.mk k n s ll)->_):=λi k n s ll hx=>dy hs hx;have CT:Hd (∀y∈l,Dw 371 y):=kp;have cV:l.length<=bQ/\bQ<=9223372036854775807:=by obtain⟨_,_,e,h1,h2,_⟩:=hs.open_;cases e;exact⟨h1,h2⟩
 obtain⟨QU,QV⟩:=cV;have zj:=af dA;generalize hn:l.length=n at*;have eF:=af hn;go_enter func371,ntmps371;go_wp2;go_loopg [3,5,9]n(λg r3 _ iv wr=>∃(i c1:Nat)(a1:fA),i<=n/\g=n-i/\iv=xI i/\r3=xL a1 i c1/\Hd (aK (ew M w 2) (w.heap.size+2) 44 wr (xL a1 i c1) (l.take i))/\Hd (Bx w [eN vk vn vs (xL a n bQ),eN 0 0 ⟨#[]⟩ (xL none 0 0)] wr));case atStart=>exact⟨0,0,none,Qbf _,rfl,rfl,rfl,(aK.nil _ _ _ _),(Bx.dq w _ _)⟩
 case round=>
  obtain⟨i,c1,a1,hi,rfl,rfl,rfl,HA,HB⟩:=hrel;have hsz:w.heap.size+2<=wr.heap.size:=HB.o.bF;by_cases bu:i<n
  .obtain⟨⟨xk,xn,xs,xl⟩,hx⟩:=eB l i (by rw[eF.o];exact bu);obtain⟨b,off,cap,a',c',hv,hb,bI,mX,ay⟩:=HC.o i xk xn xs xl hx;obtain⟨rfl,rfl⟩:=iB hv;obtain⟨⟨q0,q1,q2,q3⟩,_⟩:=ay wr HB.o.1;have ow:=af (show(l.take i).length=i by have:=eF.o;rw[Qdb];omega);have nG:=af (show l.take (i+1)=l.take i++[.mk xk xn xs xl]by rw[Qbb,hx];rfl);have br:Hd (∀o,xC 371 #[.agg #[xI xk,xI xn,xS xs,xL a' xl.length c']] (wr.alloc o) (cg (wr.alloc o) λv' w'=>ct (bg (xL a1 i c1) (ew M w 2)) w' v' (aA.mk xk xn xs xl))):=λo=>by
    refine CT.o _ (Qaf hx) _ _ _ (λj hj=> ?_) ⟨_,rfl,?_⟩
    .have:=BL HA.o (dN hM hsz) j hj;simp;omega
    .refine kz (bI.ev ⟨ai.ao (HB.o.alloc o).1,λj hj=> ?_⟩) mX;rcases hj with(hj|hj)|hj
     .exact .inl hj
     .exact .inr hj.1
     .have:=(HA.o.cJ j hj).1;exact .inr (by omega)
   go_wp2_with fail;refine(br.o _).mono ?_;rintro e w1⟨_,rfl,gq,aF⟩;obtain⟨za,zc,rfl,fu⟩:=dd gq;have tG:Hd (ab (bg (xL a1 i c1) (ew M w 2)) w1 (xL za xl.length zc) xl/\xs.size<=maxLen):=⟨fu,mX⟩;have s1:=aF.size;simp only[World.size_alloc]at s1;have aY:=af (aU aF);have lK:=af (HA.o.below aY.o);have bW:=af (HB.o.below aY.o);go_wp2_with(at_builtin;refine aW (α:=aA) rfl _ _ _ rfl (ew M w 2) (w.heap.size+2) 44 i0 _ 56 underlying42 ed ej dO er rfl (by decide) (.slice a1 i c1) (l.take i) rfl (lK.o.alloc _) (λ_=>True) _ _ (.mk xk xn xs xl) rfl (fF _ _ _ _ 4 rfl (by simp) trivial) (kz (tG.o.1.ev ((Ev.refl _ _).alloc _)) tG.o.2) (by rw[ow.o];unfold maxLen;omega) (by rw[ow.o];omega) (by simp;omega) ?_;rw[ow.o,<-nG.o];intro a2 c2 w2 bj dz bC;have dh:=af bj;have bO:=af bC;clear bj dz bC);go_roundg(n-(i+1));case measure=>omega
   case rel=>
    refine⟨i+1,c2,a2,by omega,rfl,by go_num,rfl,dh,((bW.o.alloc _).du bO.o (by simp))⟩
  .obtain⟨r0,r1,r2,r3⟩:=ae (HB.o.bG rfl);obtain⟨e0,e1,e2,e3⟩:=ae (HB.o.bU rfl);have f3:=ag (HB.o.bG rfl) 3;obtain⟨g0,g1,g2,g3⟩:=iK (HB.o.bU rfl);obtain rfl:i=n:=by omega
   go_wp2_with fail;refine Qae (v:= .agg #[xI vk,xI vn,xS vs,xL a1 i c1]) (by simp[results,results371,go_sem,e0,e1,e2,e3]) rfl ⟨_,rfl,⟨_,rfl,?_⟩,?_⟩
   .have h1:=HA.o.slice (BM hM);rw[Qah (by rw[eF.o];omega)]at h1;have e:l.length=i:=eF.o;refine eZ.iff.2 ⟨_,rfl,h1.ev ?_,zj.o⟩;exact(((((fj wr).setCell (.inl (.inr ⟨by simp,by simp⟩)) _).setCell (.inl (.inr ⟨by simp,by simp⟩)) _).setCell (.inl (.inr ⟨by simp,by simp⟩)) _).setCell (.inl (.inr ⟨by simp,by simp⟩)) _).setCell (.inl (.inr ⟨by simp,by simp⟩)) _
   .exact((((HB.o.1.setCell (by simp) _).setCell (by simp) _).setCell (by simp) _).setCell (by simp) _).setCell (by simp) _
def G7:(Tryz.prog.info? 72).map (λi=>(i.zero,i.size,i.bytes))=some (some (.agg #[xS ⟨#[]⟩,xL none 0 0,xL none 0 0]),3,64):=by kernel_rfl
def Dx {l:List gW}(h:ab M w v l){x:gW}(hx:l[k]? =some x):∃b off cap fv cv,v=xL (some ⟨b,off,none⟩) l.length cap/\b<w.heap.size/\ab M w fv x.cls.fields/\ab M w cv x.changes/\I6 x.cls.name/\∀W,aq w W->bt W b (off+k*3) (xI x.cls.name)/\bt W b (off+k*3+1) fv/\bt W b (off+k*3+2) cv:=by
 obtain⟨a,cap,rfl,hl,_,hc⟩:=h.open_;have hk:=(Qad.1 hx).1;obtain⟨b,off,rfl,_,hb,aL⟩:=hc (by omega);obtain⟨cs,⟨fv,cv,rfl,h1,h2,h3⟩,bJ⟩:=aL k x hx;refine⟨b,off,cap,fv,cv,rfl,hb,h1,h2,h3,λW hB=> ?_⟩;have g:∀j u,([xI x.cls.name,fv,cv]:List an)[j]? =some u->bt W b (off+k*3+j) u:=λj u hu=>(hB.cell (p:=⟨b,off+k*3+j,none⟩) hb).trans (bJ j u hu);exact⟨g 0 _ rfl,g 1 _ rfl,g 2 _ rfl⟩
def BN(ls:List aH)(s:aM): -1<=dU ls s/\dU ls s<ls.length\/dU ls s= -1:=by
 have h1:=rH (λl:aH=>cj l.first.name s) ls;rcases wC (λl:aH=>cj l.first.name s) ls with h|h
 .exact .inl ⟨h1,h⟩
 .exact .inr h
def Dy(h:dU ls s<0):∀l∈ls,cj l.first.name s=false:=λl hl=>by
 have h1:=rH (λl:aH=>cj l.first.name s) ls;have h2:dU ls s= -1:=by show idxOf _ _=_;have:idxOf (λl:aH=>cj l.first.name s) ls<0:=h;omega
 unfold dU idxOf at h2;split at h2
 .omega
 .rename_i hn;have:=List.findIdx?_eq_none_iff.1 hn l hl;simpa using this
theorem dK.snoc(h:dK ls){l:aH}(hl:dZ l)(h4:ls.length<4)(hn:dU ls l.first.name<0):dK (ls++[l]):=by
 refine⟨by simp;omega,λy hy=> ?_,λk y hy=> ?_⟩
 .rcases Qch.1 hy with hy|hy
  .exact h.lines y hy
  .simp at hy;subst hy;exact hl
 .by_cases hk:k<ls.length
  .rw[Qbc hk]at hy;have h1:=h.apart k y hy;unfold dU at h1⊢;exact uN h1
  .have CL:=(Qad.1 hy).1;simp at CL;obtain rfl:k=ls.length:=by omega
   have e:y=l:=by simpa using hy.symm
   subst e;refine idxOf_hit (λz hz=> ?_) hy (by simp[cj]);rw[List.take_left']at hz
   .exact Dy hn z hz
   .rfl
theorem dK.one(h:iO c):dK [⟨c,[]⟩]:=by
 refine⟨by simp,λl hl=> ?_,λk l hk=> ?_⟩
 .simp at hl;subst hl;exact⟨lA h,by simp,c, .nil _⟩
 .match k,hk with
  |0,hk=>simp at hk;subst hk;exact idxOf_hit (by simp) rfl (by simp[cj])
  |k+1,hk=>simp at hk
structure Dz(M:aN)(w:aj)(n:Nat)(v:an)(ls:List aH)(i:Nat)(wr:aj):Prop where
 len:ls.length=n
 le:n<=i
 ok:dK ls
 some_:0<i->0<n
 acc:aK (ew M w 2) (w.heap.size+2) 72 wr v ls
theorem Dz.below {n:Nat}(h:Dz M w n v ls i wr)(hb:aq wr W):Dz M w n v ls i W:=⟨h.len,h.le,h.ok,h.some_,h.acc.below hb⟩
def ug:dK []:=⟨by simp,λ_ h=>(by cases h),λ_ _ h=>by simp at h⟩
def OO {l:aH}(hg:bR W g (xK #[xS l.first.name,fv,cv] t))(hM:¬M g)(h1:ab M W fv l.first.fields)(h2:ab M W cv l.changes)(hn:l.first.name.size<=maxLen):ab M W (xL (some ⟨g,0,none⟩) 1 1) [l]:=by
 refine⟨[[xS l.first.name,fv,cv]],⟨rfl,some ⟨g,0,none⟩,1,rfl,bN,by unfold maxLen;omega,λ_=>⟨g,0,rfl,hM,(Qaa.1 hg).1,λj u hu=> ?_⟩⟩,rfl,λi cs x hc hx=> ?_⟩
 .simp only[World.cell?,hg,Nat.zero_add];simpa using hu
 .match i,hc,hx with
  |0,hc,hx=>cases hc;cases hx;exact⟨fv,cv,rfl,h1,h2,hn⟩
  |i+1,hc,hx=>simp at hx
def DA(h:iO c):c.name.size<=maxLen:=cF (gX _ h.2.2.2).2
def DB(xs:List gW)(M:aN)(w:aj)(hM:Bd M w)(v:an)(hv:ab M w v xs):
 xG 16 #[v] w λu w'=>∃ls,dK ls/\(0<ls.length/\Vk ls)/\∃lv,u= .agg #[lv]/\ab M w' lv ls:=by
 obtain⟨i0,ed,ej,dO,er⟩:=info_parts G7;have HR:Hd (∀k r,xs[k]? =some r->_):=λk r h=>Dx hv h;have lM:=af hM;obtain⟨ra,rc,rfl,Tj,hrm,_⟩:=hv.open_;clear hv hM;generalize hn:xs.length=m at*;have HN:=af hn;clear hn;go_enter func16,ntmps16;go_wp2;go_loopg [4,5,6,7]4(λg iv _ _ _ wr=>∃(i n cap:Nat)(a:fA)(ls:List aH),i<=m/\i<=4/\g=4-i/\iv=xI i/\Hd (Dz M w n (xL a n cap) ls i wr)/\Hd (Bx w [fS (xL none 0 0),fS (xL a n cap)] wr));case atStart=>exact⟨0,0,0,none,[],Qbf _,by omega,rfl,rfl,(show Dz _ _ _ _ _ _ _ from⟨rfl,bN,ug,λh=>by omega,aK.nil _ _ _ _⟩),(Bx.dq w _ _)⟩
 case round=>
  obtain⟨i,n,cap,a,ls,hi,Yt,rfl,rfl,HS,HB⟩:=hrel;have hsz:=HB.o.bF;simp only[Qcc,Qcd]at hsz;have qg4:=HS.o.le;by_cases hgo:i<m/\i<4
  .obtain⟨bu,Nn⟩:=hgo;obtain⟨r,hr⟩:=eB xs i (by rw[HN.o];exact bu);obtain⟨b,off,ig,fv,cv,hv,cR,hf,hc,UC,ay⟩:=HR.o i r hr;obtain⟨rfl,rfl⟩:=iB hv;obtain⟨q0,q1,q2⟩:=ay wr HB.o.1;have HE:Hd (Ev M w (bg (xL a n cap) (ew M w 2)) wr):=⟨ai.ao HB.o.1,λj hj=>by
    rcases hj with(hj|hj)|hj
    .exact .inl hj
    .exact .inr hj.1
    .have:=(HS.o.acc.cJ j hj).1;right;omega⟩;have KM:Hd (Bd (bg (xL a n cap) (ew M w 2)) wr):=λj hj=>by
    rcases hj with hj|hj
    .have:=BM lM.o j hj;omega
    .exact(HS.o.acc.cJ j hj).2
   have Yu:=af (Lt r UC (bg (xL a n cap) (ew M w 2)) wr KM.o fv cv (hf.ev HE.o) (hc.ev HE.o));have hf':=hf;have hc':=hc;obtain⟨fa,fc,rfl,_⟩:=hf'.open_;obtain⟨ca,cc,rfl,_⟩:=hc'.open_;obtain⟨⟨rn,rfs⟩,rcs⟩:=r;dsimp only at*;clear ay hv hr hf hc UC;go_wp2_with fail;refine(Yu.o).mono ?_;rintro e w1⟨_,rfl,⟨l,qq,Jr,_,rfl,fv1,cv1,rfl,tI,mZ,qar⟩,aF⟩;have hf2:=tI;have CO:=mZ;obtain⟨Tu,Yv,rfl,_⟩:=hf2.open_;obtain⟨Yw,Yx,rfl,_⟩:=CO.open_;obtain⟨⟨nm,QW⟩,lcs⟩:=l;dsimp only at*;have CC:=af qq;have jy:=af tI;have wm:=af mZ;have tl:=af qar;have aY:=af (HB.o.below aF);have qH:=af (HS.o.below aF);clear qq Jr tI mZ qar aF q0 q1 q2;obtain⟨W1,bT⟩:=bS (w1.alloc (cI nm (xL Tu QW.length Yv) (xL Yw lcs.length Yx)));have aQ:=af (show Bx w [fS (xL none 0 0),fS (xL a n cap)] W1 by rw[bT];exact aY.o.alloc _);have gE:=af (show Dz M w n (xL a n cap) ls i W1 by rw[bT];exact qH.o.below bM);have qs:=af (show di W1 w1 (cI nm (xL Tu QW.length Yv) (xL Yw lcs.length Yx))by rw[bT];exact Qbh w1 _);have Tv:=af (show ab (bg (xL a n cap) (ew M w 2)) W1 (xL Tu QW.length Yv) QW/\ab (bg (xL a n cap) (ew M w 2)) W1 (xL Yw lcs.length Yx) lcs by
    rw[bT];exact⟨jy.o.below bM,wm.o.below bM⟩);clear jy wm qH;unfold cI at bT;go_upto_region 6 with fail;rw[<-bT];clear bT aY;obtain⟨at_,ru⟩:=jO ((if dU ls nm<0 then 0 else dU ls nm));obtain⟨is,his⟩:=jO ((!decide (dU ls nm<0)));have Un:=af his;have Tp:=af (xh (ew M w 2) (xL a n cap) W1 ls nm (gE.o.acc.slice (λj hj=>BM lM.o j hj)) (by have:=gE.o.ok.len;omega) at_ is (af ru) (af his));clear ru his;have y1:=one_cell (aQ.o.bU rfl);obtain⟨c0,c1,c2⟩:=aD qs.o;go_wp2_with fail;refine bY (Tp.o) λw2 bC=> ?_;have bO:=af (aQ.o.below bC);have jC:=af (gE.o.below bC);have HL3:Hd (di w2 w1 (cI nm (xL Tu QW.length Yv) (xL Yw lcs.length Yx))):=(bC.block _ (Qaa.1 qs.o).1).trans qs.o;have HFD:Hd (ab (bg (xL a n cap) (ew M w 2)) w2 (xL Tu QW.length Yv) QW/\ab (bg (xL a n cap) (ew M w 2)) w2 (xL Yw lcs.length Yx) lcs):=⟨Tv.o.1.below bC,Tv.o.2.below bC⟩;clear bC Tv gE y1 c0 c1 c2;cases is with
   |true=>
    go_wp2;go_roundg(4-(i+1));case measure=>omega
    case rel=>
     refine⟨i+1,n,cap,a,ls,by omega,by omega,rfl,by go_num,(show Dz _ _ _ _ _ _ _ from⟨jC.o.len,by omega,jC.o.ok,λ_=> ?_,jC.o.acc⟩),bO⟩;have h1:¬dU ls nm<0:=by simpa using Un.o
     have h2:=jC.o.len;rcases BN ls nm with h3|h3<;>omega
   |false=>
    have zR:=af (show dU ls nm<0 by simpa using Un.o);have j7:=af jC.o.len;have y1:=one_cell (bO.o.bU rfl);obtain⟨c0,c1,c2⟩:=aD HL3.o;have j6:=bO.o.bF;simp only[Qcc,Qcd]at j6;have eX:Hd (∀o,au.rep (α:=aH) (bg (xL a n cap) (ew M w 2)) (w2.alloc o) [xS nm,xL Tu QW.length Yv,xL Yw lcs.length Yx] ⟨⟨nm,QW⟩,lcs⟩):=λo=>⟨_,_,rfl,HFD.o.1.below bM,HFD.o.2.below bM,tl.o⟩;go_wp2_with(at_builtin;refine aW (α:=aH) rfl _ _ _ rfl (ew M w 2) (w.heap.size+2) 72 i0 _ 64 underlying29 ed ej dO er rfl (by decide) (.slice a n cap) ls rfl (jC.o.acc.alloc _) (λ_=>True) _ _ ⟨⟨nm,QW⟩,lcs⟩ rfl (cD _ _ _ _ rfl trivial) (eX.o _) (by rw[j7.o];unfold maxLen;omega) (by rw[j7.o];omega) (by simp;omega) ?_;rw[j7.o];intro a2 c2' w3 bj dz bP;have dh:=af bj;have dI:Hd (Bx w [fS (xL none 0 0),fS (xL a n cap)] w3):=(bO.o.alloc _).du bP (by simp);have p1:=one_cell (dI.o.bU rfl);have g1:=ag (dI.o.bU rfl) 0;clear bj dz bP);go_roundg(4-(i+1));case measure=>omega
    case rel=>
     refine⟨i+1,n+1,c2',a2,ls++[⟨⟨nm,QW⟩,lcs⟩],by omega,by omega,rfl,by go_num,(show Dz _ _ _ _ _ _ _ from⟨by simp[j7.o],by omega,jC.o.ok.snoc CC.o (by rw[j7.o];omega) zR.o,λ_=>by omega,?_⟩),(show Bx _ _ _ from ?_)⟩
     .exact dh.o.vz (p:=⟨w.heap.size+1,0,none⟩) (.inr ⟨by show w.heap.size<=w.heap.size+1;omega,by show w.heap.size+1<_;omega⟩) (by show w.heap.size+1<_;omega) _
     .simpa [fS]using dI.o.set 1 0 rfl (xL a2 (n+1) c2')
  .have hex:m<=i\/(i<m/\i=4):=by omega
   have y1:=one_cell (HB.o.bU rfl);have g0:=ag (HB.o.bG rfl) 0;have z0:=one_cell (HB.o.bG rfl);have g1:=ag (HB.o.bU rfl) 0;rcases Nat.eq_zero_or_pos n with yJ|yJ
   .have Tw:i=0:=Nat.eq_zero_of_not_pos λh=>by have:=HS.o.some_ h;omega
    subst yJ Tw;have Tx:m=0:=by omega
    subst Tx;have WS:=af (nt (ew M w 2) wr (dN lM.o hsz) ⟨0,[]⟩ (xL none 0 0) (ab.nil _ _) JS);go_wp2_with fail;refine(WS.o).mono ?_;rintro e w1⟨_,rfl,⟨c,Jr,_,⟨_,rfl,⟨fv1,rfl,bI,_⟩⟩⟩,aF⟩;have Cx:=bI;obtain⟨fa,fc,rfl,_⟩:=Cx.open_;have aY:=af (HB.o.below aF);have UE:=af Jr;have gp:=af bI;clear bI Jr aF y1 g0 z0 g1;obtain⟨nm,yP⟩:=c;dsimp only at*;have y1:=λo=>one_cell ((aY.o.alloc o).bU rfl);have g1:=λo=>ag ((aY.o.alloc o).bU rfl) 0;have z0:=λo=>one_cell ((aY.o.alloc o).bG rfl);have g0:=λo=>ag ((aY.o.alloc o).bG rfl) 0;have s1:=aY.o.bF;simp only[Qcc,Qcd]at s1;have pH:Hd (∀W',W'=((w1.alloc (cI nm (xL fa yP.length fc) (xL none 0 0))).setCell ⟨w.heap.size+1,0,none⟩ (xL (some ⟨w1.heap.size,0,none⟩) 1 1)).setCell ⟨w.heap.size,0,none⟩ (xL (some ⟨w1.heap.size,0,none⟩) 1 1)->(∃ls,dK ls/\(0<ls.length/\Vk ls)/\∃lv,Value.agg #[xL (some ⟨w1.heap.size,0,none⟩) 1 1]= .agg #[lv]/\ab M W' lv ls)/\aq w W'):=λW' gU=>by
     have E:Ev (ew M w 2) w1 M W':=by
      rw[gU];exact(((Ev.dD w1 λi hi=> .inl hi).alloc _).setCell (.inl (.inr ⟨by simp,by simp⟩)) _).setCell (.inl (.inr ⟨by simp,by simp⟩)) _
     have hblk:W'.heap[w1.heap.size]? =some (xK #[xS nm,xL fa yP.length fc,xL none 0 0] 72):=by
      rw[gU];refine(Qag _ _ _ _ (by show w1.heap.size≠w.heap.size;omega)).trans ((Qag _ _ _ _ (by show w1.heap.size≠w.heap.size+1;omega)).trans ?_);exact Qbh w1 _
     refine⟨⟨[⟨⟨nm,yP⟩,[]⟩],dK.one UE.o,⟨by simp,by simp[Vk]⟩,_,rfl,OO (l:=⟨⟨nm,yP⟩,[]⟩) hblk (λhm=>by have:=lM.o _ hm;omega) (gp.o.ev E) (ab.nil _ _) (DA UE.o)⟩,?_⟩;rw[gU];exact((aY.o.alloc _).1.setCell (by simp) _).setCell (by simp) _
    unfold cI at pH;go_wp2_with fail;exact Qae (v:= .agg #[xL (some ⟨w1.heap.size,0,none⟩) 1 1]) (by simp[results,results16,go_sem,z0,g0]) rfl ⟨_,rfl,pH.o _ rfl⟩
   .have pH:Hd (∀W',W'=wr.setCell ⟨w.heap.size,0,none⟩ (xL a n cap)->(∃ls,dK ls/\(0<ls.length/\Vk ls)/\∃lv,Value.agg #[xL a n cap]= .agg #[lv]/\ab M W' lv ls)/\aq w W'):=λW' gU=>by
     have E:Ev (ew M w 2) wr M W':=by
      rw[gU];exact((Ev.dD wr λi hi=> .inl hi).setCell (.inl (.inr ⟨by simp,by simp⟩)) _)
     refine⟨⟨ls,HS.o.ok,⟨by rw[HS.o.len];exact yJ,by unfold Vk;have:=HS.o.len;have:=HS.o.le;omega⟩,_,rfl,(HS.o.acc.slice (λj hj=>BM lM.o j hj)).ev E⟩,?_⟩;rw[gU];exact HB.o.1.setCell (by simp) _
    rcases hex with hex|⟨hex,rfl⟩;all_goals
     go_wp2_with fail;exact Qae (v:= .agg #[xL a n cap]) (by simp[results,results16,go_sem,z0,g0]) rfl ⟨_,rfl,pH.o _ rfl⟩
def oT(c:ax)(l:List aC):ax:=l.foldl bZ c
def aI(l:aH)(v:Nat):ax:=oT l.first (l.changes.take v)
theorem cY.cls {l:List aC}(h:cY c l d):d=oT c l:=by
 induction h with
 |nil c=>rfl
 |cons c d x l _ _ _ ih=>exact ih
theorem cY.DC {l:List aC}(h:cY c l d)(v:Nat):cY c (l.take v) (oT c (l.take v))/\cY (oT c (l.take v)) (l.drop v) d:=by
 obtain⟨e,h1,h2⟩:=h.split v;obtain rfl:=h1.cls;exact⟨h1,h2⟩
theorem dZ.at_ {l:aH}(h:dZ l)(v:Nat):cY l.first (l.changes.take v) (aI l v):=by
 obtain⟨d,hd⟩:=h.chs;exact(hd.DC v).1
theorem dZ.kk {l:aH}(h:dZ l)(v:Nat):cG (aI l v):=(h.at_ v).ok h.first
theorem dZ.step {l:aH}(h:dZ l){v:Nat}(hx:l.changes[v]? =some x):iR (aI l v) x/\iZ (aI l v) x=true/\aI l (v+1)=bZ (aI l v) x:=by
 obtain⟨d,hd⟩:=h.chs;obtain⟨h1,h2,_⟩:=xb (h.at_ v) hd hx;refine⟨h1,h2,?_⟩;unfold aI oT;rw[Qbb,hx,List.foldl_append];rfl
theorem dZ.name {l:aH}(h:dZ l)(v:Nat):(aI l v).name=l.first.name:=(h.at_ v).name
def ep(l:aH)(v:Nat):aH:=⟨aI l v,l.changes.drop v⟩
theorem dZ.from_ {l:aH}(h:dZ l)(v:Nat):dZ (ep l v):=by
 obtain⟨d,hd⟩:=h.chs;exact⟨h.kk v,by have:=h.len;simp[ep];omega,d,(hd.DC v).2⟩
def oU {l:aH}(v k:Nat):aI (ep l v) k=aI l (v+k):=by
 unfold aI ep oT aI oT;dsimp only;rw[<-List.foldl_append,List.take_add]
def jS(c:ax)(l:List aC)(many:Int)(vs us:List aA):Prop:=bh (oT c l).fields many us/\us.map (cC 3)=pU c l (vs.map (cC 3))
theorem jS.snoc {l:List aC}{ts:List aA}(hc:cY c l d)(h:jS c l many vs us)(k:gP d x many us ts):jS c (l++[x]) many vs ts:=by
 obtain⟨h1,h2⟩:=h;obtain⟨k1,k2⟩:=k;obtain rfl:=hc.cls;refine⟨?_,?_⟩
 .unfold oT at k1⊢;rw[List.foldl_append];exact k1
 .rw[k2,h2,BH c _ l x _ hc]
def refsOf(l:aH)(v:Nat)(vs:List aA):List Int:=(pU (aI l v) (l.changes.drop v) (vs.map (cC 3))).flatten
theorem jS.refs {l:aH}{v:Nat}(h:jS (aI l v) (l.changes.drop v) many vs us):us.flatMap (cC 3)=refsOf l v vs:=by
 unfold refsOf;rw[<-h.2,List.flatMap_def]
def lC {rs:List (List Int)}{P:Int->Prop}(h:∀r∈rs,∀n∈r,P n):∀n∈ky c s rs,P n:=by
 intro n hn;unfold ky at hn;split at hn
 .unfold GX at hn;split at hn
  .rw[List.getD_eq_getElem?_getD]at hn;rename_i e _ _;cases hq:rs[(fieldAt c e.str).toNat]? with
   |none=>rw[hq]at hn;simp at hn
   |some r=>rw[hq]at hn;exact h r (Qaf hq) n hn
  .simp at hn
 .simp at hn
def G8 {rs:List (List Int)}{P:Int->Prop}(h:∀r∈rs,∀n∈r,P n):∀r∈lP c x rs,∀n∈r,P n:=by
 intro r hr;have h1:∀k,∀r∈rs.take k,∀n∈r,P n:=λk r hr=>h r (List.mem_of_mem_take hr);have h2:∀k,∀r∈rs.drop k,∀n∈r,P n:=λk r hr=>h r (List.mem_of_mem_drop hr);unfold lP at hr;split at hr
 .rcases Qch.1 hr with hr|hr
  .exact h r hr
  .simp at hr;subst hr;exact lC h
 .split at hr
  .rcases Qch.1 hr with hr|hr
   .exact h1 _ r hr
   .exact h2 _ r hr
  .split at hr
   .rcases Qch.1 hr with hr|hr
    .exact h1 _ r hr
    .rcases Qdf.1 hr with rfl|hr
     .exact lC h
     .exact h2 _ r hr
   .split at hr
    .rcases Qch.1 hr with hr|hr
     .exact h1 _ r hr
     .rcases Qdf.1 hr with rfl|hr
      .exact lC h
      .rcases Qdf.1 hr with rfl|hr
       .exact lC h
       .exact h2 _ r hr
    .exact h r hr
theorem uV {P:Int->Prop}:∀(l:List aC)(c:ax)(rs:List (List Int)),(∀r∈rs,∀n∈r,P n)->∀r∈pU c l rs,∀n∈r,P n
 |[],_,_,h=>h
 |_::l,_,_,h=>uV l _ _ (G8 h)
def BO {l:aH}{v:Nat}(h:bh (aI l v).fields many vs):∀n∈refsOf l v vs,1<=n/\n<=many:=by
 intro n hn;unfold refsOf at hn;obtain⟨r,hr,hn⟩:=List.mem_flatten.1 hn;refine uV (P:=λn=>1<=n/\n<=many) _ _ _ (λr hr=> ?_) r hr n hn;obtain⟨u,hu,rfl⟩:=List.mem_map.1 hr;obtain⟨f,_,hf⟩:=eT h u hu;exact q9 hf (.inl rfl)
structure iS(ls:List aH)(many:Int)(o:bE)(k v:Nat)(l:aH):Prop where
 cls:o.cls=k
 ver:o.ver=v
 line:ls[k]? =some l
 le:v<=l.changes.length
 aR:bh (aI l v).fields many o.aR
def vD(k:Nat):aM:=([⟨#[97]⟩,⟨#[98,50]⟩,⟨#[104,111,109,101]⟩,⟨#[116,111,112,95,49]⟩,⟨#[122]⟩]:List aM).getD k oe
def As:∀k,k<5->aB (vD k)=true/\(vD k).size<=20:=by
 intro k hk;rcases k with _|_|_|_|_|k;all_goals first|(decide+kernel)|omega
def xA:∀i,i<5->∀j,j<5->Op.bytesLess (vD i).toList (vD j).toList=decide (i<j):=by decide+kernel
def OP:∀i,i<5->∀j,j<5->((vD i).toList==(vD j).toList)=decide (i=j):=by decide+kernel
structure BP(x:aX):Prop where
 sch:dK x.lines
 len:x.objs.length<=10
 objs:∀(i:Nat)(o:bE),x.objs[i]? =some o->o.id=(i:Int)+1/\∃k v l,iS x.lines x.objs.length o k v l
 rlen:x.roots.length<=5
 roots:∀r∈x.roots,1<=r.id/\r.id<=x.objs.length
 names:∃ks:List Nat,ks.Pairwise (·< ·)/\(∀k∈ks,k<5)/\x.roots.map aV.name=ks.map vD
 next:(x.objs.length:Int)+1<=x.next/\x.next<=(x.objs.length:Int)+3
 few:Vk x.lines
theorem BP.oV {x:aX}(h:BP x){r:aV}(hr:x.roots[i]? =some r):aB r.name=true/\r.name.size<=20:=by
 obtain⟨ks,_,h2,h3⟩:=h.names;have hm:r.name∈x.roots.map aV.name:=List.mem_map_of_mem (Qaf hr);rw[h3]at hm;obtain⟨k,hk,e⟩:=List.mem_map.1 hm;rw[<-e];exact As k (h2 k hk)
theorem BP.xD {x:aX}(h:BP x){r s:aV}(hr:x.roots[i]? =some r)(hs:x.roots[i+1]? =some s):(Op.bytesLess s.name.toList r.name.toList||s.name.toList==r.name.toList)=false:=by
 obtain⟨ks,h1,h2,h3⟩:=h.names;have e1:(x.roots.map aV.name)[i]? =some r.name:=by simp[hr]
 have e2:(x.roots.map aV.name)[i+1]? =some s.name:=by simp[hs]
 rw[h3,List.getElem?_map,Option.map_eq_some_iff]at e1 e2;obtain⟨a,ha,e1⟩:=e1;obtain⟨b,hb,e2⟩:=e2;obtain⟨l1,g1⟩:=Qad.1 ha;obtain⟨l2,g2⟩:=Qad.1 hb;have bu:=List.pairwise_iff_getElem.1 h1 i (i+1) l1 l2 (by omega);rw[g1,g2]at bu;have k1:=h2 a (Qaf ha);have k2:=h2 b (Qaf hb);rw[<-e1,<-e2,xA b k2 a k1,OP b k2 a k1];simp;omega
def cm(x:aX):List Int:=x.roots.map aV.id
end
section
open Go.RowKit Go.Shelf
def jq {l:List bE}(h:ab M w v l){x:bE}(hx:l[i]? =some x):∃b off cap a c,v=xL (some ⟨b,off,none⟩) l.length cap/\b<w.heap.size/\ab M w (xL a x.aR.length c) x.aR/\∀W,aq w W->(bt W b (off+i*4) (xI x.id)/\bt W b (off+i*4+1) (xI x.cls)/\bt W b (off+i*4+2) (xI x.ver)/\bt W b (off+i*4+3) (xL a x.aR.length c)):=by
 obtain⟨a,cap,rfl,hl,_,hc⟩:=h.open_;have hk:=(Qad.1 hx).1;obtain⟨b,off,rfl,_,hb,aL⟩:=hc (by omega);obtain⟨cs,⟨vv,rfl,hs⟩,bJ⟩:=aL i _ hx;have j6:=hs;obtain⟨a,c,rfl,_⟩:=j6.open_;refine⟨b,off,cap,a,c,rfl,hb,hs,λW hB=> ?_⟩;have g:∀j u,([xI x.id,xI x.cls,xI x.ver,xL a x.aR.length c]:List an)[j]? =some u->bt W b (off+i*4+j) u:=λj u hu=>(hB.cell (p:=⟨b,off+i*4+j,none⟩) hb).trans (bJ j u hu);exact⟨g 0 _ rfl,g 1 _ rfl,g 2 _ rfl,g 3 _ rfl⟩
def iF {l:List aV}(h:ab M w v l){x:aV}(hx:l[i]? =some x):∃b off cap,v=xL (some ⟨b,off,none⟩) l.length cap/\b<w.heap.size/\x.name.size<=maxLen/\∀W,aq w W->(bt W b (off+i*2) (xS x.name)/\bt W b (off+i*2+1) (xI x.id)):=by
 obtain⟨a,cap,rfl,hl,_,hc⟩:=h.open_;have hk:=(Qad.1 hx).1;obtain⟨b,off,rfl,_,hb,aL⟩:=hc (by omega);obtain⟨cs,⟨rfl,hs⟩,bJ⟩:=aL i _ hx;refine⟨b,off,cap,rfl,hb,hs,λW hB=> ?_⟩;have g:∀j u,([xS x.name,xI x.id]:List an)[j]? =some u->bt W b (off+i*2+j) u:=λj u hu=>(hB.cell (p:=⟨b,off+i*2+j,none⟩) hb).trans (bJ j u hu);exact⟨g 0 _ rfl,g 1 _ rfl⟩
def cw(lv ov rv:an)(n:Int):Obj:=xK #[lv,ov,rv,xI n] 35
def Rv(k:Nat):Nat:=([2,0,1,3,4]:List Nat).getD k 0
def Vp(h:k<5):Rv k<5:=by
 rcases k with _|_|_|_|_|k<;>first|decide|omega
def Vq(h:k<5):(#[xS ⟨#[104,111,109,101]⟩,xS ⟨#[97]⟩,xS ⟨#[98,50]⟩,xS ⟨#[116,111,112,95,49]⟩,xS ⟨#[122]⟩]:Array an)[k]? =some (xS (vD (Rv k))):=by
 rcases k with _|_|_|_|_|k<;>first|rfl|omega
def Hc(c:Int)(hc:I6 c)(w:aj):
 xC 19 #[xI c] w (cr (xS (vD (Rv (aJ c 5)))) w):=by
 have hp:aJ c 5<5:=cM c 5 (by omega);have HP:Hd (∀w,_):=λw=>kO c 5 w hc (by omega) (by omega);have aL:∀(t:TypeId),(w.alloc (xK #[xS ⟨#[104,111,109,101]⟩,xS ⟨#[97]⟩,xS ⟨#[98,50]⟩,xS ⟨#[116,111,112,95,49]⟩,xS ⟨#[122]⟩] t)).cell? ⟨w.heap.size,aJ c 5,none⟩=some (xS (vD (Rv (aJ c 5)))):=λt=>by
  simp only[World.cell?,Qbh];exact Vq hp
 have F4:((aJ c 5:Nat):Int)<5:=by omega
 have F5:(0:Int)<=((aJ c 5:Nat):Int):=Qba _;rw[show(5:Int).toNat=5 from rfl]at HP;generalize aJ c 5=q at*;go_enter func19,ntmps19;go_wp2_with fail;refine cT (HP.o _) ?_;go_wp2;go_ret;exact⟨rfl,bM⟩
end
section
open Go.RowKit
theorem sj:∀(h:Nat)(x:aA),xx h x->Dw 371 x
 |0,x,hx=>r9 x (by rw[show x.list=[]from hx];simp) λy hy=>by rw[show x.list=[]from hx]at hy;cases hy
 |h+1,x,hx=>r9 x hx.1 λy hy=>sj h y (hx.2 y hy)
def DQ(a:fA)(cap:Nat)(fv:an)(w:aj):xC 218 #[xL a 0 cap,fv] w (ji (xL none 0 0) w):=by
 go_enter func218,ntmps218;go_wp2;go_ret;exact⟨rfl,rfl⟩
def mC {P:Program}(w:aj)(t e:TypeId)(i:TypeInfo)(z:an)(ht:P.underlying t=some (.slice e))(hi:P.info? e=some i)(hz:i.zero=some z)(n:Nat)(hn:n<=1000)(hb:i.bytes<=1000):
 ∃cur:Array an,(Instr.makeSlice t (xI n) (xI n)).run P w= .ok (xL (some ⟨w.heap.size,0,none⟩) n n) (w.alloc (.cells cur e))/\cur.size=n*i.size:=by
 have hr:=run_make (P:=P) w t e i z ht hi hz .i64 .i64 n n (by omega) (Int.le_refl _) (by
  have:i.bytes*n<=1000*1000:=Nat.mul_le_mul hb hn;have h2:((i.bytes*n:Nat):Int)<=1000000:=by omega
  rw[Int.natCast_mul]at h2;omega) (by omega);simp only[Int.toNat_natCast]at hr;exact⟨_,hr,size_madeCells _ _⟩
def nB {l:List az}(h:ab M w v l){x:az}(hx:l[k]? =some x):∃b off cap,v=xL (some ⟨b,off,none⟩) l.length cap/\b<w.heap.size/\x.name.size<=maxLen/\∀W,aq w W->bt W b (off+k*4) (xS x.name)/\bt W b (off+k*4+1) (xI x.type.kind)/\bt W b (off+k*4+2) (xI x.type.of)/\bt W b (off+k*4+3) (xB x.indexed):=by
 obtain⟨a,cap,rfl,hl,_,hc⟩:=h.open_;have hk:=(Qad.1 hx).1;obtain⟨b,off,rfl,_,hb,aL⟩:=hc (by omega);obtain⟨cs,⟨rfl,hs⟩,bJ⟩:=aL k x hx;refine⟨b,off,cap,rfl,hb,hs,λW hB=> ?_⟩;have g:∀j u,([xS x.name,xI x.type.kind,xI x.type.of,xB x.indexed]:List an)[j]? =some u->bt W b (off+k*4+j) u:=λj u hu=>(hB.cell (p:=⟨b,off+k*4+j,none⟩) hb).trans (bJ j u hu);exact⟨g 0 _ rfl,g 1 _ rfl,g 2 _ rfl,g 3 _ rfl⟩
def OX(n:aM)(k o:Int)(i:Bool)(w:aj):xC 214 #[.agg #[xS n,xI k,xI o,xB i]] w (cr (.agg #[xS n,xI k,xI o,xB i]) w):=by
 go_enter func214,ntmps214;go_wp2_with fail;refine Qae (v:= .agg #[xS n,xI k,xI o,xB i]) (by simp[results,results214,go_sem]) rfl ⟨rfl,?_⟩;exact bM.alloc (by simp) _
def xJ(l:List az)(hl:l.length<=12)(h0:0<l.length)(M:aN)(w:aj)(v:an)(hM:Bd M w)(hs:ab M w v l):
 xG 213 #[v, .func (.func 214) #[] #[]] w λv' w'=>ab M w' v' l:=by
 obtain⟨i0,ed,ej,dO,er⟩:=info_parts iz;have HC:Hd (∀(i:Nat)(x:az),l[i]? =some x->_):=λi x hx=>nB hs hx;obtain⟨a,bQ,rfl,cV,lL,_⟩:=hs.open_;generalize hn:l.length=n at*;have eF:=af hn;have yJ:((n:Int)==0)=false:=by simp;omega
 obtain⟨cur,wj,bJ⟩:=mC (P:=prog) w 45 60 i0 _ underlying45 ed ej n (by omega) (by omega);have Ju:Hd (dL (α:=az) M w.heap.size 60 (w.alloc (.cells cur 60)) n []):=dL.made cur (Qbh w _) (by rw[bJ,dO];rfl);go_enter func213,ntmps213;go_wp2;go_loopg [6,7,16]n(λg _ _ iv wr=>∃i:Nat,i<=n/\g=n-i/\iv=xI i/\Hd (dL M w.heap.size 60 wr n (l.take i))/\Hd (aq w wr));case atStart=>exact⟨0,Qbf _,rfl,rfl,Ju,bM⟩
 case round=>
  obtain⟨i,hi,rfl,rfl,HA,HB⟩:=hrel;have hsz:w.heap.size<wr.heap.size:=HA.o.lt;by_cases bu:i<n
  .obtain⟨⟨xn,⟨xk,xo⟩,xi⟩,hx⟩:=eB l i (by rw[eF.o];exact bu);obtain⟨b,off,cap,hv,hb,mX,ay⟩:=HC.o i _ hx;obtain⟨rfl,rfl⟩:=iB hv;obtain⟨q0,q1,q2,q3⟩:=ay wr HB.o;have ow:=af (show(l.take i).length=i by have:=eF.o;rw[Qdb];omega);have nG:=af (show l.take (i+1)=l.take i++[⟨xn,⟨xk,xo⟩,xi⟩]by rw[Qbb,hx];rfl);have CK:=af mX;dsimp only at q0 q1 q2 q3;go_wp2_with fail;refine bY (OX _ _ _ _ _) λw1 aF=> ?_;have tG:Hd (au.rep (α:=az) (orM M w.heap.size) w1 [xS xn,xI xk,xI xo,xB xi] ⟨xn,⟨xk,xo⟩,xi⟩):=⟨rfl,CK.o⟩;have aY:=af (aU aF);have lK:=af (HA.o.below aY.o);have Yt:i*4+3<n*4:=by omega
   obtain⟨u0,p0,f0⟩:=lK.o.cell (j:=i*4) (by show _<n*4;omega);obtain⟨u1,p1,f1⟩:=lK.o.cell (j:=i*4+1) (by show _<n*4;omega);obtain⟨u2,p2,f2⟩:=lK.o.cell (j:=i*4+2) (by show _<n*4;omega);obtain⟨u3,p3,f3⟩:=lK.o.cell (j:=i*4+3) (by show _<n*4;omega);go_wp2;go_roundg(n-(i+1));case measure=>omega
   case rel=>
    refine⟨i+1,by omega,rfl,by go_num,(show dL _ _ _ _ _ _ by rw[nG.o];exact lK.o.BK rfl ow.o bu tG.o),(show Below _ _ _ from ?_)⟩;exact(((((HB.o.trans (aY.o.mono (by omega))).setCell (by simp) _).setCell (by simp) _).setCell (by simp) _).setCell (by simp) _)
  .go_wp2;go_ret;refine⟨_,rfl,?_,HB.o⟩;have h1:=HA.o;rw[Qah (by rw[eF.o];omega)]at h1;exact h1.slice eF.o (λh=>by have:=hM _ h;omega) (by unfold maxLen;omega)
def DR(a:fA)(cap:Nat)(fv:an)(w:aj):xC 213 #[xL a 0 cap,fv] w (ji (xL none 0 0) w):=by
 go_enter func213,ntmps213;go_wp2;go_ret;exact⟨rfl,rfl⟩
def BS(l:List az)(hl:l.length<=12)(M:aN)(w:aj)(v:an)(hM:Bd M w)(hs:ab M w v l):
 xG 213 #[v, .func (.func 214) #[] #[]] w λv' w'=>ab M w' v' l:=by
 by_cases h0:0<l.length
 .exact xJ l hl h0 M w v hM hs
 .have e:l=[]:=Qdd (by omega);subst e;obtain⟨a,cap,rfl,_⟩:=hs.open_;refine cT (DR a cap _ w) ?_;exact⟨_,rfl,ab.nil _ _,dQ⟩
def qO(nm:aM)(l:List az)(hl:l.length<=12)(M:aN)(w:aj)(v:an)(hM:Bd M w)(hs:ab M w v l):
 xG 151 #[.agg #[xS nm,v]] w λu w'=>∃v',u= .agg #[xS nm,v']/\ab M w' v' l:=by
 have CT:Hd (∀W,aq w W->w.heap.size+2<=W.heap.size->_):=λW hb hz=>BS l hl (ew M w 2) W v (dN hM hz) (hs.ev (dF hb));obtain⟨a,bQ,rfl,_⟩:=hs.open_;go_enter func151,ntmps151;go_wp2_with fail;refine(CT.o _ (Bx.dq w _ _).1 (by simp)).mono ?_;rintro e w1⟨_,rfl,fu,aF⟩;obtain⟨za,zc,rfl,_⟩:=fu.open_;have HB:=af ((Bx.dq w (cU nm (xL a l.length bQ)) (cU ⟨#[]⟩ (xL none 0 0))).below aF);obtain⟨r0,r1⟩:=ah (HB.o.bG rfl);obtain⟨e0,e1⟩:=ah (HB.o.bU rfl);have f1:=ag (HB.o.bG rfl) 1;obtain⟨g0,g1⟩:=mV (HB.o.bU rfl);have HS:=af fu;go_wp2_with fail;refine Qae (v:= .agg #[xS nm,xL za l.length zc]) (by simp[results,results151,go_sem,e0,e1]) rfl ⟨_,rfl,⟨_,rfl,HS.o.ev ?_⟩,?_⟩
 .exact((((fj w1).setCell (.inl (.inr ⟨by simp,by simp⟩)) _).setCell (.inl (.inr ⟨by simp,by simp⟩)) _).setCell (.inl (.inr ⟨by simp,by simp⟩)) _)
 .exact((HB.o.1.setCell (by simp) _).setCell (by simp) _).setCell (by simp) _
def DS(h:aP c=true)(hf:c.fields[i]? =some f):aG f.type=true:=
 (uR (((dY c).1 h).2.2.1 f (Qaf hf))).2.1
def hZ(c:ax)(hc:aP c=true)(fV:c.name.size<=maxLen)(many:Int)(hm:many<=100000)(vs:List aA)(hv:bh c.fields many vs)(M:aN)(w:aj)(fv vv:an)(cq:ab M w fv c.fields)(dA:ab M w vv vs)(hT:Tb w):
 xC 141 #[.agg #[xS c.name,fv],vv] w (cr (.tuple #[xI 0,xI 0]) w):=by
 have h8:c.fields.length<=8:=((dY c).1 hc).2.1;have HR:Hd (∀W,aq w W->xC 45 #[.agg #[xS c.name,fv]] W (cr (xB true) W)):=λW hb=>by
  have h:=fX M fv W c (cq.below hb) fV;rw[hc]at h;exact h
 have Tv:Hd (∀(i:Nat)(x:az),c.fields[i]? =some x->_):=λi x hx=>nB cq hx;have HVC:Hd (∀(i:Nat)(k n:Int)(s:aM)(ll:List aA),vs[i]? =some (.mk k n s ll)->_):=λi k n s ll hx=>dy dA hx;have HFT:Hd (∀(i:Nat)(f:az)(x:aA)(W:aj)(u:an),c.fields[i]? =some f->vs[i]? =some x->aq w W->ct M W u x->_):=λi f x W u hf hx hb hu=>OK (hv.2 i f x hf hx) (DS hc hf) hm hu (hT.below hb);have Nl:=hv.1;obtain⟨fa,fc,rfl,Jq,M9,_⟩:=cq.open_;obtain⟨va,vc,rfl,ja,hvm,_⟩:=dA.open_;obtain⟨nm,fs⟩:=c;dsimp only at*;generalize hvn:vs.length=m at*;generalize hn:fs.length=n at*;obtain rfl:m=n:=Nl;have eF:=af hvn;have FC:=af hn;have yU:((m:Int)!=(m:Int))=false:=by simp
 go_enter func141,ntmps141;go_wp2_with fail;refine bY (HR.o _ bM) λw1 aF=> ?_;have aY:=af ((Bx.eD w (cU nm (xL fa m fc))).below aF);obtain⟨c0,c1⟩:=ah (aY.o.bG rfl);go_wp2;go_loopg [6,7,26]m(λg _ _ iv wr=>∃i:Nat,i<=m/\g=m-i/\iv=xI i/\Hd (aq w wr));case atStart=>exact⟨0,Qbf _,rfl,rfl,(aY.o.1)⟩
 case round=>
  obtain⟨i,hi,rfl,rfl,HB⟩:=hrel;by_cases bu:i<m
  .obtain⟨⟨xn,⟨xk,xo⟩,xi⟩,hx⟩:=eB fs i (by rw[FC.o];exact bu);obtain⟨⟨yk,yn,ys,yl⟩,hy⟩:=eB vs i (by rw[eF.o];exact bu);obtain⟨b,off,cap,Nk,hb,_,ay⟩:=Tv.o i _ hx;obtain⟨rfl,rfl⟩:=iB Nk;obtain⟨bv,qg6,qg7,a',c',kZ,hbv,_,_,tu⟩:=HVC.o i yk yn ys yl hy;obtain⟨rfl,rfl⟩:=iB kZ;have hsz:=HB.o.size;have aQ:=af (λo=>HB.o.alloc hsz o);obtain⟨q0,q1,q2,q3⟩:=ay wr HB.o;have p0:=λo=>(tu _ (aQ.o o)).1.1;have p1:=λo=>(tu _ (aQ.o o)).1.2.1;have p2:=λo=>(tu _ (aQ.o o)).1.2.2.1;have p3:=λo=>(tu _ (aQ.o o)).1.2.2.2;have mP:=af (λo=>HFT.o i _ _ (wr.alloc o).drew _ hx hy (aQ.o o).drew ((tu _ (aQ.o o)).2.ev ((Ev.refl _ _).drew)));dsimp only at q0 q1 q2 q3;go_upto_region 8 with fail;go_region_law(first
    |(go_simp;go_at_call 200;refine bY (mP.o _) λw2 bC=> ?_;have bO:Hd (aq w w2):=(aQ.o _).drew.trans (bC.mono (by have:=(aQ.o (xK #[] 0)).size;simp at this⊢;omega));clear bC));all_goals
    go_wp2;go_roundg(m-(i+1));case measure=>omega
    case rel=>exact⟨i+1,by omega,rfl,by go_num,bO⟩
  .go_wp2;go_ret2;exact⟨rfl,HB.o⟩
def km(k n:Int)(s:aM)(p:Int):an:= .agg #[xI k,xI n,xS s,xI p]
def xM(h:aB nm=true):aP ⟨nm,[]⟩=true:=by
 rw[dY];refine⟨h,by simp,?_,by simp⟩;intro f hf;cases hf
def Ay(s:aM)(h:aB s=true)(hs:s.size<=20)(w:aj):xC 375 #[xS s] w (cr (xB true) w):=by
 have HR:=af (show xC 45 #[.agg #[xS s,xL none 0 0]] w (cr (xB true) w)by
  have h1:=fX xF (xL none 0 0) w ⟨s,[]⟩ (ab.nil _ _) (cF hs);rw[xM h]at h1;exact h1);clear h;go_enter func375,ntmps375;go_wp2_with fail;refine bY (HR.o) λw1 aF=> ?_;have HB:=af aF;clear aF;go_wp2;go_ret;exact⟨rfl,HB.o⟩
def DT(h:jP s.data.toList=true):fQ s:=by
 unfold jP at h;simp only[Qce,decide_eq_true_eq,List.all_eq_true]at h;exact⟨by rw[<-bq];exact h.1,oR _ λc hc=>h.2 c hc⟩
def Az(s:aM)(h:fQ s)(w:aj)(hT:Tb w):xC 376 #[xS s] w (cr (xB true) w):=by
 have HR:=af (xu s h none 0 w hT);clear h hT;go_enter func376,ntmps376;go_wp2_with fail;refine bY (HR.o) λw1 aF=> ?_;have HB:=af aF;clear aF;go_wp2;go_ret;exact⟨rfl,HB.o⟩
def zt(s:aM)(hs:s.size<=200)(h0:0<s.size)(c:Int)(hc:((s[0]'h0).toNat:Int)=c)(h1:48<=c)(h2:c<=57)(hn:∀h:1<s.size,¬(48<=((s[1]'h).toNat:Int)/\((s[1]'h).toNat:Int)<=57))(w:aj):
 xC 334 #[xS s] w (cr (.tuple #[km 1 (c-48) ⟨#[]⟩ 0,xI 1]) w):=by
 have HC:=af hc;have HN:=af hn;clear hc hn;go_enter func334,ntmps334;go_wp2;go_loopg [4,5]2(λg n k wr=>wr=w.alloc (xK #[xI 0,xI 0,xS ⟨#[]⟩,xI 0] 359)/\((g=2/\n=xI 0/\k=xI 0)\/(g=1/\n=xI (c-48)/\k=xI 1)));case atStart=>exact⟨rfl, .inl ⟨rfl,rfl,rfl⟩⟩
 case round=>
  obtain⟨rfl,⟨rfl,rfl,rfl⟩|⟨rfl,rfl,rfl⟩⟩:=hrel
  .have q0:∀h,((s[0]'h).toNat:Int)=c:=λ_=>HC.o;have q1:0<s.size:=h0;go_wp2;go_roundg 1;case measure=>omega
   case rel=>exact⟨rfl, .inr ⟨rfl,by rw[Int.min_eq_left (by omega)],rfl⟩⟩
  .have hg:¬(c-48>1000000000000000):=by omega
   by_cases hl:1<s.size
   .have yN:=HN.o hl;obtain⟨d,hd⟩:=jO (((s[1]'hl).toNat:Int));rw[hd]at yN;have q1:∀h,((s[1]'h).toNat:Int)=d:=λ_=>hd;clear hd;by_cases a1:48<=d
    .have a2:¬d<=57:=λh=>yN ⟨a1,h⟩;clear yN;go_wp2_with fail;refine Qae (v:= .tuple #[km 1 (c-48) ⟨#[]⟩ 0,xI 1]) (by simp[results,results334,go_sem,km]) rfl ⟨rfl,?_⟩;exact bM
    .clear yN;go_wp2_with fail;refine Qae (v:= .tuple #[km 1 (c-48) ⟨#[]⟩ 0,xI 1]) (by simp[results,results334,go_sem,km]) rfl ⟨rfl,?_⟩;exact bM
   .go_wp2_with fail;refine Qae (v:= .tuple #[km 1 (c-48) ⟨#[]⟩ 0,xI 1]) (by simp[results,results334,go_sem,km]) rfl ⟨rfl,?_⟩;exact(Qbg _ w).alloc bN _
def sq(c:Int):Bool:=decide (97<=c/\c<=122)||decide (48<=c/\c<=57)||decide (c=95)
def pc0:Obj:=xK #[xI 0,xI 0,xS ⟨#[]⟩,xI 0] 359
def DU(s:aM)(hs:s.size<=200)(m:Nat)(hm:m<=s.size)(qg8:m<=20)(mR:∀k(h:k<s.size),k<m->sq ((s[k]'h).toNat:Int)=true)(TD:∀h:m<s.size,sq ((s[m]'h).toNat:Int)=false)(nm:aM)(mW:s.extract 0 m=nm)(hr:aB nm=true)(w:aj):
 xC 335 #[xS s] w (cr (.tuple #[km 3 0 nm 0,xI m]) w):=by
 have HA:=af mR;have HE:=af TD;have HN:=af mW;have HS:=af (show nm.size<=20 by rw[<-mW];simp[ByteArray.size_extract];omega);have HR:Hd (∀W,xC 375 #[xS (s.extract 0 m)] W (cr (xB true) W)):=λW=>by rw[mW];exact Ay nm hr HS.o W
 clear mR TD hr mW;go_enter func335,ntmps335;go_wp2;go_loopg [4](m+1)(λg k wr=>∃i:Nat,i<=m/\g=m+1-i/\k=xI i/\wr=w.alloc pc0);case atStart=>exact⟨0,Qbf _,rfl,rfl,rfl⟩
 case round=>
  obtain⟨i,hi,rfl,rfl,rfl⟩:=hrel;by_cases bu:i<s.size
  .obtain⟨d,hd⟩:=jO (((s[i]'bu).toNat:Int));have HW:=af (show sq d=decide (i<m)by
    by_cases h:i<m
    .rw[<-hd,HA.o i bu h];simp[h]
    .have:i=m:=by omega
     subst this;rw[<-hd,HE.o bu];simp);have q1:∀h,((s[i]'h).toNat:Int)=d:=λ_=>hd;clear hd;by_cases Tc:i<m
   .have hw:sq d=true:=by rw[HW.o];simpa using Tc
    have bJ:(97<=d/\d<=122)\/(¬97<=d/\48<=d/\d<=57)\/(¬97<=d/\48<=d/\¬d<=57/\(d==95)=true):=by
     unfold sq at hw;simp at hw;simp;omega
    clear hw;rcases bJ with⟨a1,a2⟩|⟨a1,a2,a3⟩|⟨a1,a2,a3,a4⟩;all_goals
     go_wp2;go_roundg(m+1-(i+1));case measure=>omega
     case rel=>exact⟨i+1,by omega,rfl,by go_num,rfl⟩
   .have hw:sq d=false:=by rw[HW.o];simpa using Tc
    obtain rfl:i=m:=by omega
    have bJ:(97<=d/\¬d<=122/\48<=d/\¬d<=57/\(d==95)=false)\/(¬97<=d/\48<=d/\¬d<=57/\(d==95)=false)\/(¬97<=d/\¬48<=d/\(d==95)=false):=by
     unfold sq at hw;simp at hw;simp;omega
    clear hw;rcases bJ with⟨a1,a2,a3,a4,a5⟩|⟨a1,a2,a3,a4⟩|⟨a1,a2,a3⟩;all_goals
     go_wp2_with fail;refine bY (HR.o _) λw1 aF=> ?_;obtain⟨g0,g1,g2,g3⟩:=ae (boxed aF);obtain⟨f0,f1,f2,f3⟩:=iK (boxed aF);have HB:=af (aU aF);clear aF;go_wp2_with fail;refine Qae (v:= .tuple #[km 3 0 nm 0,xI i]) (by rw[<-HN.o];simp[results,results335,go_sem,km,g0,g1,g2,g3]) rfl ⟨rfl,?_⟩;exact(((HB.o.setCell (by simp) _).setCell (by simp) _).setCell (by simp) _).setCell (by simp) _
  .obtain rfl:i=m:=by omega
   go_wp2_with fail;refine bY (HR.o _) λw1 aF=> ?_;obtain⟨g0,g1,g2,g3⟩:=ae (boxed aF);obtain⟨f0,f1,f2,f3⟩:=iK (boxed aF);have HB:=af (aU aF);clear aF;go_wp2_with fail;refine Qae (v:= .tuple #[km 3 0 nm 0,xI i]) (by rw[<-HN.o];simp[results,results335,go_sem,km,g0,g1,g2,g3]) rfl ⟨rfl,?_⟩;exact(((HB.o.setCell (by simp) _).setCell (by simp) _).setCell (by simp) _).setCell (by simp) _
instance:au UInt8 where
 size:=1
 rep:=λ_ _ cs x=>cs=[.int .u8 (x.toNat:Int)]
 len:=λh=>by rw[h];rfl
 flat:=λh u hu=>by rw[h]at hu;simp at hu;subst hu;rfl
 ev:=λh _=>h
def LO:(Tryz.prog.info? 5).map (λi=>(i.zero,i.size,i.bytes))=some (some (.int .u8 0),1,1):=by kernel_rfl
def xN {n:Nat}{bs:List UInt8}(h:ab xF w (xL a n cap) bs):(convert 252 9 (xL a n cap)).run prog w= .ok (xS (bL bs)) w:=by
 obtain⟨a',ig,e,_,_,hc⟩:=h.open_;obtain⟨rfl,rfl,rfl⟩:a=a'/\n=bs.length/\cap=ig:=by simpa using e
 cases bs with
 |nil=>
  rw[run_convert_bytes_string w 252 9 5 a _ cap underlying252 underlying5 underlying9];cases a with
  |none=>rfl
  |some ad=>
   have:=run_bytesToString (P:=prog) w ad 0 cap [] (by simpa using run_loadCells_list (P:=prog) w ad [] (λj v hj=>by simp at hj));exact this
 |cons c r=>
  obtain⟨b,off,rfl,_,_,aL⟩:=hc (by simp);refine run_convert_bytes_back w 252 9 5 ⟨b,off,none⟩ cap (c::r) underlying252 underlying5 underlying9 λj hj=> ?_;obtain⟨cs,rfl,bJ⟩:=aL j _ (Qac hj);have:=bJ 0 _ rfl;rw[show au.size UInt8=1 from rfl]at this;unfold Addr.add;split
  .rename_i h;subst h;simpa using this
  .simpa using this
def DV {l:List UInt8}(h:s.data.toList=l){c:UInt8}(hk:l[k]? =some c):∃h:k<s.size,s[k]'h=c:=by
 subst h;have hl:=(Qad.1 hk).1;have h3:k<s.size:=by rw[<-bq];exact hl
 have:=dk s k h3;rw[this]at hk;exact⟨h3,by simpa using hk⟩
def DW(s:ByteArray)(hs:s.size<=200)(bs rest:List UInt8)(hl:s.data.toList=34::(bs++34::rest))(hp:∀c∈bs,eY c=true)(ht:jP bs=true)(w:World)(hT:Tb w):
 xC 336 #[.string s] w (cr (.tuple #[km 2 0 (bL bs) 0, .int .i64 (bs.length+2:Nat)]) w):=by
 obtain⟨i0,ed,ej,dO,er⟩:=info_parts LO;have hlen:bs.length+2+rest.length=s.size:=by rw[<-bq,hl];simp;omega
 have HBY:Hd (∀i c,bs[i]? =some c->∃h:i+1<s.size,s[i+1]'h=c):=(show∀i c,_->_ fromλi c h=>DV hl (by
  rw[List.getElem?_cons_succ,Qbc (Qad.1 h).1];exact h));have HEN:Hd (∃h:bs.length+1<s.size,s[bs.length+1]'h=34):=(show _ from DV hl (by
  rw[List.getElem?_cons_succ,Qbd bN];simp));have HP:=af hp;have Jv:Hd (fQ (bL bs)):=(show _ from DT (by simpa [bL]using ht));have YE:=af hT;have HX:Hd (∀W,aq w W->_):=(show∀W,_->_ fromλW hb=>Az (bL bs) Jv.o W (YE.o.below hb));generalize hm:bs.length=m at*;have HM:=af hm;go_enter func336,ntmps336;go_wp2;go_loopg [4,5,14,15,27]m(λg r4 r5 _ _ _ wr=>∃(i c1:Nat)(a1:Option Addr),i<=m/\g=m-i/\r5= .int .i64 ((i:Int)+1)/\r4= .slice a1 i c1/\Hd (aK xF (w.heap.size+1) 5 wr (.slice a1 i c1) (bs.take i))/\Hd (Bx w [pc0] wr));case atStart=>exact⟨0,0,none,Qbf _,rfl,rfl,rfl,(show aK _ _ _ _ _ _ from aK.nil _ _ _ _),(show Bx _ _ _ from Bx.eD w _)⟩
 case round=>
  obtain⟨i,c1,a1,hi,rfl,rfl,rfl,HA,HB⟩:=hrel;have hsz:=HB.o.bF;simp only[Qcc,Qcd]at hsz;have ow:Hd ((bs.take i).length=i):=(show _=_ by have:=HM.o;rw[Qdb];omega);by_cases bu:i<m
  .obtain⟨d,hd⟩:=eB bs i (by rw[HM.o];exact bu);obtain⟨aF,bC⟩:=HBY.o i d hd;have nG:Hd (bs.take (i+1)=bs.take i++[d]):=(show _=_ by rw[Qbb,hd];rfl);have ij:=HP.o d (Qaf hd);have q1:∀h,s[i+1]'h=d:=λ_=>bC;have e1:((d.toNat:Int)==34)=false:=by
    unfold eY at ij;simp at ij;have h1:=ij.1;have:d.toNat≠34:=λh=>h1 (by rw[<-UInt8.toNat_inj];simpa using h);simpa using by omega
   have e2:((d.toNat:Int)==92)=false:=by
    unfold eY at ij;simp at ij;have h1:=ij.2;have:d.toNat≠92:=λh=>h1 (by rw[<-UInt8.toNat_inj];simpa using h);simpa using by omega
   go_wp2_with(at_builtin;refine aW (α:=UInt8) rfl _ _ _ rfl xF (w.heap.size+1) 5 i0 _ 1 underlying252 ed ej dO er rfl (by decide) (.slice a1 i c1) (bs.take i) rfl (HA.o.alloc _) (λ_=>True) _ [.int .u8 (d.toNat:Int)] d rfl (fF _ _ #[.int .u8 (d.toNat:Int)] _ 1 rfl rfl trivial) (show _=_ from rfl) (by rw[ow.o];unfold maxLen;omega) (by rw[ow.o];omega) (by simp;omega) ?_;rw[ow.o,<-nG.o];intro a2 c2 w2 bj dz bC;have dh:=af bj;have bO:=af bC;clear bj dz bC);go_roundg(m-(i+1));case measure=>omega
   case rel=>
    exact⟨i+1,c2,a2,by omega,rfl,by go_num,rfl,dh,(show Bx _ _ _ from(HB.o.alloc _).du bO.o (by simp))⟩
  .obtain rfl:i=m:=by omega
   obtain⟨aF,bC⟩:=HEN.o;have q1:∀h,s[i+1]'h=34:=λ_=>bC;have HS:Hd (ab xF wr (.slice a1 i c1) bs):=(show _ by
    have h1:=HA.o.slice (λi h=>h.elim);rw[Qah (by rw[HM.o];omega)]at h1;exact h1);have vN:=xN HS.o;have mP:=af (HX.o wr HB.o.1);go_wp2_with fail;refine(mP.o).mono ?_;rintro e w1⟨rfl,qas⟩;have aY:=af (HB.o.below qas);have qg9:=xN (HS.o.below qas);obtain⟨g0,g1,g2,g3⟩:=ae (aY.o.bG rfl);obtain⟨f0,f1,f2,f3⟩:=iK (aY.o.bG rfl);go_wp2_with fail;refine Qae (v:= .tuple #[km 2 0 (bL bs) 0, .int .i64 ((i:Int)+1+1)]) (by simp[results,results336,go_sem,km,g0,g1,g2,g3]) rfl ⟨by first|rfl|(congr 3;done)|(congr 3;omega),?_⟩;exact(((aY.o.1.setCell (by simp) _).setCell (by simp) _).setCell (by simp) _).setCell (by simp) _
theorem sO {size:Nat}:∀{css:List (List an)},(∀cs∈css,cs.length=size)->css.flatten.length=css.length*size
 |[],_=>by simp
 |a::r,h=>by rw[List.flatten_cons,Qda,h a (by simp),sO λcs hc=>h cs (by simp[hc]),Qcc,Nat.succ_mul,Nat.add_comm]
def ph {α:Type} [au α]{w:aj}{xs:List α}{off:Nat}(hc:xs.length<=cap)(hm:cap<=maxLen)(hB:¬M b)(hb:b<w.heap.size)
 (h:∀(i:Nat)(x:α),xs[i]? =some x->∃cs,au.rep M w cs x/\∀(j:Nat)(u:an),cs[j]? =some u->bt w b (off+i*au.size α+j) u):ab M w (xL (some ⟨b,off,none⟩) xs.length cap) xs:=by
 have hex:∀i:Fin xs.length,∃cs:List an,au.rep M w cs xs[i]/\∀(j:Nat)(u:an),cs[j]? =some u->bt w b (off+i*au.size α+j) u:=λi=>h i xs[i] (by simp);obtain⟨f,hf⟩:=Classical.axiomOfChoice hex;have hlen:∀(i:Nat)(cs:List an),(List.ofFn f)[i]? =some cs->cs.length=au.size α:=λi cs bJ=>by
  rw[List.getElem?_ofFn]at bJ;split at bJ
  .cases bJ;exact au.len (hf _).1
  .cases bJ
 have Np:(List.ofFn f).flatten.length=xs.length*au.size α:=by
  rw[sO (size:=au.size α) λcs hc=>by obtain⟨i,hi⟩:=List.mem_iff_getElem?.1 hc;exact hlen i cs hi];simp
 refine⟨List.ofFn f,⟨Np,_,cap,rfl,hc,hm,λ_=>⟨b,off,rfl,hB,hb,λj u hu=> ?_⟩⟩,by simp,λi cs x bJ hx=> ?_⟩
 .have hj:=(Qad.1 hu).1;rw[Np]at hj;have Bl:0<au.size α:=by
   rcases Nat.eq_zero_or_pos (au.size α)with h0|h0
   .rw[h0]at hj;omega
   .exact h0
  have hi:j/au.size α<xs.length:=Nat.div_lt_of_lt_mul (by rw[Nat.mul_comm];exact hj);have hr:j%au.size α<au.size α:=Nat.mod_lt _ Bl;have Nt:(List.ofFn f)[j/au.size α]? =some (f ⟨_,hi⟩):=by rw[List.getElem?_ofFn,dif_pos hi]
  have hl:=hlen _ _ Nt;have aL:=(hf ⟨_,hi⟩).2 (j%au.size α) _ (Qac (by rw[hl];exact hr));have ru:=iu hlen _ _ (j%au.size α) _ Nt (Qac (by rw[hl];exact hr));have hjj:j/au.size α*au.size α+j%au.size α=j:=by rw[Nat.mul_comm];exact Nat.div_add_mod j _
  rw[hjj,hu]at ru;cases ru;dsimp only at aL;rw[Nat.add_assoc,hjj]at aL;exact aL
 .rw[List.getElem?_ofFn]at bJ;split at bJ
  .rename_i hi;cases bJ;rw[Qac hi]at hx;cases hx;exact(hf ⟨i,hi⟩).1
  .cases bJ
abbrev X8:=Nat->Nat->aj->List an->aA->Prop
def AO(R:X8):Prop:=∀lo lo' hi w w' cs x,R lo hi w cs x->lo'<=lo->hi<=w.heap.size->(∀k,lo<=k->k<hi->w'.heap[k]? =w.heap[k]?)->R lo' hi w' cs x
def Iq(R:X8)(B:Nat)(w:aj)(n:Nat)(xs:List aA)(s:Nat->Nat):Prop:=
 ∃cur:Array an,w.heap[B]? =some (.cells cur 44 (0,0))/\cur.size=n*4/\xs.length<=n/\B<s 0/\(∀i,s i<=s (i+1))/\s xs.length<=w.heap.size/\
  ∀(i:Nat)(x:aA),xs[i]? =some x->∃a b c d,cur[i*4]? =some a/\cur[i*4+1]? =some b/\cur[i*4+2]? =some c/\cur[i*4+3]? =some d/\R (s i) (s (i+1)) w [a,b,c,d] x
def lj(R:X8)(B:Nat)(w:aj)(n:Nat)(xs:List aA):Prop:=∃s,Iq R B w n xs s
section
variable {R:X8}{B:Nat}{w w':aj}{n:Nat}{xs:List aA}{s:Nat->Nat}
theorem lj.made(cur:Array an)(h:bR w B (.cells cur 44 (0,0)))(hs:cur.size=n*4):lj R B w n []:=
 ⟨λ_=>w.heap.size,cur,h,hs,Qbf _,(Qaa.1 h).1,λ_=>bN,bN,λi x h=>by simp at h⟩
theorem lj.lt(h:lj R B w n xs):B<w.heap.size:=by obtain⟨_,cur,h1,_⟩:=h;exact(Qaa.1 h1).1
theorem re(h:∀i,s i<=s (i+1)):∀{i j},i<=j->s i<=s j
 |i,0,hij=>by rw[Nat.le_zero.1 hij];exact bN
 |i,j+1,hij=>by
  rcases Nat.lt_or_ge i (j+1)with hl|hl
  .exact Qcg (re h (Nat.le_of_lt_succ hl)) (h j)
  .rw[Nat.le_antisymm hij hl];exact Qab _
theorem Iq.stay(hR:AO R)(h:Iq R B w n xs s)(hz:w.heap.size<=w'.heap.size)(hk:∀k,B<=k->k<w.heap.size->w'.heap[k]? =w.heap[k]?):Iq R B w' n xs s:=by
 obtain⟨cur,h1,h2,h3,h4,h5,h6,h7⟩:=h;refine⟨cur,(hk B bN (Qaa.1 h1).1).trans h1,h2,h3,h4,h5,Qcg h6 hz,λi x hx=> ?_⟩;obtain⟨a,b,c,d,p0,p1,p2,p3,hr⟩:=h7 i x hx;have hi:=(Qad.1 hx).1;have hle:s (i+1)<=s xs.length:=re h5 hi;have KE:s 0<=s i:=re h5 (Qbf _);exact⟨a,b,c,d,p0,p1,p2,p3,hR _ _ _ _ _ _ _ hr bN (by omega) λk k1 k2=>hk k (by omega) (by omega)⟩
theorem lj.stay(hR:AO R)(h:lj R B w n xs)(hz:w.heap.size<=w'.heap.size)(hk:∀k,B<=k->k<w.heap.size->w'.heap[k]? =w.heap[k]?):lj R B w' n xs:=by
 obtain⟨s,h⟩:=h;exact⟨s,h.stay hR hz hk⟩
theorem Iq.below(hR:AO R)(h:Iq R B w n xs s)(hb:aq w w'):Iq R B w' n xs s:=h.stay hR hb.size λk _ k2=>hb.block k k2
theorem lj.below(hR:AO R)(h:lj R B w n xs)(hb:aq w w'):lj R B w' n xs:=by obtain⟨s,h⟩:=h;exact⟨s,h.below hR hb⟩
theorem lj.cell(h:lj R B w n xs)(hj:j<n*4):∃v,bt w B j v/\w.frozen? ⟨B,j,none⟩=false:=by
 obtain⟨_,cur,h1,h2,_⟩:=h;exact⟨cur[j]'(by omega),cell_of_heap h1 (by simp[h2,hj]),ag h1 j⟩
def lH {o:Nat}{a b c d:an}(h:o+4<=cur.size)(j:Nat):
 ((((cur.setIfInBounds o a).setIfInBounds (o+1) b).setIfInBounds (o+2) c).setIfInBounds (o+3) d)[j]? =
   if j=o then some a else if j=o+1 then some b else if j=o+2 then some c else if j=o+3 then some d else cur[j]? :=by
 have q0:o<cur.size:=by omega
 have q1:o+1<cur.size:=by omega
 have q2:o+2<cur.size:=by omega
 have q3:o+3<cur.size:=by omega
 by_cases e0:j=o
 .subst e0;simp[Array.getElem?_setIfInBounds,q0]
 by_cases e1:j=o+1
 .subst e1;simp[Array.getElem?_setIfInBounds,q1]
 by_cases e2:j=o+2
 .subst e2;simp[Array.getElem?_setIfInBounds,q2]
 by_cases e3:j=o+3
 .subst e3;simp[Array.getElem?_setIfInBounds,q3]
 rw[if_neg e0,if_neg e1,if_neg e2,if_neg e3];simp only[Array.getElem?_setIfInBounds,Array.size_setIfInBounds,if_neg (Ne.symm e0),if_neg (Ne.symm e1),if_neg (Ne.symm e2),if_neg (Ne.symm e3)]
def BK(w:aj)(B o:Nat)(a b c d:an):aj:=(((w.setCell ⟨B,o,none⟩ a).setCell ⟨B,o+1,none⟩ b).setCell ⟨B,o+2,none⟩ c).setCell ⟨B,o+3,none⟩ d
def Ir {o:Nat}{a b c d:an}(h:k≠B):(BK w B o a b c d).heap[k]? =w.heap[k]? :=by
 unfold BK;rw[Qag _ _ _ _ (by simpa using h),Qag _ _ _ _ (by simpa using h),Qag _ _ _ _ (by simpa using h),Qag _ _ _ _ (by simpa using h)]
def Mn {o:Nat}{a b c d:an}:(BK w B o a b c d).heap.size=w.heap.size:=by simp[BK,World.setCell]
theorem lj.snoc(hR:AO R)(h:lj R B w n xs)(hb:aq w w')(hn:xs.length<n){x:aA}{a b c d:an}(hx:R w.heap.size w'.heap.size w' [a,b,c,d] x):
 lj R B (BK w' B (xs.length*4) a b c d) n (xs++[x]):=by
 have hBl:=h.lt;obtain⟨s,hS⟩:=h;have hs6:s xs.length<=w.heap.size:=by obtain⟨_,_,_,_,_,_,h6,_⟩:=hS;exact h6
 obtain⟨cur,h1,h2,h3,h4,h5,h6,h7⟩:=hS.below hR hb;have hzz:=hb.size;have qbg:∀i,(λj=>if j<=xs.length then s j else w'.heap.size) i<=(λj=>if j<=xs.length then s j else w'.heap.size) (i+1):=λi=>by
  have h0:=h5 i;have h00:i<=xs.length->s i<=s xs.length:=λh=>re h5 h;dsimp only;split<;>split<;>omega
 refine⟨λj=>if j<=xs.length then s j else w'.heap.size,_,iE h1 a b c d,by simp[h2],by simp;omega,by simpa using h4,qbg,by simp[Mn,Nat.not_succ_le_self],λi y hy=> ?_⟩;have bJ:xs.length*4+4<=cur.size:=by omega
 have fJ:∀k,k≠B->(BK w' B (xs.length*4) a b c d).heap[k]? =w'.heap[k]? :=λk hk=>Ir hk;by_cases hi:i<xs.length
 .rw[Qbc hi]at hy;obtain⟨a',b',c',d',p0,p1,p2,p3,hr⟩:=h7 i y hy;have KE:s 0<=s i:=re h5 (Qbf _);have hle:s (i+1)<=s xs.length:=re h5 hi;refine⟨a',b',c',d',?_,?_,?_,?_,?_⟩
  .rw[lH bJ,if_neg (by omega),if_neg (by omega),if_neg (by omega),if_neg (by omega)];exact p0
  .rw[lH bJ,if_neg (by omega),if_neg (by omega),if_neg (by omega),if_neg (by omega)];exact p1
  .rw[lH bJ,if_neg (by omega),if_neg (by omega),if_neg (by omega),if_neg (by omega)];exact p2
  .rw[lH bJ,if_neg (by omega),if_neg (by omega),if_neg (by omega),if_neg (by omega)];exact p3
  .dsimp only;rw[if_pos (by omega),if_pos (by omega)];exact hR _ _ _ _ _ _ _ hr bN (by omega) λk k1 k2=>fJ k (by omega)
 .have hlen:=(Qad.1 hy).1;have e:i=xs.length:=by simp at hlen;omega
  subst e;have e2:y=x:=by simpa using hy.symm
  subst e2;refine⟨a,b,c,d,?_,?_,?_,?_,?_⟩
  .rw[lH bJ,if_pos rfl]
  .rw[lH bJ,if_neg (by omega),if_pos rfl]
  .rw[lH bJ,if_neg (by omega),if_neg (by omega),if_pos rfl]
  .rw[lH bJ,if_neg (by omega),if_neg (by omega),if_neg (by omega),if_pos rfl]
  .dsimp only;rw[if_pos bN,if_neg (by omega)];exact hR _ _ _ _ _ _ _ hx hs6 bN λk k1 k2=>fJ k (by omega)
end
def PF(b:Nat)(w:aj)(l:List aA):Prop:=
 ∃cur:Array an,w.heap[b]? =some (.cells cur 44 (0,0))/\cur.size=l.length*4/\∀(i:Nat)(x:aA),l[i]? =some x->∃k n t,x= .mk k n t []/\t.size<=maxLen/\
  cur[i*4]? =some (xI k)/\cur[i*4+1]? =some (xI n)/\cur[i*4+2]? =some (xS t)/\cur[i*4+3]? =some (xL none 0 0)
def zy:X8:=λlo hi w cs x=>∃k n t l a,x=aA.mk k n t l/\t.size<=maxLen/\cs=[xI k,xI n,xS t,xL a l.length l.length]/\l.length<=12/\
 (l=[]/\a=none\/∃b,0<l.length/\lo<=b/\b<hi/\a=some ⟨b,0,none⟩/\PF b w l)
def pZ:AO zy:=λlo lo' hi w w' cs x h h1 h2 h3=>by
 obtain⟨k,n,t,l,a,e1,e2,e3,e5,e4⟩:=h;refine⟨k,n,t,l,a,e1,e2,e3,e5,?_⟩;rcases e4 with e4|⟨b,b0,b1,b2,b3,cur,c1,c2,c3⟩
 .exact .inl e4
 .exact .inr ⟨b,b0,by omega,b2,b3,cur,(h3 b b1 b2).trans c1,c2,c3⟩
theorem PF.slice {w:aj}(h:PF b w l)(hl:l.length<=12)(hM:¬M b):ab M w (xL (some ⟨b,0,none⟩) l.length l.length) l:=by
 obtain⟨cur,h1,h2,h3⟩:=h;refine ph bN (by unfold maxLen;omega) hM (Qaa.1 h1).1 λi x hx=> ?_;obtain⟨k,n,t,rfl,ht,p0,p1,p2,p3⟩:=h3 i x hx;refine⟨_,eZ.iff.2 ⟨_,rfl,ab.nil _ _,ht⟩,λj u hu=> ?_⟩;rw[Nat.zero_add,show au.size aA=4 from rfl];rcases j with _|_|_|_|j
 .simp at hu;subst hu;exact cell_of_heap h1 p0
 .simp at hu;subst hu;exact cell_of_heap h1 p1
 .simp at hu;subst hu;exact cell_of_heap h1 p2
 .simp at hu;subst hu;exact cell_of_heap h1 p3
 .simp at hu
theorem zy.rep {lo hi:Nat}{w:aj}{x:aA}(h:zy lo hi w cs x)(hM:∀i,M i->i<lo):au.rep (α:=aA) M w cs x:=by
 obtain⟨k,n,t,l,a,rfl,ht,rfl,hl,⟨rfl,rfl⟩|⟨b,b0,b1,b2,rfl,hr⟩⟩:=h
 .exact eZ.iff.2 ⟨_,rfl,ab.nil _ _,ht⟩
 .exact eZ.iff.2 ⟨_,rfl,hr.slice hl λh=>by have:=hM b h;omega,ht⟩
theorem lj.slice {B:Nat}{w:aj}{xs:List aA}(h:lj zy B w xs.length xs)(hl:xs.length<=maxLen)(hM:∀i,M i->i<B):ab M w (xL (some ⟨B,0,none⟩) xs.length xs.length) xs:=by
 obtain⟨s,cur,h1,h2,h3,h4,h5,h6,h7⟩:=h;refine ph bN hl (λh=>by have:=hM B h;omega) (Qaa.1 h1).1 λi x hx=> ?_;obtain⟨a,b,c,d,p0,p1,p2,p3,hr⟩:=h7 i x hx;have KE:s 0<=s i:=re h5 (Qbf _);refine⟨_,hr.rep λj hj=>by have:=hM j hj;omega,λj u hu=> ?_⟩;rw[Nat.zero_add,show au.size aA=4 from rfl];rcases j with _|_|_|_|j
 .simp at hu;subst hu;exact cell_of_heap h1 p0
 .simp at hu;subst hu;exact cell_of_heap h1 p1
 .simp at hu;subst hu;exact cell_of_heap h1 p2
 .simp at hu;subst hu;exact cell_of_heap h1 p3
 .simp at hu
def VX {l:List aC}(h:ab M w cv l)(hx:l[k]? =some x)(N:aN)(W:aj):
 au.rep (α:=aC) N W [xI x.kind,xS x.field,xS x.name,xS x.more,xI x.type.kind,xI x.type.of,xS x.expr,xS x.other] x:=by
 obtain⟨a,cap,rfl,hl,_,hc⟩:=h.open_;have hk:=(Qad.1 hx).1;obtain⟨b,off,rfl,_,hb,aL⟩:=hc (by omega);obtain⟨cs,⟨rfl,hs⟩,_⟩:=aL k x hx;exact⟨rfl,hs⟩
theorem kS(hK:B<=K):∀(vs:List an)(o:Nat){w W:aj},Below B w W->Below B w (W.setCells K o vs)
 |[],_,_,_,h=>h
 |v::r,o,_,_,h=>kS hK r (o+1) (h.setCell (p:=⟨K,o,none⟩) hK v)
def PY(k t o:Int)(f n m e r:aM)(w:aj):xC 217 #[.agg #[xI k,xS f,xS n,xS m,xI t,xI o,xS e,xS r]] w λq w'=>q=xR (.agg #[xI k,xS f,xS n,xS m,xI t,xI o,xS e,xS r])/\aq w w':=by
 go_enter func217,ntmps217;go_wp2_with fail;refine Qae (v:= .agg #[xI k,xS f,xS n,xS m,xI t,xI o,xS e,xS r]) (by simp[results,results217,go_sem]) rfl ⟨rfl,?_⟩;exact bM.alloc (by simp) _
def vG(l:List aC)(hl:l.length<=12)(h0:0<l.length)(M:aN)(w:aj)(v:an)(hM:Bd M w)(hs:ab M w v l):
 xG 216 #[v, .func (.func 217) #[] #[]] w λv' w'=>ab M w' v' l:=by
 obtain⟨i0,ed,ej,dO,er⟩:=info_parts uS
 have HC:Hd (∀(i:Nat)(x:aC),l[i]? =some x->_):=λi x hx=>And.intro (VX hs hx) (oP hs hx)
 obtain⟨a,bQ,rfl,cV,lL,_⟩:=hs.open_
 generalize hn:l.length=n at*
 have eF:=af hn
 have yJ:((n:Int)==0)=false:=by simp;omega
 obtain⟨cur,wj,bJ⟩:=mC (P:=prog) w 70 51 i0 _ underlying70 ed ej n (by omega) (by omega)
 have Ju:Hd (dL (α:=aC) M w.heap.size 51 (w.alloc (.cells cur 51)) n []):=dL.made cur (Qbh w _) (by rw[bJ,dO];rfl)
 go_enter func216,ntmps216
 go_wp2
 go_loopg [6,7,16]n(λg _ _ iv wr=>∃i:Nat,i<=n/\g=n-i/\iv=xI i/\Hd (dL M w.heap.size 51 wr n (l.take i))/\Hd (aq w wr))
 case atStart=>exact⟨0,Qbf _,rfl,rfl,Ju,bM⟩
 case round=>
  obtain⟨i,hi,rfl,rfl,HA,HB⟩:=hrel
  have hsz:w.heap.size<wr.heap.size:=HA.o.lt
  by_cases bu:i<n
  .obtain⟨⟨xk,x1,x2,x3,⟨x4,x5⟩,x6,x7⟩,hx⟩:=eB l i (by rw[eF.o];exact bu)
   obtain⟨mX,b,off,cap,hv,hb,ay⟩:=HC.o i _ hx
   obtain⟨rfl,rfl⟩:=iB hv
   obtain⟨q0,q1,q2,q3,q4,q5,q6,q7⟩:=ay wr HB.o
   have ow:=af (show(l.take i).length=i by have:=eF.o;rw[Qdb];omega)
   have nG:=af (show l.take (i+1)=l.take i++[⟨xk,x1,x2,x3,⟨x4,x5⟩,x6,x7⟩]by rw[Qbb,hx];rfl)
   have CK:=af mX
   dsimp only at q0 q1 q2 q3 q4 q5 q6 q7
   go_wp2_with fail
   refine bY (PY _ _ _ _ _ _ _ _ _) λw1 aF=> ?_
   have tG:=af (CK.o (orM M w.heap.size) w1)
   have aY:=af (aU aF)
   have lK:=af (HA.o.below aY.o)
   have Yt:i*8+7<n*8:=by omega
   have hTH:w1.there w.heap.size (i*8) 8:=λj hj=>by
    obtain⟨u,p,f⟩:=lK.o.cell (j:=i*8+j) (by show _<n*8;omega)
    exact⟨by rw[p];rfl,f⟩
   have qe5:(Tryz.prog.info? 51).map (·.size)=some 8:=by simp[ed,dO]
   have qbw:(#[xI xk,xS x1,xS x2,xS x3,xI x4,xI x5,xS x6,xS x7]:Array an).all (·.oneCell')=true:=by simp[Value.oneCell']
   have ry:=af (And.intro hTH (And.intro qe5 qbw))
   go_wp2_with(with_reducible refine wpList_store_mid ?_ 51 (.tmp 26) (.tmp 25) ?_ w.heap.size (i*8) #[xI xk,xS x1,xS x2,xS x3,xI x4,xI x5,xS x6,xS x7] ?_ ?_ ?_ ?_ ?_ ?_
               .exact rfl
               .exact rfl
               .exact rfl
               .exact rfl
               .exact ry.o.1
               .exact ry.o.2.1
               .exact ry.o.2.2)
   go_roundg(n-(i+1))
   case measure=>omega
   case rel=>
    refine⟨i+1,by omega,rfl,by go_num,(show dL _ _ _ _ _ _ by rw[nG.o];exact lK.o.ZP ow.o bu tG.o),(show Below _ _ _ from ?_)⟩
    exact kS (by omega) _ _ (HB.o.trans (aY.o.mono (by omega)))
  .go_wp2
   go_ret
   refine⟨_,rfl,?_,HB.o⟩
   have h1:=HA.o
   rw[Qah (by rw[eF.o];omega)]at h1
   exact h1.slice eF.o (λh=>by have:=hM _ h;omega) (by unfold maxLen;omega)
def EY(a:fA)(cap:Nat)(fv:an)(w:aj):xC 216 #[xL a 0 cap,fv] w (ji (xL none 0 0) w):=by
 go_enter func216,ntmps216;go_wp2;go_ret;exact⟨rfl,rfl⟩
def zF(l:List aC)(hl:l.length<=12)(M:aN)(w:aj)(v:an)(hM:Bd M w)(hs:ab M w v l):
 xG 216 #[v, .func (.func 217) #[] #[]] w λv' w'=>ab M w' v' l:=by
 by_cases h0:0<l.length
 .exact vG l hl h0 M w v hM hs
 .have e:l=[]:=Qdd (by omega);subst e;obtain⟨a,cap,rfl,_⟩:=hs.open_;refine cT (EY a cap _ w) ?_;exact⟨_,rfl,ab.nil _ _,dQ⟩
def Cc(nm:aM)(fs:List az)(chs:List aC)(hf:fs.length<=12)(hc:chs.length<=12)(M:aN)(w:aj)(fv cv:an)(hM:Bd M w)(cq:ab M w fv fs)(bJ:ab M w cv chs):
 xG 156 #[.agg #[xS nm,fv,cv]] w λu w'=>∃jA cv',u= .agg #[xS nm,jA,cv']/\ab M w' jA fs/\ab M w' cv' chs:=by
 have CT:Hd (∀W,aq w W->w.heap.size+2<=W.heap.size->_):=λW hb hz=>qO nm fs hf (ew M w 2) W fv (dN hM hz) (cq.ev (dF hb));have HIC:Hd (∀W,aq w W->w.heap.size+2<=W.heap.size->_):=λW hb hz=>zF chs hc (ew M w 2) W cv (dN hM hz) (bJ.ev (dF hb));obtain⟨a,bQ,rfl,_⟩:=cq.open_;obtain⟨ca,qbx,rfl,_⟩:=bJ.open_;clear cq bJ;go_enter func156,ntmps156;go_wp2_with fail;refine(CT.o _ (Bx.dq w _ _).1 (by simp)).mono ?_;rintro e w1⟨_,rfl,⟨_,rfl,fu⟩,aF⟩;obtain⟨za,zc,rfl,_⟩:=fu.open_;have HB:=af ((Bx.dq w (cI nm (xL a fs.length bQ) (xL ca chs.length qbx)) (cI ⟨#[]⟩ (xL none 0 0) (xL none 0 0))).below aF);obtain⟨r0,r1,r2⟩:=aD (HB.o.bG rfl);obtain⟨f0,f1⟩:=mV (HB.o.bG rfl);have HS:=af fu;clear fu aF;go_upto_region 2 with fail;obtain⟨W2,gS⟩:=bS ((w1.setCell ⟨w.heap.size,0,none⟩ (xS nm)).setCell ⟨w.heap.size,1,none⟩ (xL za fs.length zc));have aQ:=af (show Bx w [cI nm (xL za fs.length zc) (xL ca chs.length qbx),cI ⟨#[]⟩ (xL none 0 0) (xL none 0 0)] W2 by rw[gS];exact(HB.o.set 0 0 rfl _).set 0 1 rfl _);have gE:=af (show ab (ew M w 2) W2 (xL za fs.length zc) fs by
  rw[gS];exact HS.o.ev (((Ev.refl _ w1).setCell (.inl (.inr ⟨by simp,by simp⟩)) _).setCell (.inl (.inr ⟨by simp,by simp⟩)) _));rw[<-gS];clear gS r0 r1 r2 f0 f1 HB HS;obtain⟨r0,r1,r2⟩:=aD (aQ.o.bG rfl);go_wp2_with fail;refine(HIC.o _ aQ.o.1 aQ.o.bF).mono ?_;rintro e w3⟨_,rfl,qX,bP⟩;obtain⟨ya,yc,rfl,_⟩:=qX.open_;have bO:=af (aQ.o.below bP);have jC:=af (And.intro (gE.o.below bP) qX);clear qX bP r0 r1 r2;obtain⟨r0,r1,r2⟩:=aD (bO.o.bG rfl);obtain⟨e0,e1,e2⟩:=aD (bO.o.bU rfl);have f2:=ag (bO.o.bG rfl) 2;obtain⟨g0,g1⟩:=mV (bO.o.bU rfl);have g2:=ag (bO.o.bU rfl) 2;go_wp2_with fail;refine Qae (v:= .agg #[xS nm,xL za fs.length zc,xL ya chs.length yc]) (by simp[results,results156,go_sem,e0,e1,e2]) rfl ⟨_,rfl,⟨_,_,rfl,jC.o.1.ev ?_,jC.o.2.ev ?_⟩,?_⟩
 .exact((((fj w3).setCell (.inl (.inr ⟨by simp,by simp⟩)) _).setCell (.inl (.inr ⟨by simp,by simp⟩)) _).setCell (.inl (.inr ⟨by simp,by simp⟩)) _).setCell (.inl (.inr ⟨by simp,by simp⟩)) _
 .exact((((fj w3).setCell (.inl (.inr ⟨by simp,by simp⟩)) _).setCell (.inl (.inr ⟨by simp,by simp⟩)) _).setCell (.inl (.inr ⟨by simp,by simp⟩)) _).setCell (.inl (.inr ⟨by simp,by simp⟩)) _
 .exact(((bO.o.1.setCell (by simp) _).setCell (by simp) _).setCell (by simp) _).setCell (by simp) _
def IQ:(Tryz.prog.info? 72).map (λi=>(i.zero,i.size,i.bytes))=some (some (.agg #[xS ⟨#[]⟩,xL none 0 0,xL none 0 0]),3,64):=by kernel_rfl
def zG(l:List aH)(hl:l.length<=12)(h0:0<l.length)(Ga:∀y∈l,y.first.fields.length<=12/\y.changes.length<=12)(M:aN)(w:aj)(v:an)(hM:Bd M w)(hs:ab M w v l):
 xG 155 #[v, .func (.func 156) #[] #[]] w λv' w'=>ab M w' v' l:=by
 obtain⟨i0,ed,ej,dO,er⟩:=info_parts IQ
 have HC:Hd (∀(i:Nat)(x:aH),l[i]? =some x->_):=λi x hx=>eE hs hx
 have H12:Hd (∀y∈l,y.first.fields.length<=12/\y.changes.length<=12):=Ga
 obtain⟨a,bQ,rfl,cV,lL,_⟩:=hs.open_
 generalize hn:l.length=n at*
 have eF:=af hn
 have yJ:((n:Int)==0)=false:=by simp;omega
 obtain⟨cur,wj,bJ⟩:=mC (P:=prog) w 29 72 i0 _ underlying29 ed ej n (by omega) (by omega)
 have Ju:Hd (dL (α:=aH) M w.heap.size 72 (w.alloc (.cells cur 72)) n []):=dL.made cur (Qbh w _) (by rw[bJ,dO];rfl)
 go_enter func155,ntmps155
 go_wp2
 go_loopg [6,7,16]n(λg _ _ iv wr=>∃i:Nat,i<=n/\g=n-i/\iv=xI i/\Hd (dL M w.heap.size 72 wr n (l.take i))/\Hd (aq w wr))
 case atStart=>exact⟨0,Qbf _,rfl,rfl,Ju,bM⟩
 case round=>
  obtain⟨i,hi,rfl,rfl,HA,HB⟩:=hrel
  have hsz:w.heap.size<wr.heap.size:=HA.o.lt
  by_cases bu:i<n
  .obtain⟨x,hx⟩:=eB l i (by rw[eF.o];exact bu)
   obtain⟨b,off,cap,fa,fc,ca,cc,hv,hb,cq,bJ,mW,ay⟩:=HC.o i x hx
   obtain⟨rfl,rfl⟩:=iB hv
   obtain⟨q0,q1,q2⟩:=ay wr HB.o
   have ow:=af (show(l.take i).length=i by have:=eF.o;rw[Qdb];omega)
   have nG:=af (show l.take (i+1)=l.take i++[x]by rw[Qbb,hx];rfl)
   have KI:=H12.o x (Qaf hx)
   have YQ:Hd (∀o,Ev M w (orM M w.heap.size) (wr.alloc o)):=λo=>⟨ai.ao (HB.o.alloc (by omega) o),λj hj=>by
    rcases hj with hj|hj
    .exact .inl hj
    .exact .inr (by omega)⟩
   have br:=af (λo=>Cc x.first.name x.first.fields x.changes KI.1 KI.2 (orM M w.heap.size) (wr.alloc o) (xL fa x.first.fields.length fc) (xL ca x.changes.length cc) (λj hj=>by
    rcases hj with hj|hj
    .have:=hM j hj;simp;omega
    .simp;omega) (cq.ev (YQ.o o)) (bJ.ev (YQ.o o)))
   have CK:=af mW
   go_wp2_with fail
   refine(br.o _).mono ?_
   rintro e w1⟨_,rfl,⟨fv,cv,rfl,h1,h2⟩,aF⟩
   obtain⟨za,zc,rfl,_⟩:=h1.open_
   obtain⟨ya,yc,rfl,_⟩:=h2.open_
   have tG:Hd (au.rep (α:=aH) (orM M w.heap.size) w1 [xS x.first.name,xL za x.first.fields.length zc,xL ya x.changes.length yc] x):=⟨_,_,rfl,h1,h2,CK.o⟩
   have aY:=af (aU aF)
   have lK:=af (HA.o.below aY.o)
   have Yt:i*3+2<n*3:=by omega
   have hTH:w1.there w.heap.size (i*3) 3:=λj hj=>by
    obtain⟨u,p,f⟩:=lK.o.cell (j:=i*3+j) (by show _<n*3;omega)
    exact⟨by rw[p];rfl,f⟩
   have Xi:(Tryz.prog.info? 72).map (·.size)=some 3:=by simp[ed,dO]
   have qby:(#[xS x.first.name,xL za x.first.fields.length zc,xL ya x.changes.length yc]:Array an).all (·.oneCell')=true:=by simp[Value.oneCell']
   have ry:=af (And.intro hTH (And.intro Xi qby))
   go_wp2_with(with_reducible refine wpList_store_mid ?_ 72 (.tmp 26) (.tmp 25) ?_ w.heap.size (i*3) #[xS x.first.name,xL za x.first.fields.length zc,xL ya x.changes.length yc] ?_ ?_ ?_ ?_ ?_ ?_
               .exact rfl
               .exact rfl
               .exact rfl
               .exact rfl
               .exact ry.o.1
               .exact ry.o.2.1
               .exact ry.o.2.2)
   go_roundg(n-(i+1))
   case measure=>omega
   case rel=>
    refine⟨i+1,by omega,rfl,by go_num,(show dL _ _ _ _ _ _ by rw[nG.o];exact lK.o.ZP ow.o bu tG.o),(show Below _ _ _ from ?_)⟩
    exact kS (by omega) _ _ (HB.o.trans (aY.o.mono (by omega)))
  .go_wp2
   go_ret
   refine⟨_,rfl,?_,HB.o⟩
   have h1:=HA.o
   rw[Qah (by rw[eF.o];omega)]at h1
   exact h1.slice eF.o (λh=>by have:=hM _ h;omega) (by unfold maxLen;omega)
def EZ(a:fA)(cap:Nat)(fv:an)(w:aj):xC 155 #[xL a 0 cap,fv] w (ji (xL none 0 0) w):=by
 go_enter func155,ntmps155;go_wp2;go_ret;exact⟨rfl,rfl⟩
def E0(l:List aH)(hl:l.length<=12)(Ga:∀y∈l,y.first.fields.length<=12/\y.changes.length<=12)(M:aN)(w:aj)(v:an)(hM:Bd M w)(hs:ab M w v l):
 xG 155 #[v, .func (.func 156) #[] #[]] w λv' w'=>ab M w' v' l:=by
 by_cases h0:0<l.length
 .exact zG l hl h0 Ga M w v hM hs
 .have e:l=[]:=Qdd (by omega);subst e;obtain⟨a,cap,rfl,_⟩:=hs.open_;refine cT (EZ a cap _ w) ?_;exact⟨_,rfl,ab.nil _ _,dQ⟩
def yr(ls:List aH)(hl:ls.length<=12)(Ga:∀y∈ls,y.first.fields.length<=12/\y.changes.length<=12)(M:aN)(w:aj)(v:an)(hM:Bd M w)(hs:ab M w v ls):
 xG 87 #[.agg #[v]] w λu w'=>∃v',u= .agg #[v']/\ab M w' v' ls:=by
 have CT:Hd (∀W,aq w W->w.heap.size+2<=W.heap.size->_):=λW hb hz=>E0 ls hl Ga (ew M w 2) W v (dN hM hz) (hs.ev (dF hb));obtain⟨a,bQ,rfl,_⟩:=hs.open_;go_enter func87,ntmps87;go_wp2_with fail;refine(CT.o _ (Bx.dq w _ _).1 (by simp)).mono ?_;rintro e w1⟨_,rfl,fu,aF⟩;obtain⟨za,zc,rfl,_⟩:=fu.open_;have HB:=af ((Bx.dq w (xK #[xL a ls.length bQ] 31) (xK #[xL none 0 0] 31)).below aF);have e0:=one_cell (HB.o.bU rfl);have g0:=ag (HB.o.bU rfl) 0;have HS:=af fu;go_wp2_with fail;refine Qae (v:= .agg #[xL za ls.length zc]) (by simp[results,results87,go_sem,e0]) rfl ⟨_,rfl,⟨_,rfl,HS.o.ev ?_⟩,?_⟩
 .exact(fj w1).setCell (.inl (.inr ⟨by simp,by simp⟩)) _
 .exact HB.o.1.setCell (by simp) _
end
end Go.Proofs.YtepaofffbkfodaaGreatDoor
