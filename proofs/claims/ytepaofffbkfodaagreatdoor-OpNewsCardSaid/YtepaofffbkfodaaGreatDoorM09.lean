/- A part; no condition. -/
import Derived.Test.YtepaofffbkfodaaGreatDoorM07
import Derived.Test.YtepaofffbkfodaaGreatDoorM08
import Derived.Shelf.Strings.Prefix
set_option linter.all false
set_option maxHeartbeats 8000000
set_option maxRecDepth 100000
namespace Go.Proofs.YtepaofffbkfodaaGreatDoor
open Tryz
variable{l vs us:List aJ}{s nm:aY}{v u fv cv:aA}{w W wr:ax}{M F:aV}{ay:Int}{i B cap base X k g b j K:Nat}{e t:TypeId}{a:fx}{ls:List aQ}{c d:aI}{x:aN}{f:aH}{cur:Array aA}{cs:List aA}
section
open Go.RowKit
def rO(k n:Int)(a:fx)(cap:Nat)(w:ax):
 xC 100 #[.agg #[k,n,"",xL a 0 cap]] w (cu true w):=by
 go_enter func100,ntmps100;go_wp2;go_ret;exact⟨rfl,bU⟩
def Dd(n:Int)(h1:1<=n)(h2:n<=100000)(w:ax):xC 102 #[n] w (jt true w):=by
 go_enter func102,ntmps102;go_wp2;go_ret;exact⟨rfl,rfl⟩
def KR(r:Int)(h1:32<=r)(h2:(r !=127)=true)(w:ax):xC 165 #[.int .i32 r] w (jt true w):=by
 go_enter func165,ntmps165;go_wp2;go_ret;exact⟨rfl,rfl⟩
def zd(s:aY)(h:gi s)(w:ax)(hT:Tb w):xC 101 #[s] w (cu true w):=by
 have HT:=ag hT;have qf1:=h.1;have HS:=ag h.2;have HV:Hd (∀W,Tb W->_):=λW hT=>by
  have h1:=KM s W (by omega) hT;rw[Dc HS.o]at h1;exact h1
 go_enter func101,ntmps101;go_wp2_with fail;refine cC (HV.o _ HT.o) λw1 hb1=> ?_;have bz:=ag hb1;go_wp2;go_loopg [4](s.size+1)(λg _ wr=>∃p:Nat,p<=s.size/\g=s.size+1-p/\wr=w1.iter s p/\Hd (qo s p));case atStart=>exact⟨0,Qbf _,rfl,rfl,(tJ HS.o)⟩
 case round=>
  obtain⟨p,hp,rfl,rfl,HA⟩:=hrel;by_cases bH:p<s.size
  .have⟨r,k,hd,hk,hA2⟩:=HA.o.step bH;have hn:=run_next_any (P:=prog) w1 s p 0 bH;rw[hd]at hn;dsimp only at hn;have QZ:(32:Int)<=(r:Int):=by omega
   have qc0:((r:Int)!=127)=true:=by simp;omega
   have hk1:1<=k:=by omega
   have ZR:=hA2.1;have mz:=ag hA2;go_wp2_with fail;refine dw (KR _ QZ qc0 _) ?_;go_wp2;go_roundg(s.size+1-(p+k));case measure=>omega
   case rel=>exact⟨p+k,ZR,rfl,rfl,mz⟩
  .have hn:=run_next_end (P:=prog) w1 s p 0 bH;go_wp2;go_ret;exact⟨rfl,bz.o.alloc bz.o.size _⟩
def KS(a:fx)(cap:Nat)(w:ax):
 xC 44 #[.agg #[xI 0,xI 0,"",xL a 0 cap]] w (cu true w):=by
 go_enter func44,ntmps44;go_wp2_with fail;refine cC (rO _ _ _ _ _) λw1 hb1=> ?_;have⟨g0,g1,g2,g3⟩:=af (boxed hb1);have HB:=ag (bt hb1);go_wp2;go_ret;exact⟨rfl,HB.o⟩
def KT(n:Int)(h1: -1000000000000000<=n)(h2:n<=1000000000000000)(a:fx)(cap:Nat)(w:ax):
 xC 44 #[.agg #[xI 1,n,"",xL a 0 cap]] w (cu true w):=by
 go_enter func44,ntmps44;go_wp2_with fail;refine cC (rO _ _ _ _ _) λw1 hb1=> ?_;have⟨g0,g1,g2,g3⟩:=af (boxed hb1);have HB:=ag (bt hb1);go_wp2;go_ret;exact⟨rfl,HB.o⟩
def wZ(s:aY)(h:gi s)(a:fx)(cap:Nat)(w:ax)(hT:Tb w):
 xC 44 #[.agg #[xI 2,xI 0,s,xL a 0 cap]] w (cu true w):=by
 have HR:Hd (∀W,Tb W->_):=λW hT=>zd s h W hT;have HT:=ag (λo=>hT.ae (w':=w.alloc o) bU);go_enter func44,ntmps44;go_wp2_with fail;refine cC (HR.o _ (HT.o _)) λw1 hb1=> ?_;have HB:=ag (bt hb1);go_wp2;go_ret;exact⟨rfl,HB.o⟩
def KU(k n:Int)(hk:k=3\/k=4)(h1:1<=n)(h2:n<=100000)(a:fx)(cap:Nat)(w:ax):
 xC 44 #[.agg #[k,n,"",xL a 0 cap]] w (cu true w):=by
 rcases hk with rfl|rfl;all_goals
  go_enter func44,ntmps44;go_wp2_with fail;refine cC (rO _ _ _ _ _) λw1 hb1=> ?_;have⟨g0,g1,g2,g3⟩:=af (boxed hb1);have HB:=ag (bt hb1);go_wp2_with fail;refine dw (Dd n h1 h2 _) ?_;go_wp2;go_ret;exact⟨rfl,HB.o⟩
def dh {k n:Int}(h:cB M w v (aJ.mk k n s l)):∃a cap,v= .agg #[k,n,s,xL a l.length cap]/\ab M w (xL a l.length cap) l:=by
 obtain⟨cs,rfl,hr⟩:=h;obtain⟨av,rfl,hs,_⟩:=eU.iff.1 hr;have hs2:=hs;obtain⟨a,cap,rfl,_⟩:=hs2.aq;exact⟨a,cap,rfl,hs⟩
def Ab {k:Int}{v:aJ}(h:lJ k ay v)(hm:ay<=100000)(hu:cB M w u v)(hT:Tb w):
 xC 44 #[u] w (cu true w):=by
 rcases h with⟨_,n,rfl,h1,h2⟩|⟨_,s,rfl,h1⟩|⟨hk,rfl|⟨n,rfl,h1,h2⟩⟩
 .obtain⟨a,cap,rfl,_⟩:=dh hu;exact KT n h1 h2 a cap w
 .obtain⟨a,cap,rfl,_⟩:=dh hu;exact wZ s h1 a cap w hT
 .obtain⟨a,cap,rfl,_⟩:=dh hu;exact KS a cap w
 .obtain⟨a,cap,rfl,_⟩:=dh hu;exact KU k n hk h1 (by omega) a cap w
def KV {k:Int}{v:aJ}(h:lJ k ay v):v.an≠5:=by
 rcases h with⟨_,n,rfl,h1,h2⟩|⟨_,s,rfl,h1⟩|⟨hk,rfl|⟨n,rfl,h1,h2⟩⟩<;>simp[aJ.an];omega
def KW {k:Int}{v:aJ}(h:lJ k ay v)(hm:ay<=100000)(hu:cB M w u v)(hT:Tb w):
 xC 104 #[u] w (cu false w):=by
 have HR:=gQ (w:=w) (λW hb=>Ab h hm (hu.ae hb) (hT.ae hb));have Xq:(v.an==5)=false:=by simpa using KV h
 obtain⟨vk,vn,vs,vl⟩:=v;obtain⟨a,cap,rfl,_⟩:=dh hu;dsimp only[aJ.an]at Xq;go_enter func104,ntmps104;go_wp2_with fail;refine cC (HR.o _ bU) λw1 hb1=> ?_;have HB:=ag (bt hb1);go_wp2;go_ret;exact⟨rfl,HB.o⟩
def dy(h:ab M w v l){k n:Int}{ll:List aJ}(hx:l[i]? =some (.mk k n s ll)):∃b off cap a c,v=xL (b,off) l.length cap/\b<w.heap.size/\ab M w (xL a ll.length c) ll/\s.size<=maxLen/\∀W,aC w W->(bJ W b (off+i*4) k/\bJ W b (off+i*4+1) n/\bJ W b (off+i*4+2) s/\bJ W b (off+i*4+3) (xL a ll.length c))/\cB M W (.agg #[k,n,s,xL a ll.length c]) (aJ.mk k n s ll):=by
 obtain⟨a,cap,rfl,hl,_,hc⟩:=h.aq;have hk:=(Qad.1 hx).1;obtain⟨b,off,rfl,_,hb,hcell⟩:=hc (by omega);have⟨cs,hr,hcs⟩:=hcell i _ hx;have hr0:=hr;obtain⟨av,rfl,hs,hsz⟩:=eU.iff.1 hr;have hs2:=hs;obtain⟨a,c,rfl,_⟩:=hs2.aq;refine⟨b,off,cap,a,c,rfl,hb,hs,hsz,λW hB=>⟨?_,_,rfl,aD.ev hr0 (Ev.az hB)⟩⟩;have g:∀j u,([xI k,xI n,xS s,xL a ll.length c]:List aA)[j]? =some u->bJ W b (off+i*4+j) u:=λj u hu=>(hB.cell (p:=⟨b,off+i*4+j,none⟩) hb).trans (hcs j u hu);exact⟨g 0 _ rfl,g 1 _ rfl,g 2 _ rfl,g 3 _ rfl⟩
def BB(k ay:Int)(hm:ay<=100000)(l:List aJ)(hl:∀x∈l,lJ k ay x)(M:aV)(v:aA)(w:ax)(h:ab M w v l)(hT:Tb w):
 xC 166 #[v, .func (.func 104) #[] #[]] w (cu (xI (-1)) w):=by
 have HC:Hd (∀(i:Nat)(k n:Int)(s:aY)(ll:List aJ),l[i]? =some (.mk k n s ll)->_):=λi k n s ll hx=>dy h hx;have HN:Hd (∀W(x:aJ)u,aC w W->x∈l->cB M W u x->_):=λW x u hb hx hu=>KW (hl x hx) hm hu (hT.ae hb);obtain⟨a,cj,rfl,cY,hmx,_⟩:=h.aq;generalize hn:l.length=n at*;have eJ:=ag hn;go_enter func166,ntmps166;go_wp2;go_loopg [5,8]n(λg _ iv wr=>∃k:Nat,k<=n/\g=n-k/\iv=xI k/\Hd (aC w wr));case atStart=>exact⟨0,Qbf _,rfl,rfl,dS⟩
 case round=>
  obtain⟨i,hi,rfl,rfl,HB⟩:=hrel;by_cases bH:i<n
  .have⟨⟨xk,xn,xs,xl⟩,hx⟩:=eG l i (by rw[eJ.o];exact bH);have⟨b,off,cap,a',c',hv,hb,_,_,hcells⟩:=HC.o i xk xn xs xl hx;obtain⟨rfl,rfl⟩:=iY hv;have⟨⟨g0,g1,g2,g3⟩,hag⟩:=hcells wr HB.o;have lM:=ag (HN.o wr _ _ HB.o (Qaf hx) hag);go_wp2_with fail;refine lM.o.mono ?_;rintro e w1⟨rfl,hb1⟩;have bz:Hd (aC w w1):=HB.o.trans (hb1.mono HB.o.size);go_wp2;go_roundg(n-(i+1));case measure=>omega
   case rel=>exact⟨i+1,by omega,rfl,by go_num,bz⟩
  .go_wp2;go_ret;exact⟨rfl,HB.o⟩
def vz(k ay:Int)(hm:ay<=100000)(l:List aJ)(hl:∀x∈l,lJ k ay x)(M:aV)(v:aA)(w:ax)(h:ab M w v l)(hT:Tb w):
 xC 103 #[v, .func (.func 104) #[] #[]] w (cu false w):=by
 have HI:=ag (BB k ay hm l hl M v w h hT);go_enter func103,ntmps103;go_wp2_with fail;refine HI.o.mono ?_;rintro e w1⟨rfl,hb1⟩;have HB:=ag hb1;go_wp2;go_ret;exact⟨rfl,HB.o⟩
def Gv(k ay:Int)(hm:ay<=100000)(l:List aJ)(hl:∀x∈l,lJ k ay x)(h12:l.length<=12)(M:aV)(a:fx)(cap:Nat)(w:ax)(h:ab M w (xL a l.length cap) l)(hT:Tb w):
 xC 44 #[.agg #[xI 5,xI 0,"",xL a l.length cap]] w (cu true w):=by
 have VZ:=gQ (w:=w) (λW hb=>vz k ay hm l hl M _ W (h.ae hb) (hT.ae hb));go_enter func44,ntmps44;go_wp2_with fail;refine cC (VZ.o _ bU) λw1 hb1=> ?_;have HB:=ag (bt hb1);go_wp2;go_ret;exact⟨rfl,HB.o⟩
def rP {t:br}{v:aJ}(h:dI t ay v)(hm:ay<=100000)(hu:cB M w u v)(hT:Tb w):
 xC 44 #[u] w (cu true w):=by
 rcases h with⟨ht,l,rfl,hl,ha⟩|⟨ht,h1⟩
 .obtain⟨a,cap,rfl,hs⟩:=dh hu;exact Gv t.of ay hm l ha hl M a cap w hs hT
 .exact Ab h1 hm hu hT
def oT(t:br)(h:aR t=true)(w:ax):xC 253 #[.agg #[t.an,t.of]] w (cu true w):=by
 obtain⟨k,o⟩:=t;dsimp only at*;unfold aR at h;dsimp only at h;by_cases h5:k=5
 .subst h5;simp at h;obtain⟨h1,h2⟩:=h;go_enter func253,ntmps253;go_wp2;go_ret;exact⟨rfl,bU⟩
 .rw[if_neg h5]at h;simp at h;obtain⟨h1,h2,h3⟩:=h;have e5:(k==5)=false:=by simpa using h5
  subst h3;clear h5;go_enter func253,ntmps253;go_wp2;go_ret;exact⟨rfl,bU⟩
def xb(vk vn:Int)(vs:aY)(a:fx)(n cap:Nat)(k:Int)(h:vk=k\/(vk=0/\(k=3\/k=4)))(w:ax):
 xC 254 #[.agg #[vk,vn,vs,xL a n cap],k] w (cu true w):=by
 rcases h with rfl|⟨rfl,rfl|rfl⟩
 .go_enter func254,ntmps254;go_wp2;go_ret;exact⟨rfl,bU⟩
 .go_enter func254,ntmps254;go_wp2;go_ret;exact⟨rfl,bU⟩
 .go_enter func254,ntmps254;go_wp2;go_ret;exact⟨rfl,bU⟩
def Js {k:Int}{v:aJ}(h:lJ k ay v):v.an=k\/(v.an=0/\(k=3\/k=4)):=by
 rcases h with⟨rfl,n,rfl,h1,h2⟩|⟨rfl,s,rfl,h1⟩|⟨hk,rfl|⟨n,rfl,h1,h2⟩⟩
 .exact .inl rfl
 .exact .inl rfl
 .exact .inr ⟨rfl,hk⟩
 .exact .inl rfl
def N3 {v:aJ}(k o:Int)(p:Nat)(h:lJ o ay v)(hu:cB M w u v)(hp:bW w p (xK #[k,o] 49)):
 xC 255 #[u,xP p] w (cu false w):=by
 have ho:=Js h;obtain⟨vk,vn,vs,vl⟩:=v;obtain⟨a,cap,rfl,_⟩:=dh hu;have HO:Hd (∀W,_):=λW=>xb vk vn vs a vl.length cap o ho W;have⟨c0,c1⟩:=ak hp;have iy:p<w:=(Qaa.1 hp).1;have Vy:p≠w:=by omega
 clear hu h ho hp;go_enter func255,ntmps255;go_wp2_with fail;refine cC (HO.o _) λw1 hb1=> ?_;have HB:=ag (bt hb1);clear hb1;go_wp2;go_ret;exact⟨rfl,HB.o⟩
def BC(k o ay:Int)(p:Nat)(l:List aJ)(hl:∀x∈l,lJ o ay x)(M:aV)(v:aA)(w:ax)(h:ab M w v l)(hp:bW w p (xK #[k,o] 49)):
 xC 166 #[v, .func (.func 255) #[] #[xP p]] w (cu (xI (-1)) w):=by
 have HC:Hd (∀(i:Nat)(k n:Int)(s:aY)(ll:List aJ),l[i]? =some (.mk k n s ll)->_):=λi k n s ll hx=>dy h hx;have iy:p<w:=(Qaa.1 hp).1;have HN:Hd (∀W(x:aJ)u,aC w W->x∈l->cB M W u x->_):=λW x u hb hx hu=>N3 k o p (hl x hx) hu ((hb.block p iy).trans hp);obtain⟨a,cj,rfl,cY,hmx,_⟩:=h.aq;clear h hl hp iy;generalize hn:l.length=n at*;have eJ:=ag hn;clear hn;go_enter func166,ntmps166;go_wp2;go_loopg [5,8]n(λg _ iv wr=>∃k:Nat,k<=n/\g=n-k/\iv=xI k/\Hd (aC w wr));case atStart=>exact⟨0,Qbf _,rfl,rfl,dS⟩
 case round=>
  obtain⟨i,hi,rfl,rfl,HB⟩:=hrel;by_cases bH:i<n
  .have⟨⟨xk,xn,xs,xl⟩,hx⟩:=eG l i (by rw[eJ.o];exact bH);have⟨b,off,cap,a',c',hv,hb,_,_,hcells⟩:=HC.o i xk xn xs xl hx;obtain⟨rfl,rfl⟩:=iY hv;have⟨⟨g0,g1,g2,g3⟩,hag⟩:=hcells wr HB.o;have lM:=ag (HN.o wr _ _ HB.o (Qaf hx) hag);clear hv hcells hag hx;go_wp2_with fail;refine lM.o.mono ?_;rintro e w1⟨rfl,hb1⟩;have bz:Hd (aC w w1):=HB.o.trans (hb1.mono HB.o.size);clear hb1;go_wp2;go_roundg(n-(i+1));case measure=>omega
   case rel=>exact⟨i+1,by omega,rfl,by go_num,bz⟩
  .go_wp2;go_ret;exact⟨rfl,HB.o⟩
def vA(k o ay:Int)(p:Nat)(l:List aJ)(hl:∀x∈l,lJ o ay x)(M:aV)(v:aA)(w:ax)(h:ab M w v l)(hp:bW w p (xK #[k,o] 49)):
 xC 103 #[v, .func (.func 255) #[] #[xP p]] w (cu false w):=by
 have HI:=ag (BC k o ay p l hl M v w h hp);clear h hl hp;go_enter func103,ntmps103;go_wp2_with fail;refine HI.o.mono ?_;rintro e w1⟨rfl,hb1⟩;have HB:=ag hb1;clear hb1;go_wp2;go_ret;exact⟨rfl,HB.o⟩
def N4 {t:br}{v:aJ}(h:dI t ay v):v.an=t.an\/(v.an=0/\(t.an=3\/t.an=4)):=by
 rcases h with⟨h5,l,rfl,_⟩|⟨_,h1⟩
 .exact .inl h5.symm
 .exact Js h1
def Gw {t:br}{v:aJ}(h:dI t ay v):∀x∈v.list,lJ t.of ay x:=by
 rcases h with⟨h5,l,rfl,_,ha⟩|⟨_,h1⟩
 .exact ha
 .have:=(kO h1 (.inl rfl)).1.1;rw[this];intro x hx;cases hx
def N5 {t:br}{v:aJ}(h:dI t ay v)(ht:aR t=true)(hm:ay<=100000)(hu:cB M w u v)(hT:Tb w):
 xC 200 #[u, .agg #[t.an,t.of]] w (cu true w):=by
 have HR:=gQ (w:=w) (λW hb=>rP h hm (hu.ae hb) (hT.ae hb));have HT:Hd (∀W,_):=λW=>oT t ht W;have hvo:=N4 h;have FL:=Gw h;obtain⟨vk,vn,vs,vl⟩:=v;obtain⟨a,cap,rfl,hs⟩:=dh hu;obtain⟨tk,FG⟩:=t;dsimp only[aJ.an,aJ.list]at*;have HO:Hd (∀W,_):=λW=>xb vk vn vs a vl.length cap tk hvo W;have VZ:Hd (∀W,Bx w [xK #[vk,vn,vs,xL a vl.length cap] 44,xK #[tk,FG] 49] W->_):=λW hb=>vA tk FG ay [w] vl FL M _ W (hs.ae hb.1) (hb.cg rfl);clear h hu hT hvo FL ht hs;go_enter func200,ntmps200;go_wp2_with fail;refine cC (HR.o _ (Bx.du w _ _).1) λw1 hb1=> ?_;have HB:=ag ((Bx.du w (xK #[vk,vn,vs,xL a vl.length cap] 44) (xK #[tk,FG] 49)).ae hb1);have⟨c0,c1⟩:=ak (HB.o.cg rfl);clear hb1;go_wp2_with fail;refine cC (HT.o _) λw2 bE=> ?_;have bg:=ag (HB.o.ae bE);have⟨d0,d1⟩:=ak (bg.o.cg rfl);have⟨e0,e1,e2,e3⟩:=af (bg.o.bO rfl);clear bE c0 c1;go_wp2_with fail;refine cC (HO.o _) λw3 hb3=> ?_;have bV:=ag (bg.o.ae hb3);have⟨f0,f1,f2,f3⟩:=af (bV.o.bO rfl);clear hb3 d0 d1 e0 e1 e2 e3;go_wp2_with fail;refine cC (VZ.o _ bV.o) λw4 eA=> ?_;have ek:=ag (bV.o.ae eA);clear eA;go_wp2;go_ret;exact⟨rfl,ek.o.1⟩
def N6(t:br)(ht:aR t=true)(M:aV)(w:ax):xG 286 #[.agg #[t.an,t.of]] w λv w'=>cB M w' v (kz t):=by
 have HT:Hd (∀W,_):=λW=>oT t ht W;by_cases Cl:t.an=3\/t.an=4
 .have HZ:=ag (show kz t= .mk 0 0 ow []by unfold kz;rw[if_pos Cl]);obtain⟨k,o⟩:=t;dsimp only at*;clear ht;rcases Cl with rfl|rfl;all_goals
   go_enter func286,ntmps286;go_wp2_with fail;refine cC (HT.o _) λw1 hb1=> ?_;have HB:=ag ((Bx.du w (xK #[xI _,o] 49) (xK iE 44)).ae hb1);have⟨c0,c1⟩:=ak (HB.o.bO rfl);have⟨q0,q1,q2,q3⟩:=af (HB.o.cg rfl);have⟨f0,f1,f2,f3⟩:=hZ (HB.o.cg rfl);clear hb1;go_wp2_with fail;refine Qae (v:= .agg iE) (by simp[results,results286,go_sem,q0,q1,q2,q3]) rfl ⟨_,rfl,(by rw[HZ.o];exact oK _ _ _ jQ),?_⟩;exact(((HB.o.1.setCell (by simp) _).setCell (by simp) _).setCell (by simp) _).setCell (by simp) _
 .have HZ:=ag (show kz t= .mk t.an 0 ow []by unfold kz;rw[if_neg Cl]);obtain⟨k,o⟩:=t;dsimp only at*;clear ht;have e3:(k==3)=false:=by simp;omega
  have e4:(k==4)=false:=by simp;omega
  clear Cl;go_enter func286,ntmps286;go_wp2_with fail;refine cC (HT.o _) λw1 hb1=> ?_;have HB:=ag ((Bx.du w (xK #[k,o] 49) (xK iE 44)).ae hb1);have⟨c0,c1⟩:=ak (HB.o.bO rfl);have⟨q0,q1,q2,q3⟩:=af (HB.o.cg rfl);have⟨f0,f1,f2,f3⟩:=hZ (HB.o.cg rfl);clear hb1;go_wp2_with fail;refine Qae (v:= .agg #[k,xI 0,"",()]) (by simp[results,results286,go_sem,q0,q1,q2,q3]) rfl ⟨_,rfl,(by rw[HZ.o];exact oK _ _ _ jQ),?_⟩;exact(((HB.o.1.setCell (by simp) _).setCell (by simp) _).setCell (by simp) _).setCell (by simp) _
def rQ:(Tryz.prog.info? 3).map (λi=>(i.zero,i.size,i.bytes))=some (some (xI 0),1,8):=by kernel_rfl
def N7 {M:aV}(w:ax)(n:Int):aS (α:=Int) M w 3 (w.alloc (xK #[n] 3)) (xL (w,0) 1 1) [n]:=by
 refine⟨[[xI n]],⟨rfl, .inr ⟨w,1,#[n],rfl,bT,Qbh w _,bT,by unfold maxLen;omega,rfl,rfl⟩⟩,rfl,λi cs x hc hx=> ?_⟩;cases i with
 |zero=>simp at hc hx;subst hc hx;rfl
 |succ i=>simp at hc
theorem aS.anyM {α:Type} [aD α]{M:aV}{w:ax}{v:aA}{xs:List α}(h:aS M B e W v xs)(hB:w<=B)(hM:Bd M w):ab M W v xs:=h.slice λi hi=>Qde (hM i hi) hB
def Gx(w:ax)(o:Obj)(cs:Array aA)(t:TypeId)(size:Nat)(hs:cs.size=size)(hF:F [w]):ct F ((w.alloc o).alloc (.cells cs t)) size (xL ([w],0) 1 1) 1 cs.toList:=by
 have h:=cF (F:=F) (w.alloc o) cs t size hs (by simpa using hF);simpa using h
def De {k:Int}{x:aJ}(hx:l[i]? =some x):((l.take (i+1)).filter λy=>decide (y.an=k)).map aJ.num=((l.take i).filter λy=>decide (y.an=k)).map aJ.num++if x.an=k then[x.num]else[]:=by
 rw[Qbb,hx];simp only[Option.toList,List.filter_append,List.map_append];by_cases h:x.an=k<;>simp[h]
def uI {t:br}{ay:Int}{v:aJ}(j:Int)(hj:j=3\/j=4)(h:dI t ay v)(hm:ay<=100000){M:aV}{w:ax}(hM:Bd M w){u:aA}(hu:cB M w u v)(hT:Tb w):
 xG 199 #[u,xI j] w λr w'=>∃B,w.heap.size<=B/\aS (α:=Int) M B 3 w' r (cr j v):=by
 have HR:=gQ (w:=w) (λW hb=>rP h hm (hu.ae hb) (hT.ae hb));obtain⟨i0,hi0,hz0,hz1,hz2⟩:=info_parts rQ;have qc1:v.list.length<=12:=by
  rcases h with⟨h5,l,rfl,hl,_⟩|⟨_,h1⟩
  .exact hl
  .rw[(kO h1 hj).1.1];simp
 obtain⟨vk,vn,vs,vl⟩:=v;obtain⟨a,cap,rfl,hs⟩:=dh hu;have HC:Hd (∀(i:Nat)(k n:Int)(s:aY)(ll:List aJ),vl[i]? =some (.mk k n s ll)->_):=λi k n s ll hx=>dy hs hx;have cY:vl.length<=cap/\cap<=9223372036854775807:=by obtain⟨_,_,e,h1,h2,_⟩:=hs.aq;cases e;exact⟨h1,h2⟩
 obtain⟨Qo,Qp⟩:=cY;dsimp only[aJ.list]at qc1;by_cases hk:vk=j
 .subst hk;have HV:=ag (show cr vk (.mk vk vn vs vl)=[vn]by simp[cr,aJ.an,aJ.num]);go_enter func199,ntmps199;go_wp2_with fail;refine cC (HR.o _ bU) λw1 hb1=> ?_;obtain⟨g0,g1,g2,g3⟩:=af (boxed hb1);have HB:=ag (bt hb1);go_wp2;go_ret;exact⟨_,rfl,⟨w1,HB.o.size,by rw[HV.o];exact N7 w1 vn⟩,HB.o.alloc HB.o.size _⟩
 .have hkf:(vk==j)=false:=by simpa using hk
  have HV:=ag (show cr j (.mk vk vn vs vl)=(vl.filter λy=>decide (y.an=j)).map aJ.num by simp[cr,aJ.an,aJ.list,hk]);have zC:Hd (∀i,M i->i<w.heap.size+1):=λi h=>Nat.lt_succ_of_lt (hM i h);go_enter func199,ntmps199;go_wp2_with fail;refine cC (HR.o _ bU) λw1 hb1=> ?_;obtain⟨g0,g1,g2,g3⟩:=af (boxed hb1);have HB:=ag (bt hb1);have qc2:w.heap.size<w1.heap.size:=by have:=hb1.size;simp at this;omega
  generalize hn:vl.length=n at*;have eJ:=ag hn;go_wp2;go_loopg [5,7,21]n(λg r5 _ iv wr=>∃(i m c1:Nat)(a1:fx)(xs:List Int),i<=n/\g=n-i/\iv=xI i/\r5=xL a1 m c1/\m<=i/\Hd (xs.length=m)/\Hd (xs=((vl.take i).filter λy=>decide (y.an=j)).map aJ.num)/\Hd (aS M [w] 3 wr (xL a1 m c1) xs)/\Hd (aC w wr)/\w.heap.size<wr.heap.size);case atStart=>exact⟨0,0,0,none,[],Qbf _,rfl,rfl,rfl,bT,(show _=_ from rfl),(show _=_ by simp),(aS.nil _ _ _ _),HB,qc2⟩
  case round=>
   obtain⟨i,m,c1,a1,xs,hi,rfl,rfl,rfl,hmi,HL,HX,HA,bg,hwz⟩:=hrel;by_cases bH:i<n
   .obtain⟨⟨xk,xn,xs',xl⟩,hx⟩:=eG vl i (by rw[eJ.o];exact bH);obtain⟨b,off,cap',a',c',hv,hb,_,_,hcells⟩:=HC.o i xk xn xs' xl hx;obtain⟨rfl,rfl⟩:=iY hv;obtain⟨⟨q0,q1,q2,q3⟩,_⟩:=hcells wr bg.o;have HF:Hd (((vl.take (i+1)).filter λy=>decide (y.an=j)).map aJ.num=((vl.take i).filter λy=>decide (y.an=j)).map aJ.num++if xk=j then[xn]else[]):=De hx;by_cases hxk:xk=j
    .have ZS:(xk==j)=true:=by simpa using hxk
     have HXK:=ag hxk;go_wp2_with(at_builtin;go_loud(refine bo (α:=Int) rfl _ _ _ rfl M [w] 3 i0 _ 8 underlying27 hi0 hz0 hz1 hz2 rfl (by decide) (.slice a1 m c1) xs rfl ((HA.o.alloc _).alloc _) (λ_=>True) _ [.int .i64 xn] xn rfl (Gx wr _ #[.int .i64 xn] _ 1 rfl trivial) (show _=_ from rfl) (by rw[HL.o];unfold maxLen;omega) (by rw[HL.o];omega) (by simp;omega) ?_);rw[HL.o];intro a2 c2 w2 bD dK bE;have dr:=ag bD;have bV:=ag bE;clear bD dK bE);go_roundg(n-(i+1));case measure=>omega
     case rel=>
      refine⟨i+1,m+1,c2,a2,xs++[xn],by omega,rfl,by go_num,rfl,by omega,(show _=_ by simp[HL.o]),(show _=_ by rw[HF.o,if_pos HXK.o,HX.o]),dr,((((bg.o.alloc (by omega) _).alloc (by simp;omega) _).trans (bV.o.mono (by omega)))),by have:=bV.o.size;simp at this;omega⟩
    .have ZS:(xk==j)=false:=by simpa using hxk
     have HXK:=ag hxk;go_wp2;go_roundg(n-(i+1));case measure=>omega
     case rel=>
      refine⟨i+1,m,c1,a1,xs,by omega,rfl,by go_num,rfl,by omega,HL,(show _=_ by rw[HF.o,if_neg HXK.o,HX.o];simp),(HA.o.alloc _),(bg.o.alloc (by omega) _),by simp;omega⟩
   .go_wp2;go_ret;have kx:i=n:=by omega
    refine⟨_,rfl,⟨[w],by omega,?_⟩,bg.o⟩;rw[HV.o];have h1:=HA.o;rw[HX.o,kx,<-eJ.o,List.take_length]at h1;exact h1
section
variable {t:br}{ay:Int}{v:aJ}{M:aV}{w:ax}{u:aA}
def N8(h:dI t ay v)(hm:ay<=100000)(hM:Bd M w)(hu:cB M w u v)(hT:Tb w):
 xG 133 #[u] w λr w'=>∃B,w.heap.size<=B/\aS (α:=Int) M B 3 w' r (cr 3 v):=by
 have HN:=gQ (w:=w) (λW hb=>uI 3 (.inl rfl) h hm (hM.ae hb) (hu.ae hb) (hT.ae hb));obtain⟨vk,vn,vs,vl⟩:=v;obtain⟨a,cap,rfl,_⟩:=dh hu;go_enter func133,ntmps133;go_wp2_with fail;refine(HN.o _ bU).mono ?_;rintro e w1⟨r,rfl,⟨B,hB,hs⟩,hb1⟩;have HB:=ag (bt hb1);have HS:=ag hs;have HZ:=ag (show w<=B by simp at hB;omega);go_wp2;go_ret;exact⟨_,rfl,⟨B,HZ.o,HS.o⟩,HB.o⟩
def KX(h:dI t ay v)(hm:ay<=100000)(hM:Bd M w)(hu:cB M w u v)(hT:Tb w):
 xG 161 #[u] w λr w'=>∃B,w.heap.size<=B/\aS (α:=Int) M B 3 w' r (cr 4 v):=by
 have HN:=gQ (w:=w) (λW hb=>uI 4 (.inr rfl) h hm (hM.ae hb) (hu.ae hb) (hT.ae hb));obtain⟨vk,vn,vs,vl⟩:=v;obtain⟨a,cap,rfl,_⟩:=dh hu;go_enter func161,ntmps161;go_wp2_with fail;refine(HN.o _ bU).mono ?_;rintro e w1⟨r,rfl,⟨B,hB,hs⟩,hb1⟩;have HB:=ag (bt hb1);have HS:=ag hs;have HZ:=ag (show w<=B by simp at hB;omega);go_wp2;go_ret;exact⟨_,rfl,⟨B,HZ.o,HS.o⟩,HB.o⟩
def Df(h:dI t ay v)(hm:ay<=100000)(hM:Bd M w)(hu:cB M w u v)(hT:Tb w):
 xC 133 #[u] w (cm w λr w'=>ab M w' r (cr 3 v)):=
 (N8 h hm hM hu hT).mono (by rintro e w'⟨r,rfl,⟨B,hB,h⟩,hb⟩;exact⟨_,rfl,h.anyM hB hM,hb⟩)
def Ac(h:dI t ay v)(hm:ay<=100000)(hM:Bd M w)(hu:cB M w u v)(hT:Tb w):
 xC 161 #[u] w (cm w λr w'=>ab M w' r (cr 4 v)):=
 (KX h hm hM hu hT).mono (by rintro e w'⟨r,rfl,⟨B,hB,h⟩,hb⟩;exact⟨_,rfl,h.anyM hB hM,hb⟩)
end
def xd:Nat->aJ->Prop
 |0,v=>v.list=[]
 |h+1,v=>v.list.length<=12/\∀x∈v.list,xd h x
def Ad {k:Int}{v:aJ}(h:lJ k ay v):xd 0 v:=(kO h (.inl rfl)).1.1
def nB {t:br}{v:aJ}(h:dI t ay v):xd 1 v:=by
 rcases h with⟨h5,l,rfl,hl,ha⟩|⟨_,h1⟩
 .exact⟨hl,λx hx=>Ad (ha x hx)⟩
 .have:=Ad h1;unfold xd at this;exact⟨by rw[this];simp,by rw[this];intro x hx;cases hx⟩
def xg(f:Nat)(l:List aJ):Prop:=∀(M:aV)(w:ax)(v:aA),Bd M w->ab M w v l->xC f #[v] w (cm w λv' w'=>ab M w' v' l)
def Dg(f:Nat)(x:aJ):Prop:=∀(M:aV)(w:ax)(v:aA),Bd M w->cB M w v x->xC f #[v] w (cm w λv' w'=>cB M w' v' x)
def kI {k n:Int}(h:ab M w (xL a l.length cap) l)(hs:s.size<=maxLen):aD.rep (α:=aJ) M w [xI k,xI n,xS s,xL a l.length cap] (.mk k n s l):=eU.iff.2 ⟨_,rfl,h,hs⟩
def BE {xs:List aJ}(h:aS M base e w v xs)(hM:Bd M w):Bd (bu v M) w:=λi hi=>by
 rcases hi with hi|hi
 .exact hM i hi
 .exact(h.cG i hi).2
def fN(w:ax)(g:Nat)(cs:Array aA)(t:TypeId)(size:Nat)(hs:cs.size=size)(hg:w=g)(hF:F g):ct F (w.alloc (.cells cs t)) size (xL (g,0) 1 1) 1 cs.toList:=by
 subst hg;exact cF w cs t size hs hF
def UG {xs:List aJ}(h:aS M base e wr v xs)(ZT:w<=base)(hb:aC w W)(hX:w<=X):Ev M w (orM (bu v M) X) W:=
 ⟨ao.az hb,λi hi=>by
   rcases hi with(hi|hi)|hi
   .exact .inl hi
   .exact .inr (Qcg ZT (h.cG i hi).1)
   .exact .inr (by omega)⟩
def l8(l:List aJ)(hl:l.length<=12)(kx:∀x∈l,xg 331 x.list)(M:aV)(w:ax)(v:aA)(hM:Bd M w)(hs:ab M w v l):xG 331 #[v] w λv' w'=>aS M w 44 w' v' l:=by
 have⟨i0,hi0,hz0,hz1,hz2⟩:=info_parts ie;have HC:Hd (∀(i:Nat)(k n:Int)(s:aY)(ll:List aJ),l[i]? =some (.mk k n s ll)->_):=λi k n s ll hx=>dy hs hx;have CK:Hd (∀x∈l,xg 331 x.list):=kx;obtain⟨a,cj,rfl,cY,hmx,_⟩:=hs.aq;generalize hn:l.length=n at*;have eJ:=ag hn;go_enter func331,ntmps331;go_wp2;go_loopg [3,5,8]n(λg r3 _ iv wr=>∃(i c1:Nat)(a1:fx),i<=n/\g=n-i/\iv=xI i/\r3=xL a1 i c1/\Hd (aS M w 44 wr (xL a1 i c1) (l.take i))/\Hd (aC w wr));case atStart=>exact⟨0,0,none,Qbf _,rfl,rfl,rfl,(aS.nil _ _ _ _),dS⟩
 case round=>
  obtain⟨i,c1,a1,hi,rfl,rfl,rfl,HA,HB⟩:=hrel;by_cases bH:i<n
  .have⟨⟨xk,xn,xs,xl⟩,hx⟩:=eG l i (by rw[eJ.o];exact bH);have⟨b,off,cap,a',c',hv,hb,hsl,hxs,hcells⟩:=HC.o i xk xn xs xl hx;obtain⟨rfl,rfl⟩:=iY hv;have⟨⟨q0,q1,q2,q3⟩,_⟩:=hcells wr HB.o;have nj:=ag (show(l.take i).length=i by have:=eJ.o;rw[Qdb];omega);have nN:=ag (show l.take (i+1)=l.take i++[.mk xk xn xs xl]by rw[Qbb,hx];rfl);have hsz:=HB.o.size;have bI:Hd (∀o,xC 331 #[xL a' xl.length c'] (wr.alloc o) (cm (wr.alloc o) λv' w'=>ab (orM (bu (xL a1 i c1) M) wr) w' v' xl)):=λo=>by
    refine CK.o _ (Qaf hx) _ _ _ (λj hj=> ?_) (hsl.ev (UG HA.o bT (HB.o.alloc hsz o) hsz));rcases hj with hj|hj
    .have:=BE HA.o (hM.ae HB.o) j hj;simp;omega
    .simp;omega
   have CD:=ag hxs;go_wp2_with fail;refine(bI.o _).mono ?_;rintro e w1⟨_,rfl,hs1,hb1⟩;obtain⟨za,zc,rfl,_⟩:=hs1.aq;have HX:Hd (dk w1 wr (xK #[xk,xn,xs,xL a' xl.length c'] 44)):=boxed hb1;have⟨g0,g1,g2,g3⟩:=af HX.o;have f3:=aj HX.o 3;have s1:=hb1.size;simp only[World.size_alloc]at s1;have bz:=ag (bt hb1);have bg:Hd (aC wr (w1.setCell (wr,3) (xL za xl.length zc))):=bz.o.setCell bT _;have qL:Hd (ab (bu (xL a1 i c1) M) (w1.setCell (wr,3) (xL za xl.length zc)) (xL za xl.length zc) xl):=hs1.ev ((Ev.dL w1 λi h=> .inl h).setCell (.inl (.inr rfl)) _);have mz:=ag (HA.o.ae bg.o);go_wp2_with(at_builtin;go_loud(refine bo (α:=aJ) rfl _ _ _ rfl M w 44 i0 _ 56 underlying42 hi0 hz0 hz1 hz2 rfl (by decide) (.slice a1 i c1) (l.take i) rfl (mz.o.alloc _) (λ_=>True) _ _ (.mk xk xn xs xl) rfl (fN _ _ _ _ 4 rfl (by simp[World.setCell]) trivial) (kI (qL.o.ev ((Ev.refl _ _).alloc _)) CD.o) (by rw[nj.o];unfold maxLen;omega) (by rw[nj.o];omega) (by simp;omega) ?_);rw[nj.o,<-nN.o];intro a2 c2 w2 bD dK bE;have dr:=ag bD;have bV:=ag bE;clear bD dK bE);go_roundg(n-(i+1));case measure=>omega
   case rel=>
    refine⟨i+1,c2,a2,by omega,rfl,by go_num,rfl,dr,((HB.o.trans (bg.o.mono hsz)).alloc (by simp;omega) _|>.trans bV.o)⟩
  .go_wp2;go_ret;refine⟨_,rfl,?_,HB.o⟩;have h1:=HA.o;rw[Qah (by rw[eJ.o];omega)]at h1;exact h1
def kJ(l:List aJ)(hl:l.length<=12)(kx:∀x∈l,xg 331 x.list):xg 331 l:=λM w v hM hs=>
 (l8 l hl kx M w v hM hs).mono (by rintro e w'⟨_,rfl,h,hb⟩;exact⟨_,rfl,h.slice hM,hb⟩)
theorem nC:∀(h:Nat)(l:List aJ),l.length<=12->(∀x∈l,xd h x)->xg 331 l
 |0,l,hl,hx=>kJ l hl λx hm=>by
  rw[show x.list=[]from hx x hm];exact kJ [] (by simp) λy hy=>by cases hy
 |h+1,l,hl,hx=>kJ l hl λx hm=>nC h x.list (hx x hm).1 (hx x hm).2
def fj {fs:List aH}(h:bA fs ay vs):∀v∈vs,∃f∈fs,dI f.type ay v:=by
 intro v hv;have⟨i,hi⟩:=Qdg hv;have hl:=(Qad.1 hi).1;have⟨f,hf⟩:=eG fs i (by rw[<-h.1];exact hl);exact⟨f,Qaf hf,h.2 i f v hf hi⟩
def lg {fs:List aH}(h:bA fs ay vs)(hu:∀x∈us,x∈vs)(hl:us.length<=12):xg 331 us:=
 nC 1 us hl λx hx=>by
  have⟨f,_,hv⟩:=fj h x (hu x hx);exact nB hv
def ej(k n:Int)(s:aY)(v:aA):Obj:=xK #[k,n,s,v] 44
def BF {n:Nat}(hM:Bd M w):∀i,dX M w n i->i<w.heap.size+n:=λi hi=>by
 rcases hi with hi|hi
 .have:=hM i hi;omega
 .exact hi.2
def rR(x:aJ)(hl:x.list.length<=12)(kx:∀y∈x.list,Dg 371 y):Dg 371 x:=by
 intro M w v hM hu;have⟨i0,hi0,hz0,hz1,hz2⟩:=info_parts ie;obtain⟨vk,vn,vs,l⟩:=x;have hvs:vs.size<=maxLen:=by obtain⟨cs,_,hr⟩:=hu;have⟨_,_,_,h⟩:=eU.iff.1 hr;exact h
 obtain⟨a,cj,rfl,hs⟩:=dh hu;dsimp only[aJ.list]at*;have HC:Hd (∀(i:Nat)(k n:Int)(s:aY)(ll:List aJ),l[i]? =some (.mk k n s ll)->_):=λi k n s ll hx=>dy hs hx;have CK:Hd (∀y∈l,Dg 371 y):=kx;have cY:l.length<=cj/\cj<=9223372036854775807:=by have⟨_,_,e,h1,h2,_⟩:=hs.aq;cases e;exact⟨h1,h2⟩
 obtain⟨Qo,Qp⟩:=cY;have yS:=ag hvs;generalize hn:l.length=n at*;have eJ:=ag hn;go_enter func371,ntmps371;go_wp2;go_loopg [3,5,9]n(λg r3 _ iv wr=>∃(i c1:Nat)(a1:fx),i<=n/\g=n-i/\iv=xI i/\r3=xL a1 i c1/\Hd (aS (dX M w 2) (↑w+2) 44 wr (xL a1 i c1) (l.take i))/\Hd (Bx w [ej vk vn vs (xL a n cj),ej 0 0 () ()] wr));case atStart=>exact⟨0,0,none,Qbf _,rfl,rfl,rfl,(aS.nil _ _ _ _),(Bx.du w _ _)⟩
 case round=>
  obtain⟨i,c1,a1,hi,rfl,rfl,rfl,HA,HB⟩:=hrel;have hsz:w.heap.size+2<=wr:=HB.o.bQ;by_cases bH:i<n
  .have⟨⟨xk,xn,xs,xl⟩,hx⟩:=eG l i (by rw[eJ.o];exact bH);have⟨b,off,cap,a',c',hv,hb,hsl,hxs,hcells⟩:=HC.o i xk xn xs xl hx;obtain⟨rfl,rfl⟩:=iY hv;have⟨⟨q0,q1,q2,q3⟩,_⟩:=hcells wr HB.o.1;have nj:=ag (show(l.take i).length=i by have:=eJ.o;rw[Qdb];omega);have nN:=ag (show l.take (i+1)=l.take i++[.mk xk xn xs xl]by rw[Qbb,hx];rfl);have bI:Hd (∀o,xC 371 #[.agg #[xk,xn,xs,xL a' xl.length c']] (wr.alloc o) (cm (wr.alloc o) λv' w'=>cB (bu (xL a1 i c1) (dX M w 2)) w' v' (aJ.mk xk xn xs xl))):=λo=>by
    refine CK.o _ (Qaf hx) _ _ _ (λj hj=> ?_) ⟨_,rfl,?_⟩
    .have:=BE HA.o (dt hM hsz) j hj;simp;omega
    .refine kI (hsl.ev ⟨ao.az (HB.o.alloc o).1,λj hj=> ?_⟩) hxs;rcases hj with(hj|hj)|hj
     .exact .inl hj
     .exact .inr hj.1
     .have:=(HA.o.cG j hj).1;exact .inr (by omega)
   go_wp2_with fail;refine(bI.o _).mono ?_;rintro e w1⟨_,rfl,hag,hb1⟩;obtain⟨za,zc,rfl,hs1⟩:=dh hag;have tg:Hd (ab (bu (xL a1 i c1) (dX M w 2)) w1 (xL za xl.length zc) xl/\xs.size<=maxLen):=⟨hs1,hxs⟩;have s1:=hb1.size;simp only[World.size_alloc]at s1;have bz:=ag (bt hb1);have mz:=ag (HA.o.ae bz.o);have cI:=ag (HB.o.ae bz.o);go_wp2_with(at_builtin;refine bo (α:=aJ) rfl _ _ _ rfl (dX M w 2) (↑w+2) 44 i0 _ 56 underlying42 hi0 hz0 hz1 hz2 rfl (by decide) (.slice a1 i c1) (l.take i) rfl (mz.o.alloc _) (λ_=>True) _ _ (.mk xk xn xs xl) rfl (fN _ _ _ _ 4 rfl (by simp) trivial) (kI (tg.o.1.ev ((Ev.refl _ _).alloc _)) tg.o.2) (by rw[nj.o];unfold maxLen;omega) (by rw[nj.o];omega) (by simp;omega) ?_;rw[nj.o,<-nN.o];intro a2 c2 w2 bD dK bE;have dr:=ag bD;have bV:=ag bE;clear bD dK bE);go_roundg(n-(i+1));case measure=>omega
   case rel=>
    refine⟨i+1,c2,a2,by omega,rfl,by go_num,rfl,dr,((cI.o.alloc _).dG bV.o (by simp))⟩
  .have⟨r0,r1,r2,r3⟩:=af (HB.o.bO rfl);have⟨e0,e1,e2,e3⟩:=af (HB.o.cg rfl);have f3:=aj (HB.o.bO rfl) 3;have⟨g0,g1,g2,g3⟩:=hZ (HB.o.cg rfl);obtain rfl:i=n:=by omega
   go_wp2_with fail;refine Qae (v:= .agg #[vk,vn,vs,xL a1 i c1]) (by simp[results,results371,go_sem,e0,e1,e2,e3]) rfl ⟨_,rfl,⟨_,rfl,?_⟩,?_⟩
   .have h1:=HA.o.slice (BF hM);rw[Qah (by rw[eJ.o];omega)]at h1;have e:l.length=i:=eJ.o;refine eU.iff.2 ⟨_,rfl,h1.ev ?_,yS.o⟩;exact(((((eK wr).setCell (.inl (.inr ⟨by simp,by simp⟩)) _).setCell (.inl (.inr ⟨by simp,by simp⟩)) _).setCell (.inl (.inr ⟨by simp,by simp⟩)) _).setCell (.inl (.inr ⟨by simp,by simp⟩)) _).setCell (.inl (.inr ⟨by simp,by simp⟩)) _
   .exact((((HB.o.1.setCell (by simp) _).setCell (by simp) _).setCell (by simp) _).setCell (by simp) _).setCell (by simp) _
def Gy:(Tryz.prog.info? 72).map (λi=>(i.zero,i.size,i.bytes))=some (some (.agg #["",(),()]),3,64):=by kernel_rfl
def Dh {l:List ib}(h:ab M w v l){x:ib}(hx:l[k]? =some x):∃b off cap fv cv,v=xL (b,off) l.length cap/\b<w.heap.size/\ab M w fv x.cL.ah/\ab M w cv x.aw/\I6 x.cL.ai/\∀W,aC w W->bJ W b (off+k*3) x.cL.ai/\bJ W b (off+k*3+1) fv/\bJ W b (off+k*3+2) cv:=by
 obtain⟨a,cap,rfl,hl,_,hc⟩:=h.aq;have hk:=(Qad.1 hx).1;obtain⟨b,off,rfl,_,hb,hcell⟩:=hc (by omega);obtain⟨cs,⟨fv,cv,rfl,h1,h2,h3⟩,hcs⟩:=hcell k x hx;refine⟨b,off,cap,fv,cv,rfl,hb,h1,h2,h3,λW hB=> ?_⟩;have g:∀j u,([xI x.cL.ai,fv,cv]:List aA)[j]? =some u->bJ W b (off+k*3+j) u:=λj u hu=>(hB.cell (p:=⟨b,off+k*3+j,none⟩) hb).trans (hcs j u hu);exact⟨g 0 _ rfl,g 1 _ rfl,g 2 _ rfl⟩
def BG(ls:List aQ)(s:aY): -1<=dx ls s/\dx ls s<ls.length\/dx ls s= -1:=by
 have h1:=rj (λl:aQ=>cq l.au.ai s) ls;rcases wh (λl:aQ=>cq l.au.ai s) ls with h|h
 .exact .inl ⟨h1,h⟩
 .exact .inr h
def Di(h:dx ls s<0):∀l∈ls,cq l.au.ai s=false:=λl hl=>by
 have h1:=rj (λl:aQ=>cq l.au.ai s) ls;have h2:dx ls s= -1:=by show idxOf _ _=_;have:idxOf (λl:aQ=>cq l.au.ai s) ls<0:=h;omega
 unfold dx idxOf at h2;split at h2
 .omega
 .rename_i hn;have:=List.findIdx?_eq_none_iff.1 hn l hl;simpa using this
theorem dF.snoc(h:dF ls){l:aQ}(hl:ee l)(h4:ls.length<8)(hn:dx ls l.au.ai<0):dF (ls++[l]):=by
 refine⟨by simp;omega,λy hy=> ?_,λk y hy=> ?_⟩
 .rcases Qch.1 hy with hy|hy
  .exact h.aK y hy
  .simp at hy;subst hy;exact hl
 .by_cases hk:k<ls.length
  .rw[Qbc hk]at hy;have h1:=h.apart k y hy;unfold dx at h1⊢;exact uC h1
  .have hkl:=(Qad.1 hy).1;simp at hkl;obtain rfl:k=ls.length:=by omega
   have e:y=l:=by simpa using hy.symm
   subst e;refine idxOf_hit (λz hz=> ?_) hy (by simp[cq]);rw[List.take_left']at hz
   .exact Di hn z hz
   .rfl
theorem dF.one(h:iZ c):dF [⟨c,[]⟩]:=by
 refine⟨by simp,λl hl=> ?_,λk l hk=> ?_⟩
 .simp at hl;subst hl;exact⟨lR h,by simp,c, .nil _⟩
 .match k,hk with
  |0,hk=>simp at hk;subst hk;exact idxOf_hit (by simp) rfl (by simp[cq])
  |k+1,hk=>simp at hk
structure Dj(M:aV)(w:ax)(n:Nat)(v:aA)(ls:List aQ)(i:Nat)(wr:ax):Prop where
 len:ls.length=n
 le:n<=i
 ok:dF ls
 some_:0<i->0<n
 acc:aS (dX M w 2) (↑w+2) 72 wr v ls
 nm:∀l∈ls,l.au.ai≠dH
def rS:∀s∈lQ,s≠dH:=by decide
theorem Dj.ae {n:Nat}(h:Dj M w n v ls i wr)(hb:aC wr W):Dj M w n v ls i W:=⟨h.len,h.le,h.ok,h.some_,h.acc.ae hb,h.nm⟩
def KY:dF []:=⟨by simp,λ_ h=>(by cases h),λ_ _ h=>by simp at h⟩
def N9 {l:aQ}(hg:bW W g (xK #[l.au.ai,fv,cv] t))(hM:¬M g)(h1:ab M W fv l.au.ah)(h2:ab M W cv l.aw)(hn:l.au.ai.size<=maxLen):ab M W (xL (g,0) 1 1) [l]:=by
 refine⟨[[xS l.au.ai,fv,cv]],⟨rfl,some ⟨g,0,none⟩,1,rfl,bT,by unfold maxLen;omega,λ_=>⟨g,0,rfl,hM,(Qaa.1 hg).1,λj u hu=> ?_⟩⟩,rfl,λi cs x hc hx=> ?_⟩
 .simp only[World.cell?,hg,Nat.zero_add];simpa using hu
 .match i,hc,hx with
  |0,hc,hx=>cases hc;cases hx;exact⟨fv,cv,rfl,h1,h2,hn⟩
  |i+1,hc,hx=>simp at hx
def Dk(h:iZ c):c.ai.size<=maxLen:=cM (ic _ h.2.2.2).2
def Dl(xs:List ib)(M:aV)(w:ax)(hM:Bd M w)(v:aA)(hv:ab M w v xs):
 xG 16 #[v] w λu w'=>∃ls,dF ls/\(0<ls.length/\Ys ls)/\∃lv,u= .agg #[lv]/\ab M w' lv ls:=by
 have⟨i0,hi0,hz0,hz1,hz2⟩:=info_parts Gy;have HR:Hd (∀k r,xs[k]? =some r->_):=λk r h=>Dh hv h;have lF:=ag hM;obtain⟨ra,rc,rfl,Qh,V0,_⟩:=hv.aq;clear hv hM;generalize hn:xs.length=m at*;have HN:=ag hn;clear hn;go_enter func16,ntmps16;go_wp2;go_loopg [4,5,6,7]4(λg iv _ _ _ wr=>∃(i n cap:Nat)(a:fx)(ls:List aQ),i<=m/\i<=4/\g=4-i/\iv=xI i/\Hd (Dj M w n (xL a n cap) ls i wr)/\Hd (Bx w [eW (),eW (xL a n cap)] wr));case atStart=>exact⟨0,0,0,none,[],Qbf _,by omega,rfl,rfl,(show Dj _ _ _ _ _ _ _ from⟨rfl,bT,KY,λh=>by omega,aS.nil _ _ _ _,λ_ h=>by cases h⟩),(Bx.du w _ _)⟩
 case round=>
  obtain⟨i,n,cap,a,ls,hi,XJ,rfl,rfl,HS,HB⟩:=hrel;have hsz:=HB.o.bQ;simp only[Qcc,Qcd]at hsz;have qf2:=HS.o.le;by_cases ZU:i<m/\i<4
  .obtain⟨bH,hl4⟩:=ZU;have⟨r,hr⟩:=eG xs i (by rw[HN.o];exact bH);have⟨b,off,cap',fv,cv,hv,hbl,hf,hc,hxn,hcells⟩:=HR.o i r hr;obtain⟨rfl,rfl⟩:=iY hv;have⟨q0,q1,q2⟩:=hcells wr HB.o.1;have HE:Hd (Ev M w (bu (xL a n cap) (dX M w 2)) wr):=⟨ao.az HB.o.1,λj hj=>by
    rcases hj with(hj|hj)|hj
    .exact .inl hj
    .exact .inr hj.1
    .have:=(HS.o.acc.cG j hj).1;right;omega⟩;have J8:Hd (Bd (bu (xL a n cap) (dX M w 2)) wr):=λj hj=>by
    rcases hj with hj|hj
    .have:=BF lF.o j hj;omega
    .exact(HS.o.acc.cG j hj).2
   have XK:=ag (KL r hxn (bu (xL a n cap) (dX M w 2)) wr J8.o fv cv (hf.ev HE.o) (hc.ev HE.o));have hf':=hf;have hc':=hc;obtain⟨fa,fc,rfl,_⟩:=hf'.aq;obtain⟨ca,cc,rfl,_⟩:=hc'.aq;obtain⟨⟨rn,rfs⟩,rcs⟩:=r;dsimp only at*;clear hcells hv hr hf hc hxn;go_wp2_with fail;refine(XK.o).mono ?_;rintro e w1⟨_,rfl,⟨l,pM,IW,_,rfl,fv1,cv1,rfl,hf1,hc1,qc3⟩,hb1⟩;have hf2:=hf1;have A7:=hc1;obtain⟨SJ,XL,rfl,_⟩:=hf2.aq;obtain⟨XM,XN,rfl,_⟩:=A7.aq;obtain⟨⟨nm,Qq⟩,lcs⟩:=l;dsimp only at*;have CJ:=ag pM;have uu:Hd (nm≠dH):=rS _ IW.2.2.2;have jq:=ag hf1;have yM:=ag hc1;have qW:=ag qc3;have bz:=ag (HB.o.ae hb1);have qL:=ag (HS.o.ae hb1);clear pM IW hf1 hc1 qc3 hb1 q0 q1 q2;have⟨W1,hW1⟩:=bY (w1.alloc (cP nm (xL SJ Qq.length XL) (xL XM lcs.length XN)));have bg:=ag (show Bx w [eW (),eW (xL a n cap)] W1 by rw[hW1];exact bz.o.alloc _);have gn:=ag (show Dj M w n (xL a n cap) ls i W1 by rw[hW1];exact qL.o.ae bU);have qY:=ag (show dk W1 w1 (cP nm (xL SJ Qq.length XL) (xL XM lcs.length XN))by rw[hW1];exact Qbh w1 _);have Ng:=ag (show ab (bu (xL a n cap) (dX M w 2)) W1 (xL SJ Qq.length XL) Qq/\ab (bu (xL a n cap) (dX M w 2)) W1 (xL XM lcs.length XN) lcs by
    rw[hW1];exact⟨jq.o.ae bU,yM.o.ae bU⟩);clear jq yM qL;unfold cP at hW1;go_upto_region 6 with fail;rw[<-hW1];clear hW1 bz;have⟨at_,hat⟩:=jN ((if dx ls nm<0 then 0 else dx ls nm));have⟨is,his⟩:=jN ((!decide (dx ls nm<0)));have TB:=ag his;have SE:=ag (wW (dX M w 2) (xL a n cap) W1 ls nm (gn.o.acc.slice (λj hj=>BF lF.o j hj)) (by have:=gn.o.ok.len;omega) at_ is (ag hat) (ag his));clear hat his;have y1:=one_cell (bg.o.cg rfl);have⟨c0,c1,c2⟩:=aO qY.o;go_wp2_with fail;refine cC (SE.o) λw2 bE=> ?_;have bV:=ag (bg.o.ae bE);have jL:=ag (gn.o.ae bE);have V1:Hd (dk w2 w1 (cP nm (xL SJ Qq.length XL) (xL XM lcs.length XN))):=(bE.block _ (Qaa.1 qY.o).1).trans qY.o;have XO:Hd (ab (bu (xL a n cap) (dX M w 2)) w2 (xL SJ Qq.length XL) Qq/\ab (bu (xL a n cap) (dX M w 2)) w2 (xL XM lcs.length XN) lcs):=⟨Ng.o.1.ae bE,Ng.o.2.ae bE⟩;clear bE Ng gn y1 c0 c1 c2;cases is with
   |true=>
    go_wp2;go_roundg(4-(i+1));case measure=>omega
    case rel=>
     refine⟨i+1,n,cap,a,ls,by omega,by omega,rfl,by go_num,(show Dj _ _ _ _ _ _ _ from⟨jL.o.len,by omega,jL.o.ok,λ_=> ?_,jL.o.acc,jL.o.nm⟩),bV⟩;have h1:¬dx ls nm<0:=by simpa using TB.o
     have h2:=jL.o.len;rcases BG ls nm with h3|h3<;>omega
   |false=>
    have Fo:=ag (show dx ls nm<0 by simpa using TB.o);have ku:=ag jL.o.len;have y1:=one_cell (bV.o.cg rfl);have⟨c0,c1,c2⟩:=aO V1.o;have hs2:=bV.o.bQ;simp only[Qcc,Qcd]at hs2;have fq:Hd (∀o,aD.rep (α:=aQ) (bu (xL a n cap) (dX M w 2)) (w2.alloc o) [xS nm,xL SJ Qq.length XL,xL XM lcs.length XN] ⟨⟨nm,Qq⟩,lcs⟩):=λo=>⟨_,_,rfl,XO.o.1.ae bU,XO.o.2.ae bU,qW.o⟩;go_wp2_with(at_builtin;refine bo (α:=aQ) rfl _ _ _ rfl (dX M w 2) (↑w+2) 72 i0 _ 64 underlying29 hi0 hz0 hz1 hz2 rfl (by decide) (.slice a n cap) ls rfl (jL.o.acc.alloc _) (λ_=>True) _ _ ⟨⟨nm,Qq⟩,lcs⟩ rfl (cF _ _ _ _ rfl trivial) (fq.o _) (by rw[ku.o];unfold maxLen;omega) (by rw[ku.o];omega) (by simp;omega) ?_;rw[ku.o];intro a2 c2' w3 bD dK hb3;have dr:=ag bD;have ek:Hd (Bx w [eW (),eW (xL a n cap)] w3):=(bV.o.alloc _).dG hb3 (by simp);have p1:=one_cell (ek.o.cg rfl);have g1:=aj (ek.o.cg rfl) 0;clear bD dK hb3);go_roundg(4-(i+1));case measure=>omega
    case rel=>
     refine⟨i+1,n+1,c2',a2,ls++[⟨⟨nm,Qq⟩,lcs⟩],by omega,by omega,rfl,by go_num,(show Dj _ _ _ _ _ _ _ from⟨by simp[ku.o],by omega,jL.o.ok.snoc CJ.o (by rw[ku.o];omega) Fo.o,λ_=>by omega,?_,λy hy=>by
      rcases Qch.1 hy with hy|hy
      .exact jL.o.nm y hy
      .rw[Qea.1 hy];exact uu.o⟩),(show Bx _ _ _ from ?_)⟩
     .exact dr.o.rC (p:=⟨[w],0,none⟩) (.inr ⟨by show w.heap.size<=[w];omega,by show w.heap.size+1<_;omega⟩) (by show w.heap.size+1<_;omega) _
     .simpa [eW]using ek.o.set 1 0 rfl (xL a2 (n+1) c2')
  .have hex:m<=i\/(i<m/\i=4):=by omega
   have y1:=one_cell (HB.o.cg rfl);have g0:=aj (HB.o.bO rfl) 0;have z0:=one_cell (HB.o.bO rfl);have g1:=aj (HB.o.cg rfl) 0;rcases Nat.eq_zero_or_pos n with yI|yI
   .have SK:i=0:=Nat.eq_zero_of_not_pos λh=>by have:=HS.o.some_ h;omega
    subst yI SK;have V3:m=0:=by omega
    subst V3;have VX:=ag (nz (dX M w 2) wr (dt lF.o hsz) ⟨0,[]⟩ () (ab.nil _ _) Jn);go_wp2_with fail;refine(VX.o).mono ?_;rintro e w1⟨_,rfl,⟨c,IW,_,⟨_,rfl,⟨fv1,rfl,hsl,_⟩⟩⟩,hb1⟩;have Cq:=hsl;obtain⟨fa,fc,rfl,_⟩:=Cq.aq;have bz:=ag (HB.o.ae hb1);have SH:=ag IW;have gO:=ag hsl;clear hsl IW hb1 y1 g0 z0 g1;obtain⟨nm,yN⟩:=c;dsimp only at*;have y1:=λo=>one_cell ((bz.o.alloc o).cg rfl);have g1:=λo=>aj ((bz.o.alloc o).cg rfl) 0;have z0:=λo=>one_cell ((bz.o.alloc o).bO rfl);have g0:=λo=>aj ((bz.o.alloc o).bO rfl) 0;have s1:=bz.o.bQ;simp only[Qcc,Qcd]at s1;have pJ:Hd (∀W',W'=((w1.alloc (cP nm (xL fa yN.length fc) ())).setCell ([w],0) (xL (w1,0) 1 1)).setCell (w,0) (xL (w1,0) 1 1)->(∃ls,dF ls/\(0<ls.length/\Ys ls)/\∃lv,Value.agg #[xL (w1,0) 1 1]= .agg #[lv]/\ab M W' lv ls)/\aC w W'):=λW' hW'=>by
     have E:Ev (dX M w 2) w1 M W':=by
      rw[hW'];exact(((Ev.dL w1 λi hi=> .inl hi).alloc _).setCell (.inl (.inr ⟨by simp,by simp⟩)) _).setCell (.inl (.inr ⟨by simp,by simp⟩)) _
     have hblk:W'.heap[w1.heap.size]? =some (xK #[nm,xL fa yN.length fc,()] 72):=by
      rw[hW'];refine(Qag _ _ _ _ (by show w1.heap.size≠w;omega)).trans ((Qag _ _ _ _ (by show w1.heap.size≠[w];omega)).trans ?_);exact Qbh w1 _
     refine⟨⟨[⟨⟨nm,yN⟩,[]⟩],dF.one SH.o,⟨by simp,by simp,λy hy=>by rw[Qea.1 hy];exact rS _ SH.o.2.2.2⟩,_,rfl,N9 (l:=⟨⟨nm,yN⟩,[]⟩) hblk (λhm=>by have:=lF.o _ hm;omega) (gO.o.ev E) (ab.nil _ _) (Dk SH.o)⟩,?_⟩;rw[hW'];exact((bz.o.alloc _).1.setCell (by simp) _).setCell (by simp) _
    unfold cP at pJ;go_wp2_with fail;exact Qae (v:= .agg #[xL (w1,0) 1 1]) (by simp[results,results16,go_sem,z0,g0]) rfl ⟨_,rfl,pJ.o _ rfl⟩
   .have pJ:Hd (∀W',W'=wr.setCell (w,0) (xL a n cap)->(∃ls,dF ls/\(0<ls.length/\Ys ls)/\∃lv,Value.agg #[xL a n cap]= .agg #[lv]/\ab M W' lv ls)/\aC w W'):=λW' hW'=>by
     have E:Ev (dX M w 2) wr M W':=by
      rw[hW'];exact((Ev.dL wr λi hi=> .inl hi).setCell (.inl (.inr ⟨by simp,by simp⟩)) _)
     refine⟨⟨ls,HS.o.ok,⟨by rw[HS.o.len];exact yI,by have:=HS.o.len;have:=HS.o.le;omega,HS.o.nm⟩,_,rfl,(HS.o.acc.slice (λj hj=>BF lF.o j hj)).ev E⟩,?_⟩;rw[hW'];exact HB.o.1.setCell (by simp) _
    rcases hex with hex|⟨hex,rfl⟩;all_goals
     go_wp2_with fail;exact Qae (v:= .agg #[xL a n cap]) (by simp[results,results16,go_sem,z0,g0]) rfl ⟨_,rfl,pJ.o _ rfl⟩
def nW(c:aI)(l:List aN):aI:=l.foldl cw c
def aT(l:aQ)(v:Nat):aI:=nW l.au (l.aw.take v)
theorem dm.cL {l:List aN}(h:dm c l d):d=nW c l:=by
 induction h with
 |nil c=>rfl
 |cons c d x l _ _ _ ih=>exact ih
theorem dm.Dm {l:List aN}(h:dm c l d)(v:Nat):dm c (l.take v) (nW c (l.take v))/\dm (nW c (l.take v)) (l.drop v) d:=by
 have⟨e,h1,h2⟩:=h.split v;obtain rfl:=h1.cL;exact⟨h1,h2⟩
theorem ee.at_ {l:aQ}(h:ee l)(v:Nat):dm l.au (l.aw.take v) (aT l v):=by
 have⟨d,hd⟩:=h.chs;exact(hd.Dm v).1
theorem ee.kA {l:aQ}(h:ee l)(v:Nat):cN (aT l v):=(h.at_ v).ok h.au
theorem ee.step {l:aQ}(h:ee l){v:Nat}(hx:l.aw[v]? =some x):jc (aT l v) x/\jo (aT l v) x=true/\aT l (v+1)=cw (aT l v) x:=by
 have⟨d,hd⟩:=h.chs;have⟨h1,h2,_⟩:=wT (h.at_ v) hd hx;refine⟨h1,h2,?_⟩;unfold aT nW;rw[Qbb,hx,List.foldl_append];rfl
theorem ee.ai {l:aQ}(h:ee l)(v:Nat):(aT l v).ai=l.au.ai:=(h.at_ v).ai
def eD(l:aQ)(v:Nat):aQ:=⟨aT l v,l.aw.drop v⟩
theorem ee.from_ {l:aQ}(h:ee l)(v:Nat):ee (eD l v):=by
 have⟨d,hd⟩:=h.chs;exact⟨h.kA v,by have:=h.len;simp[eD];omega,d,(hd.Dm v).2⟩
def oU {l:aQ}(v k:Nat):aT (eD l v) k=aT l (v+k):=by
 unfold aT eD nW aT nW;dsimp only;rw[<-List.foldl_append,List.take_add]
def j5(c:aI)(l:List aN)(ay:Int)(vs us:List aJ):Prop:=bA (nW c l).ah ay us/\us.map (cr 3)=pU c l (vs.map (cr 3))
theorem j5.nil(h:bA c.ah ay vs):j5 c [] ay vs vs:=⟨h,rfl⟩
theorem j5.snoc {l:List aN}{ts:List aJ}(hc:dm c l d)(h:j5 c l ay vs us)(k:gZ d x ay us ts):j5 c (l++[x]) ay vs ts:=by
 obtain⟨h1,h2⟩:=h;obtain⟨k1,k2⟩:=k;obtain rfl:=hc.cL;refine⟨?_,?_⟩
 .unfold nW at k1⊢;rw[List.foldl_append];exact k1
 .rw[k2,h2,BA c _ l x _ hc]
def refsOf(l:aQ)(v:Nat)(vs:List aJ):List Int:=(pU (aT l v) (l.aw.drop v) (vs.map (cr 3))).flatten
theorem j5.refs {l:aQ}{v:Nat}(h:j5 (aT l v) (l.aw.drop v) ay vs us):us.flatMap (cr 3)=refsOf l v vs:=by
 unfold refsOf;rw[<-h.2,List.flatMap_def]
def lT {rs:List (List Int)}{P:Int->Prop}(h:∀r∈rs,∀n∈r,P n):∀n∈kH c s rs,P n:=by
 intro n hn;unfold kH at hn;split at hn
 .unfold Gs at hn;split at hn
  .rw[List.getD_eq_getElem?_getD]at hn;rename_i e _ _;cases hq:rs[(fieldAt c e.str).toNat]? with
   |none=>rw[hq]at hn;simp at hn
   |some r=>rw[hq]at hn;exact h r (Qaf hq) n hn
  .simp at hn
 .simp at hn
def Gz {rs:List (List Int)}{P:Int->Prop}(h:∀r∈rs,∀n∈r,P n):∀r∈l6 c x rs,∀n∈r,P n:=by
 intro r hr;have h1:∀k,∀r∈rs.take k,∀n∈r,P n:=λk r hr=>h r (List.mem_of_mem_take hr);have h2:∀k,∀r∈rs.drop k,∀n∈r,P n:=λk r hr=>h r (List.mem_of_mem_drop hr);unfold l6 at hr;split at hr
 .rcases Qch.1 hr with hr|hr
  .exact h r hr
  .simp at hr;subst hr;exact lT h
 .split at hr
  .rcases Qch.1 hr with hr|hr
   .exact h1 _ r hr
   .exact h2 _ r hr
  .split at hr
   .rcases Qch.1 hr with hr|hr
    .exact h1 _ r hr
    .rcases Qdf.1 hr with rfl|hr
     .exact lT h
     .exact h2 _ r hr
   .split at hr
    .rcases Qch.1 hr with hr|hr
     .exact h1 _ r hr
     .rcases Qdf.1 hr with rfl|hr
      .exact lT h
      .rcases Qdf.1 hr with rfl|hr
       .exact lT h
       .exact h2 _ r hr
    .exact h r hr
theorem uJ {P:Int->Prop}:∀(l:List aN)(c:aI)(rs:List (List Int)),(∀r∈rs,∀n∈r,P n)->∀r∈pU c l rs,∀n∈r,P n
 |[],_,_,h=>h
 |_::l,_,_,h=>uJ l _ _ (Gz h)
def BH {l:aQ}{v:Nat}(h:bA (aT l v).ah ay vs):∀n∈refsOf l v vs,1<=n/\n<=ay:=by
 intro n hn;unfold refsOf at hn;have⟨r,hr,hn⟩:=List.mem_flatten.1 hn;refine uJ (P:=λn=>1<=n/\n<=ay) _ _ _ (λr hr=> ?_) r hr n hn;obtain⟨u,hu,rfl⟩:=Qdh.1 hr;have⟨f,_,hf⟩:=fj h u hu;exact qQ hf (.inl rfl)
structure iR(ls:List aQ)(ay:Int)(o:bF)(k v:Nat)(l:aQ):Prop where
 cL:o.cL=k
 cQ:o.cQ=v
 line:ls[k]? =some l
 le:v<=l.aw.length
 aZ:bA (aT l v).ah ay o.aZ
def vB(k:Nat):aY:=([⟨#[97]⟩,⟨#[98,50]⟩,⟨#[104,111,109,101]⟩,⟨#[116,111,112,95,49]⟩,⟨#[122]⟩]:List aY).getD k ow
def Ae:∀k,k<5->aM (vB k)=true/\(vB k).size<=20:=by
 intro k hk;rcases k with _|_|_|_|_|k;all_goals first|(decide+kernel)|omega
def xh:∀i,i<5->∀j,j<5->Op.bytesLess (vB i).toList (vB j).toList=decide (i<j):=by decide+kernel
def Oa:∀i,i<5->∀j,j<5->((vB i).toList==(vB j).toList)=decide (i=j):=by decide+kernel
structure xj(x:aW):Prop where
 jR:dF x.aK
 len:x.aP.length<=10
 aP:∀(i:Nat)(o:bF),x.aP[i]? =some o->o.id=(i:Int)+1/\∃k v l,iR x.aK x.aP.length o k v l
 rlen:x.aF.length<=5
 aF:∀r∈x.aF,1<=r.id/\r.id<=x.aP.length
 names:∃ks:List Nat,ks.Pairwise (·< ·)/\(∀k∈ks,k<5)/\x.aF.map bj.ai=ks.map vB
 next:(x.aP.length:Int)+1<=x.next/\x.next<=(x.aP.length:Int)+3
 few:Ys x.aK
theorem xj.mL {x:aW}(h:xj x){r:bj}(hr:x.aF[i]? =some r):aM r.ai=true/\r.ai.size<=20:=by
 have⟨ks,_,h2,h3⟩:=h.names;have hm:r.ai∈x.aF.map bj.ai:=List.mem_map_of_mem (Qaf hr);rw[h3]at hm;have⟨k,hk,e⟩:=Qdh.1 hm;rw[<-e];exact Ae k (h2 k hk)
theorem xj.uK {x:aW}(h:xj x){r s:bj}(hr:x.aF[i]? =some r)(hs:x.aF[i+1]? =some s):(Op.bytesLess s.ai.toList r.ai.toList||s.ai.toList==r.ai.toList)=false:=by
 have⟨ks,h1,h2,h3⟩:=h.names;have e1:(x.aF.map bj.ai)[i]? =some r.ai:=by simp[hr]
 have e2:(x.aF.map bj.ai)[i+1]? =some s.ai:=by simp[hs]
 rw[h3,List.getElem?_map,Option.map_eq_some_iff]at e1 e2;obtain⟨a,ha,e1⟩:=e1;obtain⟨b,hb,e2⟩:=e2;have⟨l1,g1⟩:=Qad.1 ha;have⟨l2,g2⟩:=Qad.1 hb;have bH:=List.pairwise_iff_getElem.1 h1 i (i+1) l1 l2 (by omega);rw[g1,g2]at bH;have k1:=h2 a (Qaf ha);have k2:=h2 b (Qaf hb);rw[<-e1,<-e2,xh b k2 a k1,Oa b k2 a k1];simp;omega
def cE(x:aW):List Int:=x.aF.map bj.id
end
section
open Go.RowKit Go.Shelf
def iJ {l:List bF}(h:ab M w v l){x:bF}(hx:l[i]? =some x):∃b off cap a c,v=xL (b,off) l.length cap/\b<w.heap.size/\ab M w (xL a x.aZ.length c) x.aZ/\∀W,aC w W->(bJ W b (off+i*4) x.id/\bJ W b (off+i*4+1) x.cL/\bJ W b (off+i*4+2) x.cQ/\bJ W b (off+i*4+3) (xL a x.aZ.length c)):=by
 obtain⟨a,cap,rfl,hl,_,hc⟩:=h.aq;have hk:=(Qad.1 hx).1;obtain⟨b,off,rfl,_,hb,hcell⟩:=hc (by omega);obtain⟨cs,⟨vv,rfl,hs⟩,hcs⟩:=hcell i _ hx;have hs2:=hs;obtain⟨a,c,rfl,_⟩:=hs2.aq;refine⟨b,off,cap,a,c,rfl,hb,hs,λW hB=> ?_⟩;have g:∀j u,([xI x.id,xI x.cL,xI x.cQ,xL a x.aZ.length c]:List aA)[j]? =some u->bJ W b (off+i*4+j) u:=λj u hu=>(hB.cell (p:=⟨b,off+i*4+j,none⟩) hb).trans (hcs j u hu);exact⟨g 0 _ rfl,g 1 _ rfl,g 2 _ rfl,g 3 _ rfl⟩
def gw {l:List bj}(h:ab M w v l){x:bj}(hx:l[i]? =some x):∃b off cap,v=xL (b,off) l.length cap/\b<w.heap.size/\x.ai.size<=maxLen/\∀W,aC w W->(bJ W b (off+i*2) x.ai/\bJ W b (off+i*2+1) x.id):=by
 obtain⟨a,cap,rfl,hl,_,hc⟩:=h.aq;have hk:=(Qad.1 hx).1;obtain⟨b,off,rfl,_,hb,hcell⟩:=hc (by omega);obtain⟨cs,⟨rfl,hs⟩,hcs⟩:=hcell i _ hx;refine⟨b,off,cap,rfl,hb,hs,λW hB=> ?_⟩;have g:∀j u,([xS x.ai,xI x.id]:List aA)[j]? =some u->bJ W b (off+i*2+j) u:=λj u hu=>(hB.cell (p:=⟨b,off+i*2+j,none⟩) hb).trans (hcs j u hu);exact⟨g 0 _ rfl,g 1 _ rfl⟩
def cT(lv ov rv:aA)(n:Int):Obj:=xK #[lv,ov,rv,n] 35
def QS(k:Nat):Nat:=([2,0,1,3,4]:List Nat).getD k 0
def UI(h:k<5):QS k<5:=by
 rcases k with _|_|_|_|_|k<;>first|decide|omega
def UJ(h:k<5):(#[xS ⟨#[104,111,109,101]⟩,xS ⟨#[97]⟩,xS ⟨#[98,50]⟩,xS ⟨#[116,111,112,95,49]⟩,xS ⟨#[122]⟩]:Array aA)[k]? =some (xS (vB (QS k))):=by
 rcases k with _|_|_|_|_|k<;>first|rfl|omega
def GD(c:Int)(hc:I6 c)(w:ax):
 xC 19 #[c] w (cu (xS (vB (QS (aU c 5)))) w):=by
 have hp:aU c 5<5:=cR c 5 (by omega);have HP:Hd (∀w,_):=λw=>kZ c 5 w hc (by omega) (by omega);have hcell:∀(t:TypeId),(w.alloc (xK #[xS ⟨#[104,111,109,101]⟩,xS ⟨#[97]⟩,xS ⟨#[98,50]⟩,xS ⟨#[116,111,112,95,49]⟩,xS ⟨#[122]⟩] t)).cell? (w,aU c 5)=some (xS (vB (QS (aU c 5)))):=λt=>by
  simp only[World.cell?,Qbh];exact UJ hp
 have A8:((aU c 5:Nat):Int)<5:=by omega
 have Fl:(0:Int)<=((aU c 5:Nat):Int):=Qba _;rw[show(5:Int).toNat=5 from rfl]at HP;generalize aU c 5=q at*;go_enter func19,ntmps19;go_wp2_with fail;refine dw (HP.o _) ?_;go_wp2;go_ret;exact⟨rfl,bU⟩
end
section
open Go.RowKit
theorem rW:∀(h:Nat)(x:aJ),xd h x->Dg 371 x
 |0,x,hx=>rR x (by rw[show x.list=[]from hx];simp) λy hy=>by rw[show x.list=[]from hx]at hy;cases hy
 |h+1,x,hx=>rR x hx.1 λy hy=>rW h y (hx.2 y hy)
def DA(a:fx)(cap:Nat)(fv:aA)(w:ax):xC 218 #[xL a 0 cap,fv] w (jt () w):=by
 go_enter func218,ntmps218;go_wp2;go_ret;exact⟨rfl,rfl⟩
def mN {P:Program}(w:ax)(t e:TypeId)(i:TypeInfo)(z:aA)(ht:P.underlying t=some (.slice e))(hi:P.info? e=some i)(hz:i.zero=some z)(n:Nat)(hn:n<=1000)(hb:i.bytes<=1000):
 ∃cur:Array aA,(Instr.makeSlice t n n).run P w= .ok (xL (w,0) n n) (w.alloc (.cells cur e))/\cur.size=n*i.size:=by
 have hr:=run_make (P:=P) w t e i z ht hi hz .i64 .i64 n n (by omega) (Int.le_refl _) (by
  have:i.bytes*n<=1000*1000:=Nat.mul_le_mul hb hn;have h2:((i.bytes*n:Nat):Int)<=1000000:=by omega
  rw[Int.natCast_mul]at h2;omega) (by omega);simp only[Int.toNat_natCast]at hr;exact⟨_,hr,size_madeCells _ _⟩
def nG {l:List aH}(h:ab M w v l){x:aH}(hx:l[k]? =some x):∃b off cap,v=xL (b,off) l.length cap/\b<w.heap.size/\x.ai.size<=maxLen/\∀W,aC w W->bJ W b (off+k*4) x.ai/\bJ W b (off+k*4+1) x.type.an/\bJ W b (off+k*4+2) x.type.of/\bJ W b (off+k*4+3) (xB x.indexed):=by
 obtain⟨a,cap,rfl,hl,_,hc⟩:=h.aq;have hk:=(Qad.1 hx).1;obtain⟨b,off,rfl,_,hb,hcell⟩:=hc (by omega);obtain⟨cs,⟨rfl,hs⟩,hcs⟩:=hcell k x hx;refine⟨b,off,cap,rfl,hb,hs,λW hB=> ?_⟩;have g:∀j u,([xS x.ai,xI x.type.an,xI x.type.of,xB x.indexed]:List aA)[j]? =some u->bJ W b (off+k*4+j) u:=λj u hu=>(hB.cell (p:=⟨b,off+k*4+j,none⟩) hb).trans (hcs j u hu);exact⟨g 0 _ rfl,g 1 _ rfl,g 2 _ rfl,g 3 _ rfl⟩
def Oi(n:aY)(k o:Int)(i:Bool)(w:ax):xC 214 #[.agg #[n,k,o,i]] w (cu (.agg #[n,k,o,i]) w):=by
 go_enter func214,ntmps214;go_wp2_with fail;refine Qae (v:= .agg #[n,k,o,i]) (by simp[results,results214,go_sem]) rfl ⟨rfl,?_⟩;exact bU.alloc (by simp) _
def xw(l:List aH)(hl:l.length<=12)(h0:0<l.length)(M:aV)(w:ax)(v:aA)(hM:Bd M w)(hs:ab M w v l):
 xG 213 #[v, .func (.func 214) #[] #[]] w λv' w'=>ab M w' v' l:=by
 have⟨i0,hi0,hz0,hz1,hz2⟩:=info_parts gu;have HC:Hd (∀(i:Nat)(x:aH),l[i]? =some x->_):=λi x hx=>nG hs hx;obtain⟨a,cj,rfl,cY,hmx,_⟩:=hs.aq;generalize hn:l.length=n at*;have eJ:=ag hn;have yI:((n:Int)==0)=false:=by simp;omega
 have⟨cur,hmk,hcs⟩:=mN (P:=prog) w 45 60 i0 _ underlying45 hi0 hz0 n (by omega) (by omega);have IZ:Hd (dN (α:=aH) M w 60 (w.alloc (.cells cur 60)) n []):=dN.made cur (Qbh w _) (by rw[hcs,hz1];rfl);go_enter func213,ntmps213;go_wp2;go_loopg [6,7,16]n(λg _ _ iv wr=>∃i:Nat,i<=n/\g=n-i/\iv=xI i/\Hd (dN M w 60 wr n (l.take i))/\Hd (aC w wr));case atStart=>exact⟨0,Qbf _,rfl,rfl,IZ,bU⟩
 case round=>
  obtain⟨i,hi,rfl,rfl,HA,HB⟩:=hrel;have hsz:w.heap.size<wr:=HA.o.lt;by_cases bH:i<n
  .have⟨⟨xn,⟨xk,xo⟩,xi⟩,hx⟩:=eG l i (by rw[eJ.o];exact bH);have⟨b,off,cap,hv,hb,hxs,hcells⟩:=HC.o i _ hx;obtain⟨rfl,rfl⟩:=iY hv;have⟨q0,q1,q2,q3⟩:=hcells wr HB.o;have nj:=ag (show(l.take i).length=i by have:=eJ.o;rw[Qdb];omega);have nN:=ag (show l.take (i+1)=l.take i++[⟨xn,⟨xk,xo⟩,xi⟩]by rw[Qbb,hx];rfl);have CD:=ag hxs;dsimp only at q0 q1 q2 q3;go_wp2_with fail;refine cC (Oi _ _ _ _ _) λw1 hb1=> ?_;have tg:Hd (aD.rep (α:=aH) (orM M w) w1 [xS xn,xI xk,xI xo,xB xi] ⟨xn,⟨xk,xo⟩,xi⟩):=⟨rfl,CD.o⟩;have bz:=ag (bt hb1);have mz:=ag (HA.o.ae bz.o);have XJ:i*4+3<n*4:=by omega
   have⟨u0,p0,f0⟩:=mz.o.cell (j:=i*4) (by show _<n*4;omega);have⟨u1,p1,f1⟩:=mz.o.cell (j:=i*4+1) (by show _<n*4;omega);have⟨u2,p2,f2⟩:=mz.o.cell (j:=i*4+2) (by show _<n*4;omega);have⟨u3,p3,f3⟩:=mz.o.cell (j:=i*4+3) (by show _<n*4;omega);go_wp2;go_roundg(n-(i+1));case measure=>omega
   case rel=>
    refine⟨i+1,by omega,rfl,by go_num,(show dN _ _ _ _ _ _ by rw[nN.o];exact mz.o.BD rfl nj.o bH tg.o),(show Below _ _ _ from ?_)⟩;exact(((((HB.o.trans (bz.o.mono (by omega))).setCell (by simp) _).setCell (by simp) _).setCell (by simp) _).setCell (by simp) _)
  .go_wp2;go_ret;refine⟨_,rfl,?_,HB.o⟩;have h1:=HA.o;rw[Qah (by rw[eJ.o];omega)]at h1;exact h1.slice eJ.o (λh=>by have:=hM _ h;omega) (by unfold maxLen;omega)
def DB(a:fx)(cap:Nat)(fv:aA)(w:ax):xC 213 #[xL a 0 cap,fv] w (jt () w):=by
 go_enter func213,ntmps213;go_wp2;go_ret;exact⟨rfl,rfl⟩
def BK(l:List aH)(hl:l.length<=12)(M:aV)(w:ax)(v:aA)(hM:Bd M w)(hs:ab M w v l):
 xG 213 #[v, .func (.func 214) #[] #[]] w λv' w'=>ab M w' v' l:=by
 by_cases h0:0<l.length
 .exact xw l hl h0 M w v hM hs
 .have e:l=[]:=Qdd (by omega);subst e;obtain⟨a,cap,rfl,_⟩:=hs.aq;refine dw (DB a cap _ w) ?_;exact⟨_,rfl,ab.nil _ _,dS⟩
def me(nm:aY)(l:List aH)(hl:l.length<=12)(M:aV)(w:ax)(v:aA)(hM:Bd M w)(hs:ab M w v l):
 xG 151 #[.agg #[nm,v]] w λu w'=>∃v',u= .agg #[nm,v']/\ab M w' v' l:=by
 have CK:Hd (∀W,aC w W->w.heap.size+2<=W->_):=λW hb hz=>BK l hl (dX M w 2) W v (dt hM hz) (hs.ev (dj hb));obtain⟨a,cj,rfl,_⟩:=hs.aq;go_enter func151,ntmps151;go_wp2_with fail;refine(CK.o _ (Bx.du w _ _).1 (by simp)).mono ?_;rintro e w1⟨_,rfl,hs1,hb1⟩;obtain⟨za,zc,rfl,_⟩:=hs1.aq;have HB:=ag ((Bx.du w (cW nm (xL a l.length cj)) (cW () ())).ae hb1);have⟨r0,r1⟩:=ak (HB.o.bO rfl);have⟨e0,e1⟩:=ak (HB.o.cg rfl);have f1:=aj (HB.o.bO rfl) 1;have⟨g0,g1⟩:=mu (HB.o.cg rfl);have HS:=ag hs1;go_wp2_with fail;refine Qae (v:= .agg #[nm,xL za l.length zc]) (by simp[results,results151,go_sem,e0,e1]) rfl ⟨_,rfl,⟨_,rfl,HS.o.ev ?_⟩,?_⟩
 .exact((((eK w1).setCell (.inl (.inr ⟨by simp,by simp⟩)) _).setCell (.inl (.inr ⟨by simp,by simp⟩)) _).setCell (.inl (.inr ⟨by simp,by simp⟩)) _)
 .exact((HB.o.1.setCell (by simp) _).setCell (by simp) _).setCell (by simp) _
def DC(h:aX c=true)(hf:c.ah[i]? =some f):aR f.type=true:=
 (uG (((dU c).1 h).2.2.1 f (Qaf hf))).2.1
def ik(c:aI)(hc:aX c=true)(hcn:c.ai.size<=maxLen)(ay:Int)(hm:ay<=100000)(vs:List aJ)(hv:bA c.ah ay vs)(M:aV)(w:ax)(fv vv:aA)(hfs:ab M w fv c.ah)(hvs:ab M w vv vs)(hT:Tb w):
 xC 141 #[.agg #[c.ai,fv],vv] w (cu (.tuple #[xI 0,xI 0]) w):=by
 have h8:c.ah.length<=8:=((dU c).1 hc).2.1;have HR:Hd (∀W,aC w W->xC 45 #[.agg #[c.ai,fv]] W (cu true W)):=λW hb=>by
  have h:=ff M fv W c (hfs.ae hb) hcn;rw[hc]at h;exact h
 have Ng:Hd (∀(i:Nat)(x:aH),c.ah[i]? =some x->_):=λi x hx=>nG hfs hx;have XU:Hd (∀(i:Nat)(k n:Int)(s:aY)(ll:List aJ),vs[i]? =some (.mk k n s ll)->_):=λi k n s ll hx=>dy hvs hx;have ZE:Hd (∀(i:Nat)(f:aH)(x:aJ)(W:ax)(u:aA),c.ah[i]? =some f->vs[i]? =some x->aC w W->cB M W u x->_):=λi f x W u hf hx hb hu=>N5 (hv.2 i f x hf hx) (DC hc hf) hm hu (hT.ae hb);have MP:=hv.1;obtain⟨fa,fc,rfl,hlc,MD,_⟩:=hfs.aq;obtain⟨va,vc,rfl,js,hvm,_⟩:=hvs.aq;obtain⟨nm,fs⟩:=c;dsimp only at*;generalize hvn:vs.length=m at*;generalize hn:fs.length=n at*;obtain rfl:m=n:=MP;have eJ:=ag hvn;have A9:=ag hn;have hnn:((m:Int)!=(m:Int))=false:=by simp
 go_enter func141,ntmps141;go_wp2_with fail;refine cC (HR.o _ bU) λw1 hb1=> ?_;have bz:=ag ((Bx.eI w (cW nm (xL fa m fc))).ae hb1);have⟨c0,c1⟩:=ak (bz.o.bO rfl);go_wp2;go_loopg [6,7,26]m(λg _ _ iv wr=>∃i:Nat,i<=m/\g=m-i/\iv=xI i/\Hd (aC w wr));case atStart=>exact⟨0,Qbf _,rfl,rfl,(bz.o.1)⟩
 case round=>
  obtain⟨i,hi,rfl,rfl,HB⟩:=hrel;by_cases bH:i<m
  .have⟨⟨xn,⟨xk,xo⟩,xi⟩,hx⟩:=eG fs i (by rw[A9.o];exact bH);have⟨⟨yk,yn,ys,yl⟩,hy⟩:=eG vs i (by rw[eJ.o];exact bH);have⟨b,off,cap,hfv,hb,_,hcells⟩:=Ng.o i _ hx;obtain⟨rfl,rfl⟩:=iY hfv;have⟨bv,offv,capv,a',c',hvv,hbv,_,_,hvcells⟩:=XU.o i yk yn ys yl hy;obtain⟨rfl,rfl⟩:=iY hvv;have hsz:=HB.o.size;have bg:=ag (λo=>HB.o.alloc hsz o);have⟨q0,q1,q2,q3⟩:=hcells wr HB.o;have p0:=λo=>(hvcells _ (bg.o o)).1.1;have p1:=λo=>(hvcells _ (bg.o o)).1.2.1;have p2:=λo=>(hvcells _ (bg.o o)).1.2.2.1;have p3:=λo=>(hvcells _ (bg.o o)).1.2.2.2;have lM:=ag (λo=>ZE.o i _ _ (wr.alloc o).drew _ hx hy (bg.o o).drew ((hvcells _ (bg.o o)).2.ev ((Ev.refl _ _).drew)));dsimp only at q0 q1 q2 q3;go_upto_region 8 with fail;go_region_law(first
    |(go_simp;go_at_call 200;refine cC (lM.o _) λw2 bE=> ?_;have bV:Hd (aC w w2):=(bg.o _).drew.trans (bE.mono (by have:=(bg.o (xK #[] 0)).size;simp at this⊢;omega));clear bE));all_goals
    go_wp2;go_roundg(m-(i+1));case measure=>omega
    case rel=>exact⟨i+1,by omega,rfl,by go_num,bV⟩
  .go_wp2;go_ret2;exact⟨rfl,HB.o⟩
def kB(k n:Int)(s:aY)(p:Int):aA:= .agg #[k,n,s,p]
def xx(h:aM nm=true):aX ⟨nm,[]⟩=true:=by
 rw[dU];refine⟨h,by simp,?_,by simp⟩;intro f hf;cases hf
def Ak(s:aY)(h:aM s=true)(hs:s.size<=20)(w:ax):xC 375 #[s] w (cu true w):=by
 have HR:=ag (show xC 45 #[.agg #[s,()]] w (cu true w)by
  have h1:=ff xF () w ⟨s,[]⟩ (ab.nil _ _) (cM hs);rw[xx h]at h1;exact h1);clear h;go_enter func375,ntmps375;go_wp2_with fail;refine cC (HR.o) λw1 hb1=> ?_;have HB:=ag hb1;clear hb1;go_wp2;go_ret;exact⟨rfl,HB.o⟩
def DD(h:jX s.data.toList=true):gi s:=by
 unfold jX at h;simp only[Qce,decide_eq_true_eq,List.all_eq_true]at h;exact⟨by rw[<-bG];exact h.1,oS _ λc hc=>h.2 c hc⟩
def Al(s:aY)(h:gi s)(w:ax)(hT:Tb w):xC 376 #[s] w (cu true w):=by
 have HR:=ag (wZ s h none 0 w hT);clear h hT;go_enter func376,ntmps376;go_wp2_with fail;refine cC (HR.o) λw1 hb1=> ?_;have HB:=ag hb1;clear hb1;go_wp2;go_ret;exact⟨rfl,HB.o⟩
def ze(s:aY)(hs:s.size<=200)(h0:0<s.size)(c:Int)(hc:((s[0]'h0).toNat:Int)=c)(h1:48<=c)(h2:c<=57)(hn:∀h:1<s.size,¬(48<=((s[1]'h).toNat:Int)/\((s[1]'h).toNat:Int)<=57))(w:ax):
 xC 334 #[s] w (cu (.tuple #[kB 1 (c-48) () 0,xI 1]) w):=by
 have HC:=ag hc;have HN:=ag hn;clear hc hn;go_enter func334,ntmps334;go_wp2;go_loopg [4,5]2(λg n k wr=>wr=w.alloc (xK #[xI 0,xI 0,"",xI 0] 359)/\((g=2/\n=xI 0/\k=xI 0)\/(g=1/\n=xI (c-48)/\k=xI 1)));case atStart=>exact⟨rfl, .inl ⟨rfl,rfl,rfl⟩⟩
 case round=>
  obtain⟨rfl,⟨rfl,rfl,rfl⟩|⟨rfl,rfl,rfl⟩⟩:=hrel
  .have q0:∀h,((s[0]'h).toNat:Int)=c:=λ_=>HC.o;have q1:0<s.size:=h0;go_wp2;go_roundg 1;case measure=>omega
   case rel=>exact⟨rfl, .inr ⟨rfl,by rw[Int.min_eq_left (by omega)],rfl⟩⟩
  .have hg:¬(c-48>1000000000000000):=by omega
   by_cases hl:1<s.size
   .have hn1:=HN.o hl;have⟨d,hd⟩:=jN (((s[1]'hl).toNat:Int));rw[hd]at hn1;have q1:∀h,((s[1]'h).toNat:Int)=d:=λ_=>hd;clear hd;by_cases a1:48<=d
    .have a2:¬d<=57:=λh=>hn1 ⟨a1,h⟩;clear hn1;go_wp2_with fail;refine Qae (v:= .tuple #[kB 1 (c-48) () 0,xI 1]) (by simp[results,results334,go_sem,kB]) rfl ⟨rfl,?_⟩;exact bU
    .clear hn1;go_wp2_with fail;refine Qae (v:= .tuple #[kB 1 (c-48) () 0,xI 1]) (by simp[results,results334,go_sem,kB]) rfl ⟨rfl,?_⟩;exact bU
   .go_wp2_with fail;refine Qae (v:= .tuple #[kB 1 (c-48) () 0,xI 1]) (by simp[results,results334,go_sem,kB]) rfl ⟨rfl,?_⟩;exact(Qbg _ w).alloc bT _
def rX(c:Int):Bool:=decide (97<=c/\c<=122)||decide (48<=c/\c<=57)||decide (c=95)
def pc0:Obj:=xK #[xI 0,xI 0,"",xI 0] 359
def DE(s:aY)(hs:s.size<=200)(m:Nat)(hm:m<=s.size)(qf4:m<=20)(hall:∀k(h:k<s.size),k<m->rX ((s[k]'h).toNat:Int)=true)(I0:∀h:m<s.size,rX ((s[m]'h).toNat:Int)=false)(nm:aY)(hnm:s.extract 0 m=nm)(hr:aM nm=true)(w:ax):
 xC 335 #[s] w (cu (.tuple #[kB 3 0 nm 0,m]) w):=by
 have HA:=ag hall;have HE:=ag I0;have HN:=ag hnm;have HS:=ag (show nm.size<=20 by rw[<-hnm];simp[ByteArray.size_extract];omega);have HR:Hd (∀W,xC 375 #[xS (s.extract 0 m)] W (cu true W)):=λW=>by rw[hnm];exact Ak nm hr HS.o W
 clear hall I0 hr hnm;go_enter func335,ntmps335;go_wp2;go_loopg [4](m+1)(λg k wr=>∃i:Nat,i<=m/\g=m+1-i/\k=xI i/\wr=w.alloc pc0);case atStart=>exact⟨0,Qbf _,rfl,rfl,rfl⟩
 case round=>
  obtain⟨i,hi,rfl,rfl,rfl⟩:=hrel;by_cases bH:i<s.size
  .have⟨d,hd⟩:=jN (((s[i]'bH).toNat:Int));have HW:=ag (show rX d=decide (i<m)by
    by_cases h:i<m
    .rw[<-hd,HA.o i bH h];simp[h]
    .have:i=m:=by omega
     subst this;rw[<-hd,HE.o bH];simp);have q1:∀h,((s[i]'h).toNat:Int)=d:=λ_=>hd;clear hd;by_cases Sw:i<m
   .have hw:rX d=true:=by rw[HW.o];simpa using Sw
    have hcs:(97<=d/\d<=122)\/(¬97<=d/\48<=d/\d<=57)\/(¬97<=d/\48<=d/\¬d<=57/\(d==95)=true):=by
     unfold rX at hw;simp at hw;simp;omega
    clear hw;rcases hcs with⟨a1,a2⟩|⟨a1,a2,a3⟩|⟨a1,a2,a3,a4⟩;all_goals
     go_wp2;go_roundg(m+1-(i+1));case measure=>omega
     case rel=>exact⟨i+1,by omega,rfl,by go_num,rfl⟩
   .have hw:rX d=false:=by rw[HW.o];simpa using Sw
    obtain rfl:i=m:=by omega
    have hcs:(97<=d/\¬d<=122/\48<=d/\¬d<=57/\(d==95)=false)\/(¬97<=d/\48<=d/\¬d<=57/\(d==95)=false)\/(¬97<=d/\¬48<=d/\(d==95)=false):=by
     unfold rX at hw;simp at hw;simp;omega
    clear hw;rcases hcs with⟨a1,a2,a3,a4,a5⟩|⟨a1,a2,a3,a4⟩|⟨a1,a2,a3⟩;all_goals
     go_wp2_with fail;refine cC (HR.o _) λw1 hb1=> ?_;have⟨g0,g1,g2,g3⟩:=af (boxed hb1);have⟨f0,f1,f2,f3⟩:=hZ (boxed hb1);have HB:=ag (bt hb1);clear hb1;go_wp2_with fail;refine Qae (v:= .tuple #[kB 3 0 nm 0,i]) (by rw[<-HN.o];simp[results,results335,go_sem,kB,g0,g1,g2,g3]) rfl ⟨rfl,?_⟩;exact(((HB.o.setCell (by simp) _).setCell (by simp) _).setCell (by simp) _).setCell (by simp) _
  .obtain rfl:i=m:=by omega
   go_wp2_with fail;refine cC (HR.o _) λw1 hb1=> ?_;have⟨g0,g1,g2,g3⟩:=af (boxed hb1);have⟨f0,f1,f2,f3⟩:=hZ (boxed hb1);have HB:=ag (bt hb1);clear hb1;go_wp2_with fail;refine Qae (v:= .tuple #[kB 3 0 nm 0,i]) (by rw[<-HN.o];simp[results,results335,go_sem,kB,g0,g1,g2,g3]) rfl ⟨rfl,?_⟩;exact(((HB.o.setCell (by simp) _).setCell (by simp) _).setCell (by simp) _).setCell (by simp) _
instance:aD UInt8 where
 size:=1
 rep:=λ_ _ cs x=>cs=[.int .u8 (x.toNat:Int)]
 len:=λh=>by rw[h];rfl
 flat:=λh u hu=>by rw[h]at hu;simp at hu;subst hu;rfl
 ev:=λh _=>h
def K8:(Tryz.prog.info? 5).map (λi=>(i.zero,i.size,i.bytes))=some (some (.int .u8 0),1,1):=by kernel_rfl
def xy {n:Nat}{bs:List UInt8}(h:ab xF w (xL a n cap) bs):(convert 252 9 (xL a n cap)).run prog w= .ok (bL bs) w:=by
 have⟨a',cap',e,_,_,hc⟩:=h.aq;obtain⟨rfl,rfl,rfl⟩:a=a'/\n=bs.length/\cap=cap':=by simpa using e
 cases bs with
 |nil=>
  rw[run_convert_bytes_string w 252 9 5 a _ cap underlying252 underlying5 underlying9];cases a with
  |none=>rfl
  |some ad=>
   have:=run_bytesToString (P:=prog) w ad 0 cap [] (by simpa using run_loadCells_list (P:=prog) w ad [] (λj v hj=>by simp at hj));exact this
 |cons c r=>
  obtain⟨b,off,rfl,_,_,hcell⟩:=hc (by simp);refine run_convert_bytes_back w 252 9 5 ⟨b,off,none⟩ cap (c::r) underlying252 underlying5 underlying9 λj hj=> ?_;obtain⟨cs,rfl,hcs⟩:=hcell j _ (Qac hj);have:=hcs 0 _ rfl;rw[show aD.size UInt8=1 from rfl]at this;unfold Addr.add;split
  .rename_i h;subst h;simpa using this
  .simpa using this
def DF {l:List UInt8}(h:s.data.toList=l){c:UInt8}(hk:l[k]? =some c):∃h:k<s.size,s[k]'h=c:=by
 subst h;have hl:=(Qad.1 hk).1;have h3:k<s.size:=by rw[<-bG];exact hl
 have:=dz s k h3;rw[this]at hk;exact⟨h3,by simpa using hk⟩
def DG(s:ByteArray)(hs:s.size<=200)(bs rest:List UInt8)(hl:s.data.toList=34::(bs++34::rest))(hp:∀c∈bs,fu c=true)(ht:jX bs=true)(w:World)(hT:Tb w):
 xC 336 #[.string s] w (cu (.tuple #[kB 2 0 (bL bs) 0, .int .i64 (bs.length+2:Nat)]) w):=by
 have⟨i0,hi0,hz0,hz1,hz2⟩:=info_parts K8;have hlen:bs.length+2+rest.length=s.size:=by rw[<-bG,hl];simp;omega
 have HBY:Hd (∀i c,bs[i]? =some c->∃h:i+1<s.size,s[i+1]'h=c):=(show∀i c,_->_ fromλi c h=>DF hl (by
  rw[List.getElem?_cons_succ,Qbc (Qad.1 h).1];exact h));have HEN:Hd (∃h:bs.length+1<s.size,s[bs.length+1]'h=34):=(show _ from DF hl (by
  rw[List.getElem?_cons_succ,Qbd bT];simp));have HP:=ag hp;have MR:Hd (gi (bL bs)):=(show _ from DD (by simpa [bL]using ht));have XV:=ag hT;have HX:Hd (∀W,aC w W->_):=(show∀W,_->_ fromλW hb=>Al (bL bs) MR.o W (XV.o.ae hb));generalize hm:bs.length=m at*;have HM:=ag hm;go_enter func336,ntmps336;go_wp2;go_loopg [4,5,14,15,27]m(λg r4 r5 _ _ _ wr=>∃(i c1:Nat)(a1:Option Addr),i<=m/\g=m-i/\r5= .int .i64 ((i:Int)+1)/\r4= .slice a1 i c1/\Hd (aS xF [w] 5 wr (.slice a1 i c1) (bs.take i))/\Hd (Bx w [pc0] wr));case atStart=>exact⟨0,0,none,Qbf _,rfl,rfl,rfl,(show aS _ _ _ _ _ _ from aS.nil _ _ _ _),(show Bx _ _ _ from Bx.eI w _)⟩
 case round=>
  obtain⟨i,c1,a1,hi,rfl,rfl,rfl,HA,HB⟩:=hrel;have hsz:=HB.o.bQ;simp only[Qcc,Qcd]at hsz;have nj:Hd ((bs.take i).length=i):=(show _=_ by have:=HM.o;rw[Qdb];omega);by_cases bH:i<m
  .have⟨d,hd⟩:=eG bs i (by rw[HM.o];exact bH);have⟨hb1,bE⟩:=HBY.o i d hd;have nN:Hd (bs.take (i+1)=bs.take i++[d]):=(show _=_ by rw[Qbb,hd];rfl);have iy:=HP.o d (Qaf hd);have q1:∀h,s[i+1]'h=d:=λ_=>bE;have e1:((d.toNat:Int)==34)=false:=by
    unfold fu at iy;simp at iy;have h1:=iy.1;have:d.toNat≠34:=λh=>h1 (by rw[<-UInt8.toNat_inj];simpa using h);simpa using by omega
   have e2:((d.toNat:Int)==92)=false:=by
    unfold fu at iy;simp at iy;have h1:=iy.2;have:d.toNat≠92:=λh=>h1 (by rw[<-UInt8.toNat_inj];simpa using h);simpa using by omega
   go_wp2_with(at_builtin;refine bo (α:=UInt8) rfl _ _ _ rfl xF [w] 5 i0 _ 1 underlying252 hi0 hz0 hz1 hz2 rfl (by decide) (.slice a1 i c1) (bs.take i) rfl (HA.o.alloc _) (λ_=>True) _ [.int .u8 (d.toNat:Int)] d rfl (fN _ _ #[.int .u8 (d.toNat:Int)] _ 1 rfl rfl trivial) (show _=_ from rfl) (by rw[nj.o];unfold maxLen;omega) (by rw[nj.o];omega) (by simp;omega) ?_;rw[nj.o,<-nN.o];intro a2 c2 w2 bD dK bE;have dr:=ag bD;have bV:=ag bE;clear bD dK bE);go_roundg(m-(i+1));case measure=>omega
   case rel=>
    exact⟨i+1,c2,a2,by omega,rfl,by go_num,rfl,dr,(show Bx _ _ _ from(HB.o.alloc _).dG bV.o (by simp))⟩
  .obtain rfl:i=m:=by omega
   have⟨hb1,bE⟩:=HEN.o;have q1:∀h,s[i+1]'h=34:=λ_=>bE;have HS:Hd (ab xF wr (.slice a1 i c1) bs):=(show _ by
    have h1:=HA.o.slice (λi h=>h.elim);rw[Qah (by rw[HM.o];omega)]at h1;exact h1);have hcv:=xy HS.o;have lM:=ag (HX.o wr HB.o.1);go_wp2_with fail;refine(lM.o).mono ?_;rintro e w1⟨rfl,Z3⟩;have bz:=ag (HB.o.ae Z3);have qf5:=xy (HS.o.ae Z3);have⟨g0,g1,g2,g3⟩:=af (bz.o.bO rfl);have⟨f0,f1,f2,f3⟩:=hZ (bz.o.bO rfl);go_wp2_with fail;refine Qae (v:= .tuple #[kB 2 0 (bL bs) 0, .int .i64 ((i:Int)+1+1)]) (by simp[results,results336,go_sem,kB,g0,g1,g2,g3]) rfl ⟨by first|rfl|(congr 3;done)|(congr 3;omega),?_⟩;exact(((bz.o.1.setCell (by simp) _).setCell (by simp) _).setCell (by simp) _).setCell (by simp) _
end
section
open Go.RowKit Go.Shelf
def oW:Go.Shelf.Ren:=⟨λ|99=>377|206=>400|n=>n,λ|9=>9|4=>4|3=>3|n=>n,λ|n=>n⟩
def GJ:Go.Proofs.Lays.n99 prog oW:={
 mixed:=by kernel_rfl
 f99:=Tryz.func377.trans (by kernel_rfl)
 f206:=Tryz.func400.trans (by kernel_rfl)
 t3:=underlying3
 a3:=isAgg3
 z3:=sizeOf3
 v3:=zeroValue3
 t4:=underlying4
 a4:=isAgg4
 z4:=sizeOf4
 v4:=zeroValue4
 t9:=underlying9
 a9:=isAgg9
 z9:=sizeOf9
 v9:=zeroValue9}
def RG:oW.f 99=377:=by kernel_rfl
def GK(s p:aY)(w:ax):xC 377 #[s,p] w (jt (xB (Lib.hasPrefix s.data.toList p.data.toList)) w):=by
 have h:=Any.strings_HasPrefix GJ s p w;rw[RG]at h;exact h.mono λe w'⟨h1,h2⟩=>⟨h1,h2.symm⟩
def dE:List (List UInt8):=[[61],[60,62],[60],[60,61],[62],[62,61],[38],[43],[45],[42],[47],[37],[40],[41],[44]]
def BL:Obj:=xK #[xS ⟨#[61]⟩,xS ⟨#[60,62]⟩,xS ⟨#[60]⟩,xS ⟨#[60,61]⟩,xS ⟨#[62]⟩,xS ⟨#[62,61]⟩,xS ⟨#[38]⟩,xS ⟨#[43]⟩,xS ⟨#[45]⟩,xS ⟨#[42]⟩,xS ⟨#[47]⟩,xS ⟨#[37]⟩,xS ⟨#[40]⟩,xS ⟨#[41]⟩,xS ⟨#[44]⟩] 9
def Oj(h:bW W B BL)(hk:k<15):bJ W B k (xS (bL (dE.getD k []))):=by
 rcases k with _|_|_|_|_|_|_|_|_|_|_|_|_|_|_|k;all_goals first|omega|exact cell_of_heap h rfl
def GL:∀k:Fin 15,dE.getD k.val []∉dE.take k.val:=by decide
def GM(k:Nat)(hk:k<15):dE.take (k+1)=dE.take k++[dE.getD k []]:=by
 rw[Qbb,List.getD_eq_getElem?_getD,Qac (show k<dE.length from hk)];rfl
def GN(s:aY)(c:UInt8)(hc:[c]∈dE)(hp:∀t∈dE,Lib.hasPrefix s.data.toList t=decide (t=[c]))(B:Nat)(w:ax)(hB:bW w B BL):
 xC 337 #[s,xL (B,0) 15 15] w (jt (xS ⟨#[c]⟩) w):=by
 have zB:Hd (∀k,k<15->bJ w B k (xS (bL (dE.getD k [])))):=λk hk=>Oj hB hk;have HP:Hd (∀k,k<15->xC 377 #[s,xS (bL (dE.getD k []))] w (jt (xB (decide (dE.getD k []=[c]))) w)):=λk hk=>by
  have h:=GK s (bL (dE.getD k [])) w;have hm:dE.getD k []∈dE:=by
   rw[List.getD_eq_getElem?_getD,Qac (show k<dE.length from hk)];exact List.getElem_mem _
  rw[show(bL (dE.getD k [])).data.toList=dE.getD k []by simp[bL],hp _ hm]at h;exact h
 have HC:=ag hc;clear hc hp hB;have hs1:(⟨#[c]⟩:aY).size=1:=rfl;go_enter func337,ntmps337;go_wp2;go_loopg [5,7,10]15(λg r5 _ iv wr=>∃k:Nat,k<=15/\g=15-k/\iv=xI k/\w=wr/\((r5= ""/\Hd ([c]∉dE.take k))\/(r5=xS ⟨#[c]⟩/\Hd ([c]∈dE.take k))));case atStart=>exact⟨0,Qbf _,rfl,rfl,rfl, .inl ⟨rfl,(show _∉_ by simp)⟩⟩
 case round=>
  obtain⟨k,hk,rfl,rfl,rfl,hr⟩:=hrel;by_cases bH:k<15
  .have q0:=zB.o k bH;have lM:=ag (HP.o k bH);have nN:=ag (GM k bH);have lI:=ag (GL ⟨k,bH⟩);have⟨t,ht⟩:=jN (dE.getD k []);rw[ht]at q0 lM nN;dsimp only at lI;rw[ht]at lI;clear ht;by_cases htc:t=[c]
   .subst htc;have hd:decide ([c]=[c])=true:=by simp
    rw[hd]at lM;clear hd;have q1:bJ w B k (xS ⟨#[c]⟩):=q0;have qc9:Hd (xC 377 #[s,xS ⟨#[c]⟩] w (jt true w)):=lM.o;clear q0 lM;rcases hr with⟨rfl,HR⟩|⟨rfl,HR⟩
    .go_wp2_with fail;refine dw (qc9.o) ?_;go_wp2;go_roundg(15-(k+1));case measure=>omega
     case rel=>exact⟨k+1,by omega,rfl,by go_num,rfl, .inr ⟨rfl,(show _∈_ by rw[nN.o];simp)⟩⟩
    .exact absurd HR.o lI.o
   .have hd:decide (t=[c])=false:=by simpa using htc
    rw[hd]at lM;have Fo:=ag htc;clear hd htc;rcases hr with⟨rfl,HR⟩|⟨rfl,HR⟩;all_goals
     go_wp2_with fail;refine dw (lM.o) ?_;go_wp2;go_roundg(15-(k+1));case measure=>omega
     case rel=>
      first
       |exact⟨k+1,by omega,rfl,by go_num,rfl, .inl ⟨rfl,(show _∉_ by rw[nN.o];intro h;rcases Qch.1 h with h|h;exact HR.o h;simp at h;exact Fo.o h.symm)⟩⟩
       |exact⟨k+1,by omega,rfl,by go_num,rfl, .inr ⟨rfl,(show _∈_ by rw[nN.o];exact List.mem_append_left _ HR.o)⟩⟩
  .obtain rfl:k=15:=by omega
   rcases hr with⟨rfl,HR⟩|⟨rfl,HR⟩
   .exact absurd HC.o HR.o
   .go_wp2;go_ret;exact⟨rfl,rfl⟩
def YB {c:UInt8}:dA c=rX (c.toNat:Int):=by
 unfold dA rX;rw[rF,nr];congr 1;rw[Bool.eq_iff_iff];simp;constructor
 .rintro rfl;rfl
 .intro h;rw[<-UInt8.toNat_inj];simpa using(by omega:c.toNat=95)
def Ol(s:aY)(h0:0<s.size)(c:Int)(hc:∀h,((s[0]'h).toNat:Int)=c)(h1:48<=c)(h2:c<=57)(k n:Int)(t:aY)(m:Int)(w:ax)
 (HN:Hd (∀W,xC 334 #[s] W (cu (.tuple #[kB k n t 0,m]) W))):
 xC 311 #[s] w (cu (.tuple #[kB k n t 0,m]) w):=by
 go_enter func311,ntmps311;go_wp2_with fail;refine cC (HN.o _) λw1 hb1=> ?_;have⟨g0,g1,g2,g3⟩:=af (boxed hb1);have⟨f0,f1,f2,f3⟩:=hZ (boxed hb1);have HB:=ag (bt hb1);unfold kB;go_wp2_with fail;refine Qae (v:= .tuple #[kB k n t 0,m]) (by simp[results,results311,go_sem,kB,g0,g1,g2,g3]) rfl ⟨rfl,?_⟩;exact(((HB.o.setCell (by simp) _).setCell (by simp) _).setCell (by simp) _).setCell (by simp) _
def K9(s:aY)(h0:0<s.size)(c:Int)(hc:∀h,((s[0]'h).toNat:Int)=c)(h1:97<=c)(h2:c<=122)(k n:Int)(t:aY)(m:Int)(w:ax)
 (HN:Hd (∀W,xC 335 #[s] W (cu (.tuple #[kB k n t 0,m]) W))):
 xC 311 #[s] w (cu (.tuple #[kB k n t 0,m]) w):=by
 have a1:48<=c:=by omega
 have a2:¬c<=57:=by omega
 go_enter func311,ntmps311;go_wp2_with fail;refine cC (HN.o _) λw1 hb1=> ?_;have⟨g0,g1,g2,g3⟩:=af (boxed hb1);have⟨f0,f1,f2,f3⟩:=hZ (boxed hb1);have HB:=ag (bt hb1);unfold kB;go_wp2_with fail;refine Qae (v:= .tuple #[kB k n t 0,m]) (by simp[results,results311,go_sem,kB,g0,g1,g2,g3]) rfl ⟨rfl,?_⟩;exact(((HB.o.setCell (by simp) _).setCell (by simp) _).setCell (by simp) _).setCell (by simp) _
def La(s:aY)(h0:0<s.size)(hc:∀h,((s[0]'h).toNat:Int)=34)(k n:Int)(t:aY)(m:Int)(w:ax)
 (HN:Hd (∀W,aC w W->xC 336 #[s] W (cu (.tuple #[kB k n t 0,m]) W))):
 xC 311 #[s] w (cu (.tuple #[kB k n t 0,m]) w):=by
 go_enter func311,ntmps311;go_wp2_with fail;refine cC (HN.o _ bU) λw1 hb1=> ?_;have⟨g0,g1,g2,g3⟩:=af (boxed hb1);have⟨f0,f1,f2,f3⟩:=hZ (boxed hb1);have HB:=ag (bt hb1);unfold kB;go_wp2_with fail;refine Qae (v:= .tuple #[kB k n t 0,m]) (by simp[results,results311,go_sem,kB,g0,g1,g2,g3]) rfl ⟨rfl,?_⟩;exact(((HB.o.setCell (by simp) _).setCell (by simp) _).setCell (by simp) _).setCell (by simp) _
def Am(s:aY)(h0:0<s.size)(c:UInt8)(hc:∀h,s[0]'h=c)(h1:c∈([38,43,45,42,47,37,40,41,44,61,62]:List UInt8))(hp:∀t∈dE,Lib.hasPrefix s.data.toList t=decide (t=[c]))(w:ax):
 xC 311 #[s] w (cu (.tuple #[kB 4 0 ⟨#[c]⟩ 0,xI 1]) w):=by
 have kx:[c]∈dE:=by
  simp only[Qdf,List.not_mem_nil,or_false]at h1;rcases h1 with rfl|rfl|rfl|rfl|rfl|rfl|rfl|rfl|rfl|rfl|rfl<;>decide
 have HLG:Hd (∀(W:ax)(B:Nat),bW W B BL->_):=λW B hB=>GN s c kx hp B W hB;have⟨d,hd⟩:=jN ((c.toNat:Int));have hcd:((48<=d/\¬d<=57)\/¬48<=d)/\¬97<=d/\(d==34)=false:=by
  simp only[Qdf,List.not_mem_nil,or_false]at h1;subst hd;rcases h1 with rfl|rfl|rfl|rfl|rfl|rfl|rfl|rfl|rfl|rfl|rfl<;>decide
 obtain⟨hc1,A7,XI⟩:=hcd;have q0:∀h,((s[0]'h).toNat:Int)=d:=λh=>by rw[hc h];exact hd
 have hs1:(⟨#[c]⟩:aY).size=1:=rfl;have hne:((⟨#[c]⟩:aY).toList==(():aY).toList)=false:=by
  cases hq:((⟨#[c]⟩:aY).toList==(():aY).toList)with
  |false=>rfl
  |true=>have:=congrArg ByteArray.size (qP hq);cases this
 rcases hc1 with⟨hc1,hc4⟩|hc1;all_goals
  go_enter func311,ntmps311;go_wp2_with fail;refine dw (HLG.o _ _ (by exact(Bx.du w pc0 BL).cg rfl)) ?_;go_wp2_with fail;refine Qae (v:= .tuple #[kB 4 0 ⟨#[c]⟩ 0,xI 1]) (by simp[results,results311,go_sem,kB]) rfl ⟨rfl,?_⟩;exact bU.alloc (by simp) _
def qb3(c x:UInt8)(r:List UInt8):Lib.hasPrefix (c::r) [x]=decide (x=c):=by
 unfold Lib.hasPrefix;rw[Bool.eq_iff_iff];simp[List.isPrefixOf]
def YC(c x y:UInt8)(r:List UInt8)(h:x≠c\/r.head?≠some y):Lib.hasPrefix (c::r) [x,y]=false:=by
 cases hq:Lib.hasPrefix (c::r) [x,y]with
 |false=>rfl
 |true=>
  unfold Lib.hasPrefix at hq;cases r with
  |nil=>simp[List.isPrefixOf]at hq
  |cons d r=>simp[List.isPrefixOf]at hq;rcases h with h|h;exact absurd hq.1 h;simp at h;exact absurd hq.2.symm h
def DH(c:UInt8)(r:List UInt8)(h:c∈([38,43,45,42,47,37,40,41,44,61]:List UInt8)\/(c=62/\r.head?≠some 61)):∀t∈dE,Lib.hasPrefix (c::r) t=decide (t=[c]):=by
 intro t ht;simp only[dE,Qdf,List.not_mem_nil,or_false]at ht;have SP:c≠60:=by
  rcases h with h|h
  .intro e;subst e;revert h;decide
  .rw[h.1];decide
 have h61:(62:UInt8)≠c\/r.head?≠some 61:=by
  rcases h with h|h
  .left;intro e;subst e;revert h;decide
  .exact .inr h.2
 rcases ht with rfl|rfl|rfl|rfl|rfl|rfl|rfl|rfl|rfl|rfl|rfl|rfl|rfl|rfl|rfl;all_goals first
  |(rw[qb3];simp;done)
  |(rw[YC _ _ _ _ (.inl (λe=>SP e.symm))];simp)
  |(rw[YC _ _ _ _ h61];simp)
def Om(s:aY)(hs:s.size<=200)(kd n:Nat)(str:List UInt8)(size:Nat)(h:ru s.data.toList=some ((kd,n,str),size))(w:ax)(hT:Tb w):
 (xC 311 #[s] w (cu (.tuple #[kB kd n (bL str) 0,xI (size:Int)]) w))/\0<size/\size<=s.size/\1<=kd:=by
 cases hl:s.data.toList with
 |nil=>rw[hl]at h;simp[ru]at h
 |cons c r=>
  rw[hl]at h
  have hlen:r.length+1=s.size:=by rw[<-bG,hl];rfl
  have ha:0<s.size:=by omega
  have h0:s.data.toList[0]? =some c:=by rw[hl];rfl
  have hca:∀h,s[0]'h=c:=λh=>by have:=dz s 0 h;rw[h0]at this;simpa using this.symm
  have hcz:∀h,((s[0]'h).toNat:Int)=(c.toNat:Int):=λh=>by rw[hca h]
  unfold ru at h
  dsimp only at h
  by_cases hd:nT c=true
  .rw[if_pos hd]at h
   have hr:rr r=false:=by
    cases hq:rr r with
    |false=>rfl
    |true=>rw[hq]at h;simp at h
   rw[hr]at h
   simp only[Bool.false_eq_true,if_false,Qcf,Prod.mk.injEq]at h
   obtain⟨⟨rfl,rfl,rfl⟩,rfl⟩:=h
   have ag:=hd
   rw[nr]at ag
   have⟨e1,e2⟩:=of_decide_eq_true ag
   refine⟨?_,by omega,by omega,by omega⟩
   have hcall:=Ol s ha (c.toNat:Int) hcz e1 e2 1 ((c.toNat:Int)-48) () 1 w (show∀W,_ fromλW=>ze s hs ha (c.toNat:Int) (hcz ha) e1 e2 (λh1 hx=>by
    have hb:=dz s 1 h1
    rw[hl]at hb
    cases r with
    |nil=>simp at hb
    |cons x y=>
     simp at hb
     have hx1:nT x=true:=by rw[nr];rw[<-hb]at hx;exact decide_eq_true hx
     have MG:nT x=false:=hr
     rw[hx1]at MG;cases MG) W)
   rw[show((c.toNat-48:Nat):Int)=(c.toNat:Int)-48 from by omega]
   exact hcall
  .rw[if_neg hd]at h
   by_cases iK:qx c=true
   .rw[if_pos iK]at h
    by_cases hn:qy ((c::r).takeWhile dA)=true
    .rw[if_pos hn]at h
     simp only[Qcf,Prod.mk.injEq]at h
     obtain⟨⟨rfl,rfl,rfl⟩,rfl⟩:=h
     have hw:dA c=true:=by unfold dA;rw[iK];rfl
     have vG:0<((c::r).takeWhile dA).length:=by rw[List.takeWhile_cons_of_pos hw];simp
     have hle:((c::r).takeWhile dA).length<=(c::r).length:=(List.takeWhile_prefix dA).length_le
     have qcp:((c::r).takeWhile dA).length<=r.length+1:=by simpa using hle
     have Sv:(s.extract 0 ((c::r).takeWhile dA).length).data.toList=(c::r).takeWhile dA:=by
      rw[Lib.extract_data,List.drop_zero,hl,Nat.sub_zero,vQ]
     have TZ:=iK
     rw[rF]at TZ
     have⟨e1,e2⟩:=of_decide_eq_true TZ
     have h20:((c::r).takeWhile dA).length<=20:=by
      unfold qy at hn;simp only[Qce,decide_eq_true_eq]at hn;exact hn.1.1.2
     refine⟨?_,vG,by omega,by omega⟩
     have hcall:=K9 s ha (c.toNat:Int) hcz e1 e2 3 0 (bL ((c::r).takeWhile dA)) (((c::r).takeWhile dA).length:Int) w (show∀W,_ fromλW=>DE s hs _ (by omega) h20 (λk hk hkm=>by
      obtain⟨v,hv⟩:∃v,((c::r).takeWhile dA)[k]? =some v:=⟨_,Qac hkm⟩
      have⟨h3,h4⟩:=wC hv
      have hb:=dz s k hk
      rw[hl,h3]at hb
      cases hb
      rw[<-YB];exact h4) (λhk=>by
      have hb:=dz s _ hk
      rw[hl]at hb
      rw[<-YB];exact Nu hb) (bL ((c::r).takeWhile dA)) (fz Sv) (by rw[<-pO];simpa [bL]using hn) W)
     exact hcall
    .rw[if_neg hn]at h;cases h
   .rw[if_neg iK]at h
    by_cases Cl:c=34
    .rw[if_pos Cl]at h
     subst Cl
     have hq:r[(r.takeWhile fu).length]? =some 34/\jX (r.takeWhile fu)=true/\kd=2/\n=0/\str=r.takeWhile fu/\size=(r.takeWhile fu).length+2:=by
      split at h
      .rename_i x hx
       split at h
       .simp only[Qcf,Prod.mk.injEq]at h
        obtain⟨⟨rfl,rfl,rfl⟩,rfl⟩:=h
        refine⟨?_,by assumption,rfl,rfl,rfl,rfl⟩
        have h5:=congrArg (λl=>l[0]?) hx
        simp only[List.getElem?_drop,Nat.add_zero]at h5
        simpa using h5
       .cases h
      .cases h
     obtain⟨hq,ht,rfl,rfl,rfl,rfl⟩:=hq
     have bH:=(Qad.1 hq).1
     have Xz:r=r.takeWhile fu++34::r.drop ((r.takeWhile fu).length+1):=by
      have e1:r.drop (r.takeWhile fu).length=34::r.drop ((r.takeWhile fu).length+1):=by
       rw[List.drop_eq_getElem_cons bH,(Qad.1 hq).2]
      rw[<-e1]
      conv=>lhs;rw[<-List.take_append_drop (r.takeWhile fu).length r]
      rw[vQ]
     refine⟨?_,by omega,by omega,by omega⟩
     have hcall:=La s ha (λh=>by rw[hca h];rfl) 2 0 (bL (r.takeWhile fu)) (((r.takeWhile fu).length+2:Nat):Int) w (show∀W,_->_ fromλW hb=>DG s hs (r.takeWhile fu) (r.drop ((r.takeWhile fu).length+1)) (by rw[hl];congr 1) (λc hc=>by
      have⟨i,hi⟩:=Qdg hc
      exact(wC hi).2) ht W (hT.ae hb))
     exact hcall
    .rw[if_neg Cl]at h
     by_cases hsg:[38,43,45,42,47,37,40,41,44,61].contains c=true
     .rw[if_pos hsg]at h
      simp only[Qcf,Prod.mk.injEq]at h
      obtain⟨⟨rfl,rfl,rfl⟩,rfl⟩:=h
      have hm:c∈([38,43,45,42,47,37,40,41,44,61]:List UInt8):=by simpa using hsg
      refine⟨Am s ha c hca (by exact List.mem_append_left [62] hm) ?_ w,by omega,by omega,by omega⟩
      intro t ht
      rw[hl]
      exact DH c r (.inl hm) t ht
     .rw[if_neg hsg]at h
      by_cases IN:c=62/\r.head?≠some 61
      .rw[if_pos IN]at h
       simp only[Qcf,Prod.mk.injEq]at h
       obtain⟨⟨rfl,rfl,rfl⟩,rfl⟩:=h
       refine⟨Am s ha c hca (by rw[IN.1];decide) ?_ w,by omega,by omega,by omega⟩
       intro t ht
       rw[hl]
       exact DH c r (.inr IN) t ht
      .rw[if_neg IN]at h;cases h
end
section
open Go.RowKit
theorem sE {size:Nat}:∀{css:List (List aA)},(∀cs∈css,cs.length=size)->css.flatten.length=css.length*size
 |[],_=>by simp
 |a::r,h=>by rw[List.flatten_cons,Qda,h a (by simp),sE λcs hc=>h cs (by simp[hc]),Qcc,Nat.succ_mul,Nat.add_comm]
def lp {α:Type} [aD α]{w:ax}{xs:List α}{off:Nat}(hc:xs.length<=cap)(hm:cap<=maxLen)(hB:¬M b)(hb:b<w)
 (h:∀(i:Nat)(x:α),xs[i]? =some x->∃cs,aD.rep M w cs x/\∀(j:Nat)(u:aA),cs[j]? =some u->bJ w b (off+i*aD.size α+j) u):ab M w (xL (b,off) xs.length cap) xs:=by
 have hex:∀i:Fin xs.length,∃cs:List aA,aD.rep M w cs xs[i]/\∀(j:Nat)(u:aA),cs[j]? =some u->bJ w b (off+i*aD.size α+j) u:=λi=>h i xs[i] (by simp);have⟨f,hf⟩:=Classical.axiomOfChoice hex;have hlen:∀(i:Nat)(cs:List aA),(List.ofFn f)[i]? =some cs->cs.length=aD.size α:=λi cs hcs=>by
  rw[List.getElem?_ofFn]at hcs;split at hcs
  .cases hcs;exact aD.len (hf _).1
  .cases hcs
 have vN:(List.ofFn f).flatten.length=xs.length*aD.size α:=by
  rw[sE (size:=aD.size α) λcs hc=>by have⟨i,hi⟩:=List.mem_iff_getElem?.1 hc;exact hlen i cs hi];simp
 refine⟨List.ofFn f,⟨vN,_,cap,rfl,hc,hm,λ_=>⟨b,off,rfl,hB,hb,λj u hu=> ?_⟩⟩,by simp,λi cs x hcs hx=> ?_⟩
 .have hj:=(Qad.1 hu).1;rw[vN]at hj;have hs0:0<aD.size α:=by
   rcases Nat.eq_zero_or_pos (aD.size α)with h0|h0
   .rw[h0]at hj;omega
   .exact h0
  have hi:j/aD.size α<xs.length:=Nat.div_lt_of_lt_mul (by rw[Nat.mul_comm];exact hj);have hr:j%aD.size α<aD.size α:=Nat.mod_lt _ hs0;have MV:(List.ofFn f)[j/aD.size α]? =some (f ⟨_,hi⟩):=by rw[List.getElem?_ofFn,dif_pos hi]
  have hl:=hlen _ _ MV;have hcell:=(hf ⟨_,hi⟩).2 (j%aD.size α) _ (Qac (by rw[hl];exact hr));have hat:=iF hlen _ _ (j%aD.size α) _ MV (Qac (by rw[hl];exact hr));have hjj:j/aD.size α*aD.size α+j%aD.size α=j:=by rw[Nat.mul_comm];exact Nat.div_add_mod j _
  rw[hjj,hu]at hat;cases hat;dsimp only at hcell;rw[Nat.add_assoc,hjj]at hcell;exact hcell
 .rw[List.getElem?_ofFn]at hcs;split at hcs
  .rename_i hi;cases hcs;rw[Qac hi]at hx;cases hx;exact(hf ⟨i,hi⟩).1
  .cases hcs
abbrev Xo:=Nat->Nat->ax->List aA->aJ->Prop
def Az(R:Xo):Prop:=∀lo lo' hi w w' cs x,R lo hi w cs x->lo'<=lo->hi<=w.heap.size->(∀k,lo<=k->k<hi->w'.heap[k]? =w.heap[k]?)->R lo' hi w' cs x
def Hn(R:Xo)(B:Nat)(w:ax)(n:Nat)(xs:List aJ)(s:Nat->Nat):Prop:=
 ∃cur:Array aA,w.heap[B]? =some (.cells cur 44 (0,0))/\cur.size=n*4/\xs.length<=n/\B<s 0/\(∀i,s i<=s (i+1))/\s xs.length<=w/\
  ∀(i:Nat)(x:aJ),xs[i]? =some x->∃a b c d,cur[i*4]? =some a/\cur[i*4+1]? =some b/\cur[i*4+2]? =some c/\cur[i*4+3]? =some d/\R (s i) (s (i+1)) w [a,b,c,d] x
def lK(R:Xo)(B:Nat)(w:ax)(n:Nat)(xs:List aJ):Prop:=∃s,Hn R B w n xs s
section
variable {R:Xo}{B:Nat}{w w':ax}{n:Nat}{xs:List aJ}{s:Nat->Nat}
theorem lK.made(cur:Array aA)(h:bW w B (.cells cur 44 (0,0)))(hs:cur.size=n*4):lK R B w n []:=
 ⟨λ_=>w.heap.size,cur,h,hs,Qbf _,(Qaa.1 h).1,λ_=>bT,bT,λi x h=>by simp at h⟩
theorem lK.lt(h:lK R B w n xs):B<w:=by obtain⟨_,cur,h1,_⟩:=h;exact(Qaa.1 h1).1
theorem qR(h:∀i,s i<=s (i+1)):∀{i j},i<=j->s i<=s j
 |i,0,hij=>by rw[Nat.le_zero.1 hij];exact bT
 |i,j+1,hij=>by
  rcases Nat.lt_or_ge i (j+1)with hl|hl
  .exact Qcg (qR h (Nat.le_of_lt_succ hl)) (h j)
  .rw[Nat.le_antisymm hij hl];exact Qab _
theorem Hn.stay(hR:Az R)(h:Hn R B w n xs s)(hz:w.heap.size<=w')(hk:∀k,B<=k->k<w.heap.size->w'.heap[k]? =w.heap[k]?):Hn R B w' n xs s:=by
 obtain⟨cur,h1,h2,h3,h4,h5,h6,h7⟩:=h;refine⟨cur,(hk B bT (Qaa.1 h1).1).trans h1,h2,h3,h4,h5,Qcg h6 hz,λi x hx=> ?_⟩;have⟨a,b,c,d,p0,p1,p2,p3,hr⟩:=h7 i x hx;have hi:=(Qad.1 hx).1;have hle:s (i+1)<=s xs.length:=qR h5 hi;have hge:s 0<=s i:=qR h5 (Qbf _);exact⟨a,b,c,d,p0,p1,p2,p3,hR _ _ _ _ _ _ _ hr bT (by omega) λk k1 k2=>hk k (by omega) (by omega)⟩
theorem lK.stay(hR:Az R)(h:lK R B w n xs)(hz:w.heap.size<=w')(hk:∀k,B<=k->k<w.heap.size->w'.heap[k]? =w.heap[k]?):lK R B w' n xs:=by
 obtain⟨s,h⟩:=h;exact⟨s,h.stay hR hz hk⟩
theorem Hn.ae(hR:Az R)(h:Hn R B w n xs s)(hb:aC w w'):Hn R B w' n xs s:=h.stay hR hb.size λk _ k2=>hb.block k k2
theorem lK.ae(hR:Az R)(h:lK R B w n xs)(hb:aC w w'):lK R B w' n xs:=by obtain⟨s,h⟩:=h;exact⟨s,h.ae hR hb⟩
theorem lK.cell(h:lK R B w n xs)(hj:j<n*4):∃v,bJ w B j v/\w.frozen? (B,j)=false:=by
 obtain⟨_,cur,h1,h2,_⟩:=h;exact⟨cur[j]'(by omega),cell_of_heap h1 (by simp[h2,hj]),aj h1 j⟩
def lX {o:Nat}{a b c d:aA}(h:o+4<=cur.size)(j:Nat):
 ((((cur.setIfInBounds o a).setIfInBounds (o+1) b).setIfInBounds (o+2) c).setIfInBounds (o+3) d)[j]? =
   if j=o then some a else if j=o+1 then some b else if j=o+2 then some c else if j=o+3 then some d else cur[j]? :=by
 have q0:o<cur.size:=by omega
 have q1:o+1<cur.size:=by omega
 have q2:o+2<cur.size:=by omega
 have q3:o+3<cur.size:=by omega
 by_cases e0:j=o
 .subst e0;simp[Array.getElem?_setIfInBounds,q0]
 by_cases e1:j=o+1
 .subst e1;simp[Array.getElem?_setIfInBounds,q1]
 by_cases e2:j=o+2
 .subst e2;simp[Array.getElem?_setIfInBounds,q2]
 by_cases e3:j=o+3
 .subst e3;simp[Array.getElem?_setIfInBounds,q3]
 rw[if_neg e0,if_neg e1,if_neg e2,if_neg e3];simp only[Array.getElem?_setIfInBounds,Array.size_setIfInBounds,if_neg (Ne.symm e0),if_neg (Ne.symm e1),if_neg (Ne.symm e2),if_neg (Ne.symm e3)]
def BD(w:ax)(B o:Nat)(a b c d:aA):ax:=(((w.setCell (B,o) a).setCell (B,o+1) b).setCell (B,o+2) c).setCell (B,o+3) d
def Ho {o:Nat}{a b c d:aA}(h:k≠B):(BD w B o a b c d).heap[k]? =w.heap[k]? :=by
 unfold BD;rw[Qag _ _ _ _ (by simpa using h),Qag _ _ _ _ (by simpa using h),Qag _ _ _ _ (by simpa using h),Qag _ _ _ _ (by simpa using h)]
def LK {o:Nat}{a b c d:aA}:(BD w B o a b c d).heap.size=w:=by simp[BD,World.setCell]
theorem lK.snoc(hR:Az R)(h:lK R B w n xs)(hb:aC w w')(hn:xs.length<n){x:aJ}{a b c d:aA}(hx:R w w' w' [a,b,c,d] x):
 lK R B (BD w' B (xs.length*4) a b c d) n (xs++[x]):=by
 have SZ:=h.lt;obtain⟨s,hS⟩:=h;have hs6:s xs.length<=w:=by obtain⟨_,_,_,_,_,_,h6,_⟩:=hS;exact h6
 have⟨cur,h1,h2,h3,h4,h5,h6,h7⟩:=hS.ae hR hb;have hzz:=hb.size;have qag:∀i,(λj=>if j<=xs.length then s j else w'.heap.size) i<=(λj=>if j<=xs.length then s j else w'.heap.size) (i+1):=λi=>by
  have h0:=h5 i;have h00:i<=xs.length->s i<=s xs.length:=λh=>qR h5 h;dsimp only;split<;>split<;>omega
 refine⟨λj=>if j<=xs.length then s j else w'.heap.size,_,iQ h1 a b c d,by simp[h2],by simp;omega,by simpa using h4,qag,by simp[LK,Nat.not_succ_le_self],λi y hy=> ?_⟩;have hcs:xs.length*4+4<=cur.size:=by omega
 have hst:∀k,k≠B->(BD w' B (xs.length*4) a b c d).heap[k]? =w'.heap[k]? :=λk hk=>Ho hk;by_cases hi:i<xs.length
 .rw[Qbc hi]at hy;have⟨a',b',c',d',p0,p1,p2,p3,hr⟩:=h7 i y hy;have hge:s 0<=s i:=qR h5 (Qbf _);have hle:s (i+1)<=s xs.length:=qR h5 hi;refine⟨a',b',c',d',?_,?_,?_,?_,?_⟩
  .rw[lX hcs,if_neg (by omega),if_neg (by omega),if_neg (by omega),if_neg (by omega)];exact p0
  .rw[lX hcs,if_neg (by omega),if_neg (by omega),if_neg (by omega),if_neg (by omega)];exact p1
  .rw[lX hcs,if_neg (by omega),if_neg (by omega),if_neg (by omega),if_neg (by omega)];exact p2
  .rw[lX hcs,if_neg (by omega),if_neg (by omega),if_neg (by omega),if_neg (by omega)];exact p3
  .dsimp only;rw[if_pos (by omega),if_pos (by omega)];exact hR _ _ _ _ _ _ _ hr bT (by omega) λk k1 k2=>hst k (by omega)
 .have hlen:=(Qad.1 hy).1;have e:i=xs.length:=by simp at hlen;omega
  subst e;have e2:y=x:=by simpa using hy.symm
  subst e2;refine⟨a,b,c,d,?_,?_,?_,?_,?_⟩
  .rw[lX hcs,if_pos rfl]
  .rw[lX hcs,if_neg (by omega),if_pos rfl]
  .rw[lX hcs,if_neg (by omega),if_neg (by omega),if_pos rfl]
  .rw[lX hcs,if_neg (by omega),if_neg (by omega),if_neg (by omega),if_pos rfl]
  .dsimp only;rw[if_pos bT,if_neg (by omega)];exact hR _ _ _ _ _ _ _ hx hs6 bT λk k1 k2=>hst k (by omega)
end
def O2(b:Nat)(w:ax)(l:List aJ):Prop:=
 ∃cur:Array aA,w.heap[b]? =some (.cells cur 44 (0,0))/\cur.size=l.length*4/\∀(i:Nat)(x:aJ),l[i]? =some x->∃k n t,x= .mk k n t []/\t.size<=maxLen/\
  cur[i*4]? =some (xI k)/\cur[i*4+1]? =some (xI n)/\cur[i*4+2]? =some (xS t)/\cur[i*4+3]? =some (xL none 0 0)
def zj:Xo:=λlo hi w cs x=>∃k n t l a,x=aJ.mk k n t l/\t.size<=maxLen/\cs=[xI k,xI n,xS t,xL a l.length l.length]/\l.length<=12/\
 (l=[]/\a=none\/∃b,0<l.length/\lo<=b/\b<hi/\a=some ⟨b,0,none⟩/\O2 b w l)
def p8:Az zj:=λlo lo' hi w w' cs x h h1 h2 h3=>by
 obtain⟨k,n,t,l,a,e1,e2,e3,e5,e4⟩:=h;refine⟨k,n,t,l,a,e1,e2,e3,e5,?_⟩;rcases e4 with e4|⟨b,b0,b1,b2,b3,cur,c1,c2,c3⟩
 .exact .inl e4
 .exact .inr ⟨b,b0,by omega,b2,b3,cur,(h3 b b1 b2).trans c1,c2,c3⟩
theorem O2.slice {w:ax}(h:O2 b w l)(hl:l.length<=12)(hM:¬M b):ab M w (xL (b,0) l.length l.length) l:=by
 obtain⟨cur,h1,h2,h3⟩:=h;refine lp bT (by unfold maxLen;omega) hM (Qaa.1 h1).1 λi x hx=> ?_;obtain⟨k,n,t,rfl,ht,p0,p1,p2,p3⟩:=h3 i x hx;refine⟨_,eU.iff.2 ⟨_,rfl,ab.nil _ _,ht⟩,λj u hu=> ?_⟩;rw[Nat.zero_add,show aD.size aJ=4 from rfl];rcases j with _|_|_|_|j
 .simp at hu;subst hu;exact cell_of_heap h1 p0
 .simp at hu;subst hu;exact cell_of_heap h1 p1
 .simp at hu;subst hu;exact cell_of_heap h1 p2
 .simp at hu;subst hu;exact cell_of_heap h1 p3
 .simp at hu
theorem zj.rep {lo hi:Nat}{w:ax}{x:aJ}(h:zj lo hi w cs x)(hM:∀i,M i->i<lo):aD.rep (α:=aJ) M w cs x:=by
 obtain⟨k,n,t,l,a,rfl,ht,rfl,hl,⟨rfl,rfl⟩|⟨b,b0,b1,b2,rfl,hr⟩⟩:=h
 .exact eU.iff.2 ⟨_,rfl,ab.nil _ _,ht⟩
 .exact eU.iff.2 ⟨_,rfl,hr.slice hl λh=>by have:=hM b h;omega,ht⟩
theorem lK.slice {B:Nat}{w:ax}{xs:List aJ}(h:lK zj B w xs.length xs)(hl:xs.length<=maxLen)(hM:∀i,M i->i<B):ab M w (xL (B,0) xs.length xs.length) xs:=by
 obtain⟨s,cur,h1,h2,h3,h4,h5,h6,h7⟩:=h;refine lp bT hl (λh=>by have:=hM B h;omega) (Qaa.1 h1).1 λi x hx=> ?_;have⟨a,b,c,d,p0,p1,p2,p3,hr⟩:=h7 i x hx;have hge:s 0<=s i:=qR h5 (Qbf _);refine⟨_,hr.rep λj hj=>by have:=hM j hj;omega,λj u hu=> ?_⟩;rw[Nat.zero_add,show aD.size aJ=4 from rfl];rcases j with _|_|_|_|j
 .simp at hu;subst hu;exact cell_of_heap h1 p0
 .simp at hu;subst hu;exact cell_of_heap h1 p1
 .simp at hu;subst hu;exact cell_of_heap h1 p2
 .simp at hu;subst hu;exact cell_of_heap h1 p3
 .simp at hu
def Vf {l:List aN}(h:ab M w cv l)(hx:l[k]? =some x)(N:aV)(W:ax):
 aD.rep (α:=aN) N W [xI x.an,xS x.field,xS x.ai,xS x.more,xI x.type.an,xI x.type.of,xS x.cX,xS x.bZ] x:=by
 obtain⟨a,cap,rfl,hl,_,hc⟩:=h.aq;have hk:=(Qad.1 hx).1;obtain⟨b,off,rfl,_,hb,hcell⟩:=hc (by omega);obtain⟨cs,⟨rfl,hs⟩,_⟩:=hcell k x hx;exact⟨rfl,hs⟩
theorem lr(hK:B<=K):∀(vs:List aA)(o:Nat){w W:ax},Below B w W->Below B w (W.setCells K o vs)
 |[],_,_,_,h=>h
 |v::r,o,_,_,h=>lr hK r (o+1) (h.setCell (p:=(K,o)) hK v)
def Pn(k t o:Int)(f n m e r:aY)(w:ax):xC 217 #[.agg #[k,f,n,m,t,o,e,r]] w λq w'=>q=xR (.agg #[k,f,n,m,t,o,e,r])/\aC w w':=by
 go_enter func217,ntmps217;go_wp2_with fail;refine Qae (v:= .agg #[k,f,n,m,t,o,e,r]) (by simp[results,results217,go_sem]) rfl ⟨rfl,?_⟩;exact bU.alloc (by simp) _
def vD(l:List aN)(hl:l.length<=12)(h0:0<l.length)(M:aV)(w:ax)(v:aA)(hM:Bd M w)(hs:ab M w v l):
 xG 216 #[v, .func (.func 217) #[] #[]] w λv' w'=>ab M w' v' l:=by
 have⟨i0,hi0,hz0,hz1,hz2⟩:=info_parts uH
 have HC:Hd (∀(i:Nat)(x:aN),l[i]? =some x->_):=λi x hx=>And.intro (Vf hs hx) (oP hs hx)
 obtain⟨a,cj,rfl,cY,hmx,_⟩:=hs.aq
 generalize hn:l.length=n at*
 have eJ:=ag hn
 have yI:((n:Int)==0)=false:=by simp;omega
 have⟨cur,hmk,hcs⟩:=mN (P:=prog) w 70 51 i0 _ underlying70 hi0 hz0 n (by omega) (by omega)
 have IZ:Hd (dN (α:=aN) M w 51 (w.alloc (.cells cur 51)) n []):=dN.made cur (Qbh w _) (by rw[hcs,hz1];rfl)
 go_enter func216,ntmps216
 go_wp2
 go_loopg [6,7,16]n(λg _ _ iv wr=>∃i:Nat,i<=n/\g=n-i/\iv=xI i/\Hd (dN M w 51 wr n (l.take i))/\Hd (aC w wr))
 case atStart=>exact⟨0,Qbf _,rfl,rfl,IZ,bU⟩
 case round=>
  obtain⟨i,hi,rfl,rfl,HA,HB⟩:=hrel
  have hsz:w.heap.size<wr:=HA.o.lt
  by_cases bH:i<n
  .have⟨⟨xk,x1,x2,x3,⟨x4,x5⟩,x6,x7⟩,hx⟩:=eG l i (by rw[eJ.o];exact bH)
   have⟨hxs,b,off,cap,hv,hb,hcells⟩:=HC.o i _ hx
   obtain⟨rfl,rfl⟩:=iY hv
   have⟨q0,q1,q2,q3,q4,q5,q6,q7⟩:=hcells wr HB.o
   have nj:=ag (show(l.take i).length=i by have:=eJ.o;rw[Qdb];omega)
   have nN:=ag (show l.take (i+1)=l.take i++[⟨xk,x1,x2,x3,⟨x4,x5⟩,x6,x7⟩]by rw[Qbb,hx];rfl)
   have CD:=ag hxs
   dsimp only at q0 q1 q2 q3 q4 q5 q6 q7
   go_wp2_with fail
   refine cC (Pn _ _ _ _ _ _ _ _ _) λw1 hb1=> ?_
   have tg:=ag (CD.o (orM M w) w1)
   have bz:=ag (bt hb1)
   have mz:=ag (HA.o.ae bz.o)
   have XJ:i*8+7<n*8:=by omega
   have hTH:w1.there w (i*8) 8:=λj hj=>by
    have⟨u,p,f⟩:=mz.o.cell (j:=i*8+j) (by show _<n*8;omega)
    exact⟨by rw[p];rfl,f⟩
   have qea:(Tryz.prog.info? 51).map (·.size)=some 8:=by simp[hi0,hz1]
   have qaw:(#[xk,x1,x2,x3,x4,x5,x6,x7]:Array aA).all (·.oneCell')=true:=by simp[Value.oneCell']
   have Qe:=ag (And.intro hTH (And.intro qea qaw))
   go_wp2_with(with_reducible refine wpList_store_mid ?_ 51 (.tmp 26) (.tmp 25) ?_ w (i*8) #[xk,x1,x2,x3,x4,x5,x6,x7] ?_ ?_ ?_ ?_ ?_ ?_
               .exact rfl
               .exact rfl
               .exact rfl
               .exact rfl
               .exact Qe.o.1
               .exact Qe.o.2.1
               .exact Qe.o.2.2)
   go_roundg(n-(i+1))
   case measure=>omega
   case rel=>
    refine⟨i+1,by omega,rfl,by go_num,(show dN _ _ _ _ _ _ by rw[nN.o];exact mz.o.Y3 nj.o bH tg.o),(show Below _ _ _ from ?_)⟩
    exact lr (by omega) _ _ (HB.o.trans (bz.o.mono (by omega)))
  .go_wp2
   go_ret
   refine⟨_,rfl,?_,HB.o⟩
   have h1:=HA.o
   rw[Qah (by rw[eJ.o];omega)]at h1
   exact h1.slice eJ.o (λh=>by have:=hM _ h;omega) (by unfold maxLen;omega)
def EH(a:fx)(cap:Nat)(fv:aA)(w:ax):xC 216 #[xL a 0 cap,fv] w (jt () w):=by
 go_enter func216,ntmps216;go_wp2;go_ret;exact⟨rfl,rfl⟩
def zq(l:List aN)(hl:l.length<=12)(M:aV)(w:ax)(v:aA)(hM:Bd M w)(hs:ab M w v l):
 xG 216 #[v, .func (.func 217) #[] #[]] w λv' w'=>ab M w' v' l:=by
 by_cases h0:0<l.length
 .exact vD l hl h0 M w v hM hs
 .have e:l=[]:=Qdd (by omega);subst e;obtain⟨a,cap,rfl,_⟩:=hs.aq;refine dw (EH a cap _ w) ?_;exact⟨_,rfl,ab.nil _ _,dS⟩
def B4(nm:aY)(fs:List aH)(chs:List aN)(hf:fs.length<=12)(hc:chs.length<=12)(M:aV)(w:ax)(fv cv:aA)(hM:Bd M w)(hfs:ab M w fv fs)(hcs:ab M w cv chs):
 xG 156 #[.agg #[nm,fv,cv]] w λu w'=>∃jK cv',u= .agg #[nm,jK,cv']/\ab M w' jK fs/\ab M w' cv' chs:=by
 have CK:Hd (∀W,aC w W->w.heap.size+2<=W->_):=λW hb hz=>me nm fs hf (dX M w 2) W fv (dt hM hz) (hfs.ev (dj hb));have HIC:Hd (∀W,aC w W->w.heap.size+2<=W->_):=λW hb hz=>zq chs hc (dX M w 2) W cv (dt hM hz) (hcs.ev (dj hb));obtain⟨a,cj,rfl,_⟩:=hfs.aq;obtain⟨ca,qax,rfl,_⟩:=hcs.aq;clear hfs hcs;go_enter func156,ntmps156;go_wp2_with fail;refine(CK.o _ (Bx.du w _ _).1 (by simp)).mono ?_;rintro e w1⟨_,rfl,⟨_,rfl,hs1⟩,hb1⟩;obtain⟨za,zc,rfl,_⟩:=hs1.aq;have HB:=ag ((Bx.du w (cP nm (xL a fs.length cj) (xL ca chs.length qax)) (cP () () ())).ae hb1);have⟨r0,r1,r2⟩:=aO (HB.o.bO rfl);have⟨f0,f1⟩:=mu (HB.o.bO rfl);have HS:=ag hs1;clear hs1 hb1;go_upto_region 2 with fail;have⟨W2,hW2⟩:=bY ((w1.setCell (w,0) nm).setCell (w,1) (xL za fs.length zc));have bg:=ag (show Bx w [cP nm (xL za fs.length zc) (xL ca chs.length qax),cP () () ()] W2 by rw[hW2];exact(HB.o.set 0 0 rfl _).set 0 1 rfl _);have gn:=ag (show ab (dX M w 2) W2 (xL za fs.length zc) fs by
  rw[hW2];exact HS.o.ev (((Ev.refl _ w1).setCell (.inl (.inr ⟨by simp,by simp⟩)) _).setCell (.inl (.inr ⟨by simp,by simp⟩)) _));rw[<-hW2];clear hW2 r0 r1 r2 f0 f1 HB HS;have⟨r0,r1,r2⟩:=aO (bg.o.bO rfl);go_wp2_with fail;refine(HIC.o _ bg.o.1 bg.o.bQ).mono ?_;rintro e w3⟨_,rfl,qK,hb3⟩;obtain⟨ya,yc,rfl,_⟩:=qK.aq;have bV:=ag (bg.o.ae hb3);have jL:=ag (And.intro (gn.o.ae hb3) qK);clear qK hb3 r0 r1 r2;have⟨r0,r1,r2⟩:=aO (bV.o.bO rfl);have⟨e0,e1,e2⟩:=aO (bV.o.cg rfl);have f2:=aj (bV.o.bO rfl) 2;have⟨g0,g1⟩:=mu (bV.o.cg rfl);have g2:=aj (bV.o.cg rfl) 2;go_wp2_with fail;refine Qae (v:= .agg #[nm,xL za fs.length zc,xL ya chs.length yc]) (by simp[results,results156,go_sem,e0,e1,e2]) rfl ⟨_,rfl,⟨_,_,rfl,jL.o.1.ev ?_,jL.o.2.ev ?_⟩,?_⟩
 .exact((((eK w3).setCell (.inl (.inr ⟨by simp,by simp⟩)) _).setCell (.inl (.inr ⟨by simp,by simp⟩)) _).setCell (.inl (.inr ⟨by simp,by simp⟩)) _).setCell (.inl (.inr ⟨by simp,by simp⟩)) _
 .exact((((eK w3).setCell (.inl (.inr ⟨by simp,by simp⟩)) _).setCell (.inl (.inr ⟨by simp,by simp⟩)) _).setCell (.inl (.inr ⟨by simp,by simp⟩)) _).setCell (.inl (.inr ⟨by simp,by simp⟩)) _
 .exact(((bV.o.1.setCell (by simp) _).setCell (by simp) _).setCell (by simp) _).setCell (by simp) _
theorem dN.acc {α:Type} [aD α]{n:Nat}{xs:List α}(h:dN M B t w n xs)(hn:xs.length=n)(hb:base<=B)(hm:n<=maxLen):aS M base t w (xL (B,0) n n) xs:=by
 obtain⟨cur,css,h1,h2,h3,h4,h5,h6⟩:=h;subst hn;exact⟨css,⟨by rw[h5,Qdb];simp[h2], .inr ⟨B,_,cur,rfl,hb,h1,bT,hm,h2,h5.symm⟩⟩,h4,λi cs x hc hx=>aD.ev (h6 i cs x hc hx) (Ev.dL w λi hi=>hi.imp_right λe=>(Option.some.inj e).symm)⟩
def Ij:(Tryz.prog.info? 72).map (λi=>(i.zero,i.size,i.bytes))=some (some (.agg #["",(),()]),3,64):=by kernel_rfl
def zr(l:List aQ)(hl:l.length<=12)(h0:0<l.length)(h12:∀y∈l,y.au.ah.length<=12/\y.aw.length<=12)(M:aV)(w:ax)(v:aA)(hM:Bd M w)(hs:ab M w v l):
 xG 155 #[v, .func (.func 156) #[] #[]] w λv' w'=>aS M w 72 w' v' l:=by
 have⟨i0,hi0,hz0,hz1,hz2⟩:=info_parts Ij
 have HC:Hd (∀(i:Nat)(x:aQ),l[i]? =some x->_):=λi x hx=>eL hs hx
 have H12:Hd (∀y∈l,y.au.ah.length<=12/\y.aw.length<=12):=h12
 obtain⟨a,cj,rfl,cY,hmx,_⟩:=hs.aq
 generalize hn:l.length=n at*
 have eJ:=ag hn
 have yI:((n:Int)==0)=false:=by simp;omega
 have⟨cur,hmk,hcs⟩:=mN (P:=prog) w 29 72 i0 _ underlying29 hi0 hz0 n (by omega) (by omega)
 have IZ:Hd (dN (α:=aQ) M w 72 (w.alloc (.cells cur 72)) n []):=dN.made cur (Qbh w _) (by rw[hcs,hz1];rfl)
 go_enter func155,ntmps155
 go_wp2
 go_loopg [6,7,16]n(λg _ _ iv wr=>∃i:Nat,i<=n/\g=n-i/\iv=xI i/\Hd (dN M w 72 wr n (l.take i))/\Hd (aC w wr))
 case atStart=>exact⟨0,Qbf _,rfl,rfl,IZ,bU⟩
 case round=>
  obtain⟨i,hi,rfl,rfl,HA,HB⟩:=hrel
  have hsz:w.heap.size<wr:=HA.o.lt
  by_cases bH:i<n
  .have⟨x,hx⟩:=eG l i (by rw[eJ.o];exact bH)
   have⟨b,off,cap,fa,fc,ca,cc,hv,hb,hfs,hcs,hnm,hcells⟩:=HC.o i x hx
   obtain⟨rfl,rfl⟩:=iY hv
   have⟨q0,q1,q2⟩:=hcells wr HB.o
   have nj:=ag (show(l.take i).length=i by have:=eJ.o;rw[Qdb];omega)
   have nN:=ag (show l.take (i+1)=l.take i++[x]by rw[Qbb,hx];rfl)
   have hxl:=H12.o x (Qaf hx)
   have X6:Hd (∀o,Ev M w (orM M w) (wr.alloc o)):=λo=>⟨ao.az (HB.o.alloc (by omega) o),λj hj=>by
    rcases hj with hj|hj
    .exact .inl hj
    .exact .inr (by omega)⟩
   have bI:=ag (λo=>B4 x.au.ai x.au.ah x.aw hxl.1 hxl.2 (orM M w) (wr.alloc o) (xL fa x.au.ah.length fc) (xL ca x.aw.length cc) (λj hj=>by
    rcases hj with hj|hj
    .have:=hM j hj;simp;omega
    .simp;omega) (hfs.ev (X6.o o)) (hcs.ev (X6.o o)))
   have CD:=ag hnm
   go_wp2_with fail
   refine(bI.o _).mono ?_
   rintro e w1⟨_,rfl,⟨fv,cv,rfl,h1,h2⟩,hb1⟩
   obtain⟨za,zc,rfl,_⟩:=h1.aq
   obtain⟨ya,yc,rfl,_⟩:=h2.aq
   have tg:Hd (aD.rep (α:=aQ) (orM M w) w1 [xS x.au.ai,xL za x.au.ah.length zc,xL ya x.aw.length yc] x):=⟨_,_,rfl,h1,h2,CD.o⟩
   have bz:=ag (bt hb1)
   have mz:=ag (HA.o.ae bz.o)
   have XJ:i*3+2<n*3:=by omega
   have hTH:w1.there w (i*3) 3:=λj hj=>by
    have⟨u,p,f⟩:=mz.o.cell (j:=i*3+j) (by show _<n*3;omega)
    exact⟨by rw[p];rfl,f⟩
   have Wk:(Tryz.prog.info? 72).map (·.size)=some 3:=by simp[hi0,hz1]
   have qay:(#[x.au.ai,xL za x.au.ah.length zc,xL ya x.aw.length yc]:Array aA).all (·.oneCell')=true:=by simp[Value.oneCell']
   have Qe:=ag (And.intro hTH (And.intro Wk qay))
   go_wp2_with(with_reducible refine wpList_store_mid ?_ 72 (.tmp 26) (.tmp 25) ?_ w (i*3) #[x.au.ai,xL za x.au.ah.length zc,xL ya x.aw.length yc] ?_ ?_ ?_ ?_ ?_ ?_
               .exact rfl
               .exact rfl
               .exact rfl
               .exact rfl
               .exact Qe.o.1
               .exact Qe.o.2.1
               .exact Qe.o.2.2)
   go_roundg(n-(i+1))
   case measure=>omega
   case rel=>
    refine⟨i+1,by omega,rfl,by go_num,(show dN _ _ _ _ _ _ by rw[nN.o];exact mz.o.Y3 nj.o bH tg.o),(show Below _ _ _ from ?_)⟩
    exact lr (by omega) _ _ (HB.o.trans (bz.o.mono (by omega)))
  .go_wp2
   go_ret
   refine⟨_,rfl,?_,HB.o⟩
   have h1:=HA.o
   rw[Qah (by rw[eJ.o];omega)]at h1
   exact h1.acc eJ.o bT (by unfold maxLen;omega)
def EI(a:fx)(cap:Nat)(fv:aA)(w:ax):xC 155 #[xL a 0 cap,fv] w (jt () w):=by
 go_enter func155,ntmps155;go_wp2;go_ret;exact⟨rfl,rfl⟩
def EJ(l:List aQ)(hl:l.length<=12)(h12:∀y∈l,y.au.ah.length<=12/\y.aw.length<=12)(M:aV)(w:ax)(v:aA)(hM:Bd M w)(hs:ab M w v l):
 xG 155 #[v, .func (.func 156) #[] #[]] w λv' w'=>aS M w 72 w' v' l:=by
 by_cases h0:0<l.length
 .exact zr l hl h0 h12 M w v hM hs
 .have e:l=[]:=Qdd (by omega);subst e;obtain⟨a,cap,rfl,_⟩:=hs.aq;refine dw (EI a cap _ w) ?_;exact⟨_,rfl,aS.nil _ _ _ _,dS⟩
def EK(l:List aQ)(hl:l.length<=12)(h12:∀y∈l,y.au.ah.length<=12/\y.aw.length<=12)(M:aV)(w:ax)(v:aA)(hM:Bd M w)(hs:ab M w v l)(B:Nat)(hB:w=B):
 xG 155 #[v, .func (.func 156) #[] #[]] w λv' w'=>aS M B 72 w' v' l:=by
 subst hB;exact EJ l hl h12 M w v hM hs
def od(ls:List aQ)(hl:ls.length<=12)(h12:∀y∈ls,y.au.ah.length<=12/\y.aw.length<=12)(M:aV)(w:ax)(v:aA)(hM:Bd M w)(hs:ab M w v ls):
 xG 87 #[.agg #[v]] w λu w'=>∃v',u= .agg #[v']/\aS (dX M w 2) (↑w+2) 72 w' v' ls:=by
 have CK:Hd (∀W,aC w W->W.heap.size=↑w+2->_):=λW hb hz=>EK ls hl h12 (dX M w 2) W v (dt hM (by omega)) (hs.ev (dj hb)) _ hz;obtain⟨a,cj,rfl,_⟩:=hs.aq;go_enter func87,ntmps87;go_wp2_with fail;refine(CK.o _ (Bx.du w _ _).1 (by simp)).mono ?_;rintro e w1⟨_,rfl,hs1,hb1⟩;obtain⟨za,zc,rfl,_⟩:=hs1.aq;have HB:=ag ((Bx.du w (xK #[xL a ls.length cj] 31) (xK #[()] 31)).ae hb1);have e0:=one_cell (HB.o.cg rfl);have g0:=aj (HB.o.cg rfl) 0;have HS:=ag hs1;go_wp2_with fail;refine Qae (v:= .agg #[xL za ls.length zc]) (by simp[results,results87,go_sem,e0]) rfl ⟨_,rfl,⟨_,rfl,HS.o.rC (p:=⟨[w],0,none⟩) (.inr ⟨by simp,by simp⟩) (by simp) _⟩,?_⟩
 .exact HB.o.1.setCell (by simp) _
def yo(ls:List aQ)(hl:ls.length<=12)(h12:∀y∈ls,y.au.ah.length<=12/\y.aw.length<=12)(M:aV)(w:ax)(v:aA)(hM:Bd M w)(hs:ab M w v ls):
 xG 87 #[.agg #[v]] w λu w'=>∃v',u= .agg #[v']/\ab M w' v' ls:=(od ls hl h12 M w v hM hs).mono (by
 rintro e w'⟨u,rfl,⟨v',rfl,h⟩,hb⟩;exact⟨_,rfl,⟨_,rfl,(h.slice (λi hi=>hi.elim (λk=>Qde (hM i k) (by omega)) (λk=>k.2))).ev (Ev.dL w' λi hi=> .inl hi)⟩,hb⟩)
end
end Go.Proofs.YtepaofffbkfodaaGreatDoor
