/- A part of MarkAsks's proof; no condition. -/
import Derived.Test.YtccpcfcochffcaaGreatDoorM09
import Derived.Test.YtccpcfcochffcaaGreatDoorM10
import Derived.Shelf.Strings.Prefix
set_option linter.all false
set_option maxHeartbeats 8000000
set_option maxRecDepth 100000
namespace Go.Proofs.YtccpcfcochffcaaGreatDoor
open Tryz
variable{l vs us:List au}{s nm:aT}{v u fv cv:an}{w W wr:aj}{M F:aS}{many:Int}{i B cap base X k g b j K:Nat}{e t:TypeId}{a:dC}{ls:List aK}{c d:az}{x:aB}{f:ay}{cur:Array an}{cs:List an}
section
open Go.RowKit
def yH(k n:Int)(a:dC)(cap:Nat)(w:aj):
 xC 117 #[.agg #[xI k,xI n,xS ⟨#[]⟩,xL a 0 cap]] w (cN (xB true) w):=by
 go_enter func117,ntmps117;go_wp2;go_ret;exact⟨rfl,bO⟩
def El(n:Int)(h1:1<=n)(h2:n<=100000)(w:aj):xC 119 #[xI n] w (gE (xB true) w):=by
 go_enter func119,ntmps119;go_wp2;go_ret;exact⟨rfl,rfl⟩
def LS(r:Int)(h1:32<=r)(h2:(r !=127)=true)(w:aj):xC 166 #[.int .i32 r] w (gE (xB true) w):=by
 go_enter func166,ntmps166;go_wp2;go_ret;exact⟨rfl,rfl⟩
def Az(s:aT)(h:fN s)(w:aj)(hT:Tb w):xC 118 #[xS s] w (cN (xB true) w):=by
 have HT:=af hT;have qgu:=h.1;have HS:=af h.2;have HV:Hd (∀W,Tb W->_):=λW hT=>by
  have h1:=Bo s W (by omega) hT;rw[Ek HS.o]at h1;exact h1
 go_enter func118,ntmps118;go_wp2_with fail;refine cG (HV.o _ HT.o) λw1 aC=> ?_;have aO:=af aC;go_wp2;go_loopg [4](s.size+1)(λg _ wr=>∃p:Nat,p<=s.size/\g=s.size+1-p/\wr=w1.iter s p/\Hd (qG s p));case atStart=>exact⟨0,Qbf _,rfl,rfl,(uL HS.o)⟩
 case round=>
  obtain⟨p,hp,rfl,rfl,HA⟩:=hrel;by_cases aX:p<s.size
  .obtain⟨r,k,hd,hk,T5⟩:=HA.o.step aX;have hn:=run_next_any (P:=prog) w1 s p 0 aX;rw[hd]at hn;dsimp only at hn;have R5:(32:Int)<=(r:Int):=by omega
   have qds:((r:Int)!=127)=true:=by simp;omega
   have qM:1<=k:=by omega
   have hA3:=T5.1;have kj:=af T5;go_wp2_with fail;refine dJ (LS _ R5 qds _) ?_;go_wp2;go_roundg(s.size+1-(p+k));case measure=>omega
   case rel=>exact⟨p+k,hA3,rfl,rfl,kj⟩
  .have hn:=run_next_end (P:=prog) w1 s p 0 aX;go_wp2;go_ret;exact⟨rfl,aO.o.alloc aO.o.size _⟩
def LU(a:dC)(cap:Nat)(w:aj):
 xC 71 #[.agg #[xI 0,xI 0,xS ⟨#[]⟩,xL a 0 cap]] w (cN (xB true) w):=by
 go_enter func71,ntmps71;go_wp2_with fail;refine cG (yH _ _ _ _ _) λw1 aC=> ?_;obtain⟨g0,g1,g2,g3⟩:=ae (boxed aC);have HB:=af (aQ aC);go_wp2;go_ret;exact⟨rfl,HB.o⟩
def LV(n:Int)(h1: -1000000000000000<=n)(h2:n<=1000000000000000)(a:dC)(cap:Nat)(w:aj):
 xC 71 #[.agg #[xI 1,xI n,xS ⟨#[]⟩,xL a 0 cap]] w (cN (xB true) w):=by
 go_enter func71,ntmps71;go_wp2_with fail;refine cG (yH _ _ _ _ _) λw1 aC=> ?_;obtain⟨g0,g1,g2,g3⟩:=ae (boxed aC);have HB:=af (aQ aC);go_wp2;go_ret;exact⟨rfl,HB.o⟩
def yI(s:aT)(h:fN s)(a:dC)(cap:Nat)(w:aj)(hT:Tb w):
 xC 71 #[.agg #[xI 2,xI 0,xS s,xL a 0 cap]] w (cN (xB true) w):=by
 have HR:Hd (∀W,Tb W->_):=λW hT=>Az s h W hT;have HT:=af (λo=>hT.below (w':=w.alloc o) bO);go_enter func71,ntmps71;go_wp2_with fail;refine cG (HR.o _ (HT.o _)) λw1 aC=> ?_;have HB:=af (aQ aC);go_wp2;go_ret;exact⟨rfl,HB.o⟩
def LW(k n:Int)(hk:k=3\/k=4)(h1:1<=n)(h2:n<=100000)(a:dC)(cap:Nat)(w:aj):
 xC 71 #[.agg #[xI k,xI n,xS ⟨#[]⟩,xL a 0 cap]] w (cN (xB true) w):=by
 rcases hk with rfl|rfl;all_goals
  go_enter func71,ntmps71;go_wp2_with fail;refine cG (yH _ _ _ _ _) λw1 aC=> ?_;obtain⟨g0,g1,g2,g3⟩:=ae (boxed aC);have HB:=af (aQ aC);go_wp2_with fail;refine dJ (El n h1 h2 _) ?_;go_wp2;go_ret;exact⟨rfl,HB.o⟩
def cQ {k n:Int}(h:bS M w v (au.mk k n s l)):∃a cap,v= .agg #[xI k,xI n,xS s,xL a l.length cap]/\ab M w (xL a l.length cap) l:=by
 obtain⟨cs,rfl,hr⟩:=h;obtain⟨av,rfl,hs,_⟩:=eN.iff.1 hr;have jC:=hs;obtain⟨a,cap,rfl,_⟩:=jC.open_;exact⟨a,cap,rfl,hs⟩
def Bp {k:Int}{v:au}(h:kU k many v)(hm:many<=100000)(hu:bS M w u v)(hT:Tb w):
 xC 71 #[u] w (cN (xB true) w):=by
 rcases h with⟨_,n,rfl,h1,h2⟩|⟨_,s,rfl,h1⟩|⟨hk,rfl|⟨n,rfl,h1,h2⟩⟩
 .obtain⟨a,cap,rfl,_⟩:=cQ hu;exact LV n h1 h2 a cap w
 .obtain⟨a,cap,rfl,_⟩:=cQ hu;exact yI s h1 a cap w hT
 .obtain⟨a,cap,rfl,_⟩:=cQ hu;exact LU a cap w
 .obtain⟨a,cap,rfl,_⟩:=cQ hu;exact LW k n hk h1 (by omega) a cap w
def kH {k:Int}{v:au}(h:kU k many v):v.kind≠5:=by
 rcases h with⟨_,n,rfl,h1,h2⟩|⟨_,s,rfl,h1⟩|⟨hk,rfl|⟨n,rfl,h1,h2⟩⟩<;>simp[au.kind];omega
def LX {k:Int}{v:au}(h:kU k many v)(hm:many<=100000)(hu:bS M w u v)(hT:Tb w):
 xC 120 #[u] w (cN (xB false) w):=by
 have HR:=fV (w:=w) (λW hb=>Bp h hm (hu.below hb) (hT.below hb));have RT:(v.kind==5)=false:=by simpa using kH h
 obtain⟨vk,vn,vs,vl⟩:=v;obtain⟨a,cap,rfl,_⟩:=cQ hu;dsimp only[au.kind]at RT;go_enter func120,ntmps120;go_wp2_with fail;refine cG (HR.o _ bO) λw1 aC=> ?_;have HB:=af (aQ aC);go_wp2;go_ret;exact⟨rfl,HB.o⟩
def dZ(h:ab M w v l){k n:Int}{ll:List au}(hx:l[i]? =some (.mk k n s ll)):∃b off cap a c,v=xL (some ⟨b,off,none⟩) l.length cap/\b<w.heap.size/\ab M w (xL a ll.length c) ll/\s.size<=maxLen/\∀W,aq w W->(aU W b (off+i*4) (xI k)/\aU W b (off+i*4+1) (xI n)/\aU W b (off+i*4+2) (xS s)/\aU W b (off+i*4+3) (xL a ll.length c))/\bS M W (.agg #[xI k,xI n,xS s,xL a ll.length c]) (au.mk k n s ll):=by
 obtain⟨a,cap,rfl,hl,_,hc⟩:=h.open_;have hk:=(Qad.1 hx).1;obtain⟨b,off,rfl,_,hb,aG⟩:=hc (by omega);obtain⟨cs,hr,bD⟩:=aG i _ hx;have hr0:=hr;obtain⟨av,rfl,hs,hsz⟩:=eN.iff.1 hr;have jC:=hs;obtain⟨a,c,rfl,_⟩:=jC.open_;refine⟨b,off,cap,a,c,rfl,hb,hs,hsz,λW hB=>⟨?_,_,rfl,aA.ev hr0 (Ev.ao hB)⟩⟩;have g:∀j u,([xI k,xI n,xS s,xL a ll.length c]:List an)[j]? =some u->aU W b (off+i*4+j) u:=λj u hu=>(hB.cell (p:=⟨b,off+i*4+j,none⟩) hb).trans (bD j u hu);exact⟨g 0 _ rfl,g 1 _ rfl,g 2 _ rfl,g 3 _ rfl⟩
def Cz(k many:Int)(hm:many<=100000)(l:List au)(hl:∀x∈l,kU k many x)(M:aS)(v:an)(w:aj)(h:ab M w v l)(hT:Tb w):
 xC 154 #[v, .func (.func 120) #[] #[]] w (cN (xI (-1)) w):=by
 have HC:Hd (∀(i:Nat)(k n:Int)(s:aT)(ll:List au),l[i]? =some (.mk k n s ll)->_):=λi k n s ll hx=>dZ h hx;have HN:Hd (∀W(x:au)u,aq w W->x∈l->bS M W u x->_):=λW x u hb hx hu=>LX (hl x hx) hm hu (hT.below hb);obtain⟨a,bQ,rfl,cK,qE,_⟩:=h.open_;generalize hn:l.length=n at*;have ek:=af hn;go_enter func154,ntmps154;go_wp2;go_loopg [5,8]n(λg _ iv wr=>∃k:Nat,k<=n/\g=n-k/\iv=xI k/\Hd (aq w wr));case atStart=>exact⟨0,Qbf _,rfl,rfl,dK⟩
 case round=>
  obtain⟨i,hi,rfl,rfl,HB⟩:=hrel;by_cases aX:i<n
  .obtain⟨⟨xk,xn,xs,xl⟩,hx⟩:=dQ l i (by rw[ek.o];exact aX);obtain⟨b,off,cap,a',c',hv,hb,_,_,aw⟩:=HC.o i xk xn xs xl hx;obtain⟨rfl,rfl⟩:=gY hv;obtain⟨⟨g0,g1,g2,g3⟩,gz⟩:=aw wr HB.o;have pX:=af (HN.o wr _ _ HB.o (Qaf hx) gz);go_wp2_with fail;refine pX.o.mono ?_;rintro e w1⟨rfl,aC⟩;have aO:Hd (aq w w1):=HB.o.trans (aC.mono HB.o.size);go_wp2;go_roundg(n-(i+1));case measure=>omega
   case rel=>exact⟨i+1,by omega,rfl,by go_num,aO⟩
  .go_wp2;go_ret;exact⟨rfl,HB.o⟩
def wI(k many:Int)(hm:many<=100000)(l:List au)(hl:∀x∈l,kU k many x)(M:aS)(v:an)(w:aj)(h:ab M w v l)(hT:Tb w):
 xC 108 #[v, .func (.func 120) #[] #[]] w (cN (xB false) w):=by
 have HI:=af (Cz k many hm l hl M v w h hT);go_enter func108,ntmps108;go_wp2_with fail;refine HI.o.mono ?_;rintro e w1⟨rfl,aC⟩;have HB:=af aC;go_wp2;go_ret;exact⟨rfl,HB.o⟩
def Ie(k many:Int)(hm:many<=100000)(l:List au)(hl:∀x∈l,kU k many x)(Dv:l.length<=12)(M:aS)(a:dC)(cap:Nat)(w:aj)(h:ab M w (xL a l.length cap) l)(hT:Tb w):
 xC 71 #[.agg #[xI 5,xI 0,xS ⟨#[]⟩,xL a l.length cap]] w (cN (xB true) w):=by
 have HCN:=fV (w:=w) (λW hb=>wI k many hm l hl M _ W (h.below hb) (hT.below hb));go_enter func71,ntmps71;go_wp2_with fail;refine cG (HCN.o _ bO) λw1 aC=> ?_;have HB:=af (aQ aC);go_wp2;go_ret;exact⟨rfl,HB.o⟩
def yJ {t:aR}{v:au}(h:db t many v)(hm:many<=100000)(hu:bS M w u v)(hT:Tb w):
 xC 71 #[u] w (cN (xB true) w):=by
 rcases h with⟨ht,l,rfl,hl,ha⟩|⟨ht,h1⟩
 .obtain⟨a,cap,rfl,hs⟩:=cQ hu;exact Ie t.of many hm l ha hl M a cap w hs hT
 .exact Bp h1 hm hu hT
def kV(t:aR)(h:aF t=true)(w:aj):xC 106 #[.agg #[xI t.kind,xI t.of]] w (cN (xB true) w):=by
 obtain⟨k,o⟩:=t;dsimp only at*;unfold aF at h;dsimp only at h;by_cases h5:k=5
 .subst h5;simp at h;obtain⟨h1,h2⟩:=h;go_enter func106,ntmps106;go_wp2;go_ret;exact⟨rfl,bO⟩
 .rw[if_neg h5]at h;simp at h;obtain⟨h1,h2,h3⟩:=h;have e5:(k==5)=false:=by simpa using h5
  subst h3;clear h5;go_enter func106,ntmps106;go_wp2;go_ret;exact⟨rfl,bO⟩
def rH(vk vn:Int)(vs:aT)(a:dC)(n cap:Nat)(k:Int)(h:vk=k\/(vk=0/\(k=3\/k=4)))(w:aj):
 xC 107 #[.agg #[xI vk,xI vn,xS vs,xL a n cap],xI k] w (cN (xB true) w):=by
 rcases h with rfl|⟨rfl,rfl|rfl⟩
 .go_enter func107,ntmps107;go_wp2;go_ret;exact⟨rfl,bO⟩
 .go_enter func107,ntmps107;go_wp2;go_ret;exact⟨rfl,bO⟩
 .go_enter func107,ntmps107;go_wp2;go_ret;exact⟨rfl,bO⟩
def Ku {k:Int}{v:au}(h:kU k many v):v.kind=k\/(v.kind=0/\(k=3\/k=4)):=by
 rcases h with⟨rfl,n,rfl,h1,h2⟩|⟨rfl,s,rfl,h1⟩|⟨hk,rfl|⟨n,rfl,h1,h2⟩⟩
 .exact .inl rfl
 .exact .inl rfl
 .exact .inr ⟨rfl,hk⟩
 .exact .inl rfl
def OJ {v:au}(k o:Int)(p:Nat)(h:kU o many v)(hu:bS M w u v)(hp:cI w p (xK #[xI k,xI o] 136)):
 xC 109 #[u,xP p] w (cN (xB false) w):=by
 have ho:=Ku h;obtain⟨vk,vn,vs,vl⟩:=v;obtain⟨a,cap,rfl,_⟩:=cQ hu;have HO:Hd (∀W,_):=λW=>rH vk vn vs a vl.length cap o ho W;obtain⟨c0,c1⟩:=ah hp;have gO:p<w.heap.size:=(Qaa.1 hp).1;have hpn:p≠w.heap.size:=by omega
 clear hu h ho hp;go_enter func109,ntmps109;go_wp2_with fail;refine cG (HO.o _) λw1 aC=> ?_;have HB:=af (aQ aC);clear aC;go_wp2;go_ret;exact⟨rfl,HB.o⟩
def CA(k o many:Int)(p:Nat)(l:List au)(hl:∀x∈l,kU o many x)(M:aS)(v:an)(w:aj)(h:ab M w v l)(hp:cI w p (xK #[xI k,xI o] 136)):
 xC 154 #[v, .func (.func 109) #[] #[xP p]] w (cN (xI (-1)) w):=by
 have HC:Hd (∀(i:Nat)(k n:Int)(s:aT)(ll:List au),l[i]? =some (.mk k n s ll)->_):=λi k n s ll hx=>dZ h hx;have gO:p<w.heap.size:=(Qaa.1 hp).1;have HN:Hd (∀W(x:au)u,aq w W->x∈l->bS M W u x->_):=λW x u hb hx hu=>OJ k o p (hl x hx) hu ((hb.block p gO).trans hp);obtain⟨a,bQ,rfl,cK,qE,_⟩:=h.open_;clear h hl hp gO;generalize hn:l.length=n at*;have ek:=af hn;clear hn;go_enter func154,ntmps154;go_wp2;go_loopg [5,8]n(λg _ iv wr=>∃k:Nat,k<=n/\g=n-k/\iv=xI k/\Hd (aq w wr));case atStart=>exact⟨0,Qbf _,rfl,rfl,dK⟩
 case round=>
  obtain⟨i,hi,rfl,rfl,HB⟩:=hrel;by_cases aX:i<n
  .obtain⟨⟨xk,xn,xs,xl⟩,hx⟩:=dQ l i (by rw[ek.o];exact aX);obtain⟨b,off,cap,a',c',hv,hb,_,_,aw⟩:=HC.o i xk xn xs xl hx;obtain⟨rfl,rfl⟩:=gY hv;obtain⟨⟨g0,g1,g2,g3⟩,gz⟩:=aw wr HB.o;have pX:=af (HN.o wr _ _ HB.o (Qaf hx) gz);clear hv aw gz hx;go_wp2_with fail;refine pX.o.mono ?_;rintro e w1⟨rfl,aC⟩;have aO:Hd (aq w w1):=HB.o.trans (aC.mono HB.o.size);clear aC;go_wp2;go_roundg(n-(i+1));case measure=>omega
   case rel=>exact⟨i+1,by omega,rfl,by go_num,aO⟩
  .go_wp2;go_ret;exact⟨rfl,HB.o⟩
def wJ(k o many:Int)(p:Nat)(l:List au)(hl:∀x∈l,kU o many x)(M:aS)(v:an)(w:aj)(h:ab M w v l)(hp:cI w p (xK #[xI k,xI o] 136)):
 xC 108 #[v, .func (.func 109) #[] #[xP p]] w (cN (xB false) w):=by
 have HI:=af (CA k o many p l hl M v w h hp);clear h hl hp;go_enter func108,ntmps108;go_wp2_with fail;refine HI.o.mono ?_;rintro e w1⟨rfl,aC⟩;have HB:=af aC;clear aC;go_wp2;go_ret;exact⟨rfl,HB.o⟩
def OK {t:aR}{v:au}(h:db t many v):v.kind=t.kind\/(v.kind=0/\(t.kind=3\/t.kind=4)):=by
 rcases h with⟨h5,l,rfl,_⟩|⟨_,h1⟩
 .exact .inl h5.symm
 .exact Ku h1
def Ig {t:aR}{v:au}(h:db t many v):∀x∈v.list,kU t.of many x:=by
 rcases h with⟨h5,l,rfl,_,ha⟩|⟨_,h1⟩
 .exact ha
 .have:=(iE h1 (.inl rfl)).1.1;rw[this];intro x hx;cases hx
def OL {t:aR}{v:au}(h:db t many v)(ht:aF t=true)(hm:many<=100000)(hu:bS M w u v)(hT:Tb w):
 xC 61 #[u, .agg #[xI t.kind,xI t.of]] w (cN (xB true) w):=by
 have HR:=fV (w:=w) (λW hb=>yJ h hm (hu.below hb) (hT.below hb));have HT:Hd (∀W,_):=λW=>kV t ht W;have DO:=OK h;have Q8:=Ig h;obtain⟨vk,vn,vs,vl⟩:=v;obtain⟨a,cap,rfl,hs⟩:=cQ hu;obtain⟨tk,Aq⟩:=t;dsimp only[au.kind,au.list]at*;have HO:Hd (∀W,_):=λW=>rH vk vn vs a vl.length cap tk DO W;have HCN:Hd (∀W,Bx w [xK #[xI vk,xI vn,xS vs,xL a vl.length cap] 30,xK #[xI tk,xI Aq] 136] W->_):=λW hb=>wJ tk Aq many (w.heap.size+1) vl Q8 M _ W (hs.below hb.1) (hb.cE rfl);clear h hu hT DO Q8 ht hs;go_enter func61,ntmps61;go_wp2_with fail;refine cG (HR.o _ (Bx.dh w _ _).1) λw1 aC=> ?_;have HB:=af ((Bx.dh w (xK #[xI vk,xI vn,xS vs,xL a vl.length cap] 30) (xK #[xI tk,xI Aq] 136)).below aC);obtain⟨c0,c1⟩:=ah (HB.o.cE rfl);clear aC;go_wp2_with fail;refine cG (HT.o _) λw2 aY=> ?_;have aL:=af (HB.o.below aY);obtain⟨d0,d1⟩:=ah (aL.o.cE rfl);obtain⟨e0,e1,e2,e3⟩:=ae (aL.o.bJ rfl);clear aY c0 c1;go_wp2_with fail;refine cG (HO.o _) λw3 bG=> ?_;have bI:=af (aL.o.below bG);obtain⟨f0,f1,f2,f3⟩:=ae (bI.o.bJ rfl);clear bG d0 d1 e0 e1 e2 e3;go_wp2_with fail;refine cG (HCN.o _ bI.o) λw4 dT=> ?_;have eH:=af (bI.o.below dT);clear dT;go_wp2;go_ret;exact⟨rfl,eH.o.1⟩
def OM(t:aR)(ht:aF t=true)(M:aS)(w:aj):xG 236 #[.agg #[xI t.kind,xI t.of]] w λv w'=>bS M w' v (j9 t):=by
 have HT:Hd (∀W,_):=λW=>kV t ht W;by_cases wR:t.kind=3\/t.kind=4
 .have HZ:=af (show j9 t= .mk 0 0 jN []by unfold j9;rw[if_pos wR]);obtain⟨k,o⟩:=t;dsimp only at*;clear ht;rcases wR with rfl|rfl;all_goals
   go_enter func236,ntmps236;go_wp2_with fail;refine cG (HT.o _) λw1 aC=> ?_;have HB:=af ((Bx.dh w (xK #[xI _,xI o] 136) (xK iN 30)).below aC);obtain⟨c0,c1⟩:=ah (HB.o.bJ rfl);obtain⟨q0,q1,q2,q3⟩:=ae (HB.o.cE rfl);obtain⟨f0,f1,f2,f3⟩:=ic (HB.o.cE rfl);clear aC;go_wp2_with fail;refine Qae (v:= .agg iN) (by simp[results,results236,go_sem,q0,q1,q2,q3]) rfl ⟨_,rfl,(by rw[HZ.o];exact po _ _ _ fR),?_⟩;exact(((HB.o.1.setCell (by simp) _).setCell (by simp) _).setCell (by simp) _).setCell (by simp) _
 .have HZ:=af (show j9 t= .mk t.kind 0 jN []by unfold j9;rw[if_neg wR]);obtain⟨k,o⟩:=t;dsimp only at*;clear ht;have e3:(k==3)=false:=by simp;omega
  have e4:(k==4)=false:=by simp;omega
  clear wR;go_enter func236,ntmps236;go_wp2_with fail;refine cG (HT.o _) λw1 aC=> ?_;have HB:=af ((Bx.dh w (xK #[xI k,xI o] 136) (xK iN 30)).below aC);obtain⟨c0,c1⟩:=ah (HB.o.bJ rfl);obtain⟨q0,q1,q2,q3⟩:=ae (HB.o.cE rfl);obtain⟨f0,f1,f2,f3⟩:=ic (HB.o.cE rfl);clear aC;go_wp2_with fail;refine Qae (v:= .agg #[xI k,xI 0,xS ⟨#[]⟩,xL none 0 0]) (by simp[results,results236,go_sem,q0,q1,q2,q3]) rfl ⟨_,rfl,(by rw[HZ.o];exact po _ _ _ fR),?_⟩;exact(((HB.o.1.setCell (by simp) _).setCell (by simp) _).setCell (by simp) _).setCell (by simp) _
def iU:(Tryz.prog.info? 3).map (λi=>(i.zero,i.size,i.bytes))=some (some (xI 0),1,8):=by kernel_rfl
def ON {M:aS}(w:aj)(n:Int):aP (α:=Int) M w.heap.size 3 (w.alloc (xK #[xI n] 3)) (xL (some ⟨w.heap.size,0,none⟩) 1 1) [n]:=by
 refine⟨[[xI n]],⟨rfl, .inr ⟨w.heap.size,1,#[xI n],rfl,bq,Qbh w _,bq,by unfold maxLen;omega,rfl,rfl⟩⟩,rfl,λi cs x hc hx=> ?_⟩;cases i with
 |zero=>simp at hc hx;subst hc hx;rfl
 |succ i=>simp at hc
theorem aP.anyM {α:Type} [aA α]{M:aS}{w:aj}{v:an}{xs:List α}(h:aP M B e W v xs)(hB:w.heap.size<=B)(hM:Bd M w):ab M W v xs:=h.slice λi hi=>Qde (hM i hi) hB
def Ih(w:aj)(o:Obj)(cs:Array an)(t:TypeId)(size:Nat)(hs:cs.size=size)(hF:F (w.heap.size+1)):bj F ((w.alloc o).alloc (.cells cs t)) size (xL (some ⟨w.heap.size+1,0,none⟩) 1 1) 1 cs.toList:=by
 have h:=b9 (F:=F) (w.alloc o) cs t size hs (by simpa using hF);simpa using h
def Em {k:Int}{x:au}(hx:l[i]? =some x):((l.take (i+1)).filter λy=>decide (y.kind=k)).map au.num=((l.take i).filter λy=>decide (y.kind=k)).map au.num++if x.kind=k then[x.num]else[]:=by
 rw[Qbb,hx];simp only[Option.toList,List.filter_append,List.map_append];by_cases h:x.kind=k<;>simp[h]
def vH {t:aR}{many:Int}{v:au}(j:Int)(hj:j=3\/j=4)(h:db t many v)(hm:many<=100000){M:aS}{w:aj}(hM:Bd M w){u:an}(hu:bS M w u v)(hT:Tb w):
 xG 35 #[u,xI j] w λr w'=>∃B,w.heap.size<=B/\aP (α:=Int) M B 3 w' r (bw j v):=by
 have HR:=fV (w:=w) (λW hb=>yJ h hm (hu.below hb) (hT.below hb));obtain⟨i0,dz,dX,cY,dA⟩:=info_parts iU;have Xg:v.list.length<=12:=by
  rcases h with⟨h5,l,rfl,hl,_⟩|⟨_,h1⟩
  .exact hl
  .rw[(iE h1 hj).1.1];simp
 obtain⟨vk,vn,vs,vl⟩:=v;obtain⟨a,cap,rfl,hs⟩:=cQ hu;have HC:Hd (∀(i:Nat)(k n:Int)(s:aT)(ll:List au),vl[i]? =some (.mk k n s ll)->_):=λi k n s ll hx=>dZ hs hx;have cK:vl.length<=cap/\cap<=9223372036854775807:=by obtain⟨_,_,e,h1,h2,_⟩:=hs.open_;cases e;exact⟨h1,h2⟩
 obtain⟨Q5,Q6⟩:=cK;dsimp only[au.list]at Xg;by_cases hk:vk=j
 .subst hk;have HV:=af (show bw vk (.mk vk vn vs vl)=[vn]by simp[bw,au.kind,au.num]);go_enter func35,ntmps35;go_wp2_with fail;refine cG (HR.o _ bO) λw1 aC=> ?_;obtain⟨g0,g1,g2,g3⟩:=ae (boxed aC);have HB:=af (aQ aC);go_wp2;go_ret;exact⟨_,rfl,⟨w1.heap.size,HB.o.size,by rw[HV.o];exact ON w1 vn⟩,HB.o.alloc HB.o.size _⟩
 .have hkf:(vk==j)=false:=by simpa using hk
  have HV:=af (show bw j (.mk vk vn vs vl)=(vl.filter λy=>decide (y.kind=j)).map au.num by simp[bw,au.kind,au.list,hk]);have QS:Hd (∀i,M i->i<w.heap.size+1):=λi h=>Nat.lt_succ_of_lt (hM i h);go_enter func35,ntmps35;go_wp2_with fail;refine cG (HR.o _ bO) λw1 aC=> ?_;obtain⟨g0,g1,g2,g3⟩:=ae (boxed aC);have HB:=af (aQ aC);have qdt:w.heap.size<w1.heap.size:=by have:=aC.size;simp at this;omega
  generalize hn:vl.length=n at*;have ek:=af hn;go_wp2;go_loopg [5,7,21]n(λg r5 _ iv wr=>∃(i m c1:Nat)(a1:dC)(xs:List Int),i<=n/\g=n-i/\iv=xI i/\r5=xL a1 m c1/\m<=i/\Hd (xs.length=m)/\Hd (xs=((vl.take i).filter λy=>decide (y.kind=j)).map au.num)/\Hd (aP M (w.heap.size+1) 3 wr (xL a1 m c1) xs)/\Hd (aq w wr)/\w.heap.size<wr.heap.size);case atStart=>exact⟨0,0,0,none,[],Qbf _,rfl,rfl,rfl,bq,(show _=_ from rfl),(show _=_ by simp),(aP.nil _ _ _ _),HB,qdt⟩
  case round=>
   obtain⟨i,m,c1,a1,xs,hi,rfl,rfl,rfl,hmi,HL,HX,HA,aL,hwz⟩:=hrel;by_cases aX:i<n
   .obtain⟨⟨xk,xn,xs',xl⟩,hx⟩:=dQ vl i (by rw[ek.o];exact aX);obtain⟨b,off,fq,a',c',hv,hb,_,_,aw⟩:=HC.o i xk xn xs' xl hx;obtain⟨rfl,rfl⟩:=gY hv;obtain⟨⟨q0,q1,q2,q3⟩,_⟩:=aw wr aL.o;have HF:Hd (((vl.take (i+1)).filter λy=>decide (y.kind=j)).map au.num=((vl.take i).filter λy=>decide (y.kind=j)).map au.num++if xk=j then[xn]else[]):=Em hx;by_cases hxk:xk=j
    .have hxe:(xk==j)=true:=by simpa using hxk
     have HXK:=af hxk;go_wp2_with(at_builtin;go_loud(refine aZ (α:=Int) rfl _ _ _ rfl M (w.heap.size+1) 3 i0 _ 8 underlying27 dz dX cY dA rfl (by decide) (.slice a1 m c1) xs rfl ((HA.o.alloc _).alloc _) (λ_=>True) _ [.int .i64 xn] xn rfl (Ih wr _ #[.int .i64 xn] _ 1 rfl trivial) (show _=_ from rfl) (by rw[HL.o];unfold maxLen;omega) (by rw[HL.o];omega) (by simp;omega) ?_);rw[HL.o];intro a2 c2 w2 bu dr aY;have cL:=af bu;have bI:=af aY;clear bu dr aY);go_roundg(n-(i+1));case measure=>omega
     case rel=>
      refine⟨i+1,m+1,c2,a2,xs++[xn],by omega,rfl,by go_num,rfl,by omega,(show _=_ by simp[HL.o]),(show _=_ by rw[HF.o,if_pos HXK.o,HX.o]),cL,((((aL.o.alloc (by omega) _).alloc (by simp;omega) _).trans (bI.o.mono (by omega)))),by have:=bI.o.size;simp at this;omega⟩
    .have hxe:(xk==j)=false:=by simpa using hxk
     have HXK:=af hxk;go_wp2;go_roundg(n-(i+1));case measure=>omega
     case rel=>
      refine⟨i+1,m,c1,a1,xs,by omega,rfl,by go_num,rfl,by omega,HL,(show _=_ by rw[HF.o,if_neg HXK.o,HX.o];simp),(HA.o.alloc _),(aL.o.alloc (by omega) _),by simp;omega⟩
   .go_wp2;go_ret;have jn:i=n:=by omega
    refine⟨_,rfl,⟨w.heap.size+1,by omega,?_⟩,aL.o⟩;rw[HV.o];have h1:=HA.o;rw[HX.o,jn,<-ek.o,List.take_length]at h1;exact h1
section
variable {t:aR}{many:Int}{v:au}{M:aS}{w:aj}{u:an}
def En(h:db t many v)(hm:many<=100000)(hM:Bd M w)(hu:bS M w u v)(hT:Tb w):
 xG 9 #[u] w λr w'=>∃B,w.heap.size<=B/\aP (α:=Int) M B 3 w' r (bw 3 v):=by
 have HN:=fV (w:=w) (λW hb=>vH 3 (.inl rfl) h hm (hM.below hb) (hu.below hb) (hT.below hb));obtain⟨vk,vn,vs,vl⟩:=v;obtain⟨a,cap,rfl,_⟩:=cQ hu;go_enter func9,ntmps9;go_wp2_with fail;refine(HN.o _ bO).mono ?_;rintro e w1⟨r,rfl,⟨B,hB,hs⟩,aC⟩;have HB:=af (aQ aC);have HS:=af hs;have HZ:=af (show w.heap.size<=B by simp at hB;omega);go_wp2;go_ret;exact⟨_,rfl,⟨B,HZ.o,HS.o⟩,HB.o⟩
def Bq(h:db t many v)(hm:many<=100000)(hM:Bd M w)(hu:bS M w u v)(hT:Tb w):
 xG 10 #[u] w λr w'=>∃B,w.heap.size<=B/\aP (α:=Int) M B 3 w' r (bw 4 v):=by
 have HN:=fV (w:=w) (λW hb=>vH 4 (.inr rfl) h hm (hM.below hb) (hu.below hb) (hT.below hb));obtain⟨vk,vn,vs,vl⟩:=v;obtain⟨a,cap,rfl,_⟩:=cQ hu;go_enter func10,ntmps10;go_wp2_with fail;refine(HN.o _ bO).mono ?_;rintro e w1⟨r,rfl,⟨B,hB,hs⟩,aC⟩;have HB:=af (aQ aC);have HS:=af hs;have HZ:=af (show w.heap.size<=B by simp at hB;omega);go_wp2;go_ret;exact⟨_,rfl,⟨B,HZ.o,HS.o⟩,HB.o⟩
def Eo(h:db t many v)(hm:many<=100000)(hM:Bd M w)(hu:bS M w u v)(hT:Tb w):
 xC 9 #[u] w (bW w λr w'=>ab M w' r (bw 3 v)):=
 (En h hm hM hu hT).mono (by rintro e w'⟨r,rfl,⟨B,hB,h⟩,hb⟩;exact⟨_,rfl,h.anyM hB hM,hb⟩)
def Br(h:db t many v)(hm:many<=100000)(hM:Bd M w)(hu:bS M w u v)(hT:Tb w):
 xC 10 #[u] w (bW w λr w'=>ab M w' r (bw 4 v)):=
 (Bq h hm hM hu hT).mono (by rintro e w'⟨r,rfl,⟨B,hB,h⟩,hb⟩;exact⟨_,rfl,h.anyM hB hM,hb⟩)
end
def yK:Nat->au->Prop
 |0,v=>v.list=[]
 |h+1,v=>v.list.length<=12/\∀x∈v.list,yK h x
def mP {k:Int}{v:au}(h:kU k many v):yK 0 v:=(iE h (.inl rfl)).1.1
def nH {t:aR}{v:au}(h:db t many v):yK 1 v:=by
 rcases h with⟨h5,l,rfl,hl,ha⟩|⟨_,h1⟩
 .exact⟨hl,λx hx=>mP (ha x hx)⟩
 .have:=mP h1;unfold yK at this;exact⟨by rw[this];simp,by rw[this];intro x hx;cases hx⟩
def yL(f:Nat)(l:List au):Prop:=∀(M:aS)(w:aj)(v:an),Bd M w->ab M w v l->xC f #[v] w (bW w λv' w'=>ab M w' v' l)
def Ep(f:Nat)(x:au):Prop:=∀(M:aS)(w:aj)(v:an),Bd M w->bS M w v x->xC f #[v] w (bW w λv' w'=>bS M w' v' x)
def kr {k n:Int}(h:ab M w (xL a l.length cap) l)(hs:s.size<=maxLen):aA.rep (α:=au) M w [xI k,xI n,xS s,xL a l.length cap] (.mk k n s l):=eN.iff.2 ⟨_,rfl,h,hs⟩
def CB {xs:List au}(h:aP M base e w v xs)(hM:Bd M w):Bd (bB v M) w:=λi hi=>by
 rcases hi with hi|hi
 .exact hM i hi
 .exact(h.dU i hi).2
def kW(w:aj)(g:Nat)(cs:Array an)(t:TypeId)(size:Nat)(hs:cs.size=size)(hg:w.heap.size=g)(hF:F g):bj F (w.alloc (.cells cs t)) size (xL (some ⟨g,0,none⟩) 1 1) 1 cs.toList:=by
 subst hg;exact b9 w cs t size hs hF
def VT {xs:List au}(h:aP M base e wr v xs)(hbs:w.heap.size<=base)(hb:aq w W)(hX:w.heap.size<=X):Ev M w (orM (bB v M) X) W:=
 ⟨ai.ao hb,λi hi=>by
   rcases hi with(hi|hi)|hi
   .exact .inl hi
   .exact .inr (Qcg hbs (h.dU i hi).1)
   .exact .inr (by omega)⟩
def mr(l:List au)(hl:l.length<=12)(jn:∀x∈l,yL 273 x.list)(M:aS)(w:aj)(v:an)(hM:Bd M w)(hs:ab M w v l):xG 273 #[v] w λv' w'=>aP M w.heap.size 30 w' v' l:=by
 obtain⟨i0,dz,dX,cY,dA⟩:=info_parts fY;have HC:Hd (∀(i:Nat)(k n:Int)(s:aT)(ll:List au),l[i]? =some (.mk k n s ll)->_):=λi k n s ll hx=>dZ hs hx;have Ag:Hd (∀x∈l,yL 273 x.list):=jn;obtain⟨a,bQ,rfl,cK,qE,_⟩:=hs.open_;generalize hn:l.length=n at*;have ek:=af hn;go_enter func273,ntmps273;go_wp2;go_loopg [3,5,8]n(λg r3 _ iv wr=>∃(i c1:Nat)(a1:dC),i<=n/\g=n-i/\iv=xI i/\r3=xL a1 i c1/\Hd (aP M w.heap.size 30 wr (xL a1 i c1) (l.take i))/\Hd (aq w wr));case atStart=>exact⟨0,0,none,Qbf _,rfl,rfl,rfl,(aP.nil _ _ _ _),dK⟩
 case round=>
  obtain⟨i,c1,a1,hi,rfl,rfl,rfl,HA,HB⟩:=hrel;by_cases aX:i<n
  .obtain⟨⟨xk,xn,xs,xl⟩,hx⟩:=dQ l i (by rw[ek.o];exact aX);obtain⟨b,off,cap,a',c',hv,hb,bo,iO,aw⟩:=HC.o i xk xn xs xl hx;obtain⟨rfl,rfl⟩:=gY hv;obtain⟨⟨q0,q1,q2,q3⟩,_⟩:=aw wr HB.o;have oV:=af (show(l.take i).length=i by have:=ek.o;rw[Qdb];omega);have oR:=af (show l.take (i+1)=l.take i++[.mk xk xn xs xl]by rw[Qbb,hx];rfl);have hsz:=HB.o.size;have bt:Hd (∀o,xC 273 #[xL a' xl.length c'] (wr.alloc o) (bW (wr.alloc o) λv' w'=>ab (orM (bB (xL a1 i c1) M) wr.heap.size) w' v' xl)):=λo=>by
    refine Ag.o _ (Qaf hx) _ _ _ (λj hj=> ?_) (bo.ev (VT HA.o bq (HB.o.alloc hsz o) hsz));rcases hj with hj|hj
    .have:=CB HA.o (hM.below HB.o) j hj;simp;omega
    .simp;omega
   have tM:=af iO;go_wp2_with fail;refine(bt.o _).mono ?_;rintro e w1⟨_,rfl,dB,aC⟩;obtain⟨za,zc,rfl,_⟩:=dB.open_;have HX:Hd (dY w1 wr (xK #[xI xk,xI xn,xS xs,xL a' xl.length c'] 30)):=boxed aC;obtain⟨g0,g1,g2,g3⟩:=ae HX.o;have f3:=ag HX.o 3;have s1:=aC.size;simp only[World.size_alloc]at s1;have aO:=af (aQ aC);have aL:Hd (aq wr (w1.setCell ⟨wr.heap.size,3,none⟩ (xL za xl.length zc))):=aO.o.setCell bq _;have rC:Hd (ab (bB (xL a1 i c1) M) (w1.setCell ⟨wr.heap.size,3,none⟩ (xL za xl.length zc)) (xL za xl.length zc) xl):=dB.ev ((Ev.eG w1 λi h=> .inl h).setCell (.inl (.inr rfl)) _);have kj:=af (HA.o.below aL.o);go_wp2_with(at_builtin;go_loud(refine aZ (α:=au) rfl _ _ _ rfl M w.heap.size 30 i0 _ 56 underlying28 dz dX cY dA rfl (by decide) (.slice a1 i c1) (l.take i) rfl (kj.o.alloc _) (λ_=>True) _ _ (.mk xk xn xs xl) rfl (kW _ _ _ _ 4 rfl (by simp[World.setCell]) trivial) (kr (rC.o.ev ((Ev.refl _ _).alloc _)) tM.o) (by rw[oV.o];unfold maxLen;omega) (by rw[oV.o];omega) (by simp;omega) ?_);rw[oV.o,<-oR.o];intro a2 c2 w2 bu dr aY;have cL:=af bu;have bI:=af aY;clear bu dr aY);go_roundg(n-(i+1));case measure=>omega
   case rel=>
    refine⟨i+1,c2,a2,by omega,rfl,by go_num,rfl,cL,((HB.o.trans (aL.o.mono hsz)).alloc (by simp;omega) _|>.trans bI.o)⟩
  .go_wp2;go_ret;refine⟨_,rfl,?_,HB.o⟩;have h1:=HA.o;rw[Qah (by rw[ek.o];omega)]at h1;exact h1
def ku(l:List au)(hl:l.length<=12)(jn:∀x∈l,yL 273 x.list):yL 273 l:=λM w v hM hs=>
 (mr l hl jn M w v hM hs).mono (by rintro e w'⟨_,rfl,h,hb⟩;exact⟨_,rfl,h.slice hM,hb⟩)
theorem nI:∀(h:Nat)(l:List au),l.length<=12->(∀x∈l,yK h x)->yL 273 l
 |0,l,hl,hx=>ku l hl λx hm=>by
  rw[show x.list=[]from hx x hm];exact ku [] (by simp) λy hy=>by cases hy
 |h+1,l,hl,hx=>ku l hl λx hm=>nI h x.list (hx x hm).1 (hx x hm).2
def dw {fs:List ay}(h:aW fs many vs):∀v∈vs,∃f∈fs,db f.type many v:=by
 intro v hv;obtain⟨i,hi⟩:=List.getElem?_of_mem hv;have hl:=(Qad.1 hi).1;obtain⟨f,hf⟩:=dQ fs i (by rw[<-h.1];exact hl);exact⟨f,Qaf hf,h.2 i f v hf hi⟩
def kX {fs:List ay}(h:aW fs many vs)(hu:∀x∈us,x∈vs)(hl:us.length<=12):yL 273 us:=
 nI 1 us hl λx hx=>by
  obtain⟨f,_,hv⟩:=dw h x (hu x hx);exact nH hv
def fZ(k n:Int)(s:aT)(v:an):Obj:=xK #[xI k,xI n,xS s,v] 30
def pF {n:Nat}(hM:Bd M w):∀i,dP M w n i->i<w.heap.size+n:=λi hi=>by
 rcases hi with hi|hi
 .have:=hM i hi;omega
 .exact hi.2
def sK(x:au)(hl:x.list.length<=12)(jn:∀y∈x.list,Ep 302 y):Ep 302 x:=by
 intro M w v hM hu;obtain⟨i0,dz,dX,cY,dA⟩:=info_parts fY;obtain⟨vk,vn,vs,l⟩:=x;have dt:vs.size<=maxLen:=by obtain⟨cs,_,hr⟩:=hu;obtain⟨_,_,_,h⟩:=eN.iff.1 hr;exact h
 obtain⟨a,bQ,rfl,hs⟩:=cQ hu;dsimp only[au.list]at*;have HC:Hd (∀(i:Nat)(k n:Int)(s:aT)(ll:List au),l[i]? =some (.mk k n s ll)->_):=λi k n s ll hx=>dZ hs hx;have Ag:Hd (∀y∈l,Ep 302 y):=jn;have cK:l.length<=bQ/\bQ<=9223372036854775807:=by obtain⟨_,_,e,h1,h2,_⟩:=hs.open_;cases e;exact⟨h1,h2⟩
 obtain⟨Q5,Q6⟩:=cK;have AZ:=af dt;generalize hn:l.length=n at*;have ek:=af hn;go_enter func302,ntmps302;go_wp2;go_loopg [3,5,9]n(λg r3 _ iv wr=>∃(i c1:Nat)(a1:dC),i<=n/\g=n-i/\iv=xI i/\r3=xL a1 i c1/\Hd (aP (dP M w 2) (w.heap.size+2) 30 wr (xL a1 i c1) (l.take i))/\Hd (Bx w [fZ vk vn vs (xL a n bQ),fZ 0 0 ⟨#[]⟩ (xL none 0 0)] wr));case atStart=>exact⟨0,0,none,Qbf _,rfl,rfl,rfl,(aP.nil _ _ _ _),(Bx.dh w _ _)⟩
 case round=>
  obtain⟨i,c1,a1,hi,rfl,rfl,rfl,HA,HB⟩:=hrel;have hsz:w.heap.size+2<=wr.heap.size:=HB.o.bY;by_cases aX:i<n
  .obtain⟨⟨xk,xn,xs,xl⟩,hx⟩:=dQ l i (by rw[ek.o];exact aX);obtain⟨b,off,cap,a',c',hv,hb,bo,iO,aw⟩:=HC.o i xk xn xs xl hx;obtain⟨rfl,rfl⟩:=gY hv;obtain⟨⟨q0,q1,q2,q3⟩,_⟩:=aw wr HB.o.1;have oV:=af (show(l.take i).length=i by have:=ek.o;rw[Qdb];omega);have oR:=af (show l.take (i+1)=l.take i++[.mk xk xn xs xl]by rw[Qbb,hx];rfl);have bt:Hd (∀o,xC 302 #[.agg #[xI xk,xI xn,xS xs,xL a' xl.length c']] (wr.alloc o) (bW (wr.alloc o) λv' w'=>bS (bB (xL a1 i c1) (dP M w 2)) w' v' (au.mk xk xn xs xl))):=λo=>by
    refine Ag.o _ (Qaf hx) _ _ _ (λj hj=> ?_) ⟨_,rfl,?_⟩
    .have:=CB HA.o (dp hM hsz) j hj;simp;omega
    .refine kr (bo.ev ⟨ai.ao (HB.o.alloc o).1,λj hj=> ?_⟩) iO;rcases hj with(hj|hj)|hj
     .exact .inl hj
     .exact .inr hj.1
     .have:=(HA.o.dU j hj).1;exact .inr (by omega)
   go_wp2_with fail;refine(bt.o _).mono ?_;rintro e w1⟨_,rfl,gz,aC⟩;obtain⟨za,zc,rfl,dB⟩:=cQ gz;have uf:Hd (ab (bB (xL a1 i c1) (dP M w 2)) w1 (xL za xl.length zc) xl/\xs.size<=maxLen):=⟨dB,iO⟩;have s1:=aC.size;simp only[World.size_alloc]at s1;have aO:=af (aQ aC);have kj:=af (HA.o.below aO.o);have bN:=af (HB.o.below aO.o);go_wp2_with(at_builtin;refine aZ (α:=au) rfl _ _ _ rfl (dP M w 2) (w.heap.size+2) 30 i0 _ 56 underlying28 dz dX cY dA rfl (by decide) (.slice a1 i c1) (l.take i) rfl (kj.o.alloc _) (λ_=>True) _ _ (.mk xk xn xs xl) rfl (kW _ _ _ _ 4 rfl (by simp) trivial) (kr (uf.o.1.ev ((Ev.refl _ _).alloc _)) uf.o.2) (by rw[oV.o];unfold maxLen;omega) (by rw[oV.o];omega) (by simp;omega) ?_;rw[oV.o,<-oR.o];intro a2 c2 w2 bu dr aY;have cL:=af bu;have bI:=af aY;clear bu dr aY);go_roundg(n-(i+1));case measure=>omega
   case rel=>
    refine⟨i+1,c2,a2,by omega,rfl,by go_num,rfl,cL,((bN.o.alloc _).cP bI.o (by simp))⟩
  .obtain⟨r0,r1,r2,r3⟩:=ae (HB.o.bJ rfl);obtain⟨e0,e1,e2,e3⟩:=ae (HB.o.cE rfl);have f3:=ag (HB.o.bJ rfl) 3;obtain⟨g0,g1,g2,g3⟩:=ic (HB.o.cE rfl);obtain rfl:i=n:=by omega
   go_wp2_with fail;refine Qae (v:= .agg #[xI vk,xI vn,xS vs,xL a1 i c1]) (by simp[results,results302,go_sem,e0,e1,e2,e3]) rfl ⟨_,rfl,⟨_,rfl,?_⟩,?_⟩
   .have h1:=HA.o.slice (pF hM);rw[Qah (by rw[ek.o];omega)]at h1;have e:l.length=i:=ek.o;refine eN.iff.2 ⟨_,rfl,h1.ev ?_,AZ.o⟩;exact(((((ep wr).setCell (.inl (.inr ⟨by simp,by simp⟩)) _).setCell (.inl (.inr ⟨by simp,by simp⟩)) _).setCell (.inl (.inr ⟨by simp,by simp⟩)) _).setCell (.inl (.inr ⟨by simp,by simp⟩)) _).setCell (.inl (.inr ⟨by simp,by simp⟩)) _
   .exact((((HB.o.1.setCell (by simp) _).setCell (by simp) _).setCell (by simp) _).setCell (by simp) _).setCell (by simp) _
def Ii:(Tryz.prog.info? 104).map (λi=>(i.zero,i.size,i.bytes))=some (some (.agg #[xS ⟨#[]⟩,xL none 0 0,xL none 0 0]),3,64):=by kernel_rfl
def Er {l:List gZ}(h:ab M w v l){x:gZ}(hx:l[k]? =some x):∃b off cap fv cv,v=xL (some ⟨b,off,none⟩) l.length cap/\b<w.heap.size/\ab M w fv x.cls.fields/\ab M w cv x.changes/\I6 x.cls.name/\∀W,aq w W->aU W b (off+k*3) (xI x.cls.name)/\aU W b (off+k*3+1) fv/\aU W b (off+k*3+2) cv:=by
 obtain⟨a,cap,rfl,hl,_,hc⟩:=h.open_;have hk:=(Qad.1 hx).1;obtain⟨b,off,rfl,_,hb,aG⟩:=hc (by omega);obtain⟨cs,⟨fv,cv,rfl,h1,h2,h3⟩,bD⟩:=aG k x hx;refine⟨b,off,cap,fv,cv,rfl,hb,h1,h2,h3,λW hB=> ?_⟩;have g:∀j u,([xI x.cls.name,fv,cv]:List an)[j]? =some u->aU W b (off+k*3+j) u:=λj u hu=>(hB.cell (p:=⟨b,off+k*3+j,none⟩) hb).trans (bD j u hu);exact⟨g 0 _ rfl,g 1 _ rfl,g 2 _ rfl⟩
def CC(ls:List aK)(s:aT): -1<=eu ls s/\eu ls s<ls.length\/eu ls s= -1:=by
 have h1:=sn (λl:aK=>bV l.first.name s) ls;rcases xV (λl:aK=>bV l.first.name s) ls with h|h
 .exact .inl ⟨h1,h⟩
 .exact .inr h
def Es(h:eu ls s<0):∀l∈ls,bV l.first.name s=false:=λl hl=>by
 have h1:=sn (λl:aK=>bV l.first.name s) ls;have h2:eu ls s= -1:=by show idxOf _ _=_;have:idxOf (λl:aK=>bV l.first.name s) ls<0:=h;omega
 unfold eu idxOf at h2;split at h2
 .omega
 .rename_i hn;have:=List.findIdx?_eq_none_iff.1 hn l hl;simpa using this
theorem eI.snoc(h:eI ls){l:aK}(hl:eh l)(h4:ls.length<4)(hn:eu ls l.first.name<0):eI (ls++[l]):=by
 refine⟨by simp;omega,λy hy=> ?_,λk y hy=> ?_⟩
 .rcases Qch.1 hy with hy|hy
  .exact h.lines y hy
  .simp at hy;subst hy;exact hl
 .by_cases hk:k<ls.length
  .rw[Qbc hk]at hy;have h1:=h.apart k y hy;unfold eu at h1⊢;exact vA h1
  .have rz:=(Qad.1 hy).1;simp at rz;obtain rfl:k=ls.length:=by omega
   have e:y=l:=by simpa using hy.symm
   subst e;refine idxOf_hit (λz hz=> ?_) hy (by simp[bV]);rw[List.take_left']at hz
   .exact Es hn z hz
   .rfl
theorem eI.one(h:iQ c):eI [⟨c,[]⟩]:=by
 refine⟨by simp,λl hl=> ?_,λk l hk=> ?_⟩
 .simp at hl;subst hl;exact⟨lV h,by simp,c, .nil _⟩
 .match k,hk with
  |0,hk=>simp at hk;subst hk;exact idxOf_hit (by simp) rfl (by simp[bV])
  |k+1,hk=>simp at hk
structure Et(M:aS)(w:aj)(n:Nat)(v:an)(ls:List aK)(i:Nat)(wr:aj):Prop where
 len:ls.length=n
 le:n<=i
 ok:eI ls
 some_:0<i->0<n
 acc:aP (dP M w 2) (w.heap.size+2) 104 wr v ls
theorem Et.below {n:Nat}(h:Et M w n v ls i wr)(hb:aq wr W):Et M w n v ls i W:=⟨h.len,h.le,h.ok,h.some_,h.acc.below hb⟩
def LY:eI []:=⟨by simp,λ_ h=>(by cases h),λ_ _ h=>by simp at h⟩
def OO {l:aK}(hg:cI W g (xK #[xS l.first.name,fv,cv] t))(hM:¬M g)(h1:ab M W fv l.first.fields)(h2:ab M W cv l.changes)(hn:l.first.name.size<=maxLen):ab M W (xL (some ⟨g,0,none⟩) 1 1) [l]:=by
 refine⟨[[xS l.first.name,fv,cv]],⟨rfl,some ⟨g,0,none⟩,1,rfl,bq,by unfold maxLen;omega,λ_=>⟨g,0,rfl,hM,(Qaa.1 hg).1,λj u hu=> ?_⟩⟩,rfl,λi cs x hc hx=> ?_⟩
 .simp only[World.cell?,hg,Nat.zero_add];simpa using hu
 .match i,hc,hx with
  |0,hc,hx=>cases hc;cases hx;exact⟨fv,cv,rfl,h1,h2,hn⟩
  |i+1,hc,hx=>simp at hx
def Eu(h:iQ c):c.name.size<=maxLen:=cz (hU _ h.2.2.2).2
def Ew(xs:List gZ)(M:aS)(w:aj)(hM:Bd M w)(v:an)(hv:ab M w v xs):
 xG 19 #[v] w λu w'=>∃ls,eI ls/\0<ls.length/\∃lv,u= .agg #[lv]/\ab M w' lv ls:=by
 obtain⟨i0,dz,dX,cY,dA⟩:=info_parts Ii;have HR:Hd (∀k r,xs[k]? =some r->_):=λk r h=>Er hv h;have np:=af hM;obtain⟨ra,rc,rfl,QP,YS,_⟩:=hv.open_;clear hv hM;generalize hn:xs.length=m at*;have HN:=af hn;clear hn;go_enter func19,ntmps19;go_wp2;go_loopg [4,5,6,7]4(λg iv _ _ _ wr=>∃(i n cap:Nat)(a:dC)(ls:List aK),i<=m/\i<=4/\g=4-i/\iv=xI i/\Hd (Et M w n (xL a n cap) ls i wr)/\Hd (Bx w [fK (xL none 0 0),fK (xL a n cap)] wr));case atStart=>exact⟨0,0,0,none,[],Qbf _,by omega,rfl,rfl,(show Et _ _ _ _ _ _ _ from⟨rfl,bq,LY,λh=>by omega,aP.nil _ _ _ _⟩),(Bx.dh w _ _)⟩
 case round=>
  obtain⟨i,n,cap,a,ls,hi,YT,rfl,rfl,HS,HB⟩:=hrel;have hsz:=HB.o.bY;simp only[Qcc,Qcd]at hsz;have qgv:=HS.o.le;by_cases hgo:i<m/\i<4
  .obtain⟨aX,Ns⟩:=hgo;obtain⟨r,hr⟩:=dQ xs i (by rw[HN.o];exact aX);obtain⟨b,off,fq,fv,cv,hv,cw,hf,hc,Xf,aw⟩:=HR.o i r hr;obtain⟨rfl,rfl⟩:=gY hv;obtain⟨q0,q1,q2⟩:=aw wr HB.o.1;have HE:Hd (Ev M w (bB (xL a n cap) (dP M w 2)) wr):=⟨ai.ao HB.o.1,λj hj=>by
    rcases hj with(hj|hj)|hj
    .exact .inl hj
    .exact .inr hj.1
    .have:=(HS.o.acc.dU j hj).1;right;omega⟩;have JS:Hd (Bd (bB (xL a n cap) (dP M w 2)) wr):=λj hj=>by
    rcases hj with hj|hj
    .have:=pF np.o j hj;omega
    .exact(HS.o.acc.dU j hj).2
   have HLO:=af (LN r Xf (bB (xL a n cap) (dP M w 2)) wr JS.o fv cv (hf.ev HE.o) (hc.ev HE.o));have hf':=hf;have hc':=hc;obtain⟨fa,fc,rfl,_⟩:=hf'.open_;obtain⟨ca,cc,rfl,_⟩:=hc'.open_;obtain⟨⟨rn,rfs⟩,rcs⟩:=r;dsimp only at*;clear aw hv hr hf hc Xf;go_wp2_with fail;refine(HLO.o).mono ?_;rintro e w1⟨_,rfl,⟨l,oW,JQ,_,rfl,fv1,cv1,rfl,wU,iB,qar⟩,aC⟩;have YR:=wU;have jh:=iB;obtain⟨YU,YV,rfl,_⟩:=YR.open_;obtain⟨YW,YX,rfl,_⟩:=jh.open_;obtain⟨⟨nm,Q9⟩,lcs⟩:=l;dsimp only at*;have DM:=af oW;have lI:=af wU;have rA:=af iB;have oZ:=af qar;have aO:=af (HB.o.below aC);have rC:=af (HS.o.below aC);clear oW JQ wU iB qar aC q0 q1 q2;obtain⟨W1,dS⟩:=cM (w1.alloc (cD nm (xL YU Q9.length YV) (xL YW lcs.length YX)));have aL:=af (show Bx w [fK (xL none 0 0),fK (xL a n cap)] W1 by rw[dS];exact aO.o.alloc _);have eB:=af (show Et M w n (xL a n cap) ls i W1 by rw[dS];exact rC.o.below bO);have wF:=af (show dY W1 w1 (cD nm (xL YU Q9.length YV) (xL YW lcs.length YX))by rw[dS];exact Qbh w1 _);have NR:=af (show ab (bB (xL a n cap) (dP M w 2)) W1 (xL YU Q9.length YV) Q9/\ab (bB (xL a n cap) (dP M w 2)) W1 (xL YW lcs.length YX) lcs by
    rw[dS];exact⟨lI.o.below bO,rA.o.below bO⟩);clear lI rA rC;unfold cD at dS;go_upto_region 6 with fail;rw[<-dS];clear dS aO;obtain⟨at_,og⟩:=fx ((if eu ls nm<0 then 0 else eu ls nm));obtain⟨is,his⟩:=fx ((!decide (eu ls nm<0)));have QC:=af his;have QX:=af (yE (dP M w 2) (xL a n cap) W1 ls nm (eB.o.acc.slice (λj hj=>pF np.o j hj)) (by have:=eB.o.ok.len;omega) at_ is (af og) (af his));clear og his;have y1:=one_cell (aL.o.cE rfl);obtain⟨c0,c1,c2⟩:=aD wF.o;go_wp2_with fail;refine cG (QX.o) λw2 aY=> ?_;have bI:=af (aL.o.below aY);have iq:=af (eB.o.below aY);have HL3:Hd (dY w2 w1 (cD nm (xL YU Q9.length YV) (xL YW lcs.length YX))):=(aY.block _ (Qaa.1 wF.o).1).trans wF.o;have Xh:Hd (ab (bB (xL a n cap) (dP M w 2)) w2 (xL YU Q9.length YV) Q9/\ab (bB (xL a n cap) (dP M w 2)) w2 (xL YW lcs.length YX) lcs):=⟨NR.o.1.below aY,NR.o.2.below aY⟩;clear aY NR eB y1 c0 c1 c2;cases is with
   |true=>
    go_wp2;go_roundg(4-(i+1));case measure=>omega
    case rel=>
     refine⟨i+1,n,cap,a,ls,by omega,by omega,rfl,by go_num,(show Et _ _ _ _ _ _ _ from⟨iq.o.len,by omega,iq.o.ok,λ_=> ?_,iq.o.acc⟩),bI⟩;have h1:¬eu ls nm<0:=by simpa using QC.o
     have h2:=iq.o.len;rcases CC ls nm with h3|h3<;>omega
   |false=>
    have vq:=af (show eu ls nm<0 by simpa using QC.o);have iJ:=af iq.o.len;have y1:=one_cell (bI.o.cE rfl);obtain⟨c0,c1,c2⟩:=aD HL3.o;have jC:=bI.o.bY;simp only[Qcc,Qcd]at jC;have fH:Hd (∀o,aA.rep (α:=aK) (bB (xL a n cap) (dP M w 2)) (w2.alloc o) [xS nm,xL YU Q9.length YV,xL YW lcs.length YX] ⟨⟨nm,Q9⟩,lcs⟩):=λo=>⟨_,_,rfl,Xh.o.1.below bO,Xh.o.2.below bO,oZ.o⟩;go_wp2_with(at_builtin;refine aZ (α:=aK) rfl _ _ _ rfl (dP M w 2) (w.heap.size+2) 104 i0 _ 64 underlying34 dz dX cY dA rfl (by decide) (.slice a n cap) ls rfl (iq.o.acc.alloc _) (λ_=>True) _ _ ⟨⟨nm,Q9⟩,lcs⟩ rfl (b9 _ _ _ _ rfl trivial) (fH.o _) (by rw[iJ.o];unfold maxLen;omega) (by rw[iJ.o];omega) (by simp;omega) ?_;rw[iJ.o];intro a2 c2' w3 bu dr bG;have cL:=af bu;have eH:Hd (Bx w [fK (xL none 0 0),fK (xL a n cap)] w3):=(bI.o.alloc _).cP bG (by simp);have p1:=one_cell (eH.o.cE rfl);have g1:=ag (eH.o.cE rfl) 0;clear bu dr bG);go_roundg(4-(i+1));case measure=>omega
    case rel=>
     refine⟨i+1,n+1,c2',a2,ls++[⟨⟨nm,Q9⟩,lcs⟩],by omega,by omega,rfl,by go_num,(show Et _ _ _ _ _ _ _ from⟨by simp[iJ.o],by omega,iq.o.ok.snoc DM.o (by rw[iJ.o];omega) vq.o,λ_=>by omega,?_⟩),(show Bx _ _ _ from ?_)⟩
     .exact cL.o.uz (p:=⟨w.heap.size+1,0,none⟩) (.inr ⟨by show w.heap.size<=w.heap.size+1;omega,by show w.heap.size+1<_;omega⟩) (by show w.heap.size+1<_;omega) _
     .simpa [fK]using eH.o.set 1 0 rfl (xL a2 (n+1) c2')
  .have hex:m<=i\/(i<m/\i=4):=by omega
   have y1:=one_cell (HB.o.cE rfl);have g0:=ag (HB.o.bJ rfl) 0;have z0:=one_cell (HB.o.bJ rfl);have g1:=ag (HB.o.cE rfl) 0;rcases Nat.eq_zero_or_pos n with tN|tN
   .have T6:i=0:=Nat.eq_zero_of_not_pos λh=>by have:=HS.o.some_ h;omega
    subst tN T6;have hm0:m=0:=by omega
    subst hm0;have HCO:=af (nD (dP M w 2) wr (dp np.o hsz) ⟨0,[]⟩ (xL none 0 0) (ab.nil _ _) Kp);go_wp2_with fail;refine(HCO.o).mono ?_;rintro e w1⟨_,rfl,⟨c,JQ,_,⟨_,rfl,⟨fv1,rfl,bo,_⟩⟩⟩,aC⟩;have Dt:=bo;obtain⟨fa,fc,rfl,_⟩:=Dt.open_;have aO:=af (HB.o.below aC);have Va:=af JQ;have eE:=af bo;clear bo JQ aC y1 g0 z0 g1;obtain⟨nm,Af⟩:=c;dsimp only at*;have y1:=λo=>one_cell ((aO.o.alloc o).cE rfl);have g1:=λo=>ag ((aO.o.alloc o).cE rfl) 0;have z0:=λo=>one_cell ((aO.o.alloc o).bJ rfl);have g0:=λo=>ag ((aO.o.alloc o).bJ rfl) 0;have s1:=aO.o.bY;simp only[Qcc,Qcd]at s1;have mA:Hd (∀W',W'=((w1.alloc (cD nm (xL fa Af.length fc) (xL none 0 0))).setCell ⟨w.heap.size+1,0,none⟩ (xL (some ⟨w1.heap.size,0,none⟩) 1 1)).setCell ⟨w.heap.size,0,none⟩ (xL (some ⟨w1.heap.size,0,none⟩) 1 1)->(∃ls,eI ls/\0<ls.length/\∃lv,Value.agg #[xL (some ⟨w1.heap.size,0,none⟩) 1 1]= .agg #[lv]/\ab M W' lv ls)/\aq w W'):=λW' iL=>by
     have E:Ev (dP M w 2) w1 M W':=by
      rw[iL];exact(((Ev.eG w1 λi hi=> .inl hi).alloc _).setCell (.inl (.inr ⟨by simp,by simp⟩)) _).setCell (.inl (.inr ⟨by simp,by simp⟩)) _
     have lJ:W'.heap[w1.heap.size]? =some (xK #[xS nm,xL fa Af.length fc,xL none 0 0] 104):=by
      rw[iL];refine(Qag _ _ _ _ (by show w1.heap.size≠w.heap.size;omega)).trans ((Qag _ _ _ _ (by show w1.heap.size≠w.heap.size+1;omega)).trans ?_);exact Qbh w1 _
     refine⟨⟨[⟨⟨nm,Af⟩,[]⟩],eI.one Va.o,by simp,_,rfl,OO (l:=⟨⟨nm,Af⟩,[]⟩) lJ (λhm=>by have:=np.o _ hm;omega) (eE.o.ev E) (ab.nil _ _) (Eu Va.o)⟩,?_⟩;rw[iL];exact((aO.o.alloc _).1.setCell (by simp) _).setCell (by simp) _
    unfold cD at mA;go_wp2_with fail;exact Qae (v:= .agg #[xL (some ⟨w1.heap.size,0,none⟩) 1 1]) (by simp[results,results19,go_sem,z0,g0]) rfl ⟨_,rfl,mA.o _ rfl⟩
   .have mA:Hd (∀W',W'=wr.setCell ⟨w.heap.size,0,none⟩ (xL a n cap)->(∃ls,eI ls/\0<ls.length/\∃lv,Value.agg #[xL a n cap]= .agg #[lv]/\ab M W' lv ls)/\aq w W'):=λW' iL=>by
     have E:Ev (dP M w 2) wr M W':=by
      rw[iL];exact((Ev.eG wr λi hi=> .inl hi).setCell (.inl (.inr ⟨by simp,by simp⟩)) _)
     refine⟨⟨ls,HS.o.ok,by rw[HS.o.len];exact tN,_,rfl,(HS.o.acc.slice (λj hj=>pF np.o j hj)).ev E⟩,?_⟩;rw[iL];exact HB.o.1.setCell (by simp) _
    rcases hex with hex|⟨hex,rfl⟩;all_goals
     go_wp2_with fail;exact Qae (v:= .agg #[xL a n cap]) (by simp[results,results19,go_sem,z0,g0]) rfl ⟨_,rfl,mA.o _ rfl⟩
def kb(c:az)(l:List aB):az:=l.foldl bT c
def aI(l:aK)(v:Nat):az:=kb l.first (l.changes.take v)
theorem cU.cls {l:List aB}(h:cU c l d):d=kb c l:=by
 induction h with
 |nil c=>rfl
 |cons c d x l _ _ _ ih=>exact ih
theorem cU.Ex {l:List aB}(h:cU c l d)(v:Nat):cU c (l.take v) (kb c (l.take v))/\cU (kb c (l.take v)) (l.drop v) d:=by
 obtain⟨e,h1,h2⟩:=h.split v;obtain rfl:=h1.cls;exact⟨h1,h2⟩
theorem eh.at_ {l:aK}(h:eh l)(v:Nat):cU l.first (l.changes.take v) (aI l v):=by
 obtain⟨d,hd⟩:=h.chs;exact(hd.Ex v).1
theorem eh.oF {l:aK}(h:eh l)(v:Nat):cA (aI l v):=(h.at_ v).ok h.first
theorem eh.step {l:aK}(h:eh l){v:Nat}(hx:l.changes[v]? =some x):iT (aI l v) x/\jf (aI l v) x=true/\aI l (v+1)=bT (aI l v) x:=by
 obtain⟨d,hd⟩:=h.chs;obtain⟨h1,h2,_⟩:=yB (h.at_ v) hd hx;refine⟨h1,h2,?_⟩;unfold aI kb;rw[Qbb,hx,List.foldl_append];rfl
theorem eh.name {l:aK}(h:eh l)(v:Nat):(aI l v).name=l.first.name:=(h.at_ v).name
def dW(l:aK)(v:Nat):aK:=⟨aI l v,l.changes.drop v⟩
theorem eh.from_ {l:aK}(h:eh l)(v:Nat):eh (dW l v):=by
 obtain⟨d,hd⟩:=h.chs;exact⟨h.oF v,by have:=h.len;simp[dW];omega,d,(hd.Ex v).2⟩
def pG {l:aK}(v k:Nat):aI (dW l v) k=aI l (v+k):=by
 unfold aI dW kb aI kb;dsimp only;rw[<-List.foldl_append,List.take_add]
def gi(c:az)(l:List aB)(many:Int)(vs us:List au):Prop:=aW (kb c l).fields many us/\us.map (bw 3)=qi c l (vs.map (bw 3))
theorem gi.nil(h:aW c.fields many vs):gi c [] many vs vs:=⟨h,rfl⟩
theorem gi.snoc {l:List aB}{ts:List au}(hc:cU c l d)(h:gi c l many vs us)(k:gW d x many us ts):gi c (l++[x]) many vs ts:=by
 obtain⟨h1,h2⟩:=h;obtain⟨k1,k2⟩:=k;obtain rfl:=hc.cls;refine⟨?_,?_⟩
 .unfold kb at k1⊢;rw[List.foldl_append];exact k1
 .rw[k2,h2,Cy c _ l x _ hc]
def refsOf(l:aK)(v:Nat)(vs:List au):List Int:=(qi (aI l v) (l.changes.drop v) (vs.map (bw 3))).flatten
theorem gi.refs {l:aK}{v:Nat}(h:gi (aI l v) (l.changes.drop v) many vs us):us.flatMap (bw 3)=refsOf l v vs:=by
 unfold refsOf;rw[<-h.2,List.flatMap_def]
theorem gi.range {l:List aB}(h:gi c l many vs us):∀n∈us.flatMap (bw 3),1<=n/\n<=many:=by
 intro n hn;obtain⟨u,hu,hn⟩:=List.mem_flatMap.1 hn;obtain⟨f,_,hf⟩:=dw h.1 u hu;exact nF hf (.inl rfl) n hn
def lX {rs:List (List Int)}{P:Int->Prop}(h:∀r∈rs,∀n∈r,P n):∀n∈kq c s rs,P n:=by
 intro n hn;unfold kq at hn;split at hn
 .unfold Ia at hn;split at hn
  .rw[List.getD_eq_getElem?_getD]at hn;rename_i e _ _;cases hq:rs[(fieldAt c e.str).toNat]? with
   |none=>rw[hq]at hn;simp at hn
   |some r=>rw[hq]at hn;exact h r (Qaf hq) n hn
  .simp at hn
 .simp at hn
def Ij {rs:List (List Int)}{P:Int->Prop}(h:∀r∈rs,∀n∈r,P n):∀r∈mo c x rs,∀n∈r,P n:=by
 intro r hr;have h1:∀k,∀r∈rs.take k,∀n∈r,P n:=λk r hr=>h r (List.mem_of_mem_take hr);have h2:∀k,∀r∈rs.drop k,∀n∈r,P n:=λk r hr=>h r (List.mem_of_mem_drop hr);unfold mo at hr;split at hr
 .rcases Qch.1 hr with hr|hr
  .exact h r hr
  .simp at hr;subst hr;exact lX h
 .split at hr
  .rcases Qch.1 hr with hr|hr
   .exact h1 _ r hr
   .exact h2 _ r hr
  .split at hr
   .rcases Qch.1 hr with hr|hr
    .exact h1 _ r hr
    .rcases Qdf.1 hr with rfl|hr
     .exact lX h
     .exact h2 _ r hr
   .split at hr
    .rcases Qch.1 hr with hr|hr
     .exact h1 _ r hr
     .rcases Qdf.1 hr with rfl|hr
      .exact lX h
      .rcases Qdf.1 hr with rfl|hr
       .exact lX h
       .exact h2 _ r hr
    .exact h r hr
theorem vI {P:Int->Prop}:∀(l:List aB)(c:az)(rs:List (List Int)),(∀r∈rs,∀n∈r,P n)->∀r∈qi c l rs,∀n∈r,P n
 |[],_,_,h=>h
 |_::l,_,_,h=>vI l _ _ (Ij h)
def CD {l:aK}{v:Nat}(h:aW (aI l v).fields many vs):∀n∈refsOf l v vs,1<=n/\n<=many:=by
 intro n hn;unfold refsOf at hn;obtain⟨r,hr,hn⟩:=List.mem_flatten.1 hn;refine vI (P:=λn=>1<=n/\n<=many) _ _ _ (λr hr=> ?_) r hr n hn;obtain⟨u,hu,rfl⟩:=List.mem_map.1 hr;obtain⟨f,_,hf⟩:=dw h u hu;exact nF hf (.inl rfl)
structure pH(ls:List aK)(many:Int)(o:bH)(k v:Nat)(l:aK):Prop where
 cls:o.cls=k
 ver:o.ver=v
 line:ls[k]? =some l
 le:v<=l.changes.length
 aJ:aW (aI l v).fields many o.aJ
def wK(k:Nat):aT:=([⟨#[97]⟩,⟨#[98,50]⟩,⟨#[104,111,109,101]⟩,⟨#[116,111,112,95,49]⟩,⟨#[122]⟩]:List aT).getD k jN
def Bs:∀k,k<5->aE (wK k)=true/\(wK k).size<=20:=by
 intro k hk;rcases k with _|_|_|_|_|k;all_goals first|(decide+kernel)|omega
def yM:∀i,i<5->∀j,j<5->Op.bytesLess (wK i).toList (wK j).toList=decide (i<j):=by decide+kernel
def OP:∀i,i<5->∀j,j<5->((wK i).toList==(wK j).toList)=decide (i=j):=by decide+kernel
structure fL(x:bE):Prop where
 sch:eI x.lines
 len:x.objs.length<=10
 objs:∀(i:Nat)(o:bH),x.objs[i]? =some o->o.id=(i:Int)+1/\∃k v l,pH x.lines x.objs.length o k v l
 rlen:x.roots.length<=5
 roots:∀r∈x.roots,1<=r.id/\r.id<=x.objs.length
 names:∃ks:List Nat,ks.Pairwise (·< ·)/\(∀k∈ks,k<5)/\x.roots.map cT.name=ks.map wK
 next:(x.objs.length:Int)+1<=x.next/\x.next<=(x.objs.length:Int)+3
def cZ(x:bE)(id:Int):List Int:=
 if id<1 then[]else match x.objs[(id-1).toNat]? with
 |none=>[]
 |some o=>match x.lines[o.cls.toNat]? with
  |none=>[]
  |some l=>refsOf l o.ver.toNat o.aJ
theorem fL.UD {x:bE}(h:fL x){r:cT}(hr:x.roots[i]? =some r):aE r.name=true/\r.name.size<=20:=by
 obtain⟨ks,_,h2,h3⟩:=h.names;have hm:r.name∈x.roots.map cT.name:=List.mem_map_of_mem (Qaf hr);rw[h3]at hm;obtain⟨k,hk,e⟩:=List.mem_map.1 hm;rw[<-e];exact Bs k (h2 k hk)
theorem fL.ZA {x:bE}(h:fL x){r s:cT}(hr:x.roots[i]? =some r)(hs:x.roots[i+1]? =some s):(Op.bytesLess s.name.toList r.name.toList||s.name.toList==r.name.toList)=false:=by
 obtain⟨ks,h1,h2,h3⟩:=h.names;have e1:(x.roots.map cT.name)[i]? =some r.name:=by simp[hr]
 have e2:(x.roots.map cT.name)[i+1]? =some s.name:=by simp[hs]
 rw[h3,List.getElem?_map,Option.map_eq_some_iff]at e1 e2;obtain⟨a,ha,e1⟩:=e1;obtain⟨b,hb,e2⟩:=e2;obtain⟨l1,g1⟩:=Qad.1 ha;obtain⟨l2,g2⟩:=Qad.1 hb;have aX:=List.pairwise_iff_getElem.1 h1 i (i+1) l1 l2 (by omega);rw[g1,g2]at aX;have k1:=h2 a (Qaf ha);have k2:=h2 b (Qaf hb);rw[<-e1,<-e2,yM b k2 a k1,OP b k2 a k1];simp;omega
def bM(x:bE):List Int:=x.roots.map cT.id
theorem fL.refs {x:bE}(h:fL x){o:bH}(ho:x.objs[i]? =some o){v:Nat}{l:aK}(hk:pH x.lines x.objs.length o k v l):cZ x ((i:Int)+1)=refsOf l v o.aJ:=by
 unfold cZ;rw[if_neg (by omega),show((i:Int)+1-1).toNat=i by omega,ho];simp only;rw[hk.cls,show((k:Int)).toNat=k by omega,hk.line];simp only;rw[hk.ver,show((v:Int)).toNat=v by omega]
end
section
open Go.RowKit Go.Shelf
def eD {l:List bH}(h:ab M w v l){x:bH}(hx:l[i]? =some x):∃b off cap a c,v=xL (some ⟨b,off,none⟩) l.length cap/\b<w.heap.size/\ab M w (xL a x.aJ.length c) x.aJ/\∀W,aq w W->(aU W b (off+i*4) (xI x.id)/\aU W b (off+i*4+1) (xI x.cls)/\aU W b (off+i*4+2) (xI x.ver)/\aU W b (off+i*4+3) (xL a x.aJ.length c)):=by
 obtain⟨a,cap,rfl,hl,_,hc⟩:=h.open_;have hk:=(Qad.1 hx).1;obtain⟨b,off,rfl,_,hb,aG⟩:=hc (by omega);obtain⟨cs,⟨vv,rfl,hs⟩,bD⟩:=aG i _ hx;have jC:=hs;obtain⟨a,c,rfl,_⟩:=jC.open_;refine⟨b,off,cap,a,c,rfl,hb,hs,λW hB=> ?_⟩;have g:∀j u,([xI x.id,xI x.cls,xI x.ver,xL a x.aJ.length c]:List an)[j]? =some u->aU W b (off+i*4+j) u:=λj u hu=>(hB.cell (p:=⟨b,off+i*4+j,none⟩) hb).trans (bD j u hu);exact⟨g 0 _ rfl,g 1 _ rfl,g 2 _ rfl,g 3 _ rfl⟩
def OS(os:List bH)(n:Int):Int:=idxOf (λo:bH=>decide (o.id=n)) os
def OT(M:aS)(w:aj)(v:an)(os:List bH)(hs:ab M w v os)(h8:os.length<=1000)(n:Int):
 xC 46 #[v,xI n] w (gE (xI (OS os n)) w):=by
 have HL:Hd (∀k o,os[k]? =some o->_):=λk o h=>eD hs h;obtain⟨a,bQ,rfl,cK,qE,_⟩:=hs.open_;obtain⟨N,hN⟩:=fx (OS os n);have HN:=af hN;rw[hN];have h9:(os.length:Int)<=1000:=by omega
 go_enter func46,ntmps46;go_wp2;go_loopg [5]os.length(λg iv wr=>∃k:Nat,k<=os.length/\g=os.length-k/\iv=xI k/\wr=w/\Hd (∀y∈os.take k,decide (y.id=n)=false));case atStart=>exact⟨0,Qbf _,rfl,rfl,rfl,(show∀y∈_,_ fromλy hy=>by simp at hy)⟩
 case round=>
  obtain⟨k,hk,rfl,rfl,rfl,HK⟩:=hrel;by_cases aX:k<os.length
  .obtain⟨l,hl⟩:=dQ os k aX;obtain⟨b,off,cap,va,vc,hv,cw,_,aw⟩:=HL.o k l hl;obtain⟨rfl,rfl⟩:=gY hv;obtain⟨q0,_,_,_⟩:=aw wr dK;have DM:=af hl;by_cases hq:l.id=n
   .have e0:OS os n=k:=idxOf_hit (p:=λo:bH=>decide (o.id=n)) HK.o DM.o (by simp[hq]);have U7:=af e0;go_wp2;go_ret;exact⟨by rw[<-HN.o,U7.o];rfl,rfl⟩
   .go_wp2;go_roundg(os.length-(k+1));case measure=>omega
    case rel=>
     refine⟨k+1,by omega,rfl,by go_num,rfl,(show∀y∈os.take (k+1),_ fromλy hy=> ?_)⟩;rw[Qbb,DM.o]at hy;rcases Qch.1 hy with hy|hy
     .exact HK.o y hy
     .simp at hy;subst hy;simp[hq]
  .have e0:OS os n= -1:=kQ (p:=λo:bH=>decide (o.id=n)) (by have:=HK.o;rw[show k=os.length from by omega,List.take_length]at this;exact this);have U7:=af e0;go_wp2;go_ret;exact⟨by rw[<-HN.o,U7.o];rfl,rfl⟩
def gj {l:List cT}(h:ab M w v l){x:cT}(hx:l[i]? =some x):∃b off cap,v=xL (some ⟨b,off,none⟩) l.length cap/\b<w.heap.size/\x.name.size<=maxLen/\∀W,aq w W->(aU W b (off+i*2) (xS x.name)/\aU W b (off+i*2+1) (xI x.id)):=by
 obtain⟨a,cap,rfl,hl,_,hc⟩:=h.open_;have hk:=(Qad.1 hx).1;obtain⟨b,off,rfl,_,hb,aG⟩:=hc (by omega);obtain⟨cs,⟨rfl,hs⟩,bD⟩:=aG i _ hx;refine⟨b,off,cap,rfl,hb,hs,λW hB=> ?_⟩;have g:∀j u,([xS x.name,xI x.id]:List an)[j]? =some u->aU W b (off+i*2+j) u:=λj u hu=>(hB.cell (p:=⟨b,off+i*2+j,none⟩) hb).trans (bD j u hu);exact⟨g 0 _ rfl,g 1 _ rfl⟩
def RR(k:Nat):Nat:=([2,0,1,3,4]:List Nat).getD k 0
def VV(h:k<5):RR k<5:=by
 rcases k with _|_|_|_|_|k<;>first|decide|omega
def VW(h:k<5):(#[xS ⟨#[104,111,109,101]⟩,xS ⟨#[97]⟩,xS ⟨#[98,50]⟩,xS ⟨#[116,111,112,95,49]⟩,xS ⟨#[122]⟩]:Array an)[k]? =some (xS (wK (RR k))):=by
 rcases k with _|_|_|_|_|k<;>first|rfl|omega
def Il(c:Int)(hc:I6 c)(w:aj):
 xC 22 #[xI c] w (cN (xS (wK (RR (aH c 5)))) w):=by
 have hp:aH c 5<5:=cq c 5 (by omega);have HP:Hd (∀w,_):=λw=>kT c 5 w hc (by omega) (by omega);have aG:∀(t:TypeId),(w.alloc (xK #[xS ⟨#[104,111,109,101]⟩,xS ⟨#[97]⟩,xS ⟨#[98,50]⟩,xS ⟨#[116,111,112,95,49]⟩,xS ⟨#[122]⟩] t)).cell? ⟨w.heap.size,aH c 5,none⟩=some (xS (wK (RR (aH c 5)))):=λt=>by
  simp only[World.cell?,Qbh];exact VW hp
 have Ae:((aH c 5:Nat):Int)<5:=by omega
 have Du:(0:Int)<=((aH c 5:Nat):Int):=Qba _;rw[show(5:Int).toNat=5 from rfl]at HP;generalize aH c 5=q at*;go_enter func22,ntmps22;go_wp2_with fail;refine dJ (HP.o _) ?_;go_wp2;go_ret;exact⟨rfl,bO⟩
end
section
open Go.RowKit
theorem sP:∀(h:Nat)(x:au),yK h x->Ep 302 x
 |0,x,hx=>sK x (by rw[show x.list=[]from hx];simp) λy hy=>by rw[show x.list=[]from hx]at hy;cases hy
 |h+1,x,hx=>sK x hx.1 λy hy=>sP h y (hx.2 y hy)
def EO(a:dC)(cap:Nat)(fv:an)(w:aj):xC 202 #[xL a 0 cap,fv] w (gE (xL none 0 0) w):=by
 go_enter func202,ntmps202;go_wp2;go_ret;exact⟨rfl,rfl⟩
def mR {P:Program}(w:aj)(t e:TypeId)(i:TypeInfo)(z:an)(ht:P.underlying t=some (.slice e))(hi:P.info? e=some i)(hz:i.zero=some z)(n:Nat)(hn:n<=1000)(hb:i.bytes<=1000):
 ∃cur:Array an,(Instr.makeSlice t (xI n) (xI n)).run P w= .ok (xL (some ⟨w.heap.size,0,none⟩) n n) (w.alloc (.cells cur e))/\cur.size=n*i.size:=by
 have hr:=run_make (P:=P) w t e i z ht hi hz .i64 .i64 n n (by omega) (Int.le_refl _) (by
  have:i.bytes*n<=1000*1000:=Nat.mul_le_mul hb hn;have h2:((i.bytes*n:Nat):Int)<=1000000:=by omega
  rw[Int.natCast_mul]at h2;omega) (by omega);simp only[Int.toNat_natCast]at hr;exact⟨_,hr,size_madeCells _ _⟩
def ky {l:List ay}(h:ab M w v l){x:ay}(hx:l[k]? =some x):∃b off cap,v=xL (some ⟨b,off,none⟩) l.length cap/\b<w.heap.size/\x.name.size<=maxLen/\∀W,aq w W->aU W b (off+k*4) (xS x.name)/\aU W b (off+k*4+1) (xI x.type.kind)/\aU W b (off+k*4+2) (xI x.type.of)/\aU W b (off+k*4+3) (xB x.indexed):=by
 obtain⟨a,cap,rfl,hl,_,hc⟩:=h.open_;have hk:=(Qad.1 hx).1;obtain⟨b,off,rfl,_,hb,aG⟩:=hc (by omega);obtain⟨cs,⟨rfl,hs⟩,bD⟩:=aG k x hx;refine⟨b,off,cap,rfl,hb,hs,λW hB=> ?_⟩;have g:∀j u,([xS x.name,xI x.type.kind,xI x.type.of,xB x.indexed]:List an)[j]? =some u->aU W b (off+k*4+j) u:=λj u hu=>(hB.cell (p:=⟨b,off+k*4+j,none⟩) hb).trans (bD j u hu);exact⟨g 0 _ rfl,g 1 _ rfl,g 2 _ rfl,g 3 _ rfl⟩
def O4(n:aT)(k o:Int)(i:Bool)(w:aj):xC 187 #[.agg #[xS n,xI k,xI o,xB i]] w (cN (.agg #[xS n,xI k,xI o,xB i]) w):=by
 go_enter func187,ntmps187;go_wp2_with fail;refine Qae (v:= .agg #[xS n,xI k,xI o,xB i]) (by simp[results,results187,go_sem]) rfl ⟨rfl,?_⟩;exact bO.alloc (by simp) _
def yP(l:List ay)(hl:l.length<=12)(h0:0<l.length)(M:aS)(w:aj)(v:an)(hM:Bd M w)(hs:ab M w v l):
 xG 186 #[v, .func (.func 187) #[] #[]] w λv' w'=>ab M w' v' l:=by
 obtain⟨i0,dz,dX,cY,dA⟩:=info_parts iw;have HC:Hd (∀(i:Nat)(x:ay),l[i]? =some x->_):=λi x hx=>ky hs hx;obtain⟨a,bQ,rfl,cK,qE,_⟩:=hs.open_;generalize hn:l.length=n at*;have ek:=af hn;have tN:((n:Int)==0)=false:=by simp;omega
 obtain⟨cur,Cb,bD⟩:=mR (P:=prog) w 99 138 i0 _ underlying99 dz dX n (by omega) (by omega);have Nt:Hd (dD (α:=ay) M w.heap.size 138 (w.alloc (.cells cur 138)) n []):=dD.made cur (Qbh w _) (by rw[bD,cY];rfl);go_enter func186,ntmps186;go_wp2;go_loopg [6,7,16]n(λg _ _ iv wr=>∃i:Nat,i<=n/\g=n-i/\iv=xI i/\Hd (dD M w.heap.size 138 wr n (l.take i))/\Hd (aq w wr));case atStart=>exact⟨0,Qbf _,rfl,rfl,Nt,bO⟩
 case round=>
  obtain⟨i,hi,rfl,rfl,HA,HB⟩:=hrel;have hsz:w.heap.size<wr.heap.size:=HA.o.lt;by_cases aX:i<n
  .obtain⟨⟨xn,⟨xk,xo⟩,xi⟩,hx⟩:=dQ l i (by rw[ek.o];exact aX);obtain⟨b,off,cap,hv,hb,iO,aw⟩:=HC.o i _ hx;obtain⟨rfl,rfl⟩:=gY hv;obtain⟨q0,q1,q2,q3⟩:=aw wr HB.o;have oV:=af (show(l.take i).length=i by have:=ek.o;rw[Qdb];omega);have oR:=af (show l.take (i+1)=l.take i++[⟨xn,⟨xk,xo⟩,xi⟩]by rw[Qbb,hx];rfl);have tM:=af iO;dsimp only at q0 q1 q2 q3;go_wp2_with fail;refine cG (O4 _ _ _ _ _) λw1 aC=> ?_;have uf:Hd (aA.rep (α:=ay) (orM M w.heap.size) w1 [xS xn,xI xk,xI xo,xB xi] ⟨xn,⟨xk,xo⟩,xi⟩):=⟨rfl,tM.o⟩;have aO:=af (aQ aC);have kj:=af (HA.o.below aO.o);have YT:i*4+3<n*4:=by omega
   obtain⟨u0,p0,f0⟩:=kj.o.cell (j:=i*4) (by show _<n*4;omega);obtain⟨u1,p1,f1⟩:=kj.o.cell (j:=i*4+1) (by show _<n*4;omega);obtain⟨u2,p2,f2⟩:=kj.o.cell (j:=i*4+2) (by show _<n*4;omega);obtain⟨u3,p3,f3⟩:=kj.o.cell (j:=i*4+3) (by show _<n*4;omega);go_wp2;go_roundg(n-(i+1));case measure=>omega
   case rel=>
    refine⟨i+1,by omega,rfl,by go_num,(show dD _ _ _ _ _ _ by rw[oR.o];exact kj.o.gJ rfl oV.o aX uf.o),(show Below _ _ _ from ?_)⟩;exact(((((HB.o.trans (aO.o.mono (by omega))).setCell (by simp) _).setCell (by simp) _).setCell (by simp) _).setCell (by simp) _)
  .go_wp2;go_ret;refine⟨_,rfl,?_,HB.o⟩;have h1:=HA.o;rw[Qah (by rw[ek.o];omega)]at h1;exact h1.slice ek.o (λh=>by have:=hM _ h;omega) (by unfold maxLen;omega)
def EP(a:dC)(cap:Nat)(fv:an)(w:aj):xC 186 #[xL a 0 cap,fv] w (gE (xL none 0 0) w):=by
 go_enter func186,ntmps186;go_wp2;go_ret;exact⟨rfl,rfl⟩
def CI(l:List ay)(hl:l.length<=12)(M:aS)(w:aj)(v:an)(hM:Bd M w)(hs:ab M w v l):
 xG 186 #[v, .func (.func 187) #[] #[]] w λv' w'=>ab M w' v' l:=by
 by_cases h0:0<l.length
 .exact yP l hl h0 M w v hM hs
 .have e:l=[]:=Qdd (by omega);subst e;obtain⟨a,cap,rfl,_⟩:=hs.open_;refine dJ (EP a cap _ w) ?_;exact⟨_,rfl,ab.nil _ _,dK⟩
def qW(nm:aT)(l:List ay)(hl:l.length<=12)(M:aS)(w:aj)(v:an)(hM:Bd M w)(hs:ab M w v l):
 xG 146 #[.agg #[xS nm,v]] w λu w'=>∃v',u= .agg #[xS nm,v']/\ab M w' v' l:=by
 have Ag:Hd (∀W,aq w W->w.heap.size+2<=W.heap.size->_):=λW hb hz=>CI l hl (dP M w 2) W v (dp hM hz) (hs.ev (cW hb));obtain⟨a,bQ,rfl,_⟩:=hs.open_;go_enter func146,ntmps146;go_wp2_with fail;refine(Ag.o _ (Bx.dh w _ _).1 (by simp)).mono ?_;rintro e w1⟨_,rfl,dB,aC⟩;obtain⟨za,zc,rfl,_⟩:=dB.open_;have HB:=af ((Bx.dh w (cS nm (xL a l.length bQ)) (cS ⟨#[]⟩ (xL none 0 0))).below aC);obtain⟨r0,r1⟩:=ah (HB.o.bJ rfl);obtain⟨e0,e1⟩:=ah (HB.o.cE rfl);have f1:=ag (HB.o.bJ rfl) 1;obtain⟨g0,g1⟩:=nu (HB.o.cE rfl);have HS:=af dB;go_wp2_with fail;refine Qae (v:= .agg #[xS nm,xL za l.length zc]) (by simp[results,results146,go_sem,e0,e1]) rfl ⟨_,rfl,⟨_,rfl,HS.o.ev ?_⟩,?_⟩
 .exact((((ep w1).setCell (.inl (.inr ⟨by simp,by simp⟩)) _).setCell (.inl (.inr ⟨by simp,by simp⟩)) _).setCell (.inl (.inr ⟨by simp,by simp⟩)) _)
 .exact((HB.o.1.setCell (by simp) _).setCell (by simp) _).setCell (by simp) _
def vK(h:aM c=true)(hf:c.fields[i]? =some f):aF f.type=true:=
 (vE (((dV c).1 h).2.2.1 f (Qaf hf))).2.1
def mw(c:az)(hc:aM c=true)(fS:c.name.size<=maxLen)(many:Int)(hm:many<=100000)(vs:List au)(hv:aW c.fields many vs)(M:aS)(w:aj)(fv vv:an)(bR:ab M w fv c.fields)(dt:ab M w vv vs)(hT:Tb w):
 xC 182 #[.agg #[xS c.name,fv],vv] w (cN (.tuple #[xI 0,xI 0]) w):=by
 have h8:c.fields.length<=8:=((dV c).1 hc).2.1;have HR:Hd (∀W,aq w W->xC 185 #[.agg #[xS c.name,fv]] W (cN (xB true) W)):=λW hb=>by
  have h:=fW M fv W c (bR.below hb) fS;rw[hc]at h;exact h
 have NR:Hd (∀(i:Nat)(x:ay),c.fields[i]? =some x->_):=λi x hx=>ky bR hx;have HVC:Hd (∀(i:Nat)(k n:Int)(s:aT)(ll:List au),vs[i]? =some (.mk k n s ll)->_):=λi k n s ll hx=>dZ dt hx;have U3:Hd (∀(i:Nat)(f:ay)(x:au)(W:aj)(u:an),c.fields[i]? =some f->vs[i]? =some x->aq w W->bS M W u x->_):=λi f x W u hf hx hb hu=>OL (hv.2 i f x hf hx) (vK hc hf) hm hu (hT.below hb);have Sa:=hv.1;obtain⟨fa,fc,rfl,AW,wP,_⟩:=bR.open_;obtain⟨va,vc,rfl,j8,hvm,_⟩:=dt.open_;obtain⟨nm,fs⟩:=c;dsimp only at*;generalize hvn:vs.length=m at*;generalize hn:fs.length=n at*;obtain rfl:m=n:=Sa;have ek:=af hvn;have Lf:=af hn;have NV:((m:Int)!=(m:Int))=false:=by simp
 go_enter func182,ntmps182;go_wp2_with fail;refine cG (HR.o _ bO) λw1 aC=> ?_;have aO:=af ((Bx.dR w (cS nm (xL fa m fc))).below aC);obtain⟨c0,c1⟩:=ah (aO.o.bJ rfl);go_wp2;go_loopg [6,7,26]m(λg _ _ iv wr=>∃i:Nat,i<=m/\g=m-i/\iv=xI i/\Hd (aq w wr));case atStart=>exact⟨0,Qbf _,rfl,rfl,(aO.o.1)⟩
 case round=>
  obtain⟨i,hi,rfl,rfl,HB⟩:=hrel;by_cases aX:i<m
  .obtain⟨⟨xn,⟨xk,xo⟩,xi⟩,hx⟩:=dQ fs i (by rw[Lf.o];exact aX);obtain⟨⟨yk,yn,ys,yl⟩,hy⟩:=dQ vs i (by rw[ek.o];exact aX);obtain⟨b,off,cap,Xd,hb,_,aw⟩:=NR.o i _ hx;obtain⟨rfl,rfl⟩:=gY Xd;obtain⟨bv,qgz,qg0,a',c',wX,hbv,_,_,tR⟩:=HVC.o i yk yn ys yl hy;obtain⟨rfl,rfl⟩:=gY wX;have hsz:=HB.o.size;have aL:=af (λo=>HB.o.alloc hsz o);obtain⟨q0,q1,q2,q3⟩:=aw wr HB.o;have p0:=λo=>(tR _ (aL.o o)).1.1;have p1:=λo=>(tR _ (aL.o o)).1.2.1;have p2:=λo=>(tR _ (aL.o o)).1.2.2.1;have p3:=λo=>(tR _ (aL.o o)).1.2.2.2;have pX:=af (λo=>U3.o i _ _ (wr.alloc o).drew _ hx hy (aL.o o).drew ((tR _ (aL.o o)).2.ev ((Ev.refl _ _).drew)));dsimp only at q0 q1 q2 q3;go_upto_region 8 with fail;go_region_law(first
    |(go_simp;go_at_call 61;refine cG (pX.o _) λw2 aY=> ?_;have bI:Hd (aq w w2):=(aL.o _).drew.trans (aY.mono (by have:=(aL.o (xK #[] 0)).size;simp at this⊢;omega));clear aY));all_goals
    go_wp2;go_roundg(m-(i+1));case measure=>omega
    case rel=>exact⟨i+1,by omega,rfl,by go_num,bI⟩
  .go_wp2;go_ret2;exact⟨rfl,HB.o⟩
def ke(k n:Int)(s:aT)(p:Int):an:= .agg #[xI k,xI n,xS s,xI p]
def yQ(h:aE nm=true):aM ⟨nm,[]⟩=true:=by
 rw[dV];refine⟨h,by simp,?_,by simp⟩;intro f hf;cases hf
def Bz(s:aT)(h:aE s=true)(hs:s.size<=20)(w:aj):xC 322 #[xS s] w (cN (xB true) w):=by
 have HR:=af (show xC 185 #[.agg #[xS s,xL none 0 0]] w (cN (xB true) w)by
  have h1:=fW xF (xL none 0 0) w ⟨s,[]⟩ (ab.nil _ _) (cz hs);rw[yQ h]at h1;exact h1);clear h;go_enter func322,ntmps322;go_wp2_with fail;refine cG (HR.o) λw1 aC=> ?_;have HB:=af aC;clear aC;go_wp2;go_ret;exact⟨rfl,HB.o⟩
def ER(h:jK s.data.toList=true):fN s:=by
 unfold jK at h;simp only[Qce,decide_eq_true_eq,List.all_eq_true]at h;exact⟨by rw[<-bh];exact h.1,pE _ λc hc=>h.2 c hc⟩
def BA(s:aT)(h:fN s)(w:aj)(hT:Tb w):xC 323 #[xS s] w (cN (xB true) w):=by
 have HR:=af (yI s h none 0 w hT);clear h hT;go_enter func323,ntmps323;go_wp2_with fail;refine cG (HR.o) λw1 aC=> ?_;have HB:=af aC;clear aC;go_wp2;go_ret;exact⟨rfl,HB.o⟩
def AB(s:aT)(hs:s.size<=200)(h0:0<s.size)(c:Int)(hc:((s[0]'h0).toNat:Int)=c)(h1:48<=c)(h2:c<=57)(hn:∀h:1<s.size,¬(48<=((s[1]'h).toNat:Int)/\((s[1]'h).toNat:Int)<=57))(w:aj):
 xC 306 #[xS s] w (cN (.tuple #[ke 1 (c-48) ⟨#[]⟩ 0,xI 1]) w):=by
 have HC:=af hc;have HN:=af hn;clear hc hn;go_enter func306,ntmps306;go_wp2;go_loopg [4,5]2(λg n k wr=>wr=w.alloc (xK #[xI 0,xI 0,xS ⟨#[]⟩,xI 0] 346)/\((g=2/\n=xI 0/\k=xI 0)\/(g=1/\n=xI (c-48)/\k=xI 1)));case atStart=>exact⟨rfl, .inl ⟨rfl,rfl,rfl⟩⟩
 case round=>
  obtain⟨rfl,⟨rfl,rfl,rfl⟩|⟨rfl,rfl,rfl⟩⟩:=hrel
  .have q0:∀h,((s[0]'h).toNat:Int)=c:=λ_=>HC.o;have q1:0<s.size:=h0;go_wp2;go_roundg 1;case measure=>omega
   case rel=>exact⟨rfl, .inr ⟨rfl,by rw[Int.min_eq_left (by omega)],rfl⟩⟩
  .have hg:¬(c-48>1000000000000000):=by omega
   by_cases hl:1<s.size
   .have vj:=HN.o hl;obtain⟨d,hd⟩:=fx (((s[1]'hl).toNat:Int));rw[hd]at vj;have q1:∀h,((s[1]'h).toNat:Int)=d:=λ_=>hd;clear hd;by_cases a1:48<=d
    .have a2:¬d<=57:=λh=>vj ⟨a1,h⟩;clear vj;go_wp2_with fail;refine Qae (v:= .tuple #[ke 1 (c-48) ⟨#[]⟩ 0,xI 1]) (by simp[results,results306,go_sem,ke]) rfl ⟨rfl,?_⟩;exact bO
    .clear vj;go_wp2_with fail;refine Qae (v:= .tuple #[ke 1 (c-48) ⟨#[]⟩ 0,xI 1]) (by simp[results,results306,go_sem,ke]) rfl ⟨rfl,?_⟩;exact bO
   .go_wp2_with fail;refine Qae (v:= .tuple #[ke 1 (c-48) ⟨#[]⟩ 0,xI 1]) (by simp[results,results306,go_sem,ke]) rfl ⟨rfl,?_⟩;exact(Qbg _ w).alloc bq _
def sQ(c:Int):Bool:=decide (97<=c/\c<=122)||decide (48<=c/\c<=57)||decide (c=95)
def pc0:Obj:=xK #[xI 0,xI 0,xS ⟨#[]⟩,xI 0] 346
def ES(s:aT)(hs:s.size<=200)(m:Nat)(hm:m<=s.size)(qg1:m<=20)(hall:∀k(h:k<s.size),k<m->sQ ((s[k]'h).toNat:Int)=true)(qat:∀h:m<s.size,sQ ((s[m]'h).toNat:Int)=false)(nm:aT)(lH:s.extract 0 m=nm)(hr:aE nm=true)(w:aj):
 xC 307 #[xS s] w (cN (.tuple #[ke 3 0 nm 0,xI m]) w):=by
 have HA:=af hall;have HE:=af qat;have HN:=af lH;have HS:=af (show nm.size<=20 by rw[<-lH];simp[ByteArray.size_extract];omega);have HR:Hd (∀W,xC 322 #[xS (s.extract 0 m)] W (cN (xB true) W)):=λW=>by rw[lH];exact Bz nm hr HS.o W
 clear hall qat hr lH;go_enter func307,ntmps307;go_wp2;go_loopg [4](m+1)(λg k wr=>∃i:Nat,i<=m/\g=m+1-i/\k=xI i/\wr=w.alloc pc0);case atStart=>exact⟨0,Qbf _,rfl,rfl,rfl⟩
 case round=>
  obtain⟨i,hi,rfl,rfl,rfl⟩:=hrel;by_cases aX:i<s.size
  .obtain⟨d,hd⟩:=fx (((s[i]'aX).toNat:Int));have HW:=af (show sQ d=decide (i<m)by
    by_cases h:i<m
    .rw[<-hd,HA.o i aX h];simp[h]
    .have:i=m:=by omega
     subst this;rw[<-hd,HE.o aX];simp);have q1:∀h,((s[i]'h).toNat:Int)=d:=λ_=>hd;clear hd;by_cases RX:i<m
   .have hw:sQ d=true:=by rw[HW.o];simpa using RX
    have bD:(97<=d/\d<=122)\/(¬97<=d/\48<=d/\d<=57)\/(¬97<=d/\48<=d/\¬d<=57/\(d==95)=true):=by
     unfold sQ at hw;simp at hw;simp;omega
    clear hw;rcases bD with⟨a1,a2⟩|⟨a1,a2,a3⟩|⟨a1,a2,a3,a4⟩;all_goals
     go_wp2;go_roundg(m+1-(i+1));case measure=>omega
     case rel=>exact⟨i+1,by omega,rfl,by go_num,rfl⟩
   .have hw:sQ d=false:=by rw[HW.o];simpa using RX
    obtain rfl:i=m:=by omega
    have bD:(97<=d/\¬d<=122/\48<=d/\¬d<=57/\(d==95)=false)\/(¬97<=d/\48<=d/\¬d<=57/\(d==95)=false)\/(¬97<=d/\¬48<=d/\(d==95)=false):=by
     unfold sQ at hw;simp at hw;simp;omega
    clear hw;rcases bD with⟨a1,a2,a3,a4,a5⟩|⟨a1,a2,a3,a4⟩|⟨a1,a2,a3⟩;all_goals
     go_wp2_with fail;refine cG (HR.o _) λw1 aC=> ?_;obtain⟨g0,g1,g2,g3⟩:=ae (boxed aC);obtain⟨f0,f1,f2,f3⟩:=ic (boxed aC);have HB:=af (aQ aC);clear aC;go_wp2_with fail;refine Qae (v:= .tuple #[ke 3 0 nm 0,xI i]) (by rw[<-HN.o];simp[results,results307,go_sem,ke,g0,g1,g2,g3]) rfl ⟨rfl,?_⟩;exact(((HB.o.setCell (by simp) _).setCell (by simp) _).setCell (by simp) _).setCell (by simp) _
  .obtain rfl:i=m:=by omega
   go_wp2_with fail;refine cG (HR.o _) λw1 aC=> ?_;obtain⟨g0,g1,g2,g3⟩:=ae (boxed aC);obtain⟨f0,f1,f2,f3⟩:=ic (boxed aC);have HB:=af (aQ aC);clear aC;go_wp2_with fail;refine Qae (v:= .tuple #[ke 3 0 nm 0,xI i]) (by rw[<-HN.o];simp[results,results307,go_sem,ke,g0,g1,g2,g3]) rfl ⟨rfl,?_⟩;exact(((HB.o.setCell (by simp) _).setCell (by simp) _).setCell (by simp) _).setCell (by simp) _
instance:aA UInt8 where
 size:=1
 rep:=λ_ _ cs x=>cs=[.int .u8 (x.toNat:Int)]
 len:=λh=>by rw[h];rfl
 flat:=λh u hu=>by rw[h]at hu;simp at hu;subst hu;rfl
 ev:=λh _=>h
def Md:(Tryz.prog.info? 5).map (λi=>(i.zero,i.size,i.bytes))=some (some (.int .u8 0),1,1):=by kernel_rfl
def yR {n:Nat}{bs:List UInt8}(h:ab xF w (xL a n cap) bs):(convert 395 9 (xL a n cap)).run prog w= .ok (xS (bL bs)) w:=by
 obtain⟨a',fq,e,_,_,hc⟩:=h.open_;obtain⟨rfl,rfl,rfl⟩:a=a'/\n=bs.length/\cap=fq:=by simpa using e
 cases bs with
 |nil=>
  rw[run_convert_bytes_string w 395 9 5 a _ cap underlying395 underlying5 underlying9];cases a with
  |none=>rfl
  |some ad=>
   have:=run_bytesToString (P:=prog) w ad 0 cap [] (by simpa using run_loadCells_list (P:=prog) w ad [] (λj v hj=>by simp at hj));exact this
 |cons c r=>
  obtain⟨b,off,rfl,_,_,aG⟩:=hc (by simp);refine run_convert_bytes_back w 395 9 5 ⟨b,off,none⟩ cap (c::r) underlying395 underlying5 underlying9 λj hj=> ?_;obtain⟨cs,rfl,bD⟩:=aG j _ (Qac hj);have:=bD 0 _ rfl;rw[show aA.size UInt8=1 from rfl]at this;unfold Addr.add;split
  .rename_i h;subst h;simpa using this
  .simpa using this
def ET {l:List UInt8}(h:s.data.toList=l){c:UInt8}(hk:l[k]? =some c):∃h:k<s.size,s[k]'h=c:=by
 subst h;have hl:=(Qad.1 hk).1;have h3:k<s.size:=by rw[<-bh];exact hl
 have:=du s k h3;rw[this]at hk;exact⟨h3,by simpa using hk⟩
def EU(s:ByteArray)(hs:s.size<=200)(bs rest:List UInt8)(hl:s.data.toList=34::(bs++34::rest))(hp:∀c∈bs,eX c=true)(ht:jK bs=true)(w:World)(hT:Tb w):
 xC 308 #[.string s] w (cN (.tuple #[ke 2 0 (bL bs) 0, .int .i64 (bs.length+2:Nat)]) w):=by
 obtain⟨i0,dz,dX,cY,dA⟩:=info_parts Md;have hlen:bs.length+2+rest.length=s.size:=by rw[<-bh,hl];simp;omega
 have HBY:Hd (∀i c,bs[i]? =some c->∃h:i+1<s.size,s[i+1]'h=c):=(show∀i c,_->_ fromλi c h=>ET hl (by
  rw[List.getElem?_cons_succ,Qbc (Qad.1 h).1];exact h));have HEN:Hd (∃h:bs.length+1<s.size,s[bs.length+1]'h=34):=(show _ from ET hl (by
  rw[List.getElem?_cons_succ,Qbd bq];simp));have HP:=af hp;have HTX:Hd (fN (bL bs)):=(show _ from ER (by simpa [bL]using ht));have Vd:=af hT;have HX:Hd (∀W,aq w W->_):=(show∀W,_->_ fromλW hb=>BA (bL bs) HTX.o W (Vd.o.below hb));generalize hm:bs.length=m at*;have HM:=af hm;go_enter func308,ntmps308;go_wp2;go_loopg [4,5,14,15,27]m(λg r4 r5 _ _ _ wr=>∃(i c1:Nat)(a1:Option Addr),i<=m/\g=m-i/\r5= .int .i64 ((i:Int)+1)/\r4= .slice a1 i c1/\Hd (aP xF (w.heap.size+1) 5 wr (.slice a1 i c1) (bs.take i))/\Hd (Bx w [pc0] wr));case atStart=>exact⟨0,0,none,Qbf _,rfl,rfl,rfl,(show aP _ _ _ _ _ _ from aP.nil _ _ _ _),(show Bx _ _ _ from Bx.dR w _)⟩
 case round=>
  obtain⟨i,c1,a1,hi,rfl,rfl,rfl,HA,HB⟩:=hrel;have hsz:=HB.o.bY;simp only[Qcc,Qcd]at hsz;have oV:Hd ((bs.take i).length=i):=(show _=_ by have:=HM.o;rw[Qdb];omega);by_cases aX:i<m
  .obtain⟨d,hd⟩:=dQ bs i (by rw[HM.o];exact aX);obtain⟨aC,aY⟩:=HBY.o i d hd;have oR:Hd (bs.take (i+1)=bs.take i++[d]):=(show _=_ by rw[Qbb,hd];rfl);have gO:=HP.o d (Qaf hd);have q1:∀h,s[i+1]'h=d:=λ_=>aY;have e1:((d.toNat:Int)==34)=false:=by
    unfold eX at gO;simp at gO;have h1:=gO.1;have:d.toNat≠34:=λh=>h1 (by rw[<-UInt8.toNat_inj];simpa using h);simpa using by omega
   have e2:((d.toNat:Int)==92)=false:=by
    unfold eX at gO;simp at gO;have h1:=gO.2;have:d.toNat≠92:=λh=>h1 (by rw[<-UInt8.toNat_inj];simpa using h);simpa using by omega
   go_wp2_with(at_builtin;refine aZ (α:=UInt8) rfl _ _ _ rfl xF (w.heap.size+1) 5 i0 _ 1 underlying395 dz dX cY dA rfl (by decide) (.slice a1 i c1) (bs.take i) rfl (HA.o.alloc _) (λ_=>True) _ [.int .u8 (d.toNat:Int)] d rfl (kW _ _ #[.int .u8 (d.toNat:Int)] _ 1 rfl rfl trivial) (show _=_ from rfl) (by rw[oV.o];unfold maxLen;omega) (by rw[oV.o];omega) (by simp;omega) ?_;rw[oV.o,<-oR.o];intro a2 c2 w2 bu dr aY;have cL:=af bu;have bI:=af aY;clear bu dr aY);go_roundg(m-(i+1));case measure=>omega
   case rel=>
    exact⟨i+1,c2,a2,by omega,rfl,by go_num,rfl,cL,(show Bx _ _ _ from(HB.o.alloc _).cP bI.o (by simp))⟩
  .obtain rfl:i=m:=by omega
   obtain⟨aC,aY⟩:=HEN.o;have q1:∀h,s[i+1]'h=34:=λ_=>aY;have HS:Hd (ab xF wr (.slice a1 i c1) bs):=(show _ by
    have h1:=HA.o.slice (λi h=>h.elim);rw[Qah (by rw[HM.o];omega)]at h1;exact h1);have wT:=yR HS.o;have pX:=af (HX.o wr HB.o.1);go_wp2_with fail;refine(pX.o).mono ?_;rintro e w1⟨rfl,qau⟩;have aO:=af (HB.o.below qau);have qg2:=yR (HS.o.below qau);obtain⟨g0,g1,g2,g3⟩:=ae (aO.o.bJ rfl);obtain⟨f0,f1,f2,f3⟩:=ic (aO.o.bJ rfl);go_wp2_with fail;refine Qae (v:= .tuple #[ke 2 0 (bL bs) 0, .int .i64 ((i:Int)+1+1)]) (by simp[results,results308,go_sem,ke,g0,g1,g2,g3]) rfl ⟨by first|rfl|(congr 3;done)|(congr 3;omega),?_⟩;exact(((aO.o.1.setCell (by simp) _).setCell (by simp) _).setCell (by simp) _).setCell (by simp) _
end
section
open Go.RowKit Go.Shelf
def pI:Go.Shelf.Ren:=⟨λ|99=>324|206=>333|n=>n,λ|9=>9|4=>4|3=>3|n=>n,λ|n=>n⟩
def Iv:Go.Proofs.Lays.n99 prog pI:={
 mixed:=by kernel_rfl
 f99:=Tryz.func324.trans (congrArg some (by kernel_rfl))
 f206:=Tryz.func333.trans (congrArg some (by kernel_rfl))
 t3:=underlying3
 a3:=isAgg3
 z3:=sizeOf3
 v3:=zeroValue3
 t4:=underlying4
 a4:=isAgg4
 z4:=sizeOf4
 v4:=zeroValue4
 t9:=underlying9
 a9:=isAgg9
 z9:=sizeOf9
 v9:=zeroValue9}
def S4:pI.f 99=324:=by kernel_rfl
def Iw(s p:aT)(w:aj):xC 324 #[xS s,xS p] w (gE (xB (Lib.hasPrefix s.data.toList p.data.toList)) w):=by
 have h:=Any.strings_HasPrefix Iv s p w;rw[S4]at h;exact h.mono λe w'⟨h1,h2⟩=>⟨h1,h2.symm⟩
def di:List (List UInt8):=[[61],[60,62],[60],[60,61],[62],[62,61],[38],[43],[45],[42],[47],[37],[40],[41],[44]]
def CJ:Obj:=xK #[xS ⟨#[61]⟩,xS ⟨#[60,62]⟩,xS ⟨#[60]⟩,xS ⟨#[60,61]⟩,xS ⟨#[62]⟩,xS ⟨#[62,61]⟩,xS ⟨#[38]⟩,xS ⟨#[43]⟩,xS ⟨#[45]⟩,xS ⟨#[42]⟩,xS ⟨#[47]⟩,xS ⟨#[37]⟩,xS ⟨#[40]⟩,xS ⟨#[41]⟩,xS ⟨#[44]⟩] 9
def O5(h:cI W B CJ)(hk:k<15):aU W B k (xS (bL (di.getD k []))):=by
 rcases k with _|_|_|_|_|_|_|_|_|_|_|_|_|_|_|k;all_goals first|omega|exact cell_of_heap h rfl
def Iy:∀k:Fin 15,di.getD k.val []∉di.take k.val:=by decide
def Iz(k:Nat)(hk:k<15):di.take (k+1)=di.take k++[di.getD k []]:=by
 rw[Qbb,List.getD_eq_getElem?_getD,Qac (show k<di.length from hk)];rfl
def IA(s:aT)(c:UInt8)(hc:[c]∈di)(hp:∀t∈di,Lib.hasPrefix s.data.toList t=decide (t=[c]))(B:Nat)(w:aj)(hB:cI w B CJ):
 xC 309 #[xS s,xL (some ⟨B,0,none⟩) 15 15] w (gE (xS ⟨#[c]⟩) w):=by
 have tP:Hd (∀k,k<15->aU w B k (xS (bL (di.getD k [])))):=λk hk=>O5 hB hk;have HP:Hd (∀k,k<15->xC 324 #[xS s,xS (bL (di.getD k []))] w (gE (xB (decide (di.getD k []=[c]))) w)):=λk hk=>by
  have h:=Iw s (bL (di.getD k [])) w;have hm:di.getD k []∈di:=by
   rw[List.getD_eq_getElem?_getD,Qac (show k<di.length from hk)];exact List.getElem_mem _
  rw[show(bL (di.getD k [])).data.toList=di.getD k []by simp[bL],hp _ hm]at h;exact h
 have HC:=af hc;clear hc hp hB;have dB:(⟨#[c]⟩:aT).size=1:=rfl;go_enter func309,ntmps309;go_wp2;go_loopg [5,7,10]15(λg r5 _ iv wr=>∃k:Nat,k<=15/\g=15-k/\iv=xI k/\w=wr/\((r5=xS ⟨#[]⟩/\Hd ([c]∉di.take k))\/(r5=xS ⟨#[c]⟩/\Hd ([c]∈di.take k))));case atStart=>exact⟨0,Qbf _,rfl,rfl,rfl, .inl ⟨rfl,(show _∉_ by simp)⟩⟩
 case round=>
  obtain⟨k,hk,rfl,rfl,rfl,hr⟩:=hrel;by_cases aX:k<15
  .have q0:=tP.o k aX;have pX:=af (HP.o k aX);have oR:=af (Iz k aX);have mi:=af (Iy ⟨k,aX⟩);obtain⟨t,ht⟩:=fx (di.getD k []);rw[ht]at q0 pX oR;dsimp only at mi;rw[ht]at mi;clear ht;by_cases htc:t=[c]
   .subst htc;have hd:decide ([c]=[c])=true:=by simp
    rw[hd]at pX;clear hd;have q1:aU w B k (xS ⟨#[c]⟩):=q0;have Re:Hd (xC 324 #[xS s,xS ⟨#[c]⟩] w (gE (xB true) w)):=pX.o;clear q0 pX;rcases hr with⟨rfl,HR⟩|⟨rfl,HR⟩
    .go_wp2_with fail;refine dJ (Re.o) ?_;go_wp2;go_roundg(15-(k+1));case measure=>omega
     case rel=>exact⟨k+1,by omega,rfl,by go_num,rfl, .inr ⟨rfl,(show _∈_ by rw[oR.o];simp)⟩⟩
    .exact absurd HR.o mi.o
   .have hd:decide (t=[c])=false:=by simpa using htc
    rw[hd]at pX;have vq:=af htc;clear hd htc;rcases hr with⟨rfl,HR⟩|⟨rfl,HR⟩;all_goals
     go_wp2_with fail;refine dJ (pX.o) ?_;go_wp2;go_roundg(15-(k+1));case measure=>omega
     case rel=>
      first
       |exact⟨k+1,by omega,rfl,by go_num,rfl, .inl ⟨rfl,(show _∉_ by rw[oR.o];intro h;rcases Qch.1 h with h|h;exact HR.o h;simp at h;exact vq.o h.symm)⟩⟩
       |exact⟨k+1,by omega,rfl,by go_num,rfl, .inr ⟨rfl,(show _∈_ by rw[oR.o];exact List.mem_append_left _ HR.o)⟩⟩
  .obtain rfl:k=15:=by omega
   rcases hr with⟨rfl,HR⟩|⟨rfl,HR⟩
   .exact absurd HC.o HR.o
   .go_wp2;go_ret;exact⟨rfl,rfl⟩
def ZI {c:UInt8}:de c=sQ (c.toNat:Int):=by
 unfold de sQ;rw[sC,ny];congr 1;rw[Bool.eq_iff_iff];simp;constructor
 .rintro rfl;rfl
 .intro h;rw[<-UInt8.toNat_inj];simpa using(by omega:c.toNat=95)
def O7(s:aT)(h0:0<s.size)(c:Int)(hc:∀h,((s[0]'h).toNat:Int)=c)(h1:48<=c)(h2:c<=57)(k n:Int)(t:aT)(m:Int)(w:aj)
 (HN:Hd (∀W,xC 306 #[xS s] W (cN (.tuple #[ke k n t 0,xI m]) W))):
 xC 277 #[xS s] w (cN (.tuple #[ke k n t 0,xI m]) w):=by
 go_enter func277,ntmps277;go_wp2_with fail;refine cG (HN.o _) λw1 aC=> ?_;obtain⟨g0,g1,g2,g3⟩:=ae (boxed aC);obtain⟨f0,f1,f2,f3⟩:=ic (boxed aC);have HB:=af (aQ aC);unfold ke;go_wp2_with fail;refine Qae (v:= .tuple #[ke k n t 0,xI m]) (by simp[results,results277,go_sem,ke,g0,g1,g2,g3]) rfl ⟨rfl,?_⟩;exact(((HB.o.setCell (by simp) _).setCell (by simp) _).setCell (by simp) _).setCell (by simp) _
def Me(s:aT)(h0:0<s.size)(c:Int)(hc:∀h,((s[0]'h).toNat:Int)=c)(h1:97<=c)(h2:c<=122)(k n:Int)(t:aT)(m:Int)(w:aj)
 (HN:Hd (∀W,xC 307 #[xS s] W (cN (.tuple #[ke k n t 0,xI m]) W))):
 xC 277 #[xS s] w (cN (.tuple #[ke k n t 0,xI m]) w):=by
 have a1:48<=c:=by omega
 have a2:¬c<=57:=by omega
 go_enter func277,ntmps277;go_wp2_with fail;refine cG (HN.o _) λw1 aC=> ?_;obtain⟨g0,g1,g2,g3⟩:=ae (boxed aC);obtain⟨f0,f1,f2,f3⟩:=ic (boxed aC);have HB:=af (aQ aC);unfold ke;go_wp2_with fail;refine Qae (v:= .tuple #[ke k n t 0,xI m]) (by simp[results,results277,go_sem,ke,g0,g1,g2,g3]) rfl ⟨rfl,?_⟩;exact(((HB.o.setCell (by simp) _).setCell (by simp) _).setCell (by simp) _).setCell (by simp) _
def Mf(s:aT)(h0:0<s.size)(hc:∀h,((s[0]'h).toNat:Int)=34)(k n:Int)(t:aT)(m:Int)(w:aj)
 (HN:Hd (∀W,aq w W->xC 308 #[xS s] W (cN (.tuple #[ke k n t 0,xI m]) W))):
 xC 277 #[xS s] w (cN (.tuple #[ke k n t 0,xI m]) w):=by
 go_enter func277,ntmps277;go_wp2_with fail;refine cG (HN.o _ bO) λw1 aC=> ?_;obtain⟨g0,g1,g2,g3⟩:=ae (boxed aC);obtain⟨f0,f1,f2,f3⟩:=ic (boxed aC);have HB:=af (aQ aC);unfold ke;go_wp2_with fail;refine Qae (v:= .tuple #[ke k n t 0,xI m]) (by simp[results,results277,go_sem,ke,g0,g1,g2,g3]) rfl ⟨rfl,?_⟩;exact(((HB.o.setCell (by simp) _).setCell (by simp) _).setCell (by simp) _).setCell (by simp) _
def BB(s:aT)(h0:0<s.size)(c:UInt8)(hc:∀h,s[0]'h=c)(h1:c∈([38,43,45,42,47,37,40,41,44,61,62]:List UInt8))(hp:∀t∈di,Lib.hasPrefix s.data.toList t=decide (t=[c]))(w:aj):
 xC 277 #[xS s] w (cN (.tuple #[ke 4 0 ⟨#[c]⟩ 0,xI 1]) w):=by
 have jn:[c]∈di:=by
  simp only[Qdf,List.not_mem_nil,or_false]at h1;rcases h1 with rfl|rfl|rfl|rfl|rfl|rfl|rfl|rfl|rfl|rfl|rfl<;>decide
 have HLG:Hd (∀(W:aj)(B:Nat),cI W B CJ->_):=λW B hB=>IA s c jn hp B W hB;obtain⟨d,hd⟩:=fx ((c.toNat:Int));have hcd:((48<=d/\¬d<=57)\/¬48<=d)/\¬97<=d/\(d==34)=false:=by
  simp only[Qdf,List.not_mem_nil,or_false]at h1;subst hd;rcases h1 with rfl|rfl|rfl|rfl|rfl|rfl|rfl|rfl|rfl|rfl|rfl<;>decide
 obtain⟨iB,jh,Sb⟩:=hcd;have q0:∀h,((s[0]'h).toNat:Int)=d:=λh=>by rw[hc h];exact hd
 have dB:(⟨#[c]⟩:aT).size=1:=rfl;have iG:((⟨#[c]⟩:aT).toList==(⟨#[]⟩:aT).toList)=false:=by
  cases hq:((⟨#[c]⟩:aT).toList==(⟨#[]⟩:aT).toList)with
  |false=>rfl
  |true=>have:=congrArg ByteArray.size (uH hq);cases this
 rcases iB with⟨iB,hc4⟩|iB;all_goals
  go_enter func277,ntmps277;go_wp2_with fail;refine dJ (HLG.o _ _ (by exact(Bx.dh w pc0 CJ).cE rfl)) ?_;go_wp2_with fail;refine Qae (v:= .tuple #[ke 4 0 ⟨#[c]⟩ 0,xI 1]) (by simp[results,results277,go_sem,ke]) rfl ⟨rfl,?_⟩;exact bO.alloc (by simp) _
def qcz(c x:UInt8)(r:List UInt8):Lib.hasPrefix (c::r) [x]=decide (x=c):=by
 unfold Lib.hasPrefix;rw[Bool.eq_iff_iff];simp[List.isPrefixOf]
def ZJ(c x y:UInt8)(r:List UInt8)(h:x≠c\/r.head?≠some y):Lib.hasPrefix (c::r) [x,y]=false:=by
 cases hq:Lib.hasPrefix (c::r) [x,y]with
 |false=>rfl
 |true=>
  unfold Lib.hasPrefix at hq;cases r with
  |nil=>simp[List.isPrefixOf]at hq
  |cons d r=>simp[List.isPrefixOf]at hq;rcases h with h|h;exact absurd hq.1 h;simp at h;exact absurd hq.2.symm h
def EV(c:UInt8)(r:List UInt8)(h:c∈([38,43,45,42,47,37,40,41,44,61]:List UInt8)\/(c=62/\r.head?≠some 61)):∀t∈di,Lib.hasPrefix (c::r) t=decide (t=[c]):=by
 intro t ht;simp only[di,Qdf,List.not_mem_nil,or_false]at ht;have Sd:c≠60:=by
  rcases h with h|h
  .intro e;subst e;revert h;decide
  .rw[h.1];decide
 have h61:(62:UInt8)≠c\/r.head?≠some 61:=by
  rcases h with h|h
  .left;intro e;subst e;revert h;decide
  .exact .inr h.2
 rcases ht with rfl|rfl|rfl|rfl|rfl|rfl|rfl|rfl|rfl|rfl|rfl|rfl|rfl|rfl|rfl;all_goals first
  |(rw[qcz];simp;done)
  |(rw[ZJ _ _ _ _ (.inl (λe=>Sd e.symm))];simp)
  |(rw[ZJ _ _ _ _ h61];simp)
def O8(s:aT)(hs:s.size<=200)(kd n:Nat)(str:List UInt8)(size:Nat)(h:sw s.data.toList=some ((kd,n,str),size))(w:aj)(hT:Tb w):
 (xC 277 #[xS s] w (cN (.tuple #[ke kd n (bL str) 0,xI (size:Int)]) w))/\0<size/\size<=s.size/\1<=kd:=by
 cases hl:s.data.toList with
 |nil=>rw[hl]at h;simp[sw]at h
 |cons c r=>
  rw[hl]at h
  have hlen:r.length+1=s.size:=by rw[<-bh,hl];rfl
  have ha:0<s.size:=by omega
  have h0:s.data.toList[0]? =some c:=by rw[hl];rfl
  have mB:∀h,s[0]'h=c:=λh=>by have:=du s 0 h;rw[h0]at this;simpa using this.symm
  have Ua:∀h,((s[0]'h).toNat:Int)=(c.toNat:Int):=λh=>by rw[mB h]
  unfold sw at h
  dsimp only at h
  by_cases hd:ou c=true
  .rw[if_pos hd]at h
   have hr:su r=false:=by
    cases hq:su r with
    |false=>rfl
    |true=>rw[hq]at h;simp at h
   rw[hr]at h
   simp only[Bool.false_eq_true,if_false,Qcf,Prod.mk.injEq]at h
   obtain⟨⟨rfl,rfl,rfl⟩,rfl⟩:=h
   have af:=hd
   rw[ny]at af
   obtain⟨e1,e2⟩:=of_decide_eq_true af
   refine⟨?_,by omega,by omega,by omega⟩
   have bA:=O7 s ha (c.toNat:Int) Ua e1 e2 1 ((c.toNat:Int)-48) ⟨#[]⟩ 1 w (show∀W,_ fromλW=>AB s hs ha (c.toNat:Int) (Ua ha) e1 e2 (λh1 hx=>by
    have hb:=du s 1 h1
    rw[hl]at hb
    cases r with
    |nil=>simp at hb
    |cons x y=>
     simp at hb
     have rZ:ou x=true:=by rw[ny];rw[<-hb]at hx;exact decide_eq_true hx
     have xH:ou x=false:=hr
     rw[rZ]at xH;cases xH) W)
   rw[show((c.toNat-48:Nat):Int)=(c.toNat:Int)-48 from by omega]
   exact bA
  .rw[if_neg hd]at h
   by_cases jd:qQ c=true
   .rw[if_pos jd]at h
    by_cases hn:qR ((c::r).takeWhile de)=true
    .rw[if_pos hn]at h
     simp only[Qcf,Prod.mk.injEq]at h
     obtain⟨⟨rfl,rfl,rfl⟩,rfl⟩:=h
     have hw:de c=true:=by unfold de;rw[jd];rfl
     have wQ:0<((c::r).takeWhile de).length:=by rw[List.takeWhile_cons_of_pos hw];simp
     have hle:((c::r).takeWhile de).length<=(c::r).length:=(List.takeWhile_prefix de).length_le
     have qdj:((c::r).takeWhile de).length<=r.length+1:=by simpa using hle
     have TR:(s.extract 0 ((c::r).takeWhile de).length).data.toList=(c::r).takeWhile de:=by
      rw[Lib.extract_data,List.drop_zero,hl,Nat.sub_zero,xb]
     have Ve:=jd
     rw[sC]at Ve
     obtain⟨e1,e2⟩:=of_decide_eq_true Ve
     have h20:((c::r).takeWhile de).length<=20:=by
      unfold qR at hn;simp only[Qce,decide_eq_true_eq]at hn;exact hn.1.1.2
     refine⟨?_,wQ,by omega,by omega⟩
     have bA:=Me s ha (c.toNat:Int) Ua e1 e2 3 0 (bL ((c::r).takeWhile de)) (((c::r).takeWhile de).length:Int) w (show∀W,_ fromλW=>ES s hs _ (by omega) h20 (λk hk hkm=>by
      obtain⟨v,hv⟩:∃v,((c::r).takeWhile de)[k]? =some v:=⟨_,Qac hkm⟩
      obtain⟨h3,h4⟩:=yd hv
      have hb:=du s k hk
      rw[hl,h3]at hb
      cases hb
      rw[<-ZI];exact h4) (λhk=>by
      have hb:=du s _ hk
      rw[hl]at hb
      rw[<-ZI];exact Ob hb) (bL ((c::r).takeWhile de)) (ff TR) (by rw[<-p9];simpa [bL]using hn) W)
     exact bA
    .rw[if_neg hn]at h;cases h
   .rw[if_neg jd]at h
    by_cases wR:c=34
    .rw[if_pos wR]at h
     subst wR
     have hq:r[(r.takeWhile eX).length]? =some 34/\jK (r.takeWhile eX)=true/\kd=2/\n=0/\str=r.takeWhile eX/\size=(r.takeWhile eX).length+2:=by
      split at h
      .rename_i x hx
       split at h
       .simp only[Qcf,Prod.mk.injEq]at h
        obtain⟨⟨rfl,rfl,rfl⟩,rfl⟩:=h
        refine⟨?_,by assumption,rfl,rfl,rfl,rfl⟩
        have h5:=congrArg (λl=>l[0]?) hx
        simp only[List.getElem?_drop,Nat.add_zero]at h5
        simpa using h5
       .cases h
      .cases h
     obtain⟨hq,ht,rfl,rfl,rfl,rfl⟩:=hq
     have aX:=(Qad.1 hq).1
     have YK:r=r.takeWhile eX++34::r.drop ((r.takeWhile eX).length+1):=by
      have e1:r.drop (r.takeWhile eX).length=34::r.drop ((r.takeWhile eX).length+1):=by
       rw[List.drop_eq_getElem_cons aX,(Qad.1 hq).2]
      rw[<-e1]
      conv=>lhs;rw[<-List.take_append_drop (r.takeWhile eX).length r]
      rw[xb]
     refine⟨?_,by omega,by omega,by omega⟩
     have bA:=Mf s ha (λh=>by rw[mB h];rfl) 2 0 (bL (r.takeWhile eX)) (((r.takeWhile eX).length+2:Nat):Int) w (show∀W,_->_ fromλW hb=>EU s hs (r.takeWhile eX) (r.drop ((r.takeWhile eX).length+1)) (by rw[hl];congr 1) (λc hc=>by
      obtain⟨i,hi⟩:=List.getElem?_of_mem hc
      exact(yd hi).2) ht W (hT.below hb))
     exact bA
    .rw[if_neg wR]at h
     by_cases tY:[38,43,45,42,47,37,40,41,44,61].contains c=true
     .rw[if_pos tY]at h
      simp only[Qcf,Prod.mk.injEq]at h
      obtain⟨⟨rfl,rfl,rfl⟩,rfl⟩:=h
      have hm:c∈([38,43,45,42,47,37,40,41,44,61]:List UInt8):=by simpa using tY
      refine⟨BB s ha c mB (by exact List.mem_append_left [62] hm) ?_ w,by omega,by omega,by omega⟩
      intro t ht
      rw[hl]
      exact EV c r (.inl hm) t ht
     .rw[if_neg tY]at h
      by_cases JI:c=62/\r.head?≠some 61
      .rw[if_pos JI]at h
       simp only[Qcf,Prod.mk.injEq]at h
       obtain⟨⟨rfl,rfl,rfl⟩,rfl⟩:=h
       refine⟨BB s ha c mB (by rw[JI.1];decide) ?_ w,by omega,by omega,by omega⟩
       intro t ht
       rw[hl]
       exact EV c r (.inr JI) t ht
      .rw[if_neg JI]at h;cases h
end
section
open Go.RowKit
theorem sT {size:Nat}:∀{css:List (List an)},(∀cs∈css,cs.length=size)->css.flatten.length=css.length*size
 |[],_=>by simp
 |a::r,h=>by rw[List.flatten_cons,Qda,h a (by simp),sT λcs hc=>h cs (by simp[hc]),Qcc,Nat.succ_mul,Nat.add_comm]
def gn {α:Type} [aA α]{w:aj}{xs:List α}{off:Nat}(hc:xs.length<=cap)(hm:cap<=maxLen)(hB:¬M b)(hb:b<w.heap.size)
 (h:∀(i:Nat)(x:α),xs[i]? =some x->∃cs,aA.rep M w cs x/\∀(j:Nat)(u:an),cs[j]? =some u->aU w b (off+i*aA.size α+j) u):ab M w (xL (some ⟨b,off,none⟩) xs.length cap) xs:=by
 have hex:∀i:Fin xs.length,∃cs:List an,aA.rep M w cs xs[i]/\∀(j:Nat)(u:an),cs[j]? =some u->aU w b (off+i*aA.size α+j) u:=λi=>h i xs[i] (by simp);obtain⟨f,hf⟩:=Classical.axiomOfChoice hex;have hlen:∀(i:Nat)(cs:List an),(List.ofFn f)[i]? =some cs->cs.length=aA.size α:=λi cs bD=>by
  rw[List.getElem?_ofFn]at bD;split at bD
  .cases bD;exact aA.len (hf _).1
  .cases bD
 have Aj:(List.ofFn f).flatten.length=xs.length*aA.size α:=by
  rw[sT (size:=aA.size α) λcs hc=>by obtain⟨i,hi⟩:=List.mem_iff_getElem?.1 hc;exact hlen i cs hi];simp
 refine⟨List.ofFn f,⟨Aj,_,cap,rfl,hc,hm,λ_=>⟨b,off,rfl,hB,hb,λj u hu=> ?_⟩⟩,by simp,λi cs x bD hx=> ?_⟩
 .have hj:=(Qad.1 hu).1;rw[Aj]at hj;have DH:0<aA.size α:=by
   rcases Nat.eq_zero_or_pos (aA.size α)with h0|h0
   .rw[h0]at hj;omega
   .exact h0
  have hi:j/aA.size α<xs.length:=Nat.div_lt_of_lt_mul (by rw[Nat.mul_comm];exact hj);have hr:j%aA.size α<aA.size α:=Nat.mod_lt _ DH;have JW:(List.ofFn f)[j/aA.size α]? =some (f ⟨_,hi⟩):=by rw[List.getElem?_ofFn,dif_pos hi]
  have hl:=hlen _ _ JW;have aG:=(hf ⟨_,hi⟩).2 (j%aA.size α) _ (Qac (by rw[hl];exact hr));have og:=kO hlen _ _ (j%aA.size α) _ JW (Qac (by rw[hl];exact hr));have hjj:j/aA.size α*aA.size α+j%aA.size α=j:=by rw[Nat.mul_comm];exact Nat.div_add_mod j _
  rw[hjj,hu]at og;cases og;dsimp only at aG;rw[Nat.add_assoc,hjj]at aG;exact aG
 .rw[List.getElem?_ofFn]at bD;split at bD
  .rename_i hi;cases bD;rw[Qac hi]at hx;cases hx;exact(hf ⟨i,hi⟩).1
  .cases bD
abbrev V5:=Nat->Nat->aj->List an->au->Prop
def yS(R:V5):Prop:=∀lo lo' hi w w' cs x,R lo hi w cs x->lo'<=lo->hi<=w.heap.size->(∀k,lo<=k->k<hi->w'.heap[k]? =w.heap[k]?)->R lo' hi w' cs x
def kz(R:V5)(B:Nat)(w:aj)(n:Nat)(xs:List au)(s:Nat->Nat):Prop:=
 ∃cur:Array an,w.heap[B]? =some (.cells cur 30 (0,0))/\cur.size=n*4/\xs.length<=n/\B<s 0/\(∀i,s i<=s (i+1))/\s xs.length<=w.heap.size/\
  ∀(i:Nat)(x:au),xs[i]? =some x->∃a b c d,cur[i*4]? =some a/\cur[i*4+1]? =some b/\cur[i*4+2]? =some c/\cur[i*4+3]? =some d/\R (s i) (s (i+1)) w [a,b,c,d] x
def ld(R:V5)(B:Nat)(w:aj)(n:Nat)(xs:List au):Prop:=∃s,kz R B w n xs s
section
variable {R:V5}{B:Nat}{w w':aj}{n:Nat}{xs:List au}{s:Nat->Nat}
theorem ld.made(cur:Array an)(h:cI w B (.cells cur 30 (0,0)))(hs:cur.size=n*4):ld R B w n []:=
 ⟨λ_=>w.heap.size,cur,h,hs,Qbf _,(Qaa.1 h).1,λ_=>bq,bq,λi x h=>by simp at h⟩
theorem ld.lt(h:ld R B w n xs):B<w.heap.size:=by obtain⟨_,cur,h1,_⟩:=h;exact(Qaa.1 h1).1
theorem iX(h:∀i,s i<=s (i+1)):∀{i j},i<=j->s i<=s j
 |i,0,hij=>by rw[Nat.le_zero.1 hij];exact bq
 |i,j+1,hij=>by
  rcases Nat.lt_or_ge i (j+1)with hl|hl
  .exact Qcg (iX h (Nat.le_of_lt_succ hl)) (h j)
  .rw[Nat.le_antisymm hij hl];exact Qab _
theorem kz.stay(hR:yS R)(h:kz R B w n xs s)(hz:w.heap.size<=w'.heap.size)(hk:∀k,B<=k->k<w.heap.size->w'.heap[k]? =w.heap[k]?):kz R B w' n xs s:=by
 obtain⟨cur,h1,h2,h3,h4,h5,h6,h7⟩:=h;refine⟨cur,(hk B bq (Qaa.1 h1).1).trans h1,h2,h3,h4,h5,Qcg h6 hz,λi x hx=> ?_⟩;obtain⟨a,b,c,d,p0,p1,p2,p3,hr⟩:=h7 i x hx;have hi:=(Qad.1 hx).1;have hle:s (i+1)<=s xs.length:=iX h5 hi;have K8:s 0<=s i:=iX h5 (Qbf _);exact⟨a,b,c,d,p0,p1,p2,p3,hR _ _ _ _ _ _ _ hr bq (by omega) λk k1 k2=>hk k (by omega) (by omega)⟩
theorem ld.stay(hR:yS R)(h:ld R B w n xs)(hz:w.heap.size<=w'.heap.size)(hk:∀k,B<=k->k<w.heap.size->w'.heap[k]? =w.heap[k]?):ld R B w' n xs:=by
 obtain⟨s,h⟩:=h;exact⟨s,h.stay hR hz hk⟩
theorem kz.below(hR:yS R)(h:kz R B w n xs s)(hb:aq w w'):kz R B w' n xs s:=h.stay hR hb.size λk _ k2=>hb.block k k2
theorem ld.below(hR:yS R)(h:ld R B w n xs)(hb:aq w w'):ld R B w' n xs:=by obtain⟨s,h⟩:=h;exact⟨s,h.below hR hb⟩
theorem ld.cell(h:ld R B w n xs)(hj:j<n*4):∃v,aU w B j v/\w.frozen? ⟨B,j,none⟩=false:=by
 obtain⟨_,cur,h1,h2,_⟩:=h;exact⟨cur[j]'(by omega),cell_of_heap h1 (by simp[h2,hj]),ag h1 j⟩
def dj {o:Nat}{a b c d:an}(h:o+4<=cur.size)(j:Nat):
 ((((cur.setIfInBounds o a).setIfInBounds (o+1) b).setIfInBounds (o+2) c).setIfInBounds (o+3) d)[j]? =
   if j=o then some a else if j=o+1 then some b else if j=o+2 then some c else if j=o+3 then some d else cur[j]? :=by
 have q0:o<cur.size:=by omega
 have q1:o+1<cur.size:=by omega
 have q2:o+2<cur.size:=by omega
 have q3:o+3<cur.size:=by omega
 by_cases e0:j=o
 .subst e0;simp[Array.getElem?_setIfInBounds,q0]
 by_cases e1:j=o+1
 .subst e1;simp[Array.getElem?_setIfInBounds,q1]
 by_cases e2:j=o+2
 .subst e2;simp[Array.getElem?_setIfInBounds,q2]
 by_cases e3:j=o+3
 .subst e3;simp[Array.getElem?_setIfInBounds,q3]
 rw[if_neg e0,if_neg e1,if_neg e2,if_neg e3];simp only[Array.getElem?_setIfInBounds,Array.size_setIfInBounds,if_neg (Ne.symm e0),if_neg (Ne.symm e1),if_neg (Ne.symm e2),if_neg (Ne.symm e3)]
def gJ(w:aj)(B o:Nat)(a b c d:an):aj:=(((w.setCell ⟨B,o,none⟩ a).setCell ⟨B,o+1,none⟩ b).setCell ⟨B,o+2,none⟩ c).setCell ⟨B,o+3,none⟩ d
def gp {o:Nat}{a b c d:an}(h:k≠B):(gJ w B o a b c d).heap[k]? =w.heap[k]? :=by
 unfold gJ;rw[Qag _ _ _ _ (by simpa using h),Qag _ _ _ _ (by simpa using h),Qag _ _ _ _ (by simpa using h),Qag _ _ _ _ (by simpa using h)]
def kJ {o:Nat}{a b c d:an}:(gJ w B o a b c d).heap.size=w.heap.size:=by simp[gJ,World.setCell]
theorem ld.snoc(hR:yS R)(h:ld R B w n xs)(hb:aq w w')(hn:xs.length<n){x:au}{a b c d:an}(hx:R w.heap.size w'.heap.size w' [a,b,c,d] x):
 ld R B (gJ w' B (xs.length*4) a b c d) n (xs++[x]):=by
 have hBl:=h.lt;obtain⟨s,hS⟩:=h;have hs6:s xs.length<=w.heap.size:=by obtain⟨_,_,_,_,_,_,h6,_⟩:=hS;exact h6
 obtain⟨cur,h1,h2,h3,h4,h5,h6,h7⟩:=hS.below hR hb;have hzz:=hb.size;have qay:∀i,(λj=>if j<=xs.length then s j else w'.heap.size) i<=(λj=>if j<=xs.length then s j else w'.heap.size) (i+1):=λi=>by
  have h0:=h5 i;have h00:i<=xs.length->s i<=s xs.length:=λh=>iX h5 h;dsimp only;split<;>split<;>omega
 refine⟨λj=>if j<=xs.length then s j else w'.heap.size,_,dM h1 a b c d,by simp[h2],by simp;omega,by simpa using h4,qay,by simp[kJ,Nat.not_succ_le_self],λi y hy=> ?_⟩;have bD:xs.length*4+4<=cur.size:=by omega
 have cm:∀k,k≠B->(gJ w' B (xs.length*4) a b c d).heap[k]? =w'.heap[k]? :=λk hk=>gp hk;by_cases hi:i<xs.length
 .rw[Qbc hi]at hy;obtain⟨a',b',c',d',p0,p1,p2,p3,hr⟩:=h7 i y hy;have K8:s 0<=s i:=iX h5 (Qbf _);have hle:s (i+1)<=s xs.length:=iX h5 hi;refine⟨a',b',c',d',?_,?_,?_,?_,?_⟩
  .rw[dj bD,if_neg (by omega),if_neg (by omega),if_neg (by omega),if_neg (by omega)];exact p0
  .rw[dj bD,if_neg (by omega),if_neg (by omega),if_neg (by omega),if_neg (by omega)];exact p1
  .rw[dj bD,if_neg (by omega),if_neg (by omega),if_neg (by omega),if_neg (by omega)];exact p2
  .rw[dj bD,if_neg (by omega),if_neg (by omega),if_neg (by omega),if_neg (by omega)];exact p3
  .dsimp only;rw[if_pos (by omega),if_pos (by omega)];exact hR _ _ _ _ _ _ _ hr bq (by omega) λk k1 k2=>cm k (by omega)
 .have hlen:=(Qad.1 hy).1;have e:i=xs.length:=by simp at hlen;omega
  subst e;have e2:y=x:=by simpa using hy.symm
  subst e2;refine⟨a,b,c,d,?_,?_,?_,?_,?_⟩
  .rw[dj bD,if_pos rfl]
  .rw[dj bD,if_neg (by omega),if_pos rfl]
  .rw[dj bD,if_neg (by omega),if_neg (by omega),if_pos rfl]
  .rw[dj bD,if_neg (by omega),if_neg (by omega),if_neg (by omega),if_pos rfl]
  .dsimp only;rw[if_pos bq,if_neg (by omega)];exact hR _ _ _ _ _ _ _ hx hs6 bq λk k1 k2=>cm k (by omega)
end
def pJ(b:Nat)(w:aj)(l:List au):Prop:=
 ∃cur:Array an,w.heap[b]? =some (.cells cur 30 (0,0))/\cur.size=l.length*4/\∀(i:Nat)(x:au),l[i]? =some x->∃k n t,x= .mk k n t []/\t.size<=maxLen/\
  cur[i*4]? =some (xI k)/\cur[i*4+1]? =some (xI n)/\cur[i*4+2]? =some (xS t)/\cur[i*4+3]? =some (xL none 0 0)
def mS:V5:=λlo hi w cs x=>∃k n t l a,x=au.mk k n t l/\t.size<=maxLen/\cs=[xI k,xI n,xS t,xL a l.length l.length]/\l.length<=12/\
 (l=[]/\a=none\/∃b,0<l.length/\lo<=b/\b<hi/\a=some ⟨b,0,none⟩/\pJ b w l)
def jx:yS mS:=λlo lo' hi w w' cs x h h1 h2 h3=>by
 obtain⟨k,n,t,l,a,e1,e2,e3,e5,e4⟩:=h;refine⟨k,n,t,l,a,e1,e2,e3,e5,?_⟩;rcases e4 with e4|⟨b,b0,b1,b2,b3,cur,c1,c2,c3⟩
 .exact .inl e4
 .exact .inr ⟨b,b0,by omega,b2,b3,cur,(h3 b b1 b2).trans c1,c2,c3⟩
theorem pJ.slice {w:aj}(h:pJ b w l)(hl:l.length<=12)(hM:¬M b):ab M w (xL (some ⟨b,0,none⟩) l.length l.length) l:=by
 obtain⟨cur,h1,h2,h3⟩:=h;refine gn bq (by unfold maxLen;omega) hM (Qaa.1 h1).1 λi x hx=> ?_;obtain⟨k,n,t,rfl,ht,p0,p1,p2,p3⟩:=h3 i x hx;refine⟨_,eN.iff.2 ⟨_,rfl,ab.nil _ _,ht⟩,λj u hu=> ?_⟩;rw[Nat.zero_add,show aA.size au=4 from rfl];rcases j with _|_|_|_|j
 .simp at hu;subst hu;exact cell_of_heap h1 p0
 .simp at hu;subst hu;exact cell_of_heap h1 p1
 .simp at hu;subst hu;exact cell_of_heap h1 p2
 .simp at hu;subst hu;exact cell_of_heap h1 p3
 .simp at hu
theorem mS.rep {lo hi:Nat}{w:aj}{x:au}(h:mS lo hi w cs x)(hM:∀i,M i->i<lo):aA.rep (α:=au) M w cs x:=by
 obtain⟨k,n,t,l,a,rfl,ht,rfl,hl,⟨rfl,rfl⟩|⟨b,b0,b1,b2,rfl,hr⟩⟩:=h
 .exact eN.iff.2 ⟨_,rfl,ab.nil _ _,ht⟩
 .exact eN.iff.2 ⟨_,rfl,hr.slice hl λh=>by have:=hM b h;omega,ht⟩
theorem ld.slice {B:Nat}{w:aj}{xs:List au}(h:ld mS B w xs.length xs)(hl:xs.length<=maxLen)(hM:∀i,M i->i<B):ab M w (xL (some ⟨B,0,none⟩) xs.length xs.length) xs:=by
 obtain⟨s,cur,h1,h2,h3,h4,h5,h6,h7⟩:=h;refine gn bq hl (λh=>by have:=hM B h;omega) (Qaa.1 h1).1 λi x hx=> ?_;obtain⟨a,b,c,d,p0,p1,p2,p3,hr⟩:=h7 i x hx;have K8:s 0<=s i:=iX h5 (Qbf _);refine⟨_,hr.rep λj hj=>by have:=hM j hj;omega,λj u hu=> ?_⟩;rw[Nat.zero_add,show aA.size au=4 from rfl];rcases j with _|_|_|_|j
 .simp at hu;subst hu;exact cell_of_heap h1 p0
 .simp at hu;subst hu;exact cell_of_heap h1 p1
 .simp at hu;subst hu;exact cell_of_heap h1 p2
 .simp at hu;subst hu;exact cell_of_heap h1 p3
 .simp at hu
def Wp {l:List aB}(h:ab M w cv l)(hx:l[k]? =some x)(N:aS)(W:aj):
 aA.rep (α:=aB) N W [xI x.kind,xS x.field,xS x.name,xS x.more,xI x.type.kind,xI x.type.of,xS x.expr,xS x.other] x:=by
 obtain⟨a,cap,rfl,hl,_,hc⟩:=h.open_;have hk:=(Qad.1 hx).1;obtain⟨b,off,rfl,_,hb,aG⟩:=hc (by omega);obtain⟨cs,⟨rfl,hs⟩,_⟩:=aG k x hx;exact⟨rfl,hs⟩
theorem lE(hK:B<=K):∀(vs:List an)(o:Nat){w W:aj},Below B w W->Below B w (W.setCells K o vs)
 |[],_,_,_,h=>h
 |v::r,o,_,_,h=>lE hK r (o+1) (h.setCell (p:=⟨K,o,none⟩) hK v)
def Qm(k t o:Int)(f n m e r:aT)(w:aj):xC 148 #[.agg #[xI k,xS f,xS n,xS m,xI t,xI o,xS e,xS r]] w λq w'=>q=xR (.agg #[xI k,xS f,xS n,xS m,xI t,xI o,xS e,xS r])/\aq w w':=by
 go_enter func148,ntmps148;go_wp2_with fail;refine Qae (v:= .agg #[xI k,xS f,xS n,xS m,xI t,xI o,xS e,xS r]) (by simp[results,results148,go_sem]) rfl ⟨rfl,?_⟩;exact bO.alloc (by simp) _
def wN(l:List aB)(hl:l.length<=12)(h0:0<l.length)(M:aS)(w:aj)(v:an)(hM:Bd M w)(hs:ab M w v l):
 xG 147 #[v, .func (.func 148) #[] #[]] w λv' w'=>ab M w' v' l:=by
 obtain⟨i0,dz,dX,cY,dA⟩:=info_parts vF
 have HC:Hd (∀(i:Nat)(x:aB),l[i]? =some x->_):=λi x hx=>And.intro (Wp hs hx) (pC hs hx)
 obtain⟨a,bQ,rfl,cK,qE,_⟩:=hs.open_
 generalize hn:l.length=n at*
 have ek:=af hn
 have tN:((n:Int)==0)=false:=by simp;omega
 obtain⟨cur,Cb,bD⟩:=mR (P:=prog) w 102 159 i0 _ underlying102 dz dX n (by omega) (by omega)
 have Nt:Hd (dD (α:=aB) M w.heap.size 159 (w.alloc (.cells cur 159)) n []):=dD.made cur (Qbh w _) (by rw[bD,cY];rfl)
 go_enter func147,ntmps147
 go_wp2
 go_loopg [6,7,16]n(λg _ _ iv wr=>∃i:Nat,i<=n/\g=n-i/\iv=xI i/\Hd (dD M w.heap.size 159 wr n (l.take i))/\Hd (aq w wr))
 case atStart=>exact⟨0,Qbf _,rfl,rfl,Nt,bO⟩
 case round=>
  obtain⟨i,hi,rfl,rfl,HA,HB⟩:=hrel
  have hsz:w.heap.size<wr.heap.size:=HA.o.lt
  by_cases aX:i<n
  .obtain⟨⟨xk,x1,x2,x3,⟨x4,x5⟩,x6,x7⟩,hx⟩:=dQ l i (by rw[ek.o];exact aX)
   obtain⟨iO,b,off,cap,hv,hb,aw⟩:=HC.o i _ hx
   obtain⟨rfl,rfl⟩:=gY hv
   obtain⟨q0,q1,q2,q3,q4,q5,q6,q7⟩:=aw wr HB.o
   have oV:=af (show(l.take i).length=i by have:=ek.o;rw[Qdb];omega)
   have oR:=af (show l.take (i+1)=l.take i++[⟨xk,x1,x2,x3,⟨x4,x5⟩,x6,x7⟩]by rw[Qbb,hx];rfl)
   have tM:=af iO
   dsimp only at q0 q1 q2 q3 q4 q5 q6 q7
   go_wp2_with fail
   refine cG (Qm _ _ _ _ _ _ _ _ _) λw1 aC=> ?_
   have uf:=af (tM.o (orM M w.heap.size) w1)
   have aO:=af (aQ aC)
   have kj:=af (HA.o.below aO.o)
   have YT:i*8+7<n*8:=by omega
   have hTH:w1.there w.heap.size (i*8) 8:=λj hj=>by
    obtain⟨u,p,f⟩:=kj.o.cell (j:=i*8+j) (by show _<n*8;omega)
    exact⟨by rw[p];rfl,f⟩
   have qfm:(Tryz.prog.info? 159).map (·.size)=some 8:=by simp[dz,cY]
   have qce:(#[xI xk,xS x1,xS x2,xS x3,xI x4,xI x5,xS x6,xS x7]:Array an).all (·.oneCell')=true:=by simp[Value.oneCell']
   have QJ:=af (And.intro hTH (And.intro qfm qce))
   go_wp2_with(with_reducible refine wpList_store_mid ?_ 159 (.tmp 26) (.tmp 25) ?_ w.heap.size (i*8) #[xI xk,xS x1,xS x2,xS x3,xI x4,xI x5,xS x6,xS x7] ?_ ?_ ?_ ?_ ?_ ?_
               .exact rfl
               .exact rfl
               .exact rfl
               .exact rfl
               .exact QJ.o.1
               .exact QJ.o.2.1
               .exact QJ.o.2.2)
   go_roundg(n-(i+1))
   case measure=>omega
   case rel=>
    refine⟨i+1,by omega,rfl,by go_num,(show dD _ _ _ _ _ _ by rw[oR.o];exact kj.o.ZZ oV.o aX uf.o),(show Below _ _ _ from ?_)⟩
    exact lE (by omega) _ _ (HB.o.trans (aO.o.mono (by omega)))
  .go_wp2
   go_ret
   refine⟨_,rfl,?_,HB.o⟩
   have h1:=HA.o
   rw[Qah (by rw[ek.o];omega)]at h1
   exact h1.slice ek.o (λh=>by have:=hM _ h;omega) (by unfold maxLen;omega)
def F4(a:dC)(cap:Nat)(fv:an)(w:aj):xC 147 #[xL a 0 cap,fv] w (gE (xL none 0 0) w):=by
 go_enter func147,ntmps147;go_wp2;go_ret;exact⟨rfl,rfl⟩
def AP(l:List aB)(hl:l.length<=12)(M:aS)(w:aj)(v:an)(hM:Bd M w)(hs:ab M w v l):
 xG 147 #[v, .func (.func 148) #[] #[]] w λv' w'=>ab M w' v' l:=by
 by_cases h0:0<l.length
 .exact wN l hl h0 M w v hM hs
 .have e:l=[]:=Qdd (by omega);subst e;obtain⟨a,cap,rfl,_⟩:=hs.open_;refine dJ (F4 a cap _ w) ?_;exact⟨_,rfl,ab.nil _ _,dK⟩
def C8(nm:aT)(fs:List ay)(chs:List aB)(hf:fs.length<=12)(hc:chs.length<=12)(M:aS)(w:aj)(fv cv:an)(hM:Bd M w)(bR:ab M w fv fs)(bD:ab M w cv chs):
 xG 96 #[.agg #[xS nm,fv,cv]] w λu w'=>∃jY cv',u= .agg #[xS nm,jY,cv']/\ab M w' jY fs/\ab M w' cv' chs:=by
 have Ag:Hd (∀W,aq w W->w.heap.size+2<=W.heap.size->_):=λW hb hz=>qW nm fs hf (dP M w 2) W fv (dp hM hz) (bR.ev (cW hb));have HIC:Hd (∀W,aq w W->w.heap.size+2<=W.heap.size->_):=λW hb hz=>AP chs hc (dP M w 2) W cv (dp hM hz) (bD.ev (cW hb));obtain⟨a,bQ,rfl,_⟩:=bR.open_;obtain⟨ca,qcf,rfl,_⟩:=bD.open_;clear bR bD;go_enter func96,ntmps96;go_wp2_with fail;refine(Ag.o _ (Bx.dh w _ _).1 (by simp)).mono ?_;rintro e w1⟨_,rfl,⟨_,rfl,dB⟩,aC⟩;obtain⟨za,zc,rfl,_⟩:=dB.open_;have HB:=af ((Bx.dh w (cD nm (xL a fs.length bQ) (xL ca chs.length qcf)) (cD ⟨#[]⟩ (xL none 0 0) (xL none 0 0))).below aC);obtain⟨r0,r1,r2⟩:=aD (HB.o.bJ rfl);obtain⟨f0,f1⟩:=nu (HB.o.bJ rfl);have HS:=af dB;clear dB aC;go_upto_region 2 with fail;obtain⟨W2,fT⟩:=cM ((w1.setCell ⟨w.heap.size,0,none⟩ (xS nm)).setCell ⟨w.heap.size,1,none⟩ (xL za fs.length zc));have aL:=af (show Bx w [cD nm (xL za fs.length zc) (xL ca chs.length qcf),cD ⟨#[]⟩ (xL none 0 0) (xL none 0 0)] W2 by rw[fT];exact(HB.o.set 0 0 rfl _).set 0 1 rfl _);have eB:=af (show ab (dP M w 2) W2 (xL za fs.length zc) fs by
  rw[fT];exact HS.o.ev (((Ev.refl _ w1).setCell (.inl (.inr ⟨by simp,by simp⟩)) _).setCell (.inl (.inr ⟨by simp,by simp⟩)) _));rw[<-fT];clear fT r0 r1 r2 f0 f1 HB HS;obtain⟨r0,r1,r2⟩:=aD (aL.o.bJ rfl);go_wp2_with fail;refine(HIC.o _ aL.o.1 aL.o.bY).mono ?_;rintro e w3⟨_,rfl,rS,bG⟩;obtain⟨ya,yc,rfl,_⟩:=rS.open_;have bI:=af (aL.o.below bG);have iq:=af (And.intro (eB.o.below bG) rS);clear rS bG r0 r1 r2;obtain⟨r0,r1,r2⟩:=aD (bI.o.bJ rfl);obtain⟨e0,e1,e2⟩:=aD (bI.o.cE rfl);have f2:=ag (bI.o.bJ rfl) 2;obtain⟨g0,g1⟩:=nu (bI.o.cE rfl);have g2:=ag (bI.o.cE rfl) 2;go_wp2_with fail;refine Qae (v:= .agg #[xS nm,xL za fs.length zc,xL ya chs.length yc]) (by simp[results,results96,go_sem,e0,e1,e2]) rfl ⟨_,rfl,⟨_,_,rfl,iq.o.1.ev ?_,iq.o.2.ev ?_⟩,?_⟩
 .exact((((ep w3).setCell (.inl (.inr ⟨by simp,by simp⟩)) _).setCell (.inl (.inr ⟨by simp,by simp⟩)) _).setCell (.inl (.inr ⟨by simp,by simp⟩)) _).setCell (.inl (.inr ⟨by simp,by simp⟩)) _
 .exact((((ep w3).setCell (.inl (.inr ⟨by simp,by simp⟩)) _).setCell (.inl (.inr ⟨by simp,by simp⟩)) _).setCell (.inl (.inr ⟨by simp,by simp⟩)) _).setCell (.inl (.inr ⟨by simp,by simp⟩)) _
 .exact(((bI.o.1.setCell (by simp) _).setCell (by simp) _).setCell (by simp) _).setCell (by simp) _
def Jv:(Tryz.prog.info? 104).map (λi=>(i.zero,i.size,i.bytes))=some (some (.agg #[xS ⟨#[]⟩,xL none 0 0,xL none 0 0]),3,64):=by kernel_rfl
def AQ(l:List aK)(hl:l.length<=12)(h0:0<l.length)(Dv:∀y∈l,y.first.fields.length<=12/\y.changes.length<=12)(M:aS)(w:aj)(v:an)(hM:Bd M w)(hs:ab M w v l):
 xG 95 #[v, .func (.func 96) #[] #[]] w λv' w'=>ab M w' v' l:=by
 obtain⟨i0,dz,dX,cY,dA⟩:=info_parts Jv
 have HC:Hd (∀(i:Nat)(x:aK),l[i]? =some x->_):=λi x hx=>eC hs hx
 have H12:Hd (∀y∈l,y.first.fields.length<=12/\y.changes.length<=12):=Dv
 obtain⟨a,bQ,rfl,cK,qE,_⟩:=hs.open_
 generalize hn:l.length=n at*
 have ek:=af hn
 have tN:((n:Int)==0)=false:=by simp;omega
 obtain⟨cur,Cb,bD⟩:=mR (P:=prog) w 34 104 i0 _ underlying34 dz dX n (by omega) (by omega)
 have Nt:Hd (dD (α:=aK) M w.heap.size 104 (w.alloc (.cells cur 104)) n []):=dD.made cur (Qbh w _) (by rw[bD,cY];rfl)
 go_enter func95,ntmps95
 go_wp2
 go_loopg [6,7,16]n(λg _ _ iv wr=>∃i:Nat,i<=n/\g=n-i/\iv=xI i/\Hd (dD M w.heap.size 104 wr n (l.take i))/\Hd (aq w wr))
 case atStart=>exact⟨0,Qbf _,rfl,rfl,Nt,bO⟩
 case round=>
  obtain⟨i,hi,rfl,rfl,HA,HB⟩:=hrel
  have hsz:w.heap.size<wr.heap.size:=HA.o.lt
  by_cases aX:i<n
  .obtain⟨x,hx⟩:=dQ l i (by rw[ek.o];exact aX)
   obtain⟨b,off,cap,fa,fc,ca,cc,hv,hb,bR,bD,lH,aw⟩:=HC.o i x hx
   obtain⟨rfl,rfl⟩:=gY hv
   obtain⟨q0,q1,q2⟩:=aw wr HB.o
   have oV:=af (show(l.take i).length=i by have:=ek.o;rw[Qdb];omega)
   have oR:=af (show l.take (i+1)=l.take i++[x]by rw[Qbb,hx];rfl)
   have Ad:=H12.o x (Qaf hx)
   have N2:Hd (∀o,Ev M w (orM M w.heap.size) (wr.alloc o)):=λo=>⟨ai.ao (HB.o.alloc (by omega) o),λj hj=>by
    rcases hj with hj|hj
    .exact .inl hj
    .exact .inr (by omega)⟩
   have bt:=af (λo=>C8 x.first.name x.first.fields x.changes Ad.1 Ad.2 (orM M w.heap.size) (wr.alloc o) (xL fa x.first.fields.length fc) (xL ca x.changes.length cc) (λj hj=>by
    rcases hj with hj|hj
    .have:=hM j hj;simp;omega
    .simp;omega) (bR.ev (N2.o o)) (bD.ev (N2.o o)))
   have tM:=af lH
   go_wp2_with fail
   refine(bt.o _).mono ?_
   rintro e w1⟨_,rfl,⟨fv,cv,rfl,h1,h2⟩,aC⟩
   obtain⟨za,zc,rfl,_⟩:=h1.open_
   obtain⟨ya,yc,rfl,_⟩:=h2.open_
   have uf:Hd (aA.rep (α:=aK) (orM M w.heap.size) w1 [xS x.first.name,xL za x.first.fields.length zc,xL ya x.changes.length yc] x):=⟨_,_,rfl,h1,h2,tM.o⟩
   have aO:=af (aQ aC)
   have kj:=af (HA.o.below aO.o)
   have YT:i*3+2<n*3:=by omega
   have hTH:w1.there w.heap.size (i*3) 3:=λj hj=>by
    obtain⟨u,p,f⟩:=kj.o.cell (j:=i*3+j) (by show _<n*3;omega)
    exact⟨by rw[p];rfl,f⟩
   have XB:(Tryz.prog.info? 104).map (·.size)=some 3:=by simp[dz,cY]
   have qcg:(#[xS x.first.name,xL za x.first.fields.length zc,xL ya x.changes.length yc]:Array an).all (·.oneCell')=true:=by simp[Value.oneCell']
   have QJ:=af (And.intro hTH (And.intro XB qcg))
   go_wp2_with(with_reducible refine wpList_store_mid ?_ 104 (.tmp 26) (.tmp 25) ?_ w.heap.size (i*3) #[xS x.first.name,xL za x.first.fields.length zc,xL ya x.changes.length yc] ?_ ?_ ?_ ?_ ?_ ?_
               .exact rfl
               .exact rfl
               .exact rfl
               .exact rfl
               .exact QJ.o.1
               .exact QJ.o.2.1
               .exact QJ.o.2.2)
   go_roundg(n-(i+1))
   case measure=>omega
   case rel=>
    refine⟨i+1,by omega,rfl,by go_num,(show dD _ _ _ _ _ _ by rw[oR.o];exact kj.o.ZZ oV.o aX uf.o),(show Below _ _ _ from ?_)⟩
    exact lE (by omega) _ _ (HB.o.trans (aO.o.mono (by omega)))
  .go_wp2
   go_ret
   refine⟨_,rfl,?_,HB.o⟩
   have h1:=HA.o
   rw[Qah (by rw[ek.o];omega)]at h1
   exact h1.slice ek.o (λh=>by have:=hM _ h;omega) (by unfold maxLen;omega)
def F5(a:dC)(cap:Nat)(fv:an)(w:aj):xC 95 #[xL a 0 cap,fv] w (gE (xL none 0 0) w):=by
 go_enter func95,ntmps95;go_wp2;go_ret;exact⟨rfl,rfl⟩
def F6(l:List aK)(hl:l.length<=12)(Dv:∀y∈l,y.first.fields.length<=12/\y.changes.length<=12)(M:aS)(w:aj)(v:an)(hM:Bd M w)(hs:ab M w v l):
 xG 95 #[v, .func (.func 96) #[] #[]] w λv' w'=>ab M w' v' l:=by
 by_cases h0:0<l.length
 .exact AQ l hl h0 Dv M w v hM hs
 .have e:l=[]:=Qdd (by omega);subst e;obtain⟨a,cap,rfl,_⟩:=hs.open_;refine dJ (F5 a cap _ w) ?_;exact⟨_,rfl,ab.nil _ _,dK⟩
def pW(ls:List aK)(hl:ls.length<=12)(Dv:∀y∈ls,y.first.fields.length<=12/\y.changes.length<=12)(M:aS)(w:aj)(v:an)(hM:Bd M w)(hs:ab M w v ls):
 xG 51 #[.agg #[v]] w λu w'=>∃v',u= .agg #[v']/\ab M w' v' ls:=by
 have Ag:Hd (∀W,aq w W->w.heap.size+2<=W.heap.size->_):=λW hb hz=>F6 ls hl Dv (dP M w 2) W v (dp hM hz) (hs.ev (cW hb));obtain⟨a,bQ,rfl,_⟩:=hs.open_;go_enter func51,ntmps51;go_wp2_with fail;refine(Ag.o _ (Bx.dh w _ _).1 (by simp)).mono ?_;rintro e w1⟨_,rfl,dB,aC⟩;obtain⟨za,zc,rfl,_⟩:=dB.open_;have HB:=af ((Bx.dh w (xK #[xL a ls.length bQ] 36) (xK #[xL none 0 0] 36)).below aC);have e0:=one_cell (HB.o.cE rfl);have g0:=ag (HB.o.cE rfl) 0;have HS:=af dB;go_wp2_with fail;refine Qae (v:= .agg #[xL za ls.length zc]) (by simp[results,results51,go_sem,e0]) rfl ⟨_,rfl,⟨_,rfl,HS.o.ev ?_⟩,?_⟩
 .exact(ep w1).setCell (.inl (.inr ⟨by simp,by simp⟩)) _
 .exact HB.o.1.setCell (by simp) _
end
end Go.Proofs.YtccpcfcochffcaaGreatDoor
