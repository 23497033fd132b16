/- A part of MarkAsks's proof; no condition. -/
import Derived.Test.YtccpcfcochffcaaGreatDoorM13
import Derived.Test.YtccpcfcochffcaaGreatDoorM21
import Derived.Test.YtccpcfcochffcaaGreatDoorM22
import Derived.Shelf.Spec.SlicesGrow
set_option linter.all false
set_option maxHeartbeats 8000000
set_option maxRecDepth 100000
namespace Go.Proofs.YtccpcfcochffcaaGreatDoor
open Go.Proofs.Tryz
open Go.RowKit Go.Shelf
variable{i base b g j cap p clk k:Nat}{v fv lv:an}{w W W' w' w0:aj}{e t:TypeId}{M F:aS}{cur:Array an}{x:aB}{nm s:aT}{f:ay}{a:dC}{S:List Int}{o:Obj}{c:az}{id:Int}
def vT {α:Type}(ls:List (List α))(i:Nat):(ls.take i).flatten.length<=ls.flatten.length:=by
 conv=>rhs;rw[<-List.take_append_drop i ls,List.flatten_append,Qda]
 omega
def gN {α:Type}{ls:List (List α)}{l:List α}(h:ls[i]? =some l):(ls.take (i+1)).flatten=(ls.take i).flatten++l:=by
 rw[Qbb,h];simp
def xw {α:Type} [aA α]{xs:List α}(h:aP M base e W v xs)(hbs:base=w.heap.size)(hb:aq w W):Ev M w (bB v M) W:=
 ⟨ai.ao hb,λi hi=>by
   rcases hi with hi|hi
   .exact .inl hi
   .exact .inr (by rw[<-hbs];exact(h.dU i hi).1)⟩
def uR {α:Type} [aA α](M:aS)(w:aj)(b:Nat)(rows:List an)(ls:List (List α)):Prop:=
 rows.length=ls.length/\b<w.heap.size/\(∀i v,rows[i]? =some v->w.cell? ⟨b,i,none⟩=some v)/\∀(i:Nat)(v:an)(l:List α),rows[i]? =some v->ls[i]? =some l->ab M w v l
theorem uR.get {α:Type} [aA α]{rows:List Value}{ls:List (List α)}(h:uR M w b rows ls)(hi:i<ls.length):
 ∃a c,∃l:List α,ls[i]? =some l/\ab M w (xL a l.length c) l/\∀W,aq w W->W.cell? ⟨b,i,none⟩=some (xL a l.length c):=by
 obtain⟨h1,h2,h3,h4⟩:=h;obtain⟨l,hl⟩:=dQ ls i hi;obtain⟨v,hv⟩:=dQ rows i (by omega);have hs:=h4 i v l hv hl;obtain⟨a,c,rfl,_⟩:=hs.open_;refine⟨a,c,l,hl,hs,λW hb=> ?_⟩;rw[hb.cell h2];exact h3 i _ hv
def ja:Go.Shelf.Ren:=⟨λ|4=>304|n=>n,λ|22=>99|25=>138|3=>3|4=>4|9=>9|20=>20|0=>0|n=>n,λ|n=>n⟩
def qZ:Go.Proofs.Lays8.n4 prog ja:={
 mixed:=by kernel_rfl
 f4:=⟨Tryz.f304.name,by decide,Tryz.func304.trans (congrArg some (by kernel_rfl))⟩
 t0:=underlying0
 a0:=isAgg0
 z0:=sizeOf0
 v0:=zeroValue0
 t3:=underlying3
 a3:=isAgg3
 z3:=sizeOf3
 v3:=zeroValue3
 t4:=underlying4
 a4:=isAgg4
 z4:=sizeOf4
 v4:=zeroValue4
 t9:=underlying9
 a9:=isAgg9
 z9:=sizeOf9
 v9:=zeroValue9
 t20:=underlying20
 a20:=isAgg20
 z20:=sizeOf20
 v20:=zeroValue20
 t22:=underlying99
 a22:=isAgg99
 z22:=sizeOf99
 v22:=zeroValue99}
def IY:ja.f 4=304:=by kernel_rfl
def zj:ja.t 25=138:=by kernel_rfl
def CR(M:aS)(n:Nat)(hn:n<=1000)(w:aj):xG 304 #[xL none 0 0,xI n] w λv w'=>aP (α:=ay) M w.heap.size 138 w' v []:=by
 obtain⟨i0,dz,dX,cY,dA⟩:=info_parts iw;rw[<-IY];by_cases h0:n=0
 .subst h0;refine(Any8.slices_Grow_room qZ none 0 0 0 w bq (by decide) (by decide) bq).mono ?_;rintro e w1⟨rfl,rfl⟩;exact⟨_,rfl,aP.nil _ _ _ _,dK⟩
 .refine(Any8.slices_Grow_grow qZ i0 _ (by rw[zj];exact dz) dX (by rw[cY];decide) none 0 0 n [] w bq (by omega) (by rw[dA];omega) (by omega) (by simp) (λ_=>rfl) (λa h=>by cases h)).mono ?_;rintro e w1⟨rfl,rfl⟩;rw[zj];refine⟨_,rfl,aP.made (w:=w.drew) M _ _ bq (grownCap_le_maxLen w _ _ _ (by unfold maxLen;omega)) ?_,dK.drew.alloc bq _⟩;have K8:=grownCap_ge w (0+n) 0 138;simp only[Array.size_append,size_zeroCells];show 0+(0+n-0)*4+(grownCap w (0+n) 0 138-(0+n))*4=grownCap w (0+n) 0 138*4;omega
def pM(M:aS)(w:aj)(hM:Bd M w)(b n:Nat)(rows:List an)(ls:List (List ay))(h:uR M w b rows ls)(hn:ls.length=n)(hl:ls.flatten.length<=40)(h3:n<=3):
 xG 274 #[xL (some ⟨b,0,none⟩) n n] w λv w'=>ab M w' v ls.flatten:=by
 obtain⟨i0,dz,dX,cY,dA⟩:=info_parts iw;have HG:=af (CR M ls.flatten.length (by omega) w);have HR:=af h;have cw:b<w.heap.size:=h.2.1;have Ar:=af (λi=>vT ls i);have ek:=af hn;clear hn;clear h;go_enter func274,ntmps274;go_wp2_with fail;obtain⟨LL,XC⟩:∃L,L=ls.flatten.length:=⟨_,rfl⟩;rw[<-XC]at hl HG;have GW:=af XC;clear XC;go_loopg [3,5,11]n(λg r3 r5 iv wr=>∃i L:Nat,i<=n/\g=n-i/\iv=xI i/\r3=xI (L:Int)/\Hd (L=(ls.take i).flatten.length)/\w=wr);case atStart=>exact⟨0,0,Qbf _,rfl,rfl,rfl,(show _=_ by simp),rfl⟩
 case round=>
  obtain⟨i,L,hi,rfl,rfl,rfl,HL,rfl⟩:=hrel;by_cases aX:i<n
  .obtain⟨a,c,l,hx,bo,aG⟩:=HR.o.get (i:=i) (by rw[ek.o];exact aX);have q0:=aG w dK;obtain⟨m,hm⟩:=cM (l.length);have hk:L+m=(ls.take (i+1)).flatten.length:=by rw[gN hx,Qda,<-HL.o,hm]
   have qM:L+m<=40:=by have:=Ar.o (i+1);have:=GW.o;omega
   have HK:=af hk;rw[<-hm]at q0;clear hx bo aG hk hm;go_wp2;go_roundg(n-(i+1));case measure=>omega
   case rel=>exact⟨i+1,L+m,by omega,rfl,by go_num,by go_num,HK,rfl⟩
  .have hii:i=n:=by omega
   subst hii;obtain rfl:L=LL:=by rw[HL.o,GW.o,Qah (by rw[ek.o];exact bq)]
   go_wp2_with fail;refine(HG.o).mono ?_;rintro e w1⟨_,rfl,hacc,aC⟩;obtain⟨a0,c0,rfl,_⟩:=hacc.open_;have Y9:=af hacc;have iA:=af aC;clear hacc aC;go_wp2;go_loopg [6,8,27]i(λg r6 r8 iv Sl=>∃(k c1 K:Nat)(a1:dC),k<=i/\g=i-k/\iv=xI k/\r6=xL a1 K c1/\Hd (K=(ls.take k).flatten.length)/\Hd (aP M w.heap.size 138 Sl (xL a1 K c1) (ls.take k).flatten)/\Hd (aq w Sl));case atStart=>exact⟨0,c0,0,a0,Qbf _,rfl,rfl,rfl,(show _=_ by simp),Y9,iA⟩
   case round=>
    obtain⟨k,c1,K,a1,hk,rfl,rfl,rfl,HK,HA,HB⟩:=hrel;by_cases Ri:k<i
    .obtain⟨a,c,l,hx,bo,aG⟩:=HR.o.get (i:=k) (by rw[ek.o];exact Ri);obtain⟨m,hm⟩:=cM (l.length);have si:K+m=(ls.take (k+1)).flatten.length:=by rw[gN hx,Qda,<-HK.o,hm]
     have qM:K+m<=40:=by have:=Ar.o (k+1);have:=GW.o;omega
     have oR:=af (gN hx);have q0:=aG _ HB.o;have eE:=af bo;have qB:=af si;have NM:=af hm;rw[<-hm]at q0;clear hx bo aG si hm;have Uh:Hd ((ls.take k).flatten.length=K):=HK.o.symm;have Ro:Hd (l.length=m):=NM.o.symm;go_wp2_with(at_builtin;go_loud(refine cV (α:=ay) rfl _ _ _ rfl M w.heap.size 138 i0 _ 40 underlying99 dz dX cY dA rfl (by decide) (.slice a1 K c1) (ls.take k).flatten rfl HA.o (.slice a m c) l rfl (by rw[NM.o];exact eE.o.ev (xw HA.o rfl HB.o)) (by rw[Uh.o,Ro.o];unfold maxLen;omega) (by rw[Uh.o,Ro.o];omega) HB.o.size ?_);rw[Uh.o,Ro.o,<-oR.o];intro a2 c2 w2 bu dr aY;have cL:=af bu;have bI:=af (HB.o.trans aY);clear bu dr aY);go_roundg(i-(k+1));case measure=>omega
     case rel=>exact⟨k+1,c2,K+m,a2,by omega,rfl,by go_num,rfl,qB,cL,bI⟩
    .go_wp2;go_ret;refine⟨_,rfl,?_,HB.o⟩;have h1:=HA.o.slice hM;rwa [Qah (by rw[ek.o];omega)]at h1
def jZ:Go.Shelf.Ren:=⟨λ|4=>305|n=>n,λ|22=>28|25=>30|3=>3|4=>4|9=>9|20=>20|0=>0|n=>n,λ|n=>n⟩
def vU:Go.Proofs.Lays8.n4 prog jZ:={
 mixed:=by kernel_rfl
 f4:=⟨Tryz.f305.name,by decide,Tryz.func305.trans (congrArg some (by kernel_rfl))⟩
 t0:=underlying0
 a0:=isAgg0
 z0:=sizeOf0
 v0:=zeroValue0
 t3:=underlying3
 a3:=isAgg3
 z3:=sizeOf3
 v3:=zeroValue3
 t4:=underlying4
 a4:=isAgg4
 z4:=sizeOf4
 v4:=zeroValue4
 t9:=underlying9
 a9:=isAgg9
 z9:=sizeOf9
 v9:=zeroValue9
 t20:=underlying20
 a20:=isAgg20
 z20:=sizeOf20
 v20:=zeroValue20
 t22:=underlying28
 a22:=isAgg28
 z22:=sizeOf28
 v22:=zeroValue28}
def PD:jZ.f 4=305:=by kernel_rfl
def Fe:jZ.t 25=30:=by kernel_rfl
def IZ(M:aS)(n:Nat)(hn:n<=1000)(w:aj):xG 305 #[xL none 0 0,xI n] w λv w'=>aP (α:=au) M w.heap.size 30 w' v []:=by
 obtain⟨i0,dz,dX,cY,dA⟩:=info_parts fY;rw[<-PD];by_cases h0:n=0
 .subst h0;refine(Any8.slices_Grow_room vU none 0 0 0 w bq (by decide) (by decide) bq).mono ?_;rintro e w1⟨rfl,rfl⟩;exact⟨_,rfl,aP.nil _ _ _ _,dK⟩
 .refine(Any8.slices_Grow_grow vU i0 _ (by rw[Fe];exact dz) dX (by rw[cY];decide) none 0 0 n [] w bq (by omega) (by rw[dA];omega) (by omega) (by simp) (λ_=>rfl) (λa h=>by cases h)).mono ?_;rintro e w1⟨rfl,rfl⟩;rw[Fe];refine⟨_,rfl,aP.made (w:=w.drew) M _ _ bq (grownCap_le_maxLen w _ _ _ (by unfold maxLen;omega)) ?_,dK.drew.alloc bq _⟩;have K8:=grownCap_ge w (0+n) 0 30;simp only[Array.size_append,size_zeroCells];show 0+(0+n-0)*4+(grownCap w (0+n) 0 30-(0+n))*4=grownCap w (0+n) 0 30*4;omega
def tr(M:aS)(w:aj)(hM:Bd M w)(b n:Nat)(rows:List an)(ls:List (List au))(h:uR M w b rows ls)(hn:ls.length=n)(hl:ls.flatten.length<=40)(h3:n<=3):
 xG 275 #[xL (some ⟨b,0,none⟩) n n] w λv w'=>ab M w' v ls.flatten:=by
 obtain⟨i0,dz,dX,cY,dA⟩:=info_parts fY;have HG:=af (IZ M ls.flatten.length (by omega) w);have HR:=af h;have cw:b<w.heap.size:=h.2.1;have Ar:=af (λi=>vT ls i);have ek:=af hn;clear hn;clear h;go_enter func275,ntmps275;go_wp2_with fail;obtain⟨LL,XC⟩:∃L,L=ls.flatten.length:=⟨_,rfl⟩;rw[<-XC]at hl HG;have GW:=af XC;clear XC;go_loopg [3,5,11]n(λg r3 r5 iv wr=>∃i L:Nat,i<=n/\g=n-i/\iv=xI i/\r3=xI (L:Int)/\Hd (L=(ls.take i).flatten.length)/\w=wr);case atStart=>exact⟨0,0,Qbf _,rfl,rfl,rfl,(show _=_ by simp),rfl⟩
 case round=>
  obtain⟨i,L,hi,rfl,rfl,rfl,HL,rfl⟩:=hrel;by_cases aX:i<n
  .obtain⟨a,c,l,hx,bo,aG⟩:=HR.o.get (i:=i) (by rw[ek.o];exact aX);have q0:=aG w dK;obtain⟨m,hm⟩:=cM (l.length);have hk:L+m=(ls.take (i+1)).flatten.length:=by rw[gN hx,Qda,<-HL.o,hm]
   have qM:L+m<=40:=by have:=Ar.o (i+1);have:=GW.o;omega
   have HK:=af hk;rw[<-hm]at q0;clear hx bo aG hk hm;go_wp2;go_roundg(n-(i+1));case measure=>omega
   case rel=>exact⟨i+1,L+m,by omega,rfl,by go_num,by go_num,HK,rfl⟩
  .have hii:i=n:=by omega
   subst hii;obtain rfl:L=LL:=by rw[HL.o,GW.o,Qah (by rw[ek.o];exact bq)]
   go_wp2_with fail;refine(HG.o).mono ?_;rintro e w1⟨_,rfl,hacc,aC⟩;obtain⟨a0,c0,rfl,_⟩:=hacc.open_;have Y9:=af hacc;have iA:=af aC;clear hacc aC;go_wp2;go_loopg [6,8,27]i(λg r6 r8 iv Sl=>∃(k c1 K:Nat)(a1:dC),k<=i/\g=i-k/\iv=xI k/\r6=xL a1 K c1/\Hd (K=(ls.take k).flatten.length)/\Hd (aP M w.heap.size 30 Sl (xL a1 K c1) (ls.take k).flatten)/\Hd (aq w Sl));case atStart=>exact⟨0,c0,0,a0,Qbf _,rfl,rfl,rfl,(show _=_ by simp),Y9,iA⟩
   case round=>
    obtain⟨k,c1,K,a1,hk,rfl,rfl,rfl,HK,HA,HB⟩:=hrel;by_cases Ri:k<i
    .obtain⟨a,c,l,hx,bo,aG⟩:=HR.o.get (i:=k) (by rw[ek.o];exact Ri);obtain⟨m,hm⟩:=cM (l.length);have si:K+m=(ls.take (k+1)).flatten.length:=by rw[gN hx,Qda,<-HK.o,hm]
     have qM:K+m<=40:=by have:=Ar.o (k+1);have:=GW.o;omega
     have oR:=af (gN hx);have q0:=aG _ HB.o;have eE:=af bo;have qB:=af si;have NM:=af hm;rw[<-hm]at q0;clear hx bo aG si hm;have Uh:Hd ((ls.take k).flatten.length=K):=HK.o.symm;have Ro:Hd (l.length=m):=NM.o.symm;go_wp2_with(at_builtin;go_loud(refine cV (α:=au) rfl _ _ _ rfl M w.heap.size 30 i0 _ 56 underlying28 dz dX cY dA rfl (by decide) (.slice a1 K c1) (ls.take k).flatten rfl HA.o (.slice a m c) l rfl (by rw[NM.o];exact eE.o.ev (xw HA.o rfl HB.o)) (by rw[Uh.o,Ro.o];unfold maxLen;omega) (by rw[Uh.o,Ro.o];omega) HB.o.size ?_);rw[Uh.o,Ro.o,<-oR.o];intro a2 c2 w2 bu dr aY;have cL:=af bu;have bI:=af (HB.o.trans aY);clear bu dr aY);go_roundg(i-(k+1));case measure=>omega
     case rel=>exact⟨k+1,c2,K+m,a2,by omega,rfl,by go_num,rfl,qB,cL,bI⟩
    .go_wp2;go_ret;refine⟨_,rfl,?_,HB.o⟩;have h1:=HA.o.slice hM;rwa [Qah (by rw[ek.o];omega)]at h1
def AF {fr:Nat×Nat}(u:an)(h:cI w g (.cells cur t fr)):(w.setCell ⟨g,j,none⟩ u).heap[g]? =some (.cells (cur.setIfInBounds j u) t fr):=by
 obtain⟨hl,h'⟩:=Qaa.1 h;show(w.heap.modify g _)[g]? =_;rw[Array.getElem?_eq_getElem (by simpa using hl),Array.getElem_modify_self,h'];rfl
def Ff {size n:Nat}{xs:List an}(h:w.ownsRow base e size (xL (some ⟨g,0,none⟩) n cap) n xs)(u:an):
 (w.setCell ⟨g,j,none⟩ u).ownsRow base e size (xL (some ⟨g,0,none⟩) n cap) n (xs.set j u):=by
 obtain⟨h1,h2|⟨g',fq,cur,hv,hg,hh,hn,hm,hs,hx⟩⟩:=h
 .cases h2.1
 .obtain⟨rfl,rfl⟩:g=g'/\cap=fq:=by simpa using hv
  refine⟨by simpa using h1, .inr ⟨g,cap,_,rfl,hg,AF u hh,hn,hm,by simpa using hs,?_⟩⟩;rw[<-hx];simp[List.take_set]
def Fg {css:List (List an)}{size:Nat}(hs:∀(i:Nat)(cs:List an),css[i]? =some cs->cs.length=size):∀(i j:Nat)(cs:List an)(u:an),css[i]? =some cs->j<size->css.flatten.set (i*size+j) u=(css.set i (cs.set j u)).flatten:=by
 induction css with
 |nil=>intro i j cs u h;simp at h
 |cons a r ih=>
  intro i j cs u hi hj;have ha:a.length=size:=hs 0 a rfl;cases i with
  |zero=>
   simp at hi;subst hi;simp only[Nat.zero_mul,Nat.zero_add,List.flatten_cons,List.set_cons_zero];rw[List.set_append_left _ _ (by omega)]
  |succ i=>
   have TO:r[i]? =some cs:=by simpa using hi
   have:=ih (λk c hk=>hs (k+1) c (by simpa using hk)) i j cs u TO hj;simp only[List.flatten_cons,List.set_cons_succ];rw[List.set_append_right _ _ (by rw[ha,Nat.succ_mul];omega),ha,<-this];congr 2;rw[Nat.succ_mul];omega
theorem aP.cell {α:Type} [aA α]{n:Nat}{xs:List α}(h:aP M base e w (xL (some ⟨g,0,none⟩) n cap) xs){x y:α}(hx:xs[i]? =some x)(hj:j<aA.size α)(u:an)
 (hr:∀cs W,aA.rep (bB (xL (some ⟨g,0,none⟩) n cap) M) W cs x->Ev (bB (xL (some ⟨g,0,none⟩) n cap) M) w (bB (xL (some ⟨g,0,none⟩) n cap) M) W->aA.rep (bB (xL (some ⟨g,0,none⟩) n cap) M) W (cs.set j u) y):
 aP M base e (w.setCell ⟨g,i*aA.size α+j,none⟩ u) (xL (some ⟨g,0,none⟩) n cap) (xs.set i y):=by
 have hn:=h.open_;obtain⟨_,_,hn,_⟩:=hn;injection hn with _ hn _;subst hn;have hE:Ev (bB (xL (some ⟨g,0,none⟩) xs.length cap) M) w (bB (xL (some ⟨g,0,none⟩) xs.length cap) M) (w.setCell ⟨g,i*aA.size α+j,none⟩ u):=(Ev.refl _ _).setCell (.inl (.inr rfl)) u;obtain⟨css,h1,h2,h3⟩:=h;have zV:=(Qad.1 hx).1;obtain⟨cs,bD⟩:=dQ css i (by omega);have hlen:∀(k:Nat)(c:List an),css[k]? =some c->c.length=aA.size α:=λk c hc=>by
  obtain⟨z,hz⟩:=dQ xs k (by rw[<-h2];exact(Qad.1 hc).1);exact aA.len (h3 k c z hc hz)
 refine⟨css.set i (cs.set j u),?_,by simpa using h2,λk c z hc hz=> ?_⟩
 .rw[<-Fg hlen i j cs u bD hj,List.length_set];exact Ff h1 u
 .by_cases hki:k=i
  .subst hki;rw[List.getElem?_set_self (by omega)]at hc hz;obtain rfl:=Option.some.inj hc;obtain rfl:=Option.some.inj hz;exact hr _ _ (aA.ev (h3 k cs x bD hx) hE) hE
  .rw[List.getElem?_set_ne (by omega)]at hc hz;exact aA.ev (h3 k c z hc hz) hE
def jH(M:aS)(w:aj)(v:an)(l:List ay)(h:ab M w v l)(hl:l.length<=40):
 xG 272 #[v] w λv w'=>aP M w.heap.size 138 w' v l:=by
 obtain⟨i0,dz,dX,cY,dA⟩:=info_parts iw;have HS:=af h;obtain⟨a,c,rfl,cK,qE,ho⟩:=h.open_;have HE:Hd (aP (α:=ay) M w.heap.size 138 (w.alloc (xK #[] 138)) (xL (some ⟨w.heap.size,0,none⟩) 0 0) []):=aP.made M #[] 0 bq (by unfold maxLen;omega) rfl;have q89:∀(w:aj)(a:dC)(n c n' c':Nat),(binOp .eql 99 (.slice a n c) (.slice none n' c')).run prog w= .ok (.bool a.isNone) w:=λw a n c n' c'=>Lib.run_eql_slice_nil w _ _ a n c n' c' underlying99;obtain⟨n,hn⟩:=fx (l.length);have HO:Hd (a=none->l=[]):=λha=>by
  by_cases hp:0<l.length
  .obtain⟨b,off,h1,_⟩:=ho hp;rw[ha]at h1;cases h1
  .exact List.length_eq_zero_iff.1 (by omega)
 rw[hn]at hl cK⊢;have eB:=af (show ab M w (xL a n c) l by rw[<-hn];exact HS.o);have HN:=af hn;cases a with
 |none=>
  obtain rfl:=HO.o rfl;go_enter func272,ntmps272;go_wp2;go_ret;exact⟨_,rfl,aP.nil _ _ _ _,dK⟩
 |some adr=>
 go_enter func272,ntmps272;go_wp2_with(at_builtin;go_loud(refine cV (α:=ay) rfl _ _ _ rfl M w.heap.size 138 i0 _ 40 underlying99 dz dX cY dA rfl (by decide) (.slice (some ⟨w.heap.size,0,none⟩) 0 0) [] rfl HE.o (.slice (some adr) n c) l rfl (eB.o.ev (xw HE.o rfl bO)) (by rw[HN.o];simp;unfold maxLen;omega) (by rw[HN.o];simp;omega) (by simp) ?_);rw[HN.o];simp only[Qcd,Nat.zero_add,List.nil_append];intro a2 c2 w2 bu dr aY;have cL:=af bu;have bI:Hd (aq w w2):=bO.trans aY;clear bu dr aY);go_ret;exact⟨_,rfl,cL.o,bI.o⟩
def rb(nm:aT)(fv:an)(x:aB)(a:Int)(b:Bool)(g1 g2:an):Obj:=
 xK #[xS nm,fv,xI x.kind,xS x.field,xS x.name,xS x.more,xI x.type.kind,xI x.type.of,xS x.expr,xS x.other,xI a,xB b,g1,g2] 316
structure WkC(W:aj)(p:Nat)(nm:aT)(fv:an)(x:aB)(a:Int)(b:Bool)(g1 g2:an):Prop where
 c0:W.cell? ⟨p,0,none⟩=some (xS nm)
 c1:W.cell? ⟨p,1,none⟩=some fv
 c2:W.cell? ⟨p,2,none⟩=some (xI x.kind)
 c3:W.cell? ⟨p,3,none⟩=some (xS x.field)
 c4:W.cell? ⟨p,4,none⟩=some (xS x.name)
 c5:W.cell? ⟨p,5,none⟩=some (xS x.more)
 c6:W.cell? ⟨p,6,none⟩=some (xI x.type.kind)
 c7:W.cell? ⟨p,7,none⟩=some (xI x.type.of)
 c8:W.cell? ⟨p,8,none⟩=some (xS x.expr)
 c9:W.cell? ⟨p,9,none⟩=some (xS x.other)
 ca:W.cell? ⟨p,10,none⟩=some (xI a)
 cb:W.cell? ⟨p,11,none⟩=some (xB b)
 cc:W.cell? ⟨p,12,none⟩=some g1
 cd:W.cell? ⟨p,13,none⟩=some g2
def cH {a:Int}{b:Bool}{g1 g2:Value}(h:W.heap[p]? =some (rb nm fv x a b g1 g2)):WkC W p nm fv x a b g1 g2:=by
 have g:∀(j:Nat)(u:Value),(#[xS nm,fv,xI x.kind,xS x.field,xS x.name,xS x.more,xI x.type.kind,xI x.type.of,xS x.expr,xS x.other,xI a,xB b,g1,g2]:Array Value)[j]? =some u->W.cell? ⟨p,j,none⟩=some u:=λj u hj=>by
  simp only[World.cell?,h,rb];exact hj
 exact⟨g 0 _ rfl,g 1 _ rfl,g 2 _ rfl,g 3 _ rfl,g 4 _ rfl,g 5 _ rfl,g 6 _ rfl,g 7 _ rfl,g 8 _ rfl,g 9 _ rfl,g 10 _ rfl,g 11 _ rfl,g 12 _ rfl,g 13 _ rfl⟩
theorem WkC.below {a:Int}{b:Bool}{g1 g2:an}(h:WkC W p nm fv x a b g1 g2)(hp:p<W.heap.size)(hb:aq W W'):WkC W' p nm fv x a b g1 g2:=by
 have e:∀j,W'.cell? ⟨p,j,none⟩=W.cell? ⟨p,j,none⟩:=λj=>hb.cell hp;exact⟨(e _).trans h.c0,(e _).trans h.c1,(e _).trans h.c2,(e _).trans h.c3,(e _).trans h.c4,(e _).trans h.c5,(e _).trans h.c6,(e _).trans h.c7,(e _).trans h.c8,(e _).trans h.c9,(e _).trans h.ca,(e _).trans h.cb,(e _).trans h.cc,(e _).trans h.cd⟩
def uS {n:Nat}{xs:List ay}(h:aP M base e w (xL a n cap) xs)(hx:xs[i]? =some f):
 ∃g,a=some ⟨g,0,none⟩/\base<=g/\g<w.heap.size/\(w.cell? ⟨g,i*4,none⟩=some (xS f.name)/\w.cell? ⟨g,i*4+1,none⟩=some (xI f.type.kind)/\w.cell? ⟨g,i*4+2,none⟩=some (xI f.type.of)/\w.cell? ⟨g,i*4+3,none⟩=some (xB f.indexed))/\∀j,w.frozen? ⟨g,j,none⟩=false:=by
 obtain⟨css,h1,h2,h3⟩:=h;have zV:=(Qad.1 hx).1;obtain⟨cs,bD⟩:=dQ css i (by omega);have hlen:∀(k:Nat)(c:List Value),css[k]? =some c->c.length=4:=λk c hc=>by
  obtain⟨z,hz⟩:=dQ xs k (by rw[<-h2];exact(Qad.1 hc).1);exact aA.len (h3 k c z hc hz)
 obtain⟨hl,hv|⟨g,fq,cur,hv,hg,hh,hn,hm,hs,A6⟩⟩:=h1
 .have:=hv.2;omega
 .injection hv with ha hn' hc';have GA:=(Qaa.1 hh).1;have G:∀(j:Nat)(u:Value),cs[j]? =some u->w.cell? ⟨g,i*4+j,none⟩=some u:=λj u hj=>by
   have h4:=kO hlen i cs j u bD hj;rw[<-A6]at h4;have h5:cur.toList[i*4+j]? =some u:=by
    rw[List.getElem?_take]at h4;split at h4
    .exact h4
    .cases h4
   simp only[World.cell?,hh];simpa using h5
  have hr:=(h3 i cs f bD hx).1;subst hr;refine⟨g,ha,hg,GA,⟨G 0 _ rfl,G 1 _ rfl,G 2 _ rfl,G 3 _ rfl⟩,λj=>ag hh j⟩
theorem ab.PE {α:Type} [aA α]{xs:List α}(h:ab M w v xs):ab M w.drew v xs:=h.below dK.drew
def Mv(M:Nat->Prop)(w:World)(hM:Bd M w)(c:az)(fv:Value)(x:aB)(b:Bool)(g1 g2:Value)(p:Nat)(pre post:List ay)(f:ay)(ha:iy c x.field pre f post)(hk:x.kind=3)(xH:x.name.size<=maxLen)(h8:c.fields.length<=8)
 (hp:cI w p (rb c.name fv x pre.length b g1 g2))(bR:ab M w fv c.fields):
 xG 248 #[xP p] w λv w'=>ab M w' v (bT c x).fields:=by
 have gO:p<w.heap.size:=(Qaa.1 hp).1;have HW:=af (cH hp);have q1:=HW.o.c1;have HC:=af (jH M w fv c.fields bR (by omega));have og:c.fields[pre.length]? =some f:=by rw[ha.eq];simp
 have aX:pre.length<c.fields.length:=(Qad.1 og).1;have rT:=af (show(bT c x).fields=c.fields.set pre.length ⟨x.name,f.type,f.indexed⟩by
  rw[fg ha (by omega),ha.eq];simp[iS,hk]);have Ap:=af og;have jT:Hd (x.name.size<=maxLen):=xH;obtain⟨n,hn⟩:=fx (c.fields.length);obtain⟨i,hi⟩:=fx (pre.length);have HN:=af hn;rw[hi]at aX HW rT Ap;rw[hn]at aX;go_enter func248,ntmps248;go_wp2_with fail;refine(HC.o).mono ?_;rintro e w1⟨_,rfl,hacc,hb⟩;have HA:=af hacc;obtain⟨a1,c1,rfl,cK,qE⟩:=hacc.open_;obtain⟨g,rfl,hg,GA,⟨z0,z1,z2,z3⟩,oU⟩:=uS hacc Ap.o;rw[hn]at HA cK⊢;have HB:=af hb;have jU:=af (HW.o.below gO hb);have q2:=jU.o.ca;have q3:=jU.o.c4;have f0:=oU (i*4);go_wp2_with fail;go_region;all_goals
  go_wp2;go_ret;refine⟨_,rfl,?_,(HB.o.setCell (p:=⟨g,i*4,none⟩) hg _).drew⟩;rw[rT.o];exact((aP.cell HA.o Ap.o (j:=0) (by decide) _ (λcs W hr _=>by obtain⟨rfl,_⟩:=hr;exact⟨rfl,jT.o⟩)).slice hM).PE
def Mw(M:aS)(w:aj)(hM:Bd M w)(c:az)(fv:an)(x:aB)(b:Bool)(g1 g2:an)(p:Nat)(pre post:List ay)(f:ay)(ha:iy c x.field pre f post)(hk:x.kind=6)(h8:c.fields.length<=8)
 (hp:cI w p (rb c.name fv x pre.length b g1 g2))(bR:ab M w fv c.fields):
 xG 257 #[xP p] w λv w'=>ab M w' v (bT c x).fields:=by
 have gO:p<w.heap.size:=(Qaa.1 hp).1;have HW:=af (cH hp);have q1:=HW.o.c1;have HC:=af (jH M w fv c.fields bR (by omega));have og:c.fields[pre.length]? =some f:=by rw[ha.eq];simp
 have aX:pre.length<c.fields.length:=(Qad.1 og).1;have rT:=af (show(bT c x).fields=c.fields.set pre.length ⟨f.name,f.type,!f.indexed⟩by
  rw[fg ha (by omega),ha.eq];simp[iS,hk]);have Ap:=af og;obtain⟨n,hn⟩:=fx (c.fields.length);obtain⟨i,hi⟩:=fx (pre.length);have HN:=af hn;rw[hi]at aX HW rT Ap;rw[hn]at aX;go_enter func257,ntmps257;go_wp2_with fail;refine(HC.o).mono ?_;rintro e w1⟨_,rfl,hacc,hb⟩;have HA:=af hacc;obtain⟨a1,c1,rfl,cK,qE⟩:=hacc.open_;obtain⟨g,rfl,hg,GA,⟨z0,z1,z2,z3⟩,oU⟩:=uS hacc Ap.o;rw[hn]at HA cK⊢;have HB:=af hb;have jU:=af (HW.o.below gO hb);have q2:=jU.o.ca;have f0:=oU (i*4+3);go_wp2_with fail;go_region;all_goals
  go_wp2;go_ret;refine⟨_,rfl,?_,(HB.o.setCell (p:=⟨g,i*4+3,none⟩) hg _).drew⟩;rw[rT.o];exact((aP.cell HA.o Ap.o (j:=3) (by decide) _ (λcs W hr _=>by obtain⟨rfl,hs⟩:=hr;exact⟨rfl,hs⟩)).slice hM).PE
def PF(M:aS)(w:aj)(hM:Bd M w)(c:az)(fv:an)(x:aB)(b:Bool)(g1 g2:an)(p:Nat)(pre post:List ay)(f:ay)(ha:iy c x.field pre f post)(hk:x.kind=4)(h8:c.fields.length<=8)
 (hp:cI w p (rb c.name fv x pre.length b g1 g2))(bR:ab M w fv c.fields):
 xG 251 #[xP p] w λv w'=>ab M w' v (bT c x).fields:=by
 have gO:p<w.heap.size:=(Qaa.1 hp).1;have HW:=af (cH hp);have q1:=HW.o.c1;have HC:=af (jH M w fv c.fields bR (by omega));have og:c.fields[pre.length]? =some f:=by rw[ha.eq];simp
 have aX:pre.length<c.fields.length:=(Qad.1 og).1;have rT:=af (show(bT c x).fields=c.fields.set pre.length ⟨f.name,x.type,false⟩by
  rw[fg ha (by omega),ha.eq];simp[iS,hk]);have Ap:=af og;obtain⟨n,hn⟩:=fx (c.fields.length);obtain⟨i,hi⟩:=fx (pre.length);have HN:=af hn;rw[hi]at aX HW rT Ap;rw[hn]at aX;go_enter func251,ntmps251;go_wp2_with fail;refine(HC.o).mono ?_;rintro e w1⟨_,rfl,hacc,hb⟩;have HA:=af hacc;obtain⟨a1,c1,rfl,cK,qE⟩:=hacc.open_;obtain⟨g,rfl,hg,GA,⟨z0,z1,z2,z3⟩,oU⟩:=uS hacc Ap.o;rw[hn]at HA cK⊢;have HB:=af hb;have jU:=af (HW.o.below gO hb);have q2:=jU.o.ca;have q3:=jU.o.c6;have q4:=jU.o.c7;have f0:=oU (i*4+1);have f1:=oU (i*4+2);have f2:=oU (i*4+3);go_wp2_with fail;go_region;all_goals
  go_wp2;go_ret;refine⟨_,rfl,?_,(((HB.o.setCell (p:=⟨g,i*4+1,none⟩) hg _).setCell (p:=⟨g,i*4+1+1,none⟩) hg _).setCell (p:=⟨g,i*4+3,none⟩) hg _).drew⟩;rw[rT.o];have Ci:∀y:ay,(c.fields.set i y)[i]? =some y:=λy=>List.getElem?_set_self (by rw[HN.o];exact aX);have A1:=aP.cell HA.o Ap.o (j:=1) (by decide) (xI x.type.kind) (y:=⟨f.name,⟨x.type.kind,f.type.of⟩,f.indexed⟩) (λcs W hr _=>by obtain⟨rfl,hs⟩:=hr;exact⟨rfl,hs⟩);have A2:=aP.cell A1 (Ci _) (j:=2) (by decide) (xI x.type.of) (y:=⟨f.name,x.type,f.indexed⟩) (λcs W hr _=>by obtain⟨rfl,hs⟩:=hr;exact⟨rfl,hs⟩);rw[List.set_set]at A2;have A3:=aP.cell A2 (Ci _) (j:=3) (by decide) (xB false) (y:=⟨f.name,x.type,false⟩) (λcs W hr _=>by obtain⟨rfl,hs⟩:=hr;exact⟨rfl,hs⟩);rw[List.set_set]at A3;exact(A3.slice hM).PE
def Mx(d:Nat)(w:aj)(f:Fn)(x y:Array an):(Op.equalIn (d+1) 314 (.func f x y) .nilFunc).run prog w= .ok false w:=by
 simp[Op.equalIn,run_underlying underlying314]
def nT(w:aj)(f:Fn)(x y:Array an):(binOp .neq 314 (.func f x y) .nilFunc).run prog w= .ok (xB true) w:=by
 simp only[binOp];simp[Op.equal,Op.maxDepth,Mx 9999]
def xx(M:aS)(w:aj)(c:az)(fv:an)(x:aB)(a:Int)(b:Bool)(g1 g2:an)(p:Nat)(s u:aT)(fS:c.name.size<=maxLen)
 (hp:cI w p (rb c.name fv x a b g1 g2))(bR:ab M w fv c.fields)(hs:hasB c s=false\/s=u):
 xC 271 #[xP p,xS s,xS u] w (cN (xB true) w):=by
 have gO:p<w.heap.size:=(Qaa.1 hp).1;have q0:=(cH hp).c0;have q1:=(cH hp).c1;have HF:=af (show xC 60 #[.agg #[xS c.name,fv],xS s] w λe w'=>∃at_,e=xR (.tuple #[xI at_,xB (hasB c s)])/\aq w w' by
  refine cG (jJ M fv w c s _ _ bR fS rfl rfl) λw1 hb=> ?_;exact⟨_,rfl,hb⟩);obtain⟨a0,c0,rfl,cK,qE,ho⟩:=bR.open_;go_enter func271,ntmps271;go_wp2_with fail;refine(HF.o).mono ?_;rintro e w1⟨at_,rfl,hb⟩;have HB:=af hb;rcases hs with hs|rfl
 .rw[hs];go_wp2;go_ret;exact⟨rfl,HB.o⟩
 .cases hq:hasB c s
  .go_wp2;go_ret;exact⟨rfl,HB.o⟩
  .go_wp2;go_ret;exact⟨by simp,HB.o⟩
def I0(w:aj)(nm:aT)(fv:an)(x:aB)(a:Int)(b:Bool)(g1 g2:an)(p:Nat)(hp:cI w p (rb nm fv x a b g1 g2)):
 xC 244 #[xP p] w (cN (xB b) w):=by
 have q1:=(cH hp).cb;go_enter func244,ntmps244;go_wp2;go_ret;exact⟨rfl,dK⟩
def I1(w:aj)(nm:aT)(fv:an)(x:aB)(a:Int)(f1:Nat)(b1:Array an)(g2:an)(p:Nat)(hp:cI w p (rb nm fv x a true (.func (.func f1) #[] b1) g2)):
 xC 250 #[xP p] w (cN (xB true) w):=by
 have q1:=(cH hp).cb;have q2:=(cH hp).cc;have q3:=nT;go_enter func250,ntmps250;go_wp2;go_ret;exact⟨rfl,dK⟩
def CS(M:aS)(w:aj)(c:az)(fv:an)(x:aB)(a:Int)(g1 g2:an)(p:Nat)(fS:c.name.size<=maxLen)(hp:cI w p (rb c.name fv x a true g1 g2))(bR:ab M w fv c.fields)(hs:hasB c x.name=false):
 xC 247 #[xP p] w (cN (xB true) w):=by
 have HF:=af (xx M w c fv x a true g1 g2 p x.name ⟨#[]⟩ fS hp bR (.inl hs));have q1:=(cH hp).cb;have q2:=(cH hp).c4;go_enter func247,ntmps247;go_wp2_with fail;refine cG (HF.o) λw1 hb=> ?_;have HB:=af hb;go_wp2;go_ret;exact⟨rfl,HB.o⟩
def My(M:aS)(w:aj)(c:az)(fv:an)(x:aB)(a:Int)(b:Bool)(f1:Nat)(b1:Array an)(g2:an)(p:Nat)(fS:c.name.size<=maxLen)(h8:c.fields.length<8)(hp:cI w p (rb c.name fv x a b (.func (.func f1) #[] b1) g2))(bR:ab M w fv c.fields)(hs:hasB c x.name=false):
 xC 241 #[xP p] w (cN (xB true) w):=by
 have gO:p<w.heap.size:=(Qaa.1 hp).1;have HW:=af (cH hp);have HF:=af (xx M w c fv x a b _ g2 p x.name ⟨#[]⟩ fS hp bR (.inl hs));have q1:=HW.o.c1;have q2:=HW.o.c4;have s0:((c.fields.length:Nat):Int)<8:=by omega
 obtain⟨a0,c0,rfl,cK,qE,ho⟩:=bR.open_;obtain⟨n,hn⟩:=fx (c.fields.length);rw[hn]at q1 s0 HW;have q4:=nT;go_enter func241,ntmps241;go_wp2_with fail;refine cG (HF.o) λw1 hb=> ?_;have HB:=af hb;have q3:=(HW.o.below gO hb).cc;go_wp2;go_ret;exact⟨rfl,HB.o⟩
abbrev nU(i:Int):an:=xI i
def tt(e:Bool)(x:Int)(w:aj):(Instr.checkKey e 10000 3 (nU x)).run prog w= .ok () w:=by
 show(Instr.checkKey e (9999+1) 3 (xI x)).run prog w= .ok () w;rw[Instr.checkKey];simp only[Sem.run_bind,run_underlying underlying3,Result.andThen_ok];rfl
def iH(f p:Nat):an:= .func (.func f) #[xP p] #[]
def jm(p f g h:Nat):an:= .agg #[iH f p,iH g p,iH h p]
def mW {es:List (Int×an×Nat)}(h:cg nU w b es clk)(x:Int)(v:an)(hv:bP es x=none):∃w',(Instr.mapUpdate 318 (.map (some b)) (xI x) v).run prog w= .ok () w'/\cg nU w' b (es++[(x,v,clk)]) (clk+1)/\ai (λi=>i=b) w w':=by
 obtain⟨h1,h2⟩:=cg.insert nU (.int .i64) yW (P:=prog) underlying318 underlying3 tt h x v hv;exact⟨_,h1,h2,(ai.refl (λi=>i=b) w).putObj (.inl rfl) _⟩
def qq(w:aj)(b p:Nat):Prop:=∃es clk,cg nU w b es clk/\
 bP es 1=some (jm p 241 242 243)/\
 bP es 2=some (jm p 244 245 246)/\
 bP es 3=some (jm p 247 248 249)/\
 bP es 4=some (jm p 250 251 252)/\
 bP es 5=some (jm p 253 254 255)/\
 bP es 6=some (jm p 256 257 249)
def kL {es:List (Int×an×Nat)}(h:cg nU w b es clk)(x:Int)(v:an)(hv:bP es x=some v):(Instr.lookup 318 (.map (some b)) (xI x) false).run prog w= .ok v w:=
 cg.lookup nU (.int .i64) yW (P:=prog) underlying318 underlying3 tt h x v hv
def PG(w:aj)(p:Nat):xC 221 #[xP p] w λe w'=>∃b,e=xR (.map (some b))/\qq w' b p/\w.heap.size<=b/\aq w w':=by
 have h0:cg nU (w.alloc (.map #[] 0)) w.heap.size [] 0:=(MapKept.heap_alloc w _).1;have t0:w.heap.size<(w.alloc (.map #[] 0)).heap.size:=by simp
 obtain⟨w0,Ds⟩:=cM (w.alloc (.map #[] 0));rw[<-Ds]at h0 t0;obtain⟨w1,e1,h1,o1⟩:=mW h0 1 (jm p 241 242 243) rfl;obtain⟨w2,e2,h2,o2⟩:=mW h1 2 (jm p 244 245 246) rfl;obtain⟨w3,e3,h3,o3⟩:=mW h2 3 (jm p 247 248 249) rfl;obtain⟨w4,e4,h4,o4⟩:=mW h3 4 (jm p 250 251 252) rfl;obtain⟨w5,e5,h5,o5⟩:=mW h4 5 (jm p 253 254 255) rfl;obtain⟨w6,e6,h6,o6⟩:=mW h5 6 (jm p 256 257 249) rfl;have HO:Hd (aq w w6):=((((ai.refl xF w).alloc (.map #[] 0)).dc (Ds▸(((((o1.trans o2).trans o3).trans o4).trans o5).trans o6)) (λi hi aX=>by subst hi;omega)).below);have HM:Hd (qq w6 w.heap.size p):=⟨_,_,h6,rfl,rfl,rfl,rfl,rfl,rfl⟩;clear h0 h1 h2 h3 h4 h5 h6 o1 o2 o3 o4 o5 o6 t0;unfold jm iH at e1 e2 e3 e4 e5 e6;have DK:∀(fn:Fn)(first cap:Array an)(w:aj),(Instr.makeFunc fn first cap).run prog w= .ok (.func fn first cap) w:=λ_ _ _ _=>rfl;have Cb:=lg 318 w;rw[<-Ds]at Cb;clear Ds;go_enter func221,ntmps221;go_wp2;go_ret;exact⟨_,rfl,HM.o,bq,HO.o⟩
def jb(x:bE)(i:Nat)(o:bH):Prop:=∃(o0:bH)(k v:Nat)(l:aK)(us:List au),x.objs[i]? =some o0/\pH x.lines x.objs.length o0 k v l/\gi (aI l v) (l.changes.drop v) x.objs.length o0.aJ us/\o=⟨o0.id,(k:Int),(l.changes.length:Int),us⟩
theorem jb.refs {x:bE}(h:fL x){o:bH}(hl:jb x i o):o.aJ.flatMap (bw 3)=cZ x ((i:Int)+1):=by
 obtain⟨o0,k,v,l,us,h1,h2,h3,rfl⟩:=hl;rw[h.refs h1 h2];exact h3.refs
theorem jb.aJ {x:bE}(h:fL x){o:bH}(hl:jb x i o):∃fs,aW fs x.objs.length o.aJ/\o.aJ.length<=8:=by
 obtain⟨o0,k,v,l,us,h1,h2,h3,rfl⟩:=hl;have hc:=((h.sch.lines l (Qaf h2.line)).from_ v).oF (l.changes.drop v).length;have e:aI (dW l v) (l.changes.drop v).length=kb (aI l v) (l.changes.drop v):=by
  show kb (aI l v) ((l.changes.drop v).take _)=_;rw[List.take_length]
 rw[e]at hc;have h8:=((bc _).1 hc.right).2.1;exact⟨_,h3.1,by show us.length<=8;rw[h3.1.1];exact h8⟩
theorem fL.closed {x:bE}(h:fL x):Mk.zo x.objs.length (bM x) (cZ x):=by
 refine⟨λn hn=> ?_,λn h1 h2 y hy=> ?_⟩
 .obtain⟨r,hr,rfl⟩:=List.mem_map.1 hn;exact h.roots r hr
 .obtain⟨i,rfl⟩:∃i:Nat,n=(i:Int)+1:=⟨(n-1).toNat,by omega⟩;obtain⟨o,ho⟩:=dQ x.objs i (by omega);obtain⟨_,k,v,l,hk⟩:=h.objs i o ho;rw[h.refs ho hk]at hy;exact CD hk.aJ y hy
def I3 {x:bE}(h:fL x){o:bH}(hl:jb x i o):(cZ x ((i:Int)+1)).length<=96:=by
 rw[<-hl.refs h];obtain⟨fs,h1,h8⟩:=hl.aJ h;have key:∀l:List au,(∀v∈l,(bw 3 v).length<=12)->(l.flatMap (bw 3)).length<=12*l.length:=by
  intro l;induction l with
  |nil=>intro _;simp
  |cons a l ih=>
   intro hh;have h1:=hh a (by simp);have h2:=ih (λv hv=>hh v (List.mem_cons_of_mem _ hv));simp only[List.flatMap_cons,Qda,Qcc];omega
 have:=key o.aJ (λv hv=>by
  obtain⟨f,_,hf⟩:=dw h1 v hv;exact kI hf 3);omega
structure KK(x:bE)(M:aS)(w:aj)(lv:an)(pm:Nat):Prop where
 late:∃ls:List bH,ab M w lv ls/\ls.length=x.objs.length/\∀(i:Nat)o,ls[i]? =some o->jb x i o
 place:∃es clk,cg nU w pm es clk/\∀i:Nat,i<x.objs.length->bP es ((i:Int)+1)=some (xI i)
theorem KK.below {x:bE}{pm:Nat}(h:KK x M w lv pm)(hb:aq w W):KK x M W lv pm:=by
 obtain⟨⟨ls,h1,h2⟩,es,clk,h3,h4⟩:=h;exact⟨⟨ls,h1.below hb,h2⟩,es,clk,(hb.block _ (Qaa.1 h3).1).trans h3,h4⟩
theorem KK.only {x:bE}{pm:Nat}{S:aS}(h:KK x M w lv pm)(ho:ai S w W)(hS:∀i,S i->M i)(hp:¬S pm):KK x M W lv pm:=by
 obtain⟨⟨ls,h1,h2⟩,es,clk,h3,h4⟩:=h;exact⟨⟨ls,h1.ev ⟨ho.mono hS,λi hi=> .inl hi⟩,h2⟩,es,clk,(ho.block _ (Qaa.1 h3).1 hp).trans h3,h4⟩
theorem fL.place {x:bE}(h:fL x)(hi:i<x.objs.length):OS x.objs ((i:Int)+1)=i:=by
 obtain⟨o,ho⟩:=dQ x.objs i hi;refine idxOf_hit (λy hy=> ?_) ho (by simp[(h.objs i o ho).1]);obtain⟨j,hj⟩:=List.getElem?_of_mem hy;rw[List.getElem?_take]at hj;split at hj
 .rename_i aX;have:=(h.objs j y hj).1;simp;omega
 .cases hj
theorem fL.ZP {x:bE}(h:fL x){v:Nat}{o:bH}{l:aK}(ho:x.objs[i]? =some o)(hk:pH x.lines x.objs.length o k v l):SW x.objs.length o:=by
 have h1:=(h.objs i o ho).1;have h2:=(Qad.1 ho).1;have h3:=h.len;have h4:=(Qad.1 hk.line).1;have h5:=h.sch.len;have h6:=h.sch.lines l (Qaf hk.line);have h7:=h6.len;have h8:=((bc (aI l v)).1 (h6.oF v).right).2.1;have h9:=hk.aJ.1;have GY:=hk.le;exact⟨by omega,by omega,by rw[hk.cls];omega,by rw[hk.cls];omega,by rw[hk.ver];omega,by rw[hk.ver];omega,⟨_,hk.aJ⟩,by omega⟩
structure rJ(x:bE)(S:List Int)(o:bH):Prop where
 id:o.id∈S
 cls:∃(k:Nat)(l:aK),o.cls=(k:Int)/\x.lines[k]? =some l/\aW (aI l l.changes.length).fields x.objs.length o.aJ
 aJ:∀v∈o.aJ,Pj S v
def zp(l:aK)(v:Nat):kb (aI l v) (l.changes.drop v)=aI l l.changes.length:=by
 unfold aI kb;rw[<-List.foldl_append,List.take_append_drop,List.take_length]
theorem jb.live {x:bE}(h:fL x){o:bH}(hl:jb x i o)(hS:∀n,n∈S↔Mk.AG (bM x) (cZ x) n)(ho:o.id∈S):rJ x S (BG S o):=by
 have hr:=hl.refs h;obtain⟨o0,k,v,l,us,h1,h2,h3,rfl⟩:=hl;have hi:=(h.objs i o0 h1).1;have hv:=h3.1;rw[zp]at hv;refine⟨ho,⟨k,l,rfl,h2.line,Pk hv⟩,Pl hv λr hrr=> ?_⟩;rw[hr]at hrr;have Ch:o0.id∈S:=ho;rw[hi]at Ch;exact(hS r).2 (.step _ _ ((hS _).1 Ch) hrr)
structure lj where
 field:aT
 at_:Int
instance:aA lj where
 size:=2
 rep:=λ_ _ cs x=>cs=[xS x.field,xI x.at_]/\x.field.size<=maxLen
 len:=λh=>by rw[h.1];rfl
 flat:=λh u hu=>by rw[h.1]at hu;simp at hu;rcases hu with rfl|rfl<;>rfl
 ev:=λh _=>h
structure rK where
 kind:Int
 root:aT
 steps:List lj
 cls:aT
 field:aT
 op:aT
 k:Int
 n:Int
 s:aT
 a:Option Addr
 c:Nat
def rL(q:rK)(sv:an):an:= .agg #[xI q.kind,xS q.root,sv,xS q.cls,xS q.field,xS q.op,xI q.k,xI q.n,xS q.s,xL q.a 0 q.c]
structure pP(q:rK):Prop where
 root:q.root.size<=maxLen
 cls:q.cls.size<=maxLen
 field:q.field.size<=maxLen
 op:q.op.size<=maxLen
 str:q.s.size<=maxLen
 kind:q.k≠5
def uZ:zE nU prog 3:=MP nU (.int .i64) yW underlying3
def zF {es:List (Int×an×Nat)}(h:cg nU w b es clk)(n:Int)(v:an)(hv:bP es n=some v):(Instr.lookup 121 (.map (some b)) (xI n) true).run prog w= .ok (.tuple #[v,xB true]) w:=
 cg.UN nU underlying121 uZ tt h n v hv
def Je(w:aj)(K b:Nat)(es:List (Int×an×Nat))(clk:Nat)(n v:Int)(hK:aU w K 1 (.map (some b)))(hm:cg nU w b es clk)(hv:bP es n=some (xI v)):
 xC 144 #[xI n,xP K] w (cN (xB false) w):=by
 have hl:=zF hm n _ hv;have zU:=zF (w:=w.drew) hm n _ hv;go_enter func144,ntmps144;go_wp2;go_ret;exact⟨rfl,dK⟩
def rN(lv ov rv:an)(n:Int):Obj:=xK #[lv,ov,rv,xI n] 40
def P2(M:aS)(w:aj)(hM:Bd M w)(la:dC)(ln lc:Nat)(oa:dC)(om oc:Nat)(rv:an)(rs:List cT)(nx:Int)(hr:ab M w rv rs)(h5:rs.length<=5):
 xG 24 #[.agg #[xL la ln lc,xL oa om oc,rv,xI nx]] w λu w'=>ab (α:=Int) M w' u (rs.map cT.id):=by
 obtain⟨i0,dz,dX,cY,dA⟩:=info_parts iU;have HR:Hd (∀i r,rs[i]? =some r->_):=λi r hx=>gj hr hx;obtain⟨ra,rc,rfl,QP,YS,_⟩:=hr.open_;have np:=af hM;clear hr hM;generalize hn:rs.length=n at*;have ek:=af hn;clear hn;have h6:(n:Int)<=5:=by omega
 go_enter func24,ntmps24;go_wp2;go_loopg [3,4]n(λg r3 iv wr=>∃(i c1:Nat)(a1:dC),i<=n/\g=n-i/\iv=xI i/\r3=xL a1 i c1/\Hd (aP (α:=Int) M (w.heap.size+1) 3 wr (xL a1 i c1) ((rs.take i).map cT.id))/\Hd (Bx w [rN (xL la ln lc) (xL oa om oc) (xL ra n rc) nx] wr));case atStart=>exact⟨0,0,none,Qbf _,rfl,rfl,rfl,(aP.nil _ _ _ _),(Bx.dR w _)⟩
 case round=>
  obtain⟨i,c1,a1,hi,rfl,rfl,rfl,HA,HB⟩:=hrel;obtain⟨y0,y1,y2,y3⟩:=ae (HB.o.bJ rfl);by_cases aX:i<n
  .obtain⟨r,hr⟩:=dQ rs i (by have:=ek.o;omega);obtain⟨b,off,cap,hv,cw,_,aw⟩:=HR.o i r hr;obtain⟨rfl,rfl⟩:=gY hv;obtain⟨q0,q1⟩:=aw wr HB.o.1;have oV:=af (show((rs.take i).map cT.id).length=i by have:=ek.o;rw[Qdc,Qdb];omega);have oR:=af (show(rs.take i).map cT.id++[r.id]=(rs.take (i+1)).map cT.id by rw[Qbb,hr];simp);clear aw hv hr;have hsz:=HB.o.bY;go_wp2_with(at_builtin;refine aZ (α:=Int) rfl _ _ _ rfl M (w.heap.size+1) 3 i0 _ 8 underlying27 dz dX cY dA rfl (by decide) (.slice a1 i c1) ((rs.take i).map cT.id) rfl (HA.o.alloc _) (λ_=>True) _ _ r.id rfl (b9 _ _ _ _ rfl trivial) rfl (by rw[oV.o];unfold maxLen;omega) (by rw[oV.o];omega) (by have:=HB.o.bY;simp at this⊢;omega) ?_;rw[oV.o,oR.o];intro a2 c2 w2 bu dr aY;have cL:=af bu;have bI:=af aY;clear bu dr aY);go_roundg(n-(i+1));case measure=>omega
   case rel=>
    refine⟨i+1,c2,a2,by omega,rfl,by go_num,rfl,cL,((HB.o.alloc _).cP bI.o (by simp))⟩
  .obtain rfl:i=n:=by omega
   go_wp2;go_ret;refine⟨_,rfl,?_,HB.o.1⟩;have h1:=HA.o.slice (λj hj=>Nat.lt_succ_of_lt (np.o j hj));rw[Qah (by rw[ek.o];omega)]at h1;exact h1
theorem aP.le {α:Type} [aA α]{base':Nat}{xs:List α}(h:aP M base e w v xs)(hb:base'<=base):aP M base' e w v xs:=by
 obtain⟨css,⟨h1,h2⟩,h3,h4⟩:=h;refine⟨css,⟨h1,?_⟩,h3,h4⟩;rcases h2 with h2|⟨g,cap,cur,h5,h6,h7⟩
 .exact .inl h2
 .exact .inr ⟨g,cap,cur,h5,by omega,h7⟩
def Wi {size:Nat}{cs:Array an}(h:cI w g (.cells cs t (0,0)))(hs:cs.size=size)(hF:F g):bj F w size (xL (some ⟨g,0,none⟩) 1 1) 1 cs.toList:=by
 refine⟨by simp[hs],some ⟨g,0,none⟩,1,rfl,bq,by unfold maxLen;omega,λ_=>⟨g,0,rfl,hF,(Qaa.1 h).1,λj u hu=> ?_⟩⟩;simp only[World.cell?,h,Nat.zero_add];simpa using hu
def AK(hb:Below w.drew.heap.size w.drew w'):aq w w':=(Qbg _ w).drew.trans hb
def Tp(hb:Below (w.drew.alloc o).heap.size (w.drew.alloc o) w'):aq w w':=((Qbg _ w).drew.alloc bq o).trans (hb.mono (by show w.heap.size<=(w.alloc o).heap.size;simp))
def Tq(hb:Below (w.alloc o).drew.heap.size (w.alloc o).drew w'):aq w w':=((Qbg _ w).alloc bq o).drew.trans (hb.mono (by show w.heap.size<=(w.alloc o).heap.size;simp))
def Yq(hb:Below (w.drew.alloc o).heap.size (w.drew.alloc o) w'):w'.heap[w.heap.size]? =some o:=(hb.block w.heap.size (by show w.heap.size<(w.alloc o).heap.size;simp)).trans (Qbh w.drew o)
def Yr(hb:Below (w.alloc o).drew.heap.size (w.alloc o).drew w'):w'.heap[w.heap.size]? =some o:=(hb.block w.heap.size (by show w.heap.size<(w.alloc o).heap.size;simp)).trans (Qbh w o)
def Wj(M:aS)(w:aj)(hM:Bd M w)(c:az)(fv:an)(x:aB)(a:Int)(b:Bool)(g1 g2:an)(p:Nat)(hk:x.kind=1)(xH:x.name.size<=maxLen)(h8:c.fields.length<=8)
 (hp:cI w p (rb c.name fv x a b g1 g2))(bR:ab M w fv c.fields):
 xG 242 #[xP p] w λv w'=>ab M w' v (bT c x).fields:=by
 obtain⟨i0,dz,dX,cY,dA⟩:=info_parts iw;have gO:p<w.heap.size:=(Qaa.1 hp).1;have HW:=af (cH hp);have q1:=HW.o.c1;have q4:=HW.o.c4;have q6:=HW.o.c6;have q7:=HW.o.c7;have HC:Hd (∀W,aq w W->xC 272 #[fv] W (bW W λv w'=>aP M w.heap.size 138 w' v c.fields)):=λW hb=>(jH M W fv c.fields (bR.below hb) (by omega)).mono λe w' h=>by
  obtain⟨v,h1,h2,h3⟩:=h;exact⟨v,h1,h2.le hb.size,h3⟩
 have rT:=af (show(bT c x).fields=c.fields++[⟨x.name,x.type,false⟩]by rw[qe hk]);have jT:Hd (x.name.size<=maxLen):=xH;obtain⟨a0,c0,rfl,cK,qE,ho⟩:=bR.open_;obtain⟨n,hn⟩:=fx (c.fields.length);rw[hn]at q1 cK HC h8 HW;have HN:=af hn;clear hn;clear bR hp ho;go_enter func242,ntmps242;go_wp2_with fail;go_upto_region 1 with fail;have dn:Hd (∀W,aq w W->aU W p 1 (xL a0 n c0)/\aU W p 4 (xS x.name)/\aU W p 6 (xI x.type.kind)/\aU W p 7 (xI x.type.of)):=λW hb=>by
  have h:=HW.o.below gO hb;exact⟨h.c1,h.c4,h.c6,h.c7⟩
 have HJ:Hd (aq w w):=dK;go_cut [2](λs2 wx=>Hd (ab M wx s2 (bT c x).fields)/\Hd (aq w wx));case first=>
  go_region_held3(λw'=>w'.cell? ⟨p,1,none⟩=some (xL a0 n c0)/\w'.cell? ⟨p,4,none⟩=some (xS x.name)/\w'.cell? ⟨p,6,none⟩=some (xI x.type.kind)/\w'.cell? ⟨p,7,none⟩=some (xI x.type.of))
   (with_reducible first|exact dn.o _ qN.o|exact dn.o _ qN.o.drew|exact dn.o _ HJ.o|exact dn.o _ HJ.o.drew|exact dn.o _ (HJ.o.alloc HJ.o.size _)|exact dn.o _ ((HJ.o.alloc HJ.o.size _).drew)|exact dn.o _ (HJ.o.drew.alloc HJ.o.size _)|exact dn.o _ cR.o|exact dn.o _ cR.o.drew|exact dn.o _ (cR.o.alloc cR.o.size _)|exact dn.o _ ((cR.o.alloc cR.o.size _).drew))
   (first
     |(go_at_call 272;refine(HC.o _ (by with_reducible first|exact HJ.o.drew|exact HJ.o.drew.alloc HJ.o.size _|exact(HJ.o.alloc HJ.o.size _).drew)).mono ?_;rintro e w1⟨_,rfl,hacc,hb⟩;obtain⟨a1,c1,rfl,_⟩:=hacc.open_;have HA:=af hacc;try(with_reducible(have HX:=af (Yq hb)))
       try(with_reducible(have HX:=af (Yr hb)))
       have cR:Hd (aq w w1):=(by with_reducible first|exact af (AK hb)|exact af (Tp hb)|exact af (Tq hb));clear hb hacc)
     |(refine cO (α:=ay) rfl _ _ _ rfl M w.heap.size 138 i0 _ 40 underlying99 dz dX cY dA rfl (by decide) (.slice a1 c.fields.length c1) c.fields rfl (HA.o.alloc _) (λ_=>True) _ _ (⟨x.name,x.type,false⟩:ay) rfl (b9 _ _ _ _ rfl trivial) ⟨rfl,jT.o⟩ (by rw[HN.o];unfold maxLen;omega) (by rw[HN.o];omega) (by have:=cR.o.size;simp;omega) ?_;intro a2 c2 w2 bu dr aY;have cL:=af bu;have qN:Hd (aq w w2):=(cR.o.alloc cR.o.size _).trans aY;clear bu dr aY)
     |(refine cO (α:=ay) rfl _ _ _ rfl M w.heap.size 138 i0 _ 40 underlying99 dz dX cY dA rfl (by decide) (.slice a1 c.fields.length c1) c.fields rfl HA.o (λ_=>True) _ _ (⟨x.name,x.type,false⟩:ay) rfl (Wi HX.o rfl trivial) ⟨rfl,jT.o⟩ (by rw[HN.o];unfold maxLen;omega) (by rw[HN.o];omega) cR.o.size ?_;intro a2 c2 w2 bu dr aY;have cL:=af bu;have qN:Hd (aq w w2):=cR.o.trans aY;clear bu dr aY));all_goals(go_wp2;go_meet)
  all_goals exact⟨af (by rw[rT.o];exact cL.o.slice hM),qN⟩
 case rest=>
  obtain⟨HS,HB⟩:=hcut;have hs:=HS.o.open_;obtain⟨sa,sc,rfl,_⟩:=hs;go_wp2;go_ret;exact⟨_,rfl,HS.o,HB.o⟩
def FD(M:aS)(w:aj)(c:az)(fv:an)(x:aB)(a:Int)(f1 f2:Nat)(b1 b2:Array an)(p:Nat)(fS:c.name.size<=maxLen)(h8:c.fields.length<8)
 (hp:cI w p (rb c.name fv x a true (.func (.func f1) #[] b1) (.func (.func f2) #[] b2)))(bR:ab M w fv c.fields)(iG:(x.name.toList==x.more.toList)=false)(hs:hasB c x.name=false\/x.name=x.field)(jC:hasB c x.more=false\/x.more=x.field):
 xC 253 #[xP p] w (cN (xB true) w):=by
 have gO:p<w.heap.size:=(Qaa.1 hp).1;have HW:=af (cH hp);have HFa:=fV (w:=w) (λW hb=>xx M W c fv x a true _ _ p x.name x.field fS ((hb.block p gO).trans hp) (bR.below hb) hs);have HFb:=fV (w:=w) (λW hb=>xx M W c fv x a true _ _ p x.more x.field fS ((hb.block p gO).trans hp) (bR.below hb) jC);have q0:=HW.o.cb;have q1:=HW.o.c1;have q3:=HW.o.c3;have q4:=HW.o.c4;have q5:=HW.o.c5;have q6:=HW.o.cc;have q7:=HW.o.cd;have qf:=nT;have s0:decide (((c.fields.length:Nat):Int)≥8)=false:=by simp;omega
 obtain⟨a0,c0,rfl,cK,qE,ho⟩:=bR.open_;obtain⟨n,hn⟩:=fx (c.fields.length);rw[hn]at q1 s0;have dn:Hd (∀W,aq w W->aU W p 3 (xS x.field)/\aU W p 4 (xS x.name)/\aU W p 5 (xS x.more)/\aU W p 12 (.func (.func f1) #[] b1)/\aU W p 13 (.func (.func f2) #[] b2)):=λW hb=>by
  have h:=HW.o.below gO hb;exact⟨h.c3,h.c4,h.c5,h.cc,h.cd⟩
 have HJ:Hd (aq w w):=dK;clear bR hp ho hs jC;go_enter func253,ntmps253;go_wp2_with fail;go_quiet(fail);obtain⟨w2,oo⟩:=cM (w.drewN nq);have HJ:=af (show aq w w2 by rw[oo];exact⟨rfl,rfl,rfl,bq,λ_ _=>rfl⟩);rw[<-oo];have q3:=(dn.o _ HJ.o).1;have q4:=(dn.o _ HJ.o).2.1;have q5:=(dn.o _ HJ.o).2.2.1;have q6:=(dn.o _ HJ.o).2.2.2.1;have q7:=(dn.o _ HJ.o).2.2.2.2;clear oo;go_upto_region 3 with fail;have HJ2:Hd (aq w w2):=HJ;go_cut [2](λs2 wx=>s2=xB true/\Hd (aq w wx));case first=>
  go_region_held3(λw'=>w'.cell? ⟨p,3,none⟩=some (xS x.field)/\w'.cell? ⟨p,4,none⟩=some (xS x.name)/\w'.cell? ⟨p,5,none⟩=some (xS x.more)/\w'.cell? ⟨p,12,none⟩=some (.func (.func f1) #[] b1)/\w'.cell? ⟨p,13,none⟩=some (.func (.func f2) #[] b2))
   (with_reducible first|exact dn.o _ HJ.o|exact dn.o _ HJ.o.drew|exact dn.o _ eM.o|exact dn.o _ eM.o.drew|exact dn.o _ cR.o|exact dn.o _ cR.o.drew)
   (first
     |(go_at_call 271;with_reducible refine cG (HFa.o _ (by with_reducible first|exact HJ.o|exact HJ.o.drew)) λw3 hb=> ?_
       have eM:=af (show aq w w3 by first|with_reducible exact HJ.o.trans (hb.mono HJ.o.size)|exact HJ.o.drew.trans (hb.mono HJ.o.size));clear hb)
     |(go_at_call 271;with_reducible refine cG (HFb.o _ (by with_reducible first|exact eM.o|exact eM.o.drew)) λw4 hb=> ?_
       have cR:=af (show aq w w4 by first|with_reducible exact eM.o.trans (hb.mono eM.o.size)|exact eM.o.drew.trans (hb.mono eM.o.size));clear hb));all_goals(go_wp2;go_meet)
  all_goals exact⟨rfl,cR⟩
 case rest=>
  obtain⟨rfl,HB⟩:=hcut;go_wp2;go_ret;exact⟨rfl,HB.o⟩
def FE {n:Nat}{xs:List ay}(h:ab M w (xL a n cap) xs)(hx:xs[i]? =some f):
 ∃g off,a=some ⟨g,off,none⟩/\g<w.heap.size/\aU w g (off+i*4) (xS f.name)/\aU w g (off+i*4+1) (xI f.type.kind)/\aU w g (off+i*4+2) (xI f.type.of)/\aU w g (off+i*4+3) (xB f.indexed):=by
 have hl:=(Qad.1 hx).1;obtain⟨a',fq,hv,_,_,ho⟩:=h.open_;obtain⟨b,off,h1,_,h3,h4⟩:=ho (by omega);obtain⟨cs,⟨rfl,_⟩,h5⟩:=h4 i f hx;injection hv with ha _ _;exact⟨b,off,ha.trans h1,h3,h5 0 _ rfl,h5 1 _ rfl,h5 2 _ rfl,h5 3 _ rfl⟩
def FF(M:aS)(w:aj)(c:az)(fv:an)(x:aB)(i:Nat)(f:ay)(g1 g2:an)(p:Nat)(h8:c.fields.length<=8)(hi:c.fields[i]? =some f)(h3:f.type.kind<=3)
 (hp:cI w p (rb c.name fv x i true g1 g2))(bR:ab M w fv c.fields):
 xC 256 #[xP p] w (cN (xB true) w):=by
 have q0:=(cH hp).cb;have q1:=(cH hp).c1;have q2:=(cH hp).ca;have hl:=(Qad.1 hi).1;obtain⟨a0,c0,rfl,cK,qE,_⟩:=bR.open_;obtain⟨g,off,rfl,hg,z0,z1,z2,z3⟩:=FE bR hi;obtain⟨n,hn⟩:=fx (c.fields.length);rw[hn]at hl cK q1 h8;go_enter func256,ntmps256;go_wp2_with fail;go_region;all_goals
  go_wp2;go_ret;exact⟨rfl,by first|exact Qbg _ _|exact dK.drew⟩
def AL(k:Int):Nat:=if k=1 then 241 else if k=2 then 244 else if k=3 then 247 else if k=4 then 250 else if k=5 then 253 else 256
def qI(c:az)(x:aB):Int:=if fieldAt c x.field<0 then 0 else fieldAt c x.field
def KQ {u:aT}(h:(!hasB c s||s.toList==u.toList)=true):hasB c s=false\/s=u:=by
 rw[Bool.or_eq_true]at h;rcases h with h|h
 .exact .inl (by simpa using h)
 .exact .inr (uH h)
def Tt(M:aS)(w:aj)(c:az)(hc:cA c)(fv:an)(x:aB)(hx:qT c x)(hb:jf c x=true)(f1 f2:Nat)(b1 b2:Array an)(p:Nat)
 (hp:cI w p (rb c.name fv x (qI c x) (hasB c x.field) (.func (.func f1) #[] b1) (.func (.func f2) #[] b2)))(bR:ab M w fv c.fields):
 xC (AL x.kind) #[xP p] w (cN (xB true) w):=by
 have fS:=cz hc.small;have h8:=((bc c).1 hc.right).2.1;have hk:x.kind=1\/x.kind=2\/x.kind=3\/x.kind=4\/x.kind=5\/x.kind=6:=by have:=hx.sh;simp only[nB]at this;omega
 unfold jf at hb;rcases hk with hk|hk|hk|hk|hk|hk<;>rw[hk]at hb⊢
 .simp only[if_true,Qce,decide_eq_true_eq,Bool.not_eq_true']at hb;exact My M w c fv x _ _ f1 b1 _ p fS (by omega) hp bR hb.2
 .have hh:hasB c x.field=true:=by simpa using hb
  rw[hh]at hp;exact I0 w c.name fv x _ true _ _ p hp
 .have hh:hasB c x.field=true/\hasB c x.name=false:=by simpa using hb
  rw[hh.1]at hp;exact CS M w c fv x _ _ _ p fS hp bR hh.2
 .have hh:hasB c x.field=true:=by simpa using hb
  rw[hh]at hp;exact I1 w c.name fv x _ f1 b1 _ p hp
 .simp only[show¬((5:Int)=1)by decide,show¬((5:Int)=2)by decide,show¬((5:Int)=3)by decide,show¬((5:Int)=4)by decide,if_false,if_true]at hb;rw[Qce,Qce,Qce,Qce]at hb;obtain⟨⟨⟨⟨h1,h2⟩,h3⟩,h4⟩,h5⟩:=hb;rw[h1]at hp;have h2:=of_decide_eq_true h2;exact FD M w c fv x _ f1 f2 b1 b2 p fS (by omega) hp bR (by simpa using h3) (KQ h4) (KQ h5)
 .simp only[show¬((6:Int)=1)by decide,show¬((6:Int)=2)by decide,show¬((6:Int)=3)by decide,show¬((6:Int)=4)by decide,show¬((6:Int)=5)by decide,if_false]at hb;rw[Qce]at hb;obtain⟨i,f,h1,h2,h3⟩:=Cr hb.1;have h4:=of_decide_eq_true hb.2;rw[hb.1,show qI c x=(i:Int)by unfold qI;rw[h1,if_neg (by omega)]]at hp;exact FF M w c fv x i f _ _ p (by omega) h2 (by
   unfold yu at h4;rw[h1]at h4;simpa [h2]using h4) hp bR
def jS(lv:an)(pm:Nat):Obj:=xK #[lv, .map (some pm)] 123
theorem jb.inside {x:bE}(h:fL x){o:bH}(hl:jb x i o):∀n∈o.aJ.flatMap (bw 3),1<=n/\n<=x.objs.length:=by
 rw[hl.refs h];obtain⟨o0,k,v,l,us,h1,_⟩:=hl;have:=(Qad.1 h1).1;exact h.closed.refs _ (by omega) (by omega)
def MW(x:bE)(h:fL x)(M:aS)(w:aj)(hM:Bd M w)(hT:Tb w)(lv rv:an)(pm:Nat)(hgr:KK x M w lv pm)(kN:ab M w rv x.roots):
 xC 93 #[.agg #[lv, .map (some pm)],rv] w (cN (xB true) w):=by
 obtain⟨⟨ls,DA,hlen,je⟩,es,clk,DS,J7⟩:=hgr;have eg:∀args w,(callFunc 144 args).run prog w= .ok (.enter 144 args) w:=enters_of func144 (by kernel_rfl) rfl;have Ac:∀W(n:Int),aq w W->dY W w (jS lv pm)->1<=n->n<=x.objs.length->xC 144 #[xI n,xP w.heap.size] W (cN (xB false) W):=λW n hb hc h1 h2=>by
  have hv:=J7 (n-1).toNat (by omega);rw[show(((n-1).toNat:Nat):Int)+1=n from by omega]at hv;exact Je W w.heap.size pm es clk n _ (ah hc).2 ((hb.block _ (Qaa.1 DS).1).trans DS) hv
 have HM:=af Ac;have HR:Hd (∀i r,x.roots[i]? =some r->_):=λi r hr=>gj kN hr;have Zm:Hd (∀(i:Nat)r,x.roots[i]? =some r->1<=r.id/\r.id<=x.objs.length):=λi r hr=>h.roots r (Qaf hr);have HO:Hd (∀i o,ls[i]? =some o->_):=λi o ho=>eD DA ho;have Zn:Hd (∀(i:Nat)o,ls[i]? =some o->∀W u,aq w W->ab M W u o.aJ->xC 48 #[.agg #[xI o.id,xI o.cls,xI o.ver,u]] W (bW W λv w'=>ab M w' v (o.aJ.flatMap (bw 3)))):=λi o ho W u hb hu=>by
  obtain⟨fs,h1,h8⟩:=(je i o ho).aJ h;exact CF o x.objs.length (by have:=h.len;omega) fs h1 h8 M W (hM.below hb) u hu (hT.below hb)
 have R9:Hd (∀(i:Nat)o,ls[i]? =some o->∀W u,aq w W->dY W w (jS lv pm)->ab M W u (o.aJ.flatMap (bw 3))->_):=λi o ho W u hb hc hu=>nK 144 #[xP w.heap.size] eg _ M u W hu (λn hn W' iI=>Ac W' n (hb.trans (iI.mono hb.size)) ((iI.block _ (Qaa.1 hc).1).trans hc) ((je i o ho).inside h n hn).1 ((je i o ho).inside h n hn).2);have GY:=h.len;have h5:=h.rlen;obtain⟨la,lc,rfl,AW,XA,_⟩:=DA.open_;obtain⟨ra,rc,rfl,QP,YS,_⟩:=kN.open_;clear DA kN h Ac DS J7 je hM hT;generalize hn:ls.length=n at*;generalize JZ:x.roots.length=m at*;have qe7:n<=10:=by omega
 clear hlen GY;have HN:=af hn;clear hn;have Ut:=af JZ;clear JZ;have HEG:=af eg;go_enter func93,ntmps93;go_wp2;go_loopg [4,7,13]m(λg r4 _ iv wr=>∃j:Nat,j<=m/\g=m-j/\iv=xI j/\r4=xB false/\Hd (Bx w [jS (xL la n lc) pm] wr));case atStart=>exact⟨0,Qbf _,rfl,rfl,rfl,(Bx.dR w _)⟩
 case round=>
  obtain⟨j,hj,rfl,rfl,rfl,HB⟩:=hrel;by_cases aX:j<m
  .obtain⟨r,hr⟩:=dQ x.roots j (by rw[Ut.o];exact aX);obtain⟨b,off,cap,hv,cw,_,aw⟩:=HR.o j r hr;obtain⟨rfl,rfl⟩:=gY hv;obtain⟨g0,g1⟩:=aw wr HB.o.1;have HRX:=af (Zm.o j r hr);clear hv aw hr;go_wp2_with fail;refine cG (HM.o _ r.id (HB.o.alloc _).1 ((HB.o.alloc _).bJ rfl) HRX.o.1 HRX.o.2) λw1 aC=> ?_;have aO:Hd (Bx w [jS (xL la n lc) pm] w1):=(HB.o.alloc _).below aC;clear aC g0 g1;go_wp2;go_roundg(m-(j+1));case measure=>omega
   case rel=>exact⟨j+1,by omega,rfl,by go_num,rfl,aO⟩
  .obtain rfl:j=m:=by omega
   obtain⟨c0,c1⟩:=ah (HB.o.bJ rfl);go_wp2;go_loopg [4,9,25]n(λg r4 _ iv wr=>∃i:Nat,i<=n/\g=n-i/\iv=xI i/\r4=xB false/\Hd (Bx w [jS (xL la n lc) pm] wr));case atStart=>exact⟨0,Qbf _,rfl,rfl,rfl,HB⟩
   case round=>
    obtain⟨i,hi,rfl,rfl,rfl,HX⟩:=hrel;clear c0 c1;by_cases Rh:i<n
    .obtain⟨o,ho⟩:=dQ ls i (by rw[HN.o];exact Rh);obtain⟨b,off,cap,va,vc,hv,cw,dt,aw⟩:=HO.o i o ho;obtain⟨rfl,rfl⟩:=gY hv;obtain⟨g0,g1,g2,g3⟩:=aw wr HX.o.1;have bt:=af (λo'=>Zn.o i o ho (wr.alloc o') _ (HX.o.alloc o').1 (dt.below (HX.o.alloc o').1));have qb4:=af (R9.o i o ho);obtain⟨nl,QR⟩:=cM (o.aJ.flatMap (bw 3));rw[<-QR]at bt qb4;clear QR;obtain⟨oi,oc,ov,os⟩:=o;clear hv aw ho dt;go_wp2_with fail;refine(bt.o _).mono ?_;rintro e w1⟨u,rfl,hu,aC⟩;have hu':=hu;obtain⟨ua,uc,rfl,_⟩:=hu'.open_;have HU:=af hu;have aO:Hd (Bx w [jS (xL (some ⟨b,off,none⟩) n lc) pm] w1):=(HX.o.alloc _).below aC;clear aC hu g0 g1 g2 g3;go_wp2_with fail;refine cG (qb4.o _ _ aO.o.1 (aO.o.bJ rfl) HU.o) λw2 aY=> ?_;have aL:Hd (Bx w [jS (xL (some ⟨b,off,none⟩) n lc) pm] w2):=aO.o.below aY;clear aY;go_wp2;go_roundg(n-(i+1));case measure=>omega
     case rel=>exact⟨i+1,by omega,rfl,by go_num,rfl,aL⟩
    .obtain rfl:i=n:=by omega
     go_wp2;go_ret;exact⟨rfl,HX.o.1⟩
def rq {P:Program}{id:Nat}{Q:Exit->Act->aj->Prop}{a:Act}{l:List Oper}(hm:P.follows .mixedOrders=true)(hB:Region.lexB .any l.toArray=true)
 (h:∀(ι:Type) [Nonempty ι](F:ι->aj),(∀i,aq w (F i))->(∀W,aq w W->∃j,W=F j)->wpQuiet P l.toArray (λw'=>∃n,w'=F n) (λa'=>∀w',(∃n,w'=F n)->Q .normal a' w') l a):(Code.region id l.toArray true).wp P Q a w:=
 wp_region_quiet (C:=λw'=>∃n:{W:aj//aq w W},w'=n.1) hm hB ⟨⟨_,(Qbg _ w).drew⟩,rfl⟩ (by haveI:Nonempty {W:aj//aq w W}:=⟨⟨_,Qbg _ w⟩⟩;simpa using h {W:aj//aq w W} Subtype.val (λi=>i.2) (λW hW=>⟨⟨W,hW⟩,rfl⟩))
def C6(s:aT)(h:aE s=true)(hs:s.size<=maxLen)(w:aj):xC 142 #[xS s] w (cN (xB true) w):=by
 have HR:=af (show xC 185 #[.agg #[xS s,xL none 0 0]] w (cN (xB true) w)by
  have h1:=fW xF (xL none 0 0) w ⟨s,[]⟩ (ab.nil _ _) hs;have h2:aM ⟨s,[]⟩=true:=(dV _).2 ⟨h,by simp,λf hf=>by simp at hf,by simp⟩;rw[h2]at h1;exact h1);go_enter func142,ntmps142;go_wp2_with fail;refine cG (HR.o) λw1 hb=> ?_;have HB:=af hb;go_wp2;go_ret;exact⟨rfl,HB.o⟩
def Jp(x:bE)(h:fL x)(M:Nat->Prop)(w:World)(lv ov rv:Value)(j8:ab M w lv x.lines)(kn:ab M w ov x.objs)(kN:ab M w rv x.roots):
 xC 90 #[.agg #[lv,ov,rv,xI x.next]] w (cN (xB true) w):=by
 have HO:Hd (∀i o,x.objs[i]? =some o->_):=λi o ho=>eD kn ho;have HOI:Hd (∀(i:Nat)o,x.objs[i]? =some o->o.id=(i:Int)+1):=λi o ho=>(h.objs i o ho).1;have HR:Hd (∀i r,x.roots[i]? =some r->_):=λi r hr=>gj kN hr;have Xp:Hd (∀i r W,x.roots[i]? =some r->_):=λi r W hr=>C6 r.name (h.UD hr).1 (cz (h.UD hr).2) W;have HRL:Hd (∀i r s,x.roots[i]? =some r->x.roots[i+1]? =some s->_):=λi r s hr hs=>h.ZA hr hs;have GY:=h.len;have hnx:=h.next;have h5:=h.rlen;obtain⟨la,lc,rfl,_⟩:=j8.open_;obtain⟨oa,oc,rfl,hoc,hom,_⟩:=kn.open_;obtain⟨ra,rc,rfl,QP,YS,_⟩:=kN.open_;obtain⟨xl,xo,xr,xn⟩:=x;dsimp only at*;obtain⟨n,hn⟩:=fx (xo.length);obtain⟨m,JZ⟩:=fx (xr.length);rw[hn]at GY hnx hoc;rw[JZ]at h5 QP;obtain⟨rZ,xH⟩:=hnx;have R6:1<=xn:=by omega
 have Dp:xn<=100001:=by omega
 simp only[hn,JZ];have HN:=af hn;have Ut:=af JZ;go_enter func90,ntmps90;go_wp2;go_loopg [2,3,5,19]n(λg r2 r3 _ iv wr=>∃k:Nat,k<=n/\g=n-k/\iv=xI k/\r3=xI k/\r2=xB false/\Hd (Bx w [rN (xL la xl.length lc) (xL oa n oc) (xL ra m rc) xn] wr));case atStart=>exact⟨0,Qbf _,rfl,rfl,rfl,rfl,(Bx.dR w _)⟩
 case round=>
  obtain⟨k,hk,rfl,rfl,rfl,rfl,HX⟩:=hrel;obtain⟨c0,c1,c2,c3⟩:=ae (HX.o.bJ rfl);by_cases aX:k<n
  .obtain⟨o,ho⟩:=dQ xo k (by rw[HN.o];exact aX);obtain⟨b,off,cap,a',c',hv,cw,_,aw⟩:=HO.o k o ho;obtain⟨rfl,rfl⟩:=gY hv;obtain⟨g0,g1,g2,g3⟩:=aw wr HX.o.1;have hid:=HOI.o k o ho;rw[hid]at g0;have d3:=λo=>(ae ((HX.o.alloc o).bJ rfl)).2.2.2;have e1:(k:Int)+1<xn:=by omega
   go_wp2;go_roundg(n-(k+1));case measure=>omega
   case rel=>exact⟨k+1,by omega,rfl,by go_num,by go_num,rfl,(HX.o.alloc _)⟩
  .obtain rfl:k=n:=by omega
   go_wp2;go_loopg [2,6,7,40]m(λg r2 _ _ iv wr=>∃j:Nat,j<=m/\g=m-j/\iv=xI j/\r2=xB false/\Hd (Bx w [rN (xL la xl.length lc) (xL oa k oc) (xL ra m rc) xn] wr));case atStart=>exact⟨0,Qbf _,rfl,rfl,rfl,HX⟩
   case round=>
    obtain⟨j,hj,rfl,rfl,rfl,HY⟩:=hrel;obtain⟨c0,c1,c2,c3⟩:=ae (HY.o.bJ rfl);by_cases Rh:j<m
    .obtain⟨r,hr⟩:=dQ xr j (by rw[Ut.o];exact Rh);obtain⟨b,off,cap,hv,cw,_,aw⟩:=HR.o j r hr;obtain⟨rfl,rfl⟩:=gY hv;obtain⟨g0,g1⟩:=aw wr HY.o.1;have QQ:=af (λW=>Xp.o j r W hr);have R4:=af hr;go_upto_region 14 with fail;obtain⟨W7,Au⟩:=cM (wr.alloc (xK #[xS r.name,xI r.id] 74));have rB:=af (show Bx w [rN (xL la xl.length lc) (xL oa k oc) (xL (some ⟨b,off,none⟩) m rc) xn] W7 by rw[Au];exact HY.o.alloc _);have Q4:=af (show W7.heap[wr.heap.size]? =some (xK #[xS r.name,xI r.id] 74)by rw[Au];exact Qbh wr _);rw[<-Au];generalize wr.heap.size=Q at*;have HS:Hd (∀W,aq W7 W->W.cell? ⟨Q,0,none⟩=some (xS r.name)/\W.cell? ⟨w.heap.size,2,none⟩=some (xL (some ⟨b,off,none⟩) m rc)):=λW hb=>⟨(ah ((hb.block Q (Qaa.1 Q4.o).1).trans Q4.o)).1,(ae ((rB.o.below hb).bJ rfl)).2.2.1⟩;have HJ:Hd (aq W7 W7):=dK;obtain _|i:=j
     .go_cut [64](λs64 wx=>s64=xB false/\Hd (Bx w [rN (xL la xl.length lc) (xL oa k oc) (xL (some ⟨b,off,none⟩) m rc) xn] wx));case first=>
       refine rq (by kernel_rfl) (by kernel_rfl) λι _ F oq GC=> ?_;have s0:=λi=>(HS.o (F i) (oq i)).1;have lI:=af oq;have xN:=af GC;repeat(go_big_quiet_step((go_at_call 142;refine(QQ.o _).mono ?_;rintro e w3⟨rfl,bG⟩;exact⟨rfl,xN.o _ ((lI.o _).trans (bG.mono (lI.o _).size))⟩)))
       refine wpQuiet_nil ?_;rintro _⟨nq,rfl⟩;go_wp2;go_meet;exact⟨rfl,rB.o.below (lI.o _)⟩
      case rest=>
       obtain⟨rfl,bI⟩:=hcut;go_wp2;go_roundg(m-1);case measure=>omega
       case rel=>exact⟨1,by omega,rfl,by go_num,rfl,bI⟩
     .obtain⟨q,hq⟩:=dQ xr i (by rw[Ut.o];omega);obtain⟨b2,J0,oY,vw,_,_,Dx⟩:=HR.o i q hq;obtain⟨⟨rfl,rfl⟩,rfl⟩:(b=b2/\off=J0)/\rc=oY:=by rw[Ut.o]at vw;simpa using vw
      have qe8:=HRL.o i q r hq R4.o;obtain⟨Rc,heq⟩:Op.bytesLess r.name.toList q.name.toList=false/\(r.name.toList==q.name.toList)=false:=by simpa [Bool.or_eq_false_iff]using qe8
      have dz:(0:Int)<=(i:Int):=Qba _;have him:(i:Int)<(m:Int):=by omega
      have hiw:IntKind.i64.wrap (((i+1:Nat):Int)-1)=(i:Int):=by rw[show((i+1:Nat):Int)-1=(i:Int)from by omega];exact Qbe _ (by omega)
      have hgt:decide ((0:Int)<((i+1:Nat):Int))=true:=by simp
      have AY:=af Dx;go_cut [64](λs64 wx=>s64=xB false/\Hd (Bx w [rN (xL la xl.length lc) (xL oa k oc) (xL (some ⟨b,off,none⟩) m rc) xn] wx));case first=>
       refine rq (by kernel_rfl) (by kernel_rfl) λι _ F oq GC=> ?_;have s0:=λi=>(HS.o (F i) (oq i)).1;have s1:=λi=>(HS.o (F i) (oq i)).2;have s2:=λj=>(AY.o (F j) (rB.o.below (oq j)).1).1;have lI:=af oq;have xN:=af GC;repeat(go_big_quiet_step((go_at_call 142;refine(QQ.o _).mono ?_;rintro e w3⟨rfl,bG⟩;exact⟨rfl,xN.o _ ((lI.o _).trans (bG.mono (lI.o _).size))⟩)))
       refine wpQuiet_nil ?_;rintro _⟨nq,rfl⟩;go_wp2;go_meet;exact⟨rfl,rB.o.below (lI.o _)⟩
      case rest=>
       obtain⟨rfl,bI⟩:=hcut;go_wp2;go_roundg(m-(i+1+1));case measure=>omega
       case rel=>exact⟨i+1+1,by omega,rfl,by go_num,rfl,bI⟩
    .obtain rfl:j=m:=by omega
     go_wp2;go_ret;exact⟨rfl,HY.o.1⟩
def KW(b:Nat):Obj:=xK #[.map (some b)] 91
def wm(v:an):Obj:=xK #[v] 27
def tI(w0:aj):Nat->Prop:=λi=>i=w0.heap.size+1\/i=w0.heap.size+1+1+1
structure ib(w0 w:aj)(g:Obj)(v:an)(S wk:List Int):Prop where
 b0:w.heap[w0.heap.size]? =some g
 b5:w.heap[w0.heap.size+1+1]? =some (KW (w0.heap.size+1))
 b6:w.heap[w0.heap.size+1+1+1]? =some (wm v)
 set:Mk.cu w (w0.heap.size+1) S
 acc:aP (α:=Int) (tI w0) (w0.heap.size+4) 3 w v wk
 low:aq w0 w
 short:wk.length<=S.length
section
variable {w0 w w2 w4 W:aj}{g:Obj}{v v2:an}{S wk:List Int}{x:Int}
theorem ib.lt(h:ib w0 w g v S wk):w0.heap.size+4<=w.heap.size:=(Qaa.1 h.b6).1
theorem ib.below(h:ib w0 w g v S wk)(hb:aq w W):ib w0 W g v S wk:=
 ⟨(hb.block _ (by have:=h.lt;omega)).trans h.b0,(hb.block _ (by have:=h.lt;omega)).trans h.b5,(hb.block _ (by have:=h.lt;omega)).trans h.b6,h.set.same (hb.block _ (by have:=h.lt;omega)),h.acc.below hb,h.low.trans (hb.mono h.low.size),h.short⟩
theorem ib.bd(h:ib w0 w g v S wk):Bd (bB v (tI w0)) w:=λi hi=>by
 have hl:=h.lt;rcases hi with(hi|hi)|hi
 .omega
 .omega
 .exact(h.acc.dU i hi).2
theorem ib.next(h:ib w0 w g v S wk)(hs:Mk.cu w2 (w0.heap.size+1) (S++[x]))(ho:ai (λi=>i=w0.heap.size+1) w w2)(o:Obj)(hacc:aP (α:=Int) (tI w0) (w0.heap.size+4) 3 w4 v2 (wk++[x]))(A5:Ev (bB v (tI w0)) (w2.alloc o) (bB v2 (tI w0)) w4)(hb:Below (w0.heap.size+4) (w2.alloc o) w4):
 ib w0 (w4.setCell ⟨w0.heap.size+1+1+1,0,none⟩ v2) g v2 (S++[x]) (wk++[x])/\Ev (bB v (tI w0)) w (bB v2 (tI w0)) (w4.setCell ⟨w0.heap.size+1+1+1,0,none⟩ v2):=by
 have hl:=h.lt;have hz:=ho.size;have e1:∀i,i<w0.heap.size+4->w4.heap[i]? =w2.heap[i]? :=λi hi=>(hb.block i hi).trans (((Qbg _ w2).alloc bq o).block i (by omega));have e2:∀i,i≠w0.heap.size+1+1+1->i<w0.heap.size+4->(w4.setCell ⟨w0.heap.size+1+1+1,0,none⟩ v2).heap[i]? =w2.heap[i]? :=λi hn hi=>(Qag _ _ _ _ hn).trans (e1 i hi);refine⟨⟨?_,?_,?_,?_,?_,?_,?_⟩,⟨?_,λi hi=> ?_⟩⟩
 .exact(e2 _ (by omega) (by omega)).trans (ho.at_ h.b0 (by omega))
 .exact(e2 _ (by omega) (by omega)).trans (ho.at_ h.b5 (by omega))
 .have:=Qca w4 (w0.heap.size+1+1+1) 0 _ _ v2 ((e1 _ (by omega)).trans (ho.at_ h.b6 (by omega)));simpa [wm]using this
 .exact hs.same (e2 _ (by omega) (by omega))
 .exact hacc.uz (p:=⟨w0.heap.size+1+1+1,0,none⟩) (.inr rfl) (by show w0.heap.size+1+1+1<_;omega) _
 .exact(((cX h.low h.low.size ho (λi hi=>by subst hi;omega)).alloc (by have:=h.low.size;omega) o).trans (hb.mono (by omega))).setCell (p:=⟨w0.heap.size+1+1+1,0,none⟩) (by show w0.heap.size<=w0.heap.size+1+1+1;omega) _
 .have:=h.short;simp;omega
 .refine ai.setCell ?_ (p:=⟨w0.heap.size+1+1+1,0,none⟩) (.inl (.inl (.inr rfl))) _;exact((ho.mono (λi hi=> .inl (.inl hi))).alloc o).trans A5.only
 .rcases A5.sub i hi with h1|h1
  .exact .inl h1
  .right;have:(w2.alloc o).heap.size=w2.heap.size+1:=by simp
   omega
end
theorem tJ:∀(ids S wk:List Int),((Mk.dI (S,wk) ids).1).length<=S.length+ids.length
 |[],S,wk=>by simp[Mk.dI]
 |a::r,S,wk=>by
  have e:Mk.dI (S,wk) (a::r)=Mk.dI (if a∈S then(S,wk)else(S++[a],wk++[a])) r:=rfl;rw[e];split
  .have:=tJ r S wk;simp;omega
  .have:=tJ r (S++[a]) (wk++[a]);simp at this⊢;omega
def Qk(w0 w:aj)(g:Obj)(v:an)(S wk ids:List Int)(hS:S.length+ids.length<=1000)(h:ib w0 w g v S wk)(iv:an)(hi:ab (α:=Int) (bB v (tI w0)) w iv ids):
 xC 94 #[iv,xP (w0.heap.size+1+1),xP (w0.heap.size+1+1+1)] w λe w'=>e=xR (.tuple #[])/\∃v',ib w0 w' g v' (Mk.dI (S,wk) ids).1 (Mk.dI (S,wk) ids).2/\Ev (bB v (tI w0)) w (bB v' (tI w0)) w':=by
 obtain⟨i0,dz,dX,cY,dA⟩:=info_parts iU;have eE:Hd (∀k,((Mk.dI (S,wk) (ids.take k)).1).length<=1000):=λk=>by
  have h2:=tJ (ids.take k) S wk;have h3:(ids.take k).length<=ids.length:=by rw[Qdb];omega
  omega
 have jX:Hd (ib w0 w g v (Mk.dI (S,wk) (ids.take 0)).1 (Mk.dI (S,wk) (ids.take 0)).2/\Ev (bB v (tI w0)) w (bB v (tI w0)) w/\ab (α:=Int) (bB v (tI w0)) w iv ids):=⟨h,Ev.refl _ _,hi⟩;obtain⟨a,cap,rfl,cK,hm,_⟩:=hi.open_;clear h hi hS;generalize hn:ids.length=n at*;have HN:=af hn;clear hn;go_enter func94,ntmps94;go_wp2;go_loopg [5,8]n(λgg _ kv wr=>∃(k:Nat)(v1:an),k<=n/\gg=n-k/\kv=xI k/\Hd (ib w0 wr g v1 (Mk.dI (S,wk) (ids.take k)).1 (Mk.dI (S,wk) (ids.take k)).2/\Ev (bB v (tI w0)) w (bB v1 (tI w0)) wr/\ab (α:=Int) (bB v1 (tI w0)) wr (xL a n cap) ids));case atStart=>exact⟨0,v,Qbf _,rfl,rfl,jX⟩
 case round=>
  obtain⟨k,v1,hk,rfl,rfl,HX⟩:=hrel;by_cases aX:k<n
  .obtain⟨x,hx⟩:=dQ ids k (by rw[HN.o];exact aX);obtain⟨b,off,fq,hv,hb,aw⟩:=iF HX.o.2.2 hx;obtain⟨rfl,rfl⟩:a=some ⟨b,off,none⟩/\cap=fq:=by rw[HN.o]at hv;simpa using hv
   have hcx:=aw wr dK;have c5:=one_cell HX.o.1.b5;have oW:=HX.o.1.set.lookup x;have HKX:=af hx;clear hv aw hx hb;by_cases jn:x∈(Mk.dI (S,wk) (ids.take k)).1
   .rw[decide_eq_true jn]at oW;have fu:=af (show ib w0 wr g v1 (Mk.dI (S,wk) (ids.take (k+1))).1 (Mk.dI (S,wk) (ids.take (k+1))).2 by
     rw[Mk.BN HKX.o,if_pos jn];exact HX.o.1);clear jn;go_wp2;go_roundg(n-(k+1));case measure=>omega
    case rel=>exact⟨k+1,v1,by omega,rfl,by go_num,(show _/\_/\_ from⟨fu.o,HX.o.2.1,HX.o.2.2⟩)⟩
   .rw[decide_eq_false jn]at oW;obtain⟨w2,hup,kF,tU⟩:=HX.o.1.set.store x jn;have Al:=Mk.BN (p:=(S,wk)) HKX.o;rw[if_neg jn]at Al;have GB:=af Al;have hlen:=eE.o k;clear Al jn;obtain⟨S1,hS1⟩:=fx ((Mk.dI (S,wk) (ids.take k)).1);obtain⟨K1,hK1⟩:=fx ((Mk.dI (S,wk) (ids.take k)).2);rw[hS1]at kF hlen;have fI:=af (show ib w0 wr g v1 S1 K1/\Ev (bB v (tI w0)) w (bB v1 (tI w0)) wr/\ab (α:=Int) (bB v1 (tI w0)) wr (xL (some ⟨b,off,none⟩) n cap) ids by rw[<-hS1,<-hK1];exact HX.o);have qff:=af (show Mk.dI (S,wk) (ids.take (k+1))=(S1++[x],K1++[x])by rw[GB.o,hS1,hK1]);clear HX GB hS1 hK1;have hl:=fI.o.1.lt;have oO:=fI.o.1.short;have c6:=one_cell (tU.at_ fI.o.1.b6 (by omega));have Zi:=af tU.size;have qfg:=af kF;have mi:=af tU;have hac:=fI.o.1.acc;obtain⟨a1,c1,rfl,_,_⟩:=hac.open_;have VA:Hd (aP (α:=Int) (tI w0) (w0.heap.size+4) 3 w2 (xL a1 K1.length c1) K1):=hac.only mi.o (λi hi=>⟨.inl hi,by have h:i=w0.heap.size+1:=hi;omega⟩);have nt:Hd (cI w2 (w0.heap.size+1+1+1) (wm (xL a1 K1.length c1))):=tU.at_ fI.o.1.b6 (by omega);have qhz:w0.heap.size+4<=w2.heap.size:=Qcg hl Zi.o;clear kF tU hac;go_wp2_with(at_builtin;refine aZ (α:=Int) rfl _ _ _ rfl (tI w0) (w0.heap.size+4) 3 i0 _ 8 underlying27 dz dX cY dA rfl (by decide) (.slice a1 K1.length c1) K1 rfl (VA.o.alloc _) (λ_=>True) _ _ x rfl (b9 _ _ _ _ rfl trivial) rfl (by unfold maxLen;omega) (by omega) (by simp;omega) ?_;intro a2 c2 w4 bu dr aY;have DU:=af (fI.o.1.next qfg.o mi.o _ bu dr aY);have sj:cI w4 (w0.heap.size+1+1+1) (wm (xL a1 K1.length c1)):=(aY.block _ (by omega)).trans ((bO.block _ (by omega)).trans nt.o);have p6:=one_cell sj;have f6:=ag sj 0;clear bu dr aY sj);go_roundg(n-(k+1));case measure=>omega
    case rel=>
     refine⟨k+1,_,by omega,rfl,by go_num,(show _/\_/\_ from⟨?_,fI.o.2.1.trans DU.o.2,fI.o.2.2.ev DU.o.2⟩)⟩;rw[qff.o];exact DU.o.1
  .obtain rfl:k=n:=by omega
   go_wp2_with fail;have hh:=HX.o;rw[Qah (by rw[HN.o];omega)]at hh;refine bodyPost_end (results_none rfl _ _ _) rfl ?_;exact⟨rfl,v1,hh.1,hh.2.1⟩
def TA {wk:List Int}(h:aP (α:=Int) M base 3 w v (wk++[id]))(hM:∀i,M i->i<base):
 ∃g c,v=xL (some ⟨g,0,none⟩) (wk.length+1) c/\wk.length+1<=c/\aU w g wk.length (xI id)/\aP (α:=Int) M base 3 w (xL (some ⟨g,0,none⟩) wk.length c) wk:=by
 have bo:=h.slice hM;obtain⟨css,h1,h2,h3⟩:=h;have e:css=(wk++[id]).map (λx=>[Value.int .i64 x]):=by
  refine List.ext_getElem (by simpa using h2) (λi p q=> ?_);rw[List.getElem_map];exact h3 i _ _ (Qac p) (Qac (by simpa using q))
 subst e;have fl:∀l:List Int,(l.map (λx=>[Value.int .i64 x])).flatten=l.map (Value.int .i64):=λl=>by
  induction l with
  |nil=>rfl
  |cons a r ih=>simp only[List.map_cons,List.flatten_cons,ih];rfl
 rw[fl,List.map_append,show(wk++[id]).length=wk.length+1 by simp]at h1;have h1':=h1;obtain⟨_,⟨_,h0⟩|⟨g,c,cur,rfl,_,_,hc,_⟩⟩:=h1'
 .omega
 have hp:=ownsRow_pop (size:=1) (n:=wk.length) (by simp) h1;obtain⟨b,off,cap,hv,_,aG⟩:=ze bo (k:=wk.length) (x:=id) (by simp);have vw:g=b/\0=off:=by
  have:=hv;simp at this;exact⟨this.1.1,this.1.2⟩
 obtain⟨rfl,rfl⟩:=vw;refine⟨g,c,rfl,hc,by simpa using aG w dK,⟨wk.map (λx=>[Value.int .i64 x]),?_,by simp,λi cs x bD hx=> ?_⟩⟩
 .rw[fl];exact hp
 .rw[List.getElem?_map,hx]at bD;simp at bD;exact bD.symm
theorem ib.pop {g:Obj}{wk:List Int}(h:ib w0 w g v S (wk++[id])):
 ∃q c,v=xL (some ⟨q,0,none⟩) (wk.length+1) c/\wk.length+1<=c/\aU w q wk.length (xI id)/\ib w0 (w.setCell ⟨w0.heap.size+1+1+1,0,none⟩ (xL (some ⟨q,0,none⟩) wk.length c)) g (xL (some ⟨q,0,none⟩) wk.length c) S wk:=by
 have hN:∀i,tI w0 i->i<w0.heap.size+4:=λi hi=>by rcases hi with hi|hi<;>omega
 obtain⟨q,c,rfl,hc,aG,hacc⟩:=TA h.acc hN;have ho:=λi(hn:i≠w0.heap.size+1+1+1)=>Qag w ⟨w0.heap.size+1+1+1,0,none⟩ i (xL (some ⟨q,0,none⟩) wk.length c) hn;refine⟨q,c,rfl,hc,aG,⟨(ho _ (by omega)).trans h.b0,(ho _ (by omega)).trans h.b5,?_,h.set.same (ho _ (by omega)),?_,?_,?_⟩⟩
 .have:=Qca w (w0.heap.size+1+1+1) 0 _ _ (xL (some ⟨q,0,none⟩) wk.length c) h.b6;simpa [wm]using this
 .exact hacc.uz (p:=⟨w0.heap.size+1+1+1,0,none⟩) (.inr rfl) (by show w0.heap.size+1+1+1<_;omega) _
 .exact h.low.setCell (p:=⟨w0.heap.size+1+1+1,0,none⟩) (by show w0.heap.size<=w0.heap.size+1+1+1;omega) _
 .have:=h.short;simp at this;omega
def zM {es:List (Int×an×Nat)}(h:cg nU w b es clk)(n:Int)(v:an)(hv:bP es n=some v):(Instr.lookup 121 (.map (some b)) (xI n) false).run prog w= .ok v w:=
 cg.ZU nU underlying121 uZ tt h n v hv
def Ql(x:bE)(h:fL x)(M:aS)(w:aj)(hM:Bd M w)(hT:Tb w)(lv rv:an)(pm:Nat)(hgr:KK x M w lv pm)(kN:ab M w rv x.roots):
 xC 50 #[.agg #[lv, .map (some pm)],rv] w λe w'=>∃S sb,e=xR (.map (some sb))/\Mk.cu w' sb S/\(∀n,n∈S↔Mk.AG (bM x) (cZ x) n)/\aq w w':=by
 obtain⟨⟨ls,DA,hlen,je⟩,es,clk,DS,J7⟩:=hgr;have Vo:∀j,(Mk.dI ([],[]) ((bM x).take j)).1.length<=5:=λj=>by
  have h1:=tJ ((bM x).take j) [] [];have h2:=h.rlen;have h3:((bM x).take j).length<=5:=by rw[Qdb];unfold bM;rw[Qdc];omega
  have h4:([]:List Int).length=0:=rfl;omega
 have HRL:=af Vo;have HR:Hd (∀i r,x.roots[i]? =some r->_):=λi r hr=>gj kN hr;have HRS:Hd (∀(i:Nat)r,x.roots[i]? =some r->Mk.dI ([],[]) ((bM x).take (i+1))=Mk.dI (Mk.dI ([],[]) ((bM x).take i)) [r.id]):=λi r hr=>by
  have e:(bM x)[i]? =some r.id:=by unfold bM;rw[List.getElem?_map,hr];rfl
  rw[Qbb,e];show(List.foldl _ _ (_++[r.id]))=_;rw[List.foldl_append];rfl
 have Nq:=af (show(bM x).take x.roots.length=bM x by unfold bM;rw[Qah (by rw[Qdc];exact bq)]);have HIV:Hd (∀S wk(W:aj)g v,ib w W g v S wk->Mk.oI (bM x) (cZ x) S wk->S.length<=x.objs.length/\S.length<=10):=λS wk W g v h1 h2=>by
  have h3:=Mk.fm x.objs.length S h1.set.nodup (λy hy=>h.closed.range (h2.reached y hy));have:=h.len;exact⟨h3,by omega⟩
 have Vx:Hd (∀(n:Int),Mk.AG (bM x) (cZ x) n->∃(i:Nat)(o:bH),n=(i:Int)+1/\ls[i]? =some o):=λn hn=>by
  have hr:=h.closed.range hn;exact⟨(n-1).toNat,_,by omega,Qac (by omega)⟩
 have HO:Hd (∀i o,ls[i]? =some o->_):=λi o ho=>eD DA ho;have DM:Hd (∀(i:Nat)o W,ls[i]? =some o->aq w W->_):=λi o W ho hb=>zM (w:=W) ((hb.block _ (Qaa.1 DS).1).trans DS) ((i:Int)+1) _ (J7 i (by have:=(Qad.1 ho).1;omega));have Zn:Hd (∀(i:Nat)o,ls[i]? =some o->∀W g v S wk u,ib w W g v S wk->ab M w u o.aJ->xC 48 #[.agg #[xI o.id,xI o.cls,xI o.ver,u]] W (bW W λr w'=>ab (bB v (tI w)) w' r (cZ x ((i:Int)+1)))):=λi o ho W g v S wk u cm hu=>by
  obtain⟨fs,h1,h8⟩:=(je i o ho).aJ h;have Nz:Bd (λi=>M i\/bB v (tI w) i) W:=λi hi=>by
   rcases hi with hi|hi
   .exact hM.below cm.low i hi
   .exact cm.bd i hi
  have A5:Ev M w (λi=>M i\/bB v (tI w) i) W:=⟨ai.ao cm.low,λi hi=>by
   rcases hi with hi|(hi|hi)|hi
   .exact .inl hi
   .right;omega
   .right;omega
   .right;have:=(cm.acc.dU i hi).1;omega⟩;have hr:=CF o x.objs.length (by have:=h.len;omega) fs h1 h8 (λi=>M i\/bB v (tI w) i) W Nz u (hu.ev A5) (hT.below cm.low);rw[(je i o ho).refs h]at hr;refine hr.mono ?_;rintro e w'⟨r,rfl,hs,hb⟩;exact⟨r,rfl,hs.ev (Ev.eG _ λi hi=> .inr hi),hb⟩
 have Xp:Hd (∀(i:Nat)o,ls[i]? =some o->(cZ x ((i:Int)+1)).length<=96):=λi o ho=>I3 h (je i o ho);have h5:=h.rlen;obtain⟨la,lc,rfl,AW,XA,_⟩:=DA.open_;obtain⟨ra,rc,rfl,QP,YS,_⟩:=kN.open_;have qfh:Hd (Mk.oI (bM x) (cZ x) (Mk.dI ([],[]) (bM x)).1 (Mk.dI ([],[]) (bM x)).2):=Mk.oI.start _ _;have GW:=af (show ls.length<=10 by rw[hlen];exact h.len);clear DA kN h DS J7 je hM hT Vo;generalize hn:ls.length=n at*;generalize JZ:x.roots.length=m at*;have HN:=af hn;clear hn;have Ut:=af JZ;clear JZ;have iJ:=af hlen;clear hlen;have qfi:Hd (∀(wr:aj)v1 S wk(id:Int)(o:Obj),ib w wr (jS (xL la n lc) pm) v1 S wk->S.length<=900->xC 94 #[xL (some ⟨wr.heap.size+1,0,none⟩) 1 1,xP (w.heap.size+1+1),xP (w.heap.size+1+1+1)] ((wr.alloc o).alloc (xK #[xI id] 3)) λe w'=>e=xR (.tuple #[])/\∃v',ib w w' (jS (xL la n lc) pm) v' (Mk.dI (S,wk) [id]).1 (Mk.dI (S,wk) [id]).2):=λwr v1 S wk id o h hS=>by
  have h1:ib w (wr.alloc o) (jS (xL la n lc) pm) v1 S wk:=h.below (dK.alloc bq o);have h2:ib w ((wr.alloc o).alloc (xK #[xI id] 3)) (jS (xL la n lc) pm) v1 S wk:=h1.below bO;have hz:(wr.alloc o).heap.size=wr.heap.size+1:=by simp
  have hs:ab (α:=Int) (bB v1 (tI w)) ((wr.alloc o).alloc (xK #[xI id] 3)) (xL (some ⟨wr.heap.size+1,0,none⟩) 1 1) [id]:=by
   rw[<-hz];refine⟨[[xI id]],b9 (F:=λi=>¬bB v1 (tI w) i) (wr.alloc o) #[xI id] _ 1 rfl (λhh=>by have:=h1.bd _ hh;omega),rfl,λi cs y hc hy=> ?_⟩;match i,hc,hy with
   |0,hc,hy=>cases hc;cases hy;rfl
   |i+1,hc,hy=>simp at hc
  refine(Qk w _ _ v1 S wk [id] (by simp;omega) h2 _ hs).mono ?_;rintro e w'⟨rfl,v',k1,k2⟩;exact⟨rfl,v',k1⟩
 have qfj:Hd (∀(W:aj)v S wk ids u,ib w W (jS (xL la n lc) pm) v S wk->S.length+ids.length<=1000->ab (α:=Int) (bB v (tI w)) W u ids->_):=λW v S wk ids u h1 h2 h3=>Qk w W _ v S wk ids h2 h1 u h3;have Cb:=λw=>lg 91 w;go_enter func50,ntmps50;go_upto_region 4 with fail;obtain⟨W0,Uv⟩:=cM ((((w.alloc (jS (xL la n lc) pm)).alloc (.map #[] 0)).alloc (KW (w.heap.size+1))).alloc (wm (xL none 0 0)));have jX:=af (show ib w W0 (jS (xL la n lc) pm) (xL none 0 0) (Mk.dI ([],[]) ((bM x).take 0)).1 (Mk.dI ([],[]) ((bM x).take 0)).2 by
  have hX:=Bx.Oy w (jS (xL la n lc) pm) (.map #[] 0) (KW (w.heap.size+1)) (wm (xL none 0 0));rw[<-Uv]at hX;exact⟨hX.bJ rfl,hX.gy rfl,hX.Ay rfl,⟨[],0,⟨hX.cE rfl,by simp,by simp,by simp⟩,rfl⟩,aP.nil _ _ _ _,hX.1,bq⟩);unfold jS KW wm at Uv;rw[<-Uv];clear Uv;go_wp2;go_loopg [9,15]m(λgg _ jv wr=>∃(j:Nat)(v1:an),j<=m/\gg=m-j/\jv=xI j/\Hd (ib w wr (jS (xL la n lc) pm) v1 (Mk.dI ([],[]) ((bM x).take j)).1 (Mk.dI ([],[]) ((bM x).take j)).2));case atStart=>exact⟨0,_,Qbf _,rfl,rfl,jX⟩
 case round=>
  obtain⟨j,v1,hj,rfl,rfl,HX⟩:=hrel;by_cases aX:j<m
  .obtain⟨r,hr⟩:=dQ x.roots j (by rw[Ut.o];exact aX);obtain⟨b,off,cap,hv,cw,_,aw⟩:=HR.o j r hr;obtain⟨rfl,rfl⟩:=gY hv;obtain⟨g0,g1⟩:=aw wr HX.o.low;have fu:=af (HRS.o j r hr);have bt:=af (λo=>qfi.o wr v1 _ _ r.id o HX.o (by have:=HRL.o j;omega));clear hv aw hr;go_wp2_with fail;refine(bt.o _).mono ?_;rintro e w1⟨rfl,v2,cm⟩;have HY:=af cm;clear cm g0 g1;go_wp2;go_roundg(m-(j+1));case measure=>omega
   case rel=>exact⟨j+1,v2,by omega,rfl,by go_num,(show ib _ _ _ _ _ _ from by rw[fu.o];exact HY.o)⟩
  .obtain rfl:j=m:=by omega
   have Dn:=af (show ib w wr (jS (xL la n lc) pm) v1 (Mk.dI ([],[]) (bM x)).1 (Mk.dI ([],[]) (bM x)).2 by have:=HX.o;rw[Nq.o]at this;exact this);clear HX;go_wp2;go_loopg [10](Mk.pO x.objs.length (Mk.dI ([],[]) (bM x)).1 (Mk.dI ([],[]) (bM x)).2)(λgg _ wr=>∃(S wk:List Int)(v1:an),gg=Mk.pO x.objs.length S wk/\Hd (ib w wr (jS (xL la n lc) pm) v1 S wk/\Mk.oI (bM x) (cZ x) S wk));case atStart=>exact⟨_,_,_,rfl,(show _/\_ from⟨Dn.o,qfh.o⟩)⟩
   case round=>
    obtain⟨S,wk,v2,rfl,HZ⟩:=hrel;have c5:=one_cell HZ.o.1.b5;rcases List.eq_nil_or_concat wk with rfl|⟨Lj,id,rfl⟩
    .have hop:=HZ.o.1.acc.open_;obtain⟨za,zc,rfl,_⟩:=hop;have c6:=one_cell HZ.o.1.b6;rw[Qcd]at c6;go_wp2;go_ret;exact⟨S,_,rfl,HZ.o.1.set,HZ.o.2.done,HZ.o.1.low⟩
    .rw[List.concat_eq_append]at HZ;have hpp:=HZ.o.1.pop;obtain⟨q,c,vw,hc,aG,Rv⟩:=hpp;subst vw;have oO:=HZ.o.1.short;have qcb:=HIV.o _ _ _ _ _ HZ.o.1 HZ.o.2;have c6:=one_cell HZ.o.1.b6;have f6:=ag HZ.o.1.b6 0;have A8:=af Rv;have hob:=Vx.o id (HZ.o.2.reached id (HZ.o.2.sub id (by simp)));obtain⟨i,o,hid,ho⟩:=hob;subst hid;have qfk:Lj.length+1<=10:=by simp at oO;omega
     obtain⟨k,hk⟩:=fx (Lj.length);rw[hk]at c6 aG hc qfk;have A8:=af (show ib w (wr.setCell ⟨w.heap.size+1+1+1,0,none⟩ (xL (some ⟨q,0,none⟩) k c)) (jS (xL la n lc) pm) (xL (some ⟨q,0,none⟩) k c) S Lj by rw[<-hk];exact A8.o);have RH:=af qcb;have Zp:=af ho;have Yu:(0:Int)<=(k:Int):=Qba _;have hiw:IntKind.i64.wrap (((k+1:Nat):Int)-1)=(k:Int):=by rw[show((k+1:Nat):Int)-1=(k:Int)from by omega];exact Qbe _ (by omega)
     have hgt:decide ((0:Int)<((k+1:Nat):Int))=true:=by simp
     have hkc:(k:Int)<=(c:Int):=by omega
     have qh0:k<=c:=by omega
     clear Rv oO qcb hk ho hc;go_upto_region 12 with fail;obtain⟨W,hW⟩:=cM (wr.setCell ⟨w.heap.size+1+1+1,0,none⟩ (xL (some ⟨q,0,none⟩) k c));rw[<-hW]at A8⊢;clear hW f6 c6 c5 aG;obtain⟨g0,g1⟩:=ah A8.o.b0;obtain⟨b,off,cap,va,vc,hv,cw,dt,aw⟩:=HO.o i o Zp.o;obtain⟨rfl,rfl⟩:=gY hv;obtain⟨q0,q1,q2,q3⟩:=aw W A8.o.low;have oW:=DM.o i o W Zp.o A8.o.low;have JM:=af (Zn.o i o Zp.o W _ _ _ _ _ A8.o dt);have qcc:=af (Xp.o i o Zp.o);have jn:i<n:=by have:=(Qad.1 Zp.o).1;have:=HN.o;omega
     have qdv:(0:Int)<=(i:Int):=Qba _;have qh1:(i:Int)<(n:Int):=by omega
     obtain⟨nl,QR⟩:=cM (cZ x ((i:Int)+1));rw[<-QR]at JM qcc;have YE:=af QR;clear QR aw hv dt cw Zp;obtain⟨oi,oc,ov,os⟩:=o;go_wp2_with fail;refine(JM.o).mono ?_;rintro e w5⟨u5,rfl,Gl,lL⟩;have qfl:=Gl;obtain⟨ua,uc,rfl,_⟩:=qfl.open_;have wS:=af (A8.o.below lL);have sd:=af (qfj.o w5 _ S Lj nl _ wS.o (by have:=qcc.o;have:=RH.o.2;omega) Gl);clear Gl lL oW q0 q1 q2 q3 g0 g1;go_wp2_with fail;refine(sd.o).mono ?_;rintro e w6⟨rfl,v',k1,k2⟩;have mj:=af k1;clear k1 k2;go_wp2_with fail;have Ag:=af (show Mk.oI (bM x) (cZ x) (Mk.dI (S,Lj) nl).1 (Mk.dI (S,Lj) nl).2 by rw[YE.o];exact HZ.o.2.step);have qcd:Mk.pO x.objs.length (Mk.dI (S,Lj) nl).1 (Mk.dI (S,Lj) nl).2<Mk.pO x.objs.length S (Lj++[(i:Int)+1]):=by
      refine Mk.Fl (R:=cZ x) (by rw[<-YE.o]) (HIV.o _ _ _ _ _ mj.o Ag.o).1
     go_roundg(Mk.pO x.objs.length (Mk.dI (S,Lj) nl).1 (Mk.dI (S,Lj) nl).2);case measure=>rw[List.concat_eq_append];exact qcd
     case rel=>exact⟨_,_,v',rfl,(show _/\_ from⟨mj.o,Ag.o⟩)⟩
end Go.Proofs.YtccpcfcochffcaaGreatDoor
