/- A part of MarkAsks's proof; no condition. -/
import Derived.Test.YtccpcfcochffcaaGreatDoorM01
set_option linter.all false
set_option maxHeartbeats 8000000
set_option maxRecDepth 100000
namespace Go.Proofs.YtccpcfcochffcaaGreatDoor
open Tryz
variable{k g cap i j bm b base bg:Nat}{xs ys G S:List Int}{id:Int}{w w1 w2:aj}{m1 m2 v:an}{e:TypeId}{F:aS}
namespace Mk
open Go.RowKit
def dO(xs:List Int):Bool:=xs.all λx=>decide (1<=x/\x<=100000)
def Fh(h:dO (xs.take k)=true){x:Int}(hx:xs[k]? =some x)(hb:1<=x/\x<=100000):dO (xs.take (k+1))=true:=by
 rw[Qbb,hx];unfold dO at*;simp[List.all_append]at*;exact⟨h,hb⟩
def BM {x:Int}(hx:xs[k]? =some x)(hb:¬(1<=x/\x<=100000)):dO xs=false:=by
 unfold dO;rw[List.all_eq_false];exact⟨x,Qaf hx,by simpa using hb⟩
def I2(h:dO xs=true){x:Int}(hx:x∈xs):1<=x/\x<=100000:=by
 unfold dO at h;rw[List.all_eq_true]at h;simpa using h x hx
def mX(F:aS)(v:an)(w:aj)(xs:List Int)(hr:ct F w v xs):
 xC 36 #[v] w (gE (xB (dO xs)) w):=by
 obtain⟨a,cap,rfl,cK,hm,hc⟩:=hr.open_;have HC:=af hc;clear hc hr;generalize hn:xs.length=n at*;have HN:=af hn;clear hn;go_enter func36,ntmps36;go_wp2;go_loop [4,7](λ_ i=>∃k:Nat,k<=n/\i=xI k/\Hd (dO (xs.take k)=true))(λ_ i=>n-(intOf i).toNat);case atStart=>exact⟨0,Qbf _,rfl,by exact(rfl:dO (xs.take 0)=true)⟩
 case round=>
  obtain⟨k,hk,rfl,hrt⟩:=hrel;by_cases aX:k<n
  .obtain⟨b,off,rfl,_,_,aG⟩:=HC.o (by omega);obtain⟨x,hx⟩:=dQ xs k (by rw[HN.o];exact aX);have hcx:=aG k x hx;have HX:=af hx;clear aG hx;by_cases hb:x<1
   .go_wp2;go_ret;exact⟨by rw[BM HX.o (by omega)];rfl,rfl⟩
   .by_cases aY:100000<x
    .go_wp2;go_ret;exact⟨by rw[BM HX.o (by omega)];rfl,rfl⟩
    .go_wp2;go_round;case rel=>exact⟨k+1,by omega,by go_num,Fh hrt HX.o (by omega)⟩
     case measure=>simp[intOf];omega
  .go_wp2;go_ret;refine⟨?_,rfl⟩;have h1:=hrt.o;rw[Qah (by rw[HN.o];omega)]at h1;rw[h1];rfl
def Fj(xs ys:List Int):Bool:=decide (xs=ys)
def CT {x:Int}(h:xs.take k=ys.take k)(hx:xs[k]? =some x)(hy:ys[k]? =some x):xs.take (k+1)=ys.take (k+1):=by
 rw[Qbb,Qbb,hx,hy,h]
def PH(F G:aS)(v u:an)(w:aj)(xs ys:List Int)(hx:ct F w v xs)(hy:ct G w u ys):
 xC 18 #[v,u] w λe w'=>e=xR (xB (Fj xs ys))/\∃n,w'=w.drewN n:=by
 obtain⟨a,cap,rfl,cK,hm,hc⟩:=hx.open_;obtain⟨b,oY,rfl,qbe,YN,jh⟩:=hy.open_;have HC:=af hc;clear hc hx;have HD:=af jh;clear jh hy;by_cases iG:xs.length=ys.length
 .have HE:=af iG;rw[<-iG]at HD qbe⊢;clear iG;generalize hn:xs.length=n at*;have HN:=af hn;clear hn;go_enter func18,ntmps18;go_wp2;go_loopw [5](λi wr=>∃k:Nat,k<=n/\i=xI k/\Hd (xs.take k=ys.take k)/\∃d,wr=w.drewN d)(λi _=>n-(intOf i).toNat);case atStart=>exact⟨0,Qbf _,rfl,by exact(by simp:xs.take 0=ys.take 0),0,rfl⟩
  case round=>
   obtain⟨k,hk,rfl,hrt,d,rfl⟩:=hrel;by_cases aX:k<n
   .obtain⟨b1,qhk,rfl,_,_,Rp⟩:=HC.o (by omega);obtain⟨b2,J0,rfl,_,_,Rq⟩:=HD.o (by omega);obtain⟨x,hx⟩:=dQ xs k (by rw[HN.o];exact aX);obtain⟨y,hy⟩:=dQ ys k (by rw[<-HE.o];exact aX);have hcx:=Rp k x hx;have hcy:=Rq k y hy;have HX:=af hx;have HY:=af hy;have hi:(k:Int)<n:=by omega
    clear Rp Rq hx hy;by_cases hb:x=y
    .subst hb;go_wp2;go_quiet(fail);go_wp2;go_roundw;case rel=>exact⟨k+1,by omega,by go_num,CT hrt HX.o HY.o,d+nq,by simp⟩
     case measure=>simp[intOf];omega
    .have iI:(x !=y)=true:=by simpa using hb
     go_wp2;go_quiet(fail);go_wp2;go_ret;refine⟨ba ?_,d+nq,by simp⟩;unfold Fj;symm;simp only[decide_eq_false_iff_not];rintro rfl;have h1:=HX.o;rw[HY.o]at h1;exact hb (by simpa using h1.symm)
   .go_wp2;go_ret;refine⟨ba ?_,_,rfl⟩;have h1:=hrt.o;rw[Qah (by rw[HN.o];omega),Qah (by rw[<-HE.o];omega)]at h1;simp[Fj,h1]
 .have qae:(((xs.length:Nat):Int)!=((ys.length:Nat):Int))=true:=by simpa using(by omega:¬(xs.length:Int)=ys.length)
  have HL:=af iG;clear iG;generalize hn:xs.length=n at*;generalize Cd:ys.length=n2 at*;have HN:=af hn;clear hn;have qz:=af Cd;clear Cd;go_enter func18,ntmps18;go_wp2;go_ret;refine⟨ba ?_,0,rfl⟩;unfold Fj;symm;simp only[decide_eq_false_iff_not];rintro rfl;exact HL.o (by rw[<-HN.o,<-qz.o])
def fO:List Int->Int->List Int
 |[],n=>[n]
 |x::r,n=>if x<n then x::fO r n else if x=n then x::r else n::x::r
def iU:(Tryz.prog.info? 3).map (λi=>(i.zero,i.size,i.bytes))=some (some (xI 0),1,8):=by kernel_rfl
def CU(w:aj)(u:an)(t:TypeId):bj (λ_=>True) (w.alloc (xK #[u] t)) 1 (xL (some ⟨w.heap.size,0,none⟩) 1 1) 1 [u]:=
 ⟨rfl,_,_,rfl,bq,by unfold maxLen;omega,λ_=>⟨_,0,rfl,trivial,by simp,λj u' hu=>by
   have hj:j=0:=by have:=(Qad.1 hu).1;simp at this;omega
   subst hj;simp at hu;subst hu;simp⟩⟩
end Mk
namespace Mk
def j4(xs:List Int):Prop:=xs.Pairwise (·< ·)
theorem dH(x n:Int):∀xs:List Int,x∈fO xs n↔x=n\/x∈xs
 |[]=>by simp[fO]
 |a::r=>by
  simp only[fO];split
  .simp[dH x n r];constructor
   .rintro(h|h|h)<;>simp[h]
   .rintro(h|h|h)<;>simp[h]
  .split
   .rename_i h;subst h;simp
   .simp
theorem jy(n:Int):∀xs:List Int,j4 xs->j4 (fO xs n)
 |[],_=>by simp[fO,j4]
 |a::r,h=>by
  unfold j4 at h⊢;rw[List.pairwise_cons]at h;simp only[fO];split
  .rw[List.pairwise_cons];refine⟨λy hy=> ?_,jy n r h.2⟩;rcases(dH y n r).1 hy with rfl|hy
   .assumption
   .exact h.1 y hy
  .split
   .exact List.pairwise_cons.2 h
   .rw[List.pairwise_cons];refine⟨λy hy=> ?_,List.pairwise_cons.2 h⟩;rcases Qdf.1 hy with rfl|hy
    .omega
    .have:=h.1 y hy;omega
theorem j4.nodup(h:j4 xs):xs.Nodup:=by
 unfold j4 at h;exact List.Pairwise.imp (λhab=>by omega) h
theorem tu:∀{xs ys:List Int},j4 xs->j4 ys->(∀x,x∈xs↔x∈ys)->xs=ys
 |[],[],_,_,_=>rfl
 |[],y::r,_,_,h=>by have:=(h y).2 (by simp);simp at this
 |x::r,[],_,_,h=>by have:=(h x).1 (by simp);simp at this
 |x::r,y::s,hx,hy,h=>by
  unfold j4 at hx hy;rw[List.pairwise_cons]at hx hy;have e:x=y:=by
   rcases Qdf.1 ((h x).1 (by simp))with h1|h1
   .exact h1
   .rcases Qdf.1 ((h y).2 (by simp))with h2|h2
    .exact h2.symm
    .have:=hx.1 y h2;have:=hy.1 x h1;omega
  subst e;rw[tu hx.2 hy.2 λz=> ?_];constructor
  .intro hz;rcases Qdf.1 ((h z).1 (by simp[hz]))with h1|h1
   .subst h1;have:=hx.1 z hz;omega
   .exact h1
  .intro hz;rcases Qdf.1 ((h z).2 (by simp[hz]))with h1|h1
   .subst h1;have:=hy.1 z hz;omega
   .exact h1
def Fk {n:Int}(h:j4 xs)(hn:n∈xs):fO xs n=xs:=
 tu (jy n xs h) h λx=>by rw[dH];constructor; ·rintro(rfl|h)<;>assumption
                         .exact .inr
theorem j4.erase(h:j4 xs)(n:Int):j4 (xs.filter (·≠n)):=List.Pairwise.filter _ h
theorem fm:∀(N:Nat)(xs:List Int),xs.Nodup->(∀x∈xs,1<=x/\x<=N)->xs.length<=N
 |0,xs,_,h=>by
  cases xs with
  |nil=>simp
  |cons a r=>have:=h a (by simp);omega
 |N+1,xs,hn,h=>by
  have h1:=fm N (xs.erase ((N:Int)+1)) (hn.erase _) λx hx=>by
   have h2:=h x (List.mem_of_mem_erase hx);have h3:x≠(N:Int)+1:=λe=>by
    subst e;exact(List.Nodup.not_mem_erase hn) hx
   omega
  have h4:=List.length_erase (a:=((N:Int)+1)) (l:=xs);split at h4<;>omega
def gu(G B:List Int)(ids:List Int):List Int:=ids.foldl (λG x=>if x∈B then G else fO G x) G
def uT {B ids:List Int}{x:Int}(hx:ids[k]? =some x):gu G B (ids.take (k+1))=if x∈B then gu G B (ids.take k)else fO (gu G B (ids.take k)) x:=by
 unfold gu;rw[Qbb,hx];simp[List.foldl_append]
theorem zm(x:Int)(B:List Int):∀(ids G:List Int),x∈gu G B ids↔x∈G\/(x∈ids/\x∉B)
 |[],G=>by simp[gu]
 |a::r,G=>by
  have e:gu G B (a::r)=gu (if a∈B then G else fO G a) B r:=rfl;rw[e,zm x B r];by_cases h:a∈B
  .simp only[h,if_true,Qdf];constructor
   .rintro(h1|⟨h1,h2⟩)
    .exact .inl h1
    .exact .inr ⟨.inr h1,h2⟩
   .rintro(h1|⟨h1|h1,h2⟩)
    .exact .inl h1
    .subst h1;exact absurd h h2
    .exact .inr ⟨h1,h2⟩
  .simp only[h,if_false,dH,Qdf];constructor
   .rintro((h1|h1)|⟨h1,h2⟩)
    .subst h1;exact .inr ⟨.inl rfl,h⟩
    .exact .inl h1
    .exact .inr ⟨.inr h1,h2⟩
   .rintro(h1|⟨h1|h1,h2⟩)
    .exact .inl (.inr h1)
    .exact .inl (.inl h1)
    .exact .inr ⟨h1,h2⟩
theorem uU(B:List Int):∀(ids G:List Int),j4 G->j4 (gu G B ids)
 |[],G,h=>h
 |a::r,G,h=>by
  have e:gu G B (a::r)=gu (if a∈B then G else fO G a) B r:=rfl;rw[e];refine uU B r _ ?_;split
  .exact h
  .exact jy a G h
inductive AG(roots:List Int)(R:Int->List Int):Int->Prop
 |root(x:Int):x∈roots->AG roots R x
 |step(x y:Int):AG roots R x->y∈R x->AG roots R y
structure zo(n:Nat)(roots:List Int)(R:Int->List Int):Prop where
 roots:∀x∈roots,1<=x/\x<=(n:Int)
 refs:∀x,1<=x->x<=(n:Int)->∀y∈R x,1<=y/\y<=(n:Int)
theorem zo.range {n:Nat}{roots:List Int}{R:Int->List Int}(h:zo n roots R){x:Int}(hx:AG roots R x):1<=x/\x<=(n:Int):=by
 induction hx with
 |root x hx=>exact h.roots x hx
 |step x y _ hy ih=>exact h.refs x ih.1 ih.2 y hy
structure lh(roots:List Int)(R:Int->List Int)(G B:List Int):Prop where
 gr:j4 G
 br:j4 B
 apart:∀x∈G,x∉B
 reached:∀x,x∈G\/x∈B->AG roots R x
 all:∀x∈roots,x∈G\/x∈B
 closed:∀x∈B,∀y∈R x,y∈G\/y∈B
theorem lh.start(roots:List Int)(R:Int->List Int):lh roots R (gu [] [] roots) []:=by
 have hm:∀x,x∈gu [] [] roots↔x∈roots:=λx=>by rw[zm];simp
 exact⟨uU _ _ _ List.Pairwise.nil,List.Pairwise.nil,λx _ h=>(by cases h),λx hx=> .root x ((hm x).1 (hx.resolve_right (λh=>by cases h))),λx hx=> .inl ((hm x).2 hx),λx hx=>by cases hx⟩
section
variable {roots:List Int}{R:Int->List Int}{G B:List Int}
theorem lh.scan(h:lh roots R G B)(hid:id∈G):lh roots R (gu (G.filter (·≠id)) (fO B id) (R id)) (fO B id):=by
 have hm:∀x,x∈gu (G.filter (·≠id)) (fO B id) (R id)↔(x∈G/\x≠id)\/(x∈R id/\¬(x=id\/x∈B)):=λx=>by
  rw[zm,dH];simp
 have hp:∀x,x∈fO B id↔x=id\/x∈B:=λx=>dH x id B;have hr:=h.reached id (.inl hid);have old:∀x,x∈G\/x∈B->x∈gu (G.filter (·≠id)) (fO B id) (R id)\/x∈fO B id:=λx hx=>by
  rw[hm,hp];by_cases hi:x=id
  .exact .inr (.inl hi)
  .rcases hx with hx|hx
   .exact .inl (.inl ⟨hx,hi⟩)
   .exact .inr (.inr hx)
 refine⟨uU _ _ _ (h.gr.erase id),jy id B h.br,λx hx hb=> ?_,λx hx=> ?_,λx hx=>old x (h.all x hx),λx hx y hy=> ?_⟩
 .rw[hm]at hx;rw[hp]at hb;rcases hx with⟨h1,h2⟩|⟨_,h2⟩
  .rcases hb with hb|hb
   .exact h2 hb
   .exact h.apart x h1 hb
  .exact h2 hb
 .rw[hm,hp]at hx;rcases hx with(⟨h1,_⟩|⟨h1,_⟩)|rfl|h1
  .exact h.reached x (.inl h1)
  .exact .step id x hr h1
  .exact hr
  .exact h.reached x (.inr h1)
 .rw[hp]at hx;rcases hx with rfl|hx
  .rw[hm,hp];by_cases hb:y=x\/y∈B
   .exact .inr hb
   .exact .inl (.inr ⟨hy,hb⟩)
  .exact old y (h.closed x hx y hy)
theorem uV:∀(B:List Int)(id:Int),id∉B->(fO B id).length=B.length+1
 |[],id,_=>by simp[fO]
 |b::B,id,h=>by
  simp only[Qdf,not_or]at h;have:=uV B id h.2;unfold fO;repeat' split
  all_goals first|(simp;done)|(simp[this];done)|omega
theorem lh.short(h:lh roots R G B){n:Nat}(hc:zo n roots R):B.length<=n:=
 fm n B h.br.nodup λx hx=>hc.range (h.reached x (.inr hx))
theorem lh.end_(h:lh roots R G B){n:Nat}(hc:zo n roots R)(hl:n<=B.length):G=[]:=by
 match G,h with
 |[],_=>rfl
 |g::G',h=>
  have h1:=(h.scan (id:=g) (by simp)).short hc;rw[uV B g (h.apart g (by simp))]at h1;omega
theorem lh.done(h:lh roots R [] B){L:List Int}(hL:j4 L)(hm:∀x,x∈L↔AG roots R x):B=L:=by
 refine tu h.br hL λx=> ?_;rw[hm];refine⟨λhx=>h.reached x (.inr hx),λhx=> ?_⟩;induction hx with
 |root x hx=>exact(h.all x hx).resolve_left (by simp)
 |step x y _ hy ih=>exact(h.closed x ih y hy).resolve_left (by simp)
end
def dI(p:List Int×List Int)(ids:List Int):List Int×List Int:=ids.foldl (λp x=>if x∈p.1 then p else(p.1++[x],p.2++[x])) p
def BN {p:List Int×List Int}{ids:List Int}{x:Int}(hx:ids[k]? =some x):dI p (ids.take (k+1))=if x∈(dI p (ids.take k)).1 then dI p (ids.take k)else((dI p (ids.take k)).1++[x],(dI p (ids.take k)).2++[x]):=by
 unfold dI;rw[Qbb,hx,List.foldl_append];rfl
theorem pN:∀(ids S wk:List Int),∃new,dI (S,wk) ids=(S++new,wk++new)/\(∀x∈new,x∈ids/\x∉S)/\∀x∈ids,x∈S++new
 |[],S,wk=>⟨[],by simp[dI],λx h=>(by cases h),λx h=>by cases h⟩
 |a::ids,S,wk=>by
  by_cases ha:a∈S
  .obtain⟨new,h1,h2,h3⟩:=pN ids S wk;refine⟨new,?_,λx hx=>⟨List.mem_cons_of_mem _ (h2 x hx).1,(h2 x hx).2⟩,λx hx=> ?_⟩
   .rw[<-h1];unfold dI;rw[List.foldl_cons];simp[ha]
   .rcases Qdf.1 hx with rfl|hx
    .exact List.mem_append_left _ ha
    .exact h3 x hx
  .obtain⟨new,h1,h2,h3⟩:=pN ids (S++[a]) (wk++[a]);refine⟨a::new,?_,λx hx=> ?_,λx hx=> ?_⟩
   .have e:dI (S,wk) (a::ids)=dI (S++[a],wk++[a]) ids:=by unfold dI;rw[List.foldl_cons];simp[ha]
    rw[e,h1];simp
   .rcases Qdf.1 hx with rfl|hx
    .exact⟨List.mem_cons_self,ha⟩
    .exact⟨List.mem_cons_of_mem _ (h2 x hx).1,λh=>(h2 x hx).2 (List.mem_append_left _ h)⟩
   .rcases Qdf.1 hx with rfl|hx
    .simp
    .have:=h3 x hx;simp only[Qch,Qdf,List.not_mem_nil,or_false]at this⊢;rcases this with(h|h)|h
     .exact .inl h
     .exact .inr (.inl h)
     .exact .inr (.inr h)
structure oI(roots:List Int)(R:Int->List Int)(S wk:List Int):Prop where
 sub:∀x∈wk,x∈S
 reached:∀x∈S,AG roots R x
 all:∀x∈roots,x∈S
 closed:∀x∈S,x∈wk\/∀y∈R x,y∈S
theorem oI.start(roots:List Int)(R:Int->List Int):oI roots R (dI ([],[]) roots).1 (dI ([],[]) roots).2:=by
 obtain⟨new,h1,h2,h3⟩:=pN roots [] [];rw[h1];simp only[List.nil_append]at h3⊢;exact⟨λx h=>h,λx h=> .root x (h2 x h).1,h3,λx h=> .inl h⟩
section
variable {roots:List Int}{R:Int->List Int}{S wk:List Int}
theorem oI.step(h:oI roots R S (wk++[id])):oI roots R (dI (S,wk) (R id)).1 (dI (S,wk) (R id)).2:=by
 obtain⟨new,h1,h2,h3⟩:=pN (R id) S wk;rw[h1];have hid:id∈S:=h.sub id (by simp);refine⟨λx hx=> ?_,λx hx=> ?_,λx hx=>List.mem_append_left _ (h.all x hx),λx hx=> ?_⟩
 .rcases Qch.1 hx with hx|hx
  .exact List.mem_append_left _ (h.sub x (List.mem_append_left _ hx))
  .exact List.mem_append_right _ hx
 .rcases Qch.1 hx with hx|hx
  .exact h.reached x hx
  .exact .step id x (h.reached id hid) (h2 x hx).1
 .rcases Qch.1 hx with hx|hx
  .by_cases e:x=id
   .subst e;exact .inr h3
   .rcases h.closed x hx with hc|hc
    .rcases Qch.1 hc with hc|hc
     .exact .inl (List.mem_append_left _ hc)
     .simp at hc;exact absurd hc e
    .exact .inr λy hy=>List.mem_append_left _ (hc y hy)
  .exact .inl (List.mem_append_right _ hx)
theorem oI.done(h:oI roots R S []):∀x,x∈S↔AG roots R x:=by
 refineλx=>⟨h.reached x,λhx=> ?_⟩;induction hx with
 |root x hx=>exact h.all x hx
 |step x y _ hy ih=>exact((h.closed x ih).resolve_left (by simp)) y hy
def pO(n:Nat)(S wk:List Int):Nat:=2*(n-S.length)+wk.length
def Fl {n:Nat}{S' Lj:List Int}(he:dI (S,wk) (R id)=(S',Lj))(hS:S'.length<=n):pO n S' Lj<pO n S (wk++[id]):=by
 obtain⟨new,h1,_,_⟩:=pN (R id) S wk;rw[h1]at he;cases he;unfold pO;simp only[Qda,Qcc,Qcd]at hS⊢;omega
end
end Mk
namespace Mk
open Go.RowKit
def Wc(p:Addr)(w:aj):(method 542 96 (.pointer (some p)) "Push").run prog w= .ok (380, .pointer (some p)) w:=by kernel_rfl
def ZS(p:Addr)(w:aj):(method 542 96 (.pointer (some p)) "Pop").run prog w= .ok (379, .pointer (some p)) w:=by kernel_rfl
def Fq(p:Addr)(w:aj)(a:dC)(n c:Nat)(h:w.cell? p=some (xL a n c)):(loadVar 90 p).run prog w= .ok (xL a n c) w:=by
 have e:(loadVar 90 p).run prog w=(load p).run prog w:=by kernel_rfl
 rw[e];simp[go_sem,h]
def CW(p:Addr)(w:aj)(a:dC)(n c:Nat)(h:w.cell? p=some (xL a n c))(k:Nat)(name:String)(f:FuncId)
 (hi:((Tryz.prog.info? 96).map λi=>(i.methods.find? (·.name==name)).map λm=>(m.path,m.func))=some (some (#[],some (f,false)))):
 (method (k+1) 96 (.pointer (some p)) name).run prog w= .ok (f,xL a n c) w:=by
 have h1:=Fq p w a n c h;have hw:∀(nm:String)(w:aj),(Builtin.ssaWrapNilChk_ #[96] 96 #[.pointer (some p),strVal "",strVal nm]).run prog w= .ok (.pointer (some p)) w:=λ_ _=>rfl;cases hI:Tryz.prog.info? 96 with
 |none=>rw[hI]at hi;cases hi
 |some I=>
  rw[hI]at hi;simp only[Option.map_some,Qcf]at hi;cases hM:I.methods.find? (·.name==name)with
  |none=>rw[hM]at hi;cases hi
  |some M=>
   rw[hM]at hi;simp only[Option.map_some,Qcf,Prod.mk.injEq]at hi;obtain⟨hp,hf⟩:=hi;simp[method,typeInfo,hI,hM,hp,hf,follow,receiverAt,Place.get,run_underlying underlying96,hw,asAddr,h1]
def ZT:((Tryz.prog.info? 96).map λi=>(i.methods.find? (·.name== "Len")).map λm=>(m.path,m.func))=some (some (#[],some (376,false))):=by kernel_rfl
def UL(p:Addr)(w:aj)(a:dC)(n c:Nat)(h:w.cell? p=some (xL a n c)):(method 542 96 (.pointer (some p)) "Len").run prog w= .ok (376,xL a n c) w:=
 CW p w a n c h 541 _ _ ZT
def Wd:((Tryz.prog.info? 96).map λi=>(i.methods.find? (·.name== "Less")).map λm=>(m.path,m.func))=some (some (#[],some (377,false))):=by kernel_rfl
def PS(p:Addr)(w:aj)(a:dC)(n c:Nat)(h:w.cell? p=some (xL a n c)):(method 542 96 (.pointer (some p)) "Less").run prog w= .ok (377,xL a n c) w:=
 CW p w a n c h 541 _ _ Wd
def We:((Tryz.prog.info? 96).map λi=>(i.methods.find? (·.name== "Swap")).map λm=>(m.path,m.func))=some (some (#[],some (378,false))):=by kernel_rfl
def I7(p:Addr)(w:aj)(a:dC)(n c:Nat)(h:w.cell? p=some (xL a n c)):(method 542 96 (.pointer (some p)) "Swap").run prog w= .ok (378,xL a n c) w:=
 CW p w a n c h 541 _ _ We
def KM(a:dC)(n c:Nat)(w:aj):xC 376 #[xL a n c] w (gE (xI n) w):=by
 go_enter func376,ntmps376;go_wp2;go_ret;exact⟨rfl,rfl⟩
def PT(g n cap:Nat)(i j:Int)(x y:Int)(w:aj)(dz:0<=i)(hi:i<n)(R3:0<=j)(hj:j<n)(hn:n<=9223372036854775807)(hx:aU w g i.toNat (xI x))(hy:aU w g j.toNat (xI y)):
 xC 377 #[xL (some ⟨g,0,none⟩) n cap,xI i,xI j] w λe w'=>e=xR (xB (decide (x<y)))/\∃d,w'=w.drewN d:=by
 obtain⟨i,rfl⟩:=Int.eq_ofNat_of_zero_le dz;obtain⟨j,rfl⟩:=Int.eq_ofNat_of_zero_le R3;rw[Int.toNat_natCast]at hx hy;go_enter func377,ntmps377;go_wp2;go_quiet(fail);go_wp2;go_ret;exact⟨rfl,_,rfl⟩
def Tk(g n cap i j:Nat)(x y:Int)(w:aj)(hi:i<n)(hj:j<n)(hij:i≠j)(hn:n<=9223372036854775807)(hx:aU w g i (xI x))(hy:aU w g j (xI y))
 (JW:w.frozen? ⟨g,i,none⟩=false)(hfj:w.frozen? ⟨g,j,none⟩=false):
 xC 378 #[xL (some ⟨g,0,none⟩) n cap,xI i,xI j] w λe w'=>e=xR (.tuple #[])/\w'=((w.setCell ⟨g,i,none⟩ (xI y)).setCell ⟨g,j,none⟩ (xI x)).drew:=by
 have TO:(i:Int)<n:=by omega
 have hj':(j:Int)<n:=by omega
 have T9:¬j=i:=λe=>hij e.symm;have qhm:¬i=j:=hij;go_enter func378,ntmps378;go_wp2;go_region;all_goals(go_end0;exact⟨rfl,rfl⟩)
def swap_eq(g n cap i:Nat)(x:Int)(w:aj)(hi:i<n)(hn:n<=9223372036854775807)(hx:aU w g i (xI x))(JW:w.frozen? ⟨g,i,none⟩=false):
 xC 378 #[xL (some ⟨g,0,none⟩) n cap,xI i,xI i] w λe w'=>e=xR (.tuple #[])/\w'=((w.setCell ⟨g,i,none⟩ (xI x)).setCell ⟨g,i,none⟩ (xI x)).drew:=by
 have TO:(i:Int)<n:=by omega
 obtain⟨u,hu⟩:=cell?_setCell_some (w:=w.drew) (p:=⟨g,i,none⟩) (x:=xI x) (q:=⟨g,i,none⟩) (v:=xI x) (by go_simp);go_enter func378,ntmps378;go_wp2;go_region;all_goals(go_end0;exact⟨rfl,rfl⟩)
structure bK(w:aj)(bm:Nat)(m1 m2 v:an)(xs:List Int):Prop where
 blk:cI w bm (xK #[v,m1,m2] 93)
 own:w.ownsRow 0 3 1 v xs.length (xs.map (Value.int .i64))
section
variable {w w':aj}{bm:Nat}{m1 m2 v:an}{xs:List Int}
theorem bK.lt(h:bK w bm m1 m2 v xs):bm<w.heap.size:=(Qaa.1 h.blk).1
theorem bK.cell(h:bK w bm m1 m2 v xs):w.cell? ⟨bm,0,none⟩=some v:=by simp[World.cell?,h.blk]
theorem bK.free(h:bK w bm m1 m2 v xs):w.frozen? ⟨bm,0,none⟩=false:=by simp[World.frozen?,h.blk]
theorem bK.ne(h:bK w bm m1 m2 v xs):v.ownBlock≠some bm:=by
 intro e;rcases h.own.2 with⟨rfl,_⟩|⟨g,cap,cur,rfl,_,hg,_⟩
 .simp[Value.ownBlock]at e
 .have:g=bm:=by simpa [Value.ownBlock]using e
  subst this;rw[h.blk]at hg;simp at hg
theorem bK.form(h:bK w bm m1 m2 v xs)(hx:0<xs.length):∃g cap,v=xL (some ⟨g,0,none⟩) xs.length cap/\g≠bm/\g<w.heap.size/\xs.length<=9223372036854775807/\(∀k,k<xs.length->w.cell? ⟨g,k,none⟩=some (xI (bn xs k)))/\∀k,w.frozen? ⟨g,k,none⟩=false:=by
 have iG:=h.ne;rcases h.own.2 with⟨rfl,h0⟩|⟨g,cap,cur,rfl,hb,hg,Wt,wP,bD,htk⟩
 .omega
 .refine⟨g,cap,rfl,λe=>iG (by simp[Value.ownBlock,e]),(Qaa.1 hg).1,by unfold maxLen at wP;omega,λk hk=> ?_,λk=>h.own.frozenAt k⟩;rw[h.own.cellAt k (by omega),List.getElem?_map,BO hk];rfl
theorem bK.drewN(h:bK w bm m1 m2 v xs)(d:Nat):bK (w.drewN d) bm m1 m2 v xs:=⟨h.blk,h.own⟩
theorem bK.only {S:aS}(h:bK w bm m1 m2 v xs)(ho:ai S w w')(h1:¬S bm)(h2:∀g,v.ownBlock=some g->¬S g):bK w' bm m1 m2 v xs:=by
 refine⟨(ho.block bm h.lt h1).trans h.blk,?_⟩;have aX:=h.own.lt;refine⟨h.own.1,?_⟩;rcases h.own.2 with⟨rfl,h0⟩|⟨g,cap,cur,rfl,hb,hg,Wt,wP,bD,htk⟩
 .exact .inl ⟨rfl,h0⟩
 .exact .inr ⟨g,cap,cur,rfl,hb,(ho.block g (aX g rfl).2 (h2 g rfl)).trans hg,Wt,wP,bD,htk⟩
theorem bK.set(h:bK w bm m1 m2 v xs)(hv:v=xL (some ⟨g,0,none⟩) xs.length cap)(k:Nat)(x:Int):bK (w.setCell ⟨g,k,none⟩ (xI x)) bm m1 m2 v (xs.set k x):=by
 have iG:=h.ne;subst hv;have hg:bm≠g:=λe=>iG (by simp[Value.ownBlock,e]);refine⟨(Below.heap_setCell w _ _ bm hg).trans h.blk,?_⟩;have h1:=(h.own.stored k (xI x)).1;rw[List.length_set];simpa [List.map_set]using h1
theorem bK.swap(h:bK w bm m1 m2 v xs)(hv:v=xL (some ⟨g,0,none⟩) xs.length cap):bK ((w.setCell ⟨g,i,none⟩ (xI (bn xs j))).setCell ⟨g,j,none⟩ (xI (bn xs i))).drew bm m1 m2 v (kg xs i j):=by
 have h1:=(h.set hv i (bn xs j)).set (g:=g) (cap:=cap) (by rw[List.length_set];exact hv) j (bn xs i);exact⟨h1.blk,h1.own⟩
end
def MD(h:bK w bm m1 m2 v xs)(hv:v=xL (some ⟨g,0,none⟩) xs.length cap)(i j:Int)(dz:0<=i)(R3:0<=j)(hi:i.toNat<xs.length)(hj:j.toNat<xs.length):
 xC 378 #[xL (some ⟨g,0,none⟩) xs.length cap,xI i,xI j] w λe w'=>e=xR (.tuple #[])/\bK w' bm m1 m2 v (kg xs i.toNat j.toNat)/\ai (λk=>k=g) w w':=by
 obtain⟨i,rfl⟩:=Int.eq_ofNat_of_zero_le dz;obtain⟨j,rfl⟩:=Int.eq_ofNat_of_zero_le R3;rw[Int.toNat_natCast]at*;obtain⟨g',fq,ry,Vk,hgs,ud,aG,oU⟩:=h.form (by omega);obtain⟨rfl,rfl⟩:g=g'/\cap=fq:=by rw[hv]at ry;simpa using ry
 have ho:∀x y:an,ai (λk=>k=g) w (((w.setCell ⟨g,i,none⟩ x).setCell ⟨g,j,none⟩ y).drew):=λx y=>(((ai.refl (λk=>k=g) w).setCell (p:=⟨g,i,none⟩) (.inl rfl) x).setCell (p:=⟨g,j,none⟩) (.inl rfl) y).drew;by_cases hij:i=j
 .subst hij;refine(swap_eq g xs.length cap i _ w hi ud (aG i hi) (oU i)).mono ?_;rintro e w'⟨rfl,rfl⟩;exact⟨rfl,h.swap hv,ho _ _⟩
 .refine(Tk g xs.length cap i j _ _ w hi hj hij ud (aG i hi) (aG j hj) (oU i) (oU j)).mono ?_;rintro e w'⟨rfl,rfl⟩;exact⟨rfl,h.swap hv,ho _ _⟩
def lz {n:Nat}(h:bK w bm m1 m2 (xL (some ⟨g,0,none⟩) n cap) xs)(hn:xs.length=n)(i j:Int)(dz:0<=i)(R3:0<=j)(hi:i.toNat<n)(hj:j.toNat<n):
 xC 378 #[xL (some ⟨g,0,none⟩) n cap,xI i,xI j] w λe w'=>e=xR (.tuple #[])/\bK w' bm m1 m2 (xL (some ⟨g,0,none⟩) n cap) (kg xs i.toNat j.toNat)/\ai (λk=>k=g) w w':=by
 subst hn;exact MD h rfl i j dz R3 hi hj
def il(b:Bool)(g n cap:Nat)(i j:Int)(x y:Int)(w:aj)(hb:decide (x<y)=b)(dz:0<=i)(hi:i<n)(R3:0<=j)(hj:j<n)(hn:n<=9223372036854775807)(hx:aU w g i.toNat (xI x))(hy:aU w g j.toNat (xI y)):
 xC 377 #[xL (some ⟨g,0,none⟩) n cap,xI i,xI j] w λe w'=>e=xR (xB b)/\∃d,w'=w.drewN d:=by
 subst hb;exact PT g n cap i j x y w dz hi R3 hj hn hx hy
def PU(bm:Nat)(m1 m2 v:an)(xs:List Int)(w:aj)(e:Ending)(w':aj):Prop:=
 e=xR (.tuple #[])/\∃ys,bK w' bm m1 m2 v ys/\ys.Perm xs/\fF ys ys.length/\ai (λi=>v.ownBlock=some i) w w'
def Wf(bm:Nat)(m1 m2 v:an)(xs:List Int)(w:aj)(j:Int)(R3:0<=j)(h:bK w bm m1 m2 v xs)(hu:zt xs j.toNat):
 xC 73 #[.iface 96 (xP bm),xI j] w (PU bm m1 m2 v xs w):=by
 obtain⟨j,rfl⟩:=Int.eq_ofNat_of_zero_le R3;rw[Int.toNat_natCast]at hu;have aX:=hu.lt;obtain⟨g,cap,rfl,Vk,hgs,ud,_,_⟩:=h.form (by omega);generalize hn:xs.length=n at*;have HN:=af hn;clear hn;have HH:=af h;clear h;have HU:=af hu;clear hu;have XE:=λ(w:aj)=>PS ⟨bm,0,none⟩ w (some ⟨g,0,none⟩) n cap;have Rr:=λ(w:aj)=>I7 ⟨bm,0,none⟩ w (some ⟨g,0,none⟩) n cap;go_enter func73,ntmps73;go_wp2_with fail;go_loopw [1,4](λjv _ wr=>∃(k:Nat)(ys:List Int),k<n/\jv=xI k/\Hd (ys.length=n)/\Hd (bK wr bm m1 m2 (xL (some ⟨g,0,none⟩) n cap) ys)/\Hd (ys.Perm xs)/\Hd (zt ys k)/\Hd (ai (λi=>i=g) w wr))(λjv _ _=>(intOf jv).toNat);case atStart=>exact⟨j,xs,aX,rfl,HN,HH,by exact(List.Perm.refl xs),HU,by exact(ai.refl _ w)⟩
 case round=>
  obtain⟨k,ys,hk,rfl,HY,HA,HP,HI,HO⟩:=hrel;obtain⟨g',fq,ry,_,_,_,aG,oU⟩:=HA.o.form (by rw[HY.o];omega);obtain⟨rfl,rfl⟩:g=g'/\cap=fq:=by rw[HY.o]at ry;simpa using ry
  clear ry;have wP:=HA.o.cell;have fin:∀w'':aj,bK w'' bm m1 m2 (xL (some ⟨g,0,none⟩) n cap) ys->ai (λi=>i=g) w w''->fF ys ys.length->PU bm m1 m2 (xL (some ⟨g,0,none⟩) n cap) xs w (xR (.tuple #[])) w'':=
   λw'' h1 h2 h3=>⟨rfl,ys,h1,HP.o,h3,h2.mono λi hi=>by rw[hi];rfl⟩;have mA:=af fin;clear fin;by_cases Yu:k=0
  .subst Yu;clear aG oU;go_wp2_with fail;go_end0;exact mA.o _ HA.o HO.o (KL HI.o (.inl rfl))
  .have iB:=aG k (by rw[HY.o];exact hk);have jh:=aG ((k-1)/2) (by rw[HY.o];omega);have rA:=af iB;have AY:=af jh;clear aG oU iB jh;have hd:(((k:Int)-1)/2==(k:Int))=false:=by simpa using(by omega:¬((k:Int)-1)/2=k)
   have ht:(((k:Int)-1)/2).toNat=(k-1)/2:=by omega
   have HT:=af ht;clear ht;by_cases hs:bn ys k<bn ys ((k-1)/2)
   .have dB:decide (bn ys k<bn ys ((k-1)/2))=true:=by simpa using hs
    have HS:=af dB;clear dB;go_wp2_with(first
     |(go_at_call 377;refine(il true g n cap _ _ (bn ys k) (bn ys ((k-1)/2)) _ HS.o (by omega) (by omega) (by omega) (by omega) ud ?_ ?_).mono ?_;(rw[Int.toNat_natCast];exact rA.o);(rw[HT.o];exact AY.o);rintro e w'⟨rfl,d,rfl⟩)
     |(go_at_call 378;refine(lz (HA.o.drewN d) HY.o _ _ (by omega) (by omega) (by rw[HT.o];omega) (by omega)).mono ?_;rintro e w'⟨rfl,J1,Ch⟩));rw[HT.o,Int.toNat_natCast]at J1;have eF:=(lu (ys:=ys) (i:=(k-1)/2) (j:=k) (by rw[HY.o];omega) (by rw[HY.o];omega)).trans HP.o;have XF:=af eF;have XG:=af J1;have NZ:=((HO.o.drewN d).trans Ch);have XH:=af NZ;clear J1 Ch eF NZ;go_wp2_with fail;go_roundw;case rel=>exact⟨(k-1)/2,kg ys ((k-1)/2) k,by omega,by go_num,by have h:(kg ys ((k-1)/2) k).length=n:=by {rw[dk];exact HY.o};exact h,XG,XF,by exact(Tj HI.o (by omega) hs),XH⟩
    case measure=>simp[intOf];omega
   .have dB:decide (bn ys k<bn ys ((k-1)/2))=false:=by simpa using hs
    have HS:=af dB;clear dB;have eB:=af hs;clear hs;go_wp2_with(first
     |(go_at_call 377;refine(il false g n cap _ _ (bn ys k) (bn ys ((k-1)/2)) _ HS.o (by omega) (by omega) (by omega) (by omega) ud ?_ ?_).mono ?_;(rw[Int.toNat_natCast];exact rA.o);(rw[HT.o];exact AY.o);rintro e w'⟨rfl,d,rfl⟩));go_end0;exact mA.o _ (HA.o.drewN d) (HO.o.drewN d) (KL HI.o (.inr (by have:=eB.o;omega)))
def uY {n:Nat}(hk:k<ys.length)(hj:j<ys.length)(h1:k<n)(h2:j<n)(h:bn ys n=bn xs n):bn (kg ys k j) n=bn xs n:=by
 rw[lq hk hj,if_neg (by omega),if_neg (by omega)];exact h
def Fs(bm:Nat)(m1 m2 v:an)(xs:List Int)(n:Nat)(w:aj)(e:Ending)(w':aj):Prop:=
 (∃b,e=xR (xB b))/\∃ys,bK w' bm m1 m2 v ys/\ys.length=xs.length/\ys.Perm xs/\fF ys n/\bn ys n=bn xs n/\ai (λi=>v.ownBlock=some i) w w'
def PV(bm:Nat)(m1 m2 v:an)(xs:List Int)(w:aj)(nn:Int)(tN:0<=nn)(h:bK w bm m1 m2 v xs)(hu:qu xs 0 nn.toNat)(hlen:nn.toNat<xs.length)(J2:xs.length<=1000000000):
 xC 72 #[.iface 96 (xP bm),xI 0,xI nn] w (Fs bm m1 m2 v xs nn.toNat w):=by
 obtain⟨n,rfl⟩:=Int.eq_ofNat_of_zero_le tN;rw[Int.toNat_natCast]at*;obtain⟨g,cap,rfl,Vk,hgs,ud,_,_⟩:=h.form (by omega);generalize hn:xs.length=L at*;have HN:=af hn;clear hn;have HH:=af h;clear h;have HU:=af hu;clear hu;have XE:=λ(w:aj)=>PS ⟨bm,0,none⟩ w (some ⟨g,0,none⟩) L cap;have Rr:=λ(w:aj)=>I7 ⟨bm,0,none⟩ w (some ⟨g,0,none⟩) L cap;go_enter func72,ntmps72;go_wp2_with fail;go_loopw [7,8,9,10](λiv _ _ _ wr=>∃(k:Nat)(ys:List Int),k<L/\iv=xI k/\Hd (ys.length=L)/\Hd (bK wr bm m1 m2 (xL (some ⟨g,0,none⟩) L cap) ys)/\Hd (ys.Perm xs)/\Hd (bn ys n=bn xs n)/\Hd (qu ys k n)/\Hd (ai (λi=>i=g) w wr))(λiv _ _ _ _=>L-(intOf iv).toNat);case atStart=>exact⟨0,xs,by omega,rfl,HN,HH,by exact(List.Perm.refl xs),by exact(rfl:bn xs n=bn xs n),HU,by exact(ai.refl _ w)⟩
 case round=>
  obtain⟨k,ys,hk,rfl,HY,HA,HP,HK,HI,HO⟩:=hrel;obtain⟨g',fq,ry,_,_,_,aG,oU⟩:=HA.o.form (by rw[HY.o];omega);obtain⟨rfl,rfl⟩:g=g'/\cap=fq:=by rw[HY.o]at ry;simpa using ry
  clear ry oU;have wP:=HA.o.cell;have gQ:=af aG;clear aG;have fin:∀(b:Bool)(w'':aj),bK w'' bm m1 m2 (xL (some ⟨g,0,none⟩) L cap) ys->ai (λi=>i=g) w w''->fF ys n->Fs bm m1 m2 (xL (some ⟨g,0,none⟩) L cap) xs n w (xR (xB b)) w'':=
   λb w'' h1 h2 h3=>⟨⟨b,rfl⟩,ys,h1,by rw[HY.o,HN.o],HP.o,h3,HK.o,h2.mono λi hi=>by rw[hi];rfl⟩;have mA:=af fin;clear fin;by_cases h1n:n<=2*k+1
  .go_wp2;go_ret;exact mA.o _ _ HA.o HO.o (qw HI.o (λc h1 h2 h3=>by omega))
  .by_cases h2n:2*k+2<n
   .by_cases hl:bn ys (2*k+2)<bn ys (2*k+1)
    .have vi:decide (bn ys (2*k+2)<bn ys (2*k+1))=true:=by simpa using hl
     have Nr:=af vi;clear vi;have GW:=af hl;clear hl;by_cases hs:bn ys (2*k+2)<bn ys k
     .have dB:decide (bn ys (2*k+2)<bn ys k)=true:=by simpa using hs
      have HS:=af dB;clear dB;have eB:=af hs;clear hs;go_wp2_with fail;refine(il true g L cap _ _ (bn ys ((2*k+2))) (bn ys ((2*k+1))) _ Nr.o (by omega) (by omega) (by omega) (by omega) ud ?_ ?_).mono ?_
      .rw[show(2*↑k+1+1:Int).toNat=(2*k+2)from by omega];exact(gQ.o (2*k+2) (by rw[HY.o];omega))
      .rw[show(2*↑k+1:Int).toNat=(2*k+1)from by omega];exact(gQ.o (2*k+1) (by rw[HY.o];omega))
      rintro e w'⟨rfl,d1,rfl⟩;go_wp2_with fail;refine(il true g L cap _ _ (bn ys ((2*k+2))) (bn ys (k)) _ HS.o (by omega) (by omega) (by omega) (by omega) ud ?_ ?_).mono ?_
      .rw[show(2*↑k+1+1:Int).toNat=(2*k+2)from by omega];exact(gQ.o (2*k+2) (by rw[HY.o];omega))
      .rw[show(↑k:Int).toNat=k from by omega];exact(gQ.o k (by rw[HY.o];omega))
      rintro e w'⟨rfl,d2,rfl⟩;go_wp2_with fail;refine(lz (HA.o.drewN _) HY.o _ _ (by omega) (by omega) (by omega) (by omega)).mono ?_;rintro e w'⟨rfl,J1,Ch⟩;rw[show(2*↑k+1+1:Int).toNat=2*k+2 from by omega,Int.toNat_natCast]at J1;have fu:=af (uX (j:=2*k+2) HI.o (by omega) (by omega) (by omega) (by simpa using eB.o) (λc h1 h2 h3=>by have:=GW.o;rcases(by omega:c=2*k+1\/c=2*k+2)with rfl|rfl<;>omega));have eF:=(lu (ys:=ys) (i:=k) (j:=2*k+2) (by rw[HY.o];omega) (by rw[HY.o];omega)).trans HP.o;have XF:=af eF;have XG:=af J1;have HK':=af (uY (k:=k) (j:=2*k+2) (n:=n) (by rw[HY.o];omega) (by rw[HY.o];omega) (by omega) (by omega) HK.o);have HL':=af ((dk ys k (2*k+2)).trans HY.o);have NZ:=((HO.o.drewN _).trans Ch);have XH:=af NZ;clear J1 Ch eF NZ;go_wp2_with fail;go_roundw;case rel=>exact⟨2*k+2,_,by omega,by go_num,HL',XG,XF,HK',fu,XH⟩
      case measure=>simp[intOf];omega
     .have dB:decide (bn ys (2*k+2)<bn ys k)=false:=by simpa using hs
      have HS:=af dB;clear dB;have eB:=af hs;clear hs;go_wp2_with fail;refine(il true g L cap _ _ (bn ys ((2*k+2))) (bn ys ((2*k+1))) _ Nr.o (by omega) (by omega) (by omega) (by omega) ud ?_ ?_).mono ?_
      .rw[show(2*↑k+1+1:Int).toNat=(2*k+2)from by omega];exact(gQ.o (2*k+2) (by rw[HY.o];omega))
      .rw[show(2*↑k+1:Int).toNat=(2*k+1)from by omega];exact(gQ.o (2*k+1) (by rw[HY.o];omega))
      rintro e w'⟨rfl,d1,rfl⟩;go_wp2_with fail;refine(il false g L cap _ _ (bn ys ((2*k+2))) (bn ys (k)) _ HS.o (by omega) (by omega) (by omega) (by omega) ud ?_ ?_).mono ?_
      .rw[show(2*↑k+1+1:Int).toNat=(2*k+2)from by omega];exact(gQ.o (2*k+2) (by rw[HY.o];omega))
      .rw[show(↑k:Int).toNat=k from by omega];exact(gQ.o k (by rw[HY.o];omega))
      rintro e w'⟨rfl,d2,rfl⟩;go_wp2;go_ret;exact mA.o _ _ (HA.o.drewN _) (HO.o.drewN _) (qw HI.o (λc h1 h2 h3=>by have:=GW.o;have:=eB.o;rcases(by omega:c=2*k+1\/c=2*k+2)with rfl|rfl<;>omega))
    .have vi:decide (bn ys (2*k+2)<bn ys (2*k+1))=false:=by simpa using hl
     have Nr:=af vi;clear vi;have GW:=af hl;clear hl;by_cases hs:bn ys (2*k+1)<bn ys k
     .have dB:decide (bn ys (2*k+1)<bn ys k)=true:=by simpa using hs
      have HS:=af dB;clear dB;have eB:=af hs;clear hs;go_wp2_with fail;refine(il false g L cap _ _ (bn ys ((2*k+2))) (bn ys ((2*k+1))) _ Nr.o (by omega) (by omega) (by omega) (by omega) ud ?_ ?_).mono ?_
      .rw[show(2*↑k+1+1:Int).toNat=(2*k+2)from by omega];exact(gQ.o (2*k+2) (by rw[HY.o];omega))
      .rw[show(2*↑k+1:Int).toNat=(2*k+1)from by omega];exact(gQ.o (2*k+1) (by rw[HY.o];omega))
      rintro e w'⟨rfl,d1,rfl⟩;go_wp2_with fail;refine(il true g L cap _ _ (bn ys ((2*k+1))) (bn ys (k)) _ HS.o (by omega) (by omega) (by omega) (by omega) ud ?_ ?_).mono ?_
      .rw[show(2*↑k+1:Int).toNat=(2*k+1)from by omega];exact(gQ.o (2*k+1) (by rw[HY.o];omega))
      .rw[show(↑k:Int).toNat=k from by omega];exact(gQ.o k (by rw[HY.o];omega))
      rintro e w'⟨rfl,d2,rfl⟩;go_wp2_with fail;refine(lz (HA.o.drewN _) HY.o _ _ (by omega) (by omega) (by omega) (by omega)).mono ?_;rintro e w'⟨rfl,J1,Ch⟩;rw[show(2*↑k+1:Int).toNat=2*k+1 from by omega,Int.toNat_natCast]at J1;have fu:=af (uX (j:=2*k+1) HI.o (by omega) (by omega) (by omega) (by simpa using eB.o) (λc h1 h2 h3=>by have:=GW.o;rcases(by omega:c=2*k+1\/c=2*k+2)with rfl|rfl<;>omega));have eF:=(lu (ys:=ys) (i:=k) (j:=2*k+1) (by rw[HY.o];omega) (by rw[HY.o];omega)).trans HP.o;have XF:=af eF;have XG:=af J1;have HK':=af (uY (k:=k) (j:=2*k+1) (n:=n) (by rw[HY.o];omega) (by rw[HY.o];omega) (by omega) (by omega) HK.o);have HL':=af ((dk ys k (2*k+1)).trans HY.o);have NZ:=((HO.o.drewN _).trans Ch);have XH:=af NZ;clear J1 Ch eF NZ;go_wp2_with fail;go_roundw;case rel=>exact⟨2*k+1,_,by omega,by go_num,HL',XG,XF,HK',fu,XH⟩
      case measure=>simp[intOf];omega
     .have dB:decide (bn ys (2*k+1)<bn ys k)=false:=by simpa using hs
      have HS:=af dB;clear dB;have eB:=af hs;clear hs;go_wp2_with fail;refine(il false g L cap _ _ (bn ys ((2*k+2))) (bn ys ((2*k+1))) _ Nr.o (by omega) (by omega) (by omega) (by omega) ud ?_ ?_).mono ?_
      .rw[show(2*↑k+1+1:Int).toNat=(2*k+2)from by omega];exact(gQ.o (2*k+2) (by rw[HY.o];omega))
      .rw[show(2*↑k+1:Int).toNat=(2*k+1)from by omega];exact(gQ.o (2*k+1) (by rw[HY.o];omega))
      rintro e w'⟨rfl,d1,rfl⟩;go_wp2_with fail;refine(il false g L cap _ _ (bn ys ((2*k+1))) (bn ys (k)) _ HS.o (by omega) (by omega) (by omega) (by omega) ud ?_ ?_).mono ?_
      .rw[show(2*↑k+1:Int).toNat=(2*k+1)from by omega];exact(gQ.o (2*k+1) (by rw[HY.o];omega))
      .rw[show(↑k:Int).toNat=k from by omega];exact(gQ.o k (by rw[HY.o];omega))
      rintro e w'⟨rfl,d2,rfl⟩;go_wp2;go_ret;exact mA.o _ _ (HA.o.drewN _) (HO.o.drewN _) (qw HI.o (λc h1 h2 h3=>by have:=GW.o;have:=eB.o;rcases(by omega:c=2*k+1\/c=2*k+2)with rfl|rfl<;>omega))
   .by_cases hs:bn ys (2*k+1)<bn ys k
    .have dB:decide (bn ys (2*k+1)<bn ys k)=true:=by simpa using hs
     have HS:=af dB;clear dB;have eB:=af hs;clear hs;go_wp2_with fail;refine(il true g L cap _ _ (bn ys ((2*k+1))) (bn ys (k)) _ HS.o (by omega) (by omega) (by omega) (by omega) ud ?_ ?_).mono ?_
     .rw[show(2*↑k+1:Int).toNat=(2*k+1)from by omega];exact(gQ.o (2*k+1) (by rw[HY.o];omega))
     .rw[show(↑k:Int).toNat=k from by omega];exact(gQ.o k (by rw[HY.o];omega))
     rintro e w'⟨rfl,d2,rfl⟩;go_wp2_with fail;refine(lz (HA.o.drewN _) HY.o _ _ (by omega) (by omega) (by omega) (by omega)).mono ?_;rintro e w'⟨rfl,J1,Ch⟩;rw[show(2*↑k+1:Int).toNat=2*k+1 from by omega,Int.toNat_natCast]at J1;have fu:=af (uX (j:=2*k+1) HI.o (by omega) (by omega) (by omega) (by simpa using eB.o) (λc h1 h2 h3=>by obtain rfl:c=2*k+1:=(by omega);omega));have eF:=(lu (ys:=ys) (i:=k) (j:=2*k+1) (by rw[HY.o];omega) (by rw[HY.o];omega)).trans HP.o;have XF:=af eF;have XG:=af J1;have HK':=af (uY (k:=k) (j:=2*k+1) (n:=n) (by rw[HY.o];omega) (by rw[HY.o];omega) (by omega) (by omega) HK.o);have HL':=af ((dk ys k (2*k+1)).trans HY.o);have NZ:=((HO.o.drewN _).trans Ch);have XH:=af NZ;clear J1 Ch eF NZ;go_wp2_with fail;go_roundw;case rel=>exact⟨2*k+1,_,by omega,by go_num,HL',XG,XF,HK',fu,XH⟩
     case measure=>simp[intOf];omega
    .have dB:decide (bn ys (2*k+1)<bn ys k)=false:=by simpa using hs
     have HS:=af dB;clear dB;have eB:=af hs;clear hs;go_wp2_with fail;refine(il false g L cap _ _ (bn ys ((2*k+1))) (bn ys (k)) _ HS.o (by omega) (by omega) (by omega) (by omega) ud ?_ ?_).mono ?_
     .rw[show(2*↑k+1:Int).toNat=(2*k+1)from by omega];exact(gQ.o (2*k+1) (by rw[HY.o];omega))
     .rw[show(↑k:Int).toNat=k from by omega];exact(gQ.o k (by rw[HY.o];omega))
     rintro e w'⟨rfl,d2,rfl⟩;go_wp2;go_ret;exact mA.o _ _ (HA.o.drewN _) (HO.o.drewN _) (qw HI.o (λc h1 h2 h3=>by obtain rfl:c=2*k+1:=(by omega);have:=eB.o;omega))
def Ft(bm:Nat)(m1 m2 v:an)(P:List Int->Prop)(w:aj)(e:Ending)(w':aj):Prop:=
 e=xR (.tuple #[])/\∃v' ys,bK w' bm m1 m2 v' ys/\P ys/\ai (λi=>i=bm\/v.ownBlock=some i) w w'/\(∀g,v'.ownBlock=some g->v.ownBlock=some g\/w.heap.size<=g)
def zu(x:Int)(w:aj):(Instr.typeAssert (.iface 3 (xI x)) 20 3 true).run prog w= .ok (.tuple #[xI x,xB true]) w:=by kernel_rfl
def ME(bm:Nat)(m1 m2 v:Value)(xs:List Int)(w:World)(x:Int)(h:bK w bm m1 m2 v xs)(J2:xs.length<=1000000000):
 xC 380 #[xP bm, .iface 3 (xI x)] w (Ft bm m1 m2 v (λys=>ys=xs++[x]) w):=by
 obtain⟨i0,dz,dX,cY,dA⟩:=info_parts iU;have wP:=h.cell;have iG:=h.ne;have aX:=h.lt;have vq:=af iG;have HH:=af h;generalize hn:xs.length=n at*;have HN:=af hn;have HOW:Hd (∀o,(w.alloc o).ownsRow 0 3 1 v n (xs.map (Value.int .i64))):=by
  have h1:∀o,(w.alloc o).ownsRow 0 3 1 v n (xs.map (Value.int .i64)):=λo=>by rw[<-HN.o];exact HH.o.own.alloc o
  exact h1
 have hta:=zu x;go_enter func380,ntmps380;go_wp2_with(first
  |(at_builtin;refine gU (F:=λ_=>True) _ rfl (.tmp 15) (.tmp 17) _ rfl 0 3 i0 _ 1 8 underlying90 dz dX cY dA rfl (by omega) v n _ rfl (HOW.o _) _ 1 [Value.int .i64 x] rfl ?c3 ?c4 ?c5 ?c6 ?c7 ?_;case c3=>exact CU _ _ _
    case c4=>intro u hu;simp at hu;subst hu;rfl
    case c5=>unfold maxLen;omega
    case c6=>omega
    case c7=>omega
    intro a1 c1 w1 fJ RW Si;have dB:=RW.size;have Ui:w1.heap[bm]? =some (xK #[v,m1,m2] 93):=(RW.block bm (by simp;omega) (λe=>vq.o e.symm)).trans ((Qcb w _ bm aX).trans HH.o.blk);have qhn:w1.cell? ⟨bm,0,none⟩=some v:=by simp[World.cell?,Ui]
    have qho:w1.frozen? ⟨bm,0,none⟩=false:=by simp[World.frozen?,Ui]
    have aO:=af Ui;have oP:=af fJ;have DJ:=af RW;have Rs:=af Si;clear Ui fJ RW Si));go_end0;refine⟨rfl,xL a1 (n+1) c1,xs++[x],⟨?_,?_⟩,rfl,?_,?_⟩
 .have e:=aO.o;simp[World.setCell,Array.getElem?_modify,e]
 .have h1:=oP.o;have hl:(xs++[x]).length=n+1:=by rw[Qda,HN.o];rfl
  rw[hl,List.map_append];refine h1.kept (w':=_) (row:=some bm) ⟨rfl,rfl,rfl,by simp[World.setCell],λi _ hi=>Below.heap_setCell _ _ _ i (λe=>hi (by rw[e]))⟩ (.inr ?_);intro e;rcases Rs.o with h|h
  .exact vq.o (by rw[<-h];exact e)
  .rw[e]at h;simp at h;omega
 .exact((((ai.refl _ w).alloc _).grown DJ.o (λg hg=> .inl (.inr hg)))).setCell (p:=⟨bm,0,none⟩) (.inl (.inl rfl)) _
 .intro g hg;rcases Rs.o with h|h
  .exact .inl (by rw[<-h];exact hg)
  .rw[hg]at h;simp at h;exact .inr (by omega)
theorem bK.slice(h:bK w bm m1 m2 v xs):∃a c,v=xL a xs.length c:=by
 obtain⟨a,c,e,_,_⟩:=ey h.own;exact⟨a,c,e⟩
def tx(bm:Nat)(m1 m2 v:an)(xs:List Int)(w:aj)(x:Int)(h:bK w bm m1 m2 v xs)(hh:fF xs xs.length)(J2:xs.length<=1000000000):
 xC 39 #[.iface 96 (xP bm), .iface 3 (xI x)] w (Ft bm m1 m2 v (λys=>ys.Perm (x::xs)/\fF ys ys.length) w):=by
 have DS:=Wc ⟨bm,0,none⟩;have H1:=af (ME bm m1 m2 v xs w x h J2);have HB:=af hh;go_enter func39,ntmps39;go_wp2_with fail;refine(H1.o).mono ?_;rintro e w1⟨rfl,v1,ys,ha,rfl,ho,hb⟩;obtain⟨n,hn⟩:=fx (xs.length);obtain⟨a1,c1,e1⟩:=ha.slice;have e2:v1=xL a1 (n+1) c1:=by rw[e1,Qda,hn];rfl
 subst e2;have ud:=UL ⟨bm,0,none⟩ w1 _ _ _ ha.cell;have H2:Hd (zt (xs++[x]) n):=by rw[<-hn];exact PR HB.o
 have HO:=af ho;have Gr:=af hb;have HA:=af ha;rw[hn]at J2;go_wp2_with fail;refine dJ (KM _ _ _ _) ?_;go_wp2_with fail;refine(Wf bm m1 m2 _ (xs++[x]) w1 _ (by omega) HA.o (by rw[Int.toNat_natCast];exact H2.o)).mono ?_;rintro e w2⟨rfl,zs,hz,hp,jW,iM⟩;go_wp2_with fail;go_end0;refine⟨rfl,_,zs,hz,⟨hp.trans (List.perm_append_comm (l₁:=xs) (l₂:=[x])),jW⟩,?_,Gr.o⟩;exact HO.o.dc iM λi hi aX=>by
  rcases Gr.o i hi with h1|h1
  .exact .inr h1
  .omega
def Tl(bm:Nat)(m1 m2 v:an)(xs:List Int)(w:aj)(e:Ending)(w':aj):Prop:=
 ∃v' x ys,e=xR (.iface 3 (xI x))/\bK w' bm m1 m2 v' ys/\xs.Perm (x::ys)/\(∀y∈xs,x<=y)/\fF ys ys.length/\ys.length+1=xs.length/\ai (λi=>i=bm\/v.ownBlock=some i) w w'/\v'.ownBlock=v.ownBlock
def PW(bm:Nat)(m1 m2 v:an)(xs:List Int)(w:aj)(n:Nat)(h:bK w bm m1 m2 v xs)(hn:xs.length=n+1):
 xC 379 #[xP bm] w λe w'=>e=xR (.iface 3 (xI (bn xs n)))/\∃v',bK w' bm m1 m2 v' (xs.take n)/\ai (λi=>i=bm) w w'/\v'.ownBlock=v.ownBlock:=by
 obtain⟨g,cap,rfl,Vk,hgs,ud,aG,_⟩:=h.form (by omega);have fS:=aG n (by omega);have HN:=af hn;rw[hn]at h ud;have wP:=h.cell;have hfm:=h.free;have HH:=af h;obtain⟨_,_,e,cK,_⟩:=ey h.own;rw[hn]at e cK;simp only[Value.slice.injEq]at e;obtain⟨rfl,_,rfl⟩:=e;go_enter func379,ntmps379;go_wp2;go_ret;refine⟨rfl,xL (some ⟨g,0,none⟩) n cap,⟨?_,?_⟩,(ai.refl (λi=>i=bm) w).setCell (p:=⟨bm,0,none⟩) (.inl rfl) _,rfl⟩
 .have e:=HH.o.blk;simp[World.setCell,Array.getElem?_modify,e]
 .have h1:=HH.o.own;have h2:(w.setCell ⟨bm,0,none⟩ (xL (some ⟨g,0,none⟩) n cap)).heap[g]? =w.heap[g]? :=Below.heap_setCell _ _ _ g Vk;rcases h1.2 with⟨h,_⟩|⟨g',fq,cur,hv,_,hg,h3,h4,h5,h6⟩
  .cases h
  .simp only[Value.slice.injEq,Qcf,Addr.mk.injEq]at hv;obtain⟨⟨rfl,_⟩,_,rfl⟩:=hv;have hl:(xs.take n).length=n:=by rw[Qdb,HN.o];omega
   rw[hl];refine⟨by rw[Qdc,hl,Nat.mul_one], .inr ⟨g,cap,cur,rfl,Qbf _,h2.trans hg,by omega,h4,h5,?_⟩⟩;rw[List.map_take,<-h6,List.take_take];congr 1;rw[HN.o];omega
def Fu(bm:Nat)(m1 m2 v:an)(xs:List Int)(w:aj)(h:bK w bm m1 m2 v xs)(hh:fF xs xs.length)(h0:0<xs.length)(J2:xs.length<=1000000000):
 xC 38 #[.iface 96 (xP bm)] w (Tl bm m1 m2 v xs w):=by
 obtain⟨n,hn⟩:∃n,xs.length=n+1:=⟨xs.length-1,by omega⟩;obtain⟨g,cap,rfl,Vk,hgs,ud,_,_⟩:=h.form h0;have HN:=af hn;rw[hn]at h hh ud J2⊢;have wP:=h.cell;have HH:=af h;have HB:=af hh;have qf3:=ZS ⟨bm,0,none⟩;have qf4:=UL ⟨bm,0,none⟩ w _ _ _ wP;have Rr:=I7 ⟨bm,0,none⟩ w _ _ _ wP;clear h hn wP h0;go_enter func38,ntmps38;go_wp2_with fail;refine dJ (KM _ _ _ _) ?_;go_wp2_with fail;refine(lz HH.o HN.o _ _ (by omega) (by omega) (by omega) (by omega)).mono ?_;rintro e w1⟨rfl,Sn,fJ⟩;rw[Int.toNat_natCast,show(0:Int).toNat=0 from rfl]at Sn;have Dq:=af Sn;have oP:=af fJ;clear Sn fJ;go_wp2_with fail;refine(PV bm m1 m2 _ (kg xs 0 n) w1 _ (by omega) Dq.o (by rw[Int.toNat_natCast];exact I5 (by rw[HN.o];exact HB.o) HN.o) (by rw[dk,HN.o];omega) (by rw[dk,HN.o];omega)).mono ?_;rintro e w2⟨⟨b,rfl⟩,ys,ha2,zU,Ae,jW,tT,iM⟩;rw[Int.toNat_natCast]at jW tT;rw[dk,HN.o]at zU;have kj:=af ha2;have wF:=af zU;have GP:=af Ae;have aL:=af jW;have Uj:=af tT;have ue:=af iM;clear ha2 zU Ae jW tT iM;go_wp2_with fail;refine(PW bm m1 m2 _ ys w2 n kj.o wF.o).mono ?_;rintro e w3⟨rfl,v',ha3,Gu,ry⟩;have Ld:=af ha3;have mC:=af Gu;have Rt:=af ry;clear ha3 Gu ry;go_wp2;go_ret;have QF:bn ys n=bn xs 0:=by
  rw[Uj.o,lq (by rw[HN.o];omega) (by rw[HN.o];omega),if_pos rfl]
 have eF:ys.Perm xs:=GP.o.trans (lu (by rw[HN.o];omega) (by rw[HN.o];omega));have htl:=MC wF.o;refine⟨v',bn ys n,ys.take n,rfl,Ld.o,?_,?_,aL.o.take (by rw[wF.o];omega),?_,?_,Rt.o⟩
 .refine eF.symm.trans ?_;rw(occs:= .pos [1]) [htl];exact List.perm_append_comm
 .intro y hy;rw[QF];obtain⟨c,hc,hcy⟩:=List.mem_iff_getElem?.1 hy|>.imp λc hc=>(show c<xs.length/\bn xs c=y from⟨(Qad.1 hc).1,by simp[bn,List.getD,hc]⟩);rw[<-hcy];exact I4 HB.o c (by rw[<-HN.o];exact hc)
 .rw[Qdb,wF.o,HN.o,Nat.min_eq_left (by omega)]
 .have a1:ai (λi=>i=bm\/(Value.slice (some ⟨g,0,none⟩) (n+1) cap).ownBlock=some i) w w1:=oP.o.mono λi hi=> .inr (by rw[hi];rfl);have a2:ai (λi=>i=bm\/(Value.slice (some ⟨g,0,none⟩) (n+1) cap).ownBlock=some i) w1 w2:=ue.o.mono λi hi=> .inr hi;exact(a1.trans a2).trans (mC.o.mono λi hi=> .inl hi)
end Mk
namespace Mk
open Go.RowKit
open Go.ChangeMaps (setBlock heap_setBlock_same heap_setBlock_other)
def rY(p:Int×Nat):MapEntry:=⟨xI p.1,xB true,p.2⟩
def oJ(w:aj)(b:Nat)(es:List (Int×Nat))(clk:Nat):Prop:=
 cI w b (.map (es.map rY).toArray clk)/\(es.map (·.1)).Nodup/\(es.map (·.2)).Nodup/\∀p∈es,p.2<clk
def cu(w:aj)(b:Nat)(S:List Int):Prop:=∃es clk,oJ w b es clk/\es.map (·.1)=S
theorem vW(x:Int):∀(es:List (Int×Nat))(i:Nat),Instr.findNow (.int .i64) (xI x) (es.map rY) i=some (if x∈es.map (·.1)then some (i+(es.map (·.1)).idxOf x,xB true)else none)
 |[],i=>by simp[Instr.findNow]
 |p::r,i=>by
  by_cases h:x=p.1
  .subst h;simp[Instr.findNow,rY,Instr.sameNow]
  .have h':(x==p.1)=false:=by simpa using h
   have h2:(p.1==x)=false:=by simpa usingλe=>h e.symm
   have e:Instr.findNow (.int .i64) (xI x) ((p::r).map rY) i=Instr.findNow (.int .i64) (xI x) (r.map rY) (i+1):=by
    simp[Instr.findNow,rY,Instr.sameNow,h']
   rw[e,vW x r (i+1)];simp only[List.map_cons,Qdf,h,false_or,List.idxOf_cons,h2,cond_false];split<;>simp<;>omega
theorem nd:∀(es:List (Int×Nat))(i:Nat),(es.map rY).eraseIdx i=(es.eraseIdx i).map rY
 |[],i=>by simp
 |p::r,0=>by simp
 |p::r,i+1=>by simp[nd r i]
theorem re(x:Int):∀(es:List (Int×Nat)),x∈es.map (·.1)->(es.eraseIdx ((es.map (·.1)).idxOf x)).map (·.1)=(es.map (·.1)).erase x
 |[],h=>by simp at h
 |p::r,h=>by
  by_cases e:p.1=x
  .subst e;simp
  .have e':(p.1==x)=false:=by simpa using e
   have hr:x∈r.map (·.1):=by
    rcases Qdf.1 (show x∈p.1::r.map (·.1)from h)with h|h
    .exact absurd h.symm e
    .exact h
   simp only[List.map_cons,List.idxOf_cons,e',cond_false,List.eraseIdx_cons_succ,List.erase_cons,Bool.false_eq_true,if_false];rw[re x r hr]
section
variable {w w':aj}{b:Nat}{S:List Int}{es:List (Int×Nat)}{clk:Nat}
theorem oJ.lt(h:oJ w b es clk):b<w.heap.size:=(Qaa.1 h.1).1
theorem cu.lt(h:cu w b S):b<w.heap.size:=by obtain⟨es,clk,h,_⟩:=h;exact h.lt
theorem cu.nodup(h:cu w b S):S.Nodup:=by obtain⟨es,clk,h,rfl⟩:=h;exact h.2.1
theorem oJ.same(h:oJ w b es clk)(hk:w'.heap[b]? =w.heap[b]?):oJ w' b es clk:=⟨hk.trans h.1,h.2⟩
theorem cu.same(h:cu w b S)(hk:w'.heap[b]? =w.heap[b]?):cu w' b S:=by obtain⟨es,clk,h,e⟩:=h;exact⟨es,clk,h.same hk,e⟩
theorem cu.only {T:aS}(h:cu w b S)(ho:ai T w w')(hb:¬T b):cu w' b S:=h.same (ho.block b h.lt hb)
theorem cu.drewN(h:cu w b S)(n:Nat):cu (w.drewN n) b S:=h
theorem cu.made(w:aj):cu (w.alloc (.map #[] 0)) w.heap.size []:=⟨[],0,⟨(MapKept.heap_alloc w _).1,by simp,by simp,by simp⟩,rfl⟩
def run_findKey(x:Int)(es:List (Int×Nat))(w:aj):(Instr.findKey 3 (xI x) (es.map rY)).run prog w= .ok (if x∈es.map (·.1)then some ((es.map (·.1)).idxOf x,xB true)else none) w:=by
 simp only[Instr.findKey,Sem.run_bind,run_underlying underlying3,Result.andThen_ok,vW x es 0,Nat.zero_add];rfl
def run_checkKey(e:Bool)(x:Int)(w:aj):(Instr.checkKey e 10000 3 (xI x)).run prog w= .ok () w:=by
 show(Instr.checkKey e (9999+1) 3 (xI x)).run prog w= .ok () w;rw[Instr.checkKey];simp only[Sem.run_bind,run_underlying underlying3,Result.andThen_ok];rfl
def MF(w:aj):(zeroValue 4).run prog w= .ok (xB false) w:=by kernel_rfl
theorem cu.lookup(h:cu w b S)(x:Int):(Instr.lookup 91 (.map (some b)) (xI x) false).run prog w= .ok (xB (decide (x∈S))) w:=by
 obtain⟨es,clk,h,rfl⟩:=h;simp only[Instr.lookup,Sem.run_bind,run_underlying underlying91,Result.andThen_ok,MapKept.run_getObj_map h.1,Sem.run_pure,run_checkKey,run_findKey];by_cases hx:x∈es.map (·.1)
 .simp[hx]
 .simp[hx,MF]
theorem cu.len(h:cu w b S)(ty:TypeId):(Builtin.len_ #[91] ty #[.map (some b)]).run prog w= .ok (xI S.length) w:=by
 obtain⟨es,clk,h,rfl⟩:=h;simp[Builtin.len_,run_underlying underlying91,MapKept.run_getObj_map h.1,goInt]
theorem cu.store(h:cu w b S)(x:Int)(hx:x∉S):∃w',(Instr.mapUpdate 91 (.map (some b)) (xI x) (xB true)).run prog w= .ok () w'/\cu w' b (S++[x])/\ai (λi=>i=b) w w':=by
 obtain⟨es,clk,h,rfl⟩:=h;refine⟨setBlock w b (.map ((es++[(x,clk)]).map rY).toArray (clk+1)),?_,⟨es++[(x,clk)],clk+1,⟨heap_setBlock_same h.1 _,?_,?_,?_⟩,by simp⟩,⟨rfl,rfl,rfl,by simp[setBlock],λi _ hi=>heap_setBlock_other h.1 _ hi⟩⟩
 .simp only[Instr.mapUpdate,Sem.run_bind,run_underlying underlying91,Result.andThen_ok,MapKept.run_getObj_map h.1,run_checkKey,run_findKey,hx,if_false,MapKept.run_setObj_map _ h.1];simp[rY];rfl
 .rw[List.map_append,List.nodup_append];refine⟨h.2.1,by simp,?_⟩;intro a ha c hc;simp at hc;subst hc;rintro rfl;exact hx ha
 .rw[List.map_append,List.nodup_append];refine⟨h.2.2.1,by simp,?_⟩;intro a ha c hc;simp at hc;subst hc;obtain⟨p,hp,rfl⟩:=List.mem_map.1 ha;have:=h.2.2.2 p hp;omega
 .intro p hp;rcases Qch.1 hp with hp|hp
  .have:=h.2.2.2 p hp;omega
  .simp at hp;subst hp;simp
theorem cu.drop(h:cu w b S)(x:Int)(hx:x∈S)(ty:TypeId):∃w',(Builtin.delete_ #[91,3] ty #[.map (some b),xI x]).run prog w= .ok (.tuple #[]) w'/\cu w' b (S.erase x)/\ai (λi=>i=b) w w':=by
 obtain⟨es,clk,h,rfl⟩:=h;have hsub:(es.eraseIdx ((es.map (·.1)).idxOf x)).Sublist es:=List.eraseIdx_sublist _ _;refine⟨setBlock w b (.map ((es.eraseIdx ((es.map (·.1)).idxOf x)).map rY).toArray clk),?_,⟨es.eraseIdx ((es.map (·.1)).idxOf x),clk,⟨heap_setBlock_same h.1 _,h.2.1.sublist (hsub.map _),h.2.2.1.sublist (hsub.map _),λp hp=>h.2.2.2 p (hsub.subset hp)⟩,?_⟩,⟨rfl,rfl,rfl,by simp[setBlock],λi _ hi=>heap_setBlock_other h.1 _ hi⟩⟩
 .simp only[Builtin.delete_];simp[run_underlying underlying91,MapKept.run_getObj_map h.1,run_checkKey,run_findKey,hx,MapKept.run_setObj_map _ h.1,nd];rfl
 .exact re x es hx
end
end Mk
namespace Mk
open Go.RowKit
structure dd(w:aj)(bm:Nat)(F:aS)(G B:List Int)(v:an)(bg bb:Nat)(xs SG SB:List Int):Prop where
 heap:bK w bm (.map (some bg)) (.map (some bb)) v xs
 gs:cu w bg SG
 bs:cu w bb SB
 ne:bg≠bb
 mg:∀x,x∈SG↔x∈G
 mb:∀x,x∈SB↔x∈B
 sg:j4 G
 sb:j4 B
 dis:∀x,x∈G->x∉B
 hp:fF xs xs.length
 hn:xs.Nodup
 hsub:∀x,x∈xs->x∈G\/x∈B
 hall:∀x,x∈G->x∈xs
 rng:∀x,x∈G\/x∈B->1<=x/\x<=100000
 foot:∀i,F i↔i=bm\/i=bg\/i=bb\/v.ownBlock=some i
def cJ(w:aj)(bm:Nat)(F:aS)(G B:List Int):Prop:=∃v bg bb xs SG SB,dd w bm F G B v bg bb xs SG SB
section
variable {w w':aj}{bm:Nat}{F:aS}{G B:List Int}{v:an}{bg bb:Nat}{xs SG SB:List Int}
theorem dd.short(h:dd w bm F G B v bg bb xs SG SB):xs.length<=1000000000:=by
 have:=fm 100000 xs h.hn λx hx=>h.rng x (h.hsub x hx);omega
theorem dd.BP(h:dd w bm F G B v bg bb xs SG SB):bg≠bm:=by
 rintro rfl;obtain⟨es,clk,hs,_⟩:=h.gs;have:=h.heap.blk;simp[hs.1]at this
theorem dd.PX(h:dd w bm F G B v bg bb xs SG SB):bb≠bm:=by
 rintro rfl;obtain⟨es,clk,hs,_⟩:=h.bs;have:=h.heap.blk;simp[hs.1]at this
def jz {size n:Nat}{ys:List an}(h:w.ownsRow base e size v n ys)(hs:cu w b S):v.ownBlock≠some b:=by
 intro he;obtain⟨es,clk,hs,_⟩:=hs;rcases h.2 with⟨rfl,_⟩|⟨g,cap,cur,rfl,_,hg,_⟩
 .simp[Value.ownBlock]at he
 .have:g=b:=by simpa [Value.ownBlock]using he
  subst this;rw[hs.1]at hg;simp at hg
theorem dd.lt(h:dd w bm F G B v bg bb xs SG SB):∀i,F i->i<w.heap.size:=by
 intro i hi;rcases(h.foot i).1 hi with rfl|rfl|rfl|hi
 .exact h.heap.lt
 .exact h.gs.lt
 .exact h.bs.lt
 .exact(h.heap.own.lt i hi).2
theorem cJ.lt(h:cJ w bm F G B):∀i,F i->i<w.heap.size:=by obtain⟨_,_,_,_,_,_,h⟩:=h;exact h.lt
theorem cJ.only {T:aS}(h:cJ w bm F G B)(ho:ai T w w')(hd:∀i,F i->¬T i):cJ w' bm F G B:=by
 obtain⟨v,bg,bb,xs,SG,SB,h⟩:=h;refine⟨v,bg,bb,xs,SG,SB,⟨h.heap.only ho (hd _ ((h.foot _).2 (.inl rfl))) (λg hg=>hd _ ((h.foot _).2 (.inr (.inr (.inr hg))))),h.gs.only ho (hd _ ((h.foot _).2 (.inr (.inl rfl)))),h.bs.only ho (hd _ ((h.foot _).2 (.inr (.inr (.inl rfl))))),h.ne,h.mg,h.mb,h.sg,h.sb,h.dis,h.hp,h.hn,h.hsub,h.hall,h.rng,h.foot⟩⟩
theorem cJ.drewN(h:cJ w bm F G B)(n:Nat):cJ (w.drewN n) bm F G B:=h.only (T:=λ_=>False) ((ai.refl _ w).drewN n) (λ_ _ h=>h)
theorem dd.MG {x:Int}(h:dd w bm F G B v bg bb xs SG SB)(kF:cu w1 bg (SG++[x]))(ho:ai (λi=>i=bg) w w1)(hg:x∉G)(hb:x∉B)(hx:1<=x/\x<=100000):
 bK w1 bm (.map (some bg)) (.map (some bb)) v xs/\
 ∀(w2:aj)(v':an)(ys:List Int),bK w2 bm (.map (some bg)) (.map (some bb)) v' ys->ys.Perm (x::xs)->fF ys ys.length->ai (λi=>i=bm\/v.ownBlock=some i) w1 w2->(∀g,v'.ownBlock=some g->v.ownBlock=some g\/w1.heap.size<=g)->
  ∃F2,cJ w2 bm F2 (fO G x) B/\(∀i,F2 i->F i\/w.heap.size<=i)/\ai F w w2:=by
 have e1:bK w1 bm (.map (some bg)) (.map (some bb)) v xs:=h.heap.only ho (λe=>h.BP e.symm) (λg hg e=>jz h.heap.own h.gs (by rw[hg,e]));refine⟨e1,λw2 v' ys ha eF jW iM ry=> ?_⟩;have qL:∀b S,cu w1 b S->b≠bm->¬(b=bm\/v.ownBlock=some b):=λb S hs iG h1=>by
  rcases h1 with h1|h1
  .exact iG h1
  .exact jz e1.own hs h1
 have qbg:cu w1 bb SB:=h.bs.only ho (λe=>h.ne e.symm);have iO:x∉xs:=λA6=>(h.hsub x A6).elim hg hb;refine⟨λi=>i=bm\/i=bg\/i=bb\/v'.ownBlock=some i,⟨v',bg,bb,ys,SG++[x],SB,⟨ha,kF.only iM (qL _ _ kF h.BP),qbg.only iM (qL _ _ qbg h.PX),h.ne,?_,h.mb,jy x G h.sg,h.sb,?_,jW,?_,?_,?_,?_,λi=>Iff.rfl⟩⟩,?_,?_⟩
 .intro y;rw[dH,Qch,h.mg y];simp;constructor
  .rintro(h1|h1)<;>simp[h1]
  .rintro(h1|h1)<;>simp[h1]
 .intro y hy;rcases(dH y x G).1 hy with rfl|hy
  .exact hb
  .exact h.dis y hy
 .exact eF.nodup_iff.2 (List.nodup_cons.2 ⟨iO,h.hn⟩)
 .intro y hy;rcases Qdf.1 (eF.mem_iff.1 hy)with rfl|hy
  .exact .inl ((dH y y G).2 (.inl rfl))
  .exact(h.hsub y hy).imp (λh1=>(dH y x G).2 (.inr h1)) id
 .intro y hy;refine eF.mem_iff.2 (Qdf.2 ?_);rcases(dH y x G).1 hy with rfl|hy
  .exact .inl rfl
  .exact .inr (h.hall y hy)
 .intro y hy;rcases hy with hy|hy
  .rcases(dH y x G).1 hy with rfl|hy
   .exact hx
   .exact h.rng y (.inl hy)
  .exact h.rng y (.inr hy)
 .rintro i(rfl|rfl|rfl|hi)
  .exact .inl ((h.foot _).2 (.inl rfl))
  .exact .inl ((h.foot _).2 (.inr (.inl rfl)))
  .exact .inl ((h.foot _).2 (.inr (.inr (.inl rfl))))
  .rcases ry i hi with h1|h1
   .exact .inl ((h.foot _).2 (.inr (.inr (.inr h1))))
   .have:=ho.size;exact .inr (by omega)
 .exact(ho.mono λi hi=>(h.foot _).2 (.inr (.inl hi))).trans (iM.mono λi hi=>(h.foot _).2 (hi.elim .inl λh1=> .inr (.inr (.inr h1))))
end
def CX(bm:Nat)(F:aS)(G B ids:List Int)(w:aj)(e:Ending)(w':aj):Prop:=
 e=xR (.tuple #[])/\∃F',cJ w' bm F' (gu G B ids) B/\ai F w w'/\∀i,F' i->F i\/w.heap.size<=i
def Fv(w:aj)(r:Nat):(binOp .eql 91 (.map (some r)) (.map none)).run prog w= .ok (.bool false) w:=run_eql_map_nil w _ _ _ (some r) underlying91
def I8(w:aj):(binOp .eql 91 (.map none) (.map none)).run prog w= .ok (.bool true) w:=run_eql_map_nil w _ _ _ none underlying91
def oK(w:aj)(bm:Nat):Prop:=cI w bm (xK #[xL none 0 0, .map none, .map none] 93)
def lA(w:aj)(bm:Nat):aj:=(((w.setCell ⟨bm,1,none⟩ (.map (some w.heap.size))).setCell ⟨bm,2,none⟩ (.map (some (w.heap.size+1)))).alloc (.map #[] 0)).alloc (.map #[] 0)
def Fw {w:aj}{bm:Nat}(h:oK w bm):cJ (lA w bm) bm (λi=>i=bm\/i=w.heap.size\/i=w.heap.size+1) [] []/\ai (λi=>i=bm) w (lA w bm):=by
 have aX:bm<w.heap.size:=(Qaa.1 h).1;obtain⟨u,hu⟩:=cM ((w.setCell ⟨bm,1,none⟩ (.map (some w.heap.size))).setCell ⟨bm,2,none⟩ (.map (some (w.heap.size+1))));have Dy:u.heap.size=w.heap.size:=by rw[hu];simp[World.setCell]
 have h1:cI u bm (xK #[xL none 0 0, .map (some w.heap.size), .map (some (w.heap.size+1))] 93):=by
  unfold oK at h;rw[hu];simp[World.setCell,Array.getElem?_modify,h]
 have e:lA w bm=(u.alloc (.map #[] 0)).alloc (.map #[] 0):=by rw[hu];rfl
 have s1:cu (lA w bm) w.heap.size []:=by
  rw[e,<-Dy];exact(cu.made u).same (Qcb _ _ _ (by simp))
 have s2:cu (lA w bm) (w.heap.size+1) []:=by
  have:=cu.made (u.alloc (.map #[] 0));rw[e,<-Dy];simpa using this
 refine⟨⟨xL none 0 0,w.heap.size,w.heap.size+1,[],[],[],⟨⟨?_,World.ownsRow_nil _ _ _ _⟩,s1,s2,by omega,by simp,by simp,List.Pairwise.nil,List.Pairwise.nil,by simp,λc _ hc=>by simp at hc,List.nodup_nil,by simp,by simp,by simp,λi=>by simp[Value.ownBlock]⟩⟩,?_⟩
 .rw[e];exact(Qcb _ _ bm (by simp;omega)).trans ((Qcb u _ bm (by omega)).trans h1)
 .exact((((ai.refl (λi=>i=bm) w).setCell (p:=⟨bm,1,none⟩) (.inl rfl) _).setCell (p:=⟨bm,2,none⟩) (.inl rfl) _).alloc _).alloc _
def Fx(bm:Nat)(F Fi:Nat->Prop)(G B ids:List Int)(iv:Value)(w:World)(h:cJ w bm F G B\/(oK w bm/\F=(λi=>i=bm)/\G=[]/\B=[]))(hi:ct Fi w iv ids)(hd:∀i,Fi i->¬F i)(hr:dO ids=true):
 xC 37 #[xP bm,iv] w (CX bm F G B ids w):=by
 obtain⟨a,cap,rfl,cK,hm,hc⟩:=hi.open_;have HC:=af hc;clear hc hi;have HD:=af hd;clear hd;have HR:Hd (∀x∈ids,1<=x/\x<=100000):=by
  have h1:∀x∈ids,1<=x/\x<=100000:=λx hx=>I2 hr hx;exact h1
 clear hr;generalize hn:ids.length=n at*;have HN:=af hn;clear hn;rcases h with h|⟨h,hF,hG,hB⟩;have jX:Hd (cJ w bm F (gu G B (ids.take 0)) B):=h;have Vl:Hd (ai F w w):=ai.refl F w;have qbh:Hd (∀i,F i->F i\/w.heap.size<=i):=by
  have h1:∀i,F i->F i\/w.heap.size<=i:=λi hi=> .inl hi;exact h1
 obtain⟨v,bg,bb,xs,SG,SB,cm⟩:=h;have iB:w.cell? ⟨bm,1,none⟩=some (.map (some bg)):=by simp[World.cell?,cm.heap.blk]
 have hq:=λw=>Fv w bg;clear cm;rotate_left;have bR:=Fw h;have jX:Hd (cJ (lA w bm) bm (λi=>i=bm\/i=w.heap.size\/i=w.heap.size+1) (gu G B (ids.take 0)) B):=by subst hG hB;exact bR.1
 have Vl:Hd (ai F w (lA w bm)):=by subst hF;exact bR.2
 have qbh:Hd (∀i,(i=bm\/i=w.heap.size\/i=w.heap.size+1)->F i\/w.heap.size<=i):=by
  have h1:∀i,(i=bm\/i=w.heap.size\/i=w.heap.size+1)->F i\/w.heap.size<=i:=λi hi=>by
   subst hF;rcases hi with h|h|h
   .exact .inl h
   .exact .inr (by omega)
   .exact .inr (by omega)
  exact h1
 have aX:bm<w.heap.size:=(Qaa.1 h).1;have iB:w.cell? ⟨bm,1,none⟩=some (.map none):=by unfold oK at h;simp[World.cell?,h]
 have jh:w.cell? ⟨bm,2,none⟩=some (.map none):=by unfold oK at h;simp[World.cell?,h]
 have wU:w.frozen? ⟨bm,1,none⟩=false:=by unfold oK at h;simp[World.frozen?,h]
 have YR:w.frozen? ⟨bm,2,none⟩=false:=by unfold oK at h;simp[World.frozen?,h]
 have hq:=I8;have hmm:= @run_makeMap prog;clear bR h hG hB hF;all_goals
  go_enter func37,ntmps37;go_wp2_with fail;go_loopw [5,21](λ_ iv wr=>∃(k:Nat)(F':Nat->Prop),k<=n/\iv=xI k/\Hd (cJ wr bm F' (gu G B (ids.take k)) B)/\Hd (ai F w wr)/\Hd (∀i,F' i->F i\/w.heap.size<=i)/\w.heap.size<=wr.heap.size)(λ_ iv _=>n-(intOf iv).toNat);case atStart=>exact⟨0,_,Qbf _,rfl,jX,Vl,qbh,by first|exact Qab _|(simp[World.setCell];omega)⟩
  case round=>
   obtain⟨k,F',hk,rfl,HS,HO,Ak,hsz⟩:=hrel;by_cases aX:k<n
   .obtain⟨b,off,rfl,hFb,cw,aG⟩:=HC.o (by omega);obtain⟨x,hx⟩:=dQ ids k (by rw[HN.o];exact aX);have hcx:wr.cell? ⟨b,off+k,none⟩=some (xI x):=by
     rw[HO.o.cell (p:=⟨b,off+k,none⟩) cw (HD.o b hFb)];exact aG k x hx
    have hxr:=HR.o x (Qaf hx);have HX:=af hx;clear aG hx cw hFb;obtain⟨v,bg,bb,xs,SG,SB,cm⟩:=HS.o;have iB:wr.cell? ⟨bm,1,none⟩=some (.map (some bg)):=by simp[World.cell?,cm.heap.blk]
    have jh:wr.cell? ⟨bm,2,none⟩=some (.map (some bb)):=by simp[World.cell?,cm.heap.blk]
    have hlg:=cm.gs.lookup x;have Yx:=cm.bs.lookup x;by_cases hg:x∈gu G B (ids.take k)
    .have UR:decide (x∈SG)=true:=by simpa using(cm.mg x).2 hg
     rw[UR]at hlg;have fu:Hd (cJ wr bm F' (gu G B (ids.take (k+1))) B):=by
      rw[uT HX.o,if_neg (cm.dis x hg),Fk cm.sg hg];exact HS.o
     clear cm Yx hg UR;go_wp2_with fail;go_roundw;case rel=>exact⟨k+1,F',by omega,by go_num,fu,HO,Ak,hsz⟩
     case measure=>simp[intOf];omega
    .have UR:decide (x∈SG)=false:=by simpa usingλh=>hg ((cm.mg x).1 h)
     rw[UR]at hlg;by_cases hb:x∈B
     .have iI:decide (x∈SB)=true:=by simpa using(cm.mb x).2 hb
      rw[iI]at Yx;have fu:Hd (cJ wr bm F' (gu G B (ids.take (k+1))) B):=by
       rw[uT HX.o,if_pos hb];exact HS.o
      clear cm hg UR hb iI;go_wp2_with fail;go_roundw;case rel=>exact⟨k+1,F',by omega,by go_num,fu,HO,Ak,hsz⟩
      case measure=>simp[intOf];omega
     .have iI:decide (x∈SB)=false:=by simpa usingλh=>hb ((cm.mb x).1 h)
      rw[iI]at Yx;obtain⟨w1,hup,kF,tU⟩:=cm.gs.store x (λh=>hg ((cm.mg x).1 h));have Al:=cm.MG kF tU hg hb hxr;have GB:=af Al;have Vm:=tx bm _ _ v xs w1 x Al.1 cm.hp cm.short;have Lk:=af Vm;have HSG:Hd (gu G B (ids.take (k+1))=fO (gu G B (ids.take k)) x):=by
       rw[uT HX.o,if_neg hb];exact(rfl:fO (gu G B (ids.take k)) x=_)
      have jU:=af tU;clear cm Al Vm kF tU hg UR hb iI;go_wp2_with fail;refine Lk.o.mono ?_;rintro e w2⟨rfl,v',ys,ha,⟨eF,jW⟩,iM,ry⟩;obtain⟨F2,GC,Vn,Ru⟩:=GB.o.2 w2 v' ys ha eF jW iM ry;have xN:Hd (cJ w2 bm F2 (gu G B (ids.take (k+1))) B):=by rw[HSG.o];exact GC
      have qbi:Hd (∀i,F2 i->F i\/w.heap.size<=i):=by
       have h:∀i,F2 i->F i\/w.heap.size<=i:=λi hi=>by
        rcases Vn i hi with h|h
        .exact Ak.o i h
        .right;omega
       exact h
      have ue:Hd (ai F w w2):=by
       have h:ai F w w2:=HO.o.dc Ru λi hi aX=>by
        rcases Ak.o i hi with h|h
        .exact h
        .omega
       exact h
      have QN:w.heap.size<=w2.heap.size:=ue.o.size;clear GC Vn Ru ha eF jW iM ry Lk GB;go_wp2_with fail;go_roundw;case rel=>exact⟨k+1,F2,by omega,by go_num,xN,ue,qbi,QN⟩
      case measure=>simp[intOf];omega
   .go_wp2_with fail;go_end0;refine⟨rfl,F',?_,HO.o,Ak.o⟩;have h:=HS.o;rw[Qah (by rw[HN.o];omega)]at h;exact h
def KN(bm:Nat)(F Fi:aS)(G B ids:List Int)(iv:an)(w:aj)(h:cJ w bm F G B)(hi:ct Fi w iv ids)(hd:∀i,Fi i->¬F i)(hr:dO ids=true):
 xC 37 #[xP bm,iv] w (CX bm F G B ids w):=Fx bm F Fi G B ids iv w (.inl h) hi hd hr
def MH(bm:Nat)(Fi:aS)(ids:List Int)(iv:an)(w:aj)(h:oK w bm)(hi:ct Fi w iv ids)(hd:∀i,Fi i->i≠bm)(hr:dO ids=true):
 xC 37 #[xP bm,iv] w (CX bm (λi=>i=bm) [] [] ids w):=Fx bm _ Fi [] [] ids iv w (.inr ⟨h,rfl,rfl,rfl⟩) hi hd hr
def Tm(ids:List Int)(w:aj)(e:Ending)(w':aj):Prop:=
 ∃bm F',e=xR (.tuple #[xP bm,xI 0])/\cJ w' bm F' (gu [] [] ids) []/\aq w w'/\∀i,F' i->w.heap.size<=i
theorem oK.made(w:aj):oK (w.alloc (xK #[xL none 0 0, .map none, .map none] 93)) w.heap.size:=Qbh w _
def KO(Fi:aS)(ids:List Int)(iv:an)(w:aj)(hi:ct Fi w iv ids)(hr:dO ids=true):
 xC 12 #[iv] w (Tm ids w):=by
 have H1:=af (mX Fi iv w ids hi);obtain⟨u,hu⟩:=cM (w.alloc (xK #[xL none 0 0, .map none, .map none] 93));have hf:oK u w.heap.size:=by rw[hu];exact oK.made w
 have TO:ct (λi=>Fi i/\i<w.heap.size) u iv ids:=by
  rw[hu];exact(hi.mono λi h h2=>⟨h,h2⟩).alloc _
 have H2:=af (MH w.heap.size (λi=>Fi i/\i<w.heap.size) ids iv u hf TO (λi h=>by omega) hr);have HU:=af hu;rw[hu]at H2;rw[hr]at H1;go_enter func12,ntmps12;go_wp2_with fail;refine dJ (H1.o) ?_;go_wp2_with fail;refine(H2.o).mono ?_;rintro e w1⟨rfl,F',hm,ho,hs⟩;have HM:=af hm;have HO:=af ho;have HS:=af hs;go_wp2;go_ret2;refine⟨w.heap.size,F',rfl,HM.o,?_,?_⟩
 .have hb:aq w (w.alloc (xK #[xL none 0 0, .map none, .map none] 93)):=bO;exact⟨HO.o.os.trans hb.os,HO.o.tape.trans hb.tape,HO.o.output.trans hb.output,Qcg hb.size HO.o.size,λk hk=>(HO.o.block k (by simp;omega) (by omega)).trans (hb.block k hk)⟩
 .intro i hi;rcases HS.o i hi with h|h
  .omega
  .simp at h;omega
def Tn(Fi:aS)(ids:List Int)(iv:an)(w:aj)(hi:ct Fi w iv ids)(hr:dO ids=false):
 xC 12 #[iv] w (gE (.tuple #[.pointer none,xI 2]) w):=by
 have H1:=af (mX Fi iv w ids hi);rw[hr]at H1;go_enter func12,ntmps12;go_wp2_with fail;refine dJ (H1.o) ?_;go_wp2;go_ret2;exact⟨rfl,rfl⟩
def MI(Fi:aS)(ids:List Int)(iv:an)(p:Addr)(w:aj)(hi:ct Fi w iv ids)(hr:dO ids=false):
 xC 17 #[.pointer (some p),iv] w (gE (xI 2) w):=by
 have H1:=af (mX Fi iv w ids hi);rw[hr]at H1;go_enter func17,ntmps17;go_wp2_with fail;refine dJ (H1.o) ?_;go_wp2;go_ret;exact⟨rfl,rfl⟩
def BQ(bm:Nat)(F:aS)(G B:List Int)(w:aj)(e:Ending)(w':aj):Prop:=
 e=xR (xI 0)/\∃F',cJ w' bm F' G B/\ai F w w'/\∀i,F' i->F i\/w.heap.size<=i
def MJ(bm:Nat)(F Fi:aS)(G B ids:List Int)(iv:an)(w:aj)(h:cJ w bm F G B)(hi:ct Fi w iv ids)(hd:∀i,Fi i->¬F i)(hr:dO ids=true):
 xC 17 #[xP bm,iv] w (BQ bm F (gu G B ids) B w):=by
 have H1:=af (mX Fi iv w ids hi);have H2:=af (KN bm F Fi G B ids iv w h hi hd hr);rw[hr]at H1;go_enter func17,ntmps17;go_wp2_with fail;refine dJ (H1.o) ?_;go_wp2_with fail;refine cG (H2.o) λw1 hx=> ?_;have HX:=af hx;go_wp2;go_ret;exact⟨rfl,HX.o⟩
def Fy(bm:Nat)(F:Nat->Prop)(G B:List Int)(w:World)(h:cJ w bm F G B):
 xC 15 #[xP bm] w (gE (xB G.isEmpty) w):=by
 obtain⟨v,bg,bb,xs,SG,SB,cm⟩:=h;have iB:w.cell? ⟨bm,1,none⟩=some (.map (some bg)):=by simp[World.cell?,cm.heap.blk]
 have hl:=λty=>cm.gs.len ty;cases hG:G with
 |nil=>
  have hS:SG=[]:=List.eq_nil_iff_forall_not_mem.2 λx hx=>by have:=(cm.mg x).1 hx;rw[hG]at this;simp at this
  rw[hS]at hl;go_enter func15,ntmps15;go_wp2;go_ret;exact⟨rfl,rfl⟩
 |cons g r=>
  have hS:SG.length≠0:=λe=>by
   have h1:SG=[]:=Qdd e;have:=(cm.mg g).2 (by rw[hG];simp);rw[h1]at this;simp at this
  have hb:(((SG.length:Nat):Int)==0)=false:=by simpa using hS
  generalize SG.length=q at*;go_enter func15,ntmps15;go_wp2;go_ret;exact⟨rfl,rfl⟩
def rM(bm:Nat)(F:Nat->Prop)(G B:List Int)(id:Int)(iv:Value)(w:World)(h:cJ w bm F G B)(hg:id∉G):
 xC 14 #[xP bm,xI id,iv] w (gE (xI 190) w):=by
 obtain⟨v,bg,bb,xs,SG,SB,cm⟩:=h;have iB:w.cell? ⟨bm,1,none⟩=some (.map (some bg)):=by simp[World.cell?,cm.heap.blk]
 have hl:=cm.gs.lookup id;have hd:decide (id∈SG)=false:=by simpa usingλh=>hg ((cm.mg id).1 h)
 rw[hd]at hl;go_enter func14,ntmps14;go_wp2;go_ret;exact⟨rfl,rfl⟩
def vX(G B:List Int)(id:Int)(ids:List Int):List Int:=gu (G.filter (·≠id)) (fO B id) ids
theorem dd.I9 {B:List Int}{bb:Nat}{SG SB:List Int}(h:dd w bm F G B v bg bb xs SG SB)(hg:id∈G)
 (dB:cu w1 bg (SG.erase id))(fJ:ai (λi=>i=bg) w w1)(jC:cu w2 bb (SB++[id]))(iM:ai (λi=>i=bb) w1 w2):cJ w2 bm F (G.filter (·≠id)) (fO B id)/\ai F w w2:=by
 have hb:id∉B:=h.dis id hg;have e1:bK w1 bm (.map (some bg)) (.map (some bb)) v xs:=h.heap.only fJ (λe=>h.BP e.symm) (λg hg e=>jz h.heap.own h.gs (by rw[hg,e]));have b1:cu w1 bb SB:=h.bs.only fJ (λe=>h.ne e.symm);have e2:bK w2 bm (.map (some bg)) (.map (some bb)) v xs:=e1.only iM (λe=>h.PX e.symm) (λg hg e=>jz e1.own b1 (by rw[hg,e]));refine⟨⟨v,bg,bb,xs,SG.erase id,SB++[id],⟨e2,dB.only iM h.ne,jC,h.ne,?_,?_,h.sg.erase id,jy id B h.sb,?_,h.hp,h.hn,?_,?_,?_,h.foot⟩⟩,?_⟩
 .intro x;rw[List.Nodup.mem_erase_iff h.gs.nodup,h.mg x];simp;exact And.comm
 .intro x;rw[dH,Qch,h.mb x];simp;exact Or.comm
 .intro x hx A6;simp at hx;rcases(dH x id B).1 A6 with h1|h1
  .exact hx.2 h1
  .exact h.dis x hx.1 h1
 .intro x hx;by_cases e:x=id
  .exact .inr ((dH x id B).2 (.inl e))
  .exact(h.hsub x hx).imp (λh1=>by simp[h1,e]) (λh1=>(dH x id B).2 (.inr h1))
 .intro x hx;simp at hx;exact h.hall x hx.1
 .intro x hx;rcases hx with hx|hx
  .simp at hx;exact h.rng x (.inl hx.1)
  .rcases(dH x id B).1 hx with rfl|hx
   .exact h.rng x (.inl hg)
   .exact h.rng x (.inr hx)
 .exact(fJ.mono λi hi=>(h.foot _).2 (.inr (.inl hi))).trans (iM.mono λi hi=>(h.foot _).2 (.inr (.inr (.inl hi))))
def zw(bm:Nat)(F Fi:Nat->Prop)(G B:List Int)(id:Int)(ids:List Int)(iv:Value)(w:World)(h:cJ w bm F G B)(hg:id∈G)(hi:ct Fi w iv ids)(qbj:∀i,Fi i->¬F i)(hr:dO ids=true):
 xC 14 #[xP bm,xI id,iv] w (BQ bm F (vX G B id ids) (fO B id) w):=by
 obtain⟨v,bg,bb,xs,SG,SB,cm⟩:=h;have iB:w.cell? ⟨bm,1,none⟩=some (.map (some bg)):=by simp[World.cell?,cm.heap.blk]
 have hl:=cm.gs.lookup id;have jn:=(cm.mg id).2 hg;have hd:decide (id∈SG)=true:=by simpa using jn
 rw[hd]at hl;obtain⟨w1,qhp,dB,fJ⟩:=cm.gs.drop id jn 0;have b1:cu w1 bb SB:=cm.bs.only fJ (λe=>cm.ne e.symm);obtain⟨w2,hup,jC,iM⟩:=b1.store id (λh=>cm.dis id hg ((cm.mb id).1 h));have jh:w1.cell? ⟨bm,2,none⟩=some (.map (some bb)):=by
  rw[fJ.cell (p:=⟨bm,2,none⟩) cm.heap.lt (λe=>cm.BP e.symm)];simp[World.cell?,cm.heap.blk]
 obtain⟨qen,kE⟩:=cm.I9 hg dB fJ jC iM;have H1:=af (mX Fi iv w ids hi);rw[hr]at H1;have H2:=af (KN bm F Fi _ _ ids iv w2 qen (hi.only kE qbj) qbj hr);have mi:=af kE;go_enter func14,ntmps14;go_wp2_with fail;refine(H1.o).mono ?_;rintro e w'⟨rfl,rfl⟩;go_wp2_with fail;refine(H2.o).mono ?_;rintro e w3⟨rfl,F',rZ,xH,RV⟩;have fI:=af rZ;have jT:=af xH;have Rl:=af RV;go_wp2;go_ret;exact⟨rfl,F',fI.o,mi.o.trans jT.o,λi hi=>(Rl.o i hi).imp (λh=>h) λh=>by have:=mi.o.size;omega⟩
def nV(w:World)(bm:Nat):Nat:=match w.cell? ⟨bm,0,none⟩with|some (.slice _ n _)=>n|_=>0
theorem bK.len(h:bK w bm m1 m2 v xs):nV w bm=xs.length:=by
 obtain⟨a,c,rfl⟩:=h.slice;simp[nV,h.cell]
def zx(G:List Int):Int:=G.headD 0
def zy(G:List Int):Bool:= !G.isEmpty
def Ja {x:Int}(h:j4 G)(hx:x∈G)(hl:∀y∈G,x<=y):zx G=x/\zy G=true:=by
 cases G with
 |nil=>simp at hx
 |cons g r=>
  unfold j4 at h;rw[List.pairwise_cons]at h;have h1:=hl g (by simp);rcases Qdf.1 hx with rfl|h2
  .simp[zx,zy]
  .have:=h.1 x h2;omega
def Fz(bm:Nat)(F:aS)(G B:List Int)(w:aj)(e:Ending)(w':aj):Prop:=
 e=xR (.tuple #[xI (zx G),xB (zy G)])/\∃F',cJ w' bm F' G B/\ai F w w'/\∀i,F' i->F i\/w.heap.size<=i
theorem dd.swap {B:List Int}{v':an}{bb:Nat}{SG SB:List Int}(h:dd w bm F G B v bg bb xs SG SB)
 (ha:bK w2 bm (.map (some bg)) (.map (some bb)) v' ys)(ho:ai (λi=>i=bm\/v.ownBlock=some i) w w2)(hv:∀g,v'.ownBlock=some g->v.ownBlock=some g\/w.heap.size<=g)
 (jW:fF ys ys.length)(hn:ys.Nodup)(hsub:∀x,x∈ys->x∈xs)(hall:∀x,x∈G->x∈ys):
 dd w2 bm (λi=>i=bm\/i=bg\/i=bb\/v'.ownBlock=some i) G B v' bg bb ys SG SB/\(∀i,(i=bm\/i=bg\/i=bb\/v'.ownBlock=some i)->F i\/w.heap.size<=i)/\ai F w w2:=by
 have qL:∀b S,cu w b S->b≠bm->¬(b=bm\/v.ownBlock=some b):=λb S hs iG h1=>by
  rcases h1 with h1|h1
  .exact iG h1
  .exact jz h.heap.own hs h1
 refine⟨⟨ha,h.gs.only ho (qL _ _ h.gs h.BP),h.bs.only ho (qL _ _ h.bs h.PX),h.ne,h.mg,h.mb,h.sg,h.sb,h.dis,jW,hn,λx hx=>h.hsub x (hsub x hx),hall,h.rng,λi=>Iff.rfl⟩,?_,?_⟩
 .rintro i(rfl|rfl|rfl|hi)
  .exact .inl ((h.foot _).2 (.inl rfl))
  .exact .inl ((h.foot _).2 (.inr (.inl rfl)))
  .exact .inl ((h.foot _).2 (.inr (.inr (.inl rfl))))
  .rcases hv i hi with h1|h1
   .exact .inl ((h.foot _).2 (.inr (.inr (.inr h1))))
   .exact .inr h1
 .exact ho.mono λi hi=>(h.foot _).2 (hi.elim .inl λh1=> .inr (.inr (.inr h1)))
def zz(bm:Nat)(F:Nat->Prop)(G B:List Int)(w:World)(h:cJ w bm F G B):
 xC 13 #[xP bm] w (Fz bm F G B w):=by
 have jX:Hd (cJ w bm F G B):=h;clear h;have hta:=zu;go_enter func13,ntmps13;go_wp2_with fail;go_loopw [4,5](λ_ _ wr=>∃(F':Nat->Prop),Hd (cJ wr bm F' G B)/\Hd (ai F w wr)/\Hd (∀i,F' i->F i\/w.heap.size<=i))(λ_ _ wr=>nV wr bm);case atStart=>exact⟨F,jX,by exact(ai.refl F w),by {have h1:∀i,F i->F i\/w.heap.size<=i:=λi hi=> .inl hi;exact h1}⟩
 case round=>
  obtain⟨F',HS,HO,Ak⟩:=hrel;obtain⟨v,bg,bb,xs,SG,SB,cm⟩:=HS.o;obtain⟨a,cap,rfl⟩:=cm.heap.slice;have tX:=cm.heap.cell;have XI:=cm.short;by_cases h0:xs.length=0
  .have hG:G=[]:=List.eq_nil_iff_forall_not_mem.2 λx hx=>by
    have:=cm.hall x hx;rw[Qdd h0]at this;simp at this
   have HG:=af hG;rw[h0]at tX;clear cm hG XI;have h00:¬(0:Int)<0:=by omega
   go_wp2;go_ret2;refine⟨?_,F',HS.o,HO.o,Ak.o⟩;rw[HG.o];rfl
  .have Rv:=Fu bm _ _ _ xs wr cm.heap cm.hp (by omega) cm.short;have A8:=af Rv;have fu:=af cm;generalize hn:xs.length=n at*;have HN:=af hn;clear cm Rv hn;go_wp2_with fail;refine A8.o.mono ?_;rintro e w1⟨v1,x,ys,rfl,Sn,eF,J3,jW,hlen,fJ,Si⟩;have cm:=fu.o;have XJ:=dd.swap (F:=F') cm Sn fJ (λg hg=> .inl (by rw[<-Si];exact hg)) jW;have R8:(x::ys).Nodup:=eF.nodup_iff.1 cm.hn;rw[List.nodup_cons]at R8;have iB:w1.cell? ⟨bm,1,none⟩=some (.map (some bg)):=by simp[World.cell?,Sn.blk]
   have qL:¬(bg=bm\/(Value.slice a n cap).ownBlock=some bg):=λh1=>by
    rcases h1 with h1|h1
    .exact cm.BP h1
    .exact jz cm.heap.own cm.gs h1
   have oW:=(cm.gs.only fJ qL).lookup x;by_cases hg:x∈G
   .have hd:decide (x∈SG)=true:=by simpa using(cm.mg x).2 hg
    rw[hd]at oW;have Lk:=af (tx bm _ _ v1 ys w1 x Sn jW (by rw[HN.o]at hlen;omega));obtain⟨vj,Cd⟩:=Ja cm.sg hg λy hy=>J3 y (cm.hall y hy);have rU:=af vj;have qz:=af Cd;have GD:=af eF;have oP:=af fJ;have Rs:=af Si;have HGG:=af hg;clear cm XJ R8 qL Sn jW hd vj Cd eF fJ Si J3 hg hlen;go_wp2_with fail;refine Lk.o.mono ?_;rintro e w2⟨rfl,v2,zs,ha2,⟨Rw,Rx⟩,iM,vw⟩;have cm:=fu.o;have hp:zs.Perm xs:=Rw.trans GD.o.symm;have ho:ai (λi=>i=bm\/(Value.slice a n cap).ownBlock=some i) wr w2:=oP.o.trans (iM.mono λi hi=>hi.imp (λh=>h) λh=>by rw[<-Rs.o];exact h);have tO:=dd.swap (F:=F') cm ha2 ho (λg hg=>(vw g hg).imp (λh=>by rw[<-Rs.o];exact h) (λh=>by have:=oP.o.size;omega)) Rx (hp.nodup_iff.2 cm.hn) (λy hy=>hp.mem_iff.1 hy) (λy hy=>hp.mem_iff.2 (cm.hall y hy));have p8:=af tO;clear cm hp ho tO ha2 Rw Rx iM vw;go_wp2;go_ret2;refine⟨by rw[rU.o,qz.o];rfl,_,⟨_,_,_,_,_,_,p8.o.1⟩,HO.o.dc p8.o.2.2 λi hi aX=> ?_,λi hi=> ?_⟩
    .rcases Ak.o i hi with h|h
     .exact h
     .omega
    .rcases p8.o.2.1 i hi with h|h
     .exact Ak.o i h
     .have:=HO.o.size;exact .inr (by omega)
   .have hd:decide (x∈SG)=false:=by simpa usingλh=>hg ((cm.mg x).1 h)
    rw[hd]at oW;have tO:=XJ R8.2 (λy hy=>eF.mem_iff.2 (Qdf.2 (.inr hy))) (λy hy=>by
     rcases Qdf.1 (eF.mem_iff.1 (cm.hall y hy))with h|h
     .subst h;exact absurd hy hg
     .exact h);have p8:=af tO;have hL1:=Sn.len;have hL2:=cm.heap.len;have HL:Hd (nV w1 bm<nV wr bm):=by
     have h:nV w1 bm<nV wr bm:=by rw[HN.o]at hlen hL2;rw[hL1,hL2];omega
     exact h
    clear cm XJ R8 qL Sn jW hd eF fJ Si J3 hg hlen hL1 hL2 tO;go_wp2_with fail;go_roundw;case rel=>
     refine⟨_,⟨_,_,_,_,_,_,p8.o.1⟩,?_,?_⟩
     .have h:ai F w w1:=HO.o.dc p8.o.2.2 λi hi aX=>by
       rcases Ak.o i hi with h|h
       .exact h
       .omega
      exact h
     .have h:∀i,(i=bm\/i=bg\/i=bb\/v1.ownBlock=some i)->F i\/w.heap.size<=i:=λi hi=>by
       rcases p8.o.2.1 i hi with h|h
       .exact Ak.o i h
       .have:=HO.o.size;exact .inr (by omega)
      exact h
    case measure=>exact HL.o
end Mk
end Go.Proofs.YtccpcfcochffcaaGreatDoor
