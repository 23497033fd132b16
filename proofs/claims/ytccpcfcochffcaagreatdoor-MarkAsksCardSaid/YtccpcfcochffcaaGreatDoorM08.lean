/- A part of MarkAsks's proof; no condition. -/
import Derived.Test.YtccpcfcochffcaaGreatDoorM07
set_option linter.all false
set_option maxHeartbeats 8000000
set_option maxRecDepth 100000
namespace Go.Proofs.YtccpcfcochffcaaGreatDoor
open Tryz
open Go.RowKit
variable{W w W':aj}{g B:Nat}{M:aS}{v fv c0 c1 c2 c3 a0 a1 a2 a3:an}{o2 o4 o:Obj}{nm s:aT}{t:TypeId}
def qF(k:Nat):aT:=([⟨#[110,101,119,95,49]⟩,⟨#[109,111,114,101]⟩,⟨#[122,57]⟩,⟨#[97]⟩,⟨#[110,97,109,101]⟩,⟨#[107,105,100,115]⟩]:List aT).getD k jN
def SP:∀k,k<6->(qF k).data.toList∈names9:=by
 intro k hk;rcases k with _|_|_|_|_|_|k;all_goals first|decide|omega
def Oz {k:Nat}(hk:k<6):(#[xS ⟨#[110,101,119,95,49]⟩,xS ⟨#[109,111,114,101]⟩,xS ⟨#[122,57]⟩,xS ⟨#[97]⟩,xS ⟨#[110,97,109,101]⟩,xS ⟨#[107,105,100,115]⟩]:Array an)[k]? =some (xS (qF k)):=by
 rcases k with _|_|_|_|_|_|k;all_goals first|rfl|omega
def yC:Obj:=xK #[xS ⟨#[110,101,119,95,49]⟩,xS ⟨#[109,111,114,101]⟩,xS ⟨#[122,57]⟩,xS ⟨#[97]⟩,xS ⟨#[110,97,109,101]⟩,xS ⟨#[107,105,100,115]⟩] 9
def yD(r:fz):Obj:=xK #[xI r.kind,xI r.field,xI r.name,xI r.more,xI r.type.kind,xI r.type.of,xI r.expr,xI r.other] 163
def Bk(t:aR):Obj:=xK #[xI 0,xI t.kind,xI t.of,xB false] 166
def SQ(t:aR):Obj:=xK #[xI t.kind,xI t.of] 136
def Kp:I6 0:=⟨by omega,by omega⟩
def Hu {t:aR}(hM:Bd M w)(hk:I6 t.kind)(ho:I6 t.of)(hg:cI W g (Bk t))(hz:w.heap.size<=g):ab M W (xL (some ⟨g,0,none⟩) 1 1) [(⟨0,t.kind,t.of,false⟩:js)]:=by
 refine⟨[[xI 0,xI t.kind,xI t.of,xB false]],?_,rfl,?_⟩
 .refine⟨by simp[aA.size],some ⟨g,0,none⟩,1,rfl,bq,by unfold maxLen;omega,λ_=>⟨g,0,rfl,λh=>by have:=hM g h;omega,(Qaa.1 hg).1,?_⟩⟩;intro i u hu;simp only[List.flatten_cons,List.flatten_nil,List.append_nil]at hu;rcases i with _|_|_|_|i;all_goals first|(simp at hu;done)|(simp at hu;subst hu;simp[World.cell?,hg,Bk])
 .intro i cs x hc hx;cases i with
  |zero=>simp at hc hx;subst hc hx;exact⟨rfl,⟨by show-9223372036854775808<=(0:Int);omega,by show(0:Int)<=9223372036854775807;omega⟩,hk,ho⟩
  |succ i=>simp at hc
def vG {l:List ay}(h:ab M w v l){k:Nat}{x:ay}(hx:l[k]? =some x):∃b off cap,v=xL (some ⟨b,off,none⟩) l.length cap/\b<w.heap.size/\∀W,aq w W->aU W b (off+k*4) (xS x.name)/\aU W b (off+k*4+1) (xI x.type.kind)/\aU W b (off+k*4+2) (xI x.type.of)/\aU W b (off+k*4+3) (xB x.indexed):=by
 obtain⟨a,cap,rfl,hl,_,hc⟩:=h.open_;have hk:=(Qad.1 hx).1;obtain⟨b,off,rfl,_,hb,aG⟩:=hc (by omega);obtain⟨cs,⟨rfl,_⟩,bD⟩:=aG k x hx;refine⟨b,off,cap,rfl,hb,λW hB=> ?_⟩;have g:∀j u,([xS x.name,xI x.type.kind,xI x.type.of,xB x.indexed]:List an)[j]? =some u->aU W b (off+k*4+j) u:=λj u hu=>(hB.cell (p:=⟨b,off+k*4+j,none⟩) hb).trans (bD j u hu);exact⟨g 0 _ rfl,g 1 _ rfl,g 2 _ rfl,g 3 _ rfl⟩
def OA {c:az}(h:iQ c){k:Nat}{f:ay}(hf:c.fields[k]? =some f):aF f.type=true:=by
 have:=h.1;have hm:=Qaf hf;simp only[aM,bC,Qce,List.all_eq_true]at this;grind
abbrev CgS(w:aj)(rk rn rm rx ro GU GV:Int)(nm:aT)(fv:an)(T:Nat)(w':aj):Prop:=w'.cell? ⟨w.heap.size,0,none⟩=some (xI rk)/\w'.cell? ⟨w.heap.size,2,none⟩=some (xI rn)/\w'.cell? ⟨w.heap.size,3,none⟩=some (xI rm)/\w'.cell? ⟨w.heap.size,6,none⟩=some (xI rx)/\w'.cell? ⟨w.heap.size,7,none⟩=some (xI ro)/\w'.cell? ⟨w.heap.size+1+1+1,aH rn 6,none⟩=some (xS (qF (aH rn 6)))/\w'.cell? ⟨w.heap.size+1+1+1,aH rm 6,none⟩=some (xS (qF (aH rm 6)))/\w'.cell? ⟨T,0,none⟩=some (xI GU)/\w'.cell? ⟨T,1,none⟩=some (xI GV)/\w'.cell? ⟨w.heap.size+1,0,none⟩=some (xS nm)/\w'.cell? ⟨w.heap.size+1,1,none⟩=some fv
def cgS {W2:aj}{rk rf rn rm rx ro tk tf GU GV:Int}{T:Nat}(h:Bx w [yD ⟨rk,rf,rn,rm,⟨tk,tf⟩,rx,ro⟩,cS nm fv,o2,yC,o4] W2)(hT:cI W2 T (SQ ⟨GU,GV⟩))(hb:aq W2 W'):CgS w rk rn rm rx ro GU GV nm fv T W':=by
 have h':=h.below hb;have hT':=(hb.block T (Qaa.1 hT).1).trans hT;obtain⟨a0,a1,a2,a3,a4,a5,a6,a7⟩:=ak (h'.bJ rfl);obtain⟨b0,b1⟩:=ah (h'.cE rfl);obtain⟨t0,t1⟩:=ah hT';exact⟨a0,a2,a3,a6,a7,cell_of_heap (h'.Ay rfl) (Oz (cq _ _ (by omega))),cell_of_heap (h'.Ay rfl) (Oz (cq _ _ (by omega))),t0,t1,b0,b1⟩
def pD(W2:aj)(c:az)(x:aB)(K:Nat)(wx:aj):Prop:=
 wx.heap[K]? =some (tV x)/\hZ c x.type x.expr/\hZ c x.type x.other/\aq W2 wx/\W2.heap.size<=K
def SR {W2 w':aj}{K:Nat}(h:cI W K o/\W2.heap.size<=K)(hb:aq W w'):w'.heap[K]? =some o/\W2.heap.size<=K:=⟨(hb.block K (Qaa.1 h.1).1).trans h.1,h.2⟩
def Kq {W2 w':aj}(hj:aq W2 W)(hb:Below (W.alloc o).heap.size (W.alloc o) w'):w'.heap[W.heap.size]? =some o/\W2.heap.size<=W.heap.size:=SR (W2:=W2) ⟨Qbh W o,hj.size⟩ hb
def Kr {W2 w':aj}(hj:aq W2 W)(hb:Below (W.alloc o).drew.heap.size (W.alloc o).drew w'):w'.heap[W.heap.size]? =some o/\W2.heap.size<=W.heap.size:=SR (W2:=W2) (W:=(W.alloc o).drew) ⟨Qbh W o,hj.size⟩ hb
def VN {W2 w':aj}(hj:aq W2 W)(hb:aq W w'):aq W2 w':=hj.trans (hb.mono hj.size)
def trB {W2 w':aj}(hj:aq W2 W)(hb:Below W.drew.heap.size W.drew w'):aq W2 w':=hj.drew.trans (hb.mono hj.size)
def trC {W2 w':aj}(hj:aq W2 W)(hb:Below (W.alloc o).heap.size (W.alloc o) w'):aq W2 w':=VN (hj.alloc hj.size o) hb
def trD {W2 w':aj}(hj:aq W2 W)(hb:Below (W.alloc o).drew.heap.size (W.alloc o).drew w'):aq W2 w':=VN (hj.alloc hj.size o).drew hb
def jt {K:Nat}{c4 c5 c6 c7:an}(h:cI W K (xK #[c0,c1,c2,c3,c4,c5,c6,c7] t))(a0 a1 a2 a3 a4 a5 a6 a7:an):
 ((((((((W.setCell ⟨K,0,none⟩ a0).setCell ⟨K,1,none⟩ a1).setCell ⟨K,2,none⟩ a2).setCell ⟨K,3,none⟩ a3).setCell ⟨K,4,none⟩ a4).setCell ⟨K,5,none⟩ a5).setCell ⟨K,6,none⟩ a6).setCell ⟨K,7,none⟩ a7).heap[K]? =some (xK #[a0,a1,a2,a3,a4,a5,a6,a7] t):=by
 have h1:=Qca _ K 0 _ _ a0 h;have h2:=Qca _ K 1 _ _ a1 h1;have h3:=Qca _ K 2 _ _ a2 h2;have h4:=Qca _ K 3 _ _ a3 h3;have h5:=Qca _ K 4 _ _ a4 h4;have h6:=Qca _ K 5 _ _ a5 h5;have h7:=Qca _ K 6 _ _ a6 h6;have h8:=Qca _ K 7 _ _ a7 h7;simpa using h8
def eT {K:Nat}(h:Below B w W)(hK:B<=K){a4 a5 a6 a7:an}:
 Below B w ((((((((W.setCell ⟨K,0,none⟩ a0).setCell ⟨K,1,none⟩ a1).setCell ⟨K,2,none⟩ a2).setCell ⟨K,3,none⟩ a3).setCell ⟨K,4,none⟩ a4).setCell ⟨K,5,none⟩ a5).setCell ⟨K,6,none⟩ a6).setCell ⟨K,7,none⟩ a7):=
 (((((((h.setCell hK _).setCell hK _).setCell hK _).setCell hK _).setCell hK _).setCell hK _).setCell hK _).setCell hK _
section
variable {W2 w':aj}{c:az}{k:Int}{f n m:aT}{tk tf:Int}{s1 s2:aT}
def OB(h1:Hd (hZ c ⟨tk,tf⟩ s1))(h2:Hd (hZ c ⟨tk,tf⟩ s2))(hj:aq W2 w'):pD W2 c ⟨k,f,n,m,⟨tk,tf⟩,s1,s2⟩ w'.heap.size (w'.alloc (xK #[xI k,xS f,xS n,xS m,xI tk,xI tf,xS s1,xS s2] 159)):=
 ⟨Qbh w' _,h1.o,h2.o,hj.alloc hj.size _,hj.size⟩
def VO {K:Nat}{x0 x1 x2 x3 x4 x5 x6 x7:an}(h1:Hd (hZ c ⟨tk,tf⟩ s1))(h2:Hd (hZ c ⟨tk,tf⟩ s2))(hj:aq W2 w')(hk:w'.heap[K]? =some (xK #[x0,x1,x2,x3,x4,x5,x6,x7] 159)/\W2.heap.size<=K):
 pD W2 c ⟨k,f,n,m,⟨tk,tf⟩,s1,s2⟩ K ((((((((w'.setCell ⟨K,0,none⟩ (xI k)).setCell ⟨K,1,none⟩ (xS f)).setCell ⟨K,2,none⟩ (xS n)).setCell ⟨K,3,none⟩ (xS m)).setCell ⟨K,4,none⟩ (xI tk)).setCell ⟨K,5,none⟩ (xI tf)).setCell ⟨K,6,none⟩ (xS s1)).setCell ⟨K,7,none⟩ (xS s2)):=
 ⟨jt hk.1 _ _ _ _ _ _ _ _,h1.o,h2.o,eT hj hk.2,hk.2⟩
end
def OC(c:az)(v:an)(_:aj):Prop:=∃(x:aB)(ok:Bool),iT c x/\jf c x=ok/\v= .tuple #[.agg #[xI x.kind,xS x.field,xS x.name,xS x.more,xI x.type.kind,xI x.type.of,xS x.expr,xS x.other],xB ok]
def Hv(W2:aj)(c:az)(x:aB)(K:Nat)(wx:aj):Prop:=wx.heap[K]? =some (tV x)/\iT c x/\aq W2 wx
def Cv:∀s∈names9,aE (bL s)=true:=by decide
def qh {k:Nat}(h:k<6):aE (qF k)=true/\(qF k).data.toList∈names9/\(qF k).size<=maxLen:=by
 have h1:=SP k h;have h2:=Cv _ h1;rw[Kl]at h2;exact⟨h2,h1,cz (yx h1)⟩
def er(c:az)(t:aR):pB c t ⟨#[]⟩:= .inl rfl
def xg {c:az}(hc:cA c){t:aR}(h:hZ c t s):pB c t s:=by
 by_cases hs:s.data.toList=[]
 .exact .inl hs
 .exact .inr (Ee hc.right hc.names h hs)
def Eg {W2 wx:aj}{c:az}{k:Int}{f n m:aT}{t:aR}{s1 s2:aT}{K:Nat}(h:pD W2 c ⟨k,f,n,m,t,s1,s2⟩ K wx)(g:aT):pD W2 c ⟨k,g,n,m,t,s1,s2⟩ K (wx.drew.setCell ⟨K,1,none⟩ (xS g)):=by
 obtain⟨h1,h2,h3,h4,h5⟩:=h;refine⟨?_,h2,h3,h4.drew.setCell h5 _,h5⟩;have:=Qca wx.drew K 1 _ _ (xS g) h1;simpa [tV]using this
def LJ {W2 wx:aj}{c:az}{k:Int}{f n m:aT}{t:aR}{s1 s2:aT}{K:Nat}(h:pD W2 c ⟨k,f,n,m,t,s1,s2⟩ K wx)(g:aT):pD W2 c ⟨k,g,n,m,t,s1,s2⟩ K (wx.setCell ⟨K,1,none⟩ (xS g)).drew:=Eg h g
def sJ:(⟨#[]⟩:aT).size<=maxLen:=by unfold maxLen;decide
abbrev Zx(w:aj)(K:Nat)(a b c d e f g h:an):aj:=(((((((w.setCell ⟨K,0,none⟩ a).setCell ⟨K,1,none⟩ b).setCell ⟨K,2,none⟩ c).setCell ⟨K,3,none⟩ d).setCell ⟨K,4,none⟩ e).setCell ⟨K,5,none⟩ f).setCell ⟨K,6,none⟩ g).setCell ⟨K,7,none⟩ h
section
variable {W2 wx:aj}{c:az}{p:Int}{fn:aT}{i j:Nat}{tk tf:Int}{s1 s2:aT}{K:Nat}
def cg1(h:pD W2 c ⟨p,fn,qF i,qF j,⟨tk,tf⟩,s1,s2⟩ K wx)(hc:cA c)(hf:fn.size<=20)(ht:aF ⟨tk,tf⟩=true)(hi:i<6)(hj:j<6):Hv W2 c ⟨1,⟨#[]⟩,qF i,⟨#[]⟩,⟨tk,tf⟩,s1,⟨#[]⟩⟩ K (Zx wx K (xI 1) (xS ⟨#[]⟩) (xS (qF i)) (xS ⟨#[]⟩) (xI tk) (xI tf) (xS s1) (xS ⟨#[]⟩)):=by
 obtain⟨h1,h2,h3,h4,h5⟩:=h;have t1:=xg hc h2;obtain⟨n1,n2,n3⟩:=qh hi;exact⟨jt h1 _ _ _ _ _ _ _ _,⟨⟨.inl ⟨rfl,rfl,rfl,rfl⟩,λ_=>n1,λh=>by simp at h,λ_=>ht,t1.oy,(er _ _).oy,sJ,n3,sJ⟩,t1,er _ _,λ_=>n2,λh=>by simp at h⟩,eT h4 h5⟩
def cg2(h:pD W2 c ⟨p,fn,qF i,qF j,⟨tk,tf⟩,s1,s2⟩ K wx)(hc:cA c)(hf:fn.size<=20)(ht:aF ⟨tk,tf⟩=true)(hi:i<6)(hj:j<6):Hv W2 c ⟨2,fn,⟨#[]⟩,⟨#[]⟩,⟨0,0⟩,⟨#[]⟩,⟨#[]⟩⟩ K (Zx wx K (xI 2) (xS fn) (xS ⟨#[]⟩) (xS ⟨#[]⟩) (xI 0) (xI 0) (xS ⟨#[]⟩) (xS ⟨#[]⟩)):=by
 obtain⟨h1,h2,h3,h4,h5⟩:=h;exact⟨jt h1 _ _ _ _ _ _ _ _,⟨⟨.inr (.inl ⟨rfl,rfl,rfl,rfl,rfl,rfl⟩),λh=>by simp at h,λh=>by simp at h,λh=>by simp at h,(er _ _).oy,(er _ _).oy,cz hf,sJ,sJ⟩,er _ _,er _ _,λh=>by simp at h,λh=>by simp at h⟩,eT h4 h5⟩
def cg6(h:pD W2 c ⟨p,fn,qF i,qF j,⟨tk,tf⟩,s1,s2⟩ K wx)(hc:cA c)(hf:fn.size<=20)(ht:aF ⟨tk,tf⟩=true)(hi:i<6)(hj:j<6):Hv W2 c ⟨6,fn,⟨#[]⟩,⟨#[]⟩,⟨0,0⟩,⟨#[]⟩,⟨#[]⟩⟩ K (Zx wx K (xI 6) (xS fn) (xS ⟨#[]⟩) (xS ⟨#[]⟩) (xI 0) (xI 0) (xS ⟨#[]⟩) (xS ⟨#[]⟩)):=by
 obtain⟨h1,h2,h3,h4,h5⟩:=h;exact⟨jt h1 _ _ _ _ _ _ _ _,⟨⟨.inr (.inr (.inr (.inr (.inr ⟨rfl,rfl,rfl,rfl,rfl,rfl⟩)))),λh=>by simp at h,λh=>by simp at h,λh=>by simp at h,(er _ _).oy,(er _ _).oy,cz hf,sJ,sJ⟩,er _ _,er _ _,λh=>by simp at h,λh=>by simp at h⟩,eT h4 h5⟩
def cg3(h:pD W2 c ⟨p,fn,qF i,qF j,⟨tk,tf⟩,s1,s2⟩ K wx)(hc:cA c)(hf:fn.size<=20)(ht:aF ⟨tk,tf⟩=true)(hi:i<6)(hj:j<6):Hv W2 c ⟨3,fn,qF i,⟨#[]⟩,⟨0,0⟩,⟨#[]⟩,⟨#[]⟩⟩ K (Zx wx K (xI 3) (xS fn) (xS (qF i)) (xS ⟨#[]⟩) (xI 0) (xI 0) (xS ⟨#[]⟩) (xS ⟨#[]⟩)):=by
 obtain⟨h1,h2,h3,h4,h5⟩:=h;obtain⟨n1,n2,n3⟩:=qh hi;exact⟨jt h1 _ _ _ _ _ _ _ _,⟨⟨.inr (.inr (.inl ⟨rfl,rfl,rfl,rfl,rfl⟩)),λ_=>n1,λh=>by simp at h,λh=>by simp at h,(er _ _).oy,(er _ _).oy,cz hf,n3,sJ⟩,er _ _,er _ _,λ_=>n2,λh=>by simp at h⟩,eT h4 h5⟩
def cg4(h:pD W2 c ⟨p,fn,qF i,qF j,⟨tk,tf⟩,s1,s2⟩ K wx)(hc:cA c)(hf:fn.size<=20)(ht:aF ⟨tk,tf⟩=true)(hi:i<6)(hj:j<6):Hv W2 c ⟨4,fn,⟨#[]⟩,⟨#[]⟩,⟨tk,tf⟩,s1,⟨#[]⟩⟩ K (Zx wx K (xI 4) (xS fn) (xS ⟨#[]⟩) (xS ⟨#[]⟩) (xI tk) (xI tf) (xS s1) (xS ⟨#[]⟩)):=by
 obtain⟨h1,h2,h3,h4,h5⟩:=h;have t1:=xg hc h2;exact⟨jt h1 _ _ _ _ _ _ _ _,⟨⟨.inr (.inr (.inr (.inl ⟨rfl,rfl,rfl,rfl⟩))),λh=>by simp at h,λh=>by simp at h,λ_=>ht,t1.oy,(er _ _).oy,cz hf,sJ,sJ⟩,t1,er _ _,λh=>by simp at h,λh=>by simp at h⟩,eT h4 h5⟩
def cg5(h:pD W2 c ⟨5,fn,qF i,qF j,⟨tk,tf⟩,s1,s2⟩ K wx)(hc:cA c)(hf:fn.size<=20)(ht:aF ⟨tk,tf⟩=true)(hi:i<6)(hj:j<6):Hv W2 c ⟨5,fn,qF i,qF j,⟨tk,tf⟩,s1,s2⟩ K wx:=by
 obtain⟨h1,h2,h3,h4,h5⟩:=h;have t1:=xg hc h2;have t2:=xg hc h3;obtain⟨n1,n2,n3⟩:=qh hi;obtain⟨m1,m2,m3⟩:=qh hj;exact⟨h1,⟨⟨.inr (.inr (.inr (.inr (.inl rfl)))),λ_=>n1,λ_=>m1,λ_=>ht,t1.oy,t2.oy,cz hf,n3,m3⟩,t1,t2,λ_=>n2,λ_=>m2⟩,h4⟩
end
set_option maxHeartbeats 40000000 in
theorem Eh(r:fz)(hr:I6 r.kind/\I6 r.field/\I6 r.name/\I6 r.more/\I6 r.type.kind/\I6 r.type.of/\I6 r.expr/\I6 r.other)(c:az)(hc:cA c)(M:Nat->Prop)(w:World)(hM:Bd M w)(fv:Value)(bR:ab M w fv c.fields)(WQ:c.fields.length<=8)(lH:∀f∈c.fields,f.name.size<=20):
 xG 76 #[.agg #[xI r.kind,xI r.field,xI r.name,xI r.more,xI r.type.kind,xI r.type.of,xI r.expr,xI r.other], .agg #[xS c.name,fv]] w (OC c):=by
 have im:=af bR;obtain⟨fa,fc,rfl,AW,wP,_⟩:=bR.open_;obtain⟨g0,g1,g2,g3,g4,g5,g6,g7⟩:=hr;have HG0:=af g0;clear g0;have DJ:=af g1;clear g1;have YG:=af g2;clear g2;have T3:=af g3;clear g3;have HG4:=af g4;clear g4;have HG5:=af g5;clear g5;have HG6:=af g6;clear g6;have HG7:=af g7;clear g7;clear bR;obtain⟨nm,fs⟩:=c;obtain⟨rk,rf,rn,rm,⟨tk,tf⟩,rx,ro⟩:=r;dsimp only at*;go_enter func76,ntmps76;go_wp2_with fail;obtain⟨W,hW⟩:=cM (((((w.alloc (yD ⟨rk,rf,rn,rm,⟨tk,tf⟩,rx,ro⟩)).alloc (cS nm (xL fa fs.length fc))).alloc (tV ⟨0,⟨#[]⟩,⟨#[]⟩,⟨#[]⟩,⟨0,0⟩,⟨#[]⟩,⟨#[]⟩⟩)).alloc yC).alloc (Bk ⟨tk,tf⟩));have HB:=af (show Bx w [yD ⟨rk,rf,rn,rm,⟨tk,tf⟩,rx,ro⟩,cS nm (xL fa fs.length fc),tV ⟨0,⟨#[]⟩,⟨#[]⟩,⟨#[]⟩,⟨0,0⟩,⟨#[]⟩,⟨#[]⟩⟩,yC,Bk ⟨tk,tf⟩] W by rw[hW];exact Bx.Zw w _ _ _ _ _);unfold yD cS tV yC Bk at hW;rw[<-hW];clear hW;have hsz:=HB.o.bY;simp only[Qcc,Qcd]at hsz;refine(nD M W (hM.below HB.o.1) ⟨0,[⟨0,tk,tf,false⟩]⟩ _ (Hu hM HG4.o HG5.o (HB.o.at4 rfl) (by omega)) (Kp)).mono ?_;rintro e w1⟨_,rfl,⟨d,hgd,Xb,⟨_,rfl,⟨dv,rfl,hdf,_⟩⟩⟩,aC⟩;obtain⟨t,ht⟩:=dQ d.fields 0 (Xb (by show 0<1;omega));obtain⟨b,off,cap,hdv,cw,aw⟩:=vG hdf ht;subst hdv;have HT:Hd (aF t.type=true):=OA hgd ht;obtain⟨d0,d1,d2,d3⟩:=aw w1 dK;have hdl:=Xb (by show 0<1;omega);have aO:=af (HB.o.below aC);clear aw hgd Xb hdf aC HB;obtain⟨⟨tn,⟨GU,GV⟩,ti⟩,Gm⟩:∃t',t'=t:=⟨t,rfl⟩;subst Gm;dsimp only at*;simp only[Nat.zero_mul,Nat.add_zero]at d0 d1 d2 d3;have AX:∀(s:ByteArray)(a:Option Addr)(n cap:Nat)(w:World),(Instr.field 101 (.agg #[xS s,xL a n cap]) 1).run prog w= .ok (xL a n cap) w:=λ_ _ _ _ _=>by kernel_rfl
 go_upto_region 3 with fail;obtain⟨W2,fT⟩:=cM (w1.alloc (SQ ⟨GU,GV⟩));have aL:=af (show Bx w [yD ⟨rk,rf,rn,rm,⟨tk,tf⟩,rx,ro⟩,cS nm (xL fa fs.length fc),tV ⟨0,⟨#[]⟩,⟨#[]⟩,⟨#[]⟩,⟨0,0⟩,⟨#[]⟩,⟨#[]⟩⟩,yC,Bk ⟨tk,tf⟩] W2 by rw[fT];exact aO.o.alloc _);have K4:=af (show W2.heap[w1.heap.size]? =some (SQ ⟨GU,GV⟩)by rw[fT];exact Qbh w1 _);have hT2:w1.heap.size<W2.heap.size:=(Qaa.1 K4.o).1;have jC:=aL.o.bY;simp only[Qcc,Qcd]at jC;unfold SQ at fT;rw[<-fT];clear fT d0 d1 d2 d3 aO;generalize w1.heap.size=T at*;have HS:Hd (∀W',aq W2 W'->CgS w rk rn rm rx ro GU GV nm (xL fa fs.length fc) T W'):=λW' hb=>cgS aL.o K4.o hb;have UZ:Hd (∀W n,aq W2 W->I6 n->xC 133 #[xI n, .agg #[xI GU,xI GV], .agg #[xS nm,xL fa fs.length fc]] W (bW W λv _=>∃s,v=xS s/\hZ ⟨nm,fs⟩ ⟨GU,GV⟩ s)):=λW n hb hn=>Hm M W ⟨nm,fs⟩ _ n ⟨GU,GV⟩ ((im.o.below aL.o.1).below hb) WQ hn HT.o lH;have HJ:Hd (aq W2 W2):=dK;have hp0:=cq rk 6 (by omega);have vm:=cq rn 6 (by omega);have Ae:=cq rm 6 (by omega);go_cut [8](λs8 wx=>∃(K:Nat)(s1 s2:ByteArray),s8=xP K/\Hd (pD W2 ⟨nm,fs⟩ ⟨1+(aH rk 6:Int),⟨#[]⟩,qF (aH rn 6),qF (aH rm 6),⟨GU,GV⟩,s1,s2⟩ K wx));case first=>
  have z1:(0:Int)<=(aH rn 6:Int):=Qba _;have z2:(aH rn 6:Int)<6:=by omega
  have z3:(0:Int)<=(aH rm 6:Int):=Qba _;have z4:(aH rm 6:Int)<6:=by omega
  have z5:IntKind.i64.wrap (1+(aH rk 6:Int))=1+(aH rk 6:Int):=Qbe _ (by omega);obtain⟨c0,c1,c2,c3,c4,c5,c6,c7,c8,c9,Xc⟩:=HS.o W2 dK;go_region_held3(λw'=>w'.cell? ⟨w.heap.size,0,none⟩=some (xI rk)/\w'.cell? ⟨w.heap.size,2,none⟩=some (xI rn)/\w'.cell? ⟨w.heap.size,3,none⟩=some (xI rm)/\w'.cell? ⟨w.heap.size,6,none⟩=some (xI rx)/\w'.cell? ⟨w.heap.size,7,none⟩=some (xI ro)/\w'.cell? ⟨w.heap.size+1+1+1,aH rn 6,none⟩=some (xS (qF (aH rn 6)))/\w'.cell? ⟨w.heap.size+1+1+1,aH rm 6,none⟩=some (xS (qF (aH rm 6)))/\w'.cell? ⟨T,0,none⟩=some (xI GU)/\w'.cell? ⟨T,1,none⟩=some (xI GV)/\w'.cell? ⟨w.heap.size+1,0,none⟩=some (xS nm)/\w'.cell? ⟨w.heap.size+1,1,none⟩=some (xL fa fs.length fc))
   (with_reducible first|exact HS.o _ HJ.o|exact HS.o _ HJ.o.drew|exact HS.o _ (HJ.o.alloc HJ.o.size _)|exact HS.o _ ((HJ.o.alloc HJ.o.size _).drew)|exact HS.o _ eM.o|exact HS.o _ eM.o.drew|exact HS.o _ (eM.o.alloc eM.o.size _)|exact HS.o _ ((eM.o.alloc eM.o.size _).drew)|exact HS.o _ cR.o|exact HS.o _ cR.o.drew|exact HS.o _ (cR.o.alloc cR.o.size _)|exact HS.o _ ((cR.o.alloc cR.o.size _).drew)|exact HS.o _ (eT cR.o nk.o.2))
   (first
     |(go_at_call 132;refine(iu _ _ _ (by first|exact HG0.o|exact YG.o|exact T3.o) (by omega) (by omega)).mono ?_;rintro e w'⟨rfl,rfl⟩)
     |(go_at_call 133;with_reducible refine(UZ.o _ rx (by with_reducible first|exact HJ.o|exact HJ.o.drew|exact HJ.o.alloc HJ.o.size _|exact(HJ.o.alloc HJ.o.size _).drew) HG6.o).mono ?_
       rintro e wa⟨_,rfl,⟨s1,rfl,dB⟩,hb⟩;have HXa:=af dB;clear dB;try(with_reducible(have HKa:=af (Kq HJ.o hb)))
       try(with_reducible(have HKa:=af (Kr HJ.o hb)))
       have eM:Hd (aq W2 wa):=(by with_reducible first|exact af (VN HJ.o hb)|exact af (trB HJ.o hb)|exact af (trC HJ.o hb)|exact af (trD HJ.o hb));clear hb)
     |(go_at_call 133;with_reducible refine(UZ.o _ ro (by with_reducible first|exact eM.o|exact eM.o.drew|exact eM.o.alloc eM.o.size _|exact(eM.o.alloc eM.o.size _).drew) HG7.o).mono ?_
       rintro e wb⟨_,rfl,⟨s2,rfl,dB⟩,hb⟩;have HXb:=af dB;clear dB;try(with_reducible(have nk:=af (SR HKa.o hb)))
       try(with_reducible(have nk:=af (Kq eM.o hb)))
       try(with_reducible(have nk:=af (Kr eM.o hb)))
       try with_reducible have k0:=(ak nk.o.1).1
       try with_reducible have k1:=(ak nk.o.1).2.1
       try with_reducible have k2:=(ak nk.o.1).2.2.1
       try with_reducible have k3:=(ak nk.o.1).2.2.2.1
       try with_reducible have k4:=(ak nk.o.1).2.2.2.2.1
       try with_reducible have k5:=(ak nk.o.1).2.2.2.2.2.1
       try with_reducible have k6:=(ak nk.o.1).2.2.2.2.2.2.1
       try with_reducible have k7:=(ak nk.o.1).2.2.2.2.2.2.2
       try with_reducible have y0:=ag nk.o.1 0
       try with_reducible have y1:=ag nk.o.1 1
       try with_reducible have y2:=ag nk.o.1 2
       try with_reducible have y3:=ag nk.o.1 3
       try with_reducible have y4:=ag nk.o.1 4
       try with_reducible have y5:=ag nk.o.1 5
       try with_reducible have y6:=ag nk.o.1 6
       try with_reducible have y7:=ag nk.o.1 7
       have cR:Hd (aq W2 wb):=(by with_reducible first|exact af (VN eM.o hb)|exact af (trB eM.o hb)|exact af (trC eM.o hb)|exact af (trD eM.o hb));clear hb));all_goals(go_wp2;go_meet)
  .refine⟨_,s1,s2,rfl,?_⟩;exact af (OB HXa HXb cR.o)
  all_goals
   refine⟨_,s1,s2,rfl,?_⟩;exact af (VO HXa HXb cR.o nk.o)
 case rest=>
  obtain⟨K,s1,s2,rfl,HC⟩:=hcut;obtain⟨wx,Gt⟩:=cM (wc);subst Gt;have HKW:Hd (∀W',aq wx W'->CgS w rk rn rm rx ro GU GV nm (xL fa fs.length fc) T W'):=λW' hb=>HS.o W' (VN HC.o.2.2.2.1 hb);obtain⟨c0,c1,c2,c3,c4,c5,c6,c7,c8,c9,Xc⟩:=HKW.o wx dK;obtain⟨k0,k1,k2,k3,k4,k5,k6,k7⟩:=ak HC.o.1;have y1:=ag HC.o.1 1;have se:=(ak ((aL.o.cP HC.o.2.2.2.1 (by have:=aL.o.bY;exact this)).bJ rfl)).2.1;go_upto_if 55 with fail;go_cut [](λwy=>∃fn:ByteArray,Hd (fn.size<=20/\pD W2 ⟨nm,fs⟩ ⟨1+(aH rk 6:Int),fn,qF (aH rn 6),qF (aH rm 6),⟨GU,GV⟩,s1,s2⟩ K wy));case first=>
   by_cases h0:0<fs.length
   .have hpf:=cq rf fs.length h0;obtain⟨f,hf⟩:=dQ fs (aH rf fs.length) hpf;obtain⟨bf,of,cf,Xd,GR,hfc⟩:=vG im.o hf;obtain⟨rfl,rfl⟩:=gY Xd;have q0:=(hfc wx (aL.o.1.trans (HC.o.2.2.2.1.mono (by omega)))).1;have Lf:Hd (f.name.size<=20):=lH f (Qaf hf);have Lg:Hd (∀W,xC 132 #[xI rf,xI (fs.length:Int)] W (gE (xI (aH rf fs.length:Int)) W)):=λW=>by
     have h:=iu rf (fs.length:Int) W DJ.o (by omega) (by omega);simpa using h
    clear hf Xd hfc;have z1:(0:Int)<=(aH rf fs.length:Int):=Qba _;have z2:(aH rf fs.length:Int)<(fs.length:Int):=by omega
    have hKW:=HC.o.2.2.2.2;have nK1:w.heap.size≠K:=by omega
    have nK2:w.heap.size+1≠K:=by omega
    have nK3:bf≠K:=by omega
    go_wp2_with fail;go_region_law(first
     |(go_simp;go_at_call 132;refine(Lg.o _).mono ?_;rintro e w'⟨rfl,rfl⟩));all_goals(go_wp2;go_meet)
    all_goals exact⟨f.name,(show _/\pD _ _ _ _ _ from⟨Lf.o,by first|exact Eg HC.o f.name|exact LJ HC.o f.name⟩)⟩
   .go_wp2;go_meet;exact⟨⟨#[]⟩,(show _/\pD _ _ _ _ _ from⟨by decide,HC.o⟩)⟩
  case rest=>
   obtain⟨fn,HF⟩:=hcut;obtain⟨wy,Xe⟩:=cM (wc);subst Xe;clear c0 c1 c2 c3 c4 c5 c6 c7 c8 c9 Xc k0 k1 k2 k3 k4 k5 k6 k7 y1 se HKW HC;have HC:Hd (pD W2 ⟨nm,fs⟩ ⟨1+(aH rk 6:Int),fn,qF (aH rn 6),qF (aH rm 6),⟨GU,GV⟩,s1,s2⟩ K wy):=HF.o.2;have Lf:Hd (fn.size<=20):=HF.o.1;have HX:Hd (cA ⟨nm,fs⟩):=hc;obtain⟨c0,c1,c2,c3,c4,c5,c6,c7,c8,c9,Xc⟩:=HS.o wy HC.o.2.2.2.1;have hq:1<=1+(aH rk 6:Int)/\1+(aH rk 6:Int)<=6:=by omega
   generalize 1+(aH rk 6:Int)=p at*;obtain⟨YQ,hq2⟩:=hq;obtain⟨k0,k1,k2,k3,k4,k5,k6,k7⟩:=ak HC.o.1;go_upto_block 0 with fail;go_cut [](λwz=>∃x:aB,Hd (Hv W2 ⟨nm,fs⟩ x K wz));case rest=>
    obtain⟨x,HD⟩:=hcut;obtain⟨W6,tQ⟩:=cM (wc);subst tQ;clear c0 c1 c2 c3 c4 c5 c6 c7 c8 c9 Xc k0 k1 k2 k3 k4 k5 k6 k7 HC HF;obtain⟨⟨xk,xf,xn,xm,⟨xt,xo⟩,xe,xz⟩,hx⟩:∃y,y=x:=⟨x,rfl⟩;subst hx;obtain⟨m0,m1,m2,m3,m4,m5,m6,m7⟩:=ak HD.o.1;obtain⟨c0,c1,c2,c3,c4,c5,c6,c7,c8,c9,Xc⟩:=HS.o W6 HD.o.2.2;have bN:=af (aL.o.cP HD.o.2.2 (by have:=aL.o.bY;exact this));obtain⟨b,hb⟩:=fx (jf ⟨nm,fs⟩ ⟨xk,xf,xn,xm,⟨xt,xo⟩,xe,xz⟩);have Nq:=af (vD ⟨nm,fs⟩ ⟨xk,xf,xn,xm,⟨xt,xo⟩,xe,xz⟩ HD.o.2.1.pre HX.o.right (cz HX.o.small) b hb M W6.drew (hM.below (w':=W6) bN.o.1) (xL fa fs.length fc) ((im.o.below bN.o.1).ev ((Ev.refl _ _).drew)));have Gr:=af hb;clear hb;clear c0 c1 c2 c3 c4 c5 c6 c7 c8;have HSD:Hd (∀W',Below W6.drew.heap.size W6.drew W'->(W'.cell? ⟨K,0,none⟩=some (xI xk)/\W'.cell? ⟨K,1,none⟩=some (xS xf)/\W'.cell? ⟨K,2,none⟩=some (xS xn)/\W'.cell? ⟨K,3,none⟩=some (xS xm)/\W'.cell? ⟨K,4,none⟩=some (xI xt)/\W'.cell? ⟨K,5,none⟩=some (xI xo)/\W'.cell? ⟨K,6,none⟩=some (xS xe)/\W'.cell? ⟨K,7,none⟩=some (xS xz)/\W'.cell? ⟨w.heap.size+1,0,none⟩=some (xS nm)/\W'.cell? ⟨w.heap.size+1,1,none⟩=some (xL fa fs.length fc))):=λW' hb=>by
     have hk:=(hb.block K (Qaa.1 HD.o.1).1).trans HD.o.1;obtain⟨m0,m1,m2,m3,m4,m5,m6,m7⟩:=ak hk;obtain⟨r0,r1⟩:=ah ((bN.o.drew.below hb).cE rfl);exact⟨m0,m1,m2,m3,m4,m5,m6,m7,r0,r1⟩
    go_upto_region 15 with fail;go_region_law(first
     |(go_simp;go_at_call 134;refine Nq.o.mono ?_;rintro e w7⟨rfl,Cg⟩;have rB:=af (bN.o.drew.below Cg);have Q4:=af (HSD.o w7 Cg);have t0:=Q4.o.1;have t1:=Q4.o.2.1;have t2:=Q4.o.2.2.1;have t3:=Q4.o.2.2.2.1;have t4:=Q4.o.2.2.2.2.1;have t5:=Q4.o.2.2.2.2.2.1;have t6:=Q4.o.2.2.2.2.2.2.1;have t7:=Q4.o.2.2.2.2.2.2.2.1;have g0:=(ak (rB.o.gy rfl)).1;have g1:=(ak (rB.o.gy rfl)).2.1;have g2:=(ak (rB.o.gy rfl)).2.2.1;have g3:=(ak (rB.o.gy rfl)).2.2.2.1;have g4:=(ak (rB.o.gy rfl)).2.2.2.2.1;have g5:=(ak (rB.o.gy rfl)).2.2.2.2.2.1;have g6:=(ak (rB.o.gy rfl)).2.2.2.2.2.2.1;have g7:=(ak (rB.o.gy rfl)).2.2.2.2.2.2.2;obtain⟨f0,f1,f2,f3,f4,f5,f6,f7⟩:=Yp (rB.o.gy rfl);clear Cg));all_goals
     go_wp2_with fail;refine Qae (v:= .tuple #[.agg #[xI xk,xS xf,xS xn,xS xm,xI xt,xI xo,xS xe,xS xz],xB b]) (by simp[results,results76,go_sem,g0,g1,g2,g3,g4,g5,g6,g7]) rfl ⟨_,rfl,(show OC _ _ _ from⟨⟨xk,xf,xn,xm,⟨xt,xo⟩,xe,xz⟩,b,HD.o.2.1,Gr.o,rfl⟩),?_⟩;exact eT rB.o.1 (by show w.heap.size<=w.heap.size+1+1;omega)
   clear k0 k1 k2 k3 k4 k5 k6 k7;obtain rfl|rfl|rfl|rfl|rfl|rfl:p=1\/p=2\/p=3\/p=4\/p=5\/p=6:=by omega
   all_goals
    obtain⟨k0,k1,k2,k3,k4,k5,k6,k7⟩:=ak HC.o.1;obtain⟨y0,y1,y2,y3,y4,y5,y6,y7⟩:=Yp HC.o.1;go_wp2;go_meet
   .exact⟨_,af (cg1 HC.o HX.o Lf.o HT.o vm Ae)⟩
   .exact⟨_,af (cg2 HC.o HX.o Lf.o HT.o vm Ae)⟩
   .exact⟨_,af (cg3 HC.o HX.o Lf.o HT.o vm Ae)⟩
   .exact⟨_,af (cg4 HC.o HX.o Lf.o HT.o vm Ae)⟩
   .exact⟨_,af (cg5 HC.o HX.o Lf.o HT.o vm Ae)⟩
   .exact⟨_,af (cg6 HC.o HX.o Lf.o HT.o vm Ae)⟩
end Go.Proofs.YtccpcfcochffcaaGreatDoor
