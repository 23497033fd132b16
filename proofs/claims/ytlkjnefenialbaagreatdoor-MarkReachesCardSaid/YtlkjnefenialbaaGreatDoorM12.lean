/- What ChangeOf and LineOf answer; no condition beyond each theorem's own. -/
import Derived.Test.YtlkjnefenialbaaGreatDoorM10
import Derived.Test.YtlkjnefenialbaaGreatDoorM11
set_option linter.unusedVariables false
set_option linter.unusedSimpArgs false
set_option maxHeartbeats 8000000
set_option maxRecDepth 100000
namespace Go.Proofs.YtlkjnefenialbaaGreatDoor
open Go.RowKit
def lo(k:Nat):ByteArray:=([⟨#[110,101,119,95,49]⟩,⟨#[109,111,114,101]⟩,⟨#[122,57]⟩,⟨#[97]⟩,⟨#[110,97,109,101]⟩,⟨#[107,105,100,115]⟩]:List ByteArray).getD k mu
theorem MX:∀k,k<6→(lo k).data.toList∈names9:=by
 intro k hk
 rcases k with _|_|_|_|_|_|k
 all_goals first|decide|omega
theorem Jt {k:Nat}(hk:k<6):(#[.string ⟨#[110,101,119,95,49]⟩, .string ⟨#[109,111,114,101]⟩, .string ⟨#[122,57]⟩, .string ⟨#[97]⟩, .string ⟨#[110,97,109,101]⟩, .string ⟨#[107,105,100,115]⟩]:Array Value)[k]? =some (.string (lo k)):=by
 rcases k with _|_|_|_|_|_|k
 all_goals first|rfl|omega
def tX:Obj:= .cells #[.string ⟨#[110,101,119,95,49]⟩, .string ⟨#[109,111,114,101]⟩, .string ⟨#[122,57]⟩, .string ⟨#[97]⟩, .string ⟨#[110,97,109,101]⟩, .string ⟨#[107,105,100,115]⟩] 9 (0,0)
def tY(r:eD):Obj:= .cells #[.int .i64 r.kind, .int .i64 r.field, .int .i64 r.name, .int .i64 r.more, .int .i64 r.type.kind, .int .i64 r.type.of, .int .i64 r.expr, .int .i64 r.other] 146 (0,0)
def wR(t:aJ):Obj:= .cells #[.int .i64 0, .int .i64 t.kind, .int .i64 t.of, .bool false] 149 (0,0)
def MY(t:aJ):Obj:= .cells #[.int .i64 t.kind, .int .i64 t.of] 140 (0,0)
theorem Fm:I6 0:=⟨by omega,by omega⟩
theorem Dd {M:Nat→Prop}{w:World}{t:aJ}{g:Nat}(hM:Bd M w)(hk:I6 t.kind)(ho:I6 t.of){W:World}(hg:W.heap[g]? =some (wR t))(hz:w.heap.size≤g):ae M W (.slice (some ⟨g,0,none⟩) 1 1) [(⟨0,t.kind,t.of,false⟩:iq)]:=by
 refine⟨[[.int .i64 0, .int .i64 t.kind, .int .i64 t.of, .bool false]],?_,rfl,?_⟩
 ·refine⟨by simp[az.size],some ⟨g,0,none⟩,1,rfl,Nat.le_refl _,by unfold maxLen;omega,fun _=>⟨g,0,rfl,fun h=>by have:=hM g h;omega,(Array.getElem?_eq_some_iff.1 hg).1,?_⟩⟩
  intro i u hu
  simp only[List.flatten_cons,List.flatten_nil,List.append_nil]at hu
  rcases i with _|_|_|_|i
  all_goals first|(simp at hu;done)|(simp at hu;subst hu;simp[World.cell?,hg,wR])
 ·intro i cs x hc hx
  cases i with
  |zero=>simp at hc hx;subst hc hx;exact⟨rfl,⟨by show-9223372036854775808≤(0:Int);omega,by show(0:Int)≤9223372036854775807;omega⟩,hk,ho⟩
  |succ i=>simp at hc
theorem rQ {M:Nat→Prop}{w:World}{v:Value}{l:List ak}(h:ae M w v l){k:Nat}{x:ak}(hx:l[k]? =some x):∃b off cap,v= .slice (some ⟨b,off,none⟩) l.length cap∧b<w.heap.size∧∀W,Below w.heap.size w W→W.cell? ⟨b,off+k*4,none⟩=some (.string x.name)∧W.cell? ⟨b,off+k*4+1,none⟩=some (.int .i64 x.type.kind)∧W.cell? ⟨b,off+k*4+2,none⟩=some (.int .i64 x.type.of)∧W.cell? ⟨b,off+k*4+3,none⟩=some (.bool x.indexed):=by
 obtain⟨a,cap,rfl,hl,_,hc⟩:=h.open_
 have hk:=(List.getElem?_eq_some_iff.1 hx).1
 obtain⟨b,off,rfl,_,hb,aC⟩:=hc (by omega)
 obtain⟨cs,⟨rfl,_⟩,bE⟩:=aC k x hx
 refine⟨b,off,cap,rfl,hb,fun W hB=> ?_⟩
 have g:∀j u,([.string x.name, .int .i64 x.type.kind, .int .i64 x.type.of, .bool x.indexed]:List Value)[j]? =some u→W.cell? ⟨b,off+k*4+j,none⟩=some u:=fun j u hu=>(hB.cell (p:=⟨b,off+k*4+j,none⟩) hb).trans (bE j u hu)
 exact⟨g 0 _ rfl,g 1 _ rfl,g 2 _ rfl,g 3 _ rfl⟩
theorem Ju {c:ai}(h:gE c){k:Nat}{f:ak}(hf:c.fields[k]? =some f):aB f.type=true:=by
 have:=h.1
 have hm:=List.mem_of_getElem? hf
 simp only[aH,aY,Bool.and_eq_true,List.all_eq_true]at this
 grind
abbrev XS(w:World)(rk rn rm rx ro wB wC:Int)(nm:ByteArray)(fv:Value)(T:Nat)(w':World):Prop:=w'.cell? ⟨w.heap.size,0,none⟩=some (.int .i64 rk)∧w'.cell? ⟨w.heap.size,2,none⟩=some (.int .i64 rn)∧w'.cell? ⟨w.heap.size,3,none⟩=some (.int .i64 rm)∧w'.cell? ⟨w.heap.size,6,none⟩=some (.int .i64 rx)∧w'.cell? ⟨w.heap.size,7,none⟩=some (.int .i64 ro)∧w'.cell? ⟨w.heap.size+1+1+1,aD rn 6,none⟩=some (.string (lo (aD rn 6)))∧w'.cell? ⟨w.heap.size+1+1+1,aD rm 6,none⟩=some (.string (lo (aD rm 6)))∧w'.cell? ⟨T,0,none⟩=some (.int .i64 wB)∧w'.cell? ⟨T,1,none⟩=some (.int .i64 wC)∧w'.cell? ⟨w.heap.size+1,0,none⟩=some (.string nm)∧w'.cell? ⟨w.heap.size+1,1,none⟩=some fv
theorem cgS {w W2 W':World}{rk rf rn rm rx ro tk tf wB wC:Int}{nm:ByteArray}{fv:Value}{o2 o4:Obj}{T:Nat}(h:Bx w [tY ⟨rk,rf,rn,rm,⟨tk,tf⟩,rx,ro⟩,cg nm fv,o2,tX,o4] W2)(hT:W2.heap[T]? =some (MY ⟨wB,wC⟩))(hb:Below W2.heap.size W2 W'):XS w rk rn rm rx ro wB wC nm fv T W':=by
 have h':=h.below hb
 have hT':=(hb.block T (Array.getElem?_eq_some_iff.1 hT).1).trans hT
 obtain⟨a0,a1,a2,a3,a4,a5,a6,a7⟩:=ah (h'.bJ rfl)
 obtain⟨b0,b1⟩:=af (h'.bh rfl)
 obtain⟨t0,t1⟩:=af hT'
 exact⟨a0,a2,a3,a6,a7,cell_of_heap (h'.Gr rfl) (Jt (bU _ _ (by omega))),cell_of_heap (h'.Gr rfl) (Jt (bU _ _ (by omega))),t0,t1,b0,b1⟩
def mI(W2:World)(c:ai)(x:aq)(K:Nat)(wx:World):Prop:=
 wx.heap[K]? =some (qE x)∧fO c x.type x.expr∧fO c x.type x.other∧Below W2.heap.size W2 wx∧W2.heap.size≤K
theorem MZ {W2 W w':World}{K:Nat}{o:Obj}(h:W.heap[K]? =some o∧W2.heap.size≤K)(hb:Below W.heap.size W w'):w'.heap[K]? =some o∧W2.heap.size≤K:=⟨(hb.block K (Array.getElem?_eq_some_iff.1 h.1).1).trans h.1,h.2⟩
theorem Fo {W2 W w':World}{o:Obj}(hj:Below W2.heap.size W2 W)(hb:Below (W.alloc o).heap.size (W.alloc o) w'):w'.heap[W.heap.size]? =some o∧W2.heap.size≤W.heap.size:=MZ (W2:=W2) ⟨heap_alloc_new W o,hj.size⟩ hb
theorem Fp {W2 W w':World}{o:Obj}(hj:Below W2.heap.size W2 W)(hb:Below (W.alloc o).drew.heap.size (W.alloc o).drew w'):w'.heap[W.heap.size]? =some o∧W2.heap.size≤W.heap.size:=MZ (W2:=W2) (W:=(W.alloc o).drew) ⟨heap_alloc_new W o,hj.size⟩ hb
theorem PK {W2 W w':World}(hj:Below W2.heap.size W2 W)(hb:Below W.heap.size W w'):Below W2.heap.size W2 w':=hj.trans (hb.mono hj.size)
theorem Wa {W2 W w':World}(hj:Below W2.heap.size W2 W)(hb:Below W.drew.heap.size W.drew w'):Below W2.heap.size W2 w':=hj.drew.trans (hb.mono hj.size)
theorem Wb {W2 W w':World}{o:Obj}(hj:Below W2.heap.size W2 W)(hb:Below (W.alloc o).heap.size (W.alloc o) w'):Below W2.heap.size W2 w':=PK (hj.alloc hj.size o) hb
theorem Wc {W2 W w':World}{o:Obj}(hj:Below W2.heap.size W2 W)(hb:Below (W.alloc o).drew.heap.size (W.alloc o).drew w'):Below W2.heap.size W2 w':=PK (hj.alloc hj.size o).drew hb
theorem ir {W:World}{K:Nat}{c0 c1 c2 c3 c4 c5 c6 c7:Value}{t:TypeId}(h:W.heap[K]? =some (.cells #[c0,c1,c2,c3,c4,c5,c6,c7] t (0,0)))(a0 a1 a2 a3 a4 a5 a6 a7:Value):
 ((((((((W.setCell ⟨K,0,none⟩ a0).setCell ⟨K,1,none⟩ a1).setCell ⟨K,2,none⟩ a2).setCell ⟨K,3,none⟩ a3).setCell ⟨K,4,none⟩ a4).setCell ⟨K,5,none⟩ a5).setCell ⟨K,6,none⟩ a6).setCell ⟨K,7,none⟩ a7).heap[K]? =some (.cells #[a0,a1,a2,a3,a4,a5,a6,a7] t (0,0)):=by
 have h1:=heap_setCell_same _ K 0 _ _ a0 h
 have h2:=heap_setCell_same _ K 1 _ _ a1 h1
 have h3:=heap_setCell_same _ K 2 _ _ a2 h2
 have h4:=heap_setCell_same _ K 3 _ _ a3 h3
 have h5:=heap_setCell_same _ K 4 _ _ a4 h4
 have h6:=heap_setCell_same _ K 5 _ _ a5 h5
 have h7:=heap_setCell_same _ K 6 _ _ a6 h6
 have h8:=heap_setCell_same _ K 7 _ _ a7 h7
 simpa using h8
theorem dX {B K:Nat}{w W:World}(h:Below B w W)(hK:B≤K){a0 a1 a2 a3 a4 a5 a6 a7:Value}:
 Below B w ((((((((W.setCell ⟨K,0,none⟩ a0).setCell ⟨K,1,none⟩ a1).setCell ⟨K,2,none⟩ a2).setCell ⟨K,3,none⟩ a3).setCell ⟨K,4,none⟩ a4).setCell ⟨K,5,none⟩ a5).setCell ⟨K,6,none⟩ a6).setCell ⟨K,7,none⟩ a7):=
 (((((((h.setCell hK _).setCell hK _).setCell hK _).setCell hK _).setCell hK _).setCell hK _).setCell hK _).setCell hK _
section
variable {W2 w':World}{c:ai}{k:Int}{f n m:ByteArray}{tk tf:Int}{s1 s2:ByteArray}
theorem Jv(h1:Hid (fO c ⟨tk,tf⟩ s1))(h2:Hid (fO c ⟨tk,tf⟩ s2))(hj:Below W2.heap.size W2 w'):mI W2 c ⟨k,f,n,m,⟨tk,tf⟩,s1,s2⟩ w'.heap.size (w'.alloc (.cells #[.int .i64 k, .string f, .string n, .string m, .int .i64 tk, .int .i64 tf, .string s1, .string s2] 142)):=
 ⟨heap_alloc_new w' _,h1.out,h2.out,hj.alloc hj.size _,hj.size⟩
theorem PL {K:Nat}{x0 x1 x2 x3 x4 x5 x6 x7:Value}(h1:Hid (fO c ⟨tk,tf⟩ s1))(h2:Hid (fO c ⟨tk,tf⟩ s2))(hj:Below W2.heap.size W2 w')(hk:w'.heap[K]? =some (.cells #[x0,x1,x2,x3,x4,x5,x6,x7] 142 (0,0))∧W2.heap.size≤K):
 mI W2 c ⟨k,f,n,m,⟨tk,tf⟩,s1,s2⟩ K ((((((((w'.setCell ⟨K,0,none⟩ (.int .i64 k)).setCell ⟨K,1,none⟩ (.string f)).setCell ⟨K,2,none⟩ (.string n)).setCell ⟨K,3,none⟩ (.string m)).setCell ⟨K,4,none⟩ (.int .i64 tk)).setCell ⟨K,5,none⟩ (.int .i64 tf)).setCell ⟨K,6,none⟩ (.string s1)).setCell ⟨K,7,none⟩ (.string s2)):=
 ⟨ir hk.1 _ _ _ _ _ _ _ _,h1.out,h2.out,dX hj hk.2,hk.2⟩
end
def Jw(c:ai)(v:Value)(_:World):Prop:=∃(x:aq)(ok:Bool),gJ c x∧gY c x=ok∧v= .tuple #[.agg #[.int .i64 x.kind, .string x.field, .string x.name, .string x.more, .int .i64 x.type.kind, .int .i64 x.type.of, .string x.expr, .string x.other], .bool ok]
def lp(W2:World)(c:ai)(x:aq)(K:Nat)(wx:World):Prop:=wx.heap[K]? =some (qE x)∧gJ c x∧Below W2.heap.size W2 wx
theorem yA:∀s∈names9,ax (bL s)=true:=by decide
theorem nz {k:Nat}(h:k<6):ax (lo k)=true∧(lo k).data.toList∈names9∧(lo k).size≤maxLen:=by
 have h1:=MX k h
 have h2:=yA _ h1
 rw[Fh]at h2
 exact⟨h2,h1,bQ (tT h1)⟩
theorem dB(c:ai)(t:aJ):mH c t ⟨#[]⟩:= .inl rfl
theorem sU {c:ai}(hc:bR c){t:aJ}{s:ByteArray}(h:fO c t s):mH c t s:=by
 by_cases hs:s.data.toList=[]
 ·exact .inl hs
 ·exact .inr (Ar hc.right hc.names h hs)
theorem Au {W2 wx:World}{c:ai}{k:Int}{f n m:ByteArray}{t:aJ}{s1 s2:ByteArray}{K:Nat}(h:mI W2 c ⟨k,f,n,m,t,s1,s2⟩ K wx)(g:ByteArray):mI W2 c ⟨k,g,n,m,t,s1,s2⟩ K (wx.drew.setCell ⟨K,1,none⟩ (.string g)):=by
 obtain⟨h1,h2,h3,h4,h5⟩:=h
 refine⟨?_,h2,h3,h4.drew.setCell h5 _,h5⟩
 have:=heap_setCell_same wx.drew K 1 _ _ (.string g) h1
 simpa [qE]using this
theorem Gv {W2 wx:World}{c:ai}{k:Int}{f n m:ByteArray}{t:aJ}{s1 s2:ByteArray}{K:Nat}(h:mI W2 c ⟨k,f,n,m,t,s1,s2⟩ K wx)(g:ByteArray):mI W2 c ⟨k,g,n,m,t,s1,s2⟩ K (wx.setCell ⟨K,1,none⟩ (.string g)).drew:=Au h g
theorem pT:(⟨#[]⟩:ByteArray).size≤maxLen:=by unfold maxLen;decide
section
variable {W2 wx W5:World}{c:ai}{p:Int}{fn:ByteArray}{i j:Nat}{tk tf:Int}{s1 s2:ByteArray}{K:Nat}
theorem cg1(h:mI W2 c ⟨p,fn,lo i,lo j,⟨tk,tf⟩,s1,s2⟩ K wx)(hc:bR c)(hf:fn.size≤20)(ht:aB ⟨tk,tf⟩=true)(hi:i<6)(hj:j<6)
 (hW:W5=((((((((wx.setCell ⟨K,0,none⟩ (.int .i64 1)).setCell ⟨K,1,none⟩ (.string ⟨#[]⟩)).setCell ⟨K,2,none⟩ (.string (lo i))).setCell ⟨K,3,none⟩ (.string ⟨#[]⟩)).setCell ⟨K,4,none⟩ (.int .i64 tk)).setCell ⟨K,5,none⟩ (.int .i64 tf)).setCell ⟨K,6,none⟩ (.string s1)).setCell ⟨K,7,none⟩ (.string ⟨#[]⟩))):lp W2 c ⟨1,⟨#[]⟩,lo i,⟨#[]⟩,⟨tk,tf⟩,s1,⟨#[]⟩⟩ K W5:=by
 obtain⟨h1,h2,h3,h4,h5⟩:=h
 subst hW
 have t1:=sU hc h2
 obtain⟨n1,n2,n3⟩:=nz hi
 exact⟨ir h1 _ _ _ _ _ _ _ _,⟨⟨.inl ⟨rfl,rfl,rfl,rfl⟩,fun _=>n1,fun h=>by simp at h,fun _=>ht,t1.lY,(dB _ _).lY,pT,n3,pT⟩,t1,dB _ _,fun _=>n2,fun h=>by simp at h⟩,dX h4 h5⟩
theorem cg2(h:mI W2 c ⟨p,fn,lo i,lo j,⟨tk,tf⟩,s1,s2⟩ K wx)(hc:bR c)(hf:fn.size≤20)(ht:aB ⟨tk,tf⟩=true)(hi:i<6)(hj:j<6)
 (hW:W5=((((((((wx.setCell ⟨K,0,none⟩ (.int .i64 2)).setCell ⟨K,1,none⟩ (.string fn)).setCell ⟨K,2,none⟩ (.string ⟨#[]⟩)).setCell ⟨K,3,none⟩ (.string ⟨#[]⟩)).setCell ⟨K,4,none⟩ (.int .i64 0)).setCell ⟨K,5,none⟩ (.int .i64 0)).setCell ⟨K,6,none⟩ (.string ⟨#[]⟩)).setCell ⟨K,7,none⟩ (.string ⟨#[]⟩))):lp W2 c ⟨2,fn,⟨#[]⟩,⟨#[]⟩,⟨0,0⟩,⟨#[]⟩,⟨#[]⟩⟩ K W5:=by
 obtain⟨h1,h2,h3,h4,h5⟩:=h
 subst hW
 exact⟨ir h1 _ _ _ _ _ _ _ _,⟨⟨.inr (.inl ⟨rfl,rfl,rfl,rfl,rfl,rfl⟩),fun h=>by simp at h,fun h=>by simp at h,fun h=>by simp at h,(dB _ _).lY,(dB _ _).lY,bQ hf,pT,pT⟩,dB _ _,dB _ _,fun h=>by simp at h,fun h=>by simp at h⟩,dX h4 h5⟩
theorem cg6(h:mI W2 c ⟨p,fn,lo i,lo j,⟨tk,tf⟩,s1,s2⟩ K wx)(hc:bR c)(hf:fn.size≤20)(ht:aB ⟨tk,tf⟩=true)(hi:i<6)(hj:j<6)
 (hW:W5=((((((((wx.setCell ⟨K,0,none⟩ (.int .i64 6)).setCell ⟨K,1,none⟩ (.string fn)).setCell ⟨K,2,none⟩ (.string ⟨#[]⟩)).setCell ⟨K,3,none⟩ (.string ⟨#[]⟩)).setCell ⟨K,4,none⟩ (.int .i64 0)).setCell ⟨K,5,none⟩ (.int .i64 0)).setCell ⟨K,6,none⟩ (.string ⟨#[]⟩)).setCell ⟨K,7,none⟩ (.string ⟨#[]⟩))):lp W2 c ⟨6,fn,⟨#[]⟩,⟨#[]⟩,⟨0,0⟩,⟨#[]⟩,⟨#[]⟩⟩ K W5:=by
 obtain⟨h1,h2,h3,h4,h5⟩:=h
 subst hW
 exact⟨ir h1 _ _ _ _ _ _ _ _,⟨⟨.inr (.inr (.inr (.inr (.inr ⟨rfl,rfl,rfl,rfl,rfl,rfl⟩)))),fun h=>by simp at h,fun h=>by simp at h,fun h=>by simp at h,(dB _ _).lY,(dB _ _).lY,bQ hf,pT,pT⟩,dB _ _,dB _ _,fun h=>by simp at h,fun h=>by simp at h⟩,dX h4 h5⟩
theorem cg3(h:mI W2 c ⟨p,fn,lo i,lo j,⟨tk,tf⟩,s1,s2⟩ K wx)(hc:bR c)(hf:fn.size≤20)(ht:aB ⟨tk,tf⟩=true)(hi:i<6)(hj:j<6)
 (hW:W5=((((((((wx.setCell ⟨K,0,none⟩ (.int .i64 3)).setCell ⟨K,1,none⟩ (.string fn)).setCell ⟨K,2,none⟩ (.string (lo i))).setCell ⟨K,3,none⟩ (.string ⟨#[]⟩)).setCell ⟨K,4,none⟩ (.int .i64 0)).setCell ⟨K,5,none⟩ (.int .i64 0)).setCell ⟨K,6,none⟩ (.string ⟨#[]⟩)).setCell ⟨K,7,none⟩ (.string ⟨#[]⟩))):lp W2 c ⟨3,fn,lo i,⟨#[]⟩,⟨0,0⟩,⟨#[]⟩,⟨#[]⟩⟩ K W5:=by
 obtain⟨h1,h2,h3,h4,h5⟩:=h
 subst hW
 obtain⟨n1,n2,n3⟩:=nz hi
 exact⟨ir h1 _ _ _ _ _ _ _ _,⟨⟨.inr (.inr (.inl ⟨rfl,rfl,rfl,rfl,rfl⟩)),fun _=>n1,fun h=>by simp at h,fun h=>by simp at h,(dB _ _).lY,(dB _ _).lY,bQ hf,n3,pT⟩,dB _ _,dB _ _,fun _=>n2,fun h=>by simp at h⟩,dX h4 h5⟩
theorem cg4(h:mI W2 c ⟨p,fn,lo i,lo j,⟨tk,tf⟩,s1,s2⟩ K wx)(hc:bR c)(hf:fn.size≤20)(ht:aB ⟨tk,tf⟩=true)(hi:i<6)(hj:j<6)
 (hW:W5=((((((((wx.setCell ⟨K,0,none⟩ (.int .i64 4)).setCell ⟨K,1,none⟩ (.string fn)).setCell ⟨K,2,none⟩ (.string ⟨#[]⟩)).setCell ⟨K,3,none⟩ (.string ⟨#[]⟩)).setCell ⟨K,4,none⟩ (.int .i64 tk)).setCell ⟨K,5,none⟩ (.int .i64 tf)).setCell ⟨K,6,none⟩ (.string s1)).setCell ⟨K,7,none⟩ (.string ⟨#[]⟩))):lp W2 c ⟨4,fn,⟨#[]⟩,⟨#[]⟩,⟨tk,tf⟩,s1,⟨#[]⟩⟩ K W5:=by
 obtain⟨h1,h2,h3,h4,h5⟩:=h
 subst hW
 have t1:=sU hc h2
 exact⟨ir h1 _ _ _ _ _ _ _ _,⟨⟨.inr (.inr (.inr (.inl ⟨rfl,rfl,rfl,rfl⟩))),fun h=>by simp at h,fun h=>by simp at h,fun _=>ht,t1.lY,(dB _ _).lY,bQ hf,pT,pT⟩,t1,dB _ _,fun h=>by simp at h,fun h=>by simp at h⟩,dX h4 h5⟩
theorem cg5(h:mI W2 c ⟨1+((4:Nat):Int),fn,lo i,lo j,⟨tk,tf⟩,s1,s2⟩ K wx)(hc:bR c)(hf:fn.size≤20)(ht:aB ⟨tk,tf⟩=true)(hi:i<6)(hj:j<6):lp W2 c ⟨5,fn,lo i,lo j,⟨tk,tf⟩,s1,s2⟩ K wx:=by
 obtain⟨h1,h2,h3,h4,h5⟩:=h
 have t1:=sU hc h2
 have t2:=sU hc h3
 obtain⟨n1,n2,n3⟩:=nz hi
 obtain⟨m1,m2,m3⟩:=nz hj
 exact⟨h1,⟨⟨.inr (.inr (.inr (.inr (.inl rfl)))),fun _=>n1,fun _=>m1,fun _=>ht,t1.lY,t2.lY,bQ hf,n3,m3⟩,t1,t2,fun _=>n2,fun _=>m2⟩,h4⟩
end
set_option maxHeartbeats 40000000 in
theorem Av(r:eD)(hr:I6 r.kind∧I6 r.field∧I6 r.name∧I6 r.more∧I6 r.type.kind∧I6 r.type.of∧I6 r.expr∧I6 r.other)(c:ai)(hc:bR c)(M:Nat→Prop)(w:World)(hM:Bd M w)(fv:Value)(bz:ae M w fv c.fields)(QH:c.fields.length≤8)(mf:∀f∈c.fields,f.name.size≤20):
 Calls Tryz.prog 57 #[.agg #[.int .i64 r.kind, .int .i64 r.field, .int .i64 r.name, .int .i64 r.more, .int .i64 r.type.kind, .int .i64 r.type.of, .int .i64 r.expr, .int .i64 r.other], .agg #[.string c.name,fv]] w (aF w (Jw c)):=by
 have ij:=hD bz
 obtain⟨fa,fc,rfl,EK,u7,_⟩:=bz.open_
 obtain⟨g0,g1,g2,g3,g4,g5,g6,g7⟩:=hr
 have WK:=hD g0;clear g0;have IT:=hD g1;clear g1;have QJ:=hD g2;clear g2;have N3:=hD g3;clear g3;have HG4:=hD g4;clear g4;have HG5:=hD g5;clear g5;have HG6:=hD g6;clear g6;have HG7:=hD g7;clear g7
 clear bz
 obtain⟨nm,fs⟩:=c
 obtain⟨rk,rf,rn,rm,⟨tk,tf⟩,rx,ro⟩:=r
 dsimp only at*
 go_enter Tryz.func57,Tryz.ntmps57
 go_wp2_with fail
 obtain⟨W,hW⟩:∃W:World,W=((((w.alloc (tY ⟨rk,rf,rn,rm,⟨tk,tf⟩,rx,ro⟩)).alloc (cg nm (.slice fa fs.length fc))).alloc (qE ⟨0,⟨#[]⟩,⟨#[]⟩,⟨#[]⟩,⟨0,0⟩,⟨#[]⟩,⟨#[]⟩⟩)).alloc tX).alloc (wR ⟨tk,tf⟩):=⟨_,rfl⟩
 have HB:Hid (Bx w [tY ⟨rk,rf,rn,rm,⟨tk,tf⟩,rx,ro⟩,cg nm (.slice fa fs.length fc),qE ⟨0,⟨#[]⟩,⟨#[]⟩,⟨#[]⟩,⟨0,0⟩,⟨#[]⟩,⟨#[]⟩⟩,tX,wR ⟨tk,tf⟩] W):=(show Bx _ _ _ by rw[hW];exact Bx.S5 w _ _ _ _ _)
 unfold tY cg qE tX wR at hW
 rw[←hW]
 clear hW
 have cB:=HB.out.b8
 simp only[List.length_cons,List.length_nil]at cB
 refine(lj M W (hM.below HB.out.1) ⟨0,[⟨0,tk,tf,false⟩]⟩ _ (Dd hM HG4.out HG5.out (HB.out.at4 rfl) (by omega)) (Fm)).mono ?_
 rintro e w1⟨_,rfl,⟨d,vE,QR,⟨_,rfl,⟨dv,rfl,hdf,_⟩⟩⟩,aw⟩
 obtain⟨t,ht⟩:∃t:ak,d.fields[0]? =some t:=⟨_,List.getElem?_eq_getElem (QR (by show 0<1;omega))⟩
 obtain⟨b,off,cap,hdv,bZ,ao⟩:=rQ hdf ht
 subst hdv
 have HT:Hid (aB t.type=true):=(show _ from Ju vE ht)
 obtain⟨d0,d1,d2,d3⟩:=ao w1 (Below.refl _ _)
 have hdl:=QR (by show 0<1;omega)
 have aO:=hD (HB.out.below aw)
 clear ao vE QR hdf aw HB
 obtain⟨⟨tn,⟨wB,wC⟩,ti⟩,EF⟩:∃t',t'=t:=⟨t,rfl⟩
 subst EF
 dsimp only at*
 simp only[Nat.zero_mul,Nat.add_zero]at d0 d1 d2 d3
 have zE:∀(s:ByteArray)(a:Option Addr)(n cap:Nat)(w:World),(Instr.field 91 (.agg #[.string s, .slice a n cap]) 1).run Tryz.prog w= .ok (.slice a n cap) w:=fun _ _ _ _ _=>by kernel_rfl
 go_upto_region 3 with fail
 obtain⟨W2,sP⟩:∃W2:World,W2=w1.alloc (MY ⟨wB,wC⟩):=⟨_,rfl⟩
 have aA:Hid (Bx w [tY ⟨rk,rf,rn,rm,⟨tk,tf⟩,rx,ro⟩,cg nm (.slice fa fs.length fc),qE ⟨0,⟨#[]⟩,⟨#[]⟩,⟨#[]⟩,⟨0,0⟩,⟨#[]⟩,⟨#[]⟩⟩,tX,wR ⟨tk,tf⟩] W2):=(show Bx _ _ _ by rw[sP];exact aO.out.alloc _)
 have OX:Hid (W2.heap[w1.heap.size]? =some (MY ⟨wB,wC⟩)):=(show _=_ by rw[sP];exact heap_alloc_new w1 _)
 have hT2:w1.heap.size<W2.heap.size:=(Array.getElem?_eq_some_iff.1 OX.out).1
 have iJ:=aA.out.b8
 simp only[List.length_cons,List.length_nil]at iJ
 unfold MY at sP
 rw[←sP]
 clear sP d0 d1 d2 d3 aO
 generalize w1.heap.size=T at*
 have HS:Hid (∀W',Below W2.heap.size W2 W'→XS w rk rn rm rx ro wB wC nm (.slice fa fs.length fc) T W'):=(show∀W',_→_ from fun W' hb=>cgS aA.out OX.out hb)
 have O2:Hid (∀W n,Below W2.heap.size W2 W→I6 n→Calls Tryz.prog 90 #[.int .i64 n, .agg #[.int .i64 wB, .int .i64 wC], .agg #[.string nm, .slice fa fs.length fc]] W (aF W fun v _=>∃s,v= .string s∧fO ⟨nm,fs⟩ ⟨wB,wC⟩ s)):=(show∀W n,_→_→_ from fun W n hb hn=>C5 M W ⟨nm,fs⟩ _ n ⟨wB,wC⟩ ((ij.out.below aA.out.1).below hb) QH hn HT.out mf)
 have HJ:Hid (Below W2.heap.size W2 W2):=(show _ from Below.refl _ _)
 have YM:=bU rk 6 (by omega)
 have tp:=bU rn 6 (by omega)
 have zC:=bU rm 6 (by omega)
 go_cut [8](fun s8 wx=>∃(K:Nat)(s1 s2:ByteArray),s8= .pointer (some ⟨K,0,none⟩)∧Hid (mI W2 ⟨nm,fs⟩ ⟨1+(aD rk 6:Int),⟨#[]⟩,lo (aD rn 6),lo (aD rm 6),⟨wB,wC⟩,s1,s2⟩ K wx))
 case first=>
  have z1:(0:Int)≤(aD rn 6:Int):=Int.natCast_nonneg _
  have z2:(aD rn 6:Int)<6:=by omega
  have z3:(0:Int)≤(aD rm 6:Int):=Int.natCast_nonneg _
  have z4:(aD rm 6:Int)<6:=by omega
  have z5:IntKind.i64.wrap (1+(aD rk 6:Int))=1+(aD rk 6:Int):=IntWalk.i64_in _ (by omega)
  obtain⟨c0,c1,c2,c3,c4,c5,c6,c7,c8,c9,QS⟩:=HS.out W2 (Below.refl _ _)
  go_region_held3(fun w'=>w'.cell? ⟨w.heap.size,0,none⟩=some (.int .i64 rk)∧w'.cell? ⟨w.heap.size,2,none⟩=some (.int .i64 rn)∧w'.cell? ⟨w.heap.size,3,none⟩=some (.int .i64 rm)∧w'.cell? ⟨w.heap.size,6,none⟩=some (.int .i64 rx)∧w'.cell? ⟨w.heap.size,7,none⟩=some (.int .i64 ro)∧w'.cell? ⟨w.heap.size+1+1+1,aD rn 6,none⟩=some (.string (lo (aD rn 6)))∧w'.cell? ⟨w.heap.size+1+1+1,aD rm 6,none⟩=some (.string (lo (aD rm 6)))∧w'.cell? ⟨T,0,none⟩=some (.int .i64 wB)∧w'.cell? ⟨T,1,none⟩=some (.int .i64 wC)∧w'.cell? ⟨w.heap.size+1,0,none⟩=some (.string nm)∧w'.cell? ⟨w.heap.size+1,1,none⟩=some (.slice fa fs.length fc))
   (first|with_reducible exact HS.out _ HJ.out|with_reducible exact HS.out _ HJ.out.drew|with_reducible exact HS.out _ (HJ.out.alloc HJ.out.size _)|with_reducible exact HS.out _ ((HJ.out.alloc HJ.out.size _).drew)|with_reducible exact HS.out _ ez.out|with_reducible exact HS.out _ ez.out.drew|with_reducible exact HS.out _ (ez.out.alloc ez.out.size _)|with_reducible exact HS.out _ ((ez.out.alloc ez.out.size _).drew)|with_reducible exact HS.out _ dn.out|with_reducible exact HS.out _ dn.out.drew|with_reducible exact HS.out _ (dn.out.alloc dn.out.size _)|with_reducible exact HS.out _ ((dn.out.alloc dn.out.size _).drew)|with_reducible exact HS.out _ (dX dn.out kT.out.2))
   (first
     |(go_at_call 89;refine(fY _ _ _ (by first|exact WK.out|exact QJ.out|exact N3.out) (by omega) (by omega)).mono ?_;rintro e w'⟨rfl,rfl⟩)
     |(go_at_call 90
       with_reducible refine(O2.out _ rx (by first|with_reducible exact HJ.out|with_reducible exact HJ.out.drew|with_reducible exact HJ.out.alloc HJ.out.size _|with_reducible exact(HJ.out.alloc HJ.out.size _).drew) HG6.out).mono ?_
       rintro e wa⟨_,rfl,⟨s1,rfl,dc⟩,hb⟩
       have HXa:=hD dc
       clear dc
       try(with_reducible(have Ud:=hD (Fo HJ.out hb)))
       try(with_reducible(have Ud:=hD (Fp HJ.out hb)))
       have ez:Hid (Below W2.heap.size W2 wa):=(by first|with_reducible exact hD (PK HJ.out hb)|with_reducible exact hD (Wa HJ.out hb)|with_reducible exact hD (Wb HJ.out hb)|with_reducible exact hD (Wc HJ.out hb))
       clear hb)
     |(go_at_call 90
       with_reducible refine(O2.out _ ro (by first|with_reducible exact ez.out|with_reducible exact ez.out.drew|with_reducible exact ez.out.alloc ez.out.size _|with_reducible exact(ez.out.alloc ez.out.size _).drew) HG7.out).mono ?_
       rintro e wb⟨_,rfl,⟨s2,rfl,dc⟩,hb⟩
       have HXb:=hD dc
       clear dc
       try(with_reducible(have kT:=hD (MZ Ud.out hb)))
       try(with_reducible(have kT:=hD (Fo ez.out hb)))
       try(with_reducible(have kT:=hD (Fp ez.out hb)))
       try with_reducible have k0:=(ah kT.out.1).1
       try with_reducible have k1:=(ah kT.out.1).2.1
       try with_reducible have k2:=(ah kT.out.1).2.2.1
       try with_reducible have k3:=(ah kT.out.1).2.2.2.1
       try with_reducible have k4:=(ah kT.out.1).2.2.2.2.1
       try with_reducible have k5:=(ah kT.out.1).2.2.2.2.2.1
       try with_reducible have k6:=(ah kT.out.1).2.2.2.2.2.2.1
       try with_reducible have k7:=(ah kT.out.1).2.2.2.2.2.2.2
       try with_reducible have y0:=aa kT.out.1 0
       try with_reducible have y1:=aa kT.out.1 1
       try with_reducible have y2:=aa kT.out.1 2
       try with_reducible have y3:=aa kT.out.1 3
       try with_reducible have y4:=aa kT.out.1 4
       try with_reducible have y5:=aa kT.out.1 5
       try with_reducible have y6:=aa kT.out.1 6
       try with_reducible have y7:=aa kT.out.1 7
       have dn:Hid (Below W2.heap.size W2 wb):=(by first|with_reducible exact hD (PK ez.out hb)|with_reducible exact hD (Wa ez.out hb)|with_reducible exact hD (Wb ez.out hb)|with_reducible exact hD (Wc ez.out hb))
       clear hb))
  all_goals(go_wp2_with fail;go_meet)
  ·refine⟨_,s1,s2,rfl,?_⟩
   exact hD (Jv HXa HXb dn.out)
  all_goals
   refine⟨_,s1,s2,rfl,?_⟩
   exact hD (PL HXa HXb dn.out kT.out)
 case rest=>
  obtain⟨K,s1,s2,rfl,HC⟩:=hcut
  obtain⟨wx,Cj⟩:∃wx:World,wx=wc:=⟨_,rfl⟩
  subst Cj
  have Ss:Hid (∀W',Below wx.heap.size wx W'→XS w rk rn rm rx ro wB wC nm (.slice fa fs.length fc) T W'):=(show∀W',_→_ from fun W' hb=>HS.out W' (PK HC.out.2.2.2.1 hb))
  obtain⟨c0,c1,c2,c3,c4,c5,c6,c7,c8,c9,QS⟩:=Ss.out wx (Below.refl _ _)
  obtain⟨k0,k1,k2,k3,k4,k5,k6,k7⟩:=ah HC.out.1
  have y1:=aa HC.out.1 1
  have kq:=(ah ((aA.out.cJ HC.out.2.2.2.1 (by have:=aA.out.b8;exact this)).bJ rfl)).2.1
  go_upto_if 55 with fail
  go_cut [](fun wy=>∃fn:ByteArray,Hid (fn.size≤20∧mI W2 ⟨nm,fs⟩ ⟨1+(aD rk 6:Int),fn,lo (aD rn 6),lo (aD rm 6),⟨wB,wC⟩,s1,s2⟩ K wy))
  case first=>
   by_cases h0:0<fs.length
   ·have hpf:=bU rf fs.length h0
    obtain⟨f,hf⟩:∃f:ak,fs[aD rf fs.length]? =some f:=⟨_,List.getElem?_eq_getElem hpf⟩
    obtain⟨bf,of,cf,O8,Cg,T8⟩:=rQ ij.out hf
    obtain⟨rfl,rfl⟩:fa=some ⟨bf,of,none⟩∧fc=cf:=by simpa using O8
    have q0:=(T8 wx (aA.out.1.trans (HC.out.2.2.2.1.mono (by omega)))).1
    have Mx:Hid (f.name.size≤20):=(show _ from mf f (List.mem_of_getElem? hf))
    have EM:Hid (∀W,Calls Tryz.prog 89 #[.int .i64 rf, .int .i64 (fs.length:Int)] W fun e w'=>e= .returned (.int .i64 (aD rf fs.length:Int))∧W=w'):=(show∀W,_ from fun W=>by
     have h:=fY rf (fs.length:Int) W IT.out (by omega) (by omega)
     simpa using h)
    clear hf O8 T8
    have z1:(0:Int)≤(aD rf fs.length:Int):=Int.natCast_nonneg _
    have z2:(aD rf fs.length:Int)<(fs.length:Int):=by omega
    have hKW:=HC.out.2.2.2.2
    have nK1:w.heap.size≠K:=by omega
    have nK2:w.heap.size+1≠K:=by omega
    have nK3:bf≠K:=by omega
    go_wp2_with fail
    go_region_law(first
     |(go_simp
       go_at_call 89
       refine(EM.out _).mono ?_
       rintro e w'⟨rfl,rfl⟩))
    all_goals(go_wp2_with fail;go_meet)
    all_goals exact⟨f.name,(show _∧mI _ _ _ _ _ from⟨Mx.out,by first|exact Au HC.out f.name|exact Gv HC.out f.name⟩)⟩
   ·go_wp2_with fail
    go_meet
    exact⟨⟨#[]⟩,(show _∧mI _ _ _ _ _ from⟨by decide,HC.out⟩)⟩
  case rest=>
   obtain⟨fn,HF⟩:=hcut
   obtain⟨wy,QT⟩:∃wy:World,wy=wc:=⟨_,rfl⟩
   subst QT
   clear c0 c1 c2 c3 c4 c5 c6 c7 c8 c9 QS k0 k1 k2 k3 k4 k5 k6 k7 y1 kq Ss HC
   have HC:Hid (mI W2 ⟨nm,fs⟩ ⟨1+(aD rk 6:Int),fn,lo (aD rn 6),lo (aD rm 6),⟨wB,wC⟩,s1,s2⟩ K wy):=HF.out.2
   have Mx:Hid (fn.size≤20):=HF.out.1
   have HX:Hid (bR ⟨nm,fs⟩):=(show _ from hc)
   obtain⟨c0,c1,c2,c3,c4,c5,c6,c7,c8,c9,QS⟩:=HS.out wy HC.out.2.2.2.1
   generalize aD rk 6=p at*
   obtain⟨k0,k1,k2,k3,k4,k5,k6,k7⟩:=ah HC.out.1
   go_upto_block 0 with fail
   go_cut [](fun wz=>∃x:aq,Hid (lp W2 ⟨nm,fs⟩ x K wz))
   case rest=>
    obtain⟨x,HD⟩:=hcut
    obtain⟨W6,FW⟩:∃W6:World,W6=wc:=⟨_,rfl⟩
    subst FW
    clear c0 c1 c2 c3 c4 c5 c6 c7 c8 c9 QS k0 k1 k2 k3 k4 k5 k6 k7 HC HF
    obtain⟨⟨xk,xf,xn,xm,⟨xt,xo⟩,xe,xz⟩,hx⟩:∃y,y=x:=⟨x,rfl⟩
    subst hx
    obtain⟨m0,m1,m2,m3,m4,m5,m6,m7⟩:=ah HD.out.1
    obtain⟨c0,c1,c2,c3,c4,c5,c6,c7,c8,c9,QS⟩:=HS.out W6 HD.out.2.2
    have cQ:=hD (aA.out.cJ HD.out.2.2 (by have:=aA.out.b8;exact this))
    obtain⟨b,hb⟩:∃b,gY ⟨nm,fs⟩ ⟨xk,xf,xn,xm,⟨xt,xo⟩,xe,xz⟩=b:=⟨_,rfl⟩
    have N0:=hD (rO ⟨nm,fs⟩ ⟨xk,xf,xn,xm,⟨xt,xo⟩,xe,xz⟩ HD.out.2.1.pre HX.out.right (bQ HX.out.small) b hb M W6.drew (hM.below (w':=W6) cQ.out.1) (.slice fa fs.length fc) ((ij.out.below cQ.out.1).ev ((Ev.refl _ _).drew)))
    have EI:=hD hb
    clear hb
    clear c0 c1 c2 c3 c4 c5 c6 c7 c8
    have HSD:Hid (∀W',Below W6.drew.heap.size W6.drew W'→(W'.cell? ⟨K,0,none⟩=some (.int .i64 xk)∧W'.cell? ⟨K,1,none⟩=some (.string xf)∧W'.cell? ⟨K,2,none⟩=some (.string xn)∧W'.cell? ⟨K,3,none⟩=some (.string xm)∧W'.cell? ⟨K,4,none⟩=some (.int .i64 xt)∧W'.cell? ⟨K,5,none⟩=some (.int .i64 xo)∧W'.cell? ⟨K,6,none⟩=some (.string xe)∧W'.cell? ⟨K,7,none⟩=some (.string xz)∧W'.cell? ⟨w.heap.size+1,0,none⟩=some (.string nm)∧W'.cell? ⟨w.heap.size+1,1,none⟩=some (.slice fa fs.length fc))):=(show∀W',_→_ from fun W' hb=>by
     have hk:=(hb.block K (Array.getElem?_eq_some_iff.1 HD.out.1).1).trans HD.out.1
     obtain⟨m0,m1,m2,m3,m4,m5,m6,m7⟩:=ah hk
     obtain⟨r0,r1⟩:=af ((cQ.out.drew.below hb).bh rfl)
     exact⟨m0,m1,m2,m3,m4,m5,m6,m7,r0,r1⟩)
    go_upto_region 15 with fail
    go_region_law(first
     |(go_simp
       go_at_call 91
       refine N0.out.mono ?_
       rintro e w7⟨rfl,YN⟩
       have oe:=hD (cQ.out.drew.below YN)
       have Lw:=hD (HSD.out w7 YN)
       have t0:=Lw.out.1
       have t1:=Lw.out.2.1
       have t2:=Lw.out.2.2.1
       have t3:=Lw.out.2.2.2.1
       have t4:=Lw.out.2.2.2.2.1
       have t5:=Lw.out.2.2.2.2.2.1
       have t6:=Lw.out.2.2.2.2.2.2.1
       have t7:=Lw.out.2.2.2.2.2.2.2.1
       have g0:=(ah (oe.out.df rfl)).1
       have g1:=(ah (oe.out.df rfl)).2.1
       have g2:=(ah (oe.out.df rfl)).2.2.1
       have g3:=(ah (oe.out.df rfl)).2.2.2.1
       have g4:=(ah (oe.out.df rfl)).2.2.2.2.1
       have g5:=(ah (oe.out.df rfl)).2.2.2.2.2.1
       have g6:=(ah (oe.out.df rfl)).2.2.2.2.2.2.1
       have g7:=(ah (oe.out.df rfl)).2.2.2.2.2.2.2
       have f0:=aa (oe.out.df rfl) 0
       have f1:=aa (oe.out.df rfl) 1
       have f2:=aa (oe.out.df rfl) 2
       have f3:=aa (oe.out.df rfl) 3
       have f4:=aa (oe.out.df rfl) 4
       have f5:=aa (oe.out.df rfl) 5
       have f6:=aa (oe.out.df rfl) 6
       have f7:=aa (oe.out.df rfl) 7
       clear YN))
    all_goals
     go_wp2_with fail
     refine bodyPost_ret (v:= .tuple #[.agg #[.int .i64 xk, .string xf, .string xn, .string xm, .int .i64 xt, .int .i64 xo, .string xe, .string xz], .bool b]) (by simp[results,Tryz.results57,go_sem,g0,g1,g2,g3,g4,g5,g6,g7]) rfl ⟨_,rfl,(show Jw _ _ _ from⟨⟨xk,xf,xn,xm,⟨xt,xo⟩,xe,xz⟩,b,HD.out.2.1,EI.out,rfl⟩),?_⟩
     exact dX oe.out.1 (by show w.heap.size≤w.heap.size+1+1;omega)
   clear k0 k1 k2 k3 k4 k5 k6 k7
   obtain rfl|rfl|rfl|rfl|rfl|rfl:p=0∨p=1∨p=2∨p=3∨p=4∨p=5:=by omega
   ·obtain⟨k0,k1,k2,k3,k4,k5,k6,k7⟩:=ah HC.out.1
    have k0:wy.cell? ⟨K,0,none⟩=some (.int .i64 1):=k0
    have y0:=aa HC.out.1 0
    have y1:=aa HC.out.1 1
    have y2:=aa HC.out.1 2
    have y3:=aa HC.out.1 3
    have y4:=aa HC.out.1 4
    have y5:=aa HC.out.1 5
    have y6:=aa HC.out.1 6
    have y7:=aa HC.out.1 7
    go_wp2_with fail
    go_meet
    obtain⟨W5,jQ⟩:∃W5:World,W5=((((((((wy.setCell ⟨K,0,none⟩ (.int .i64 1)).setCell ⟨K,1,none⟩ (.string ⟨#[]⟩)).setCell ⟨K,2,none⟩ (.string (lo (aD rn 6)))).setCell ⟨K,3,none⟩ (.string (⟨#[]⟩))).setCell ⟨K,4,none⟩ (.int .i64 wB)).setCell ⟨K,5,none⟩ (.int .i64 wC)).setCell ⟨K,6,none⟩ (.string s1)).setCell ⟨K,7,none⟩ (.string ⟨#[]⟩)):=⟨_,rfl⟩
    try rw[←jQ]
    have HD:Hid (lp W2 ⟨nm,fs⟩ ⟨1,⟨#[]⟩,lo (aD rn 6),⟨#[]⟩,⟨wB,wC⟩,s1,⟨#[]⟩⟩ K W5):=(show lp _ _ _ _ _ from cg1 HC.out HX.out Mx.out HT.out tp zC jQ)
    clear jQ
    exact⟨_,HD⟩
   ·obtain⟨k0,k1,k2,k3,k4,k5,k6,k7⟩:=ah HC.out.1
    have k0:wy.cell? ⟨K,0,none⟩=some (.int .i64 2):=k0
    have y0:=aa HC.out.1 0
    have y1:=aa HC.out.1 1
    have y2:=aa HC.out.1 2
    have y3:=aa HC.out.1 3
    have y4:=aa HC.out.1 4
    have y5:=aa HC.out.1 5
    have y6:=aa HC.out.1 6
    have y7:=aa HC.out.1 7
    go_wp2_with fail
    go_meet
    obtain⟨W5,jQ⟩:∃W5:World,W5=((((((((wy.setCell ⟨K,0,none⟩ (.int .i64 2)).setCell ⟨K,1,none⟩ (.string fn)).setCell ⟨K,2,none⟩ (.string (⟨#[]⟩))).setCell ⟨K,3,none⟩ (.string (⟨#[]⟩))).setCell ⟨K,4,none⟩ (.int .i64 0)).setCell ⟨K,5,none⟩ (.int .i64 0)).setCell ⟨K,6,none⟩ (.string ⟨#[]⟩)).setCell ⟨K,7,none⟩ (.string ⟨#[]⟩)):=⟨_,rfl⟩
    try rw[←jQ]
    have HD:Hid (lp W2 ⟨nm,fs⟩ ⟨2,fn,⟨#[]⟩,⟨#[]⟩,⟨0,0⟩,⟨#[]⟩,⟨#[]⟩⟩ K W5):=(show lp _ _ _ _ _ from cg2 HC.out HX.out Mx.out HT.out tp zC jQ)
    clear jQ
    exact⟨_,HD⟩
   ·obtain⟨k0,k1,k2,k3,k4,k5,k6,k7⟩:=ah HC.out.1
    have k0:wy.cell? ⟨K,0,none⟩=some (.int .i64 3):=k0
    have y0:=aa HC.out.1 0
    have y1:=aa HC.out.1 1
    have y2:=aa HC.out.1 2
    have y3:=aa HC.out.1 3
    have y4:=aa HC.out.1 4
    have y5:=aa HC.out.1 5
    have y6:=aa HC.out.1 6
    have y7:=aa HC.out.1 7
    go_wp2_with fail
    go_meet
    obtain⟨W5,jQ⟩:∃W5:World,W5=((((((((wy.setCell ⟨K,0,none⟩ (.int .i64 3)).setCell ⟨K,1,none⟩ (.string fn)).setCell ⟨K,2,none⟩ (.string (lo (aD rn 6)))).setCell ⟨K,3,none⟩ (.string (⟨#[]⟩))).setCell ⟨K,4,none⟩ (.int .i64 0)).setCell ⟨K,5,none⟩ (.int .i64 0)).setCell ⟨K,6,none⟩ (.string ⟨#[]⟩)).setCell ⟨K,7,none⟩ (.string ⟨#[]⟩)):=⟨_,rfl⟩
    try rw[←jQ]
    have HD:Hid (lp W2 ⟨nm,fs⟩ ⟨3,fn,lo (aD rn 6),⟨#[]⟩,⟨0,0⟩,⟨#[]⟩,⟨#[]⟩⟩ K W5):=(show lp _ _ _ _ _ from cg3 HC.out HX.out Mx.out HT.out tp zC jQ)
    clear jQ
    exact⟨_,HD⟩
   ·obtain⟨k0,k1,k2,k3,k4,k5,k6,k7⟩:=ah HC.out.1
    have k0:wy.cell? ⟨K,0,none⟩=some (.int .i64 4):=k0
    have y0:=aa HC.out.1 0
    have y1:=aa HC.out.1 1
    have y2:=aa HC.out.1 2
    have y3:=aa HC.out.1 3
    have y4:=aa HC.out.1 4
    have y5:=aa HC.out.1 5
    have y6:=aa HC.out.1 6
    have y7:=aa HC.out.1 7
    go_wp2_with fail
    go_meet
    obtain⟨W5,jQ⟩:∃W5:World,W5=((((((((wy.setCell ⟨K,0,none⟩ (.int .i64 4)).setCell ⟨K,1,none⟩ (.string fn)).setCell ⟨K,2,none⟩ (.string (⟨#[]⟩))).setCell ⟨K,3,none⟩ (.string (⟨#[]⟩))).setCell ⟨K,4,none⟩ (.int .i64 wB)).setCell ⟨K,5,none⟩ (.int .i64 wC)).setCell ⟨K,6,none⟩ (.string s1)).setCell ⟨K,7,none⟩ (.string ⟨#[]⟩)):=⟨_,rfl⟩
    try rw[←jQ]
    have HD:Hid (lp W2 ⟨nm,fs⟩ ⟨4,fn,⟨#[]⟩,⟨#[]⟩,⟨wB,wC⟩,s1,⟨#[]⟩⟩ K W5):=(show lp _ _ _ _ _ from cg4 HC.out HX.out Mx.out HT.out tp zC jQ)
    clear jQ
    exact⟨_,HD⟩
   ·obtain⟨k0,k1,k2,k3,k4,k5,k6,k7⟩:=ah HC.out.1
    have k0:wy.cell? ⟨K,0,none⟩=some (.int .i64 5):=k0
    go_wp2_with fail
    go_meet
    have HD:Hid (lp W2 ⟨nm,fs⟩ ⟨5,fn,lo (aD rn 6),lo (aD rm 6),⟨wB,wC⟩,s1,s2⟩ K wy):=(show lp _ _ _ _ _ from cg5 HC.out HX.out Mx.out HT.out tp zC)
    exact⟨_,HD⟩
   ·obtain⟨k0,k1,k2,k3,k4,k5,k6,k7⟩:=ah HC.out.1
    have k0:wy.cell? ⟨K,0,none⟩=some (.int .i64 6):=k0
    have y0:=aa HC.out.1 0
    have y1:=aa HC.out.1 1
    have y2:=aa HC.out.1 2
    have y3:=aa HC.out.1 3
    have y4:=aa HC.out.1 4
    have y5:=aa HC.out.1 5
    have y6:=aa HC.out.1 6
    have y7:=aa HC.out.1 7
    go_wp2_with fail
    go_meet
    obtain⟨W5,jQ⟩:∃W5:World,W5=((((((((wy.setCell ⟨K,0,none⟩ (.int .i64 6)).setCell ⟨K,1,none⟩ (.string fn)).setCell ⟨K,2,none⟩ (.string (⟨#[]⟩))).setCell ⟨K,3,none⟩ (.string (⟨#[]⟩))).setCell ⟨K,4,none⟩ (.int .i64 0)).setCell ⟨K,5,none⟩ (.int .i64 0)).setCell ⟨K,6,none⟩ (.string ⟨#[]⟩)).setCell ⟨K,7,none⟩ (.string ⟨#[]⟩)):=⟨_,rfl⟩
    try rw[←jQ]
    have HD:Hid (lp W2 ⟨nm,fs⟩ ⟨6,fn,⟨#[]⟩,⟨#[]⟩,⟨0,0⟩,⟨#[]⟩,⟨#[]⟩⟩ K W5):=(show lp _ _ _ _ _ from cg6 HC.out HX.out Mx.out HT.out tp zC jQ)
    clear jQ
    exact⟨_,HD⟩
theorem JA:∀s∈jy,s.data.toList∈names9:=by decide
theorem jW {c:ai}(h:gE c):bR c:=⟨h.1,fun f hf=>JA _ (h.2.2.1 f hf),(fM _ h.2.2.2).2⟩
def yB(n:Int)(fv cv:Value):Obj:= .cells #[.int .i64 n,fv,cv] 101 (0,0)
theorem Aw {M:Nat→Prop}{w:World}{cv:Value}{l:List eD}(h:ae M w cv l){k:Nat}{x:eD}(hx:l[k]? =some x):∃b off cap,cv= .slice (some ⟨b,off,none⟩) l.length cap∧b<w.heap.size∧(I6 x.kind∧I6 x.field∧I6 x.name∧I6 x.more∧I6 x.type.kind∧I6 x.type.of∧I6 x.expr∧I6 x.other)∧∀W,Below w.heap.size w W→W.cell? ⟨b,off+k*8,none⟩=some (.int .i64 x.kind)∧W.cell? ⟨b,off+k*8+1,none⟩=some (.int .i64 x.field)∧W.cell? ⟨b,off+k*8+2,none⟩=some (.int .i64 x.name)∧W.cell? ⟨b,off+k*8+3,none⟩=some (.int .i64 x.more)∧W.cell? ⟨b,off+k*8+4,none⟩=some (.int .i64 x.type.kind)∧W.cell? ⟨b,off+k*8+5,none⟩=some (.int .i64 x.type.of)∧W.cell? ⟨b,off+k*8+6,none⟩=some (.int .i64 x.expr)∧W.cell? ⟨b,off+k*8+7,none⟩=some (.int .i64 x.other):=by
 obtain⟨a,cap,rfl,hl,_,hc⟩:=h.open_
 have hk:=(List.getElem?_eq_some_iff.1 hx).1
 obtain⟨b,off,rfl,_,hb,aC⟩:=hc (by omega)
 obtain⟨cs,⟨rfl,hi⟩,bE⟩:=aC k x hx
 refine⟨b,off,cap,rfl,hb,hi,fun W hB=> ?_⟩
 have g:∀j u,([.int .i64 x.kind, .int .i64 x.field, .int .i64 x.name, .int .i64 x.more, .int .i64 x.type.kind, .int .i64 x.type.of, .int .i64 x.expr, .int .i64 x.other]:List Value)[j]? =some u→W.cell? ⟨b,off+k*8+j,none⟩=some u:=fun j u hu=>(hB.cell (p:=⟨b,off+k*8+j,none⟩) hb).trans (bE j u hu)
 exact⟨g 0 _ rfl,g 1 _ rfl,g 2 _ rfl,g 3 _ rfl,g 4 _ rfl,g 5 _ rfl,g 6 _ rfl,g 7 _ rfl⟩
def ph(M:Nat→Prop)(w:World)(K:Nat):Nat→Prop:=fun i=>eP M w 2 i∨i=K
structure qY(M:Nat→Prop)(w w1:World)(o0 o1:Obj)(c:ai)(fv:Value)(K k n:Nat)(a:Option Addr)(cap:Nat)(chs:List aq)(d:ai)(wr:World):Prop where
 cok:cu c chs d
 len:chs.length=n
 le:n≤k
 blk:wr.heap[K]? =some (bY c.name fv (.slice a n cap))
 acc:aK (ph M w K) (K+1) 142 wr (.slice a n cap) chs
 fs0:ae (eP M w 2) w1 fv c.fields
 low:Below K w1 wr
 kw:K=w1.heap.size
 bx:Bx w [o0,o1] wr
 hK:w.heap.size+2≤K
theorem qY.below {M:Nat→Prop}{w w1:World}{o0 o1:Obj}{c d:ai}{fv:Value}{K k n:Nat}{a:Option Addr}{cap:Nat}{chs:List aq}{wr wx:World}(h:qY M w w1 o0 o1 c fv K k n a cap chs d wr)(hb:Below wr.heap.size wr wx):qY M w w1 o0 o1 c fv K k n a cap chs d wx:=
 ⟨h.cok,h.len,h.le,(hb.block K (Array.getElem?_eq_some_iff.1 h.blk).1).trans h.blk,h.acc.below hb,h.fs0,h.low.trans (hb.mono (by have:=(Array.getElem?_eq_some_iff.1 h.blk).1;omega)),h.kw,h.bx.below hb,h.hK⟩
theorem qY.fs {M:Nat→Prop}{w w1:World}{o0 o1:Obj}{c d:ai}{fv:Value}{K k n:Nat}{a:Option Addr}{cap:Nat}{chs:List aq}{wr:World}(h:qY M w w1 o0 o1 c fv K k n a cap chs d wr):ae (ph M w K) wr fv c.fields:=
 h.fs0.ev ⟨ag.aj (by rw[←h.kw];exact h.low),fun i hi=>hi.imp_right fun e=>by rw[e,h.kw];exact Nat.le_refl _⟩
theorem qY.next {M:Nat→Prop}{w w1:World}{o0 o1:Obj}{c d:ai}{fv:Value}{K k n:Nat}{a:Option Addr}{cap:Nat}{chs:List aq}{wr:World}(h:qY M w w1 o0 o1 c fv K k n a cap chs d wr):qY M w w1 o0 o1 c fv K (k+1) n a cap chs d wr:=
 ⟨h.cok,h.len,Nat.le_succ_of_le h.le,h.blk,h.acc,h.fs0,h.low,h.kw,h.bx,h.hK⟩
theorem qZ {M:Nat→Prop}{w:World}{K:Nat}(hM:Bd M w)(hK:w.heap.size+2≤K):∀i,ph M w K i→i<K+1:=fun i hi=>by
 rcases hi with(hi|hi)|hi
 ·have:=hM i hi;omega
 ·omega
 ·omega
structure Dg(d:ai)(x:aq)(ok:Bool)(wr:World)(K5:Nat)(wx:World):Prop where
 blk:wx.heap[K5]? =some (qE x)
 gen:gJ d x
 ok:gY d x=ok
 below:Below wr.heap.size wr wx
 hK:wr.heap.size≤K5
theorem yC {d:ai}{k:Int}{f n m:ByteArray}{tk tf:Int}{s1 s2:ByteArray}{ok:Bool}{wr w':World}(h1:Hid (gJ d ⟨k,f,n,m,⟨tk,tf⟩,s1,s2⟩))(h2:Hid (gY d ⟨k,f,n,m,⟨tk,tf⟩,s1,s2⟩=ok))(hj:Below wr.heap.size wr w'):Dg d ⟨k,f,n,m,⟨tk,tf⟩,s1,s2⟩ ok wr w'.heap.size (w'.alloc (.cells #[.int .i64 k, .string f, .string n, .string m, .int .i64 tk, .int .i64 tf, .string s1, .string s2] 142)):=
 ⟨heap_alloc_new w' _,h1.out,h2.out,hj.alloc hj.size _,hj.size⟩
theorem Dh {d:ai}{k:Int}{f n m:ByteArray}{tk tf:Int}{s1 s2:ByteArray}{ok:Bool}{wr w':World}{K:Nat}{x0 x1 x2 x3 x4 x5 x6 x7:Value}(h1:Hid (gJ d ⟨k,f,n,m,⟨tk,tf⟩,s1,s2⟩))(h2:Hid (gY d ⟨k,f,n,m,⟨tk,tf⟩,s1,s2⟩=ok))(hj:Below wr.heap.size wr w')(hk:w'.heap[K]? =some (.cells #[x0,x1,x2,x3,x4,x5,x6,x7] 142 (0,0))∧wr.heap.size≤K):
 Dg d ⟨k,f,n,m,⟨tk,tf⟩,s1,s2⟩ ok wr K ((((((((w'.setCell ⟨K,0,none⟩ (.int .i64 k)).setCell ⟨K,1,none⟩ (.string f)).setCell ⟨K,2,none⟩ (.string n)).setCell ⟨K,3,none⟩ (.string m)).setCell ⟨K,4,none⟩ (.int .i64 tk)).setCell ⟨K,5,none⟩ (.int .i64 tf)).setCell ⟨K,6,none⟩ (.string s1)).setCell ⟨K,7,none⟩ (.string s2)):=
 ⟨ir hk.1 _ _ _ _ _ _ _ _,h1.out,h2.out,dX hj hk.2,hk.2⟩
theorem Ax:(Tryz.prog.info? 142).map (fun i=>(i.zero,i.size,i.bytes))=some (some (.agg #[.int .i64 0, .string ⟨#[]⟩, .string ⟨#[]⟩, .string ⟨#[]⟩, .int .i64 0, .int .i64 0, .string ⟨#[]⟩, .string ⟨#[]⟩]),8,104):=by kernel_rfl
theorem Ay {c:ai}{t:aJ}{s:ByteArray}(h:mH c t s):s.size≤maxLen:=by
 rcases h with h|⟨x,hx⟩
 ·have h0:s.size=0:=by rw[←aP,h];rfl
  rw[h0];exact Nat.zero_le _
 ·have h1:=hx.parse
  unfold dq at h1
  split at h1
  ·cases h1
  ·split at h1
   ·split at h1
    ·rename_i hh;have:=hh.1;rw[aP]at this;unfold maxLen;omega
    ·cases h1
   ·cases h1
theorem Gx {d:ai}{k:Int}{f n m:ByteArray}{tk tf:Int}{s1 s2:ByteArray}(h:gJ d ⟨k,f,n,m,⟨tk,tf⟩,s1,s2⟩)(M:Nat→Prop)(w:World):az.rep (α:=aq) M w [.int .i64 k, .string f, .string n, .string m, .int .i64 tk, .int .i64 tf, .string s1, .string s2] ⟨k,f,n,m,⟨tk,tf⟩,s1,s2⟩:=
 ⟨rfl,h.pre.s1,h.pre.s2,h.pre.s3,Ay h.expr,Ay h.other⟩
abbrev LnS(w:World)(b off k K:Nat)(r:eD)(cv fv lv:Value)(nm:ByteArray)(w':World):Prop:=w'.cell? ⟨w.heap.size,2,none⟩=some cv∧w'.cell? ⟨b,off+k*8,none⟩=some (.int .i64 r.kind)∧w'.cell? ⟨b,off+k*8+1,none⟩=some (.int .i64 r.field)∧w'.cell? ⟨b,off+k*8+2,none⟩=some (.int .i64 r.name)∧w'.cell? ⟨b,off+k*8+3,none⟩=some (.int .i64 r.more)∧w'.cell? ⟨b,off+k*8+4,none⟩=some (.int .i64 r.type.kind)∧w'.cell? ⟨b,off+k*8+5,none⟩=some (.int .i64 r.type.of)∧w'.cell? ⟨b,off+k*8+6,none⟩=some (.int .i64 r.expr)∧w'.cell? ⟨b,off+k*8+7,none⟩=some (.int .i64 r.other)∧w'.cell? ⟨K,0,none⟩=some (.string nm)∧w'.cell? ⟨K,1,none⟩=some fv∧w'.cell? ⟨K,2,none⟩=some lv
theorem Gy(x:fL)(QU:I6 x.cls.name)(M:Nat→Prop)(w:World)(hM:Bd M w)(fv cv:Value)(bz:ae M w fv x.cls.fields)(bE:ae M w cv x.changes):
 Calls Tryz.prog 34 #[.agg #[.int .i64 x.cls.name,fv,cv]] w (aF w fun v w'=>∃l:aE,du l∧gE l.first∧bI M w' v l):=by
 obtain⟨i0,dF,dM,db,dL⟩:=info_parts Ax
 have ij:=hD bz
 have zV:Hid (∀k r,x.changes[k]? =some r→_):=(show∀k r,_→_ from fun k r h=>Aw bE h)
 have Ue:Hid (∀W,Bx w [yB x.cls.name fv cv,bY ⟨#[]⟩ (.slice none 0 0) (.slice none 0 0)] W→_):=(show∀W,_→_ from fun W hB=>lj (eP M w 2) W (dS hM hB.b8) x.cls fv (ij.out.ev (dR hB.1)) QU)
 obtain⟨fa,fc,rfl,EK,u7,_⟩:=bz.open_
 obtain⟨ca,cc,rfl,QP,QQ,_⟩:=bE.open_
 clear bz bE
 obtain⟨⟨xn,YP⟩,Pb⟩:=x
 dsimp only at*
 go_enter Tryz.func34,Tryz.ntmps34
 go_wp2_with fail
 refine(Ue.out _ (Bx.eO w _ _)).mono ?_
 rintro e w1⟨_,rfl,⟨c,CC,_,⟨_,rfl,⟨fv1,rfl,aU,_⟩⟩⟩,aw⟩
 obtain⟨ya,yc,rfl,_⟩:=aU.open_
 have aO:=hD ((Bx.eO w (yB xn (.slice fa YP.length fc) (.slice ca Pb.length cc)) (bY ⟨#[]⟩ (.slice none 0 0) (.slice none 0 0))).below aw)
 have Pc:=hD CC
 have eM:=hD aU
 have s1:=aO.out.b8
 simp only[List.length_cons,List.length_nil]at s1
 clear aU CC aw
 go_wp2_with fail
 obtain⟨nm,vp⟩:=c
 dsimp only at*
 obtain⟨K,hK⟩:∃K,K=w1.heap.size:=⟨_,rfl⟩
 have eT:Hid (qY M w w1 (yB xn (.slice fa YP.length fc) (.slice ca Pb.length cc)) (bY ⟨#[]⟩ (.slice none 0 0) (.slice none 0 0)) ⟨nm,vp⟩ (.slice ya vp.length yc) K 0 0 none 0 [] ⟨nm,vp⟩ (w1.alloc (.cells #[.string nm, .slice ya vp.length yc, .slice none 0 0] 94))):=(show qY _ _ _ _ _ _ _ _ _ _ _ _ _ _ _ from⟨.nil _,rfl,Nat.le_refl _,by rw[hK];exact heap_alloc_new w1 _,aK.nil _ _ _ _,eM.out,(Below.refl _ _).alloc (Nat.le_of_eq hK) _,hK,aO.out.alloc _,by omega⟩)
 rw[←hK]
 obtain⟨W1,ib⟩:∃W1:World,W1=w1.alloc (.cells #[.string nm, .slice ya vp.length yc, .slice none 0 0] 94):=⟨_,rfl⟩
 rw[←ib]at eT⊢
 clear ib hK aO eM
 go_loopg [4,5,6]5(fun g iv _ _ wr=>∃(k n cap:Nat)(a:Option Addr)(chs:List aq)(d:ai),k≤Pb.length∧k≤5∧g=5-k∧iv= .int .i64 k∧Hid (qY M w w1 (yB xn (.slice fa YP.length fc) (.slice ca Pb.length cc)) (bY ⟨#[]⟩ (.slice none 0 0) (.slice none 0 0)) ⟨nm,vp⟩ (.slice ya vp.length yc) K k n a cap chs d wr))
 case atStart=>exact⟨0,0,0,none,[],_,Nat.zero_le _,by omega,rfl,rfl,eT⟩
 case round=>
  obtain⟨k,n,cap,a,chs,d,hk,R4,rfl,rfl,HS⟩:=hrel
  obtain⟨l0,l1,l2⟩:=ay (HS.out.bx.bJ rfl)
  obtain⟨o0,o1,o2⟩:=ay HS.out.blk
  have YQ:K<wr.heap.size:=(Array.getElem?_eq_some_iff.1 HS.out.blk).1
  have QV:=HS.out.hK
  have qch:w.heap.size≠K:=by omega
  have TP:w.heap.size+1≠K:=by omega
  have kR:Hid (∀W',W'=((wr.setCell ⟨w.heap.size+1,0,none⟩ (.string nm)).setCell ⟨w.heap.size+1,1,none⟩ (.slice ya vp.length yc)).setCell ⟨w.heap.size+1,2,none⟩ (.slice a n cap)→(∃l:aE,du l∧gE l.first∧bI M W' (.agg #[.string nm, .slice ya vp.length yc, .slice a n cap]) l)∧Below w.heap.size w W'):=(show∀W',_→_ from fun W' gX=>by
   have hle:=HS.out.le
   have hln:=HS.out.len
   have E:Ev (ph M w K) wr M W':=by
    rw[gX]
    exact(((Ev.ee wr fun i hi=> .inl (.inl hi)).setCell (.inl (.inl (.inr ⟨by simp,by simp⟩))) _).setCell (.inl (.inl (.inr ⟨by simp,by simp⟩))) _).setCell (.inl (.inl (.inr ⟨by simp,by simp⟩))) _
   refine⟨⟨⟨⟨nm,vp⟩,chs⟩,⟨jW Pc.out,by show chs.length≤5;omega,d,HS.out.cok⟩,Pc.out,_,rfl,_,_,rfl,HS.out.fs.ev E,?_,bQ (fM _ Pc.out.2.2.2).2⟩,?_⟩
   ·exact(HS.out.acc.slice (qZ hM QV)).ev E
   ·rw[gX]
    exact((HS.out.bx.1.setCell (by simp) _).setCell (by simp) _).setCell (by simp) _)
  by_cases aT:k<Pb.length
  ·by_cases TI:k<5
   ·obtain⟨r,hr⟩:∃r,Pb[k]? =some r:=⟨_,List.getElem?_eq_getElem aT⟩
    obtain⟨b,off,dE,rH,bZ,hI,ao⟩:=zV.out k r hr
    obtain⟨rfl,rfl⟩:ca=some ⟨b,off,none⟩∧cc=dE:=by simpa using rH
    have Qn:Hid (bR d):=(show _ from HS.out.cok.ok (jW Pc.out))
    have HD8:Hid (d.fields.length≤8):=(show _ from((de _).1 Qn.out.right).2.1)
    have YR:Hid (d.name=nm):=(show _ from HS.out.cok.name)
    have EN:Hid (∀W,Below wr.heap.size wr W→Bd (ph M w K) W):=(show∀W,_→_ from fun W hb i hi=>by have:=qZ hM QV i hi;have:=hb.size;omega)
    have hn5:chs.length≤12:=by have:=HS.out.le;have:=HS.out.len;omega
    have HNW:Hid (∀W,Below wr.heap.size wr W→Calls Tryz.prog 58 #[.agg #[.string nm, .slice ya vp.length yc, .slice a n cap]] W (aF W fun v w'=>∃jc,v= .agg #[.string nm,jc]∧ae (ph M w K) w' jc d.fields)):=(show∀W,_→_ from fun W hb=>Gu ⟨⟨nm,vp⟩,chs⟩ d (jW Pc.out) HS.out.cok hn5 (ph M w K) W (EN.out W hb) (.slice ya vp.length yc) (.slice a n cap) (HS.out.fs.below hb) ((HS.out.acc.slice (qZ hM QV)).below hb))
    have WI:Hid (∀W jc,Below wr.heap.size wr W→ae (ph M w K) W jc d.fields→Calls Tryz.prog 57 #[.agg #[.int .i64 r.kind, .int .i64 r.field, .int .i64 r.name, .int .i64 r.more, .int .i64 r.type.kind, .int .i64 r.type.of, .int .i64 r.expr, .int .i64 r.other], .agg #[.string nm,jc]] W (aF W (Jw d))):=(show∀W jc,_→_→_ from fun W jc hb hs=>by
     have h:=Av r hI d Qn.out (ph M w K) W (EN.out W hb) jc hs HD8.out (fun f hf=>tT (Qn.out.names f hf))
     rw[YR.out]at h
     exact h)
    have sx:Hid (∀W',Below wr.heap.size wr W'→LnS w b off k K r (.slice (some ⟨b,off,none⟩) Pb.length cc) (.slice ya vp.length yc) (.slice a n cap) nm W'):=(show∀W',_→_ from fun W' hb=>by
     obtain⟨q0,q1,q2,q3,q4,q5,q6,q7⟩:=ao W' (HS.out.bx.below hb).1
     obtain⟨_,_,l2⟩:=ay ((HS.out.bx.below hb).bJ rfl)
     obtain⟨o0,o1,o2⟩:=ay ((hb.block K YQ).trans HS.out.blk)
     exact⟨l2,q0,q1,q2,q3,q4,q5,q6,q7,o0,o1,o2⟩)
    obtain⟨c0,c1,c2,c3,c4,c5,c6,c7,c8,c9,QS,c11⟩:=sx.out wr (Below.refl _ _)
    have HJ:Hid (Below wr.heap.size wr wr):=(show _ from Below.refl _ _)
    clear hr rH ao hI
    obtain⟨rk,rf,rn,rm,⟨tk,tf⟩,rx,ro⟩:=r
    dsimp only at*
    go_upto_region 5 with fail
    go_cut [5,6](fun s5 s6 wx=>∃(K5:Nat)(x:aq)(ok:Bool),s5= .pointer (some ⟨K5,0,none⟩)∧s6= .bool ok∧Hid (Dg d x ok wr K5 wx))
    case first=>
     go_region_held3(fun w'=>w'.cell? ⟨w.heap.size,2,none⟩=some (.slice (some ⟨b,off,none⟩) Pb.length cc)∧w'.cell? ⟨b,off+k*8,none⟩=some (.int .i64 rk)∧w'.cell? ⟨b,off+k*8+1,none⟩=some (.int .i64 rf)∧w'.cell? ⟨b,off+k*8+2,none⟩=some (.int .i64 rn)∧w'.cell? ⟨b,off+k*8+3,none⟩=some (.int .i64 rm)∧w'.cell? ⟨b,off+k*8+4,none⟩=some (.int .i64 tk)∧w'.cell? ⟨b,off+k*8+5,none⟩=some (.int .i64 tf)∧w'.cell? ⟨b,off+k*8+6,none⟩=some (.int .i64 rx)∧w'.cell? ⟨b,off+k*8+7,none⟩=some (.int .i64 ro)∧w'.cell? ⟨K,0,none⟩=some (.string nm)∧w'.cell? ⟨K,1,none⟩=some (.slice ya vp.length yc)∧w'.cell? ⟨K,2,none⟩=some (.slice a n cap))
      (first|with_reducible exact sx.out _ HJ.out|with_reducible exact sx.out _ HJ.out.drew|with_reducible exact sx.out _ (HJ.out.alloc HJ.out.size _)|with_reducible exact sx.out _ ((HJ.out.alloc HJ.out.size _).drew)|with_reducible exact sx.out _ ez.out|with_reducible exact sx.out _ ez.out.drew|with_reducible exact sx.out _ (ez.out.alloc ez.out.size _)|with_reducible exact sx.out _ ((ez.out.alloc ez.out.size _).drew)|with_reducible exact sx.out _ dn.out|with_reducible exact sx.out _ dn.out.drew|with_reducible exact sx.out _ (dn.out.alloc dn.out.size _)|with_reducible exact sx.out _ ((dn.out.alloc dn.out.size _).drew)|with_reducible exact sx.out _ (dX dn.out kT.out.2))
      (first
        |(go_at_call 58
          with_reducible refine(HNW.out _ (by first|with_reducible exact HJ.out|with_reducible exact HJ.out.drew|with_reducible exact HJ.out.alloc HJ.out.size _|with_reducible exact(HJ.out.alloc HJ.out.size _).drew)).mono ?_
          rintro e wa⟨_,rfl,⟨jc,rfl,aU⟩,hb⟩
          have Uf:=hD aU
          clear aU
          try(with_reducible(have Ud:=hD (Fo HJ.out hb)))
          try(with_reducible(have Ud:=hD (Fp HJ.out hb)))
          have ez:Hid (Below wr.heap.size wr wa):=(by first|with_reducible exact hD (PK HJ.out hb)|with_reducible exact hD (Wa HJ.out hb)|with_reducible exact hD (Wb HJ.out hb)|with_reducible exact hD (Wc HJ.out hb))
          clear hb)
        |(go_at_call 57
          with_reducible refine(WI.out _ _ (by first|with_reducible exact ez.out|with_reducible exact ez.out.drew|with_reducible exact ez.out.alloc ez.out.size _|with_reducible exact(ez.out.alloc ez.out.size _).drew) (by first|with_reducible exact Uf.out|with_reducible exact Uf.out.below ((Below.refl _ _).alloc (Nat.le_refl _) _))).mono ?_
          rintro e wb⟨_,rfl,⟨⟨xk,xf,N5,xm,⟨xt,xo⟩,xe,xz⟩,ok,Ug,ng,rfl⟩,hb⟩
          have Uh:=hD Ug
          have Ui:=hD ng
          clear Ug ng
          try(with_reducible(have kT:=hD (MZ Ud.out hb)))
          try(with_reducible(have kT:=hD (Fo ez.out hb)))
          try(with_reducible(have kT:=hD (Fp ez.out hb)))
          try with_reducible have k0:=(ah kT.out.1).1
          try with_reducible have k1:=(ah kT.out.1).2.1
          try with_reducible have k2:=(ah kT.out.1).2.2.1
          try with_reducible have k3:=(ah kT.out.1).2.2.2.1
          try with_reducible have k4:=(ah kT.out.1).2.2.2.2.1
          try with_reducible have k5:=(ah kT.out.1).2.2.2.2.2.1
          try with_reducible have k6:=(ah kT.out.1).2.2.2.2.2.2.1
          try with_reducible have k7:=(ah kT.out.1).2.2.2.2.2.2.2
          try with_reducible have y0:=aa kT.out.1 0
          try with_reducible have y1:=aa kT.out.1 1
          try with_reducible have y2:=aa kT.out.1 2
          try with_reducible have y3:=aa kT.out.1 3
          try with_reducible have y4:=aa kT.out.1 4
          try with_reducible have y5:=aa kT.out.1 5
          try with_reducible have y6:=aa kT.out.1 6
          try with_reducible have y7:=aa kT.out.1 7
          have dn:Hid (Below wr.heap.size wr wb):=(by first|with_reducible exact hD (PK ez.out hb)|with_reducible exact hD (Wa ez.out hb)|with_reducible exact hD (Wb ez.out hb)|with_reducible exact hD (Wc ez.out hb))
          clear hb))
     all_goals(go_wp2_with fail;go_meet)
     ·refine⟨_,⟨xk,xf,N5,xm,⟨xt,xo⟩,xe,xz⟩,ok,rfl,rfl,?_⟩
      exact hD (yC Uh Ui dn.out)
     all_goals
      refine⟨_,⟨xk,xf,N5,xm,⟨xt,xo⟩,xe,xz⟩,ok,rfl,rfl,?_⟩
      exact hD (Dh Uh Ui dn.out kT.out)
    case rest=>
     obtain⟨K5,x,ok,rfl,rfl,HD⟩:=hcut
     obtain⟨wx,Cj⟩:∃wx:World,wx=wc:=⟨_,rfl⟩
     subst Cj
     clear c0 c1 c2 c3 c4 c5 c6 c7 c8 c9 QS c11 l0 l1 l2 o0 o1 o2
     have eB:=hD (HS.out.below HD.out.below)
     have qci:=HD.out.hK
     have qx:K5<wx.heap.size:=(Array.getElem?_eq_some_iff.1 HD.out.blk).1
     obtain⟨o0,o1,o2⟩:=ay eB.out.blk
     have f2:=aa eB.out.blk 2
     cases ok with
     |false=>
      go_wp2_with fail
      go_roundg(5-(k+1))
      case measure=>omega
      case rel=>exact⟨k+1,n,cap,a,chs,d,by omega,by omega,rfl,by go_num,(show qY _ _ _ _ _ _ _ _ _ _ _ _ _ _ _ from eB.out.next)⟩
     |true=>
      obtain⟨⟨xk,xf,N5,xm,⟨xt,xo⟩,xe,xz⟩,hx⟩:∃y,y=x:=⟨x,rfl⟩
      subst hx
      obtain⟨m0,m1,m2,m3,m4,m5,m6,m7⟩:=ah HD.out.blk
      have jJ:=hD eB.out.len
      have eR:Hid (az.rep (α:=aq) (bc (.slice a n cap) (ph M w K)) (wx.alloc (.cells #[.int .i64 xk, .string xf, .string N5, .string xm, .int .i64 xt, .int .i64 xo, .string xe, .string xz] 142)) [.int .i64 xk, .string xf, .string N5, .string xm, .int .i64 xt, .int .i64 xo, .string xe, .string xz] ⟨xk,xf,N5,xm,⟨xt,xo⟩,xe,xz⟩):=(show _ from Gx HD.out.gen _ _)
      have qcj:n≤5:=by have:=eB.out.le;omega
      have hKx:K<wx.heap.size:=by omega
      go_wp2_with(at_builtin
                  refine aQ (α:=aq) rfl _ _ _ rfl (ph M w K) (K+1) 142 i0 _ 104 Tryz.underlying92 dF dM db dL rfl (by decide) (.slice a n cap) chs rfl (eB.out.acc.alloc _) (fun _=>True) _ _ ⟨xk,xf,N5,xm,⟨xt,xo⟩,xe,xz⟩ rfl (ct _ _ _ _ rfl trivial) eR.out (by rw[jJ.out];unfold maxLen;omega) (by rw[jJ.out];omega) (by simp;omega) ?_
                  rw[jJ.out]
                  intro a2 c2 w2 bj dj aM
                  have cw:=hD bj
                  have qck:=hD dj
                  have aA:=hD aM
                  have jr:Hid (w2.heap[K]? =some (bY nm (.slice ya vp.length yc) (.slice a n cap))):=(show _=_ from(aM.block K (by omega)).trans ((Below.heap_alloc wx _ K hKx).trans eB.out.blk))
                  have p2:=(ay jr.out).2.2
                  have g2:=aa jr.out 2
                  clear bj dj aM)
      go_roundg(5-(k+1))
      case measure=>omega
      case rel=>
       refine⟨k+1,n+1,c2,a2,chs++[⟨xk,xf,N5,xm,⟨xt,xo⟩,xe,xz⟩],bC d ⟨xk,xf,N5,xm,⟨xt,xo⟩,xe,xz⟩,by omega,by omega,rfl,by go_num,?_⟩
       refine(show qY _ _ _ _ _ _ _ _ _ _ _ _ _ _ _ from⟨eB.out.cok.snoc HD.out.gen HD.out.ok,by simp[jJ.out],by have:=eB.out.le;omega,?_,?_,?_,?_,?_,?_,QV⟩)
       ·have:=heap_setCell_same w2 K 2 _ _ (.slice a2 (n+1) c2) jr.out
        simpa [bY]using this
       ·exact cw.out.sD (p:=⟨K,2,none⟩) (.inr rfl) (by show K<K+1;omega) _
       ·exact eB.out.fs0
       ·exact(((eB.out.low.alloc (by omega) _).trans (aA.out.mono (by omega))).setCell (Nat.le_refl K) _)
       ·exact eB.out.kw
       ·exact((eB.out.bx.alloc _).cJ aA.out (by simp;omega)).cJ (B:=K) ((Below.refl _ _).setCell (Nat.le_refl K) _) (by simp;omega)
   ·obtain⟨r0,r1,r2⟩:=ay (HS.out.bx.bh rfl)
    have g0:=aa (HS.out.bx.bh rfl) 0
    have g1:=aa (HS.out.bx.bh rfl) 1
    have g2:=aa (HS.out.bx.bh rfl) 2
    go_wp2_with fail
    exact bodyPost_ret (v:= .agg #[.string nm, .slice ya vp.length yc, .slice a n cap]) (by simp[results,Tryz.results34,go_sem,r0,r1,r2]) rfl ⟨_,rfl,kR.out _ rfl⟩
  ·obtain⟨r0,r1,r2⟩:=ay (HS.out.bx.bh rfl)
   have g0:=aa (HS.out.bx.bh rfl) 0
   have g1:=aa (HS.out.bx.bh rfl) 1
   have g2:=aa (HS.out.bx.bh rfl) 2
   go_wp2_with fail
   exact bodyPost_ret (v:= .agg #[.string nm, .slice ya vp.length yc, .slice a n cap]) (by simp[results,Tryz.results34,go_sem,r0,r1,r2]) rfl ⟨_,rfl,kR.out _ rfl⟩
end Go.Proofs.YtlkjnefenialbaaGreatDoor
