/- A part of OpReads's proof; no condition. -/
import Derived.Test.YtepaofffbkfodaaGreatDoorM09
import Derived.Test.YtepaofffbkfodaaGreatDoorM10
set_option linter.all false
set_option maxHeartbeats 8000000
set_option maxRecDepth 100000
namespace Go.Proofs.YtepaofffbkfodaaGreatDoor
open Tryz
open Go.RowKit
variable{t:TypeId}{c0 v:an}{g k:Nat}{W w w':aj}{M F:aN}
instance:au aT where
 size:=2
 rep:=λ_ _ cs x=>cs=[xI x.kind,xI x.of]
 len:=λh=>by rw[h];rfl
 flat:=λh u hu=>by rw[h]at hu;simp at hu;rcases hu with rfl|rfl<;>rfl
 ev:=λh _=>h
def Uf(h:W.heap[g]? =some (xK #[c0] t)):W.cell? ⟨g,0,none⟩=some c0:=by simp[World.cell?,h]
def Hy {l:List aT}(h:ab M w v l){x:aT}(hx:l[k]? =some x):∃b off cap,v=xL (some ⟨b,off,none⟩) l.length cap/\b<w.heap.size/\∀W,aq w W->bt W b (off+k*2) (xI x.kind)/\bt W b (off+k*2+1) (xI x.of):=by
 obtain⟨a,cap,rfl,hl,_,hc⟩:=h.open_;have hk:=(Qad.1 hx).1;obtain⟨b,off,rfl,_,hb,aL⟩:=hc (by omega);obtain⟨cs,rfl,bJ⟩:=aL k x hx;refine⟨b,off,cap,rfl,hb,λW hB=> ?_⟩;have g:∀j u,([xI x.kind,xI x.of]:List an)[j]? =some u->bt W b (off+k*2+j) u:=λj u hu=>(hB.cell (p:=⟨b,off+k*2+j,none⟩) hb).trans (bJ j u hu);exact⟨g 0 _ rfl,g 1 _ rfl⟩
def xY {l:List Int}(h:ab M w v l){x:Int}(hx:l[k]? =some x):∃b off cap,v=xL (some ⟨b,off,none⟩) l.length cap/\b<w.heap.size/\∀W,aq w W->bt W b (off+k) (xI x):=by
 obtain⟨a,cap,rfl,hl,_,hc⟩:=h.open_;have hk:=(Qad.1 hx).1;obtain⟨b,off,rfl,_,hb,aL⟩:=hc (by omega);obtain⟨cs,rfl,bJ⟩:=aL k x hx;refine⟨b,off,cap,rfl,hb,λW hB=> ?_⟩;have:=(hB.cell (p:=⟨b,off+k*1+0,none⟩) hb).trans (bJ 0 _ rfl);simpa using this
def Pq(hM:¬M w.heap.size)(xs:List Int)(n:Nat)(hn:xs.length=n)(hb:n<=1000)(t:TypeId):ab (α:=Int) M (w.alloc (.cells (xs.map (Value.int .i64)).toArray t)) (xL (some ⟨w.heap.size,0,none⟩) n n) xs:=by
 subst hn;refine⟨xs.map λx=>[xI x],?_,by simp,?_⟩
 .have e:(xs.map λx=>[Value.int .i64 x]).flatten=xs.map (Value.int .i64):=by
   induction xs with
   |nil=>rfl
   |cons a r ih=>simp at ih⊢;exact ih (by simp at hb;omega)
  rw[e];refine⟨by simp[au.size],some ⟨w.heap.size,0,none⟩,xs.length,rfl,bN,by unfold maxLen;omega,λ_=>⟨w.heap.size,0,rfl,hM,by simp,?_⟩⟩;intro j u hu;rw[Nat.zero_add];exact cell_of_heap (Qbh w _) (by simpa using hu)
 .intro i cs x hc hx;rw[List.getElem?_map,hx]at hc;simp at hc;exact hc.symm
def iq(F:aN)(w:aj)(v:an)(kind:Int)(ks:List Int):Prop:=
 ∃p q kv,v= .func (.func 391) #[] #[xP p,xP q]/\¬F p/\¬F q/\w.heap[p]? =some (xK #[kv] 27)/\w.heap[q]? =some (xK #[xI kind] 3)/\ab F w kv ks
theorem iq.only {kind:Int}{ks:List Int}(h:iq F w v kind ks)(ho:ai F w w'):iq F w' v kind ks:=by
 obtain⟨p,q,kv,h1,h2,h3,h4,h5,h6⟩:=h;exact⟨p,q,kv,h1,h2,h3,ho.at_ h4 h2,ho.at_ h5 h3,h6.ev ⟨ho,λ_ h=> .inl h⟩⟩
def x8(kind:Int)(a:fA)(n c:Nat)(w:aj):xC 352 #[xI kind,xL a n c] w λe w'=>e=xR (.func (.func 391) #[] #[xP (w.heap.size+1),xP w.heap.size])/\(w.alloc (xK #[xI kind] 3)).alloc (xK #[xL a n c] 27)=w':=by
 have CA:∀(fn:Fn)(first cap:Array an)(w:aj),(Instr.makeFunc fn first cap).run prog w= .ok (.func fn first cap) w:=λ_ _ _ _=>rfl;go_enter func352,ntmps352;go_wp2;go_ret;exact⟨rfl,rfl⟩
def x9(w:aj)(hF:∀i,F i->i<w.heap.size)(kind:Int)(ks:List Int)(n:Nat)(hn:ks.length=n)(hb:n<=1000):
 iq F (((w.alloc (.cells (ks.map (Value.int .i64)).toArray 3)).alloc (xK #[xI kind] 3)).alloc (xK #[xL (some ⟨w.heap.size,0,none⟩) n n] 27)) (.func (.func 391) #[] #[xP (w.heap.size+1+1),xP (w.heap.size+1)]) kind ks:=by
 have hB:=Bx.gO w (.cells (ks.map (Value.int .i64)).toArray 3 (0,0)) (xK #[xI kind] 3) (xK #[xL (some ⟨w.heap.size,0,none⟩) n n] 27);refine⟨_,_,_,rfl,λh=>by have:=hF _ h;omega,λh=>by have:=hF _ h;omega,hB.fR rfl,hB.bU rfl,?_⟩;refine(Pq (M:=F) (w:=w) (λh=>by have:=hF _ h;omega) ks n hn hb 3).below ?_;exact bM.alloc (by simp) _
def um(ts:List aT)(kind:Int)(M F:aN)(w:aj)(pv v:an)(ht:ts.length<=8)(hp:ab M w pv ts)(p q:Nat)(kv:an)(h4:bR w p (xK #[kv] 27))(h5:bR w q (xK #[xI kind] 3))(h6:ab F w kv (ts.map (·.kind))):
 xC 391 #[pv,xP p,xP q] w (cr (.tuple #[.agg #[xI kind,xI 0],xB true]) w):=by
 have RT:Hd (∀(i:Nat)(x:aT),ts[i]? =some x->_):=λi x hx=>Hy hp hx;have NV:Hd (∀(i:Nat)(x:Int),(ts.map (·.kind))[i]? =some x->_):=λi x hx=>xY h6 hx;obtain⟨pa,pc,rfl,ij,hpm,_⟩:=hp.open_;obtain⟨ka,kc,YJ,CL,hkm,_⟩:=h6.open_;subst YJ;have hpw:p<w.heap.size:=(Qaa.1 h4).1;have hqw:q<w.heap.size:=(Qaa.1 h5).1;have HP:Hd (∀W,aq w W->bt W p 0 (xL ka (ts.map (·.kind)).length kc)/\bt W q 0 (xI kind)):=λW hb=>⟨Uf ((hb.block p hpw).trans h4),Uf ((hb.block q hqw).trans h5)⟩;rw[Qdc]at CL;generalize hn:ts.length=n at*;have HMK:=af (show(ts.map (·.kind)).length=n by rw[Qdc];exact hn);rw[HMK.o]at HP NV;have eF:=af hn;go_enter func391,ntmps391;go_wp2_with fail;have jN:Hd (aq w (w.alloc (xK #[xI 0,xI 0] 49))):=bM;have Xd:Hd ((w.alloc (xK #[xI 0,xI 0] 49)).heap[w.heap.size]? =some (xK #[xI 0,xI 0] 49)):=Qbh w _;go_loopg [6,7,10]n(λg _ _ iv wr=>∃i:Nat,i<=n/\g=n-i/\iv=xI i/\Hd (aq w wr)/\Hd (di wr w (xK #[xI 0,xI 0] 49)));case atStart=>exact⟨0,Qbf _,rfl,rfl,jN,Xd⟩
 case round=>
  obtain⟨i,hi,rfl,rfl,HB,HR⟩:=hrel;have hsz:=HB.o.size;have Q4:w.heap.size<wr.heap.size:=(Qaa.1 HR.o).1;by_cases bu:i<n
  .obtain⟨⟨xk,xo⟩,hx⟩:=eB ts i (by rw[eF.o];exact bu);obtain⟨b,off,cap,hv,hb,ay⟩:=RT.o i _ hx;obtain⟨rfl,rfl⟩:=iB hv;obtain⟨bk,qho,qhp,zW,yT,qu⟩:=NV.o i xk (by rw[List.getElem?_map,hx];rfl);obtain⟨rfl,rfl⟩:=iB zW;obtain⟨q0,q1⟩:=ay wr HB.o;have r0:=λo=>qu (wr.alloc o) (HB.o.alloc hsz o);have p0:=λo=>(HP.o (wr.alloc o) (HB.o.alloc hsz o)).1;have y9:b≠wr.heap.size:=by omega
   have qhq:bk≠wr.heap.size:=by omega
   have We:p≠wr.heap.size:=by omega
   dsimp only at q0 q1;go_wp2_with fail;go_quiet(fail);go_wp2;go_roundg(n-(i+1));case measure=>omega
   case rel=>
    refine⟨i+1,by omega,rfl,by go_num,?_,?_⟩
    .exact(below_drewNv (HB.o.alloc hsz _) _)
    .exact(show _=_ from(Qcb wr _ _ Q4).trans HR.o)
  .obtain⟨_,q0⟩:=HP.o wr HB.o;obtain⟨e0,e1⟩:=ah HR.o;obtain⟨f0,f1⟩:=mV HR.o;have TF:q≠w.heap.size:=by omega
   go_wp2_with fail;refine Qae (v:= .tuple #[.agg #[xI kind,xI 0],xB true]) (by simp[results,results391,go_sem,e0,e1]) rfl ⟨rfl,?_⟩;exact(HB.o.setCell (by simp) _).setCell (by simp) _
def Ed(t:aT)(ht:t.kind=1\/t.kind=2)(b off cap:Nat)(w:aj)(h0:bt w b off (xI t.kind))(h1:bt w b (off+1) (xI t.of))(h2:bt w b (off+2) (xI t.kind))(h3:bt w b (off+3) (xI t.of)):
 xC 395 #[xL (some ⟨b,off,none⟩) 2 cap] w (cr (xB true) w):=by
 obtain⟨k,o⟩:=t;dsimp only at*;rcases ht with rfl|rfl;all_goals
  go_enter func395,ntmps395;go_wp2_with fail;go_quiet(fail);go_wp2;go_ret;exact⟨rfl,below_drewNv dQ _⟩
end Go.Proofs.YtepaofffbkfodaaGreatDoor
