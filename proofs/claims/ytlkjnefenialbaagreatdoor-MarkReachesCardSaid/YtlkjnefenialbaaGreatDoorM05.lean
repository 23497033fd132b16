/- What the parser answers, and the kinds of its trees; no condition beyond each theorem's own. -/
import Derived.Test.YtlkjnefenialbaaGreatDoorM04
import Derived.Deep.RegionLaw
set_option linter.unusedVariables false
set_option linter.unusedSimpArgs false
set_option maxHeartbeats 8000000
set_option maxRecDepth 100000
namespace Go.Proofs.YtlkjnefenialbaaGreatDoor
open Go.RowKit
theorem aK.only {α:Type} [az α]{M N:Nat→Prop}{base:Nat}{e:TypeId}{w w':World}{v:Value}{xs:List α}(h:aK M base e w v xs)(k:ag N w w')(hN:∀i,N i→M i∧i<base):aK M base e w' v xs:=by
 obtain⟨css,h1,h2,h3⟩:=h
 have hE:Ev (bc v M) w (bc v M) w':=⟨k.mono fun i hi=> .inl (hN i hi).1,fun i hi=> .inl hi⟩
 refine⟨css,⟨h1.1,?_⟩,h2,fun i cs x hc hx=>az.ev (h3 i cs x hc hx) hE⟩
 rcases h1.2 with h0|⟨g,cap,cur,e1,e2,e3,e4⟩
 ·exact .inl h0
 ·exact .inr ⟨g,cap,cur,e1,e2,(k.block g (Array.getElem?_eq_some_iff.1 e3).1 (fun hg=>by have:=(hN g hg).2;omega)).trans e3,e4⟩
theorem ag.cJ {S:Nat→Prop}{w w1 w2:World}{B:Nat}(h:ag S w w1)(k:Below B w1 w2)(hB:w.heap.size≤B):ag S w w2:=
 ⟨k.os.trans h.os,k.tape.trans h.tape,k.output.trans h.output,Nat.le_trans h.size k.size,fun i hi hS=>(k.block i (Nat.lt_of_lt_of_le hi hB)).trans (h.block i hi hS)⟩
theorem wM:(Tryz.prog.info? 232).map (fun i=>(i.zero,i.size,i.bytes))=some (some (.agg #[.int .i64 0, .int .i64 0, .string ⟨#[]⟩, .slice none 0 0]),4,56):=by kernel_rfl
def qO(b:Nat)(lv:Value)(en:Int)(T:List Tok)(w:World)(nm:List UInt8)(l:List an)(q:Nat)(C:List an→Nat→Prop)(wr:World):Prop:=
 ∃(a:Option Addr)(c:Nat)(kids rest:List an)(j:Nat),kids.length=q∧kids++rest=l∧aK (fun i=>i<w.heap.size+2) (w.heap.size+2) 232 wr (.slice a q c) kids∧cT b lv en T wr j∧ag (aG b) w wr∧w.heap.size+2≤wr.heap.size∧
  wr.heap[w.heap.size]? =some (.cells #[.int .i64 0, .int .i64 0, .string ⟨#[]⟩, .slice none 0 0] 232 (0,0))∧wr.heap[w.heap.size+1]? =some (.cells #[.int .i64 6, .int .i64 0, .string (bL nm), .slice a q c] 232 (0,0))∧C rest j
def Je(T:List Tok)(n:Nat)(r:List Tok)(k q:Nat)(rest:List an)(j:Nat):Prop:=
 (q=0∧∃m,m≤k∧dU m n (T.drop j)=some (rest,r))∨(0<q∧q<n∧da (T.drop j) [44]=true∧∃m,m≤k∧dU m (n-q) (T.drop (j+1))=some (rest,r))∨(q=n∧rest=[]∧da (T.drop j) [41]=true∧r=T.drop (j+1))
def PD(T:List Tok)(n:Nat)(r:List Tok)(k q:Nat)(rest:List an)(j:Nat):Prop:=∃m,m≤k∧dU m (n-q) (T.drop j)=some (rest,r)
theorem pK {k n:Nat}{ts:List Tok}{l:List an}{r:List Tok}(h:dU k n ts=some (l,r))(hn:0<n):∃m e r1 l',k=m+1∧ic m 1 ts=some (e,r1)∧l=e::l'∧((n=1∧l'=[]∧da r1 [41]=true∧r=r1.drop 1)∨(1<n∧da r1 [44]=true∧dU m (n-1) (r1.drop 1)=some (l',r))):=by
 cases k with
 |zero=>simp[dU]at h
 |succ m=>
  unfold dU at h
  cases he:ic m 1 ts with
  |none=>rw[he]at h;cases h
  |some p=>
   obtain⟨e,r1⟩:=p
   rw[he]at h
   dsimp only at h
   by_cases h1:n=1
   ·rw[if_pos h1]at h
    by_cases hs:da r1 [41]=true
    ·rw[if_pos hs]at h
     simp only[Option.some.injEq,Prod.mk.injEq]at h
     exact⟨m,e,r1,[],rfl,he,h.1.symm, .inl ⟨h1,rfl,hs,h.2.symm⟩⟩
    ·rw[if_neg hs]at h;cases h
   ·rw[if_neg h1,if_neg (by omega)]at h
    by_cases hs:da r1 [44]=true
    ·rw[if_pos hs]at h
     cases ht:dU m (n-1) (r1.drop 1)with
     |none=>rw[ht]at h;cases h
     |some q=>
      obtain⟨l',r'⟩:=q
      rw[ht]at h
      simp only[Option.some.injEq,Prod.mk.injEq]at h
      exact⟨m,e,r1,l',rfl,he,h.1.symm, .inr ⟨by omega,hs,by rw[←h.2];exact ht⟩⟩
    ·rw[if_neg hs]at h;cases h
theorem cT.drew {b:Nat}{lv:Value}{en:Int}{T:List Tok}{w:World}{i:Nat}(h:cT b lv en T w i):cT b lv en T w.drew i:=⟨h.box,h.toks,h.few,h.le,h.kinds⟩
theorem Ag(s:List UInt8):cO s≤3:=by unfold cO;split;omega;split;omega;split<;>omega
theorem Gk(b:Nat)(lv:Value)(en:Int)(T:List Tok)(k:Nat)(HE:∀m,m<k→E9 b lv en T m):Jc b lv en T k:=by
 intro i nm l r w vG mf bK FO
 obtain⟨i0,dF,dM,db,dL⟩:=info_parts wM
 have TE:=Ag nm
 have bZ:b<w.heap.size:=(Array.getElem?_eq_some_iff.1 bK.box).1
 have Sa:Hid (∀W,Calls Tryz.prog 209 #[.string (bL nm)] W fun e w'=>e= .returned (.int .i64 (cO nm))∧W=w'):=(show∀W,_ from fun W=>by have h:=qM (bL nm) W;rw[jT]at h;exact h)
 generalize cO nm=n at*
 have eT:=hD bK;clear bK;have Yi:=hD FO;clear FO
 go_enter Tryz.func210,Tryz.ntmps210
 go_wp2_with fail
 go_loopg [6]n(fun g iv wr=>∃q:Nat,q≤n∧g=n-q∧iv= .int .i64 q∧Hid (qO b lv en T w nm l q (Je T n r k q) wr))
 case atStart=>
  refine⟨0,Nat.zero_le _,rfl,rfl,?_⟩
  obtain⟨b0,b1,hz,hb⟩:=iM (w:=w) (o0:= .cells #[.int .i64 0, .int .i64 0, .string ⟨#[]⟩, .slice none 0 0] 232) (o1:= .cells #[.int .i64 6, .int .i64 0, .string (bL nm), .slice none 0 0] 232) rfl
  exact(show qO _ _ _ _ _ _ _ _ _ _ from⟨none,0,[],l,i,rfl,rfl,aK.nil _ _ _ _,eT.out.below hb,ag.aj hb,by rw[hz];omega,b0,b1, .inl ⟨rfl,k,Nat.le_refl _,Yi.out⟩⟩)
 case round=>
  obtain⟨q,hq,rfl,rfl,HL⟩:=hrel
  have hqz:(q:Int)≤3:=by omega
  by_cases aT:q<n
  ·have Qs:(q:Int)<(n:Int):=by omega
   obtain⟨a,c,kids,rest,j,tm,x8,bn,ia,hU,cB,hR,hE,hC⟩:=HL.out
   obtain⟨p0,p1,p2,p3⟩:=ab ia.box
   have Cb:=hD tm;clear tm;have Lf:=hD x8;clear x8;have kn:=hD bn;clear bn;have my:=hD ia;clear ia;have ko:=hD hU;clear hU;have HR:=hD hR;clear hR;have NP:=hD hE;clear hE
   go_upto_if 23 with(go_at_call 209;refine(Sa.out _).mono ?_;rintro e w'⟨rfl,rfl⟩)
   go_cut [](fun wx=>Hid (qO b lv en T w nm l q (PD T n r k q) wx))
   case first=>
    rcases hC with⟨rfl,hC⟩|⟨h1,h2,h3,hC⟩|⟨h1,_⟩
    ·have x9:=hD hC;clear hC
     go_wp2_with fail
     go_meet
     exact(show qO _ _ _ _ _ _ _ _ _ _ from⟨a,c,kids,rest,j,Cb.out,Lf.out,kn.out,my.out,ko.out,cB,HR.out,NP.out,x9.out⟩)
    ·have Wn:(0:Int)<(q:Int):=by omega
     have aX:=E8 b lv en T wr j ⟨#[44]⟩ my.out h3
     have aS:=hD aX;clear aX;have x9:=hD hC;clear hC
     go_wp2_with fail
     refine(aS.out).mono ?_
     rintro e w1⟨v1,rfl,jO,eX⟩
     have nY:=hD jO;clear jO;have ED:=hD eX;clear eX
     go_wp2_with fail
     go_meet
     have db:=ED.out.size
     exact(show qO _ _ _ _ _ _ _ _ _ _ from⟨a,c,kids,rest,j+1,Cb.out,Lf.out,kn.out.only ED.out (fun i hi=>by unfold aG at hi;omega),nY.out,ko.out.trans ED.out,by omega,(ED.out.block _ (by omega) (by unfold aG;omega)).trans HR.out,(ED.out.block _ (by omega) (by unfold aG;omega)).trans NP.out,x9.out⟩)
    ·omega
   case rest=>
    clear p0 p1 p2 p3 Cb Lf kn my ko HR NP hC HL cB
    obtain⟨a,c,kids,rest,j,tm,x8,bn,ia,hU,cB,hR,hE,m,Cc,FO⟩:=Hid.out hcut
    clear hcut
    obtain⟨m',e,r1,l',rfl,hex,rfl,hC⟩:=pK FO (by omega)
    obtain⟨yk,yn,ys,yl⟩:=e
    have aX:=HE m' (by omega) 1 j (.mk yk yn ys yl) r1 wc.drew (by omega) (by omega) ia.drew hex
    obtain⟨p0,p1,p2,p3⟩:=ab ia.box
    obtain⟨e0,e1,e2,e3⟩:=ab hE
    have fE:=aa hE 3
    have kQ:=bn.dO
    have Cb:=hD tm;clear tm;have Lf:=hD x8;clear x8;have kn:=hD bn;clear bn;have my:=hD ia;clear ia;have ko:=hD hU;clear hU;have HR:=hD hR;clear hR;have NP:=hD hE;clear hE;have x9:=hD hC;clear hC;have aS:=hD aX;clear aX;have sM:=hD kQ;clear kQ
    clear FO hex
    go_wp2_with fail
    go_region_law(first
     |(go_simp;go_at_call 157
       refine aS.out.mono ?_
       rintro e w1⟨_,jj,rfl,⟨cs,rfl,bw⟩,jO,kq,eX⟩
       obtain⟨av,rfl,aU,iD⟩:=bS.iff.1 bw
       obtain⟨ya,yc,rfl,_⟩:=aU.open_
       have s1:=eX.size
       simp at s1
       have iI:Hid (ag (aG b) wc w1):=((ag.refl _ wc).drew.trans eX)
       have eR:Hid (az.rep (bc (.slice a q c) (fun i=>i<w.heap.size+2)) w1 [.int .i64 yk, .int .i64 yn, .string ys, .slice ya yl.length yc] (an.mk yk yn ys yl)):=az.ev (α:=an) bw (Ev.ee w1 (fun i hi=>by unfold eA;rcases hi with h|h;show i<wc.heap.size;omega;exact(sM.out i h).2))
       have nY:=hD jO
       have mr:=hD kq
       have k3:w1.cell? ⟨w.heap.size+1,3,none⟩=some (.slice a q c):=(iI.out.cell (p:=⟨w.heap.size+1,3,none⟩) (by simp;omega) (by unfold aG;simp;omega)).trans e3
       have n3:∀o,(w1.alloc o).cell? ⟨w.heap.size+1,3,none⟩=some (.slice a q c):=fun o=>(World.cell?_of_block (w:=w1) (Below.heap_alloc w1 o (w.heap.size+1) (by omega))).trans k3
       have oO:Hid (w1.frozen? ⟨w.heap.size+1,3,none⟩=false):=(iI.out.frozen (p:=⟨w.heap.size+1,3,none⟩) (by simp;omega) (by unfold aG;simp;omega)).trans fE
       have Cd:=hD (kn.out.only iI.out (fun i hi=>by unfold aG at hi;omega))
       clear eX bw aU iD jO kq)
     |(refine dr (α:=an) rfl _ _ _ rfl (fun i=>i<w.heap.size+2) (w.heap.size+2) 232 i0 _ 56 Tryz.underlying230 dF dM db dL rfl (by decide) (.slice a q c) kids rfl (Cd.out.alloc _) (fun _=>True) _ _ (.mk yk yn ys yl) rfl (ct _ _ _ _ rfl trivial) (az.ev eR.out (Ev.aj ((Below.refl _ _).alloc (Nat.le_refl _) _))) (by rw[Cb.out];unfold maxLen;omega) (by rw[Cb.out];omega) (by simp;omega) ?_
       rw[Cb.out]
       intro a2 c2 w2 bj dj aM
       have cw:=hD bj
       have l3:w2.cell? ⟨w.heap.size+1,3,none⟩=some (.slice a q c):=(aM.cell (p:=⟨w.heap.size+1,3,none⟩) (by simp)).trans (n3 _)
       have l4:w2.frozen? ⟨w.heap.size+1,3,none⟩=false:=(aM.frozen (p:=⟨w.heap.size+1,3,none⟩) (by simp)).trans ((((Below.refl _ _).alloc (Nat.le_refl _) _).frozen (p:=⟨w.heap.size+1,3,none⟩) (by simp;omega)).trans oO.out)
       have aA:=hD aM
       clear bj dj aM))
    all_goals
     go_wp2_with fail
     go_roundg(n-(q+1))
     case measure=>omega
     case rel=>
      refine⟨q+1,by omega,rfl,by go_num,?_⟩
      have iJ:=aA.out.size
      simp at iJ
      have Wq:ag (aG b) w w2:=((ko.out.trans iI.out).alloc _).cJ aA.out (by omega)
      have iX:∀x,x<w.heap.size+2→w2.heap[x]? =w1.heap[x]? :=fun x hx=>(aA.out.block x hx).trans (Below.heap_alloc w1 _ x (by omega))
      have yb:ag (aG b) w (w2.setCell ⟨w.heap.size+1,3,none⟩ (.slice a2 (q+1) c2)):=Wq.setCell (.inr (by simp)) _
      refine(show qO _ _ _ _ _ _ _ _ _ _ from⟨a2,c2,kids++[.mk yk yn ys yl],l',jj,by simp[Cb.out],by rw[←Lf.out];simp,cw.out.sD (by simp) (by simp) _,?_,yb,by simp;omega,?_,?_,?_⟩)
      ·exact eT.out.step yb ((heap_setCell_other _ _ _ _ (by simp;omega)).trans ((iX b (by omega)).trans nY.out.box)) nY.out.le
      ·exact(heap_setCell_other _ _ _ _ (by simp)).trans ((iX _ (by omega)).trans ((iI.out.block _ (by omega) (by unfold aG;omega)).trans HR.out))
      ·exact heap_setCell_same w2 _ 3 _ _ _ ((iX _ (by omega)).trans ((iI.out.block _ (by omega) (by unfold aG;omega)).trans NP.out))
      ·have kq:=mr.out
       rcases x9.out with⟨h1,h2,h3,h4⟩|⟨h1,h2,h3⟩
       ·subst kq
        exact .inr (.inr ⟨by omega,h2,h3,by rw[h4,List.drop_drop]⟩)
       ·subst kq
        rw[List.drop_drop]at h3
        exact .inr (.inl ⟨by omega,by omega,h2,m',by omega,by rw[show n-(q+1)=n-q-1 from by omega];exact h3⟩)
  ·have Qs:¬(q:Int)<(n:Int):=by omega
   obtain⟨a,c,kids,rest,j,tm,x8,bn,ia,hU,cB,hR,hE,hC⟩:=HL.out
   have Mp:rest=[]∧da (T.drop j) [41]=true∧r=T.drop (j+1):=by
    rcases hC with⟨h1,_⟩|⟨_,h2,_⟩|⟨_,h1,h2,h3⟩
    ·omega
    ·omega
    ·exact⟨h1,h2,h3⟩
   obtain⟨rfl,TF,rfl⟩:=Mp
   rw[List.append_nil]at x8
   subst x8
   have aX:=E8 b lv en T wr j ⟨#[41]⟩ ia TF
   have Cb:=hD tm;clear tm;have kn:=hD bn;clear bn;have ko:=hD hU;clear hU;have HR:=hD hR;clear hR;have NP:=hD hE;clear hE;have aS:=hD aX;clear aX
   clear ia TF hC HL
   go_wp2_with(go_at_call 209;refine(Sa.out _).mono ?_;rintro e w'⟨rfl,rfl⟩)
   refine(aS.out).mono ?_
   rintro e w1⟨v1,rfl,jO,eX⟩
   have dc:=eX.size
   have mr:Hid (w1.heap[w.heap.size]? =some (.cells #[.int .i64 0, .int .i64 0, .string ⟨#[]⟩, .slice none 0 0] 232 (0,0))):=(eX.block _ (by omega) (by unfold aG;omega)).trans HR.out
   have Yj:Hid (w1.heap[w.heap.size+1]? =some (.cells #[.int .i64 6, .int .i64 0, .string (bL nm), .slice a q c] 232 (0,0))):=(eX.block _ (by omega) (by unfold aG;omega)).trans NP.out
   obtain⟨r0,r1,r2,r3⟩:=ab mr.out
   have g0:=aa mr.out 0
   have g1:=aa mr.out 1
   have g2:=aa mr.out 2
   have g3:=aa mr.out 3
   obtain⟨e0,e1,e2,e3⟩:=ab Yj.out
   have Cd:=hD (kn.out.only eX (fun i hi=>by unfold aG at hi;omega))
   have nY:=hD jO;clear jO;have ED:=hD eX;clear eX
   go_wp2_with fail
   refine bodyPost_ret (v:= .agg #[.int .i64 6, .int .i64 0, .string (bL nm), .slice a q c]) (by simp[results,Tryz.results210,go_sem,r0,r1,r2,r3]) rfl ?_
   have yb:ag (aG b) w ((((w1.setCell ⟨w.heap.size,0,none⟩ (.int .i64 6)).setCell ⟨w.heap.size,1,none⟩ (.int .i64 0)).setCell ⟨w.heap.size,2,none⟩ (.string (bL nm))).setCell ⟨w.heap.size,3,none⟩ (.slice a q c)):=((((ko.out.trans ED.out).setCell (.inr (Nat.le_refl _)) _).setCell (.inr (Nat.le_refl _)) _).setCell (.inr (Nat.le_refl _)) _).setCell (.inr (Nat.le_refl _)) _
   refine⟨_,j+1,rfl,⟨_,rfl,bS.iff.2 ⟨_,rfl,(Cd.out.slice (fun i hi=>hi)).ev ?_,by rw[iF];unfold maxLen;omega⟩⟩,eT.out.step yb ?_ nY.out.le,rfl,yb⟩
   ·exact((((Ev.ee w1 (fun i h=>by unfold eA at h;omega)).setCell (.inl (by simp)) _).setCell (.inl (by simp)) _).setCell (.inl (by simp)) _).setCell (.inl (by simp)) _
   ·exact(heap_setCell_other _ _ _ _ (by simp;omega)).trans ((heap_setCell_other _ _ _ _ (by simp;omega)).trans ((heap_setCell_other _ _ _ _ (by simp;omega)).trans ((heap_setCell_other _ _ _ _ (by simp;omega)).trans nY.out.box)))
def Ah(w:World)(E:Nat):Nat→Prop:=fun i=>i≤w.heap.size∨i=E
def yp(b:Nat)(lv:Value)(en:Int)(T:List Tok)(w:World)(E:Nat)(C:an→Nat→Prop)(wr:World):Prop:=
 ∃(ck cn:Int)(cs:ByteArray)(cl:List an)(a:Option Addr)(c j:Nat),wr.heap[E]? =some (.cells #[.int .i64 ck, .int .i64 cn, .string cs, .slice a cl.length c] 232 (0,0))∧bS (Ah w E) wr [.int .i64 ck, .int .i64 cn, .string cs, .slice a cl.length c] (.mk ck cn cs cl)∧cT b lv en T wr j∧ag (aG b) w wr∧
  wr.heap[w.heap.size]? =some (.cells #[.int .i64 0, .int .i64 0, .string ⟨#[]⟩, .slice none 0 0] 232 (0,0))∧C (.mk ck cn cs cl) j
theorem tJ {m least:Nat}{cur x:an}{ts r:List Tok}(h:lW m least cur ts=some (x,r)):
 (x=cur∧r=ts∧∀t r',ts=t::r'→¬(t.kind=4∧least≤bM t.s))∨
 ∃m' t r' f r2,m=m'+1∧ts=t::r'∧t.kind=4∧least≤bM t.s∧ic m' (bM t.s+1) r'=some (f,r2)∧lW m' least (.mk 4 0 (bL t.s) [cur,f]) r2=some (x,r):=by
 cases m with
 |zero=>simp[lW]at h
 |succ m'=>
  unfold lW at h
  cases ts with
  |nil=>simp at h;exact .inl ⟨h.1.symm,h.2,fun t r' he=>by cases he⟩
  |cons t r'=>
   dsimp only at h
   by_cases hc:t.kind=4∧least≤bM t.s
   ·rw[if_pos hc]at h
    cases he:ic m' (bM t.s+1) r' with
    |none=>rw[he]at h;cases h
    |some q=>obtain⟨f,r2⟩:=q;rw[he]at h;exact .inr ⟨m',t,r',f,r2,rfl,rfl,hc.1,hc.2,he,h⟩
   ·rw[if_neg hc]at h
    simp only[Option.some.injEq,Prod.mk.injEq]at h
    exact .inl ⟨h.1.symm,h.2.symm,fun t2 r2 he=>by cases he;exact hc⟩
theorem Ai(s:List UInt8):bM s≤4:=by unfold bM;split;omega;split;omega;split;omega;split<;>omega
theorem tK {M:Nat→Prop}{W:World}{K:Nat}{x y:an}{cx cy:List Value}(hM:¬M K)(hK:W.heap[K]? =some (.cells (cx++cy).toArray 232 (0,0)))(hx:bS M W cx x)(hy:bS M W cy y):ae M W (.slice (some ⟨K,0,none⟩) 2 2) [x,y]:=by
 have lx:cx.length=4:=az.len (α:=an) hx
 have ly:cy.length=4:=az.len (α:=an) hy
 refine⟨[cx,cy],⟨by simp[lx,ly];rfl,some ⟨K,0,none⟩,2,rfl,Nat.le_refl _,by unfold maxLen;omega,fun _=>⟨K,0,rfl,hM,(Array.getElem?_eq_some_iff.1 hK).1,fun j u hu=> ?_⟩⟩,rfl,fun i cs z hc hz=> ?_⟩
 ·rw[Nat.zero_add]
  exact cell_of_heap hK (by simpa using hu)
 ·match i with
  |0=>simp at hc hz;subst hc hz;exact hx
  |1=>simp at hc hz;subst hc hz;exact hy
  |n+2=>simp at hc
theorem Gl {b:Nat}{lv:Value}{en:Int}{T:List Tok}{w w1 wr WD w2:World}{i jj:Nat}{ck cn fk fn:Int}{cs fs:ByteArray}{cl fl:List an}{a ya:Option Addr}{c yc:Nat}{ts:List UInt8}
 (bZ:b<w.heap.size)(eT:cT b lv en T w i)(ko:ag (aG b) w wr)(zQ:ag (aG b) wr WD)(fI:ag (aG b) WD w2)
 (Lg:w2.heap[w1.heap.size]? =some (.cells #[.int .i64 ck, .int .i64 cn, .string cs, .slice a cl.length c] 232 (0,0)))
 (NQ:WD.heap[w.heap.size]? =some (.cells #[.int .i64 0, .int .i64 0, .string ⟨#[]⟩, .slice none 0 0] 232 (0,0)))
 (Qu:bS (Ah w w1.heap.size) WD [.int .i64 ck, .int .i64 cn, .string cs, .slice a cl.length c] (.mk ck cn cs cl))
 (eR:bS (eA WD.drew) w2 [.int .i64 fk, .int .i64 fn, .string fs, .slice ya fl.length yc] (.mk fk fn fs fl))(EE:cT b lv en T w2 jj)
 (dc:w.heap.size+1≤w1.heap.size)(hE:w1.heap.size<wr.heap.size)(TG:wr.heap.size≤WD.heap.size)(s2:WD.heap.size≤w2.heap.size)(IN:ts.length≤200)(C:an→Nat→Prop)(hC:C (.mk 4 0 (bL ts) [.mk ck cn cs cl, .mk fk fn fs fl]) jj):
 yp b lv en T w w1.heap.size C (((((w2.setCell ⟨w1.heap.size,0,none⟩ (.int .i64 4)).setCell ⟨w1.heap.size,1,none⟩ (.int .i64 0)).setCell ⟨w1.heap.size,2,none⟩ (.string (bL ts))).setCell ⟨w1.heap.size,3,none⟩ (.slice (some ⟨w2.heap.size,0,none⟩) 2 2)).alloc (.cells #[.int .i64 ck, .int .i64 cn, .string cs, .slice a cl.length c, .int .i64 fk, .int .i64 fn, .string fs, .slice ya fl.length yc] 232)):=by
 obtain⟨W3,sy⟩:∃W3:World,W3=(((w2.setCell ⟨w1.heap.size,0,none⟩ (.int .i64 4)).setCell ⟨w1.heap.size,1,none⟩ (.int .i64 0)).setCell ⟨w1.heap.size,2,none⟩ (.string (bL ts))).setCell ⟨w1.heap.size,3,none⟩ (.slice (some ⟨w2.heap.size,0,none⟩) 2 2):=⟨_,rfl⟩
 have vb:W3.heap.size=w2.heap.size:=by rw[sy];simp
 have Yk:W3.heap[w1.heap.size]? =some (.cells #[.int .i64 4, .int .i64 0, .string (bL ts), .slice (some ⟨w2.heap.size,0,none⟩) 2 2] 232 (0,0)):=by
  rw[sy]
  have h0:=heap_setCell_same w2 w1.heap.size 0 _ _ (.int .i64 4) Lg
  have h1:=heap_setCell_same _ w1.heap.size 1 _ _ (.int .i64 0) h0
  have h2:=heap_setCell_same _ w1.heap.size 2 _ _ (.string (bL ts)) h1
  exact heap_setCell_same _ w1.heap.size 3 _ _ (.slice (some ⟨w2.heap.size,0,none⟩) 2 2) h2
 have yb:ag (fun i=>i=w1.heap.size) w2 W3:=by
  rw[sy]
  exact((((ag.refl (fun i=>i=w1.heap.size) w2).setCell (p:=⟨w1.heap.size,0,none⟩) (.inl rfl) _).setCell (p:=⟨w1.heap.size,1,none⟩) (.inl rfl) _).setCell (p:=⟨w1.heap.size,2,none⟩) (.inl rfl) _).setCell (p:=⟨w1.heap.size,3,none⟩) (.inl rfl) _
 rw[←sy]
 clear sy
 generalize hK:(Obj.cells #[.int .i64 ck, .int .i64 cn, .string cs, .slice a cl.length c, .int .i64 fk, .int .i64 fn, .string fs, .slice ya fl.length yc] 232 (0,0))=K
 have TH:ag (aG b) w (W3.alloc K):=by
  have h1:=(ko.trans zQ).trans fI
  have h2:ag (aG b) w W3:=h1.cD yb (fun i hi aT=>by omega)
  exact h2.alloc _
 have Yl:(W3.alloc K).heap[w2.heap.size]? =some (.cells (([.int .i64 ck, .int .i64 cn, .string cs, .slice a cl.length c]:List Value)++([.int .i64 fk, .int .i64 fn, .string fs, .slice ya fl.length yc]:List Value)).toArray 232 (0,0)):=by
  have h:=heap_alloc_new W3 K
  rw[vb]at h;rw[h,←hK];rfl
 have Qv:Ev (Ah w w1.heap.size) WD (Ah w w1.heap.size) (W3.alloc K):=
  ⟨((fI.mono (fun i hi=> .inl (by unfold aG at hi;omega))).trans (yb.mono (fun i hi=> .inr hi))).alloc _,fun i hi=> .inl hi⟩
 have Qw:Ev (eA WD.drew) w2 (Ah w w1.heap.size) (W3.alloc K):=
  ⟨(yb.mono (fun i hi=>by show i<WD.heap.size;omega)).alloc _,fun i hi=> .inl (by show i<WD.heap.size;rcases hi with h|h<;>omega)⟩
 refine⟨4,0,bL ts,[.mk ck cn cs cl, .mk fk fn fs fl],some ⟨w2.heap.size,0,none⟩,2,jj,(Below.heap_alloc W3 _ _ (by omega)).trans Yk,bS.iff.2 ⟨_,rfl,?_,by rw[iF];unfold maxLen;omega⟩,eT.step TH ?_ EE.le,TH,?_,hC⟩
 ·exact tK (by unfold Ah;omega) Yl (Qu.vN Qv) (eR.vN Qw)
 ·exact(Below.heap_alloc W3 _ b (by omega)).trans ((yb.block b (by omega) (by omega)).trans EE.box)
 ·exact(Below.heap_alloc W3 _ _ (by omega)).trans ((yb.block _ (by omega) (by omega)).trans ((fI.block _ (by omega) (by unfold aG;omega)).trans NQ))
theorem Gm(b:Nat)(lv:Value)(en:Int)(T:List Tok)(mh:oq T)(k:Nat)(HT:CP b lv en T k)(HE:∀m,m<k→E9 b lv en T m):E9 b lv en T (k+1):=by
 intro least i x r w qt TI bK hp
 have bZ:b<w.heap.size:=(Array.getElem?_eq_some_iff.1 bK.box).1
 obtain⟨e0,r0,NR,TJ⟩:∃e0 r0,im k (T.drop i)=some (e0,r0)∧lW k least e0 r0=some (x,r):=by
  unfold ic at hp
  cases hq:im k (T.drop i)with
  |none=>rw[hq]at hp;cases hp
  |some q=>obtain⟨e0,r0⟩:=q;rw[hq]at hp;exact⟨e0,r0,rfl,hp⟩
 clear hp
 have mw:Below w.heap.size w (w.alloc (.cells #[.int .i64 0, .int .i64 0, .string ⟨#[]⟩, .slice none 0 0] 232)):=(Below.refl _ w).alloc (Nat.le_refl _) _
 have aX:=HT i e0 r0 _ (bK.below mw) NR
 obtain⟨zk,zn,zs,zl⟩:=e0
 have eT:=hD bK;clear bK;have TK:=hD TJ;clear TJ;have aS:=hD aX;clear aX;have lR:=hD mw;clear mw
 clear NR
 go_enter Tryz.func157,Tryz.ntmps157
 go_wp2_with fail
 refine(aS.out).mono ?_
 rintro e w1⟨_,j0,rfl,⟨cs,rfl,bw⟩,jO,kq,eX⟩
 obtain⟨av,rfl,aU,iD⟩:=bS.iff.1 bw
 obtain⟨za,zc,rfl,_⟩:=aU.open_
 have dc:=eX.size
 simp at dc
 have Lh:Hid (w1.heap[w.heap.size]? =some (.cells #[.int .i64 0, .int .i64 0, .string ⟨#[]⟩, .slice none 0 0] 232 (0,0))):=(eX.block _ (by simp) (by unfold aG;omega)).trans (heap_alloc_new w _)
 have nh:Hid (ag (aG b) w w1):=((ag.refl _ w).alloc _).cD eX (fun i hi _=>hi)
 have eR:=hD bw;clear bw;have nY:=hD jO;clear jO;have mr:=hD kq;clear kq
 clear aU iD eX
 go_wp2_with fail
 go_loopg [6]k(fun g _ wr=>∃m:Nat,m≤k∧g=m∧Hid (yp b lv en T w w1.heap.size (fun cur j=>lW m least cur (T.drop j)=some (x,r)) wr)∧w1.heap.size<wr.heap.size)
 case atStart=>
  refine⟨k,Nat.le_refl _,rfl,?_,by simp⟩
  have yd:Below w1.heap.size w1 (w1.alloc (.cells #[.int .i64 zk, .int .i64 zn, .string zs, .slice za zl.length zc] 232)):=(Below.refl _ w1).alloc (Nat.le_refl _) _
  refine(show yp _ _ _ _ _ _ _ _ from⟨zk,zn,zs,zl,za,zc,j0,heap_alloc_new _ _,?_,nY.out.below yd,nh.out.alloc _,(yd.block _ (by omega)).trans Lh.out,by {show lW k least _ (T.drop j0)=_;rw[←mr.out];exact TK.out}⟩)
  exact eR.out.vN ⟨(ag.refl _ w1).alloc _,fun i hi=>by
   rcases hi with h|h
   ·exact .inl (by unfold eA;simp;omega)
   ·exact .inr (by omega)⟩
 case round=>
  obtain⟨m,hm,rfl,HM,hE⟩:=hrel
  obtain⟨ck,cn,cs,cl,a,c,j,Li,Mq,ia,hU,hR,hC⟩:=HM.out
  obtain⟨p0,p1,p2,p3⟩:=ab ia.box
  obtain⟨la,Qx,rfl,ao⟩:=ia.cells
  have B8:=ia.few
  have qb8:=ia.le
  have Mr:(0:Int)≤(j:Int):=Int.natCast_nonneg _
  rcases tJ hC with⟨rfl,rfl,B7⟩|⟨m',t,r',f,r2,rfl,sw,kS,Ms,hex,Lj⟩
  ·
   go_upto_region 2 with fail
   go_cut [55](fun Ym wx=>Ym= .bool false∧∃n,wx=wr.drewN n)
   case first=>
    by_cases v8:j<T.length
    ·obtain⟨t,ht⟩:∃t,T[j]? =some t:=⟨_,List.getElem?_eq_getElem v8⟩
     obtain⟨bl,off,rfl,zP,B9,q0,q1,q2,q3⟩:=ao t ht
     have Qy:=B7 t _ (drop_cons ht)
     have iC:=List.mem_of_getElem? ht
     have Yn:(j:Int)<(T.length:Int):=by omega
     by_cases kS:t.kind=4
     ·obtain⟨c0,oN,zR⟩:=(mh t iC).2.2.2 kS
      have aT:bM t.s<least:=by
       rcases Nat.lt_or_ge (bM t.s) least with h|h
       ·exact h
       ·exact absurd ⟨kS,h⟩ Qy
      have db:¬(least:Int)≤(bM t.s:Int):=by omega
      have dL:decide ((least:Int)≤(bM t.s:Int))=false:=by simpa using db
      have vb:decide (least≤bM t.s)=false:=by simpa using aT
      have e0:(bH t.kind==0)=true:=by simp[bH,kS]
      have Qz:Hid (∀W,Calls Tryz.prog 190 #[.string (bL t.s)] W fun e w'=>e= .returned (.int .i64 (bM t.s))∧w'=W):=(show∀W,_ from fun W=>by rw[zR];exact(k8 c0 oN W).mono fun _ _ h=>⟨h.1,h.2.symm⟩)
      clear ao B7 Qy iC ht kS zR oN Mq Li hR hC
      go_quiet((go_at_call 190;exact Calls.quiet_of_same (Qz.out _)))
      go_wp2_with fail
      go_meet
      exact⟨rfl,_,rfl⟩
     ·have e0:(bH t.kind==0)=false:=by have:=ia.kinds t iC;simp[bH,kS];omega
      clear ao B7 Qy iC ht kS Mq Li hR hC
      go_quiet(fail)
      go_wp2_with fail
      go_meet
      exact⟨rfl,_,rfl⟩
    ·have Ql:decide ((j:Int)<(T.length:Int))=false:=by simp;omega
     have R5:decide (j<T.length)=false:=by simp;omega
     have hd3:¬(j:Int)<(T.length:Int):=by omega
     clear ao B7 Mq Li hR hC
     go_quiet(fail)
     go_wp2_with fail
     go_meet
     exact⟨rfl,_,rfl⟩
   case rest=>
    obtain⟨rfl,nn,rfl⟩:=hcut
    obtain⟨e0,e1,e2,e3⟩:=ab Li
    obtain⟨r0,r1,r2,r3⟩:=ab hR
    have g0:=aa hR 0
    have g1:=aa hR 1
    have g2:=aa hR 2
    have g3:=aa hR 3
    have hRE:w.heap.size≠w1.heap.size:=by omega
    obtain⟨av,hav,aU,iD⟩:=bS.iff.1 Mq
    simp only[List.cons.injEq,true_and,and_true]at hav
    subst hav
    have eM:=hD aU;clear aU;have sx:=hD iD;clear iD;have my:=hD ia;clear ia;have ko:=hD hU;clear hU;have Wr:=hD Li;clear Li;have Io:=hD hR;clear hR
    clear ao B7 Mq hC
    go_wp2_with fail
    refine bodyPost_ret (v:= .agg #[.int .i64 ck, .int .i64 cn, .string cs, .slice a cl.length c]) (by simp[results,Tryz.results157,go_sem,r0,r1,r2,r3]) rfl ?_
    have yb:ag (aG b) w ((((wr.setCell ⟨w.heap.size,0,none⟩ (.int .i64 ck)).setCell ⟨w.heap.size,1,none⟩ (.int .i64 cn)).setCell ⟨w.heap.size,2,none⟩ (.string cs)).setCell ⟨w.heap.size,3,none⟩ (.slice a cl.length c)):=(((ko.out.setCell (.inr (Nat.le_refl _)) _).setCell (.inr (Nat.le_refl _)) _).setCell (.inr (Nat.le_refl _)) _).setCell (.inr (Nat.le_refl _)) _
    refine⟨_,j,rfl,⟨_,rfl,bS.iff.2 ⟨_,rfl,eM.out.ev ?_,sx.out⟩⟩,(eT.out.step yb ?_ my.out.le).drewN nn,rfl,yb.drewN nn⟩
    ·have h:=((((Ev.ee (M:=Ah w w1.heap.size) (N:=eA w) wr (fun i h=>by unfold eA at h;exact .inl (by omega))).setCell (p:=⟨w.heap.size,0,none⟩) (.inl (.inl (Nat.le_refl _))) (.int .i64 ck)).setCell (p:=⟨w.heap.size,1,none⟩) (.inl (.inl (Nat.le_refl _))) (.int .i64 cn)).setCell (p:=⟨w.heap.size,2,none⟩) (.inl (.inl (Nat.le_refl _))) (.string cs)).setCell (p:=⟨w.heap.size,3,none⟩) (.inl (.inl (Nat.le_refl _))) (.slice a cl.length c)
     exact⟨h.only.drewN nn,h.sub⟩
    ·exact(heap_setCell_other _ _ _ _ (by simp;omega)).trans ((heap_setCell_other _ _ _ _ (by simp;omega)).trans ((heap_setCell_other _ _ _ _ (by simp;omega)).trans ((heap_setCell_other _ _ _ _ (by simp;omega)).trans my.out.box)))
  ·
   obtain⟨t',EF⟩:∃t',T[j]? =some t':=by
    rcases Nat.lt_or_ge j T.length with h|h
    ·exact⟨_,List.getElem?_eq_getElem h⟩
    ·rw[List.drop_eq_nil_of_le h]at sw;cases sw
   rw[drop_cons EF]at sw
   simp only[List.cons.injEq]at sw
   obtain⟨rfl,rfl⟩:=sw
   have v8:j<T.length:=(List.getElem?_eq_some_iff.1 EF).1
   obtain⟨bl,off,rfl,zP,B9,q0,q1,q2,q3⟩:=ao t' EF
   have iC:=List.mem_of_getElem? EF
   have Yn:(j:Int)<(T.length:Int):=by omega
   obtain⟨c0,oN,zR⟩:=(mh t' iC).2.2.2 kS
   have eS:=Ai t'.s
   have db:(least:Int)≤(bM t'.s:Int):=by omega
   have dL:decide ((least:Int)≤(bM t'.s:Int))=true:=by simpa using db
   have vb:decide (least≤bM t'.s)=true:=by simpa using Ms
   have e0:(bH t'.kind==0)=true:=by simp[bH,kS]
   have Qz:Hid (∀W,Calls Tryz.prog 190 #[.string (bL t'.s)] W fun e w'=>e= .returned (.int .i64 (bM t'.s))∧w'=W):=(show∀W,_ from fun W=>by rw[zR];exact(k8 c0 oN W).mono fun _ _ h=>⟨h.1,h.2.symm⟩)
   have IN:Hid (t'.s.length≤200):=(mh t' iC).1
   have my:=hD ia;clear ia;have ko:=hD hU;clear hU;have Wr:=hD Li;clear Li;have Io:=hD hR;clear hR;have Sc:=hD Mq;clear Mq;have O2:=hD hex;clear hex;have QA:=hD Lj;clear Lj
   clear ao iC EF kS zR oN hC
   go_upto_region 2 with fail
   go_cut [55](fun Ym wx=>Ym= .bool true∧∃n,wx=wr.drewN n)
   case first=>
    go_quiet((go_at_call 190;exact Calls.quiet_of_same (Qz.out _)))
    go_wp2_with fail
    go_meet
    exact⟨rfl,_,rfl⟩
   case rest=>
    obtain⟨rfl,nn,rfl⟩:=hcut
    go_upto_region 3 with fail
    go_cut [6](fun s6 wx=>s6= .string (bL t'.s)∧∃n,wx=(wr.drewN nn).drewN n)
    case first=>
     go_quiet(fail)
     go_wp2_with fail
     go_meet
     exact⟨rfl,_,rfl⟩
    case rest=>
     obtain⟨rfl,n2,rfl⟩:=hcut
     have f1:=aa my.out.box 1
     go_upto_region 5 with fail
     obtain⟨WD,NS⟩:∃WD:World,WD=(wr.drewN (nn+n2)).setCell ⟨b,1,none⟩ (.int .i64 ((j:Int)+1)):=⟨_,rfl⟩
     rw[←NS]
     have Yo:Hid (cT b (.slice (some ⟨bl,off,none⟩) T.length Qx) en T WD (j+1)):=(show cT _ _ _ _ _ _ by rw[NS];exact((my.out.drewN (nn+n2)).next v8 (ag.refl _ _)).1)
     have zQ:Hid (ag (aG b) wr WD):=(show ag _ _ _ by rw[NS];exact((ag.refl _ wr).drewN (nn+n2)).Gi 1 _)
     have TL:Hid (WD.heap[w1.heap.size]? =some (.cells #[.int .i64 ck, .int .i64 cn, .string cs, .slice a cl.length c] 232 (0,0))):=(zQ.out.block _ hE (by unfold aG;omega)).trans Wr.out
     have NQ:Hid (WD.heap[w.heap.size]? =some (.cells #[.int .i64 0, .int .i64 0, .string ⟨#[]⟩, .slice none 0 0] 232 (0,0))):=(zQ.out.block _ (by omega) (by unfold aG;omega)).trans Io.out
     have Qu:Hid (bS (Ah w w1.heap.size) WD [.int .i64 ck, .int .i64 cn, .string cs, .slice a cl.length c] (.mk ck cn cs cl)):=Sc.out.vN ⟨zQ.out.mono (fun i hi=> .inl (by unfold aG at hi;omega)),fun i hi=> .inl hi⟩
     have TG:=zQ.out.size
     clear NS p0 p1 p2 p3 f1 q0 q1 q2 q3
     obtain⟨d0,d1,d2,d3⟩:=ab TL.out
     obtain⟨fk,fn,fs,fl⟩:=f
     have aX:=HE m' (by omega) (bM t'.s+1) (j+1) (.mk fk fn fs fl) r2 WD.drew (by omega) (by omega) Yo.out.drew O2.out
     rw[show((bM t'.s+1:Nat):Int)=(bM t'.s:Int)+1 from by omega]at aX
     have vd:=hD aX;clear aX
     have z1:IntKind.i64.wrap ((bM t'.s:Int)+1)=(bM t'.s:Int)+1:=IntWalk.i64_in _ (by omega)
     go_region_law(first
      |(go_simp;go_at_call 190;refine(Qz.out _).mono ?_;rintro e w'⟨rfl,rfl⟩)
      |(go_simp;go_at_call 157
        refine vd.out.mono ?_
        rintro e w2⟨_,jj,rfl,⟨cs2,rfl,bw⟩,EG,qv,QB⟩
        obtain⟨av,rfl,aU,iD⟩:=bS.iff.1 bw
        obtain⟨ya,yc,rfl,_⟩:=aU.open_
        have s2:=QB.size
        simp at s2
        have fI:Hid (ag (aG b) WD w2):=((ag.refl _ WD).drew.trans QB)
        have Lg:Hid (w2.heap[w1.heap.size]? =some (.cells #[.int .i64 ck, .int .i64 cn, .string cs, .slice a cl.length c] 232 (0,0))):=(fI.out.block _ (by omega) (by unfold aG;omega)).trans TL.out
        have Ce:w1.heap.size<w2.heap.size:=by omega
        have Ws:Hid (∀o,(w2.alloc o).heap[w1.heap.size]? =some (.cells #[.int .i64 ck, .int .i64 cn, .string cs, .slice a cl.length c] 232 (0,0))):=(show∀o,_ from fun o=>(Below.heap_alloc w2 o _ Ce).trans Lg.out)
        obtain⟨k0,k1,k2,k3⟩:=ab Lg.out
        have n0:∀o,(w2.alloc o).cell? ⟨w1.heap.size,0,none⟩=some (.int .i64 ck):=fun o=>(ab (Ws.out o)).1
        have n1:∀o,(w2.alloc o).cell? ⟨w1.heap.size,1,none⟩=some (.int .i64 cn):=fun o=>(ab (Ws.out o)).2.1
        have n2':∀o,(w2.alloc o).cell? ⟨w1.heap.size,2,none⟩=some (.string cs):=fun o=>(ab (Ws.out o)).2.2.1
        have n3:∀o,(w2.alloc o).cell? ⟨w1.heap.size,3,none⟩=some (.slice a cl.length c):=fun o=>(ab (Ws.out o)).2.2.2
        have fz0:=aa Lg.out 0
        have fz1:=aa Lg.out 1
        have fz2:=aa Lg.out 2
        have fz3:=aa Lg.out 3
        have eR:=hD bw
        have EE:=hD EG
        have vH:=hD qv
        clear QB bw aU iD EG qv))
     all_goals
      clear z1
      go_wp2_with fail
      go_roundg m'
      case measure=>omega
      case rel=>
       refine⟨m',by omega,rfl,?_,by simp;omega⟩
       have oY:=Gl bZ eT.out ko.out zQ.out fI.out Lg.out NQ.out Qu.out eR.out EE.out (by omega) hE TG s2 IN.out
       exact(show yp _ _ _ _ _ _ _ _ from oY _ (by rw[←vH.out];exact QA.out))
theorem MM(b:Nat)(lv:Value)(en:Int)(T:List Tok)(mh:oq T)(k:Nat):E9 b lv en T k∧CP b lv en T k∧Jc b lv en T k:=by
 induction k using Nat.strongRecOn with
 |ind k ih=>
  refine⟨?_,?_,Gk b lv en T k fun m hm=>(ih m hm).1⟩
  ·cases k with
   |zero=>intro least i x r w _ _ _ h;simp[ic]at h
   |succ k=>exact Gm b lv en T mh k (ih k (by omega)).2.1 fun m hm=>(ih m (by omega)).1
  ·cases k with
   |zero=>intro i x r w _ h;simp[im]at h
   |succ k=>exact CQ b lv en T mh k (ih k (by omega)).2.2
theorem qP {s:List UInt8}(h:0<bM s):∃c,c∈cW∧s=[c]:=by
 unfold bM at h
 split at h
 ·rename_i h1;rcases h1 with h1|h1|h1<;>exact⟨_,by decide,h1⟩
 ·split at h
  ·rename_i h1;rcases h1 with h1|h1<;>exact⟨_,by decide,h1⟩
  ·split at h
   ·rename_i h1;exact⟨_,by decide,h1⟩
   ·split at h
    ·rename_i h1;rcases h1 with h1|h1<;>exact⟨_,by decide,h1⟩
    ·omega
theorem MN(M:Nat→Prop)(w:World)(k n:Int)(s:ByteArray)(l:List an)(lv:Value)(hl:ae M w lv l)(hs:s.size≤200)(h:tD k n s.data.toList l.length=true):
 Calls Tryz.prog 212 #[.agg #[.int .i64 k, .int .i64 n, .string s,lv]] w fun e w'=>e= .returned (.bool true)∧Below w.heap.size w w':=by
 obtain⟨a,cap,rfl,cq,hm,_⟩:=hl.open_
 clear hl
 unfold tD at h
 by_cases h1:k=1
 ·subst h1
  simp only[if_true,Bool.and_eq_true,decide_eq_true_eq,List.isEmpty_iff,beq_iff_eq]at h
  obtain⟨⟨⟨wh,wi⟩,zR⟩,mz⟩:=h
  obtain rfl:=bB zR
  rw[mz]
  clear mz zR
  go_enter Tryz.func212,Tryz.ntmps212
  go_wp2
  go_ret
  exact⟨rfl,(Below.refl _ _).alloc (Nat.le_refl _) _⟩
 ·rw[if_neg h1]at h
  simp only[Bool.and_eq_true,decide_eq_true_eq]at h
  obtain⟨rfl,h⟩:=h
  by_cases h2:k=2
  ·subst h2
   simp only[if_true,Bool.and_eq_true,beq_iff_eq]at h
   obtain⟨ht,mz⟩:=h
   rw[mz]
   clear mz h1
   have HT:=hD ht;clear ht
   go_enter Tryz.func212,Tryz.ntmps212
   go_wp2_with fail
   refine(pH _ _ HT.out).mono ?_
   rintro e w1⟨rfl,aw⟩
   obtain⟨q0,q1,q2,q3⟩:=ab (boxed aw)
   have aO:=hD aw;clear aw
   go_wp2_with fail
   go_ret
   exact⟨rfl,aL aO.out⟩
  ·rw[if_neg h2]at h
   by_cases h3:k=3
   ·subst h3
    simp only[if_true,Bool.and_eq_true,beq_iff_eq]at h
    obtain⟨ht,mz⟩:=h
    rw[mz]
    rw[nt]at ht
    clear mz h1 h2
    have HT:=hD ht;clear ht
    go_enter Tryz.func212,Tryz.ntmps212
    go_wp2_with fail
    refine(eZ true _ _ HT.out (by unfold maxLen;omega)).mono ?_
    rintro e w1⟨rfl,rfl⟩
    go_wp2_with fail
    go_ret
    exact⟨rfl,(Below.refl _ _).alloc (Nat.le_refl _) _⟩
   ·rw[if_neg h3]at h
    by_cases h4:k=4
    ·subst h4
     simp only[if_true,Bool.and_eq_true,beq_iff_eq,decide_eq_true_eq]at h
     obtain⟨ht,mz⟩:=h
     obtain⟨c,hc,zx⟩:=qP ht
     obtain rfl:=bB zx
     rw[mz]
     have hz:(0:Int)<(bM [c]:Int):=by simp at ht;omega
     have HB:=hD (fun w=>k8 c hc w)
     generalize bM [c]=bb at*
     clear mz h1 h2 h3 ht zx hc
     go_enter Tryz.func212,Tryz.ntmps212
     go_wp2_with fail
     refine(HB.out _).mono ?_
     rintro e w1⟨rfl,rfl⟩
     go_wp2_with fail
     go_ret
     exact⟨rfl,(Below.refl _ _).alloc (Nat.le_refl _) _⟩
    ·rw[if_neg h4]at h
     by_cases h6:k=6
     ·subst h6
      simp only[if_true,Bool.and_eq_true,beq_iff_eq,decide_eq_true_eq]at h
      obtain⟨ht,mz⟩:=h
      have hz:(0:Int)<(cO s.data.toList:Int):=by omega
      have HA:=hD (fun w=>qM s w)
      have dL:decide ((0:Int)<(cO s.data.toList:Int))=true:=by simpa using ht
      have vb:decide (0<cO s.data.toList)=true:=by simpa using ht
      rw[mz]
      generalize cO s.data.toList=bb at*
      clear mz h1 h2 h3 ht h4
      go_enter Tryz.func212,Tryz.ntmps212
      go_wp2_with fail
      go_quiet((go_at_call 209;exact Calls.quiet_of_same ((HA.out _).mono fun _ _ h=>⟨h.1,h.2.symm⟩)))
      go_wp2_with fail
      go_ret
      exact⟨rfl,((Below.refl _ _).alloc (Nat.le_refl _) _).trans ⟨rfl,rfl,rfl,Nat.le_refl _,fun _ _=>rfl⟩⟩
     ·rw[if_neg h6]at h;cases h
theorem tL {k n:Int}{s:List UInt8}{c:Nat}(h:tD k n s c=true):s.length≤200:=by
 unfold tD at h
 by_cases h1:k=1
 ·rw[if_pos h1]at h
  simp only[Bool.and_eq_true,List.isEmpty_iff]at h
  rw[h.1.2];simp
 ·rw[if_neg h1]at h
  simp only[Bool.and_eq_true]at h
  replace h:=h.2
  by_cases h2:k=2
  ·rw[if_pos h2]at h
   simp only[Bool.and_eq_true,iK,decide_eq_true_eq]at h
   omega
  ·rw[if_neg h2]at h
   by_cases h3:k=3
   ·rw[if_pos h3]at h
    simp only[Bool.and_eq_true,oo,decide_eq_true_eq]at h
    omega
   ·rw[if_neg h3]at h
    by_cases h4:k=4
    ·rw[if_pos h4]at h
     simp only[Bool.and_eq_true,decide_eq_true_eq]at h
     obtain⟨c,_,rfl⟩:=qP h.1
     simp
    ·rw[if_neg h4]at h
     by_cases h6:k=6
     ·rw[if_pos h6]at h
      simp only[Bool.and_eq_true,decide_eq_true_eq]at h
      have ha:=h.1
      unfold cO at ha
      split at ha
      ·rename_i hh;rcases hh with rfl|rfl|rfl<;>simp
      ·split at ha
       ·rename_i hh;rcases hh with rfl|rfl|rfl|rfl|rfl|rfl<;>simp
       ·split at ha
        ·rename_i hh;subst hh;simp
        ·omega
     ·rw[if_neg h6]at h;cases h
theorem mD:∀{l:List an}{i:Nat}{e:an},l[i]? =some e→cI (l.take (i+1))=cI (l.take i)+dA e
 |[],i,e,h=>by simp at h
 |x::r,0,e,h=>by simp at h;subst h;simp[cI]
 |x::r,i+1,e,h=>by
  have:=mD (l:=r) (i:=i) (e:=e) (by simpa using h)
  simp only[List.take_succ_cons,cI]
  rw[this];omega
theorem nu:∀(l:List an)(i:Nat),cI (l.take i)≤cI l
 |[],i=>by simp
 |x::r,0=>by simp[cI]
 |x::r,i+1=>by have:=nu r i;simp only[List.take_succ_cons,cI];omega
theorem qQ:∀{l:List an}{i:Nat}{e:an},l[i]? =some e→dA e≤cI l∧ju e≤tC l∧(pF l=true→fX e=true)
 |[],i,e,h=>by simp at h
 |x::r,0,e,h=>by
  simp at h;subst h
  refine⟨by simp only[cI];omega,by simp only[tC];omega,fun hn=> ?_⟩
  simp only[pF,Bool.and_eq_true]at hn;exact hn.1
 |x::r,i+1,e,h=>by
  obtain⟨h1,h2,h3⟩:=qQ (l:=r) (i:=i) (e:=e) (by simpa using h)
  refine⟨by simp only[cI];omega,by simp only[tC];omega,fun hn=> ?_⟩
  simp only[pF,Bool.and_eq_true]at hn;exact h3 hn.2
theorem qR(e:an):1≤dA e:=by cases e;simp[dA]
theorem MO:∀(N:Nat)(e:an),dA e≤N→∀(M:Nat→Prop)(w:World)(v:Value)(deep left:Int),bI M w v e→fX e=true→(ju e:Int)≤deep→deep≤8→(dA e:Int)≤left→left≤40→
 Calls Tryz.prog 192 #[v, .int .i64 deep, .int .i64 left] w fun e' w'=>e'= .returned (.int .i64 (left-dA e))∧Below w.heap.size w w':=by
 intro N
 induction N with
 |zero=>intro e he;have:=qR e;omega
 |succ N ih=>
  intro e he M w v deep left ek zy hd hd8 hs qb9
  obtain⟨k,n,s,l⟩:=e
  obtain⟨cs,rfl,bw⟩:=ek
  obtain⟨lv,rfl,aU,iD⟩:=bS.iff.1 bw
  have eM:=hD aU
  obtain⟨a,cap,rfl,cq,hm,hc⟩:=aU.open_
  simp only[fX,Bool.and_eq_true]at zy
  obtain⟨wh,wi⟩:=zy
  have cB:s.size≤200:=by have:=tL wh;rw[aP]at this;exact this
  simp only[dA]at he hs
  simp only[ju]at hd
  have e0:(dA (.mk k n s l):Int)=cI l+1:=by simp[dA]
  rw[e0]
  have Ql:¬deep<1:=by omega
  have dc:¬left<1:=by omega
  have TM:Hid (∀W,Below w.heap.size w W→Calls Tryz.prog 212 #[.agg #[.int .i64 k, .int .i64 n, .string s, .slice a l.length cap]] W fun e w'=>e= .returned (.bool true)∧Below W.heap.size W w'):=(show∀W,_→_ from fun W hb=>MN M W k n s l _ (eM.out.below hb) cB wh)
  have HC:=hD hc;clear hc;have ve:=hD wi;clear wi;have HD:=hD hd;clear hd
  clear bw aU iD wh e0
  generalize hlen:l.length=len at*
  have jJ:=hD hlen;clear hlen
  go_enter Tryz.func192,Tryz.ntmps192
  go_wp2_with fail
  refine(TM.out _ (by exact((Below.refl _ _).alloc (Nat.le_refl _) _))).mono ?_
  rintro e w1⟨rfl,aw⟩
  have cQ:=hD (boxed aw)
  have aO:=hD (aL aw)
  have s1:=aw.size
  simp at s1
  clear aw
  go_wp2_with fail
  go_loopg [2,7]len(fun g lf iv wr=>∃i:Nat,i≤len∧g=len-i∧iv= .int .i64 i∧lf= .int .i64 (left-1-cI (l.take i))∧Hid (Below w1.heap.size w1 wr))
  case atStart=>exact⟨0,Nat.zero_le _,rfl,rfl,by simp[cI],(show Below _ _ _ from Below.refl _ _)⟩
  case round=>
   obtain⟨i,hi,rfl,rfl,rfl,aA⟩:=hrel
   have hle:=nu l i
   obtain⟨g0,g1,g2,g3⟩:=ab ((aA.out.block w.heap.size (by omega)).trans cQ.out)
   have s2:=aA.out.size
   have NT:(0:Int)≤left-1-(cI (l.take i):Int):=by omega
   have Wt:left-1-(cI (l.take i):Int)≤40:=by omega
   by_cases aT:i<len
   ·obtain⟨b,off,rfl,xW,bZ,aC⟩:=HC.out (by omega)
    obtain⟨x,hx⟩:∃x,l[i]? =some x:=⟨_,List.getElem?_eq_getElem (by rw[jJ.out];exact aT)⟩
    obtain⟨xk,xn,xs,xl⟩:=x
    obtain⟨cs,bw,bE⟩:=aC i _ hx
    have me:=bw
    obtain⟨xv,rfl,fH,Wu⟩:=bS.iff.1 me
    obtain⟨xa,xc,rfl,_⟩:=fH.open_
    obtain⟨f1,f2,f3⟩:=qQ hx
    have f4:=mD hx
    have f5:=nu l (i+1)
    have hB:Below w.heap.size w wr:=aO.out.trans (aA.out.mono (by have:=aO.out.size;omega))
    have q0:wr.cell? ⟨b,off+i*4,none⟩=some (.int .i64 xk):=(hB.cell (p:=⟨b,off+i*4,none⟩) bZ).trans (bE 0 _ rfl)
    have q1:wr.cell? ⟨b,off+i*4+1,none⟩=some (.int .i64 xn):=(hB.cell (p:=⟨b,off+i*4+1,none⟩) bZ).trans (bE 1 _ rfl)
    have q2:wr.cell? ⟨b,off+i*4+2,none⟩=some (.string xs):=(hB.cell (p:=⟨b,off+i*4+2,none⟩) bZ).trans (bE 2 _ rfl)
    have q3:wr.cell? ⟨b,off+i*4+3,none⟩=some (.slice xa xl.length xc):=(hB.cell (p:=⟨b,off+i*4+3,none⟩) bZ).trans (bE 3 _ rfl)
    have IL:=HD.out
    have aX:=ih (.mk xk xn xs xl) (by omega) M wr _ (deep-1) (left-1-(cI (l.take i):Int)) ⟨_,rfl,az.ev (α:=an) bw (Ev.aj hB)⟩ (f3 ve.out) (by omega) (by omega) (by omega) (by omega)
    have kR:Hid (left-1-(cI (l.take i):Int)-(dA (.mk xk xn xs xl):Int)=left-1-(cI (l.take (i+1)):Int)):=(show _=_ by rw[f4];omega)
    have aS:=hD aX;clear aX
    clear aC bE bw me fH Wu f1 f2 f3 f4 f5 hx hB IL
    go_wp2_with fail
    refine(aS.out).mono ?_
    rintro e w2⟨rfl,aM⟩
    have bO:=hD aM;clear aM
    go_wp2_with fail
    go_roundg(len-(i+1))
    case measure=>omega
    case rel=>exact⟨i+1,by omega,rfl,by go_num,by rw[kR.out],(show Below _ _ _ from aA.out.trans (bO.out.mono s2))⟩
   ·have xY:i=len:=by omega
    go_wp2_with fail
    go_ret
    refine⟨gD ?_,aO.out.trans (aA.out.mono (by have:=aO.out.size;omega))⟩
    rw[List.take_of_length_le (by rw[jJ.out];omega)];omega
theorem tM(M:Nat→Prop)(w:World)(v:Value)(e:an)(ek:bI M w v e)(hn:fX e=true)(hd:ju e≤8)(hs:dA e≤40):
 Calls Tryz.prog 159 #[v] w fun e' w'=>e'= .returned (.bool true)∧Below w.heap.size w w':=by
 obtain⟨k,n,s,l⟩:=e
 obtain⟨cs,rfl,bw⟩:=ek
 have me:=bw
 obtain⟨lv,rfl,aU,iD⟩:=bS.iff.1 me
 obtain⟨a,cap,rfl,_⟩:=aU.open_
 have HC:Hid (∀W,Below w.heap.size w W→Calls Tryz.prog 192 #[.agg #[.int .i64 k, .int .i64 n, .string s, .slice a l.length cap], .int .i64 8, .int .i64 40] W fun e' w'=>e'= .returned (.int .i64 (40-dA (.mk k n s l)))∧Below W.heap.size W w'):=(show∀W,_→_ from fun W hb=>MO 40 (.mk k n s l) hs M W _ 8 40 ⟨_,rfl,az.ev (α:=an) bw (Ev.aj hb)⟩ hn (by omega) (by omega) (by omega) (by omega))
 have hz:(0:Int)≤40-(dA (.mk k n s l):Int):=by omega
 generalize dA (.mk k n s l)=sz at*
 clear bw me aU iD hn hd
 go_enter Tryz.func159,Tryz.ntmps159
 go_wp2_with fail
 refine(HC.out _ (by exact((Below.refl _ _).alloc (Nat.le_refl _) _))).mono ?_
 rintro e w1⟨rfl,aw⟩
 have aO:=hD (aL aw)
 clear aw
 go_wp2_with fail
 go_ret
 exact⟨aN (by simp;omega),aO.out⟩
theorem CR {l:List UInt8}{kd n:Nat}{str:List UInt8}{size:Nat}(hl:l.length≤200)(h:pE l=some ((kd,n,str),size)):1≤kd∧kd≤4∧str.length≤200∧(kd=1→str=[])∧(kd≠1→n=0)∧(kd=4→∃c,c∈cW∧str=[c])∧0<size∧size≤l.length:=by
 cases l with
 |nil=>simp[pE]at h
 |cons c r=>
  unfold pE at h
  dsimp only at h
  simp only[List.length_cons]at hl⊢
  by_cases hd:lV c=true
  ·rw[if_pos hd]at h
   split at h
   ·cases h
   ·simp only[Option.some.injEq,Prod.mk.injEq]at h
    obtain⟨⟨rfl,rfl,rfl⟩,rfl⟩:=h
    exact⟨by omega,by omega,by simp,fun _=>rfl,fun h=>absurd rfl h,fun h=>by omega,by omega,by omega⟩
  ·rw[if_neg hd]at h
   by_cases gW:oh c=true
   ·rw[if_pos gW]at h
    split at h
    ·simp only[Option.some.injEq,Prod.mk.injEq]at h
     obtain⟨⟨rfl,rfl,rfl⟩,rfl⟩:=h
     have hle:((c::r).takeWhile cH).length≤(c::r).length:=(List.takeWhile_prefix cH).length_le
     simp only[List.length_cons]at hle
     have hw:cH c=true:=by unfold cH;rw[gW];rfl
     have wg:0<((c::r).takeWhile cH).length:=by rw[List.takeWhile_cons_of_pos hw];simp
     exact⟨by omega,by omega,by omega,fun h=>by omega,fun _=>rfl,fun h=>by omega,wg,hle⟩
    ·cases h
   ·rw[if_neg gW]at h
    by_cases zw:c=34
    ·rw[if_pos zw]at h
     split at h
     ·rename_i x hx
      split at h
      ·simp only[Option.some.injEq,Prod.mk.injEq]at h
       obtain⟨⟨rfl,rfl,rfl⟩,rfl⟩:=h
       have hlen:=congrArg List.length hx
       rw[List.length_drop]at hlen
       simp only[List.length_cons]at hlen
       exact⟨by omega,by omega,by omega,fun h=>by omega,fun _=>rfl,fun h=>by omega,by omega,by omega⟩
      ·cases h
     ·cases h
    ·rw[if_neg zw]at h
     split at h
     ·rename_i hm
      simp only[Option.some.injEq,Prod.mk.injEq]at h
      obtain⟨⟨rfl,rfl,rfl⟩,rfl⟩:=h
      have NM:=List.contains_iff_mem.1 hm
      refine⟨by omega,by omega,by simp,fun h=>by omega,fun _=>rfl,fun _=>⟨c,?_,rfl⟩,by omega,by omega⟩
      simp only[cW,List.mem_cons,List.not_mem_nil,or_false]at NM⊢
      rcases NM with h|h|h|h|h|h|h|h|h|h<;>simp[h]
     ·split at h
      ·rename_i hm
       simp only[Option.some.injEq,Prod.mk.injEq]at h
       obtain⟨⟨rfl,rfl,rfl⟩,rfl⟩:=h
       exact⟨by omega,by omega,by simp,fun h=>by omega,fun _=>rfl,fun _=>⟨c,by rw[hm.1];simp[cW],rfl⟩,by omega,by omega⟩
      ·cases h
theorem je:∀(k:Nat)(l:List UInt8)(i:Nat)(T:List Tok),l.length≤200→dQ k l i=some T→oq T∧(∀t∈T,1≤t.kind∧t.kind≤4)∧T.length≤l.length
 |k,[],i,T,_,h=>by
  cases k<;>simp[dQ]at h<;>subst h<;>exact⟨fun t ht=>(by cases ht),fun t ht=>(by cases ht),by simp⟩
 |0,_::_,i,T,_,h=>by simp[dQ]at h
 |k+1,c::r,i,T,hl,h=>by
  unfold dQ at h
  by_cases hc:c=32
  ·rw[if_pos hc]at h
   obtain⟨h1,h2,h3⟩:=je k r (i+1) T (by simp at hl;omega) h
   exact⟨h1,h2,by simp;omega⟩
  ·rw[if_neg hc]at h
   cases h1:pE (c::r)with
   |none=>rw[h1]at h;cases h
   |some q=>
    obtain⟨⟨kd,n,s⟩,size⟩:=q
    rw[h1]at h
    dsimp only at h
    obtain⟨a1,a2,a3,a4,a5,a6,a7,a8⟩:=CR hl h1
    rw[if_neg (by omega)]at h
    cases h2:dQ k ((c::r).drop size) (i+size)with
    |none=>rw[h2]at h;cases h
    |some ts=>
     rw[h2]at h
     simp only[Option.map_some,Option.some.injEq]at h
     subst h
     obtain⟨b1,b2,b3⟩:=je k _ (i+size) ts (by rw[List.length_drop];omega) h2
     rw[List.length_drop]at b3
     simp only[List.length_cons]at b3 a8⊢
     refine⟨fun t ht=> ?_,fun t ht=> ?_,by omega⟩
     ·rcases List.mem_cons.1 ht with rfl|ht
      ·exact⟨a3,a4,a5,a6⟩
      ·exact b1 t ht
     ·rcases List.mem_cons.1 ht with rfl|ht
      ·exact⟨a1,a2⟩
      ·exact b2 t ht
theorem CS:(Tryz.prog.info? 259).map (fun i=>(i.zero,i.size,i.bytes))=some (some (.agg #[.int .i64 0, .int .i64 0, .string ⟨#[]⟩, .int .i64 0]),4,40):=by kernel_rfl
def Fa(w:World)(s:ByteArray)(T:List Tok)(pos:Nat)(wr:World):Prop:=
 ∃(a:Option Addr)(c:Nat)(done rest:List Tok)(k:Nat),done++rest=T∧dQ k (s.data.toList.drop pos) pos=some rest∧aK (fun i=>i<w.heap.size+2) (w.heap.size+2) 259 wr (.slice a done.length c) (done.map kA)∧done.length≤pos∧Below w.heap.size w wr∧w.heap.size+2≤wr.heap.size∧
  wr.heap[w.heap.size]? =some (.cells #[.int .i64 0, .int .i64 0, .string ⟨#[]⟩, .slice none 0 0] 232 (0,0))∧wr.heap[w.heap.size+1]? =some (.cells #[.slice a done.length c, .int .i64 0, .int .i64 s.size, .int .i64 (-1)] 257 (0,0))
def Jf(w:World)(o:Obj)(wx:World):Prop:=wx.heap[w.heap.size]? =some o∧wx.heap.size=w.heap.size+1∧Below w.heap.size w wx
theorem Fb {w wx:World}(o:Obj)(h1:wx.heap=(w.alloc o).heap)(h2:wx.os=w.os)(h3:wx.tape=w.tape)(h4:wx.output=w.output):Jf w o wx:=by
 obtain⟨a,b,d⟩:=pI (w:=w) (o0:=o) rfl
 unfold Jf
 rw[h1]
 exact⟨a,b,⟨h2,h3,h4,by rw[h1];exact d.size,by rw[h1];exact d.block⟩⟩
def CT(w:World)(x:an)(e:Ending)(w':World):Prop:=∃v,e= .returned (.tuple #[v, .int .i64 0, .int .i64 0])∧bI (eA w) w' v x∧Below w.heap.size w w'
theorem Fc(s:ByteArray)(w:World)(x:an)(h:dq s.data.toList=some x):Calls Tryz.prog 140 #[.string s] w (CT w x):=by
 obtain⟨i0,dF,dM,db,dL⟩:=info_parts CS
 obtain⟨T,hT,hex,hs,zy,hdp,cB⟩:∃T,dQ 200 s.data.toList 0=some T∧ic 60 1 T=some (x,[])∧s.size≤200∧fX x=true∧ju x≤8∧dA x≤40:=by
  unfold dq at h
  cases h1:dQ 200 s.data.toList 0 with
  |none=>rw[h1]at h;cases h
  |some T=>
   rw[h1]at h
   dsimp only at h
   cases h2:ic 60 1 T with
   |none=>rw[h2]at h;cases h
   |some q=>
    obtain⟨e,r⟩:=q
    rw[h2]at h
    cases r with
    |cons t r=>cases h
    |nil=>
     dsimp only at h
     split at h
     ·rename_i hc
      simp only[Option.some.injEq]at h
      subst h
      rw[aP]at hc
      exact⟨T,rfl,h2,hc⟩
     ·cases h
 clear h
 obtain⟨xk,xn,xs,xl⟩:=x
 obtain⟨mh,IK,Ip⟩:=je 200 _ 0 T (by rw[aP];exact hs) hT
 rw[aP]at Ip
 have HT:=hD hT;clear hT;have O2:=hD hex;clear hex;have Mt:=hD mh;clear mh;have O3:=hD IK;clear IK;have HNB:=hD zy;clear zy
 go_enter Tryz.func140,Tryz.ntmps140
 go_wp2_with fail
 go_loopg [3,4,6,7,8]s.size(fun g r1 r2 iv _ _ wr=>∃pos:Nat,pos≤s.size∧g=s.size-pos∧iv= .int .i64 pos∧r1= .int .i64 0∧r2= .int .i64 0∧Hid (Fa w s T pos wr))
 case atStart=>
  refine⟨0,Nat.zero_le _,rfl,rfl,rfl,rfl,?_⟩
  obtain⟨b0,b1,hz,hb⟩:=iM (w:=w) (o0:= .cells #[.int .i64 0, .int .i64 0, .string ⟨#[]⟩, .slice none 0 0] 232) (o1:= .cells #[.slice none 0 0, .int .i64 0, .int .i64 s.size, .int .i64 (-1)] 257) rfl
  exact(show Fa _ _ _ _ _ from⟨none,0,[],T,200,rfl,HT.out,aK.nil _ _ _ _,Nat.le_refl _,hb,by rw[hz];omega,b0,b1⟩)
 case round=>
  obtain⟨pos,wg,rfl,rfl,rfl,rfl,HL⟩:=hrel
  obtain⟨a,c,done,rest,k,Lk,vg,bn,hdl,sN,Ll,hR,hP⟩:=HL.out
  by_cases aT:pos<s.size
  ·obtain⟨ch,IP⟩:∃ch,s[pos]=ch:=⟨_,rfl⟩
   have hb:=cR s pos aT
   rw[IP]at hb
   have Cf:s.data.toList.drop pos=ch::s.data.toList.drop (pos+1):=by
    have hl:=(List.getElem?_eq_some_iff.1 hb).1
    rw[List.drop_eq_getElem_cons hl,(List.getElem?_eq_some_iff.1 hb).2]
   have hpz:(pos:Int)<s.size:=by omega
   rw[Cf]at vg
   cases k with
   |zero=>simp[dQ]at vg
   |succ k=>
    unfold dQ at vg
    by_cases Mu:ch=32
    ·subst Mu
     rw[if_pos rfl]at vg
     have QC:=hD vg;clear vg;have Sd:=hD Lk;clear Lk;have kn:=hD bn;clear bn;have zz:=hD sN;clear sN;have HR:=hD hR;clear hR;have HP:=hD hP;clear hP
     clear Cf hb HL
     go_wp2_with fail
     go_roundg(s.size-(pos+1))
     case measure=>omega
     case rel=>exact⟨pos+1,by omega,rfl,by go_num,rfl,rfl,(show Fa _ _ _ _ _ from⟨a,c,done,rest,k,Sd.out,QC.out,kn.out,by omega,zz.out,Ll,HR.out,HP.out⟩)⟩
    ·rw[if_neg Mu]at vg
     have e32:((ch.toNat:Int)==32)=false:=by simp;intro h;exact Mu (UInt8.toNat_inj.1 (by simp;omega))
     cases h1:pE (ch::s.data.toList.drop (pos+1))with
     |none=>rw[h1]at vg;cases vg
     |some q=>
      obtain⟨⟨kd,n,str⟩,size⟩:=q
      rw[h1]at vg
      dsimp only at vg
      rw[←Cf]at h1
      obtain⟨aX,qca,hle,hn9,bK⟩:=Ja s wr pos hs kd n str size h1
      rw[if_neg (by omega),←Cf]at vg
      rw[List.drop_drop]at vg
      cases h2:dQ k (s.data.toList.drop (pos+size)) (pos+size)with
      |none=>rw[h2]at vg;cases vg
      |some ts=>
       rw[h2]at vg
       simp only[Option.map_some,Option.some.injEq]at vg
       have qcb:(((pos+size:Nat):Int)==0)=false:=by simp;omega
       have QC:=hD vg;clear vg;have Yp:=hD h2;clear h2;have Sd:=hD Lk;clear Lk;have kn:=hD bn;clear bn;have zz:=hD sN;clear sN;have HR:=hD hR;clear hR;have HP:=hD hP;clear hP;have aS:=hD aX;clear aX
       clear Cf hb HL h1
       go_wp2_with fail
       refine(aS.out).mono ?_
       rintro e w1⟨rfl,aw⟩
       have s1:=aw.size
       have Iq:Hid (w1.heap[w.heap.size+1]? =some (.cells #[.slice a done.length c, .int .i64 0, .int .i64 s.size, .int .i64 (-1)] 257 (0,0))):=(aw.block _ (by omega)).trans HP.out
       have Cd:=hD (kn.out.below aw)
       have mr:Hid (w1.heap[w.heap.size]? =some (.cells #[.int .i64 0, .int .i64 0, .string ⟨#[]⟩, .slice none 0 0] 232 (0,0))):=(aw.block _ (by omega)).trans HR.out
       have aO:Hid (Below w.heap.size w w1):=zz.out.trans (aw.mono (by omega))
       obtain⟨p0,p1,p2,p3⟩:=ab Iq.out
       have fP:=aa Iq.out 0
       have npw:w.heap.size+1≠w1.heap.size:=by omega
       clear aw
       go_upto_region 11 with fail
       obtain⟨W1,ib⟩:∃W1:World,W1=w1.alloc (.cells #[.int .i64 (bH kd), .int .i64 n, .string (bL str), .int .i64 pos] 259):=⟨_,rfl⟩
       rw[←ib]
       obtain⟨bX,IQ,EH⟩:=pI ib
       have gZ:=hD bX
       have NU:Hid (W1.heap[w.heap.size+1]? =some (.cells #[.slice a done.length c, .int .i64 0, .int .i64 s.size, .int .i64 (-1)] 257 (0,0))):=(EH.block _ (by omega)).trans Iq.out
       have HAW:=hD (Cd.out.below EH)
       have Lh:Hid (W1.heap[w.heap.size]? =some (.cells #[.int .i64 0, .int .i64 0, .string ⟨#[]⟩, .slice none 0 0] 232 (0,0))):=(EH.block _ (by omega)).trans mr.out
       have FP:Hid (Below w.heap.size w W1):=aO.out.trans (EH.mono (by omega))
       have hsW:w1.heap.size<W1.heap.size:=by omega
       clear ib EH IQ bX p0 p1 p2 p3 fP
       obtain⟨p0,p1,p2,p3⟩:=ab NU.out
       obtain⟨x0,x1,x2,x3⟩:=ab gZ.out
       have P0:∀o,(W1.alloc o).cell? ⟨w.heap.size+1,0,none⟩=some (.slice a done.length c):=fun o=>(World.cell?_of_block (w:=W1) (Below.heap_alloc W1 o (w.heap.size+1) (by omega))).trans p0
       have qG:(done.map kA).length=done.length:=List.length_map _
       have QD:=hD qG
       clear qG
       go_region_law(first
        |(refine dr (α:=tH) rfl _ _ _ rfl (fun i=>i<w.heap.size+2) (w.heap.size+2) 259 i0 _ 40 Tryz.underlying255 dF dM db dL rfl (by decide) (.slice a done.length c) (done.map kA) rfl ((HAW.out.below ⟨rfl,rfl,rfl,Nat.le_refl _,fun _ _=>rfl⟩:aK _ _ _ W1.drew _ _).alloc _) (fun _=>True) _ _ ⟨bH kd,n,bL str,pos⟩ rfl (ct _ _ _ _ rfl trivial) ⟨rfl,by rw[iF];exact bK⟩ (by rw[QD.out];unfold maxLen;omega) (by rw[QD.out];omega) (by simp;omega) ?_
          rw[QD.out]
          intro a2 c2 w2 bj dj aM
          have cw:=hD bj
          have l3:w2.cell? ⟨w.heap.size+1,0,none⟩=some (.slice a done.length c):=(aM.cell (p:=⟨w.heap.size+1,0,none⟩) (by simp)).trans (P0 _)
          have l4:w2.frozen? ⟨w.heap.size+1,0,none⟩=false:=(aM.frozen (p:=⟨w.heap.size+1,0,none⟩) (by simp)).trans ((((Below.refl _ _).alloc (Nat.le_refl _) _).frozen (p:=⟨w.heap.size+1,0,none⟩) (by simp;omega)).trans (aa NU.out 0))
          have aA:=hD aM
          clear bj dj aM))
       all_goals
        go_wp2_with fail
        go_roundg(s.size-(pos+size))
        case measure=>omega
        case rel=>
         refine⟨pos+size,by omega,rfl,by go_num,rfl,rfl,?_⟩
         have iJ:=aA.out.size
         simp at iJ
         have iX:∀y,y<w.heap.size+2→w2.heap[y]? =W1.heap[y]? :=fun y hy=>(aA.out.block y hy).trans (Below.heap_alloc W1.drew _ y (by simp;omega))
         refine(show Fa _ _ _ _ _ from⟨a2,c2,done++[⟨kd,n,str,pos⟩],ts,k,?_,Yp.out,?_,by simp;omega,?_,by simp;omega,?_,?_⟩)
         ·rw[←Sd.out,←QC.out];simp
         ·have h:=cw.out.sD (p:=⟨w.heap.size+1,0,none⟩) (by simp) (by simp) (.slice a2 (done.length+1) c2)
          simpa [kA]using h
         ·exact(((FP.out.drew).alloc (by simp;omega) _).trans (aA.out.mono (by omega))).setCell (by simp) _
         ·exact(heap_setCell_other _ _ _ _ (by simp)).trans ((iX _ (by omega)).trans Lh.out)
         ·have h:=heap_setCell_same w2 (w.heap.size+1) 0 _ _ (.slice a2 (done.length+1) c2) ((iX _ (by omega)).trans NU.out)
          simpa using h
  ·have FQ:rest=[]:=by
    rw[List.drop_eq_nil_of_le (by rw[aP];omega)]at vg
    cases k<;>simp[dQ]at vg<;>exact vg
   subst FQ
   rw[List.append_nil]at Lk
   subst Lk
   have hpz:¬(pos:Int)<s.size:=by omega
   have ia:cT (w.heap.size+1) (.slice a done.length c) s.size done wr 0:=
    ⟨hP,(bn.slice (fun i h=>h)).ev (Ev.ee wr fun i hi=>by unfold aG at hi;omega),by omega,Nat.zero_le _,O3.out⟩
   have aX:=(MM (w.heap.size+1) (.slice a done.length c) s.size done Mt.out 60).1 1 0 (.mk xk xn xs xl) [] wr (by omega) (by omega) ia O2.out
   have my:=hD ia;clear ia;have aS:=hD aX;clear aX;have zz:=hD sN;clear sN;have HR:=hD hR;clear hR;have HP:=hD hP;clear hP
   clear vg bn HL
   go_wp2_with fail
   refine(aS.out).mono ?_
   rintro e w1⟨_,j,rfl,⟨cs,rfl,bw⟩,jO,kq,eX⟩
   have me:=bw
   obtain⟨av,rfl,aU,iD⟩:=bS.iff.1 me
   obtain⟨xa,xc,rfl,_⟩:=aU.open_
   have hj:j=done.length:=by
    have h1:=congrArg List.length kq
    rw[List.length_drop]at h1
    simp at h1
    have:=jO.le
    omega
   subst hj
   have s1:=eX.size
   have mr:Hid (w1.heap[w.heap.size]? =some (.cells #[.int .i64 0, .int .i64 0, .string ⟨#[]⟩, .slice none 0 0] 232 (0,0))):=(eX.block _ (by omega) (by unfold aG;omega)).trans HR.out
   have aO:Hid (Below w.heap.size w w1):=(show Below _ _ _ from⟨eX.os.trans zz.out.os,eX.tape.trans zz.out.tape,eX.output.trans zz.out.output,Nat.le_trans zz.out.size s1,fun y hy=>(eX.block y (by omega) (by unfold aG;omega)).trans (zz.out.block y hy)⟩)
   obtain⟨p0,p1,p2,p3⟩:=ab jO.box
   have npw:w.heap.size+1≠w1.heap.size:=by omega
   have nrw:w.heap.size≠w1.heap.size:=by omega
   have eR:=hD bw;clear bw;have nY:=hD jO;clear jO
   clear eX me aU iD kq
   have P0:∀o,(w1.alloc o).cell? ⟨w.heap.size+1,0,none⟩=some (.slice a done.length c):=fun o=>(World.cell?_of_block (w:=w1) (Below.heap_alloc w1 o (w.heap.size+1) (by omega))).trans p0
   have P1:∀o,(w1.alloc o).cell? ⟨w.heap.size+1,1,none⟩=some (.int .i64 done.length):=fun o=>(World.cell?_of_block (w:=w1) (Below.heap_alloc w1 o (w.heap.size+1) (by omega))).trans p1
   have P3:∀o,(w1.alloc o).cell? ⟨w.heap.size+1,3,none⟩=some (.int .i64 (-1)):=fun o=>(World.cell?_of_block (w:=w1) (Below.heap_alloc w1 o (w.heap.size+1) (by omega))).trans p3
   have IL:decide (done.length<done.length)=false:=by simp
   have hdi:decide ((done.length:Int)<(done.length:Int))=false:=by simp
   go_upto_region 14 with fail
   go_cut [67](fun s67 wx=>s67= .bool false∧Jf w1 (.cells #[.int .i64 xk, .int .i64 xn, .string xs, .slice xa xl.length xc] 232) wx)
   case first=>
    go_quiet(fail)
    go_wp2_with fail
    go_meet
    exact⟨rfl,Fb _ rfl rfl rfl rfl⟩
   case rest=>
    obtain⟨rfl,Im,fH,CB⟩:=hcut
    clear p0 p1 p2 p3
    have O4:=(CB.block (w.heap.size+1) (by omega)).trans nY.out.box
    obtain⟨p0,p1,p2,p3⟩:=ab O4
    have HRc:Hid (wc.heap[w.heap.size]? =some (.cells #[.int .i64 0, .int .i64 0, .string ⟨#[]⟩, .slice none 0 0] 232 (0,0))):=(CB.block _ (by omega)).trans mr.out
    obtain⟨e0,e1,e2,e3⟩:=ab Im
    have NV:=tM (eA w) wc (.agg #[.int .i64 xk, .int .i64 xn, .string xs, .slice xa xl.length xc]) (.mk xk xn xs xl) ⟨_,rfl,az.ev (α:=an) eR.out ⟨ag.aj CB,fun i hi=> .inl (by unfold eA at hi⊢;omega)⟩⟩ HNB.out hdp cB
    have HBc:Hid (Below w.heap.size w wc):=aO.out.trans (CB.mono (by omega))
    have TN:Hid (bS (fun i=>i<w.heap.size+1) wc [.int .i64 xk, .int .i64 xn, .string xs, .slice xa xl.length xc] (.mk xk xn xs xl)):=az.ev (α:=an) eR.out ⟨ag.aj CB,fun i hi=> .inl (by unfold eA;omega)⟩
    have QE:=hD NV;clear NV;have we:=hD Im;clear Im
    clear O4 CB
    go_wp2_with fail
    refine(QE.out).mono ?_
    rintro e w5⟨rfl,sA⟩
    have xZ:Hid (w5.heap[w.heap.size]? =some (.cells #[.int .i64 0, .int .i64 0, .string ⟨#[]⟩, .slice none 0 0] 232 (0,0))):=(sA.block _ (by omega)).trans HRc.out
    have zS:=hD ((sA.block _ (by omega)).trans we.out)
    have nK:Hid (Below w.heap.size w w5):=HBc.out.trans (sA.mono (by omega))
    have TO:=hD (az.ev (α:=an) TN.out (Ev.aj sA))
    clear e0 e1 e2 e3 p0 p1 p2 p3 sA
    obtain⟨e0,e1,e2,e3⟩:=ab zS.out
    obtain⟨r0,r1,r2,r3⟩:=ab xZ.out
    have g0:=aa xZ.out 0
    have g1:=aa xZ.out 1
    have g2:=aa xZ.out 2
    have g3:=aa xZ.out 3
    go_wp2_with fail
    refine bodyPost_ret (v:= .tuple #[.agg #[.int .i64 xk, .int .i64 xn, .string xs, .slice xa xl.length xc], .int .i64 0, .int .i64 0]) (by simp[results,Tryz.results140,go_sem,r0,r1,r2,r3]) rfl ⟨_,rfl,⟨_,rfl,az.ev (α:=an) TO.out ?_⟩,?_⟩
    ·exact((((Ev.ee w5 (fun i h=>by unfold eA at h;omega)).setCell (.inl (by simp)) _).setCell (.inl (by simp)) _).setCell (.inl (by simp)) _).setCell (.inl (by simp)) _
    ·exact(((nK.out.setCell (Nat.le_refl _) _).setCell (Nat.le_refl _) _).setCell (Nat.le_refl _) _).setCell (Nat.le_refl _) _
theorem below_drewN {B:Nat}{a w:World}(h:Below B a w)(n:Nat):Below B a (w.drewN n):=⟨h.os,h.tape,h.output,h.size,h.block⟩
def nS(b:Nat)(bad:Int)(w:World):Prop:=w.heap[b]? =some (.cells #[.slice none 0 0, .int .i64 0, .int .i64 0, .int .i64 bad] 257 (0,0))
def tN(b:Nat)(w:World)(e:Ending)(w':World):Prop:=e= .returned (.agg #[.int .i64 0, .int .i64 0, .string ⟨#[]⟩, .slice none 0 0])∧nS b 0 w'∧ag (aG b) w w'
theorem tO {b:Nat}{bad:Int}{w W:World}(h:nS b bad W)(hne:b≠w.heap.size)(v0 v1 v2 v3:Value):nS b bad ((((W.setCell ⟨w.heap.size,0,none⟩ v0).setCell ⟨w.heap.size,1,none⟩ v1).setCell ⟨w.heap.size,2,none⟩ v2).setCell ⟨w.heap.size,3,none⟩ v3):=
 (heap_setCell_other _ _ _ _ hne).trans ((heap_setCell_other _ _ _ _ hne).trans ((heap_setCell_other _ _ _ _ hne).trans ((heap_setCell_other _ _ _ _ hne).trans h)))
theorem qS {b:Nat}{w W:World}(h:ag (aG b) w W)(v0 v1 v2 v3:Value):ag (aG b) w ((((W.setCell ⟨w.heap.size,0,none⟩ v0).setCell ⟨w.heap.size,1,none⟩ v1).setCell ⟨w.heap.size,2,none⟩ v2).setCell ⟨w.heap.size,3,none⟩ v3):=
 (((h.setCell (.inr (Nat.le_refl _)) v0).setCell (.inr (Nat.le_refl _)) v1).setCell (.inr (Nat.le_refl _)) v2).setCell (.inr (Nat.le_refl _)) v3
theorem CU(b:Nat)(w:World)(h:nS b (-1) w):Calls Tryz.prog 158 #[.pointer (some ⟨b,0,none⟩)] w (tN b w):=by
 have bZ:b<w.heap.size:=(Array.getElem?_eq_some_iff.1 h).1
 obtain⟨p0,p1,p2,p3⟩:=ab h
 have f3:=aa h 3
 have hne:b≠w.heap.size:=by omega
 have HP:=hD h;clear h
 go_enter Tryz.func158,Tryz.ntmps158
 go_upto_region 3 with fail
 obtain⟨W,hW⟩:∃W:World,W=(w.setCell ⟨b,3,none⟩ (.int .i64 0)).alloc (.cells #[.int .i64 0, .int .i64 0, .string ⟨#[]⟩, .slice none 0 0] 232):=⟨_,rfl⟩
 rw[←hW]
 have HB:Hid (nS b 0 W):=(show nS b 0 W by unfold nS;rw[hW];exact(Below.heap_alloc _ _ b (by simpa using bZ)).trans (heap_setCell_same w b 3 _ _ _ HP.out))
 have HR:Hid (W.heap[w.heap.size]? =some (.cells #[.int .i64 0, .int .i64 0, .string ⟨#[]⟩, .slice none 0 0] 232 (0,0))):=(show _=_ by rw[hW];have h:=heap_alloc_new (w.setCell ⟨b,3,none⟩ (.int .i64 0)) (.cells #[.int .i64 0, .int .i64 0, .string ⟨#[]⟩, .slice none 0 0] 232);simpa using h)
 have HO:Hid (ag (aG b) w W):=(show ag _ _ _ by rw[hW];exact((ag.refl (aG b) w).Gi 3 _).alloc _)
 clear hW p0 p1 p2 p3 f3
 obtain⟨p0,p1,p2,p3⟩:=ab HB.out
 obtain⟨r0,r1,r2,r3⟩:=ab HR.out
 have g0:=aa HR.out 0
 have g1:=aa HR.out 1
 have g2:=aa HR.out 2
 have g3:=aa HR.out 3
 go_quiet(fail)
 go_wp2_with fail
 refine bodyPost_ret (v:= .agg #[.int .i64 0, .int .i64 0, .string ⟨#[]⟩, .slice none 0 0]) (by simp[results,Tryz.results158,go_sem,r0,r1,r2,r3]) rfl ⟨rfl,?_,?_⟩
 ·exact tO (w:=w) (W:=W.drewN nq) HB.out hne _ _ _ _
 ·exact qS (HO.out.drewN nq) _ _ _ _
theorem Aj(b:Nat)(w:World)(h:nS b (-1) w):Calls Tryz.prog 191 #[.pointer (some ⟨b,0,none⟩)] w (tN b w):=by
 have bZ:b<w.heap.size:=(Array.getElem?_eq_some_iff.1 h).1
 obtain⟨p0,p1,p2,p3⟩:=ab h
 have hne:b≠w.heap.size:=by omega
 have HP:=hD h;clear h
 go_enter Tryz.func191,Tryz.ntmps191
 go_wp2_with fail
 go_quiet(fail)
 obtain⟨W,hW⟩:∃W:World,W=(w.alloc (.cells #[.int .i64 0, .int .i64 0, .string ⟨#[]⟩, .slice none 0 0] 232)).drewN nq:=⟨_,rfl⟩
 rw[←hW]
 have HB:Hid (nS b (-1) W):=(show nS b (-1) W by unfold nS;rw[hW];exact(Below.heap_alloc w _ b bZ).trans HP.out)
 have HR:Hid (W.heap[w.heap.size]? =some (.cells #[.int .i64 0, .int .i64 0, .string ⟨#[]⟩, .slice none 0 0] 232 (0,0))):=(show _=_ by rw[hW];exact heap_alloc_new w _)
 have HO:Hid (ag (aG b) w W):=(show ag _ _ _ by rw[hW];exact((ag.refl (aG b) w).alloc _).drewN nq)
 have cB:w.heap.size<W.heap.size:=(Array.getElem?_eq_some_iff.1 HR.out).1
 have aX:=CU b W HB.out
 have aS:=hD aX;clear aX
 clear hW p0 p1 p2 p3
 go_wp2_with fail
 refine(aS.out).mono ?_
 rintro e w1⟨rfl,tp,ei⟩
 have mr:Hid (w1.heap[w.heap.size]? =some (.cells #[.int .i64 0, .int .i64 0, .string ⟨#[]⟩, .slice none 0 0] 232 (0,0))):=(ei.block _ cB (by unfold aG;omega)).trans HR.out
 obtain⟨r0,r1,r2,r3⟩:=ab mr.out
 have g0:=aa mr.out 0
 have g1:=aa mr.out 1
 have g2:=aa mr.out 2
 have g3:=aa mr.out 3
 have Iq:=hD tp;clear tp;have nh:=hD ei;clear ei
 go_wp2_with fail
 refine bodyPost_ret (v:= .agg #[.int .i64 0, .int .i64 0, .string ⟨#[]⟩, .slice none 0 0]) (by simp[results,Tryz.results191,go_sem,r0,r1,r2,r3]) rfl ⟨rfl,?_,?_⟩
 ·exact tO (w:=w) Iq.out hne _ _ _ _
 ·exact qS (HO.out.trans nh.out) _ _ _ _
theorem CV(b:Nat)(w:World)(h:nS b (-1) w):Calls Tryz.prog 157 #[.pointer (some ⟨b,0,none⟩), .int .i64 1] w (tN b w):=by
 have bZ:b<w.heap.size:=(Array.getElem?_eq_some_iff.1 h).1
 have hne:b≠w.heap.size:=by omega
 have aX:=Aj b (w.alloc (.cells #[.int .i64 0, .int .i64 0, .string ⟨#[]⟩, .slice none 0 0] 232)) ((Below.heap_alloc w _ b bZ).trans h)
 have HP:=hD h;clear h;have aS:=hD aX;clear aX
 go_enter Tryz.func157,Tryz.ntmps157
 go_wp2_with fail
 refine(aS.out).mono ?_
 rintro e w1⟨rfl,tp,ei⟩
 have dc:=ei.size
 simp at dc
 have mr:Hid (w1.heap[w.heap.size]? =some (.cells #[.int .i64 0, .int .i64 0, .string ⟨#[]⟩, .slice none 0 0] 232 (0,0))):=(ei.block _ (by simp) (by unfold aG;omega)).trans (heap_alloc_new w _)
 have HO:Hid (ag (aG b) w w1):=((ag.refl _ w).alloc _).cD ei (fun i hi _=>hi)
 have Iq:=hD tp;clear tp
 clear ei
 go_wp2_with fail
 go_loopg [6]0(fun g _ wr=>g=0∧Hid (Jf w1 (.cells #[.int .i64 0, .int .i64 0, .string ⟨#[]⟩, .slice none 0 0] 232) wr))
 case atStart=>exact⟨rfl,(show Jf _ _ _ from Fb _ rfl rfl rfl rfl)⟩
 case round=>
  obtain⟨rfl,HT⟩:=hrel
  obtain⟨hx,fH,CB⟩:=HT.out
  have NX:Hid (nS b 0 wr):=(show nS b 0 wr from(CB.block b (by omega)).trans Iq.out)
  have vH:Hid (wr.heap[w.heap.size]? =some (.cells #[.int .i64 0, .int .i64 0, .string ⟨#[]⟩, .slice none 0 0] 232 (0,0))):=(CB.block _ (by omega)).trans mr.out
  have wj:Hid (ag (aG b) w wr):=HO.out.trans (ag.aj CB)
  obtain⟨p0,p1,p2,p3⟩:=ab NX.out
  obtain⟨r0,r1,r2,r3⟩:=ab vH.out
  have g0:=aa vH.out 0
  have g1:=aa vH.out 1
  have g2:=aa vH.out 2
  have g3:=aa vH.out 3
  obtain⟨x0,x1,x2,x3⟩:=ab hx
  have TP:w.heap.size≠w1.heap.size:=by omega
  have HX:=hD hx;clear hx
  clear CB fH
  go_wp2_with fail
  go_quiet(fail)
  go_wp2_with fail
  refine bodyPost_ret (v:= .agg #[.int .i64 0, .int .i64 0, .string ⟨#[]⟩, .slice none 0 0]) (by simp[results,Tryz.results157,go_sem,r0,r1,r2,r3]) rfl ⟨rfl,?_,?_⟩
  ·exact tO (w:=w) (W:=wr.drewN nq) NX.out hne _ _ _ _
  ·exact qS (wj.out.drewN nq) _ _ _ _
theorem Ak(w:World):Calls Tryz.prog 140 #[.string ⟨#[]⟩] w fun e w'=>e= .returned (.tuple #[.agg #[.int .i64 0, .int .i64 0, .string ⟨#[]⟩, .slice none 0 0], .int .i64 0, .int .i64 50])∧Below w.heap.size w w':=by
 go_enter Tryz.func140,Tryz.ntmps140
 go_wp2_with fail
 go_loopg [3,4,6,7,8]0(fun g r1 r2 iv _ _ wr=>g=0∧r1= .int .i64 0∧r2= .int .i64 0∧iv= .int .i64 0∧Hid (oR w (.cells #[.int .i64 0, .int .i64 0, .string ⟨#[]⟩, .slice none 0 0] 232) (.cells #[.slice none 0 0, .int .i64 0, .int .i64 0, .int .i64 (-1)] 257) wr))
 case atStart=>exact⟨rfl,rfl,rfl,rfl,(show oR _ _ _ _ from Jd (iM (w:=w) rfl) rfl rfl rfl rfl)⟩
 case round=>
  obtain⟨rfl,rfl,rfl,rfl,HT⟩:=hrel
  obtain⟨hR,hP,hs,hb⟩:=HT.out
  have aX:=CV (w.heap.size+1) wr hP
  have cB:w.heap.size+1<wr.heap.size:=by omega
  have HR:=hD hR;clear hR;have HB:=hD hb;clear hb;have aS:=hD aX;clear aX
  clear hP hs
  go_wp2_with fail
  refine(aS.out).mono ?_
  rintro e w1⟨rfl,tp,ei⟩
  have dc:=ei.size
  have mr:Hid (w1.heap[w.heap.size]? =some (.cells #[.int .i64 0, .int .i64 0, .string ⟨#[]⟩, .slice none 0 0] 232 (0,0))):=(ei.block _ (by omega) (by unfold aG;omega)).trans HR.out
  have aO:Hid (Below w.heap.size w w1):=(show Below _ _ _ from⟨ei.os.trans HB.out.os,ei.tape.trans HB.out.tape,ei.output.trans HB.out.output,Nat.le_trans HB.out.size dc,fun y hy=>(ei.block y (by omega) (by unfold aG;omega)).trans (HB.out.block y hy)⟩)
  obtain⟨W,hW⟩:∃W:World,W=w1.alloc (.cells #[.int .i64 0, .int .i64 0, .string ⟨#[]⟩, .slice none 0 0] 232):=⟨_,rfl⟩
  obtain⟨wx,wxs,Wv⟩:=pI hW
  have NU:Hid (nS (w.heap.size+1) 0 W):=(show nS _ _ _ from(Wv.block _ (by omega)).trans tp)
  have Lh:Hid (W.heap[w.heap.size]? =some (.cells #[.int .i64 0, .int .i64 0, .string ⟨#[]⟩, .slice none 0 0] 232 (0,0))):=(Wv.block _ (by omega)).trans mr.out
  have FP:Hid (Below w.heap.size w W):=aO.out.trans (Wv.mono (by omega))
  clear tp ei wx wxs Wv
  go_upto_region 14 with fail
  rw[←hW]
  clear hW
  obtain⟨p0,p1,p2,p3⟩:=ab NU.out
  obtain⟨r0,r1,r2,r3⟩:=ab Lh.out
  have g0:=aa Lh.out 0
  have g1:=aa Lh.out 1
  have g2:=aa Lh.out 2
  have g3:=aa Lh.out 3
  go_quiet(fail)
  go_wp2_with fail
  go_region
  all_goals
   go_wp2_with fail
   refine bodyPost_ret (v:= .tuple #[.agg #[.int .i64 0, .int .i64 0, .string ⟨#[]⟩, .slice none 0 0], .int .i64 0, .int .i64 50]) (by simp[results,Tryz.results140,go_sem,r0,r1,r2,r3]) rfl ⟨rfl,?_⟩
   exact((((below_drewN FP.out _).setCell (Nat.le_refl _) _).setCell (Nat.le_refl _) _).setCell (Nat.le_refl _) _).setCell (Nat.le_refl _) _
def ie(c:ai)(x:an)(t:aJ):Prop:=∀(M:Nat→Prop)(w:World)(v fv:Value),bI M w v x→ae M w fv c.fields→
 Calls Tryz.prog 160 #[v, .agg #[.string c.name,fv]] w fun e w'=>e= .returned (.tuple #[.agg #[.int .i64 t.kind, .int .i64 t.of], .bool true])∧Below w.heap.size w w'
def fe(c:ai)(x:an)(p:Int):Prop:=∀(M:Nat→Prop)(w:World)(v fv:Value),bI M w v x→ae M w fv c.fields→
 Calls Tryz.prog 193 #[v, .agg #[.string c.name,fv]] w fun e w'=>e= .returned (.int .i64 p)∧Below w.heap.size w w'
theorem dH {M:Nat→Prop}{w:World}{v:Value}{k n:Int}{s:ByteArray}{l:List an}(h:bI M w v (an.mk k n s l)):∃a cap,v= .agg #[.int .i64 k, .int .i64 n, .string s, .slice a l.length cap]∧ae M w (.slice a l.length cap) l:=by
 obtain⟨cs,rfl,bw⟩:=h
 obtain⟨lv,rfl,aU,_⟩:=bS.iff.1 bw
 have h2:=aU
 obtain⟨a,cap,rfl,_⟩:=h2.open_
 exact⟨a,cap,rfl,aU⟩
theorem fU(c:ai)(x:an)(t:aJ)(ht:t.kind=1∨t.kind=2)(H:ie c x t):fe c x t.kind:=by
 intro M w v fv ek bz
 obtain⟨xk,xn,xs,xl⟩:=x
 have vi:=hD ek
 have ij:=hD bz
 obtain⟨a,cap,rfl,_⟩:=dH ek
 obtain⟨fa,fc,rfl,_⟩:=bz.open_
 clear ek bz
 have HC:Hid (∀W,Below w.heap.size w W→Calls Tryz.prog 160 #[.agg #[.int .i64 xk, .int .i64 xn, .string xs, .slice a xl.length cap], .agg #[.string c.name, .slice fa c.fields.length fc]] W fun e w'=>e= .returned (.tuple #[.agg #[.int .i64 t.kind, .int .i64 t.of], .bool true])∧Below W.heap.size W w'):=(show∀W,_→_ from fun W hb=>H M W _ _ (vi.out.below hb) (ij.out.below hb))
 obtain⟨tk,zT⟩:=t
 dsimp only at ht HC⊢
 rcases ht with rfl|rfl
 all_goals
  go_enter Tryz.func193,Tryz.ntmps193
  go_wp2_with fail
  refine(HC.out _ (by exact((Below.refl _ _).alloc (Nat.le_refl _) _).alloc (by simp) _)).mono ?_
  rintro e w1⟨rfl,aw⟩
  have aO:Hid (Below w.heap.size w w1):=((((Below.refl _ _).alloc (Nat.le_refl _) _).alloc (by simp) _)).trans (aw.mono (by simp;omega))
  clear aw
  go_wp2_with fail
  go_ret
  exact⟨rfl,aO.out.alloc aO.out.size _⟩
theorem gn(c:ai)(k n:Int)(s:ByteArray)(l:List an)(hk:k=1∨k=2):ie c (.mk k n s l) ⟨k,0⟩:=by
 intro M w v fv ek bz
 obtain⟨a,cap,rfl,_⟩:=dH ek
 obtain⟨fa,fc,rfl,_⟩:=bz.open_
 clear ek bz
 rcases hk with rfl|rfl
 all_goals
  go_enter Tryz.func160,Tryz.ntmps160
  go_wp2_with fail
  refine bodyPost_ret (v:= .tuple #[.agg #[.int .i64 _, .int .i64 0], .bool true]) (by simp[results,Tryz.results160,go_sem];try rfl) rfl ⟨rfl,?_⟩
  exact(((Below.refl _ _).alloc (Nat.le_refl _) _).alloc (by simp) _).alloc (by simp;omega) _
theorem CW(c:ai)(s:ByteArray)(f:ak)(i:Nat)(hi:fieldAt c s=i)(hf:c.fields[i]? =some f):ie c (.mk 3 0 s []) f.type:=by
 intro M w v fv ek bz
 obtain⟨a,cap,rfl,_⟩:=dH ek
 have ij:=hD bz
 obtain⟨fa,fc,rfl,_,_,hc⟩:=bz.open_
 have xY:=(List.getElem?_eq_some_iff.1 hf).1
 obtain⟨b,off,rfl,hM,bZ,aC⟩:=hc (by omega)
 obtain⟨cs,⟨rfl,_⟩,bE⟩:=aC i f hf
 have HC:Hid (∀W,Below w.heap.size w W→Calls Tryz.prog 60 #[.agg #[.string c.name, .slice (some ⟨b,off,none⟩) c.fields.length fc], .string s] W fun e w'=>e= .returned (.tuple #[.int .i64 i, .bool true])∧Below W.heap.size W w'):=(show∀W,_→_ from fun W hb=>jS M _ W c s i true (ij.out.below hb) (by rw[hi,if_neg (by omega)]) (by rw[hi,decide_eq_false (by omega)];rfl))
 have q1:w.cell? ⟨b,off+i*4+1,none⟩=some (.int .i64 f.type.kind):=bE 1 _ rfl
 have q2:w.cell? ⟨b,off+i*4+1+1,none⟩=some (.int .i64 f.type.of):=bE 2 _ rfl
 clear ek bz hc aC bE hi hf
 have OY:(i:Int)<(c.fields.length:Int):=by omega
 go_enter Tryz.func160,Tryz.ntmps160
 go_wp2_with fail
 refine(HC.out _ (by exact(((Below.refl _ _).alloc (Nat.le_refl _) _).alloc (by simp) _).alloc (by simp;omega) _)).mono ?_
 rintro e w1⟨rfl,aw⟩
 have mw:Below w.heap.size w w1:=(((((Below.refl _ _).alloc (Nat.le_refl _) _).alloc (by simp) _)).alloc (by simp;omega) _).trans (aw.mono (by simp;omega))
 have k1:w1.cell? ⟨b,off+i*4+1,none⟩=some (.int .i64 f.type.kind):=(mw.cell (p:=⟨b,off+i*4+1,none⟩) bZ).trans q1
 have k2:w1.cell? ⟨b,off+i*4+1+1,none⟩=some (.int .i64 f.type.of):=(mw.cell (p:=⟨b,off+i*4+1+1,none⟩) bZ).trans q2
 have gZ:=hD ((aw.block (w.heap.size+1) (by simp)).trans (Ae (w:=w) rfl).2.1)
 have jN:=hD ((aw.block (w.heap.size+2) (by simp)).trans (Ae (w:=w) rfl).2.2.1)
 obtain⟨c0,c1⟩:=af gZ.out
 have xX:w1.heap[w.heap.size+1+1]? =some (.cells #[.int .i64 0, .int .i64 0] 140 (0,0)):=jN.out
 obtain⟨r0,r1⟩:=af xX
 have g0:=aa xX 0
 have g1:=aa xX 1
 have dc:=aw.size
 simp at dc
 have lR:=hD mw;clear mw
 clear aw xX q1 q2
 go_wp2_with fail
 refine bodyPost_ret (v:= .tuple #[.agg #[.int .i64 f.type.kind, .int .i64 f.type.of], .bool true]) (by simp[results,Tryz.results160,go_sem,r0,r1]) rfl ⟨rfl,?_⟩
 exact(lR.out.setCell (by simp;omega) _).setCell (by simp;omega) _
theorem ji {M:Nat→Prop}{w:World}{a:Option Addr}{cap i:Nat}{l:List an}{k n:Int}{s:ByteArray}{ll:List an}(h:ae M w (.slice a l.length cap) l)(hi:l[i]? =some (.mk k n s ll)):
 ∃b off ka kc,a=some ⟨b,off,none⟩∧b<w.heap.size∧w.cell? ⟨b,off+i*4,none⟩=some (.int .i64 k)∧w.cell? ⟨b,off+i*4+1,none⟩=some (.int .i64 n)∧w.cell? ⟨b,off+i*4+2,none⟩=some (.string s)∧w.cell? ⟨b,off+i*4+3,none⟩=some (.slice ka ll.length kc)∧
  bI M w (.agg #[.int .i64 k, .int .i64 n, .string s, .slice ka ll.length kc]) (an.mk k n s ll):=by
 obtain⟨a',dE,e,_,_,hc⟩:=h.open_
 simp only[Value.slice.injEq,true_and]at e
 obtain⟨rfl,rfl⟩:=e
 have xY:=(List.getElem?_eq_some_iff.1 hi).1
 obtain⟨b,off,rfl,hM,bZ,aC⟩:=hc (by omega)
 obtain⟨cs,bw,bE⟩:=aC i _ hi
 have me:bS M w cs (.mk k n s ll):=bw
 obtain⟨lv,rfl,aU,iD⟩:=bS.iff.1 me
 have h2:=aU
 obtain⟨ka,kc,rfl,_⟩:=h2.open_
 exact⟨b,off,ka,kc,rfl,bZ,bE 0 _ rfl,bE 1 _ rfl,bE 2 _ rfl,bE 3 _ rfl,_,rfl,bw⟩
def dt(w:World)(o0 o1:Obj)(wx:World):Prop:=wx.heap[w.heap.size]? =some o0∧wx.heap[w.heap.size+1]? =some o1∧wx.heap[w.heap.size+1+1]? =some (.cells #[.int .i64 0, .int .i64 0] 140 (0,0))∧Below w.heap.size w wx∧w.heap.size+2<wx.heap.size
theorem dt.below {w wx w':World}{o0 o1:Obj}(h:dt w o0 o1 wx)(k:Below wx.heap.size wx w'):dt w o0 o1 w':=by
 obtain⟨h1,h2,h3,h4,h5⟩:=h
 have:=k.size
 exact⟨(k.block _ (by omega)).trans h1,(k.block _ (by omega)).trans h2,(k.block _ (by omega)).trans h3,h4.trans (k.mono (by omega)),by omega⟩
theorem dt.drew {w wx:World}{o0 o1:Obj}(h:dt w o0 o1 wx):dt w o0 o1 wx.drew:=⟨h.1,h.2.1,h.2.2.1,h.2.2.2.1.drew,h.2.2.2.2⟩
theorem dt.new(w:World)(o0 o1:Obj):dt w o0 o1 (((w.alloc o0).alloc o1).alloc (.cells #[.int .i64 0, .int .i64 0] 140)):=by
 obtain⟨a,b,c,d,e⟩:=Ae (w:=w) (o0:=o0) (o1:=o1) (o2:= .cells #[.int .i64 0, .int .i64 0] 140) rfl
 exact⟨a,b,c,e,by rw[d];omega⟩
theorem sT(c:ai)(s:List UInt8)(x y:an)(p q:Int)(t:aJ)(hx:fe c x p)(hy:fe c y q)
 (ht:(s=[38]∧p=2∧q=2∧t=⟨2,0⟩)∨((s=[61]∨s=[62])∧p=q∧(p=1∨p=2)∧t=⟨1,0⟩)∨((s=[42]∨s=[45]∨s=[47])∧p=1∧q=1∧t=⟨1,0⟩)):ie c (.mk 4 0 (bL s) [x,y]) t:=by
 intro M w v fv ek bz
 obtain⟨a,cap,rfl,aU⟩:=dH ek
 obtain⟨xk,xn,xs,xl⟩:=x
 obtain⟨yk,yn,ys,yl⟩:=y
 obtain⟨b,off,xa,xc,rfl,bZ,x0,x1,x2,x3,Se⟩:=ji (i:=0) aU rfl
 obtain⟨b',wm,ya,yc,e,_,y0,y1,y2,y3,zU⟩:=ji (i:=1) aU rfl
 simp only[Option.some.injEq,Addr.mk.injEq,and_true]at e
 obtain⟨rfl,rfl⟩:=e
 simp only[Nat.zero_mul,Nat.add_zero]at x0 x1 x2 x3
 simp only[Nat.one_mul]at y0 y1 y2 y3
 have ij:=hD bz
 obtain⟨fa,fc,rfl,_⟩:=bz.open_
 have HX:Hid (∀W,Below w.heap.size w W→Calls Tryz.prog 193 #[.agg #[.int .i64 xk, .int .i64 xn, .string xs, .slice xa xl.length xc], .agg #[.string c.name, .slice fa c.fields.length fc]] W fun e w'=>e= .returned (.int .i64 p)∧Below W.heap.size W w'):=(show∀W,_→_ from fun W hb=>hx M W _ _ (Se.below hb) (ij.out.below hb))
 have HY:Hid (∀W,Below w.heap.size w W→Calls Tryz.prog 193 #[.agg #[.int .i64 yk, .int .i64 yn, .string ys, .slice ya yl.length yc], .agg #[.string c.name, .slice fa c.fields.length fc]] W fun e w'=>e= .returned (.int .i64 q)∧Below W.heap.size W w'):=(show∀W,_→_ from fun W hb=>hy M W _ _ (zU.below hb) (ij.out.below hb))
 clear ek bz aU Se zU hx hy
 have hlen:[an.mk xk xn xs xl,an.mk yk yn ys yl].length=2:=rfl
 rw[hlen]
 clear hlen
 go_enter Tryz.func160,Tryz.ntmps160
 go_upto_region 16 with fail
 obtain⟨W,hW⟩:∃W:World,W=((w.alloc (.cells #[.int .i64 4, .int .i64 0, .string (bL s), .slice (some ⟨b,off,none⟩) 2 cap] 232)).alloc (.cells #[.string c.name, .slice fa c.fields.length fc] 91)).alloc (.cells #[.int .i64 0, .int .i64 0] 140):=⟨_,rfl⟩
 rw[←hW]
 have HW:Hid (dt w (.cells #[.int .i64 4, .int .i64 0, .string (bL s), .slice (some ⟨b,off,none⟩) 2 cap] 232 (0,0)) (.cells #[.string c.name, .slice fa c.fields.length fc] 91 (0,0)) W):=(show dt _ _ _ _ by rw[hW];exact dt.new w _ _)
 clear hW
 have vj:Hid (∀W,Below w.heap.size w W→W.cell? ⟨b,off,none⟩=some (.int .i64 xk)∧W.cell? ⟨b,off+1,none⟩=some (.int .i64 xn)∧W.cell? ⟨b,off+2,none⟩=some (.string xs)∧W.cell? ⟨b,off+3,none⟩=some (.slice xa xl.length xc)∧W.cell? ⟨b,off+4,none⟩=some (.int .i64 yk)∧W.cell? ⟨b,off+4+1,none⟩=some (.int .i64 yn)∧W.cell? ⟨b,off+4+2,none⟩=some (.string ys)∧W.cell? ⟨b,off+4+3,none⟩=some (.slice ya yl.length yc)):=(show∀W,_→_ from fun W hb=>
  ⟨(hb.cell (p:=⟨b,off,none⟩) bZ).trans x0,(hb.cell (p:=⟨b,off+1,none⟩) bZ).trans x1,(hb.cell (p:=⟨b,off+2,none⟩) bZ).trans x2,(hb.cell (p:=⟨b,off+3,none⟩) bZ).trans x3,(hb.cell (p:=⟨b,off+4,none⟩) bZ).trans y0,(hb.cell (p:=⟨b,off+4+1,none⟩) bZ).trans y1,(hb.cell (p:=⟨b,off+4+2,none⟩) bZ).trans y2,(hb.cell (p:=⟨b,off+4+3,none⟩) bZ).trans y3⟩)
 clear x0 x1 x2 x3 y0 y1 y2 y3
 go_cut [9](fun s9 wx=>s9= .int .i64 p∧Hid (dt w (.cells #[.int .i64 4, .int .i64 0, .string (bL s), .slice (some ⟨b,off,none⟩) 2 cap] 232 (0,0)) (.cells #[.string c.name, .slice fa c.fields.length fc] 91 (0,0)) wx))
 case first=>
  obtain⟨a0,a1,a2,a3⟩:=ab HW.out.1
  obtain⟨c0,c1⟩:=af HW.out.2.1
  obtain⟨x0,x1,x2,x3,_⟩:=vj.out W HW.out.2.2.2.1
  go_region_law(first|(go_simp;go_at_call 193;refine(HX.out _ (by exact HW.out.2.2.2.1.drew)).mono ?_;rintro e w1⟨rfl,aw⟩;have nM:=hD (HW.out.drew.below aw);clear aw))
  all_goals(go_wp2_with fail;go_meet;exact⟨rfl,nM⟩)
 case rest=>
  obtain⟨rfl,fI⟩:=hcut
  clear HW
  go_upto_region 17 with fail
  go_cut [10](fun s10 wx=>s10= .int .i64 q∧Hid (dt w (.cells #[.int .i64 4, .int .i64 0, .string (bL s), .slice (some ⟨b,off,none⟩) 2 cap] 232 (0,0)) (.cells #[.string c.name, .slice fa c.fields.length fc] 91 (0,0)) wx))
  case first=>
   obtain⟨a0,a1,a2,a3⟩:=ab fI.out.1
   obtain⟨c0,c1⟩:=af fI.out.2.1
   obtain⟨_,_,_,_,x0,x1,x2,x3⟩:=vj.out _ fI.out.2.2.2.1
   go_region_law(first|(go_simp;go_at_call 193;refine(HY.out _ (by exact fI.out.2.2.2.1.drew)).mono ?_;rintro e w1⟨rfl,aw⟩;have nM:=hD (fI.out.drew.below aw);clear aw))
   all_goals(go_wp2_with fail;go_meet;exact⟨rfl,nM⟩)
  case rest=>
   obtain⟨rfl,kp⟩:=hcut
   obtain⟨a0,a1,a2,a3⟩:=ab kp.out.1
   obtain⟨r0,r1⟩:=af kp.out.2.2.1
   have g0:=aa kp.out.2.2.1 0
   have g1:=aa kp.out.2.2.1 1
   have Cg:=kp.out.2.2.2.1
   have NY:=hD Cg;clear Cg
   clear vj HX HY fI
   rcases ht with⟨rfl,rfl,rfl,rfl⟩|⟨hs,rfl,hp,rfl⟩|⟨hs,rfl,rfl,rfl⟩
   ·replace a2:wc.cell? ⟨w.heap.size,2,none⟩=some (.string ⟨#[38]⟩):=a2
    go_wp2_with fail
    refine bodyPost_ret (v:= .tuple #[.agg #[.int .i64 2, .int .i64 0], .bool true]) (by simp[results,Tryz.results160,go_sem,r0,r1]) rfl ⟨rfl,?_⟩
    exact(NY.out.setCell (by simp;omega) _).setCell (by simp;omega) _
   ·rcases hs with rfl|rfl<;>rcases hp with rfl|rfl
    all_goals
     (first|replace a2:wc.cell? ⟨w.heap.size,2,none⟩=some (.string ⟨#[61]⟩):=a2|replace a2:wc.cell? ⟨w.heap.size,2,none⟩=some (.string ⟨#[62]⟩):=a2)
     go_wp2_with fail
     refine bodyPost_ret (v:= .tuple #[.agg #[.int .i64 1, .int .i64 0], .bool true]) (by simp[results,Tryz.results160,go_sem,r0,r1]) rfl ⟨rfl,?_⟩
     exact(NY.out.setCell (by simp;omega) _).setCell (by simp;omega) _
   ·rcases hs with rfl|rfl|rfl
    all_goals
     (first|replace a2:wc.cell? ⟨w.heap.size,2,none⟩=some (.string ⟨#[42]⟩):=a2|replace a2:wc.cell? ⟨w.heap.size,2,none⟩=some (.string ⟨#[45]⟩):=a2|replace a2:wc.cell? ⟨w.heap.size,2,none⟩=some (.string ⟨#[47]⟩):=a2)
     go_wp2_with fail
     refine bodyPost_ret (v:= .tuple #[.agg #[.int .i64 1, .int .i64 0], .bool true]) (by simp[results,Tryz.results160,go_sem,r0,r1]) rfl ⟨rfl,?_⟩
     exact(NY.out.setCell (by simp;omega) _).setCell (by simp;omega) _
def eo(s:List UInt8):List UInt8:=
 if s=[108,101,110]then[116]else if s=[116,101,120,116]then[110]else if s=[108,101,102,116]∨s=[102,114,111,109]then[116,110]else if s=[102,105,110,100]then[116,116]else[]
def ld:List (List UInt8):=[[108,101,110],[116,101,120,116],[108,101,102,116],[102,114,111,109],[102,105,110,100]]
theorem Jg(s:List UInt8)(hs:s∈ld)(w:World):Calls Tryz.prog 213 #[.string (bL s)] w fun e w'=>e= .returned (.string (bL (eo s)))∧w=w':=by
 simp only[ld,List.mem_cons,List.not_mem_nil,or_false]at hs
 rcases hs with rfl|rfl|rfl|rfl|rfl
 ·show Calls Tryz.prog 213 #[.string ⟨#[108,101,110]⟩] w _
  go_enter Tryz.func213,Tryz.ntmps213
  go_wp2
  go_ret
  exact⟨rfl,rfl⟩
 ·show Calls Tryz.prog 213 #[.string ⟨#[116,101,120,116]⟩] w _
  go_enter Tryz.func213,Tryz.ntmps213
  go_wp2
  go_ret
  exact⟨rfl,rfl⟩
 ·show Calls Tryz.prog 213 #[.string ⟨#[108,101,102,116]⟩] w _
  go_enter Tryz.func213,Tryz.ntmps213
  go_wp2
  go_ret
  exact⟨rfl,rfl⟩
 ·show Calls Tryz.prog 213 #[.string ⟨#[102,114,111,109]⟩] w _
  go_enter Tryz.func213,Tryz.ntmps213
  go_wp2
  go_ret
  exact⟨rfl,rfl⟩
 ·show Calls Tryz.prog 213 #[.string ⟨#[102,105,110,100]⟩] w _
  go_enter Tryz.func213,Tryz.ntmps213
  go_wp2
  go_ret
  exact⟨rfl,rfl⟩
def pL(s:List UInt8):aJ:=if s=[116,101,120,116]∨s=[108,101,102,116]∨s=[102,114,111,109]then⟨2,0⟩else⟨1,0⟩
def partOf(c:UInt8):Int:=if c=110 then 1 else 2
theorem CX {s:List UInt8}(hs:s∈ld):0<(eo s).length∧∀c∈eo s,c=110∨c=116:=by
 simp only[ld,List.mem_cons,List.not_mem_nil,or_false]at hs
 rcases hs with rfl|rfl|rfl|rfl|rfl<;>decide
theorem MP(c:ai)(s:List UInt8)(hs:s∈ld)(l:List an)(hl:l.length=(eo s).length)(hp:∀(i:Nat)(e:an)(u:UInt8),l[i]? =some e→(eo s)[i]? =some u→fe c e (partOf u))(M:Nat→Prop)(w:World)(v fv:Value)(ek:bI M w v (an.mk 6 0 (bL s) l))(bz:ae M w fv c.fields):
 Calls Tryz.prog 194 #[v, .agg #[.string c.name,fv]] w fun e w'=>e= .returned (.tuple #[.agg #[.int .i64 (pL s).kind, .int .i64 (pL s).of], .bool true])∧Below w.heap.size w w':=by
 obtain⟨a,cap,rfl,aU⟩:=dH ek
 have ij:=hD bz
 obtain⟨fa,fc,rfl,_⟩:=bz.open_
 obtain⟨Ch,hwb⟩:=CX hs
 have TQ:=hD (fun w=>Jg s hs w)
 have hif:((bL s).toList==[105,102])=false:=by rw[ByteArray.toList_eq,jT];simp only[ld,List.mem_cons,List.not_mem_nil,or_false]at hs;rcases hs with rfl|rfl|rfl|rfl|rfl<;>decide
 have oY:(((bL s).toList==[108,101,102,116])=true∧pL s=⟨2,0⟩)∨(((bL s).toList==[108,101,102,116])=false∧((bL s).toList==[114,105,103,104,116])=false∧((bL s).toList==[102,114,111,109])=true∧pL s=⟨2,0⟩)∨(((bL s).toList==[108,101,102,116])=false∧((bL s).toList==[114,105,103,104,116])=false∧((bL s).toList==[102,114,111,109])=false∧((bL s).toList==[116,101,120,116])=true∧pL s=⟨2,0⟩)∨(((bL s).toList==[108,101,102,116])=false∧((bL s).toList==[114,105,103,104,116])=false∧((bL s).toList==[102,114,111,109])=false∧((bL s).toList==[116,101,120,116])=false∧pL s=⟨1,0⟩):=by
  rw[ByteArray.toList_eq,jT];simp only[ld,List.mem_cons,List.not_mem_nil,or_false]at hs;rcases hs with rfl|rfl|rfl|rfl|rfl<;>decide
 have rE:=hD oY
 have hwl:(bL (eo s)).size=(eo s).length:=iF _
 have hwn:((bL (eo s)).toList==[])=false:=by rw[ByteArray.toList_eq,jT];cases hq:eo s;rw[hq]at Ch;simp at Ch;rfl
 have vF:Hid (∀(i:Nat)(h:i<(bL (eo s)).size),∃u,(eo s)[i]? =some u∧(bL (eo s))[i]=u∧(u=110∨u=116)):=(show∀(i:Nat)(h:i<(bL (eo s)).size),_ from fun i h=>by
  have h1:=cR (bL (eo s)) i h
  rw[jT]at h1
  exact⟨_,h1,rfl,hwb _ (List.mem_of_getElem? h1)⟩)
 have TR:(eo s).length≤2:=by simp only[ld,List.mem_cons,List.not_mem_nil,or_false]at hs;rcases hs with rfl|rfl|rfl|rfl|rfl<;>decide
 generalize hwv:bL (eo s)=wv at*
 generalize TS:(eo s).length=n at*
 rw[hl]at aU⊢
 have eM:=hD aU;clear aU;have HP:=hD hp;clear hp;have HL:=hD hl;clear hl;have HN:=hD TS;clear TS;have HWL:=hD hwl;clear hwl
 clear ek bz hwb hs hwv oY
 have qcc:wv.size≤2:=by rw[HWL.out];exact TR
 have qcd:wv.size=n:=HWL.out
 go_enter Tryz.func194,Tryz.ntmps194
 go_wp2_with fail
 refine(TQ.out _).mono ?_
 rintro e w'⟨rfl,rfl⟩
 go_wp2_with fail
 go_loopg [5,10,11]n(fun g r5 iv _ wr=>∃i:Nat,i≤n∧g=n-i∧iv= .int .i64 i∧r5= .bool false∧Hid (dt w (.cells #[.int .i64 6, .int .i64 0, .string (bL s), .slice a n cap] 232 (0,0)) (.cells #[.string c.name, .slice fa c.fields.length fc] 91 (0,0)) wr))
 case atStart=>exact⟨0,Nat.zero_le _,rfl,rfl,rfl,(show dt _ _ _ _ from dt.new w _ _)⟩
 case round=>
  obtain⟨i,hi,rfl,rfl,rfl,HW⟩:=hrel
  by_cases aT:i<n
  ·obtain⟨u,hu,hwi,Yq⟩:=vF.out i (by omega)
   obtain⟨x,hx⟩:∃x,l[i]? =some x:=⟨_,List.getElem?_eq_getElem (by rw[HL.out];exact aT)⟩
   have hpx:=HP.out i x u hx hu
   obtain⟨xk,xn,xs,xl⟩:=x
   have wq:ae M w (.slice a l.length cap) l:=by rw[HL.out];exact eM.out
   obtain⟨b,off,xa,xc,rfl,bZ,x0,x1,x2,x3,Se⟩:=ji wq hx
   have HX:Hid (∀W,Below w.heap.size w W→Calls Tryz.prog 193 #[.agg #[.int .i64 xk, .int .i64 xn, .string xs, .slice xa xl.length xc], .agg #[.string c.name, .slice fa c.fields.length fc]] W fun e w'=>e= .returned (.int .i64 (partOf u))∧Below W.heap.size W w'):=(show∀W,_→_ from fun W hb=>hpx M W _ _ (Se.below hb) (ij.out.below hb))
   have OY:(i:Int)<(n:Int):=by omega
   have dF:(0:Int)≤(i:Int):=Int.natCast_nonneg _
   obtain⟨a0,a1,a2,a3⟩:=ab HW.out.1
   obtain⟨c0,c1⟩:=af HW.out.2.1
   have y0:wr.cell? ⟨b,off+i*4,none⟩=some (.int .i64 xk):=(HW.out.2.2.2.1.cell (p:=⟨b,off+i*4,none⟩) bZ).trans x0
   have y1:wr.cell? ⟨b,off+i*4+1,none⟩=some (.int .i64 xn):=(HW.out.2.2.2.1.cell (p:=⟨b,off+i*4+1,none⟩) bZ).trans x1
   have y2:wr.cell? ⟨b,off+i*4+2,none⟩=some (.string xs):=(HW.out.2.2.2.1.cell (p:=⟨b,off+i*4+2,none⟩) bZ).trans x2
   have y3:wr.cell? ⟨b,off+i*4+3,none⟩=some (.slice xa xl.length xc):=(HW.out.2.2.2.1.cell (p:=⟨b,off+i*4+3,none⟩) bZ).trans x3
   clear hpx wq Se hx hu x0 x1 x2 x3
   go_upto_region 14 with fail
   go_cut [11](fun s11 wx=>s11= .int .i64 (partOf u)∧Hid (dt w (.cells #[.int .i64 6, .int .i64 0, .string (bL s), .slice (some ⟨b,off,none⟩) n cap] 232 (0,0)) (.cells #[.string c.name, .slice fa c.fields.length fc] 91 (0,0)) wx))
   case first=>
    go_region_law(first|(go_simp;go_at_call 193;refine(HX.out _ (by exact HW.out.2.2.2.1.drew)).mono ?_;rintro e w1⟨rfl,aw⟩;have nM:=hD (HW.out.drew.below aw);clear aw))
    all_goals(go_wp2_with fail;go_meet;exact⟨rfl,nM⟩)
   case rest=>
    obtain⟨rfl,fI⟩:=hcut
    rcases Yq with rfl|rfl
    ·rw[show partOf 110=1 from rfl]
     go_wp2_with fail
     go_roundg(n-(i+1))
     case measure=>omega
     case rel=>exact⟨i+1,by omega,rfl,by go_num,rfl,fI⟩
    ·rw[show partOf 116=2 from rfl]
     go_wp2_with fail
     go_roundg(n-(i+1))
     case measure=>omega
     case rel=>exact⟨i+1,by omega,rfl,by go_num,rfl,fI⟩
  ·obtain⟨a0,a1,a2,a3⟩:=ab HW.out.1
   obtain⟨r0,r1⟩:=af HW.out.2.2.1
   have g0:=aa HW.out.2.2.1 0
   have g1:=aa HW.out.2.2.1 1
   have Cg:=HW.out.2.2.2.1
   have NY:=hD Cg;clear Cg
   rcases rE.out with⟨h1,ht⟩|⟨h1,h2,h3,ht⟩|⟨h1,h2,h3,h4,ht⟩|⟨h1,h2,h3,h4,ht⟩
   all_goals
    have HTT:=hD ht;clear ht
    go_wp2_with fail
    refine bodyPost_ret (v:= .tuple #[.agg #[.int .i64 (pL s).kind, .int .i64 (pL s).of], .bool true]) (by simp[results,Tryz.results194,go_sem,r0,r1,HTT.out]) rfl ⟨rfl,?_⟩
    exact(NY.out.setCell (by simp;omega) _).setCell (by simp;omega) _
def OF(c:ai)(x:an)(t:aJ):Prop:=∀(M:Nat→Prop)(w:World)(v fv:Value),bI M w v x→ae M w fv c.fields→
 Calls Tryz.prog 194 #[v, .agg #[.string c.name,fv]] w fun e w'=>e= .returned (.tuple #[.agg #[.int .i64 t.kind, .int .i64 t.of], .bool true])∧Below w.heap.size w w'
theorem qT(c:ai)(s:ByteArray)(l:List an)(t:aJ)(H:OF c (.mk 6 0 s l) t):ie c (.mk 6 0 s l) t:=by
 intro M w v fv ek bz
 have vi:=hD ek
 have ij:=hD bz
 obtain⟨a,cap,rfl,_⟩:=dH ek
 obtain⟨fa,fc,rfl,_⟩:=bz.open_
 clear ek bz
 have HC:Hid (∀W,Below w.heap.size w W→Calls Tryz.prog 194 #[.agg #[.int .i64 6, .int .i64 0, .string s, .slice a l.length cap], .agg #[.string c.name, .slice fa c.fields.length fc]] W fun e w'=>e= .returned (.tuple #[.agg #[.int .i64 t.kind, .int .i64 t.of], .bool true])∧Below W.heap.size W w'):=(show∀W,_→_ from fun W hb=>H M W _ _ (vi.out.below hb) (ij.out.below hb))
 go_enter Tryz.func160,Tryz.ntmps160
 go_wp2_with fail
 refine(HC.out _ (by exact(((Below.refl _ _).alloc (Nat.le_refl _) _).alloc (by simp) _).alloc (by simp;omega) _)).mono ?_
 rintro e w1⟨rfl,aw⟩
 have HK:=hD ((dt.new w _ _).below aw)
 clear aw
 obtain⟨r0,r1⟩:=af HK.out.2.2.1
 have g0:=aa HK.out.2.2.1 0
 have g1:=aa HK.out.2.2.1 1
 go_wp2_with fail
 refine bodyPost_ret (v:= .tuple #[.agg #[.int .i64 t.kind, .int .i64 t.of], .bool true]) (by simp[results,Tryz.results160,go_sem,r0,r1]) rfl ⟨rfl,?_⟩
 exact(HK.out.2.2.2.1.setCell (by simp;omega) _).setCell (by simp;omega) _
theorem call5(c:ai)(s:List UInt8)(hs:s∈ld)(l:List an)(hl:l.length=(eo s).length)(hp:∀(i:Nat)(e:an)(u:UInt8),l[i]? =some e→(eo s)[i]? =some u→fe c e (partOf u)):ie c (.mk 6 0 (bL s) l) (pL s):=
 qT c _ l _ (fun M w v fv h1 h2=>MP c s hs l hl hp M w v fv h1 h2)
theorem MQ(c:ai)(x:an)(t:aJ)(H:ie c x t)(hn:fX x=true)(hd:ju x≤8)(hs:dA x≤40)(hc:aH c=true)(eU:c.name.size≤maxLen)(M:Nat→Prop)(w:World)(v fv:Value)(ek:bI M w v x)(bz:ae M w fv c.fields):
 Calls Tryz.prog 141 #[v, .agg #[.string c.name,fv]] w fun e w'=>e= .returned (.tuple #[.agg #[.int .i64 t.kind, .int .i64 t.of], .int .i64 0])∧Below w.heap.size w w':=by
 obtain⟨xk,xn,xs,xl⟩:=x
 have vi:=hD ek
 have ij:=hD bz
 obtain⟨a,cap,rfl,_⟩:=dH ek
 obtain⟨fa,fc,rfl,_⟩:=bz.open_
 clear ek bz
 have HR:Hid (∀W,Below w.heap.size w W→Calls Tryz.prog 159 #[.agg #[.int .i64 xk, .int .i64 xn, .string xs, .slice a xl.length cap]] W fun e w'=>e= .returned (.bool true)∧Below W.heap.size W w'):=(show∀W,_→_ from fun W hb=>tM M W _ _ (vi.out.below hb) hn hd hs)
 have zV:Hid (∀W,Below w.heap.size w W→Calls Tryz.prog 116 #[.agg #[.string c.name, .slice fa c.fields.length fc]] W fun e w'=>e= .returned (.bool true)∧Below W.heap.size W w'):=(show∀W,_→_ from fun W hb=>jd M _ W c (ij.out.below hb) eU hc)
 have HC:Hid (∀W,Below w.heap.size w W→Calls Tryz.prog 160 #[.agg #[.int .i64 xk, .int .i64 xn, .string xs, .slice a xl.length cap], .agg #[.string c.name, .slice fa c.fields.length fc]] W fun e w'=>e= .returned (.tuple #[.agg #[.int .i64 t.kind, .int .i64 t.of], .bool true])∧Below W.heap.size W w'):=(show∀W,_→_ from fun W hb=>H M W _ _ (vi.out.below hb) (ij.out.below hb))
 clear hn hd hs hc
 go_enter Tryz.func141,Tryz.ntmps141
 go_wp2_with fail
 refine(HR.out _ (by exact(((Below.refl _ _).alloc (Nat.le_refl _) _).alloc (by simp) _).alloc (by simp;omega) _)).mono ?_
 rintro e w1⟨rfl,aw⟩
 have HK:=hD ((dt.new w _ _).below aw)
 clear aw
 obtain⟨c0,c1⟩:=af HK.out.2.1
 obtain⟨a0,a1,a2,a3⟩:=ab HK.out.1
 go_wp2_with fail
 refine(zV.out _ (by exact HK.out.2.2.2.1)).mono ?_
 rintro e w2⟨rfl,aM⟩
 have Mv:=hD (HK.out.below aM)
 clear aM c0 c1 a0 a1 a2 a3
 obtain⟨c0,c1⟩:=af Mv.out.2.1
 obtain⟨a0,a1,a2,a3⟩:=ab Mv.out.1
 go_wp2_with fail
 refine(HC.out _ (by exact Mv.out.2.2.2.1)).mono ?_
 rintro e w3⟨rfl,bP⟩
 have FR:=hD (Mv.out.below bP)
 clear bP c0 c1 a0 a1 a2 a3
 obtain⟨r0,r1⟩:=af FR.out.2.2.1
 have g0:=aa FR.out.2.2.1 0
 have g1:=aa FR.out.2.2.1 1
 have cB:=FR.out.2.2.2.2
 have hne:w.heap.size+1+1≠w3.heap.size:=by omega
 go_wp2_with fail
 obtain⟨z0,z1⟩:=af (W:=((w3.setCell ⟨w.heap.size+1+1,0,none⟩ (.int .i64 t.kind)).setCell ⟨w.heap.size+1+1,1,none⟩ (.int .i64 t.of)).alloc (.cells #[.int .i64 t.kind, .int .i64 t.of] 140)) ((Below.heap_alloc _ _ _ (by simp;omega)).trans (heap_setCell_same _ _ 1 _ _ _ (heap_setCell_same _ _ 0 _ _ _ FR.out.2.2.1)))
 refine bodyPost_ret (v:= .tuple #[.agg #[.int .i64 t.kind, .int .i64 t.of], .int .i64 0]) (by simp[results,Tryz.results141,go_sem];simp[z0,z1]) rfl ⟨rfl,?_⟩
 exact((FR.out.2.2.2.1.setCell (by simp;omega) _).setCell (by simp;omega) _).alloc (by simp;omega) _
end Go.Proofs.YtlkjnefenialbaaGreatDoor
