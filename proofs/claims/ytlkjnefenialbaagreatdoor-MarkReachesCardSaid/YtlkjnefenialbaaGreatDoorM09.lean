/- What Apply and Newest answer; no condition beyond each theorem's own. -/
import Derived.Test.YtlkjnefenialbaaGreatDoorM08
set_option linter.unusedVariables false
set_option linter.unusedSimpArgs false
set_option maxHeartbeats 8000000
set_option maxRecDepth 100000
namespace Go.Proofs.YtlkjnefenialbaaGreatDoor
open Go.RowKit
section
variable {P:Program}{α:Type} [az α]
theorem qX {w:World}{ops:Array Oper}{o:Oper}{a:Act}{K:Act→World→Prop}{Q:Exit→Act→World→Prop}{E:Prop}(vE:o.guard=none)(s x:Operand)(t:TypeId)
 (ho:o.op= .call {callee:= .builtin .append,args:= #[s,x],argTypes:= #[t,t]})
 (M:Nat→Prop)(base:Nat)(e:TypeId)(i:TypeInfo)(z:Value)(bytes:Nat)(ht:P.underlying t=some (.slice e))(hi:P.info? e=some i)(hz:i.zero=some z)
 (gu:i.size=az.size α)(xT:i.bytes=bytes)(xU:z.cells.size=az.size α)(cB:0<az.size α)
 (v:Value)(xs:List α)(hs:a.eval s=v)(bn:aK M base e w v xs)
 (sv:Value)(ys:List α)(hx:a.eval x=sv)(hr:ae (bc v M) w sv ys)
 (xV:xs.length+ys.length≤maxLen)(ey:(xs.length+ys.length)*bytes≤140737488355328)(ed:base≤w.heap.size)
 (h:∀a' c' w',aK M base e w' (.slice a' (xs.length+ys.length) c') (xs++ys)→Ev (bc v M) w (bc (.slice a' (xs.length+ys.length) c') M) w'→Below base w w'→K (a.put o.dst (.slice a' (xs.length+ys.length) c')) w'):
 if Region.wanted o (yielded ops a.tmps)=true then Oper.wp P o a w K Q else E:=by
 have hw:Region.wanted o (yielded ops a.tmps)=true:=by simp[Region.wanted,vE]
 rw[if_pos hw]
 obtain⟨css,h1,h2,h3⟩:=bn
 obtain⟨Ik,k1,k2,k3⟩:=hr
 have B6:∀u∈Ik.flatten,u.oneCell'=true:=fun u hu=>by
  obtain⟨cs,bE,hu⟩:=List.mem_flatten.1 hu
  obtain⟨i,hi⟩:=List.getElem?_of_mem bE
  have xY:i<ys.length:=by rw[←k2];exact(List.getElem?_eq_some_iff.1 hi).1
  exact az.flat (k3 i cs _ hi (List.getElem?_eq_getElem xY)) u hu
 refine lX w s x t ho base e i z (az.size α) bytes ht hi hz gu xT xU cB v xs.length css.flatten hs h1 sv ys.length Ik.flatten hx k1 B6 xV ey ed fun v' w' j1 j2 j3=> ?_
 obtain⟨a',c',rfl,_,_⟩:=dG j1
 exact h a' c' w' (aK.app h2 h3 k2 k3 j1 j2 j3) (Ev.grown j2 j3) ((Below.refl _ w).grown j2 ed fun k hk=>(h1.lt k hk).1)
end
theorem tU(x:aq)(f:ak):(bN x f).length≤2:=by unfold bN;repeat(first|split|simp)
theorem As(x:aq):∀l:List ak,(l.flatMap (bN x)).length≤2*l.length
 |[]=>by simp
 |f::r=>by rw[List.flatMap_cons,List.length_append];have:=tU x f;have:=As x r;have:(f::r).length=r.length+1:=rfl;omega
theorem Gs(x:aq){l:List ak}{k:Nat}{f:ak}(h:l[k]? =some f):(l.take k).flatMap (bN x)++bN x f=(l.take (k+1)).flatMap (bN x):=by
 rw[List.take_add_one,h,List.flatMap_append];simp
def cg(n:ByteArray)(v:Value):Obj:= .cells #[.string n,v] 91 (0,0)
def qE(x:aq):Obj:= .cells #[.int .i64 x.kind, .string x.field, .string x.name, .string x.more, .int .i64 x.type.kind, .int .i64 x.type.of, .string x.expr, .string x.other] 142 (0,0)
def PJ(w2:World)(nm:ByteArray)(fs:List ak)(a:Option Addr)(n cap:Nat)(wr:World):Prop:=
 fs.length=n∧aK (fun i=>i<w2.heap.size+1) (w2.heap.size+1) 151 wr (.slice a n cap) fs∧Bx w2 [cg nm (.slice a n cap)] wr
theorem tV(c:ai)(x:aq)(hp:ot c x)(hc:aH c=true)(eU:c.name.size≤maxLen)(hb:gY c x=true)(M:Nat→Prop)(w:World)(hM:Bd M w)(fv:Value)(bz:ae M w fv c.fields):
 Calls Tryz.prog 92 #[.agg #[.string c.name,fv], .agg #[.int .i64 x.kind, .string x.field, .string x.name, .string x.more, .int .i64 x.type.kind, .int .i64 x.type.of, .string x.expr, .string x.other]] w
  (aF w fun v w'=>∃jc,v= .tuple #[.agg #[.string c.name,jc], .int .i64 0]∧ae M w' jc (bC c x).fields):=by
 obtain⟨i0,dF,dM,db,dL⟩:=info_parts fZ
 have h8:=((aZ c).1 hc).2.1
 have hk:x.kind=1∨x.kind=2∨x.kind=3∨x.kind=4∨x.kind=5∨x.kind=6:=by have:=hp.sh;simp only[lg]at this;omega
 have HR:Hid (∀W fv,ae M W fv c.fields→_):=(show∀W fv,_→_ from fun W fv h=>jd M fv W c h eU hc)
 have HC:Hid (∀W fv,Bd M W→ae M W fv c.fields→_):=(show∀W fv,_→_→_ from fun W fv h1 h2=>rO c x hp hc eU true hb M W h1 fv h2)
 have HTU:Hid (∀(f:ak)(N:Nat→Prop)(W:World),f.name.size≤maxLen→Bd N W→_):=(show∀(f:ak)(N:Nat→Prop)(W:World),_→_→_ from fun f N W h1 h2=>Dc x f hk h1 hp.s2 hp.s3 N W h2)
 have eB:Hid (x.name.size≤maxLen):=hp.s2
 have ij:=hD bz
 obtain⟨fa,fc,rfl,EK,u7,ao⟩:=bz.open_
 have vj:=hD ao
 clear hp bz ao hb
 have Lr:=hD (fun(k:Nat)(f:ak)(h:c.fields[k]? =some f)=>Gs x h)
 have IN:=hD (fun(k:Nat)=>As x (c.fields.take k))
 have OX:=hD (tU x)
 have HAD:Hid (∀(fs:List ak),(c.fields.take c.fields.length).flatMap (bN x)=fs→(x.kind=1→(bC c x).fields=fs++[⟨x.name,x.type,false⟩])∧(x.kind≠1→(bC c x).fields=fs)):=(show∀fs,_→_ from fun fs h=>by
  rw[List.take_length]at h
  unfold bC Fk
  rw[h]
  exact⟨fun h=>by simp[h],fun h=>by simp[h]⟩)
 have Qq:Hid (∀f,∃ts,bN x f=ts):=(show∀f,_ from fun f=>⟨_,rfl⟩)
 have WI:Hid (∀(o:Obj),qE x=o→o= .cells #[.int .i64 x.kind, .string x.field, .string x.name, .string x.more, .int .i64 x.type.kind, .int .i64 x.type.of, .string x.expr, .string x.other] 142 (0,0)):=(show∀o,_→_ from fun o h=>h.symm)
 go_enter Tryz.func92,Tryz.ntmps92
 go_wp2_with fail
 refine(HR.out _ _ (ij.out.below (Bx.fB _ _ _ _).1)).mono ?_
 rintro en w1⟨rfl,aw⟩
 have iI:Hid (Bx w [cg c.name (.slice fa c.fields.length fc),qE x,cg ⟨#[]⟩ (.slice none 0 0)] w1):=(Bx.fB w _ _ _).below aw
 clear aw
 obtain⟨c0,c1⟩:=af (iI.out.bJ rfl)
 obtain⟨a0,a1,a2,a3,a4,a5,a6,a7⟩:=ah (iI.out.bh rfl)
 go_wp2_with fail
 refine(HC.out _ _ (hM.below iI.out.1) (ij.out.below iI.out.1)).mono ?_
 rintro en w2⟨rfl,aM⟩
 have fI:Hid (Bx w [cg c.name (.slice fa c.fields.length fc),qE x,cg ⟨#[]⟩ (.slice none 0 0)] w2):=iI.out.below aM
 clear aM c0 c1 a0 a1 a2 a3 a4 a5 a6 a7
 obtain⟨c0,c1⟩:=af (fI.out.bJ rfl)
 have s2:=fI.out.2.1
 simp only[List.length_cons,List.length_nil]at s2
 go_wp2_with fail
 go_loopg [7]c.fields.length(fun g iv wr=>∃(k m cap:Nat)(a:Option Addr),k≤c.fields.length∧g=c.fields.length-k∧iv= .int .i64 k∧Hid (PJ w2 c.name ((c.fields.take k).flatMap (bN x)) a m cap wr))
 case atStart=>exact⟨0,0,0,none,Nat.zero_le _,rfl,rfl,(show PJ _ _ _ _ _ _ _ from⟨rfl,aK.nil _ _ _ _,Bx.fA w2 _⟩)⟩
 case round=>
  obtain⟨k,m,cap,a,Qm,rfl,rfl,HS⟩:=hrel
  have HW:Hid (Bx w [cg c.name (.slice fa c.fields.length fc),qE x,cg ⟨#[]⟩ (.slice none 0 0)] wr):=fI.out.below HS.out.2.2.1
  clear c0 c1
  obtain⟨c0,c1⟩:=af (HW.out.bJ rfl)
  obtain⟨a0,a1,a2,a3,a4,a5,a6,a7⟩:=ah (HW.out.bh rfl)
  obtain⟨o0,o1⟩:=af (HS.out.2.2.bJ rfl)
  have sr:=HS.out.2.2.2.1
  simp only[List.length_cons,List.length_nil]at sr
  have T9:m≤2*c.fields.length:=by
   have:=IN.out k
   rw[HS.out.1,List.length_take]at this
   omega
  by_cases aT:k<c.fields.length
  ·obtain⟨b,off,rfl,xW,bZ,aC⟩:=vj.out (by omega)
   obtain⟨f,hf⟩:∃f,c.fields[k]? =some f:=⟨_,List.getElem?_eq_getElem aT⟩
   obtain⟨cs,⟨rfl,N1⟩,bE⟩:=aC k f hf
   have QM:Hid (∀W,Below w.heap.size w W→W.cell? ⟨b,off+k*4,none⟩=some (.string f.name)∧W.cell? ⟨b,off+k*4+1,none⟩=some (.int .i64 f.type.kind)∧W.cell? ⟨b,off+k*4+2,none⟩=some (.int .i64 f.type.of)∧W.cell? ⟨b,off+k*4+3,none⟩=some (.bool f.indexed)):=(show∀W,_→_ from fun W hb=>⟨(hb.cell (p:=⟨b,off+k*4,none⟩) bZ).trans (bE 0 _ rfl),(hb.cell (p:=⟨b,off+k*4+1,none⟩) bZ).trans (bE 1 _ rfl),(hb.cell (p:=⟨b,off+k*4+2,none⟩) bZ).trans (bE 2 _ rfl),(hb.cell (p:=⟨b,off+k*4+3,none⟩) bZ).trans (bE 3 _ rfl)⟩)
   obtain⟨q0,q1,q2,q3⟩:=QM.out wr HW.out.1
   have Ua:=hD (Lr.out k f hf)
   obtain⟨ts,sw⟩:=Qq.out f
   have sO:=hD sw
   have hT2:ts.length≤2:=by rw[←sw];exact OX.out f
   clear aC bE hf sw
   have Wz:Hid (Bd (bc (.slice a m cap) (fun i=>i<w2.heap.size+1)) wr.drew):=(show Bd _ _ from fun i h=>by rcases h with h|h;(have:i<w2.heap.size+1:=h);(show i<wr.heap.size);omega;exact(HS.out.2.1.dO i h).2)
   have aS:=hD (HTU.out f _ _ N1 Wz.out)
   rw[sO.out]at aS
   go_upto_region 9 with fail
   go_region_law(first
    |(go_simp
      go_at_call 119
      refine aS.out.mono ?_
      rintro en w3⟨_,rfl,aU,bP⟩
      obtain⟨ya,yc,rfl,_⟩:=aU.open_
      have eM:=hD aU
      have bO:=hD bP
      have jr:Hid (Bx w2 [cg c.name (.slice a m cap)] w3):=HS.out.2.2.drew.below bP
      have YE:Hid (aK (fun i=>i<w2.heap.size+1) (w2.heap.size+1) 151 w3 (.slice a m cap) ((c.fields.take k).flatMap (bN x))):=(HS.out.2.1.below ⟨rfl,rfl,rfl,Nat.le_refl _,fun _ _=>rfl⟩:aK _ _ _ wr.drew _ _).below bP
      have kp:Hid (Bx w [cg c.name (.slice (some ⟨b,off,none⟩) c.fields.length fc),qE x,cg ⟨#[]⟩ (.slice none 0 0)] w3):=fI.out.below jr.out.1
      have b0:=(af (kp.out.bJ rfl)).1
      have b1:=(af (kp.out.bJ rfl)).2
      have p1:w3.cell? ⟨w2.heap.size,1,none⟩=some (.slice a m cap):=(af (jr.out.bJ rfl)).2
      have s3:=jr.out.2.1
      simp only[List.length_cons,List.length_nil]at s3
      clear aU bP)
    |(refine qX (α:=ak) rfl _ _ _ rfl (fun i=>i<w2.heap.size+1) (w2.heap.size+1) 151 i0 _ 40 Tryz.underlying89 dF dM db dL rfl (by decide) (.slice a m cap) _ rfl YE.out _ ts rfl eM.out (by rw[HS.out.1];unfold maxLen;omega) (by rw[HS.out.1];omega) (by omega) ?_
      rw[HS.out.1]
      intro a4 c4 w4 Ci QN eS
      have Ls:=hD Ci
      have od:Hid (Bx w2 [cg c.name (.slice a m cap)] w4):=jr.out.cJ eS (by simp)
      have l3:w4.cell? ⟨w2.heap.size,1,none⟩=some (.slice a m cap):=(af (od.out.bJ rfl)).2
      have l4:w4.frozen? ⟨w2.heap.size,1,none⟩=false:=aa (od.out.bJ rfl) 1
      clear Ci QN eS))
   all_goals
    go_wp2_with fail
    go_roundg(c.fields.length-(k+1))
    case measure=>omega
    case rel=>
     refine⟨k+1,m+ts.length,c4,a4,by omega,rfl,by go_num,?_⟩
     refine(show PJ _ _ _ _ _ _ _ from⟨?_,?_,?_⟩)
     ·rw[←Ua.out,List.length_append,HS.out.1,sO.out]
     ·rw[←Ua.out,sO.out]
      exact Ls.out.sD (p:=⟨w2.heap.size,1,none⟩) (by simp) (by simp) _
     ·exact od.out.set 0 1 rfl _
  ·have Sr:k=c.fields.length:=by omega
   by_cases ni:x.kind=1
   ·have vm:(x.kind==1)=true:=by simpa using ni
    have rE:Hid ((bC c x).fields=(c.fields.take k).flatMap (bN x)++[⟨x.name,x.type,false⟩]):=(show _=_ by rw[Sr];exact((HAD.out _ rfl).1 ni))
    go_wp2_with(at_builtin
                refine aQ (α:=ak) rfl _ _ _ rfl (fun i=>i<w2.heap.size+1) (w2.heap.size+1) 151 i0 _ 40 Tryz.underlying89 dF dM db dL rfl (by decide) (.slice a m cap) _ rfl (HS.out.2.1.alloc _) (fun _=>True) _ _ (⟨x.name,x.type,false⟩:ak) rfl (ct _ _ _ _ rfl trivial) ⟨rfl,eB.out⟩ (by rw[HS.out.1];unfold maxLen;omega) (by rw[HS.out.1];omega) (by simp;omega) ?_
                rw[HS.out.1]
                intro a4 c4 w4 Ci QN eS
                have Ls:=hD Ci
                have od:Hid (Bx w2 [cg c.name (.slice a m cap)] w4):=(HS.out.2.2.alloc _).cJ eS (by simp)
                have nj:Hid (Bx w [cg c.name (.slice fa c.fields.length fc),qE x,cg ⟨#[]⟩ (.slice none 0 0)] w4):=fI.out.below od.out.1
                have l3:w4.cell? ⟨w2.heap.size,1,none⟩=some (.slice a m cap):=(af (od.out.bJ rfl)).2
                have l4:w4.frozen? ⟨w2.heap.size,1,none⟩=false:=aa (od.out.bJ rfl) 1
                have l5:w4.cell? ⟨w2.heap.size,0,none⟩=some (.string c.name):=(af (od.out.bJ rfl)).1
                have r0:=(af (nj.out.df rfl)).1
                have r1:=(af (nj.out.df rfl)).2
                have g0:=aa (nj.out.df rfl) 0
                have g1:=aa (nj.out.df rfl) 1
                have ne2:w.heap.size+1+1≠w2.heap.size:=by omega
                clear Ci QN eS)
    refine bodyPost_ret (v:= .tuple #[.agg #[.string c.name, .slice a4 (m+1) c4], .int .i64 0]) (by simp[results,Tryz.results92,go_sem,r0,r1]) rfl ⟨_,rfl,⟨_,rfl,?_⟩,?_⟩
    ·rw[rE.out]
     exact(Ls.out.slice (fun i h=>h)).ev ((((Ev.ee (M:=fun i=>i<w2.heap.size+1) (N:=M) w4 (fun i hi=>by have:=hM i hi;omega)).setCell (.inl (by show w2.heap.size<w2.heap.size+1;omega)) _).setCell (.inl (by show w.heap.size+1+1<w2.heap.size+1;omega)) _).setCell (.inl (by show w.heap.size+1+1<w2.heap.size+1;omega)) _)
    ·exact((nj.out.1.setCell (by show w.heap.size≤w2.heap.size;omega) _).setCell (by show w.heap.size≤w.heap.size+1+1;omega) _).setCell (by show w.heap.size≤w.heap.size+1+1;omega) _
   ·have vm:(x.kind==1)=false:=by simpa using ni
    have rE:Hid ((bC c x).fields=(c.fields.take k).flatMap (bN x)):=(show _=_ by rw[Sr];exact((HAD.out _ rfl).2 ni))
    obtain⟨r0,r1⟩:=af (HW.out.df rfl)
    have g0:=aa (HW.out.df rfl) 0
    have g1:=aa (HW.out.df rfl) 1
    have ne2:w.heap.size+1+1≠w2.heap.size:=by omega
    go_wp2_with fail
    refine bodyPost_ret (v:= .tuple #[.agg #[.string c.name, .slice a m cap], .int .i64 0]) (by simp[results,Tryz.results92,go_sem,r0,r1]) rfl ⟨_,rfl,⟨_,rfl,?_⟩,?_⟩
    ·rw[rE.out]
     exact(HS.out.2.1.slice (fun i h=>h)).ev (((Ev.ee (M:=fun i=>i<w2.heap.size+1) (N:=M) wr (fun i hi=>by have:=hM i hi;omega)).setCell (.inl (by show w.heap.size+1+1<w2.heap.size+1;omega)) _).setCell (.inl (by show w.heap.size+1+1<w2.heap.size+1;omega)) _)
    ·exact(HW.out.1.setCell (by show w.heap.size≤w.heap.size+1+1;omega) _).setCell (by show w.heap.size≤w.heap.size+1+1;omega) _
def eP(M:Nat→Prop)(w:World)(n:Nat):Nat→Prop:=fun i=>M i∨(w.heap.size≤i∧i<w.heap.size+n)
theorem dR {M:Nat→Prop}{w W:World}{n:Nat}(h:Below w.heap.size w W):Ev M w (eP M w n) W:=⟨ag.aj h,fun i hi=>hi.imp_right fun h=>h.1⟩
theorem dS {M:Nat→Prop}{w W:World}{n:Nat}(hM:Bd M w)(h:w.heap.size+n≤W.heap.size):Bd (eP M w n) W:=fun i hi=>by rcases hi with hi|hi;(have:=hM i hi;omega);omega
theorem ff {M:Nat→Prop}{w:World}{n:Nat}(W:World):Ev (eP M w n) W M W:=Ev.ee W fun i hi=> .inl hi
def bY(n:ByteArray)(fv cv:Value):Obj:= .cells #[.string n,fv,cv] 94 (0,0)
theorem ay {W:World}{g:Nat}{c0 c1 c2:Value}{t:TypeId}(h:W.heap[g]? =some (.cells #[c0,c1,c2] t (0,0))):W.cell? ⟨g,0,none⟩=some c0∧W.cell? ⟨g,1,none⟩=some c1∧W.cell? ⟨g,2,none⟩=some c2:=by simp[World.cell?,h]
theorem cu.name {c d:ai}{l:List aq}(h:cu c l d):d.name=c.name:=by
 induction h with
 |nil c=>rfl
 |cons c d x l _ _ _ ih=>exact ih
theorem tW {c e d:ai}{l:List aq}{k:Nat}{x:aq}(h:cu c (l.take k) e)(ha:cu c l d)(hx:l[k]? =some x):gJ e x∧gY e x=true∧cu c (l.take (k+1)) (bC e x):=by
 obtain⟨e',h1,h2⟩:=ha.split k
 obtain rfl:=h.eq h1
 have hd:l.drop k=x::l.drop (k+1):=by
  obtain⟨hl,he⟩:=List.getElem?_eq_some_iff.1 hx
  rw[List.drop_eq_getElem_cons hl,he]
 rw[hd]at h2
 cases h2 with
 |cons _ _ _ _ g b _=>exact⟨g,b,by rw[List.take_add_one,hx];exact h.snoc g b⟩
theorem pS {M:Nat→Prop}{w:World}{cv:Value}{l:List aq}(h:ae M w cv l){k:Nat}{x:aq}(hx:l[k]? =some x):∃b off cap,cv= .slice (some ⟨b,off,none⟩) l.length cap∧b<w.heap.size∧∀W,Below w.heap.size w W→W.cell? ⟨b,off+k*8,none⟩=some (.int .i64 x.kind)∧W.cell? ⟨b,off+k*8+1,none⟩=some (.string x.field)∧W.cell? ⟨b,off+k*8+2,none⟩=some (.string x.name)∧W.cell? ⟨b,off+k*8+3,none⟩=some (.string x.more)∧W.cell? ⟨b,off+k*8+4,none⟩=some (.int .i64 x.type.kind)∧W.cell? ⟨b,off+k*8+5,none⟩=some (.int .i64 x.type.of)∧W.cell? ⟨b,off+k*8+6,none⟩=some (.string x.expr)∧W.cell? ⟨b,off+k*8+7,none⟩=some (.string x.other):=by
 obtain⟨a,cap,rfl,hl,_,hc⟩:=h.open_
 have hk:=(List.getElem?_eq_some_iff.1 hx).1
 obtain⟨b,off,rfl,_,hb,aC⟩:=hc (by omega)
 obtain⟨cs,⟨rfl,_⟩,bE⟩:=aC k x hx
 refine⟨b,off,cap,rfl,hb,fun W hB=> ?_⟩
 have g:∀j u,([.int .i64 x.kind, .string x.field, .string x.name, .string x.more, .int .i64 x.type.kind, .int .i64 x.type.of, .string x.expr, .string x.other]:List Value)[j]? =some u→W.cell? ⟨b,off+k*8+j,none⟩=some u:=fun j u hu=>(hB.cell (p:=⟨b,off+k*8+j,none⟩) hb).trans (bE j u hu)
 exact⟨g 0 _ rfl,g 1 _ rfl,g 2 _ rfl,g 3 _ rfl,g 4 _ rfl,g 5 _ rfl,g 6 _ rfl,g 7 _ rfl⟩
def Gt(M:Nat→Prop)(w:World)(l:aE)(os:List Obj)(E:Nat)(k:Nat)(nm:ByteArray)(a:Option Addr)(n cap:Nat)(wr:World):Prop:=
 ∃e:ai,cu l.first (l.changes.take k) e∧e.name=nm∧e.fields.length=n∧ae (eP M w 3) wr (.slice a n cap) e.fields∧Bx w (os++[cg nm (.slice a n cap)]) wr
theorem Gu(l:aE)(d:ai)(hc:bR l.first)(IP:cu l.first l.changes d)(h5:l.changes.length≤12)(M:Nat→Prop)(w:World)(hM:Bd M w)(fv cv:Value)(bz:ae M w fv l.first.fields)(bE:ae M w cv l.changes):
 Calls Tryz.prog 58 #[.agg #[.string l.first.name,fv,cv]] w (aF w fun v w'=>∃jc,v= .agg #[.string l.first.name,jc]∧ae M w' jc d.fields):=by
 have oZ:Hid (∀(c:ai)(x:aq)(W:World)(fv:Value),gJ c x→bR c→gY c x=true→Bd (eP M w 3) W→ae (eP M w 3) W fv c.fields→_):=(show∀(c:ai)(x:aq)(W:World)(fv:Value),_→_→_→_→_→_ from fun c x W fv h1 h2 h3 h4 h5=>tV c x h1.pre h2.right (bQ h2.small) h3 (eP M w 3) W h4 fv h5)
 have eT:Hid (∀k e x,cu l.first (l.changes.take k) e→l.changes[k]? =some x→bR e∧gJ e x∧gY e x=true∧cu l.first (l.changes.take (k+1)) (bC e x)):=(show∀k e x,_→_→_ from fun k e x h1 h2=>⟨h1.ok hc,tW h1 IP h2⟩)
 have QO:Hid (∀e,cu l.first (l.changes.take l.changes.length) e→e=d):=(show∀e,_→_ from fun e h=>by rw[List.take_length]at h;exact h.eq IP)
 have x9:Hid (∀k x,l.changes[k]? =some x→_):=(show∀k x,_→_ from fun k x h=>pS bE h)
 have ij:=hD bz
 obtain⟨fa,fc,rfl,EK,u7,_⟩:=bz.open_
 obtain⟨ca,cc,rfl,QP,QQ,_⟩:=bE.open_
 clear bz bE IP hc
 obtain⟨⟨nm,fs⟩,chs⟩:=l
 dsimp only at*
 go_enter Tryz.func58,Tryz.ntmps58
 go_wp2_with fail
 go_loopg [4]chs.length(fun g iv wr=>∃(k n cap:Nat)(a:Option Addr),k≤chs.length∧g=chs.length-k∧iv= .int .i64 k∧Hid (Gt M w ⟨⟨nm,fs⟩,chs⟩ [bY nm (.slice fa fs.length fc) (.slice ca chs.length cc),cg ⟨#[]⟩ (.slice none 0 0)] 2 k nm a n cap wr))
 case atStart=>exact⟨0,fs.length,fc,fa,Nat.zero_le _,rfl,rfl,(show Gt _ _ _ _ _ _ _ _ _ _ _ from⟨⟨nm,fs⟩,by simpa using cu.nil _,rfl,rfl,ij.out.ev (dR (Bx.fB w _ _ _).1),Bx.fB w _ _ _⟩)⟩
 case round=>
  obtain⟨k,n,cap,a,Qm,rfl,rfl,HS⟩:=hrel
  obtain⟨e,N2,Lt,Ub,aU,kr⟩:=HS.out
  have cQ:=hD kr
  obtain⟨l0,l1,l2⟩:=ay (cQ.out.bJ rfl)
  obtain⟨o0,o1⟩:=af (cQ.out.df rfl)
  have sr:=cQ.out.b8
  simp only[List.length_cons,List.length_nil,List.length_append]at sr
  by_cases aT:k<chs.length
  ·obtain⟨x,hx⟩:∃x,chs[k]? =some x:=⟨_,List.getElem?_eq_getElem aT⟩
   obtain⟨b,off,dE,rH,bZ,ao⟩:=x9.out k x hx
   obtain⟨rfl,rfl⟩:ca=some ⟨b,off,none⟩∧cc=dE:=by simpa using rH
   obtain⟨k0,k1,k2,k3⟩:=eT.out k e x N2 hx
   have FR:=hD k3
   obtain⟨q0,q1,q2,q3,q4,q5,q6,q7⟩:=ao wr cQ.out.1
   have aS:=hD (oZ.out e x wr.drew (.slice a n cap) k1 k0 k2 (dS (W:=wr.drew) hM (by show _≤wr.heap.size;omega)) (aU.ev ((Ev.refl _ _).drew)))
   rw[Lt]at aS
   clear hx rH ao k0 k1 k2 k3 aU kr HS N2
   go_upto_region 5 with fail
   go_region_law(first
    |(go_simp
      go_at_call 92
      refine aS.out.mono ?_
      rintro en w3⟨_,rfl,⟨jc,rfl,aU⟩,bP⟩
      obtain⟨ya,yc,rfl,_⟩:=aU.open_
      have eM:=hD aU
      have bO:Hid (Bx w [bY nm (.slice fa fs.length fc) (.slice (some ⟨b,off,none⟩) chs.length cc),cg ⟨#[]⟩ (.slice none 0 0),cg nm (.slice a n cap)] w3):=cQ.out.drew.below bP
      have p0:=(af (bO.out.df rfl)).1
      have p1:=(af (bO.out.df rfl)).2
      have f0:=aa (bO.out.df rfl) 0
      have f1:=aa (bO.out.df rfl) 1
      clear aU bP))
   all_goals
    go_wp2_with fail
    go_roundg(chs.length-(k+1))
    case measure=>omega
    case rel=>
     refine⟨k+1,(bC e x).fields.length,yc,ya,by omega,rfl,by go_num,?_⟩
     refine(show Gt _ _ _ _ _ _ _ _ _ _ _ from⟨bC e x,FR.out,Lt,rfl,?_,?_⟩)
     ·exact eM.out.ev ((((Ev.refl _ _).setCell (.inl (.inr ⟨by show w.heap.size≤w.heap.size+1+1;omega,by show w.heap.size+1+1<w.heap.size+3;omega⟩)) _).setCell (.inl (.inr ⟨by show w.heap.size≤w.heap.size+1+1;omega,by show w.heap.size+1+1<w.heap.size+3;omega⟩)) _))
     ·exact(bO.out.set 2 0 rfl _).set 2 1 rfl _
  ·have Sr:k=chs.length:=by omega
   obtain rfl:e=d:=QO.out e (by rw[←Sr];exact N2)
   have eM:=hD aU
   obtain⟨r0,r1⟩:=af (cQ.out.bh rfl)
   have g0:=aa (cQ.out.bh rfl) 0
   have g1:=aa (cQ.out.bh rfl) 1
   subst Ub
   clear aU kr HS N2
   go_wp2_with fail
   refine bodyPost_ret (v:= .agg #[.string nm, .slice a e.fields.length cap]) (by simp[results,Tryz.results58,go_sem,r0,r1]) rfl ⟨_,rfl,⟨_,rfl,?_⟩,?_⟩
   ·exact eM.out.ev ((((ff wr).setCell (.inl (.inr ⟨by show w.heap.size≤w.heap.size+1;omega,by show w.heap.size+1<w.heap.size+3;omega⟩)) _).setCell (.inl (.inr ⟨by show w.heap.size≤w.heap.size+1;omega,by show w.heap.size+1<w.heap.size+3;omega⟩)) _))
   ·exact(cQ.out.1.setCell (by show w.heap.size≤w.heap.size+1;omega) _).setCell (by show w.heap.size≤w.heap.size+1;omega) _
end Go.Proofs.YtlkjnefenialbaaGreatDoor
