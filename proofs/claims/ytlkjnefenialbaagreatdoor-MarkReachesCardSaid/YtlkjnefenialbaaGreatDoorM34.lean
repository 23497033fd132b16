/- What expr.Right and eval.Type answer; no condition beyond each theorem's own. -/
import Derived.Test.YtlkjnefenialbaaGreatDoorM23
import Derived.Test.YtlkjnefenialbaaGreatDoorM33
set_option linter.unusedVariables false
set_option linter.unusedSimpArgs false
set_option maxHeartbeats 8000000
set_option maxRecDepth 100000
namespace Go.Proofs.YtlkjnefenialbaaGreatDoor
open Go.RowKit
structure nV(w0 w:World)(M:Nat→Prop)(q b:Nat)(n:Int):Prop where
 blk:w.heap[q]? =some (ON b n)
 binds:dK w b
 low:Below w0.heap.size w0 w
 hq:w0.heap.size≤q
 ne:b≠q
 mq:M q
theorem nV.lt {w0 w:World}{M:Nat→Prop}{q b:Nat}{n:Int}(h:nV w0 w M q b n):q<w.heap.size:=(Array.getElem?_eq_some_iff.1 h.blk).1
theorem lH {w0 w w':World}{q:Nat}(h:Below w0.heap.size w0 w)(k:ag (fun i=>i=q) w w')(hq:w0.heap.size≤q):Below w0.heap.size w0 w':=
 ⟨k.os.trans h.os,k.tape.trans h.tape,k.output.trans h.output,Nat.le_trans h.size k.size,fun i hi=>(k.block i (Nat.lt_of_lt_of_le hi h.size) (fun e=>by have:i=q:=e;omega)).trans (h.block i hi)⟩
theorem nV.below {w0 w w':World}{M:Nat→Prop}{q b:Nat}{n:Int}(h:nV w0 w M q b n)(k:Below w.heap.size w w'):nV w0 w' M q b n:=
 ⟨(k.block q h.lt).trans h.blk,h.binds.below k,h.low.trans (k.mono h.low.size),h.hq,h.ne,h.mq⟩
theorem nV.DR {w0 w w':World}{M:Nat→Prop}{q b:Nat}{n m:Int}(h:nV w0 w M q b n)(k:ag (fun i=>i=q) w w')(hb:w'.heap[q]? =some (ON b m)):nV w0 w' M q b m:=
 ⟨hb,h.binds.only k h.ne,lH h.low k h.hq,h.hq,h.ne,h.mq⟩
theorem FB {M:Nat→Prop}{q:Nat}{w w':World}(hq:M q)(k:ag (fun i=>i=q) w w'):Ev M w M w':=⟨k.mono fun i hi=>by have:i=q:=hi;rw[this];exact hq,fun _ h=> .inl h⟩
theorem oG:∀l:List an,l.length≤cI l
 |[]=>by simp
 |e::r=>by have:=oG r;have:=qR e;simp only[cI,List.length_cons];omega
theorem uI {M:Nat→Prop}{w:World}{v:Value}{l:List an}(h:ae M w v l){i:Nat}{k n:Int}{s:ByteArray}{ll:List an}(hx:l[i]? =some (.mk k n s ll)):∃b off cap a c,v= .slice (some ⟨b,off,none⟩) l.length cap∧b<w.heap.size∧¬M b∧ae M w (.slice a ll.length c) ll∧s.size≤maxLen∧w.cell? ⟨b,off+i*4,none⟩=some (.int .i64 k)∧w.cell? ⟨b,off+i*4+1,none⟩=some (.int .i64 n)∧w.cell? ⟨b,off+i*4+2,none⟩=some (.string s)∧w.cell? ⟨b,off+i*4+3,none⟩=some (.slice a ll.length c):=by
 obtain⟨a,cap,rfl,hl,_,hc⟩:=h.open_
 have hk:=(List.getElem?_eq_some_iff.1 hx).1
 obtain⟨b,off,rfl,hM,hb,aC⟩:=hc (by omega)
 obtain⟨cs,hr,bE⟩:=aC i _ hx
 obtain⟨av,rfl,hs,cB⟩:=bS.iff.1 hr
 have iJ:=hs
 obtain⟨a,c,rfl,_⟩:=iJ.open_
 exact⟨b,off,cap,a,c,rfl,hb,hM,hs,cB,bE 0 _ rfl,bE 1 _ rfl,bE 2 _ rfl,bE 3 _ rfl⟩
theorem uJ {M:Nat→Prop}{w:World}{k n:Int}{s:ByteArray}{l:List an}{a:Option Addr}{cap:Nat}(h:ae M w (.slice a l.length cap) l)(hs:s.size≤maxLen):bI M w (.agg #[.int .i64 k, .int .i64 n, .string s, .slice a l.length cap]) (an.mk k n s l):=⟨_,rfl,bS.iff.2 ⟨_,rfl,h,hs⟩⟩
theorem DS:∀(N:Nat)(e:an),dA e≤N→∀(w0:World),Tb w0→∀(M:Nat→Prop)(w:World)(v:Value)(q b:Nat)(n depth:Int),bI M w v e→fX e=true→nV w0 w M q b n→1≤depth→depth+ju e≤9→0≤n→n+dA e≤40→
 Calls Tryz.prog 219 #[.pointer (some ⟨q,0,none⟩),v, .int .i64 depth] w fun e' w'=>e'= .returned (.bool true)∧w'.heap[q]? =some (ON b (n+dA e))∧ag (fun i=>i=q) w w':=by
 intro N
 induction N with
 |zero=>intro e he;have:=qR e;omega
 |succ N ih=>
  intro e he w0 hT M w v q b n depth ek zy Ps Ql hd vG hn
  obtain⟨k,en,s,l⟩:=e
  obtain⟨a,cap,rfl,aU⟩:=dH ek
  have iD:s.size≤maxLen:=by obtain⟨cs,_,hr⟩:=ek;obtain⟨_,_,_,h⟩:=bS.iff.1 hr;exact h
  simp only[fX,Bool.and_eq_true]at zy
  obtain⟨wh,wi⟩:=zy
  have cB:s.size≤200:=by have:=tL wh;rw[aP]at this;exact this
  simp only[dA]at he hn
  simp only[ju]at hd
  have U5:l.length≤cap∧cap≤9223372036854775807:=by obtain⟨_,_,e,h1,h2,_⟩:=aU.open_;cases e;exact⟨h1,h2⟩
  obtain⟨Lx,Ly⟩:=U5
  have ZB:l.length≤40:=by have:=oG l;omega
  have U6:=Ps.lt
  have hqn:q≠w.heap.size:=by omega
  obtain⟨r0,r1⟩:=af Ps.blk
  have f1:=aa Ps.blk 1
  have hd8:¬depth>8:=by omega
  have qc1:¬n+1>40:=by omega
  obtain⟨W1,ib⟩:∃W1:World,W1=(w.setCell ⟨q,1,none⟩ (.int .i64 (n+1))).alloc (.cells #[.int .i64 k, .int .i64 en, .string s, .slice a l.length cap] 232):=⟨_,rfl⟩
  have nh:Hid (ag (fun i=>i=q) w W1):=(show ag _ _ _ by rw[ib];exact((ag.refl (fun i=>i=q) w).setCell (p:=⟨q,1,none⟩) (.inl rfl) _).alloc _)
  have nM:Hid (nV w0 W1 M q b (n+1)):=(show nV _ _ _ _ _ _ from Ps.DR nh.out (by
   rw[ib]
   have h1:=heap_setCell_same w q 1 _ _ (.int .i64 (n+1)) Ps.blk
   refine(Below.heap_alloc _ _ q (by simpa [World.setCell]using U6)).trans ?_
   simpa [ON]using h1))
  have gZ:Hid (W1.heap[w.heap.size]? =some (.cells #[.int .i64 k, .int .i64 en, .string s, .slice a l.length cap] 232 (0,0))):=(show _=_ by
   rw[ib]
   have h1:=heap_alloc_new (w.setCell ⟨q,1,none⟩ (.int .i64 (n+1))) (.cells #[.int .i64 k, .int .i64 en, .string s, .slice a l.length cap] 232)
   rw[show(w.setCell ⟨q,1,none⟩ (.int .i64 (n+1))).heap.size=w.heap.size by simp[World.setCell]]at h1
   exact h1)
  have pd:Hid (ae M W1 (.slice a l.length cap) l):=(show _ from aU.ev (FB Ps.mq nh.out))
  have EV:=hD (Km M W1 q b (n+1) k en s l _ pd.out cB wh nM.out.blk nM.out.binds (hT.below nM.out.low))
  obtain⟨p0,p1⟩:=af nM.out.blk
  obtain⟨x0,x1,x2,x3⟩:=ab gZ.out
  have HIH:Hid (∀e,dA e≤N→∀(M:Nat→Prop)(w:World)(v:Value)(b:Nat)(n depth:Int),bI M w v e→fX e=true→nV w0 w M q b n→1≤depth→depth+ju e≤9→0≤n→n+dA e≤40→_):=(show∀e,_→∀(M:Nat→Prop)(w:World)(v:Value)(b:Nat)(n depth:Int),_→_→_→_→_→_→_→_ from fun e he M w v b n depth=>ih e he w0 hT M w v q b n depth)
  have eM:=hD aU
  have HMQ:Hid (M q):=(show _ from Ps.mq)
  have e0:(dA (.mk k en s l):Int)=cI l+1:=by simp[dA]
  rw[e0]
  have ve:=hD wi;clear wi
  clear ih hT ek aU iD wh e0 Ps
  go_enter Tryz.func219,Tryz.ntmps219
  go_wp2_with fail
  rw[←ib]
  clear ib
  refine(EV.out).mono ?_
  rintro e w2⟨rfl,aM⟩
  have Mv:=hD (nM.out.below aM)
  have wj:Hid (ag (fun i=>i=q) w w2):=(show ag _ _ _ from nh.out.trans (ag.aj aM))
  obtain⟨y0,y1,y2,y3⟩:=ab ((aM.block w.heap.size (Array.getElem?_eq_some_iff.1 gZ.out).1).trans gZ.out)
  clear aM p0 p1 x0 x1 x2 x3 r0 r1 f1
  go_wp2_with fail
  go_loopg [8,34]l.length(fun g _ iv wr=>∃i:Nat,i≤l.length∧g=l.length-i∧iv= .int .i64 i∧Hid (nV w0 wr M q b (n+1+cI (l.take i)))∧Hid (ag (fun i=>i=q) w wr))
  case atStart=>exact⟨0,Nat.zero_le _,rfl,rfl,(show nV _ _ _ _ _ _ by simpa [cI]using Mv.out),wj⟩
  case round=>
   obtain⟨i,hi,rfl,rfl,HK,HO⟩:=hrel
   by_cases aT:i<l.length
   ·obtain⟨⟨xk,xn,xs,xl⟩,hx⟩:∃x,l[i]? =some x:=⟨_,List.getElem?_eq_getElem aT⟩
    obtain⟨bl,off,dE,a',c',hv,bZ,xW,fH,Wu,q0,q1,q2,q3⟩:=uI (eM.out.ev (FB HMQ.out HO.out)) hx
    obtain⟨rfl,rfl⟩:a=some ⟨bl,off,none⟩∧cap=dE:=by simpa using hv
    obtain⟨g1,g2,g3⟩:=qQ hx
    have g4:=mD hx
    have g5:=nu l (i+1)
    have aS:=hD (fun o=>HIH.out (.mk xk xn xs xl) (by omega) M (wr.alloc o) (.agg #[.int .i64 xk, .int .i64 xn, .string xs, .slice a' xl.length c']) b (n+1+cI (l.take i)) (depth+1) (uJ (fH.below ((Below.refl _ _).alloc (Nat.le_refl _) o)) Wu) (g3 ve.out) (HK.out.below ((Below.refl _ _).alloc (Nat.le_refl _) o)) (by omega) (by omega) (by omega) (by omega))
    have ZC:Hid (n+1+(cI (l.take i):Int)+(dA (.mk xk xn xs xl):Int)=n+1+(cI (l.take (i+1)):Int)):=(show _=_ by rw[g4];omega)
    clear hv xW fH Wu g1 g2 g3 g4 g5 hx
    go_wp2_with fail
    refine(aS.out _).mono ?_
    rintro e w3⟨rfl,bP,pq⟩
    have FR:Hid (nV w0 w3 M q b (n+1+cI (l.take (i+1)))):=(show nV _ _ _ _ _ _ by rw[←ZC.out];exact(HK.out.below ((Below.refl _ _).alloc (Nat.le_refl _) _)).DR pq bP)
    have sB:Hid (ag (fun i=>i=q) w w3):=(show ag _ _ _ from(HO.out.alloc _).trans pq)
    clear bP pq
    go_wp2_with fail
    go_roundg(l.length-(i+1))
    case measure=>omega
    case rel=>exact⟨i+1,by omega,rfl,by go_num,FR,sB⟩
   ·go_wp2_with fail
    go_ret
    refine⟨rfl,?_,HO.out⟩
    have h1:=HK.out.blk
    rw[List.take_of_length_le (by omega)]at h1
    rw[show n+((cI l:Int)+1)=n+1+cI l from by omega]
    exact h1
theorem xB(e:an)(hn:fX e=true)(hd:ju e≤8)(hs:dA e≤40)(M:Nat→Prop)(w:World)(v:Value)(hM:Bd M w)(ek:bI M w v e)(hT:Tb w):
 Calls Tryz.prog 198 #[v] w fun e' w'=>e'= .returned (.bool true)∧Below w.heap.size w w':=by
 obtain⟨k,en,s,l⟩:=e
 obtain⟨a,cap,rfl,aU⟩:=dH ek
 have HR:Hid (∀(w1:World)(b q:Nat),Below w.heap.size w w1→dK w1 b→w1.heap[q]? =some (ON b 0)→w.heap.size≤q→b≠q→Calls Tryz.prog 219 #[.pointer (some ⟨q,0,none⟩), .agg #[.int .i64 k, .int .i64 en, .string s, .slice a l.length cap], .int .i64 1] w1 fun e' w'=>e'= .returned (.bool true)∧w'.heap[q]? =some (ON b (0+dA (.mk k en s l)))∧ag (fun i=>i=q) w1 w'):=(show∀(w1:World)(b q:Nat),_→_→_→_→_→_ from fun w1 b q hb hB hq U6 hne=>
  DS _ (.mk k en s l) (Nat.le_refl _) w hT (orM M q) w1 _ q b 0 1 (ek.ev ⟨ag.aj hb,fun i hi=>hi.imp_right fun e=>by omega⟩) hn ⟨hq,hB,hb,U6,hne, .inr rfl⟩ (by omega) (by omega) (by omega) (by omega))
 clear ek aU hn hT
 go_enter Tryz.func198,Tryz.ntmps198
 go_wp2_with fail
 refine(rZ _).mono ?_
 rintro e w1⟨b,rfl,hB,Pt,aw⟩
 obtain⟨g0,g1,g2,g3⟩:=ab (boxed aw)
 have HX:=hD (boxed aw)
 have s1:=aw.size
 simp only[World.size_alloc]at s1 Pt
 have aO:=hD (aL aw)
 have EI:=hD hB
 have bZ:b<w1.heap.size:=(Array.getElem?_eq_some_iff.1 hB).1
 have hne:b≠w1.heap.size:=by omega
 clear hB aw
 have hwn:w.heap.size≠w1.heap.size:=by omega
 have g0':=fun o=>bF w1 o _ g0
 have g1':=fun o=>bF w1 o _ g1
 have g2':=fun o=>bF w1 o _ g2
 have g3':=fun o=>bF w1 o _ g3
 go_wp2_with fail
 refine(HR.out (w1.alloc (.cells #[.map (some b), .int .i64 0] 315)) b w1.heap.size (by exact aO.out.alloc aO.out.size _) (by exact EI.out.below ((Below.refl _ _).alloc (Nat.le_refl _) _)) (by exact heap_alloc_new w1 (ON b 0)) aO.out.size hne).mono ?_
 rintro e w2⟨rfl,_,ho⟩
 have HO:=hD ho
 clear ho
 go_wp2_with fail
 go_ret
 exact⟨rfl,lH (aO.out.alloc aO.out.size _) HO.out aO.out.size⟩
theorem Tn {l:List Value}{o:Nat}{a b:Value}(h:o+2≤l.length):((l.set o a).set (o+1) b).take (o+2)=l.take o++[a,b]:=by
 apply List.ext_getElem?
 intro i
 rw[List.getElem?_take,List.getElem?_append]
 have hl:(l.take o).length=o:=by simp;omega
 rw[hl]
 by_cases h1:i<o
 ·rw[if_pos (by omega),if_pos h1]
  rw[List.getElem?_set_ne (by omega),List.getElem?_set_ne (by omega),List.getElem?_take,if_pos h1]
 ·rw[if_neg h1]
  by_cases h2:i<o+2
  ·rw[if_pos h2]
   have:i=o∨i=o+1:=by omega
   rcases this with rfl|rfl
   ·rw[List.getElem?_set_ne (by omega),List.getElem?_set_self (by omega)];simp
   ·rw[List.getElem?_set_self (by simp;omega)];simp
  ·rw[if_neg h2]
   rw[List.getElem?_eq_none (by simp;omega)]
theorem dp.Kx {α:Type} [az α](h4:az.size α=2){M:Nat→Prop}{B:Nat}{t:TypeId}{w:World}{n k:Nat}{xs:List α}(h:dp M B t w n xs)(hk:xs.length=k)(hn:k<n){x:α}{a b:Value}(hx:az.rep (orM M B) w [a,b] x):
 dp M B t ((w.setCell ⟨B,k*2,none⟩ a).setCell ⟨B,k*2+1,none⟩ b) n (xs++[x]):=by
 obtain⟨cur,css,h1,h2,h3,h5,h6,h7⟩:=h
 subst hk
 rw[h4]at h2 h6
 have E:Ev (orM M B) w (orM M B) ((w.setCell ⟨B,xs.length*2,none⟩ a).setCell ⟨B,xs.length*2+1,none⟩ b):=
  ((Ev.refl _ w).setCell (.inl (.inr rfl)) a).setCell (.inl (.inr rfl)) b
 have hh:=heap_setCell_same _ B (xs.length*2+1) _ _ b (heap_setCell_same _ B (xs.length*2) _ _ a h1)
 refine⟨_,css++[[a,b]],hh,by rw[h4];simp[h2],by simp;omega,by simp[h5],?_,fun i cs y hc hy=> ?_⟩
 ·rw[h4]
  simp only[List.flatten_append,List.flatten_cons,List.flatten_nil,List.append_nil,List.length_append,List.length_cons,List.length_nil,h6,Array.toList_setIfInBounds]
  rw[show(xs.length+(0+1))*2=xs.length*2+2 from by omega]
  rw[Tn (by simp[h2];omega)]
 ·by_cases hi:i<css.length
  ·rw[List.getElem?_append_left hi]at hc
   rw[List.getElem?_append_left (by omega)]at hy
   exact az.ev (h7 i cs y hc hy) E
  ·rw[List.getElem?_append_right (by omega)]at hc
   rw[List.getElem?_append_right (by omega)]at hy
   rw[h5]at hc
   have h0:i-xs.length=0:=by
    cases hq:i-xs.length with
    |zero=>rfl
    |succ q=>rw[hq]at hc;simp at hc
   rw[h0]at hc hy;simp at hc hy;subst hc hy
   exact az.ev hx E
theorem Hp:(Tryz.prog.info? 140).map (fun i=>(i.zero,i.size,i.bytes))=some (some (.agg #[.int .i64 0, .int .i64 0]),2,16):=by kernel_rfl
structure nW(N:Nat→Prop)(c:ai)(vs:List au)(b bm:Nat)(w:World):Prop where
 box:∃fa fc vv,w.heap[b]? =some (.cells #[.string c.name, .slice fa c.fields.length fc,vv, .map (some bm)] 297 (0,0))∧ae N w (.slice fa c.fields.length fc) c.fields∧ae N w vv vs
 calls:ej w bm
theorem nW.below {N:Nat→Prop}{c:ai}{vs:List au}{b bm:Nat}{w w':World}(h:nW N c vs b bm w)(k:Below w.heap.size w w'):nW N c vs b bm w':=by
 obtain⟨⟨fa,fc,vv,h1,h2,h3⟩,h4⟩:=h
 exact⟨⟨fa,fc,vv,(k.block b (Array.getElem?_eq_some_iff.1 h1).1).trans h1,h2.below k,h3.below k⟩,h4.below k⟩
def qi(c:ai)(e:an)(t:aJ):Prop:=∀(M N:Nat→Prop)(w:World)(v:Value)(b bm:Nat)(vs:List au),bI M w v e→nW N c vs b bm w→
 Calls Tryz.prog 200 #[.pointer (some ⟨b,0,none⟩),v] w fun ε w'=>ε= .returned (.tuple #[.agg #[.int .i64 t.kind, .int .i64 t.of], .bool true])∧Below w.heap.size w w'
def iP:List (ByteArray×Int×List Int):=[(⟨#[108,101,110]⟩,1,[2]),(⟨#[108,101,102,116]⟩,2,[2,1]),(⟨#[102,114,111,109]⟩,2,[2,1]),(⟨#[102,105,110,100]⟩,1,[2,2]),(⟨#[116,101,120,116]⟩,2,[1])]
theorem D4 {w:World}{bm:Nat}(h:ej w bm){s:ByteArray}{k:Int}{ks:List Int}(hm:(s,k,ks)∈iP):∃v f,fW (fun i=>i≤bm) w v k ks∧∀W,W.heap[bm]? =w.heap[bm]?→(Instr.lookup 294 (.map (some bm)) (.string s) false).run Tryz.prog W= .ok (er v f) W:=by
 obtain⟨es,clk,h0,⟨v1,a1,t1⟩,⟨v2,a2,t2⟩,⟨v3,a3,t3⟩,⟨v4,a4,t4⟩,⟨v5,a5,t5⟩,h6⟩:=h
 simp only[iP,List.mem_cons,List.not_mem_nil,or_false,Prod.mk.injEq]at hm
 rcases hm with⟨rfl,rfl,rfl⟩|⟨rfl,rfl,rfl⟩|⟨rfl,rfl,rfl⟩|⟨rfl,rfl,rfl⟩|⟨rfl,rfl,rfl⟩
 ·exact⟨v1,_,t1,fun W hW=>eu (show bq _ _ _ _ _ from hW.trans h0) _ _ a1⟩
 ·exact⟨v2,_,t2,fun W hW=>eu (show bq _ _ _ _ _ from hW.trans h0) _ _ a2⟩
 ·exact⟨v3,_,t3,fun W hW=>eu (show bq _ _ _ _ _ from hW.trans h0) _ _ a3⟩
 ·exact⟨v4,_,t4,fun W hW=>eu (show bq _ _ _ _ _ from hW.trans h0) _ _ a4⟩
 ·exact⟨v5,_,t5,fun W hW=>eu (show bq _ _ _ _ _ from hW.trans h0) _ _ a5⟩
theorem FG {w:World}{bm:Nat}(h:ej w bm):∀W,W.heap[bm]? =w.heap[bm]?→(Instr.lookup 294 (.map (some bm)) (.string ⟨#[105,102]⟩) false).run Tryz.prog W= .ok (er (.func (.func 235) #[] #[]) 236) W:=by
 obtain⟨es,clk,h0,_,_,_,_,_,h6⟩:=h
 exact fun W hW=>eu (show bq _ _ _ _ _ from hW.trans h0) _ _ h6
inductive qj(c:ai):Int→ByteArray→List aJ→aJ→Prop
 |num(s:ByteArray):qj c 1 s [] ⟨1,0⟩
 |txt(s:ByteArray):qj c 2 s [] ⟨2,0⟩
 |fld(f:ak)(i:Nat):fieldAt c f.name=i→c.fields[i]? =some f→qj c 3 f.name [] f.type
 |ari(s:ByteArray):s=⟨#[42]⟩∨s=⟨#[45]⟩∨s=⟨#[47]⟩→qj c 4 s [⟨1,0⟩,⟨1,0⟩] ⟨1,0⟩
 |cat:qj c 4 ⟨#[38]⟩ [⟨2,0⟩,⟨2,0⟩] ⟨2,0⟩
 |cmp(s:ByteArray):s=⟨#[61]⟩∨s=⟨#[62]⟩→qj c 4 s [⟨1,0⟩,⟨1,0⟩] ⟨1,0⟩
 |call(s:ByteArray)(k:Int)(ts:List aJ):(s,k,ts.map (·.kind))∈iP→qj c 6 s ts ⟨k,0⟩
 |ite(p:Int):p=1∨p=2→qj c 6 ⟨#[105,102]⟩ [⟨1,0⟩,⟨p,0⟩,⟨p,0⟩] ⟨p,0⟩
def BA(k n:Int)(s:ByteArray)(v:Value):Obj:= .cells #[.int .i64 k, .int .i64 n, .string s,v] 232 (0,0)
theorem FH {M:Nat→Prop}{w:World}{v:Value}{l:List an}(h:ae M w v l){i:Nat}{k n:Int}{s:ByteArray}{ll:List an}(hx:l[i]? =some (.mk k n s ll)):∃b off cap a c,v= .slice (some ⟨b,off,none⟩) l.length cap∧b<w.heap.size∧∀W,Below w.heap.size w W→(W.cell? ⟨b,off+i*4,none⟩=some (.int .i64 k)∧W.cell? ⟨b,off+i*4+1,none⟩=some (.int .i64 n)∧W.cell? ⟨b,off+i*4+2,none⟩=some (.string s)∧W.cell? ⟨b,off+i*4+3,none⟩=some (.slice a ll.length c))∧bI M W (.agg #[.int .i64 k, .int .i64 n, .string s, .slice a ll.length c]) (an.mk k n s ll):=by
 obtain⟨b,off,cap,a,c,h1,h2,_,h4,h5,h6,h7,h8,h9⟩:=uI h hx
 exact⟨b,off,cap,a,c,h1,h2,fun W hB=>⟨⟨(hB.cell (p:=⟨b,off+i*4,none⟩) h2).trans h6,(hB.cell (p:=⟨b,off+i*4+1,none⟩) h2).trans h7,(hB.cell (p:=⟨b,off+i*4+2,none⟩) h2).trans h8,(hB.cell (p:=⟨b,off+i*4+3,none⟩) h2).trans h9⟩,uJ (h4.below hB) h5⟩⟩
theorem cV(c:ai)(eU:c.name.size≤maxLen)(k n:Int)(s:ByteArray)(l:List an)(ts:List aJ)(t:aJ)(Iu:ts.length≤3)(LZ:l.length=ts.length)(L1:∀(i:Nat)(x:an)(u:aJ),l[i]? =some x→ts[i]? =some u→qi c x u)(Cs:qj c k s ts t):qi c (.mk k n s l) t:=by
 intro M N w v b bm vs ek zx
 obtain⟨cs,rfl,bw⟩:=ek
 obtain⟨lv,rfl,aU,iD⟩:=bS.iff.1 bw
 obtain⟨i0,dF,dM,db,dL⟩:=info_parts Hp
 have pr:Hid (∀W,Below w.heap.size w W→nW N c vs b bm W):=(show∀W,_→_ from fun W hb=>zx.below hb)
 have HK:Hid (∀(i:Nat)(k n:Int)(s:ByteArray)(ll:List an),l[i]? =some (an.mk k n s ll)→_):=(show∀(i:Nat)(k n:Int)(s:ByteArray)(ll:List an),_→_ from fun i k n s ll hx=>FH aU hx)
 have aS:Hid (∀(i:Nat)(x:an)(u:aJ)(W:World)(v:Value),l[i]? =some x→ts[i]? =some u→Below w.heap.size w W→bI M W v x→_):=(show∀(i:Nat)(x:an)(u:aJ)(W:World)(v:Value),_→_→_→_→_ from fun i x u W v h1 h2 h3 h4=>L1 i x u h1 h2 M N W v b bm vs h4 (zx.below h3))
 have Pt:b<w.heap.size:=by
  obtain⟨⟨fa,fc,vv,h1,_⟩,_⟩:=zx
  exact(Array.getElem?_eq_some_iff.1 h1).1
 have Oq:bm<w.heap.size:=by
  obtain⟨_,es,clk,h0,_⟩:=zx
  exact(Array.getElem?_eq_some_iff.1 h0).1
 have EV:=hD Cs
 obtain⟨la,lc,rfl,EK,ZY,_⟩:=aU.open_
 have Qq:Hid (ts.length=ts.length):=(show _=_ from rfl)
 generalize SI:ts.length=m at*
 have dZ:=hD LZ
 rw[LZ]at EK HK⊢
 obtain⟨cur,Cc,bE⟩:=pZ (P:=Tryz.prog) ((w.alloc (BA k n s (.slice la m lc))).alloc (Cx 0 0)) 326 140 i0 _ Tryz.underlying326 dF dM m (by omega) (by omega)
 have sO:=hD SI
 clear zx bw aU L1 Cs LZ SI Qq
 have lR:Hid (Bx w [BA k n s (.slice la m lc),Cx 0 0] (((w.alloc (BA k n s (.slice la m lc))).alloc (Cx 0 0)).alloc (.cells cur 140))):=(show Bx _ _ _ from(Bx.eO w _ _).alloc _)
 have Oe:Hid (dp (α:=aJ) (fun _=>False) (w.heap.size+1+1) 140 (((w.alloc (BA k n s (.slice la m lc))).alloc (Cx 0 0)).alloc (.cells cur 140)) m []):=(show dp _ _ _ _ _ _ from dp.made cur ((Bx.fB w _ _ _).df rfl) (by rw[bE,db];rfl))
 clear bE
 rw[show((w.alloc (BA k n s (.slice la m lc))).alloc (Cx 0 0)).heap.size=w.heap.size+1+1 from by simp]at Cc
 unfold BA Cx at Cc lR Oe
 go_enter Tryz.func200,Tryz.ntmps200
 go_wp2_with fail
 go_loopg [7,8,9,10,20]m(fun g _ _ _ _ iv wr=>∃i:Nat,i≤m∧g=m-i∧iv= .int .i64 i∧Hid (Bx w [BA k n s (.slice la m lc),Cx 0 0] wr)∧Hid (dp (α:=aJ) (fun _=>False) (w.heap.size+1+1) 140 wr m (ts.take i)))
 case atStart=>exact⟨0,Nat.zero_le _,rfl,rfl,lR,Oe⟩
 case round=>
  obtain⟨i,hi,rfl,rfl,HB,HA⟩:=hrel
  have cB:=HB.out.b8
  simp only[List.length_cons,List.length_nil]at cB
  have ZZ:w.heap.size+1+1<wr.heap.size:=HA.out.lt
  by_cases aT:i<m
  ·obtain⟨⟨xk,xn,xs,xl⟩,hx⟩:∃x,l[i]? =some x:=⟨_,List.getElem?_eq_getElem (by rw[dZ.out];exact aT)⟩
   obtain⟨⟨uk,uo⟩,hu⟩:∃u,ts[i]? =some u:=⟨_,List.getElem?_eq_getElem (by rw[sO.out];exact aT)⟩
   obtain⟨bk,off,cap,xa,xc,hv,Ob,ao⟩:=HK.out i _ _ _ _ hx
   obtain⟨rfl,rfl⟩:la=some ⟨bk,off,none⟩∧lc=cap:=by simpa using hv
   obtain⟨⟨q0,q1,q2,q3⟩,_⟩:=ao wr HB.out.1
   have oW:=hD (fun o=>aS.out i _ _ (wr.alloc o) _ hx hu (HB.out.1.alloc HB.out.1.size o) (ao (wr.alloc o) (HB.out.1.alloc HB.out.1.size o)).2)
   have nf:Hid (ts.take (i+1)=ts.take i++[⟨uk,uo⟩]):=(show _=_ by rw[List.take_add_one,hu];rfl)
   have IN:Hid ((ts.take i).length=i):=(show _=_ by have:=sO.out;rw[List.length_take];omega)
   clear hv ao hx hu
   go_wp2_with fail
   refine(oW.out _).mono ?_
   rintro e w1⟨rfl,aw⟩
   have aO:=hD (HB.out.below (aL aw))
   have lS:=hD (HA.out.below (aL aw))
   have Z0:=lS.out.lt
   clear aw
   have WR:i*2+1<m*2:=by omega
   obtain⟨u0,p0,f0⟩:=lS.out.cell (j:=i*2) (by show _<m*2;omega)
   obtain⟨u1,p1,f1⟩:=lS.out.cell (j:=i*2+1) (by show _<m*2;omega)
   go_wp2_with fail
   go_roundg(m-(i+1))
   case measure=>omega
   case rel=>
    refine⟨i+1,by omega,rfl,by go_num,?_,?_⟩
    ·exact(show Bx _ _ _ from(aO.out.cJ (B:=w.heap.size+2) (((Below.refl _ _).setCell (by simp) _).setCell (by simp) _) (by simp)).alloc _)
    ·exact(show dp _ _ _ _ _ _ by rw[nf.out];exact(lS.out.Kx rfl IN.out aT rfl).below ((Below.refl _ _).alloc (Nat.le_refl _) _))
  ·have my:Hid (ae (fun _=>False) wr (.slice (some ⟨w.heap.size+1+1,0,none⟩) m m) ts):=(show ae _ _ _ _ by
    have h1:=HA.out
    rw[List.take_of_length_le (by rw[sO.out];omega)]at h1
    exact h1.slice sO.out (fun h=>h) (by unfold maxLen;omega))
   obtain⟨e0,e1,e2,e3⟩:=ab (HB.out.bJ rfl)
   obtain⟨c0,c1⟩:=af (HB.out.bh rfl)
   have f0:=aa (HB.out.bh rfl) 0
   have f1:=aa (HB.out.bh rfl) 1
   clear HA
   cases EV.out with
   |num s=>
    go_wp2_with fail
    refine bodyPost_ret (v:= .tuple #[.agg #[.int .i64 1, .int .i64 0], .bool true]) (by simp[results,Tryz.results200,go_sem,c0,c1]) rfl ⟨rfl,?_⟩
    exact(HB.out.1.setCell (by simp) _).setCell (by simp) _
   |txt s=>
    go_wp2_with fail
    refine bodyPost_ret (v:= .tuple #[.agg #[.int .i64 2, .int .i64 0], .bool true]) (by simp[results,Tryz.results200,go_sem,c0,c1]) rfl ⟨rfl,?_⟩
    exact(HB.out.1.setCell (by simp) _).setCell (by simp) _
   |fld f i Px IX=>
    have Vf:=pr.out w (Below.refl _ _)
    obtain⟨⟨fa,fc,vv,kr,bz,_⟩,_⟩:=Vf
    have cQ:Hid (∀W,Below w.heap.size w W→W.heap[b]? =some (.cells #[.string c.name, .slice fa c.fields.length fc,vv, .map (some bm)] 297 (0,0))):=(show∀W,_→_ from fun W hb=>(hb.block b Pt).trans kr)
    have QM:Hid (∀W,Below w.heap.size w W→Calls Tryz.prog 125 #[.agg #[.string c.name, .slice fa c.fields.length fc], .string f.name] W fun e w'=>e= .returned (.tuple #[.int .i64 (i:Int), .bool true])∧Below W.heap.size W w'):=(show∀W,_→_ from fun W hb=>kx N _ W c f.name i true (bz.below hb) eU (by rw[Px];rw[if_neg (by omega)]) (by rw[Px];simp))
    have N6:=hD (lA bz IX)
    obtain⟨bf,of,cf,O8,Cg,_,_⟩:=N6.out
    obtain⟨rfl,rfl⟩:fa=some ⟨bf,of,none⟩∧fc=cf:=by simpa using O8
    have WT:Hid (∀W,Below w.heap.size w W→W.cell? ⟨bf,of+i*4+1,none⟩=some (.int .i64 f.type.kind)∧W.cell? ⟨bf,of+i*4+2,none⟩=some (.int .i64 f.type.of)):=(show∀W,_→_ from fun W hb=>by
     obtain⟨b2,o2,c2,h1,_,_,h4⟩:=N6.out
     obtain⟨⟨rfl,rfl⟩,rfl⟩:(bf=b2∧of=o2)∧fc=c2:=by simpa using h1
     exact⟨(h4 W hb).2.1,(h4 W hb).2.2.1⟩)
    have xY:=(List.getElem?_eq_some_iff.1 IX).1
    obtain⟨b0,b1,b2,b3⟩:=ab (cQ.out wr HB.out.1)
    clear kr bz O8 N6 Px IX
    go_upto_region 14 with fail
    go_region_law(first
     |(go_simp
       go_at_call 125
       refine(QM.out _ HB.out.1.drew).mono ?_
       rintro e w2⟨rfl,aM⟩
       have aA:=hD (HB.out.drew.below aM)
       clear aM))
    all_goals
     obtain⟨b0,b1,b2,b3⟩:=ab (cQ.out w2 aA.out.1)
     obtain⟨q1,q2⟩:=WT.out w2 aA.out.1
     obtain⟨c0,c1⟩:=af (aA.out.bh rfl)
     have f0:=aa (aA.out.bh rfl) 0
     have f1:=aa (aA.out.bh rfl) 1
     go_wp2_with fail
     refine bodyPost_ret (v:= .tuple #[.agg #[.int .i64 f.type.kind, .int .i64 f.type.of], .bool true]) (by simp[results,Tryz.results200,go_sem,c0,c1]) rfl ⟨rfl,?_⟩
     exact(aA.out.1.setCell (by simp) _).setCell (by simp) _
   |ari s hs=>
    go_wp2_with fail
    refine(D1 s hs _).mono ?_
    rintro e w2⟨_,rfl,⟨p,q,kv,rfl,_,_,h4,h5,h6⟩,aM⟩
    have aA:=hD (HB.out.below aM)
    have Lr:=hD (rz [⟨1,0⟩,⟨1,0⟩] 1 (fun _=>False) (fun _=>False) w2 _ undef (by simp) (my.out.below aM) p q kv h4 h5 h6)
    clear h4 h5 h6 aM
    go_wp2_with fail
    refine(Lr.out).mono ?_
    rintro e w3⟨rfl,bP⟩
    have bO:=hD (aA.out.below bP)
    obtain⟨c0,c1⟩:=af (bO.out.bh rfl)
    have f0:=aa (bO.out.bh rfl) 0
    have f1:=aa (bO.out.bh rfl) 1
    clear bP
    go_wp2_with fail
    refine bodyPost_ret (v:= .tuple #[.agg #[.int .i64 1, .int .i64 0], .bool true]) (by simp[results,Tryz.results200,go_sem,c0,c1]) rfl ⟨rfl,?_⟩
    exact(bO.out.1.setCell (by simp) _).setCell (by simp) _
   |cat=>
    go_wp2_with fail
    refine(D2 _).mono ?_
    rintro e w2⟨_,rfl,⟨p,q,kv,rfl,_,_,h4,h5,h6⟩,aM⟩
    have aA:=hD (HB.out.below aM)
    have Lr:=hD (rz [⟨2,0⟩,⟨2,0⟩] 2 (fun _=>False) (fun _=>False) w2 _ undef (by simp) (my.out.below aM) p q kv h4 h5 h6)
    clear h4 h5 h6 aM
    go_wp2_with fail
    refine(Lr.out).mono ?_
    rintro e w3⟨rfl,bP⟩
    have bO:=hD (aA.out.below bP)
    obtain⟨c0,c1⟩:=af (bO.out.bh rfl)
    have f0:=aa (bO.out.bh rfl) 0
    have f1:=aa (bO.out.bh rfl) 1
    clear bP
    go_wp2_with fail
    refine bodyPost_ret (v:= .tuple #[.agg #[.int .i64 2, .int .i64 0], .bool true]) (by simp[results,Tryz.results200,go_sem,c0,c1]) rfl ⟨rfl,?_⟩
    exact(bO.out.1.setCell (by simp) _).setCell (by simp) _
   |cmp s hs=>
    go_wp2_with fail
    refine(D3 s hs _).mono ?_
    rintro e w2⟨rfl,rfl⟩
    have Lr:=hD (Kw ⟨1,0⟩ (.inl rfl) _ wr _ my.out)
    go_wp2_with fail
    refine(Lr.out).mono ?_
    rintro e w3⟨rfl,bP⟩
    have bO:=hD (HB.out.below bP)
    obtain⟨c0,c1⟩:=af (bO.out.bh rfl)
    have f0:=aa (bO.out.bh rfl) 0
    have f1:=aa (bO.out.bh rfl) 1
    clear bP
    go_wp2_with fail
    refine bodyPost_ret (v:= .tuple #[.agg #[.int .i64 1, .int .i64 0], .bool true]) (by simp[results,Tryz.results200,go_sem,c0,c1]) rfl ⟨rfl,?_⟩
    exact(bO.out.1.setCell (by simp) _).setCell (by simp) _
   |call s k ts hm=>
    obtain⟨⟨fa,fc,vv,kr,_,_⟩,jb⟩:=pr.out wr HB.out.1
    obtain⟨b0,b1,b2,b3⟩:=ab kr
    obtain⟨v,f,⟨p,q,kv,rfl,_,_,h4,h5,h6⟩,nQ⟩:=D4 jb hm
    have pg:=nQ wr.drew rfl
    have Lr:=hD (rz ts k (fun _=>False) (fun i=>i≤bm) wr.drew _ undef (by have:=sO.out;omega) (my.out.below (w':=wr.drew) ⟨rfl,rfl,rfl,Nat.le_refl _,fun _ _=>rfl⟩) p q kv h4 h5 (h6.ev ((Ev.refl _ _).drew)))
    clear h4 h5 h6 nQ kr jb hm
    unfold er at pg
    have zE:∀(v u:Value)(w:World),(Instr.field 321 (.agg #[v,u]) 0).run Tryz.prog w= .ok v w:=fun _ _ _=>by kernel_rfl
    go_upto_region 23 with fail
    go_region_law(first
     |(go_simp
       go_at_call 251
       refine(Lr.out).mono ?_
       rintro e w3⟨rfl,bP⟩
       have bO:=hD (HB.out.drew.below bP)
       clear bP
       have c0:=(af (bO.out.bh rfl)).1
       have c1:=(af (bO.out.bh rfl)).2
       have f0:=aa (bO.out.bh rfl) 0
       have f1:=aa (bO.out.bh rfl) 1))
    all_goals
     go_wp2_with fail
     refine bodyPost_ret (v:= .tuple #[.agg #[.int .i64 k, .int .i64 0], .bool true]) (by simp[results,Tryz.results200,go_sem,c0,c1]) rfl ⟨rfl,?_⟩
     exact(bO.out.1.setCell (by simp) _).setCell (by simp) _
   |ite p hp=>
    obtain⟨⟨fa,fc,vv,kr,_,_⟩,jb⟩:=pr.out wr HB.out.1
    obtain⟨b0,b1,b2,b3⟩:=ab kr
    have pg:=FG jb wr.drew rfl
    have Lr:=hD (Ho ⟨p,0⟩ hp (fun _=>False) wr.drew _ (my.out.below (w':=wr.drew) ⟨rfl,rfl,rfl,Nat.le_refl _,fun _ _=>rfl⟩))
    clear kr jb hp
    unfold er at pg
    have zE:∀(v u:Value)(w:World),(Instr.field 321 (.agg #[v,u]) 0).run Tryz.prog w= .ok v w:=fun _ _ _=>by kernel_rfl
    go_upto_region 23 with fail
    go_region_law(first
     |(go_simp
       go_at_call 235
       refine(Lr.out).mono ?_
       rintro e w3⟨rfl,bP⟩
       have bO:=hD (HB.out.drew.below bP)
       clear bP
       have c0:=(af (bO.out.bh rfl)).1
       have c1:=(af (bO.out.bh rfl)).2
       have f0:=aa (bO.out.bh rfl) 0
       have f1:=aa (bO.out.bh rfl) 1))
    all_goals
     go_wp2_with fail
     refine bodyPost_ret (v:= .tuple #[.agg #[.int .i64 p, .int .i64 0], .bool true]) (by simp[results,Tryz.results200,go_sem,c0,c1]) rfl ⟨rfl,?_⟩
     exact(bO.out.1.setCell (by simp) _).setCell (by simp) _
end Go.Proofs.YtlkjnefenialbaaGreatDoor
