/- What eval.Eval answers; no condition beyond each theorem's own. -/
import Derived.Test.YtlkjnefenialbaaGreatDoorM24
import Derived.Test.YtlkjnefenialbaaGreatDoorM34
set_option linter.unusedVariables false
set_option linter.unusedSimpArgs false
set_option maxHeartbeats 8000000
set_option maxRecDepth 100000
namespace Go.Proofs.YtlkjnefenialbaaGreatDoor
open Go.RowKit
theorem bG {B K:Nat}{w W:World}(h:Below B w W)(hK:B≤K){a0 a1 a2 a3:Value}:Below B w ((((W.setCell ⟨K,0,none⟩ a0).setCell ⟨K,1,none⟩ a1).setCell ⟨K,2,none⟩ a2).setCell ⟨K,3,none⟩ a3):=
 (((h.setCell hK _).setCell hK _).setCell hK _).setCell hK _
theorem D5(s:ByteArray)(hs:s=⟨#[42]⟩∨s=⟨#[45]⟩∨s=⟨#[47]⟩∨s=⟨#[61]⟩∨s=⟨#[62]⟩)(m n:Int)(hm:rq m)(hn:rq n)(a b:Option Addr)(c d:Nat)(w:World):
 Calls Tryz.prog 241 #[.string s, .agg #[.int .i64 1, .int .i64 m, .string ⟨#[]⟩, .slice a 0 c], .agg #[.int .i64 1, .int .i64 n, .string ⟨#[]⟩, .slice b 0 d]] w (aF w iU):=by
 have cQ:=hD (Bx.fB w (fD 1 m ⟨#[]⟩ (.slice a 0 c)) (fD 1 n ⟨#[]⟩ (.slice b 0 d)) (fD 0 0 ⟨#[]⟩ (.slice none 0 0)))
 have EN:=hD (Bx.fB w (fD 1 m ⟨#[]⟩ (.slice a 0 c)) (fD 1 (-n) ⟨#[]⟩ (.slice b 0 d)) (fD 0 0 ⟨#[]⟩ (.slice none 0 0)))
 have HP:=hD (Bv m n hm hn)
 have HQ:=hD (ze m n hm hn)
 have HH:Hid (∀s:ByteArray,s=⟨#[61]⟩∨s=⟨#[62]⟩→∀x W,Calls Tryz.prog 260 #[.string s, .int .i64 x] W (Ku W)):=(show∀s:ByteArray,_→∀x W,_ from fun s hs x W=>by
  rcases hs with rfl|rfl
  ·exact xD [61] (.inl rfl) x W
  ·exact xD [62] (.inr rfl) x W)
 obtain⟨m1,m2⟩:=hm
 obtain⟨n1,n2⟩:=hn
 have Z2:(s=⟨#[61]⟩∨s=⟨#[62]⟩)∨s=⟨#[42]⟩∨s=⟨#[45]⟩∨s=⟨#[47]⟩:=by
  rcases hs with h|h|h|h|h
  ·exact .inr (.inl h)
  ·exact .inr (.inr (.inl h))
  ·exact .inr (.inr (.inr h))
  ·exact .inl (.inl h)
  ·exact .inl (.inr h)
 rcases Z2 with h|rfl|rfl|rfl
 ·skip
  rcases h with rfl|rfl
  all_goals
   go_enter Tryz.func241,Tryz.ntmps241
   go_wp2_with fail
   refine(Bu m n _ _ _ _ _).mono ?_
   rintro e w1⟨x,rfl,aw⟩
   have aO:=hD (cQ.out.below aw)
   clear aw
   go_wp2_with fail
   refine(HH.out _ (by first|exact .inl rfl|exact .inr rfl) x _).mono ?_
   rintro e w'⟨y,rfl,rfl⟩
   cases y
   all_goals
    go_wp2_with fail
    refine(iz _ _).mono ?_
    rintro e w2⟨_,rfl,⟨z,hz,rfl⟩,aM⟩
    have aA:=hD (aO.out.below aM)
    have HZ:=hD hz
    clear aM hz
    obtain⟨c0,c1,c2,c3⟩:=ab (aA.out.df rfl)
    have f0:=aa (aA.out.df rfl) 0
    have f1:=aa (aA.out.df rfl) 1
    have f2:=aa (aA.out.df rfl) 2
    have f3:=aa (aA.out.df rfl) 3
    unfold fF
    go_wp2_with fail
    refine bodyPost_ret (v:=fF z) (by simp[results,Tryz.results241,go_sem,fF,c0,c1,c2,c3]) rfl (show aF w iU _ _ from⟨_,rfl,⟨_,HZ.out,rfl⟩,?_⟩)
    exact bG aA.out.1 (by omega)
 ·go_enter Tryz.func241,Tryz.ntmps241
  go_wp2_with fail
  refine(HP.out _).mono ?_
  rintro e w'⟨x,rfl,rfl⟩
  go_wp2_with fail
  refine(iz _ _).mono ?_
  rintro e w2⟨_,rfl,⟨z,hz,rfl⟩,aM⟩
  have aA:=hD (cQ.out.below aM)
  have HZ:=hD hz
  clear aM hz
  obtain⟨c0,c1,c2,c3⟩:=ab (aA.out.df rfl)
  have f0:=aa (aA.out.df rfl) 0
  have f1:=aa (aA.out.df rfl) 1
  have f2:=aa (aA.out.df rfl) 2
  have f3:=aa (aA.out.df rfl) 3
  unfold fF
  go_wp2_with fail
  refine bodyPost_ret (v:=fF z) (by simp[results,Tryz.results241,go_sem,fF,c0,c1,c2,c3]) rfl (show aF w iU _ _ from⟨_,rfl,⟨_,HZ.out,rfl⟩,?_⟩)
  exact bG aA.out.1 (by omega)
 ·go_enter Tryz.func241,Tryz.ntmps241
  go_wp2_with fail
  refine(iz _ _).mono ?_
  rintro e w2⟨_,rfl,⟨z,hz,rfl⟩,aM⟩
  have aA:=hD (EN.out.below aM)
  have HZ:=hD hz
  clear aM hz
  obtain⟨c0,c1,c2,c3⟩:=ab (aA.out.df rfl)
  have f0:=aa (aA.out.df rfl) 0
  have f1:=aa (aA.out.df rfl) 1
  have f2:=aa (aA.out.df rfl) 2
  have f3:=aa (aA.out.df rfl) 3
  unfold fF
  go_wp2_with fail
  refine bodyPost_ret (v:=fF z) (by simp[results,Tryz.results241,go_sem,fF,c0,c1,c2,c3]) rfl (show aF w iU _ _ from⟨_,rfl,⟨_,HZ.out,rfl⟩,?_⟩)
  exact bG aA.out.1 (by omega)
 ·go_enter Tryz.func241,Tryz.ntmps241
  go_wp2_with fail
  refine(HQ.out _).mono ?_
  rintro e w'⟨x,rfl,rfl⟩
  go_wp2_with fail
  refine(iz _ _).mono ?_
  rintro e w2⟨_,rfl,⟨z,hz,rfl⟩,aM⟩
  have aA:=hD (cQ.out.below aM)
  have HZ:=hD hz
  clear aM hz
  obtain⟨c0,c1,c2,c3⟩:=ab (aA.out.df rfl)
  have f0:=aa (aA.out.df rfl) 0
  have f1:=aa (aA.out.df rfl) 1
  have f2:=aa (aA.out.df rfl) 2
  have f3:=aa (aA.out.df rfl) 3
  unfold fF
  go_wp2_with fail
  refine bodyPost_ret (v:=fF z) (by simp[results,Tryz.results241,go_sem,fF,c0,c1,c2,c3]) rfl (show aF w iU _ _ from⟨_,rfl,⟨_,HZ.out,rfl⟩,?_⟩)
  exact bG aA.out.1 (by omega)
theorem BB(s t:ByteArray)(hs:eN s)(ht:eN t)(a b:Option Addr)(c d:Nat)(w:World):
 Calls Tryz.prog 241 #[.string ⟨#[38]⟩, .agg #[.int .i64 2, .int .i64 0, .string s, .slice a 0 c], .agg #[.int .i64 2, .int .i64 0, .string t, .slice b 0 d]] w (aF w eG):=by
 have cQ:=hD (Bx.fB w (fD 2 0 s (.slice a 0 c)) (fD 2 0 t (.slice b 0 d)) (fD 0 0 ⟨#[]⟩ (.slice none 0 0)))
 have h1:=hs.1
 have h2:=ht.1
 have HT:Hid (∀u:ByteArray,u.data.toList=s.data.toList++t.data.toList→∀W,Calls Tryz.prog 225 #[.string u] W (aF W eG)):=(show∀u:ByteArray,_→∀W,_ from fun u hu W=>pX u (by rw[hu];exact q8 hs.2 ht.2) (by have:=congrArg List.length hu;rw[List.length_append,aP,aP,aP]at this;omega) W)
 clear hs ht
 go_enter Tryz.func241,Tryz.ntmps241
 go_wp2_with fail
 refine(HT.out _ (by simp) _).mono ?_
 rintro e w2⟨_,rfl,⟨z,hz,rfl⟩,aM⟩
 have aA:=hD (cQ.out.below aM)
 have HZ:=hD hz
 clear aM hz
 obtain⟨c0,c1,c2,c3⟩:=ab (aA.out.df rfl)
 have f0:=aa (aA.out.df rfl) 0
 have f1:=aa (aA.out.df rfl) 1
 have f2:=aa (aA.out.df rfl) 2
 have f3:=aa (aA.out.df rfl) 3
 unfold fR
 go_wp2_with fail
 refine bodyPost_ret (v:=fR z) (by simp[results,Tryz.results241,go_sem,fR,c0,c1,c2,c3]) rfl (show aF w eG _ _ from⟨_,rfl,⟨_,HZ.out,rfl⟩,?_⟩)
 exact bG aA.out.1 (by omega)
def uO(c:ai)(many:Int)(e:an)(t:aJ):Prop:=∀(M N:Nat→Prop)(w:World)(v:Value)(b bm:Nat)(vs:List au),Bd N w→bI M w v e→nW N c vs b bm w→aW c.fields many vs→Gd w→
 Calls Tryz.prog 201 #[.pointer (some ⟨b,0,none⟩),v] w (aF w fun u w'=>∃x,nA c t many e vs x∧bI N w' u x)
theorem lI {many:Int}{x:au}(h:cX ⟨1,0⟩ many x):∃n,x= .mk 1 n mu []∧rq n:=by
 rcases h with⟨h,_⟩|⟨_,h⟩
 ·simp at h
 ·rcases h with⟨_,n,rfl,h1,h2⟩|⟨h,_⟩|⟨h,_⟩
  ·exact⟨n,rfl,h1,h2⟩
  ·simp at h
  ·simp at h
theorem kb {many:Int}{x:au}(h:cX ⟨2,0⟩ many x):∃s,x= .mk 2 0 s []∧eN s:=by
 rcases h with⟨h,_⟩|⟨_,h⟩
 ·simp at h
 ·rcases h with⟨h,_⟩|⟨_,s,rfl,h1⟩|⟨h,_⟩
  ·simp at h
  ·exact⟨s,rfl,h1⟩
  ·simp at h
theorem Nr(many n:Int)(h:rq n):cX ⟨1,0⟩ many (.mk 1 n mu []):= .inr ⟨by simp, .inl ⟨rfl,n,rfl,h.1,h.2⟩⟩
theorem Ns(many:Int)(s:ByteArray)(h:eN s):cX ⟨2,0⟩ many (.mk 2 0 s []):= .inr ⟨by simp, .inr (.inl ⟨rfl,s,rfl,h⟩)⟩
theorem Ky {s:ByteArray}(h:eN s):s.size≤maxLen:=by have:=h.1;unfold maxLen;omega
theorem sY {c:ai}{many:Int}{e:an}{vs:List au}{N:Nat→Prop}{w:World}{v:Value}{w':World}(he:e.kind≠3)(h:iU v w):∃x,nA c ⟨1,0⟩ many e vs x∧bI N w' v x:=by
 obtain⟨n,hn,rfl⟩:=h
 exact⟨_,⟨Nr many n hn,fun h=>absurd h he⟩,pO 1 n mu jV⟩
theorem mT {c:ai}{many:Int}{e:an}{vs:List au}{N:Nat→Prop}{w:World}{v:Value}{w':World}(he:e.kind≠3)(h:eG v w):∃x,nA c ⟨2,0⟩ many e vs x∧bI N w' v x:=by
 obtain⟨s,hs,rfl⟩:=h
 exact⟨_,⟨Ns many s hs,fun h=>absurd h he⟩,pO 2 0 s (Ky hs)⟩
theorem iQ {w:World}{bm:Nat}(h:ej w bm):
 (∃v,∀W,W.heap[bm]? =w.heap[bm]?→(Instr.lookup 294 (.map (some bm)) (.string ⟨#[108,101,110]⟩) false).run Tryz.prog W= .ok (er v 221) W)∧
 (∃v,∀W,W.heap[bm]? =w.heap[bm]?→(Instr.lookup 294 (.map (some bm)) (.string ⟨#[108,101,102,116]⟩) false).run Tryz.prog W= .ok (er v 224) W)∧
 (∃v,∀W,W.heap[bm]? =w.heap[bm]?→(Instr.lookup 294 (.map (some bm)) (.string ⟨#[102,114,111,109]⟩) false).run Tryz.prog W= .ok (er v 228) W)∧
 (∃v,∀W,W.heap[bm]? =w.heap[bm]?→(Instr.lookup 294 (.map (some bm)) (.string ⟨#[102,105,110,100]⟩) false).run Tryz.prog W= .ok (er v 229) W)∧
 (∃v,∀W,W.heap[bm]? =w.heap[bm]?→(Instr.lookup 294 (.map (some bm)) (.string ⟨#[116,101,120,116]⟩) false).run Tryz.prog W= .ok (er v 231) W):=by
 obtain⟨es,clk,h0,⟨v1,a1,t1⟩,⟨v2,a2,t2⟩,⟨v3,a3,t3⟩,⟨v4,a4,t4⟩,⟨v5,a5,t5⟩,h6⟩:=h
 exact⟨⟨v1,fun W hW=>eu (show bq _ _ _ _ _ from hW.trans h0) _ _ a1⟩,⟨v2,fun W hW=>eu (show bq _ _ _ _ _ from hW.trans h0) _ _ a2⟩,⟨v3,fun W hW=>eu (show bq _ _ _ _ _ from hW.trans h0) _ _ a3⟩,⟨v4,fun W hW=>eu (show bq _ _ _ _ _ from hW.trans h0) _ _ a4⟩,⟨v5,fun W hW=>eu (show bq _ _ _ _ _ from hW.trans h0) _ _ a5⟩⟩
inductive l8(c:ai):Int→Int→ByteArray→List aJ→aJ→Prop
 |num(n:Int)(s:ByteArray):l8 c 1 n s [] ⟨1,0⟩
 |txt(n:Int)(s:ByteArray):gp s.data.toList→s.size≤100→l8 c 2 n s [] ⟨2,0⟩
 |fld(n:Int)(f:ak)(i:Nat):fieldAt c f.name=i→c.fields[i]? =some f→l8 c 3 n f.name [] f.type
 |ari(n:Int)(s:ByteArray):s=⟨#[42]⟩∨s=⟨#[45]⟩∨s=⟨#[47]⟩∨s=⟨#[61]⟩∨s=⟨#[62]⟩→l8 c 4 n s [⟨1,0⟩,⟨1,0⟩] ⟨1,0⟩
 |cat(n:Int):l8 c 4 n ⟨#[38]⟩ [⟨2,0⟩,⟨2,0⟩] ⟨2,0⟩
 |len(n:Int):l8 c 6 n ⟨#[108,101,110]⟩ [⟨2,0⟩] ⟨1,0⟩
 |left(n:Int):l8 c 6 n ⟨#[108,101,102,116]⟩ [⟨2,0⟩,⟨1,0⟩] ⟨2,0⟩
 |from_(n:Int):l8 c 6 n ⟨#[102,114,111,109]⟩ [⟨2,0⟩,⟨1,0⟩] ⟨2,0⟩
 |find(n:Int):l8 c 6 n ⟨#[102,105,110,100]⟩ [⟨2,0⟩,⟨2,0⟩] ⟨1,0⟩
 |text(n:Int):l8 c 6 n ⟨#[116,101,120,116]⟩ [⟨1,0⟩] ⟨2,0⟩
 |ite(n p:Int):p=1∨p=2→l8 c 6 n ⟨#[105,102]⟩ [⟨1,0⟩,⟨p,0⟩,⟨p,0⟩] ⟨p,0⟩
theorem Nc {α:Type}{l:List α}(h:l.length=1):∃a,l=[a]:=List.length_eq_one_iff.1 h
theorem Kz {α:Type}{l:List α}(h:l.length=2):∃a b,l=[a,b]:=by
 match l,h with
 |[a,b],_=>exact⟨a,b,rfl⟩
theorem XZ {α:Type}{l:List α}(h:l.length=3):∃a b c,l=[a,b,c]:=by
 match l,h with
 |[a,b,c],_=>exact⟨a,b,c,rfl⟩
def FI(N:Nat→Prop)(R:Nat)(m:Nat)(many:Int)(ts:List aJ)(i:Nat)(wr:World):Prop:=
 ∃xs:List au,xs.length=i∧(∀(j:Nat)(x:au)(u:aJ),xs[j]? =some x→ts[j]? =some u→cX u many x)∧dp N R 134 wr m xs
theorem FI.below {N:Nat→Prop}{R m:Nat}{many:Int}{ts:List aJ}{i:Nat}{w w':World}(h:FI N R m many ts i w)(hb:Below w.heap.size w w'):FI N R m many ts i w':=by
 obtain⟨xs,h1,h2,h3⟩:=h
 exact⟨xs,h1,h2,h3.below hb⟩
theorem FI.lt {N:Nat→Prop}{R m:Nat}{many:Int}{ts:List aJ}{i:Nat}{w:World}(h:FI N R m many ts i w):R<w.heap.size:=by
 obtain⟨xs,h1,h2,h3⟩:=h
 exact h3.lt
theorem FI.cell {N:Nat→Prop}{R m:Nat}{many:Int}{ts:List aJ}{i:Nat}{w:World}(h:FI N R m many ts i w){j:Nat}(hj:j<m*4):∃v,w.cell? ⟨R,j,none⟩=some v∧w.frozen? ⟨R,j,none⟩=false:=by
 obtain⟨xs,h1,h2,h3⟩:=h
 exact h3.cell (j:=j) hj
theorem FI.step {N:Nat→Prop}{R m:Nat}{many:Int}{ts:List aJ}{i:Nat}{w:World}(h:FI N R m many ts i w)(hi:i<m){u:aJ}(hu:ts[i]? =some u){x:au}(hx:cX u many x){a b c d:Value}(hr:az.rep (orM N R) w [a,b,c,d] x):
 FI N R m many ts (i+1) ((((w.setCell ⟨R,i*4,none⟩ a).setCell ⟨R,i*4+1,none⟩ b).setCell ⟨R,i*4+2,none⟩ c).setCell ⟨R,i*4+3,none⟩ d):=by
 obtain⟨xs,h1,h2,h3⟩:=h
 refine⟨xs++[x],by simp[h1],fun j y v hy hv=> ?_,h3.PQ rfl h1 hi hr⟩
 by_cases hj:j<xs.length
 ·rw[List.getElem?_append_left hj]at hy
  exact h2 j y v hy hv
 ·rw[List.getElem?_append_right (by omega)]at hy
  have h0:j-xs.length=0:=by
   cases hq:j-xs.length with
   |zero=>rfl
   |succ q=>rw[hq]at hy;simp at hy
  rw[h0]at hy;simp at hy;subst hy
  have:j=i:=by omega
  subst this
  rw[hu]at hv;cases hv;exact hx
theorem nW.or {N:Nat→Prop}{c:ai}{vs:List au}{b bm R:Nat}{w w':World}(h:nW N c vs b bm w)(k:Below w.heap.size w w')(hR:w.heap.size≤R):nW (orM N R) c vs b bm w':=by
 obtain⟨⟨fa,fc,vv,h1,h2,h3⟩,h4⟩:=h
 have E:Ev N w (orM N R) w':=⟨ag.aj k,fun i hi=>hi.imp_right fun e=>by rw[e];exact hR⟩
 exact⟨⟨fa,fc,vv,(k.block b (Array.getElem?_eq_some_iff.1 h1).1).trans h1,h2.ev E,h3.ev E⟩,h4.below k⟩
theorem qk {N:Nat→Prop}{w:World}{k n:Int}{s:ByteArray}{l:List au}{a:Value}(h:bI N w a (au.mk k n s l)):s.size≤maxLen:=by
 obtain⟨cs,_,h⟩:=h
 obtain⟨_,_,_,h⟩:=eV.iff.1 h
 exact h
theorem BC {M M':Nat→Prop}{w w':World}{a:Option Addr}{c:Nat}(h:ae M w (.slice a 0 c) ([]:List au)):ae M' w' (.slice a 0 c) ([]:List au):=by
 obtain⟨css,⟨h1,a',c',h2,h3,h4,h5⟩,h6,h7⟩:=h
 cases h2
 exact⟨[],⟨rfl,a,c,rfl,h3,h4,fun h=>absurd h (by simp)⟩,rfl,fun i cs x h=>by simp at h⟩
theorem KA {p many:Int}(hp:p=1∨p=2){M M':Nat→Prop}{w w':World}{k n:Int}{s:ByteArray}{l:List au}(h:cX ⟨p,0⟩ many (.mk k n s l)){a:Option Addr}{c:Nat}(hs:ae M w (.slice a l.length c) l)(hz:s.size≤maxLen):bI M' w' (.agg #[.int .i64 k, .int .i64 n, .string s, .slice a l.length c]) (au.mk k n s l):=by
 have e:l=[]:=by
  rcases hp with rfl|rfl
  ·obtain⟨_,h,_⟩:=lI h;cases h;rfl
  ·obtain⟨_,h,_⟩:=kb h;cases h;rfl
 subst e
 exact⟨_,rfl,eV.iff.2 ⟨_,rfl,BC hs,hz⟩⟩
set_option maxHeartbeats 16000000 in
theorem dy(c:ai)(eU:c.name.size≤maxLen)(many:Int)(k n:Int)(s:ByteArray)(l:List an)(ts:List aJ)(t:aJ)(Iu:ts.length≤3)(LZ:l.length=ts.length)(L1:∀(i:Nat)(x:an)(u:aJ),l[i]? =some x→ts[i]? =some u→uO c many x u)(Cs:l8 c k n s ts t):uO c many (.mk k n s l) t:=by
 intro M N w v b bm vs hN ek zx dk hg
 obtain⟨cs,rfl,bw⟩:=ek
 obtain⟨lv,rfl,aU,iD⟩:=bS.iff.1 bw
 obtain⟨i0,dF,dM,db,dL⟩:=info_parts fN
 have HN:=hD hN
 have HG:=hD hg
 have IW:=hD dk
 have pr:Hid (∀W,Below w.heap.size w W→nW N c vs b bm W):=(show∀W,_→_ from fun W hb=>zx.below hb)
 have HK:Hid (∀(i:Nat)(k n:Int)(s:ByteArray)(ll:List an),l[i]? =some (an.mk k n s ll)→_):=(show∀(i:Nat)(k n:Int)(s:ByteArray)(ll:List an),_→_ from fun i k n s ll hx=>FH aU hx)
 have aS:Hid (∀(i:Nat)(x:an)(u:aJ)(W:World)(v:Value),l[i]? =some x→ts[i]? =some u→Below w.heap.size w W→w.heap.size+1+1<W.heap.size→bI M W v x→_):=(show∀(i:Nat)(x:an)(u:aJ)(W:World)(v:Value),_→_→_→_→_→_ from fun i x u W v h1 h2 h3 h5 h4=>L1 i x u h1 h2 M (orM N (w.heap.size+1+1)) W v b bm vs (fun j hj=>by rcases hj with hj|rfl;(have:=hN j hj;have:=h3.size;omega);exact h5) h4 (zx.or h3 (by omega)) dk (hg.below h3))
 have Pt:b<w.heap.size:=by
  obtain⟨⟨fa,fc,vv,h1,_⟩,_⟩:=zx
  exact(Array.getElem?_eq_some_iff.1 h1).1
 have Oq:bm<w.heap.size:=by
  obtain⟨_,es,clk,h0,_⟩:=zx
  exact(Array.getElem?_eq_some_iff.1 h0).1
 have EV:=hD Cs
 obtain⟨la,lc,rfl,EK,ZY,_⟩:=aU.open_
 generalize SI:ts.length=m at*
 have dZ:=hD LZ
 rw[LZ]at EK HK⊢
 obtain⟨cur,Cc,bE⟩:=pZ (P:=Tryz.prog) ((w.alloc (BA k n s (.slice la m lc))).alloc (fD 0 0 ⟨#[]⟩ (.slice none 0 0))) 54 134 i0 _ Tryz.underlying54 dF dM m (by omega) (by omega)
 have sO:=hD SI
 clear zx bw aU L1 Cs LZ SI hN hg dk
 have lR:Hid (Bx w [BA k n s (.slice la m lc),fD 0 0 ⟨#[]⟩ (.slice none 0 0)] (((w.alloc (BA k n s (.slice la m lc))).alloc (fD 0 0 ⟨#[]⟩ (.slice none 0 0))).alloc (.cells cur 134))):=(show Bx _ _ _ from(Bx.eO w _ _).alloc _)
 have Oe:Hid (FI N (w.heap.size+1+1) m many ts 0 (((w.alloc (BA k n s (.slice la m lc))).alloc (fD 0 0 ⟨#[]⟩ (.slice none 0 0))).alloc (.cells cur 134))):=(show FI _ _ _ _ _ _ _ from⟨[],rfl,fun j x u h=>by simp at h,dp.made cur ((Bx.fB w _ _ _).df rfl) (by rw[bE,db];rfl)⟩)
 clear bE
 rw[show((w.alloc (BA k n s (.slice la m lc))).alloc (fD 0 0 ⟨#[]⟩ (.slice none 0 0))).heap.size=w.heap.size+1+1 from by simp]at Cc
 unfold BA fD at Cc lR Oe
 go_enter Tryz.func201,Tryz.ntmps201
 go_wp2_with fail
 go_loopg [6,7,17]m(fun g _ _ iv wr=>∃i:Nat,i≤m∧g=m-i∧iv= .int .i64 i∧Hid (Bx w [BA k n s (.slice la m lc),fD 0 0 ⟨#[]⟩ (.slice none 0 0)] wr)∧Hid (FI N (w.heap.size+1+1) m many ts i wr))
 case atStart=>exact⟨0,Nat.zero_le _,rfl,rfl,lR,Oe⟩
 case round=>
  obtain⟨i,hi,rfl,rfl,HB,HA⟩:=hrel
  have cB:=HB.out.b8
  simp only[List.length_cons,List.length_nil]at cB
  have ZZ:w.heap.size+1+1<wr.heap.size:=HA.out.lt
  by_cases aT:i<m
  ·obtain⟨⟨xk,xn,xs,xl⟩,hx⟩:∃x,l[i]? =some x:=⟨_,List.getElem?_eq_getElem (by rw[dZ.out];exact aT)⟩
   obtain⟨u,hu⟩:∃u,ts[i]? =some u:=⟨_,List.getElem?_eq_getElem (by rw[sO.out];exact aT)⟩
   obtain⟨bk,off,cap,xa,xc,hv,Ob,ao⟩:=HK.out i _ _ _ _ hx
   obtain⟨rfl,rfl⟩:la=some ⟨bk,off,none⟩∧lc=cap:=by simpa using hv
   obtain⟨⟨q0,q1,q2,q3⟩,_⟩:=ao wr HB.out.1
   have oW:=hD (fun o=>aS.out i _ _ (wr.alloc o) _ hx hu (HB.out.1.alloc HB.out.1.size o) (by simp;omega) (ao (wr.alloc o) (HB.out.1.alloc HB.out.1.size o)).2)
   have HU:=hD hu
   clear hv ao hx hu
   go_wp2_with fail
   refine(oW.out _).mono ?_
   rintro e w1⟨_,rfl,⟨⟨yk,yn,ys,yl⟩,hy,zU⟩,aw⟩
   obtain⟨ua,uc,rfl,vL⟩:=cj zU
   have aO:=hD (HB.out.below (aL aw))
   have lS:=hD (HA.out.below (aL aw))
   have HY:=hD hy
   have HYA:Hid (az.rep (α:=au) (orM N (w.heap.size+1+1)) w1 [.int .i64 yk, .int .i64 yn, .string ys, .slice ua yl.length uc] (.mk yk yn ys yl)):=(show _ from by
    obtain⟨cs,hc,hr⟩:=zU
    have qw:=congrArg (fun v:Value=>match v with| .agg a=>a.toList|_=>[]) hc
    simp at qw
    rw[qw];exact hr)
   have Z0:=lS.out.lt
   clear aw hy zU vL
   have WR:i*4+3<m*4:=by omega
   obtain⟨u0,p0,f0⟩:=lS.out.cell (j:=i*4) (by omega)
   obtain⟨u1,p1,f1⟩:=lS.out.cell (j:=i*4+1) (by omega)
   obtain⟨u2,p2,f2⟩:=lS.out.cell (j:=i*4+2) (by omega)
   obtain⟨u3,p3,f3⟩:=lS.out.cell (j:=i*4+3) (by omega)
   go_wp2_with fail
   go_roundg(m-(i+1))
   case measure=>omega
   case rel=>
    refine⟨i+1,by omega,rfl,by go_num,?_,?_⟩
    ·exact(show Bx _ _ _ from(aO.out.cJ (B:=w.heap.size+2) (((((Below.refl _ _).setCell (by simp) _).setCell (by simp) _).setCell (by simp) _).setCell (by simp) _) (by simp)))
    ·exact(show FI _ _ _ _ _ _ _ from lS.out.step aT HU.out HY.out.1 HYA.out)
  ·have my:Hid (∃xs:List au,xs.length=m∧(∀(j:Nat)(x:au)(u:aJ),xs[j]? =some x→ts[j]? =some u→cX u many x)∧ae N wr (.slice (some ⟨w.heap.size+1+1,0,none⟩) m m) xs):=(show∃xs:List au,_ from by
    obtain⟨xs,h1,h2,h3⟩:=HA.out
    obtain rfl:i=m:=by omega
    exact⟨xs,h1,h2,h3.slice h1 (fun h=>by have:=HN.out _ h;omega) (by unfold maxLen;omega)⟩)
   obtain⟨e0,e1,e2,e3⟩:=ab (HB.out.bJ rfl)
   obtain⟨c0,c1,c2,c3⟩:=ab (HB.out.bh rfl)
   have f0:=aa (HB.out.bh rfl) 0
   have f1:=aa (HB.out.bh rfl) 1
   have f2:=aa (HB.out.bh rfl) 2
   have f3:=aa (HB.out.bh rfl) 3
   clear HA
   cases EV.out with
   |num n s=>
    go_wp2_with fail
    refine(iz _ _).mono ?_
    rintro e w2⟨_,rfl,⟨z,hz,rfl⟩,aM⟩
    have aA:=hD (HB.out.below aM)
    have HZ:=hD hz
    clear aM hz
    obtain⟨c0,c1,c2,c3⟩:=ab (aA.out.bh rfl)
    have f0:=aa (aA.out.bh rfl) 0
    have f1:=aa (aA.out.bh rfl) 1
    have f2:=aa (aA.out.bh rfl) 2
    have f3:=aa (aA.out.bh rfl) 3
    unfold fF
    go_wp2_with fail
    refine bodyPost_ret (v:=fF z) (by simp[results,Tryz.results201,go_sem,fF,c0,c1,c2,c3]) rfl ⟨_,rfl,sY (w:=w2) (by simp[an.kind]) ⟨_,HZ.out,rfl⟩,?_⟩
    exact bG aA.out.1 (by omega)
   |txt n s dc iJ=>
    go_wp2_with fail
    refine(pX s dc (by omega) _).mono ?_
    rintro e w2⟨_,rfl,⟨z,hz,rfl⟩,aM⟩
    have aA:=hD (HB.out.below aM)
    have HZ:=hD hz
    clear aM hz
    obtain⟨c0,c1,c2,c3⟩:=ab (aA.out.bh rfl)
    have f0:=aa (aA.out.bh rfl) 0
    have f1:=aa (aA.out.bh rfl) 1
    have f2:=aa (aA.out.bh rfl) 2
    have f3:=aa (aA.out.bh rfl) 3
    unfold fR
    go_wp2_with fail
    refine bodyPost_ret (v:=fR z) (by simp[results,Tryz.results201,go_sem,fR,c0,c1,c2,c3]) rfl ⟨_,rfl,mT (w:=w2) (by simp[an.kind]) ⟨_,HZ.out,rfl⟩,?_⟩
    exact bG aA.out.1 (by omega)
   |fld n f i Px IX=>
    obtain⟨⟨fa,fc,vv,kr,bz,zY⟩,_⟩:=pr.out w (Below.refl _ _)
    have cQ:Hid (∀W,Below w.heap.size w W→W.heap[b]? =some (.cells #[.string c.name, .slice fa c.fields.length fc,vv, .map (some bm)] 297 (0,0))):=(show∀W,_→_ from fun W hb=>(hb.block b Pt).trans kr)
    have QM:Hid (∀W,Below w.heap.size w W→Calls Tryz.prog 125 #[.agg #[.string c.name, .slice fa c.fields.length fc], .string f.name] W fun e w'=>e= .returned (.tuple #[.int .i64 (i:Int), .bool true])∧Below W.heap.size W w'):=(show∀W,_→_ from fun W hb=>kx N _ W c f.name i true (bz.below hb) eU (by rw[Px];rw[if_neg (by omega)]) (by rw[Px];simp))
    obtain⟨⟨xk,xn,xs,xl⟩,hx⟩:∃x,vs[i]? =some x:=⟨_,List.getElem?_eq_getElem (by rw[IW.out.1];exact(List.getElem?_eq_some_iff.1 IX).1)⟩
    obtain⟨bf,of,cf,xa,xc,rfl,xY,Cg,rH⟩:=fG zY hx
    have HCV:=hD rH
    have Vg:=hD (rH w (Below.refl _ _)).2
    have CA:Hid (xs.size≤maxLen):=(show _≤_ from(qk Vg.out))
    have N9:Hid (cX f.type many (.mk xk xn xs xl)):=(show cX _ _ _ from IW.out.2 i f _ IX hx)
    have Ot:Hid (vs[(fieldAt c f.name).toNat]? =some (.mk xk xn xs xl)):=(show _=_ by rw[Px];simpa using hx)
    have Lv:Hid (lZ 240 (.mk xk xn xs xl)):=(show lZ _ _ from pY 1 _ (lr N9.out))
    obtain⟨b0,b1,b2,b3⟩:=ab (cQ.out wr HB.out.1)
    clear kr bz zY Px IX hx rH
    go_upto_region 11 with fail
    go_region_law(first
     |(go_simp
       go_at_call 125
       refine(QM.out _ HB.out.1.drew).mono ?_
       rintro e w2⟨rfl,aM⟩
       have aA:=hD (HB.out.drew.below aM)
       clear aM))
    all_goals
     obtain⟨b0,b1,b2,b3⟩:=ab (cQ.out w2 aA.out.1)
     obtain⟨⟨q0,q1,q2,q3⟩,ek⟩:=HCV.out w2 aA.out.1
     have FV:=hD (Lv.out (eP N w 2) w2 _ (dS HN.out aA.out.b8) (Vg.out.ev (dR aA.out.1)))
     clear ek
     go_wp2_with fail
     refine(FV.out).mono ?_
     rintro e w3⟨_,rfl,hy,bP⟩
     obtain⟨ua,uc,rfl,vL⟩:=cj hy
     have bO:=hD (aA.out.below bP)
     have HY:=hD vL
     clear bP hy vL
     obtain⟨c0,c1,c2,c3⟩:=ab (bO.out.bh rfl)
     have f0:=aa (bO.out.bh rfl) 0
     have f1:=aa (bO.out.bh rfl) 1
     have f2:=aa (bO.out.bh rfl) 2
     have f3:=aa (bO.out.bh rfl) 3
     go_wp2_with fail
     refine bodyPost_ret (v:= .agg #[.int .i64 xk, .int .i64 xn, .string xs, .slice ua xl.length uc]) (by simp[results,Tryz.results201,go_sem,c0,c1,c2,c3]) rfl ⟨_,rfl,⟨.mk xk xn xs xl,⟨N9.out,fun _=>Ot.out⟩,?_⟩,?_⟩
     ·exact⟨_,rfl,gK (HY.out.ev ((((((ff w3).setCell (.inl (.inr ⟨by simp,by simp⟩)) _).setCell (.inl (.inr ⟨by simp,by simp⟩)) _).setCell (.inl (.inr ⟨by simp,by simp⟩)) _).setCell (.inl (.inr ⟨by simp,by simp⟩)) _))) CA.out⟩
     ·exact bG bO.out.1 (by omega)
   |ari n s hs=>
    obtain⟨xs,qx,pA,fH⟩:=my.out
    obtain rfl:m=2:=by simpa using sO.out.symm
    obtain⟨x0,x1,rfl⟩:=Kz qx
    obtain⟨z0,rfl,dM⟩:=lI (pA 0 _ _ rfl rfl)
    obtain⟨z1,rfl,db⟩:=lI (pA 1 _ _ rfl rfl)
    obtain⟨bp,op,cp,a0,g0,L2,_,hbp,oN⟩:=fG fH (i:=0) rfl
    obtain⟨Z3,Z4,Z5,a1,g1,Iv,_,_,gz⟩:=fG fH (i:=1) rfl
    obtain⟨⟨rfl,rfl⟩,rfl⟩:(w.heap.size+1+1=bp∧0=op)∧2=cp:=by simpa using L2
    obtain⟨⟨rfl,rfl⟩,rfl⟩:(w.heap.size+1+1=Z3∧0=Z4)∧2=Z5:=by simpa using Iv
    obtain⟨q0,q1,q2,q3⟩:=(oN wr (Below.refl _ _)).1
    obtain⟨r0,r1,r2,r3⟩:=(gz wr (Below.refl _ _)).1
    simp only[Nat.zero_mul,Nat.one_mul,Nat.add_zero,Nat.zero_add,List.length_nil]at q0 q1 q2 q3 r0 r1 r2 r3
    unfold mu at q2 r2
    clear fH pA qx L2 Iv oN gz
    have Ct:=hD (D5 s hs z0 z1 dM db a0 a1 g0 g1 wr.drew)
    clear hs
    have dF:(0:Int)<2:=by omega
    have O0:(1:Int)<2:=by omega
    go_upto_region 14 with fail
    go_region_law(first
     |(go_simp
       go_at_call 241
       refine(Ct.out).mono ?_
       rintro e w2⟨_,rfl,⟨z,hz,rfl⟩,aM⟩
       have aA:=hD (HB.out.drew.below aM)
       have HZ:=hD hz
       clear aM hz
       have c0:=(ab (aA.out.bh rfl)).1
       have c1:=(ab (aA.out.bh rfl)).2.1
       have c2:=(ab (aA.out.bh rfl)).2.2.1
       have c3:=(ab (aA.out.bh rfl)).2.2.2
       have f0:=aa (aA.out.bh rfl) 0
       have f1:=aa (aA.out.bh rfl) 1
       have f2:=aa (aA.out.bh rfl) 2
       have f3:=aa (aA.out.bh rfl) 3
       unfold fF))
    all_goals
     go_wp2_with fail
     refine bodyPost_ret (v:=fF z) (by simp[results,Tryz.results201,go_sem,fF,c0,c1,c2,c3]) rfl ⟨_,rfl,sY (w:=w2) (by simp[an.kind]) ⟨_,HZ.out,rfl⟩,?_⟩
     exact bG aA.out.1 (by omega)
   |cat n=>
    obtain⟨xs,qx,pA,fH⟩:=my.out
    obtain rfl:m=2:=by simpa using sO.out.symm
    obtain⟨x0,x1,rfl⟩:=Kz qx
    obtain⟨z0,rfl,dM⟩:=kb (pA 0 _ _ rfl rfl)
    obtain⟨z1,rfl,db⟩:=kb (pA 1 _ _ rfl rfl)
    obtain⟨bp,op,cp,a0,g0,L2,_,hbp,oN⟩:=fG fH (i:=0) rfl
    obtain⟨Z3,Z4,Z5,a1,g1,Iv,_,_,gz⟩:=fG fH (i:=1) rfl
    obtain⟨⟨rfl,rfl⟩,rfl⟩:(w.heap.size+1+1=bp∧0=op)∧2=cp:=by simpa using L2
    obtain⟨⟨rfl,rfl⟩,rfl⟩:(w.heap.size+1+1=Z3∧0=Z4)∧2=Z5:=by simpa using Iv
    obtain⟨q0,q1,q2,q3⟩:=(oN wr (Below.refl _ _)).1
    obtain⟨r0,r1,r2,r3⟩:=(gz wr (Below.refl _ _)).1
    simp only[Nat.zero_mul,Nat.one_mul,Nat.add_zero,Nat.zero_add,List.length_nil]at q0 q1 q2 q3 r0 r1 r2 r3
    clear fH pA qx L2 Iv oN gz
    have Ct:=hD (BB z0 z1 dM db a0 a1 g0 g1 wr.drew)
    go_upto_region 14 with fail
    go_region_law(first
     |(go_simp
       go_at_call 241
       refine(Ct.out).mono ?_
       rintro e w2⟨_,rfl,⟨z,hz,rfl⟩,aM⟩
       have aA:=hD (HB.out.drew.below aM)
       have HZ:=hD hz
       clear aM hz
       have c0:=(ab (aA.out.bh rfl)).1
       have c1:=(ab (aA.out.bh rfl)).2.1
       have c2:=(ab (aA.out.bh rfl)).2.2.1
       have c3:=(ab (aA.out.bh rfl)).2.2.2
       have f0:=aa (aA.out.bh rfl) 0
       have f1:=aa (aA.out.bh rfl) 1
       have f2:=aa (aA.out.bh rfl) 2
       have f3:=aa (aA.out.bh rfl) 3
       unfold fR))
    all_goals
     go_wp2_with fail
     refine bodyPost_ret (v:=fR z) (by simp[results,Tryz.results201,go_sem,fR,c0,c1,c2,c3]) rfl ⟨_,rfl,mT (w:=w2) (by simp[an.kind]) ⟨_,HZ.out,rfl⟩,?_⟩
     exact bG aA.out.1 (by omega)
   |len n=>
    obtain⟨xs,qx,pA,fH⟩:=my.out
    obtain rfl:m=1:=by simpa using sO.out.symm
    obtain⟨x0,rfl⟩:=Nc qx
    obtain⟨z0,rfl,dM⟩:=kb (pA 0 _ _ rfl rfl)
    have Ct:=hD (Nb (fH.below (w':=wr.drew) ⟨rfl,rfl,rfl,Nat.le_refl _,fun _ _=>rfl⟩) 2 0 z0 [] rfl dM)
    obtain⟨⟨fa,fc,vv,kr,_,_⟩,jb⟩:=pr.out wr HB.out.1
    obtain⟨b0,b1,b2,b3⟩:=ab kr
    obtain⟨v,nQ⟩:=(iQ jb).1
    have pg:=nQ wr.drew rfl
    clear nQ kr jb fH pA qx
    unfold er at pg
    have zE:∀(v u:Value)(w:World),(Instr.field 321 (.agg #[v,u]) 1).run Tryz.prog w= .ok u w:=fun _ _ _=>by kernel_rfl
    go_upto_region 18 with fail
    go_region_law(first
     |(go_simp
       go_at_call 221
       refine(Ct.out).mono ?_
       rintro e w2⟨_,rfl,⟨z,hz,rfl⟩,aM⟩
       have aA:=hD (HB.out.drew.below aM)
       have HZ:=hD hz
       clear aM hz
       have c0:=(ab (aA.out.bh rfl)).1
       have c1:=(ab (aA.out.bh rfl)).2.1
       have c2:=(ab (aA.out.bh rfl)).2.2.1
       have c3:=(ab (aA.out.bh rfl)).2.2.2
       have f0:=aa (aA.out.bh rfl) 0
       have f1:=aa (aA.out.bh rfl) 1
       have f2:=aa (aA.out.bh rfl) 2
       have f3:=aa (aA.out.bh rfl) 3
       unfold fF))
    all_goals
     go_wp2_with fail
     refine bodyPost_ret (v:=fF z) (by simp[results,Tryz.results201,go_sem,fF,c0,c1,c2,c3]) rfl ⟨_,rfl,sY (w:=w2) (by simp[an.kind]) ⟨_,HZ.out,rfl⟩,?_⟩
     exact bG aA.out.1 (by omega)
   |left n=>
    obtain⟨xs,qx,pA,fH⟩:=my.out
    obtain rfl:m=2:=by simpa using sO.out.symm
    obtain⟨x0,x1,rfl⟩:=Kz qx
    obtain⟨z0,rfl,dM⟩:=kb (pA 0 _ _ rfl rfl)
    obtain⟨z1,rfl,db⟩:=lI (pA 1 _ _ rfl rfl)
    have Ct:=hD (J2 (fH.below (w':=wr.drew) ⟨rfl,rfl,rfl,Nat.le_refl _,fun _ _=>rfl⟩) 2 0 z0 [] rfl 1 z1 mu [] rfl dM)
    obtain⟨⟨fa,fc,vv,kr,_,_⟩,jb⟩:=pr.out wr HB.out.1
    obtain⟨b0,b1,b2,b3⟩:=ab kr
    obtain⟨v,nQ⟩:=(iQ jb).2.1
    have pg:=nQ wr.drew rfl
    clear nQ kr jb fH pA qx
    unfold er at pg
    have zE:∀(v u:Value)(w:World),(Instr.field 321 (.agg #[v,u]) 1).run Tryz.prog w= .ok u w:=fun _ _ _=>by kernel_rfl
    go_upto_region 18 with fail
    go_region_law(first
     |(go_simp
       go_at_call 224
       refine(Ct.out).mono ?_
       rintro e w2⟨_,rfl,⟨z,hz,rfl⟩,aM⟩
       have aA:=hD (HB.out.drew.below aM)
       have HZ:=hD hz
       clear aM hz
       have c0:=(ab (aA.out.bh rfl)).1
       have c1:=(ab (aA.out.bh rfl)).2.1
       have c2:=(ab (aA.out.bh rfl)).2.2.1
       have c3:=(ab (aA.out.bh rfl)).2.2.2
       have f0:=aa (aA.out.bh rfl) 0
       have f1:=aa (aA.out.bh rfl) 1
       have f2:=aa (aA.out.bh rfl) 2
       have f3:=aa (aA.out.bh rfl) 3
       unfold fR))
    all_goals
     go_wp2_with fail
     refine bodyPost_ret (v:=fR z) (by simp[results,Tryz.results201,go_sem,fR,c0,c1,c2,c3]) rfl ⟨_,rfl,mT (w:=w2) (by simp[an.kind]) ⟨_,HZ.out,rfl⟩,?_⟩
     exact bG aA.out.1 (by omega)
   |from_ n=>
    obtain⟨xs,qx,pA,fH⟩:=my.out
    obtain rfl:m=2:=by simpa using sO.out.symm
    obtain⟨x0,x1,rfl⟩:=Kz qx
    obtain⟨z0,rfl,dM⟩:=kb (pA 0 _ _ rfl rfl)
    obtain⟨z1,rfl,db⟩:=lI (pA 1 _ _ rfl rfl)
    have Ct:=hD (J3 (fH.below (w':=wr.drew) ⟨rfl,rfl,rfl,Nat.le_refl _,fun _ _=>rfl⟩) 2 0 z0 [] rfl 1 z1 mu [] rfl dM)
    obtain⟨⟨fa,fc,vv,kr,_,_⟩,jb⟩:=pr.out wr HB.out.1
    obtain⟨b0,b1,b2,b3⟩:=ab kr
    obtain⟨v,nQ⟩:=(iQ jb).2.2.1
    have pg:=nQ wr.drew rfl
    clear nQ kr jb fH pA qx
    unfold er at pg
    have zE:∀(v u:Value)(w:World),(Instr.field 321 (.agg #[v,u]) 1).run Tryz.prog w= .ok u w:=fun _ _ _=>by kernel_rfl
    go_upto_region 18 with fail
    go_region_law(first
     |(go_simp
       go_at_call 228
       refine(Ct.out).mono ?_
       rintro e w2⟨_,rfl,⟨z,hz,rfl⟩,aM⟩
       have aA:=hD (HB.out.drew.below aM)
       have HZ:=hD hz
       clear aM hz
       have c0:=(ab (aA.out.bh rfl)).1
       have c1:=(ab (aA.out.bh rfl)).2.1
       have c2:=(ab (aA.out.bh rfl)).2.2.1
       have c3:=(ab (aA.out.bh rfl)).2.2.2
       have f0:=aa (aA.out.bh rfl) 0
       have f1:=aa (aA.out.bh rfl) 1
       have f2:=aa (aA.out.bh rfl) 2
       have f3:=aa (aA.out.bh rfl) 3
       unfold fR))
    all_goals
     go_wp2_with fail
     refine bodyPost_ret (v:=fR z) (by simp[results,Tryz.results201,go_sem,fR,c0,c1,c2,c3]) rfl ⟨_,rfl,mT (w:=w2) (by simp[an.kind]) ⟨_,HZ.out,rfl⟩,?_⟩
     exact bG aA.out.1 (by omega)
   |find n=>
    obtain⟨xs,qx,pA,fH⟩:=my.out
    obtain rfl:m=2:=by simpa using sO.out.symm
    obtain⟨x0,x1,rfl⟩:=Kz qx
    obtain⟨z0,rfl,dM⟩:=kb (pA 0 _ _ rfl rfl)
    obtain⟨z1,rfl,db⟩:=kb (pA 1 _ _ rfl rfl)
    have Ct:=hD (J4 (fH.below (w':=wr.drew) ⟨rfl,rfl,rfl,Nat.le_refl _,fun _ _=>rfl⟩) 2 0 z0 [] rfl 2 0 z1 [] rfl dM (HG.out.below HB.out.1.drew))
    obtain⟨⟨fa,fc,vv,kr,_,_⟩,jb⟩:=pr.out wr HB.out.1
    obtain⟨b0,b1,b2,b3⟩:=ab kr
    obtain⟨v,nQ⟩:=(iQ jb).2.2.2.1
    have pg:=nQ wr.drew rfl
    clear nQ kr jb fH pA qx
    unfold er at pg
    have zE:∀(v u:Value)(w:World),(Instr.field 321 (.agg #[v,u]) 1).run Tryz.prog w= .ok u w:=fun _ _ _=>by kernel_rfl
    go_upto_region 18 with fail
    go_region_law(first
     |(go_simp
       go_at_call 229
       refine(Ct.out).mono ?_
       rintro e w2⟨_,rfl,⟨z,hz,rfl⟩,aM⟩
       have aA:=hD (HB.out.drew.below aM)
       have HZ:=hD hz
       clear aM hz
       have c0:=(ab (aA.out.bh rfl)).1
       have c1:=(ab (aA.out.bh rfl)).2.1
       have c2:=(ab (aA.out.bh rfl)).2.2.1
       have c3:=(ab (aA.out.bh rfl)).2.2.2
       have f0:=aa (aA.out.bh rfl) 0
       have f1:=aa (aA.out.bh rfl) 1
       have f2:=aa (aA.out.bh rfl) 2
       have f3:=aa (aA.out.bh rfl) 3
       unfold fF))
    all_goals
     go_wp2_with fail
     refine bodyPost_ret (v:=fF z) (by simp[results,Tryz.results201,go_sem,fF,c0,c1,c2,c3]) rfl ⟨_,rfl,sY (w:=w2) (by simp[an.kind]) ⟨_,HZ.out,rfl⟩,?_⟩
     exact bG aA.out.1 (by omega)
   |text n=>
    obtain⟨xs,qx,pA,fH⟩:=my.out
    obtain rfl:m=1:=by simpa using sO.out.symm
    obtain⟨x0,rfl⟩:=Nc qx
    obtain⟨z0,rfl,dM⟩:=lI (pA 0 _ _ rfl rfl)
    have Ct:=hD (J5 (fH.below (w':=wr.drew) ⟨rfl,rfl,rfl,Nat.le_refl _,fun _ _=>rfl⟩) 1 z0 mu [] rfl dM (HG.out.below HB.out.1.drew))
    obtain⟨⟨fa,fc,vv,kr,_,_⟩,jb⟩:=pr.out wr HB.out.1
    obtain⟨b0,b1,b2,b3⟩:=ab kr
    obtain⟨v,nQ⟩:=(iQ jb).2.2.2.2
    have pg:=nQ wr.drew rfl
    clear nQ kr jb fH pA qx
    unfold er at pg
    have zE:∀(v u:Value)(w:World),(Instr.field 321 (.agg #[v,u]) 1).run Tryz.prog w= .ok u w:=fun _ _ _=>by kernel_rfl
    go_upto_region 18 with fail
    go_region_law(first
     |(go_simp
       go_at_call 231
       refine(Ct.out).mono ?_
       rintro e w2⟨_,rfl,⟨z,hz,rfl⟩,aM⟩
       have aA:=hD (HB.out.drew.below aM)
       have HZ:=hD hz
       clear aM hz
       have c0:=(ab (aA.out.bh rfl)).1
       have c1:=(ab (aA.out.bh rfl)).2.1
       have c2:=(ab (aA.out.bh rfl)).2.2.1
       have c3:=(ab (aA.out.bh rfl)).2.2.2
       have f0:=aa (aA.out.bh rfl) 0
       have f1:=aa (aA.out.bh rfl) 1
       have f2:=aa (aA.out.bh rfl) 2
       have f3:=aa (aA.out.bh rfl) 3
       unfold fR))
    all_goals
     go_wp2_with fail
     refine bodyPost_ret (v:=fR z) (by simp[results,Tryz.results201,go_sem,fR,c0,c1,c2,c3]) rfl ⟨_,rfl,mT (w:=w2) (by simp[an.kind]) ⟨_,HZ.out,rfl⟩,?_⟩
     exact bG aA.out.1 (by omega)
   |ite n p hp=>
    obtain⟨xs,qx,pA,fH⟩:=my.out
    obtain rfl:m=3:=by simpa using sO.out.symm
    obtain⟨x0,x1,x2,rfl⟩:=XZ qx
    obtain⟨z0,rfl,dM⟩:=lI (pA 0 _ _ rfl rfl)
    have Ct:=hD (PZ (fH.below (w':=wr.drew) ⟨rfl,rfl,rfl,Nat.le_refl _,fun _ _=>rfl⟩) 1 z0 mu [] rfl x1 x2 rfl rfl)
    have N9:Hid (cX ⟨p,0⟩ many (if z0=0 then x2 else x1)):=(show cX _ _ _ by
     split
     ·exact pA 2 _ _ rfl rfl
     ·exact pA 1 _ _ rfl rfl)
    generalize(if z0=0 then x2 else x1)=x at*
    obtain⟨yk,yn,ys,yl⟩:=x
    obtain⟨⟨fa,fc,vv,kr,_,_⟩,jb⟩:=pr.out wr HB.out.1
    obtain⟨b0,b1,b2,b3⟩:=ab kr
    have pg:=FG jb wr.drew rfl
    clear kr jb fH pA qx
    unfold er at pg
    have zE:∀(v u:Value)(w:World),(Instr.field 321 (.agg #[v,u]) 1).run Tryz.prog w= .ok u w:=fun _ _ _=>by kernel_rfl
    go_upto_region 18 with fail
    go_region_law(first
     |(go_simp
       go_at_call 236
       refine(Ct.out).mono ?_
       rintro e w2⟨_,rfl,hy,aM⟩
       obtain⟨ua,uc,rfl,vL⟩:=cj hy
       have aA:=hD (HB.out.drew.below aM)
       have HY:=hD vL
       have Rw:Hid (ys.size≤maxLen):=(show _≤_ from qk hy)
       clear aM hy vL
       have c0:=(ab (aA.out.bh rfl)).1
       have c1:=(ab (aA.out.bh rfl)).2.1
       have c2:=(ab (aA.out.bh rfl)).2.2.1
       have c3:=(ab (aA.out.bh rfl)).2.2.2
       have f0:=aa (aA.out.bh rfl) 0
       have f1:=aa (aA.out.bh rfl) 1
       have f2:=aa (aA.out.bh rfl) 2
       have f3:=aa (aA.out.bh rfl) 3))
    all_goals
     go_wp2_with fail
     refine bodyPost_ret (v:= .agg #[.int .i64 yk, .int .i64 yn, .string ys, .slice ua yl.length uc]) (by simp[results,Tryz.results201,go_sem,c0,c1,c2,c3]) rfl ⟨_,rfl,⟨.mk yk yn ys yl,⟨N9.out,fun h=>by simp[an.kind]at h⟩,?_⟩,?_⟩
     ·exact KA hp N9.out HY.out Rw.out
     ·exact bG aA.out.1 (by omega)
theorem fp {c:ai}{l:List an}{ts:List aJ}(h:∀p∈l.zip ts,qi c p.1 p.2):∀(i:Nat)(x:an)(u:aJ),l[i]? =some x→ts[i]? =some u→qi c x u:=by
 intro i x u hx hu
 refine h (x,u) (List.mem_of_getElem? (i:=i) ?_)
 rw[List.getElem?_zip_eq_some];exact⟨hx,hu⟩
theorem eK {c:ai}{many:Int}{l:List an}{ts:List aJ}(h:∀p∈l.zip ts,uO c many p.1 p.2):∀(i:Nat)(x:an)(u:aJ),l[i]? =some x→ts[i]? =some u→uO c many x u:=by
 intro i x u hx hu
 refine h (x,u) (List.mem_of_getElem? (i:=i) ?_)
 rw[List.getElem?_zip_eq_some];exact⟨hx,hu⟩
theorem Hq {c:ai}(eU:c.name.size≤maxLen){e:an}{t:aJ}(h:jM c e t):qi c e t:=by
 induction h with
 |num n h1 h2=>exact cV c eU _ _ _ [] [] _ (by decide) rfl (fun i x u h=>by simp at h) (.num _)
 |txt s hs=>exact cV c eU _ _ _ [] [] _ (by decide) rfl (fun i x u h=>by simp at h) (.txt _)
 |fld f i h1 h2=>exact cV c eU _ _ _ [] [] _ (by decide) rfl (fun i x u h=>by simp at h) (.fld f i h1 h2)
 |ari s a b hs _ _ h1 h2=>exact cV c eU _ _ _ [a,b] [⟨1,0⟩,⟨1,0⟩] _ (by decide) rfl (fp (by simp;exact⟨h1,h2⟩)) (.ari _ (by rcases hs with rfl|rfl|rfl;exact .inl rfl;exact .inr (.inl rfl);exact .inr (.inr rfl)))
 |cat a b _ _ h1 h2=>exact cV c eU _ _ _ [a,b] [⟨2,0⟩,⟨2,0⟩] _ (by decide) rfl (fp (by simp;exact⟨h1,h2⟩)) .cat
 |cmp s a b hs _ _ h1 h2=>exact cV c eU _ _ _ [a,b] [⟨1,0⟩,⟨1,0⟩] _ (by decide) rfl (fp (by simp;exact⟨h1,h2⟩)) (.cmp _ (by rcases hs with rfl|rfl;exact .inl rfl;exact .inr rfl))
 |len a _ h1=>exact cV c eU _ _ _ [a] [⟨2,0⟩] _ (by decide) rfl (fp (by simp;exact h1)) (.call ⟨#[108,101,110]⟩ 1 [⟨2,0⟩] (by simp[iP]))
 |text a _ h1=>exact cV c eU _ _ _ [a] [⟨1,0⟩] _ (by decide) rfl (fp (by simp;exact h1)) (.call ⟨#[116,101,120,116]⟩ 2 [⟨1,0⟩] (by simp[iP]))
 |left a b _ _ h1 h2=>exact cV c eU _ _ _ [a,b] [⟨2,0⟩,⟨1,0⟩] _ (by decide) rfl (fp (by simp;exact⟨h1,h2⟩)) (.call ⟨#[108,101,102,116]⟩ 2 [⟨2,0⟩,⟨1,0⟩] (by simp[iP]))
 |from_ a b _ _ h1 h2=>exact cV c eU _ _ _ [a,b] [⟨2,0⟩,⟨1,0⟩] _ (by decide) rfl (fp (by simp;exact⟨h1,h2⟩)) (.call ⟨#[102,114,111,109]⟩ 2 [⟨2,0⟩,⟨1,0⟩] (by simp[iP]))
 |find a b _ _ h1 h2=>exact cV c eU _ _ _ [a,b] [⟨2,0⟩,⟨2,0⟩] _ (by decide) rfl (fp (by simp;exact⟨h1,h2⟩)) (.call ⟨#[102,105,110,100]⟩ 1 [⟨2,0⟩,⟨2,0⟩] (by simp[iP]))
 |ite a b d p hp _ _ _ h1 h2 h3=>exact cV c eU _ _ _ [a,b,d] [⟨1,0⟩,⟨p,0⟩,⟨p,0⟩] _ (by simp) rfl (fp (by simp;exact⟨h1,h2,h3⟩)) (.ite p hp)
theorem Nt:∀s∈([[120],[45],[98],[110,111],[97,32,98]]:List (List UInt8)),s.length≤100∧∀c∈s,32≤c∧c<127:=by decide
theorem KB {c:ai}(eU:c.name.size≤maxLen)(many:Int){e:an}{t:aJ}(h:jM c e t):uO c many e t:=by
 induction h with
 |num n h1 h2=>exact dy c eU many _ _ _ [] [] _ (by decide) rfl (fun i x u h=>by simp at h) (.num _ _)
 |txt s hs=>
  obtain⟨h1,h2⟩:=Nt s hs
  exact dy c eU many _ _ _ [] [] _ (by decide) rfl (fun i x u h=>by simp at h) (.txt _ _ (mJ _ (by simpa [bL]using h2)) (by simpa [bL,ByteArray.size]using h1))
 |fld f i h1 h2=>exact dy c eU many _ _ _ [] [] _ (by decide) rfl (fun i x u h=>by simp at h) (.fld _ f i h1 h2)
 |ari s a b hs _ _ h1 h2=>exact dy c eU many _ _ _ [a,b] [⟨1,0⟩,⟨1,0⟩] _ (by decide) rfl (eK (by simp;exact⟨h1,h2⟩)) (.ari _ _ (by rcases hs with rfl|rfl|rfl;exact .inl rfl;exact .inr (.inl rfl);exact .inr (.inr (.inl rfl))))
 |cat a b _ _ h1 h2=>exact dy c eU many _ _ _ [a,b] [⟨2,0⟩,⟨2,0⟩] _ (by decide) rfl (eK (by simp;exact⟨h1,h2⟩)) (.cat _)
 |cmp s a b hs _ _ h1 h2=>exact dy c eU many _ _ _ [a,b] [⟨1,0⟩,⟨1,0⟩] _ (by decide) rfl (eK (by simp;exact⟨h1,h2⟩)) (.ari _ _ (by rcases hs with rfl|rfl;exact .inr (.inr (.inr (.inl rfl)));exact .inr (.inr (.inr (.inr rfl)))))
 |len a _ h1=>exact dy c eU many _ _ _ [a] [⟨2,0⟩] _ (by decide) rfl (eK (by simp;exact h1)) (.len _)
 |text a _ h1=>exact dy c eU many _ _ _ [a] [⟨1,0⟩] _ (by decide) rfl (eK (by simp;exact h1)) (.text _)
 |left a b _ _ h1 h2=>exact dy c eU many _ _ _ [a,b] [⟨2,0⟩,⟨1,0⟩] _ (by decide) rfl (eK (by simp;exact⟨h1,h2⟩)) (.left _)
 |from_ a b _ _ h1 h2=>exact dy c eU many _ _ _ [a,b] [⟨2,0⟩,⟨1,0⟩] _ (by decide) rfl (eK (by simp;exact⟨h1,h2⟩)) (.from_ _)
 |find a b _ _ h1 h2=>exact dy c eU many _ _ _ [a,b] [⟨2,0⟩,⟨2,0⟩] _ (by decide) rfl (eK (by simp;exact⟨h1,h2⟩)) (.find _)
 |ite a b d p hp _ _ _ h1 h2 h3=>exact dy c eU many _ _ _ [a,b,d] [⟨1,0⟩,⟨p,0⟩,⟨p,0⟩] _ (by simp) rfl (eK (by simp;exact⟨h1,h2,h3⟩)) (.ite _ p hp)
structure We(e:an):Prop where
 nodes:fX e=true
 deep:ju e≤8
 size:dA e≤40
def scO(s:ByteArray)(a b c:Value):Obj:= .cells #[.string s,a,b,c] 297 (0,0)
def Nu(w2:World)(nm:ByteArray)(fv vv:Value)(K bm:Nat)(wx:World):Prop:=wx.heap[K]? =some (scO nm fv vv (.map (some bm)))∧ej wx bm∧Below w2.heap.size w2 wx
theorem BD {w2 w':World}{nm:ByteArray}{fv vv:Value}{bm:Nat}(jb:ej w' bm)(hj:Below w2.heap.size w2 w'):Nu w2 nm fv vv w'.heap.size bm (w'.alloc (.cells #[.string nm,fv,vv, .map (some bm)] 297)):=
 ⟨heap_alloc_new w' _,jb.below ((Below.refl _ _).alloc (Nat.le_refl _) _),hj.alloc hj.size _⟩
theorem KC {w2 w':World}{nm:ByteArray}{fv vv:Value}{K bm:Nat}{x0 x1 x2 x3:Value}(jb:ej w' bm)(hj:Below w2.heap.size w2 w')(hk:w'.heap[K]? =some (.cells #[x0,x1,x2,x3] 297 (0,0))∧w2.heap.size≤K)(hb:K<bm):
 Nu w2 nm fv vv K bm ((((w'.setCell ⟨K,0,none⟩ (.string nm)).setCell ⟨K,1,none⟩ fv).setCell ⟨K,2,none⟩ vv).setCell ⟨K,3,none⟩ (.map (some bm))):=by
 have h1:=heap_setCell_same _ K 0 _ _ (.string nm) hk.1
 have h2:=heap_setCell_same _ K 1 _ _ fv h1
 have h3:=heap_setCell_same _ K 2 _ _ vv h2
 have h4:=heap_setCell_same _ K 3 _ _ (.map (some bm)) h3
 refine⟨by simpa [scO]using h4,jb.only (S:=fun i=>i=K) ?_ (fun i hi=>by rw[hi];exact hb),bG hj hk.2⟩
 exact((((ag.refl (fun i=>i=K) w').setCell (p:=⟨K,0,none⟩) (.inl rfl) _).setCell (p:=⟨K,1,none⟩) (.inl rfl) _).setCell (p:=⟨K,2,none⟩) (.inl rfl) _).setCell (p:=⟨K,3,none⟩) (.inl rfl) _
theorem D6 {B K:Nat}{w W:World}(h:Below B w W)(hK:B≤K)(hB:B≤W.heap.size){a0 a1:Value}{o:Obj}:Below B w (((W.setCell ⟨K,0,none⟩ a0).setCell ⟨K,1,none⟩ a1).alloc o):=by
 have h1:=(h.setCell (p:=⟨K,0,none⟩) hK a0).setCell (p:=⟨K,1,none⟩) hK a1
 exact h1.alloc (by simpa [World.setCell]using hB) o
theorem zD {w2 w':World}{o:Obj}(hb:Below (w2.alloc o).drew.heap.size (w2.alloc o).drew w'):w'.heap[w2.heap.size]? =some o∧w2.heap.size≤w2.heap.size:=⟨(hb.block w2.heap.size (by show _<(w2.alloc o).heap.size;simp)).trans (heap_alloc_new w2 o),Nat.le_refl _⟩
theorem jB {w2 w':World}(hb:Below w2.drew.heap.size w2.drew w'):Below w2.heap.size w2 w':=(Below.refl _ w2).drew.trans hb
theorem jD {w2 w':World}{o:Obj}(hb:Below (w2.alloc o).drew.heap.size (w2.alloc o).drew w'):Below w2.heap.size w2 w':=((Below.refl _ w2).alloc (Nat.le_refl _) o).drew.trans (hb.mono (by show w2.heap.size≤(w2.alloc o).heap.size;simp))
theorem bmD {w2:World}{o:Obj}{bm:Nat}(h:(w2.alloc o).drew.heap.size≤bm):w2.heap.size<bm:=by
 have:(w2.alloc o).heap.size≤bm:=h
 simp at this;omega
theorem BE(c:ai)(hc:bR c)(e:an)(t:aJ)(hx:We e)(ht:jM c e t)(M:Nat→Prop)(w:World)(v fv:Value)(hM:Bd M w)(ek:bI M w v e)(bz:ae M w fv c.fields)(hT:Tb w):
 Calls Tryz.prog 167 #[v, .agg #[.string c.name,fv]] w fun ε w'=>ε= .returned (.tuple #[.agg #[.int .i64 t.kind, .int .i64 t.of], .int .i64 0])∧Below w.heap.size w w':=by
 have eU:=bQ hc.small
 have HR:Hid (∀W,Below w.heap.size w W→_):=(show∀W,_→_ from fun W hb=>xB e hx.nodes hx.deep hx.size M W v (hM.below hb) (ek.below hb) (hT.below hb))
 have HC:Hid (∀W,Below w.heap.size w W→Calls Tryz.prog 95 #[.agg #[.string c.name,fv]] W fun e w'=>e= .returned (.bool true)∧Below W.heap.size W w'):=(show∀W,_→_ from fun W hb=>by
  have h:=eY M fv W c (bz.below hb) eU
  rw[hc.right]at h
  exact h)
 have Rp:Hid (∀W b bm,Below w.heap.size w W→nW M c [] b bm W→_):=(show∀W b bm,_→_→_ from fun W b bm h1 h2=>Hq eU ht M M W v b bm [] (ek.below h1) h2)
 have ij:=hD bz
 obtain⟨cs,rfl,bw⟩:=ek
 obtain⟨k,n,s,l⟩:=e
 obtain⟨lv,rfl,aU,_⟩:=bS.iff.1 bw
 obtain⟨la,lc,rfl,_⟩:=aU.open_
 obtain⟨fa,fc,rfl,_⟩:=bz.open_
 clear hx ht bz bw aU hT
 go_enter Tryz.func167,Tryz.ntmps167
 go_wp2_with fail
 refine(HR.out _ (Bx.fB w _ _ _).1).mono ?_
 rintro e w1⟨rfl,aw⟩
 have aO:=hD ((Bx.fB w (BA k n s (.slice la l.length lc)) (cg c.name (.slice fa c.fields.length fc)) (Cx 0 0)).below aw)
 obtain⟨a0,a1⟩:=af (aO.out.bh rfl)
 clear aw
 go_wp2_with fail
 refine(HC.out _ aO.out.1).mono ?_
 rintro e w2⟨rfl,aM⟩
 have aA:=hD (aO.out.below aM)
 have HS:Hid (∀W',Below w2.heap.size w2 W'→W'.cell? ⟨w.heap.size+1,0,none⟩=some (.string c.name)∧W'.cell? ⟨w.heap.size+1,1,none⟩=some (.slice fa c.fields.length fc)):=(show∀W',_→_ from fun W' hb=>af ((aA.out.below hb).bh rfl))
 obtain⟨a0,a1⟩:=af (aA.out.bh rfl)
 have HJ:Hid (Below w2.heap.size w2 w2):=(show _ from Below.refl _ _)
 clear aM
 go_upto_region 5 with fail
 go_cut [6](fun s6 wx=>∃K bm:Nat,s6= .pointer (some ⟨K,0,none⟩)∧Hid (Nu w2 c.name (.slice fa c.fields.length fc) (.slice none 0 0) K bm wx))
 case first=>
  go_region_held3(fun w'=>w'.cell? ⟨w.heap.size+1,0,none⟩=some (.string c.name)∧w'.cell? ⟨w.heap.size+1,1,none⟩=some (.slice fa c.fields.length fc))
   (first|with_reducible exact HS.out _ HJ.out|with_reducible exact HS.out _ HJ.out.drew|with_reducible exact HS.out _ (HJ.out.alloc HJ.out.size _)|with_reducible exact HS.out _ ((HJ.out.alloc HJ.out.size _).drew)|with_reducible exact HS.out _ (bG HJ.out HK.out.2))
   ((go_at_call 199
     refine(Bz _).mono ?_
     rintro e w3⟨bm,rfl,jb,Oq,bP⟩
     have IV:=hD jb
     try(with_reducible(have Pw:=hD (bmD Oq)))
     try(with_reducible(have HK:=hD (zD bP)))
     try with_reducible have k0:=(ab HK.out.1).1
     try with_reducible have k1:=(ab HK.out.1).2.1
     try with_reducible have k2:=(ab HK.out.1).2.2.1
     try with_reducible have k3:=(ab HK.out.1).2.2.2
     try with_reducible have y0:=aa HK.out.1 0
     try with_reducible have y1:=aa HK.out.1 1
     try with_reducible have y2:=aa HK.out.1 2
     try with_reducible have y3:=aa HK.out.1 3
     have HJ:Hid (Below w2.heap.size w2 w3):=(by first|with_reducible exact hD (jB bP)|with_reducible exact hD (jD bP))
     clear bP jb Oq))
  all_goals(go_wp2_with fail;go_meet)
  all_goals
   refine⟨_,bm,rfl,?_⟩
   first
    |with_reducible exact hD (BD IV.out HJ.out)
    |with_reducible exact hD (KC IV.out HJ.out HK.out Pw.out)
 case rest=>
  obtain⟨K,bm,rfl,HM⟩:=hcut
  obtain⟨w3,Z6⟩:∃w3:World,w3=wc:=⟨_,rfl⟩
  subst Z6
  have bO:=hD (aA.out.below HM.out.2.2)
  obtain⟨e0,e1,e2,e3⟩:=ab (bO.out.bJ rfl)
  have pr:Hid (nW M c [] K bm w3):=(show nW _ _ _ _ _ _ from⟨⟨fa,fc, .slice none 0 0,HM.out.1,ij.out.below bO.out.1,ae.nil _ _⟩,HM.out.2.1⟩)
  clear a0 a1 HS
  go_wp2_with fail
  refine(Rp.out _ _ _ bO.out.1 pr.out).mono ?_
  rintro e w4⟨rfl,eS⟩
  have fJ:=hD (bO.out.below eS)
  obtain⟨c0,c1⟩:=af (fJ.out.df rfl)
  have f0:=aa (fJ.out.df rfl) 0
  have f1:=aa (fJ.out.df rfl) 1
  have wD:w.heap.size+1+1<w4.heap.size:=(Array.getElem?_eq_some_iff.1 (fJ.out.df rfl)).1
  clear eS
  go_wp2_with fail
  refine bodyPost_ret (v:= .tuple #[.agg #[.int .i64 t.kind, .int .i64 t.of], .int .i64 0]) (by simp[results,Tryz.results167,go_sem,c0,c1,wD]) rfl ⟨rfl,?_⟩
  exact D6 fJ.out.1 (by omega) (by omega)
theorem KD(c:ai)(hc:bR c)(many:Int)(hm:many≤100000)(e:an)(t:aJ)(hx:We e)(ht:jM c e t)(M:Nat→Prop)(w:World)(v fv vv:Value)(vs:List au)(hM:Bd M w)(ek:bI M w v e)(bz:ae M w fv c.fields)(dk:ae M w vv vs)(hv:aW c.fields many vs)(hg:Gd w):
 Calls Tryz.prog 169 #[v, .agg #[.string c.name,fv],vv] w (aF w fun r w'=>∃u x,r= .tuple #[u, .int .i64 0]∧nA c t many e vs x∧bI M w' u x):=by
 have eU:=bQ hc.small
 have Rp:Hid (∀W,Below w.heap.size w W→_):=(show∀W,_→_ from fun W hb=>BE c hc e t hx ht M W v fv (hM.below hb) (ek.below hb) (bz.below hb) (hg.tb.below hb))
 have x9:Hid (∀W,Below w.heap.size w W→_):=(show∀W,_→_ from fun W hb=>kl c hc.right eU many hm vs hv M W fv vv (bz.below hb) (dk.below hb) (hg.tb.below hb))
 have Z7:Hid (∀W b bm,Below w.heap.size w W→w.heap.size+3≤W.heap.size→nW (eP M w 3) c vs b bm W→_):=(show∀W b bm,_→_→_→_ from fun W b bm h1 h3 h2=>KB eU many ht M (eP M w 3) W v b bm vs (dS hM h3) (ek.below h1) h2 hv (hg.below h1))
 have ij:=hD bz
 have IW:=hD dk
 obtain⟨cs,rfl,bw⟩:=ek
 obtain⟨k,n,s,l⟩:=e
 obtain⟨lv,rfl,aU,_⟩:=bS.iff.1 bw
 obtain⟨la,lc,rfl,_⟩:=aU.open_
 obtain⟨fa,fc,rfl,_⟩:=bz.open_
 obtain⟨va,vc,rfl,_⟩:=dk.open_
 clear hx ht bz bw aU hg dk hv
 go_enter Tryz.func169,Tryz.ntmps169
 go_wp2_with fail
 refine(Rp.out _ (Bx.fB w _ _ _).1).mono ?_
 rintro e w1⟨rfl,aw⟩
 have aO:=hD ((Bx.fB w (BA k n s (.slice la l.length lc)) (cg c.name (.slice fa c.fields.length fc)) (fD 0 0 ⟨#[]⟩ (.slice none 0 0))).below aw)
 obtain⟨a0,a1⟩:=af (aO.out.bh rfl)
 have qt:w.heap.size+1<w1.heap.size:=(Array.getElem?_eq_some_iff.1 (aO.out.bh rfl)).1
 clear aw
 go_wp2_with fail
 refine(x9.out _ (aO.out.1.alloc aO.out.1.size _)).mono ?_
 rintro e w2⟨rfl,aM⟩
 have aA:=hD (aO.out.below (aL aM))
 have HS:Hid (∀W',Below w2.heap.size w2 W'→W'.cell? ⟨w.heap.size+1,0,none⟩=some (.string c.name)∧W'.cell? ⟨w.heap.size+1,1,none⟩=some (.slice fa c.fields.length fc)):=(show∀W',_→_ from fun W' hb=>af ((aA.out.below hb).bh rfl))
 obtain⟨a0,a1⟩:=af (aA.out.bh rfl)
 have HJ:Hid (Below w2.heap.size w2 w2):=(show _ from Below.refl _ _)
 clear aM
 go_upto_region 7 with fail
 go_cut [12](fun s6 wx=>∃K bm:Nat,s6= .pointer (some ⟨K,0,none⟩)∧Hid (Nu w2 c.name (.slice fa c.fields.length fc) (.slice va vs.length vc) K bm wx))
 case first=>
  go_region_held3(fun w'=>w'.cell? ⟨w.heap.size+1,0,none⟩=some (.string c.name)∧w'.cell? ⟨w.heap.size+1,1,none⟩=some (.slice fa c.fields.length fc))
   (first|with_reducible exact HS.out _ HJ.out|with_reducible exact HS.out _ HJ.out.drew|with_reducible exact HS.out _ (HJ.out.alloc HJ.out.size _)|with_reducible exact HS.out _ ((HJ.out.alloc HJ.out.size _).drew)|with_reducible exact HS.out _ (bG HJ.out HK.out.2))
   ((go_at_call 199
     refine(Bz _).mono ?_
     rintro e w3⟨bm,rfl,jb,Oq,bP⟩
     have IV:=hD jb
     try(with_reducible(have Pw:=hD (bmD Oq)))
     try(with_reducible(have HK:=hD (zD bP)))
     try with_reducible have k0:=(ab HK.out.1).1
     try with_reducible have k1:=(ab HK.out.1).2.1
     try with_reducible have k2:=(ab HK.out.1).2.2.1
     try with_reducible have k3:=(ab HK.out.1).2.2.2
     try with_reducible have y0:=aa HK.out.1 0
     try with_reducible have y1:=aa HK.out.1 1
     try with_reducible have y2:=aa HK.out.1 2
     try with_reducible have y3:=aa HK.out.1 3
     have HJ:Hid (Below w2.heap.size w2 w3):=(by first|with_reducible exact hD (jB bP)|with_reducible exact hD (jD bP))
     clear bP jb Oq))
  all_goals(go_wp2_with fail;go_meet)
  all_goals
   refine⟨_,bm,rfl,?_⟩
   first
    |with_reducible exact hD (BD IV.out HJ.out)
    |with_reducible exact hD (KC IV.out HJ.out HK.out Pw.out)
 case rest=>
  obtain⟨K,bm,rfl,HM⟩:=hcut
  obtain⟨w3,Z6⟩:∃w3:World,w3=wc:=⟨_,rfl⟩
  subst Z6
  have bO:=hD (aA.out.below HM.out.2.2)
  obtain⟨e0,e1,e2,e3⟩:=ab (bO.out.bJ rfl)
  have pr:Hid (nW (eP M w 3) c vs K bm w3):=(show nW _ _ _ _ _ _ from⟨⟨fa,fc,_,HM.out.1,ij.out.ev (dR bO.out.1),IW.out.ev (dR bO.out.1)⟩,HM.out.2.1⟩)
  clear a0 a1 HS
  go_wp2_with fail
  refine(Z7.out _ _ _ bO.out.1 bO.out.b8 pr.out).mono ?_
  rintro e w4⟨_,rfl,⟨⟨yk,yn,ys,yl⟩,MC,zU⟩,eS⟩
  obtain⟨ua,uc,rfl,vL⟩:=cj zU
  have HY:=hD vL
  have Rw:Hid (ys.size≤maxLen):=(show _≤_ from qk zU)
  have Ot:=hD MC
  have fJ:=hD (bO.out.below eS)
  obtain⟨c0,c1,c2,c3⟩:=ab (fJ.out.df rfl)
  have f0:=aa (fJ.out.df rfl) 0
  have f1:=aa (fJ.out.df rfl) 1
  have f2:=aa (fJ.out.df rfl) 2
  have f3:=aa (fJ.out.df rfl) 3
  clear eS zU MC vL
  go_wp2_with fail
  refine bodyPost_ret (v:= .tuple #[.agg #[.int .i64 yk, .int .i64 yn, .string ys, .slice ua yl.length uc], .int .i64 0]) (by simp[results,Tryz.results169,go_sem,c0,c1,c2,c3]) rfl ⟨_,rfl,⟨_,_,rfl,Ot.out,⟨_,rfl,gK (HY.out.ev ?_) Rw.out⟩⟩,bG fJ.out.1 (by omega)⟩
  exact((((ff w4).setCell (.inl (.inr ⟨by simp;omega,by simp⟩)) _).setCell (.inl (.inr ⟨by simp;omega,by simp⟩)) _).setCell (.inl (.inr ⟨by simp;omega,by simp⟩)) _).setCell (.inl (.inr ⟨by simp;omega,by simp⟩)) _
end Go.Proofs.YtlkjnefenialbaaGreatDoor
