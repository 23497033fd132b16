/- What expr.expr answers; no condition beyond each theorem's own. -/
import Derived.Test.YtlkjnefenialbaaGreatDoorM34
import Derived.Defers
import Derived.Recover
set_option linter.unusedVariables false
set_option linter.unusedSimpArgs false
set_option maxHeartbeats 8000000
set_option maxRecDepth 100000
namespace Go.Proofs.YtlkjnefenialbaaGreatDoor
open Go.RowKit
def eJ(t:Tok):tH:=⟨t.kind,t.n,bL t.s,t.at_⟩
structure dN(b bm:Nat)(lv:Value)(sz:Int)(T:List Tok)(w:World)(i:Nat):Prop where
 box:w.heap[b]? =some (.cells #[lv, .int .i64 i, .int .i64 sz, .map (some bm)] 286 (0,0))
 toks:ae (aG b) w lv (T.map eJ)
 binds:dK w bm
 ne:bm≠b
 few:T.length≤200
 le:i≤T.length
 kinds:∀t∈T,1≤t.kind∧t.kind≤4
section
variable {b bm:Nat}{lv:Value}{sz:Int}{T:List Tok}{w w':World}{i j:Nat}
theorem dN.lt(h:dN b bm lv sz T w i):b<w.heap.size:=(Array.getElem?_eq_some_iff.1 h.box).1
theorem dN.step(h:dN b bm lv sz T w i)(ho:ag (aG b) w w')(hb:w'.heap[b]? =some (.cells #[lv, .int .i64 j, .int .i64 sz, .map (some bm)] 286 (0,0)))(hj:j≤T.length):dN b bm lv sz T w' j:=
 ⟨hb,h.toks.ev ⟨ho,fun _ h=> .inl h⟩,h.binds.only ho h.ne,h.ne,h.few,hj,h.kinds⟩
theorem dN.below(h:dN b bm lv sz T w i)(hb:Below w.heap.size w w'):dN b bm lv sz T w' i:=
 h.step (ag.aj hb) ((hb.block b h.lt).trans h.box) h.le
theorem dN.next(h:dN b bm lv sz T w i)(hi:i<T.length):dN b bm lv sz T (w.setCell ⟨b,1,none⟩ (.int .i64 ((i:Int)+1))) (i+1)∧ag (aG b) w (w.setCell ⟨b,1,none⟩ (.int .i64 ((i:Int)+1))):=by
 have ho:ag (aG b) w (w.setCell ⟨b,1,none⟩ (.int .i64 ((i:Int)+1))):=(ag.refl (aG b) w).setCell (p:=⟨b,1,none⟩) (.inl rfl) _
 refine⟨h.step ho ?_ (by omega),ho⟩
 have:=heap_setCell_same w b 1 _ _ (.int .i64 ((i:Int)+1)) h.box
 simpa using this
theorem dN.cells(h:dN b bm lv sz T w i):∃a cap,lv= .slice a T.length cap∧T.length≤cap∧cap≤9223372036854775807∧(∀t,T[i]? =some t→∃bl off,a=some ⟨bl,off,none⟩∧bl≠b∧bl<w.heap.size∧w.cell? ⟨bl,off+i*4,none⟩=some (.int .i64 t.kind)∧w.cell? ⟨bl,off+i*4+1,none⟩=some (.int .i64 t.n)∧w.cell? ⟨bl,off+i*4+2,none⟩=some (.string (bL t.s))∧w.cell? ⟨bl,off+i*4+3,none⟩=some (.int .i64 t.at_)):=by
 obtain⟨a,cap,hv,h1,h2,hc⟩:=h.toks.open_
 rw[List.length_map]at hv hc h1
 refine⟨a,cap,hv,h1,h2,fun t ht=> ?_⟩
 have hl:=(List.getElem?_eq_some_iff.1 ht).1
 obtain⟨bl,off,ha,hM,bZ,aC⟩:=hc (by omega)
 obtain⟨cs,⟨rfl,_⟩,bE⟩:=aC i (eJ t) (by rw[List.getElem?_map,ht];rfl)
 exact⟨bl,off,ha,hM,bZ,bE 0 _ rfl,bE 1 _ rfl,bE 2 _ rfl,bE 3 _ rfl⟩
end
theorem FC(b bm:Nat)(lv:Value)(sz:Int)(T:List Tok)(w:World)(i:Nat)(h:dN b bm lv sz T w i)(t:Tok)(ht:T[i]? =some t):
 Calls Tryz.prog 218 #[.pointer (some ⟨b,0,none⟩)] w fun e w'=>e= .returned (iZ t.kind t.n (bL t.s) t.at_)∧Below w.heap.size w w':=by
 obtain⟨a,cap,rfl,Lx,Ly,hc⟩:=h.cells
 obtain⟨p0,p1,p2,p3⟩:=ab h.box
 obtain⟨bl,off,rfl,zP,bZ,q0,q1,q2,q3⟩:=hc t ht
 have Pt:=h.lt
 have hi:=(List.getElem?_eq_some_iff.1 ht).1
 have B8:=h.few
 have OY:(i:Int)<(T.length:Int):=by omega
 have dF:(0:Int)≤(i:Int):=Int.natCast_nonneg _
 have Ql:decide (i<T.length)=true:=by simpa using hi
 have R5:decide ((i:Int)<(T.length:Int))=true:=by simpa using OY
 have ZD:b≠w.heap.size:=by omega
 have ZE:bl≠w.heap.size:=by omega
 clear h hc ht
 go_enter Tryz.func218,Tryz.ntmps218
 go_wp2_with fail
 go_quiet(fail)
 go_wp2_with fail
 go_region
 all_goals
  go_wp2_with fail
  refine bodyPost_ret (v:=iZ t.kind t.n (bL t.s) t.at_) (by simp[results,Tryz.results218,go_sem,iZ]) rfl ⟨rfl,?_⟩
  exact((((below_drewNv ((Below.refl _ w).alloc (Nat.le_refl _) _) _).setCell (by simp) _).setCell (by simp) _).setCell (by simp) _).setCell (by simp) _
theorem Kn(b bm:Nat)(lv:Value)(sz:Int)(T:List Tok)(w:World)(i:Nat)(h:dN b bm lv sz T w i)(hi:i=T.length):
 Calls Tryz.prog 218 #[.pointer (some ⟨b,0,none⟩)] w fun e w'=>e= .returned (iZ 0 0 ⟨#[]⟩ sz)∧Below w.heap.size w w':=by
 obtain⟨a,cap,rfl,Lx,Ly,hc⟩:=h.cells
 obtain⟨p0,p1,p2,p3⟩:=ab h.box
 have Pt:=h.lt
 have B8:=h.few
 have OY:¬(i:Int)<(T.length:Int):=by omega
 have Ql:decide (i<T.length)=false:=by simp;omega
 have R5:decide ((i:Int)<(T.length:Int))=false:=by simp;omega
 have ZD:b≠w.heap.size:=by omega
 clear h hc hi
 go_enter Tryz.func218,Tryz.ntmps218
 go_wp2_with fail
 go_quiet(fail)
 go_wp2_with fail
 refine bodyPost_ret (v:=iZ 0 0 ⟨#[]⟩ sz) (by simp[results,Tryz.results218,go_sem,iZ]) rfl ⟨rfl,?_⟩
 exact((((below_drewNv ((Below.refl _ w).alloc (Nat.le_refl _) _) _).setCell (by simp) _).setCell (by simp) _).setCell (by simp) _).setCell (by simp) _
theorem uK(b bm:Nat)(lv:Value)(sz:Int)(T:List Tok)(w:World)(i:Nat)(h:dN b bm lv sz T w i):∃(k n:Int)(s:ByteArray)(p:Int),(∀x,da (T.drop i) x=(decide (k=4)&&decide (s.data.toList=x)))∧(∀t,T[i]? =some t→k=t.kind∧n=t.n∧s=bL t.s)∧(T[i]? =none→k=0∧s=⟨#[]⟩)∧Calls Tryz.prog 218 #[.pointer (some ⟨b,0,none⟩)] w fun e w'=>e= .returned (iZ k n s p)∧Below w.heap.size w w':=by
 cases hq:T[i]? with
 |none=>
  have hi:i=T.length:=by have:=h.le;have:=List.getElem?_eq_none_iff.1 hq;omega
  refine⟨0,0,⟨#[]⟩,sz,fun x=> ?_,(fun t ht=>by cases ht),fun _=>⟨rfl,rfl⟩,Kn b bm lv sz T w i h hi⟩
  rw[List.drop_of_length_le (by omega)];rfl
 |some t=>
  refine⟨t.kind,t.n,bL t.s,t.at_,fun x=> ?_,(fun t' ht=>by cases ht;exact⟨rfl,rfl,rfl⟩),(fun h=>by cases h),FC b bm lv sz T w i h t hq⟩
  rw[drop_cons hq]
  simp only[da,jT]
  rw[Bool.eq_iff_iff];simp
  try omega
theorem Bn(b bm:Nat)(lv:Value)(sz:Int)(T:List Tok)(w:World)(i:Nat)(h:dN b bm lv sz T w i)(s:ByteArray)(hs:da (T.drop i) s.data.toList=true):
 Calls Tryz.prog 266 #[.pointer (some ⟨b,0,none⟩), .string s] w fun e w'=>e= .returned (.bool true)∧dN b bm lv sz T w' (i+1)∧ag (aG b) w w':=by
 obtain⟨k,n,x,p,h1,h2,h3,Lu⟩:=uK b bm lv sz T w i h
 have aT:i<T.length:=by
  cases hq:T[i]? with
  |none=>rw[h1,(h3 hq).1]at hs;simp at hs
  |some t=>exact(List.getElem?_eq_some_iff.1 hq).1
 rw[h1]at hs
 simp only[Bool.and_eq_true,decide_eq_true_eq]at hs
 obtain⟨rfl,hx⟩:=hs
 obtain rfl:x=s:=by cases x;cases s;simp at hx;simpa using hx
 have EM:=hD Lu
 have eT:=hD h
 clear h1 h2 h3 Lu hx h
 go_enter Tryz.func266,Tryz.ntmps266
 go_wp2_with fail
 refine(EM.out).mono ?_
 rintro e w1⟨rfl,aw⟩
 have pd:=hD (eT.out.below aw)
 have aO:=hD aw
 obtain⟨p0,p1,p2,p3⟩:=ab pd.out.box
 have f1:=aa pd.out.box 1
 have bZ:=pd.out.lt
 have zP:b≠w1.heap.size:=by omega
 have B8:=pd.out.few
 clear aw
 unfold iZ
 go_wp2_with fail
 go_ret
 exact⟨rfl,((pd.out.next aT).1).below ((Below.refl _ _).alloc (Nat.le_refl _) _),((ag.aj aO.out).trans (pd.out.next aT).2).alloc _⟩
theorem FD(b bm:Nat)(lv:Value)(sz:Int)(T:List Tok)(w:World)(i:Nat)(h:dN b bm lv sz T w i)(s:ByteArray)(hs:da (T.drop i) s.data.toList=false):
 Calls Tryz.prog 266 #[.pointer (some ⟨b,0,none⟩), .string s] w fun e w'=>e= .returned (.bool false)∧Below w.heap.size w w':=by
 obtain⟨k,n,x,p,h1,h2,h3,Lu⟩:=uK b bm lv sz T w i h
 rw[h1]at hs
 have bE:(k !=4)=true∨((k !=4)=false∧(!(x.toList==s.toList))=true):=by
  by_cases hk:k=4
  ·right
   refine⟨by simpa using hk,?_⟩
   rw[decide_eq_true hk,Bool.true_and,decide_eq_false_iff_not]at hs
   simp only[Bool.not_eq_true']
   cases hq:(x.toList==s.toList)with
   |false=>rfl
   |true=>exact absurd (by rw[qV hq]) hs
  ·left;simpa using hk
 have EM:=hD Lu
 clear h1 h2 h3 Lu hs h
 rcases bE with e1|⟨e1,e2⟩
 all_goals
  go_enter Tryz.func266,Tryz.ntmps266
  go_wp2_with fail
  refine(EM.out).mono ?_
  rintro e w1⟨rfl,aw⟩
  have aO:=hD aw
  clear aw
  unfold iZ
  go_wp2_with fail
  go_ret
  exact⟨rfl,aO.out.alloc aO.out.size _⟩
theorem FE(b bm:Nat)(lv:Value)(sz:Int)(T:List Tok)(w:World)(i:Nat)(h:dN b bm lv sz T w i)(s:ByteArray)(hs:da (T.drop i) s.data.toList=true):
 Calls Tryz.prog 267 #[.pointer (some ⟨b,0,none⟩), .string s] w fun e w'=>(∃v,e= .returned v)∧dN b bm lv sz T w' (i+1)∧ag (aG b) w w':=by
 have HT:=hD (Bn b bm lv sz T w i h s hs)
 clear h hs
 go_enter Tryz.func267,Tryz.ntmps267
 go_wp2_with fail
 refine(HT.out).mono ?_
 rintro e w1⟨rfl,h1,h2⟩
 have H1:=hD h1
 have H2:=hD h2
 clear h1 h2
 go_wp2_with fail
 go_end0
 exact⟨⟨_,rfl⟩,H1.out,H2.out⟩
def j9(b bm:Nat)(lv:Value)(sz:Int)(T:List Tok)(w:World)(x:an)(r:List Tok)(e:Ending)(w':World):Prop:=
 ∃v j,e= .returned v∧bI (eA w) w' v x∧dN b bm lv sz T w' j∧r=T.drop j∧ag (aG b) w w'
def Ko(b bm:Nat)(lv:Value)(sz:Int)(T:List Tok)(w:World)(l:List an)(r:List Tok)(e:Ending)(w':World):Prop:=
 ∃v j,e= .returned v∧ae (eA w) w' v l∧dN b bm lv sz T w' j∧r=T.drop j∧ag (aG b) w w'
def Bo(b bm:Nat)(lv:Value)(sz:Int)(T:List Tok)(k:Nat):Prop:=∀(least i:Nat)(x:an)(r:List Tok)(w:World),1≤least→least≤5→dN b bm lv sz T w i→ic k least (T.drop i)=some (x,r)→
 Calls Tryz.prog 217 #[.pointer (some ⟨b,0,none⟩), .int .i64 least] w (j9 b bm lv sz T w x r)
def DT(b bm:Nat)(lv:Value)(sz:Int)(T:List Tok)(k:Nat):Prop:=∀(i:Nat)(x:an)(r:List Tok)(w:World),dN b bm lv sz T w i→im k (T.drop i)=some (x,r)→
 Calls Tryz.prog 249 #[.pointer (some ⟨b,0,none⟩)] w (j9 b bm lv sz T w x r)
def yZ(b bm:Nat)(lv:Value)(sz:Int)(T:List Tok)(k:Nat):Prop:=∀(n i:Nat)(l:List an)(r:List Tok)(w:World),0<n→n≤3→dN b bm lv sz T w i→dU k n (T.drop i)=some (l,r)→
 Calls Tryz.prog 269 #[.pointer (some ⟨b,0,none⟩), .int .i64 n] w (Ko b bm lv sz T w l r)
def Cw(k n:Int)(s:ByteArray)(v:Value):Obj:= .cells #[.int .i64 k, .int .i64 n, .string s,v] 232 (0,0)
theorem Kp {b bm:Nat}{lv:Value}{sz:Int}{T:List Tok}{w w3:World}{i j R:Nat}(h0:dN b bm lv sz T w i)(h:dN b bm lv sz T w3 j)(ho:ag (aG b) w w3)(hR:w.heap.size≤R)(v0 v1 v2 v3:Value):
 dN b bm lv sz T ((((w3.setCell ⟨R,0,none⟩ v0).setCell ⟨R,1,none⟩ v1).setCell ⟨R,2,none⟩ v2).setCell ⟨R,3,none⟩ v3) j∧ag (aG b) w ((((w3.setCell ⟨R,0,none⟩ v0).setCell ⟨R,1,none⟩ v1).setCell ⟨R,2,none⟩ v2).setCell ⟨R,3,none⟩ v3):=by
 have Pt:=h0.lt
 have FZ:=(((ho.setCell (p:=⟨R,0,none⟩) (.inr hR) v0).setCell (p:=⟨R,1,none⟩) (.inr hR) v1).setCell (p:=⟨R,2,none⟩) (.inr hR) v2).setCell (p:=⟨R,3,none⟩) (.inr hR) v3
 refine⟨h0.step FZ ?_ h.le,FZ⟩
 exact(heap_setCell_other _ _ _ _ (by show b≠R;omega)).trans ((heap_setCell_other _ _ _ _ (by show b≠R;omega)).trans ((heap_setCell_other _ _ _ _ (by show b≠R;omega)).trans ((heap_setCell_other _ _ _ _ (by show b≠R;omega)).trans h.box)))
theorem P9:(⟨#[]⟩:ByteArray).size≤maxLen:=by unfold maxLen;decide
theorem Kq {b bm:Nat}{lv:Value}{sz:Int}{T:List Tok}{w w4 W':World}{i j:Nat}{a0 a1 a2 a3 v0 v1 v2 v3:Value}{t:TypeId}{o:Obj}(h0:dN b bm lv sz T w i)(h:dN b bm lv sz T w4 j)(ho:ag (aG b) w w4)(hR:w4.heap[w.heap.size]? =some (.cells #[a0,a1,a2,a3] t (0,0)))
 (hW:W'=((((w4.setCell ⟨w.heap.size,0,none⟩ v0).setCell ⟨w.heap.size,1,none⟩ v1).setCell ⟨w.heap.size,2,none⟩ v2).setCell ⟨w.heap.size,3,none⟩ v3).alloc o):
 dN b bm lv sz T W' j∧ag (aG b) w W'∧W'.heap[w.heap.size]? =some (.cells #[v0,v1,v2,v3] t (0,0)):=by
 obtain⟨h1,h2⟩:=Kp h0 h ho (Nat.le_refl _) v0 v1 v2 v3
 have h3:=iu (o:=0) hR v0 v1 v2 v3
 simp only[Nat.zero_add]at h3
 subst hW
 refine⟨h1.below ((Below.refl _ _).alloc (Nat.le_refl _) _),h2.alloc _,(Below.heap_alloc _ _ _ (Array.getElem?_eq_some_iff.1 h3).1).trans ?_⟩
 simpa using h3
theorem sW {b bm:Nat}{lv:Value}{sz:Int}{T:List Tok}{w w4 W':World}{i j:Nat}{a0 a1 a2 a3 v0 v1 v2 v3:Value}{t:TypeId}(h0:dN b bm lv sz T w i)(h:dN b bm lv sz T w4 j)(ho:ag (aG b) w w4)(hR:w4.heap[w.heap.size]? =some (.cells #[a0,a1,a2,a3] t (0,0)))
 (hW:W'=(((w4.setCell ⟨w.heap.size,0,none⟩ v0).setCell ⟨w.heap.size,1,none⟩ v1).setCell ⟨w.heap.size,2,none⟩ v2).setCell ⟨w.heap.size,3,none⟩ v3):
 dN b bm lv sz T W' j∧ag (aG b) w W'∧W'.heap[w.heap.size]? =some (.cells #[v0,v1,v2,v3] t (0,0)):=by
 obtain⟨h1,h2⟩:=Kp h0 h ho (Nat.le_refl _) v0 v1 v2 v3
 have h3:=iu (o:=0) hR v0 v1 v2 v3
 simp only[Nat.zero_add]at h3
 subst hW
 exact⟨h1,h2,by simpa using h3⟩
theorem Bp(b bm:Nat)(lv:Value)(sz:Int)(T:List Tok)(mh:oq T)(k:Nat)(HC:yZ b bm lv sz T k):DT b bm lv sz T (k+1):=by
 intro i x r w bK hp
 have bZ:=bK.lt
 obtain⟨t,ht⟩:∃t,T[i]? =some t:=by
  cases hq:T[i]? with
  |some t=>exact⟨t,rfl⟩
  |none=>
   rw[List.drop_of_length_le (List.getElem?_eq_none_iff.1 hq)]at hp
   simp[im]at hp
 have hi:=(List.getElem?_eq_some_iff.1 ht).1
 have iC:=List.mem_of_getElem? ht
 obtain⟨sw,Lb,TC,_⟩:=mh t iC
 have kS:=bK.kinds t iC
 have Lk:=drop_cons ht
 rw[Lk]at hp
 unfold im at hp
 dsimp only at hp
 have Om:t.kind≠4:=by
  intro h4
  rw[if_neg (by omega),if_neg (by omega),if_neg (by omega)]at hp
  cases hp
 have B7:∀s,da (T.drop i) s=false:=fun s=>by rw[Lk];simp[da,Om]
 have U7:Hid (∀W s,Below w.heap.size w W→_):=(show∀W s,_→_ from fun W s hb=>FD b bm lv sz T W i (bK.below hb) s (B7 _))
 have EM:Hid (∀W,Below w.heap.size w W→_):=(show∀W,_→_ from fun W hb=>FC b bm lv sz T W i (bK.below hb) t ht)
 have eT:=hD bK
 have Sd:=hD Lk
 have HP:=hD hp
 have Mt:Hid ((bL t.s).size≤maxLen):=(show _≤_ by rw[iF];unfold maxLen;omega)
 have B8:=bK.few
 have zP:b≠w.heap.size:=by omega
 clear bK hp Lk B7 ht iC
 go_enter Tryz.func249,Tryz.ntmps249
 go_wp2_with fail
 refine(U7.out _ _ ((Below.refl _ _).alloc (Nat.le_refl _) _)).mono ?_
 rintro e w1⟨rfl,aw⟩
 have aO:=hD ((Bx.fA w (Cw 0 0 ⟨#[]⟩ (.slice none 0 0))).below aw)
 clear aw
 go_wp2_with fail
 refine(U7.out _ _ aO.out.1).mono ?_
 rintro e w2⟨rfl,aM⟩
 have aA:=hD (aO.out.below aM)
 clear aM
 go_wp2_with fail
 refine(EM.out _ aA.out.1).mono ?_
 rintro e w3⟨rfl,bP⟩
 have bO:=hD (aA.out.below bP)
 clear bP
 have jr:=hD (eT.out.below bO.out.1)
 obtain⟨p0,p1,p2,p3⟩:=ab jr.out.box
 have f1:=aa jr.out.box 1
 obtain⟨g0,g1,g2,g3⟩:=ab (bO.out.bJ rfl)
 have y0:=aa (bO.out.bJ rfl) 0
 have y1:=aa (bO.out.bJ rfl) 1
 have y2:=aa (bO.out.bJ rfl) 2
 have y3:=aa (bO.out.bJ rfl) 3
 have nZ:w.heap.size<w3.heap.size:=by have:=bO.out.b8;simp at this;omega
 have qc2:b<w3.heap.size:=jr.out.lt
 have qc3:b≠w3.heap.size:=by omega
 have ZF:w.heap.size≠w3.heap.size:=by omega
 have Xl:=hD (jr.out.next hi)
 have sB:Hid (ag (aG b) w (w3.setCell ⟨b,1,none⟩ (.int .i64 ((i:Int)+1)))):=(show ag _ _ _ from(ag.aj bO.out.1).trans Xl.out.2)
 have IY:Hid ((w3.setCell ⟨b,1,none⟩ (.int .i64 ((i:Int)+1))).heap[w.heap.size]? =some (Cw 0 0 ⟨#[]⟩ (.slice none 0 0))):=(show _=_ from(heap_setCell_other _ _ _ _ (by show w.heap.size≠b;omega)).trans (bO.out.bJ rfl))
 unfold iZ
 have nM:=hD Lb
 have vK:=hD TC
 clear Lb TC
 obtain⟨kd,IK⟩:∃kd:Int,(t.kind:Int)=kd:=⟨_,rfl⟩
 have O3:=hD IK
 rw[IK]
 clear IK
 have bE:t.kind=1∨t.kind=2∨t.kind=3:=by omega
 rcases bE with h1|h1|h1
 ·obtain rfl:kd=1:=by have:=O3.out;omega
  have HX:Hid (x= .mk 1 t.n (bL []) []∧r=T.drop (i+1)):=(show _∧_ by have h:=HP.out;rw[if_pos h1]at h;simp at h;exact⟨h.1.symm,h.2.symm⟩)
  clear h1 O3 kS Om
  go_wp2_with fail
  obtain⟨W',gX⟩:∃W':World,W'=(((((w3.setCell ⟨b,1,none⟩ (.int .i64 ((i:Int)+1))).setCell ⟨w.heap.size,0,none⟩ (.int .i64 1)).setCell ⟨w.heap.size,1,none⟩ (.int .i64 t.n)).setCell ⟨w.heap.size,2,none⟩ (.string ⟨#[]⟩)).setCell ⟨w.heap.size,3,none⟩ (.slice none 0 0)).alloc (.cells #[.int .i64 1, .int .i64 t.n, .string (bL t.s), .int .i64 t.at_] 291):=⟨_,rfl⟩
  rw[←gX]
  obtain⟨k1,k2,k3⟩:=Kq eT.out Xl.out.1 sB.out IY.out gX
  obtain⟨c0,c1,c2,c3⟩:=ab k3
  exact bodyPost_ret (v:= .agg #[.int .i64 1, .int .i64 t.n, .string ⟨#[]⟩, .slice none 0 0]) (by simp[results,Tryz.results249,go_sem,c0,c1,c2,c3]) rfl (show j9 _ _ _ _ _ _ _ _ _ _ from⟨_,i+1,rfl,by rw[HX.out.1];exact rL _ _ _ P9,k1,HX.out.2,k2⟩)
 ·obtain rfl:kd=2:=by have:=O3.out;omega
  have HX:Hid (x= .mk 2 0 (bL t.s) []∧r=T.drop (i+1)):=(show _∧_ by have h:=HP.out;rw[if_neg (by omega),if_pos h1]at h;simp at h;exact⟨h.1.symm,h.2.symm⟩)
  clear h1 O3 kS Om
  go_wp2_with fail
  obtain⟨W',gX⟩:∃W':World,W'=(((((w3.setCell ⟨b,1,none⟩ (.int .i64 ((i:Int)+1))).setCell ⟨w.heap.size,0,none⟩ (.int .i64 2)).setCell ⟨w.heap.size,1,none⟩ (.int .i64 0)).setCell ⟨w.heap.size,2,none⟩ (.string (bL t.s))).setCell ⟨w.heap.size,3,none⟩ (.slice none 0 0)).alloc (.cells #[.int .i64 2, .int .i64 t.n, .string (bL t.s), .int .i64 t.at_] 291):=⟨_,rfl⟩
  rw[←gX]
  obtain⟨k1,k2,k3⟩:=Kq eT.out Xl.out.1 sB.out IY.out gX
  obtain⟨c0,c1,c2,c3⟩:=ab k3
  exact bodyPost_ret (v:= .agg #[.int .i64 2, .int .i64 0, .string (bL t.s), .slice none 0 0]) (by simp[results,Tryz.results249,go_sem,c0,c1,c2,c3]) rfl (show j9 _ _ _ _ _ _ _ _ _ _ from⟨_,i+1,rfl,by rw[HX.out.1];exact rL _ _ _ Mt.out,k1,HX.out.2,k2⟩)
 ·obtain rfl:kd=3:=by have:=O3.out;omega
  have gZ:=HP.out
  rw[if_neg (by omega),if_neg (by omega),if_pos h1]at gZ
  have jN:=hD gZ
  have nf:Hid (∀W,_):=(show∀W,_ from fun W=>xA (bL t.s) W)
  clear h1 O3 kS Om gZ
  have har:=Ag t.s
  go_wp2_with fail
  obtain⟨W4,qA⟩:∃W4:World,W4=(w3.setCell ⟨b,1,none⟩ (.int .i64 ((i:Int)+1))).alloc (.cells #[.int .i64 3, .int .i64 t.n, .string (bL t.s), .int .i64 t.at_] 291):=⟨_,rfl⟩
  rw[←qA]
  have od:Hid (dN b bm lv sz T W4 (i+1)):=(show dN _ _ _ _ _ _ _ by rw[qA];exact Xl.out.1.below ((Below.refl _ _).alloc (Nat.le_refl _) _))
  have Ph:Hid (ag (aG b) w W4):=(show ag _ _ _ by rw[qA];exact sB.out.alloc _)
  have Xm:Hid (W4.heap[w.heap.size]? =some (Cw 0 0 ⟨#[]⟩ (.slice none 0 0))):=(show _=_ by rw[qA];exact(Below.heap_alloc _ _ _ (Array.getElem?_eq_some_iff.1 IY.out).1).trans IY.out)
  have Pu:Hid (W4.heap[w3.heap.size]? =some (.cells #[.int .i64 3, .int .i64 t.n, .string (bL t.s), .int .i64 t.at_] 291 (0,0))):=(show _=_ by
   rw[qA]
   have h:=heap_alloc_new (w3.setCell ⟨b,1,none⟩ (.int .i64 ((i:Int)+1))) (.cells #[.int .i64 3, .int .i64 t.n, .string (bL t.s), .int .i64 t.at_] 291)
   rw[show(w3.setCell ⟨b,1,none⟩ (.int .i64 ((i:Int)+1))).heap.size=w3.heap.size by simp[World.setCell]]at h
   exact h)
  clear qA p0 p1 p2 p3 f1 g0 g1 g2 g3 y0 y1 y2 y3 U7 EM aO aA
  refine(nf.out _).mono ?_
  rintro e w5⟨rfl,rfl⟩
  obtain⟨m0,m1,m2,m3⟩:=ab Pu.out
  rw[jT]
  obtain⟨ar,U8⟩:∃ar,cO t.s=ar:=⟨_,rfl⟩
  rw[U8]at jN har⊢
  clear U8 nf
  have qc4:w.heap.size≠w3.heap.size:=ZF
  by_cases R7:0<ar
  ·have hz:(0:Int)<(ar:Int):=by omega
   by_cases qu:da (T.drop (i+1)) [40]=true
   ·have Rp:=hD (Bn b bm lv sz T W4 (i+1) od.out ⟨#[40]⟩ qu)
    have HX:Hid (∃l,dU k ar (T.drop (i+1+1))=some (l,r)∧x= .mk 6 0 (bL t.s) l):=(show∃l,_ by
     have h:=jN.out
     rw[if_pos ⟨R7,qu⟩,List.drop_drop]at h
     split at h
     ·cases h
     ·rename_i l r' hq
      simp at h
      exact⟨l,by rw[←h.2];exact hq,h.1.symm⟩)
    clear qu jN HP
    go_wp2_with fail
    refine(Rp.out).mono ?_
    rintro e w6⟨rfl,Xb,EC⟩
    have FY:=hD Xb
    have qc5:=hD EC
    have O1:Hid (ag (aG b) w w6):=(show ag _ _ _ from Ph.out.trans EC)
    have HZ6:Hid (w6.heap[w.heap.size]? =some (Cw 0 0 ⟨#[]⟩ (.slice none 0 0))):=(show _=_ from EC.at_ Xm.out (by show¬(w.heap.size=b);omega))
    have HP6:Hid (w6.heap[w3.heap.size]? =some (.cells #[.int .i64 3, .int .i64 t.n, .string (bL t.s), .int .i64 t.at_] 291 (0,0))):=(show _=_ from EC.at_ Pu.out (by show¬(w3.heap.size=b);omega))
    clear Xb EC m0 m1 m2 m3
    obtain⟨m0,m1,m2,m3⟩:=ab HP6.out
    obtain⟨l,qt,sK⟩:=HX.out
    have U9:w.heap.size<w6.heap.size:=(Array.getElem?_eq_some_iff.1 HZ6.out).1
    have Yi:=hD (HC ar (i+1+1) l r w6.drew R7 har (FY.out.below (w':=w6.drew) ⟨rfl,rfl,rfl,Nat.le_refl _,fun _ _=>rfl⟩) qt)
    have ZG:=hD sK
    clear qt sK HX
    go_upto_region 17 with fail
    go_region_law(first
     |(go_simp
       go_at_call 269
       refine Yi.out.mono ?_
       rintro e w7⟨v,j,rfl,aU,Ld,hr7,Le⟩
       obtain⟨za,zc,rfl,_⟩:=aU.open_
       have eM:=hD aU
       have CI:=hD Ld
       have NN:=hD hr7
       have Yh:Hid (ag (aG b) w w7):=(show ag _ _ _ from O1.out.drew.trans Le)
       have On:Hid (w7.heap[w.heap.size]? =some (Cw 0 0 ⟨#[]⟩ (.slice none 0 0))):=(show _=_ from Le.at_ (w:=w6.drew) HZ6.out (by show¬(w.heap.size=b);omega))
       have HP7:Hid (w7.heap[w3.heap.size]? =some (.cells #[.int .i64 3, .int .i64 t.n, .string (bL t.s), .int .i64 t.at_] 291 (0,0))):=(show _=_ from Le.at_ (w:=w6.drew) HP6.out (by show¬(w3.heap.size=b);omega))
       have r2:=(ab HP7.out).2.2.1
       have c0:=(ab On.out).1
       have c1:=(ab On.out).2.1
       have c2:=(ab On.out).2.2.1
       have c3:=(ab On.out).2.2.2
       have z0:=aa On.out 0
       have z1:=aa On.out 1
       have z2:=aa On.out 2
       have z3:=aa On.out 3
       clear aU Ld hr7 Le))
    all_goals
     go_wp2_with fail
     obtain⟨W',gX⟩:∃W':World,W'=((((w7.setCell ⟨w.heap.size,0,none⟩ (.int .i64 6)).setCell ⟨w.heap.size,1,none⟩ (.int .i64 0)).setCell ⟨w.heap.size,2,none⟩ (.string (bL t.s))).setCell ⟨w.heap.size,3,none⟩ (.slice za l.length zc)):=⟨_,rfl⟩
     rw[←gX]
     obtain⟨k1,k2,k3⟩:=sW eT.out CI.out Yh.out On.out gX
     obtain⟨d0,d1,d2,d3⟩:=ab k3
     have vi:Hid (ae (eA w) W' (.slice za l.length zc) l):=(show ae _ _ _ _ by
      rw[gX]
      have e0:Ev (eA w6.drew) w7 (eA w) w7:=Ev.ee w7 fun i hi=>by have h1:i<w.heap.size:=hi;show i<w6.heap.size;omega
      exact eM.out.ev ((((e0.setCell (p:=⟨w.heap.size,0,none⟩) (.inl (by show w.heap.size<w6.heap.size;omega)) _).setCell (p:=⟨w.heap.size,1,none⟩) (.inl (by show w.heap.size<w6.heap.size;omega)) _).setCell (p:=⟨w.heap.size,2,none⟩) (.inl (by show w.heap.size<w6.heap.size;omega)) _).setCell (p:=⟨w.heap.size,3,none⟩) (.inl (by show w.heap.size<w6.heap.size;omega)) _))
     exact bodyPost_ret (v:= .agg #[.int .i64 6, .int .i64 0, .string (bL t.s), .slice za l.length zc]) (by simp[results,Tryz.results249,go_sem,d0,d1,d2,d3]) rfl (show j9 _ _ _ _ _ _ _ _ _ _ from⟨_,j,rfl,by rw[ZG.out];exact uJ vi.out Mt.out,k1,NN.out,k2⟩)
   ·have Re:da (T.drop (i+1)) [40]=false:=by simpa using qu
    have Qq:=hD (FD b bm lv sz T W4 (i+1) od.out ⟨#[40]⟩ Re)
    have HX:Hid (x= .mk 3 0 (bL t.s) []∧r=T.drop (i+1)):=(show _∧_ by have h:=jN.out;rw[if_neg (fun h=>qu h.2)]at h;simp at h;exact⟨h.1.symm,h.2.symm⟩)
    clear qu Re jN HP
    go_wp2_with fail
    refine(Qq.out).mono ?_
    rintro e w6⟨rfl,qy⟩
    have sx:=hD (od.out.below qy)
    have ZH:Hid (ag (aG b) w w6):=(show ag _ _ _ from Ph.out.trans (ag.aj qy))
    have Iz:Hid (w6.heap[w.heap.size]? =some (Cw 0 0 ⟨#[]⟩ (.slice none 0 0))):=(show _=_ from(qy.block _ (Array.getElem?_eq_some_iff.1 Xm.out).1).trans Xm.out)
    have Si:Hid (w6.heap[w3.heap.size]? =some (.cells #[.int .i64 3, .int .i64 t.n, .string (bL t.s), .int .i64 t.at_] 291 (0,0))):=(show _=_ from(qy.block _ (Array.getElem?_eq_some_iff.1 Pu.out).1).trans Pu.out)
    clear qy m0 m1 m2 m3
    obtain⟨m0,m1,m2,m3⟩:=ab Si.out
    obtain⟨c0,c1,c2,c3⟩:=ab Iz.out
    have z0:=aa Iz.out 0
    have z1:=aa Iz.out 1
    have z2:=aa Iz.out 2
    have z3:=aa Iz.out 3
    go_wp2_with fail
    obtain⟨W',gX⟩:∃W':World,W'=((((w6.setCell ⟨w.heap.size,0,none⟩ (.int .i64 3)).setCell ⟨w.heap.size,1,none⟩ (.int .i64 0)).setCell ⟨w.heap.size,2,none⟩ (.string (bL t.s))).setCell ⟨w.heap.size,3,none⟩ (.slice none 0 0)):=⟨_,rfl⟩
    rw[←gX]
    obtain⟨k1,k2,k3⟩:=sW eT.out sx.out ZH.out Iz.out gX
    obtain⟨d0,d1,d2,d3⟩:=ab k3
    exact bodyPost_ret (v:= .agg #[.int .i64 3, .int .i64 0, .string (bL t.s), .slice none 0 0]) (by simp[results,Tryz.results249,go_sem,d0,d1,d2,d3]) rfl (show j9 _ _ _ _ _ _ _ _ _ _ from⟨_,i+1,rfl,by rw[HX.out.1];exact rL _ _ _ Mt.out,k1,HX.out.2,k2⟩)
  ·have HX:Hid (x= .mk 3 0 (bL t.s) []∧r=T.drop (i+1)):=(show _∧_ by have h:=jN.out;rw[if_neg (fun h=>R7 h.1)]at h;simp at h;exact⟨h.1.symm,h.2.symm⟩)
   have hz:¬(0:Int)<(ar:Int):=by omega
   have sx:=od
   have ZH:=Ph
   have Iz:=Xm
   clear jN HP
   obtain⟨c0,c1,c2,c3⟩:=ab Iz.out
   have z0:=aa Iz.out 0
   have z1:=aa Iz.out 1
   have z2:=aa Iz.out 2
   have z3:=aa Iz.out 3
   go_wp2_with fail
   obtain⟨W',gX⟩:∃W':World,W'=((((W4.setCell ⟨w.heap.size,0,none⟩ (.int .i64 3)).setCell ⟨w.heap.size,1,none⟩ (.int .i64 0)).setCell ⟨w.heap.size,2,none⟩ (.string (bL t.s))).setCell ⟨w.heap.size,3,none⟩ (.slice none 0 0)):=⟨_,rfl⟩
   rw[←gX]
   obtain⟨k1,k2,k3⟩:=sW eT.out sx.out ZH.out Iz.out gX
   obtain⟨d0,d1,d2,d3⟩:=ab k3
   exact bodyPost_ret (v:= .agg #[.int .i64 3, .int .i64 0, .string (bL t.s), .slice none 0 0]) (by simp[results,Tryz.results249,go_sem,d0,d1,d2,d3]) rfl (show j9 _ _ _ _ _ _ _ _ _ _ from⟨_,i+1,rfl,by rw[HX.out.1];exact rL _ _ _ Mt.out,k1,HX.out.2,k2⟩)
def Bq(b bm:Nat)(lv:Value)(sz:Int)(T:List Tok)(w:World)(l:List an)(a:Option Addr)(q c:Nat)(C:List an→Nat→Prop)(wr:World):Prop:=
 ∃(kids rest:List an)(j:Nat),kids.length=q∧kids++rest=l∧aK (eA w) w.heap.size 232 wr (.slice a q c) kids∧dN b bm lv sz T wr j∧ag (aG b) w wr∧C rest j
theorem zb(b bm:Nat)(lv:Value)(sz:Int)(T:List Tok)(k:Nat)(HE:∀m,m<k→Bo b bm lv sz T m):yZ b bm lv sz T k:=by
 intro n i l r w vG TE bK FO
 obtain⟨i0,dF,dM,db,dL⟩:=info_parts wM
 have bZ:=bK.lt
 have NP:Hid (∀m,m<k→Bo b bm lv sz T m):=(show _ from HE)
 have H0:Hid (Bq b bm lv sz T w l none 0 0 (Je T n r k 0) w):=(show Bq _ _ _ _ _ _ _ _ _ _ _ _ from⟨[],l,i,rfl,rfl,aK.nil _ _ _ _,bK,ag.refl _ _, .inl ⟨rfl,k,Nat.le_refl _,FO⟩⟩)
 have eT:=hD bK
 clear bK FO HE
 go_enter Tryz.func269,Tryz.ntmps269
 go_wp2_with fail
 go_loopg [5,6,8]n(fun g r5 _ iv wr=>∃(q c:Nat)(a:Option Addr),q≤n∧g=n-q∧iv= .int .i64 q∧r5= .slice a q c∧Hid (Bq b bm lv sz T w l a q c (Je T n r k q) wr))
 case atStart=>exact⟨0,0,none,Nat.zero_le _,rfl,rfl,rfl,H0⟩
 case round=>
  obtain⟨q,c,a,hq,rfl,rfl,rfl,HL⟩:=hrel
  by_cases aT:q<n
  ·have Qs:(q:Int)<(n:Int):=by omega
   go_upto_if 12 with fail
   go_cut [](fun wx=>Hid (Bq b bm lv sz T w l a q c (PD T n r k q) wx))
   case first=>
    obtain⟨kids,rest,j,tm,x8,bn,ia,hU,hC⟩:=HL.out
    by_cases Rh:0<q
    ·have qc6:(0:Int)<(q:Int):=by omega
     have Mp:da (T.drop j) [44]=true∧∃m,m≤k∧dU m (n-q) (T.drop (j+1))=some (rest,r):=by
      rcases hC with⟨h1,_⟩|⟨_,_,h1,h2⟩|⟨h1,_⟩
      ·omega
      ·exact⟨h1,h2⟩
      ·omega
     have EV:=hD (FE b bm lv sz T wr j ia ⟨#[44]⟩ Mp.1)
     have HM:=hD Mp.2
     have kn:=hD bn
     have ko:=hD hU
     have Cb:=hD tm
     have Lf:=hD x8
     clear hC Mp bn ia hU HL tm x8
     go_wp2_with fail
     refine(EV.out).mono ?_
     rintro e w1⟨⟨v1,rfl⟩,h1,h2⟩
     have pd:=hD h1
     have nh:=hD h2
     clear h1 h2
     go_wp2_with fail
     go_meet
     exact(show Bq _ _ _ _ _ _ _ _ _ _ _ _ from⟨kids,rest,j+1,Cb.out,Lf.out,kn.out.only nh.out (fun i hi=>by have:i=b:=hi;exact⟨by show i<w.heap.size;omega,by omega⟩),pd.out,ko.out.trans nh.out,HM.out⟩)
    ·obtain rfl:q=0:=by omega
     have Mp:∃m,m≤k∧dU m (n-0) (T.drop j)=some (rest,r):=by
      rcases hC with⟨_,h1⟩|⟨h1,_⟩|⟨h1,_⟩
      ·exact h1
      ·omega
      ·omega
     have HM:Hid (Bq b bm lv sz T w l a 0 c (PD T n r k 0) wr):=(show Bq _ _ _ _ _ _ _ _ _ _ _ _ from⟨kids,rest,j,tm,x8,bn,ia,hU,Mp⟩)
     clear hC Mp bn ia hU HL tm x8
     go_wp2_with fail
     go_meet
     exact HM
   case rest=>
    obtain⟨kids,rest,j,tm,x8,bn,ia,hU,m,Cc,FO⟩:=Hid.out hcut
    clear hcut
    obtain⟨m',e,r1,l',rfl,hex,rfl,hC⟩:=pK FO (by omega)
    obtain⟨yk,yn,ys,yl⟩:=e
    have aS:=hD (NP.out m' (by omega) 1 j (.mk yk yn ys yl) r1 wc (by omega) (by omega) ia hex)
    have kQ:=bn.dO
    have qc7:=hU.size
    have Cb:=hD tm;clear tm;have Lf:=hD x8;clear x8;have kn:=hD bn;clear bn;have ko:=hD hU;clear hU;have x9:=hD hC;clear hC;have sM:=hD kQ;clear kQ
    clear FO hex ia HL
    go_wp2_with fail
    refine(aS.out).mono ?_
    rintro e w1⟨_,jj,rfl,⟨cs,rfl,bw⟩,jO,kq,eX⟩
    obtain⟨av,rfl,aU,iD⟩:=bS.iff.1 bw
    obtain⟨ya,yc,rfl,_⟩:=aU.open_
    have s1:=eX.size
    have eR:Hid (az.rep (α:=an) (bc (.slice a q c) (eA w)) w1 [.int .i64 yk, .int .i64 yn, .string ys, .slice ya yl.length yc] (an.mk yk yn ys yl)):=(show _ from az.ev (α:=an) bw (Ev.ee w1 (fun i hi=>by
     rcases hi with hi|hi
     ·have h1:i<w.heap.size:=hi;show i<wc.heap.size;omega
     ·exact(sM.out i hi).2)))
    have nY:=hD jO
    have mr:=hD kq
    have nh:Hid (ag (aG b) w w1):=(show ag _ _ _ from ko.out.trans eX)
    have Cd:=hD (kn.out.only eX (fun i hi=>by have:i=b:=hi;exact⟨by show i<w.heap.size;omega,by omega⟩))
    clear eX bw aU iD jO kq
    go_wp2_with(at_builtin
                refine aQ (α:=an) rfl _ _ _ rfl (eA w) w.heap.size 232 i0 _ 56 Tryz.underlying230 dF dM db dL rfl (by decide) (.slice a q c) kids rfl (Cd.out.alloc _) (fun _=>True) _ _ (.mk yk yn ys yl) rfl (iw _ _ _ _ 4 rfl rfl trivial) (az.ev (α:=an) eR.out ((Ev.refl _ _).alloc _)) (by rw[Cb.out];unfold maxLen;omega) (by rw[Cb.out];omega) (by simp;omega) ?_
                rw[Cb.out]
                intro a2 c2 w2 bj dj aM
                have cw:=hD bj
                have aA:=hD aM
                clear bj dj aM)
    go_roundg(n-(q+1))
    case measure=>omega
    case rel=>
     refine⟨q+1,c2,a2,by omega,rfl,by go_num,rfl,?_⟩
     have Wq:ag (aG b) w w2:=(nh.out.alloc _).cJ aA.out (Nat.le_refl _)
     refine(show Bq _ _ _ _ _ _ _ _ _ _ _ _ from⟨kids++[.mk yk yn ys yl],l',jj,by simp[Cb.out],by rw[←Lf.out];simp,cw.out,?_,Wq,?_⟩)
     ·exact eT.out.step Wq ((aA.out.block b bZ).trans ((Below.heap_alloc w1 _ b (by omega)).trans nY.out.box)) nY.out.le
     ·have kq:=mr.out
      rcases x9.out with⟨h1,h2,h3,h4⟩|⟨h1,h2,h3⟩
      ·subst kq
       exact .inr (.inr ⟨by omega,h2,h3,by rw[h4,List.drop_drop]⟩)
      ·subst kq
       rw[List.drop_drop]at h3
       exact .inr (.inl ⟨by omega,by omega,h2,m',by omega,by rw[show n-(q+1)=n-q-1 from by omega];exact h3⟩)
  ·have Qs:¬(q:Int)<(n:Int):=by omega
   obtain⟨kids,rest,j,tm,x8,bn,ia,hU,hC⟩:=HL.out
   have Mp:rest=[]∧da (T.drop j) [41]=true∧r=T.drop (j+1):=by
    rcases hC with⟨h1,_⟩|⟨_,h2,_⟩|⟨_,h1,h2,h3⟩
    ·omega
    ·omega
    ·exact⟨h1,h2,h3⟩
   obtain⟨rfl,TF,hr⟩:=Mp
   rw[List.append_nil]at x8
   have EV:=hD (FE b bm lv sz T wr j ia ⟨#[41]⟩ TF)
   have Cb:=hD tm;clear tm;have Lf:=hD x8;clear x8;have kn:=hD bn;clear bn;have ko:=hD hU;clear hU;have Io:=hD hr;clear hr
   clear ia TF hC HL
   go_wp2_with fail
   refine(EV.out).mono ?_
   rintro e w1⟨⟨v1,rfl⟩,h1,h2⟩
   have pd:=hD h1
   have Cd:=hD (kn.out.only h2 (fun i hi=>by have:i=b:=hi;exact⟨by show i<w.heap.size;omega,by omega⟩))
   have nh:Hid (ag (aG b) w w1):=(show ag _ _ _ from ko.out.trans h2)
   clear h1 h2
   go_wp2_with fail
   go_ret
   exact(show Ko _ _ _ _ _ _ _ _ _ _ from⟨_,j+1,rfl,by rw[←Lf.out];exact Cd.out.slice (fun i hi=>hi),pd.out,Io.out,nh.out⟩)
def Nl(b bm:Nat)(lv:Value)(sz:Int)(T:List Tok)(w:World)(E:Nat)(C:an→Nat→Prop)(wr:World):Prop:=
 ∃(ck cn:Int)(cs:ByteArray)(cl:List an)(a:Option Addr)(c j:Nat),wr.heap[E]? =some (.cells #[.int .i64 ck, .int .i64 cn, .string cs, .slice a cl.length c] 232 (0,0))∧bS (Ah w E) wr [.int .i64 ck, .int .i64 cn, .string cs, .slice a cl.length c] (.mk ck cn cs cl)∧dN b bm lv sz T wr j∧ag (aG b) w wr∧
  wr.heap[w.heap.size]? =some (.cells #[.int .i64 0, .int .i64 0, .string ⟨#[]⟩, .slice none 0 0] 232 (0,0))∧C (.mk ck cn cs cl) j
theorem Nn {b bm:Nat}{lv:Value}{sz:Int}{T:List Tok}{w w1 wr WD w2:World}{i jj:Nat}{ck cn fk fn:Int}{cs fs:ByteArray}{cl fl:List an}{a ya:Option Addr}{c yc:Nat}{ts:List UInt8}
 (bZ:b<w.heap.size)(eT:dN b bm lv sz T w i)(ko:ag (aG b) w wr)(zQ:ag (aG b) wr WD)(fI:ag (aG b) WD w2)
 (Lg:w2.heap[w1.heap.size]? =some (.cells #[.int .i64 ck, .int .i64 cn, .string cs, .slice a cl.length c] 232 (0,0)))
 (NQ:WD.heap[w.heap.size]? =some (.cells #[.int .i64 0, .int .i64 0, .string ⟨#[]⟩, .slice none 0 0] 232 (0,0)))
 (Qu:bS (Ah w w1.heap.size) WD [.int .i64 ck, .int .i64 cn, .string cs, .slice a cl.length c] (.mk ck cn cs cl))
 (eR:bS (eA WD.drew) w2 [.int .i64 fk, .int .i64 fn, .string fs, .slice ya fl.length yc] (.mk fk fn fs fl))(EE:dN b bm lv sz T w2 jj)
 (dc:w.heap.size+1≤w1.heap.size)(hE:w1.heap.size<wr.heap.size)(TG:wr.heap.size≤WD.heap.size)(s2:WD.heap.size≤w2.heap.size)(IN:ts.length≤200)(C:an→Nat→Prop)(hC:C (.mk 4 0 (bL ts) [.mk ck cn cs cl, .mk fk fn fs fl]) jj):
 Nl b bm lv sz T w w1.heap.size C (((((w2.setCell ⟨w1.heap.size,0,none⟩ (.int .i64 4)).setCell ⟨w1.heap.size,1,none⟩ (.int .i64 0)).setCell ⟨w1.heap.size,2,none⟩ (.string (bL ts))).setCell ⟨w1.heap.size,3,none⟩ (.slice (some ⟨w2.heap.size,0,none⟩) 2 2)).alloc (.cells #[.int .i64 ck, .int .i64 cn, .string cs, .slice a cl.length c, .int .i64 fk, .int .i64 fn, .string fs, .slice ya fl.length yc] 232)):=by
 obtain⟨W3,sy⟩:∃W3:World,W3=(((w2.setCell ⟨w1.heap.size,0,none⟩ (.int .i64 4)).setCell ⟨w1.heap.size,1,none⟩ (.int .i64 0)).setCell ⟨w1.heap.size,2,none⟩ (.string (bL ts))).setCell ⟨w1.heap.size,3,none⟩ (.slice (some ⟨w2.heap.size,0,none⟩) 2 2):=⟨_,rfl⟩
 have vb:W3.heap.size=w2.heap.size:=by rw[sy];simp
 have Yk:W3.heap[w1.heap.size]? =some (.cells #[.int .i64 4, .int .i64 0, .string (bL ts), .slice (some ⟨w2.heap.size,0,none⟩) 2 2] 232 (0,0)):=by
  rw[sy]
  have h0:=heap_setCell_same w2 w1.heap.size 0 _ _ (.int .i64 4) Lg
  have h1:=heap_setCell_same _ w1.heap.size 1 _ _ (.int .i64 0) h0
  have h2:=heap_setCell_same _ w1.heap.size 2 _ _ (.string (bL ts)) h1
  exact heap_setCell_same _ w1.heap.size 3 _ _ (.slice (some ⟨w2.heap.size,0,none⟩) 2 2) h2
 have yb:ag (fun i=>i=w1.heap.size) w2 W3:=by
  rw[sy]
  exact((((ag.refl (fun i=>i=w1.heap.size) w2).setCell (p:=⟨w1.heap.size,0,none⟩) (.inl rfl) _).setCell (p:=⟨w1.heap.size,1,none⟩) (.inl rfl) _).setCell (p:=⟨w1.heap.size,2,none⟩) (.inl rfl) _).setCell (p:=⟨w1.heap.size,3,none⟩) (.inl rfl) _
 rw[←sy]
 clear sy
 generalize hK:(Obj.cells #[.int .i64 ck, .int .i64 cn, .string cs, .slice a cl.length c, .int .i64 fk, .int .i64 fn, .string fs, .slice ya fl.length yc] 232 (0,0))=K
 have TH:ag (aG b) w (W3.alloc K):=by
  have h1:=(ko.trans zQ).trans fI
  have h2:ag (aG b) w W3:=h1.cD yb (fun i hi aT=>by omega)
  exact h2.alloc _
 have Yl:(W3.alloc K).heap[w2.heap.size]? =some (.cells (([.int .i64 ck, .int .i64 cn, .string cs, .slice a cl.length c]:List Value)++([.int .i64 fk, .int .i64 fn, .string fs, .slice ya fl.length yc]:List Value)).toArray 232 (0,0)):=by
  have h:=heap_alloc_new W3 K
  rw[vb]at h;rw[h,←hK];rfl
 have Qv:Ev (Ah w w1.heap.size) WD (Ah w w1.heap.size) (W3.alloc K):=
  ⟨((fI.mono (fun i hi=> .inl (by unfold aG at hi;omega))).trans (yb.mono (fun i hi=> .inr hi))).alloc _,fun i hi=> .inl hi⟩
 have Qw:Ev (eA WD.drew) w2 (Ah w w1.heap.size) (W3.alloc K):=
  ⟨(yb.mono (fun i hi=>by show i<WD.heap.size;omega)).alloc _,fun i hi=> .inl (by show i<WD.heap.size;rcases hi with h|h<;>omega)⟩
 refine⟨4,0,bL ts,[.mk ck cn cs cl, .mk fk fn fs fl],some ⟨w2.heap.size,0,none⟩,2,jj,(Below.heap_alloc W3 _ _ (by omega)).trans Yk,bS.iff.2 ⟨_,rfl,?_,by rw[iF];unfold maxLen;omega⟩,eT.step TH ?_ EE.le,TH,?_,hC⟩
 ·exact tK (by unfold Ah;omega) Yl (Qu.vN Qv) (eR.vN Qw)
 ·exact(Below.heap_alloc W3 _ b (by omega)).trans ((yb.block b (by omega) (by omega)).trans EE.box)
 ·exact(Below.heap_alloc W3 _ _ (by omega)).trans ((yb.block _ (by omega) (by omega)).trans ((fI.block _ (by omega) (by unfold aG;omega)).trans NQ))
def qg(s:ByteArray):Int:=match bA mS s with|some (.int _ v)=>v|_=>0
theorem DU(s:ByteArray):bA mS s=some (.int .i64 (qg s))∨(bA mS s=none∧qg s=0):=by
 unfold qg
 cases hq:bA mS s with
 |none=>exact .inr ⟨rfl,rfl⟩
 |some v=>
  left
  have hm:∃p∈mS,p.2.1=v:=by
   unfold bA at hq
   rw[Option.map_eq_some_iff]at hq
   obtain⟨p,h1,h2⟩:=hq
   exact⟨p,List.mem_of_find?_eq_some h1,h2⟩
  obtain⟨p,hp,rfl⟩:=hm
  simp only[mS,List.mem_cons,List.not_mem_nil,or_false]at hp
  rcases hp with rfl|rfl|rfl|rfl|rfl|rfl|rfl|rfl|rfl|rfl|rfl|rfl<;>rfl
theorem Kr(w:World):(zeroValue 3).run Tryz.prog w= .ok (.int .i64 0) w:=by kernel_rfl
theorem Br {w:World}{b:Nat}(h:dK w b)(s:ByteArray):(Instr.lookup 283 (.map (some b)) (.string s) false).run Tryz.prog w= .ok (.int .i64 (qg s)) w:=by
 rcases DU s with h1|⟨h1,h2⟩
 ·exact bq.lookup lG .string kM (P:=Tryz.prog) Tryz.underlying283 Tryz.underlying9 nG h s _ h1
 ·rw[h2]
  exact bq.XX lG .string kM (P:=Tryz.prog) Tryz.underlying283 Tryz.underlying9 nG h s _ (Kr w) h1
theorem uL(c:UInt8)(hc:c∈cW):qg (bL [c])=(bM [c]:Int):=by
 simp only[cW,List.mem_cons,List.not_mem_nil,or_false]at hc
 rcases hc with rfl|rfl|rfl|rfl|rfl|rfl|rfl|rfl|rfl|rfl|rfl<;>rfl
theorem DV(b bm:Nat)(lv:Value)(sz:Int)(T:List Tok)(mh:oq T)(k:Nat)(HT:DT b bm lv sz T k)(HE:∀m,m<k→Bo b bm lv sz T m):Bo b bm lv sz T (k+1):=by
 intro least i x r w qt TI bK hp
 have bZ:=bK.lt
 obtain⟨e0,r0,NR,TJ⟩:∃e0 r0,im k (T.drop i)=some (e0,r0)∧lW k least e0 r0=some (x,r):=by
  unfold ic at hp
  cases hq:im k (T.drop i)with
  |none=>rw[hq]at hp;cases hp
  |some q=>obtain⟨e0,r0⟩:=q;rw[hq]at hp;exact⟨e0,r0,rfl,hp⟩
 clear hp
 have mw:Below w.heap.size w (w.alloc (.cells #[.int .i64 0, .int .i64 0, .string ⟨#[]⟩, .slice none 0 0] 232)):=(Below.refl _ w).alloc (Nat.le_refl _) _
 have aX:=HT i e0 r0 _ (bK.below mw) NR
 obtain⟨zk,zn,zs,zl⟩:=e0
 have eT:=hD bK;clear bK;have TK:=hD TJ;clear TJ;have aS:=hD aX;clear aX;have lR:=hD mw;clear mw
 clear NR
 go_enter Tryz.func217,Tryz.ntmps217
 go_wp2_with fail
 refine(aS.out).mono ?_
 rintro e w1⟨_,j0,rfl,⟨cs,rfl,bw⟩,jO,kq,eX⟩
 obtain⟨av,rfl,aU,iD⟩:=bS.iff.1 bw
 obtain⟨za,zc,rfl,_⟩:=aU.open_
 have dc:=eX.size
 simp at dc
 have Lh:Hid (w1.heap[w.heap.size]? =some (.cells #[.int .i64 0, .int .i64 0, .string ⟨#[]⟩, .slice none 0 0] 232 (0,0))):=(show _=_ from(eX.block _ (by simp) (by unfold aG;omega)).trans (heap_alloc_new w _))
 have nh:Hid (ag (aG b) w w1):=(show ag _ _ _ from((ag.refl _ w).alloc _).cD eX (fun i hi _=>hi))
 have eR:=hD bw;clear bw;have nY:=hD jO;clear jO;have mr:=hD kq;clear kq
 clear aU iD eX
 go_wp2_with fail
 go_loopg [6,7]k(fun g _ _ wr=>∃m:Nat,m≤k∧g=m∧Hid (Nl b bm lv sz T w w1.heap.size (fun cur j=>lW m least cur (T.drop j)=some (x,r)) wr)∧w1.heap.size<wr.heap.size)
 case atStart=>
  refine⟨k,Nat.le_refl _,rfl,?_,by simp⟩
  have yd:Below w1.heap.size w1 (w1.alloc (.cells #[.int .i64 zk, .int .i64 zn, .string zs, .slice za zl.length zc] 232)):=(Below.refl _ w1).alloc (Nat.le_refl _) _
  refine(show Nl _ _ _ _ _ _ _ _ _ from⟨zk,zn,zs,zl,za,zc,j0,heap_alloc_new _ _,?_,nY.out.below yd,nh.out.alloc _,(yd.block _ (by omega)).trans Lh.out,by {show lW k least _ (T.drop j0)=_;rw[←mr.out];exact TK.out}⟩)
  exact eR.out.vN ⟨(ag.refl _ w1).alloc _,fun i hi=>by
   rcases hi with h|h
   ·exact .inl (by unfold eA;simp;omega)
   ·exact .inr (by omega)⟩
 case round=>
  obtain⟨m,hm,rfl,HM,hE⟩:=hrel
  obtain⟨ck,cn,cs,cl,a,c,j,Li,Mq,ia,hU,hR,hC⟩:=HM.out
  obtain⟨pk,pn,ps,pp,qu,EG,Rq,Pv⟩:=uK b bm lv sz T wr j ia
  have EM:=hD Pv
  have my:=hD ia
  have Wr:=hD Li
  have Sc:=hD Mq
  have ko:=hD hU
  have Io:=hD hR
  have HSP:=tJ hC
  clear Pv ia Li Mq hU hR hC
  go_wp2_with fail
  refine(EM.out).mono ?_
  rintro e w2⟨rfl,aM⟩
  have aA:=hD aM
  have eB:=hD (my.out.below aM)
  clear aM
  obtain⟨p0,p1,p2,p3⟩:=ab eB.out.box
  have f1:=aa eB.out.box 1
  have ZE:=eB.out.lt
  have s2:=aA.out.size
  have qc8:b≠w2.heap.size:=by omega
  have nQ:=fun o=>Br (eB.out.binds.below (w':=w2.alloc o) ((Below.refl _ _).alloc (Nat.le_refl _) o)) ps
  have U4:=fun o=>Br (w:=(w2.alloc o).drew) (eB.out.binds.below (w':=w2.alloc o) ((Below.refl _ _).alloc (Nat.le_refl _) o)) ps
  unfold iZ
  go_upto_region 3 with fail
  go_cut [7](fun s7 wx=>s7= .int .i64 (qg ps)∧wx=(w2.alloc (.cells #[.int .i64 pk, .int .i64 pn, .string ps, .int .i64 pp] 291)).drew)
  case first=>
   go_region
   all_goals
    go_wp2_with fail
    go_meet
    exact⟨rfl,rfl⟩
  case rest=>
   obtain⟨rfl,ZI⟩:=hcut
   obtain⟨W4,qA⟩:∃W4:World,W4=wc:=⟨_,rfl⟩
   subst qA
   have fJ:Hid (Below wr.heap.size wr W4):=(show Below _ _ _ by rw[ZI];exact(aA.out.alloc aA.out.size _).drew)
   have Pu:Hid (W4.heap[w2.heap.size]? =some (.cells #[.int .i64 pk, .int .i64 pn, .string ps, .int .i64 pp] 291 (0,0))):=(show _=_ by rw[ZI];exact heap_alloc_new w2 _)
   clear ZI p0 p1 p2 p3 f1 nQ U4
   have od:=hD (my.out.below fJ.out)
   obtain⟨p0,p1,p2,p3⟩:=ab od.out.box
   have f1:=aa od.out.box 1
   obtain⟨m0,m1,m2,m3⟩:=ab Pu.out
   have HE4:Hid (W4.heap[w1.heap.size]? =some (.cells #[.int .i64 ck, .int .i64 cn, .string cs, .slice a cl.length c] 232 (0,0))):=(show _=_ from(fJ.out.block _ hE).trans Wr.out)
   have IY:Hid (W4.heap[w.heap.size]? =some (.cells #[.int .i64 0, .int .i64 0, .string ⟨#[]⟩, .slice none 0 0] 232 (0,0))):=(show _=_ from(fJ.out.block _ (by omega)).trans Io.out)
   have It:Hid (bS (Ah w w1.heap.size) W4 [.int .i64 ck, .int .i64 cn, .string cs, .slice a cl.length c] (.mk ck cn cs cl)):=(show _ from Sc.out.vN (Ev.aj fJ.out))
   have Ph:Hid (ag (aG b) w W4):=(show ag _ _ _ from ko.out.trans (ag.aj fJ.out))
   obtain⟨e0,e1,e2,e3⟩:=ab HE4.out
   have hw4:w2.heap.size<W4.heap.size:=(Array.getElem?_eq_some_iff.1 Pu.out).1
   rcases HSP with⟨rfl,rfl,B7⟩|⟨m',t,r',f,r2,rfl,sw,kS,Ms,hex,Lj⟩
   ·have bE:(pk !=4)=true∨((pk !=4)=false∧qg ps<(least:Int)):=by
     by_cases h4:pk=4
     ·right
      refine⟨by simpa using h4,?_⟩
      cases hq:T[j]? with
      |none=>have:=(Rq hq).1;omega
      |some t=>
       obtain⟨h1,_,h3⟩:=EG t hq
       have kS:t.kind=4:=by omega
       obtain⟨c0,oN,zR⟩:=(mh t (List.mem_of_getElem? hq)).2.2.2 kS
       have hn:=B7 t _ (drop_cons hq)
       rw[h3,zR,uL c0 oN,←zR]
       have:¬least≤bM t.s:=fun h=>hn ⟨kS,h⟩
       omega
     ·left;simpa using h4
    obtain⟨r0,r1,r2,r3⟩:=ab IY.out
    have g0:=aa IY.out 0
    have g1:=aa IY.out 1
    have g2:=aa IY.out 2
    have g3:=aa IY.out 3
    have hRE:w.heap.size≠w1.heap.size:=by omega
    generalize qg ps=bv at*
    clear B7 EG Rq qu
    rcases bE with h1|⟨h1,h2⟩
    all_goals
     go_wp2_with fail
     obtain⟨W',gX⟩:∃W':World,W'=((((W4.setCell ⟨w.heap.size,0,none⟩ (.int .i64 ck)).setCell ⟨w.heap.size,1,none⟩ (.int .i64 cn)).setCell ⟨w.heap.size,2,none⟩ (.string cs)).setCell ⟨w.heap.size,3,none⟩ (.slice a cl.length c)):=⟨_,rfl⟩
     rw[←gX]
     obtain⟨k1,k2,k3⟩:=sW eT.out od.out Ph.out IY.out gX
     obtain⟨d0,d1,d2,d3⟩:=ab k3
     have vi:Hid (bS (eA w) W' [.int .i64 ck, .int .i64 cn, .string cs, .slice a cl.length c] (.mk ck cn cs cl)):=(show _ by
      rw[gX]
      exact It.out.vN (((((Ev.ee (M:=Ah w w1.heap.size) (N:=eA w) W4 (fun i h=>by unfold eA at h;exact .inl (by omega))).setCell (p:=⟨w.heap.size,0,none⟩) (.inl (.inl (Nat.le_refl _))) _).setCell (p:=⟨w.heap.size,1,none⟩) (.inl (.inl (Nat.le_refl _))) _).setCell (p:=⟨w.heap.size,2,none⟩) (.inl (.inl (Nat.le_refl _))) _).setCell (p:=⟨w.heap.size,3,none⟩) (.inl (.inl (Nat.le_refl _))) _))
     exact bodyPost_ret (v:= .agg #[.int .i64 ck, .int .i64 cn, .string cs, .slice a cl.length c]) (by simp[results,Tryz.results217,go_sem,d0,d1,d2,d3]) rfl (show j9 _ _ _ _ _ _ _ _ _ _ from⟨_,j,rfl,⟨_,rfl,vi.out⟩,k1,rfl,k2⟩)
   ·obtain⟨t',EF⟩:∃t',T[j]? =some t':=by
     rcases Nat.lt_or_ge j T.length with h|h
     ·exact⟨_,List.getElem?_eq_getElem h⟩
     ·rw[List.drop_eq_nil_of_le h]at sw;cases sw
    rw[drop_cons EF]at sw
    simp only[List.cons.injEq]at sw
    obtain⟨rfl,rfl⟩:=sw
    have v8:j<T.length:=(List.getElem?_eq_some_iff.1 EF).1
    have iC:=List.mem_of_getElem? EF
    obtain⟨c0,oN,zR⟩:=(mh t' iC).2.2.2 kS
    obtain⟨h1,h2,h3⟩:=EG t' EF
    subst h3
    have Ze:qg (bL t'.s)=(bM t'.s:Int):=by rw[zR];exact uL c0 oN
    have eS:=Ai t'.s
    have Lu:(pk !=4)=false:=by simp;omega
    rw[Ze]
    have NT:¬(bM t'.s:Int)<(least:Int):=by omega
    have IN:Hid (t'.s.length≤200):=(show _ from(mh t' iC).1)
    have B8:=od.out.few
    have O2:=hD hex
    have QA:=hD Lj
    clear hex Lj iC EF kS zR oN EG Rq qu h1 h2 Ze
    generalize yd:bM t'.s=bb at*
    go_upto_region 7 with fail
    obtain⟨WD,NS⟩:∃WD:World,WD=W4.setCell ⟨b,1,none⟩ (.int .i64 ((j:Int)+1)):=⟨_,rfl⟩
    rw[←NS]
    have Yo:Hid (dN b bm lv sz T WD (j+1)):=(show dN _ _ _ _ _ _ _ by rw[NS];exact(od.out.next v8).1)
    have zQ:Hid (ag (aG b) W4 WD):=(show ag _ _ _ by rw[NS];exact(od.out.next v8).2)
    have TL:Hid (WD.heap[w1.heap.size]? =some (.cells #[.int .i64 ck, .int .i64 cn, .string cs, .slice a cl.length c] 232 (0,0))):=(show _=_ from zQ.out.at_ HE4.out (by unfold aG;omega))
    have NQ:Hid (WD.heap[w.heap.size]? =some (.cells #[.int .i64 0, .int .i64 0, .string ⟨#[]⟩, .slice none 0 0] 232 (0,0))):=(show _=_ from zQ.out.at_ IY.out (by unfold aG;omega))
    have Si:Hid (WD.heap[w2.heap.size]? =some (.cells #[.int .i64 pk, .int .i64 pn, .string (bL t'.s), .int .i64 pp] 291 (0,0))):=(show _=_ from zQ.out.at_ Pu.out (by unfold aG;omega))
    have Qu:Hid (bS (Ah w w1.heap.size) WD [.int .i64 ck, .int .i64 cn, .string cs, .slice a cl.length c] (.mk ck cn cs cl)):=(show _ from It.out.vN ⟨zQ.out.mono (fun i hi=> .inl (by unfold aG at hi;omega)),fun i hi=> .inl hi⟩)
    have TG:=zQ.out.size
    clear NS p0 p1 p2 p3 f1 m0 m1 m2 m3 e0 e1 e2 e3
    obtain⟨d0,d1,d2,d3⟩:=ab TL.out
    obtain⟨m0,m1,m2,m3⟩:=ab Si.out
    obtain⟨fk,fn,fs,fl⟩:=f
    have aX:=HE m' (by omega) (bb+1) (j+1) (.mk fk fn fs fl) r2 WD.drew (by omega) (by omega) (Yo.out.below (w':=WD.drew) ⟨rfl,rfl,rfl,Nat.le_refl _,fun _ _=>rfl⟩) O2.out
    rw[show((bb+1:Nat):Int)=(bb:Int)+1 from by omega]at aX
    have vd:=hD aX;clear aX
    have z1:IntKind.i64.wrap ((bb:Int)+1)=(bb:Int)+1:=IntWalk.i64_in _ (by omega)
    go_region_law(first
     |(go_simp;go_at_call 217
       refine vd.out.mono ?_
       rintro e w5⟨_,jj,rfl,⟨cs2,rfl,bw⟩,Va,hr5,Rr⟩
       obtain⟨av,rfl,aU,iD⟩:=bS.iff.1 bw
       obtain⟨ya,yc,rfl,_⟩:=aU.open_
       have s5:=Rr.size
       simp at s5
       have nN:Hid (ag (aG b) WD w5):=(show ag _ _ _ from(ag.refl _ WD).drew.trans Rr)
       have Oo:Hid (w5.heap[w1.heap.size]? =some (.cells #[.int .i64 ck, .int .i64 cn, .string cs, .slice a cl.length c] 232 (0,0))):=(show _=_ from nN.out.at_ TL.out (by unfold aG;omega))
       have ZJ:Hid (w5.heap[w2.heap.size]? =some (.cells #[.int .i64 pk, .int .i64 pn, .string (bL t'.s), .int .i64 pp] 291 (0,0))):=(show _=_ from nN.out.at_ Si.out (by unfold aG;omega))
       have qc9:w1.heap.size<w5.heap.size:=by omega
       have qda:w2.heap.size<w5.heap.size:=by omega
       have k0:=(ab Oo.out).1
       have k1:=(ab Oo.out).2.1
       have k2:=(ab Oo.out).2.2.1
       have k3:=(ab Oo.out).2.2.2
       have j2:=(ab ZJ.out).2.2.1
       have j2':∀o,(w5.alloc o).cell? ⟨w2.heap.size,2,none⟩=some (.string (bL t'.s)):=fun o=>bF w5 o _ j2
       have n0:∀o,(w5.alloc o).cell? ⟨w1.heap.size,0,none⟩=some (.int .i64 ck):=fun o=>bF w5 o _ k0
       have n1:∀o,(w5.alloc o).cell? ⟨w1.heap.size,1,none⟩=some (.int .i64 cn):=fun o=>bF w5 o _ k1
       have n2:∀o,(w5.alloc o).cell? ⟨w1.heap.size,2,none⟩=some (.string cs):=fun o=>bF w5 o _ k2
       have n3:∀o,(w5.alloc o).cell? ⟨w1.heap.size,3,none⟩=some (.slice a cl.length c):=fun o=>bF w5 o _ k3
       have fz0:=aa Oo.out 0
       have fz1:=aa Oo.out 1
       have fz2:=aa Oo.out 2
       have fz3:=aa Oo.out 3
       have eR:=hD bw
       have ZK:=hD Va
       have xZ:=hD hr5
       clear Rr bw aU iD Va hr5))
    all_goals
     clear z1
     go_wp2_with fail
     go_roundg m'
     case measure=>omega
     case rel=>
      refine⟨m',by omega,rfl,?_,by simp;omega⟩
      have oY:=Nn bZ eT.out Ph.out zQ.out nN.out Oo.out NQ.out Qu.out eR.out ZK.out (by omega) (by omega) TG s5 IN.out
      exact(show Nl _ _ _ _ _ _ _ _ _ from oY _ (by rw[←xZ.out];exact QA.out))
theorem Qa(b bm:Nat)(lv:Value)(sz:Int)(T:List Tok)(mh:oq T)(k:Nat):Bo b bm lv sz T k∧DT b bm lv sz T k∧yZ b bm lv sz T k:=by
 induction k using Nat.strongRecOn with
 |ind k ih=>
  refine⟨?_,?_,zb b bm lv sz T k fun m hm=>(ih m hm).1⟩
  ·cases k with
   |zero=>intro least i x r w _ _ _ h;simp[ic]at h
   |succ k=>exact DV b bm lv sz T mh k (ih k (by omega)).2.1 fun m hm=>(ih m (by omega)).1
  ·cases k with
   |zero=>intro i x r w _ h;simp[im]at h
   |succ k=>exact Bp b bm lv sz T mh k (ih k (by omega)).2.2
theorem DW(p q r:Addr)(w:World):
 CallsD Tryz.prog 216 #[.pointer (some p), .pointer (some q), .pointer (some r)] .returning w fun e u' w'=>e= .returned (.tuple #[])∧u'= .returning∧w'=w:=by
 refine callsD_of_wpS Tryz.func216 rfl fun ZL cs hu=> ?_
 apply wpS_seq
 apply wpS_region
 simp[wpOpsS,go_sem,recoverD,hu,Tryz.ntmps216,Exit.thenS]
 apply wpS_seq
 apply wpS_region
 simp[wpOpsS,go_sem,Exit.thenS]
 refine wpS_cond (t:=false) (by simp[Act.eval,Array.replicate]) ?_
 simp only[Bool.false_eq_true,if_false]
 refine wpS_of_wp (wp_skip ?_)
 cases ZL
 simp_all[bodyPostS,results,Tryz.results216]
def qF(t:TypeId)(v:Value):Obj:= .cells #[v] t (0,0)
theorem Hi {b n:Nat}{w w1 W':World}{xk xn:Int}{xs:ByteArray}{xl:List an}{xa:Option Addr}{xc:Nat}(hb:b<w.heap.size)(ho:ag (aG b) w w1)(hR0:w1.heap[w.heap.size]? =some (Cw 0 0 ⟨#[]⟩ (.slice none 0 0)))(hR1:w1.heap[w.heap.size+1]? =some (qF 3 (.int .i64 0)))(hR2:w1.heap[w.heap.size+1+1]? =some (qF 4 (.bool false)))
 (aU:ae (eP (eA w) w 3) w1 (.slice xa xl.length xc) xl)(iD:xs.size≤maxLen)
 (hW:W'=(((((((((((w1.setCell ⟨w.heap.size,0,none⟩ (.int .i64 xk)).setCell ⟨w.heap.size,1,none⟩ (.int .i64 xn)).setCell ⟨w.heap.size,2,none⟩ (.string xs)).setCell ⟨w.heap.size,3,none⟩ (.slice xa xl.length xc)).drewN n).setCell ⟨w.heap.size,0,none⟩ (.int .i64 xk)).setCell ⟨w.heap.size,1,none⟩ (.int .i64 xn)).setCell ⟨w.heap.size,2,none⟩ (.string xs)).setCell ⟨w.heap.size,3,none⟩ (.slice xa xl.length xc)).setCell ⟨w.heap.size+1,0,none⟩ (.int .i64 0)).setCell ⟨w.heap.size+1+1,0,none⟩ (.bool true))):
 W'.heap[w.heap.size]? =some (Cw xk xn xs (.slice xa xl.length xc))∧W'.heap[w.heap.size+1]? =some (qF 3 (.int .i64 0))∧W'.heap[w.heap.size+1+1]? =some (qF 4 (.bool true))∧bI (eA w) W' (.agg #[.int .i64 xk, .int .i64 xn, .string xs, .slice xa xl.length xc]) (an.mk xk xn xs xl)∧ag (aG b) w W':=by
 have s4:∀W:World,ag (fun i=>i=w.heap.size) W ((((W.setCell ⟨w.heap.size,0,none⟩ (.int .i64 xk)).setCell ⟨w.heap.size,1,none⟩ (.int .i64 xn)).setCell ⟨w.heap.size,2,none⟩ (.string xs)).setCell ⟨w.heap.size,3,none⟩ (.slice xa xl.length xc)):=fun W=>
  ((((ag.refl (fun i=>i=w.heap.size) W).setCell (p:=⟨w.heap.size,0,none⟩) (.inl rfl) _).setCell (p:=⟨w.heap.size,1,none⟩) (.inl rfl) _).setCell (p:=⟨w.heap.size,2,none⟩) (.inl rfl) _).setCell (p:=⟨w.heap.size,3,none⟩) (.inl rfl) _
 obtain⟨A,hA⟩:∃A:World,A=(((w1.setCell ⟨w.heap.size,0,none⟩ (.int .i64 xk)).setCell ⟨w.heap.size,1,none⟩ (.int .i64 xn)).setCell ⟨w.heap.size,2,none⟩ (.string xs)).setCell ⟨w.heap.size,3,none⟩ (.slice xa xl.length xc):=⟨_,rfl⟩
 have oA:ag (fun i=>i=w.heap.size) w1 A:=by rw[hA];exact s4 w1
 have gA:=iu (o:=0) hR0 (.int .i64 xk) (.int .i64 xn) (.string xs) (.slice xa xl.length xc)
 simp only[Nat.zero_add]at gA
 rw[←hA]at gA hW
 have oB:ag (fun i=>i=w.heap.size) w1 (A.drewN n):=oA.drewN n
 have gB:(A.drewN n).heap[w.heap.size]? =_:=gA
 generalize A.drewN n=B at*
 obtain⟨C,hC⟩:∃C:World,C=(((B.setCell ⟨w.heap.size,0,none⟩ (.int .i64 xk)).setCell ⟨w.heap.size,1,none⟩ (.int .i64 xn)).setCell ⟨w.heap.size,2,none⟩ (.string xs)).setCell ⟨w.heap.size,3,none⟩ (.slice xa xl.length xc):=⟨_,rfl⟩
 have oC:ag (fun i=>i=w.heap.size) w1 C:=by rw[hC];exact oB.trans (s4 B)
 have gC:=iu (o:=0) gB (.int .i64 xk) (.int .i64 xn) (.string xs) (.slice xa xl.length xc)
 simp only[Nat.zero_add]at gC
 rw[←hC]at gC hW
 have ZM:=oC.at_ hR1 (by omega)
 have ZN:=oC.at_ hR2 (by omega)
 obtain⟨D,hD⟩:∃D:World,D=C.setCell ⟨w.heap.size+1,0,none⟩ (.int .i64 0):=⟨_,rfl⟩
 have oD:ag (fun i=>i=w.heap.size+1) C D:=by rw[hD];exact(ag.refl (fun i=>i=w.heap.size+1) C).setCell (p:=⟨w.heap.size+1,0,none⟩) (.inl rfl) _
 have Vb:=heap_setCell_same C (w.heap.size+1) 0 _ _ (.int .i64 0) ZM
 rw[←hD]at Vb hW
 have oE:ag (fun i=>i=w.heap.size+1+1) D W':=by rw[hW];exact(ag.refl (fun i=>i=w.heap.size+1+1) D).setCell (p:=⟨w.heap.size+1+1,0,none⟩) (.inl rfl) _
 have Vc:=heap_setCell_same D (w.heap.size+1+1) 0 _ _ (.bool true) (oD.at_ ZN (by omega))
 rw[←hW]at Vc
 have Vd:ag (fun i=>w.heap.size≤i∧i<w.heap.size+1+1+1) w1 W':=((oC.mono fun i hi=>by have:i=w.heap.size:=hi;omega).trans (oD.mono fun i hi=>by have:i=w.heap.size+1:=hi;omega)).trans (oE.mono fun i hi=>by have:i=w.heap.size+1+1:=hi;omega)
 refine⟨?_,?_,?_,⟨_,rfl,bS.iff.2 ⟨_,rfl,aU.ev ⟨Vd.mono fun i hi=> .inr ⟨hi.1,by omega⟩,fun i hi=> .inl (.inl hi)⟩,iD⟩⟩,?_⟩
 ·exact oE.at_ (oD.at_ (by simpa [Cw]using gC) (by omega)) (by omega)
 ·exact oE.at_ (by simpa [qF]using Vb) (by omega)
 ·simpa [qF]using Vc
 ·exact ho.cD (Vd) fun i hi aT=>by omega
theorem Ks(b bm:Nat)(lv:Value)(sz:Int)(T:List Tok)(mh:oq T)(x:an)(hp:ic 60 1 T=some (x,[]))(w:World)(bK:dN b bm lv sz T w 0):
 Calls Tryz.prog 197 #[.pointer (some ⟨b,0,none⟩)] w fun e w'=>∃v,e= .returned (.tuple #[v, .int .i64 0, .bool true])∧bI (eA w) w' v x∧ag (aG b) w w':=by
 have Is:∀(fn:Fn)(first cap:Array Value)(w:World),(Instr.makeFunc fn first cap).run Tryz.prog w= .ok (.func fn first cap) w:=fun _ _ _ _=>rfl
 have HE:Hid (∀W,Below w.heap.size w W→_):=(show∀W,_→_ from fun W hb=>(Qa b bm lv sz T mh 60).1 1 0 x [] W (by omega) (by omega) (bK.below hb) (by simpa using hp))
 have bZ:=bK.lt
 have eT:=hD bK
 clear bK hp
 go_enter_defers Tryz.func197,Tryz.ntmps197
 go_wp2_with fail
 refine(HE.out _ (Bx.fB w _ _ _).1).mono ?_
 rintro e w1⟨_,j,rfl,⟨cs,rfl,bw⟩,ia,hj,hU⟩
 obtain⟨xk,xn,xs,xl⟩:=x
 obtain⟨av,rfl,aU,iD⟩:=bS.iff.1 bw
 obtain⟨xa,xc,rfl,_⟩:=aU.open_
 have my:=hD ia
 have ko:Hid (ag (aG b) w w1):=(show ag _ _ _ from((((ag.refl _ w).alloc _).alloc _).alloc _).trans hU)
 have eM:Hid (ae (eP (eA w) w 3) w1 (.slice xa xl.length xc) xl):=(show ae _ _ _ _ from aU.ev (Ev.ee w1 fun i hi=>by
  show i<_
  have:i<w.heap.size∨(w.heap.size≤i∧i<w.heap.size+3):=hi
  simp;omega))
 have HJ:Hid (j=T.length):=(show _=_ by
  have h1:T.drop j=[]:=hj.symm
  have h2:=ia.le
  have h3:=congrArg List.length h1
  simp at h3;omega)
 have ME:Hid (w1.heap[w.heap.size]? =some (Cw 0 0 ⟨#[]⟩ (.slice none 0 0))):=(show _=_ from hU.at_ ((Bx.fB w _ (qF _ (.int .i64 0)) (qF _ (.bool false))).bJ rfl) (by unfold aG;omega))
 have mr:Hid (w1.heap[w.heap.size+1]? =some (qF 3 (.int .i64 0))):=(show _=_ from hU.at_ ((Bx.fB w _ _ _).bh rfl) (by unfold aG;omega))
 have vH:Hid (w1.heap[w.heap.size+1+1]? =some (qF 4 (.bool false))):=(show _=_ from hU.at_ ((Bx.fB w _ _ _).df rfl) (by unfold aG;omega))
 clear hU bw aU hj ia
 obtain⟨r0,r1,r2,r3⟩:=ab ME.out
 have f0:=aa ME.out 0
 have f1:=aa ME.out 1
 have f2:=aa ME.out 2
 have f3:=aa ME.out 3
 have s0:=aa mr.out 0
 have s1:=aa vH.out 0
 have m0:w1.cell? ⟨w.heap.size+1,0,none⟩=some (.int .i64 0):=by simp[World.cell?,mr.out,qF]
 have m1:w1.cell? ⟨w.heap.size+1+1,0,none⟩=some (.bool false):=by simp[World.cell?,vH.out,qF]
 obtain⟨q0,q1,q2,q3⟩:=ab my.out.box
 have vG:b≠w.heap.size:=by omega
 have sC:∃a c,lv= .slice a T.length c:=by obtain⟨a,c,h,_⟩:=my.out.cells;exact⟨a,c,h⟩
 obtain⟨lva,lvc,rfl⟩:=sC
 have aT:¬(j:Int)<(T.length:Int):=by have:=HJ.out;omega
 go_wp2_with fail
 go_quiet(fail)
 go_wp2_with fail
 obtain⟨W',gX⟩:∃W':World,W'=(((((((((((w1.setCell ⟨w.heap.size,0,none⟩ (.int .i64 xk)).setCell ⟨w.heap.size,1,none⟩ (.int .i64 xn)).setCell ⟨w.heap.size,2,none⟩ (.string xs)).setCell ⟨w.heap.size,3,none⟩ (.slice xa xl.length xc)).drewN nq).setCell ⟨w.heap.size,0,none⟩ (.int .i64 xk)).setCell ⟨w.heap.size,1,none⟩ (.int .i64 xn)).setCell ⟨w.heap.size,2,none⟩ (.string xs)).setCell ⟨w.heap.size,3,none⟩ (.slice xa xl.length xc)).setCell ⟨w.heap.size+1,0,none⟩ (.int .i64 0)).setCell ⟨w.heap.size+1+1,0,none⟩ (.bool true)):=⟨_,rfl⟩
 rw[←gX]
 obtain⟨g0,g1,g2,g3,g4⟩:=Hi bZ ko.out ME.out mr.out vH.out eM.out iD gX
 obtain⟨a0,a1,a2,a3⟩:=ab g0
 have a4:W'.cell? ⟨w.heap.size+1,0,none⟩=some (.int .i64 0):=by simp[World.cell?,g1,qF]
 have a5:W'.cell? ⟨w.heap.size+1+1,0,none⟩=some (.bool true):=by simp[World.cell?,g2,qF]
 refine leaves_cons (f:=216) (args:= #[.pointer (some ⟨w.heap.size,0,none⟩), .pointer (some ⟨w.heap.size+1,0,none⟩), .pointer (some ⟨w.heap.size+1+1,0,none⟩)]) (by simp) (by simp[go_sem]) ?_
 refine(DW ⟨w.heap.size,0,none⟩ ⟨w.heap.size+1,0,none⟩ ⟨w.heap.size+1+1,0,none⟩ _).mono ?_
 rintro e u' w''⟨rfl,rfl,rfl⟩
 refine⟨.tuple #[.agg #[.int .i64 xk, .int .i64 xn, .string xs, .slice xa xl.length xc], .int .i64 0, .bool true],by simp[results,Tryz.results197,go_sem,a0,a1,a2,a3,a4,a5],⟨_,rfl,g3,g4⟩⟩
end Go.Proofs.YtlkjnefenialbaaGreatDoor
