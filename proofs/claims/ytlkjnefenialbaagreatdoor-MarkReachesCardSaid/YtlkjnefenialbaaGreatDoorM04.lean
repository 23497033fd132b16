/- What the lexer and the first parsing calls answer; no condition beyond each theorem's own. -/
import Derived.Test.YtlkjnefenialbaaGreatDoorM03
import Derived.Lib.Strings
import Derived.Lib.SmallJoins
import Derived.RegionTactic
set_option linter.unusedVariables false
set_option linter.unusedSimpArgs false
set_option maxHeartbeats 8000000
set_option maxRecDepth 100000
namespace Go.Proofs.YtlkjnefenialbaaGreatDoor
open Go.RowKit
theorem CO(s:ByteArray)(w:World)(c:UInt8)(h:s.data.toList[0]? =some c)(hc:c<128):Calls Tryz.prog 262 #[.string s] w fun e w'=>e= .returned (.int .i64 1)∧w=w':=by
 have h0:0<s.size:=by have:=(List.getElem?_eq_some_iff.1 h).1;rw[aP]at this;exact this
 have h1:s[0]=c:=by have:=cR s 0 h0;rw[h]at this;simpa using this.symm
 have h2:(c.toNat:Int)<128:=by have:=UInt8.lt_iff_toNat_lt.1 hc;simp at this;omega
 have hn:¬s.size=0:=by omega
 clear h hc
 go_enter Tryz.func262,Tryz.ntmps262
 go_wp2
 go_ret
 exact⟨rfl,rfl⟩
theorem I7 {l:List UInt8}(h:iK l=true){k:Nat}{c:UInt8}(hc:l[k]? =some c):32≤c∧c<127:=by
 unfold iK at h
 simp only[Bool.and_eq_true,List.all_eq_true,decide_eq_true_eq]at h
 exact h.2 c (List.mem_of_getElem? hc)
theorem ym(s:ByteArray)(w:World)(h:iK s.data.toList=true):Calls Tryz.prog 244 #[.string s] w fun e w'=>e= .returned (.bool true)∧w=w':=by
 have hz:s.size≤60:=by unfold iK at h;simp only[Bool.and_eq_true,decide_eq_true_eq]at h;have:=h.1;rw[aP]at this;exact this
 have HT:=hD h;clear h
 go_enter Tryz.func244,Tryz.ntmps244
 go_wp2_with fail
 go_loopg [2,3,4]s.size(fun g r iv _ wr=>∃k:Nat,k≤s.size∧g=s.size-k∧iv= .int .i64 k∧r= .bool false∧w=wr)
 case atStart=>exact⟨0,Nat.zero_le _,rfl,rfl,rfl,rfl⟩
 case round=>
  obtain⟨k,hk,rfl,rfl,rfl,rfl⟩:=hrel
  by_cases aT:k<s.size
  ·obtain⟨c,hc⟩:∃c,s[k]=c:=⟨_,rfl⟩
   have hb:=cR s k aT
   rw[hc]at hb
   obtain⟨h1,h2⟩:=I7 HT.out hb
   have e1:(32:Int)≤(c.toNat:Int):=by have:=UInt8.le_iff_toNat_le.1 h1;simp at this;omega
   have e2:((c.toNat:Int)==127)=false:=by have:=UInt8.lt_iff_toNat_lt.1 h2;simp at this;simp;omega
   have e3:¬(c.toNat:Int)<32:=by omega
   have HS:Hid ((s.extract k s.size).data.toList[0]? =some c):=(show _=_ by rw[Lib.extract_data];rw[List.getElem?_take_of_lt (by omega),List.getElem?_drop];simpa using hb)
   have HC:Hid (c<128):=(show c<128 by have:=UInt8.lt_iff_toNat_lt.1 h2;exact UInt8.lt_iff_toNat_lt.2 (by simp at this⊢;omega))
   clear h1 h2 hb
   have X5:(k:Int)<s.size:=by omega
   go_wp2_with fail
   refine(CO _ _ c HS.out HC.out).mono ?_
   rintro e w'⟨rfl,rfl⟩
   go_wp2_with fail
   go_roundg(s.size-(k+1))
   case measure=>omega
   case rel=>exact⟨k+1,by omega,rfl,by go_num,rfl,rfl⟩
  ·go_wp2_with fail
   go_ret
   exact⟨rfl,rfl⟩
theorem pH(s:ByteArray)(w:World)(h:iK s.data.toList=true):Calls Tryz.prog 207 #[.agg #[.int .i64 2, .int .i64 0, .string s, .slice none 0 0]] w fun e w'=>e= .returned (.bool true)∧Below w.heap.size w w':=by
 have hz:s.size≤60:=by unfold iK at h;simp only[Bool.and_eq_true,decide_eq_true_eq]at h;have:=h.1;rw[aP]at this;exact this
 have HT:=hD h;clear h
 go_enter Tryz.func207,Tryz.ntmps207
 go_wp2_with fail
 refine(ym _ _ HT.out).mono ?_
 rintro e w'⟨rfl,rfl⟩
 go_wp2_with fail
 go_ret
 exact⟨rfl,(Below.refl _ _).alloc (Nat.le_refl _) _⟩
theorem ML {s:ByteArray}{a k:Nat}{d:List UInt8}{c:UInt8}(hd:∀j u,d[j]? =some u→s.data.toList[a+j]? =some u)(hc:d[k]? =some c):bL (d.take k)++s.extract (a+k) (a+k+1)=bL (d.take (k+1)):=by
 apply ByteArray.ext
 apply Array.toList_inj.1
 rw[Joins.data_append,Lib.extract_data]
 unfold bL
 simp only[List.toList_toArray]
 rw[List.take_add_one,hc]
 have:=hd k c hc
 rw[show a+k+1-(a+k)=1 from by omega]
 congr 1
 have hl:a+k<s.data.toList.length:=(List.getElem?_eq_some_iff.1 this).1
 rw[List.drop_eq_getElem_cons hl]
 have h2:=(List.getElem?_eq_some_iff.1 this).2
 simp[h2]
theorem PC(s:ByteArray)(w:World)(a:Nat)(d:List UInt8)(hs:s.size≤200)(ha:a<s.size)(hd:∀j u,d[j]? =some u→s.data.toList[a+1+j]? =some u∧ec u=true)(hq:s.data.toList[a+1+d.length]? =some 34)(ht:iK d=true):
 Calls Tryz.prog 188 #[.string s, .int .i64 a] w fun e w'=>e= .returned (.tuple #[.string (bL d), .int .i64 (a+d.length+2:Nat)])∧Below w.heap.size w w':=by
 have hl:a+1+d.length<s.size:=by have:=(List.getElem?_eq_some_iff.1 hq).1;rw[aP]at this;exact this
 have bZ:∀l:List UInt8,(bL l).size=l.length:=fun l=>by unfold bL;simp[ByteArray.size]
 have HD:=hD hd;clear hd;have HQ:=hD hq;clear hq;have HT:=hD ht;clear ht
 go_enter Tryz.func188,Tryz.ntmps188
 go_wp2_with fail
 go_loopg [4,5,6,7]d.length(fun g r0 r1 tv iv wr=>∃k:Nat,k≤d.length∧g=d.length-k∧iv= .int .i64 (a+1+k:Nat)∧tv= .string (bL (d.take k))∧r0= .string ⟨#[]⟩∧r1= .int .i64 0∧w=wr)
 case atStart=>exact⟨0,Nat.zero_le _,rfl,by go_num,rfl,rfl,rfl,rfl⟩
 case round=>
  obtain⟨k,hk,rfl,rfl,rfl,rfl,rfl,rfl⟩:=hrel
  have aT:a+1+k<s.size:=by omega
  obtain⟨c,hc⟩:∃c,s[a+1+k]=c:=⟨_,rfl⟩
  have hb:=cR s (a+1+k) aT
  rw[hc]at hb
  have X5:((a+1+k:Nat):Int)<s.size:=by omega
  have qb3:((a+1+k:Nat):Int)+1≤s.size:=by omega
  have cB:(bL (d.take k)).size≤200:=by rw[bZ];simp;omega
  by_cases IK:k<d.length
  ·obtain⟨u,hu⟩:∃u,d[k]? =some u:=⟨_,List.getElem?_eq_getElem IK⟩
   obtain⟨h1,h2⟩:=HD.out k u hu
   have huc:u=c:=by rw[hb]at h1;simpa using h1.symm
   rw[huc]at h2 hu
   have e1:((c.toNat:Int)==34)=false∧((c.toNat:Int)==92)=false:=by
    unfold ec at h2
    simp only[Bool.and_eq_true,bne_iff_ne,ne_eq]at h2
    constructor
    ·simp;intro h;exact h2.1 (UInt8.toNat_inj.1 (by simp;omega))
    ·simp;intro h;exact h2.2 (UInt8.toNat_inj.1 (by simp;omega))
   obtain⟨e1,e2⟩:=e1
   have kR:=hD (ML (s:=s) (a:=a+1) (fun j u h=>(HD.out j u h).1) hu)
   clear h1 h2 hu hb huc
   go_wp2_with fail
   go_roundg(d.length-(k+1))
   case measure=>omega
   case rel=>exact⟨k+1,by omega,rfl,by go_num,by rw[←kR.out],rfl,rfl,rfl⟩
  ·obtain rfl:k=d.length:=by omega
   have hq:c=34:=by have:=HQ.out;rw[hb]at this;simpa using this
   subst hq
   have OX:Hid (iK (bL d).data.toList=true):=(show _=_ by unfold bL;simpa using HT.out)
   rw[List.take_length]at cB⊢
   go_wp2_with fail
   refine(pH _ _ OX.out).mono ?_
   rintro e w1⟨rfl,aw⟩
   have aO:=hD aw;clear aw
   go_wp2_with fail
   go_ret2
   exact⟨by simp;omega,aO.out⟩
theorem Ad {c:UInt8}:(c.toNat:Int)≤255:=by have:=c.toNat_lt;omega
theorem k9 {c:UInt8}:lV c=decide (48≤(c.toNat:Int)∧(c.toNat:Int)≤57):=by
 unfold lV;rw[Bool.eq_iff_iff];simp[UInt8.le_iff_toNat_le];omega
theorem I8(s:ByteArray)(w:World)(a:Nat)(c:UInt8)(hs:s.size≤200)(ha:a<s.size)(hc:s[a]=c)(hd:lV c=true)(hn:∀d,s.data.toList[a+1]? =some d→lV d=false):
 Calls Tryz.prog 156 #[.string s, .int .i64 a] w fun e w'=>e= .returned (.tuple #[.agg #[.int .i64 1, .int .i64 ((c.toNat:Int)-48), .string ⟨#[]⟩, .int .i64 a], .int .i64 (a+1:Nat)])∧Below w.heap.size w w':=by
 have zO:(c.toNat:Int)≤255:=Ad
 rw[k9]at hd
 obtain⟨h48,h57⟩:=of_decide_eq_true hd
 have HD:=hD hd;clear hd;have HN:=hD hn;clear hn
 have Wm:(a:Int)<s.size:=by omega
 have z1:IntKind.u8.wrap ((c.toNat:Int)-48)=(c.toNat:Int)-48:=by
  simp[IntKind.wrap,IntKind.bits,IntKind.signed];omega
 have Z1:=hD z1
 clear z1
 go_enter Tryz.func156,Tryz.ntmps156
 go_wp2_with fail
 refine(jw true _ _ (by omega) zO HD.out).mono ?_
 rintro e w'⟨rfl,rfl⟩
 go_wp2_with fail
 go_loopg [5,7]1(fun g r iv wr=>∃k:Nat,k≤1∧g=1-k∧iv= .int .i64 (a+k:Nat)∧r= .int .i64 0∧((k=0∧wr=(w.alloc (.cells #[.int .i64 0, .int .i64 0, .string ⟨#[]⟩, .int .i64 0] 259)).alloc (.cells #[.int .i64 0, .int .i64 0, .string ⟨#[]⟩, .int .i64 a] 259))∨(k=1∧wr=((w.alloc (.cells #[.int .i64 0, .int .i64 0, .string ⟨#[]⟩, .int .i64 0] 259)).alloc (.cells #[.int .i64 0, .int .i64 ((c.toNat:Int)-48), .string ⟨#[]⟩, .int .i64 a] 259)).drew)))
 case atStart=>exact⟨0,by omega,rfl,by go_num,rfl, .inl ⟨rfl,rfl⟩⟩
 case round=>
  obtain⟨k,hk,rfl,rfl,rfl,hw⟩:=hrel
  rcases hw with⟨rfl,rfl⟩|⟨rfl,rfl⟩
  ·rw[Nat.add_zero]
   go_wp2_with fail
   refine(jw true _ _ (by omega) zO HD.out).mono ?_
   rintro e w'⟨rfl,rfl⟩
   go_wp2_with fail
   have z1:=Z1.out
   go_region
   clear z1
   go_wp2_with fail
   go_roundg 0
   case measure=>omega
   case rel=>exact⟨1,by omega,rfl,by go_num,rfl, .inr ⟨rfl,rfl⟩⟩
  ·by_cases h1:a+1<s.size
   ·obtain⟨d,IL⟩:∃d,s[a+1]=d:=⟨_,rfl⟩
    have hb:=cR s (a+1) h1
    rw[IL]at hb
    have Qp:=HN.out d hb
    rw[k9]at Qp
    have Yb:=hD Qp;clear Qp
    have hz:((a+1:Nat):Int)<s.size:=by omega
    clear hb
    go_wp2_with fail
    refine(jw false _ _ (by omega) Ad Yb.out).mono ?_
    rintro e w'⟨rfl,rfl⟩
    go_wp2_with fail
    refine bodyPost_ret (v:= .tuple #[.agg #[.int .i64 1, .int .i64 ((c.toNat:Int)-48), .string ⟨#[]⟩, .int .i64 a], .int .i64 (a+1:Nat)]) (by simp[results,Tryz.results156,go_sem]) rfl ⟨rfl,?_⟩
    exact(((Below.refl _ _).alloc (Nat.le_refl _) _).alloc (by simp) _).drew
   ·have hz:¬((a+1:Nat):Int)<s.size:=by omega
    go_wp2_with fail
    refine bodyPost_ret (v:= .tuple #[.agg #[.int .i64 1, .int .i64 ((c.toNat:Int)-48), .string ⟨#[]⟩, .int .i64 a], .int .i64 (a+1:Nat)]) (by simp[results,Tryz.results156,go_sem]) rfl ⟨rfl,?_⟩
    exact(((Below.refl _ _).alloc (Nat.le_refl _) _).alloc (by simp) _).drew
theorem pJ {c:UInt8}:oh c=decide (97≤(c.toNat:Int)∧(c.toNat:Int)≤122):=by
 unfold oh;rw[Bool.eq_iff_iff];simp[UInt8.le_iff_toNat_le];omega
theorem sR {c:UInt8}:cH c=aV (c.toNat:Int):=by
 unfold cH aV dP;rw[pJ,k9,Bool.eq_iff_iff]
 have:(c==95)=decide ((c.toNat:Int)=95):=by
  rw[Bool.eq_iff_iff];simp
  constructor
  ·intro h;subst h;rfl
  ·intro h;exact UInt8.toNat_inj.1 (by simp;omega)
 rw[this]
theorem nt {s:ByteArray}:oo s.data.toList=ax s:=by
 unfold oo ax
 rw[aP]
 cases hl:s.data.toList with
 |nil=>simp
 |cons a r=>
  have h1:dP (a.toNat:Int)=oh a:=by rw[pJ];rfl
  have h2:((a::r).all fun c=>aV (c.toNat:Int))=(a::r).all cH:=by congr 1;funext c;exact sR.symm
  simp only[h1,h2,Bool.and_assoc]
theorem Gf(s:ByteArray)(w:World)(a:Nat)(d:List UInt8)(hs:s.size≤200)(ha:a<s.size)(hc:s[a]=34)(hd:∀j u,d[j]? =some u→s.data.toList[a+1+j]? =some u∧ec u=true)(hq:s.data.toList[a+1+d.length]? =some 34)(ht:iK d=true):
 Calls Tryz.prog 156 #[.string s, .int .i64 a] w fun e w'=>e= .returned (.tuple #[.agg #[.int .i64 2, .int .i64 0, .string (bL d), .int .i64 a], .int .i64 (a+d.length+2:Nat)])∧Below w.heap.size w w':=by
 have Wm:(a:Int)<s.size:=by omega
 have aS:=fun w=>hD (PC s w a d hs ha hd hq ht)
 clear hd hq ht
 go_enter Tryz.func156,Tryz.ntmps156
 go_wp2_with fail
 refine(jw false _ _ (by omega) (by decide) (by decide)).mono ?_
 rintro e w'⟨rfl,rfl⟩
 go_wp2_with fail
 refine((aS _).out).mono ?_
 rintro e w1⟨rfl,aw⟩
 have s1:=aw.size
 simp at s1
 have we:=hD ((aw.block w.heap.size (by simp;omega)).trans (iM (w:=w) rfl).1)
 have gZ:=hD ((aw.block (w.heap.size+1) (by simp)).trans (iM (w:=w) rfl).2.1)
 have aO:Hid (Below w.heap.size w w1):=(((Below.refl _ _).alloc (Nat.le_refl _) _).alloc (by simp) _).trans (aw.mono (by simp;omega))
 obtain⟨p0,p1,p2,p3⟩:=ab we.out
 obtain⟨q0,q1,q2,q3⟩:=ab gZ.out
 have f0:=aa we.out 0
 have f1:=aa we.out 1
 have f2:=aa we.out 2
 have f3:=aa we.out 3
 have g2:=aa gZ.out 2
 clear aw
 go_wp2_with fail
 refine bodyPost_ret (v:= .tuple #[.agg #[.int .i64 2, .int .i64 0, .string (bL d), .int .i64 a], .int .i64 (a+d.length+2:Nat)]) (by simp[results,Tryz.results156,go_sem,p0,p1,p2,p3]) rfl ⟨rfl,?_⟩
 exact((((aO.out.setCell (by simp) _).setCell (by simp) _).setCell (by simp) _).setCell (by simp) _).setCell (by simp) _
theorem Gg(s:ByteArray)(w:World)(a n:Nat)(c:UInt8)(hs:s.size≤200)(vG:0<n)(hl:a+n≤s.size)(hc:∀j u,s.data.toList[a+j]? =some u→(j<n→cH u=true)∧(j=n→cH u=false))(h0:s.data.toList[a]? =some c)(gW:oh c=true)(hn:oo (s.extract a (a+n)).data.toList=true):
 Calls Tryz.prog 156 #[.string s, .int .i64 a] w fun e w'=>e= .returned (.tuple #[.agg #[.int .i64 3, .int .i64 0, .string (s.extract a (a+n)), .int .i64 a], .int .i64 (a+n:Nat)])∧Below w.heap.size w w':=by
 have ha:a<s.size:=by omega
 have Wm:(a:Int)<s.size:=by omega
 have jb:s[a]=c:=by have:=cR s a ha;rw[h0]at this;simpa using this.symm
 rw[pJ]at gW
 obtain⟨h97,qb4⟩:=of_decide_eq_true gW
 have zO:(c.toNat:Int)≤255:=Ad
 have ND:Hid (decide (48≤(c.toNat:Int)∧(c.toNat:Int)≤57)=false):=(show _=_ from decide_eq_false (by omega))
 have NW:Hid (aV (c.toNat:Int)=true):=(show _=_ by rw[←sR];exact(hc 0 c (by simpa using h0)).1 vG)
 have e34:((c.toNat:Int)==34)=false:=by simp;omega
 rw[nt]at hn
 have cB:(s.extract a (a+n)).size≤200:=by simp;omega
 have HC:=hD hc;clear hc;have HN:=hD hn;clear hn
 clear h0 gW
 go_enter Tryz.func156,Tryz.ntmps156
 go_wp2_with fail
 refine(jw false _ _ (by omega) zO ND.out).mono ?_
 rintro e w'⟨rfl,rfl⟩
 go_wp2_with fail
 refine(pG true _ _ (by omega) zO NW.out).mono ?_
 rintro e w'⟨rfl,rfl⟩
 go_wp2_with fail
 go_loopg [7]n(fun g iv wr=>∃k:Nat,k≤n∧g=n-k∧iv= .int .i64 (a+k:Nat)∧wr=(w.alloc (.cells #[.int .i64 0, .int .i64 0, .string ⟨#[]⟩, .int .i64 0] 259)).alloc (.cells #[.int .i64 0, .int .i64 0, .string ⟨#[]⟩, .int .i64 a] 259))
 case atStart=>exact⟨0,by omega,rfl,by go_num,rfl⟩
 case round=>
  obtain⟨k,hk,rfl,rfl,rfl⟩:=hrel
  by_cases aT:a+k<s.size
  ·obtain⟨d,IL⟩:∃d,s[a+k]=d:=⟨_,rfl⟩
   have hb:=cR s (a+k) aT
   rw[IL]at hb
   obtain⟨hy,B7⟩:=HC.out k d hb
   have hz:((a+k:Nat):Int)<s.size:=by omega
   have hdb:(d.toNat:Int)≤255:=Ad
   clear hb
   by_cases Qm:k<n
   ·have W1:Hid (aV (d.toNat:Int)=true):=(show _=_ by rw[←sR];exact hy Qm)
    clear hy B7
    go_wp2_with fail
    refine(pG true _ _ (by omega) hdb W1.out).mono ?_
    rintro e w'⟨rfl,rfl⟩
    go_wp2_with fail
    go_roundg(n-(k+1))
    case measure=>omega
    case rel=>exact⟨k+1,by omega,rfl,by go_num,rfl⟩
   ·obtain rfl:k=n:=by omega
    have W1:Hid (aV (d.toNat:Int)=false):=(show _=_ by rw[←sR];exact B7 rfl)
    clear hy B7
    go_wp2_with fail
    refine(pG false _ _ (by omega) hdb W1.out).mono ?_
    rintro e w'⟨rfl,rfl⟩
    have dL:((a+k:Nat):Int)≤s.size:=by omega
    have vb:(a:Int)≤((a+k:Nat):Int):=by omega
    go_wp2_with fail
    refine(eZ true _ _ HN.out (by unfold maxLen;omega)).mono ?_
    rintro e w'⟨rfl,rfl⟩
    go_wp2_with fail
    refine bodyPost_ret (v:= .tuple #[.agg #[.int .i64 3, .int .i64 0, .string (s.extract a (a+k)), .int .i64 a], .int .i64 (a+k:Nat)]) (by simp[results,Tryz.results156,go_sem]) rfl ⟨rfl,?_⟩
    exact((Below.refl _ _).alloc (Nat.le_refl _) _).alloc (by simp) _
  ·obtain rfl:k=n:=by omega
   have hz:¬((a+k:Nat):Int)<s.size:=by omega
   have dL:((a+k:Nat):Int)≤s.size:=by omega
   have vb:(a:Int)≤((a+k:Nat):Int):=by omega
   go_wp2_with fail
   refine(eZ true _ _ HN.out (by unfold maxLen;omega)).mono ?_
   rintro e w'⟨rfl,rfl⟩
   go_wp2_with fail
   refine bodyPost_ret (v:= .tuple #[.agg #[.int .i64 3, .int .i64 0, .string (s.extract a (a+k)), .int .i64 a], .int .i64 (a+k:Nat)]) (by simp[results,Tryz.results156,go_sem]) rfl ⟨rfl,?_⟩
   exact((Below.refl _ _).alloc (Nat.le_refl _) _).alloc (by simp) _
theorem Af {s:ByteArray}{a:Nat}{c:UInt8}(h:s.data.toList[a]? =some c):s.extract a (a+1)=⟨#[c]⟩:=by
 apply ByteArray.ext
 apply Array.toList_inj.1
 rw[Lib.extract_data]
 have hl:=(List.getElem?_eq_some_iff.1 h).1
 rw[List.drop_eq_getElem_cons hl,show a+1-a=1 from by omega]
 simp[(List.getElem?_eq_some_iff.1 h).2]
theorem mC {s:ByteArray}{a:Nat}{c:UInt8}(h:s.data.toList[a]? =some c)(x y:UInt8)(hx:c≠x∨s.data.toList[a+1]?≠some y):((s.extract a (a+2)).toList==[x,y])=false:=by
 rw[ByteArray.toList_eq,Lib.extract_data,show a+2-a=2 from by omega,beq_eq_false_iff_ne]
 intro he
 have hl:=(List.getElem?_eq_some_iff.1 h).1
 have h0:(((s.data.toList.drop a).take 2))[0]? =some x:=by rw[he];rfl
 have h1:(((s.data.toList.drop a).take 2))[1]? =some y:=by rw[he];rfl
 rw[List.getElem?_take_of_lt (by omega),List.getElem?_drop]at h0 h1
 rcases hx with hx|hx
 ·rw[Nat.add_zero,h]at h0;simp at h0;exact hx h0
 ·exact hx h1
theorem Gh(s:ByteArray)(w:World)(a:Nat)(c:UInt8)(hs:s.size≤200)(ha:a<s.size)(h0:s.data.toList[a]? =some c)(hc:c∈cW)(EC:c=62→s.data.toList[a+1]?≠some 61):
 Calls Tryz.prog 156 #[.string s, .int .i64 a] w fun e w'=>e= .returned (.tuple #[.agg #[.int .i64 0, .int .i64 0, .string ⟨#[c]⟩, .int .i64 a], .int .i64 (a+1:Nat)])∧Below w.heap.size w w':=by
 have Wm:(a:Int)<s.size:=by omega
 have qb5:((a+1:Nat):Int)≤s.size:=by omega
 have jb:s[a]=c:=by have:=cR s a ha;rw[h0]at this;simpa using this.symm
 have hx:=Af h0
 have y1:=mC h0 60 62 (.inl (by rintro rfl;simp[cW]at hc))
 have y2:=mC h0 60 61 (.inl (by rintro rfl;simp[cW]at hc))
 have y3:=mC h0 62 61 (by by_cases h:c=62;exact .inr (EC h);exact .inl h)
 have HB:=fun w=>hD (k8 c hc w)
 have ND:Hid (decide (48≤(c.toNat:Int)∧(c.toNat:Int)≤57)=false):=(show _=_ by simp only[cW,List.mem_cons,List.not_mem_nil,or_false]at hc;rcases hc with rfl|rfl|rfl|rfl|rfl|rfl|rfl|rfl|rfl|rfl|rfl<;>decide)
 have NW:Hid (aV (c.toNat:Int)=false):=(show _=_ by simp only[cW,List.mem_cons,List.not_mem_nil,or_false]at hc;rcases hc with rfl|rfl|rfl|rfl|rfl|rfl|rfl|rfl|rfl|rfl|rfl<;>decide)
 have e34:((c.toNat:Int)==34)=false:=by simp only[cW,List.mem_cons,List.not_mem_nil,or_false]at hc;rcases hc with rfl|rfl|rfl|rfl|rfl|rfl|rfl|rfl|rfl|rfl|rfl<;>decide
 have zO:(c.toNat:Int)≤255:=Ad
 have Yc:0<bM [c]∨c=40∨c=41∨c=44:=by simp only[cW,List.mem_cons,List.not_mem_nil,or_false]at hc;rcases hc with rfl|rfl|rfl|rfl|rfl|rfl|rfl|rfl|rfl|rfl|rfl<;>decide
 clear h0 EC hc
 have Mo:(((a+1:Nat):Int)<s.size∧((a+2:Nat):Int)≤s.size)∨¬((a+1:Nat):Int)<s.size:=by omega
 rcases Yc with hb|hb
 ·have jq:(0:Int)<(bM [c]:Int):=by omega
  generalize bM [c]=b at*
  clear hb
  rcases Mo with⟨Wn,h2z⟩|Wn
  all_goals
   go_enter Tryz.func156,Tryz.ntmps156
   go_wp2_with fail
   refine(jw false _ _ (by omega) zO ND.out).mono ?_
   rintro e w'⟨rfl,rfl⟩
   go_wp2_with fail
   refine(pG false _ _ (by omega) zO NW.out).mono ?_
   rintro e w'⟨rfl,rfl⟩
   go_wp2_with fail
   refine((HB _).out).mono ?_
   rintro e w'⟨rfl,rfl⟩
   go_wp2_with fail
   refine bodyPost_ret (v:= .tuple #[.agg #[.int .i64 0, .int .i64 0, .string ⟨#[c]⟩, .int .i64 a], .int .i64 (a+1:Nat)]) (by simp[results,Tryz.results156,go_sem]) rfl ⟨rfl,?_⟩
   exact((Below.refl _ _).alloc (Nat.le_refl _) _).alloc (by simp) _
 ·rcases hb with rfl|rfl|rfl<;>rcases Mo with⟨Wn,h2z⟩|Wn
  all_goals
   go_enter Tryz.func156,Tryz.ntmps156
   go_wp2_with fail
   refine(jw false _ _ (by omega) zO ND.out).mono ?_
   rintro e w'⟨rfl,rfl⟩
   go_wp2_with fail
   refine(pG false _ _ (by omega) zO NW.out).mono ?_
   rintro e w'⟨rfl,rfl⟩
   go_wp2_with fail
   refine((HB _).out).mono ?_
   rintro e w'⟨rfl,rfl⟩
   rw[show bM _=0 from rfl]
   go_wp2_with fail
   refine bodyPost_ret (v:= .tuple #[.agg #[.int .i64 0, .int .i64 0, .string _, .int .i64 a], .int .i64 (a+1:Nat)]) (by simp[results,Tryz.results156,go_sem]) rfl ⟨rfl,?_⟩
   exact((Below.refl _ _).alloc (Nat.le_refl _) _).alloc (by simp) _
theorem yo {l:List UInt8}{a j:Nat}{x:List UInt8}(h:l.drop a=x):l[a+j]? =x[j]? :=by rw[←h,List.getElem?_drop]
theorem tG {p:UInt8→Bool}:∀{l:List UInt8}{j:Nat}{u:UInt8},(l.takeWhile p)[j]? =some u→l[j]? =some u∧p u=true
 |[],j,u,h=>by simp at h
 |c::r,j,u,h=>by
  by_cases hc:p c=true
  ·rw[List.takeWhile_cons_of_pos hc]at h
   cases j with
   |zero=>simp at h;subst h;exact⟨rfl,hc⟩
   |succ j=>simpa using tG (l:=r) (j:=j) (u:=u) (by simpa using h)
  ·rw[List.takeWhile_cons_of_neg hc]at h;simp at h
theorem I9 {p:UInt8→Bool}:∀{l:List UInt8}{u:UInt8},l[(l.takeWhile p).length]? =some u→p u=false
 |[],u,h=>by simp at h
 |c::r,u,h=>by
  by_cases hc:p c=true
  ·rw[List.takeWhile_cons_of_pos hc]at h
   exact I9 (l:=r) (u:=u) (by simpa using h)
  ·rw[List.takeWhile_cons_of_neg hc]at h
   simp at h;subst h;simpa using hc
theorem sS {p:UInt8→Bool}:∀(l:List UInt8),l.take (l.takeWhile p).length=l.takeWhile p
 |[]=>rfl
 |c::r=>by
  by_cases hc:p c=true
  ·rw[List.takeWhile_cons_of_pos hc];simp[sS r]
  ·rw[List.takeWhile_cons_of_neg hc];rfl
def bH(k:Nat):Int:=if k=4 then 0 else k
theorem Ja(s:ByteArray)(w:World)(a:Nat)(hs:s.size≤200)(kd n:Nat)(str:List UInt8)(size:Nat)(h:pE (s.data.toList.drop a)=some ((kd,n,str),size)):
 (Calls Tryz.prog 156 #[.string s, .int .i64 a] w fun e w'=>e= .returned (.tuple #[.agg #[.int .i64 (bH kd), .int .i64 n, .string (bL str), .int .i64 a], .int .i64 (a+size:Nat)])∧Below w.heap.size w w')∧0<size∧a+size≤s.size∧n≤9∧str.length≤200:=by
 cases hl:s.data.toList.drop a with
 |nil=>rw[hl]at h;simp[pE]at h
 |cons c r=>
  rw[hl]at h
  have hlen:a+(r.length+1)=s.size:=by
   have h1:(s.data.toList.drop a).length=r.length+1:=by rw[hl];rfl
   rw[List.length_drop,aP]at h1;omega
  have ha:a<s.size:=by omega
  have h0:s.data.toList[a]? =some c:=by have:=yo (j:=0) hl;simpa using this
  have h1:∀j,s.data.toList[a+1+j]? =r[j]? :=fun j=>by have:=yo (j:=j+1) hl;rw[Nat.add_right_comm,Nat.add_assoc];simpa using this
  have jb:s[a]=c:=by have:=cR s a ha;rw[h0]at this;simpa using this.symm
  unfold pE at h
  dsimp only at h
  by_cases hd:lV c=true
  ·rw[if_pos hd]at h
   have hr:pD r=false:=by
    cases hq:pD r with
    |false=>rfl
    |true=>rw[hq]at h;simp at h
   rw[hr]at h
   simp only[Bool.false_eq_true,if_false,Option.some.injEq,Prod.mk.injEq]at h
   obtain⟨⟨rfl,rfl,rfl⟩,rfl⟩:=h
   have IL:=hd
   rw[k9]at IL
   obtain⟨e1,e2⟩:=of_decide_eq_true IL
   refine⟨?_,by omega,by omega,by omega,by simp⟩
   have aX:=I8 s w a c hs ha jb hd (fun d R9=>by
    have h2:=h1 0
    rw[Nat.add_zero,R9]at h2
    cases r with
    |nil=>simp at h2
    |cons x y=>simp at h2;subst h2;exact hr)
   rw[show((c.toNat-48:Nat):Int)=(c.toNat:Int)-48 from by omega]
   exact aX
  ·rw[if_neg hd]at h
   by_cases gW:oh c=true
   ·rw[if_pos gW]at h
    by_cases hn:oo ((c::r).takeWhile cH)=true
    ·rw[if_pos hn]at h
     simp only[Option.some.injEq,Prod.mk.injEq]at h
     obtain⟨⟨rfl,rfl,rfl⟩,rfl⟩:=h
     have hw:cH c=true:=by unfold cH;rw[gW];rfl
     have wg:0<((c::r).takeWhile cH).length:=by rw[List.takeWhile_cons_of_pos hw];simp
     have hle:((c::r).takeWhile cH).length≤(c::r).length:=(List.takeWhile_prefix cH).length_le
     have Yd:((c::r).takeWhile cH).length≤r.length+1:=by simpa using hle
     have NL:(s.extract a (a+((c::r).takeWhile cH).length)).data.toList=(c::r).takeWhile cH:=by
      rw[Lib.extract_data,hl,show a+((c::r).takeWhile cH).length-a=((c::r).takeWhile cH).length from by omega,sS]
     have aX:=Gg s w a ((c::r).takeWhile cH).length c hs wg (by omega) (fun j u hu=>by
      rw[yo hl]at hu
      constructor
      ·intro hj
       obtain⟨v,hv⟩:∃v,((c::r).takeWhile cH)[j]? =some v:=⟨_,List.getElem?_eq_getElem hj⟩
       obtain⟨h3,h4⟩:=tG hv
       rw[hu]at h3;cases h3;exact h4
      ·intro hj;subst hj;exact I9 hu) h0 gW (by rw[NL];exact hn)
     rw[bB NL]at aX
     exact⟨aX,wg,by omega,by omega,by omega⟩
    ·rw[if_neg hn]at h;cases h
   ·rw[if_neg gW]at h
    by_cases zw:c=34
    ·rw[if_pos zw]at h
     subst zw
     have hq:r[(r.takeWhile ec).length]? =some 34∧iK (r.takeWhile ec)=true∧kd=2∧n=0∧str=r.takeWhile ec∧size=(r.takeWhile ec).length+2:=by
      split at h
      ·rename_i x hx
       split at h
       ·simp only[Option.some.injEq,Prod.mk.injEq]at h
        obtain⟨⟨rfl,rfl,rfl⟩,rfl⟩:=h
        refine⟨?_,by assumption,rfl,rfl,rfl,rfl⟩
        have h5:=congrArg (fun l=>l[0]?) hx
        simp only[List.getElem?_drop,Nat.add_zero]at h5
        simpa using h5
       ·cases h
      ·cases h
     obtain⟨hq,ht,rfl,rfl,rfl,rfl⟩:=hq
     have aT:=(List.getElem?_eq_some_iff.1 hq).1
     have aX:=Gf s w a (r.takeWhile ec) hs ha jb (fun j u hu=>by
      obtain⟨h3,h4⟩:=tG hu
      exact⟨(h1 j).trans h3,h4⟩) ((h1 _).trans hq) ht
     exact⟨aX,by omega,by omega,by omega,by omega⟩
    ·rw[if_neg zw]at h
     have qu:c∈cW∧(c=62→r.head?≠some 61)∧kd=4∧n=0∧str=[c]∧size=1:=by
      split at h
      ·rename_i hm
       simp only[Option.some.injEq,Prod.mk.injEq]at h
       obtain⟨⟨rfl,rfl,rfl⟩,rfl⟩:=h
       have NM:=List.contains_iff_mem.1 hm
       refine⟨?_,?_,rfl,rfl,rfl,rfl⟩
       ·simp only[cW,List.mem_cons,List.not_mem_nil,or_false]at NM⊢
        rcases NM with h|h|h|h|h|h|h|h|h|h<;>simp[h]
       ·rintro rfl;simp at NM
      ·split at h
       ·rename_i hm
        simp only[Option.some.injEq,Prod.mk.injEq]at h
        obtain⟨⟨rfl,rfl,rfl⟩,rfl⟩:=h
        exact⟨by rw[hm.1];simp[cW],fun _=>hm.2,rfl,rfl,rfl,rfl⟩
       ·cases h
     obtain⟨hm,EC,rfl,rfl,rfl,rfl⟩:=qu
     have aX:=Gh s w a c hs ha h0 hm (fun hc=>by
      have h3:=EC hc
      have h4:=h1 0
      rw[Nat.add_zero]at h4
      rw[h4]
      cases r with
      |nil=>simp
      |cons x y=>simpa using h3)
     exact⟨aX,by omega,by omega,by omega,by simp⟩
structure tH where
 kind:Int
 n:Int
 s:ByteArray
 at_:Int
instance:az tH where
 size:=4
 rep:=fun _ _ cs x=>cs=[.int .i64 x.kind, .int .i64 x.n, .string x.s, .int .i64 x.at_]∧x.s.size≤200
 len:=fun h=>by rw[h.1];rfl
 flat:=fun h u hu=>by rw[h.1]at hu;simp at hu;rcases hu with rfl|rfl|rfl|rfl<;>rfl
 ev:=fun h _=>h
def kA(t:Tok):tH:=⟨bH t.kind,t.n,bL t.s,t.at_⟩
def aG(b:Nat):Nat→Prop:=fun i=>i=b
structure cT(b:Nat)(lv:Value)(en:Int)(T:List Tok)(w:World)(i:Nat):Prop where
 box:w.heap[b]? =some (.cells #[lv, .int .i64 i, .int .i64 en, .int .i64 (-1)] 257 (0,0))
 toks:ae (aG b) w lv (T.map kA)
 few:T.length≤200
 le:i≤T.length
 kinds:∀t∈T,1≤t.kind∧t.kind≤4
theorem cT.step {b:Nat}{lv:Value}{en:Int}{T:List Tok}{w w':World}{i j:Nat}(h:cT b lv en T w i)(ho:ag (aG b) w w')(hb:w'.heap[b]? =some (.cells #[lv, .int .i64 j, .int .i64 en, .int .i64 (-1)] 257 (0,0)))(hj:j≤T.length):cT b lv en T w' j:=
 ⟨hb,h.toks.ev ⟨ho,fun _ h=> .inl h⟩,h.few,hj,h.kinds⟩
theorem cT.below {b:Nat}{lv:Value}{en:Int}{T:List Tok}{w w':World}{i:Nat}(h:cT b lv en T w i)(hb:Below w.heap.size w w'):cT b lv en T w' i:=
 h.step (ag.aj hb) ((hb.block b (Array.getElem?_eq_some_iff.1 h.box).1).trans h.box) h.le
theorem cT.drewN {b:Nat}{lv:Value}{en:Int}{T:List Tok}{w:World}{i:Nat}(h:cT b lv en T w i)(n:Nat):cT b lv en T (w.drewN n) i:=⟨h.box,h.toks,h.few,h.le,h.kinds⟩
theorem cT.cells {b:Nat}{lv:Value}{en:Int}{T:List Tok}{w:World}{i:Nat}(h:cT b lv en T w i):∃a cap,lv= .slice a T.length cap∧(∀t,T[i]? =some t→∃bl off,a=some ⟨bl,off,none⟩∧bl≠b∧bl<w.heap.size∧w.cell? ⟨bl,off+i*4,none⟩=some (.int .i64 (bH t.kind))∧w.cell? ⟨bl,off+i*4+1,none⟩=some (.int .i64 t.n)∧w.cell? ⟨bl,off+i*4+2,none⟩=some (.string (bL t.s))∧w.cell? ⟨bl,off+i*4+3,none⟩=some (.int .i64 t.at_)):=by
 obtain⟨a,cap,hv,_,_,hc⟩:=h.toks.open_
 rw[List.length_map]at hv hc
 refine⟨a,cap,hv,fun t ht=> ?_⟩
 have hl:=(List.getElem?_eq_some_iff.1 ht).1
 obtain⟨bl,off,ha,hM,bZ,aC⟩:=hc (by omega)
 obtain⟨cs,⟨rfl,_⟩,bE⟩:=aC i (kA t) (by rw[List.getElem?_map,ht];rfl)
 exact⟨bl,off,ha,hM,bZ,bE 0 _ rfl,bE 1 _ rfl,bE 2 _ rfl,bE 3 _ rfl⟩
theorem drop_cons {T:List Tok}{i:Nat}{t:Tok}(h:T[i]? =some t):T.drop i=t::T.drop (i+1):=by
 obtain⟨hl,rfl⟩:=List.getElem?_eq_some_iff.1 h
 exact List.drop_eq_getElem_cons hl
theorem S2 {a:List UInt8}{b:ByteArray}:((bL a).toList==b.toList)=(a==b.data.toList):=by rw[ByteArray.toList_eq,ByteArray.toList_eq];rfl
theorem Jb(b:Nat)(lv:Value)(en:Int)(T:List Tok)(w:World)(i:Nat)(s:ByteArray)(h:cT b lv en T w i)(r:Bool)(hr:da (T.drop i) s.data.toList=r):
 Calls Tryz.prog 208 #[.pointer (some ⟨b,0,none⟩), .string s] w fun e w'=>e= .returned (.bool r)∧∃n,w'=w.drewN n:=by
 obtain⟨a,cap,rfl,hc⟩:=h.cells
 obtain⟨p0,p1,p2,p3⟩:=ab h.box
 have hle:=h.le
 have B8:=h.few
 have hk:=h.kinds
 clear h
 by_cases hi:i<T.length
 ·obtain⟨t,ht⟩:∃t,T[i]? =some t:=⟨_,List.getElem?_eq_getElem hi⟩
  obtain⟨bl,off,rfl,zP,bZ,q0,q1,q2,q3⟩:=hc t ht
  rw[drop_cons ht]at hr
  have kS:=hk t (List.mem_of_getElem? ht)
  have OY:(i:Int)<(T.length:Int):=by omega
  have dF:(0:Int)≤(i:Int):=Int.natCast_nonneg _
  clear hc hk ht
  by_cases h4:t.kind=4
  ·have e0:(bH t.kind==0)=true:=by simp[bH,h4]
   have Wo:((bL t.s).toList==s.toList)=r:=by
    rw[←hr,S2]
    simp[da,h4]
   clear hr h4
   go_enter Tryz.func208,Tryz.ntmps208
   go_wp2_with fail
   go_quiet(fail)
   go_wp2_with fail
   go_ret
   exact⟨rfl,_,rfl⟩
  ·have e0:(bH t.kind==0)=false:=by simp[bH,h4];omega
   have Wo:false=r:=by
    rw[←hr];simp[da,h4]
   subst Wo
   clear hr h4
   go_enter Tryz.func208,Tryz.ntmps208
   go_wp2_with fail
   go_quiet(fail)
   go_wp2_with fail
   go_ret
   exact⟨rfl,_,rfl⟩
 ·have OY:¬(i:Int)<(T.length:Int):=by omega
  have hd:decide ((i:Int)<(T.length:Int))=false:=by simpa using OY
  have R9:decide (i<T.length)=false:=by simpa using hi
  rw[List.drop_eq_nil_of_le (by omega)]at hr
  have Wo:false=r:=hr
  subst Wo
  clear hc hk hr
  go_enter Tryz.func208,Tryz.ntmps208
  go_wp2_with fail
  go_quiet(fail)
  go_wp2_with fail
  go_ret
  exact⟨rfl,_,rfl⟩
theorem ag.Gi {b:Nat}{w w':World}(h:ag (aG b) w w')(i:Nat)(u:Value):ag (aG b) w (w'.setCell ⟨b,i,none⟩ u):=h.setCell (p:=⟨b,i,none⟩) (.inl (show b=b from rfl)) u
def Gj(b:Nat)(lv:Value)(en:Int)(T:List Tok)(w:World)(j:Nat)(e:Ending)(w':World):Prop:=∃v,e= .returned v∧cT b lv en T w' j∧ag (aG b) w w'
theorem E8(b:Nat)(lv:Value)(en:Int)(T:List Tok)(w:World)(i:Nat)(s:ByteArray)(h:cT b lv en T w i)(hr:da (T.drop i) s.data.toList=true):
 Calls Tryz.prog 211 #[.pointer (some ⟨b,0,none⟩), .string s] w (Gj b lv en T w (i+1)):=by
 have aX:=Jb b lv en T w i s h true hr
 have hi:i<T.length:=by
  rcases Nat.lt_or_ge i T.length with h|h
  ·exact h
  ·rw[List.drop_eq_nil_of_le h]at hr;cases hr
 obtain⟨a,cap,rfl,_⟩:=h.cells
 obtain⟨p0,p1,p2,p3⟩:=ab h.box
 have f1:=aa h.box 1
 have B8:=h.few
 have eT:=hD h;clear h;have aS:=hD aX;clear aX
 clear hr
 go_enter Tryz.func211,Tryz.ntmps211
 go_wp2_with fail
 refine(aS.out).mono ?_
 rintro e w1⟨rfl,n,rfl⟩
 go_wp2_with fail
 refine bodyPost_ret (results_none rfl _ _ _) rfl ?_
 refine⟨_,rfl,eT.out.step ?_ ?_ (by omega),?_⟩
 ·exact((ag.refl (aG b) w).drewN n).Gi 1 _
 ·exact heap_setCell_same _ _ 1 _ _ _ eT.out.box
 ·exact((ag.refl (aG b) w).drewN n).Gi 1 _
def eA(w:World):Nat→Prop:=fun i=>i<w.heap.size
def tI(b:Nat)(lv:Value)(en:Int)(T:List Tok)(w:World)(x:an)(r:List Tok)(e:Ending)(w':World):Prop:=
 ∃v j,e= .returned v∧bI (eA w) w' v x∧cT b lv en T w' j∧r=T.drop j∧ag (aG b) w w'
def E9(b:Nat)(lv:Value)(en:Int)(T:List Tok)(k:Nat):Prop:=∀(least i:Nat)(x:an)(r:List Tok)(w:World),1≤least→least≤5→cT b lv en T w i→ic k least (T.drop i)=some (x,r)→
 Calls Tryz.prog 157 #[.pointer (some ⟨b,0,none⟩), .int .i64 least] w (tI b lv en T w x r)
def CP(b:Nat)(lv:Value)(en:Int)(T:List Tok)(k:Nat):Prop:=∀(i:Nat)(x:an)(r:List Tok)(w:World),cT b lv en T w i→im k (T.drop i)=some (x,r)→
 Calls Tryz.prog 191 #[.pointer (some ⟨b,0,none⟩)] w (tI b lv en T w x r)
def Jc(b:Nat)(lv:Value)(en:Int)(T:List Tok)(k:Nat):Prop:=∀(i:Nat)(nm:List UInt8)(l:List an)(r:List Tok)(w:World),0<cO nm→nm.length≤200→cT b lv en T w i→dU k (cO nm) (T.drop i)=some (l,r)→
 Calls Tryz.prog 210 #[.pointer (some ⟨b,0,none⟩), .string (bL nm)] w (tI b lv en T w (.mk 6 0 (bL nm) l) r)
theorem iF(l:List UInt8):(bL l).size=l.length:=by unfold bL;simp[ByteArray.size]
theorem jT(l:List UInt8):(bL l).data.toList=l:=by unfold bL;simp
theorem rL {M:Nat→Prop}{w:World}(k n:Int)(s:ByteArray)(hs:s.size≤maxLen):bI M w (.agg #[.int .i64 k, .int .i64 n, .string s, .slice none 0 0]) (an.mk k n s []):=
 ⟨_,rfl,bS.iff.2 ⟨_,rfl,ae.nil _ _,hs⟩⟩
def oq(T:List Tok):Prop:=∀t∈T,t.s.length≤200∧(t.kind=1→t.s=[])∧(t.kind≠1→t.n=0)∧(t.kind=4→∃c,c∈cW∧t.s=[c])
theorem cT.next {b:Nat}{lv:Value}{en:Int}{T:List Tok}{w wc:World}{i:Nat}(bK:cT b lv en T wc i)(hi:i<T.length)(ho:ag (aG b) w wc):cT b lv en T (wc.setCell ⟨b,1,none⟩ (.int .i64 ((i:Int)+1))) (i+1)∧ag (aG b) w (wc.setCell ⟨b,1,none⟩ (.int .i64 ((i:Int)+1))):=
 ⟨bK.step ((ag.refl (aG b) wc).Gi 1 _) (heap_setCell_same wc b 1 _ _ _ bK.box) (by omega),ho.Gi 1 _⟩
theorem cT.set {b:Nat}{lv:Value}{en:Int}{T:List Tok}{w wc:World}{i:Nat}(bK:cT b lv en T wc i)(hb:b<w.heap.size)(cB:w.heap.size≤wc.heap.size)(hf:∀bl off,lv.ownBlock=some bl→bl<w.heap.size∨off=0∨True)(p:Addr)(hp:w.heap.size≤p.block)(hl:∀x,lv.ownBlock=some x→x<w.heap.size)(u:Value):cT b lv en T (wc.setCell p u) i:=by
 refine⟨(heap_setCell_other _ _ _ _ (by omega)).trans bK.box,?_,bK.few,bK.le,bK.kinds⟩
 obtain⟨css,⟨h1,a,cap,rfl,h3,h4,h5⟩,h2,h6⟩:=bK.toks
 refine⟨css,⟨h1,a,cap,rfl,h3,h4,fun hn=> ?_⟩,h2,fun j cs x hc hx=>h6 j cs x hc hx⟩
 obtain⟨bl,off,rfl,hF,bZ,aC⟩:=h5 hn
 have:=hl bl rfl
 exact⟨bl,off,rfl,hF,by simpa using bZ,fun j u hu=>(World.cell?_of_block (w:=wc) (heap_setCell_other _ _ _ _ (by simp;omega))).trans (aC j u hu)⟩
theorem wL {b:Nat}{lv:Value}{en:Int}{T:List Tok}{w wc:World}{i:Nat}(bK:cT b lv en T wc i)(hi:i<T.length)(ho:ag (aG b) w wc)(hb:b<w.heap.size)(hl:∀x,lv.ownBlock=some x→x<w.heap.size)(v0 v1 v2 v3:Value):
 cT b lv en T (((((wc.setCell ⟨b,1,none⟩ (.int .i64 ((i:Int)+1))).setCell ⟨w.heap.size,0,none⟩ v0).setCell ⟨w.heap.size,1,none⟩ v1).setCell ⟨w.heap.size,2,none⟩ v2).setCell ⟨w.heap.size,3,none⟩ v3) (i+1)∧
 ag (aG b) w (((((wc.setCell ⟨b,1,none⟩ (.int .i64 ((i:Int)+1))).setCell ⟨w.heap.size,0,none⟩ v0).setCell ⟨w.heap.size,1,none⟩ v1).setCell ⟨w.heap.size,2,none⟩ v2).setCell ⟨w.heap.size,3,none⟩ v3):=by
 obtain⟨h1,h2⟩:=bK.next hi ho
 have hz:=ho.size
 refine⟨(((h1.set hb (by simpa using hz) (fun _ _ _=> .inr (.inr trivial)) _ (Nat.le_refl _) hl v0).set hb (by simpa using hz) (fun _ _ _=> .inr (.inr trivial)) _ (Nat.le_refl _) hl v1).set hb (by simpa using hz) (fun _ _ _=> .inr (.inr trivial)) _ (Nat.le_refl _) hl v2).set hb (by simpa using hz) (fun _ _ _=> .inr (.inr trivial)) _ (Nat.le_refl _) hl v3,?_⟩
 exact(((h2.setCell (.inr (Nat.le_refl _)) v0).setCell (.inr (Nat.le_refl _)) v1).setCell (.inr (Nat.le_refl _)) v2).setCell (.inr (Nat.le_refl _)) v3
def oR(w:World)(o0 o1:Obj)(wx:World):Prop:=wx.heap[w.heap.size]? =some o0∧wx.heap[w.heap.size+1]? =some o1∧wx.heap.size=w.heap.size+2∧Below w.heap.size w wx
theorem Jd {w W wx:World}{o0 o1:Obj}(h:W.heap[w.heap.size]? =some o0∧W.heap[w.heap.size+1]? =some o1∧W.heap.size=w.heap.size+2∧Below w.heap.size w W)(h1:wx.heap=W.heap)(h2:wx.os=W.os)(h3:wx.tape=W.tape)(h4:wx.output=W.output):oR w o0 o1 wx:=by
 unfold oR
 rw[h1]
 obtain⟨a,b,c,d⟩:=h
 exact⟨a,b,c,⟨h2.trans d.os,h3.trans d.tape,h4.trans d.output,by rw[h1];exact d.size,by rw[h1];exact d.block⟩⟩
theorem CQ(b:Nat)(lv:Value)(en:Int)(T:List Tok)(mh:oq T)(k:Nat)(HC:Jc b lv en T k):CP b lv en T (k+1):=by
 intro i x r w bK hp
 have B8:=bK.few
 have oX:=bK.box
 have bZ:b<w.heap.size:=(Array.getElem?_eq_some_iff.1 oX).1
 obtain⟨p0,p1,p2,p3⟩:=ab oX
 have f1:=aa oX 1
 rcases Nat.lt_or_ge i T.length with hi|hi
 ·obtain⟨t,ht⟩:∃t,T[i]? =some t:=⟨_,List.getElem?_eq_getElem hi⟩
  obtain⟨a,cap,rfl,hc⟩:=bK.cells
  obtain⟨bl,off,rfl,zP,B9,q0,q1,q2,q3⟩:=hc t ht
  have iC:=List.mem_of_getElem? ht
  obtain⟨sw,Lb,TC,_⟩:=mh t iC
  have kS:=bK.kinds t iC
  rw[drop_cons ht]at hp
  unfold im at hp
  dsimp only at hp
  have OY:(i:Int)<(T.length:Int):=by omega
  have qb6:¬(T.length:Int)≤(i:Int):=by omega
  have R9:decide (T.length≤i)=false:=by simp;omega
  have R5:decide ((T.length:Int)≤(i:Int))=false:=by simp;omega
  have dF:(0:Int)≤(i:Int):=Int.natCast_nonneg _
  have qb7:b≠w.heap.size:=by omega
  have qbr:bl≠w.heap.size:=by omega
  have qbs:=hD (drop_cons ht)
  clear hc ht iC
  have eT:=hD bK;clear bK;have Il:=hD oX;clear oX;have HP:=hD hp;clear hp;have nf:=hD Lb;clear Lb;have Qq:=hD TC;clear TC
  go_enter Tryz.func191,Tryz.ntmps191
  go_wp2_with fail
  go_quiet(fail)
  go_upto_region 3 with fail
  go_cut [3](fun s3 wx=>s3= .pointer (some ⟨w.heap.size+1,0,none⟩)∧oR w (.cells #[.int .i64 0, .int .i64 0, .string ⟨#[]⟩, .slice none 0 0] 232) (.cells #[.int .i64 (bH t.kind), .int .i64 t.n, .string (bL t.s), .int .i64 t.at_] 259) wx)
  case first=>
   go_region_held3(fun w'=>w'.cell? ⟨b,0,none⟩=some (.slice (some ⟨bl,off,none⟩) T.length cap)∧w'.cell? ⟨b,1,none⟩=some (.int .i64 i)∧w'.cell? ⟨bl,off+i*4,none⟩=some (.int .i64 (bH t.kind))∧w'.cell? ⟨bl,off+i*4+1,none⟩=some (.int .i64 t.n)∧w'.cell? ⟨bl,off+i*4+2,none⟩=some (.string (bL t.s))∧w'.cell? ⟨bl,off+i*4+3,none⟩=some (.int .i64 t.at_))
    (first|go_keep)(first|fail)
   all_goals(go_wp2_with fail;go_meet;exact⟨rfl,Jd (iM (w:=w) (o0:= .cells #[.int .i64 0, .int .i64 0, .string ⟨#[]⟩, .slice none 0 0] 232) (o1:= .cells #[.int .i64 (bH t.kind), .int .i64 t.n, .string (bL t.s), .int .i64 t.at_] 259) rfl) rfl rfl rfl rfl⟩)
  case rest=>
   obtain⟨rfl,Im,FN,fH,CB⟩:=hcut
   have Lc:=hD (eT.out.below CB)
   clear p0 p1 p2 p3 f1 q0 q1 q2 q3
   obtain⟨p0,p1,p2,p3⟩:=ab Lc.out.box
   have f1:=aa Lc.out.box 1
   obtain⟨r0,r1,r2,r3⟩:=ab Im
   have g0:=aa Im 0
   have g1:=aa Im 1
   have g2:=aa Im 2
   have g3:=aa Im 3
   obtain⟨x0,x1,x2,x3⟩:=ab FN
   have hsx:w.heap.size+1<wc.heap.size:=by omega
   have n1:b≠w.heap.size+1:=by omega
   have we:=hD Im;clear Im;have gZ:=hD FN;clear FN;have CA:=hD fH;clear fH;have Ye:=hD CB;clear CB
   by_cases h1:t.kind=1
   ·have hp:=HP.out
    rw[if_pos h1]at hp
    simp only[Option.some.injEq,Prod.mk.injEq]at hp
    obtain⟨rfl,rfl⟩:=hp
    have e1:(bH t.kind==1)=true:=by simp[bH,h1]
    have HK:Hid (bH t.kind=1):=(show _=_ by simp[bH,h1])
    have HS0:=hD (nf.out h1)
    clear h1 kS
    go_wp2_with fail
    refine bodyPost_ret (v:= .agg #[.int .i64 1, .int .i64 t.n, .string (bL []), .slice none 0 0]) (by simp[results,Tryz.results191,go_sem,r0,r1,r2,r3,HK.out,HS0.out]) rfl ?_
    obtain⟨k1,k2⟩:=wL Lc.out hi (ag.aj Ye.out) bZ (fun x hx=>by cases hx;exact B9) (.int .i64 (bH t.kind)) (.int .i64 t.n) (.string (bL t.s)) (.slice none 0 0)
    exact⟨_,i+1,rfl,rL _ _ _ (by rw[iF];unfold maxLen;simp),k1,rfl,k2⟩
   ·by_cases h2:t.kind=2
    ·have hp:=HP.out
     rw[if_neg h1,if_pos h2]at hp
     simp only[Option.some.injEq,Prod.mk.injEq]at hp
     obtain⟨rfl,rfl⟩:=hp
     have e1:(bH t.kind==1)=false:=by simp[bH,h2]
     have e2:(bH t.kind==2)=true:=by simp[bH,h2]
     have HK:Hid (bH t.kind=2):=(show _=_ by simp[bH,h2])
     have HN0:=hD (Qq.out h1)
     clear h1 h2 kS
     go_wp2_with fail
     refine bodyPost_ret (v:= .agg #[.int .i64 2, .int .i64 0, .string (bL t.s), .slice none 0 0]) (by simp[results,Tryz.results191,go_sem,r0,r1,r2,r3,HK.out,HN0.out]) rfl ?_
     obtain⟨k1,k2⟩:=wL Lc.out hi (ag.aj Ye.out) bZ (fun x hx=>by cases hx;exact B9) (.int .i64 (bH t.kind)) (.int .i64 t.n) (.string (bL t.s)) (.slice none 0 0)
     exact⟨_,i+1,rfl,rL _ _ _ (by rw[iF];unfold maxLen;omega),k1,rfl,k2⟩
    ·by_cases h3:t.kind=3
     ·have hp:=HP.out
      rw[if_neg h1,if_neg h2,if_pos h3]at hp
      have e1:(bH t.kind==1)=false:=by simp[bH,h3]
      have e2:(bH t.kind==2)=false:=by simp[bH,h3]
      have e3:(bH t.kind==3)=true:=by simp[bH,h3]
      obtain⟨m1,m2⟩:=Lc.out.next hi (ag.aj Ye.out)
      have OZ:=hD m1
      have Yf:=hD m2
      clear m1 m2 h1 h2 h3 kS
      have OU:Hid (∀r,da (T.drop (i+1)) [40]=r→Calls Tryz.prog 208 #[.pointer (some ⟨b,0,none⟩), .string ⟨#[40]⟩] (wc.setCell ⟨b,1,none⟩ (.int .i64 ((i:Int)+1))) fun e w'=>e= .returned (.bool r)∧∃n,w'=(wc.setCell ⟨b,1,none⟩ (.int .i64 ((i:Int)+1))).drewN n):=(show∀r,_→_ from fun r hr=>Jb b _ en T _ (i+1) ⟨#[40]⟩ OZ.out r hr)
      have Sa:Hid (∀W,Calls Tryz.prog 209 #[.string (bL t.s)] W fun e w'=>e= .returned (.int .i64 (cO t.s))∧W=w'):=(show∀W,_ from fun W=>by have h:=qM (bL t.s) W;rw[jT]at h;exact h)
      obtain⟨sg,qu⟩:∃sg,da (T.drop (i+1)) [40]=sg:=⟨_,rfl⟩
      have aS:=hD (OU.out sg qu)
      rw[qu]at hp
      have TD:=hD qu;clear qu;have Sb:=hD hp;clear hp
      clear OU
      go_wp2_with fail
      refine(aS.out).mono ?_
      rintro e w5⟨rfl,nn,Qr⟩
      have sL:Hid (cT b (.slice (some ⟨bl,off,none⟩) T.length cap) en T w5 (i+1)):=(show cT _ _ _ _ _ _ by rw[Qr];exact OZ.out.drewN nn)
      have IM:Hid (ag (aG b) w w5):=(show ag _ _ _ by rw[Qr];exact Yf.out.drewN nn)
      have xZ:Hid (w5.heap[w.heap.size]? =some (.cells #[.int .i64 0, .int .i64 0, .string ⟨#[]⟩, .slice none 0 0] 232 (0,0))):=(show _=_ by rw[Qr];exact(heap_setCell_other _ _ _ _ (by simp;omega)).trans we.out)
      have HY5:Hid (w5.heap[w.heap.size+1]? =some (.cells #[.int .i64 (bH t.kind), .int .i64 t.n, .string (bL t.s), .int .i64 t.at_] 259 (0,0))):=(show _=_ by rw[Qr];exact(heap_setCell_other _ _ _ _ (by simp;omega)).trans gZ.out)
      clear Qr p0 p1 p2 p3 f1 r0 r1 r2 r3 g0 g1 g2 g3 x0 x1 x2 x3 aS
      obtain⟨p0,p1,p2,p3⟩:=ab sL.out.box
      have f1:=aa sL.out.box 1
      obtain⟨r0,r1,r2,r3⟩:=ab xZ.out
      have g0:=aa xZ.out 0
      have g1:=aa xZ.out 1
      have g2:=aa xZ.out 2
      have g3:=aa xZ.out 3
      obtain⟨x0,x1,x2,x3⟩:=ab HY5.out
      have Ca:=IM.out.size
      have hsR:w.heap.size<w5.heap.size:=(Array.getElem?_eq_some_iff.1 xZ.out).1
      have FLD:Hid (∀W',W'=(((w5.setCell ⟨w.heap.size,0,none⟩ (.int .i64 3)).setCell ⟨w.heap.size,1,none⟩ (.int .i64 0)).setCell ⟨w.heap.size,2,none⟩ (.string (bL t.s))).setCell ⟨w.heap.size,3,none⟩ (.slice none 0 0)→cT b (.slice (some ⟨bl,off,none⟩) T.length cap) en T W' (i+1)∧ag (aG b) w W'):=(show∀W',_→_ from fun W' h=>by
       rw[h]
       have hl:∀y,(Value.slice (some ⟨bl,off,none⟩) T.length cap).ownBlock=some y→y<w.heap.size:=fun y hy=>by cases hy;exact B9
       have ht:∀(x y:Nat),(Value.slice (some ⟨bl,off,none⟩) T.length cap).ownBlock=some x→x<w.heap.size∨y=0∨True:=fun _ _ _=> .inr (.inr trivial)
       exact⟨(((sL.out.set bZ Ca ht _ (Nat.le_refl _) hl _).set bZ (by simpa using Ca) ht _ (Nat.le_refl _) hl _).set bZ (by simpa using Ca) ht _ (Nat.le_refl _) hl _).set bZ (by simpa using Ca) ht _ (Nat.le_refl _) hl _,(((IM.out.setCell (.inr (Nat.le_refl _)) _).setCell (.inr (Nat.le_refl _)) _).setCell (.inr (Nat.le_refl _)) _).setCell (.inr (Nat.le_refl _)) _⟩)
      cases sg
      ·have hx:x= .mk 3 0 (bL t.s) []∧r=T.drop (i+1):=by
        have hp:=Sb.out
        rw[if_neg (by simp)]at hp
        simp only[Option.some.injEq,Prod.mk.injEq]at hp
        exact⟨hp.1.symm,hp.2.symm⟩
       obtain⟨rfl,rfl⟩:=hx
       go_wp2_with fail
       refine bodyPost_ret (v:= .agg #[.int .i64 3, .int .i64 0, .string (bL t.s), .slice none 0 0]) (by simp[results,Tryz.results191,go_sem,r0,r1,r2,r3]) rfl ?_
       obtain⟨k1,k2⟩:=FLD.out _ rfl
       exact⟨_,i+1,rfl,rL _ _ _ (by rw[iF];unfold maxLen;omega),k1,rfl,k2⟩
      ·rcases Nat.eq_zero_or_pos (cO t.s)with ha|ha
       ·have hx:x= .mk 3 0 (bL t.s) []∧r=T.drop (i+1):=by
         have hp:=Sb.out
         rw[if_neg (by omega)]at hp
         simp only[Option.some.injEq,Prod.mk.injEq]at hp
         exact⟨hp.1.symm,hp.2.symm⟩
        obtain⟨rfl,rfl⟩:=hx
        rw[ha]at Sa
        clear ha
        go_wp2_with fail
        refine(Sa.out _).mono ?_
        rintro e w6⟨rfl,rfl⟩
        go_wp2_with fail
        refine bodyPost_ret (v:= .agg #[.int .i64 3, .int .i64 0, .string (bL t.s), .slice none 0 0]) (by simp[results,Tryz.results191,go_sem,r0,r1,r2,r3]) rfl ?_
        obtain⟨k1,k2⟩:=FLD.out _ rfl
        exact⟨_,i+1,rfl,rL _ _ _ (by rw[iF];unfold maxLen;omega),k1,rfl,k2⟩
       ·have hp:=Sb.out
        rw[if_pos ⟨ha,rfl⟩]at hp
        have O0:i+1<T.length:=by
         rcases Nat.lt_or_ge (i+1) T.length with h|h
         ·exact h
         ·have qu:=TD.out;rw[List.drop_eq_nil_of_le h]at qu;cases qu
        obtain⟨l,r',FO,rfl,rfl⟩:∃l r',dU k (cO t.s) (T.drop (i+2))=some (l,r')∧x= .mk 6 0 (bL t.s) l∧r=r':=by
         rw[List.drop_drop,show i+1+1=i+2 from rfl]at hp
         cases hq:dU k (cO t.s) (T.drop (i+2))with
         |none=>rw[hq]at hp;cases hp
         |some q=>obtain⟨l,r'⟩:=q;rw[hq]at hp;simp only[Option.some.injEq,Prod.mk.injEq]at hp;exact⟨l,r',rfl,hp.1.symm,hp.2.symm⟩
        have Wm:(0:Int)<(cO t.s:Int):=by omega
        obtain⟨m1,m2⟩:=sL.out.next O0 IM.out
        rw[show((i+1:Nat):Int)+1=(i:Int)+1+1 from by omega]at m1 m2
        have hz6:=m2.size
        simp at hz6
        have aX:=HC (i+2) t.s l r _ ha sw m1 FO
        have vd:=hD aX;clear aX;have HM6:=hD m1;clear m1;have O1:=hD m2;clear m2
        clear hp FO ha
        go_wp2_with fail
        refine(Sa.out _).mono ?_
        rintro e w6⟨rfl,rfl⟩
        go_wp2_with fail
        refine(vd.out).mono ?_
        rintro e w7⟨v,j,rfl,⟨cs,rfl,bw⟩,Ld,hrj,Le⟩
        obtain⟨av,rfl,aU,iD⟩:=bS.iff.1 bw
        obtain⟨ka,kc,rfl,_⟩:=aU.open_
        have NN:Hid (w7.heap[w.heap.size]? =some (.cells #[.int .i64 0, .int .i64 0, .string ⟨#[]⟩, .slice none 0 0] 232 (0,0))):=(Le.block w.heap.size (by simp;omega) (by unfold aG;omega)).trans ((heap_setCell_other _ _ _ _ (by simp;omega)).trans xZ.out)
        clear p0 p1 p2 p3 f1 r0 r1 r2 r3 g0 g1 g2 g3 x0 x1 x2 x3
        obtain⟨r0,r1,r2,r3⟩:=ab NN.out
        have g0:=aa NN.out 0
        have g1:=aa NN.out 1
        have g2:=aa NN.out 2
        have g3:=aa NN.out 3
        have eR:=hD bw;clear bw;have Yg:=hD Ld;clear Ld;have HRJ:=hD hrj;clear hrj;have Yh:=hD Le;clear Le;have eM:=hD aU;clear aU;have sx:=hD iD;clear iD
        go_wp2_with fail
        refine bodyPost_ret (v:= .agg #[.int .i64 6, .int .i64 0, .string (bL t.s), .slice ka l.length kc]) (by simp[results,Tryz.results191,go_sem,r0,r1,r2,r3]) rfl ?_
        have hl:∀y,(Value.slice (some ⟨bl,off,none⟩) T.length cap).ownBlock=some y→y<w.heap.size:=fun y hy=>by cases hy;exact B9
        have ht:∀(x y:Nat),(Value.slice (some ⟨bl,off,none⟩) T.length cap).ownBlock=some x→x<w.heap.size∨y=0∨True:=fun _ _ _=> .inr (.inr trivial)
        have ho8:=(O1.out.trans Yh.out)
        have Wp:=ho8.size
        refine⟨_,j,rfl,⟨_,rfl,bS.iff.2 ⟨_,rfl,eM.out.ev ?_,sx.out⟩⟩,?_,HRJ.out,?_⟩
        ·exact((((Ev.ee w7 (fun i h=>by unfold eA at h⊢;simp;omega)).setCell (.inl (by unfold eA;simp;omega)) _).setCell (.inl (by unfold eA;simp;omega)) _).setCell (.inl (by unfold eA;simp;omega)) _).setCell (.inl (by unfold eA;simp;omega)) _
        ·exact(((Yg.out.set bZ Wp ht _ (Nat.le_refl _) hl _).set bZ (by simpa using Wp) ht _ (Nat.le_refl _) hl _).set bZ (by simpa using Wp) ht _ (Nat.le_refl _) hl _).set bZ (by simpa using Wp) ht _ (Nat.le_refl _) hl _
        ·exact(((ho8.setCell (.inr (Nat.le_refl _)) _).setCell (.inr (Nat.le_refl _)) _).setCell (.inr (Nat.le_refl _)) _).setCell (.inr (Nat.le_refl _)) _
     ·exfalso
      have hp:=HP.out
      rw[if_neg h1,if_neg h2,if_neg h3]at hp
      cases hp
 ·rw[List.drop_eq_nil_of_le hi]at hp
  simp[im]at hp
end Go.Proofs.YtlkjnefenialbaaGreatDoor
