/- What the signs of an expression are; no condition beyond each theorem's own. -/
import Derived.Test.YtlkjnefenialbaaGreatDoorM21
import Derived.Shelf.Strings.Prefix
set_option linter.unusedVariables false
set_option linter.unusedSimpArgs false
set_option maxHeartbeats 8000000
set_option maxRecDepth 100000
namespace Go.Proofs.YtlkjnefenialbaaGreatDoor
open Go.RowKit Go.Shelf
def mP:Go.Shelf.Ren:=⟨fun|99=>265|206=>277|n=>n,fun|9=>9|4=>4|3=>3|n=>n,fun|n=>n⟩
theorem DA:Go.Proofs.Lays.n99 Tryz.prog mP:={
 mixed:=by kernel_rfl
 f99:=Tryz.func265.trans (congrArg some (by kernel_rfl))
 f206:=Tryz.func277.trans (congrArg some (by kernel_rfl))
 t3:=Tryz.underlying3
 a3:=Tryz.isAgg3
 z3:=Tryz.sizeOf3
 v3:=Tryz.zeroValue3
 t4:=Tryz.underlying4
 a4:=Tryz.isAgg4
 z4:=Tryz.sizeOf4
 v4:=Tryz.zeroValue4
 t9:=Tryz.underlying9
 a9:=Tryz.isAgg9
 z9:=Tryz.sizeOf9
 v9:=Tryz.zeroValue9}
theorem M7:mP.f 99=265:=by kernel_rfl
theorem DB(s p:ByteArray)(w:World):Calls Tryz.prog 265 #[.string s, .string p] w fun e w'=>e= .returned (.bool (Lib.hasPrefix s.data.toList p.data.toList))∧w=w':=by
 have h:=Any.strings_HasPrefix DA s p w
 rw[M7]at h
 exact h.mono fun e w'⟨h1,h2⟩=>⟨h1,h2.symm⟩
def cM:List (List UInt8):=[[61],[60,62],[60],[60,61],[62],[62,61],[38],[43],[45],[42],[47],[37],[40],[41],[44]]
def yQ:Obj:= .cells #[.string ⟨#[61]⟩, .string ⟨#[60,62]⟩, .string ⟨#[60]⟩, .string ⟨#[60,61]⟩, .string ⟨#[62]⟩, .string ⟨#[62,61]⟩, .string ⟨#[38]⟩, .string ⟨#[43]⟩, .string ⟨#[45]⟩, .string ⟨#[42]⟩, .string ⟨#[47]⟩, .string ⟨#[37]⟩, .string ⟨#[40]⟩, .string ⟨#[41]⟩, .string ⟨#[44]⟩] 9 (0,0)
theorem JW {W:World}{B k:Nat}(h:W.heap[B]? =some yQ)(hk:k<15):W.cell? ⟨B,k,none⟩=some (.string (bL (cM.getD k []))):=by
 rcases k with _|_|_|_|_|_|_|_|_|_|_|_|_|_|_|k
 all_goals first|omega|exact cell_of_heap h rfl
theorem DC:∀k:Fin 15,cM.getD k.val []∉cM.take k.val:=by decide
theorem DD(k:Nat)(hk:k<15):cM.take (k+1)=cM.take k++[cM.getD k []]:=by
 rw[List.take_add_one,List.getD_eq_getElem?_getD,List.getElem?_eq_getElem (show k<cM.length from hk)];rfl
theorem DE(s:ByteArray)(c:UInt8)(hc:[c]∈cM)(hp:∀t∈cM,Lib.hasPrefix s.data.toList t=decide (t=[c]))(B:Nat)(w:World)(hB:w.heap[B]? =some yQ):
 Calls Tryz.prog 248 #[.string s, .slice (some ⟨B,0,none⟩) 15 15] w fun e w'=>e= .returned (.string ⟨#[c]⟩)∧w=w':=by
 have vj:Hid (∀k,k<15→w.cell? ⟨B,k,none⟩=some (.string (bL (cM.getD k [])))):=(show∀k,_→_ from fun k hk=>JW hB hk)
 have HP:Hid (∀k,k<15→Calls Tryz.prog 265 #[.string s, .string (bL (cM.getD k []))] w fun e w'=>e= .returned (.bool (decide (cM.getD k []=[c])))∧w=w'):=(show∀k,_→_ from fun k hk=>by
  have h:=DB s (bL (cM.getD k [])) w
  have hm:cM.getD k []∈cM:=by
   rw[List.getD_eq_getElem?_getD,List.getElem?_eq_getElem (show k<cM.length from hk)]
   exact List.getElem_mem _
  rw[show(bL (cM.getD k [])).data.toList=cM.getD k []by simp[bL],hp _ hm]at h
  exact h)
 have HC:=hD hc
 clear hc hp hB
 have dc:(⟨#[c]⟩:ByteArray).size=1:=rfl
 go_enter Tryz.func248,Tryz.ntmps248
 go_wp2_with fail
 go_loopg [5,7,10]15(fun g r5 _ iv wr=>∃k:Nat,k≤15∧g=15-k∧iv= .int .i64 k∧w=wr∧((r5= .string ⟨#[]⟩∧Hid ([c]∉cM.take k))∨(r5= .string ⟨#[c]⟩∧Hid ([c]∈cM.take k))))
 case atStart=>exact⟨0,Nat.zero_le _,rfl,rfl,rfl, .inl ⟨rfl,(show _∉_ by simp)⟩⟩
 case round=>
  obtain⟨k,hk,rfl,rfl,rfl,hr⟩:=hrel
  by_cases aT:k<15
  ·have q0:=vj.out k aT
   have oW:=hD (HP.out k aT)
   have nf:=hD (DD k aT)
   have ko:=hD (DC ⟨k,aT⟩)
   obtain⟨t,ht⟩:∃t,cM.getD k []=t:=⟨_,rfl⟩
   rw[ht]at q0 oW nf
   dsimp only at ko
   rw[ht]at ko
   clear ht
   by_cases Uz:t=[c]
   ·subst Uz
    have hd:decide ([c]=[c])=true:=by simp
    rw[hd]at oW
    clear hd
    have q1:w.cell? ⟨B,k,none⟩=some (.string ⟨#[c]⟩):=q0
    have Zf:Hid (Calls Tryz.prog 265 #[.string s, .string ⟨#[c]⟩] w fun e w'=>e= .returned (.bool true)∧w=w'):=oW.out
    clear q0 oW
    rcases hr with⟨rfl,HR⟩|⟨rfl,HR⟩
    ·go_wp2_with fail
     refine(Zf.out).mono ?_
     rintro e w'⟨rfl,rfl⟩
     go_wp2_with fail
     go_roundg(15-(k+1))
     case measure=>omega
     case rel=>exact⟨k+1,by omega,rfl,by go_num,rfl, .inr ⟨rfl,(show _∈_ by rw[nf.out];simp)⟩⟩
    ·exact absurd HR.out ko.out
   ·have hd:decide (t=[c])=false:=by simpa using Uz
    rw[hd]at oW
    have zX:=hD Uz
    clear hd Uz
    rcases hr with⟨rfl,HR⟩|⟨rfl,HR⟩
    all_goals
     go_wp2_with fail
     refine(oW.out).mono ?_
     rintro e w'⟨rfl,rfl⟩
     go_wp2_with fail
     go_roundg(15-(k+1))
     case measure=>omega
     case rel=>
      first
       |exact⟨k+1,by omega,rfl,by go_num,rfl, .inl ⟨rfl,(show _∉_ by rw[nf.out];intro h;rcases List.mem_append.1 h with h|h;exact HR.out h;simp at h;exact zX.out h.symm)⟩⟩
       |exact⟨k+1,by omega,rfl,by go_num,rfl, .inr ⟨rfl,(show _∈_ by rw[nf.out];exact List.mem_append_left _ HR.out)⟩⟩
  ·obtain rfl:k=15:=by omega
   rcases hr with⟨rfl,HR⟩|⟨rfl,HR⟩
   ·exact absurd HC.out HR.out
   ·go_wp2_with fail
    go_ret
    exact⟨rfl,rfl⟩
theorem Te {c:UInt8}:cH c=p8 (c.toNat:Int):=by
 unfold cH p8
 rw[pJ,k9]
 congr 1
 rw[Bool.eq_iff_iff];simp
 constructor
 ·rintro rfl;rfl
 ·intro h;rw[←UInt8.toNat_inj];simpa using(by omega:c.toNat=95)
theorem JX(s:ByteArray)(h0:0<s.size)(c:Int)(hc:∀h,((s[0]'h).toNat:Int)=c)(h1:48≤c)(h2:c≤57)(k n:Int)(t:ByteArray)(m:Int)(w:World)
 (HN:Hid (∀W,Calls Tryz.prog 245 #[.string s] W fun e w'=>e= .returned (.tuple #[iZ k n t 0, .int .i64 m])∧Below W.heap.size W w')):
 Calls Tryz.prog 215 #[.string s] w fun e w'=>e= .returned (.tuple #[iZ k n t 0, .int .i64 m])∧Below w.heap.size w w':=by
 go_enter Tryz.func215,Tryz.ntmps215
 go_wp2_with fail
 refine(HN.out _).mono ?_
 rintro e w1⟨rfl,aw⟩
 obtain⟨g0,g1,g2,g3⟩:=ab (boxed aw)
 have f0:=aa (boxed aw) 0
 have f1:=aa (boxed aw) 1
 have f2:=aa (boxed aw) 2
 have f3:=aa (boxed aw) 3
 have HB:=hD (aL aw)
 clear aw
 unfold iZ
 go_wp2_with fail
 refine bodyPost_ret (v:= .tuple #[iZ k n t 0, .int .i64 m]) (by simp[results,Tryz.results215,go_sem,iZ,g0,g1,g2,g3]) rfl ⟨rfl,?_⟩
 exact(((HB.out.setCell (by simp) _).setCell (by simp) _).setCell (by simp) _).setCell (by simp) _
theorem GW(s:ByteArray)(h0:0<s.size)(c:Int)(hc:∀h,((s[0]'h).toNat:Int)=c)(h1:97≤c)(h2:c≤122)(k n:Int)(t:ByteArray)(m:Int)(w:World)
 (HN:Hid (∀W,Calls Tryz.prog 246 #[.string s] W fun e w'=>e= .returned (.tuple #[iZ k n t 0, .int .i64 m])∧Below W.heap.size W w')):
 Calls Tryz.prog 215 #[.string s] w fun e w'=>e= .returned (.tuple #[iZ k n t 0, .int .i64 m])∧Below w.heap.size w w':=by
 have a1:48≤c:=by omega
 have a2:¬c≤57:=by omega
 go_enter Tryz.func215,Tryz.ntmps215
 go_wp2_with fail
 refine(HN.out _).mono ?_
 rintro e w1⟨rfl,aw⟩
 obtain⟨g0,g1,g2,g3⟩:=ab (boxed aw)
 have f0:=aa (boxed aw) 0
 have f1:=aa (boxed aw) 1
 have f2:=aa (boxed aw) 2
 have f3:=aa (boxed aw) 3
 have HB:=hD (aL aw)
 clear aw
 unfold iZ
 go_wp2_with fail
 refine bodyPost_ret (v:= .tuple #[iZ k n t 0, .int .i64 m]) (by simp[results,Tryz.results215,go_sem,iZ,g0,g1,g2,g3]) rfl ⟨rfl,?_⟩
 exact(((HB.out.setCell (by simp) _).setCell (by simp) _).setCell (by simp) _).setCell (by simp) _
theorem GX(s:ByteArray)(h0:0<s.size)(hc:∀h,((s[0]'h).toNat:Int)=34)(k n:Int)(t:ByteArray)(m:Int)(w:World)
 (HN:Hid (∀W,Below w.heap.size w W→Calls Tryz.prog 247 #[.string s] W fun e w'=>e= .returned (.tuple #[iZ k n t 0, .int .i64 m])∧Below W.heap.size W w')):
 Calls Tryz.prog 215 #[.string s] w fun e w'=>e= .returned (.tuple #[iZ k n t 0, .int .i64 m])∧Below w.heap.size w w':=by
 go_enter Tryz.func215,Tryz.ntmps215
 go_wp2_with fail
 refine(HN.out _ ((Below.refl _ _).alloc (Nat.le_refl _) _)).mono ?_
 rintro e w1⟨rfl,aw⟩
 obtain⟨g0,g1,g2,g3⟩:=ab (boxed aw)
 have f0:=aa (boxed aw) 0
 have f1:=aa (boxed aw) 1
 have f2:=aa (boxed aw) 2
 have f3:=aa (boxed aw) 3
 have HB:=hD (aL aw)
 clear aw
 unfold iZ
 go_wp2_with fail
 refine bodyPost_ret (v:= .tuple #[iZ k n t 0, .int .i64 m]) (by simp[results,Tryz.results215,go_sem,iZ,g0,g1,g2,g3]) rfl ⟨rfl,?_⟩
 exact(((HB.out.setCell (by simp) _).setCell (by simp) _).setCell (by simp) _).setCell (by simp) _
theorem xh(s:ByteArray)(h0:0<s.size)(c:UInt8)(hc:∀h,s[0]'h=c)(h1:c∈([38,43,45,42,47,37,40,41,44,61,62]:List UInt8))(hp:∀t∈cM,Lib.hasPrefix s.data.toList t=decide (t=[c]))(w:World):
 Calls Tryz.prog 215 #[.string s] w fun e w'=>e= .returned (.tuple #[iZ 4 0 ⟨#[c]⟩ 0, .int .i64 1])∧Below w.heap.size w w':=by
 have jP:[c]∈cM:=by
  simp only[List.mem_cons,List.not_mem_nil,or_false]at h1
  rcases h1 with rfl|rfl|rfl|rfl|rfl|rfl|rfl|rfl|rfl|rfl|rfl<;>decide
 have HLG:Hid (∀(W:World)(B:Nat),W.heap[B]? =some yQ→_):=(show∀(W:World)(B:Nat),_→_ from fun W B hB=>DE s c jP hp B W hB)
 obtain⟨d,hd⟩:∃d:Int,(c.toNat:Int)=d:=⟨_,rfl⟩
 have hcd:((48≤d∧¬d≤57)∨¬48≤d)∧¬97≤d∧(d==34)=false:=by
  simp only[List.mem_cons,List.not_mem_nil,or_false]at h1
  subst hd
  rcases h1 with rfl|rfl|rfl|rfl|rfl|rfl|rfl|rfl|rfl|rfl|rfl<;>decide
 obtain⟨gz,qw,hc3⟩:=hcd
 have q0:∀h,((s[0]'h).toNat:Int)=d:=fun h=>by rw[hc h];exact hd
 have dc:(⟨#[c]⟩:ByteArray).size=1:=rfl
 have hne:((⟨#[c]⟩:ByteArray).toList==(⟨#[]⟩:ByteArray).toList)=false:=by
  cases hq:((⟨#[c]⟩:ByteArray).toList==(⟨#[]⟩:ByteArray).toList)with
  |false=>rfl
  |true=>have:=congrArg ByteArray.size (qV hq);cases this
 clear hd hc h1 hp jP
 rcases gz with⟨gz,hc4⟩|gz
 all_goals
  go_enter Tryz.func215,Tryz.ntmps215
  go_wp2_with fail
  refine(HLG.out _ _ (by exact(Bx.eO w XV yQ).bh rfl)).mono ?_
  rintro e w1⟨rfl,rfl⟩
  go_wp2_with fail
  refine bodyPost_ret (v:= .tuple #[iZ 4 0 ⟨#[c]⟩ 0, .int .i64 1]) (by simp[results,Tryz.results215,go_sem,iZ]) rfl ⟨rfl,?_⟩
  exact((Below.refl _ w).alloc (Nat.le_refl _) _).alloc (by simp) _
theorem XW(c x:UInt8)(r:List UInt8):Lib.hasPrefix (c::r) [x]=decide (x=c):=by
 unfold Lib.hasPrefix
 rw[Bool.eq_iff_iff]
 simp[List.isPrefixOf]
theorem Tf(c x y:UInt8)(r:List UInt8)(h:x≠c∨r.head?≠some y):Lib.hasPrefix (c::r) [x,y]=false:=by
 cases hq:Lib.hasPrefix (c::r) [x,y]with
 |false=>rfl
 |true=>
  unfold Lib.hasPrefix at hq
  cases r with
  |nil=>simp[List.isPrefixOf]at hq
  |cons d r=>simp[List.isPrefixOf]at hq;rcases h with h|h;exact absurd hq.1 h;simp at h;exact absurd hq.2.symm h
theorem A5(c:UInt8)(r:List UInt8)(h:c∈([38,43,45,42,47,37,40,41,44,61]:List UInt8)∨(c=62∧r.head?≠some 61)):∀t∈cM,Lib.hasPrefix (c::r) t=decide (t=[c]):=by
 intro t ht
 simp only[cM,List.mem_cons,List.not_mem_nil,or_false]at ht
 have Od:c≠60:=by
  rcases h with h|h
  ·intro e;subst e;revert h;decide
  ·rw[h.1];decide
 have Xb:(62:UInt8)≠c∨r.head?≠some 61:=by
  rcases h with h|h
  ·left;intro e;subst e;revert h;decide
  ·exact .inr h.2
 rcases ht with rfl|rfl|rfl|rfl|rfl|rfl|rfl|rfl|rfl|rfl|rfl|rfl|rfl|rfl|rfl
 all_goals first
  |(rw[XW];simp;done)
  |(rw[Tf _ _ _ _ (.inl (fun e=>Od e.symm))];simp)
  |(rw[Tf _ _ _ _ Xb];simp)
theorem JY(s:ByteArray)(hs:s.size≤200)(kd n:Nat)(str:List UInt8)(size:Nat)(h:pE s.data.toList=some ((kd,n,str),size))(w:World)(hT:Tb w):
 (Calls Tryz.prog 215 #[.string s] w fun e w'=>e= .returned (.tuple #[iZ kd n (bL str) 0, .int .i64 (size:Int)])∧Below w.heap.size w w')∧0<size∧size≤s.size∧1≤kd:=by
 cases hl:s.data.toList with
 |nil=>rw[hl]at h;simp[pE]at h
 |cons c r=>
  rw[hl]at h
  have hlen:r.length+1=s.size:=by rw[←aP,hl];rfl
  have ha:0<s.size:=by omega
  have h0:s.data.toList[0]? =some c:=by rw[hl];rfl
  have jb:∀h,s[0]'h=c:=fun h=>by have:=cR s 0 h;rw[h0]at this;simpa using this.symm
  have Zg:∀h,((s[0]'h).toNat:Int)=(c.toNat:Int):=fun h=>by rw[jb h]
  unfold pE at h
  dsimp only at h
  by_cases hd:lV c=true
  ·rw[if_pos hd]at h
   have hr:pD r=false:=by
    cases hq:pD r with
    |false=>rfl
    |true=>rw[hq]at h;simp at h
   rw[hr]at h
   simp only[Bool.false_eq_true,if_false,Option.some.injEq,Prod.mk.injEq]at h
   obtain⟨⟨rfl,rfl,rfl⟩,rfl⟩:=h
   have IL:=hd
   rw[k9]at IL
   obtain⟨e1,e2⟩:=of_decide_eq_true IL
   refine⟨?_,by omega,by omega,by omega⟩
   have aX:=JX s ha (c.toNat:Int) Zg e1 e2 1 ((c.toNat:Int)-48) ⟨#[]⟩ 1 w (show∀W,_ from fun W=>vS s hs ha (c.toNat:Int) (Zg ha) e1 e2 (fun h1 hx=>by
    have hb:=cR s 1 h1
    rw[hl]at hb
    cases r with
    |nil=>simp at hb
    |cons x y=>
     simp at hb
     have FN:lV x=true:=by rw[k9];rw[←hb]at hx;exact decide_eq_true hx
     have xX:lV x=false:=hr
     rw[FN]at xX;cases xX) W)
   rw[show((c.toNat-48:Nat):Int)=(c.toNat:Int)-48 from by omega]
   exact aX
  ·rw[if_neg hd]at h
   by_cases gW:oh c=true
   ·rw[if_pos gW]at h
    by_cases hn:oo ((c::r).takeWhile cH)=true
    ·rw[if_pos hn]at h
     simp only[Option.some.injEq,Prod.mk.injEq]at h
     obtain⟨⟨rfl,rfl,rfl⟩,rfl⟩:=h
     have hw:cH c=true:=by unfold cH;rw[gW];rfl
     have wg:0<((c::r).takeWhile cH).length:=by rw[List.takeWhile_cons_of_pos hw];simp
     have hle:((c::r).takeWhile cH).length≤(c::r).length:=(List.takeWhile_prefix cH).length_le
     have Yd:((c::r).takeWhile cH).length≤r.length+1:=by simpa using hle
     have NL:(s.extract 0 ((c::r).takeWhile cH).length).data.toList=(c::r).takeWhile cH:=by
      rw[Lib.extract_data,List.drop_zero,hl,Nat.sub_zero,sS]
     have Pk:=gW
     rw[pJ]at Pk
     obtain⟨e1,e2⟩:=of_decide_eq_true Pk
     have Zh:((c::r).takeWhile cH).length≤20:=by
      unfold oo at hn;simp only[Bool.and_eq_true,decide_eq_true_eq]at hn;exact hn.1.1.2
     refine⟨?_,wg,by omega,by omega⟩
     have aX:=GW s ha (c.toNat:Int) Zg e1 e2 3 0 (bL ((c::r).takeWhile cH)) (((c::r).takeWhile cH).length:Int) w (show∀W,_ from fun W=>AY s hs _ (by omega) Zh (fun k hk hkm=>by
      obtain⟨v,hv⟩:∃v,((c::r).takeWhile cH)[k]? =some v:=⟨_,List.getElem?_eq_getElem hkm⟩
      obtain⟨h3,h4⟩:=tG hv
      have hb:=cR s k hk
      rw[hl,h3]at hb
      cases hb
      rw[←Te];exact h4) (fun hk=>by
      have hb:=cR s _ hk
      rw[hl]at hb
      rw[←Te];exact I9 hb) (bL ((c::r).takeWhile cH)) (bB NL) (by rw[←nt];simpa [bL]using hn) W)
     exact aX
    ·rw[if_neg hn]at h;cases h
   ·rw[if_neg gW]at h
    by_cases zw:c=34
    ·rw[if_pos zw]at h
     subst zw
     have hq:r[(r.takeWhile ec).length]? =some 34∧iK (r.takeWhile ec)=true∧kd=2∧n=0∧str=r.takeWhile ec∧size=(r.takeWhile ec).length+2:=by
      split at h
      ·rename_i x hx
       split at h
       ·simp only[Option.some.injEq,Prod.mk.injEq]at h
        obtain⟨⟨rfl,rfl,rfl⟩,rfl⟩:=h
        refine⟨?_,by assumption,rfl,rfl,rfl,rfl⟩
        have h5:=congrArg (fun l=>l[0]?) hx
        simp only[List.getElem?_drop,Nat.add_zero]at h5
        simpa using h5
       ·cases h
      ·cases h
     obtain⟨hq,ht,rfl,rfl,rfl,rfl⟩:=hq
     have aT:=(List.getElem?_eq_some_iff.1 hq).1
     have Sn:r=r.takeWhile ec++34::r.drop ((r.takeWhile ec).length+1):=by
      have e1:r.drop (r.takeWhile ec).length=34::r.drop ((r.takeWhile ec).length+1):=by
       rw[List.drop_eq_getElem_cons aT,(List.getElem?_eq_some_iff.1 hq).2]
      rw[←e1]
      conv=>lhs;rw[←List.take_append_drop (r.takeWhile ec).length r]
      rw[sS]
     refine⟨?_,by omega,by omega,by omega⟩
     have aX:=GX s ha (fun h=>by rw[jb h];rfl) 2 0 (bL (r.takeWhile ec)) (((r.takeWhile ec).length+2:Nat):Int) w (show∀W,_→_ from fun W hb=>A0 s hs (r.takeWhile ec) (r.drop ((r.takeWhile ec).length+1)) (by rw[hl];congr 1) (fun c hc=>by
      obtain⟨i,hi⟩:=List.getElem?_of_mem hc
      exact(tG hi).2) ht W (hT.below hb))
     exact aX
    ·rw[if_neg zw]at h
     by_cases qu:[38,43,45,42,47,37,40,41,44,61].contains c=true
     ·rw[if_pos qu]at h
      simp only[Option.some.injEq,Prod.mk.injEq]at h
      obtain⟨⟨rfl,rfl,rfl⟩,rfl⟩:=h
      have hm:c∈([38,43,45,42,47,37,40,41,44,61]:List UInt8):=by simpa using qu
      refine⟨xh s ha c jb (by exact List.mem_append_left [62] hm) ?_ w,by omega,by omega,by omega⟩
      intro t ht
      rw[hl]
      exact A5 c r (.inl hm) t ht
     ·rw[if_neg qu]at h
      by_cases EC:c=62∧r.head?≠some 61
      ·rw[if_pos EC]at h
       simp only[Option.some.injEq,Prod.mk.injEq]at h
       obtain⟨⟨rfl,rfl,rfl⟩,rfl⟩:=h
       refine⟨xh s ha c jb (by rw[EC.1];decide) ?_ w,by omega,by omega,by omega⟩
       intro t ht
       rw[hl]
       exact A5 c r (.inr EC) t ht
      ·rw[if_neg EC]at h;cases h
end Go.Proofs.YtlkjnefenialbaaGreatDoor
