/- The pieces of an expression; no condition beyond each theorem's own. -/
import Derived.Test.YtlkjnefenialbaaGreatDoorM16
import Derived.Test.YtlkjnefenialbaaGreatDoorM22
import Derived.LoopIn
import Derived.TacticsIn
import Derived.RegionIn
set_option linter.unusedVariables false
set_option linter.unusedSimpArgs false
set_option maxHeartbeats 8000000
set_option maxRecDepth 100000
namespace Go.Proofs.YtlkjnefenialbaaGreatDoor
open Go.RowKit Go.Shelf
section
attribute [local go_sem]Oper.semAt_some
theorem JZ {C:Nat→Prop}{w0 w A B:World}{k:Nat}(h:Below w0.heap.size w0 A)(ho:ag (RW C w k) A B)(hC:∀i,C i→w0.heap.size≤i)(hw:w0.heap.size≤w.heap.size):Below w0.heap.size w0 B:=
 ⟨ho.os.trans h.os,ho.tape.trans h.tape,ho.output.trans h.output,Nat.le_trans h.size ho.size,fun i hi=>(ho.block i (Nat.lt_of_lt_of_le hi h.size) (fun hS=>by
   rcases hS with hS|hS|hS
   ·have:=hC i hS;omega
   ·omega
   ·omega)).trans (h.block i hi)⟩
def j4(s:ByteArray)(a:Nat)(ts:List Tok):Prop:=∃f,dQ f (s.data.toList.drop a) a=some ts
theorem j4.space {s:ByteArray}{a:Nat}{ts:List Tok}(h:j4 s a ts)(ha:a<s.size)(hc:(s[a]'ha).toNat=32):j4 s (a+1) ts:=by
 obtain⟨f,hf⟩:=h
 have hl:s.data.toList.drop a=s[a]'ha::s.data.toList.drop (a+1):=by
  rw[List.drop_eq_getElem_cons (by rw[aP];exact ha)];rfl
 rw[hl]at hf
 cases f with
 |zero=>simp[dQ]at hf
 |succ f=>
  unfold dQ at hf
  rw[if_pos (by rw[←UInt8.toNat_inj];simpa using hc)]at hf
  exact⟨f,hf⟩
theorem j4.end_ {s:ByteArray}{ts:List Tok}(h:j4 s s.size ts):ts=[]:=by
 obtain⟨f,hf⟩:=h
 rw[List.drop_of_length_le (by rw[aP];exact Nat.le_refl _)]at hf
 cases f<;>simp[dQ]at hf<;>exact hf
theorem j4.next {s:ByteArray}{a:Nat}{ts:List Tok}(h:j4 s a ts)(ha:a<s.size)(hc:(s[a]'ha).toNat≠32):∃kd n str size Mz,ts=⟨kd,n,str,a⟩::Mz∧pE (s.data.toList.drop a)=some ((kd,n,str),size)∧j4 s (a+size) Mz:=by
 obtain⟨f,hf⟩:=h
 have hl:s.data.toList.drop a=s[a]'ha::s.data.toList.drop (a+1):=by
  rw[List.drop_eq_getElem_cons (by rw[aP];exact ha)];rfl
 rw[hl]at hf
 cases f with
 |zero=>simp[dQ]at hf
 |succ f=>
  unfold dQ at hf
  rw[if_neg (by intro e;apply hc;rw[e];rfl),←hl]at hf
  split at hf
  ·cases hf
  ·rename_i kd n str size hx
   split at hf
   ·cases hf
   ·rw[Option.map_eq_some_iff]at hf
    obtain⟨Mz,h1,h2⟩:=hf
    refine⟨kd,n,str,size,Mz,h2.symm,hx,f,?_⟩
    rw[List.drop_drop]at h1
    exact h1
theorem J0 {T rest:List Tok}{i:Nat}(h:T=T.take i++rest)(hi:i≤T.length)(hr:rest=[]):i=T.length:=by
 subst hr
 have:=congrArg List.length h
 simp at this
 omega
theorem GY {T rest Mz:List Tok}{i:Nat}{t:Tok}(h:T=T.take i++rest)(hi:i≤T.length)(hr:rest=t::Mz):T[i]? =some t∧T=T.take (i+1)++Mz∧i+1≤T.length:=by
 subst hr
 have hl:(T.take i).length=i:=by rw[List.length_take];omega
 have h1:T[i]? =some t:=by
  rw[h,List.getElem?_append_right (by omega),hl];simp
 refine⟨h1,?_,(List.getElem?_eq_some_iff.1 h1).1⟩
 rw[List.take_add_one,h1,List.append_assoc]
 exact h
def DF(T:List Tok)(i:Nat)(args:Array Value)(j:Nat)(_:World):Prop:=∃t,T[i]? =some t∧args= #[iZ t.kind t.n (bL t.s) t.at_]∧j=i+1∧t.kind≠0
structure yR(s:ByteArray)(p:Nat)(w0 w A:World):Prop where
 below:Below w0.heap.size w0 A
 cell:A.cell? ⟨p,0,none⟩=some (.string s)
 size:w.heap.size+2≤A.heap.size
theorem yR.round {s:ByteArray}{p:Nat}{w0 w A B:World}{C:Nat→Prop}(h:yR s p w0 w A)(ho:ag (RW C w 0) A B)(hC:∀i,C i→w0.heap.size≤i)(hw:w0.heap.size≤w.heap.size)(hp:p<w.heap.size)(Zi:¬C p):yR s p w0 w B:=
 ⟨JZ h.below ho hC hw,(ho.cell (p:=⟨p,0,none⟩) (by have:=h.size;show p<_;omega) (by rintro(h|h|h);exact Zi h;(have:p=_:=h;omega);(have:_≤p:=h;omega))).trans h.cell,Nat.le_trans h.size ho.size⟩
theorem yR.own {s:ByteArray}{p:Nat}{w0 w A B:World}(h:yR s p w0 w A)(hb:Below A.heap.size A B)(hw:w0.heap.size≤w.heap.size)(hp:p<w.heap.size):yR s p w0 w B:=
 ⟨h.below.trans (hb.mono (by have:=h.size;omega)),(hb.cell (p:=⟨p,0,none⟩) (by have:=h.size;show p<_;omega)).trans h.cell,Nat.le_trans h.size hb.size⟩
theorem xj(s:ByteArray)(a:Nat)(ha:a≤s.size):(s.extract a s.size).data.toList=s.data.toList.drop a∧(s.extract a s.size).size=s.size-a:=by
 have h1:(s.extract a s.size).data.toList=s.data.toList.drop a:=by
  rw[Lib.extract_data,List.take_of_length_le]
  rw[List.length_drop,aP];exact Nat.le_refl _
 exact⟨h1,by rw[←aP,h1,List.length_drop,aP]⟩
theorem DG(s:ByteArray)(hs:s.size≤200)(T:List Tok)(hT:j4 s 0 T)(p:Nat)(w0 w:World)(hw:Below w0.heap.size w0 w)(hT0:Tb w0)(hp:w.cell? ⟨p,0,none⟩=some (.string s))(gy:p<w.heap.size)(C:Nat→Prop)(Zi:¬C p)(hC:∀i,C i→w0.heap.size≤i):
 Ds Tryz.prog 214 #[.pointer (some ⟨p,0,none⟩)] w C 0 0 (DF T) (fun i=>i=T.length):=by
 intro J Jx W hz hb hJ Pe hY h0
 have HJ:=hD hJ
 have HJX:=hD Pe
 have HY:=hD hY
 have CD:=hw.size
 have Zj:Hid (yR s p w0 w W):=(show yR _ _ _ _ _ from⟨hw.trans (hb.mono CD),(hb.cell (p:=⟨p,0,none⟩) gy).trans hp,by omega⟩)
 have NQ:Hid (∀a A kd n str size,a≤s.size→pE (s.data.toList.drop a)=some ((kd,n,str),size)→Below w0.heap.size w0 A→(Calls Tryz.prog 215 #[.string (s.extract a s.size)] A fun e w'=>e= .returned (.tuple #[iZ kd n (bL str) 0, .int .i64 (size:Int)])∧Below A.heap.size A w')∧0<size∧size≤s.size-a∧1≤kd):=(show∀a A kd n str size,_→_→_→_ from fun a A kd n str size ha hx hb=>by
  obtain⟨e1,e2⟩:=xj s a ha
  rw[←e1]at hx
  have h:=JY (s.extract a s.size) (by omega) kd n str size hx A (hT0.below hb)
  rw[e2]at h
  exact h)
 have QC:=hD hT
 have Us:=hD h0
 clear hJ Pe hY hT h0 hT0 hp hz hb
 refine callsIn_of_wp Tryz.func214 rfl trivial ?_ rfl
 simp only[Tryz.ntmps214,List.size_toArray,List.length_cons,List.length_nil,Nat.reduceAdd,Nat.reduceSub,Array.replicate_succ,Array.replicate_zero,List.push_toArray,List.append_toArray,List.nil_append,List.cons_append]
 gi_wp2_with fail
 gi_loopw [3,4,5](fun k _ _ wr=>∃(a i:Nat)(rest:List Tok),k= .int .i64 a∧a≤s.size∧Hid (j4 s a rest)∧Hid (T=T.take i++rest∧i≤T.length)∧Hid (J i wr)∧Hid (yR s p w0 w wr))(fun k _ _ _=>s.size-(intOf k).toNat)
 case atStart=>
  exact⟨0,0,T,rfl,Nat.zero_le _,QC,(show _∧_ from⟨by simp,Nat.zero_le _⟩),Us,Zj⟩
 case round=>
  obtain⟨a,i,rest,rfl,ha,HL,HI,Pf,HP⟩:=hrel
  have c0:=HP.out.cell
  gi_wp2_with fail
  gi_loop [3](fun k=>∃b:Nat,k= .int .i64 b∧a≤b∧b≤s.size∧Hid (j4 s b rest))(fun k=>s.size-(intOf k).toNat)
  case atStart=>exact⟨a,rfl,Nat.le_refl _,ha,HL⟩
  case round=>
   obtain⟨b,rfl,hab,Um,Zk⟩:=hrel
   by_cases aT:b<s.size
   ·obtain⟨d,hd⟩:∃d:Int,((s[b]'aT).toNat:Int)=d:=⟨_,rfl⟩
    have q1:∀h,((s[b]'h).toNat:Int)=d:=fun _=>hd
    by_cases Mu:d=32
    ·have e32:(d==32)=true:=by simpa using Mu
     have zG:Hid (j4 s (b+1) rest):=(show _ from Zk.out.space aT (by omega))
     clear hd Mu
     gi_wp2_with fail
     go_round
     case rel=>exact⟨b+1,by go_num,by omega,by omega,zG⟩
     case measure=>simp[intOf];omega
    ·have e32:(d==32)=false:=by simpa using Mu
     obtain⟨kd,n,str,size,Mz,sw,hx,sK⟩:=Zk.out.next aT (by omega)
     obtain⟨aX,zR,dc,IK⟩:=NQ.out b wr kd n str size Um hx HP.out.below
     have aS:=hD aX
     have zG:=hD sK
     have sO:=hD sw
     have hbz:((b:Int)==(s.size:Int))=false:=by simp;omega
     clear aX sK sw hx hd Mu
     gi_wp2_with fail
     refine⟨trivial,rfl,(callsIn_wide.2 aS.out).mono ?_⟩
     rintro e w1⟨rfl,aw⟩
     have aO:Hid (Below wr.heap.size wr (w1.alloc (.cells #[.int .i64 kd, .int .i64 n, .string (bL str), .int .i64 b] 291))):=(show Below _ _ _ from aw.alloc aw.size _)
     clear aw
     obtain⟨zI,zJ,ht3⟩:=GY HI.out.1 HI.out.2 sO.out
     obtain⟨fn,tmps,assign,body,hy,hR⟩:=HY.out i #[iZ kd n (bL str) b] (i+1) _ (HJ.out i wr _ Pf.out (ag.aj aO.out)) ⟨_,zI,rfl,rfl,by show kd≠0;omega⟩
     have HR:=hD hR
     have mi:Hid (T=T.take (i+1)++Mz∧i+1≤T.length):=(show _∧_ from⟨zJ,ht3⟩)
     have Iq:=hD (HP.out.own aO.out CD gy)
     clear hR zI zJ ht3 c0 q1
     unfold iZ at hy⊢
     gi_wp2_with fail
     refine⟨rfl,HR.out.mono ?_⟩
     rintro e W3(⟨rfl,Pg,zF⟩|⟨rfl,Ck⟩)
     ·have SD:=hD Pg
      have Sb:=hD (Iq.out.round zF hC CD gy Zi)
      have qcq:((size:Int)==0)=false:=by simp;omega
      clear Pg zF hy
      gi_wp2_with fail
      go_roundw
      case rel=>exact⟨b+size,i+1,Mz,by go_num,by omega,zG,mi,SD,Sb⟩
      case measure=>simp[intOf];omega
     ·have LD:=hD Ck
      clear Ck hy
      gi_wp2_with fail
      refine bodyPost_ret (results_none rfl _ _ _) rfl ?_
      exact⟨⟨_,rfl⟩, .inr LD.out⟩
   ·obtain rfl:b=s.size:=by omega
    have FQ:rest=[]:=Zk.out.end_
    have HE:Hid (i=T.length):=(show _=_ from J0 HI.out.1 HI.out.2 FQ)
    clear FQ
    gi_wp2_with fail
    refine bodyPost_ret (results_none rfl _ _ _) rfl ?_
    exact⟨⟨_,rfl⟩, .inl (by first|exact⟨i,HE.out,Pf.out⟩|(rw[←HE.out];exact Pf.out))⟩
end
end Go.Proofs.YtlkjnefenialbaaGreatDoor
