/- A part of MarkAsks's proof; no condition. -/
import Derived.Test.YtccpcfcochffcaaGreatDoorM11
import Derived.Test.YtccpcfcochffcaaGreatDoorM12
import Derived.LoopIn
import Derived.RegionIn
set_option linter.all false
set_option maxHeartbeats 8000000
set_option maxRecDepth 100000
namespace Go.Proofs.YtccpcfcochffcaaGreatDoor
open Tryz
open Go.RowKit Go.Shelf
variable{s:aT}{i p:Nat}{w0 w A:aj}
section
attribute [local go_sem]Oper.semAt_some
def l6(s:aT)(a:Nat)(ts:List Tok):Prop:=∃f,eJ f (s.data.toList.drop a) a=some ts
theorem l6.space {a:Nat}{ts:List Tok}(h:l6 s a ts)(ha:a<s.size)(hc:(s[a]'ha).toNat=32):l6 s (a+1) ts:=by
 obtain⟨f,hf⟩:=h;have hl:s.data.toList.drop a=s[a]'ha::s.data.toList.drop (a+1):=by
  rw[List.drop_eq_getElem_cons (by rw[bh];exact ha)];rfl
 rw[hl]at hf;cases f with
 |zero=>simp[eJ]at hf
 |succ f=>
  unfold eJ at hf;rw[if_pos (by rw[<-UInt8.toNat_inj];simpa using hc)]at hf;exact⟨f,hf⟩
theorem l6.end_ {ts:List Tok}(h:l6 s s.size ts):ts=[]:=by
 obtain⟨f,hf⟩:=h;rw[List.drop_of_length_le (by rw[bh];exact bq)]at hf;cases f<;>simp[eJ]at hf<;>exact hf
theorem l6.next {a:Nat}{ts:List Tok}(h:l6 s a ts)(ha:a<s.size)(hc:(s[a]'ha).toNat≠32):∃kd n str size Se,ts=⟨kd,n,str,a⟩::Se/\sw (s.data.toList.drop a)=some ((kd,n,str),size)/\l6 s (a+size) Se:=by
 obtain⟨f,hf⟩:=h;have hl:s.data.toList.drop a=s[a]'ha::s.data.toList.drop (a+1):=by
  rw[List.drop_eq_getElem_cons (by rw[bh];exact ha)];rfl
 rw[hl]at hf;cases f with
 |zero=>simp[eJ]at hf
 |succ f=>
  unfold eJ at hf;rw[if_neg (by intro e;apply hc;rw[e];rfl),<-hl]at hf;split at hf
  .cases hf
  .rename_i kd n str size hx;split at hf
   .cases hf
   .rw[Option.map_eq_some_iff]at hf;obtain⟨Se,h1,h2⟩:=hf;refine⟨kd,n,str,size,Se,h2.symm,hx,f,?_⟩;rw[List.drop_drop]at h1;exact h1
def O9 {T rest:List Tok}(h:T=T.take i++rest)(hi:i<=T.length)(hr:rest=[]):i=T.length:=by
 subst hr;have:=congrArg List.length h;simp at this;omega
def Mg {T rest Se:List Tok}{t:Tok}(h:T=T.take i++rest)(hi:i<=T.length)(hr:rest=t::Se):T[i]? =some t/\T=T.take (i+1)++Se/\i+1<=T.length:=by
 subst hr;have hl:(T.take i).length=i:=by rw[Qdb];omega
 have h1:T[i]? =some t:=by
  rw[h,Qbd (by omega),hl];simp
 refine⟨h1,?_,(Qad.1 h1).1⟩;rw[Qbb,h1,List.append_assoc];exact h
def IB(T:List Tok)(i:Nat)(args:Array an)(j:Nat)(_:aj):Prop:=∃t,T[i]? =some t/\args= #[ke t.kind t.n (bL t.s) t.at_]/\j=i+1/\t.kind≠0
structure EW(s:aT)(p:Nat)(w0 w A:aj):Prop where
 below:aq w0 A
 cell:A.cell? ⟨p,0,none⟩=some (xS s)
 size:w.heap.size+2<=A.heap.size
theorem EW.round {B:aj}{C:aS}(h:EW s p w0 w A)(ho:ai (rdS C w 0) A B)(hC:∀i,C i->w0.heap.size<=i)(hw:w0.heap.size<=w.heap.size)(hp:p<w.heap.size)(hCp:¬C p):EW s p w0 w B:=
 ⟨Ey h.below ho hC hw,(ho.cell (p:=⟨p,0,none⟩) (by have:=h.size;show p<_;omega) (by rintro((h|h)|h);exact hCp h;(have:_<=p:=h;omega);(have:p=_:=h;omega))).trans h.cell,Qcg h.size ho.size⟩
theorem EW.own {B:aj}(h:EW s p w0 w A)(hb:aq A B)(hw:w0.heap.size<=w.heap.size)(hp:p<w.heap.size):EW s p w0 w B:=
 ⟨h.below.trans (hb.mono (by have:=h.size;omega)),(hb.cell (p:=⟨p,0,none⟩) (by have:=h.size;show p<_;omega)).trans h.cell,Qcg h.size hb.size⟩
def BC(s:aT)(a:Nat)(ha:a<=s.size):(s.extract a s.size).data.toList=s.data.toList.drop a/\(s.extract a s.size).size=s.size-a:=by
 have h1:(s.extract a s.size).data.toList=s.data.toList.drop a:=by
  rw[Lib.extract_data,Qah];rw[List.length_drop,bh];exact bq
 exact⟨h1,by rw[<-bh,h1,List.length_drop,bh]⟩
def IC(s:aT)(hs:s.size<=200)(T:List Tok)(hT:l6 s 0 T)(p:Nat)(w0 w:aj)(hw:aq w0 w)(hT0:Tb w0)(hp:aU w p 0 (xS s))(gO:p<w.heap.size)(C:aS)(hCp:¬C p)(hC:∀i,C i->w0.heap.size<=i):
 L3 prog 276 #[xP p] w C 0 0 (IB T) (λi=>i=T.length):=by
 intro J Jx W hz hb hJ Xl hY h0;have HJ:=af hJ;have HJX:=af Xl;have HY:=af hY;have Gv:=hw.size;have HP0:Hd (EW s p w0 w W):=⟨hw.trans (hb.mono Gv),(hb.cell (p:=⟨p,0,none⟩) gO).trans hp,by omega⟩;have TV:Hd (∀a A kd n str size,a<=s.size->sw (s.data.toList.drop a)=some ((kd,n,str),size)->aq w0 A->(xC 277 #[xS (s.extract a s.size)] A (cN (.tuple #[ke kd n (bL str) 0,xI (size:Int)]) A))/\0<size/\size<=s.size-a/\1<=kd):=λa A kd n str size ha hx hb=>by
  obtain⟨e1,e2⟩:=BC s a ha;rw[<-e1]at hx;have h:=O8 (s.extract a s.size) (by omega) kd n str size hx A (hT0.below hb);rw[e2]at h;exact h
 have TX:=af hT;have HH0:=af h0;clear hJ Xl hY hT h0 hT0 hp hz hb;refine callsIn_of_wp func276 rfl trivial ?_ rfl;simp only[ntmps276,List.size_toArray,Qcc,Qcd,Nat.reduceAdd,Nat.reduceSub,Array.replicate_succ,Array.replicate_zero,List.push_toArray,List.append_toArray,List.nil_append,List.cons_append];gi_wp2_with fail;gi_loopw [3,4,5](λk _ _ wr=>∃(a i:Nat)(rest:List Tok),k=xI a/\a<=s.size/\Hd (l6 s a rest)/\Hd (T=T.take i++rest/\i<=T.length)/\Hd (J i wr)/\Hd (EW s p w0 w wr))(λk _ _ _=>s.size-(intOf k).toNat);case atStart=>
  exact⟨0,0,T,rfl,Qbf _,TX,(show _/\_ from⟨by simp,Qbf _⟩),HH0,HP0⟩
 case round=>
  obtain⟨a,i,rest,rfl,ha,HL,HI,Vc,HP⟩:=hrel;have c0:=HP.o.cell;gi_wp2_with fail;gi_loop [3](λk=>∃b:Nat,k=xI b/\a<=b/\b<=s.size/\Hd (l6 s b rest))(λk=>s.size-(intOf k).toNat);case atStart=>exact⟨a,rfl,bq,ha,HL⟩
  case round=>
   obtain⟨b,rfl,hab,hbs,HLB⟩:=hrel;by_cases aX:b<s.size
   .obtain⟨d,hd⟩:=fx (((s[b]'aX).toNat:Int));have q1:∀h,((s[b]'h).toNat:Int)=d:=λ_=>hd;by_cases R5:d=32
    .have e32:(d==32)=true:=by simpa using R5
     have wF:Hd (l6 s (b+1) rest):=HLB.o.space aX (by omega);clear hd R5;gi_wp2_with fail;go_round;case rel=>exact⟨b+1,by go_num,by omega,by omega,wF⟩
     case measure=>simp[intOf];omega
    .have e32:(d==32)=false:=by simpa using R5
     obtain⟨kd,n,str,size,Se,qa,hx,zU⟩:=HLB.o.next aX (by omega);obtain⟨bA,DH,dB,NL⟩:=TV.o b wr kd n str size hbs hx HP.o.below;have bt:=af bA;have wF:=af zU;have Cf:=af qa;have hbz:((b:Int)==(s.size:Int))=false:=by simp;omega
     clear bA zU qa hx hd R5;gi_wp2_with fail;refine⟨trivial,rfl,(callsIn_wide.2 bt.o).mono ?_⟩;rintro e w1⟨rfl,aC⟩;have aO:Hd (aq wr (w1.alloc (xK #[xI kd,xI n,xS (bL str),xI b] 346))):=aC.alloc aC.size _;clear aC;obtain⟨DP,DQ,ht3⟩:=Mg HI.o.1 HI.o.2 Cf.o;obtain⟨fn,tmps,assign,body,hy,hR⟩:=HY.o i #[ke kd n (bL str) b] (i+1) _ (HJ.o i wr _ Vc.o (ai.ao aO.o)) ⟨_,DP,rfl,rfl,by show kd≠0;omega⟩;have HR:=af hR;have oQ:Hd (T=T.take (i+1)++Se/\i+1<=T.length):=⟨DQ,ht3⟩;have Np:=af (HP.o.own aO.o Gv gO);clear hR DP DQ ht3 c0 q1;unfold ke at hy⊢;gi_wp2_with fail;refine⟨rfl,HR.o.mono ?_⟩;rintro e W3(⟨rfl,Xm,DL⟩|⟨rfl,JT⟩)
     .have YY:=af Xm;have JJ:=af (Np.o.round DL hC Gv gO hCp);have qg3:((size:Int)==0)=false:=by simp;omega
      clear Xm DL hy;gi_wp2_with fail;go_roundw;case rel=>exact⟨b+size,i+1,Se,by go_num,by omega,wF,oQ,YY,JJ⟩
      case measure=>simp[intOf];omega
     .have Ra:=af JT;clear JT hy;gi_wp2_with fail;refine Qae (results_none rfl _ _ _) rfl ?_;exact⟨⟨_,rfl⟩, .inr Ra.o⟩
   .obtain rfl:b=s.size:=by omega
    have K9:rest=[]:=HLB.o.end_;have HE:Hd (i=T.length):=O9 HI.o.1 HI.o.2 K9;clear K9;gi_wp2_with fail;refine Qae (results_none rfl _ _ _) rfl ?_;exact⟨⟨_,rfl⟩, .inl (by first|exact⟨i,HE.o,Vc.o⟩|(rw[<-HE.o];exact Vc.o))⟩
end
end Go.Proofs.YtccpcfcochffcaaGreatDoor
