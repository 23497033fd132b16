/- A part of OpReads's proof; no condition. -/
import Derived.Test.YtepaofffbkfodaaGreatDoorM09
import Derived.Shelf.Strings.Prefix
set_option linter.all false
set_option maxHeartbeats 8000000
set_option maxRecDepth 100000
namespace Go.Proofs.YtepaofffbkfodaaGreatDoor
open Tryz
open Go.RowKit Go.Shelf
variable{B k:Nat}{W:aj}
def oX:Go.Shelf.Ren:=⟨λ|99=>377|206=>400|n=>n,λ|9=>9|4=>4|3=>3|n=>n,λ|n=>n⟩
def Hi:Go.Proofs.Lays.n99 prog oX:={
 mixed:=by kernel_rfl
 f99:=Tryz.func377.trans (congrArg some (by kernel_rfl))
 f206:=Tryz.func400.trans (congrArg some (by kernel_rfl))
 t3:=underlying3
 a3:=isAgg3
 z3:=sizeOf3
 v3:=zeroValue3
 t4:=underlying4
 a4:=isAgg4
 z4:=sizeOf4
 v4:=zeroValue4
 t9:=underlying9
 a9:=isAgg9
 z9:=sizeOf9
 v9:=zeroValue9}
def Su:oX.f 99=377:=by kernel_rfl
def Hj(s p:aM)(w:aj):xC 377 #[xS s,xS p] w (ji (xB (Lib.hasPrefix s.data.toList p.data.toList)) w):=by
 have h:=Any.strings_HasPrefix Hi s p w;rw[Su]at h;exact h.mono λe w'⟨h1,h2⟩=>⟨h1,h2.symm⟩
def dt:List (List UInt8):=[[61],[60,62],[60],[60,61],[62],[62,61],[38],[43],[45],[42],[47],[37],[40],[41],[44]]
def BU:Obj:=xK #[xS ⟨#[61]⟩,xS ⟨#[60,62]⟩,xS ⟨#[60]⟩,xS ⟨#[60,61]⟩,xS ⟨#[62]⟩,xS ⟨#[62,61]⟩,xS ⟨#[38]⟩,xS ⟨#[43]⟩,xS ⟨#[45]⟩,xS ⟨#[42]⟩,xS ⟨#[47]⟩,xS ⟨#[37]⟩,xS ⟨#[40]⟩,xS ⟨#[41]⟩,xS ⟨#[44]⟩] 9
def OY(h:bR W B BU)(hk:k<15):bt W B k (xS (bL (dt.getD k []))):=by
 rcases k with _|_|_|_|_|_|_|_|_|_|_|_|_|_|_|k;all_goals first|omega|exact cell_of_heap h rfl
def Hk:∀k:Fin 15,dt.getD k.val []∉dt.take k.val:=by decide
def Hl(k:Nat)(hk:k<15):dt.take (k+1)=dt.take k++[dt.getD k []]:=by
 rw[Qbb,List.getD_eq_getElem?_getD,Qac (show k<dt.length from hk)];rfl
def Hm(s:aM)(c:UInt8)(hc:[c]∈dt)(hp:∀t∈dt,Lib.hasPrefix s.data.toList t=decide (t=[c]))(B:Nat)(w:aj)(hB:bR w B BU):
 xC 337 #[xS s,xL (some ⟨B,0,none⟩) 15 15] w (ji (xS ⟨#[c]⟩) w):=by
 have zN:Hd (∀k,k<15->bt w B k (xS (bL (dt.getD k [])))):=λk hk=>OY hB hk;have HP:Hd (∀k,k<15->xC 377 #[xS s,xS (bL (dt.getD k []))] w (ji (xB (decide (dt.getD k []=[c]))) w)):=λk hk=>by
  have h:=Hj s (bL (dt.getD k [])) w;have hm:dt.getD k []∈dt:=by
   rw[List.getD_eq_getElem?_getD,Qac (show k<dt.length from hk)];exact List.getElem_mem _
  rw[show(bL (dt.getD k [])).data.toList=dt.getD k []by simp[bL],hp _ hm]at h;exact h
 have HC:=af hc;clear hc hp hB;have fu:(⟨#[c]⟩:aM).size=1:=rfl;go_enter func337,ntmps337;go_wp2;go_loopg [5,7,10]15(λg r5 _ iv wr=>∃k:Nat,k<=15/\g=15-k/\iv=xI k/\w=wr/\((r5=xS ⟨#[]⟩/\Hd ([c]∉dt.take k))\/(r5=xS ⟨#[c]⟩/\Hd ([c]∈dt.take k))));case atStart=>exact⟨0,Qbf _,rfl,rfl,rfl, .inl ⟨rfl,(show _∉_ by simp)⟩⟩
 case round=>
  obtain⟨k,hk,rfl,rfl,rfl,hr⟩:=hrel;by_cases bu:k<15
  .have q0:=zN.o k bu;have mP:=af (HP.o k bu);have nG:=af (Hl k bu);have kY:=af (Hk ⟨k,bu⟩);obtain⟨t,ht⟩:=jO (dt.getD k []);rw[ht]at q0 mP nG;dsimp only at kY;rw[ht]at kY;clear ht;by_cases htc:t=[c]
   .subst htc;have hd:decide ([c]=[c])=true:=by simp
    rw[hd]at mP;clear hd;have q1:bt w B k (xS ⟨#[c]⟩):=q0;have qdw:Hd (xC 377 #[xS s,xS ⟨#[c]⟩] w (ji (xB true) w)):=mP.o;clear q0 mP;rcases hr with⟨rfl,HR⟩|⟨rfl,HR⟩
    .go_wp2_with fail;refine cT (qdw.o) ?_;go_wp2;go_roundg(15-(k+1));case measure=>omega
     case rel=>exact⟨k+1,by omega,rfl,by go_num,rfl, .inr ⟨rfl,(show _∈_ by rw[nG.o];simp)⟩⟩
    .exact absurd HR.o kY.o
   .have hd:decide (t=[c])=false:=by simpa using htc
    rw[hd]at mP;have zR:=af htc;clear hd htc;rcases hr with⟨rfl,HR⟩|⟨rfl,HR⟩;all_goals
     go_wp2_with fail;refine cT (mP.o) ?_;go_wp2;go_roundg(15-(k+1));case measure=>omega
     case rel=>
      first
       |exact⟨k+1,by omega,rfl,by go_num,rfl, .inl ⟨rfl,(show _∉_ by rw[nG.o];intro h;rcases Qch.1 h with h|h;exact HR.o h;simp at h;exact zR.o h.symm)⟩⟩
       |exact⟨k+1,by omega,rfl,by go_num,rfl, .inr ⟨rfl,(show _∈_ by rw[nG.o];exact List.mem_append_left _ HR.o)⟩⟩
  .obtain rfl:k=15:=by omega
   rcases hr with⟨rfl,HR⟩|⟨rfl,HR⟩
   .exact absurd HC.o HR.o
   .go_wp2;go_ret;exact⟨rfl,rfl⟩
def Zn {c:UInt8}:dm c=sq (c.toNat:Int):=by
 unfold dm sq;rw[rP,ni];congr 1;rw[Bool.eq_iff_iff];simp;constructor
 .rintro rfl;rfl
 .intro h;rw[<-UInt8.toNat_inj];simpa using(by omega:c.toNat=95)
def OZ(s:aM)(h0:0<s.size)(c:Int)(hc:∀h,((s[0]'h).toNat:Int)=c)(h1:48<=c)(h2:c<=57)(k n:Int)(t:aM)(m:Int)(w:aj)
 (HN:Hd (∀W,xC 334 #[xS s] W (cr (.tuple #[km k n t 0,xI m]) W))):
 xC 311 #[xS s] w (cr (.tuple #[km k n t 0,xI m]) w):=by
 go_enter func311,ntmps311;go_wp2_with fail;refine bY (HN.o _) λw1 aF=> ?_;obtain⟨g0,g1,g2,g3⟩:=ae (boxed aF);obtain⟨f0,f1,f2,f3⟩:=iK (boxed aF);have HB:=af (aU aF);unfold km;go_wp2_with fail;refine Qae (v:= .tuple #[km k n t 0,xI m]) (by simp[results,results311,go_sem,km,g0,g1,g2,g3]) rfl ⟨rfl,?_⟩;exact(((HB.o.setCell (by simp) _).setCell (by simp) _).setCell (by simp) _).setCell (by simp) _
def LP(s:aM)(h0:0<s.size)(c:Int)(hc:∀h,((s[0]'h).toNat:Int)=c)(h1:97<=c)(h2:c<=122)(k n:Int)(t:aM)(m:Int)(w:aj)
 (HN:Hd (∀W,xC 335 #[xS s] W (cr (.tuple #[km k n t 0,xI m]) W))):
 xC 311 #[xS s] w (cr (.tuple #[km k n t 0,xI m]) w):=by
 have a1:48<=c:=by omega
 have a2:¬c<=57:=by omega
 go_enter func311,ntmps311;go_wp2_with fail;refine bY (HN.o _) λw1 aF=> ?_;obtain⟨g0,g1,g2,g3⟩:=ae (boxed aF);obtain⟨f0,f1,f2,f3⟩:=iK (boxed aF);have HB:=af (aU aF);unfold km;go_wp2_with fail;refine Qae (v:= .tuple #[km k n t 0,xI m]) (by simp[results,results311,go_sem,km,g0,g1,g2,g3]) rfl ⟨rfl,?_⟩;exact(((HB.o.setCell (by simp) _).setCell (by simp) _).setCell (by simp) _).setCell (by simp) _
def LQ(s:aM)(h0:0<s.size)(hc:∀h,((s[0]'h).toNat:Int)=34)(k n:Int)(t:aM)(m:Int)(w:aj)
 (HN:Hd (∀W,aq w W->xC 336 #[xS s] W (cr (.tuple #[km k n t 0,xI m]) W))):
 xC 311 #[xS s] w (cr (.tuple #[km k n t 0,xI m]) w):=by
 go_enter func311,ntmps311;go_wp2_with fail;refine bY (HN.o _ bM) λw1 aF=> ?_;obtain⟨g0,g1,g2,g3⟩:=ae (boxed aF);obtain⟨f0,f1,f2,f3⟩:=iK (boxed aF);have HB:=af (aU aF);unfold km;go_wp2_with fail;refine Qae (v:= .tuple #[km k n t 0,xI m]) (by simp[results,results311,go_sem,km,g0,g1,g2,g3]) rfl ⟨rfl,?_⟩;exact(((HB.o.setCell (by simp) _).setCell (by simp) _).setCell (by simp) _).setCell (by simp) _
def AA(s:aM)(h0:0<s.size)(c:UInt8)(hc:∀h,s[0]'h=c)(h1:c∈([38,43,45,42,47,37,40,41,44,61,62]:List UInt8))(hp:∀t∈dt,Lib.hasPrefix s.data.toList t=decide (t=[c]))(w:aj):
 xC 311 #[xS s] w (cr (.tuple #[km 4 0 ⟨#[c]⟩ 0,xI 1]) w):=by
 have kp:[c]∈dt:=by
  simp only[Qdf,List.not_mem_nil,or_false]at h1;rcases h1 with rfl|rfl|rfl|rfl|rfl|rfl|rfl|rfl|rfl|rfl|rfl<;>decide
 have HLG:Hd (∀(W:aj)(B:Nat),bR W B BU->_):=λW B hB=>Hm s c kp hp B W hB;obtain⟨d,hd⟩:=jO ((c.toNat:Int));have hcd:((48<=d/\¬d<=57)\/¬48<=d)/\¬97<=d/\(d==34)=false:=by
  simp only[Qdf,List.not_mem_nil,or_false]at h1;subst hd;rcases h1 with rfl|rfl|rfl|rfl|rfl|rfl|rfl|rfl|rfl|rfl|rfl<;>decide
 obtain⟨mZ,CO,Ys⟩:=hcd;have q0:∀h,((s[0]'h).toNat:Int)=d:=λh=>by rw[hc h];exact hd
 have fu:(⟨#[c]⟩:aM).size=1:=rfl;have hne:((⟨#[c]⟩:aM).toList==(⟨#[]⟩:aM).toList)=false:=by
  cases hq:((⟨#[c]⟩:aM).toList==(⟨#[]⟩:aM).toList)with
  |false=>rfl
  |true=>have:=congrArg ByteArray.size (tZ hq);cases this
 rcases mZ with⟨mZ,hc4⟩|mZ;all_goals
  go_enter func311,ntmps311;go_wp2_with fail;refine cT (HLG.o _ _ (by exact(Bx.dq w pc0 BU).bU rfl)) ?_;go_wp2_with fail;refine Qae (v:= .tuple #[km 4 0 ⟨#[c]⟩ 0,xI 1]) (by simp[results,results311,go_sem,km]) rfl ⟨rfl,?_⟩;exact bM.alloc (by simp) _
def qcr(c x:UInt8)(r:List UInt8):Lib.hasPrefix (c::r) [x]=decide (x=c):=by
 unfold Lib.hasPrefix;rw[Bool.eq_iff_iff];simp[List.isPrefixOf]
def Zo(c x y:UInt8)(r:List UInt8)(h:x≠c\/r.head?≠some y):Lib.hasPrefix (c::r) [x,y]=false:=by
 cases hq:Lib.hasPrefix (c::r) [x,y]with
 |false=>rfl
 |true=>
  unfold Lib.hasPrefix at hq;cases r with
  |nil=>simp[List.isPrefixOf]at hq
  |cons d r=>simp[List.isPrefixOf]at hq;rcases h with h|h;exact absurd hq.1 h;simp at h;exact absurd hq.2.symm h
def DX(c:UInt8)(r:List UInt8)(h:c∈([38,43,45,42,47,37,40,41,44,61]:List UInt8)\/(c=62/\r.head?≠some 61)):∀t∈dt,Lib.hasPrefix (c::r) t=decide (t=[c]):=by
 intro t ht;simp only[dt,Qdf,List.not_mem_nil,or_false]at ht;have TC:c≠60:=by
  rcases h with h|h
  .intro e;subst e;revert h;decide
  .rw[h.1];decide
 have h61:(62:UInt8)≠c\/r.head?≠some 61:=by
  rcases h with h|h
  .left;intro e;subst e;revert h;decide
  .exact .inr h.2
 rcases ht with rfl|rfl|rfl|rfl|rfl|rfl|rfl|rfl|rfl|rfl|rfl|rfl|rfl|rfl|rfl;all_goals first
  |(rw[qcr];simp;done)
  |(rw[Zo _ _ _ _ (.inl (λe=>TC e.symm))];simp)
  |(rw[Zo _ _ _ _ h61];simp)
def O0(s:aM)(hs:s.size<=200)(kd n:Nat)(str:List UInt8)(size:Nat)(h:rK s.data.toList=some ((kd,n,str),size))(w:aj)(hT:Tb w):
 (xC 311 #[xS s] w (cr (.tuple #[km kd n (bL str) 0,xI (size:Int)]) w))/\0<size/\size<=s.size/\1<=kd:=by
 cases hl:s.data.toList with
 |nil=>rw[hl]at h;simp[rK]at h
 |cons c r=>
  rw[hl]at h
  have hlen:r.length+1=s.size:=by rw[<-bq,hl];rfl
  have ha:0<s.size:=by omega
  have h0:s.data.toList[0]? =some c:=by rw[hl];rfl
  have l9:∀h,s[0]'h=c:=λh=>by have:=dk s 0 h;rw[h0]at this;simpa using this.symm
  have hcz:∀h,((s[0]'h).toNat:Int)=(c.toNat:Int):=λh=>by rw[l9 h]
  unfold rK at h
  dsimp only at h
  by_cases hd:nO c=true
  .rw[if_pos hd]at h
   have hr:rJ r=false:=by
    cases hq:rJ r with
    |false=>rfl
    |true=>rw[hq]at h;simp at h
   rw[hr]at h
   simp only[Bool.false_eq_true,if_false,Qcf,Prod.mk.injEq]at h
   obtain⟨⟨rfl,rfl,rfl⟩,rfl⟩:=h
   have af:=hd
   rw[ni]at af
   obtain⟨e1,e2⟩:=of_decide_eq_true af
   refine⟨?_,by omega,by omega,by omega⟩
   have bK:=OZ s ha (c.toNat:Int) hcz e1 e2 1 ((c.toNat:Int)-48) ⟨#[]⟩ 1 w (show∀W,_ fromλW=>zt s hs ha (c.toNat:Int) (hcz ha) e1 e2 (λh1 hx=>by
    have hb:=dk s 1 h1
    rw[hl]at hb
    cases r with
    |nil=>simp at hb
    |cons x y=>
     simp at hb
     have RA:nO x=true:=by rw[ni];rw[<-hb]at hx;exact decide_eq_true hx
     have Nd:nO x=false:=hr
     rw[RA]at Nd;cases Nd) W)
   rw[show((c.toNat-48:Nat):Int)=(c.toNat:Int)-48 from by omega]
   exact bK
  .rw[if_neg hd]at h
   by_cases ik:qJ c=true
   .rw[if_pos ik]at h
    by_cases hn:qK ((c::r).takeWhile dm)=true
    .rw[if_pos hn]at h
     simp only[Qcf,Prod.mk.injEq]at h
     obtain⟨⟨rfl,rfl,rfl⟩,rfl⟩:=h
     have hw:dm c=true:=by unfold dm;rw[ik];rfl
     have vI:0<((c::r).takeWhile dm).length:=by rw[List.takeWhile_cons_of_pos hw];simp
     have hle:((c::r).takeWhile dm).length<=(c::r).length:=(List.takeWhile_prefix dm).length_le
     have Z2:((c::r).takeWhile dm).length<=r.length+1:=by simpa using hle
     have Ta:(s.extract 0 ((c::r).takeWhile dm).length).data.toList=(c::r).takeWhile dm:=by
      rw[Lib.extract_data,List.drop_zero,hl,Nat.sub_zero,vV]
     have UL:=ik
     rw[rP]at UL
     obtain⟨e1,e2⟩:=of_decide_eq_true UL
     have h20:((c::r).takeWhile dm).length<=20:=by
      unfold qK at hn;simp only[Qce,decide_eq_true_eq]at hn;exact hn.1.1.2
     refine⟨?_,vI,by omega,by omega⟩
     have bK:=LP s ha (c.toNat:Int) hcz e1 e2 3 0 (bL ((c::r).takeWhile dm)) (((c::r).takeWhile dm).length:Int) w (show∀W,_ fromλW=>DU s hs _ (by omega) h20 (λk hk hkm=>by
      obtain⟨v,hv⟩:∃v,((c::r).takeWhile dm)[k]? =some v:=⟨_,Qac hkm⟩
      obtain⟨h3,h4⟩:=wK hv
      have hb:=dk s k hk
      rw[hl,h3]at hb
      cases hb
      rw[<-Zn];exact h4) (λhk=>by
      have hb:=dk s _ hk
      rw[hl]at hb
      rw[<-Zn];exact N9 hb) (bL ((c::r).takeWhile dm)) (fg Ta) (by rw[<-pO];simpa [bL]using hn) W)
     exact bK
    .rw[if_neg hn]at h;cases h
   .rw[if_neg ik]at h
    by_cases Cu:c=34
    .rw[if_pos Cu]at h
     subst Cu
     have hq:r[(r.takeWhile eY).length]? =some 34/\jP (r.takeWhile eY)=true/\kd=2/\n=0/\str=r.takeWhile eY/\size=(r.takeWhile eY).length+2:=by
      split at h
      .rename_i x hx
       split at h
       .simp only[Qcf,Prod.mk.injEq]at h
        obtain⟨⟨rfl,rfl,rfl⟩,rfl⟩:=h
        refine⟨?_,by assumption,rfl,rfl,rfl,rfl⟩
        have h5:=congrArg (λl=>l[0]?) hx
        simp only[List.getElem?_drop,Nat.add_zero]at h5
        simpa using h5
       .cases h
      .cases h
     obtain⟨hq,ht,rfl,rfl,rfl,rfl⟩:=hq
     have bu:=(Qad.1 hq).1
     have Yn:r=r.takeWhile eY++34::r.drop ((r.takeWhile eY).length+1):=by
      have e1:r.drop (r.takeWhile eY).length=34::r.drop ((r.takeWhile eY).length+1):=by
       rw[List.drop_eq_getElem_cons bu,(Qad.1 hq).2]
      rw[<-e1]
      conv=>lhs;rw[<-List.take_append_drop (r.takeWhile eY).length r]
      rw[vV]
     refine⟨?_,by omega,by omega,by omega⟩
     have bK:=LQ s ha (λh=>by rw[l9 h];rfl) 2 0 (bL (r.takeWhile eY)) (((r.takeWhile eY).length+2:Nat):Int) w (show∀W,_->_ fromλW hb=>DW s hs (r.takeWhile eY) (r.drop ((r.takeWhile eY).length+1)) (by rw[hl];congr 1) (λc hc=>by
      obtain⟨i,hi⟩:=List.getElem?_of_mem hc
      exact(wK hi).2) ht W (hT.below hb))
     exact bK
    .rw[if_neg Cu]at h
     by_cases yL:[38,43,45,42,47,37,40,41,44,61].contains c=true
     .rw[if_pos yL]at h
      simp only[Qcf,Prod.mk.injEq]at h
      obtain⟨⟨rfl,rfl,rfl⟩,rfl⟩:=h
      have hm:c∈([38,43,45,42,47,37,40,41,44,61]:List UInt8):=by simpa using yL
      refine⟨AA s ha c l9 (by exact List.mem_append_left [62] hm) ?_ w,by omega,by omega,by omega⟩
      intro t ht
      rw[hl]
      exact DX c r (.inl hm) t ht
     .rw[if_neg yL]at h
      by_cases Ji:c=62/\r.head?≠some 61
      .rw[if_pos Ji]at h
       simp only[Qcf,Prod.mk.injEq]at h
       obtain⟨⟨rfl,rfl,rfl⟩,rfl⟩:=h
       refine⟨AA s ha c l9 (by rw[Ji.1];decide) ?_ w,by omega,by omega,by omega⟩
       intro t ht
       rw[hl]
       exact DX c r (.inr Ji) t ht
      .rw[if_neg Ji]at h;cases h
end Go.Proofs.YtepaofffbkfodaaGreatDoor
