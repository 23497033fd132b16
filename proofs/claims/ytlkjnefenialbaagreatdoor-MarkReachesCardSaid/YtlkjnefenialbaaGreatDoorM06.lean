/- What ClassOf answers; no condition beyond each theorem's own. -/
import Derived.Test.YtlkjnefenialbaaGreatDoorM02
import Derived.Outline
import Derived.IntWalk
import Derived.Deep.RegionHeld3
import Derived.Laws.RangeAny
set_option linter.unusedVariables false
set_option linter.unusedSimpArgs false
set_option maxHeartbeats 8000000
set_option maxRecDepth 100000
namespace Go.Proofs.YtlkjnefenialbaaGreatDoor
open Go.RowKit
def jy:List ByteArray:=[⟨#[97]⟩,⟨#[98,50]⟩,⟨#[110,97,109,101]⟩,⟨#[110,101,120,116,95,111,110,101]⟩,⟨#[107,105,100,115]⟩,⟨#[120]⟩]
def jU:List ByteArray:=[⟨#[110,111,100,101]⟩,⟨#[105,116,101,109]⟩,⟨#[117,115,101,114]⟩,⟨#[112,97,103,101,95,49]⟩,⟨#[108,101,97,102]⟩,⟨#[113]⟩]
def OG(k:Nat):ByteArray:=jy.getD k ⟨#[]⟩
def Jh(k:Nat):ByteArray:=jU.getD k ⟨#[]⟩
theorem PE {k:Nat}(h:k<6):(#[.string ⟨#[97]⟩, .string ⟨#[98,50]⟩, .string ⟨#[110,97,109,101]⟩, .string ⟨#[110,101,120,116,95,111,110,101]⟩, .string ⟨#[107,105,100,115]⟩, .string ⟨#[120]⟩]:Array Value)[k]? =some (.string (OG k)):=by
 rcases k with _|_|_|_|_|_|k<;>first|rfl|omega
theorem MR {k:Nat}(h:k<6):(#[.string ⟨#[110,111,100,101]⟩, .string ⟨#[105,116,101,109]⟩, .string ⟨#[117,115,101,114]⟩, .string ⟨#[112,97,103,101,95,49]⟩, .string ⟨#[108,101,97,102]⟩, .string ⟨#[113]⟩]:Array Value)[k]? =some (.string (Jh k)):=by
 rcases k with _|_|_|_|_|_|k<;>first|rfl|omega
theorem MS {k:Nat}(h:k<6):OG k∈jy:=by
 rcases k with _|_|_|_|_|_|k<;>first|(simp[OG,jy];done)|omega
theorem Ji {k:Nat}(h:k<6):Jh k∈jU:=by
 rcases k with _|_|_|_|_|_|k<;>first|(simp[Jh,jU];done)|omega
theorem pM:∀s∈jy,ax s=true∧s.size≤20:=by decide
theorem fM:∀s∈jU,ax s=true∧s.size≤20:=by decide
theorem bQ {s:ByteArray}(h:s.size≤20):s.size≤maxLen:=by unfold maxLen;omega
def gE(c:ai):Prop:=aH c=true∧c.fields.length≤6∧(∀f∈c.fields,f.name∈jy)∧c.name∈jU
def fj(fs:List ak):Prop:=(∀f∈fs,f.name∈jy∧aY f=true)∧∀(j:Nat)(f:ak),fs[j]? =some f→idxOf (fun g:ak=>bD g.name f.name) fs=j
theorem rM {α:Type}{p:α→Bool}{xs ys:List α}{j:Nat}(h:idxOf p xs=j):idxOf p (xs++ys)=j:=by
 unfold idxOf at*
 cases hf:xs.findIdx? p with
 |none=>rw[hf]at h;simp at h
 |some i=>rw[hf]at h;rw[List.findIdx?_append,hf];simpa using h
theorem fj.snoc {fs:List ak}{f:ak}(h:fj fs)(hn:f.name∈jy)(hr:aY f=true)(hm:idxOf (fun g:ak=>bD g.name f.name) fs= -1):fj (fs++[f]):=by
 refine⟨fun g hg=> ?_,fun j g hg=> ?_⟩
 ·rcases List.mem_append.1 hg with h1|h1
  ·exact h.1 g h1
  ·simp at h1;subst h1;exact⟨hn,hr⟩
 ·by_cases hj:j<fs.length
  ·rw[List.getElem?_append_left hj]at hg
   exact rM (h.2 j g hg)
  ·rw[List.getElem?_append_right (by omega)]at hg
   have h0:j-fs.length=0:=by
    cases hq:j-fs.length with
    |zero=>rfl
    |succ q=>rw[hq]at hg;simp at hg
   rw[h0]at hg;simp at hg;subst hg
   unfold idxOf at hm⊢
   cases hf:fs.findIdx? (fun g=>bD g.name f.name)with
   |some i=>rw[hf]at hm;simp at hm
   |none=>
    rw[List.findIdx?_append,hf]
    have:bD f.name f.name=true:=by simp[bD]
    simp[this]
    omega
theorem fj.cls {fs:List ak}{nm:ByteArray}(h:fj fs)(hl:fs.length≤6)(hn:nm∈jU):gE ⟨nm,fs⟩:=
 ⟨(aZ _).2 ⟨(fM nm hn).1,Nat.le_trans hl (by omega),fun j f _ hf=>⟨(h.1 f (List.mem_of_getElem? hf)).2,h.2 j f hf⟩⟩,hl,fun f hf=>(h.1 f hf).1,hn⟩
def pN(r:iq):ak:=⟨OG (aD r.name 6),⟨1+(aD r.kind 5:Int),if aD r.kind 5=4 then 1+(aD r.of 4:Int)else 0⟩,r.indexed&&decide (1+(aD r.kind 5:Int)≤3)⟩
theorem tP(r:iq):aY (pN r)=true∧(pN r).name∈jy:=by
 have h1:=MS (bU r.name 6 (by omega))
 have h2:=bU r.kind 5 (by omega)
 have h3:=bU r.of 4 (by omega)
 refine⟨?_,h1⟩
 have e1:=(pM _ h1).1
 unfold aY pN
 simp only[e1,Bool.true_and,Bool.and_eq_true]
 constructor
 ·unfold aB
  by_cases h4:aD r.kind 5=4
  ·simp[h4];omega
  ·simp only[h4,if_false]
   rw[if_neg (by omega)]
   simp;omega
 ·cases r.indexed<;>simp
theorem fZ:(Tryz.prog.info? 151).map (fun i=>(i.zero,i.size,i.bytes))=some (some (.agg #[.string ⟨#[]⟩, .int .i64 0, .int .i64 0, .bool false]),4,40):=by kernel_rfl
theorem Al(M:Nat→Prop)(fv:Value)(w:World)(fs:List ak)(nm name:ByteArray)(hs:ae M w fv fs)(h:idxOf (fun g:ak=>bD g.name name) fs<0):
 Calls Tryz.prog 60 #[.agg #[.string nm,fv], .string name] w fun e w'=>e= .returned (.tuple #[.int .i64 0, .bool false])∧Below w.heap.size w w':=
 jS M fv w ⟨nm,fs⟩ name 0 false hs (if_pos h) (by have h':fieldAt ⟨nm,fs⟩ name<0:=h;rw[decide_eq_true h'];rfl)
theorem yq(M:Nat→Prop)(fv:Value)(w:World)(fs:List ak)(nm name:ByteArray)(hs:ae M w fv fs)(h:¬idxOf (fun g:ak=>bD g.name name) fs<0):
 Calls Tryz.prog 60 #[.agg #[.string nm,fv], .string name] w fun e w'=>e= .returned (.tuple #[.int .i64 (idxOf (fun g:ak=>bD g.name name) fs), .bool true])∧Below w.heap.size w w':=
 jS M fv w ⟨nm,fs⟩ name _ true hs (if_neg h) (by have h':¬fieldAt ⟨nm,fs⟩ name<0:=h;rw[decide_eq_false h'];rfl)
def Ff(x:List UInt8):Prop:=(∃c,x=[c]∧32≤c∧c<127)∨x=[195,169]
def gp(l:List UInt8):Prop:=∃ss:List (List UInt8),l=ss.flatten∧∀x∈ss,Ff x
def eN(s:ByteArray):Prop:=s.size≤60∧gp s.data.toList
def mu:ByteArray:=⟨#[]⟩
def kj(k many:Int)(v:au):Prop:=
 (k=1∧∃n,v= .mk 1 n mu []∧-1000000000000000≤n∧n≤1000000000000000)∨(k=2∧∃s,v= .mk 2 0 s []∧eN s)∨
 ((k=3∨k=4)∧(v= .mk 0 0 mu []∨∃n,v= .mk k n mu []∧1≤n∧n≤many))
def cX(t:aJ)(many:Int)(v:au):Prop:=
 (t.kind=5∧∃l,v= .mk 5 0 mu l∧l.length≤12∧∀x∈l,kj t.of many x)∨(t.kind≠5∧kj t.kind many v)
def PF:List ByteArray:=[⟨#[]⟩,⟨#[97]⟩,⟨#[98,99]⟩,⟨#[195,169,116,195,169]⟩,⟨#[97,32,98]⟩,⟨#[122,122,32,116,111,112]⟩,⟨#[48]⟩,⟨#[45,55]⟩]
def S3(k:Nat):ByteArray:=PF.getD k mu
theorem PG {k:Nat}(h:k<8):(#[.string ⟨#[]⟩, .string ⟨#[97]⟩, .string ⟨#[98,99]⟩, .string ⟨#[195,169,116,195,169]⟩, .string ⟨#[97,32,98]⟩, .string ⟨#[122,122,32,116,111,112]⟩, .string ⟨#[48]⟩, .string ⟨#[45,55]⟩]:Array Value)[k]? =some (.string (S3 k)):=by
 rcases k with _|_|_|_|_|_|_|_|k<;>first|rfl|omega
def CZ(x:List UInt8):Bool:=(match x with|[c]=>decide (32≤c)&&decide (c<127)|_=>false)||x==[195,169]
theorem Jj {x:List UInt8}(h:CZ x=true):Ff x:=by
 unfold CZ at h
 simp only[Bool.or_eq_true,beq_iff_eq]at h
 rcases h with h|h
 ·split at h
  ·simp at h;exact .inl ⟨_,rfl,h.1,h.2⟩
  ·cases h
 ·exact .inr h
theorem gG(ss:List (List UInt8))(h:ss.all CZ=true){l:List UInt8}(hl:l=ss.flatten):gp l:=⟨ss,hl,fun x hx=>Jj (List.all_eq_true.1 h x hx)⟩
theorem Jk {k:Nat}(h:k<8):eN (S3 k):=by
 rcases k with _|_|_|_|_|_|_|_|k
 ·exact⟨by decide,gG [] (by decide) (by decide)⟩
 ·exact⟨by decide,gG [[97]] (by decide) (by decide)⟩
 ·exact⟨by decide,gG [[98],[99]] (by decide) (by decide)⟩
 ·exact⟨by decide,gG [[195,169],[116],[195,169]] (by decide) (by decide)⟩
 ·exact⟨by decide,gG [[97],[32],[98]] (by decide) (by decide)⟩
 ·exact⟨by decide,gG [[122],[122],[32],[116],[111],[112]] (by decide) (by decide)⟩
 ·exact⟨by decide,gG [[48]] (by decide) (by decide)⟩
 ·exact⟨by decide,gG [[45],[55]] (by decide) (by decide)⟩
 ·omega
theorem jV:mu.size≤maxLen:=by unfold maxLen;decide
theorem pO {M:Nat→Prop}{w:World}(k n:Int)(s:ByteArray)(hs:s.size≤maxLen):bI M w (.agg #[.int .i64 k, .int .i64 n, .string s, .slice none 0 0]) (au.mk k n s []):=
 ⟨_,rfl,eV.iff.2 ⟨_,rfl,ae.nil _ _,hs⟩⟩
theorem fN:(Tryz.prog.info? 134).map (fun i=>(i.zero,i.size,i.bytes))=some (some (.agg #[.int .i64 0, .int .i64 0, .string ⟨#[]⟩, .slice none 0 0]),4,56):=by kernel_rfl
theorem wN(M:Nat→Prop)(w:World)(k of n many:Int)(ni:1≤k)(vm:k≤4)(hn:I6 n)(zA:many≤1000):
 Calls Tryz.prog 64 #[.agg #[.int .i64 k, .int .i64 of], .int .i64 n, .int .i64 many] w (aF w fun v w'=>∃x,kj k many x∧bI M w' v x):=by
 have HI:=hD hn;clear hn
 have Sg:=bU n 8 (by omega)
 have qce:=bU n 41 (by omega)
 have Lm:k=1∨k=2∨(k=3∨k=4):=by omega
 rcases Lm with rfl|rfl|hk
 ·go_enter Tryz.func64,Tryz.ntmps64
  go_wp2_with fail
  refine(dW _ _ _ HI.out (by omega) (by omega)).mono ?_
  rintro e w'⟨rfl,rfl⟩
  go_wp2_with fail
  refine bodyPost_ret (v:= .agg #[.int .i64 1, .int .i64 ((aD n 41:Int)-20), .string ⟨#[]⟩, .slice none 0 0]) (by simp[results,Tryz.results64,go_sem]) rfl ⟨_,rfl,⟨.mk 1 ((aD n 41:Int)-20) mu [], .inl ⟨rfl,_,rfl,by omega,by omega⟩,pO _ _ _ jV⟩,?_⟩
  exact(((Below.refl _ _).alloc (Nat.le_refl _) _).alloc (by simp) _).alloc (by simp;omega) _
 ·go_enter Tryz.func64,Tryz.ntmps64
  go_wp2_with fail
  refine(dW _ _ _ HI.out (by omega) (by omega)).mono ?_
  rintro e w'⟨rfl,rfl⟩
  obtain⟨W,hW⟩:∃W:World,W=((w.alloc (.cells #[.int .i64 2, .int .i64 of] 140)).alloc (.cells #[.int .i64 0, .int .i64 0, .string ⟨#[]⟩, .slice none 0 0] 134)).alloc
   (.cells #[.string ⟨#[]⟩, .string ⟨#[97]⟩, .string ⟨#[98,99]⟩, .string ⟨#[195,169,116,195,169]⟩, .string ⟨#[97,32,98]⟩, .string ⟨#[122,122,32,116,111,112]⟩, .string ⟨#[48]⟩, .string ⟨#[45,55]⟩] 9):=⟨_,rfl⟩
  rw[←hW]
  obtain⟨b0,b1,b2,hz,hb⟩:=Ae hW
  clear hW
  have eU:W.cell? ⟨w.heap.size+1+1,aD n 8,none⟩=some (.string (S3 (aD n 8))):=cell_of_heap b2 (PG Sg)
  obtain⟨q0,q1,q2,q3⟩:=ab b1
  have f0:=aa b1 0
  have f1:=aa b1 1
  have f2:=aa b1 2
  have f3:=aa b1 3
  have HZ:=hD hz;clear hz;have HB:=hD hb;clear hb
  clear b0 b1 b2
  go_wp2_with fail
  refine bodyPost_ret (v:= .agg #[.int .i64 2, .int .i64 0, .string (S3 (aD n 8)), .slice none 0 0]) (by simp[results,Tryz.results64,go_sem,q0,q1,q2,q3]) rfl ⟨_,rfl,⟨.mk 2 0 (S3 (aD n 8)) [], .inr (.inl ⟨rfl,_,rfl,Jk Sg⟩),pO _ _ _ (by have:=(Jk Sg).1;unfold maxLen;omega)⟩,?_⟩
  exact(((HB.out.setCell (by simp) _).setCell (by simp) _).setCell (by simp) _).setCell (by simp) _
 ·have e1:(k==1)=false:=by simp;omega
  have e2:(k==2)=false:=by simp;omega
  have HK:=hD hk
  have NIL:Hid (kj k many (.mk 0 0 mu [])):=(show kj k many (.mk 0 0 mu [])from .inr (.inr ⟨hk, .inl rfl⟩))
  have QG:(k==3)=true∨((k==3)=false∧(k==4)=true):=by rcases hk with h|h;exact .inl (by simp;omega);exact .inr ⟨by simp;omega,by simp;omega⟩
  clear hk
  by_cases qbt:many<1
  ·rcases QG with e3|⟨e3,e4⟩
   all_goals
    go_enter Tryz.func64,Tryz.ntmps64
    go_wp2_with fail
    refine bodyPost_ret (v:= .agg #[.int .i64 0, .int .i64 0, .string ⟨#[]⟩, .slice none 0 0]) (by simp[results,Tryz.results64,go_sem]) rfl ⟨_,rfl,⟨.mk 0 0 mu [],NIL.out,pO _ _ _ jV⟩,?_⟩
    exact(((Below.refl _ _).alloc (Nat.le_refl _) _).alloc (by simp) _).alloc (by simp;omega) _
  ·by_cases h4:aD n 5=4
   ·have TW:((aD n 5:Int)==4)=true:=by simp;omega
    clear h4
    rcases QG with e3|⟨e3,e4⟩
    all_goals
     go_enter Tryz.func64,Tryz.ntmps64
     go_wp2_with fail
     refine(dW _ _ _ HI.out (by omega) (by omega)).mono ?_
     rintro e w'⟨rfl,rfl⟩
     go_wp2_with fail
     refine bodyPost_ret (v:= .agg #[.int .i64 0, .int .i64 0, .string ⟨#[]⟩, .slice none 0 0]) (by simp[results,Tryz.results64,go_sem]) rfl ⟨_,rfl,⟨.mk 0 0 mu [],NIL.out,pO _ _ _ jV⟩,?_⟩
     exact(((Below.refl _ _).alloc (Nat.le_refl _) _).alloc (by simp) _).alloc (by simp;omega) _
   ·have TW:((aD n 5:Int)==4)=false:=by simp;omega
    have hpm:=bU n many.toNat (by omega)
    have REF:Hid (kj k many (.mk k (1+(aD n many.toNat:Int)) mu [])):=(show kj k many _ from .inr (.inr ⟨HK.out, .inr ⟨_,rfl,by omega,by omega⟩⟩))
    clear h4
    rcases QG with e3|⟨e3,e4⟩
    all_goals
     go_enter Tryz.func64,Tryz.ntmps64
     go_wp2_with fail
     refine(dW _ _ _ HI.out (by omega) (by omega)).mono ?_
     rintro e w'⟨rfl,rfl⟩
     go_wp2_with fail
     have z3:IntKind.i64.wrap (1+(aD n many.toNat:Int))=1+(aD n many.toNat:Int):=IntWalk.i64_in _ (by omega)
     go_region_held3(fun w'=>w'.cell? ⟨w.heap.size,0,none⟩=some (.int .i64 k))
      (first|go_keep)
      (first|(go_at_call 59;refine(dW _ _ _ HI.out (by omega) (by omega)).mono ?_;rintro e w'⟨rfl,rfl⟩))
     all_goals
      go_wp2_with fail
      refine bodyPost_ret (v:= .agg #[.int .i64 k, .int .i64 (1+(aD n many.toNat:Int)), .string ⟨#[]⟩, .slice none 0 0]) (by simp[results,Tryz.results64,go_sem]) rfl ⟨_,rfl,⟨_,REF.out,pO _ _ _ jV⟩,?_⟩
      exact((((Below.refl _ _).alloc (Nat.le_refl _) _).alloc (by simp) _).alloc (by simp;omega) _).drew
theorem wS:gp []:=⟨[],rfl,fun x h=>by cases h⟩
theorem q8 {a b:List UInt8}(h:gp a)(k:gp b):gp (a++b):=by
 obtain⟨x,rfl,h1⟩:=h
 obtain⟨y,rfl,h2⟩:=k
 exact⟨x++y,by simp,fun z hz=>(List.mem_append.1 hz).elim (h1 z) (h2 z)⟩
theorem wT {x:List UInt8}(h:Ff x):gp x:=⟨[x],by simp,fun z hz=>by simp at hz;subst hz;exact h⟩
theorem JB {l:List UInt8}(h:gp l)(hl:l≠[]):∃x r,l=x++r∧Ff x∧gp r:=by
 obtain⟨ss,rfl,h1⟩:=h
 cases ss with
 |nil=>exact absurd rfl hl
 |cons x r=>exact⟨x,r.flatten,rfl,h1 x List.mem_cons_self,r,rfl,fun z hz=>h1 z (List.mem_cons_of_mem _ hz)⟩
theorem mJ(l:List UInt8)(h:∀c∈l,32≤c∧c<127):gp l:=by
 induction l with
 |nil=>exact wS
 |cons c r ih=>
  have:=q8 (wT (.inl ⟨c,rfl,h c List.mem_cons_self⟩)) (ih fun d hd=>h d (List.mem_cons_of_mem _ hd))
  simpa using this
def lq(s:ByteArray)(p:Nat):Prop:=p≤s.size∧gp (s.data.toList.take p)∧gp (s.data.toList.drop p)
theorem rb {s:ByteArray}(h:gp s.data.toList):lq s 0:=⟨Nat.zero_le _,by simpa using wS,by simpa using h⟩
theorem kF {s:ByteArray}{p k:Nat}{l:List UInt8}{c:UInt8}(h:s.data.toList.drop p=l)(hk:l[k]? =some c):p+k<s.size∧s.get! (p+k)=c:=by
 subst h
 rw[List.getElem?_drop]at hk
 obtain⟨h1,h2⟩:=List.getElem?_eq_some_iff.1 hk
 have h3:p+k<s.size:=by rw[←aP];exact h1
 refine⟨h3,?_⟩
 simp[ByteArray.get!,getElem!_pos,h3]
 rw[←h2]
 exact(Array.getElem_toList _)
theorem lq.step {s:ByteArray}{p:Nat}(h:lq s p)(hp:p<s.size):∃r k:Nat,Utf8.decode s p=(r,k)∧((k=1∧32≤r∧r<127)∨(k=2∧r=233))∧lq s (p+k):=by
 obtain⟨h1,h2,h3⟩:=h
 have hne:s.data.toList.drop p≠[]:=by
  intro e
  have:=congrArg List.length e
  rw[List.length_drop,aP]at this
  simp at this;omega
 obtain⟨x,r,e,hx,hr⟩:=JB h3 hne
 have hlen:(s.data.toList.drop p).length=s.size-p:=by rw[List.length_drop,aP]
 have hAt:lq s (p+x.length):=by
  refine⟨?_,?_,?_⟩
  ·have:=congrArg List.length e;rw[hlen,List.length_append]at this;omega
  ·rw[List.take_add,e,List.take_left']
   ·exact q8 h2 (wT hx)
   ·rfl
  ·rw[←List.drop_drop,e,List.drop_left']
   ·exact hr
   ·rfl
 rcases hx with⟨c,rfl,gz,qw⟩|rfl
 ·obtain⟨b1,b2⟩:=kF (k:=0) e rfl
  have hc3:c.toNat<127:=by have:=UInt8.lt_iff_toNat_lt.1 qw;simpa using this
  have hc4:32≤c.toNat:=by have:=UInt8.le_iff_toNat_le.1 gz;simpa using this
  refine⟨c.toNat,1,?_, .inl ⟨rfl,hc4,hc3⟩,hAt⟩
  simp only[Utf8.decode,b2]
  rw[if_pos (by omega)]
 ·obtain⟨b1,b2⟩:=kF (k:=0) e rfl
  obtain⟨b3,b4⟩:=kF (k:=1) e rfl
  refine⟨233,2,?_, .inr ⟨rfl,rfl⟩,hAt⟩
  simp only[Utf8.decode,b2,b4]
  simp[b3]
theorem lq.take {s:ByteArray}{p:Nat}(h:lq s p):gp (s.data.toList.take p):=h.2.1
theorem lq.drop {s:ByteArray}{p:Nat}(h:lq s p):gp (s.data.toList.drop p):=h.2.2
end Go.Proofs.YtlkjnefenialbaaGreatDoor
