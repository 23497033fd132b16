/- A part; no condition. -/
import Derived.Test.YtpjdjlnknfmfkaaGreatDoorM13
import Derived.Sort.Walk0
set_option linter.all false
set_option maxHeartbeats 8000000
set_option maxRecDepth 100000
namespace Go.Proofs.YtpjdjlnknfmfkaaGreatDoor
open Go.Proofs.Tryz
variable{i j g p B b K:Nat}{t:TypeId}{c0 c1 c2 c3 sv fv v:bt}{W W' w3 wx w w' w1 w2:bq}{ls:List bQ}{S al xs:List Int}{l:List bE}{br:Int}{y:bE}{M:bY}
section
open Go.RowKit Go.Shelf
def gP(a b:bS):Bool:=Op.bytesLess a.toList b.toList
def nN {a b:bS}:gP a b=true↔a.data.toList<b.data.toList:=by
 unfold gP;rw[Go.Proofs.bytesLess_eq,ByteArray.toList_eq,ByteArray.toList_eq];simp
def dQ(a:bS):gP a a=false:=by
 cases h:gP a a with
 |false=>rfl
 |true=>exact absurd (nN.1 h) (List.lt_irrefl _)
def jA {a b c:bS}(h:gP a b=true)(k:gP b c=true):gP a c=true:=nN.2 (List.lt_trans (nN.1 h) (nN.1 k))
def yB {a b:bS}(h:a.data.toList=b.data.toList):a=b:=by
 cases a with|mk a=>cases b with|mk b=>simp at h;rw[h]
def nO(a b:bS):gP a b=true\/a=b\/gP b a=true:=by
 rw[nN,nN];by_cases h:a.data.toList<b.data.toList
 .exact .inl h
 rcases(List.le_iff_lt_or_eq (l₁:=b.data.toList) (l₂:=a.data.toList)).1 (List.not_lt.1 h)with k|k
 .exact .inr (.inr k)
 exact .inr (.inl (yB k.symm))
def gJ(l:List bT):Prop:=(l.map bT.aX).Pairwise (λa b=>gP a b=true)
theorem yC:∀{l m:List bT},l.Perm m->gJ l->gJ m->l=m
 |[],m,h,_,_=>by rw[List.nil_perm.1 h]
 |a::l,[],h,_,_=>by have:=h.length_eq;simp at this
 |a::l,b::m,h,h1,h2=>by
  unfold gJ at h1 h2;rw[List.map_cons,List.pairwise_cons]at h1 h2;have ha:a∈b::m:=h.mem_iff.1 List.mem_cons_self;have hb:b∈a::l:=h.mem_iff.2 List.mem_cons_self;have e:a=b:=by
   rcases aO.1 ha with e|ha
   .exact e
   rcases aO.1 hb with e|hb
   .exact e.symm
   have k1:=h2.1 _ (List.mem_map_of_mem ha);have k2:=h1.1 _ (List.mem_map_of_mem hb);have:=jA k1 k2;rw[dQ]at this;cases this
  subst e;rw[yC (List.perm_cons a|>.1 h) h1.2 h2.2]
def fL.AX {x:bU}(h:fL x):gJ x.bB:=by
 have key:∀(i d:Nat)(r s:bT),x.bB[i]? =some r->x.bB[i+(d+1)]? =some s->gP r.aX s.aX=true:=by
  intro i d;induction d with
  |zero=>
   intro r s hr hs;have:=h.x9 i r s hr hs;obtain⟨k1,k2⟩:gP s.aX r.aX=false/\(s.aX.toList==r.aX.toList)=false:=by simpa [gP,Bool.or_eq_false_iff]using this
   rcases nO r.aX s.aX with e|e|e
   .exact e
   .rw[e]at k2;simp at k2
   rw[e]at k1;cases k1
  |succ d ih=>
   intro r s hr hs;have hl:=(ag.1 hs).1;have⟨q,hq⟩:=fg x.bB (i+(d+1)) (by omega);have k1:=ih r q hr hq;have:=h.x9 (i+(d+1)) q s hq hs;obtain⟨k2,k3⟩:gP s.aX q.aX=false/\(s.aX.toList==q.aX.toList)=false:=by simpa [gP,Bool.or_eq_false_iff]using this
   rcases nO q.aX s.aX with e|e|e
   .exact jA k1 e
   .rw[e]at k3;simp at k3
   rw[e]at k2;cases k2
 unfold gJ;refine List.pairwise_iff_getElem.2 λi j hi hj cE=> ?_;rw[aL]at hi hj;rw[List.getElem_map,List.getElem_map];exact key i (j-i-1) _ _ (af hi) (by rw[show i+(j-i-1+1)=j by omega];exact af hj)
def gJ.less {l:List bT}(h:gJ l){r s:bT}(hr:l[i]? =some r)(hs:l[i+1]? =some s):(Op.bytesLess s.aX.toList r.aX.toList||s.aX.toList==r.aX.toList)=false:=by
 have e1:(l.map bT.aX)[i]? =some r.aX:=by rw[List.getElem?_map,hr];rfl
 have e2:(l.map bT.aX)[i+1]? =some s.aX:=by rw[List.getElem?_map,hs];rfl
 have⟨l1,g1⟩:=ag.1 e1;have⟨l2,g2⟩:=ag.1 e2;have k:=List.pairwise_iff_getElem.1 h i (i+1) l1 l2 (by omega);rw[g1,g2]at k;rw[Bool.or_eq_false_iff];refine⟨?_,?_⟩
 .cases hq:Op.bytesLess s.aX.toList r.aX.toList with
  |false=>rfl
  |true=>have:=jA k (b:=s.aX) (c:=r.aX) hq;rw[dQ]at this;cases this
 rw[beq_eq_false_iff_ne];intro e;rw[ByteArray.toList_eq,ByteArray.toList_eq]at e;rw[yB e,dQ]at k;cases k
def tm(l:List bT)(r:bT):List bT:=l.filter (λp=>gP p.aX r.aX)++r::l.filter (λp=>gP r.aX p.aX)
def tp {l:List bT}{r p:bT}:p∈tm l r↔(p∈l/\p.aX≠r.aX)\/p=r:=by
 unfold tm;simp only[aI,List.mem_filter,aO];constructor
 .rintro(⟨h,k⟩|rfl|⟨h,k⟩)
  .exact .inl ⟨h,λe=>by rw[e,dQ]at k;cases k⟩
  .exact .inr rfl
  exact .inl ⟨h,λe=>by rw[e,dQ]at k;cases k⟩
 rintro(⟨h,k⟩|rfl)
 .rcases nO p.aX r.aX with e|e|e
  .exact .inl ⟨h,e⟩
  .exact absurd e k
  exact .inr (.inr ⟨h,e⟩)
 exact .inr (.inl rfl)
def Ml {l m:List bT}(hl:gJ l)(hm:gJ m)(h:∀o,o∈l↔o∈m):l=m:=by
 have nd:∀{l:List bT},gJ l->l.Nodup:=λ{l}h=>by
  unfold gJ at h;rw[List.pairwise_map]at h;exact h.imp (λhab e=>by subst e;rw[dQ]at hab;cases hab)
 exact yC ((List.perm_ext_iff_of_nodup (nd hl) (nd hm)).2 h) hl hm
abbrev rO(o:cm)(vv:bt):bt:= .agg #[o.id,o.dz,o.dB,vv]
def iu(M:bY)(w:bq)(b:Nat)(l:List cm):Prop:=∃es clk,fK eI w b es clk/\(∀p∈es,∃o vv,o∈l/\p.1=o.id/\p.2.1=rO o vv/\aS M w vv o.bR)/\(∀o∈l,o.id∈es.map (·.1))
def iw(w:bq)(b:Nat)(l:List bT):Prop:=∃es clk,fK fW w b es clk/\(∀p∈es,∃r,r∈l/\p.1=r.aX/\p.2.1=xI r.id)/\(∀r∈l,r.aX∈es.map (·.1))
section
variable {M M':bY}{w w':bq}{b:Nat}{l:List cm}{rs:List bT}
def iu.lt(h:iu M w b l):b<w:=by obtain⟨es,clk,h1,_⟩:=h;exact h1.lt
def iw.lt(h:iw w b rs):b<w:=by obtain⟨es,clk,h1,_⟩:=h;exact h1.lt
def iu.ev(h:iu M w b l)(hv:Ev M w M' w')(hb:w'.heap[b]? =w.heap[b]?):iu M' w' b l:=by
 obtain⟨es,clk,h1,h2,h3⟩:=h;refine⟨es,clk,h1.same _ hb,λp hp=> ?_,h3⟩;have⟨o,vv,k1,k2,k3,k4⟩:=h2 p hp;exact⟨o,vv,k1,k2,k3,k4.ev hv⟩
def iw.ev(h:iw w b rs)(hb:w'.heap[b]? =w.heap[b]?):iw w' b rs:=by
 obtain⟨es,clk,h1,h2,h3⟩:=h;exact⟨es,clk,h1.same _ hb,h2,h3⟩
def iu.aT(h:iu M w b l)(hb:bC w w'):iu M w' b l:=h.ev (Ev.bA hb) (hb.block _ h.lt)
def iw.aT(h:iw w b rs)(hb:bC w w'):iw w' b rs:=h.ev (hb.block _ h.lt)
def iu.ext(h:iu M w b l){l':List cm}(he:∀o,o∈l↔o∈l'):iu M w b l':=by
 obtain⟨es,clk,h1,h2,h3⟩:=h;refine⟨es,clk,h1,λp hp=> ?_,λo ho=>h3 o ((he o).2 ho)⟩;have⟨o,vv,k1,k2⟩:=h2 p hp;exact⟨o,vv,(he o).1 k1,k2⟩
def iw.ext(h:iw w b rs){l':List bT}(he:∀o,o∈rs↔o∈l'):iw w b l':=by
 obtain⟨es,clk,h1,h2,h3⟩:=h;refine⟨es,clk,h1,λp hp=> ?_,λo ho=>h3 o ((he o).2 ho)⟩;have⟨o,k1,k2⟩:=h2 p hp;exact⟨o,(he o).1 k1,k2⟩
def iu.at_(h:cX w b (.map #[] 0)):iu M w b []:=⟨[],0,⟨h,by simp,by simp,by simp⟩,by simp,by simp⟩
def iw.at_(h:cX w b (.map #[] 0)):iw w b []:=⟨[],0,⟨h,by simp,by simp,by simp⟩,by simp,by simp⟩
def A9(x:Int)(w:bq):(Instr.keyThatStays (eI x) (eI x)).run prog w= .ok (eI x) w:=by
 have UU:Instr.sameBits 10000 x (xI x)=true:=by
  show Instr.sameBits (9999+1) _ _=true;rw[Instr.sameBits]<;>simp
 simp[Instr.keyThatStays,eI,UU]
def Ba(x:bS)(w:bq):(Instr.keyThatStays (fW x) (fW x)).run prog w= .ok (fW x) w:=by
 have UU:Instr.sameBits 10000 x (xS x)=true:=by
  have h:∀n,Instr.sameBits n x (xS x)=true:=λn=>by
   have hx:(x==x)=true:=by
    first
    |(exact beq_self_eq_true x)
    |(cases x with|mk d=>show(d==d)=true;simp;done)
    |(cases x with|mk d=>simp[BEq.beq];done)
    |(unfold BEq.beq;rfl)
   cases n<;>(rw[Instr.sameBits];exact hx)
  exact h 10000
 simp[Instr.keyThatStays,fW,UU]
def lQ:l8 fW prog 9:=AT fW .string l6 underlying9
def iu.put {o:cm}{vv:bt}(h:iu M w b l)(hM:M b)(hv:aS M w vv o.bR):∃w',(Instr.mapUpdate 114 (.map (some b)) o.id (rO o vv)).run prog w= .ok () w'/\iu M w' b (qR l o)/\bh (λi=>i=b) w w':=by
 obtain⟨es,clk,h1,h2,h3⟩:=h;have⟨w',es',clk',k1,k2,k3,_,k5⟩:=fK.put (K:=eI) (P:=prog) underlying114 fH fY A9 h1 o.id (rO o vv);have hE:Ev M w M w':=⟨k5.mono λi hi=>by rw[show i=b from hi];exact hM,λi hi=> .inl hi⟩;refine⟨w',k1,⟨es',clk',k2,λp hp=> ?_,λq hq=> ?_⟩,k5⟩
 .have e:=nK k2.keys hp;rw[k3]at e;by_cases RU:p.1=o.id
  .rw[if_pos RU]at e;exact⟨o,vv,tl.2 (.inr rfl),RU,(Option.some.inj e).symm,hv.ev hE⟩
  rw[if_neg RU]at e;have⟨q,hq,e1,e2⟩:=nM e;have⟨o',vv',j1,j2,j3,j4⟩:=h2 q hq;exact⟨o',vv',tl.2 (.inl ⟨j1,by rw[<-j2,e1];exact RU⟩),by rw[<-e1];exact j2,by rw[<-e2];exact j3,j4.ev hE⟩
 have e:=k3 q.id;refine Classical.byContradiction λhn=> ?_;rw[eE.2 hn]at e;rcases tl.1 hq with⟨j1,j2⟩|rfl
 .rw[if_neg j2]at e;exact eE.1 e.symm (h3 q j1)
 rw[if_pos rfl]at e;cases e
def iw.put {r:bT}(h:iw w b rs):∃w',(Instr.mapUpdate 115 (.map (some b)) r.aX r.id).run prog w= .ok () w'/\iw w' b (tm rs r)/\bh (λi=>i=b) w w':=by
 obtain⟨es,clk,h1,h2,h3⟩:=h;have⟨w',es',clk',k1,k2,k3,_,k5⟩:=fK.put (K:=fW) (P:=prog) underlying115 lQ jo Ba h1 r.aX (.int .i64 r.id);refine⟨w',k1,⟨es',clk',k2,λp hp=> ?_,λq hq=> ?_⟩,k5⟩
 .have e:=nK k2.keys hp;rw[k3]at e;by_cases RU:p.1=r.aX
  .rw[if_pos RU]at e;exact⟨r,tp.2 (.inr rfl),RU,(Option.some.inj e).symm⟩
  rw[if_neg RU]at e;have⟨q,hq,e1,e2⟩:=nM e;have⟨r',j1,j2,j3⟩:=h2 q hq;exact⟨r',tp.2 (.inl ⟨j1,by rw[<-j2,e1];exact RU⟩),by rw[<-e1];exact j2,by rw[<-e2];exact j3⟩
 have e:=k3 q.aX;refine Classical.byContradiction λhn=> ?_;rw[eE.2 hn]at e;rcases tp.1 hq with⟨j1,j2⟩|rfl
 .rw[if_neg j2]at e;exact eE.1 e.symm (h3 q j1)
 rw[if_pos rfl]at e;cases e
end
def EX {l ys zs:List cm}{ks:List Int}(hl:(dV l).Pairwise (·< ·))(hk:ks.Nodup)(hy:dV ys=ks)(ji:∀o∈ys,o∈l)(hall:∀o∈l,o.id∈ks)(hp:ys.Perm zs)(hs:(zs.map cm.id).Pairwise (λa b=>decide (b<a)=false)):zs=l:=by
 have hzn:(zs.map cm.id).Nodup:=(hp.map cm.id).nodup_iff.1 (by unfold dV at hy;rw[hy];exact hk);have hz:(dV zs).Pairwise (·< ·):=by
  unfold dV;rw[List.pairwise_iff_getElem]at hs⊢;intro i j hi hj hij;have h1:=hs i j hi hj hij;have h2:(zs.map cm.id)[i]≠(zs.map cm.id)[j]:=λe=>by
   exact List.pairwise_iff_getElem.1 hzn i j hi hj hij e
  simp only[decide_eq_false_iff_not]at h1;omega
 refine PD hz hl λo=>⟨λho=>ji o (hp.mem_iff.2 ho),λho=> ?_⟩;have h1:=hall o ho;rw[<-hy]at h1;have⟨y,hy1,hy2⟩:=aQ.1 h1;have h3:=ji y hy1;have⟨i,hi⟩:=aP h3;have⟨j,hj⟩:=aP ho;have:=kD hl hi hj hy2;subst this;rw[hi]at hj;cases hj;exact hp.mem_iff.1 hy1
def qe {l:List bT}(h:gJ l){o p:bT}(hi:l[i]? =some o)(hj:l[j]? =some p)(he:o.aX=p.aX):i=j:=by
 have e1:(l.map bT.aX)[i]? =some o.aX:=by rw[List.getElem?_map,hi];rfl
 have e2:(l.map bT.aX)[j]? =some p.aX:=by rw[List.getElem?_map,hj];rfl
 have⟨l1,g1⟩:=ag.1 e1;have⟨l2,g2⟩:=ag.1 e2;have key:∀{a b:Nat}(ha:a<(l.map bT.aX).length)(hb:b<(l.map bT.aX).length),a<b->(l.map bT.aX)[a]≠(l.map bT.aX)[b]:=λha hb hab e=>by
  have:=List.pairwise_iff_getElem.1 h _ _ ha hb hab;rw[e,dQ]at this;cases this
 rcases Nat.lt_trichotomy i j with hl|hl|hl
 .exact absurd (by rw[g1,g2,he]) (key l1 l2 hl)
 .exact hl
 exact absurd (by rw[g1,g2,he]) (key l2 l1 hl)
def Cr {l ys zs:List bT}{ks:List bS}(hl:gJ l)(hk:ks.Nodup)(hy:ys.map bT.aX=ks)(ji:∀o∈ys,o∈l)(hall:∀o∈l,o.aX∈ks)(hp:ys.Perm zs)(hs:(zs.map bT.aX).Pairwise (λa b=>gP b a=false)):zs=l:=by
 have hzn:(zs.map bT.aX).Nodup:=(hp.map bT.aX).nodup_iff.1 (by rw[hy];exact hk);have hz:gJ zs:=by
  unfold gJ;rw[List.pairwise_iff_getElem]at hs⊢;intro i j hi hj hij;have h1:=hs i j hi hj hij;have h2:(zs.map bT.aX)[i]≠(zs.map bT.aX)[j]:=λe=>by
   exact List.pairwise_iff_getElem.1 hzn i j hi hj hij e
  rcases nO (zs.map bT.aX)[i] (zs.map bT.aX)[j]with e|e|e
  .exact e
  .exact absurd e h2
  rw[h1]at e;cases e
 refine Ml hz hl λo=>⟨λho=>ji o (hp.mem_iff.2 ho),λho=> ?_⟩;have h1:=hall o ho;rw[<-hy]at h1;have⟨y,hy1,hy2⟩:=aQ.1 h1;have h3:=ji y hy1;have⟨i,hi⟩:=aP h3;have⟨j,hj⟩:=aP ho;have:=qe hl hi hj hy2;subst this;rw[hi]at hj;cases hj;exact hp.mem_iff.1 hy1
def bnO(sv:bt)(p mo mr:Nat)(next:Int):Obj:=xK #[sv,xP p, .map (some mo), .map (some mr),next] 182
def eK {c4:bt}(h:cX W g (xK #[c0,c1,c2,c3,c4] t)):cC W g 0 c0/\cC W g 1 c1/\cC W g 2 c2/\cC W g 3 c3/\cC W g 4 c4:=by simp[World.cell?,h]
def kL(M:bY)(B b mo mr:Nat):Nat->Prop:=λi=>M i\/i=B\/i=b\/i=mo\/i=mr
structure yI(w:bq)(B p b mo mr:Nat):Prop where
 B0:w<=B
 p0:w<=p
 b0:w<=b
 o0:w<=mo
 r0:w<=mr
 pb:p≠b
 Bp:B≠p
 Bb:B≠b
 Bo:B≠mo
 Br:B≠mr
 op:mo≠p
 ob:mo≠b
 or:mo≠mr
 rp:mr≠p
 rb:mr≠b
structure dw(x:bU)(M:bY)(B p b mo mr:Nat)(sv:bt)(W:bq):Prop where
 cell:W.heap[B]? =some (bnO sv p mo mr x.next)
 book:kj x.bH M p b sv W
 bN:iu M W mo x.bN
 bB:iw W mr x.bB
def kj.lt {M:bY}{b:Nat}{w:bq}(h:kj ls M p b sv w):p<w/\b<w:=by
 obtain⟨h1,_,es,clk,h3,_⟩:=h;exact⟨(ab.1 h1).1,(ab.1 h3).1⟩
def dw.ev {x:bU}{M M':bY}{b mo mr:Nat}(h:dw x M B p b mo mr sv W)(hv:Ev M W M' W')(hB:W'.heap[B]? =W.heap[B]?)(hp:W'.heap[p]? =W.heap[p]?)(hb:W'.heap[b]? =W.heap[b]?)(ho:W'.heap[mo]? =W.heap[mo]?)(hr:W'.heap[mr]? =W.heap[mr]?):dw x M' B p b mo mr sv W':=
 ⟨hB.trans h.cell,h.book.ev hv hp hb,h.bN.ev hv ho,h.bB.ev hr⟩
def dw.aT {x:bU}{M:bY}{b mo mr:Nat}(h:dw x M B p b mo mr sv W)(hb:bC W W'):dw x M B p b mo mr sv W':=
 h.ev (Ev.bA hb) (hb.block _ (ab.1 h.cell).1) (hb.block _ h.book.lt.1) (hb.block _ h.book.lt.2) (hb.block _ h.bN.lt) (hb.block _ h.bB.lt)
def Mt {l:List cm}(h:(dV l).Pairwise (·< ·)){i:Nat}{o:cm}(ho:l[i]? =some o)(q:cm):q∈qR (l.take i) o↔q∈l.take (i+1):=by
 rw[tl,ao,ho];simp only[Option.toList_some,aI,aR];constructor
 .rintro(⟨h1,_⟩|h1)
  .exact .inl h1
  exact .inr h1
 rintro(h1|h1)
 .refine .inl ⟨h1,λe=> ?_⟩;have⟨j,hj⟩:=aP h1;rw[List.getElem?_take]at hj;split at hj
  .rename_i cE;have:=kD h hj ho e;omega
  cases hj
 exact .inr h1
def Mu {l:List bT}(h:gJ l){i:Nat}{o:bT}(ho:l[i]? =some o)(q:bT):q∈tm (l.take i) o↔q∈l.take (i+1):=by
 rw[tp,ao,ho];simp only[Option.toList_some,aI,aR];constructor
 .rintro(⟨h1,_⟩|h1)
  .exact .inl h1
  exact .inr h1
 rintro(h1|h1)
 .refine .inl ⟨h1,λe=> ?_⟩;have⟨j,hj⟩:=aP h1;rw[List.getElem?_take]at hj;split at hj
  .rename_i cE;have:=qe h hj ho e;omega
  cases hj
 exact .inr h1
def Zw(sv:bt)(p:Nat)(next:Int):Obj:=xK #[sv,xP p, .map none, .map none,next] 182
structure Ya(ls:List bQ)(nx:Int)(M:bY)(w:bq)(o0:Obj)(B p b:Nat)(lv:bt)(wx:bq):Prop where
 cell:wx.heap[B]? =some (Zw lv p nx)
 book:∀N:bY,(∀i,N i->M i\/w.heap.size+1<=i)->kj ls N p b lv wx
 bx:Bx w [o0] wx
 B0:w.heap.size+1<=B
 p0:w.heap.size+1<=p
 b0:w.heap.size+1<=b
 pb:p≠b
 Bp:B≠p
 Bb:B≠b
def Ya.of {nx:Int}{M:bY}{w:bq}{o0:Obj}{p b:Nat}{lv:bt}(hbx:Bx w [o0] w3)(hbk:∀N:bY,(∀i,N i->M i\/w.heap.size+1<=i)->kj ls N p b lv w3)(hp:w.heap.size+1<=p)(hb:w.heap.size+1<=b)(wO:p≠b):Ya ls nx M w o0 w3 p b lv (w3.alloc (Zw lv p nx)):=by
 have hl:=(hbk M (λi hi=> .inl hi)).lt;have hz:=hbx.cM;simp only[aC,aD]at hz;have hbl:bC w3 (w3.alloc (Zw lv p nx)):=cU;exact⟨az w3 _,λN hN=>(hbk N hN).ev (Ev.bA hbl) (hbl.block _ hl.1) (hbl.block _ hl.2),hbx.alloc _,by omega,hp,hb,wO,by omega,by omega⟩
def VW(wx:bq)(B:Nat):bq:=(((wx.setCell (B,2) (.map (some wx.heap.size))).setCell (B,3) (.map (some [wx]))).alloc (.map #[] 0)).alloc (.map #[] 0)
def Ya.start {nx:Int}{M:bY}{w:bq}{o0:Obj}{B p b:Nat}{lv:bt}(h:Ya ls nx M w o0 B p b lv wx)(hM:Bd M w):
 Bx w [o0] (VW wx B)/\dw ⟨ls,[],[],nx⟩ (kL M B b wx [wx]) B p b wx [wx] lv (VW wx B)/\yI w B p b wx [wx]:=by
 have hBl:=(ab.1 h.cell).1;have hl:=(h.book M (λi hi=> .inl hi)).lt;have h0:=h.B0;have h1:=h.p0;have h2:=h.b0;have h3:=h.pb;have h4:=h.Bp;have h5:=h.Bb;have⟨W1,hW1⟩:=dd ((wx.setCell (B,2) (.map (some wx.heap.size))).setCell (B,3) (.map (some [wx])));have hz1:W1.heap.size=wx:=by rw[hW1];simp
 have ho:bh (λi=>i=B) wx W1:=by rw[hW1];exact((bh.refl (λi=>i=B) _).setCell (.inl rfl) _).setCell (.inl rfl) _
 have hcell:cX W1 B (bnO lv p wx [wx] nx):=by
  have e1:=aA wx B 2 _ _ (.map (some wx.heap.size)) h.cell;have e2:=aA _ B 3 _ _ (.map (some [wx])) e1;rw[hW1];simpa [bnO]using e2
 have UI:VW wx B=(W1.alloc (.map #[] 0)).alloc (.map #[] 0):=by unfold VW;rw[hW1]
 have b2:bC W1 (VW wx B):=by rw[UI];exact cU.alloc (by simp) _
 have hC:yI w B p b wx [wx]:=⟨by omega,by omega,by omega,by have:=h.bx.1.size;omega,by have:=h.bx.1.size;omega,h3,h4,h5,by omega,by omega,by omega,by omega,by omega,by omega,by omega⟩;refine⟨(h.bx.only ho (λi hi=>by subst hi;simp;omega)).aT b2,⟨(b2.block B (by omega)).trans hcell,?_,?_,?_⟩,hC⟩
 .refine((h.book (kL M B b wx [wx]) (λi hi=> ?_)).ev ⟨ho.mono (λi hi=> .inr (.inl hi)),λi hi=> .inl hi⟩ (ho.block _ hl.1 (by omega)) (ho.block _ hl.2 (by omega))).ev (Ev.bA b2) (b2.block _ (by omega)) (b2.block _ (by omega));have hz:=h.bx.cM;simp only[aC,aD]at hz;rcases hi with hi|hi|hi|hi|hi
  .exact .inl hi
  all_goals(right;omega)
 .refine iu.at_ ?_;rw[UI,<-hz1];exact(((ay _ (W1.alloc (.map #[] 0))).alloc cN _).block W1 (by simp)).trans (az W1 _)
 refine iw.at_ ?_;rw[UI];have:=az (W1.alloc (.map #[] 0)) (.map #[] 0);simpa [hz1]using this
structure Ge(x:bU)(M:bY)(w:bq)(o0:Obj)(B p b mo mr:Nat)(lv:bt)(i j:Nat)(wr:bq):Prop where
 bx:Bx w [o0] wr
 bn:dw ⟨x.bH,x.bN.take i,x.bB.take j,x.next⟩ (kL M B b mo mr) B p b mo mr lv wr
section
variable {x:bU}{M:bY}{w wr W:bq}{o0:Obj}{B p b mo mr:Nat}{lv:bt}{i j:Nat}
def Ge.aT(h:Ge x M w o0 B p b mo mr lv i j wr)(hb:bC wr W):Ge x M w o0 B p b mo mr lv i j W:=⟨h.bx.aT hb,h.bn.aT hb⟩
def Ge.put(h:Ge x M w o0 B p b mo mr lv i j wr)(c:yI w B p b mo mr)(hr:(dV x.bN).Pairwise (·< ·))(hM:Bd M w)(h0:w.heap.size+1<=mo){o:cm}(ho:x.bN[i]? =some o){vv:bt}(hv:aS M w vv o.bR):∃W',(Instr.mapUpdate 114 (.map (some mo)) o.id (rO o vv)).run prog wr= .ok () W'/\Ge x M w o0 B p b mo mr lv (i+1) j W':=by
 have c1:=c.B0;have c2:=c.b0;have c3:=c.o0;have c4:=c.r0;have hE:Ev M w (kL M B b mo mr) wr:=⟨bh.bA h.bx.1,λk hk=>by
  rcases hk with hk|hk|hk|hk|hk
  .exact .inl hk
  all_goals(right;omega)⟩;have⟨W',e1,e2,e3⟩:=h.bn.bN.put (o:=o) (vv:=vv) (.inr (.inr (.inr (.inl rfl)))) (hv.ev hE);refine⟨W',e1,h.bx.only e3 (λk hk=>by have:k=mo:=hk;simp;omega),?_,?_,e2.ext (Mt hr ho),?_⟩
 .exact(e3.block _ (ab.1 h.bn.cell).1 c.Bo).trans h.bn.cell
 .exact h.bn.book.ev ⟨e3.mono (λk hk=> .inr (.inr (.inr (.inl hk)))),λk hk=> .inl hk⟩ (e3.block _ h.bn.book.lt.1 (λe=>c.op e.symm)) (e3.block _ h.bn.book.lt.2 (λe=>c.ob e.symm))
 exact h.bn.bB.ev (e3.block _ h.bn.bB.lt (λe=>c.or e.symm))
def Ge.tm(h:Ge x M w o0 B p b mo mr lv i j wr)(c:yI w B p b mo mr)(hn:gJ x.bB)(h0:w.heap.size+1<=mr){r:bT}(ho:x.bB[j]? =some r):∃W',(Instr.mapUpdate 115 (.map (some mr)) r.aX r.id).run prog wr= .ok () W'/\Ge x M w o0 B p b mo mr lv i (j+1) W':=by
 have⟨W',e1,e2,e3⟩:=h.bn.bB.put (r:=r);have hE:Ev (kL M B b mo mr) wr (kL M B b mo mr) W':=⟨e3.mono (λk hk=> .inr (.inr (.inr (.inr hk)))),λk hk=> .inl hk⟩;refine⟨W',e1,h.bx.only e3 (λk hk=>by have:k=mr:=hk;simp;omega),?_,?_,?_,e2.ext (Mu hn ho)⟩
 .exact(e3.block _ (ab.1 h.bn.cell).1 c.Br).trans h.bn.cell
 .exact h.bn.book.ev hE (e3.block _ h.bn.book.lt.1 (λe=>c.rp e.symm)) (e3.block _ h.bn.book.lt.2 (λe=>c.rb e.symm))
 exact h.bn.bN.ev hE (e3.block _ h.bn.bN.lt c.or)
end
def VX(x:bU)(hr:(dV x.bN).Pairwise (·< ·))(hn:gJ x.bB)(Wt:x.bN.length<=1000)(hr5:x.bB.length<=1000)(M:bY)(w:bq)(hM:Bd M w)(lv ov rv:bt)(iH:aS M w lv x.bH)(hov:aS M w ov x.bN)(ib:aS M w rv x.bB):
 xC 31 #[.agg #[lv,ov,rv,x.next]] w λe w'=>∃B p b mo mr,e=xR (xP B)/\yI w B p b mo mr/\dw x (kL M B b mo mr) B p b mo mr lv w'/\bC w w':=by
 have NU:=ie (w:=w) (λW hb=>Kr x.bH M W (hM.aT hb) lv (iH.aT hb));have HO:Hd (∀i o,x.bN[i]? =some o->_):=λi o ho=>gX hov ho;have HR:Hd (∀i r,x.bB[i]? =some r->_):=λi r hr=>fU ib hr;have mQ:=aV hM;have NX:=aV hr;have C9:=aV hn;have hmk:=λw=>fJ 114 w;have qg7:=λw=>fJ 115 w;obtain⟨la,lc,rfl,_⟩:=iH.bj;obtain⟨oa,oc,rfl,XC,hom,_⟩:=hov.bj;obtain⟨ra,rc,rfl,QS,Q7,_⟩:=ib.bj;clear iH hov ib hM hr hn;generalize hnn:x.bN.length=n at*;generalize hmm:x.bB.length=m at*;generalize rW:x.next=nx at*;have wP:=aV hnn;clear hnn;have vM:=aV hmm;clear hmm;have rX:=aV rW;clear rW;have⟨q0,hq0⟩:=dd (dI (xL la x.bH.length lc) (xL oa n oc) (xL ra m rc) nx);have HQ0:=aV hq0;have nj:Hd (∀W,Bx w [q0] W->ed W w (dI (xL la x.bH.length lc) (xL oa n oc) (xL ra m rc) nx)):=λW hb=>by rw[<-HQ0.o];exact hb.cP rfl
 clear hq0;delta xC;go_in;go_upto_region 1 with fail;have⟨W0,hW0⟩:=dd (w.alloc (dI (xL la x.bH.length lc) (xL oa n oc) (xL ra m rc) nx));have dp:=aV (show Bx w [q0] W0 by rw[hW0,HQ0.o];exact Bx.fm w _);have HZE:=aV (show W0.heap.size=[w]by rw[hW0];simp);unfold dI at hW0;rw[<-hW0];clear hW0;have⟨c0,c1,c2,c3⟩:=aU (nj.o _ dp.o);have HJ:Hd (bC W0 W0):=eH;have eh:Hd (∀W,bC W0 W->oT W w 0 (xL la x.bH.length lc)/\oT W w 3 nx):=λW hb=>by
  have⟨k0,k1,k2,k3⟩:=aU (nj.o _ (dp.o.aT hb));exact⟨k0,k3⟩
 have ik:Hd (∀W,bC W0 W->bC w W):=λW hb=>(dp.o.aT hb).1;have hz0:=dp.o.cM;simp only[aC,aD]at hz0;have NS:=aV hz0;go_cut [3](λs3 wx=>∃B p b,s3=xP B/\Hd (Ya x.bH nx M w q0 B p b (xL la x.bH.length lc) wx))
 .go_region_held3(λw'=>w'.cell? (w,0)=some (xL la x.bH.length lc)/\w'.cell? (w,3)=some (xI nx))
   (with_reducible first|exact eh.o _ ee.o|exact eh.o _ ee.o.drew|exact eh.o _ HJ.o|exact eh.o _ HJ.o.drew|exact eh.o _ (ee.o.alloc ee.o.size _)|fail)
   (first
     |(go_at_call 60;refine(NU.o _ (by with_reducible first|exact ik.o _ HJ.o|exact ik.o _ HJ.o.drew)).mono ?_;rintro e w3⟨p,b,rfl,hp1,hb1,wO,FR,hb3,F3,hbel⟩;have FY:=aV F3;have HPB:=aV (And.intro hp1 (And.intro hb1 wO));have ee:Hd (bC W0 w3):=(by with_reducible first|exact aV hbel|exact aV (VS hbel));clear F3 hbel hp1 hb1 wO FR hb3)
     |fail);all_goals(go_wp2;go_meet)
  all_goals
   have hze:=HZE.o;have hp1:W0<=p:=HPB.o.1;have hb1:W0<=b:=HPB.o.2.1;exact⟨_,p,b,rfl,aV (Ya.of (dp.o.aT ee.o) (λN hN=>FY.o N (λi hi=>(hN i hi).imp_right λh=>(by show W0<=i;omega))) (by omega) (by omega) HPB.o.2.2)⟩
 obtain⟨B,p,b,rfl,HL⟩:=hcut;have QK:=aV (HL.o.start mQ.o);have hBl:=(ab.1 HL.o.cell).1;have cJ:∀o o',((wc.alloc o).alloc o').heap[B]? =some (Zw (xL la x.bH.length lc) p nx):=λo o'=>((((ay _ wc).alloc cN o).alloc (by simp) o').block B hBl).trans HL.o.cell;have hb3:∀u o o',(((wc.setCell (B,2) u).alloc o).alloc o').heap[B]? =some (xK #[xL la x.bH.length lc,xP p,u, .map none,nx] 182):=λu o o'=>((((ay _ (wc.setCell (B,2) u)).alloc cN o).alloc (by simp) o').block B (by simpa using hBl)).trans (by have:=aA wc B 2 _ _ u HL.o.cell;simpa [Zw]using this);have v0:=λo o'=>eK (cJ o o');have v1:=λo o'=>aY (cJ o o') 2;have v3:=λu o o'=>eK (hb3 u o o');have v2:=λu o o'=>aY (hb3 u o o') 3;clear c0 c1 c2 c3 cJ hb3;go_upto_region 3 with fail;clear v0 v1 v2 v3 hBl;have⟨W2,hW2⟩:=dd (VW wc B);rw[<-hW2]at QK;unfold VW at hW2;rw[<-hW2];clear hW2;have Jv:w.heap.size+1<=wc:=by have h1:=HL.o.bx.cM;simpa using h1
 generalize wc.heap.size=mo at*;have HC:Hd (yI w B p b mo (mo+1)):=QK.o.2.2;have iG:Hd (Ge x M w q0 B p b mo (mo+1) (xL la x.bH.length lc) 0 0 W2):=⟨QK.o.1,by simpa [rX.o]using QK.o.2.1⟩;have Bz:=aV Jv;clear Jv;clear QK HL;have⟨c0,c1,c2,c3⟩:=aU (nj.o _ iG.o.bx);go_wp2_with fail;clear c0 c1 c2 c3;go_loopg [5,28]n(λgg _ iv wr=>∃i:Nat,i<=n/\gg=n-i/\iv=xI i/\Hd (Ge x M w q0 B p b mo (mo+1) (xL la x.bH.length lc) i 0 wr));exact⟨0,ax _,rfl,rfl,iG⟩;obtain⟨i,hi,rfl,rfl,HS⟩:=hrel;by_cases cE:i<n
 .have⟨o,ho⟩:=fg x.bN i (by rw[wP.o];exact cE);have⟨b',off,cap,va,vc,hv,hbl,hvs,hcells⟩:=HO.o i o ho;obtain⟨rfl,rfl⟩:oa=some ⟨b',off,none⟩/\oc=cap:=by first|simpa using hv|(rw[wP.o]at hv;simpa using hv)
  have⟨q0',q1',q2',q3'⟩:=hcells wr HS.o.bx.1;clear hv hcells;go_upto_region 6 with fail;have⟨W6,hW6⟩:=dd (wr.alloc (eV o (xL va o.bR.length vc)));have Db:=aV (show ed W6 wr (eV o (xL va o.bR.length vc))by rw[hW6];exact az wr _);have vL:=aV (show Ge x M w q0 B p b mo (mo+1) (xL la x.bH.length lc) i 0 W6 by rw[hW6];exact HS.o.aT cU);have Ae:Hd (Ge x M w q0 B p b mo (mo+1) (xL la x.bH.length lc) i 0 W6.drew):=vL.o.aT eH.drew;unfold eV at hW6;rw[<-hW6];clear hW6 q0' q1' q2' q3';have⟨wa,ea,ma⟩:=vL.o.put HC.o NX.o mQ.o Bz.o ho hvs;have⟨wb,eb,mb⟩:=Ae.o.put HC.o NX.o mQ.o Bz.o ho hvs;have Gu:=aV ma;have v8:=aV mb;clear ma mb hvs;dsimp only[rO]at ea eb;have⟨x0,x1,x2,x3⟩:=aU Db.o;have⟨y0,y1,y2,y3,y4⟩:=eK vL.o.bn.cell;go_region_law fail;all_goals
   clear x0 x1 x2 x3 y0 y1 y2 y3 y4 ea eb;go_wp2;go_roundg(n-(i+1));first|exact⟨i+1,by omega,rfl,by go_num,v8⟩|exact⟨i+1,by omega,rfl,by go_num,Gu⟩
   omega
 obtain rfl:i=n:=by omega
 have⟨c0,c1,c2,c3⟩:=aU (nj.o _ HS.o.bx);go_wp2_with fail;clear c0 c1 c2 c3;go_loopg [7,43]m(λgg _ iv wr=>∃j:Nat,j<=m/\gg=m-j/\iv=xI j/\Hd (Ge x M w q0 B p b mo (mo+1) (xL la x.bH.length lc) i j wr));exact⟨0,ax _,rfl,rfl,HS⟩;obtain⟨j,hj,rfl,rfl,HT⟩:=hrel;by_cases cE:j<m
 .have⟨r,hr⟩:=fg x.bB j (by rw[vM.o];exact cE);have⟨b',off,cap,hv,hbl,_,hcells⟩:=HR.o j r hr;obtain⟨rfl,rfl⟩:ra=some ⟨b',off,none⟩/\rc=cap:=by first|simpa using hv|(rw[vM.o]at hv;simpa using hv)
  have⟨q0',q1'⟩:=hcells wr HT.o.bx.1;clear hv hcells;go_upto_region 11 with fail;have⟨W6,hW6⟩:=dd (wr.alloc (xK #[r.aX,r.id] 37));have Db:=aV (show ed W6 wr (xK #[r.aX,r.id] 37)by rw[hW6];exact az wr _);have vL:=aV (show Ge x M w q0 B p b mo (mo+1) (xL la x.bH.length lc) i j W6 by rw[hW6];exact HT.o.aT cU);have Ae:Hd (Ge x M w q0 B p b mo (mo+1) (xL la x.bH.length lc) i j W6.drew):=vL.o.aT eH.drew;rw[<-hW6];clear hW6 q0' q1';have⟨wa,ea,ma⟩:=vL.o.tm HC.o C9.o (by have:=Bz.o;omega) hr;have⟨wb,eb,mb⟩:=Ae.o.tm HC.o C9.o (by have:=Bz.o;omega) hr;have Gu:=aV ma;have v8:=aV mb;clear ma mb;have⟨x0,x1⟩:=aZ Db.o;have⟨y0,y1,y2,y3,y4⟩:=eK vL.o.bn.cell;go_region_law fail;all_goals
   clear x0 x1 y0 y1 y2 y3 y4 ea eb;go_wp2;go_roundg(m-(j+1));first|exact⟨j+1,by omega,rfl,by go_num,v8⟩|exact⟨j+1,by omega,rfl,by go_num,Gu⟩
   omega
 obtain rfl:j=m:=by omega
 go_wp2;go_ret;refine⟨B,p,b,mo,mo+1,rfl,HC.o,?_,HT.o.bx.1⟩;have hb:=HT.o.bn;rw[ak (by rw[wP.o];exact cN),ak (by rw[vM.o];exact cN)]at hb;exact hb
abbrev yJ(r:fC)(vv fv:bt):bt:= .agg #[r.bg,r.j9.id,r.j9.dz,r.j9.dB,vv,r.id,r.dB,r.aX,r.dz.aX,fv,r.qm.bg,r.qm.field,r.qm.aX,r.qm.more,r.qm.type.bg,r.qm.type.of,r.qm.dO,r.qm.cW]
def mX(r:fC)(vv fv:bt):Obj:=xK #[r.bg,r.j9.id,r.j9.dz,r.j9.dB,vv,r.id,r.dB,r.aX,r.dz.aX,fv,r.qm.bg,r.qm.field,r.qm.aX,r.qm.more,r.qm.type.bg,r.qm.type.of,r.qm.dO,r.qm.cW] 81
def gM {W:bq}{r:fC}{vv:bt}(h:cX W g (mX r vv fv)):cC W g 0 r.bg/\cC W g 1 r.j9.id/\cC W g 2 r.j9.dz/\cC W g 3 r.j9.dB/\cC W g 4 vv/\cC W g 5 r.id/\cC W g 6 r.dB/\cC W g 7 r.aX/\cC W g 8 r.dz.aX/\cC W g 9 fv:=by
 unfold mX at h;simp[World.cell?,h]
def SX(B b mo mr:Nat):Nat->Prop:=λi=>i=B\/i=b\/i=mo\/i=mr
section
variable {x:bU}{M:bY}{w0 W W':bq}{B p b mo mr:Nat}{sv:bt}
def yI.bd(c:yI w0 B p b mo mr)(h:dw x (kL M B b mo mr) B p b mo mr sv W)(hb:bC w0 W)(hM:Bd M w0):Bd (kL M B b mo mr) W:=λi hi=>by
 rcases hi with hi|hi|hi|hi|hi
 .exact aN (hM i hi) hb.size
 .rw[hi];exact(ab.1 h.cell).1
 .rw[hi];exact h.book.lt.2
 .rw[hi];exact h.bN.lt
 rw[hi];exact h.bB.lt
def yI.ev(c:yI w0 B p b mo mr)(hb:bC w0 W):Ev M w0 (kL M B b mo mr) W:=⟨bh.bA hb,λi hi=>by
 have:=c.B0;have:=c.b0;have:=c.o0;have:=c.r0;rcases hi with hi|hi|hi|hi|hi
 .exact .inl hi
 all_goals(right;omega)⟩
def yI.aT(c:yI w0 B p b mo mr)(hb:bC w0 W)(ho:bh (SX B b mo mr) W W'):bC w0 W':=cr hb hb.size ho λi hi=>by
 have:=c.B0;have:=c.b0;have:=c.o0;have:=c.r0;rcases hi with hi|hi|hi|hi<;>omega
def dw.Zx(h:dw x (kL M B b mo mr) B p b mo mr sv W)(c:yI w0 B p b mo mr)(hk:kj x.bH (kL M B b mo mr) p b sv W')(ho:bh (λi=>i=b) W W'):dw x (kL M B b mo mr) B p b mo mr sv W':=by
 have hE:Ev (kL M B b mo mr) W (kL M B b mo mr) W':=⟨ho.mono λi hi=> .inr (.inr (.inl hi)),λi hi=> .inl hi⟩;exact⟨(ho.block _ (ab.1 h.cell).1 c.Bb).trans h.cell,hk,h.bN.ev hE (ho.block _ h.bN.lt c.ob),h.bB.ev (ho.block _ h.bB.lt c.rb)⟩
def dw.Zy(h:dw x (kL M B b mo mr) B p b mo mr sv W)(c:yI w0 B p b mo mr){o:cm}{vv:bt}(hv:aS (kL M B b mo mr) W vv o.bR):∃W',(Instr.mapUpdate 114 (.map (some mo)) o.id (rO o vv)).run prog W= .ok () W'/\dw ⟨x.bH,qR x.bN o,x.bB,x.next⟩ (kL M B b mo mr) B p b mo mr sv W'/\bh (λi=>i=mo) W W':=by
 have⟨W',e1,e2,e3⟩:=h.bN.put (o:=o) (vv:=vv) (.inr (.inr (.inr (.inl rfl)))) hv;refine⟨W',e1,⟨?_,?_,e2,?_⟩,e3⟩
 .exact(e3.block _ (ab.1 h.cell).1 c.Bo).trans h.cell
 .exact h.book.ev ⟨e3.mono (λk hk=> .inr (.inr (.inr (.inl hk)))),λk hk=> .inl hk⟩ (e3.block _ h.book.lt.1 (λe=>c.op e.symm)) (e3.block _ h.book.lt.2 (λe=>c.ob e.symm))
 exact h.bB.ev (e3.block _ h.bB.lt (λe=>c.or e.symm))
def dw.E0(h:dw x (kL M B b mo mr) B p b mo mr sv W)(c:yI w0 B p b mo mr)(r:bT):∃W',(Instr.mapUpdate 115 (.map (some mr)) r.aX r.id).run prog W= .ok () W'/\dw ⟨x.bH,x.bN,tm x.bB r,x.next⟩ (kL M B b mo mr) B p b mo mr sv W'/\bh (λi=>i=mr) W W':=by
 have⟨W',e1,e2,e3⟩:=h.bB.put (r:=r);have hE:Ev (kL M B b mo mr) W (kL M B b mo mr) W':=⟨e3.mono (λk hk=> .inr (.inr (.inr (.inr hk)))),λk hk=> .inl hk⟩;refine⟨W',e1,⟨?_,?_,?_,e2⟩,e3⟩
 .exact(e3.block _ (ab.1 h.cell).1 c.Br).trans h.cell
 .exact h.book.ev hE (e3.block _ h.book.lt.1 (λe=>c.rp e.symm)) (e3.block _ h.book.lt.2 (λe=>c.rb e.symm))
 exact h.bN.ev hE (e3.block _ h.bN.lt c.or)
def dw.PT(h:dw x (kL M B b mo mr) B p b mo mr sv W)(c:yI w0 B p b mo mr)(n:Int):dw ⟨x.bH,x.bN,x.bB,n⟩ (kL M B b mo mr) B p b mo mr sv (W.setCell (B,4) n)/\bh (λi=>i=B) W (W.setCell (B,4) n):=by
 have e3:bh (λi=>i=B) W (W.setCell (B,4) n):=(bh.refl (λi=>i=B) W).setCell (.inl rfl) _;have hE:Ev (kL M B b mo mr) W (kL M B b mo mr) (W.setCell (B,4) n):=⟨e3.mono (λk hk=> .inr (.inl hk)),λk hk=> .inl hk⟩;refine⟨⟨?_,?_,?_,?_⟩,e3⟩
 .have:=aA W B 4 _ _ n h.cell;simpa [bnO]using this
 .exact h.book.ev hE (e3.block _ h.book.lt.1 (λe=>c.Bp e.symm)) (e3.block _ h.book.lt.2 (λe=>c.Bb e.symm))
 .exact h.bN.ev hE (e3.block _ h.bN.lt (λe=>c.Bo e.symm))
 exact h.bB.ev (e3.block _ h.bB.lt (λe=>c.Br e.symm))
end
def E3(a b:Int):Int:=if a<b then b else a
def VY(x:bU)(hx:eS x.bH)(r:fC)(k v:Nat)(l:bQ)(ho:jS x.bH 100000 r.j9 k v l)(hid:1<=r.j9.id/\r.j9.id<=100000)(rW:1<=x.next/\x.next<=100001)(M:bY)(w0 W:bq)(hM:Bd M w0)(hG:Gd w0)(hb0:bC w0 W)(B p b mo mr:Nat)(hC:yI w0 B p b mo mr)(sv vv fv:bt)(hB:dw x (kL M B b mo mr) B p b mo mr sv W)(hvs:aS M w0 vv r.j9.bR)(hf1:∃fa fn fc,fv=xL fa fn fc):
 xC 32 #[xP B,yJ r vv fv] W λe w'=>e=xR (xI 0)/\dw ⟨x.bH,qR x.bN r.j9,x.bB,E3 x.next (r.j9.id+1)⟩ (kL M B b mo mr) B p b mo mr sv w'/\bh (SX B b mo mr) W w':=by
 have XC:Hk 100000 r.j9:=by
  have h4:=(ag.1 ho.line).1;have h5:=hx.len;have h6:=hx.bH l (ai ho.line);have h7:=h6.len;have h8:=((cw (bV l v)).1 (h6.lr v).right).2.1;have h9:=ho.bR.1;have h10:=ho.le;exact⟨by omega,by omega,by rw[ho.dz];omega,by rw[ho.dz];omega,by rw[ho.dB];omega,by rw[ho.dB];omega,⟨_,ho.bR⟩,by omega⟩
 have HRB:Hd (∀W1,bC W W1->_):=λW1 hb=>Ms x.bH hx k l ho.line r.j9 v 100000 (Int.le_refl _) ho.dz ho.dB ho.le XC ho.bR (kL M B b mo mr) w0 W1 ((hC.bd hB hb0 hM).aT hb) hG (hb0.trans (hb.mono hb0.size)) p b hC.pb (.inr (.inr (.inl rfl))) hC.b0 sv vv (hB.aT hb).book ((hvs.ev (hC.ev hb0)).aT hb);have nk:=aV hB;have nV:=aV hC;have zy:=aV (hvs.ev (hC.ev hb0):aS (kL M B b mo mr) W vv r.j9.bR);have F4:=hvs;obtain⟨va,vc,rfl,_⟩:=F4.bj;obtain⟨fa,fn,fc,rfl⟩:=hf1;have⟨y0,y1,y2,y3,y4⟩:=eK hB.cell;have Aa:=aV (ab.1 hB.cell).1;clear hvs F4 hB hC hG hM ho XC hx hb0;have qg8:Hd (∀a b:Int,E3 a b=if a<b then b else a):=λa b=>rfl;obtain⟨rk,ro,ri,rv,rn,⟨rcn,rcf⟩,⟨rx0,rx1,rx2,rx3,⟨rx4,rx5⟩,rx6,rx7⟩⟩:=r;obtain⟨oi,oc,ov,os⟩:=ro;obtain⟨xl,xo,xr,nx⟩:=x;dsimp only at*;have⟨rD,hrD⟩:=dd ((⟨rk,⟨oi,oc,ov,os⟩,ri,rv,rn,⟨rcn,rcf⟩,⟨rx0,rx1,rx2,rx3,⟨rx4,rx5⟩,rx6,rx7⟩⟩:fC));delta xC;go_in;go_upto_region 1 with fail;have⟨W1,hW1⟩:=dd (W.alloc (mX rD (xL va os.length vc) (xL fa fn fc)));have gy:=aV (show ed W1 W (mX rD (xL va os.length vc) (xL fa fn fc))by rw[hW1];exact az W _);have cu:=aV (show bC W W1 by rw[hW1];exact cU);rw[hrD]at gy hW1;unfold mX at hW1;dsimp only at hW1;rw[<-hW1];clear hW1 hrD y0 y1 y2 y3 y4;have HJ:Hd (bC W1 W1):=eH;have Dc:=aV (ab.1 gy.o).1;have eh:Hd (∀V,bC W1 V->cC V B 1 (xP p)/\oT V W 1 oi/\oT V W 2 oc/\oT V W 3 ov/\oT V W 4 (xL va os.length vc)):=λV hb=>by
  have⟨k0,k1,k2,k3,k4,_⟩:=gM ((hb.block _ Dc.o).trans gy.o);have h5:=(eK ((nk.o.aT cu.o).aT hb).cell).2.1;exact⟨h5,k1,k2,k3,k4⟩
 have qej:W≠b:=λe=>by have h1:=nk.o.book.lt.2;omega
 have pq:Hd (∀V,bh (λi=>i=b) W1 V->cC V B 1 (xP p)/\oT V W 1 oi/\oT V W 2 oc/\oT V W 3 ov/\oT V W 4 (xL va os.length vc)):=λV ho=>by
  have⟨k0,k1,k2,k3,k4,_⟩:=gM ((ho.block _ Dc.o qej).trans gy.o);have h6:=(nk.o.aT cu.o).cell;have h5:=(eK ((ho.block _ (ab.1 h6).1 nV.o.Bb).trans h6)).2.1;exact⟨h5,k1,k2,k3,k4⟩
 have nh:Hd (∀V,bh (λi=>i=b) W1.drew V->_):=λV ho=>pq.o V (((bh.refl _ W1).drew).trans ho);have⟨z0,z1,z2,z3,z4⟩:=eh.o _ HJ.o;go_cut [12](λs12 wx=>s12=xB false/\Hd (dw ⟨xl,xo,xr,nx⟩ (kL M B b mo mr) B p b mo mr sv wx/\bh (λi=>i=b) W1 wx))
 .go_region_held3(λV=>cC V B 1 (xP p)/\oT V W 1 oi/\oT V W 2 oc/\oT V W 3 ov/\oT V W 4 (xL va os.length vc))
   (with_reducible first|exact eh.o _ HJ.o|exact eh.o _ HJ.o.drew|exact pq.o _ lT.o|exact nh.o _ lT.o|fail)
   (first
     |(go_at_call 88;refine(HRB.o _ (by with_reducible first|exact cu.o|exact cu.o.drew)).mono ?_;rintro e w3⟨rfl,hbk,hon⟩;have FY:=aV hbk;have lT:=aV hon;clear hbk hon)
     |fail);all_goals(go_wp2;go_meet)
  all_goals exact⟨rfl,aV ⟨(nk.o.aT cu.o).Zx nV.o FY.o (by first|exact lT.o|exact((bh.refl _ W1).drew).trans lT.o),(by first|exact lT.o|exact((bh.refl _ W1).drew).trans lT.o)⟩⟩
 obtain⟨rfl,HX⟩:=hcut;clear z0 z1 z2 z3 z4;have hbW:W≠b:=λe=>by have h1:=nk.o.book.lt.2;omega
 have Ym:=aV ((HX.o.2.block _ Dc.o hbW).trans gy.o);have YJ:Hd (aS (kL M B b mo mr) wc (xL va os.length vc) os):=(zy.o.aT cu.o).ev ⟨HX.o.2.mono (λi hi=> .inr (.inr (.inl hi))),λi hi=> .inl hi⟩;have⟨wa,ea,ma⟩:=HX.o.1.Zy nV.o (o:=⟨oi,oc,ov,os⟩) YJ.o;have⟨wb,eb,mb⟩:=(HX.o.1.aT (ay _ wc).drew).Zy nV.o (o:=⟨oi,oc,ov,os⟩) (YJ.o.aT (ay _ wc).drew);have Gu:=aV ma;have v8:Hd (dw ⟨xl,qR xo ⟨oi,oc,ov,os⟩,xr,nx⟩ (kL M B b mo mr) B p b mo mr sv wb/\bh (λi=>i=mo) wc wb):=⟨mb.1,((bh.refl _ wc).drew).trans mb.2⟩;clear ma mb;dsimp only[rO]at ea eb;have⟨k0,k1,k2,k3,k4,_⟩:=gM Ym.o;have⟨y0,y1,y2,y3,y4⟩:=eK HX.o.1.cell;dsimp only at k0 k1 k2 k3 k4;have⟨wr,hwr⟩:=dd (wc);have Gk:=aV hwr;clear hwr;go_upto_region 3 with fail;go_cut [](λwx=>Hd (dw ⟨xl,qR xo ⟨oi,oc,ov,os⟩,xr,nx⟩ (kL M B b mo mr) B p b mo mr sv wx/\bh (λi=>i=mo) wr wx))
 .go_region_law fail;all_goals go_wp2_with fail
  all_goals go_meet
  all_goals rw[Gk.o]
  all_goals first|exact v8|exact Gu|trace_state
 clear k0 k1 k2 k3 k4 y0 y1 y2 y3 y4 ea eb Gu v8;have rV:Hd (bh (λi=>i=mo) wr wc):=hcut.o.2;have cR:Hd (dw ⟨xl,qR xo ⟨oi,oc,ov,os⟩,xr,nx⟩ (kL M B b mo mr) B p b mo mr sv wc):=hcut.o.1;have hmW:W≠mo:=λe=>by have h1:=nk.o.bN.lt;omega
 have Tu:=Ym.o;rw[<-Gk.o]at Tu;have Nt:=aV ((rV.o.block _ (ab.1 Tu).1 hmW).trans Tu);clear Tu;have⟨k0,k1,k2,k3,k4,_⟩:=gM Nt.o;have⟨y0,y1,y2,y3,y4⟩:=eK cR.o.cell;have g4:=aY cR.o.cell 4;dsimp only at k0 k1 k2 k3 k4 y4;have hw1:IntKind.i64.wrap (oi+1)=oi+1:=aw _ (by omega);have⟨mx,hmx⟩:=dd (E3 nx (oi+1));have qJ:(if nx<oi+1 then oi+1 else nx)=mx:=by rw[hmx];rfl
 have hm2:(if oi+1<nx then nx else oi+1)=mx:=by rw[hmx];unfold E3;split<;>split<;>omega
 have Nv:(if nx<=oi+1 then oi+1 else nx)=mx:=by rw[hmx];unfold E3;split<;>split<;>omega
 have hm4:(if oi+1<=nx then nx else oi+1)=mx:=by rw[hmx];unfold E3;split<;>split<;>omega
 have hm5:max nx (oi+1)=mx:=by rw[hmx,Int.max_def];unfold E3;split<;>split<;>omega
 have qek:=aV hmx;clear hmx;have HN4:Hd (∀V:bq,V=wc.setCell (B,4) mx\/V=wc.drew.setCell (B,4) mx\/V=(wc.setCell (B,4) mx).drew->dw ⟨xl,qR xo ⟨oi,oc,ov,os⟩,xr,mx⟩ (kL M B b mo mr) B p b mo mr sv V/\bh (λi=>i=B) wc V):=λV hV=>by
  rcases hV with rfl|rfl|rfl
  .exact cR.o.PT nV.o mx
  .have:=(cR.o.aT (ay _ wc).drew).PT nV.o mx;exact⟨this.1,((bh.refl _ wc).drew).trans this.2⟩
  have:=cR.o.PT nV.o mx;exact⟨this.1.aT eH.drew,this.2.drew⟩
 have⟨w4,hw4⟩:=dd (wc);have nj:=aV hw4;clear hw4;go_upto_region 4 with fail;go_cut [](λwx=>Hd (dw ⟨xl,qR xo ⟨oi,oc,ov,os⟩,xr,mx⟩ (kL M B b mo mr) B p b mo mr sv wx/\bh (λi=>i=B) w4 wx))
 .go_region_law fail;all_goals go_wp2_with fail
  all_goals go_meet
  all_goals rw[nj.o]
  all_goals first|exact aV (HN4.o _ (.inl rfl))|exact aV (HN4.o _ (.inr (.inl rfl)))|exact aV (HN4.o _ (.inr (.inr rfl)))|trace_state
 have HF:Hd (dw ⟨xl,qR xo ⟨oi,oc,ov,os⟩,xr,mx⟩ (kL M B b mo mr) B p b mo mr sv wc/\bh (λi=>i=B) w4 wc):=hcut.o;clear k0 k1 k2 k3 k4 y0 y1 y2 y3 y4 g4;go_wp2;go_ret;refine⟨rfl,by rw[<-qek.o];exact HF.o.1,?_⟩;have o1:bh (SX B b mo mr) W W1:=bh.bA cu.o;have o2:bh (SX B b mo mr) W1 wr:=by rw[Gk.o];exact HX.o.2.mono (λi hi=> .inr (.inl hi))
 have o3:bh (SX B b mo mr) wr w4:=by rw[nj.o];exact rV.o.mono (λi hi=> .inr (.inr (.inl hi)))
 exact((o1.trans o2).trans o3).trans (HF.o.2.mono (λi hi=> .inl hi))
def oO(s:ByteArray)(h:bF s=true)(hs:s.size<=maxLen)(w:World):xC 89 #[s] w (di true w):=by
 have HR:=aV (show xC 50 #[.agg #[s,()]] w (di true w)by
  have h1:=iA xF () w ⟨s,[]⟩ (aS.nil _ _) hs;have h2:cj ⟨s,[]⟩=true:=(fe _).2 ⟨h,by simp,λf hf=>by simp at hf,by simp⟩;rw[h2]at h1;exact h1);delta xC;go_in;go_wp2_with fail;refine(HR.o).mono ?_;rintro e w1⟨rfl,hb⟩;have HB:=aV hb;go_wp2;go_ret;exact⟨rfl,HB.o⟩
def E6(x:bU)(h:fL x)(M:Nat->Prop)(w:World)(lv ov rv:Value)(iH:aS M w lv x.bH)(hov:aS M w ov x.bN)(ib:aS M w rv x.bB):
 xC 59 #[.agg #[lv,ov,rv,x.next]] w (di true w):=by
 have HO:Hd (∀i o,x.bN[i]? =some o->_):=λi o ho=>gX hov ho;have HOI:Hd (∀(i:Nat)o,x.bN[i]? =some o->1<=o.id/\o.id<x.next):=λi o ho=>⟨(h.bN i o ho).1,(h.bN i o ho).2.1⟩;have XF:Hd (∀(i:Nat)o p,x.bN[i]? =some o->x.bN[i+1]? =some p->o.id<p.id):=λi o p ho hp=>by
  have e1:(dV x.bN)[i]? =some o.id:=by unfold dV;rw[List.getElem?_map,ho];rfl
  have e2:(dV x.bN)[i+1]? =some p.id:=by unfold dV;rw[List.getElem?_map,hp];rfl
  have⟨l1,g1⟩:=ag.1 e1;have⟨l2,g2⟩:=ag.1 e2;have:=List.pairwise_iff_getElem.1 h.rise i (i+1) l1 l2 (by omega);rw[g1,g2]at this;exact this
 have HR:Hd (∀i r,x.bB[i]? =some r->_):=λi r hr=>fU ib hr;have C9:Hd (∀i r W,x.bB[i]? =some r->_):=λi r W hr=>oO r.aX (h.mL r (ai hr)).1 (dD (h.mL r (ai hr)).2) W;have UX:Hd (∀i r s,x.bB[i]? =some r->x.bB[i+1]? =some s->_):=λi r s hr hs=>h.x9 i r s hr hs;have h10:=h.len;have rW:=h.next;have h5:=h.rlen;obtain⟨la,lc,rfl,_⟩:=iH.bj;obtain⟨oa,oc,rfl,XC,hom,_⟩:=hov.bj;obtain⟨ra,rc,rfl,QS,Q7,_⟩:=ib.bj;clear iH hov ib h;obtain⟨xl,xo,xr,xn⟩:=x;dsimp only at*;have⟨n,hn⟩:=js (xo.length);have⟨m,hmr⟩:=js (xr.length);rw[hn]at h10 XC;rw[hmr]at h5 QS;obtain⟨Z0,hxb⟩:=rW;simp only[hn,hmr];have HN:=aV hn;clear hn;have BI:=aV hmr;clear hmr;delta xC;go_in;go_wp2;go_loopg [2,3,5,19]n(λg r2 r3 _ iv wr=>∃k:Nat,k<=n/\g=n-k/\iv=xI k/\(∃last:Int,r3=xI last/\Hd (∀o,xo[k]? =some o->last<o.id))/\r2=xB false/\Hd (Bx w [dI (xL la xl.length lc) (xL oa n oc) (xL ra m rc) xn] wr));exact⟨0,ax _,rfl,rfl,⟨0,rfl,(show∀o,_->_ fromλo ho=>by have:=(HOI.o 0 o ho).1;omega)⟩,rfl,(Bx.fm w _)⟩;obtain⟨k,hk,rfl,rfl,⟨last,rfl,Yy⟩,rfl,HX⟩:=hrel;have⟨c0,c1,c2,c3⟩:=aU (HX.o.cP rfl);by_cases cE:k<n
 .have⟨o,ho⟩:=fg xo k (by rw[HN.o];exact cE);have⟨b,off,cap,a',c',hv,hbl,_,hcells⟩:=HO.o k o ho;obtain⟨rfl,rfl⟩:=jk hv;have⟨g0,g1,g2,g3⟩:=hcells wr HX.o.1;have⟨hid1,hid2⟩:=HOI.o k o ho;have tP:=Yy.o o ho;have d3:=λo=>(aU ((HX.o.alloc o).cP rfl)).2.2.2;have rX:Hd (∀o',xo[k+1]? =some o'->o.id<o'.id):=λo' ho'=>XF.o k o o' ho ho';have hq1:¬o.id<=last:=by omega
  have hq2:¬xn<=o.id:=by omega
  generalize o.id=oid at*;clear hv hcells ho;go_wp2;go_roundg(n-(k+1));exact⟨k+1,by omega,rfl,by go_num,⟨oid,rfl,rX⟩,rfl,(HX.o.alloc _)⟩;omega
 obtain rfl:k=n:=by omega
 go_wp2;go_loopg [2,6,7,40]m(λg r2 _ _ iv wr=>∃j:Nat,j<=m/\g=m-j/\iv=xI j/\r2=xB false/\Hd (Bx w [dI (xL la xl.length lc) (xL oa k oc) (xL ra m rc) xn] wr));exact⟨0,ax _,rfl,rfl,rfl,HX⟩;obtain⟨j,hj,rfl,rfl,rfl,HY⟩:=hrel;clear HX c0 c1 c2 c3;have⟨c0,c1,c2,c3⟩:=aU (HY.o.cP rfl);by_cases Rk:j<m;rotate_left
 .obtain rfl:j=m:=by omega
  go_wp2;go_ret;exact⟨rfl,HY.o.1⟩
 have⟨r,hr⟩:=fg xr j (by rw[BI.o];exact Rk);have⟨b,off,cap,hv,hbl,_,hcells⟩:=HR.o j r hr;obtain⟨rfl,rfl⟩:=jk hv;have⟨g0,g1⟩:=hcells wr HY.o.1;have zj:=aV (λW=>C9.o j r W hr);have zY:=aV hr;clear hv hcells hr;go_upto_region 14 with fail;have⟨W7,hW7⟩:=dd (wr.alloc (xK #[r.aX,r.id] 37));have og:=aV (show Bx w [dI (xL la xl.length lc) (xL oa k oc) (xL (b,off) m rc) xn] W7 by rw[hW7];exact HY.o.alloc _);have KO:=aV (show W7.heap[wr.heap.size]? =some (xK #[r.aX,r.id] 37)by rw[hW7];exact az wr _);rw[<-hW7];clear hW7 c0 c1 c2 c3 g0 g1;generalize wr.heap.size=Q at*;have HS:Hd (∀W,bC W7 W->W.cell? (Q,0)=some (xS r.aX)/\W.cell? (w,2)=some (xL (b,off) m rc)):=λW hb=>⟨(aZ ((hb.block Q (ab.1 KO.o).1).trans KO.o)).1,(aU ((og.o.aT hb).cP rfl)).2.2.1⟩;have HJ:Hd (bC W7 W7):=eH;obtain _|i:=j
 .go_cut [64](λs64 wx=>s64=xB false/\Hd (Bx w [dI (xL la xl.length lc) (xL oa k oc) (xL (b,off) m rc) xn] wx))
  .refine jf (by kernel_rfl) (by kernel_rfl) λι _ F jr vO=> ?_;have s0:=λi=>(HS.o (F i) (jr i)).1;have iY:=aV jr;have uR:=aV vO;clear jr vO;repeat(go_big_quiet_step((go_at_call 89;refine(zj.o _).mono ?_;rintro e w3⟨rfl,hb3⟩;exact⟨rfl,uR.o _ ((iY.o _).trans (hb3.mono (iY.o _).size))⟩)))
   refine wpQuiet_nil ?_;rintro _⟨nq,rfl⟩;go_wp2;go_meet;exact⟨rfl,og.o.aT (iY.o _)⟩
  obtain⟨rfl,cR⟩:=hcut;go_wp2;go_roundg(m-1);exact⟨1,by omega,rfl,by go_num,rfl,cR⟩;omega
 have⟨q,hq⟩:=fg xr i (by rw[BI.o];omega);have⟨b2,off2,cap2,hv2,_,_,hcells2⟩:=HR.o i q hq;obtain⟨⟨rfl,rfl⟩,rfl⟩:(b=b2/\off=off2)/\rc=cap2:=by rw[BI.o]at hv2;simpa using hv2
 have qbd:=UX.o i q r hq zY.o;obtain⟨Rf,heq⟩:Op.bytesLess r.aX.toList q.aX.toList=false/\(r.aX.toList==q.aX.toList)=false:=by simpa [Bool.or_eq_false_iff]using qbd
 have hi0:(0:Int)<=(i:Int):=an _;have him:(i:Int)<(m:Int):=by omega
 have hiw:IntKind.i64.wrap (((i+1:Nat):Int)-1)=(i:Int):=by rw[show((i+1:Nat):Int)-1=(i:Int)from by omega];exact aw _ (by omega)
 have hgt:decide ((0:Int)<((i+1:Nat):Int))=true:=by simp
 have Q3:=aV hcells2;clear hv2 hcells2 hq qbd;go_cut [64](λs64 wx=>s64=xB false/\Hd (Bx w [dI (xL la xl.length lc) (xL oa k oc) (xL (b,off) m rc) xn] wx))
 .refine jf (by kernel_rfl) (by kernel_rfl) λι _ F jr vO=> ?_;have s0:=λi=>(HS.o (F i) (jr i)).1;have s1:=λi=>(HS.o (F i) (jr i)).2;have s2:=λj=>(Q3.o (F j) (og.o.aT (jr j)).1).1;have iY:=aV jr;have uR:=aV vO;clear jr vO;repeat(go_big_quiet_step((go_at_call 89;refine(zj.o _).mono ?_;rintro e w3⟨rfl,hb3⟩;exact⟨rfl,uR.o _ ((iY.o _).trans (hb3.mono (iY.o _).size))⟩)))
  refine wpQuiet_nil ?_;rintro _⟨nq,rfl⟩;go_wp2;go_meet;exact⟨rfl,og.o.aT (iY.o _)⟩
 obtain⟨rfl,cR⟩:=hcut;go_wp2;go_roundg(m-(i+1+1));exact⟨i+1+1,by omega,rfl,by go_num,rfl,cR⟩;omega
def yM:(Tryz.prog.info? 41).map (λi=>(i.zero,i.size,i.bytes))=some (some (.agg #[xI 0,xI 0,xI 0,()]),4,48):=by kernel_rfl
def Gf(M:bY)(w:bq)(b P:Nat):Nat->Prop:=λi=>M i\/i=[w]\/i=b\/i=P\/i=P+1
structure PU(w:bq)(P p b:Nat):Prop where
 pb:p≠b
 p1:↑w+2<=p
 p2:p<P
 b1:↑w+2<=b
 b2:b<P
structure kW(x:bU)(M:bY)(w:bq)(P p b:Nat)(sv:bt)(o0 o1:Obj)(W:bq)(i j:Nat)(v:bt):Prop where
 bx:Bx w [o0,o1] W
 book:kj x.bH (cz v (Gf M w b P)) p b sv W
 late:∃ls:List cm,bP (α:=cm) (Gf M w b P) (P+2) 41 W v ls/\ls.length=i/\∀(k:Nat)o,ls[k]? =some o->kV x k o
 place:∃es clk,cO eI W P es clk/\∀n:Int,cB es n=((x.bN.take j).findIdx? (λo=>decide (o.id=n))).map (λi=>xI (i:Int))
 g:W.heap[P+1]? =some (jZ v P)
section
variable {x:bU}{M:bY}{w:bq}{P p b:Nat}{sv:bt}{o0 o1:Obj}{W W' w4:bq}{i j:Nat}{v v2:bt}
def kW.lt(h:kW x M w P p b sv o0 o1 W i j v):P+2<=W:=(ab.1 h.g).1
def kW.aT(h:kW x M w P p b sv o0 o1 W i j v)(c:PU w P p b)(hb:bC W W'):kW x M w P p b sv o0 o1 W' i j v:=by
 have hl:=h.lt;have:=c.p2;have:=c.b2;obtain⟨h1,h2,⟨ls,h3,h4⟩,⟨es,clk,h5,h6⟩,h7⟩:=h;exact⟨h1.aT hb,h2.ev (Ev.bA hb) (hb.block _ (by omega)) (hb.block _ (by omega)),⟨ls,h3.aT hb,h4⟩,⟨es,clk,(hb.block _ (by omega)).trans h5,h6⟩,(hb.block _ (by omega)).trans h7⟩
def kW.bd(h:kW x M w P p b sv o0 o1 W i j v)(c:PU w P p b)(hM:Bd M w):Bd (cz v (Gf M w b P)) W:=λk hk=>by
 have hl:=h.lt;have:=c.p2;have:=c.b2;have:=c.p1;rcases hk with(hk|hk|hk|hk|hk)|hk
 .exact aN (hM k hk) h.bx.1.size
 .omega
 .omega
 .omega
 .omega
 have⟨ls,h3,_⟩:=h.late;exact(h3.dC k hk).2
def kW.ev(h:kW x M w P p b sv o0 o1 W i j v)(c:PU w P p b):Ev M w (cz v (Gf M w b P)) W:=⟨bh.bA h.bx.1,λk hk=>by
 have:=c.p2;have:=c.b1;have:=c.p1;rcases hk with(hk|hk|hk|hk|hk)|hk
 .exact .inl hk
 .right;omega
 .right;omega
 .right;omega
 .right;omega
 have⟨ls,h3,_⟩:=h.late;have:=(h3.dC k hk).1;right;omega⟩
def kW.SH(h:kW x M w P p b sv o0 o1 W i j v)(c:PU w P p b)(hB:kj x.bH (cz v (Gf M w b P)) p b sv W')(ho:bh (λk=>k=b) W W'):kW x M w P p b sv o0 o1 W' i j v:=by
 have:=c.p2;have:=c.b2;have:=c.b1;obtain⟨h1,h2,⟨ls,h3,h4⟩,⟨es,clk,h5,h6⟩,h7⟩:=h;exact⟨h1.only ho (λk hk=>by subst hk;simp;omega),hB,⟨ls,h3.only ho (λk hk=>⟨.inr (.inr (.inl hk)),by have hh:k=b:=hk;omega⟩),h4⟩,⟨es,clk,ho.at_ h5 (by omega),h6⟩,ho.at_ h7 (by omega)⟩
def kW.next(h:kW x M w P p b sv o0 o1 W i j v)(c:PU w P p b){o:cm}(ho:kV x i o)(ob:Obj){ls:List cm}(h4:ls.length=i)(h4':∀(k:Nat)o,ls[k]? =some o->kV x k o)(hacc:bP (α:=cm) (Gf M w b P) (P+2) 41 w4 v2 (ls++[o]))(zq:Ev (cz v (Gf M w b P)) (W.alloc ob) (cz v2 (Gf M w b P)) w4)(hb:Below (P+2) (W.alloc ob) w4):
 kW x M w P p b sv o0 o1 (w4.setCell (P+1,0) v2) (i+1) j v2:=by
 have hl:=h.lt;have c1:=c.p2;have c2:=c.b2;have c3:=c.p1;have e1:∀k,k<P+2->w4.heap[k]? =W.heap[k]? :=λk hk=>(hb.block k hk).trans (((ay _ W).alloc cN ob).block k (by omega));have e2:∀k,k≠P+1->k<P+2->(w4.setCell (P+1,0) v2).heap[k]? =W.heap[k]? :=λk hn hk=>(aj _ _ _ _ hn).trans (e1 k hk);have hE:Ev (cz v (Gf M w b P)) W (cz v2 (Gf M w b P)) (w4.setCell (P+1,0) v2):=by
  refine⟨bh.setCell ((bh.refl _ W).alloc ob|>.trans zq.only) (p:=⟨P+1,0,none⟩) (.inl (.inl (.inr (.inr (.inr (.inr rfl)))))) _,λk hk=> ?_⟩;rcases zq.sub k hk with h1|h1
  .exact .inl h1
  right;have:(W.alloc ob).heap.size=[W]:=by simp
  omega
 obtain⟨h1,h2,_,⟨es,clk,h5,h6⟩,h7⟩:=h;refine⟨?_,h2.ev hE (e2 _ (by omega) (by omega)) (e2 _ (by omega) (by omega)),⟨ls++[o],?_,by simp[h4],λk y hy=> ?_⟩,⟨es,clk,(e2 _ (by omega) (by omega)).trans h5,h6⟩,?_⟩
 .exact((h1.alloc ob).ej hb (by simp;omega)).ej (B:=P+1) ((ay (P+1) w4).setCell (p:=⟨P+1,0,none⟩) (ae (P+1)) v2) (by simp;omega)
 .exact hacc.ue (p:=⟨P+1,0,none⟩) (.inr (.inr (.inr (.inr rfl)))) (by show P+1<P+2;omega) _
 .by_cases hk:k<ls.length
  .rw[aq hk]at hy;exact h4' k y hy
  have:k=ls.length:=by
   have:=(ag.1 hy).1;simp at this;omega
  subst this;simp at hy;subst hy;rw[h4];exact ho
 have:=aA w4 (P+1) 0 _ _ v2 ((e1 _ (by omega)).trans h7);simpa [jZ]using this
def kW.put(hw:fL x)(h:kW x M w P p b sv o0 o1 W i j v)(c:PU w P p b){o:cm}(ho:x.bN[j]? =some o):∃W',(Instr.mapUpdate 91 (.map (some P)) o.id (xI (j:Int))).run prog W= .ok () W'/\kW x M w P p b sv o0 o1 W' i (j+1) v:=by
 have hl:=h.lt;have c1:=c.p2;have c2:=c.b2;have c3:=c.p1;obtain⟨h1,h2,⟨ls,h3,h4⟩,⟨es,clk,h5,h6⟩,h7⟩:=h;have zx:=(ag.1 ho).1;have hno:(x.bN.take j).findIdx? (λp=>decide (p.id=o.id))=none:=by
  refine List.findIdx?_eq_none_iff.2 λp hp=> ?_;have⟨k,hk⟩:=aP hp;rw[List.getElem?_take]at hk;split at hk
  .rename_i cE;have:=kD hw.rise hk ho;simp only[decide_eq_false_iff_not];intro e;have:=this e;omega
  cases hk
 have NB:cB es o.id=none:=by rw[h6,hno];rfl
 have⟨W',hrun,hm,ho'⟩:=cO.SO eI underlying91 fH fY h5 o.id (.int .i64 (j:Int)) NB;refine⟨W',hrun,⟨h1.only ho' (λk hk=>by subst hk;simp;omega),h2.ev ⟨ho'.mono (λk hk=> .inl (.inr (.inr (.inr (.inl hk))))),λk hk=> .inl hk⟩ (ho'.block _ (by omega) (by omega)) (ho'.block _ (by omega) (by omega)),⟨ls,h3.only ho' (λk hk=>⟨.inr (.inr (.inr (.inl hk))),by have hh:k=P:=hk;omega⟩),h4⟩,⟨_,_,hm,λn=> ?_⟩,ho'.at_ h7 (by omega)⟩⟩;rw[uE n NB,h6,ao,ho,List.findIdx?_append];by_cases hn:n=o.id
 .rw[if_pos hn,hn,hno];have:(x.bN.take j).length=j:=by rw[aK];omega
  simp[List.findIdx?_cons,this]
 rw[if_neg hn];have:decide (o.id=n)=false:=by simpa usingλe=>hn e.symm
 cases(x.bN.take j).findIdx? (λo=>decide (o.id=n))<;>simp[List.findIdx?_cons,this]
def kW.fin(h:kW x M w P p b sv o0 o1 W x.bN.length x.bN.length v)(c:PU w P p b)(hM:Bd M w)(ho:bh (λk=>k=[w]) W W'):Cl x M W' v P:=by
 have hl:=h.lt;have c1:=c.p2;have c2:=c.b2;have c3:=c.p1;obtain⟨h1,h2,⟨ls,h3,h4,h4'⟩,⟨es,clk,h5,h6⟩,h7⟩:=h;refine⟨⟨ls,?_,h4,h4'⟩,es,clk,ho.at_ h5 (by omega),λk=> ?_⟩
 .have hs:=(h3.only ho (λk hk=>⟨.inr (.inl hk),by have hh:k=[w]:=hk;omega⟩)).slice (λk hk=> ?_)
  .exact hs.ev (Ev.eO _ λk hk=> .inl hk)
  rcases hk with hk|hk|hk|hk|hk
  .have:=hM k hk;omega
  .omega
  .omega
  .omega
  omega
 rw[h6,ak cN]
end
def Mz(x:bU)(h:fL x){M:bY}{w:bq}(hM:Bd M w)(hG:Gd w){P p b:Nat}(c:PU w P p b){i:Nat}{o:cm}(ho:x.bN[i]? =some o):
 ∃(k ln:Nat),∀(W:bq)(sv v va:bt)(o0 o1:Obj)(j:Nat),kW x M w P p b sv o0 o1 W i j v->aS M w va o.bR->xC 61 #[xP p, .agg #[o.id,o.dz,o.dB,va]] W λe w'=>∃(us:List bE)(uv:bt),e=xR (.tuple #[.agg #[o.id,xI (k:Int),xI (ln:Int),uv],true])/\kV x i ⟨o.id,(k:Int),(ln:Int),us⟩/\aS (cz v (Gf M w b P)) w' uv us/\kW x M w P p b sv o0 o1 w' i j v/\bh (λk=>k=b) W w':=by
 have⟨_,_,k,v',l,hk⟩:=h.bN i o ho;refine⟨k,l.bo.length,λW sv v va o0 o1 j hs hva=> ?_⟩;have hb1:=c.b1;refine(IJ x.bH h.sch k l hk.line o v' 100000 (Int.le_refl _) hk.dz hk.dB hk.le (h.qck ho hk) hk.bR (cz v (Gf M w b P)) w W (hs.bd c hM) hG hs.bx.1 p b c.pb (.inl (.inr (.inr (.inl rfl)))) (by omega) sv va hs.book (hva.ev (hs.ev c))).mono ?_;rintro e w'⟨⟨us,uv,rfl,Rq,hsl⟩,hbk,hon⟩;exact⟨us,uv,rfl,⟨o,k,v',l,us,ho,hk,Rq,rfl⟩,hsl,hs.SH c hbk hon,hon⟩
def oP(x:bU)(h:fL x)(M:bY)(w:bq)(hM:Bd M w)(hG:Gd w)(lv ov rv:bt)(iH:aS M w lv x.bH)(hov:aS M w ov x.bN)(ib:aS M w rv x.bB):
 xG 21 #[.agg #[lv,ov,rv,x.next]] w λu w'=>∃lt pm,u= .tuple #[.agg #[lt, .map (some pm)],xI 0]/\Cl x M w' lt pm:=by
 have⟨i0,hi0,hz0,hz1,hz2⟩:=info_parts yM;have Gg:=ie (w:=w) (λW hb=>qF x.bH h.sch M W (hM.aT hb) (hG.tb.aT hb) lv (iH.aT hb));have C2:=ie (w:=w) (λW hb=>E6 x h M W lv ov rv (iH.aT hb) (hov.aT hb) (ib.aT hb));have NU:Hd (∀W,bC w W->w.heap.size+2<=W->_):=λW hb hz=>Kr x.bH (λi=>M i\/i=[w]) W (λi hi=>by rcases hi with hi|hi;(have:=hM i hi;omega);omega) lv (iH.ev ⟨bh.bA hb,λi hi=>hi.imp_right λe=>by omega⟩);have Xz:Hd (∀(P p b:Nat),PU w P p b->∀(i:Nat)(o:cm),x.bN[i]? =some o->_):=λP p b c i o ho=>Mz x h hM hG c ho;have HWH:Hd (∀W lt pm,bC w W->Cl x M W lt pm->_):=λW lt pm hb hg=>Mw x h M W (hM.aT hb) (hG.tb.aT hb) lt rv pm hg (ib.aT hb);have HO:Hd (∀i o,x.bN[i]? =some o->_):=λi o ho=>gX hov ho;have HWK:=aV h;have mQ:=aV hM;have h10:=h.len;obtain⟨la,lc,rfl,_⟩:=iH.bj;obtain⟨oa,oc,rfl,XC,hom,_⟩:=hov.bj;obtain⟨ra,rc,rfl,_⟩:=ib.bj;have Ns:=aV iH;clear iH hov ib hM hG h;have wP:Hd (∀W v P p b sv o0 o1 W',kW x M w P p b sv o0 o1 W x.bN.length x.bN.length v->PU w P p b->bh (λk=>k=[w]) W W'->Cl x M W' v P):=λW v P p b sv o0 o1 W' h1 h2 h3=>h1.fin h2 mQ.o h3;generalize hn:x.bN.length=n at*;have HN:=aV hn;clear hn;have hmk:=λw=>fJ 91 w;have⟨q0,hq0⟩:=dd (dI (xL la x.bH.length lc) (xL oa n oc) (xL ra x.bB.length rc) x.next);have⟨q1,hq1⟩:=dd (xK #[(), .map none] 93);have HQ0:=aV hq0;have HQ1:=aV hq1;have nj:Hd (∀W,Bx w [q0,q1] W->ed W w (dI (xL la x.bH.length lc) (xL oa n oc) (xL ra x.bB.length rc) x.next)):=λW hb=>by rw[<-HQ0.o];exact hb.cP rfl
 have qY:Hd (∀W,Bx w [q0,q1] W->cX W [w] (xK #[(), .map none] 93)):=λW hb=>by rw[<-HQ1.o];exact hb.cZ rfl
 clear hq0 hq1;delta xG;go_in;go_upto_region 1 with fail;have⟨W0,hW0⟩:=dd ((w.alloc (dI (xL la x.bH.length lc) (xL oa n oc) (xL ra x.bB.length rc) x.next)).alloc (xK #[(), .map none] 93));have dp:=aV (show Bx w [q0,q1] W0 by rw[hW0,HQ0.o,HQ1.o];exact Bx.ei w _ _);unfold dI at hW0;rw[<-hW0];clear hW0;have⟨c0,c1,c2,c3⟩:=aU (nj.o _ dp.o);go_wp2_with fail;refine dx (Gg.o _ dp.o.1) λw1 hb1=> ?_;have cu:=aV (dp.o.aT hb1);clear hb1 c0 c1 c2 c3;have⟨c0,c1,c2,c3⟩:=aU (nj.o _ cu.o);go_wp2_with fail;refine dx (C2.o _ cu.o.1) λw2 cJ=> ?_;have bZ:=aV (cu.o.aT cJ);clear cJ c0 c1 c2 c3;have⟨c0,c1,c2,c3⟩:=aU (nj.o _ bZ.o);have hs2:=bZ.o.cM;simp only[aC,aD]at hs2;go_wp2_with fail;refine(NU.o _ bZ.o.1 (by omega)).mono ?_;rintro e w3⟨p,b,rfl,hp1,hb1,wO,FR,hb3,F3,hbel⟩;have cR:=aV (bZ.o.aT hbel);have FY:=aV F3;have HC:Hd (PU w w3 p b):=⟨wO,by omega,FR,by omega,hb3⟩;clear F3 hbel c0 c1 c2 c3;have⟨c0,c1,c2,c3⟩:=aU (nj.o _ cR.o);go_upto_region 8 with fail;have⟨W7,hW7⟩:=dd ((w3.alloc (.map #[] 0)).alloc (jZ () w3));have iG:=aV (show kW x M w w3 p b (xL la x.bH.length lc) q0 q1 W7 0 0 ()by
  have hbb:bC w3 W7:=by rw[hW7];exact cU.alloc (by simp) _
  refine⟨cR.o.aT hbb,(FY.o _ (λi hi=> ?_)).ev (Ev.bA hbb) (hbb.block _ FR) (hbb.block _ hb3),⟨[],bP.nil _ _ _ _,rfl,λk o h=>by simp at h⟩,⟨[],0,?_,λn=> ?_⟩,?_⟩
  .have hc1:=HC.o.b1;rcases hi with(hi|hi|hi|hi|hi)|hi
   .exact .inl (.inl hi)
   .exact .inl (.inr hi)
   .right;omega
   .right;omega
   .right;omega
   cases hi
  .show W7.heap[w3.heap.size]? =_;rw[hW7];exact(cU.block w3 (by simp)).trans (az w3 _)
  .rfl
  rw[hW7];have:=az (w3.alloc (.map #[] 0)) (jZ () w3);simpa using this);unfold jZ at hW7;rw[<-hW7];clear hW7 hp1 hb1 wO FR hb3 FY c0 c1 c2 c3;generalize w3.heap.size=P at*;have⟨c0,c1,c2,c3⟩:=aU (nj.o _ iG.o.bx);go_wp2_with fail;clear c0 c1 c2 c3;go_loopg [3,8,9,10,11,34]n(λg r3 _ _ _ _ iv wr=>∃(i:Nat)(v:bt),i<=n/\g=n-i/\iv=xI i/\r3=xI 0/\Hd (kW x M w P p b (xL la x.bH.length lc) q0 q1 wr i i v));exact⟨0,_,ax _,rfl,rfl,rfl,iG⟩;obtain⟨i,v,hi,rfl,rfl,rfl,HS⟩:=hrel;have hva:∃a c,v=xL a i c:=by
  have⟨ls,h3,h4,_⟩:=HS.o.late;have⟨a,c,e,_⟩:=h3.bj;rw[h4]at e;exact⟨a,c,e⟩
 obtain⟨a,c,rfl⟩:=hva;have hPl:=HS.o.lt;have HNO:Hd (¬cz (xL a i c) (Gf M w b P) wr):=λh=>Nat.lt_irrefl _ (HS.o.bd HC.o mQ.o _ h);have hbP:=HC.o.b2;by_cases cE:i<n
 .have⟨o,ho⟩:=fg x.bN i (by rw[HN.o];exact cE);have⟨b',off,cap,va,vc,hv,hbl,hvs,hcells⟩:=HO.o i o ho;obtain⟨rfl,rfl⟩:oa=some ⟨b',off,none⟩/\oc=cap:=by first|simpa using hv|(rw[HN.o]at hv;simpa using hv)
  have⟨g0,g1,g2,g3⟩:=hcells wr HS.o.bx.1;have HOO:=aV ho;have⟨k,ln,hl⟩:=Xz.o P p b HC.o i o ho;have HL:=aV (λob=>hl (wr.alloc ob) (xL la x.bH.length lc) (xL a i c) (xL va o.bR.length vc) q0 q1 i (HS.o.aT HC.o (eH.alloc cN ob)) hvs);obtain⟨oi,occ,ov,os⟩:=o;dsimp only at*;clear hcells hv ho hl hvs;go_wp2_with fail;refine(HL.o _).mono ?_;rintro e w4⟨us,uv,rfl,j6,hsl,hst,hon⟩;have CQ:=hsl;obtain⟨ua,uc,rfl,_⟩:=CQ.bj;have TX:ed w4 wr (eV ⟨oi,occ,ov,os⟩ (xL va os.length vc)):=hon.at_ (az wr _) (by omega);have Xu:wr.heap.size<w4:=(ab.1 TX).1;have qen:=aV hst;have gS:=aV hsl;have pr:=aV j6;have YP:=aV TX;clear hsl hst hon j6 TX g0 g1 g2 g3;go_upto_region 14 with fail;have⟨W5,hW5⟩:=dd (w4.alloc (eV ⟨oi,(k:Int),(ln:Int),us⟩ (xL ua us.length uc)));have hz5:w4.heap.size+1<=W5:=by rw[hW5];simp
  have vY:=aV (show kW x M w P p b (xL la x.bH.length lc) q0 q1 W5 i i (xL a i c)by rw[hW5];exact qen.o.aT HC.o cU);have HN5:=aV (show ed W5 w4 (eV ⟨oi,(k:Int),(ln:Int),us⟩ (xL ua us.length uc))by rw[hW5];exact az w4 _);have qeo:=aV (show ed W5 wr (eV ⟨oi,occ,ov,os⟩ (xL va os.length vc))by rw[hW5];exact(aB w4 _ _ Xu).trans YP.o);have Xr:Hd (∀o',aS (cz (xL a i c) (Gf M w b P)) (W5.alloc o') (xL ua us.length uc) us):=λo'=>by rw[hW5];exact gS.o.aT (cU.alloc (by simp) o')
  unfold eV at hW5;rw[<-hW5];clear hW5;have qg9:=vY.o.lt;have⟨p0,p1⟩:=aZ vY.o.g;have⟨n0,n1,n2,n3⟩:=aU HN5.o;have⟨ls,hacc,hlen,hlt6⟩:=vY.o.late;have nT:=aV hacc;have lp:=aV hlen;have qep:=aV hlt6;clear hacc hlen hlt6;have qha:i<=500:=by omega
  have fR:Hd (∀o',bD.rep (α:=cm) (cz (xL a i c) (Gf M w b P)) (W5.alloc o') [xI oi,xI (k:Int),xI (ln:Int),xL ua us.length uc] ⟨oi,(k:Int),(ln:Int),us⟩):=λo'=>⟨_,rfl,Xr.o o'⟩;go_upto_region 15 with(
   at_builtin;refine cA (α:=cm) rfl _ _ _ rfl (Gf M w b P) (P+2) 41 i0 _ 48 underlying31 hi0 hz0 hz1 hz2 rfl (by decide) (.slice a i c) ls rfl (nT.o.alloc _) (λ_=>True) _ _ ⟨oi,(k:Int),(ln:Int),us⟩ rfl (dj _ _ _ _ rfl trivial) (fR.o _) (by rw[lp.o];unfold maxLen;omega) (by rw[lp.o];omega) (by simp;omega) ?_;rw[lp.o];intro a2 c2 w6 cF eD cJ;have rX:=aV (vY.o.next HC.o (o:=⟨oi,(k:Int),(ln:Int),us⟩) pr.o _ lp.o qep.o cF eD cJ);have hp6:cX w6 (P+1) (jZ (xL a i c) P):=(cJ.block _ (by omega)).trans ((aB W5 _ _ (by omega)).trans vY.o.g);have p6:=(aZ hp6).1;have f6:=aY hp6 0;have hc6:ed w6 wr (eV ⟨oi,occ,ov,os⟩ (xL va os.length vc)):=(eD.only.block _ (by simp;omega) HNO.o).trans ((aB W5 _ _ (by omega)).trans qeo.o);have HC6:Hd ((w6.setCell (P+1,0) (xL a2 (i+1) c2)).heap[wr.heap.size]? =some (eV ⟨oi,occ,ov,os⟩ (xL va os.length vc))):=(aj _ _ _ _ (by show wr≠P+1;omega)).trans hc6;clear cF eD cJ hp6 hc6);have⟨W7',hW7'⟩:=dd (w6.setCell (P+1,0) (xL a2 (i+1) c2));rw[<-hW7']at rX HC6⊢;clear hW7' p6 f6 p0 p1 n0 n1 n2 n3;have⟨p0,p1⟩:=aZ rX.o.g;have⟨n0,n1,n2,n3⟩:=aU HC6.o;have⟨W8,hrun,hst8⟩:=rX.o.put HWK.o HC.o HOO.o;have qeq:=aV hst8;clear hst8;go_wp2;go_roundg(n-(i+1));exact⟨i+1,_,by omega,rfl,by go_num,rfl,qeq⟩;omega
 obtain rfl:i=n:=by omega
 have⟨p0,p1⟩:=aZ HS.o.g;have⟨c0,c1,c2,c3⟩:=aU (nj.o _ HS.o.bx);have JO:=aV (wP.o wr _ P p b _ _ _ wr HS.o HC.o (bh.refl _ _));go_wp2_with fail;refine dx (HWH.o _ _ _ HS.o.bx.1 JO.o) λw7 gw=> ?_;have Ae:=aV (HS.o.aT HC.o gw);clear gw p0 p1 c0 c1 c2 c3;have⟨p0,p1⟩:=aZ Ae.o.g;have⟨r0,r1⟩:=aZ (qY.o _ Ae.o.bx);have⟨f0,f1⟩:=nZ (qY.o _ Ae.o.bx);have qhb:P+1≠w.heap.size+1:=by have:=HC.o.b1;omega
 have po:Hd (∀W',W'=(w7.setCell ([w],0) (xL a i c)).setCell ([w],1) (.map (some P))->(∃lt pm,Value.tuple #[.agg #[xL a i c, .map (some P)],xI 0]= .tuple #[.agg #[lt, .map (some pm)],xI 0]/\Cl x M W' lt pm)/\bC w W'):=λW' hW'=>by
  refine⟨⟨_,_,rfl,wP.o w7 _ P p b _ _ _ W' Ae.o HC.o ?_⟩,?_⟩
  .rw[hW'];exact((bh.refl (λk=>k=[w]) w7).setCell (p:=⟨[w],0,none⟩) (.inl rfl) _).setCell (p:=⟨[w],1,none⟩) (.inl rfl) _
  rw[hW'];exact(Ae.o.bx.1.setCell (by simp) _).setCell (by simp) _
 go_wp2_with fail;exact ah (v:= .tuple #[.agg #[xL a i c, .map (some P)],xI 0]) (by simp[results,results21,go_sem,r0,r1,f0,f1]) rfl ⟨_,rfl,po.o _ rfl⟩
end
section
open Go.RowKit Go.Shelf
open Go.ChangeMaps (setBlock heap_setBlock_same heap_setBlock_other)
def MA(h:Mk.eY w b S)(x:Int)(hx:x∈S):∃w',(Instr.mapUpdate 96 (.map (some b)) x true).run prog w= .ok () w'/\Mk.eY w' b S/\bh (λi=>i=b) w w':=by
 have hs:Mk.eY w b S:=h;obtain⟨es,clk,h,rfl⟩:=h;have hi:=List.idxOf_lt_length_iff.2 hx;rw[aL]at hi;have⟨p,hp⟩:=fg es ((es.map (·.1)).idxOf x) hi;have hp1:p.1=x:=by
  have h1:(es.map (·.1))[(es.map (·.1)).idxOf x]? =some x:=by
   rw[af (List.idxOf_lt_length_iff.2 hx)];simp[List.getElem_idxOf]
  rw[List.getElem?_map,hp]at h1;simpa using h1
 have qbe:(es.map Mk.tR).toArray[(es.map (·.1)).idxOf x]? =some (Mk.tR p):=by
  simp[hp]
 have QV:(es.map Mk.tR).toArray.modify ((es.map (·.1)).idxOf x) (λe=>{e with key:=xI x,val:=xB true})=(es.map Mk.tR).toArray:=by
  apply Array.ext_getElem?;intro j;rw[Array.getElem?_modify];split
  .rename_i hj;subst hj;rw[qbe];simp[Mk.tR,hp1]
  rfl
 have hky:(Instr.keyThatStays x x).run prog w= .ok x w:=by
  have UU:Instr.sameBits 10000 x (xI x)=true:=by
   show Instr.sameBits (9999+1) _ _=true;rw[Instr.sameBits]<;>simp
  simp[Instr.keyThatStays,UU]
 refine⟨setBlock w b (.map (es.map Mk.tR).toArray clk),?_,⟨es,clk,⟨heap_setBlock_same h.1 _,h.2⟩,rfl⟩,⟨rfl,rfl,rfl,by simp[setBlock],λi _ hi=>heap_setBlock_other h.1 _ hi⟩⟩;have hk2:(Mk.tR p).key=xI x:=by simp[Mk.tR,hp1]
 simp only[Instr.mapUpdate,Sem.run_bind,run_underlying underlying96,Result.andThen_ok,MapKept.run_getObj_map h.1,Mk.run_checkKey,Mk.run_findKey,hx,if_true,qbe,Option.map_some,Option.getD_some,hk2,hky,QV,MapKept.run_setObj_map _ h.1];rfl
def SY(h:Mk.eY w b S)(x:Int):∃w' S',(Instr.mapUpdate 96 (.map (some b)) x true).run prog w= .ok () w'/\Mk.eY w' b S'/\(∀n,n∈S'↔n∈S\/n=x)/\bh (λi=>i=b) w w':=by
 by_cases hx:x∈S
 .have⟨w',h1,h2,h3⟩:=MA h x hx;exact⟨w',S,h1,h2,λn=>⟨.inl,λh=>h.elim id λe=>e▸hx⟩,h3⟩
 have⟨w',h1,h2,h3⟩:=h.store x hx;exact⟨w',S++[x],h1,h2,λn=>by simp,h3⟩
def Gb.bj(h:Gb W l v w'):∃za,v=xL za l.length l.length:=by
 rcases h with⟨rfl,rfl⟩|⟨B,h0,hB,rfl,hr⟩<;>exact⟨_,rfl⟩
def Gb.stay(h:Gb W l v w1)(hw:w.heap.size<=W)(hz:w1.heap.size<=w2)(hk:∀k,W.heap.size<=k->k<w1.heap.size->w2.heap[k]? =w1.heap[k]?):Gb w l v w2:=by
 rcases h with⟨rfl,rfl⟩|⟨B,h0,hB,rfl,hr⟩
 .exact .inl ⟨rfl,rfl⟩
 exact .inr ⟨B,h0,by omega,rfl,hr.stay kE hz λk k1 k2=>hk k (by omega) k2⟩
def vD {fs:List bJ}{x:cm}(h:cD fs br x.bR)(hl:x.bR.length<=12)(M:bY)(w:bq)(v:bt)(hM:Bd M w)(hs:aS M w v x.bR):
 xG 94 #[.agg #[x.id,x.dz,x.dB,v]] w λu w'=>∃za,u= .agg #[x.id,x.dz,x.dB,xL za x.bR.length x.bR.length]/\∀w0:bq,w0.heap.size<=↑w+2->Gb w0 x.bR (xL za x.bR.length x.bR.length) w':=by
 have zo:Hd (∀W,bC w W->w.heap.size+2<=W->_):=λW hb hz=>vu h hl (eo M w 2) W v (dZ hM hz) (hs.ev (dH hb));obtain⟨a,cY,rfl,_⟩:=hs.bj;generalize hm:x.bR.length=m at*;have vM:=aV hm;have dp:=aV (Bx.ei w (xK #[x.id,x.dz,x.dB,xL a m cY] 41) (xK #[xI 0,xI 0,xI 0,()] 41));delta xG;go_in;go_wp2_with fail;refine(zo.o _ dp.o.1 (by simp)).mono ?_;rintro e w1⟨vx,rfl,hs1,hb1⟩;obtain⟨za,rfl⟩:=hs1.bj;rw[vM.o]at*;have HB:=aV (dp.o.aT hb1);have YP:=aV hs1;have⟨r0,r1,r2,r3⟩:=aU (HB.o.cP rfl);have⟨e0,e1,e2,e3⟩:=aU (HB.o.cZ rfl);have f3:=aY (HB.o.cP rfl) 3;have⟨g0,g1,g2,g3⟩:=iS (HB.o.cZ rfl);go_wp2_with fail;refine ah (v:= .agg #[x.id,x.dz,x.dB,xL za m m]) (by simp[results,results94,go_sem,e0,e1,e2,e3]) rfl ⟨_,rfl,⟨za,rfl,λw0 hw0=> ?_⟩,?_⟩
 .refine YP.o.stay (by simpa using hw0) (by simp[World.setCell]) λk k1 _=> ?_;have hk:↑w+2<=k:=by simpa using k1
  rw[aj _ _ _ _ (by simp;omega),aj _ _ _ _ (by simp;omega),aj _ _ _ _ (by simp;omega),aj _ _ _ _ (by simp;omega),aj _ _ _ _ (by simp;omega)]
 exact((((HB.o.1.setCell (by simp) _).setCell (by simp) _).setCell (by simp) _).setCell (by simp) _).setCell (by simp) _
def uG(S:List Int)(k n:Int)(s:bS)(a:fM)(m c:Nat)(k' n':Int)(s':bS)(a':fM)(m' c':Nat):Prop:=
 ((k=4/\n∉S)/\k'=0/\n'=0/\s'=mz/\a'=none/\m'=0/\c'=0)\/(¬(k=4/\n∉S)/\k'=k/\n'=n/\s'=s/\a'=a/\m'=m/\c'=c)
def E8(k n:Int)(s:bS)(a:fM)(m c pl sb:Nat)(S:List Int)(w:bq)(hp:cX w pl (xK #[.map (some sb)] 96))(hS:Mk.eY w sb S):
 xC 149 #[.agg #[k,n,s,xL a m c],xP pl] w λe w'=>∃k' n' s' a' m' c',e=xR (.agg #[xI k',xI n',xS s',xL a' m' c'])/\uG S k n s a m c k' n' s' a' m' c'/\bC w w':=by
 have iJ:=(ab.1 hp).1;have hsl:=hS.lt;have⟨W,hW⟩:=dd ((w.alloc (xK #[k,n,s,xL a m c] 50)).alloc (xK jl 50));have HB:=aV (Bx.ei w (xK #[k,n,s,xL a m c] 50) (xK jl 50));rw[<-hW]at HB;have hc:=one_cell ((HB.o.1.block pl iJ).trans hp);have mD:=(hS.same (HB.o.1.block sb hsl)).lookup n;have⟨r0,r1,r2,r3⟩:=aU (HB.o.cP rfl);have⟨e0,e1,e2,e3⟩:=aU (HB.o.cZ rfl);have⟨g0,g1,g2,g3⟩:=iS (HB.o.cZ rfl);have CP:Hd (∀a b c d,bC w ((((W.setCell ([w],0) a).setCell ([w],1) b).setCell ([w],2) c).setCell ([w],3) d)):=λa b c d=>(((HB.o.1.setCell (by simp) _).setCell (by simp) _).setCell (by simp) _).setCell (by simp) _;by_cases hk:k=4
 .by_cases hn:n∈S
  .have Jy:Hd (uG S k n s a m c k n s a m c):= .inr ⟨λh=>h.2 hn,rfl,rfl,rfl,rfl,rfl,rfl⟩;have hd:decide (n∈S)=true:=by simpa using hn
   rw[hd]at mD;subst hk;clear hd hn hS hp iJ hsl HB;go_enter func149,ntmps149;go_upto_region 1 with fail;rw[<-hW];clear hW;go_wp2_with fail;refine ah (v:= .agg #[xI 4,n,s,xL a m c]) (by simp[results,results149,go_sem,e0,e1,e2,e3]) rfl ⟨_,_,_,_,_,_,rfl,Jy.o,CP.o _ _ _ _⟩
  have Jy:Hd (uG S k n s a m c 0 0 () none 0 0):= .inl ⟨⟨hk,hn⟩,rfl,rfl,rfl,rfl,rfl,rfl⟩;have hd:decide (n∈S)=false:=by simpa using hn
  rw[hd]at mD;subst hk;clear hd hn hS hp iJ hsl HB;go_enter func149,ntmps149;go_upto_region 1 with fail;rw[<-hW];clear hW;go_wp2_with fail;refine ah (v:= .agg jl) (by simp[results,results149,go_sem,e0,e1,e2,e3]) rfl ⟨_,_,_,_,_,_,rfl,Jy.o,CP.o _ _ _ _⟩
 have Jy:Hd (uG S k n s a m c k n s a m c):= .inr ⟨λh=>hk h.1,rfl,rfl,rfl,rfl,rfl,rfl⟩;have hk':(k==4)=false:=by simpa using hk
 clear hS hp iJ hsl HB hk mD;go_enter func149,ntmps149;go_upto_region 1 with fail;rw[<-hW];clear hW;go_wp2_with fail;refine ah (v:= .agg #[k,n,s,xL a m c]) (by simp[results,results149,go_sem,e0,e1,e2,e3]) rfl ⟨_,_,_,_,_,_,rfl,Jy.o,CP.o _ _ _ _⟩
def E9(k n:Int)(s:bS)(a:fM)(m c:Nat)(S:List Int):∃k' n' s' a' m' c',uG S k n s a m c k' n' s' a' m' c'/\∀(pl sb:Nat)(w:bq),cX w pl (xK #[.map (some sb)] 96)->Mk.eY w sb S->
 xC 149 #[.agg #[k,n,s,xL a m c],xP pl] w (di (.agg #[k',n',s',xL a' m' c']) w):=by
 by_cases h:k=4/\n∉S
 .refine⟨0,0,mz,none,0,0, .inl ⟨h,rfl,rfl,rfl,rfl,rfl,rfl⟩,λpl sb w h1 h2=>(E8 k n s a m c pl sb S w h1 h2).mono ?_⟩;rintro e w'⟨_,_,_,_,_,_,rfl,⟨_,rfl,rfl,rfl,rfl,rfl,rfl⟩|⟨hn,_⟩,hb⟩
  .exact⟨rfl,hb⟩
  exact absurd h hn
 refine⟨k,n,s,a,m,c, .inr ⟨h,rfl,rfl,rfl,rfl,rfl,rfl⟩,λpl sb w h1 h2=>(E8 k n s a m c pl sb S w h1 h2).mono ?_⟩;rintro e w'⟨_,_,_,_,_,_,rfl,⟨hy,_⟩|⟨_,rfl,rfl,rfl,rfl,rfl,rfl⟩,hb⟩
 .exact absurd hy h
 exact⟨rfl,hb⟩
end
section
open Go.RowKit Go.Shelf
def SZ(x:bU)(r:fC)(hn:bF r.aX=true/\r.aX.size<=maxLen)(hid:1<=r.id/\r.id<=100000)(M:bY)(w0 W:bq)(hb0:bC w0 W)(B p b mo mr:Nat)(hC:yI w0 B p b mo mr)(sv vv fv:bt)(hB:dw x (kL M B b mo mr) B p b mo mr sv W)(hv1:∃fa fn fc,vv=xL fa fn fc)(hf1:∃fa fn fc,fv=xL fa fn fc):
 xC 33 #[xP B,yJ r vv fv] W λe w'=>e=xR (xI 0)/\dw ⟨x.bH,x.bN,tm x.bB ⟨r.aX,r.id⟩,x.next⟩ (kL M B b mo mr) B p b mo mr sv w'/\bh (SX B b mo mr) W w':=by
 have C9:Hd (∀W,_):=λW=>oO r.aX hn.1 hn.2 W;have nk:=aV hB;have nV:=aV hC;obtain⟨va,vn,vc,rfl⟩:=hv1;obtain⟨fa,fn,fc,rfl⟩:=hf1;clear hB hC hb0 hn;obtain⟨rk,ro,ri,rv,rn,⟨rcn,rcf⟩,⟨rx0,rx1,rx2,rx3,⟨rx4,rx5⟩,rx6,rx7⟩⟩:=r;obtain⟨oi,oc,ov,os⟩:=ro;obtain⟨xl,xo,xr,nx⟩:=x;dsimp only at*;have⟨rD,hrD⟩:=dd ((⟨rk,⟨oi,oc,ov,os⟩,ri,rv,rn,⟨rcn,rcf⟩,⟨rx0,rx1,rx2,rx3,⟨rx4,rx5⟩,rx6,rx7⟩⟩:fC));delta xC;go_in;go_upto_region 1 with fail;have⟨W1,hW1⟩:=dd (W.alloc (mX rD (xL va vn vc) (xL fa fn fc)));have gy:=aV (show ed W1 W (mX rD (xL va vn vc) (xL fa fn fc))by rw[hW1];exact az W _);have cu:=aV (show bC W W1 by rw[hW1];exact cU);rw[hrD]at gy hW1;unfold mX at hW1;dsimp only at hW1;rw[<-hW1];clear hW1 hrD;have Dc:=aV (ab.1 gy.o).1;obtain⟨-,-,-,-,-,k5,-,k7,-⟩:=gM gy.o;dsimp only at k5 k7;have h1:¬ri<0:=by omega
 have h2:¬100000<ri:=by omega
 go_wp2_with fail;refine dx (C9.o _) λw1 hb1=> ?_;have bZ:=aV (cu.o.trans (hb1.mono cu.o.size));have gz:=aV ((hb1.block _ Dc.o).trans gy.o);clear hb1 k5 k7;obtain⟨-,-,-,-,-,k5,-,k7,-⟩:=gM gz.o;dsimp only at k5 k7;have h3:¬ri=0:=by omega
 have⟨y0,y1,y2,y3,y4⟩:=eK (nk.o.aT bZ.o).cell;dsimp only at y0 y4;have⟨wa,ea,ma⟩:=(nk.o.aT bZ.o).E0 nV.o ⟨rn,ri⟩;have⟨wb,eb,mb⟩:=((nk.o.aT bZ.o).aT (ay _ w1).drew).E0 nV.o ⟨rn,ri⟩;have Gu:=aV ma;have v8:Hd (dw ⟨xl,xo,tm xr ⟨rn,ri⟩,nx⟩ (kL M B b mo mr) B p b mo mr sv wb/\bh (λi=>i=mr) w1 wb):=⟨mb.1,((bh.refl _ w1).drew).trans mb.2⟩;clear ma mb;dsimp only at ea eb;go_upto_region 5 with fail;go_cut [](λwx=>Hd (dw ⟨xl,xo,tm xr ⟨rn,ri⟩,nx⟩ (kL M B b mo mr) B p b mo mr sv wx/\bh (λi=>i=mr) w1 wx))
 .go_region_law fail;all_goals go_wp2_with fail
  all_goals go_meet
  all_goals first|exact v8|exact Gu|trace_state
 clear k5 k7 y0 y1 y2 y3 y4 ea eb Gu v8;go_wp2;go_ret;exact⟨rfl,hcut.o.1,(bh.bA bZ.o).trans (hcut.o.2.mono λi hi=> .inr (.inr (.inr hi)))⟩
def tI(f:bE->bE)(l:List bE)(i:Nat):List bE:=(l.take i).map f++l.drop i
section
variable {f:bE->bE}{l:List bE}{i:Nat}{x:bE}
def Fv:tI f l 0=l:=by simp[tI]
def KD:(tI f l i).length=l.length:=by simp[tI];omega
def KE(h:l.length<=i):tI f l i=l.map f:=by simp[tI,ak h,List.drop_of_length_le h]
def Fw(h:l[i]? =some x):l.drop i=x::l.drop (i+1):=by
 have⟨hi,e⟩:=ag.1 h;rw[List.drop_eq_getElem_cons hi,e]
def Qq(h:l[i]? =some x):(tI f l i)[i]? =some x:=by
 have hi:=(ag.1 h).1;unfold tI;rw[au (by simp;omega),aL,aK,Nat.min_eq_left (by omega),Nat.sub_self,Fw h];rfl
def KF(h:l[i]? =some x):(tI f l i).set i (f x)=tI f l (i+1):=by
 have hi:=(ag.1 h).1;have ht:l.take (i+1)=l.take i++[x]:=by rw[ao,h];rfl
 unfold tI;rw[Fw h,ht,List.map_append,List.set_append_right _ _ (by simp;omega),aL,aK,Nat.min_eq_left (by omega),Nat.sub_self];simp
end
def vI {S:List Int}(h:∀n,n∈S↔n∈al):eW S=eW al:=funext λx=>by unfold eW;simp only[h]
def Fx {S:List Int}(h:∀n,n∈S↔n∈al):gq S=gq al:=funext λ
 | .mk k n s l=>by
   show(if k=5 then _ else _)=(if k=5 then _ else _);rw[vI h]
def MX {S:List Int}{lo hi:Nat}{w:bq}{k n:Int}{s:bS}{l:List bE}{ad:fM}{k' n':Int}{s':bS}{a':fM}{m' c':Nat}(h:nP lo hi w [xI k,xI n,xS s,xL ad l.length l.length] (.mk k n s l))(hc:uG S k n s ad l.length l.length k' n' s' a' m' c'):
 nP lo hi w [xI k',xI n',xS s',xL a' m' c'] (eW S (.mk k n s l)):=by
 have e:eW S (.mk k n s l)=if k=4/\n∉S then .mk 0 0 mz []else .mk k n s l:=rfl;rcases hc with⟨hc,rfl,rfl,rfl,rfl,rfl,rfl⟩|⟨hc,rfl,rfl,rfl,rfl,rfl,rfl⟩
 .rw[e,if_pos hc];exact⟨0,0,mz,[],none,rfl,iM,rfl,ax _, .inl ⟨rfl,rfl⟩⟩
 rw[e,if_neg hc];exact h
section
variable {B:Nat}{w w':bq}{n i:Nat}{xs:List bE}{s:Nat->Nat}{k m:Int}{t:bS}{l:List bE}{a:fM}
def lH.own(h:lH nP B w n xs s)(hx:xs[i]? =some (.mk k m t l)):∃a,(cC w B (i*4) k/\cC w B (i*4+1) m/\cC w B (i*4+2) t/\cC w B (i*4+3) (xL a l.length l.length))/\
 (w.frozen? (B,i*4)=false/\w.frozen? (B,i*4+1)=false/\w.frozen? (B,i*4+2)=false/\w.frozen? (B,i*4+3)=false)/\nP (s i) (s (i+1)) w [xI k,xI m,xS t,xL a l.length l.length] (.mk k m t l):=by
 have⟨a0,a1,a2,a3,hc,hf,hr⟩:=h.at_ hx;have NP:=hr;obtain⟨k0,m0,t0,l0,ad,e0,_,e1,_,_⟩:=hr;cases e0;obtain⟨rfl,rfl,rfl,rfl⟩:a0=xI k/\a1=xI m/\a2=xS t/\a3=xL ad l.length l.length:=by simpa using e1
 exact⟨ad,hc,hf,NP⟩
def lH.inner(h:lH nP B w n xs s)(hx:xs[i]? =some (.mk k m t l))(hb:w.cell? (B,i*4+3)=some (.slice a l.length l.length))(h0:0<l.length):∃b,a=some ⟨b,0,none⟩/\B<b/\tt b w l:=by
 have h4:B<s 0/\∀i,s i<=s (i+1):=by obtain⟨_,_,_,_,h4,h5,_⟩:=h;exact⟨h4,h5⟩
 have⟨a',hc,_,hr⟩:=h.own hx;have Q6:=hb.symm.trans hc.2.2.2;obtain rfl:a=a':=by simpa using Q6
 obtain⟨k0,m0,t0,l0,ad,e0,_,e1,_,hor⟩:=hr;cases e0;obtain rfl:a=ad:=by simpa using e1
 rcases hor with⟨rfl,_⟩|⟨b,b0,b1,b2,rfl,Yo⟩
 .exact absurd h0 (by simp)
 exact⟨b,rfl,by have:=jY h4.2 (ax i);omega,Yo⟩
end
def lH.qcx {R:VF}{B:Nat}{w:bq}{n:Nat}{xs:List bE}{s:Nat->Nat}(h:lH R B w n xs s){i:Nat}(hi:i<xs.length)(u0 u1 u2 u3:bt):(lD w B (i*4) u0 u1 u2 u3).cell? (B,i*4+3)=some u3:=by
 obtain⟨cur,h1,h2,h3,_⟩:=h;refine cell_of_heap (fG h1 u0 u1 u2 u3) ?_;rw[eC (by omega),if_neg (by omega),if_neg (by omega),if_neg (by omega),if_pos rfl]
structure CZ(x:cm)(S:List Int)(w:bq)(v:bt)(wr:bq):Prop where
 low:bC w wr
 size:w.heap.size+4<=wr
 j9:wr.heap[w.heap.size]? =some (xK #[x.id,x.dz,x.dB,v] 41)
 res:wr.heap[w.heap.size+1]? =some (xK #[xI 0,xI 0,xI 0,()] 41)
 cel:wr.heap[w.heap.size+1+1+1]? =some (xK #[.map (some [w,w])] 96)
 set:Mk.eY wr [w,w] S
section
variable {x:cm}{S:List Int}{w wr w':bq}{v:bt}
def CZ.same(h:CZ x S w v wr)(hl:bC w w')(hz:wr.heap.size<=w')(hk:∀k,k<w.heap.size+4->w'.heap[k]? =wr.heap[k]?):CZ x S w v w':=
 ⟨hl,aH h.size hz,(hk _ (by omega)).trans h.j9,(hk _ (by omega)).trans h.res,(hk _ (by omega)).trans h.cel,h.set.same (hk _ (by omega))⟩
def CZ.aT(h:CZ x S w v wr)(hb:bC wr w'):CZ x S w v w':=
 h.same (h.low.trans (hb.mono h.low.size)) hb.size λk hk=>hb.block k (by have:=h.size;omega)
def CZ.add(h:CZ x S w v wr){S':List Int}(hs:Mk.eY w' [w,w] S')(ho:bh (λk=>k=[w,w]) wr w'):CZ x S' w v w':=by
 have hz:=h.size;have hk:∀k,k<w.heap.size+4->k≠w.heap.size+1+1->w'.heap[k]? =wr.heap[k]? :=λk hk hn=>ho.block k (by omega) hn;refine⟨⟨ho.os.trans h.low.os,ho.tape.trans h.low.tape,ho.output.trans h.low.output,aH h.low.size ho.size,λi hi=>(hk i (by omega) (by omega)).trans (h.low.block i hi)⟩,aH hz ho.size,(hk _ (by omega) (by omega)).trans h.j9,(hk _ (by omega) (by omega)).trans h.res,(hk _ (by omega) (by omega)).trans h.cel,hs⟩
def CZ.put(h:CZ x S w v wr)(v':bt):CZ x S w v' (lD wr w 0 x.id x.dz x.dB v'):=by
 have hk:∀k,k≠w.heap.size->(lD wr w 0 x.id x.dz x.dB v').heap[k]? =wr.heap[k]? :=λk hk=>iE hk;exact⟨(((h.low.setCell (p:=⟨w,0,none⟩) cN _).setCell (p:=⟨w,0+1,none⟩) cN _).setCell (p:=⟨w,0+2,none⟩) cN _).setCell (p:=⟨w,0+3,none⟩) cN _,by rw[lP];exact h.size,fG (o:=0) h.j9 _ _ _ _,(hk _ (by omega)).trans h.res,(hk _ (by omega)).trans h.cel,h.set.same (hk _ (by omega))⟩
end
structure CJ(x:cm)(S:List Int)(w:bq)(B:Nat)(s:Nat->Nat)(m:Nat)(X:List bE)(wr:bq):Prop where
 a:CZ x S w (xL (B,0) m m) wr
 base:↑w+4<=B
 row:lH nP B wr m X s
section
variable {x:cm}{S:List Int}{w wr w':bq}{B m:Nat}{s:Nat->Nat}{X:List bE}
def CJ.aT(h:CJ x S w B s m X wr)(hb:bC wr w'):CJ x S w B s m X w':=⟨h.a.aT hb,h.base,h.row.aT kE hb⟩
def tJ {o:Nat}{u0 u1 u2 u3:bt}{N:Nat}(h:Below N w w')(hb:N<=b):Below N w (lD w' b o u0 u1 u2 u3):=
 (((h.setCell (p:=(b,o)) hb _).setCell (p:=⟨b,o+1,none⟩) hb _).setCell (p:=⟨b,o+2,none⟩) hb _).setCell (p:=⟨b,o+3,none⟩) hb _
def CJ.over(h:CJ x S w B s m X wr){i:Nat}{u0 u1 u2 u3:bt}(hi:i<X.length)(hy:nP (s i) (s (i+1)) wr [u0,u1,u2,u3] y):CJ x S w B s m (X.set i y) (lD wr B (i*4) u0 u1 u2 u3):=by
 have hB:=h.base;exact⟨h.a.same (tJ h.a.low (by omega)) (by rw[lP];exact cN) λk hk=>iE (by omega),hB,h.row.over kE hi hy⟩
def CJ.nest(h:CJ x S w B s m X wr){i:Nat}{k n:Int}{t:bS}{l:List bE}(hx:X[i]? =some (.mk k n t l))(hb:cC wr B (i*4+3) (xL (b,0) l.length l.length))(hBb:B<b)(hr:tt b wr l)(hj:j<l.length)(k' n':Int)(t':bS)(ht:t'.size<=maxLen):
 CJ x S w B s m (X.set i (.mk k n t (l.set j (.mk k' n' t' [])))) (lD wr b (j*4) k' n' t' ()):=by
 have hB:=h.base;exact⟨h.a.same (tJ h.a.low (by omega)) (by rw[lP];exact cN) λk hk=>iE (by omega),hB,h.row.nest hx hb (by simp) (hr.set hj k' n' t' ht) lP λq hq=>iE hq⟩
end
def Qr {fs:List bJ}(x:cm)(h:cD fs br x.bR)(hl:x.bR.length<=12)(al:List Int)(NC:al.length<=1000)(M:Nat->Prop)(w:World)(v av:Value)(hM:Bd M w)(hs:aS M w v x.bR)(ha:aS (α:=Int) M w av al):
 xG 68 #[.agg #[x.id,x.dz,x.dB,v],av] w λu w'=>∃v',u= .agg #[x.id,x.dz,x.dB,v']/\aS M w' v' (x.bR.map (gq al)):=by
 have HFO:Hd (∀W,bC w W->w.heap.size+4<=W->_):=λW hb hz=>vD h hl (eo M w 4) W v (dZ hM hz) (hs.ev (dH hb));have RE:Hd (∀(i:Nat)(z:Int),al[i]? =some z->_):=λi z hz=>lM ha hz;have BC:∀(fn:Fn)(bu cap:Array Value)(w:World),(Instr.makeFunc fn bu cap).run prog w= .ok (.func fn bu cap) w:=λ_ _ _ _=>rfl;have hmk:=λw=>fJ 96 w;obtain⟨aa,ac,rfl,_⟩:=ha.bj;obtain⟨va,vc,rfl,_⟩:=hs.bj;have vM:=aV hM;obtain⟨m,hm⟩:=js (x.bR.length);have HM:=aV hm;obtain⟨q,hq⟩:=js (al.length);have HQ:=aV hq;rw[hm]at HFO hl⊢;rw[hq]at NC RE⊢;clear hs ha h hM hm hq;have YD:=aV (show CZ x [] w (xL va m vc) ((((w.alloc (xK #[x.id,x.dz,x.dB,xL va m vc] 41)).alloc (xK #[xI 0,xI 0,xI 0,()] 41)).alloc (.map #[] 0)).alloc (xK #[.map (some [w,w])] 96))by
  have hb:=Bx.Lk w (xK #[x.id,x.dz,x.dB,xL va m vc] 41) (xK #[xI 0,xI 0,xI 0,()] 41) (.map #[] 0) (xK #[.map (some [w,w])] 96);refine⟨hb.1,hb.2.1,hb.cP rfl,hb.cZ rfl,hb.Au rfl,?_⟩;have h1:=Mk.eY.made ((w.alloc (xK #[x.id,x.dz,x.dB,xL va m vc] 41)).alloc (xK #[xI 0,xI 0,xI 0,()] 41));have h2:=h1.same (w':=((((w.alloc (xK #[x.id,x.dz,x.dB,xL va m vc] 41)).alloc (xK #[xI 0,xI 0,xI 0,()] 41)).alloc (.map #[] 0)).alloc (xK #[.map (some [w,w])] 96))) (aB _ _ _ (by simp));simpa using h2);delta xG;go_in;go_wp2;go_loopg [7,16]q(λg _ iv wr=>∃(i:Nat)(S:List Int),i<=q/\g=q-i/\iv=xI i/\Hd (CZ x S w (xL va m vc) wr/\∀n,n∈S↔n∈al.take i));exact⟨0,[],ax _,rfl,rfl,aV ⟨YD.o,λn=>by simp⟩⟩;clear YD;obtain⟨i,S,hi,rfl,rfl,HS⟩:=hrel;by_cases cE:i<q
 .obtain⟨z,hz⟩:=fg al i (by rw[HQ.o];exact cE);obtain⟨b,off,cap,hv,_,hc⟩:=RE.o i z hz;obtain⟨rfl,rfl⟩:aa=some ⟨b,off,none⟩/\ac=cap:=by first|simpa using hv|simpa [HQ.o]using hv
  have g0:=hc wr HS.o.1.low;have c0:=one_cell HS.o.1.cel;obtain⟨W',S',hrun,hset,hmem,ho⟩:=SY HS.o.1.set z;have HN:Hd (CZ x S' w (xL va m vc) W'/\∀n,n∈S'↔n∈al.take (i+1)):=⟨HS.o.1.add hset ho,λn=>by
   rw[hmem,HS.o.2,ao,hz];simp⟩;clear hv hc hz hset hmem ho;go_wp2;go_roundg(q-(i+1));exact⟨i+1,S',by omega,rfl,by go_num,HN⟩;omega
 obtain rfl:i=q:=by omega
 obtain⟨c0,c1,c2,c3⟩:=aU HS.o.1.j9;have qfh:Hd (gq S=gq al/\eW S=eW al):=⟨Fx λn=>by rw[HS.o.2,ak (by rw[HQ.o];exact cN)],vI λn=>by rw[HS.o.2,ak (by rw[HQ.o];exact cN)]⟩;have U5:Hd (CZ x S w (xL va m vc) wr):=HS.o.1;clear HS;go_wp2_with fail;refine(HFO.o _ U5.o.low U5.o.size).mono ?_;rintro e w2⟨_,rfl,⟨za,rfl,TX⟩,cJ⟩;have lJ:=aV (U5.o.aT cJ);have YP:=aV (show Gb wr x.bR (xL za m m) w2 by have:=TX wr (by omega);first|exact this|rwa [HM.o]at this);have hsz:=cJ.size;clear TX cJ c0 c1 c2 c3;obtain⟨c0,c1,c2,c3⟩:=aU lJ.o.j9;obtain⟨f0,f1,f2,f3⟩:=iS lJ.o.j9;go_upto_region 9 with fail;obtain⟨W3,hW3⟩:=dd ((((w2.setCell (w,0) x.id).setCell (w,1) x.dz).setCell (w,2) x.dB).setCell (w,3) (xL za m m));have RT:=aV (show CZ x S w (xL za m m) W3 by rw[hW3];exact lJ.o.put (xL za m m));have XZ:=aV (show Gb wr x.bR (xL za m m) W3 by
  have CU:=U5.o.size;refine YP.o.stay cN (by rw[hW3];simp[World.setCell]) λk k1 _=> ?_;rw[hW3,aj _ _ _ _ (by simp;omega),aj _ _ _ _ (by simp;omega),aj _ _ _ _ (by simp;omega),aj _ _ _ _ (by simp;omega)]);rw[<-hW3];have HWS:Hd (w.heap.size+4<=wr):=U5.o.size;clear hW3 c0 c1 c2 c3 f0 f1 f2 f3 lJ YP hsz U5;obtain⟨c0,c1,c2,c3⟩:=aU RT.o.j9;rcases Nat.eq_zero_or_pos m with h0|h0
 .subst h0;go_wp2;go_loopg [9,10,11,12,29,47]0(λg _ _ _ _ iv _ wx=>g=0/\iv=xI 0/\W3=wx);exact⟨rfl,rfl,rfl⟩;obtain⟨rfl,rfl,rfl⟩:=hrel;obtain⟨r0,r1,r2,r3⟩:=aU RT.o.res;obtain⟨f0,f1,f2,f3⟩:=iS RT.o.res;go_wp2_with fail;refine ah (v:= .agg #[x.id,x.dz,x.dB,xL za 0 0]) (by simp[results,results68,go_sem,r0,r1,r2,r3]) rfl ⟨_,rfl,⟨_,rfl,?_⟩,?_⟩
  .have e:=aM HM.o;rcases XZ.o with⟨_,hv⟩|⟨_,hp,_⟩
   .rw[hv,e];exact aS.nil _ _
   rw[e]at hp;exact absurd hp (by simp)
  exact(((RT.o.low.setCell (by simp) _).setCell (by simp) _).setCell (by simp) _).setCell (by simp) _
 have hB:∃B s,za=some ⟨B,0,none⟩/\CJ x S w B s m x.bR W3:=by
  rcases XZ.o with⟨e,_⟩|⟨B,_,hBB,hv,s,hr⟩
  .have:=HM.o;rw[e]at this;simp at this;omega
  obtain⟨rfl,_⟩:za=some ⟨B,0,none⟩/\True:=by simpa [HM.o]using hv
  have:=HWS.o;rw[HM.o]at hr;exact⟨B,s,rfl,RT.o,by omega,hr⟩
 obtain⟨B,s,rfl,hB3⟩:=hB;have cR:=aV (show CJ x S w B s m (tI (gq S) x.bR 0) W3 by rw[Fv];exact hB3);clear hB3 RT XZ HWS;go_wp2;go_loopg [9,10,11,12,29,47]m(λg _ _ _ _ iv _ wx=>∃i:Nat,i<=m/\g=m-i/\iv=xI i/\Hd (CJ x S w B s m (tI (gq S) x.bR i) wx));exact⟨0,ax _,rfl,rfl,cR⟩;clear c0 c1 c2 c3 cR;obtain⟨i,hi,rfl,rfl,HX⟩:=hrel;rename World=>wx;by_cases cE:i<m;rotate_left
 .obtain rfl:i=m:=by omega
  obtain⟨c0,c1,c2,c3⟩:=aU HX.o.a.j9;obtain⟨r0,r1,r2,r3⟩:=aU HX.o.a.res;obtain⟨f0,f1,f2,f3⟩:=iS HX.o.a.res;go_wp2_with fail;refine ah (v:= .agg #[x.id,x.dz,x.dB,xL (B,0) i i]) (by simp[results,results68,go_sem,r0,r1,r2,r3]) rfl ⟨_,rfl,⟨_,rfl,?_⟩,?_⟩
  .have hb:=HX.o.base;have Ag:=HX.o.row;rw[KE (by rw[HM.o];exact cN),qfh.o.1]at Ag;have hlen:(x.bR.map (gq al)).length=i:=by rw[aL];exact HM.o
   have hg:me nP B wx (x.bR.map (gq al)).length (x.bR.map (gq al)):=by rw[hlen];exact⟨s,Ag⟩
   have hsl:=hg.slice (M:=eo M w 4) (by rw[hlen];unfold maxLen;omega) λj hj=>by
    rcases hj with hj|hj
    .have:=vM.o j hj;omega
    omega
   rw[hlen]at hsl;exact hsl.ev (((((fx wx).setCell (.inl (.inr ⟨by simp,by simp⟩)) _).setCell (.inl (.inr ⟨by simp,by simp⟩)) _).setCell (.inl (.inr ⟨by simp,by simp⟩)) _).setCell (.inl (.inr ⟨by simp,by simp⟩)) _)
  exact(((HX.o.a.low.setCell (by simp) _).setCell (by simp) _).setCell (by simp) _).setCell (by simp) _
 obtain⟨⟨k,n,t,l⟩,hx⟩:=fg x.bR i (by rw[HM.o];exact cE);have YO:Hd ((tI (gq S) x.bR i)[i]? =some (.mk k n t l)):=Qq hx;have wH:Hd ((tI (gq S) x.bR i).set i (gq S (.mk k n t l))=tI (gq S) x.bR (i+1)):=KF hx;have QT:=aV (show i<(tI (gq S) x.bR i).length by rw[KD,HM.o];exact cE);generalize tI (gq S) x.bR i=X at HX YO wH QT;obtain⟨ad,⟨p0,p1,p2,p3⟩,-,hown⟩:=HX.o.row.own YO.o;have WO:l.length<=12:=by
  obtain⟨_,_,_,_,_,e0,_,_,h12,_⟩:=hown;cases e0;exact h12
 have Aa:Hd (B<wx):=HX.o.row.lt;have RO:=aV p3;have zo:Hd (0<l.length->∃b,ad=some ⟨b,0,none⟩/\b<wx.heap.size):=λh0=>by
  obtain⟨b,hb,_,cur,h1,_⟩:=HX.o.row.inner YO.o RO.o h0;exact⟨b,hb,(ab.1 h1).1⟩
 obtain⟨c0,c1,c2,c3⟩:=aU HX.o.a.j9;clear hown hx;go_upto_region 12 with fail;obtain⟨W4,hW4⟩:=dd (wx.alloc (xK #[k,n,t,xL ad l.length l.length] 50));have nX:=aV (show CJ x S w B s m X W4 by rw[hW4];exact HX.o.aT cU);have fh:=aV (show bC wx W4 by rw[hW4];exact cU);have X0:=aV (show W4.heap[wx.heap.size]? =some (xK #[k,n,t,xL ad l.length l.length] 50)by rw[hW4];exact az wx _);rw[<-hW4];clear hW4 p0 p1 p2 p3 c0 c1 c2 c3;obtain⟨k',n',s',a',m',c',hcr,hcall⟩:=E9 k n t ad l.length l.length S;have BE:=ie (w:=W4) (λW hb=>hcall _ _ W (nX.o.aT hb).a.cel (nX.o.aT hb).a.set);clear hcall;refine' j5 7 ?hl ?hm ?hB1 ?hB ?hh;case hl=>exact rfl
 case hm=>kernel_rfl
 case hB1=>kernel_rfl
 case hB=>kernel_rfl
 intro ι _ F jr vO;have hkl:=(ab.1 X0.o).1;have s0:=λj=>(aU (nX.o.aT (jr j)).a.j9).2.2.2;have s1:=λj=>(aU (((jr j).block _ hkl).trans X0.o)).1;have s2:=λj=>(aU (((jr j).block _ hkl).trans X0.o)).2.1;have s3:=λj=>(aU (((jr j).block _ hkl).trans X0.o)).2.2.1;have s4:=λj=>(aU (((jr j).block _ hkl).trans X0.o)).2.2.2;have hz1:(0:Int)<=(i:Int):=by omega
 have hz2:(i:Int)<(m:Int):=by omega
 have iY:=aV jr;have uR:=aV vO;clear jr vO;simp only[List.take_succ_cons,List.take_zero,Act.put,List.setIfInBounds_toArray,List.set_cons_zero,List.set_cons_succ];repeat(go_big_quiet_step(first
  |(go_at_call 149;refine(BE.o _ (iY.o _)).mono ?_;rintro e w3⟨rfl,hb3⟩;exact⟨rfl,uR.o _ ((iY.o _).trans (hb3.mono (iY.o _).size))⟩)))
 refine wpQuiet_nil ?_;rintro _⟨nq,rfl⟩;have NZ:Hd (bC W4 (F nq)):=iY.o nq;obtain⟨wn,hwn⟩:=js (F nq);rw[hwn]at NZ⊢;clear s0 s1 s2 s3 s4 hwn;have HXn:=aV (nX.o.aT NZ.o);have HKn:Hd (wn.heap[wx.heap.size]? =some (xK #[k,n,t,xL ad l.length l.length] 50)):=(NZ.o.block _ hkl).trans X0.o;obtain⟨ad2,hc2,hf2,ho2⟩:=HXn.o.row.own YO.o;obtain rfl:ad2=ad:=by
  have h1:=((fh.o.trans (NZ.o.mono fh.o.size)).cell (p:=⟨B,i*4+3,none⟩) Aa.o).trans RO.o;rw[hc2.2.2.2]at h1;simpa using h1
 have HOV:=aV (HXn.o.over QT.o (MX ho2 hcr));have rV:=aV (HXn.o.row.qcx QT.o k' n' s' (xL a' m' c'));have Jy:=aV hcr;obtain⟨v0,v1,v2,v3⟩:=hc2;obtain⟨y0,y1,y2,y3⟩:=hf2;clear ho2 hcr hkl BE;go_simp;go_upto_region 13 with fail;obtain⟨W5,hW5⟩:=dd ((((wn.setCell (B,i*4) k').setCell (B,i*4+1) n').setCell (B,i*4+2) s').setCell (B,i*4+3) (xL a' m' c'));have od:=aV (show CJ x S w B s m (X.set i (eW S (.mk k n t l))) W5 by rw[hW5];exact HOV.o);have FZ:=aV (show W5.heap[wx.heap.size]? =some (xK #[k,n,t,xL ad2 l.length l.length] 50)by
  have hb:=Aa.o;rw[hW5,aj _ _ _ _ (by simp;omega),aj _ _ _ _ (by simp;omega),aj _ _ _ _ (by simp;omega),aj _ _ _ _ (by simp;omega)];exact HKn.o);have H35:=aV (show W5.cell? (B,i*4+3)=some (xL a' m' c')by rw[hW5];exact rV.o);rw[<-hW5];clear hW5 HOV rV v0 v1 v2 v3 y0 y1 y2 y3 HKn HXn NZ nX fh X0 iY uR;obtain⟨u0,u1,u2,u3⟩:=aU FZ.o;by_cases hk:k=5;rotate_left
 .have HXT:=aV (show CJ x S w B s m (tI (gq S) x.bR (i+1)) W5 by rw[<-wH.o,IS (v:= .mk k n t l) hk];exact od.o);have hk':(k !=5)=true:=by simpa using hk
  clear hk;go_wp2;go_roundg(m-(i+1));exact⟨i+1,by omega,rfl,by go_num,HXT⟩;omega
 subst hk;have hcl:eW S (.mk 5 n t l)= .mk 5 n t l:=if_neg λh=>absurd (show(5:Int)=4 from h.1) (by decide);obtain⟨rfl,rfl,rfl⟩:a'=ad2/\m'=l.length/\c'=l.length:=by
  rcases Jy.o with⟨⟨h,_⟩,_⟩|⟨_,_,_,_,h1,h2,h3⟩
  .exact absurd h (by decide)
  exact⟨h1,h2,h3⟩
 rw[hcl]at od;obtain⟨q3,hq3⟩:=js (l.length);have HL:=aV hq3;have jM:=aV (show CJ x S w B s m (X.set i (.mk 5 n t (tI (eW S) l 0))) W5 by rw[Fv];exact od.o);rw[hq3]at FZ H35 zo WO u3⊢;clear hcl od Jy hq3 RO;go_wp2;go_loopg [11,12,47]q3(λg _ _ jv wy=>∃j:Nat,j<=q3/\g=q3-j/\jv=xI j/\Hd (CJ x S w B s m (X.set i (.mk 5 n t (tI (eW S) l j))) wy)/\Hd (wy.heap[wx.heap.size]? =some (xK #[xI 5,n,t,xL a' q3 q3] 50))/\Hd (wy.cell? (B,i*4+3)=some (xL a' q3 q3)));exact⟨0,ax _,rfl,rfl,jM,FZ,H35⟩;clear u0 u1 u2 u3 jM FZ H35;obtain⟨j,hj,rfl,rfl,HY,HK,H3⟩:=hrel;rename World=>wy;by_cases zx:j<q3;rotate_left
 .obtain rfl:j=q3:=by omega
  have HXT:=aV (show CJ x S w B s m (tI (gq S) x.bR (i+1)) wy by
   have h1:=HY.o;rw[KE (by rw[HL.o];exact cN)]at h1;rw[<-wH.o,E4];exact h1);go_wp2;go_roundg(m-(i+1));exact⟨i+1,by omega,rfl,by go_num,HXT⟩;omega
 obtain⟨⟨k1,n1,t1,l1⟩,hy⟩:=fg l j (by rw[HL.o];exact zx);obtain⟨b,hab,hbl⟩:=zo.o (by omega);subst hab;have mn:Hd ((X.set i (.mk 5 n t (tI (eW S) l j)))[i]? =some (.mk 5 n t (tI (eW S) l j))):=List.getElem?_set_self QT.o;have U6:Hd ((tI (eW S) l j).length=q3):=KD.trans HL.o;have HYA:Hd ((tI (eW S) l j)[j]? =some (.mk k1 n1 t1 l1)):=Qq hy;have UZ:Hd ((tI (eW S) l j).set j (eW S (.mk k1 n1 t1 l1))=tI (eW S) l (j+1)):=KF hy;generalize tI (eW S) l j=Y at HY mn U6 HYA UZ;have RZ:Hd (∀W,CJ x S w B s m (X.set i (.mk 5 n t Y)) W->W.cell? (B,i*4+3)=some (xL (b,0) q3 q3)->B<b/\tt b W Y):=λW h1 h2=>by
  obtain⟨b',hb',hBb,hr⟩:=h1.row.inner mn.o (by rw[U6.o];exact h2) (by rw[U6.o];omega);obtain rfl:b=b':=by simpa using hb'
  exact⟨hBb,hr⟩
 obtain⟨k0,n0,t0,e0,ht0,⟨p0,p1,p2,p3⟩,-⟩:=(RZ.o _ HY.o H3.o).2.at_ HYA.o;cases e0;obtain⟨u0,u1,u2,u3⟩:=aU HK.o;have HBY:Hd (B<wy):=HY.o.row.lt;have HT0:=aV ht0;clear hy ht0;go_upto_region 17 with fail;obtain⟨W6,hW6⟩:=dd (wy.alloc (xK #[k1,n1,t1,()] 50));have ph:=aV (show bC wy W6 by rw[hW6];exact cU);have UL:=aV (show W6.heap[wy.heap.size]? =some (xK #[k1,n1,t1,()] 50)by rw[hW6];exact az wy _);rw[<-hW6];clear hW6 p0 p1 p2 p3 u0 u1 u2 u3;have HY6:=aV (HY.o.aT ph.o);have HKY:=(ab.1 HK.o).1;have UN:=aV ((ph.o.block _ HKY).trans HK.o);obtain⟨k7,n7,s7,a7,m7,c7,hcr,hcall⟩:=E9 k1 n1 t1 none 0 0 S;obtain⟨rfl,rfl,rfl⟩:a7=none/\m7=0/\c7=0:=by
  rcases hcr with⟨_,_,_,_,h1,h2,h3⟩|⟨_,_,_,_,h1,h2,h3⟩<;>exact⟨h1,h2,h3⟩
 have BE:=ie (w:=W6) (λW hb=>hcall _ _ W (HY6.o.aT hb).a.cel (HY6.o.aT hb).a.set);have wM:=aV (show eW S (.mk k1 n1 t1 [])= .mk k7 n7 s7 []/\s7.size<=maxLen by
  have e:eW S (.mk k1 n1 t1 [])=if k1=4/\n1∉S then .mk 0 0 mz []else .mk k1 n1 t1 []:=rfl;rcases hcr with⟨h,rfl,rfl,rfl,_⟩|⟨h,rfl,rfl,rfl,_⟩
  .exact⟨by rw[e,if_pos h],iM⟩
  exact⟨by rw[e,if_neg h],HT0.o⟩);clear hcall hcr;refine' j5 7 ?kl ?km ?kB1 ?kB ?kh;case kl=>exact rfl
 case km=>kernel_rfl
 case kB1=>kernel_rfl
 case kB=>kernel_rfl
 intro ι _ F jr vO;have hkl:=(ab.1 UN.o).1;have hzl:=(ab.1 UL.o).1;have s0:=λj=>(aU (((jr j).block _ hkl).trans UN.o)).2.2.2;have s1:=λj=>(aU (((jr j).block _ hzl).trans UL.o)).1;have s2:=λj=>(aU (((jr j).block _ hzl).trans UL.o)).2.1;have s3:=λj=>(aU (((jr j).block _ hzl).trans UL.o)).2.2.1;have s4:=λj=>(aU (((jr j).block _ hzl).trans UL.o)).2.2.2;have wL:(0:Int)<=(j:Int):=by omega
 have Xu:(j:Int)<(q3:Int):=by omega
 have iY:=aV jr;have uR:=aV vO;clear jr vO;simp only[List.take_succ_cons,List.take_zero,Act.put,List.setIfInBounds_toArray,List.set_cons_zero,List.set_cons_succ];repeat(go_big_quiet_step(first
  |(go_at_call 149;refine(BE.o _ (iY.o _)).mono ?_;rintro e w3⟨rfl,hb3⟩;exact⟨rfl,uR.o _ ((iY.o _).trans (hb3.mono (iY.o _).size))⟩)))
 refine wpQuiet_nil ?_;rintro _⟨nq,rfl⟩;have NZ:Hd (bC W6 (F nq)):=iY.o nq;obtain⟨wn,hwn⟩:=js (F nq);rw[hwn]at NZ⊢;clear s0 s1 s2 s3 s4 hwn iY uR BE;have HYn:=aV (HY6.o.aT NZ.o);have H3n:Hd (wn.cell? (B,i*4+3)=some (xL (b,0) q3 q3)):=((ph.o.trans (NZ.o.mono ph.o.size)).cell (p:=⟨B,i*4+3,none⟩) HBY.o).trans H3.o;have HKn:=aV ((NZ.o.block _ hkl).trans UN.o);obtain⟨hBb,hrn⟩:=RZ.o _ HYn.o H3n.o;have Ts:=HYn.o.nest mn.o (by rw[U6.o];exact H3n.o) hBb hrn (by rw[U6.o];exact zx) k7 n7 s7 wM.o.2;rw[List.set_set,<-wM.o.1,UZ.o]at Ts;have C4:=aV Ts;have QX:Hd ((lD wn b (j*4) k7 n7 s7 ()).heap[wx.heap.size]? =_):=(iE (by omega)).trans HKn.o;have Tv:Hd ((lD wn b (j*4) k7 n7 s7 ()).cell? (B,i*4+3)=_):=(World.cell?_of_block (w:=wn) (a:=⟨B,i*4+3,none⟩) (iE (B:=b) (k:=B) (by omega))).trans H3n.o;obtain⟨k2,n2,t2,e2,-,⟨v0,v1,v2,v3⟩,y0,y1,y2,y3⟩:=hrn.at_ HYA.o;clear Ts hrn hkl hzl e2 HKY;go_simp;go_wp2;go_roundg(q3-(j+1));exact⟨j+1,by omega,rfl,by go_num,C4,QX,Tv⟩;omega
def Fy(n:Int)(ps sb:Nat)(S:List Int)(w:bq)(hp:cX w ps (xK #[.map (some sb)] 96))(hS:Mk.eY w sb S):
 xC 67 #[n,xP ps] w (j7 (xB (!decide (n∈S))) w):=by
 have h0:=one_cell hp;have h1:=hS.lookup n;delta xC;go_in;go_wp2;go_ret;exact⟨rfl,rfl⟩
def MY(S:List Int)(ps sb:Nat)(l:List Int)(hl:l.length<=1000)(M:bY)(v:bt)(w:bq)(h:aS (α:=Int) M w v l)(hp:cX w ps (xK #[.map (some sb)] 96))(hS:Mk.eY w sb S):
 xC 147 #[v, .func (.func 67) #[] #[xP ps]] w λe w'=>w=w'/\((e=xR (xI (-1))/\∀n∈l,n∈S)\/∃i:Nat,e=xR i/\i<l.length/\∀n∈l.take i,n∈S):=by
 have HC:Hd (∀(i:Nat)(x:Int),l[i]? =some x->_):=λi x hx=>lM h hx;have HT:=aV (λn:Int=>Fy n ps sb S w hp hS);obtain⟨a,cY,rfl,dN,hmx,_⟩:=h.bj;generalize hn:l.length=n at*;have fB:=aV hn;delta xC;go_in;go_wp2;go_loopg [5,8]n(λg _ iv wr=>∃k:Nat,k<=n/\g=n-k/\iv=xI k/\w=wr/\Hd (∀n∈l.take k,n∈S));exact⟨0,ax _,rfl,rfl,rfl,aV λn hn=>by simp at hn⟩;obtain⟨i,hi,rfl,rfl,rfl,HA⟩:=hrel;by_cases cE:i<n
 .have⟨x,hx⟩:=fg l i (by rw[fB.o];exact cE);have⟨b,off,cap,hv,hb,hcells⟩:=HC.o i x hx;obtain⟨rfl,rfl⟩:a=some ⟨b,off,none⟩/\cY=cap:=by first|simpa using hv|simpa [fB.o]using hv
  have g0:=hcells w eH;have HAN:Hd (x∈S->∀n∈l.take (i+1),n∈S):=λhxs n hn=>by
   rw[ao,hx]at hn;rcases aI.1 hn with hn|hn
   .exact HA.o n hn
   simp at hn;rw[hn];exact hxs
  by_cases hxs:x∈S
  .have hd:decide (x∈S)=true:=by simpa using hxs
   have wH:=aV hxs;have zz:=aV (HT.o x);rw[hd]at zz;go_wp2_with fail;refine ey (zz.o) ?_;go_wp2;go_roundg(n-(i+1));exact⟨i+1,by omega,rfl,by go_num,rfl,aV (HAN.o wH.o)⟩;omega
  have hd:decide (x∈S)=false:=by simpa using hxs
  have zz:=aV (HT.o x);rw[hd]at zz;go_wp2_with fail;refine ey (zz.o) ?_;go_wp2;go_ret;exact⟨rfl, .inr ⟨i,rfl,cE,HA.o⟩⟩
 go_wp2;go_ret;refine⟨rfl, .inl ⟨rfl,?_⟩⟩;have h1:=HA.o;rwa [ak (by rw[fB.o];omega)]at h1
def mm(w:bq)(g n c:Nat)(xs:List Int):Prop:=∃cur:Array bt,w.heap[g]? =some (.cells cur 3 (0,0))/\cur.size=c/\xs.length=n/\n<=c/\∀(k:Nat)(x:Int),xs[k]? =some x->cur[k]? =some (xI x)
section
variable {w w':bq}{g n c k:Nat}{xs:List Int}{x:Int}
def mm.at_(h:mm w g n c xs)(hx:xs[k]? =some x):cC w g k x:=by
 obtain⟨cur,h1,_,_,_,h5⟩:=h;exact cell_of_heap h1 (h5 k x hx)
def mm.free(h:mm w g n c xs)(k:Nat):w.frozen? (g,k)=false:=by
 obtain⟨cur,h1,_⟩:=h;exact aY h1 k
def mm.set(h:mm w g n c xs)(hk:k<n)(v:Int):mm (w.setCell (g,k) v) g n c (xs.set k v):=by
 obtain⟨cur,h1,h2,h3,h4,h5⟩:=h;refine⟨cur.setIfInBounds k v,aA w g k _ _ _ h1,by simpa using h2,by simpa using h3,h4,λj y hy=> ?_⟩;by_cases e:k=j
 .subst e;rw[List.getElem?_set_self (by omega)]at hy;cases hy;simp[show k<cur.size by omega]
 rw[List.getElem?_set_ne e]at hy;rw[Array.getElem?_setIfInBounds_ne e];exact h5 j y hy
def bP.row {l:List Int}(h:bP (α:=Int) xF B 3 w v l)(h0:0<l.length):∃g c,v=xL (some ⟨g,0,none⟩) l.length c/\B<=g/\c<=maxLen/\mm w g l.length c l:=by
 obtain⟨css,h1,h2,h3⟩:=h;have e:css=l.map (λx=>[Value.int .i64 x]):=by
  refine List.ext_getElem (by simpa using h2) (λi p q=> ?_);rw[List.getElem_map];exact h3 i _ _ (af p) (af (by simpa using q))
 subst e;have fl:∀l:List Int,(l.map (λx=>[Value.int .i64 x])).flatten=l.map (Value.int .i64):=λl=>by
  induction l with
  |nil=>rfl
  |cons a r ih=>simp only[List.map_cons,List.flatten_cons,ih];rfl
 rw[fl]at h1;obtain⟨_,⟨_,h0'⟩|⟨g,c,cur,rfl,k1,k2,k3,k4,k5,k6⟩⟩:=h1
 .omega
 have hs:bD.size Int=1:=rfl;rw[hs,Nat.mul_one]at k5 k6;refine⟨g,c,rfl,k1,k4,cur,k2,k5,rfl,k3,λj y hy=> ?_⟩;have hj:=(ag.1 hy).1;have hh:(cur.toList.take l.length)[j]? =some (xI y):=by rw[k6,List.getElem?_map,hy];rfl
 rw[List.getElem?_take,if_pos hj]at hh;simpa using hh
def bP.qcy {l:List Int}(h:bP (α:=Int) xF B 3 w v l)(hM:∀i,M i->i<B):aS (α:=Int) M w v l:=by
 obtain⟨css,k1,k2,k3⟩:=h;refine⟨css,(du.BJ k1).mono λj hj _ Wj=> ?_,k2,k3⟩;have:=(k1.lt j hj).1;have:=hM j Wj;omega
end
theorem nf {S:bY}(hK:S K):∀(vs:List bt)(o:Nat){w W:bq},bh S w W->bh S w (W.setCells K o vs)
 |[],_,_,_,h=>h
 |v::r,o,_,_,h=>nf hK r (o+1) (h.setCell (p:=(K,o)) (.inl hK) v)
def MZ(w:bq):(zeroValue 3).run prog w= .ok (xI 0) w:=by kernel_rfl
def M0 {n c:Nat}(h:mm W g n c xs)(hi:i<n)(c':Nat):∃zs:List bt,zs.length=n-i/\(Builtin.clear_ #[65] 0 #[xL (g,i) (n-i) c']).run prog W= .ok (.tuple #[]) (W.setCells g i zs):=by
 obtain⟨cur,h1,h2,h3,h4,h5⟩:=h;have hz:∀q:Nat,(Builtin.zeroCells #[Value.int .i64 0] q).toList=List.replicate q (Value.int .i64 0):=λq=>by
  refine List.ext_getElem (by simp[Builtin.zeroCells]) λk p1 p2=> ?_;simp[Builtin.zeroCells,Nat.mod_one]
 have hs:=run_storeCells_cells (P:=prog) g i (List.replicate (n-i) (Value.int .i64 0)) 0 W (λj hj=>by
  have hj':j<n-i:=by simpa using hj
  rw[cell_of_heap (v:=cur[i+0+j]'(by omega)) h1 (by simp)];rfl) (λj _=>aY h1 _) (λv hv=>by rw[List.eq_of_mem_replicate hv];rfl);refine⟨List.replicate (n-i) (Value.int .i64 0),by simp,?_⟩;obtain⟨q,hq⟩:∃q,n-i=q+1:=⟨n-i-1,by omega⟩;rw[hq]at hs⊢;rw[Nat.add_zero]at hs;simp only[Builtin.clear_,List.getElem?_toArray,List.getElem?_cons_zero,Sem.run_bind,run_underlying underlying65,Result.andThen_ok,MZ,Value.cells,hz,hs,Sem.run_pure,Nat.add_zero]
def Je(S:List Int)(ps sb B0:Nat)(l:List Int)(hl:l.length<=1000)(v:bt)(w:bq)(h:bP (α:=Int) xF B0 3 w v l)(hp:cX w ps (xK #[.map (some sb)] 96))(hS:Mk.eY w sb S)(hps:ps<B0)(UU:sb<B0)(M:bY)(hM:∀i,M i->i<B0):
 xC 65 #[v, .func (.func 67) #[] #[xP ps]] w λe w'=>∃(v':bt)(al:List Int),e=xR v'/\aS (α:=Int) M w' v' al/\(∀n∈al,n∈S)/\al.length<=l.length/\bh (λk=>B0<=k) w w':=by
 have hsl:aS (α:=Int) M w v l:=h.qcy hM;have Uz:=aV (MY S ps sb l hl M v w hsl hp hS);have HT:Hd (∀W(n:Int),bh (λk=>B0<=k) w W->_):=λW n ho=>Fy n ps sb S W ((ho.block _ (ab.1 hp).1 (by omega)).trans hp) (hS.same (ho.block _ hS.lt (by omega)));have gS:=aV hsl;rcases Nat.eq_zero_or_pos l.length with h0|h0
 .have e:=aM h0;subst e;obtain⟨a,cap,rfl,_⟩:=hsl.bj;clear h hp hS hsl HT;go_enter func65,ntmps65;go_wp2_with fail;refine(Uz.o).mono ?_;rintro e w'⟨rfl,⟨rfl,NC⟩|⟨i,rfl,hi,_⟩⟩
  .have zu:Hd (∀n∈([]:List Int),n∈S):=NC;clear NC;go_wp2;go_ret;exact⟨_,[],rfl,gS.o,zu.o,cN,bh.refl _ _⟩
  exact absurd hi (by simp)
 obtain⟨gb,c,rfl,hgb,Jo,Ag⟩:=h.row h0;have HR:=aV Ag;have⟨n,hn⟩:=js (l.length);have HN:=aV hn;rw[hn]at HR Uz hl h0⊢;have Yb:n<=c:=by have⟨cur,_,_,_,h4,_⟩:=HR.o;exact h4
 clear h hp hS hsl Ag hn;go_enter func65,ntmps65;go_wp2_with fail;refine(Uz.o).mono ?_;rintro e w'⟨rfl,⟨rfl,NC⟩|⟨i0,rfl,hi0,NC⟩⟩
 .have zu:Hd (∀n∈l,n∈S):=NC;clear NC;go_wp2;go_ret;have hs1:=gS.o;rw[HN.o]at hs1;exact⟨_,l,rfl,hs1,zu.o,Nat.le_of_eq HN.o,bh.refl _ _⟩
 have qJ:((i0:Int)== -1)=false:=by simp
 have zu:Hd (∀n∈l.take i0,n∈S):=NC;clear NC;go_wp2;go_loopg [5,6,7](n-(i0+1))(λg iv jv _ wr=>∃(i j:Nat)(xs:List Int),i<j/\j<=n/\g=n-j/\iv=xI i/\jv=xI j/\Hd (mm wr gb n c xs/\∀y∈xs.take i,y∈S)/\Hd (bh (λk=>B0<=k) w wr));exact⟨i0,i0+1,l,by omega,by omega,rfl,rfl,by go_num,aV ⟨HR.o,zu.o⟩,aV (bh.refl _ _)⟩;obtain⟨i,j,xs,hij,hj,rfl,rfl,rfl,HX,HO⟩:=hrel;by_cases cE:j<n
 .obtain⟨x,hx⟩:∃x,xs[j]? =some x:=by
   have⟨cur,_,_,h3,_⟩:=HX.o.1;exact⟨_,af (by omega)⟩
  have g0:=HX.o.1.at_ hx;obtain⟨z,hz⟩:∃z,xs[i]? =some z:=by
   have⟨cur,_,_,h3,_⟩:=HX.o.1;exact⟨_,af (by omega)⟩
  have g1:=HX.o.1.at_ hz;have g2:=HX.o.1.free i;have zz:=aV (HT.o wr x HO.o);have ji:i<n:=by omega
  by_cases hxs:x∈S
  .have hd:decide (x∈S)=true:=by simpa using hxs
   have uT:Hd (mm (wr.setCell (gb,i) x) gb n c (xs.set i x)/\∀y∈(xs.set i x).take (i+1),y∈S):=⟨HX.o.1.set ji x,λy hy=>by
    have hxl:i<xs.length:=(ag.1 hz).1;rw[ao,List.getElem?_set_self hxl,List.take_set_of_le cN]at hy;rcases aI.1 hy with hy|hy
    .exact HX.o.2 y hy
    simp at hy;rw[hy];exact hxs⟩;rw[hd]at zz;clear hd hxs hx hz;go_wp2_with fail;refine ey (zz.o) ?_;go_wp2;go_roundg(n-(j+1));exact⟨i+1,j+1,_,by omega,by omega,rfl,by go_num,by go_num,uT,aV (HO.o.setCell (p:=(gb,i)) (.inl hgb) _)⟩;omega
  have hd:decide (x∈S)=false:=by simpa using hxs
  rw[hd]at zz;clear hd hxs hx hz;go_wp2_with fail;refine ey (zz.o) ?_;go_wp2;go_roundg(n-(j+1));exact⟨i,j+1,xs,by omega,by omega,rfl,rfl,by go_num,HX,HO⟩;omega
 obtain rfl:j=n:=by omega
 have hci:¬c=i:=by omega
 have⟨zs,hzl,hcl⟩:=M0 HX.o.1 hij (c-i);have HZL:=aV hzl;clear hzl;have NM:=aV (show gb<(wr.setCells gb i zs).heap.size by
  have⟨cur,h1,_⟩:=HX.o.1;exact aN (ab.1 h1).1 (nf (S:=λ_=>True) trivial zs i (bh.refl _ wr)).size);have HLE:=aV (show(xs.take i).length=i by
  have⟨cur,_,_,h3,_⟩:=HX.o.1;rw[aK];omega);have Ad:=aV (show aS (α:=Int) M (wr.setCells gb i zs) (xL (gb,0) i c) (xs.take i)by
  have hle:=HLE.o;have h1:=l9 (α:=Int) (M:=M) (w:=wr.setCells gb i zs) (xs:=xs.take i) (b:=gb) (off:=0) (cap:=c) (by omega) Jo (λh=>by have:=hM _ h;omega) NM.o (λk x hx=>⟨[xI x],rfl,λq u hu=>by
   have hk:=(ag.1 hx).1;have hq:q=0:=by have:=(ag.1 hu).1;simp at this;omega
   subst hq;have e:u=xI x:=by simpa using hu.symm
   subst e;have hs:bD.size Int=1:=rfl;(try unfold cC);rw[hs,Nat.zero_add,Nat.mul_one,Nat.add_zero,World.cell?_setCells_out gb zs i wr ⟨gb,k,none⟩ (λ_ _=> .inl (by show k<i;omega))];rw[List.getElem?_take,if_pos (by omega)]at hx;exact HX.o.1.at_ hx⟩);rw[hle]at h1;exact h1);have lT:=aV (nf (S:=λk=>B0<=k) (K:=gb) hgb zs i HO.o);clear HR Uz HT gS zu;go_wp2;go_ret;exact⟨_,xs.take i,rfl,Ad.o,HX.o.2,by rw[HLE.o];omega,lT.o⟩
def kV.ZI {x:bU}{o o0:cm}(hl:kV x i o)(h0:x.bN[i]? =some o0):o.dz=o0.dz:=by
 obtain⟨o1,k,v,l,us,h1,h2,h3,rfl⟩:=hl;rw[h0]at h1;cases h1;exact h2.dz.symm
theorem yZ {f:bE->List Int}:∀{vs:List bE},(∀v∈vs,(f v).length<=12)->(vs.flatMap f).length<=12*vs.length
 |[],_=>by simp
 |v::r,h=>by
  have h1:=h v (by simp);have h2:=yZ (vs:=r) λy hy=>h y (by simp[hy]);simp only[List.flatMap_cons,aJ,aC];omega
def Fz(x:bU)(h:fL x)(S:List Int)(ls:List cm)(i:Nat)(o0 o:cm)(h0:x.bN[i]? =some o0)(ho:ls[i]? =some o)(j6:kV x i o)(M:bY)(w:bq)(hM:Bd M w)(hT:Tb w)(lv:bt)(pm sb:Nat)(es:List (Int×bt×Nat))(clk:Nat)
 (tP:aS M w lv ls)(F0:cO eI w pm es clk)(zw:cB es o0.id=some (xI (i:Int)))(hset:Mk.eY w sb S):
 xG 23 #[.agg #[lv, .map (some pm)],o0.id, .map (some sb)] w λu w'=>∃(vs:List bE)(vv:bt),u= .agg #[o.id,o.dz,o.dB,vv]/\aS M w' vv vs:=by
 have⟨fs,hvo,h8⟩:=j6.bR h;have h10:=h.len;obtain⟨b,off,cap,va,vc,rfl,hbl,hvs,hcells⟩:=gX tP ho;have U7:(o.bR.flatMap (dm 4)).length<=1000:=by
  have:=yZ (f:=dm 4) (vs:=o.bR) λv hv=>by
   have⟨f,_,hf⟩:=fI hvo v hv;exact qB hf 4
  omega
 have wJ:i<ls.length:=(ag.1 ho).1;have⟨W1,hW1⟩:=dd ((((w.alloc (xK #[xL (b,off) ls.length cap, .map (some pm)] 93)).alloc (xK #[.map (some sb)] 96)).alloc (xK #[xI 0,xI 0,xI 0,()] 41)));have cu:=aV (Bx.iN w (xK #[xL (b,off) ls.length cap, .map (some pm)] 93) (xK #[.map (some sb)] 96) (xK #[xI 0,xI 0,xI 0,()] 41));have hz1:W1.heap.size=[w,w,w]:=by rw[hW1];simp
 rw[<-hW1]at cu;have bZ:Hd (Bx w [xK #[xL (b,off) ls.length cap, .map (some pm)] 93,xK #[.map (some sb)] 96,xK #[xI 0,xI 0,xI 0,()] 41,xK #[o.id,o.dz,o.dB,xL va o.bR.length vc] 41] (W1.alloc (xK #[o.id,o.dz,o.dB,xL va o.bR.length vc] 41))):=cu.o.snoc (by simpa using hz1) _;have HWK:=ie (w:=w) (λW hb=>Kd 4 66 (.inr ⟨rfl,rfl⟩) o 100000 (Int.le_refl _) fs hvo h8 M W (hM.aT hb) (xL va o.bR.length vc) (hvs.aT hb) (hT.aT hb));have HDL:Hd (∀W B v,bC w W->w.heap.size+4<=B->cX W [w] (xK #[.map (some sb)] 96)->bP (α:=Int) xF B 3 W v (o.bR.flatMap (dm 4))->_):=λW B v hb hB hp hacc=>Je S [w] sb B _ U7 v W hacc hp (hset.same (hb.block sb hset.lt)) (by omega) (by have:=hset.lt;omega) (eo M w 4) (λi hi=>by have:=pQ hM i hi;omega);have mC:Hd (∀W(al:List Int)av,bC w W->w.heap.size+4<=W->al.length<=1000->aS (α:=Int) (eo M w 4) W av al->_):=λW al av hb hz NC hav=>Qr o hvo (by omega) al NC (eo M w 4) W (xL va o.bR.length vc) av (dZ hM hz) (hvs.ev (dH hb)) hav;have mD:=yX (w:=W1) ((cu.o.1.block _ (ab.1 F0).1).trans F0) o0.id _ zw;have⟨g0,g1,g2,g3⟩:=hcells W1 cu.o.1;have⟨k0,k1⟩:=aZ (cu.o.cP rfl);have BC:∀(fn:Fn)(bu cap:Array bt)(w:bq),(Instr.makeFunc fn bu cap).run prog w= .ok (.func fn bu cap) w:=λ_ _ _ _=>rfl;have hi1:(0:Int)<=(i:Int):=by omega
 have WG:(i:Int)<(ls.length:Int):=by omega
 have Gs:=aV U7;have Dc:=aV hz1;clear hvo h h8 h10 h0 hvs hcells tP hM hT j6 hset F0 zw U7 ho hz1 cu hbl wJ;generalize ls.length=nl at*;generalize o0.id=oid at*;generalize o.bR.flatMap (dm 4)=L at*;generalize hol:o.bR.length=ol at*;have Rw:=aV hol;clear hol;delta xG;go_in;go_upto_region 1 with fail;rw[<-hW1];clear hW1;go_upto_region 2 with fail;have⟨W2,hW2⟩:=dd (W1.alloc (xK #[o.id,o.dz,o.dB,xL va ol vc] 41));rw[<-hW2]at bZ⊢;rw[Dc.o];clear hW2 mD g0 g1 g2 g3 k0 k1;have⟨o0,o1,o2,o3⟩:=aU (bZ.o.Au rfl);go_wp2_with fail;refine(HWK.o _ bZ.o.1).mono ?_;rintro e w3⟨lv,rfl,⟨B,hB,hacc⟩,hb3⟩;have cR:=aV (bZ.o.aT hb3);have hsz:=bZ.o.cM;have HDX:=aV (HDL.o w3 B lv cR.o.1 (by have:w.heap.size+4<=W2:=hsz;omega) (cR.o.cZ rfl) hacc);obtain⟨la,lc,rfl,_⟩:=hacc.bj;have BB:=aV (show↑w+4<=B by have:w.heap.size+4<=W2:=hsz;omega);clear o0 o1 o2 o3 hacc hb3 hB hsz HDL HWK;go_wp2_with fail;refine(HDX.o).mono ?_;rintro e w4⟨_,al,rfl,hsl,NC,hlen,ho⟩;obtain⟨ka,kc,rfl,_⟩:=hsl.bj;have RX:Hd (Below (↑w+4) w3 w4):=⟨ho.os,ho.tape,ho.output,ho.size,λk hk=>ho.block k (by have h1:w.heap.size+4<=w3:=cR.o.cM;omega) (by have:=BB.o;omega)⟩;have fh:=aV (cR.o.ej RX.o cN);have HCX:=aV (mC.o w4 al _ fh.o.1 fh.o.cM (by have:=Gs.o;omega) hsl);clear hsl NC hlen ho HDX mC RX;have⟨o0,o1,o2,o3⟩:=aU (fh.o.Au rfl);go_wp2_with fail;refine(HCX.o).mono ?_;rintro e w5⟨_,rfl,⟨vv,rfl,hvv⟩,iz⟩;obtain⟨za,zc,rfl,_⟩:=hvv.bj;have jF:=aV (fh.o.aT iz);have XO:=aV hvv;rw[aL,Rw.o]at XO⊢;clear o0 o1 o2 o3 iz hvv;have⟨r0,r1,r2,r3⟩:=aU (jF.o.im rfl);have⟨f0,f1,f2,f3⟩:=iS (jF.o.im rfl);go_wp2_with fail;refine ah (v:= .agg #[o.id,o.dz,o.dB,xL za ol zc]) (by simp[results,results23,go_sem,r0,r1,r2,r3]) rfl ⟨_,rfl,⟨o.bR.map (gq al),_,rfl,?_⟩,?_⟩
 .exact XO.o.ev (((((fx w5).setCell (.inl (.inr ⟨by simp;omega,by simp⟩)) _).setCell (.inl (.inr ⟨by simp;omega,by simp⟩)) _).setCell (.inl (.inr ⟨by simp;omega,by simp⟩)) _).setCell (.inl (.inr ⟨by simp;omega,by simp⟩)) _)
 exact(((jF.o.1.setCell (by simp;omega) _).setCell (by simp;omega) _).setCell (by simp;omega) _).setCell (by simp;omega) _
end
end Go.Proofs.YtpjdjlnknfmfkaaGreatDoor
