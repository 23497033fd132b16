/- What a read world holds; no condition beyond each theorem's own. -/
import Derived.Test.YtlkjnefenialbaaGreatDoorM18
import Derived.Test.YtlkjnefenialbaaGreatDoorRows
import Derived.ProofKit
import Derived.Deep.Slices
import Derived.Deep.Fields
import Derived.ChangeSame
import Derived.ChangeArms
set_option linter.unusedVariables false
set_option linter.unusedSimpArgs false
set_option maxHeartbeats 8000000
set_option maxRecDepth 100000
namespace Go.Proofs.YtlkjnefenialbaaGreatDoor
open Go.ChangeShapes Go.WideShapes Go.ChangeAt Go.RowKit Go.Deep
theorem GS {x:Int}(h:(Lit.int .i64 x).wf=true):I6 x:=by
 unfold I6
 simpa [Lit.wf,IntKind.min,IntKind.max,IntKind.signed,IntKind.bits]using h
theorem Dv {W:World}{a:Addr}{v:Value}(h:W.cell? a=some v):a.spot=none:=by
 unfold World.cell? at h
 split at h
 ·split at h
  ·cases h
  ·rename_i h1;simpa using h1
 ·cases h
theorem pV {α:Type}{Q:Nat→α→Prop}:∀(n:Nat),(∀i,i<n→∃c,Q i c)→∃cs:List α,cs.length=n∧∀j c,cs[j]? =some c→Q j c
 |0,_=>⟨[],rfl,fun j c h=>by simp at h⟩
 |n+1,h=>by
  obtain⟨cs,hl,hc⟩:=pV n fun i hi=>h i (by omega)
  obtain⟨c,eU⟩:=h n (by omega)
  refine⟨cs++[c],by simp[hl],fun j d hj=> ?_⟩
  by_cases TB:j<n
  ·rw[List.getElem?_append_left (by omega)]at hj
   exact hc j d hj
  ·have SH:j<(cs++[c]).length:=(List.getElem?_eq_some_iff.1 hj).1
   have:j=n:=by simp[hl]at SH;omega
   subst this
   rw[List.getElem?_append_right (by omega),hl]at hj
   simp at hj;subst hj;exact eU
theorem pW {size:Nat}:∀(css:List (List Value)),(∀cs∈css,cs.length=size)→css.flatten.length=css.length*size
 |[],_=>by simp
 |a::r,h=>by
  rw[List.flatten_cons,List.length_append,pW r (fun cs hc=>h cs (List.mem_cons_of_mem _ hc)),h a List.mem_cons_self,List.length_cons,Nat.succ_mul]
  omega
def Rd {H:Type}(enc:TypeId×Value→H)(W:World)(t:TypeId)(cs:List Value):Prop:=∃fuel x,DataW.trod enc Tryz.prog W 0 (fun _=>true) true fuel t cs=some x
section
variable {H:Type}{enc:TypeId×Value→H}{W:World}
theorem eQ {cs:List Value}(h:Rd enc W 3 cs):∃z,cs=[.int .i64 z]∧I6 z:=by
 obtain⟨n,x,h⟩:=h
 obtain⟨z,e,_,w⟩:=DataW.trod_int Tryz.underlying3 h
 exact⟨z,e,GS w⟩
theorem M6 {cs:List Value}(h:Rd enc W 4 cs):∃z,cs=[.bool z]:=by
 obtain⟨n,x,h⟩:=h
 obtain⟨z,e,_⟩:=DataW.trod_bool Tryz.underlying4 h
 exact⟨z,e⟩
theorem cm {t:TypeId}{cs:List Value}{fs:Array Field}(he:Tryz.prog.underlying t=some (.struct fs))(h:Rd enc W t cs)(j:Nat)(f:Field)(hj:fs[j]? =some f):Rd enc W f.type ((cs.drop f.offset).take (Tryz.prog.cellsOf f.type)):=by
 obtain⟨n,x,h⟩:=h
 obtain⟨ys,n',hn',hy,hlen,Y8,hf⟩:=DataW.trod_struct he h
 have v8:j<fs.size:=(Array.getElem?_eq_some_iff.1 hj).1
 exact⟨n',_,(hf j f hj).trans (List.getElem?_eq_getElem (by omega))⟩
theorem nC {α:Type} [az α]{ts te:TypeId}{Q:α→Prop}(sw:Tryz.prog.underlying ts=some (.slice te))(cB:Tryz.prog.cellsOf te=az.size α)(wg:0<az.size α)
 (each:∀cs,cs.length=az.size α→Rd enc W te cs→∃y:α,az.rep (fun _=>False) W cs y∧Q y){v:Value}(h:Rd enc W ts [v]):∃ys:List α,ae (fun _=>False) W v ys∧∀y∈ys,Q y:=by
 obtain⟨n0,x0,h⟩:=h
 rcases open_slice sw h with h0|⟨a,len,cap,m,n,D,Pl,bE,hb,hl,hm,hmm,hx,hi⟩
 ·have:=h0.1
  simp at this;subst this
  exact⟨[],ae.nil _ _,fun y hy=>by cases hy⟩
 ·simp at bE;subst bE
  simp at hmm
  obtain⟨ps,hlen,ia⟩:=pV (Q:=fun i(p:List Value×α)=>p.1.length=az.size α∧az.rep (fun _=>False) W p.1 p.2∧Q p.2∧∀(j:Nat)(u:Value),p.1[j]? =some u→W.cell? (a.add (i*az.size α+j))=some u) len (fun i xY=>by
   obtain⟨cs',hc,EF⟩:=hi i (by omega)
   rw[cB]at hc
   obtain⟨_,lQ,nJ⟩:=World.cells?_some hc
   obtain⟨y,h1,h2⟩:=each cs' lQ ⟨_,_,EF⟩
   refine⟨(cs',y),lQ,h1,h2,fun j u hu=> ?_⟩
   have hj:j<az.size α:=by rw[←lQ];exact(List.getElem?_eq_some_iff.1 hu).1
   rw[←Go.Deep.add_add,nJ j hj,hu])
  have Oc:∀(i:Nat)(cs:List Value),(ps.map (·.1))[i]? =some cs→cs.length=az.size α:=fun i cs hc=>by
   rw[List.getElem?_map]at hc
   obtain⟨p,hp,rfl⟩:=Option.map_eq_some_iff.1 hc
   exact(ia i p hp).1
  have hfl:(ps.map (·.1)).flatten.length=len*az.size α:=by
   rw[pW _ (fun cs bE=>by obtain⟨i,hi⟩:=List.getElem?_of_mem bE;exact Oc i cs hi),List.length_map,hlen]
  refine⟨ps.map (·.2),⟨ps.map (·.1),⟨by rw[hfl,List.length_map,hlen],some a,cap,by rw[List.length_map,hlen],by rw[List.length_map];omega,hm,fun hp=> ?_⟩,by simp,fun i cs x hc hx=> ?_⟩,fun y hy=> ?_⟩
  ·rw[List.length_map,hlen]at hp
   have h0:W.cell? (a.add 0)≠none:=by
    obtain⟨p,YM⟩:∃p,ps[0]? =some p:=⟨_,List.getElem?_eq_getElem (by omega)⟩
    obtain⟨e1,_,_,e4⟩:=ia 0 p YM
    obtain⟨u,hu⟩:∃u,p.1[0]? =some u:=⟨_,List.getElem?_eq_getElem (by omega)⟩
    have:=e4 0 u hu
    rw[Nat.zero_mul]at this
    rw[this];simp
   obtain⟨u0,Y9⟩:=Option.ne_none_iff_exists'.1 h0
   simp[Addr.add]at Y9
   obtain⟨b,off,sp⟩:=a
   have Sn:=Dv Y9
   simp at Sn
   subst Sn
   have bZ:=mE Y9
   have ea:∀k,(Addr.add ⟨b,off,none⟩ k)=⟨b,off+k,none⟩:=fun k=>by
    unfold Addr.add;split
    ·rename_i h;subst h;rfl
    ·rfl
   refine⟨b,off,rfl,fun hf=>hf,bZ,fun j u hu=> ?_⟩
   have hj:j<len*az.size α:=by rw[←hfl];exact(List.getElem?_eq_some_iff.1 hu).1
   have QL:j/az.size α<len:=(Nat.div_lt_iff_lt_mul wg).2 hj
   have qv:j%az.size α<az.size α:=Nat.mod_lt _ wg
   obtain⟨p,tp⟩:∃p,ps[j/az.size α]? =some p:=⟨_,List.getElem?_eq_getElem (by omega)⟩
   obtain⟨e1,_,_,e4⟩:=ia _ p tp
   obtain⟨u',WZ⟩:∃u',p.1[j%az.size α]? =some u':=⟨_,List.getElem?_eq_getElem (by omega)⟩
   have e5:=kY Oc (j/az.size α) p.1 (j%az.size α) u' (by rw[List.getElem?_map,tp];rfl) WZ
   have e6:j/az.size α*az.size α+j%az.size α=j:=by rw[Nat.mul_comm];exact Nat.div_add_mod _ _
   rw[e6,hu]at e5
   obtain rfl:=Option.some.inj e5
   have:=e4 _ _ WZ
   rw[ea,e6]at this
   exact this
  ·rw[List.getElem?_map]at hc hx
   obtain⟨p,hp,rfl⟩:=Option.map_eq_some_iff.1 hc
   rw[hp]at hx
   obtain rfl:=Option.some.inj hx
   exact(ia i p hp).2.1
  ·obtain⟨p,hp,rfl⟩:=List.mem_map.1 hy
   obtain⟨i,QL⟩:=List.getElem?_of_mem hp
   exact(ia i p QL).2.2.1
theorem Fw {v:Value}(h:Rd enc W 27 [v]):∃ys:List Int,ae (fun _=>False) W v ys∧∀y∈ys,I6 y:=
 nC (α:=Int) Tryz.underlying27 (by kernel_rfl) (by decide) (fun cs _ h=>by
  obtain⟨z,rfl,hz⟩:=eQ h
  exact⟨z,rfl,hz⟩) h
theorem JQ {cs:List Value}(h:cs.length=4):∃a b c d,cs=[a,b,c,d]:=by
 match cs,h with
 |[a,b,c,d],_=>exact⟨a,b,c,d,rfl⟩
theorem cells3 {cs:List Value}(h:cs.length=3):∃a b c,cs=[a,b,c]:=by
 match cs,h with
 |[a,b,c],_=>exact⟨a,b,c,rfl⟩
theorem PV {cs:List Value}(h:cs.length=2):∃a b,cs=[a,b]:=by
 match cs,h with
 |[a,b],_=>exact⟨a,b,rfl⟩
theorem PW {cs:List Value}(h:cs.length=8):∃a b c d e f g i,cs=[a,b,c,d,e,f,g,i]:=by
 match cs,h with
 |[a,b,c,d,e,f,g,i],_=>exact⟨a,b,c,d,e,f,g,i,rfl⟩
end
theorem mO:Tryz.prog.cellsOf 3=1:=by kernel_rfl
theorem Tc:Tryz.prog.cellsOf 4=1:=by kernel_rfl
theorem XT:Tryz.prog.cellsOf 140=2:=by kernel_rfl
theorem Td:Tryz.prog.cellsOf 98=2:=by kernel_rfl
theorem cFs:Tryz.prog.cellsOf 96=1:=by kernel_rfl
theorem XU:Tryz.prog.cellsOf 99=1:=by kernel_rfl
theorem cIs:Tryz.prog.cellsOf 27=1:=by kernel_rfl
theorem cLs:Tryz.prog.cellsOf 22=1:=by kernel_rfl
theorem cOs:Tryz.prog.cellsOf 23=1:=by kernel_rfl
theorem cRs:Tryz.prog.cellsOf 24=1:=by kernel_rfl
section
variable {H:Type}{enc:TypeId×Value→H}{W:World}
theorem AP(cs:List Value)(hl:cs.length=4)(h:Rd enc W 149 cs):∃y:iq,az.rep (fun _=>False) W cs y∧True:=by
 obtain⟨a,b,c,d,rfl⟩:=JQ hl
 have h0:Rd enc W 3 [a]:=by simpa [mO]using cm Tryz.underlying149 h 0 _ rfl
 have h1:Rd enc W 3 [b]:=by simpa [mO]using cm Tryz.underlying149 h 1 _ rfl
 have h2:Rd enc W 3 [c]:=by simpa [mO]using cm Tryz.underlying149 h 2 _ rfl
 have h3:Rd enc W 4 [d]:=by simpa [Tc]using cm Tryz.underlying149 h 3 _ rfl
 obtain⟨z0,e0,w0⟩:=eQ h0
 obtain⟨z1,e1,w1⟩:=eQ h1
 obtain⟨z2,e2,w2⟩:=eQ h2
 obtain⟨z3,e3⟩:=M6 h3
 simp at e0 e1 e2 e3
 subst e0 e1 e2 e3
 exact⟨⟨z0,z1,z2,z3⟩,⟨rfl,w0,w1,w2⟩,trivial⟩
theorem JR(cs:List Value)(hl:cs.length=8)(h:Rd enc W 146 cs):∃y:eD,az.rep (fun _=>False) W cs y∧True:=by
 obtain⟨a,b,c,d,e,f,g,i,rfl⟩:=PW hl
 have h0:Rd enc W 3 [a]:=by simpa [mO]using cm Tryz.underlying146 h 0 _ rfl
 have h1:Rd enc W 3 [b]:=by simpa [mO]using cm Tryz.underlying146 h 1 _ rfl
 have h2:Rd enc W 3 [c]:=by simpa [mO]using cm Tryz.underlying146 h 2 _ rfl
 have h3:Rd enc W 3 [d]:=by simpa [mO]using cm Tryz.underlying146 h 3 _ rfl
 have h4:Rd enc W 140 [e,f]:=by simpa [XT]using cm Tryz.underlying146 h 4 _ rfl
 have h5:Rd enc W 3 [g]:=by simpa [mO]using cm Tryz.underlying146 h 5 _ rfl
 have h6:Rd enc W 3 [i]:=by simpa [mO]using cm Tryz.underlying146 h 6 _ rfl
 have h7:Rd enc W 3 [e]:=by simpa [mO]using cm Tryz.underlying140 h4 0 _ rfl
 have h8:Rd enc W 3 [f]:=by simpa [mO]using cm Tryz.underlying140 h4 1 _ rfl
 obtain⟨z0,e0,w0⟩:=eQ h0
 obtain⟨z1,e1,w1⟩:=eQ h1
 obtain⟨z2,e2,w2⟩:=eQ h2
 obtain⟨z3,e3,w3⟩:=eQ h3
 obtain⟨z5,e5,w5⟩:=eQ h5
 obtain⟨z6,e6,w6⟩:=eQ h6
 obtain⟨z7,e7,w7⟩:=eQ h7
 obtain⟨z8,e8,w8⟩:=eQ h8
 simp at e0 e1 e2 e3 e5 e6 e7 e8
 subst e0 e1 e2 e3 e5 e6 e7 e8
 exact⟨⟨z0,z1,z2,z3,⟨z7,z8⟩,z5,z6⟩,⟨rfl,w0,w1,w2,w3,w7,w8,w5,w6⟩,trivial⟩
theorem Dw(cs:List Value)(hl:cs.length=3)(h:Rd enc W 101 cs):∃y:fL,az.rep (fun _=>False) W cs y∧True:=by
 obtain⟨a,b,c,rfl⟩:=cells3 hl
 have h0:Rd enc W 98 [a,b]:=by simpa [Td]using cm Tryz.underlying101 h 0 _ rfl
 have h1:Rd enc W 99 [c]:=by simpa [XU]using cm Tryz.underlying101 h 1 _ rfl
 have h2:Rd enc W 3 [a]:=by simpa [mO]using cm Tryz.underlying98 h0 0 _ rfl
 have h3:Rd enc W 96 [b]:=by simpa [cFs]using cm Tryz.underlying98 h0 1 _ rfl
 obtain⟨z2,e2,w2⟩:=eQ h2
 simp at e2
 subst e2
 obtain⟨fs,s3,_⟩:=nC (α:=iq) Tryz.underlying96 (by kernel_rfl) (by decide) AP h3
 obtain⟨chs,s1,_⟩:=nC (α:=eD) Tryz.underlying99 (by kernel_rfl) (by decide) JR h1
 exact⟨⟨⟨z2,fs⟩,chs⟩,⟨b,c,rfl,s3,s1,w2⟩,trivial⟩
theorem GU(cs:List Value)(hl:cs.length=4)(h:Rd enc W 59 cs):∃y:iE,az.rep (fun _=>False) W cs y∧True:=by
 obtain⟨a,b,c,d,rfl⟩:=JQ hl
 have h0:Rd enc W 3 [a]:=by simpa [mO]using cm Tryz.underlying59 h 0 _ rfl
 have h1:Rd enc W 3 [b]:=by simpa [mO]using cm Tryz.underlying59 h 1 _ rfl
 have h2:Rd enc W 27 [c]:=by simpa [cIs]using cm Tryz.underlying59 h 2 _ rfl
 have h3:Rd enc W 3 [d]:=by simpa [mO]using cm Tryz.underlying59 h 3 _ rfl
 obtain⟨z0,e0,w0⟩:=eQ h0
 obtain⟨z1,e1,w1⟩:=eQ h1
 obtain⟨vs,s2,w2⟩:=Fw h2
 obtain⟨z3,e3,w3⟩:=eQ h3
 simp at e0 e1 e3
 subst e0 e1 e3
 exact⟨⟨z0,z1,vs,z3⟩,⟨c,rfl,s2,w0,w1,w3,w2⟩,trivial⟩
theorem Dx(cs:List Value)(hl:cs.length=2)(h:Rd enc W 62 cs):∃y:iL,az.rep (fun _=>False) W cs y∧True:=by
 obtain⟨a,b,rfl⟩:=PV hl
 obtain⟨n,x,h⟩:=h
 obtain⟨xs,m1,hm,FN,hlen,TE,Ub⟩:=DataW.trod_array Tryz.underlying62 h
 have g:∀i,i<2→Rd enc W 3 (([a,b].drop (i*Tryz.prog.cellsOf 3)).take (Tryz.prog.cellsOf 3)):=fun i hi=>⟨m1,_,(Ub i hi).trans (List.getElem?_eq_getElem (by omega))⟩
 have h0:Rd enc W 3 [a]:=by simpa [mO]using g 0 (by omega)
 have h1:Rd enc W 3 [b]:=by simpa [mO]using g 1 (by omega)
 obtain⟨z0,e0,w0⟩:=eQ h0
 obtain⟨z1,e1,w1⟩:=eQ h1
 simp at e0 e1
 subst e0 e1
 exact⟨⟨z0,z1⟩,⟨rfl,w0,w1⟩,trivial⟩
theorem JS {a b c:Value}(h:Rd enc W 26 [a,b,c]):∃(ls:List fL)(os:List iE)(rs:List iL),ae (fun _=>False) W a ls∧ae (fun _=>False) W b os∧ae (fun _=>False) W c rs:=by
 have h0:Rd enc W 22 [a]:=by simpa [cLs]using cm Tryz.underlying26 h 0 _ rfl
 have h1:Rd enc W 23 [b]:=by simpa [cOs]using cm Tryz.underlying26 h 1 _ rfl
 have h2:Rd enc W 24 [c]:=by simpa [cRs]using cm Tryz.underlying26 h 2 _ rfl
 obtain⟨ls,s0,_⟩:=nC (α:=fL) Tryz.underlying22 (by kernel_rfl) (by decide) Dw h0
 obtain⟨os,s1,_⟩:=nC (α:=iE) Tryz.underlying23 (by kernel_rfl) (by decide) GU h1
 obtain⟨rs,s2,_⟩:=nC (α:=iL) Tryz.underlying24 (by kernel_rfl) (by decide) Dx h2
 exact⟨ls,os,rs,s0,s1,s2⟩
end
end Go.Proofs.YtlkjnefenialbaaGreatDoor
