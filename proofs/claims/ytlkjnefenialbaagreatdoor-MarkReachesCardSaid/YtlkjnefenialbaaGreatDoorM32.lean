/- What takes and alike answer; no condition beyond each theorem's own. -/
import Derived.Test.YtlkjnefenialbaaGreatDoorM14
import Derived.Test.YtlkjnefenialbaaGreatDoorM16
set_option linter.unusedVariables false
set_option linter.unusedSimpArgs false
set_option maxHeartbeats 8000000
set_option maxRecDepth 100000
namespace Go.Proofs.YtlkjnefenialbaaGreatDoor
open Go.RowKit
instance:az aJ where
 size:=2
 rep:=fun _ _ cs x=>cs=[.int .i64 x.kind, .int .i64 x.of]
 len:=fun h=>by rw[h];rfl
 flat:=fun h u hu=>by rw[h]at hu;simp at hu;rcases hu with rfl|rfl<;>rfl
 ev:=fun h _=>h
theorem OO {W:World}{g:Nat}{c0:Value}{t:TypeId}(h:W.heap[g]? =some (.cells #[c0] t (0,0))):W.cell? ⟨g,0,none⟩=some c0:=by simp[World.cell?,h]
theorem DZ {M:Nat→Prop}{w:World}{v:Value}{l:List aJ}(h:ae M w v l){k:Nat}{x:aJ}(hx:l[k]? =some x):∃b off cap,v= .slice (some ⟨b,off,none⟩) l.length cap∧b<w.heap.size∧∀W,Below w.heap.size w W→W.cell? ⟨b,off+k*2,none⟩=some (.int .i64 x.kind)∧W.cell? ⟨b,off+k*2+1,none⟩=some (.int .i64 x.of):=by
 obtain⟨a,cap,rfl,hl,_,hc⟩:=h.open_
 have hk:=(List.getElem?_eq_some_iff.1 hx).1
 obtain⟨b,off,rfl,_,hb,aC⟩:=hc (by omega)
 obtain⟨cs,rfl,bE⟩:=aC k x hx
 refine⟨b,off,cap,rfl,hb,fun W hB=> ?_⟩
 have g:∀j u,([.int .i64 x.kind, .int .i64 x.of]:List Value)[j]? =some u→W.cell? ⟨b,off+k*2+j,none⟩=some u:=fun j u hu=>(hB.cell (p:=⟨b,off+k*2+j,none⟩) hb).trans (bE j u hu)
 exact⟨g 0 _ rfl,g 1 _ rfl⟩
theorem kGe {M:Nat→Prop}{w:World}{v:Value}{l:List Int}(h:ae M w v l){k:Nat}{x:Int}(hx:l[k]? =some x):∃b off cap,v= .slice (some ⟨b,off,none⟩) l.length cap∧b<w.heap.size∧∀W,Below w.heap.size w W→W.cell? ⟨b,off+k,none⟩=some (.int .i64 x):=by
 obtain⟨a,cap,rfl,hl,_,hc⟩:=h.open_
 have hk:=(List.getElem?_eq_some_iff.1 hx).1
 obtain⟨b,off,rfl,_,hb,aC⟩:=hc (by omega)
 obtain⟨cs,rfl,bE⟩:=aC k x hx
 refine⟨b,off,cap,rfl,hb,fun W hB=> ?_⟩
 have:=(hB.cell (p:=⟨b,off+k*1+0,none⟩) hb).trans (bE 0 _ rfl)
 simpa using this
theorem Kv {M:Nat→Prop}{w:World}(hM:¬M w.heap.size)(xs:List Int)(n:Nat)(hn:xs.length=n)(hb:n≤1000)(t:TypeId):ae (α:=Int) M (w.alloc (.cells (xs.map (Value.int .i64)).toArray t)) (.slice (some ⟨w.heap.size,0,none⟩) n n) xs:=by
 subst hn
 refine⟨xs.map fun x=>[.int .i64 x],?_,by simp,?_⟩
 ·have e:(xs.map fun x=>[Value.int .i64 x]).flatten=xs.map (Value.int .i64):=by
   induction xs with
   |nil=>rfl
   |cons a r ih=>simp at ih⊢;exact ih (by simp at hb;omega)
  rw[e]
  refine⟨by simp[az.size],some ⟨w.heap.size,0,none⟩,xs.length,rfl,Nat.le_refl _,by unfold maxLen;omega,fun _=>⟨w.heap.size,0,rfl,hM,by simp,?_⟩⟩
  intro j u hu
  rw[Nat.zero_add]
  exact cell_of_heap (heap_alloc_new w _) (by simpa using hu)
 ·intro i cs x hc hx
  rw[List.getElem?_map,hx]at hc
  simp at hc;exact hc.symm
def fW(F:Nat→Prop)(w:World)(v:Value)(kind:Int)(ks:List Int):Prop:=
 ∃p q kv,v= .func (.func 251) #[] #[.pointer (some ⟨p,0,none⟩), .pointer (some ⟨q,0,none⟩)]∧¬F p∧¬F q∧w.heap[p]? =some (.cells #[kv] 27 (0,0))∧w.heap[q]? =some (.cells #[.int .i64 kind] 3 (0,0))∧ae F w kv ks
theorem fW.only {F:Nat→Prop}{w w':World}{v:Value}{kind:Int}{ks:List Int}(h:fW F w v kind ks)(ho:ag F w w'):fW F w' v kind ks:=by
 obtain⟨p,q,kv,h1,h2,h3,h4,h5,h6⟩:=h
 exact⟨p,q,kv,h1,h2,h3,ho.at_ h4 h2,ho.at_ h5 h3,h6.ev ⟨ho,fun _ h=> .inl h⟩⟩
theorem uM(kind:Int)(a:Option Addr)(n c:Nat)(w:World):Calls Tryz.prog 220 #[.int .i64 kind, .slice a n c] w fun e w'=>e= .returned (.func (.func 251) #[] #[.pointer (some ⟨w.heap.size+1,0,none⟩), .pointer (some ⟨w.heap.size,0,none⟩)])∧(w.alloc (.cells #[.int .i64 kind] 3)).alloc (.cells #[.slice a n c] 27)=w':=by
 have Is:∀(fn:Fn)(first cap:Array Value)(w:World),(Instr.makeFunc fn first cap).run Tryz.prog w= .ok (.func fn first cap) w:=fun _ _ _ _=>rfl
 go_enter Tryz.func220,Tryz.ntmps220
 go_wp2_with fail
 go_ret
 exact⟨rfl,rfl⟩
theorem uN {F:Nat→Prop}(w:World)(hF:∀i,F i→i<w.heap.size)(kind:Int)(ks:List Int)(n:Nat)(hn:ks.length=n)(hb:n≤1000):
 fW F (((w.alloc (.cells (ks.map (Value.int .i64)).toArray 3)).alloc (.cells #[.int .i64 kind] 3)).alloc (.cells #[.slice (some ⟨w.heap.size,0,none⟩) n n] 27)) (.func (.func 251) #[] #[.pointer (some ⟨w.heap.size+1+1,0,none⟩), .pointer (some ⟨w.heap.size+1,0,none⟩)]) kind ks:=by
 have hB:=Bx.fB w (.cells (ks.map (Value.int .i64)).toArray 3 (0,0)) (.cells #[.int .i64 kind] 3 (0,0)) (.cells #[.slice (some ⟨w.heap.size,0,none⟩) n n] 27 (0,0))
 refine⟨_,_,_,rfl,fun h=>by have:=hF _ h;omega,fun h=>by have:=hF _ h;omega,hB.df rfl,hB.bh rfl,?_⟩
 refine(Kv (M:=F) (w:=w) (fun h=>by have:=hF _ h;omega) ks n hn hb 3).below ?_
 exact((Below.refl _ _).alloc (Nat.le_refl _) _).alloc (by simp) _
theorem rz(ts:List aJ)(kind:Int)(M F:Nat→Prop)(w:World)(pv v:Value)(ht:ts.length≤8)(hp:ae M w pv ts)(p q:Nat)(kv:Value)(h4:w.heap[p]? =some (.cells #[kv] 27 (0,0)))(h5:w.heap[q]? =some (.cells #[.int .i64 kind] 3 (0,0)))(h6:ae F w kv (ts.map (·.kind))):
 Calls Tryz.prog 251 #[pv, .pointer (some ⟨p,0,none⟩), .pointer (some ⟨q,0,none⟩)] w fun e w'=>e= .returned (.tuple #[.agg #[.int .i64 kind, .int .i64 0], .bool true])∧Below w.heap.size w w':=by
 have ZV:Hid (∀(i:Nat)(x:aJ),ts[i]? =some x→_):=(show∀(i:Nat)(x:aJ),_→_ from fun i x hx=>DZ hp hx)
 have SL:Hid (∀(i:Nat)(x:Int),(ts.map (·.kind))[i]? =some x→_):=(show∀(i:Nat)(x:Int),_→_ from fun i x hx=>kGe h6 hx)
 obtain⟨pa,pc,rfl,gy,hpm,_⟩:=hp.open_
 obtain⟨ka,kc,hkv,tm,hkm,_⟩:=h6.open_
 subst hkv
 have hpw:p<w.heap.size:=(Array.getElem?_eq_some_iff.1 h4).1
 have U6:q<w.heap.size:=(Array.getElem?_eq_some_iff.1 h5).1
 have HP:Hid (∀W,Below w.heap.size w W→W.cell? ⟨p,0,none⟩=some (.slice ka (ts.map (·.kind)).length kc)∧W.cell? ⟨q,0,none⟩=some (.int .i64 kind)):=(show∀W,_→_ from fun W hb=>⟨OO ((hb.block p hpw).trans h4),OO ((hb.block q U6).trans h5)⟩)
 rw[List.length_map]at tm
 generalize hn:ts.length=n at*
 have Xn:Hid ((ts.map (·.kind)).length=n):=(show _=_ by rw[List.length_map];exact hn)
 rw[Xn.out]at HP SL
 have dZ:=hD hn;clear hn
 clear hp h4 h5 h6
 go_enter Tryz.func251,Tryz.ntmps251
 go_wp2_with fail
 have lR:Hid (Below w.heap.size w (w.alloc (.cells #[.int .i64 0, .int .i64 0] 140))):=(show Below _ _ _ from(Below.refl _ _).alloc (Nat.le_refl _) _)
 have ME:Hid ((w.alloc (.cells #[.int .i64 0, .int .i64 0] 140)).heap[w.heap.size]? =some (.cells #[.int .i64 0, .int .i64 0] 140 (0,0))):=(show _=_ from heap_alloc_new w _)
 go_loopg [6,7,10]n(fun g _ _ iv wr=>∃i:Nat,i≤n∧g=n-i∧iv= .int .i64 i∧Hid (Below w.heap.size w wr)∧Hid (wr.heap[w.heap.size]? =some (.cells #[.int .i64 0, .int .i64 0] 140 (0,0))))
 case atStart=>exact⟨0,Nat.zero_le _,rfl,rfl,lR,ME⟩
 case round=>
  obtain⟨i,hi,rfl,rfl,HB,HR⟩:=hrel
  have cB:=HB.out.size
  have LY:w.heap.size<wr.heap.size:=(Array.getElem?_eq_some_iff.1 HR.out).1
  by_cases aT:i<n
  ·obtain⟨⟨xk,xo⟩,hx⟩:∃x,ts[i]? =some x:=⟨_,List.getElem?_eq_getElem (by rw[dZ.out];exact aT)⟩
   obtain⟨b,off,cap,hv,hb,ao⟩:=ZV.out i _ hx
   obtain⟨rfl,rfl⟩:pa=some ⟨b,off,none⟩∧pc=cap:=by simpa using hv
   obtain⟨bk,ZW,ZX,Co,Ob,qD⟩:=SL.out i xk (by rw[List.getElem?_map,hx];rfl)
   obtain⟨rfl,rfl⟩:ka=some ⟨bk,ZW,none⟩∧kc=ZX:=by simpa using Co
   obtain⟨q0,q1⟩:=ao wr HB.out
   have r0:=fun o=>qD (wr.alloc o) (HB.out.alloc cB o)
   have p0:=fun o=>(HP.out (wr.alloc o) (HB.out.alloc cB o)).1
   have zP:b≠wr.heap.size:=by omega
   have qdb:bk≠wr.heap.size:=by omega
   have Wk:p≠wr.heap.size:=by omega
   clear hv Co ao qD hx
   dsimp only at q0 q1
   go_wp2_with fail
   go_quiet(fail)
   go_wp2_with fail
   go_roundg(n-(i+1))
   case measure=>omega
   case rel=>
    refine⟨i+1,by omega,rfl,by go_num,?_,?_⟩
    ·exact(show Below _ _ _ from below_drewNv (HB.out.alloc cB _) _)
    ·exact(show _=_ from(Below.heap_alloc wr _ _ LY).trans HR.out)
  ·obtain⟨_,q0⟩:=HP.out wr HB.out
   obtain⟨e0,e1⟩:=af HR.out
   have f0:=aa HR.out 0
   have f1:=aa HR.out 1
   have hqn:q≠w.heap.size:=by omega
   go_wp2_with fail
   refine bodyPost_ret (v:= .tuple #[.agg #[.int .i64 kind, .int .i64 0], .bool true]) (by simp[results,Tryz.results251,go_sem,e0,e1]) rfl ⟨rfl,?_⟩
   exact(HB.out.setCell (by simp) _).setCell (by simp) _
theorem Bw(t:aJ)(ht:t.kind=1∨t.kind=2)(b off cap:Nat)(w:World)(h0:w.cell? ⟨b,off,none⟩=some (.int .i64 t.kind))(h1:w.cell? ⟨b,off+1,none⟩=some (.int .i64 t.of))(h2:w.cell? ⟨b,off+2,none⟩=some (.int .i64 t.kind))(h3:w.cell? ⟨b,off+3,none⟩=some (.int .i64 t.of)):
 Calls Tryz.prog 256 #[.slice (some ⟨b,off,none⟩) 2 cap] w fun e w'=>e= .returned (.bool true)∧Below w.heap.size w w':=by
 obtain⟨k,o⟩:=t
 dsimp only at*
 rcases ht with rfl|rfl
 all_goals
  go_enter Tryz.func256,Tryz.ntmps256
  go_wp2_with fail
  go_quiet(fail)
  go_wp2_with fail
  go_ret
  exact⟨rfl,below_drewNv (Below.refl _ _) _⟩
end Go.Proofs.YtlkjnefenialbaaGreatDoor
