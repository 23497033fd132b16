/- What the functions on values and fresh answer; no condition beyond each theorem's own. -/
import Derived.Test.YtlkjnefenialbaaGreatDoorM09
import Derived.Test.YtlkjnefenialbaaGreatDoorM13
set_option linter.unusedVariables false
set_option linter.unusedSimpArgs false
set_option maxHeartbeats 8000000
set_option maxRecDepth 100000
namespace Go.Proofs.YtlkjnefenialbaaGreatDoor
open Go.RowKit
theorem ud(k n:Int)(a:Option Addr)(cap:Nat)(w:World):
 Calls Tryz.prog 98 #[.agg #[.int .i64 k, .int .i64 n, .string ⟨#[]⟩, .slice a 0 cap]] w fun e w'=>e= .returned (.bool true)∧Below w.heap.size w w':=by
 go_enter Tryz.func98,Tryz.ntmps98
 go_wp2
 go_ret
 exact⟨rfl,(Below.refl _ _).alloc (Nat.le_refl _) _⟩
theorem AA(n:Int)(h1:1≤n)(h2:n≤100000)(w:World):Calls Tryz.prog 100 #[.int .i64 n] w fun e w'=>e= .returned (.bool true)∧w=w':=by
 go_enter Tryz.func100,Tryz.ntmps100
 go_wp2
 go_ret
 exact⟨rfl,rfl⟩
theorem GF(r:Int)(h1:32≤r)(h2:(r !=127)=true)(w:World):Calls Tryz.prog 129 #[.int .i32 r] w fun e w'=>e= .returned (.bool true)∧w=w':=by
 go_enter Tryz.func129,Tryz.ntmps129
 go_wp2
 go_ret
 exact⟨rfl,rfl⟩
theorem vQ(s:ByteArray)(h:eN s)(w:World)(hT:Tb w):Calls Tryz.prog 99 #[.string s] w fun e w'=>e= .returned (.bool true)∧Below w.heap.size w w':=by
 have HT:=hD hT
 have qcl:=h.1
 have HS:=hD h.2
 have HV:Hid (∀W,Tb W→_):=(show∀W,_→_ from fun W hT=>by
  have h1:=Gz s W (by omega) hT
  rw[Az HS.out]at h1
  exact h1)
 clear h hT
 go_enter Tryz.func99,Tryz.ntmps99
 go_wp2_with fail
 refine(HV.out _ HT.out).mono ?_
 rintro e w1⟨rfl,aw⟩
 have aO:=hD aw
 clear aw
 go_wp2_with fail
 go_loopg [4](s.size+1)(fun g _ wr=>∃p:Nat,p≤s.size∧g=s.size+1-p∧wr=w1.iter s p∧Hid (lq s p))
 case atStart=>exact⟨0,Nat.zero_le _,rfl,rfl,(show lq _ _ from rb HS.out)⟩
 case round=>
  obtain⟨p,hp,rfl,rfl,HA⟩:=hrel
  by_cases aT:p<s.size
  ·obtain⟨r,k,hd,hk,Lz⟩:=HA.out.step aT
   have hn:=run_next_any (P:=Tryz.prog) w1 s p 0 aT
   rw[hd]at hn
   dsimp only at hn
   have Mu:(32:Int)≤(r:Int):=by omega
   have YS:((r:Int)!=127)=true:=by simp;omega
   have ni:1≤k:=by omega
   have Uj:=Lz.1
   have lS:=hD Lz
   clear hd hk Lz
   go_wp2_with fail
   refine(GF _ Mu YS _).mono ?_
   rintro e w'⟨rfl,rfl⟩
   go_wp2_with fail
   go_roundg(s.size+1-(p+k))
   case measure=>omega
   case rel=>exact⟨p+k,Uj,rfl,rfl,lS⟩
  ·have hn:=run_next_end (P:=Tryz.prog) w1 s p 0 aT
   go_wp2_with fail
   go_ret
   exact⟨rfl,aO.out.alloc aO.out.size _⟩
theorem GG(a:Option Addr)(cap:Nat)(w:World):
 Calls Tryz.prog 73 #[.agg #[.int .i64 0, .int .i64 0, .string ⟨#[]⟩, .slice a 0 cap]] w fun e w'=>e= .returned (.bool true)∧Below w.heap.size w w':=by
 go_enter Tryz.func73,Tryz.ntmps73
 go_wp2_with fail
 refine(ud _ _ _ _ _).mono ?_
 rintro e w1⟨rfl,aw⟩
 obtain⟨g0,g1,g2,g3⟩:=ab (boxed aw)
 have HB:=hD (aL aw)
 clear aw
 go_wp2_with fail
 go_ret
 exact⟨rfl,HB.out⟩
theorem GH(n:Int)(h1: -1000000000000000≤n)(h2:n≤1000000000000000)(a:Option Addr)(cap:Nat)(w:World):
 Calls Tryz.prog 73 #[.agg #[.int .i64 1, .int .i64 n, .string ⟨#[]⟩, .slice a 0 cap]] w fun e w'=>e= .returned (.bool true)∧Below w.heap.size w w':=by
 go_enter Tryz.func73,Tryz.ntmps73
 go_wp2_with fail
 refine(ud _ _ _ _ _).mono ?_
 rintro e w1⟨rfl,aw⟩
 obtain⟨g0,g1,g2,g3⟩:=ab (boxed aw)
 have HB:=hD (aL aw)
 clear aw
 go_wp2_with fail
 go_ret
 exact⟨rfl,HB.out⟩
theorem ue(s:ByteArray)(h:eN s)(a:Option Addr)(cap:Nat)(w:World)(hT:Tb w):
 Calls Tryz.prog 73 #[.agg #[.int .i64 2, .int .i64 0, .string s, .slice a 0 cap]] w fun e w'=>e= .returned (.bool true)∧Below w.heap.size w w':=by
 have HR:Hid (∀W,Tb W→_):=(show∀W,_→_ from fun W hT=>vQ s h W hT)
 have HT:=hD (fun o=>hT.below (w':=w.alloc o) ((Below.refl _ _).alloc (Nat.le_refl _) _))
 clear h hT
 go_enter Tryz.func73,Tryz.ntmps73
 go_wp2_with fail
 refine(HR.out _ (HT.out _)).mono ?_
 rintro e w1⟨rfl,aw⟩
 have HB:=hD (aL aw)
 clear aw
 go_wp2_with fail
 go_ret
 exact⟨rfl,HB.out⟩
theorem GI(k n:Int)(hk:k=3∨k=4)(h1:1≤n)(h2:n≤100000)(a:Option Addr)(cap:Nat)(w:World):
 Calls Tryz.prog 73 #[.agg #[.int .i64 k, .int .i64 n, .string ⟨#[]⟩, .slice a 0 cap]] w fun e w'=>e= .returned (.bool true)∧Below w.heap.size w w':=by
 rcases hk with rfl|rfl
 all_goals
  go_enter Tryz.func73,Tryz.ntmps73
  go_wp2_with fail
  refine(ud _ _ _ _ _).mono ?_
  rintro e w1⟨rfl,aw⟩
  obtain⟨g0,g1,g2,g3⟩:=ab (boxed aw)
  have HB:=hD (aL aw)
  clear aw
  go_wp2_with fail
  refine(AA n h1 h2 _).mono ?_
  rintro e w2⟨rfl,rfl⟩
  go_wp2_with fail
  go_ret
  exact⟨rfl,HB.out⟩
theorem cj {M:Nat→Prop}{w:World}{v:Value}{k n:Int}{s:ByteArray}{l:List au}(h:bI M w v (au.mk k n s l)):∃a cap,v= .agg #[.int .i64 k, .int .i64 n, .string s, .slice a l.length cap]∧ae M w (.slice a l.length cap) l:=by
 obtain⟨cs,rfl,hr⟩:=h
 obtain⟨av,rfl,hs,_⟩:=eV.iff.1 hr
 have iJ:=hs
 obtain⟨a,cap,rfl,_⟩:=iJ.open_
 exact⟨a,cap,rfl,hs⟩
theorem wV {k many:Int}{v:au}(h:kj k many v)(hm:many≤100000){M:Nat→Prop}{w:World}{u:Value}(hu:bI M w u v)(hT:Tb w):
 Calls Tryz.prog 73 #[u] w fun e w'=>e= .returned (.bool true)∧Below w.heap.size w w':=by
 rcases h with⟨_,n,rfl,h1,h2⟩|⟨_,s,rfl,h1⟩|⟨hk,rfl|⟨n,rfl,h1,h2⟩⟩
 ·obtain⟨a,cap,rfl,_⟩:=cj hu
  exact GH n h1 h2 a cap w
 ·obtain⟨a,cap,rfl,_⟩:=cj hu
  exact ue s h1 a cap w hT
 ·obtain⟨a,cap,rfl,_⟩:=cj hu
  exact GG a cap w
 ·obtain⟨a,cap,rfl,_⟩:=cj hu
  exact GI k n hk h1 (by omega) a cap w
theorem GJ {k many:Int}{v:au}(h:kj k many v):v.kind≠5:=by
 rcases h with⟨_,n,rfl,h1,h2⟩|⟨_,s,rfl,h1⟩|⟨hk,rfl|⟨n,rfl,h1,h2⟩⟩<;>simp[au.kind]
 omega
theorem GK {k many:Int}{v:au}(h:kj k many v)(hm:many≤100000){M:Nat→Prop}{w:World}{u:Value}(hu:bI M w u v)(hT:Tb w):
 Calls Tryz.prog 102 #[u] w fun e w'=>e= .returned (.bool false)∧Below w.heap.size w w':=by
 have HR:Hid (∀W,Below w.heap.size w W→_):=(show∀W,_→_ from fun W hb=>wV h hm (hu.below hb) (hT.below hb))
 have R4:(v.kind==5)=false:=by simpa using GJ h
 obtain⟨vk,vn,vs,vl⟩:=v
 obtain⟨a,cap,rfl,_⟩:=cj hu
 clear hu h hT
 dsimp only[au.kind]at R4
 go_enter Tryz.func102,Tryz.ntmps102
 go_wp2_with fail
 refine(HR.out _ ((Below.refl _ _).alloc (Nat.le_refl _) _)).mono ?_
 rintro e w1⟨rfl,aw⟩
 have HB:=hD (aL aw)
 clear aw
 go_wp2_with fail
 go_ret
 exact⟨rfl,HB.out⟩
theorem eL {M:Nat→Prop}{w:World}{v:Value}{l:List au}(h:ae M w v l){i:Nat}{k n:Int}{s:ByteArray}{ll:List au}(hx:l[i]? =some (.mk k n s ll)):∃b off cap a c,v= .slice (some ⟨b,off,none⟩) l.length cap∧b<w.heap.size∧ae M w (.slice a ll.length c) ll∧s.size≤maxLen∧∀W,Below w.heap.size w W→(W.cell? ⟨b,off+i*4,none⟩=some (.int .i64 k)∧W.cell? ⟨b,off+i*4+1,none⟩=some (.int .i64 n)∧W.cell? ⟨b,off+i*4+2,none⟩=some (.string s)∧W.cell? ⟨b,off+i*4+3,none⟩=some (.slice a ll.length c))∧bI M W (.agg #[.int .i64 k, .int .i64 n, .string s, .slice a ll.length c]) (au.mk k n s ll):=by
 obtain⟨a,cap,rfl,hl,_,hc⟩:=h.open_
 have hk:=(List.getElem?_eq_some_iff.1 hx).1
 obtain⟨b,off,rfl,_,hb,aC⟩:=hc (by omega)
 obtain⟨cs,hr,bE⟩:=aC i _ hx
 have hr0:=hr
 obtain⟨av,rfl,hs,cB⟩:=eV.iff.1 hr
 have iJ:=hs
 obtain⟨a,c,rfl,_⟩:=iJ.open_
 refine⟨b,off,cap,a,c,rfl,hb,hs,cB,fun W hB=>⟨?_,_,rfl,az.ev hr0 (Ev.aj hB)⟩⟩
 have g:∀j u,([.int .i64 k, .int .i64 n, .string s, .slice a ll.length c]:List Value)[j]? =some u→W.cell? ⟨b,off+i*4+j,none⟩=some u:=fun j u hu=>(hB.cell (p:=⟨b,off+i*4+j,none⟩) hb).trans (bE j u hu)
 exact⟨g 0 _ rfl,g 1 _ rfl,g 2 _ rfl,g 3 _ rfl⟩
theorem yE(k many:Int)(hm:many≤100000)(l:List au)(hl:∀x∈l,kj k many x)(M:Nat→Prop)(v:Value)(w:World)(h:ae M w v l)(hT:Tb w):
 Calls Tryz.prog 130 #[v, .func (.func 102) #[] #[]] w fun e w'=>e= .returned (.int .i64 (-1))∧Below w.heap.size w w':=by
 have HC:Hid (∀(i:Nat)(k n:Int)(s:ByteArray)(ll:List au),l[i]? =some (.mk k n s ll)→_):=(show∀(i:Nat)(k n:Int)(s:ByteArray)(ll:List au),_→_ from fun i k n s ll hx=>eL h hx)
 have HN:Hid (∀W(x:au)u,Below w.heap.size w W→x∈l→bI M W u x→_):=(show∀W(x:au)u,_→_→_→_ from fun W x u hb hx hu=>GK (hl x hx) hm hu (hT.below hb))
 obtain⟨a,bu,rfl,cq,po,_⟩:=h.open_
 clear h hl hT
 generalize hn:l.length=n at*
 have dZ:=hD hn;clear hn
 go_enter Tryz.func130,Tryz.ntmps130
 go_wp2_with fail
 go_loopg [5,8]n(fun g _ iv wr=>∃k:Nat,k≤n∧g=n-k∧iv= .int .i64 k∧Hid (Below w.heap.size w wr))
 case atStart=>exact⟨0,Nat.zero_le _,rfl,rfl,(show Below _ _ _ from Below.refl _ _)⟩
 case round=>
  obtain⟨i,hi,rfl,rfl,HB⟩:=hrel
  by_cases aT:i<n
  ·obtain⟨⟨xk,xn,xs,xl⟩,hx⟩:∃x,l[i]? =some x:=⟨_,List.getElem?_eq_getElem (by rw[dZ.out];exact aT)⟩
   obtain⟨b,off,cap,a',c',hv,hb,_,_,ao⟩:=HC.out i xk xn xs xl hx
   obtain⟨rfl,rfl⟩:a=some ⟨b,off,none⟩∧bu=cap:=by simpa using hv
   obtain⟨⟨g0,g1,g2,g3⟩,ek⟩:=ao wr HB.out
   have oW:=hD (HN.out wr _ _ HB.out (List.mem_of_getElem? hx) ek)
   clear hv ao ek hx
   go_wp2_with fail
   refine oW.out.mono ?_
   rintro e w1⟨rfl,aw⟩
   have aO:Hid (Below w.heap.size w w1):=HB.out.trans (aw.mono HB.out.size)
   clear aw
   go_wp2_with fail
   go_roundg(n-(i+1))
   case measure=>omega
   case rel=>exact⟨i+1,by omega,rfl,by go_num,aO⟩
  ·go_wp2_with fail
   go_ret
   exact⟨rfl,HB.out⟩
theorem sE(k many:Int)(hm:many≤100000)(l:List au)(hl:∀x∈l,kj k many x)(M:Nat→Prop)(v:Value)(w:World)(h:ae M w v l)(hT:Tb w):
 Calls Tryz.prog 101 #[v, .func (.func 102) #[] #[]] w fun e w'=>e= .returned (.bool false)∧Below w.heap.size w w':=by
 have HI:=hD (yE k many hm l hl M v w h hT)
 clear h hl hT
 go_enter Tryz.func101,Tryz.ntmps101
 go_wp2_with fail
 refine HI.out.mono ?_
 rintro e w1⟨rfl,aw⟩
 have HB:=hD aw
 clear aw
 go_wp2_with fail
 go_ret
 exact⟨rfl,HB.out⟩
theorem Dm(k many:Int)(hm:many≤100000)(l:List au)(hl:∀x∈l,kj k many x)(WO:l.length≤12)(M:Nat→Prop)(a:Option Addr)(cap:Nat)(w:World)(h:ae M w (.slice a l.length cap) l)(hT:Tb w):
 Calls Tryz.prog 73 #[.agg #[.int .i64 5, .int .i64 0, .string ⟨#[]⟩, .slice a l.length cap]] w fun e w'=>e= .returned (.bool true)∧Below w.heap.size w w':=by
 have YT:Hid (∀W,Below w.heap.size w W→_):=(show∀W,_→_ from fun W hb=>sE k many hm l hl M _ W (h.below hb) (hT.below hb))
 clear h hl hT
 go_enter Tryz.func73,Tryz.ntmps73
 go_wp2_with fail
 refine(YT.out _ ((Below.refl _ _).alloc (Nat.le_refl _) _)).mono ?_
 rintro e w1⟨rfl,aw⟩
 have HB:=hD (aL aw)
 clear aw
 go_wp2_with fail
 go_ret
 exact⟨rfl,HB.out⟩
theorem uf {t:aJ}{many:Int}{v:au}(h:cX t many v)(hm:many≤100000){M:Nat→Prop}{w:World}{u:Value}(hu:bI M w u v)(hT:Tb w):
 Calls Tryz.prog 73 #[u] w fun e w'=>e= .returned (.bool true)∧Below w.heap.size w w':=by
 rcases h with⟨ht,l,rfl,hl,ha⟩|⟨ht,h1⟩
 ·obtain⟨a,cap,rfl,hs⟩:=cj hu
  exact Dm t.of many hm l ha hl M a cap w hs hT
 ·exact wV h1 hm hu hT
theorem mK(t:aJ)(h:aB t=true)(w:World):Calls Tryz.prog 149 #[.agg #[.int .i64 t.kind, .int .i64 t.of]] w fun e w'=>e= .returned (.bool true)∧Below w.heap.size w w':=by
 obtain⟨k,o⟩:=t
 dsimp only at*
 unfold aB at h
 dsimp only at h
 by_cases h5:k=5
 ·subst h5
  simp at h
  obtain⟨h1,h2⟩:=h
  go_enter Tryz.func149,Tryz.ntmps149
  go_wp2
  go_ret
  exact⟨rfl,(Below.refl _ _).alloc (Nat.le_refl _) _⟩
 ·rw[if_neg h5]at h
  simp at h
  obtain⟨h1,h2,h3⟩:=h
  have e5:(k==5)=false:=by simpa using h5
  subst h3
  clear h5
  go_enter Tryz.func149,Tryz.ntmps149
  go_wp2
  go_ret
  exact⟨rfl,(Below.refl _ _).alloc (Nat.le_refl _) _⟩
theorem ug(vk vn:Int)(vs:ByteArray)(a:Option Addr)(n cap:Nat)(k:Int)(h:vk=k∨(vk=0∧(k=3∨k=4)))(w:World):
 Calls Tryz.prog 150 #[.agg #[.int .i64 vk, .int .i64 vn, .string vs, .slice a n cap], .int .i64 k] w fun e w'=>e= .returned (.bool true)∧Below w.heap.size w w':=by
 rcases h with rfl|⟨rfl,rfl|rfl⟩
 ·go_enter Tryz.func150,Tryz.ntmps150
  go_wp2
  go_ret
  exact⟨rfl,(Below.refl _ _).alloc (Nat.le_refl _) _⟩
 ·go_enter Tryz.func150,Tryz.ntmps150
  go_wp2
  go_ret
  exact⟨rfl,(Below.refl _ _).alloc (Nat.le_refl _) _⟩
 ·go_enter Tryz.func150,Tryz.ntmps150
  go_wp2
  go_ret
  exact⟨rfl,(Below.refl _ _).alloc (Nat.le_refl _) _⟩
theorem Fu {k many:Int}{v:au}(h:kj k many v):v.kind=k∨(v.kind=0∧(k=3∨k=4)):=by
 rcases h with⟨rfl,n,rfl,h1,h2⟩|⟨rfl,s,rfl,h1⟩|⟨hk,rfl|⟨n,rfl,h1,h2⟩⟩
 ·exact .inl rfl
 ·exact .inl rfl
 ·exact .inr ⟨rfl,hk⟩
 ·exact .inl rfl
theorem JF {many:Int}{v:au}(k o:Int)(p:Nat)(h:kj o many v){M:Nat→Prop}{w:World}{u:Value}(hu:bI M w u v)(hp:w.heap[p]? =some (.cells #[.int .i64 k, .int .i64 o] 140 (0,0))):
 Calls Tryz.prog 151 #[u, .pointer (some ⟨p,0,none⟩)] w fun e w'=>e= .returned (.bool false)∧Below w.heap.size w w':=by
 have ho:=Fu h
 obtain⟨vk,vn,vs,vl⟩:=v
 obtain⟨a,cap,rfl,_⟩:=cj hu
 have HO:Hid (∀W,_):=(show∀W,_ from fun W=>ug vk vn vs a vl.length cap o ho W)
 obtain⟨c0,c1⟩:=af hp
 have gy:p<w.heap.size:=(Array.getElem?_eq_some_iff.1 hp).1
 have Wk:p≠w.heap.size:=by omega
 clear hu h ho hp
 go_enter Tryz.func151,Tryz.ntmps151
 go_wp2_with fail
 refine(HO.out _).mono ?_
 rintro e w1⟨rfl,aw⟩
 have HB:=hD (aL aw)
 clear aw
 go_wp2_with fail
 go_ret
 exact⟨rfl,HB.out⟩
theorem yF(k o many:Int)(p:Nat)(l:List au)(hl:∀x∈l,kj o many x)(M:Nat→Prop)(v:Value)(w:World)(h:ae M w v l)(hp:w.heap[p]? =some (.cells #[.int .i64 k, .int .i64 o] 140 (0,0))):
 Calls Tryz.prog 130 #[v, .func (.func 151) #[] #[.pointer (some ⟨p,0,none⟩)]] w fun e w'=>e= .returned (.int .i64 (-1))∧Below w.heap.size w w':=by
 have HC:Hid (∀(i:Nat)(k n:Int)(s:ByteArray)(ll:List au),l[i]? =some (.mk k n s ll)→_):=(show∀(i:Nat)(k n:Int)(s:ByteArray)(ll:List au),_→_ from fun i k n s ll hx=>eL h hx)
 have gy:p<w.heap.size:=(Array.getElem?_eq_some_iff.1 hp).1
 have HN:Hid (∀W(x:au)u,Below w.heap.size w W→x∈l→bI M W u x→_):=(show∀W(x:au)u,_→_→_→_ from fun W x u hb hx hu=>JF k o p (hl x hx) hu ((hb.block p gy).trans hp))
 obtain⟨a,bu,rfl,cq,po,_⟩:=h.open_
 clear h hl hp gy
 generalize hn:l.length=n at*
 have dZ:=hD hn;clear hn
 go_enter Tryz.func130,Tryz.ntmps130
 go_wp2_with fail
 go_loopg [5,8]n(fun g _ iv wr=>∃k:Nat,k≤n∧g=n-k∧iv= .int .i64 k∧Hid (Below w.heap.size w wr))
 case atStart=>exact⟨0,Nat.zero_le _,rfl,rfl,(show Below _ _ _ from Below.refl _ _)⟩
 case round=>
  obtain⟨i,hi,rfl,rfl,HB⟩:=hrel
  by_cases aT:i<n
  ·obtain⟨⟨xk,xn,xs,xl⟩,hx⟩:∃x,l[i]? =some x:=⟨_,List.getElem?_eq_getElem (by rw[dZ.out];exact aT)⟩
   obtain⟨b,off,cap,a',c',hv,hb,_,_,ao⟩:=HC.out i xk xn xs xl hx
   obtain⟨rfl,rfl⟩:a=some ⟨b,off,none⟩∧bu=cap:=by simpa using hv
   obtain⟨⟨g0,g1,g2,g3⟩,ek⟩:=ao wr HB.out
   have oW:=hD (HN.out wr _ _ HB.out (List.mem_of_getElem? hx) ek)
   clear hv ao ek hx
   go_wp2_with fail
   refine oW.out.mono ?_
   rintro e w1⟨rfl,aw⟩
   have aO:Hid (Below w.heap.size w w1):=HB.out.trans (aw.mono HB.out.size)
   clear aw
   go_wp2_with fail
   go_roundg(n-(i+1))
   case measure=>omega
   case rel=>exact⟨i+1,by omega,rfl,by go_num,aO⟩
  ·go_wp2_with fail
   go_ret
   exact⟨rfl,HB.out⟩
theorem sF(k o many:Int)(p:Nat)(l:List au)(hl:∀x∈l,kj o many x)(M:Nat→Prop)(v:Value)(w:World)(h:ae M w v l)(hp:w.heap[p]? =some (.cells #[.int .i64 k, .int .i64 o] 140 (0,0))):
 Calls Tryz.prog 101 #[v, .func (.func 151) #[] #[.pointer (some ⟨p,0,none⟩)]] w fun e w'=>e= .returned (.bool false)∧Below w.heap.size w w':=by
 have HI:=hD (yF k o many p l hl M v w h hp)
 clear h hl hp
 go_enter Tryz.func101,Tryz.ntmps101
 go_wp2_with fail
 refine HI.out.mono ?_
 rintro e w1⟨rfl,aw⟩
 have HB:=hD aw
 clear aw
 go_wp2_with fail
 go_ret
 exact⟨rfl,HB.out⟩
theorem JG {t:aJ}{many:Int}{v:au}(h:cX t many v):v.kind=t.kind∨(v.kind=0∧(t.kind=3∨t.kind=4)):=by
 rcases h with⟨h5,l,rfl,_⟩|⟨_,h1⟩
 ·exact .inl h5.symm
 ·exact Fu h1
theorem Dn {t:aJ}{many:Int}{v:au}(h:cX t many v):∀x∈v.list,kj t.of many x:=by
 rcases h with⟨h5,l,rfl,_,ha⟩|⟨_,h1⟩
 ·exact ha
 ·have:=(jk h1 (.inl rfl)).1.1
  rw[this];intro x hx;cases hx
theorem JH {t:aJ}{many:Int}{v:au}(h:cX t many v)(ht:aB t=true)(hm:many≤100000){M:Nat→Prop}{w:World}{u:Value}(hu:bI M w u v)(hT:Tb w):
 Calls Tryz.prog 133 #[u, .agg #[.int .i64 t.kind, .int .i64 t.of]] w fun e w'=>e= .returned (.bool true)∧Below w.heap.size w w':=by
 have HR:Hid (∀W,Below w.heap.size w W→_):=(show∀W,_→_ from fun W hb=>uf h hm (hu.below hb) (hT.below hb))
 have HT:Hid (∀W,_):=(show∀W,_ from fun W=>mK t ht W)
 have Uk:=JG h
 have Su:=Dn h
 obtain⟨vk,vn,vs,vl⟩:=v
 obtain⟨a,cap,rfl,hs⟩:=cj hu
 obtain⟨tk,zT⟩:=t
 dsimp only[au.kind,au.list]at*
 have HO:Hid (∀W,_):=(show∀W,_ from fun W=>ug vk vn vs a vl.length cap tk Uk W)
 have YT:Hid (∀W,Bx w [.cells #[.int .i64 vk, .int .i64 vn, .string vs, .slice a vl.length cap] 134 (0,0), .cells #[.int .i64 tk, .int .i64 zT] 140 (0,0)] W→_):=(show∀W,_→_ from fun W hb=>sF tk zT many (w.heap.size+1) vl Su M _ W (hs.below hb.1) (hb.bh rfl))
 clear h hu hT Uk Su ht hs
 go_enter Tryz.func133,Tryz.ntmps133
 go_wp2_with fail
 refine(HR.out _ (Bx.eO w _ _).1).mono ?_
 rintro e w1⟨rfl,aw⟩
 have HB:=hD ((Bx.eO w (.cells #[.int .i64 vk, .int .i64 vn, .string vs, .slice a vl.length cap] 134 (0,0)) (.cells #[.int .i64 tk, .int .i64 zT] 140 (0,0))).below aw)
 obtain⟨c0,c1⟩:=af (HB.out.bh rfl)
 clear aw
 go_wp2_with fail
 refine(HT.out _).mono ?_
 rintro e w2⟨rfl,aM⟩
 have aA:=hD (HB.out.below aM)
 obtain⟨d0,d1⟩:=af (aA.out.bh rfl)
 obtain⟨e0,e1,e2,e3⟩:=ab (aA.out.bJ rfl)
 clear aM c0 c1
 go_wp2_with fail
 refine(HO.out _).mono ?_
 rintro e w3⟨rfl,bP⟩
 have bO:=hD (aA.out.below bP)
 obtain⟨f0,f1,f2,f3⟩:=ab (bO.out.bJ rfl)
 clear bP d0 d1 e0 e1 e2 e3
 go_wp2_with fail
 refine(YT.out _ bO.out).mono ?_
 rintro e w4⟨rfl,eS⟩
 have fJ:=hD (bO.out.below eS)
 clear eS
 go_wp2_with fail
 go_ret
 exact⟨rfl,fJ.out.1⟩
theorem JI(t:aJ)(ht:aB t=true)(M:Nat→Prop)(w:World):Calls Tryz.prog 165 #[.agg #[.int .i64 t.kind, .int .i64 t.of]] w (aF w fun v w'=>bI M w' v (iY t)):=by
 have HT:Hid (∀W,_):=(show∀W,_ from fun W=>mK t ht W)
 by_cases zw:t.kind=3∨t.kind=4
 ·have HZ:Hid (iY t= .mk 0 0 mu []):=(show _=_ by unfold iY;rw[if_pos zw])
  obtain⟨k,o⟩:=t
  dsimp only at*
  clear ht
  rcases zw with rfl|rfl
  all_goals
   go_enter Tryz.func165,Tryz.ntmps165
   go_wp2_with fail
   refine(HT.out _).mono ?_
   rintro e w1⟨rfl,aw⟩
   have HB:=hD ((Bx.eO w (.cells #[.int .i64 _, .int .i64 o] 140 (0,0)) (.cells #[.int .i64 0, .int .i64 0, .string ⟨#[]⟩, .slice none 0 0] 134 (0,0))).below aw)
   obtain⟨c0,c1⟩:=af (HB.out.bJ rfl)
   obtain⟨q0,q1,q2,q3⟩:=ab (HB.out.bh rfl)
   have f0:=aa (HB.out.bh rfl) 0
   have f1:=aa (HB.out.bh rfl) 1
   have f2:=aa (HB.out.bh rfl) 2
   have f3:=aa (HB.out.bh rfl) 3
   clear aw
   go_wp2_with fail
   refine bodyPost_ret (v:= .agg #[.int .i64 0, .int .i64 0, .string ⟨#[]⟩, .slice none 0 0]) (by simp[results,Tryz.results165,go_sem,q0,q1,q2,q3]) rfl ⟨_,rfl,(by rw[HZ.out];exact pO _ _ _ jV),?_⟩
   exact(((HB.out.1.setCell (by simp) _).setCell (by simp) _).setCell (by simp) _).setCell (by simp) _
 ·have HZ:Hid (iY t= .mk t.kind 0 mu []):=(show _=_ by unfold iY;rw[if_neg zw])
  obtain⟨k,o⟩:=t
  dsimp only at*
  clear ht
  have e3:(k==3)=false:=by simp;omega
  have e4:(k==4)=false:=by simp;omega
  clear zw
  go_enter Tryz.func165,Tryz.ntmps165
  go_wp2_with fail
  refine(HT.out _).mono ?_
  rintro e w1⟨rfl,aw⟩
  have HB:=hD ((Bx.eO w (.cells #[.int .i64 k, .int .i64 o] 140 (0,0)) (.cells #[.int .i64 0, .int .i64 0, .string ⟨#[]⟩, .slice none 0 0] 134 (0,0))).below aw)
  obtain⟨c0,c1⟩:=af (HB.out.bJ rfl)
  obtain⟨q0,q1,q2,q3⟩:=ab (HB.out.bh rfl)
  have f0:=aa (HB.out.bh rfl) 0
  have f1:=aa (HB.out.bh rfl) 1
  have f2:=aa (HB.out.bh rfl) 2
  have f3:=aa (HB.out.bh rfl) 3
  clear aw
  go_wp2_with fail
  refine bodyPost_ret (v:= .agg #[.int .i64 k, .int .i64 0, .string ⟨#[]⟩, .slice none 0 0]) (by simp[results,Tryz.results165,go_sem,q0,q1,q2,q3]) rfl ⟨_,rfl,(by rw[HZ.out];exact pO _ _ _ jV),?_⟩
  exact(((HB.out.1.setCell (by simp) _).setCell (by simp) _).setCell (by simp) _).setCell (by simp) _
theorem jz:(Tryz.prog.info? 3).map (fun i=>(i.zero,i.size,i.bytes))=some (some (.int .i64 0),1,8):=by kernel_rfl
theorem M1 {M:Nat→Prop}{w:World}(hM:Bd M w)(n:Int):ae (α:=Int) M (w.alloc (.cells #[.int .i64 n] 3)) (.slice (some ⟨w.heap.size,0,none⟩) 1 1) [n]:=by
 refine⟨[[.int .i64 n]],?_,rfl,?_⟩
 ·refine⟨rfl,some ⟨w.heap.size,0,none⟩,1,rfl,Nat.le_refl _,by unfold maxLen;omega,fun _=>⟨w.heap.size,0,rfl,fun h=>by have:=hM _ h;omega,by simp,?_⟩⟩
  intro j u hu
  cases j with
  |zero=>
   simp at hu;subst hu
   exact cell_of_heap (heap_alloc_new w _) rfl
  |succ j=>simp at hu
 ·intro i cs x hc hx
  cases i with
  |zero=>simp at hc hx;subst hc hx;rfl
  |succ i=>simp at hc
theorem Dp {F:Nat→Prop}(w:World)(o:Obj)(cs:Array Value)(t:TypeId)(size:Nat)(hs:cs.size=size)(hF:F (w.heap.size+1)):ba F ((w.alloc o).alloc (.cells cs t)) size (.slice (some ⟨w.heap.size+1,0,none⟩) 1 1) 1 cs.toList:=by
 have h:=ct (F:=F) (w.alloc o) cs t size hs (by simpa using hF)
 simpa using h
theorem AB {k:Int}{l:List au}{i:Nat}{x:au}(hx:l[i]? =some x):((l.take (i+1)).filter fun y=>decide (y.kind=k)).map au.num=((l.take i).filter fun y=>decide (y.kind=k)).map au.num++if x.kind=k then[x.num]else[]:=by
 rw[List.take_add_one,hx]
 simp only[Option.toList,List.filter_append,List.map_append]
 by_cases h:x.kind=k<;>simp[h]
theorem uh {t:aJ}{many:Int}{v:au}(j:Int)(hj:j=3∨j=4)(h:cX t many v)(hm:many≤100000){M:Nat→Prop}{w:World}(hM:Bd M w){u:Value}(hu:bI M w u v)(hT:Tb w):
 Calls Tryz.prog 77 #[u, .int .i64 j] w (aF w fun r w'=>ae M w' r (bT j v)):=by
 have HR:Hid (∀W,Below w.heap.size w W→_):=(show∀W,_→_ from fun W hb=>uf h hm (hu.below hb) (hT.below hb))
 obtain⟨i0,dF,dM,db,dL⟩:=info_parts jz
 have YU:v.list.length≤12:=by
  rcases h with⟨h5,l,rfl,hl,_⟩|⟨_,h1⟩
  ·exact hl
  ·rw[(jk h1 hj).1.1];simp
 obtain⟨vk,vn,vs,vl⟩:=v
 obtain⟨a,cap,rfl,hs⟩:=cj hu
 have HC:Hid (∀(i:Nat)(k n:Int)(s:ByteArray)(ll:List au),vl[i]? =some (.mk k n s ll)→_):=(show∀(i:Nat)(k n:Int)(s:ByteArray)(ll:List au),_→_ from fun i k n s ll hx=>eL hs hx)
 have cq:vl.length≤cap∧cap≤9223372036854775807:=by obtain⟨_,_,e,h1,h2,_⟩:=hs.open_;cases e;exact⟨h1,h2⟩
 obtain⟨Lx,Ly⟩:=cq
 dsimp only[au.list]at YU
 clear h hu hT hs
 by_cases hk:vk=j
 ·subst hk
  have HV:Hid (bT vk (.mk vk vn vs vl)=[vn]):=(show _=_ by simp[bT,au.kind,au.num])
  clear hj
  go_enter Tryz.func77,Tryz.ntmps77
  go_wp2_with fail
  refine(HR.out _ ((Below.refl _ _).alloc (Nat.le_refl _) _)).mono ?_
  rintro e w1⟨rfl,aw⟩
  obtain⟨g0,g1,g2,g3⟩:=ab (boxed aw)
  have HB:=hD (aL aw)
  clear aw
  go_wp2_with fail
  go_ret
  exact⟨_,rfl,by rw[HV.out];exact M1 (hM.below HB.out) vn,HB.out.alloc HB.out.size _⟩
 ·have hkf:(vk==j)=false:=by simpa using hk
  have HV:Hid (bT j (.mk vk vn vs vl)=(vl.filter fun y=>decide (y.kind=j)).map au.num):=(show _=_ by simp[bT,au.kind,au.list,hk])
  clear hk
  have IS:Hid (∀i,M i→i<w.heap.size+1):=(show∀i,_→_ from fun i h=>Nat.lt_succ_of_lt (hM i h))
  go_enter Tryz.func77,Tryz.ntmps77
  go_wp2_with fail
  refine(HR.out _ ((Below.refl _ _).alloc (Nat.le_refl _) _)).mono ?_
  rintro e w1⟨rfl,aw⟩
  obtain⟨g0,g1,g2,g3⟩:=ab (boxed aw)
  have HB:=hD (aL aw)
  have YV:w.heap.size<w1.heap.size:=by have:=aw.size;simp at this;omega
  clear aw
  generalize hn:vl.length=n at*
  have dZ:=hD hn;clear hn
  go_wp2_with fail
  go_loopg [5,7,21]n(fun g r5 _ iv wr=>∃(i m c1:Nat)(a1:Option Addr)(xs:List Int),i≤n∧g=n-i∧iv= .int .i64 i∧r5= .slice a1 m c1∧m≤i∧Hid (xs.length=m)∧Hid (xs=((vl.take i).filter fun y=>decide (y.kind=j)).map au.num)∧Hid (aK M (w.heap.size+1) 3 wr (.slice a1 m c1) xs)∧Hid (Below w.heap.size w wr)∧w.heap.size<wr.heap.size)
  case atStart=>exact⟨0,0,0,none,[],Nat.zero_le _,rfl,rfl,rfl,Nat.le_refl _,(show _=_ from rfl),(show _=_ by simp),(show aK _ _ _ _ _ _ from aK.nil _ _ _ _),HB,YV⟩
  case round=>
   obtain⟨i,m,c1,a1,xs,hi,rfl,rfl,rfl,WQ,HL,HX,HA,aA,hwz⟩:=hrel
   by_cases aT:i<n
   ·obtain⟨⟨xk,xn,xs',xl⟩,hx⟩:∃x,vl[i]? =some x:=⟨_,List.getElem?_eq_getElem (by rw[dZ.out];exact aT)⟩
    obtain⟨b,off,dE,a',c',hv,hb,_,_,ao⟩:=HC.out i xk xn xs' xl hx
    obtain⟨rfl,rfl⟩:a=some ⟨b,off,none⟩∧cap=dE:=by simpa using hv
    obtain⟨⟨q0,q1,q2,q3⟩,_⟩:=ao wr aA.out
    have HF:Hid (((vl.take (i+1)).filter fun y=>decide (y.kind=j)).map au.num=((vl.take i).filter fun y=>decide (y.kind=j)).map au.num++if xk=j then[xn]else[]):=(show _=_ from AB hx)
    clear hv ao hx
    by_cases Sv:xk=j
    ·have Ul:(xk==j)=true:=by simpa using Sv
     have YW:=hD Sv
     clear Sv
     go_wp2_with(at_builtin
                 go_loud(refine aQ (α:=Int) rfl _ _ _ rfl M (w.heap.size+1) 3 i0 _ 8 Tryz.underlying27 dF dM db dL rfl (by decide) (.slice a1 m c1) xs rfl ((HA.out.alloc _).alloc _) (fun _=>True) _ [.int .i64 xn] xn rfl (Dp wr _ #[.int .i64 xn] _ 1 rfl trivial) (show _=_ from rfl) (by rw[HL.out];unfold maxLen;omega) (by rw[HL.out];omega) (by simp;omega) ?_)
                 rw[HL.out]
                 intro a2 c2 w2 bj dj aM
                 have cw:=hD bj
                 have bO:=hD aM
                 clear bj dj aM)
     go_roundg(n-(i+1))
     case measure=>omega
     case rel=>
      refine⟨i+1,m+1,c2,a2,xs++[xn],by omega,rfl,by go_num,rfl,by omega,(show _=_ by simp[HL.out]),(show _=_ by rw[HF.out,if_pos YW.out,HX.out]),cw,(show Below _ _ _ from(((aA.out.alloc (by omega) _).alloc (by simp;omega) _).trans (bO.out.mono (by omega)))),by have:=bO.out.size;simp at this;omega⟩
    ·have Ul:(xk==j)=false:=by simpa using Sv
     have YW:=hD Sv
     clear Sv
     go_wp2_with fail
     go_roundg(n-(i+1))
     case measure=>omega
     case rel=>
      refine⟨i+1,m,c1,a1,xs,by omega,rfl,by go_num,rfl,by omega,HL,(show _=_ by rw[HF.out,if_neg YW.out,HX.out];simp),(show aK _ _ _ _ _ _ from HA.out.alloc _),(show Below _ _ _ from aA.out.alloc (by omega) _),by simp;omega⟩
   ·go_wp2_with fail
    go_ret
    have jP:i=n:=by omega
    refine⟨_,rfl,?_,aA.out⟩
    rw[HV.out]
    have h1:=HA.out.slice IS.out
    rw[HX.out,jP,←dZ.out,List.take_length]at h1
    exact h1
theorem AD {t:aJ}{many:Int}{v:au}(h:cX t many v)(hm:many≤100000){M:Nat→Prop}{w:World}(hM:Bd M w){u:Value}(hu:bI M w u v)(hT:Tb w):
 Calls Tryz.prog 54 #[u] w (aF w fun r w'=>ae M w' r (bT 3 v)):=by
 have HN:Hid (∀W,Below w.heap.size w W→_):=(show∀W,_→_ from fun W hb=>uh 3 (.inl rfl) h hm (hM.below hb) (hu.below hb) (hT.below hb))
 obtain⟨vk,vn,vs,vl⟩:=v
 obtain⟨a,cap,rfl,_⟩:=cj hu
 clear h hu hT
 go_enter Tryz.func54,Tryz.ntmps54
 go_wp2_with fail
 refine(HN.out _ ((Below.refl _ _).alloc (Nat.le_refl _) _)).mono ?_
 rintro e w1⟨r,rfl,hs,aw⟩
 have HB:=hD (aL aw)
 have HS:=hD hs
 clear aw hs
 go_wp2_with fail
 go_ret
 exact⟨_,rfl,HS.out,HB.out⟩
theorem GL {t:aJ}{many:Int}{v:au}(h:cX t many v)(hm:many≤100000){M:Nat→Prop}{w:World}(hM:Bd M w){u:Value}(hu:bI M w u v)(hT:Tb w):
 Calls Tryz.prog 104 #[u] w (aF w fun r w'=>ae M w' r (bT 4 v)):=by
 have HN:Hid (∀W,Below w.heap.size w W→_):=(show∀W,_→_ from fun W hb=>uh 4 (.inr rfl) h hm (hM.below hb) (hu.below hb) (hT.below hb))
 obtain⟨vk,vn,vs,vl⟩:=v
 obtain⟨a,cap,rfl,_⟩:=cj hu
 clear h hu hT
 go_enter Tryz.func104,Tryz.ntmps104
 go_wp2_with fail
 refine(HN.out _ ((Below.refl _ _).alloc (Nat.le_refl _) _)).mono ?_
 rintro e w1⟨r,rfl,hs,aw⟩
 have HB:=hD (aL aw)
 have HS:=hD hs
 clear aw hs
 go_wp2_with fail
 go_ret
 exact⟨_,rfl,HS.out,HB.out⟩
def rR:Nat→au→Prop
 |0,v=>v.list=[]
 |h+1,v=>v.list.length≤12∧∀x∈v.list,rR h x
theorem wW {k many:Int}{v:au}(h:kj k many v):rR 0 v:=(jk h (.inl rfl)).1.1
theorem lr {t:aJ}{many:Int}{v:au}(h:cX t many v):rR 1 v:=by
 rcases h with⟨h5,l,rfl,hl,ha⟩|⟨_,h1⟩
 ·exact⟨hl,fun x hx=>wW (ha x hx)⟩
 ·have:=wW h1
  unfold rR at this
  exact⟨by rw[this];simp,by rw[this];intro x hx;cases hx⟩
def ou(f:Nat)(l:List au):Prop:=∀(M:Nat→Prop)(w:World)(v:Value),Bd M w→ae M w v l→Calls Tryz.prog f #[v] w (aF w fun v' w'=>ae M w' v' l)
def lZ(f:Nat)(x:au):Prop:=∀(M:Nat→Prop)(w:World)(v:Value),Bd M w→bI M w v x→Calls Tryz.prog f #[v] w (aF w fun v' w'=>bI M w' v' x)
theorem gK {M:Nat→Prop}{w:World}{k n:Int}{s:ByteArray}{l:List au}{a:Option Addr}{cap:Nat}(h:ae M w (.slice a l.length cap) l)(hs:s.size≤maxLen):az.rep (α:=au) M w [.int .i64 k, .int .i64 n, .string s, .slice a l.length cap] (.mk k n s l):=eV.iff.2 ⟨_,rfl,h,hs⟩
theorem ui {M:Nat→Prop}{base:Nat}{e:TypeId}{w:World}{v:Value}{xs:List au}(h:aK M base e w v xs)(hM:Bd M w):Bd (bc v M) w:=fun i hi=>by
 rcases hi with hi|hi
 ·exact hM i hi
 ·exact(h.dO i hi).2
theorem iw {F:Nat→Prop}(w:World)(g:Nat)(cs:Array Value)(t:TypeId)(size:Nat)(hs:cs.size=size)(hg:w.heap.size=g)(hF:F g):ba F (w.alloc (.cells cs t)) size (.slice (some ⟨g,0,none⟩) 1 1) 1 cs.toList:=by
 subst hg
 exact ct w cs t size hs hF
theorem JJ {M:Nat→Prop}{base:Nat}{e:TypeId}{w wr W:World}{v:Value}{xs:List au}{X:Nat}(h:aK M base e wr v xs)(Um:w.heap.size≤base)(hb:Below w.heap.size w W)(hX:w.heap.size≤X):Ev M w (orM (bc v M) X) W:=
 ⟨ag.aj hb,fun i hi=>by
   rcases hi with(hi|hi)|hi
   ·exact .inl hi
   ·exact .inr (Nat.le_trans Um (h.dO i hi).1)
   ·exact .inr (by omega)⟩
theorem jg(l:List au)(hl:l.length≤12)(jP:∀x∈l,ou 204 x.list):ou 204 l:=by
 intro M w v hM hs
 obtain⟨i0,dF,dM,db,dL⟩:=info_parts fN
 have HC:Hid (∀(i:Nat)(k n:Int)(s:ByteArray)(ll:List au),l[i]? =some (.mk k n s ll)→_):=(show∀(i:Nat)(k n:Int)(s:ByteArray)(ll:List au),_→_ from fun i k n s ll hx=>eL hs hx)
 have FX:Hid (∀x∈l,ou 204 x.list):=(show _ from jP)
 obtain⟨a,bu,rfl,cq,po,_⟩:=hs.open_
 clear hs jP
 generalize hn:l.length=n at*
 have dZ:=hD hn;clear hn
 go_enter Tryz.func204,Tryz.ntmps204
 go_wp2_with fail
 go_loopg [3,5,8]n(fun g r3 _ iv wr=>∃(i c1:Nat)(a1:Option Addr),i≤n∧g=n-i∧iv= .int .i64 i∧r3= .slice a1 i c1∧Hid (aK M w.heap.size 134 wr (.slice a1 i c1) (l.take i))∧Hid (Below w.heap.size w wr))
 case atStart=>exact⟨0,0,none,Nat.zero_le _,rfl,rfl,rfl,(show aK _ _ _ _ _ _ from aK.nil _ _ _ _),(show Below _ _ _ from Below.refl _ _)⟩
 case round=>
  obtain⟨i,c1,a1,hi,rfl,rfl,rfl,HA,HB⟩:=hrel
  by_cases aT:i<n
  ·obtain⟨⟨xk,xn,xs,xl⟩,hx⟩:∃x,l[i]? =some x:=⟨_,List.getElem?_eq_getElem (by rw[dZ.out];exact aT)⟩
   obtain⟨b,off,cap,a',c',hv,hb,aU,fH,ao⟩:=HC.out i xk xn xs xl hx
   obtain⟨rfl,rfl⟩:a=some ⟨b,off,none⟩∧bu=cap:=by simpa using hv
   obtain⟨⟨q0,q1,q2,q3⟩,_⟩:=ao wr HB.out
   have nP:Hid ((l.take i).length=i):=(show _=_ by have:=dZ.out;rw[List.length_take];omega)
   have nf:Hid (l.take (i+1)=l.take i++[.mk xk xn xs xl]):=(show _=_ by rw[List.take_add_one,hx];rfl)
   have cB:=HB.out.size
   have aS:Hid (∀o,Calls Tryz.prog 204 #[.slice a' xl.length c'] (wr.alloc o) (aF (wr.alloc o) fun v' w'=>ae (orM (bc (.slice a1 i c1) M) wr.heap.size) w' v' xl)):=(show∀o,_ from fun o=>by
    refine FX.out _ (List.mem_of_getElem? hx) _ _ _ (fun j hj=> ?_) (aU.ev (JJ HA.out (Nat.le_refl _) (HB.out.alloc cB o) cB))
    rcases hj with hj|hj
    ·have:=ui HA.out (hM.below HB.out) j hj;simp;omega
    ·simp;omega)
   have CA:=hD fH;clear fH
   clear hv ao hx aU
   go_wp2_with fail
   refine(aS.out _).mono ?_
   rintro e w1⟨_,rfl,dc,aw⟩
   obtain⟨za,zc,rfl,_⟩:=dc.open_
   have HX:Hid (w1.heap[wr.heap.size]? =some (.cells #[.int .i64 xk, .int .i64 xn, .string xs, .slice a' xl.length c'] 134 (0,0))):=(show _=_ from boxed aw)
   obtain⟨g0,g1,g2,g3⟩:=ab HX.out
   have f3:=aa HX.out 3
   have s1:=aw.size
   simp only[World.size_alloc]at s1
   have aO:=hD (aL aw)
   have aA:Hid (Below wr.heap.size wr (w1.setCell ⟨wr.heap.size,3,none⟩ (.slice za xl.length zc))):=(show Below _ _ _ from aO.out.setCell (Nat.le_refl _) _)
   have pd:Hid (ae (bc (.slice a1 i c1) M) (w1.setCell ⟨wr.heap.size,3,none⟩ (.slice za xl.length zc)) (.slice za xl.length zc) xl):=(show ae _ _ _ _ from dc.ev ((Ev.ee w1 fun i h=> .inl h).setCell (.inl (.inr rfl)) _))
   have lS:=hD (HA.out.below aA.out)
   clear dc aw
   go_wp2_with(at_builtin
               go_loud(refine aQ (α:=au) rfl _ _ _ rfl M w.heap.size 134 i0 _ 56 Tryz.underlying54 dF dM db dL rfl (by decide) (.slice a1 i c1) (l.take i) rfl (lS.out.alloc _) (fun _=>True) _ _ (.mk xk xn xs xl) rfl (iw _ _ _ _ 4 rfl (by simp[World.setCell]) trivial) (gK (pd.out.ev ((Ev.refl _ _).alloc _)) CA.out) (by rw[nP.out];unfold maxLen;omega) (by rw[nP.out];omega) (by simp;omega) ?_)
               rw[nP.out,←nf.out]
               intro a2 c2 w2 bj dj aM
               have cw:=hD bj
               have bO:=hD aM
               clear bj dj aM)
   go_roundg(n-(i+1))
   case measure=>omega
   case rel=>
    refine⟨i+1,c2,a2,by omega,rfl,by go_num,rfl,cw,(show Below _ _ _ from(HB.out.trans (aA.out.mono cB)).alloc (by simp;omega) _|>.trans bO.out)⟩
  ·go_wp2_with fail
   go_ret
   refine⟨_,rfl,?_,HB.out⟩
   have h1:=HA.out.slice hM
   rw[List.take_of_length_le (by rw[dZ.out];omega)]at h1
   have h2:=h1.open_
   obtain⟨_,_,e,_⟩:=h2
   exact h1
theorem lu:∀(h:Nat)(l:List au),l.length≤12→(∀x∈l,rR h x)→ou 204 l
 |0,l,hl,hx=>jg l hl fun x hm=>by
  rw[show x.list=[]from hx x hm]
  exact jg [] (by simp) fun y hy=>by cases hy
 |h+1,l,hl,hx=>jg l hl fun x hm=>lu h x.list (hx x hm).1 (hx x hm).2
theorem eF {fs:List ak}{many:Int}{vs:List au}(h:aW fs many vs):∀v∈vs,∃f∈fs,cX f.type many v:=by
 intro v hv
 obtain⟨i,hi⟩:=List.getElem?_of_mem hv
 have hl:=(List.getElem?_eq_some_iff.1 hi).1
 obtain⟨f,hf⟩:∃f,fs[i]? =some f:=⟨_,List.getElem?_eq_getElem (by rw[←h.1];exact hl)⟩
 exact⟨f,List.mem_of_getElem? hf,h.2 i f v hf hi⟩
theorem jA {fs:List ak}{many:Int}{vs:List au}(h:aW fs many vs){us:List au}(hu:∀x∈us,x∈vs)(hl:us.length≤12):ou 204 us:=
 lu 1 us hl fun x hx=>by
  obtain⟨f,_,hv⟩:=eF h x (hu x hx)
  exact lr hv
def fD(k n:Int)(s:ByteArray)(v:Value):Obj:= .cells #[.int .i64 k, .int .i64 n, .string s,v] 134 (0,0)
theorem yG {M:Nat→Prop}{w:World}{n:Nat}(hM:Bd M w):∀i,eP M w n i→i<w.heap.size+n:=fun i hi=>by
 rcases hi with hi|hi
 ·have:=hM i hi;omega
 ·exact hi.2
theorem pU(x:au)(hl:x.list.length≤12)(jP:∀y∈x.list,lZ 240 y):lZ 240 x:=by
 intro M w v hM hu
 obtain⟨i0,dF,dM,db,dL⟩:=info_parts fN
 obtain⟨vk,vn,vs,l⟩:=x
 have dk:vs.size≤maxLen:=by obtain⟨cs,_,hr⟩:=hu;obtain⟨_,_,_,h⟩:=eV.iff.1 hr;exact h
 obtain⟨a,bu,rfl,hs⟩:=cj hu
 dsimp only[au.list]at*
 have HC:Hid (∀(i:Nat)(k n:Int)(s:ByteArray)(ll:List au),l[i]? =some (.mk k n s ll)→_):=(show∀(i:Nat)(k n:Int)(s:ByteArray)(ll:List au),_→_ from fun i k n s ll hx=>eL hs hx)
 have FX:Hid (∀y∈l,lZ 240 y):=(show _ from jP)
 have cq:l.length≤bu∧bu≤9223372036854775807:=by obtain⟨_,_,e,h1,h2,_⟩:=hs.open_;cases e;exact⟨h1,h2⟩
 obtain⟨Lx,Ly⟩:=cq
 have IW:=hD dk;clear dk
 clear hs jP hu
 generalize hn:l.length=n at*
 have dZ:=hD hn;clear hn
 go_enter Tryz.func240,Tryz.ntmps240
 go_wp2_with fail
 go_loopg [3,5,9]n(fun g r3 _ iv wr=>∃(i c1:Nat)(a1:Option Addr),i≤n∧g=n-i∧iv= .int .i64 i∧r3= .slice a1 i c1∧Hid (aK (eP M w 2) (w.heap.size+2) 134 wr (.slice a1 i c1) (l.take i))∧Hid (Bx w [fD vk vn vs (.slice a n bu),fD 0 0 ⟨#[]⟩ (.slice none 0 0)] wr))
 case atStart=>exact⟨0,0,none,Nat.zero_le _,rfl,rfl,rfl,(show aK _ _ _ _ _ _ from aK.nil _ _ _ _),(show Bx _ _ _ from Bx.eO w _ _)⟩
 case round=>
  obtain⟨i,c1,a1,hi,rfl,rfl,rfl,HA,HB⟩:=hrel
  have cB:w.heap.size+2≤wr.heap.size:=HB.out.b8
  by_cases aT:i<n
  ·obtain⟨⟨xk,xn,xs,xl⟩,hx⟩:∃x,l[i]? =some x:=⟨_,List.getElem?_eq_getElem (by rw[dZ.out];exact aT)⟩
   obtain⟨b,off,cap,a',c',hv,hb,aU,fH,ao⟩:=HC.out i xk xn xs xl hx
   obtain⟨rfl,rfl⟩:a=some ⟨b,off,none⟩∧bu=cap:=by simpa using hv
   obtain⟨⟨q0,q1,q2,q3⟩,_⟩:=ao wr HB.out.1
   have nP:Hid ((l.take i).length=i):=(show _=_ by have:=dZ.out;rw[List.length_take];omega)
   have nf:Hid (l.take (i+1)=l.take i++[.mk xk xn xs xl]):=(show _=_ by rw[List.take_add_one,hx];rfl)
   have aS:Hid (∀o,Calls Tryz.prog 240 #[.agg #[.int .i64 xk, .int .i64 xn, .string xs, .slice a' xl.length c']] (wr.alloc o) (aF (wr.alloc o) fun v' w'=>bI (bc (.slice a1 i c1) (eP M w 2)) w' v' (au.mk xk xn xs xl))):=(show∀o,_ from fun o=>by
    refine FX.out _ (List.mem_of_getElem? hx) _ _ _ (fun j hj=> ?_) ⟨_,rfl,?_⟩
    ·have:=ui HA.out (dS hM cB) j hj;simp;omega
    ·refine gK (aU.ev ⟨ag.aj (HB.out.alloc o).1,fun j hj=> ?_⟩) fH
     rcases hj with(hj|hj)|hj
     ·exact .inl hj
     ·exact .inr hj.1
     ·have:=(HA.out.dO j hj).1;exact .inr (by omega))
   clear hv ao hx aU
   go_wp2_with fail
   refine(aS.out _).mono ?_
   rintro e w1⟨_,rfl,ek,aw⟩
   obtain⟨za,zc,rfl,dc⟩:=cj ek
   have vi:Hid (ae (bc (.slice a1 i c1) (eP M w 2)) w1 (.slice za xl.length zc) xl∧xs.size≤maxLen):=(show _∧_ from⟨dc,fH⟩)
   have s1:=aw.size
   simp only[World.size_alloc]at s1
   have aO:=hD (aL aw)
   have lS:=hD (HA.out.below aO.out)
   have cQ:=hD (HB.out.below aO.out)
   clear dc aw ek fH
   go_wp2_with(at_builtin
               refine aQ (α:=au) rfl _ _ _ rfl (eP M w 2) (w.heap.size+2) 134 i0 _ 56 Tryz.underlying54 dF dM db dL rfl (by decide) (.slice a1 i c1) (l.take i) rfl (lS.out.alloc _) (fun _=>True) _ _ (.mk xk xn xs xl) rfl (iw _ _ _ _ 4 rfl (by simp) trivial) (gK (vi.out.1.ev ((Ev.refl _ _).alloc _)) vi.out.2) (by rw[nP.out];unfold maxLen;omega) (by rw[nP.out];omega) (by simp;omega) ?_
               rw[nP.out,←nf.out]
               intro a2 c2 w2 bj dj aM
               have cw:=hD bj
               have bO:=hD aM
               clear bj dj aM)
   go_roundg(n-(i+1))
   case measure=>omega
   case rel=>
    refine⟨i+1,c2,a2,by omega,rfl,by go_num,rfl,cw,(show Bx _ _ _ from(cQ.out.alloc _).cJ bO.out (by simp))⟩
  ·obtain⟨r0,r1,r2,r3⟩:=ab (HB.out.bJ rfl)
   obtain⟨e0,e1,e2,e3⟩:=ab (HB.out.bh rfl)
   have f3:=aa (HB.out.bJ rfl) 3
   have g0:=aa (HB.out.bh rfl) 0
   have g1:=aa (HB.out.bh rfl) 1
   have g2:=aa (HB.out.bh rfl) 2
   have g3:=aa (HB.out.bh rfl) 3
   obtain rfl:i=n:=by omega
   go_wp2_with fail
   refine bodyPost_ret (v:= .agg #[.int .i64 vk, .int .i64 vn, .string vs, .slice a1 i c1]) (by simp[results,Tryz.results240,go_sem,e0,e1,e2,e3]) rfl ⟨_,rfl,⟨_,rfl,?_⟩,?_⟩
   ·have h1:=HA.out.slice (yG hM)
    rw[List.take_of_length_le (by rw[dZ.out];omega)]at h1
    have e:l.length=i:=dZ.out
    refine eV.iff.2 ⟨_,rfl,h1.ev ?_,IW.out⟩
    exact(((((ff wr).setCell (.inl (.inr ⟨by simp,by simp⟩)) _).setCell (.inl (.inr ⟨by simp,by simp⟩)) _).setCell (.inl (.inr ⟨by simp,by simp⟩)) _).setCell (.inl (.inr ⟨by simp,by simp⟩)) _).setCell (.inl (.inr ⟨by simp,by simp⟩)) _
   ·exact((((HB.out.1.setCell (by simp) _).setCell (by simp) _).setCell (by simp) _).setCell (by simp) _).setCell (by simp) _
theorem pY:∀(h:Nat)(x:au),rR h x→lZ 240 x
 |0,x,hx=>pU x (by rw[show x.list=[]from hx];simp) fun y hy=>by rw[show x.list=[]from hx]at hy;cases hy
 |h+1,x,hx=>pU x hx.1 fun y hy=>pY h y (hx.2 y hy)
theorem AU(a:Option Addr)(cap:Nat)(fv:Value)(w:World):Calls Tryz.prog 131 #[.slice a 0 cap,fv] w fun e w'=>e= .returned (.slice none 0 0)∧w=w':=by
 go_enter Tryz.func131,Tryz.ntmps131
 go_wp2_with fail
 go_ret
 exact⟨rfl,rfl⟩
theorem pZ {P:Program}(w:World)(t e:TypeId)(i:TypeInfo)(z:Value)(ht:P.underlying t=some (.slice e))(hi:P.info? e=some i)(hz:i.zero=some z)(n:Nat)(hn:n≤1000)(hb:i.bytes≤1000):
 ∃cur:Array Value,(Instr.makeSlice t (.int .i64 n) (.int .i64 n)).run P w= .ok (.slice (some ⟨w.heap.size,0,none⟩) n n) (w.alloc (.cells cur e))∧cur.size=n*i.size:=by
 have hr:=run_make (P:=P) w t e i z ht hi hz .i64 .i64 n n (by omega) (Int.le_refl _) (by
  have:i.bytes*n≤1000*1000:=Nat.mul_le_mul hb hn
  have h2:((i.bytes*n:Nat):Int)≤1000000:=by omega
  rw[Int.natCast_mul]at h2;omega) (by omega)
 simp only[Int.toNat_natCast]at hr
 exact⟨_,hr,size_madeCells _ _⟩
theorem yN(l:List au)(hl:l.length≤12)(h0:0<l.length)(jP:∀y∈l,lZ 132 y)(M:Nat→Prop)(w:World)(v:Value)(hM:Bd M w)(hs:ae M w v l):
 Calls Tryz.prog 131 #[v, .func (.func 132) #[] #[]] w (aF w fun v' w'=>ae M w' v' l):=by
 obtain⟨i0,dF,dM,db,dL⟩:=info_parts fN
 have HC:Hid (∀(i:Nat)(k n:Int)(s:ByteArray)(ll:List au),l[i]? =some (.mk k n s ll)→_):=(show∀(i:Nat)(k n:Int)(s:ByteArray)(ll:List au),_→_ from fun i k n s ll hx=>eL hs hx)
 have FX:Hid (∀y∈l,lZ 132 y):=(show _ from jP)
 obtain⟨a,bu,rfl,cq,po,_⟩:=hs.open_
 clear hs jP
 generalize hn:l.length=n at*
 have dZ:=hD hn;clear hn
 have vG:((n:Int)==0)=false:=by simp;omega
 obtain⟨cur,Cc,bE⟩:=pZ (P:=Tryz.prog) w 54 134 i0 _ Tryz.underlying54 dF dM n (by omega) (by omega)
 have Oe:Hid (dp (α:=au) M w.heap.size 134 (w.alloc (.cells cur 134)) n []):=(show dp _ _ _ _ _ _ from dp.made cur (heap_alloc_new w _) (by rw[bE,db];rfl))
 clear bE
 go_enter Tryz.func131,Tryz.ntmps131
 go_wp2_with fail
 go_loopg [6,7,16]n(fun g _ _ iv wr=>∃i:Nat,i≤n∧g=n-i∧iv= .int .i64 i∧Hid (dp M w.heap.size 134 wr n (l.take i))∧Hid (Below w.heap.size w wr))
 case atStart=>exact⟨0,Nat.zero_le _,rfl,rfl,Oe,(show Below _ _ _ from(Below.refl _ _).alloc (Nat.le_refl _) _)⟩
 case round=>
  obtain⟨i,hi,rfl,rfl,HA,HB⟩:=hrel
  have cB:w.heap.size<wr.heap.size:=HA.out.lt
  by_cases aT:i<n
  ·obtain⟨⟨xk,xn,xs,xl⟩,hx⟩:∃x,l[i]? =some x:=⟨_,List.getElem?_eq_getElem (by rw[dZ.out];exact aT)⟩
   obtain⟨b,off,cap,a',c',hv,hb,aU,fH,ao⟩:=HC.out i xk xn xs xl hx
   obtain⟨rfl,rfl⟩:a=some ⟨b,off,none⟩∧bu=cap:=by simpa using hv
   obtain⟨⟨q0,q1,q2,q3⟩,_⟩:=ao wr HB.out
   have nP:Hid ((l.take i).length=i):=(show _=_ by have:=dZ.out;rw[List.length_take];omega)
   have nf:Hid (l.take (i+1)=l.take i++[.mk xk xn xs xl]):=(show _=_ by rw[List.take_add_one,hx];rfl)
   have aS:Hid (∀o,Calls Tryz.prog 132 #[.agg #[.int .i64 xk, .int .i64 xn, .string xs, .slice a' xl.length c']] (wr.alloc o) (aF (wr.alloc o) fun v' w'=>bI (orM M w.heap.size) w' v' (au.mk xk xn xs xl))):=(show∀o,_ from fun o=>by
    refine FX.out _ (List.mem_of_getElem? hx) _ _ _ (fun j hj=> ?_) ⟨_,rfl,?_⟩
    ·rcases hj with hj|hj
     ·have:=hM j hj;simp;omega
     ·simp;omega
    ·refine gK (aU.ev ⟨ag.aj (HB.out.alloc (by omega) o),fun j hj=> ?_⟩) fH
     rcases hj with hj|hj
     ·exact .inl hj
     ·exact .inr (by omega))
   clear hv ao hx aU
   go_wp2_with fail
   refine(aS.out _).mono ?_
   rintro e w1⟨_,rfl,ek,aw⟩
   obtain⟨za,zc,rfl,dc⟩:=cj ek
   have vi:Hid (az.rep (α:=au) (orM M w.heap.size) w1 [.int .i64 xk, .int .i64 xn, .string xs, .slice za xl.length zc] (.mk xk xn xs xl)):=(show _ from gK dc fH)
   have aO:=hD (aL aw)
   have lS:=hD (HA.out.below aO.out)
   clear dc aw ek fH
   have WR:i*4+3<n*4:=by omega
   obtain⟨u0,p0,f0⟩:=lS.out.cell (j:=i*4) (by show _<n*4;omega)
   obtain⟨u1,p1,f1⟩:=lS.out.cell (j:=i*4+1) (by show _<n*4;omega)
   obtain⟨u2,p2,f2⟩:=lS.out.cell (j:=i*4+2) (by show _<n*4;omega)
   obtain⟨u3,p3,f3⟩:=lS.out.cell (j:=i*4+3) (by show _<n*4;omega)
   go_wp2_with fail
   go_roundg(n-(i+1))
   case measure=>omega
   case rel=>
    refine⟨i+1,by omega,rfl,by go_num,(show dp _ _ _ _ _ _ by rw[nf.out];exact lS.out.PQ rfl nP.out aT vi.out),(show Below _ _ _ from ?_)⟩
    exact(((((HB.out.trans (aO.out.mono (by omega))).setCell (by simp) _).setCell (by simp) _).setCell (by simp) _).setCell (by simp) _)
  ·go_wp2_with fail
   go_ret
   refine⟨_,rfl,?_,HB.out⟩
   have h1:=HA.out
   rw[List.take_of_length_le (by rw[dZ.out];omega)]at h1
   exact h1.slice dZ.out (fun h=>by have:=hM _ h;omega) (by unfold maxLen;omega)
theorem Dz(l:List au)(hl:l.length≤12)(jP:∀y∈l,lZ 132 y)(M:Nat→Prop)(w:World)(v:Value)(hM:Bd M w)(hs:ae M w v l):
 Calls Tryz.prog 131 #[v, .func (.func 132) #[] #[]] w (aF w fun v' w'=>ae M w' v' l):=by
 by_cases h0:0<l.length
 ·exact yN l hl h0 jP M w v hM hs
 ·have e:l=[]:=List.eq_nil_of_length_eq_zero (by omega)
  subst e
  obtain⟨a,cap,rfl,_⟩:=hs.open_
  refine(AU a cap _ w).mono ?_
  rintro e w'⟨rfl,rfl⟩
  exact⟨_,rfl,ae.nil _ _,Below.refl _ _⟩
theorem jC(l:List au)(hl:l.length≤12)(jP:∀y∈l,lZ 132 y):ou 105 l:=by
 intro M w v hM hs
 have HE:=hD (Dz l hl jP M w v hM hs)
 clear hs jP
 go_enter Tryz.func105,Tryz.ntmps105
 go_wp2_with fail
 refine(HE.out).mono ?_
 rintro e w1⟨v',rfl,hs,hb⟩
 have HS:=hD hs
 have HB:=hD hb
 clear hs hb
 go_wp2_with fail
 go_ret
 exact⟨_,rfl,HS.out,HB.out⟩
theorem ox(x:au)(jP:ou 105 x.list):lZ 132 x:=by
 intro M w v hM hu
 obtain⟨vk,vn,vs,l⟩:=x
 have dk:vs.size≤maxLen:=by obtain⟨cs,_,hr⟩:=hu;obtain⟨_,_,_,h⟩:=eV.iff.1 hr;exact h
 obtain⟨a,bu,rfl,hs⟩:=cj hu
 dsimp only[au.list]at*
 have FX:Hid (∀W,Below w.heap.size w W→w.heap.size+2≤W.heap.size→_):=(show∀W,_→_→_ from fun W hb hz=>jP (eP M w 2) W _ (dS hM hz) (hs.ev (dR hb)))
 have IW:=hD dk;clear dk
 clear hs jP hu
 go_enter Tryz.func132,Tryz.ntmps132
 go_wp2_with fail
 refine(FX.out _ (Bx.eO w _ _).1 (by simp)).mono ?_
 rintro e w1⟨_,rfl,dc,aw⟩
 obtain⟨za,zc,rfl,_⟩:=dc.open_
 have HB:=hD ((Bx.eO w (fD vk vn vs (.slice a l.length bu)) (fD 0 0 ⟨#[]⟩ (.slice none 0 0))).below aw)
 obtain⟨r0,r1,r2,r3⟩:=ab (HB.out.bJ rfl)
 obtain⟨e0,e1,e2,e3⟩:=ab (HB.out.bh rfl)
 have f3:=aa (HB.out.bJ rfl) 3
 have g0:=aa (HB.out.bh rfl) 0
 have g1:=aa (HB.out.bh rfl) 1
 have g2:=aa (HB.out.bh rfl) 2
 have g3:=aa (HB.out.bh rfl) 3
 have HS:=hD dc
 clear dc aw
 go_wp2_with fail
 refine bodyPost_ret (v:= .agg #[.int .i64 vk, .int .i64 vn, .string vs, .slice za l.length zc]) (by simp[results,Tryz.results132,go_sem,e0,e1,e2,e3]) rfl ⟨_,rfl,⟨_,rfl,?_⟩,?_⟩
 ·refine eV.iff.2 ⟨_,rfl,HS.out.ev ?_,IW.out⟩
  exact(((((ff w1).setCell (.inl (.inr ⟨by simp,by simp⟩)) _).setCell (.inl (.inr ⟨by simp,by simp⟩)) _).setCell (.inl (.inr ⟨by simp,by simp⟩)) _).setCell (.inl (.inr ⟨by simp,by simp⟩)) _).setCell (.inl (.inr ⟨by simp,by simp⟩)) _
 ·exact((((HB.out.1.setCell (by simp) _).setCell (by simp) _).setCell (by simp) _).setCell (by simp) _).setCell (by simp) _
theorem oy:∀(h:Nat)(x:au),rR h x→lZ 132 x
 |0,x,hx=>ox x (by rw[show x.list=[]from hx];exact jC [] (by simp) fun y hy=>by cases hy)
 |h+1,x,hx=>ox x (jC x.list hx.1 fun y hy=>oy h y (hx.2 y hy))
theorem yO {fs:List ak}{many:Int}{vs:List au}(h:aW fs many vs)(hl:vs.length≤12):ou 105 vs:=
 jC vs hl fun x hx=>by
  obtain⟨f,_,hv⟩:=eF h x hx
  exact oy 1 x (lr hv)
end Go.Proofs.YtlkjnefenialbaaGreatDoor
