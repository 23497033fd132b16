/- What ClassOf answers for some fields; no condition beyond each theorem's own. -/
import Derived.Test.YtlkjnefenialbaaGreatDoorM09
set_option linter.unusedVariables false
set_option linter.unusedSimpArgs false
set_option maxHeartbeats 8000000
set_option maxRecDepth 100000
namespace Go.Proofs.YtlkjnefenialbaaGreatDoor
open Go.RowKit
theorem lj(M:Nat→Prop)(w:World)(hM:Bd M w)(x:qN)(fv:Value)(hs:ae M w fv x.fields)(hn:I6 x.name):
 Calls Tryz.prog 36 #[.agg #[.int .i64 x.name,fv]] w (aF w fun v w'=>∃c,gE c∧(0<x.fields.length→0<c.fields.length)∧bI M w' v c):=by
 obtain⟨i0,dF,dM,db,dL⟩:=info_parts fZ
 obtain⟨a,bu,rfl,cq,hm,hc⟩:=hs.open_
 have HC:=hD hc;clear hc;have HI:=hD hn;clear hn
 clear hs
 generalize hn:x.fields.length=n at*
 have HN:=hD hn;clear hn
 have hp:=bU x.name 6 (by omega)
 go_enter Tryz.func36,Tryz.ntmps36
 go_wp2_with fail
 refine(dW _ _ _ HI.out (by omega) (by omega)).mono ?_
 rintro e w'⟨rfl,rfl⟩
 obtain⟨W,hW⟩:∃W:World,W=(((w.alloc (.cells #[.int .i64 x.name, .slice a n bu] 98)).alloc (.cells #[.string ⟨#[]⟩, .slice none 0 0] 91)).alloc
  (.cells #[.string ⟨#[97]⟩, .string ⟨#[98,50]⟩, .string ⟨#[110,97,109,101]⟩, .string ⟨#[110,101,120,116,95,111,110,101]⟩, .string ⟨#[107,105,100,115]⟩, .string ⟨#[120]⟩] 9)).alloc
  (.cells #[.string ⟨#[110,111,100,101]⟩, .string ⟨#[105,116,101,109]⟩, .string ⟨#[117,115,101,114]⟩, .string ⟨#[112,97,103,101,95,49]⟩, .string ⟨#[108,101,97,102]⟩, .string ⟨#[113]⟩] 9):=⟨_,rfl⟩
 rw[←hW]
 obtain⟨b0,b1,b2,b3,hz,hb⟩:=OE hW
 clear hW
 have hz':w.heap.size+3<W.heap.size:=by omega
 have eU:W.cell? ⟨w.heap.size+1+1+1,aD x.name 6,none⟩=some (.string (Jh (aD x.name 6))):=cell_of_heap b3 (MR hp)
 have B0:=hD b0;clear b0;have B1:=hD b1;clear b1;have B2:=hD b2;clear b2;have HZ:=hD hz;clear hz;have HB:=hD hb;clear hb
 clear b3
 go_wp2_with fail
 obtain⟨nm,mf⟩:∃nm,nm=Jh (aD x.name 6):=⟨_,rfl⟩
 rw[←mf]
 have su:Hid (nm∈jU):=(show nm∈jU by rw[mf];exact Ji hp)
 clear mf eU
 have IS:Hid (∀i,(M i∨(w.heap.size≤i∧i≤W.heap.size))→i<W.heap.size+1):=(show∀i,_→_ from fun i h=>by rcases h with h|h;have:=hM i h;omega;omega)
 go_loopg [5,6,7,8,9]6(fun g iv _ _ _ _ wr=>∃(k:Nat)(jc:Value)(fs:List ak),k≤n∧k≤6∧g=6-k∧iv= .int .i64 k∧fs.length≤k∧Hid (fj fs∧(0<k→0<fs.length))∧Hid (aK (fun i=>M i∨(w.heap.size≤i∧i≤W.heap.size)) (W.heap.size+1) 151 wr jc fs)∧Hid (Below W.heap.size W wr)∧Hid (wr.heap[W.heap.size]? =some (.cells #[.string nm,jc] 91 (0,0))))
 case atStart=>exact⟨0, .slice none 0 0,[],Nat.zero_le _,by omega,rfl,rfl,Nat.le_refl _,by {have h:fj []∧(0<0→0<([]:List ak).length):=⟨⟨fun f h=>(by cases h),fun j f h=>(by simp at h)⟩,fun h=>absurd h (by omega)⟩;exact h},by exact(aK.nil _ _ _ _),by exact((Below.refl _ _).alloc (Nat.le_refl _) _),by {have h:=heap_alloc_new W (.cells #[.string nm, .slice none 0 0] 91);exact h}⟩
 case round=>
  obtain⟨k,jc,fs,hk,hk6,rfl,rfl,bz,HG,HA,HW,It⟩:=hrel
  have cB:W.heap.size<wr.heap.size:=(Array.getElem?_eq_some_iff.1 It.out).1
  obtain⟨a',c',rfl,gz,qw⟩:=HA.out.open_
  obtain⟨g0,g1⟩:=af ((HW.out.block w.heap.size (by omega)).trans B0.out)
  obtain⟨g2,g3⟩:=af It.out
  have aO:Hid (wr.heap[w.heap.size+1]? =some (.cells #[.string ⟨#[]⟩, .slice none 0 0] 91 (0,0))):=(HW.out.block (w.heap.size+1) (by omega)).trans B1.out
  obtain⟨g4,g5⟩:=af aO.out
  have f4:=aa aO.out 0
  have f5:=aa aO.out 1
  have f2:=aa It.out 0
  have f3:=aa It.out 1
  have kR:Hid (∀W',W'=(wr.setCell ⟨w.heap.size+1,0,none⟩ (.string nm)).setCell ⟨w.heap.size+1,1,none⟩ (.slice a' fs.length c')→(∃c,gE c∧(0<k→0<c.fields.length)∧bI M W' (.agg #[.string nm, .slice a' fs.length c']) c)∧Below w.heap.size w W'):=(show∀W',_→_ from fun W' gX=>by
   refine⟨⟨⟨nm,fs⟩,HG.out.1.cls (by omega) su.out,HG.out.2,_,rfl,_,rfl,((HA.out.slice IS.out).ev ?_),bQ (fM nm su.out).2⟩,?_⟩
   ·rw[gX]
    exact((Ev.ee wr (fun i h=> .inl h)).setCell (.inl (.inr ⟨by simp,by simp;omega⟩)) _).setCell (.inl (.inr ⟨by simp,by simp;omega⟩)) _
   ·rw[gX]
    exact((HB.out.trans (HW.out.mono (by omega))).setCell (by simp) _).setCell (by simp) _)
  by_cases aT:k<n
  ·by_cases hl6:k<6
   ·obtain⟨b,off,rfl,xW,bZ,aC⟩:=HC.out (by omega)
    obtain⟨r,hr⟩:∃r,x.fields[k]? =some r:=⟨_,List.getElem?_eq_getElem (by rw[HN.out];exact aT)⟩
    obtain⟨cs,⟨rfl,kq,qv,hr3⟩,bE⟩:=aC k r hr
    have lQ:∀(j:Nat)(u:Value),[Value.int .i64 r.name, .int .i64 r.kind, .int .i64 r.of, .bool r.indexed][j]? =some u→wr.cell? ⟨b,off+k*4+j,none⟩=some u:=fun j u hu=>(HW.out.cell (p:=⟨b,off+k*4+j,none⟩) (by show b<W.heap.size;omega)).trans ((HB.out.cell (p:=⟨b,off+k*4+j,none⟩) bZ).trans (bE j u hu))
    have q0:wr.cell? ⟨b,off+k*4,none⟩=some (.int .i64 r.name):=lQ 0 _ rfl
    have q1:=lQ 1 _ rfl
    have q2:=lQ 2 _ rfl
    have q3:=lQ 3 _ rfl
    have zP:b≠w.heap.size:=by omega
    have Wk:=bU r.name 6 (by omega)
    have Lu:=bU r.kind 5 (by omega)
    have hpo:=bU r.of 4 (by omega)
    have YF:wr.cell? ⟨w.heap.size+1+1,aD r.name 6,none⟩=some (.string (OG (aD r.name 6))):=cell_of_heap ((HW.out.block (w.heap.size+2) (by omega)).trans B2.out) (PE Wk)
    clear aC bE lQ hr
    have mr:=hD kq;clear kq;have vH:=hD qv;clear qv;have YG:=hD hr3;clear hr3
    go_upto_region 7 with fail
    go_cut [7](fun s7 wx=>s7= .pointer (some ⟨wr.heap.size+1,0,none⟩)∧wx=((wr.alloc (.cells #[.int .i64 r.name, .int .i64 r.kind, .int .i64 r.of, .bool r.indexed] 149)).alloc (.cells #[.string (OG (aD r.name 6)), .int .i64 (1+(aD r.kind 5:Int)), .int .i64 0, .bool false] 151)).drew)
    case first=>
     have z1:(0:Int)≤(aD r.name 6:Int):=Int.natCast_nonneg _
     have z2:(aD r.name 6:Int)<6:=by omega
     have z3:IntKind.i64.wrap (1+(aD r.kind 5:Int))=1+(aD r.kind 5:Int):=IntWalk.i64_in _ (by omega)
     go_region_held3(fun w'=>w'.cell? ⟨w.heap.size+1+1,aD r.name 6,none⟩=some (.string (OG (aD r.name 6)))∧w'.cell? ⟨wr.heap.size,0,none⟩=some (.int .i64 r.name)∧w'.cell? ⟨wr.heap.size,1,none⟩=some (.int .i64 r.kind))
      (first|go_keep)
      (first|(go_at_call 59;refine(dW _ _ _ (by first|exact mr.out|exact vH.out) (by omega) (by omega)).mono ?_;rintro e w'⟨rfl,rfl⟩))
     all_goals(go_wp2_with fail;go_meet;exact⟨rfl,rfl⟩)
    case rest=>
     obtain⟨rfl,rfl⟩:=hcut
     obtain⟨f,hf⟩:∃f,f=pN r:=⟨_,rfl⟩
     have Lv:Hid (aY f=true∧f.name∈jy):=(show aY f=true∧f.name∈jy by rw[hf];exact tP r)
     have YH:Hid (idxOf (fun g:ak=>bD g.name f.name) fs<0→∀W':World,Below wr.heap.size wr W'→Calls Tryz.prog 60 #[.agg #[.string nm, .slice a' fs.length c'], .string f.name] W' fun e w'=>e= .returned (.tuple #[.int .i64 0, .bool false])∧Below W'.heap.size W' w'):=(show _→_ from fun h W' hb=>Al _ _ W' fs nm f.name ((HA.out.below hb).slice IS.out) h)
     have YI:Hid (¬idxOf (fun g:ak=>bD g.name f.name) fs<0→∀W':World,Below wr.heap.size wr W'→Calls Tryz.prog 60 #[.agg #[.string nm, .slice a' fs.length c'], .string f.name] W' fun e w'=>e= .returned (.tuple #[.int .i64 (idxOf (fun g:ak=>bD g.name f.name) fs), .bool true])∧Below W'.heap.size W' w'):=(show _→_ from fun h W' hb=>yq _ _ W' fs nm f.name ((HA.out.below hb).slice IS.out) h)
     have HNZ:Hid (f.name=OG (aD r.name 6)):=(show f.name=_ by rw[hf];rfl)
     have YJ:Hid (f.type.kind=1+(aD r.kind 5:Int)):=(show f.type.kind=_ by rw[hf];rfl)
     have WJ:Hid (f.type.of=if aD r.kind 5=4 then 1+(aD r.of 4:Int)else 0):=(show f.type.of=_ by rw[hf];rfl)
     have Uc:Hid (f.indexed=(r.indexed&&decide (1+(aD r.kind 5:Int)≤3))):=(show f.indexed=_ by rw[hf];rfl)
     clear hf YF
     rw[←HNZ.out]
     rw[←YJ.out]at Uc⊢
     go_upto_if 49 with fail
     go_cut [](fun wx=>wx=((wr.alloc (.cells #[.int .i64 r.name, .int .i64 r.kind, .int .i64 r.of, .bool r.indexed] 149)).alloc (.cells #[.string f.name, .int .i64 f.type.kind, .int .i64 f.type.of, .bool false] 151)).drew)
     case first=>
      by_cases h4:aD r.kind 5=4
      ·have e5:(f.type.kind==5)=true:=by rw[YJ.out];simp;omega
       rw[if_pos h4]at WJ
       clear h4
       go_wp2_with(go_at_call 59;refine(dW _ _ _ YG.out (by omega) (by omega)).mono ?_;rintro e w'⟨rfl,rfl⟩)
       go_meet
       rw[WJ.out]
      ·have e5:(f.type.kind==5)=false:=by rw[YJ.out];simp;omega
       rw[if_neg h4]at WJ
       clear h4
       go_wp2_with fail
       go_meet
       rw[WJ.out]
     case rest=>
      obtain rfl:=hcut
      go_upto_region 10 with fail
      go_cut [](fun wx=>wx=((wr.alloc (.cells #[.int .i64 r.name, .int .i64 r.kind, .int .i64 r.of, .bool r.indexed] 149)).alloc (.cells #[.string f.name, .int .i64 f.type.kind, .int .i64 f.type.of, .bool f.indexed] 151)).drew)
      case first=>
       by_cases h3:f.type.kind≤3
       ·rw[decide_eq_true h3,Bool.and_true]at Uc
        cases OW:r.indexed
        all_goals
         have YK:=hD OW;clear OW
         go_wp2_with fail
         go_meet
         rw[Uc.out,YK.out]
       ·rw[decide_eq_false h3,Bool.and_false]at Uc
        cases OW:r.indexed
        all_goals
         have YK:=hD OW;clear OW
         go_wp2_with fail
         go_meet
         rw[Uc.out,YK.out]
      case rest=>
       obtain rfl:=hcut
       by_cases hm:idxOf (fun g:ak=>bD g.name f.name) fs<0
       ·have HM:=hD hm;clear hm
        go_wp2_with fail
        refine(YH.out HM.out _ (by exact(((Below.refl _ wr).alloc (Nat.le_refl _) _).alloc (by simp) _).drew)).mono ?_
        rintro e w1⟨rfl,aw⟩
        have dc:=aw.size
        simp at dc
        have O7:Hid (Below wr.heap.size wr w1):=(((Below.refl _ wr).alloc (Nat.le_refl _) _).alloc (by simp) _).drew.trans (aw.mono (by simp;omega))
        have oO:=hD ((aw.block (wr.heap.size+1) (by simp)).trans (iM (w:=wr) rfl).2.1)
        obtain⟨p0,p1,p2,p3⟩:=ab oO.out
        have wA:Hid (w1.heap[W.heap.size]? =some (.cells #[.string nm, .slice a' fs.length c'] 91 (0,0))):=(O7.out.block W.heap.size cB).trans It.out
        obtain⟨p4,p5⟩:=af wA.out
        have Cd:=hD (HA.out.below O7.out)
        have YL:Hid (Below W.heap.size W w1):=HW.out.trans (O7.out.mono (by omega))
        clear aw
        go_wp2_with(at_builtin
                    refine aQ (α:=ak) rfl _ _ _ rfl _ _ 151 i0 _ 40 Tryz.underlying89 dF dM db dL rfl (by decide) _ fs rfl (Cd.out.alloc _) (fun _=>True) _ _ f rfl (ct _ _ _ _ rfl trivial) ?c1 ?c2 ?c3 ?c4 ?_
                    case c1=>exact⟨rfl,bQ (pM _ Lv.out.2).2⟩
                    case c2=>unfold maxLen;omega
                    case c3=>omega
                    case c4=>simp;omega
                    intro a2 c2 w2 bj dj aM
                    have FV:Hid (w2.heap[W.heap.size]? =some (.cells #[.string nm, .slice a' fs.length c'] 91 (0,0))):=(aM.block W.heap.size (by omega)).trans ((Below.heap_alloc w1 _ W.heap.size (by omega)).trans wA.out)
                    obtain⟨r4,r5⟩:=af FV.out
                    have r6:=aa FV.out 1
                    have lS:=hD bj
                    have aA:Hid (Below W.heap.size W w2):=(YL.out.alloc (by omega) _).trans (aM.mono (by omega))
                    clear bj dj aM)
        go_roundg(6-(k+1))
        case measure=>omega
        case rel=>
         refine⟨k+1, .slice a2 (fs.length+1) c2,fs++[f],by omega,by omega,rfl,by go_num,by simp;omega,?_,?_,?_,?_⟩
         ·exact(show fj (fs++[f])∧(0<k+1→0<(fs++[f]).length)from⟨HG.out.1.snoc Lv.out.2 Lv.out.1 (by have:=pB (fun g:ak=>bD g.name f.name) fs;have:=HM.out;omega),fun _=>by simp⟩)
         ·exact(show aK _ _ _ _ _ (fs++[f])from lS.out.sD (.inr ⟨by simp;omega,by simp⟩) (by simp) _)
         ·exact(show Below W.heap.size W _ from aA.out.setCell (Nat.le_refl _) _)
         ·exact heap_setCell_same w2 W.heap.size 1 _ _ _ FV.out
       ·have HM:=hD hm;clear hm
        go_wp2_with fail
        refine(YI.out HM.out _ (by exact(((Below.refl _ wr).alloc (Nat.le_refl _) _).alloc (by simp) _).drew)).mono ?_
        rintro e w1⟨rfl,aw⟩
        have O7:Hid (Below wr.heap.size wr w1):=(((Below.refl _ wr).alloc (Nat.le_refl _) _).alloc (by simp) _).drew.trans (aw.mono (by simp;omega))
        clear aw
        go_wp2_with fail
        go_roundg(6-(k+1))
        case measure=>omega
        case rel=>exact⟨k+1,_,fs,by omega,by omega,rfl,by go_num,by omega,(show fj fs∧(0<k+1→0<fs.length)from⟨HG.out.1,fun _=>by have:=tw (fun g:ak=>bD g.name f.name) fs;have:=HM.out;omega⟩),HA.out.below O7.out,(show Below _ _ _ from HW.out.trans (O7.out.mono (by omega))),(O7.out.block W.heap.size cB).trans It.out⟩
   ·go_wp2_with fail
    refine bodyPost_ret (v:= .agg #[.string nm, .slice a' fs.length c']) (by simp[results,Tryz.results36,go_sem,g4,g5]) rfl ⟨_,rfl,?_⟩
    obtain⟨⟨c,h1,h2,h3⟩,h4⟩:=kR.out _ rfl
    exact⟨⟨c,h1,fun h=>h2 (by omega),h3⟩,h4⟩
  ·go_wp2_with fail
   refine bodyPost_ret (v:= .agg #[.string nm, .slice a' fs.length c']) (by simp[results,Tryz.results36,go_sem,g4,g5]) rfl ⟨_,rfl,?_⟩
   obtain⟨⟨c,h1,h2,h3⟩,h4⟩:=kR.out _ rfl
   exact⟨⟨c,h1,fun h=>h2 (by omega),h3⟩,h4⟩
end Go.Proofs.YtlkjnefenialbaaGreatDoor
