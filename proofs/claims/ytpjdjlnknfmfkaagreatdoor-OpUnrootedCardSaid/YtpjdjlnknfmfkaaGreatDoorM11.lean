/- A part; no condition. -/
import Derived.Test.YtpjdjlnknfmfkaaGreatDoorM07
import Derived.Test.YtpjdjlnknfmfkaaGreatDoorM10
import Derived.Lib.LaidU8T
import Derived.PinnedBridge
import Derived.LaidMore
import Derived.Stop.Joined
import Derived.HandedShaped
import Derived.Test.YtpjdjlnknfmfkaaGreatDoorCards
import Derived.Test.YtpjdjlnknfmfkaaGreatDoorTie
set_option linter.all false
set_option maxHeartbeats 8000000
set_option maxRecDepth 100000
namespace Go.Proofs.YtpjdjlnknfmfkaaGreatDoor
open Go.Proofs.Tryz
variable{W:bq}
section
open Go.RowKit Go.Shelf Go.Lib
abbrev mN:List (String×DataW Unit):=Rows.opUnrootedRow.laid
def u8x:U8Extra prog jc:=
 ⟨by kernel_rfl,by kernel_rfl,by kernel_rfl,by kernel_rfl,by kernel_rfl,by kernel_rfl,by kernel_rfl⟩
def Vz:(Rows.laid_unicode_utf8_acceptRanges:DataW Unit)=acceptData:=by kernel_rfl
def pow_eq:(Rows.laid_internal_strconv_uint64pow10:DataW Unit)=tabData .u64 pow10Tab:=by kernel_rfl
def Zh:Tryz.prog.globalNamed "internal/strconv.uint64pow10"=some 2:=by kernel_rfl
def Zi(h:laidMetH prog mN W)(hsh:W.ShapedOpen prog):Gd W:=by
 rw[MakeChecks.laidMetH_plain _ _ _ (by kernel_rfl)]at h;have h1:=laidMet.reads h (n:= "unicode/utf8.first") (d:=firstData) (by rw[<-Pinned.utf8First_eq];simp[mN,Rows.opUnrootedRow,Rows.laid_unicode_utf8_first]);have h2:=laidMet.reads h (n:= "unicode/utf8.acceptRanges") (d:=acceptData) (by rw[<-Vz];simp[mN,Rows.opUnrootedRow]);have h3:=laidMet.reads h (n:= "internal/strconv.uint64pow10") (d:=tabData .u64 pow10Tab) (by rw[<-pow_eq];simp[mN,Rows.opUnrootedRow]);obtain⟨g,t,cs,fuel,p,hg,Gp,qds,hd⟩:=h3;obtain rfl:=Option.some.inj (Zh.symm.trans hg);obtain rfl:=Option.some.inj ((show(Tryz.prog.globals[2]?).map (·.type)=some 458 by kernel_rfl).symm.trans Gp);have hp:TabIs prog W "internal/strconv.uint64pow10" .u64 pow10Tab:=by
  unfold TabIs;rw[qds,<-cells_of_tab underlying458 underlying307 (by kernel_rfl) (by kernel_rfl) hd]
 refine⟨utf8Tabs_of_readsT (U8Types.of196 Ay) u8x h1 h2,?_,λW' hb=>Go.Joins.tab_stays Zh hp hb cN⟩;exact cell_of_shapedOpen_int (zero:= #[.int .i64 0]) hsh (of_decide_eq_true (by kernel_rfl)) (by kernel_rfl) rfl (by kernel_rfl) (by kernel_rfl) underlying3
end
section
open Go.ChangeShapes Go.WideShapes Go.ChangeAt Go.RowKit
def own:ownKnob Tryz.prog.godebug=none:=by kernel_rfl
def laidOut:laidOutB prog=true:=by kernel_rfl
noncomputable def Ea(os:Os):bq:=
 {World.doorLaid prog 4000 os with heap:=(World.doorLaid prog 4000 os).heap.modify 0 λo=>match o with
  | .cells _ t fr=> .cells (Lib.firstTab.map λz=>Value.int .u8 z).toArray t fr
  |o=>o}
def O5(os:Os)(args:Array bt):laidMetH prog mN ((Ea os).forCall (λ_ _=>0) ⟨#[],args,[]⟩).memory:=
 laidMetH_of_parts3 (fuel:=8) (laidMet_of_run' 8 (by kernel_rfl) (by kernel_rfl)) (by kernel_rfl) (by kernel_rfl)
abbrev O7:Array bt:= #[.agg #[(),(),()],xI 0]
abbrev O8 {H:Type}(enc:TypeId×bt->H):bq->Array bt->Prop:=λw args=>(Rows.opUnrootedSpec.pre enc prog f3 [] false w args/\laidMetH prog mN w)/\sizedMet enc prog f3 (OpenSpec.ofChange Rows.opUnrootedSpec) false w args
def Eb(os:Os){H:Type}(enc:TypeId×bt->H):∃(w:bq)(tape:Tape)(i:Input),w.os=os/\(w.forCall tape i).Shaped Tryz.checked.prog/\i.vars=[]/\Input.okWide Tryz.checked.prog (w.forCall tape i) .any w 3 i/\
 O8 enc (w.forCall tape i).memory i.args/\({}:Assume).holds Tryz.checked.prog (lone (Frame.enter Tryz.checked.prog 3 i.args .normal) [] (w.forCall tape i)):=
 ChangeSpec.witness_shaped (enc:=enc) (C:=checked) (os:=os) (s:=Rows.opUnrootedSpec) (fn:=f3) (X:=λw _=>laidMetH prog mN w) false (Ea os) O7 8 rfl (World.shaped_of_RefB (by kernel_rfl) (by kernel_rfl)) (by kernel_rfl) (by kernel_rfl) (by kernel_rfl) (O5 os _)
def sP:Prop:=∀(W:bq)(a b c:bt)(n:Int)(ls:List iZ)(os:List kG)(rs:List kP),Gd W->aS xF W a ls->aS xF W b os->aS xF W c rs->I6 n->
 xC 3 #[.agg #[a,b,c],n] W (di true W)
def LU(law:sP)(os:Os)(started:os.Started)(H:Type)(enc:TypeId×bt->H):
 ReturnsInHanded {} checked os 3 .any (O8 enc) (Rows.opUnrootedSpec.post enc prog f3 false true false false):=by
 refine returnsInHanded_of_calls own started (by kernel_rfl) (Eb os enc) ?_;intro w tape i _ hsh _ hok qdt WU;obtain⟨_,_,_,fn',qdu,_,_,_,_,UH⟩:=hok;have e:fn'=f3:=Option.some.inj (qdu.symm.trans func3);subst e;obtain⟨⟨⟨ds,gs,before,hw,hc⟩,hx⟩,hz⟩:=qdt;have hW:=DataW.Whole.of_heap (w':=w.forCall tape i) (by rfl) hw;have hL:laidMetH prog mN (w.forCall tape i):=hx.of_heap (by rfl);have hG:Gd (w.forCall tape i):=Zi hL hsh;suffices hh:xC 3 i.args (w.forCall tape i) λe W'=>∃v,e=xR v/\Rows.opUnrootedSpec.post enc prog f3 false true false false (w.forCall tape i) i.args v W' by
  refine hh.mono λe W'⟨v,he,hp⟩=> ?_;subst he;exact ChangeSpec.post_blind hp
 generalize w.forCall tape i=W at*;generalize i.args=args at*;clear hw hx hL hc hz WU;have WV:∀(j:Nat)t v,Tryz.f3.params[j]? =some t->args[j]? =some v->Value.okWide prog W .any w t v:=UH;have hW':=hW;obtain⟨p,q,hA0,hV,rfl,hfz,Tt⟩:=hW;have hA:DataW.TrodAll enc prog W 0 (λ_=>true) true Tryz.f3.params.toList args.toList ds p:=hA0;rw[params3]at hA WV;obtain⟨v0,v1,d0,d1,p0,p1,e1,rfl,rfl,h0,h1⟩:=trodAll_two hA;subst e1;obtain⟨rfl,rfl⟩:=trodVars_none hV;clear hA0 UH;simp only[List.append_nil]at hW';have cE:∀x∈p0++p1,x.block<W:=λx hx=>hW'.lt x hx;obtain⟨cs,rfl,hcs⟩:=okWide_struct underlying26 (WV 0 26 v0 rfl rfl);obtain⟨n,rfl⟩:=okWide_int underlying3 (WV 1 3 v1 rfl rfl);rw[show Tryz.prog.cellsOf 26=3 by kernel_rfl]at hcs;obtain⟨a,b,c,rfl⟩:∃a b c,cs= #[a,b,c]:=by
  obtain⟨l⟩:=cs;obtain⟨a,b,c,rfl⟩:=cells3 (show l.length=3 from hcs);exact⟨a,b,c,rfl⟩
 obtain⟨fu0,hf0⟩:=h0;obtain⟨fu1,hf1⟩:=h1;have⟨ls,os',rs,s0,s1,s2⟩:=OS (enc:=enc) (W:=W) (a:=a) (b:=b) (c:=c) ⟨fu0,_,by simpa [Value.cells]using hf0⟩;have⟨z,ez,hz⟩:=gY (enc:=enc) (W:=W) (cs:=[xI n]) ⟨fu1,_,by simpa [Value.cells]using hf1⟩;obtain rfl:n=z:=by simpa using ez
 refine(law W a b c n ls os' rs hG s0 s1 s2 hz).mono λe W'⟨he,hb⟩=> ?_;subst he;refine⟨_,rfl,_,_,_,[],p0++p1,[],hW',trodAll_mk1 (shut_bool underlying4 _),?_,rfl,hb.frame _,λh=>by cases h⟩;exact trodAll_mk2 (Below.trod laidOut (by kernel_rfl) (of_decide_eq_true (by kernel_rfl)) ⟨fu0,hf0⟩ hb (λx h=>cE x (aI.2 (.inl h)))) (Below.trod laidOut (by kernel_rfl) (of_decide_eq_true (by kernel_rfl)) ⟨fu1,hf1⟩ hb (λx h=>cE x (aI.2 (.inr h))))
def Ec:Tryz.pinned.checked.prog.funcNamed Rows.opUnrootedRow.func=some 3:=by kernel_rfl
set_option maxHeartbeats 100000000 in
theorem LV:joinedFacts Tryz.pinned.checked.prog 3 f3 Rows.opUnrootedSpec Rows.opUnrootedRow=true:=by
 unfold joinedFacts;repeat'(with_reducible refine Bool.and_eq_true_iff.2 ⟨?_,?_⟩)
 all_goals as_aux_lemma=>kernel_rfl
def O9(law:sP)(os:Os)(started:os.Started)(H:Type)(enc:TypeId×bt->H):ReturnsInHanded Rows.opUnrootedRow.assume Tryz.pinned.checked os 3 .any (Rows.opUnrootedRow.pre enc Tryz.pinned.checked.prog f3 (OpenSpec.ofChange Rows.opUnrootedSpec)) (Rows.opUnrootedSpec.post enc Tryz.pinned.checked.prog f3 Rows.opUnrootedRow.apart Rows.opUnrootedRow.fresh Rows.opUnrootedRow.handsOn Rows.opUnrootedRow.again):=
 LU law os started H enc
def LW {P:Program}(h:P.funcs.any Func.goes=false)(c:OpenClaim)(hs:c.start= .entering):false=c.goesBy P:=by
 have h1:∀f:FuncId,P.goes f=false:=λf=>by
  unfold Program.goes;rw[h,Bool.and_false,Bool.or_false,List.any_eq_false];intro g _ hg;cases hf:P.funcs[g]? with
  |none=>rw[hf]at hg;cases hg
  |some fn=>
   rw[hf]at hg;have hm:=Array.mem_of_getElem? hf;have h2:=Array.any_eq_false.1 h;have⟨i,hi,he⟩:=Array.mem_iff_getElem.1 hm;exact h2 i hi (by rw[he];exact hg)
 unfold OpenClaim.goesBy Program.goesAt Program.goesFrom;rw[hs];cases hn:P.funcNamed c.func with
 |none=>rfl
 |some f=>show false=(P.goes f||false);rw[h1 f];rfl
def LX:Tryz.pinned.checked.prog.funcs.any Func.goes=false:=by kernel_rfl
def Pa:false=Rows.opUnrootedRow.goesBy Tryz.pinned.checked.prog:=LW LX _ rfl
def SD:Rows.opUnrootedRow.wfByText (OpenSpec.ofChange Rows.opUnrootedSpec)=true:=by kernel_rfl
def Pb:Tryz.pinned.checked.prog.mainIs=some (true,"44b93d6d530a61118bb635377b7039f1239fefcf670aa73140c43efeb620b4af".toList):=by kernel_rfl
def LY:true=Tryz.pinned.checked.prog.looks []:=by kernel_rfl
def LZ:([26,3].all λu=> !Tryz.prog.wantsStandIn u)=true:=by kernel_rfl
def Pc:Tryz.f3.isInstance Tryz.pinned.checked.prog Rows.opUnrootedRow.origin Rows.opUnrootedRow.targs:=of_decide_eq_true (by kernel_rfl)
def Pd:Tryz.f3.isWrapper Tryz.pinned.checked.prog Rows.opUnrootedRow.wrapper Rows.opUnrootedRow.mainSum:=by unfold Func.isWrapper;first|(rw[if_pos (by decide+kernel)];kernel_rfl)|(rw[if_neg (by decide+kernel)];exact⟨rfl,rfl⟩)
def SE(law:sP):Rows.OpUnrootedSaid:=
 OpenClaim.holds_of_wide 3 f3 rfl rfl rfl rfl rfl rfl rfl ⟨rfl,rfl,rfl,rfl,rfl⟩ rfl rfl rfl rfl rfl Ec func3 LV Pc Pd (λos started H enc _=>O9 law os started H enc)
def SF(law:sP):Rows.OpUnrootedCardSaid:=
 Claim7.holds_tied_plain_at .later [] [.data, .data, .data, .data, .sentinel, .sentinel, .pinned] true (true,"44b93d6d530a61118bb635377b7039f1239fefcf670aa73140c43efeb620b4af") true
  (SE law) (λ_ h=>by cases h) SD (λ_ h=>by cases h) opUnrooted_row_tie rfl ⟨rfl,rfl⟩ Pb rfl
  (λf fn hf hfn=>by
    obtain rfl:f=3:=(Option.some.inj (Ec.symm.trans hf)).symm;obtain rfl:fn=f3:=(Option.some.inj (Tryz.func3.symm.trans hfn)).symm;exact⟨LY,λj t ht=>by
     rw[params3]at ht;have hm:t∈[26,3]:=by simpa using Array.mem_of_getElem? ht
     exact(show Tryz.prog.wantsStandIn t=false by simpa using List.all_eq_true.1 LZ t hm)⟩)
  Pa
end
end Go.Proofs.YtpjdjlnknfmfkaaGreatDoor
