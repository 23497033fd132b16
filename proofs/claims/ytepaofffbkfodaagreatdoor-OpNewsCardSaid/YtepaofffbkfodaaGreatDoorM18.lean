/- A part; no condition. -/
import Derived.Test.YtepaofffbkfodaaGreatDoorM14
import Derived.Test.YtepaofffbkfodaaGreatDoorM17
import Derived.Lib.LaidU8T
import Derived.PinnedBridge
import Derived.LaidMore
import Derived.HandedShaped
import Derived.Test.YtepaofffbkfodaaGreatDoorCards
import Derived.Test.YtepaofffbkfodaaGreatDoorTie
set_option linter.all false
set_option maxHeartbeats 8000000
set_option maxRecDepth 100000
namespace Go.Proofs.YtepaofffbkfodaaGreatDoor
open Go.Proofs.Tryz
variable{W:ax}
section
open Go.RowKit Go.Shelf Go.Lib
abbrev lV:List (String×DataW Unit):=Rows.opNewsRow.laid
def u8x:U8Extra prog ij:=
 ⟨by kernel_rfl,by kernel_rfl,by kernel_rfl,by kernel_rfl,by kernel_rfl,by kernel_rfl,by kernel_rfl⟩
def UP:(Rows.laid_unicode_utf8_acceptRanges:DataW Unit)=acceptData:=by kernel_rfl
def pow_eq:(Rows.laid_internal_strconv_uint64pow10:DataW Unit)=tabData .u64 pow10Tab:=by kernel_rfl
def YE:Tryz.prog.globalNamed "internal/strconv.uint64pow10"=some 2:=by kernel_rfl
def YF(h:laidMetH prog lV W)(hsh:W.ShapedOpen prog):Gd W:=by
 rw[MakeChecks.laidMetH_plain _ _ _ (by kernel_rfl)]at h;have h1:=laidMet.reads h (n:= "unicode/utf8.first") (d:=firstData) (by rw[<-Pinned.utf8First_eq];simp[lV,Rows.opNewsRow,Rows.laid_unicode_utf8_first]);have h2:=laidMet.reads h (n:= "unicode/utf8.acceptRanges") (d:=acceptData) (by rw[<-UP];simp[lV,Rows.opNewsRow]);have h3:=laidMet.reads h (n:= "internal/strconv.uint64pow10") (d:=tabData .u64 pow10Tab) (by rw[<-pow_eq];simp[lV,Rows.opNewsRow]);obtain⟨g,t,cs,fuel,p,hg,FN,qda,hd⟩:=h3;obtain rfl:=Option.some.inj (YE.symm.trans hg);obtain rfl:=Option.some.inj ((show(Tryz.prog.globals[2]?).map (·.type)=some 420 by kernel_rfl).symm.trans FN);have hp:TabIs prog W "internal/strconv.uint64pow10" .u64 pow10Tab:=by
  unfold TabIs;rw[qda,<-cells_of_tab underlying420 underlying281 (by kernel_rfl) (by kernel_rfl) hd]
 refine⟨utf8Tabs_of_readsT (U8Types.of196 Aa) u8x h1 h2,?_,λW' hb=>Go.Joins.tab_stays YE hp hb bT⟩;exact cell_of_shapedOpen_int (zero:= #[.int .i64 0]) hsh (of_decide_eq_true (by kernel_rfl)) (by kernel_rfl) rfl (by kernel_rfl) (by kernel_rfl) underlying3
end
section
open Go.ChangeShapes Go.WideShapes Go.ChangeAt Go.RowKit
def own:ownKnob Tryz.prog.godebug=none:=by kernel_rfl
def laidOut:laidOutB prog=true:=by kernel_rfl
noncomputable def DK(os:Os):ax:=
 {World.doorLaid prog 4000 os with heap:=(World.doorLaid prog 4000 os).heap.modify 0 λo=>match o with
  | .cells _ t fr=> .cells (Lib.firstTab.map λz=>Value.int .u8 z).toArray t fr
  |o=>o}
def Ow(os:Os)(args:Array aA):laidMetH prog lV ((DK os).forCall (λ_ _=>0) ⟨#[],args,[]⟩).memory:=
 laidMetH_of_parts3 (fuel:=8) (laidMet_of_run' 8 (by kernel_rfl) (by kernel_rfl)) (by kernel_rfl) (by kernel_rfl)
abbrev Ox:Array aA:= #[.agg #[(),(),()],xI 0]
abbrev Oy {H:Type}(enc:TypeId×aA->H):ax->Array aA->Prop:=λw args=>(Rows.opNewsSpec.pre enc prog f4 [] false w args/\laidMetH prog lV w)/\sizedMet enc prog f4 (OpenSpec.ofChange Rows.opNewsSpec) false w args
def DL(os:Os){H:Type}(enc:TypeId×aA->H):∃(w:ax)(tape:Tape)(i:Input),w.os=os/\(w.forCall tape i).Shaped Tryz.checked.prog/\i.vars=[]/\Input.okWide Tryz.checked.prog (w.forCall tape i) .any w 4 i/\
 Oy enc (w.forCall tape i).memory i.args/\({}:Assume).holds Tryz.checked.prog (lone (Frame.enter Tryz.checked.prog 4 i.args .normal) [] (w.forCall tape i)):=
 ChangeSpec.witness_shaped (enc:=enc) (C:=checked) (os:=os) (s:=Rows.opNewsSpec) (fn:=f4) (X:=λw _=>laidMetH prog lV w) false (DK os) Ox 8 rfl (World.shaped_of_RefB (by kernel_rfl) (by kernel_rfl)) (by kernel_rfl) (by kernel_rfl) (by kernel_rfl) (Ow os _)
def r9:Prop:=∀(W:ax)(a b c:aA)(n:Int)(ls:List ib)(os:List jO)(rs:List jY),Gd W->ab xF W a ls->ab xF W b os->ab xF W c rs->I6 n->
 xC 4 #[.agg #[a,b,c],n] W (cu true W)
def Le(law:r9)(os:Os)(started:os.Started)(H:Type)(enc:TypeId×aA->H):
 ReturnsInHanded {} checked os 4 .any (Oy enc) (Rows.opNewsSpec.post enc prog f4 false true false false):=by
 refine returnsInHanded_of_calls own started (by kernel_rfl) (DL os enc) ?_;intro w tape i _ hsh _ hok qdb qdc;obtain⟨_,_,_,fn',qdd,_,_,_,_,Z5⟩:=hok;have e:fn'=f4:=Option.some.inj (qdd.symm.trans func4);subst e;obtain⟨⟨⟨ds,gs,before,hw,hc⟩,hx⟩,hz⟩:=qdb;have hW:=DataW.Whole.of_heap (w':=w.forCall tape i) (by rfl) hw;have hL:laidMetH prog lV (w.forCall tape i):=hx.of_heap (by rfl);have hG:Gd (w.forCall tape i):=YF hL hsh;suffices hh:xC 4 i.args (w.forCall tape i) λe W'=>∃v,e=xR v/\Rows.opNewsSpec.post enc prog f4 false true false false (w.forCall tape i) i.args v W' by
  refine hh.mono λe W'⟨v,he,hp⟩=> ?_;subst he;exact ChangeSpec.post_blind hp
 generalize w.forCall tape i=W at*;generalize i.args=args at*;clear hw hx hL hc hz qdc;have V7:∀(j:Nat)t v,Tryz.f4.params[j]? =some t->args[j]? =some v->Value.okWide prog W .any w t v:=Z5;have hW':=hW;obtain⟨p,q,hA0,hV,rfl,hfz,SF⟩:=hW;have hA:DataW.TrodAll enc prog W 0 (λ_=>true) true Tryz.f4.params.toList args.toList ds p:=hA0;rw[params4]at hA V7;obtain⟨v0,v1,d0,d1,p0,p1,e1,rfl,rfl,h0,h1⟩:=trodAll_two hA;subst e1;obtain⟨rfl,rfl⟩:=trodVars_none hV;clear hA0 Z5;simp only[List.append_nil]at hW';have bH:∀x∈p0++p1,x.block<W:=λx hx=>hW'.lt x hx;obtain⟨cs,rfl,hcs⟩:=okWide_struct underlying26 (V7 0 26 v0 rfl rfl);obtain⟨n,rfl⟩:=okWide_int underlying3 (V7 1 3 v1 rfl rfl);rw[show Tryz.prog.cellsOf 26=3 by kernel_rfl]at hcs;obtain⟨a,b,c,rfl⟩:∃a b c,cs= #[a,b,c]:=by
  obtain⟨l⟩:=cs;obtain⟨a,b,c,rfl⟩:=cells3 (show l.length=3 from hcs);exact⟨a,b,c,rfl⟩
 obtain⟨fu0,hf0⟩:=h0;obtain⟨fu1,hf1⟩:=h1;have⟨ls,os',rs,s0,s1,s2⟩:=Of (enc:=enc) (W:=W) (a:=a) (b:=b) (c:=c) ⟨fu0,_,by simpa [Value.cells]using hf0⟩;have⟨z,ez,hz⟩:=fO (enc:=enc) (W:=W) (cs:=[xI n]) ⟨fu1,_,by simpa [Value.cells]using hf1⟩;obtain rfl:n=z:=by simpa using ez
 refine(law W a b c n ls os' rs hG s0 s1 s2 hz).mono λe W'⟨he,hb⟩=> ?_;subst he;refine⟨_,rfl,_,_,_,[],p0++p1,[],hW',trodAll_mk1 (shut_bool underlying4 _),?_,rfl,hb.frame _,λh=>by cases h⟩;exact trodAll_mk2 (Below.trod laidOut (by kernel_rfl) (of_decide_eq_true (by kernel_rfl)) ⟨fu0,hf0⟩ hb (λx h=>bH x (Qch.2 (.inl h)))) (Below.trod laidOut (by kernel_rfl) (of_decide_eq_true (by kernel_rfl)) ⟨fu1,hf1⟩ hb (λx h=>bH x (Qch.2 (.inr h))))
def DM:Tryz.pinned.checked.prog.funcNamed Rows.opNewsRow.func=some 4:=by kernel_rfl
set_option maxHeartbeats 100000000 in
theorem Lf:joinedFacts Tryz.pinned.checked.prog 4 f4 Rows.opNewsSpec Rows.opNewsRow=true:=by
 unfold joinedFacts;repeat'(with_reducible refine Bool.and_eq_true_iff.2 ⟨?_,?_⟩)
 all_goals as_aux_lemma=>kernel_rfl
def Oz(law:r9)(os:Os)(started:os.Started)(H:Type)(enc:TypeId×aA->H):ReturnsInHanded Rows.opNewsRow.assume Tryz.pinned.checked os 4 .any (Rows.opNewsRow.pre enc Tryz.pinned.checked.prog f4 (OpenSpec.ofChange Rows.opNewsSpec)) (Rows.opNewsSpec.post enc Tryz.pinned.checked.prog f4 Rows.opNewsRow.apart Rows.opNewsRow.fresh Rows.opNewsRow.handsOn Rows.opNewsRow.again):=
 Le law os started H enc
def Lg {P:Program}(h:P.funcs.any Func.goes=false)(c:OpenClaim)(hs:c.start= .entering):false=c.goesBy P:=by
 have h1:∀f:FuncId,P.goes f=false:=λf=>by
  unfold Program.goes;rw[h,Bool.and_false,Bool.or_false,List.any_eq_false];intro g _ hg;cases hf:P.funcs[g]? with
  |none=>rw[hf]at hg;cases hg
  |some fn=>
   rw[hf]at hg;have hm:=Array.mem_of_getElem? hf;have h2:=Array.any_eq_false.1 h;have⟨i,hi,he⟩:=Array.mem_iff_getElem.1 hm;exact h2 i hi (by rw[he];exact hg)
 unfold OpenClaim.goesBy Program.goesAt Program.goesFrom;rw[hs];cases hn:P.funcNamed c.func with
 |none=>rfl
 |some f=>show false=(P.goes f||false);rw[h1 f];rfl
def Lh:Tryz.pinned.checked.prog.funcs.any Func.goes=false:=by kernel_rfl
def OA:false=Rows.opNewsRow.goesBy Tryz.pinned.checked.prog:=Lg Lh _ rfl
def RM:Rows.opNewsRow.wfByText (OpenSpec.ofChange Rows.opNewsSpec)=true:=by kernel_rfl
def OC:Tryz.pinned.checked.prog.mainIs=some (true,"d042ad8d7af2f95741a463d19c417cc7d63ac89787594cfc72913f8865344865".toList):=by kernel_rfl
def Li:true=Tryz.pinned.checked.prog.looks []:=by kernel_rfl
def Lj:([26,3].all λu=> !Tryz.prog.wantsStandIn u)=true:=by kernel_rfl
def OD:Tryz.f4.isInstance Tryz.pinned.checked.prog Rows.opNewsRow.origin Rows.opNewsRow.targs:=of_decide_eq_true (by kernel_rfl)
def OE:Tryz.f4.isWrapper Tryz.pinned.checked.prog Rows.opNewsRow.wrapper Rows.opNewsRow.mainSum:=by unfold Func.isWrapper;first|(rw[if_pos (by decide+kernel)];kernel_rfl)|(rw[if_neg (by decide+kernel)];exact⟨rfl,rfl⟩)
def RN(law:r9):Rows.OpNewsSaid:=
 OpenClaim.holds_of_wide 4 f4 rfl rfl rfl rfl rfl rfl rfl ⟨rfl,rfl,rfl,rfl,rfl⟩ rfl rfl rfl rfl rfl DM func4 Lf OD OE (λos started H enc _=>Oz law os started H enc)
def RO(law:r9):Rows.OpNewsCardSaid:=
 Claim7.holds_tied_plain_at .later [] [.data, .data, .data, .data, .sentinel, .sentinel, .pinned] true (true,"d042ad8d7af2f95741a463d19c417cc7d63ac89787594cfc72913f8865344865") true
  (RN law) (λ_ h=>by cases h) RM (λ_ h=>by cases h) opNews_row_tie rfl ⟨rfl,rfl⟩ OC rfl
  (λf fn hf hfn=>by
    obtain rfl:f=4:=(Option.some.inj (DM.symm.trans hf)).symm;obtain rfl:fn=f4:=(Option.some.inj (Tryz.func4.symm.trans hfn)).symm;exact⟨Li,λj t ht=>by
     rw[params4]at ht;have hm:t∈[26,3]:=by simpa using Array.mem_of_getElem? ht
     exact(show Tryz.prog.wantsStandIn t=false by simpa using List.all_eq_true.1 Lj t hm)⟩)
  OA
end
end Go.Proofs.YtepaofffbkfodaaGreatDoor
