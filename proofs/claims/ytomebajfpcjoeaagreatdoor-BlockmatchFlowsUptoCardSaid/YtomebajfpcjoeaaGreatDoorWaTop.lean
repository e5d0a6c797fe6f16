/-
  For any two flows of at most 24 items, Blocks and Strings return the matching and the strings, or ErrUTF8: the statement BlockmatchFlows, proved for every input whose bulk is at most 1048576; its card is tied.
-/
import Derived.Test.YtomebajfpcjoeaaGreatDoorWaf
import Derived.Lib.LaidU8T
import Derived.OpenShut
import Derived.JoinedCond
import Derived.Carry
import Derived.Test.YtomebajfpcjoeaaGreatDoorCards
import Derived.Test.YtomebajfpcjoeaaGreatDoorTie
import Derived.ProofKit
import Derived.Lay
import Derived.Deep.DeepHandedRow
import Derived.Lib.LaidTab
namespace Go.Proofs.YtomebajfpcjoeaaGreatDoor
set_option linter.all false
open Go.Proofs.Tryz
open Go.ChangeShapes Go.WideShapes Go.ChangeAt Go.RowKit
theorem first_eq:Rows.laid_unicode_utf8_first=Go.Lib.firstData:=by kernel_rfl
theorem accept_eq:(Rows.laid_unicode_utf8_acceptRanges:DataW Unit)=Go.Lib.acceptData:=by kernel_rfl
theorem dcOwn:ownKnob prog.godebug=none:=by kernel_rfl
theorem dcLaid:laidOutB prog=true:=by kernel_rfl
set_option maxRecDepth 100000 in
theorem dcContract (H:Type) (enc:TypeId × ak->H) (W:World) (base:Nat) (args:Array ak) (ds gs:List (DataW H)) (before:List MemPlace)
  (hval:∀ (j:Nat) t v,f3.params[j]?=some t->args[j]?=some v->Value.okWide prog W .any base t v)
  (hW:DataW.Whole enc prog f3.params.toList Rows.blockmatchFlowsSpec.vars false W args.toList ds gs before) (hk:Rows.uptoSmall H (ds++gs)=true) (hL:laidMetH prog Rows.blockmatchFlowsUptoRow.laid W) :
  Calls prog 3 args W fun e W'=>∃ v,e=.returned v∧Rows.blockmatchFlowsSpec.post enc prog f3 false true false false W args v W':=by
 have hW':=hW;obtain ⟨p,q,Js,hV,rfl,hfz,hnd⟩:=hW;have hA:DataW.TrodAll enc prog W 0 (fun _=>true) true f3.params.toList args.toList ds p:=Js;rw [params3] at hA hval;obtain ⟨v0,v1,d0,d1,p0,p1,rfl,rfl,rfl,h0,h1⟩:=trodAll_two hA;obtain ⟨rfl,rfl⟩:=trodVars_none hV;obtain ⟨A,n,c,rfl⟩:=okWide_slice underlying22 (hval 0 22 v0 O O);obtain ⟨B,m,d,rfl⟩:=okWide_slice underlying22 (hval 1 22 v1 O O);have h0k:=h0;obtain ⟨ajr,hf0⟩:=h0;have h1k:=h1;obtain ⟨fuel1,hf1⟩:=h1;rw [show Rows.blockmatchFlowsUptoRow.laid=[("unicode/utf8.acceptRanges",Rows.laid_unicode_utf8_acceptRanges),("unicode/utf8.first",Rows.laid_unicode_utf8_first)] from rfl,MakeChecks.laidMetH_plain _ _ _ Z] at hL;have hU:Go.Lib.Utf8Tabs 0 1 W:=utf8Tabs_of_readsT (ρ:=XL) (U8Types.of196 XK) ⟨Z,Z,Z,Z,Z,Z,Z⟩ (first_eq ▸ Lib.laidMet.reads hL (.tail _ (.head _))) (accept_eq ▸ Lib.laidMet.reads hL (.head _));have hT:yC (vo W):=⟨fun c hc=>Jl (hU.1 c hc),fun i hi=>⟨Jl (hU.2 i hi).1,Jl (hU.2 i hi).2⟩⟩
 simp only [lU] at hW' hk
 have hb:Rows.uptoBulkAll [d0,d1]<=1048576:=rG hk
 simp only [Rows.uptoBulkAll] at hb
 obtain ⟨la,va,ea,aex,hz0⟩:=Wj hf0;obtain ⟨lb,vb,eb,Ot,hz1⟩:=Wj hf1
 obtain rfl:.slice A n c=va:=by simpa [Value.cells] using ea
 obtain rfl:.slice B m d=vb:=by simpa [Value.cells] using eb
 clear Js hval
 have aed:∀ x∈p0,x.block < W.heap.size:=fun x hx=>by simpa using hW'.lt x (by simp [hx])
 have hlt1:∀ x∈p1,x.block < W.heap.size:=fun x hx=>by simpa using hW'.lt x (by simp [hx])
 refine (Zk (vo W) W (fun _ _ h=>h) hT la lb _ _ aex Ot (by dsimp only at hz0;omega) (by dsimp only at hz1;omega)).mono ?_;rintro e W' ⟨v,G',rfl,hb,-,rfl⟩;refine ⟨_,O,_,_,_,[],p0++p1,[],hW',?_,?_,?_,hb.frame _,fun h=>by cases h⟩
 ·exact trodAll_mk1 (shut_bool underlying4 _)
 ·exact trodAll_mk2 (Below.trod dcLaid Z (rG Z) h0k hb aed) (Below.trod dcLaid Z (rG Z) h1k hb hlt1)
 rfl
noncomputable abbrev SA (os:Os):World:=World.laidAll prog os Rows.blockmatchFlowsUptoRow.laid
theorem dcReads (os:Os) {H:Type} (enc:TypeId × ak->H):∃ places,DataW.whole enc prog ((SA os).forCall (fun _ _=>0) ⟨#[],#[.slice none 0 0,.slice none 0 0],[]⟩).memory f3.params.toList Rows.blockmatchFlowsSpec.vars false #[Value.slice none 0 0,.slice none 0 0].toList 8=some ([.nil,.nil],[],places) :=
 ⟨[],Z⟩
set_option maxRecDepth 100000 in
theorem dcLifted (os:Os) (started:os.Started) (H:Type) (enc:TypeId × ak->H) (F:Stop.Interp) :
  ReturnsInHanded {} checked os 3 .any ((Rows.OpenSpec.upto Rows.blockmatchFlowsSpec).preRow enc prog f3 Rows.blockmatchFlowsUptoRow.domain false Rows.blockmatchFlowsUptoRow.laid) (((Rows.OpenSpec.upto Rows.blockmatchFlowsSpec).at F).post enc prog f3 false true false false):=by
 obtain ⟨places,hx⟩:=dcReads os enc
 refine returnsInHanded_of_row (C:=checked) (s:=Rows.OpenSpec.upto Rows.blockmatchFlowsSpec) dcOwn started Z func3
  (witness_row_at (enc:=enc) (C:=checked) false (SA os) #[.slice none 0 0,.slice none 0 0] (World.laidAll_os _ _ _) Z Z Z
   (OpenSpec.preRow_of_cond 8 hx Z (fun k hk=>by cases hk;kernel_rfl) Z
    (by rw [MakeChecks.laidMetH_plain _ _ _ Z];exact laidMet_laidAll _ Z Z))) ?_
 intro W base args ds gs before hval hW _ hcond _ hL _ _;exact dcContract H enc W base args ds gs before hval hW (hcond _ O) hL
theorem dcSaid:Rows.BlockmatchFlowsUptoSaid :=
 OpenClaim.holds_of_cond 3 f3 rfl rfl rfl rfl rfl rfl rfl ⟨rfl,rfl,rfl,rfl,rfl⟩ rfl rfl rfl rfl rfl Z func3 Z
  (rG Z) (by unfold Func.isWrapper;first|(rw [aN (by decide +kernel)];kernel_rfl)|(rw [aL (by decide +kernel)];exact ⟨O,O⟩))
  (fun os started H enc _ F=>by rw [OpenClaim.pre_eq_preRow];exact dcLifted os started H enc F)
theorem blockmatchFlows_holds:Rows.BlockmatchFlowsUptoCardSaid :=
 Claim7.holds_tied_plain_at .later [] _ _ _ _ dcSaid (fun _ h=>by cases h) Z (fun _ h=>by cases h) blockmatchFlowsUpto_row_tie rfl ⟨rfl,rfl⟩ Z rfl
  (fun f fn hf hfn=>by
   obtain rfl:f=3:=Option.some.inj ((show prog.funcNamed "obelus/obeluslaw31.BlockmatchFlows"=some 3 by kernel_rfl).symm.trans hf) |>.symm;obtain rfl:fn=f3:=(Option.some.inj (func3.symm.trans hfn)).symm
   exact ⟨Z,fun j t ht=>by
    rw [params3] at ht
    have hm:t∈[22,22]:=by simpa using Array.mem_of_getElem? ht
    have hall:([22,22].all fun u=>!prog.wantsStandIn u)=true:=by kernel_rfl
    exact (show prog.wantsStandIn t=false by simpa using gW.1 hall t hm)⟩)
  Z
end Go.Proofs.YtomebajfpcjoeaaGreatDoor
