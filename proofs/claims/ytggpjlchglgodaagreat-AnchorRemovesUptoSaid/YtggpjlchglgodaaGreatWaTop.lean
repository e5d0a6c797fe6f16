/-
  For any small valid document and any number, Remove gives the edits that drop the anchors of the bookmark: the statement AnchorRemoves, proved for every input whose bulk is at most 1048576.
-/
import Derived.Test.YtggpjlchglgodaaGreatWag
import Derived.ProofKit
import Derived.OpenShut
import Derived.JoinedCond
import Derived.Carry
namespace Go.Proofs.YtggpjlchglgodaaGreat
set_option linter.all false
open Go.Proofs.Tryz
open Go.ChangeShapes Go.WideShapes Go.ChangeAt Go.RowKit
theorem dcOwn:ownKnob prog.godebug=none:=by kernel_rfl
theorem dcLaid:laidOutB prog=true:=by kernel_rfl
set_option maxRecDepth 100000 in
theorem dcContract (H:Type) (enc:TypeId × ah->H) (W:World) (base:Nat) (args:Array ah) (ds gs:List (DataW H)) (before:List MemPlace)
  (hval:∀ (j:Nat) t v,f4.params[j]?=some t->args[j]?=some v->Value.okWide prog W .any base t v)
  (hW:DataW.Whole enc prog f4.params.toList Rows.anchorRemovesSpec.vars false W args.toList ds gs before) (hk:Rows.uptoSmall H (ds++gs)=true) :
  Calls prog 4 args W fun e W'=>∃ v,e=.returned v∧Rows.anchorRemovesSpec.post enc prog f4 false true false false W args v W':=by
 have hW':=hW;obtain ⟨p,q,hA0,hV,rfl,hfz,hnd⟩:=hW;have hA:DataW.TrodAll enc prog W 0 (fun _=>true) true f4.params.toList args.toList ds p:=hA0;rw [params4] at hA hval;obtain ⟨v0,v1,d0,d1,p0,p1,rfl,rfl,rfl,h0,h1⟩:=trodAll_two hA;obtain ⟨rfl,rfl⟩:=trodVars_none hV;obtain ⟨cs0,rfl,-⟩:=okWide_struct akE.und (hval 0 38 v0 O O);obtain ⟨k1,rfl⟩:=okWide_int underlying3 (hval 1 3 v1 O O);have h0k:=h0;obtain ⟨aDi,hf0⟩:=h0;have h1k:=h1;obtain ⟨fuel1,hf1⟩:=h1;clear hA0 hval
 simp only [jV] at hW' hk
 have hb:Rows.uptoBulkAll [d0,d1]<=1048576:=pK hk
 simp only [Rows.uptoBulkAll] at hb
 obtain ⟨D0,e0,hcs,awm,hz0⟩:=azE hf0 (by dsimp only;omega)
 obtain rfl:cs0=D0.cells.toArray:=by
  have:cs0.toList=D0.cells:=by simpa [Value.cells] using hcs
  rw [<- Array.toArray_toList (xs:=cs0),this]
 have avD:∀ x∈p0,x.block < W.heap.size:=fun x hx=>by simpa using hW'.lt x (by simp [hx])
 have hlt1:∀ x∈p1,x.block < W.heap.size:=fun x hx=>by simpa using hW'.lt x (by simp [hx])
 refine (azV (qG W) W (fun _ _ h=>h) D0 e0 awm hz0 k1).mono ?_;rintro e W' ⟨v,G',rfl,hb,-,rfl⟩;refine ⟨_,O,_,_,_,[],p0++p1,[],hW',?_,?_,?_,hb.frame _,fun h=>by cases h⟩
 ·exact trodAll_mk1 (shut_bool underlying4 _)
 ·exact trodAll_mk2 (Below.trod dcLaid Z (pK Z) h0k hb avD) (Below.trod dcLaid Z (pK Z) h1k hb hlt1)
 rfl
set_option maxRecDepth 100000 in
theorem dcLifted (os:Os) (started:os.Started) (H:Type) (enc:TypeId × ah->H) (F:Stop.Interp) :
  ReturnsInHanded {} checked os 4 .any ((Rows.OpenSpec.upto Rows.anchorRemovesSpec).pre6 enc prog f4 Rows.anchorRemovesUptoRow.domain false) (((Rows.OpenSpec.upto Rows.anchorRemovesSpec).at F).post enc prog f4 false true false false):=by
 refine returnsInHanded_of_cond (C:=checked) (s:=Rows.OpenSpec.upto Rows.anchorRemovesSpec) (k:=Rows.uptoSmall) O dcOwn started Z func4
  (OpenSpec.witness (enc:=enc) (C:=checked) (s:=Rows.OpenSpec.upto Rows.anchorRemovesSpec) (k:=Rows.uptoSmall) O false ⟨#[],#[.agg #[.slice none 0 0,.slice none 0 0,vi 0,vi 0,.slice none 0 0,.slice none 0 0,.slice none 0 0,.slice none 0 0,.slice none 0 0,.slice none 0 0,.slice none 0 0],vi 0],[]⟩ 8 Z Z Z
   (x:=([.agg [.nil,.agg [.nil,.agg [.lit (.int .i64 0),.lit (.int .i64 0),.nil,.nil]],.nil,.agg [.nil,.nil,.nil,.nil]],.lit (.int .i64 0)],[],[])) Z O Z) ?_
 intro W base args ds gs before hval hW _ hk _;exact dcContract H enc W base args ds gs before hval hW hk
theorem dcA1:(Rows.anchorRemovesUptoRow.inPlace == prog.inPlace 4)=true:=by kernel_rfl
theorem dcA2:(Rows.anchorRemovesUptoRow.unfollowed == prog.unfollowed 4)=true:=by kernel_rfl
theorem dcA3:(Rows.anchorRemovesUptoRow.recurses == prog.recurses 4)=true:=by kernel_rfl
theorem dcA4:(Rows.anchorRemovesUptoRow.named == prog.varsNamed 4)=true:=by kernel_rfl
set_option maxRecDepth 100000 in
theorem dcClosed:joinedFacts prog 4 f4 (Rows.OpenSpec.upto Rows.anchorRemovesSpec).bare Rows.anchorRemovesUptoRow=true:=by
 simp only [joinedFacts,mG]
 and_intros
 all_goals first|with_reducible exact dcA1|with_reducible exact dcA2|with_reducible exact dcA3|with_reducible exact dcA4|with_reducible exact dcLaid|kernel_rfl
theorem anchorRemoves_holds:Rows.AnchorRemovesUptoSaid :=
 OpenClaim.holds_of_cond 4 f4 rfl rfl rfl rfl rfl rfl rfl ⟨rfl,rfl,rfl,rfl,rfl⟩ rfl rfl rfl rfl rfl Z func4 dcClosed
  (pK Z) (by unfold Func.isWrapper;first|(rw [aH (by decide +kernel)];kernel_rfl)|(rw [ay (by decide +kernel)];exact ⟨O,O⟩))
  (fun os started H enc _ F=>dcLifted os started H enc F)
end Go.Proofs.YtggpjlchglgodaaGreat
