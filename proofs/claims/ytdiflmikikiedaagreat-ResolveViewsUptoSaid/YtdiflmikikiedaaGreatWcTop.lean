/-
  resolve: the statement ResolveViews, proved for every input whose bulk is at most 1048576.
-/
import Derived.Test.YtdiflmikikiedaaGreatWcg
import Derived.ProofKit
import Derived.OpenShut
import Derived.JoinedCond
import Derived.Carry
namespace Go.Proofs.YtdiflmikikiedaaGreat
set_option linter.all false
open Go.Proofs.Tryz
open Go.ChangeShapes Go.WideShapes Go.ChangeAt Go.RowKit
theorem dcOwn:ownKnob prog.godebug=none:=by kernel_rfl
theorem dcLaid:laidOutB prog=true:=by kernel_rfl
set_option maxRecDepth 100000 in
theorem dcContract (H:Type) (enc:TypeId × aj→H) (W:World) (base:Nat) (args:Array aj) (ds gs:List (DataW H)) (before:List MemPlace)
  (hval:∀ (j:Nat) t v,f3.params[j]?=some t→args[j]?=some v→Value.okWide prog W .any base t v)
  (hW:DataW.Whole enc prog f3.params.toList Rows.resolveViewsSpec.vars false W args.toList ds gs before) (hk:Rows.uptoSmall H (ds++gs)=true) :
  Calls prog 3 args W fun e W'=>∃ v,e=.returned v∧Rows.resolveViewsSpec.post enc prog f3 false true false false W args v W':=by
 have hW':=hW;obtain ⟨p,q,hA0,hV,rfl,hfz,hnd⟩:=hW;have hA:DataW.TrodAll enc prog W 0 (fun _=>true) true f3.params.toList args.toList ds p:=hA0;rw [params3] at hA hval;obtain ⟨v0,d0,rfl,rfl,h0⟩:=trodAll_one hA;have p0:=p;obtain ⟨rfl,rfl⟩:=trodVars_none hV;obtain ⟨cs0,rfl,-⟩:=okWide_struct adV.und (hval 0 38 v0 rfl rfl);have h0k:=h0;obtain ⟨auI,hf0⟩:=h0;clear hA0 hval
 simp only [fZ] at hW' hk
 have hb:Rows.uptoBulkAll [d0]≤1048576:=nS hk
 simp only [Rows.uptoBulkAll] at hb
 obtain ⟨D0,e0,hcs,anN,hz0,avi,avh⟩:=aqF hf0 (by dsimp only;omega)
 obtain rfl:cs0=D0.cells.toArray:=by
  have:cs0.toList=D0.cells:=by simpa [Value.cells] using hcs
  rw [← Array.toArray_toList (xs:=cs0),this]
 have hlt:∀ x∈p,x.block < W.heap.size:=fun x hx=>by simpa using hW'.lt x hx
 have ano:=hlt;refine (aub (rC W) W (fun _ _ h=>h) D0 e0 anN ⟨hz0,by omega,by omega⟩).mono ?_;rintro e W' ⟨v,G',rfl,hb,-,rfl⟩;refine ⟨_,rfl,_,_,_,[],p,[],hW',?_,?_,?_,hb.frame _,fun h=>by cases h⟩
 ·exact trodAll_mk1 (shut_bool underlying4 _)
 ·exact trodAll_mk1 (Below.trod dcLaid (by kernel_rfl) (nS (by kernel_rfl)) h0k hb ano)
 rfl
set_option maxRecDepth 100000 in
theorem dcLifted (os:Os) (started:os.Started) (H:Type) (enc:TypeId × aj→H) (F:Stop.Interp) :
  ReturnsInHanded {} checked os 3 .any ((Rows.OpenSpec.upto Rows.resolveViewsSpec).pre6 enc prog f3 Rows.resolveViewsUptoRow.domain false) (((Rows.OpenSpec.upto Rows.resolveViewsSpec).at F).post enc prog f3 false true false false):=by
 refine returnsInHanded_of_cond (C:=checked) (s:=Rows.OpenSpec.upto Rows.resolveViewsSpec) (k:=Rows.uptoSmall) rfl dcOwn started (by kernel_rfl) func3
  (OpenSpec.witness (enc:=enc) (C:=checked) (s:=Rows.OpenSpec.upto Rows.resolveViewsSpec) (k:=Rows.uptoSmall) rfl false ⟨#[],#[.agg #[.slice none 0 0,.slice none 0 0,vi 0,vi 0,.slice none 0 0,.slice none 0 0,.slice none 0 0,.slice none 0 0,.slice none 0 0,.slice none 0 0,.slice none 0 0]],[]⟩ 8 (by kernel_rfl) (by kernel_rfl) (by kernel_rfl)
   (x:=([.agg [.nil,.agg [.nil,.agg [.lit (.int .i64 0),.lit (.int .i64 0),.nil,.nil]],.nil,.agg [.nil,.nil,.nil,.nil]]],[],[])) (by kernel_rfl) rfl (by kernel_rfl)) ?_
 intro W base args ds gs before hval hW _ hk _;exact dcContract H enc W base args ds gs before hval hW hk
theorem dcA1:(Rows.resolveViewsUptoRow.inPlace == prog.inPlace 3)=true:=by kernel_rfl
theorem dcA2:(Rows.resolveViewsUptoRow.unfollowed == prog.unfollowed 3)=true:=by kernel_rfl
theorem dcA3:(Rows.resolveViewsUptoRow.recurses == prog.recurses 3)=true:=by kernel_rfl
theorem dcA4:(Rows.resolveViewsUptoRow.named == prog.varsNamed 3)=true:=by kernel_rfl
set_option maxRecDepth 100000 in
theorem dcClosed:joinedFacts prog 3 f3 (Rows.OpenSpec.upto Rows.resolveViewsSpec).bare Rows.resolveViewsUptoRow=true:=by
 simp only [joinedFacts,nK]
 and_intros
 all_goals first|with_reducible exact dcA1|with_reducible exact dcA2|with_reducible exact dcA3|with_reducible exact dcA4|with_reducible exact dcLaid|kernel_rfl
theorem resolveViews_holds:Rows.ResolveViewsUptoSaid :=
 OpenClaim.holds_of_cond 3 f3 rfl rfl rfl rfl rfl rfl rfl ⟨rfl,rfl,rfl,rfl,rfl⟩ rfl rfl rfl rfl rfl (by kernel_rfl) func3 dcClosed
  (nS (by kernel_rfl)) (by unfold Func.isWrapper;first|(rw [ak (by decide +kernel)];kernel_rfl)|(rw [ah (by decide +kernel)];exact ⟨rfl,rfl⟩))
  (fun os started H enc _ F=>dcLifted os started H enc F)
end Go.Proofs.YtdiflmikikiedaaGreat
