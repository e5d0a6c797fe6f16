/-
  For any valid document (small: Small of the package), Threads returns the comments with their replies, and each comment stands in exactly one thread: the statement AnchorThreads, proved for every input whose bulk is at most 1048576.
-/
import Derived.Test.YteopmoocmoigcaaGreatWxe
import Derived.ProofKit
import Derived.OpenShut
import Derived.JoinedCond
import Derived.Carry
namespace Go.Proofs.YteopmoocmoigcaaGreat
open Go.Proofs.Tryz
open Go.ChangeShapes Go.WideShapes Go.ChangeAt Go.RowKit
theorem dcOwn:ownKnob prog.godebug=none:=by kernel_rfl
theorem dcLaid:laidOutB prog=true:=by kernel_rfl
set_option maxRecDepth 100000 in
theorem dcContract (H:Type) (enc:TypeId × aj→H) (W:World) (base:Nat) (args:Array aj) (ds gs:List (DataW H)) (before:List MemPlace)
  (hval:∀ (j:Nat) t v,f5.params[j]?=some t→args[j]?=some v→Value.okWide prog W .any base t v)
  (hW:DataW.Whole enc prog f5.params.toList Rows.anchorThreadsSpec.vars false W args.toList ds gs before) (hk:Rows.uptoSmall H (ds++gs)=true) :
  Calls prog 5 args W fun e W'=>∃ v,e=.returned v∧Rows.anchorThreadsSpec.post enc prog f5 false true false false W args v W':=by
 have hW':=hW;obtain ⟨p,q,Tq,hV,rfl,hfz,hnd⟩:=hW;have hA:DataW.TrodAll enc prog W 0 (fun _=>true) true f5.params.toList args.toList ds p:=Tq;rw [params5] at hA hval;obtain ⟨v0,d0,rfl,rfl,h0⟩:=trodAll_one hA;have p0:=p;obtain ⟨rfl,rfl⟩:=trodVars_none hV;obtain ⟨cs0,rfl,-⟩:=okWide_struct Wu.und (hval 0 38 v0 rfl rfl);have h0k:=h0;obtain ⟨ajy,hf0⟩:=h0;clear Tq hval
 simp only [nO] at hW' hk
 have hb:Rows.uptoBulkAll [d0]≤1048576:=qg hk
 simp only [Rows.uptoBulkAll] at hb
 obtain ⟨D,d,hcs,hrep,hz⟩:=agM hf0 (by dsimp only;omega)
 obtain rfl:cs0=D.cells.toArray:=by
  have:cs0.toList=D.cells:=by simpa [Value.cells] using hcs
  rw [← Array.toArray_toList (xs:=cs0),this]
 have hlt:∀ x∈p,x.block < W.heap.size:=fun x hx=>by simpa using hW'.lt x hx
 have ael:=hlt;refine (aiG (nT W) W (fun _ _ h=>h) D d hrep hz).mono ?_;rintro e W' ⟨v,G',rfl,hb,-,rfl⟩;refine ⟨_,rfl,_,_,_,[],p,[],hW',?_,?_,?_,hb.frame _,fun h=>by cases h⟩
 ·exact trodAll_mk1 (shut_bool underlying4 _)
 ·exact trodAll_mk1 (Below.trod dcLaid (by kernel_rfl) (qg (by kernel_rfl)) h0k hb ael)
 rfl
set_option maxRecDepth 100000 in
theorem dcLifted (os:Os) (started:os.Started) (H:Type) (enc:TypeId × aj→H) (F:Stop.Interp) :
  ReturnsInHanded {} checked os 5 .any ((Rows.OpenSpec.upto Rows.anchorThreadsSpec).pre6 enc prog f5 Rows.anchorThreadsUptoRow.domain false) (((Rows.OpenSpec.upto Rows.anchorThreadsSpec).at F).post enc prog f5 false true false false):=by
 refine returnsInHanded_of_cond (C:=checked) (s:=Rows.OpenSpec.upto Rows.anchorThreadsSpec) (k:=Rows.uptoSmall) rfl dcOwn started (by kernel_rfl) func5
  (OpenSpec.witness (enc:=enc) (C:=checked) (s:=Rows.OpenSpec.upto Rows.anchorThreadsSpec) (k:=Rows.uptoSmall) rfl false ⟨#[],#[.agg #[.slice none 0 0,.slice none 0 0,vi 0,vi 0,.slice none 0 0,.slice none 0 0,.slice none 0 0,.slice none 0 0,.slice none 0 0,.slice none 0 0,.slice none 0 0]],[]⟩ 8 (by kernel_rfl) (by kernel_rfl) (by kernel_rfl)
   (x:=([.agg [.nil,.agg [.nil,.agg [.lit (.int .i64 0),.lit (.int .i64 0),.nil,.nil]],.nil,.agg [.nil,.nil,.nil,.nil]]],[],[])) (by kernel_rfl) rfl (by kernel_rfl)) ?_
 intro W base args ds gs before hval hW _ hk _;exact dcContract H enc W base args ds gs before hval hW hk
theorem dcA1:(Rows.anchorThreadsUptoRow.inPlace == prog.inPlace 5)=true:=by kernel_rfl
theorem dcA2:(Rows.anchorThreadsUptoRow.unfollowed == prog.unfollowed 5)=true:=by kernel_rfl
theorem dcA3:(Rows.anchorThreadsUptoRow.recurses == prog.recurses 5)=true:=by kernel_rfl
theorem dcA4:(Rows.anchorThreadsUptoRow.named == prog.varsNamed 5)=true:=by kernel_rfl
set_option maxRecDepth 100000 in
theorem dcClosed:joinedFacts prog 5 f5 (Rows.OpenSpec.upto Rows.anchorThreadsSpec).bare Rows.anchorThreadsUptoRow=true:=by
 simp only [joinedFacts,kK]
 and_intros
 all_goals first|with_reducible exact dcA1|with_reducible exact dcA2|with_reducible exact dcA3|with_reducible exact dcA4|with_reducible exact dcLaid|kernel_rfl
theorem anchorThreads_holds:Rows.AnchorThreadsUptoSaid :=
 OpenClaim.holds_of_cond 5 f5 rfl rfl rfl rfl rfl rfl rfl ⟨rfl,rfl,rfl,rfl,rfl⟩ rfl rfl rfl rfl rfl (by kernel_rfl) func5 dcClosed
  (qg (by kernel_rfl)) (by unfold Func.isWrapper;first|(rw [au (by decide +kernel)];kernel_rfl)|(rw [ah (by decide +kernel)];exact ⟨rfl,rfl⟩))
  (fun os started H enc _ F=>dcLifted os started H enc F)
end Go.Proofs.YteopmoocmoigcaaGreat
