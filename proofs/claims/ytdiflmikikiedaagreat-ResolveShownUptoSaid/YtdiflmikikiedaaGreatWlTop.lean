/-
  For any such document Shown returns the flows of Final, each of which has the visible units of the flow in order: the statement ResolveShown, proved for every input whose bulk is at most 1048576.
-/
import Derived.Test.YtdiflmikikiedaaGreatWlg
import Derived.ProofKit
import Derived.OpenShut
import Derived.JoinedCond
import Derived.Carry
namespace Go.Proofs.YtdiflmikikiedaaGreat
set_option linter.all false
open Go.Proofs.Tryz
open Go.ChangeShapes Go.WideShapes Go.ChangeAt Go.RowKit
theorem dcOwn:ownKnob prog.godebug=none:=by kernel_rfl
theorem dcLaid:laidOutB prog=true:=by kernel_rfl
set_option maxRecDepth 100000 in
theorem dcContract (H:Type) (enc:TypeId × ah->H) (W:World) (base:Nat) (args:Array ah) (ds gs:List (DataW H)) (before:List MemPlace)
  (hval:∀ (j:Nat) t v,f11.params[j]?=some t->args[j]?=some v->Value.okWide prog W .any base t v)
  (hW:DataW.Whole enc prog f11.params.toList Rows.resolveShownSpec.vars false W args.toList ds gs before) (hk:Rows.uptoSmall H (ds++gs)=true) :
  Calls prog 11 args W fun e W'=>∃ v,e=.returned v∧Rows.resolveShownSpec.post enc prog f11 false true false false W args v W':=by
 have hW':=hW;obtain ⟨p,q,hA0,hV,rfl,hfz,hnd⟩:=hW;have hA:DataW.TrodAll enc prog W 0 (fun _=>true) true f11.params.toList args.toList ds p:=hA0;rw [params11] at hA hval;obtain ⟨v0,d0,rfl,rfl,h0⟩:=trodAll_one hA;have p0:=p;obtain ⟨rfl,rfl⟩:=trodVars_none hV;obtain ⟨cs0,rfl,-⟩:=okWide_struct ale.und (hval 0 38 v0 M M);have h0k:=h0;obtain ⟨aED,hf0⟩:=h0;clear hA0 hval
 simp only [fG] at hW' hk
 have hb:Rows.uptoBulkAll [d0]<=1048576:=rT hk
 simp only [Rows.uptoBulkAll] at hb
 obtain ⟨D0,e0,hcs,axg,hz0,aE6,aE5⟩:=aAM hf0 (by dsimp only;omega)
 obtain rfl:cs0=D0.cells.toArray:=by
  have:cs0.toList=D0.cells:=by simpa [Value.cells] using hcs
  rw [<- Array.toArray_toList (xs:=cs0),this]
 have hlt:∀ x∈p,x.block < W.heap.size:=fun x hx=>by simpa using hW'.lt x hx
 have awv:=hlt;refine (aCK (sS W) W (fun _ _ h=>h) D0 e0 axg ⟨hz0,O,O⟩).mono ?_;rintro e W' ⟨v,G',rfl,hb,-,rfl⟩;refine ⟨_,M,_,_,_,[],p,[],hW',?_,?_,?_,hb.frame _,fun h=>by cases h⟩
 ·exact trodAll_mk1 (shut_bool underlying4 _)
 ·exact trodAll_mk1 (Below.trod dcLaid V (rT V) h0k hb awv)
 rfl
set_option maxRecDepth 100000 in
theorem dcLifted (os:Os) (started:os.Started) (H:Type) (enc:TypeId × ah->H) (F:Stop.Interp) :
  ReturnsInHanded {} checked os 11 .any ((Rows.OpenSpec.upto Rows.resolveShownSpec).pre6 enc prog f11 Rows.resolveShownUptoRow.domain false) (((Rows.OpenSpec.upto Rows.resolveShownSpec).at F).post enc prog f11 false true false false):=by
 refine returnsInHanded_of_cond (C:=checked) (s:=Rows.OpenSpec.upto Rows.resolveShownSpec) (k:=Rows.uptoSmall) M dcOwn started V func11
  (OpenSpec.witness (enc:=enc) (C:=checked) (s:=Rows.OpenSpec.upto Rows.resolveShownSpec) (k:=Rows.uptoSmall) M false ⟨#[],#[.agg #[.slice none 0 0,.slice none 0 0,vi 0,vi 0,.slice none 0 0,.slice none 0 0,.slice none 0 0,.slice none 0 0,.slice none 0 0,.slice none 0 0,.slice none 0 0]],[]⟩ 8 V V V
   (x:=([.agg [.nil,.agg [.nil,.agg [.lit (.int .i64 0),.lit (.int .i64 0),.nil,.nil]],.nil,.agg [.nil,.nil,.nil,.nil]]],[],[])) V M V) ?_
 intro W base args ds gs before hval hW _ hk _;exact dcContract H enc W base args ds gs before hval hW hk
theorem dcA1:(Rows.resolveShownUptoRow.inPlace == prog.inPlace 11)=true:=by kernel_rfl
theorem dcA2:(Rows.resolveShownUptoRow.unfollowed == prog.unfollowed 11)=true:=by kernel_rfl
theorem dcA3:(Rows.resolveShownUptoRow.recurses == prog.recurses 11)=true:=by kernel_rfl
theorem dcA4:(Rows.resolveShownUptoRow.named == prog.varsNamed 11)=true:=by kernel_rfl
set_option maxRecDepth 100000 in
theorem dcClosed:joinedFacts prog 11 f11 (Rows.OpenSpec.upto Rows.resolveShownSpec).bare Rows.resolveShownUptoRow=true:=by
 simp only [joinedFacts,iC]
 and_intros
 all_goals first|with_reducible exact dcA1|with_reducible exact dcA2|with_reducible exact dcA3|with_reducible exact dcA4|with_reducible exact dcLaid|kernel_rfl
theorem resolveShown_holds:Rows.ResolveShownUptoSaid :=
 OpenClaim.holds_of_cond 11 f11 rfl rfl rfl rfl rfl rfl rfl ⟨rfl,rfl,rfl,rfl,rfl⟩ rfl rfl rfl rfl rfl V func11 dcClosed
  (rT V) (by unfold Func.isWrapper;first|(rw [ay (by decide +kernel)];kernel_rfl)|(rw [au (by decide +kernel)];exact ⟨M,M⟩))
  (fun os started H enc _ F=>dcLifted os started H enc F)
end Go.Proofs.YtdiflmikikiedaaGreat
