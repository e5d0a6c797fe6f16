/-
  For any such document and any two disjoint decisions deciding one after the other in both orders is deciding both at once: the statement ResolveCommutes, proved for every input whose bulk is at most 1048576.
-/
import Derived.Test.YtdiflmikikiedaaGreatWkg
import Derived.ProofKit
import Derived.OpenShut
import Derived.JoinedCond
import Derived.Carry
namespace Go.Proofs.YtdiflmikikiedaaGreat
set_option linter.all false
open Go.Proofs.Tryz
open Go.ChangeShapes Go.WideShapes Go.ChangeAt Go.RowKit
theorem dcOwn:ownKnob prog.godebug=none:=by kernel_rfl
theorem dcLaid:laidOutB prog=true:=by kernel_rfl
set_option maxRecDepth 100000 in
theorem dcContract (H:Type) (enc:TypeId × ah->H) (W:World) (base:Nat) (args:Array ah) (ds gs:List (DataW H)) (before:List MemPlace)
  (hval:∀ (j:Nat) t v,f9.params[j]?=some t->args[j]?=some v->Value.okWide prog W .any base t v)
  (hW:DataW.Whole enc prog f9.params.toList Rows.resolveCommutesSpec.vars false W args.toList ds gs before) (hk:Rows.uptoSmall H (ds++gs)=true) :
  Calls prog 9 args W fun e W'=>∃ v,e=.returned v∧Rows.resolveCommutesSpec.post enc prog f9 false true false false W args v W':=by
 have hW':=hW;obtain ⟨p,q,hA0,hV,rfl,hfz,hnd⟩:=hW;have hA:DataW.TrodAll enc prog W 0 (fun _=>true) true f9.params.toList args.toList ds p:=hA0;rw [params9] at hA hval;obtain ⟨v0,v1,d0,d1,p0,p1,rfl,rfl,rfl,h0,h1⟩:=trodAll_two hA;obtain ⟨rfl,rfl⟩:=trodVars_none hV;obtain ⟨cs0,rfl,-⟩:=okWide_struct ajx.und (hval 0 38 v0 M M);obtain ⟨cs1,rfl,-⟩:=okWide_struct ajy.und (hval 1 79 v1 M M);have h0k:=h0;obtain ⟨aBG,hf0⟩:=h0;have h1k:=h1;obtain ⟨fuel1,hf1⟩:=h1;clear hA0 hval
 simp only [ig] at hW' hk
 have hb:Rows.uptoBulkAll [d0,d1]<=1048576:=pQ hk
 simp only [Rows.uptoBulkAll] at hb
 obtain ⟨D0,e0,hcs,auH,hz0,aB9,aB8⟩:=axS hf0 (by dsimp only;omega)
 obtain rfl:cs0=D0.cells.toArray:=by
  have:cs0.toList=D0.cells:=by simpa [Value.cells] using hcs
  rw [<- Array.toArray_toList (xs:=cs0),this]
 obtain ⟨A1,R1,B1,S1,va1,vr1,vb1,vs1,hcs1,hd1⟩:=axZ hf1 (by dsimp only;omega)
 obtain rfl:cs1=#[va1,vr1,vb1,vs1]:=by
  have:cs1.toList=[va1,vr1,vb1,vs1]:=by simpa [Value.cells] using hcs1
  rw [<- Array.toArray_toList (xs:=cs1),this]
 have auj:∀ x∈p0,x.block < W.heap.size:=fun x hx=>by simpa using hW'.lt x (by simp [hx])
 have hlt1:∀ x∈p1,x.block < W.heap.size:=fun x hx=>by simpa using hW'.lt x (by simp [hx])
 refine (anE (qI W) W (fun _ _ h=>h) D0 e0 auH ⟨hz0,O,O⟩ A1 R1 B1 S1 _ _ _ _ hd1).mono ?_;rintro e W' ⟨v,G',rfl,hb,-,rfl⟩;refine ⟨_,M,_,_,_,[],p0++p1,[],hW',?_,?_,?_,hb.frame _,fun h=>by cases h⟩
 ·exact trodAll_mk1 (shut_bool underlying4 _)
 ·exact trodAll_mk2 (Below.trod dcLaid V (pQ V) h0k hb auj) (Below.trod dcLaid V (pQ V) h1k hb hlt1)
 rfl
set_option maxRecDepth 100000 in
theorem dcLifted (os:Os) (started:os.Started) (H:Type) (enc:TypeId × ah->H) (F:Stop.Interp) :
  ReturnsInHanded {} checked os 9 .any ((Rows.OpenSpec.upto Rows.resolveCommutesSpec).pre6 enc prog f9 Rows.resolveCommutesUptoRow.domain false) (((Rows.OpenSpec.upto Rows.resolveCommutesSpec).at F).post enc prog f9 false true false false):=by
 refine returnsInHanded_of_cond (C:=checked) (s:=Rows.OpenSpec.upto Rows.resolveCommutesSpec) (k:=Rows.uptoSmall) M dcOwn started V func9
  (OpenSpec.witness (enc:=enc) (C:=checked) (s:=Rows.OpenSpec.upto Rows.resolveCommutesSpec) (k:=Rows.uptoSmall) M false ⟨#[],#[.agg #[.slice none 0 0,.slice none 0 0,vi 0,vi 0,.slice none 0 0,.slice none 0 0,.slice none 0 0,.slice none 0 0,.slice none 0 0,.slice none 0 0,.slice none 0 0],.agg #[.slice none 0 0,.slice none 0 0,.slice none 0 0,.slice none 0 0]],[]⟩ 8 V V V
   (x:=([.agg [.nil,.agg [.nil,.agg [.lit (.int .i64 0),.lit (.int .i64 0),.nil,.nil]],.nil,.agg [.nil,.nil,.nil,.nil]],.agg [.nil,.nil,.nil,.nil]],[],[])) V M V) ?_
 intro W base args ds gs before hval hW _ hk _;exact dcContract H enc W base args ds gs before hval hW hk
theorem dcA1:(Rows.resolveCommutesUptoRow.inPlace == prog.inPlace 9)=true:=by kernel_rfl
theorem dcA2:(Rows.resolveCommutesUptoRow.unfollowed == prog.unfollowed 9)=true:=by kernel_rfl
theorem dcA3:(Rows.resolveCommutesUptoRow.recurses == prog.recurses 9)=true:=by kernel_rfl
theorem dcA4:(Rows.resolveCommutesUptoRow.named == prog.varsNamed 9)=true:=by kernel_rfl
set_option maxRecDepth 100000 in
theorem dcClosed:joinedFacts prog 9 f9 (Rows.OpenSpec.upto Rows.resolveCommutesSpec).bare Rows.resolveCommutesUptoRow=true:=by
 simp only [joinedFacts,iL]
 and_intros
 all_goals first|with_reducible exact dcA1|with_reducible exact dcA2|with_reducible exact dcA3|with_reducible exact dcA4|with_reducible exact dcLaid|kernel_rfl
theorem resolveCommutes_holds:Rows.ResolveCommutesUptoSaid :=
 OpenClaim.holds_of_cond 9 f9 rfl rfl rfl rfl rfl rfl rfl ⟨rfl,rfl,rfl,rfl,rfl⟩ rfl rfl rfl rfl rfl V func9 dcClosed
  (pQ V) (by unfold Func.isWrapper;first|(rw [aD (by decide +kernel)];kernel_rfl)|(rw [av (by decide +kernel)];exact ⟨M,M⟩))
  (fun os started H enc _ F=>dcLifted os started H enc F)
end Go.Proofs.YtdiflmikikiedaaGreat
