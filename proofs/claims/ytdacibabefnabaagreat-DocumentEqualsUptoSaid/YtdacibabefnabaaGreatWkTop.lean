/-
  Equal compares all fields of two small documents, and Clone gives an equal document that is independent: the statement DocumentEquals, proved for every input whose bulk is at most 1048576.
-/
import Derived.Test.YtdacibabefnabaaGreatWkg
import Derived.ProofKit
import Derived.OpenShut
import Derived.JoinedCond
import Derived.Carry
namespace Go.Proofs.YtdacibabefnabaaGreat
open Go.Proofs.Tryz
open Go.ChangeShapes Go.WideShapes Go.ChangeAt Go.RowKit
theorem dcOwn:ownKnob prog.godebug=none:=by kernel_rfl
theorem dcLaid:laidOutB prog=true:=by kernel_rfl
set_option maxRecDepth 100000 in
theorem dcContract (H:Type) (enc:TypeId × ak→H) (W:World) (base:Nat) (args:Array ak) (ds gs:List (DataW H)) (before:List MemPlace)
  (hval:∀ (j:Nat) t v,f3.params[j]?=some t→args[j]?=some v→Value.okWide prog W .any base t v)
  (hW:DataW.Whole enc prog f3.params.toList Rows.documentEqualsSpec.vars false W args.toList ds gs before) (hk:Rows.uptoSmall H (ds++gs)=true) :
  Calls prog 3 args W fun e W'=>∃ v,e=.returned v∧Rows.documentEqualsSpec.post enc prog f3 false true false false W args v W':=by
 have hW':=hW;obtain ⟨p,q,Ym,hV,rfl,hfz,hnd⟩:=hW;have hA:DataW.TrodAll enc prog W 0 (fun _=>true) true f3.params.toList args.toList ds p:=Ym;rw [params3] at hA hval;obtain ⟨v0,v1,d0,d1,p0,p1,rfl,rfl,rfl,h0,h1⟩:=trodAll_two hA;obtain ⟨rfl,rfl⟩:=trodVars_none hV;obtain ⟨cs0,rfl,-⟩:=okWide_struct Vf.und (hval 0 38 v0 rfl rfl);obtain ⟨cs1,rfl,-⟩:=okWide_struct Vf.und (hval 1 38 v1 rfl rfl);have h0k:=h0;obtain ⟨aoE,hf0⟩:=h0;have h1k:=h1;obtain ⟨fuel1,hf1⟩:=h1;clear Ym hval
 simp only [Ah] at hW' hk
 have hb:Rows.uptoBulkAll [d0,d1]≤1048576:=tC hk
 simp only [Rows.uptoBulkAll] at hb
 obtain ⟨D0,e0,hcs,ajJ,hz0⟩:=aaD hf0 (by dsimp only;omega)
 obtain rfl:cs0=D0.cells.toArray:=by
  have:cs0.toList=D0.cells:=by simpa [Value.cells] using hcs
  rw [← Array.toArray_toList (xs:=cs0),this]
 obtain ⟨D1,e1,hcs,TS,hz1⟩:=aaD hf1 (by dsimp only;omega)
 obtain rfl:cs1=D1.cells.toArray:=by
  have:cs1.toList=D1.cells:=by simpa [Value.cells] using hcs
  rw [← Array.toArray_toList (xs:=cs1),this]
 have ajp:∀ x∈p0,x.block < W.heap.size:=fun x hx=>by simpa using hW'.lt x (by simp [hx])
 have hlt1:∀ x∈p1,x.block < W.heap.size:=fun x hx=>by simpa using hW'.lt x (by simp [hx])
 refine (ahf (rM W) W (fun _ _ h=>h) D0 e0 ajJ hz0 D1 e1 TS hz1).mono ?_;rintro e W' ⟨v,G',rfl,hb,-,rfl⟩;refine ⟨_,rfl,_,_,_,[],p0++p1,[],hW',?_,?_,?_,hb.frame _,fun h=>by cases h⟩
 ·exact trodAll_mk1 (shut_bool underlying4 _)
 ·exact trodAll_mk2 (Below.trod dcLaid (by kernel_rfl) (tC (by kernel_rfl)) h0k hb ajp) (Below.trod dcLaid (by kernel_rfl) (tC (by kernel_rfl)) h1k hb hlt1)
 rfl
set_option maxRecDepth 100000 in
theorem dcLifted (os:Os) (started:os.Started) (H:Type) (enc:TypeId × ak→H) (F:Stop.Interp) :
  ReturnsInHanded {} checked os 3 .any ((Rows.OpenSpec.upto Rows.documentEqualsSpec).pre6 enc prog f3 Rows.documentEqualsUptoRow.domain false) (((Rows.OpenSpec.upto Rows.documentEqualsSpec).at F).post enc prog f3 false true false false):=by
 refine returnsInHanded_of_cond (C:=checked) (s:=Rows.OpenSpec.upto Rows.documentEqualsSpec) (k:=Rows.uptoSmall) rfl dcOwn started (by kernel_rfl) func3
  (OpenSpec.witness (enc:=enc) (C:=checked) (s:=Rows.OpenSpec.upto Rows.documentEqualsSpec) (k:=Rows.uptoSmall) rfl false ⟨#[],#[.agg #[.slice none 0 0,.slice none 0 0,vi 0,vi 0,.slice none 0 0,.slice none 0 0,.slice none 0 0,.slice none 0 0,.slice none 0 0,.slice none 0 0,.slice none 0 0],.agg #[.slice none 0 0,.slice none 0 0,vi 0,vi 0,.slice none 0 0,.slice none 0 0,.slice none 0 0,.slice none 0 0,.slice none 0 0,.slice none 0 0,.slice none 0 0]],[]⟩ 8 (by kernel_rfl) (by kernel_rfl) (by kernel_rfl)
   (x:=([.agg [.nil,.agg [.nil,.agg [.lit (.int .i64 0),.lit (.int .i64 0),.nil,.nil]],.nil,.agg [.nil,.nil,.nil,.nil]],.agg [.nil,.agg [.nil,.agg [.lit (.int .i64 0),.lit (.int .i64 0),.nil,.nil]],.nil,.agg [.nil,.nil,.nil,.nil]]],[],[])) (by kernel_rfl) rfl (by kernel_rfl)) ?_
 intro W base args ds gs before hval hW _ hk _;exact dcContract H enc W base args ds gs before hval hW hk
theorem dcA1:(Rows.documentEqualsUptoRow.inPlace == prog.inPlace 3)=true:=by kernel_rfl
theorem dcA2:(Rows.documentEqualsUptoRow.unfollowed == prog.unfollowed 3)=true:=by kernel_rfl
theorem dcA3:(Rows.documentEqualsUptoRow.recurses == prog.recurses 3)=true:=by kernel_rfl
theorem dcA4:(Rows.documentEqualsUptoRow.named == prog.varsNamed 3)=true:=by kernel_rfl
set_option maxRecDepth 100000 in
theorem dcClosed:joinedFacts prog 3 f3 (Rows.OpenSpec.upto Rows.documentEqualsSpec).bare Rows.documentEqualsUptoRow=true:=by
 simp only [joinedFacts,oF]
 and_intros
 all_goals first|with_reducible exact dcA1|with_reducible exact dcA2|with_reducible exact dcA3|with_reducible exact dcA4|with_reducible exact dcLaid|kernel_rfl
theorem documentEquals_holds:Rows.DocumentEqualsUptoSaid :=
 OpenClaim.holds_of_cond 3 f3 rfl rfl rfl rfl rfl rfl rfl ⟨rfl,rfl,rfl,rfl,rfl⟩ rfl rfl rfl rfl rfl (by kernel_rfl) func3 dcClosed
  (tC (by kernel_rfl)) (by unfold Func.isWrapper;first|(rw [av (by decide +kernel)];kernel_rfl)|(rw [ah (by decide +kernel)];exact ⟨rfl,rfl⟩))
  (fun os started H enc _ F=>dcLifted os started H enc F)
end Go.Proofs.YtdacibabefnabaaGreat
