/-
  For any small valid document, removing any items of any flow leaves a valid document: the statement DocumentSubsequences, proved for every input whose bulk is at most 1048576.
-/
import Derived.Test.YthmanofbmnfemaaGreatWef
import Derived.ProofKit
import Derived.OpenShut
import Derived.JoinedCond
import Derived.Carry
namespace Go.Proofs.YthmanofbmnfemaaGreat
set_option linter.all false
open Go.Proofs.Tryz
open Go.ChangeShapes Go.WideShapes Go.ChangeAt Go.RowKit
theorem dcOwn:ownKnob prog.godebug=none:=by kernel_rfl
theorem dcLaid:laidOutB prog=true:=by kernel_rfl
set_option maxRecDepth 100000 in
theorem dcContract (H:Type) (enc:TypeId × aj→H) (W:World) (base:Nat) (args:Array aj) (ds gs:List (DataW H)) (before:List MemPlace)
  (hval:∀ (j:Nat) t v,f6.params[j]?=some t→args[j]?=some v→Value.okWide prog W .any base t v)
  (hW:DataW.Whole enc prog f6.params.toList Rows.documentSubsequencesSpec.vars false W args.toList ds gs before) (hk:Rows.uptoSmall H (ds++gs)=true) :
  Calls prog 6 args W fun e W'=>∃ v,e=.returned v∧Rows.documentSubsequencesSpec.post enc prog f6 false true false false W args v W':=by
 have hW':=hW;obtain ⟨p,q,XE,hV,rfl,hfz,hnd⟩:=hW;have hA:DataW.TrodAll enc prog W 0 (fun _=>true) true f6.params.toList args.toList ds p:=XE;rw [params6] at hA hval;obtain ⟨v0,v1,v2,d0,d1,d2,p0,p1,p2,rfl,rfl,rfl,h0,h1,h2⟩:=trodAll_three hA;obtain ⟨rfl,rfl⟩:=trodVars_none hV;obtain ⟨cs0,rfl,-⟩:=okWide_struct aaH.und (hval 0 38 v0 rfl rfl);obtain ⟨k1,rfl⟩:=okWide_int underlying5 (hval 1 5 v1 rfl rfl);obtain ⟨k2,rfl⟩:=okWide_int underlying62 (hval 2 62 v2 rfl rfl);have h0k:=h0;obtain ⟨aqd,hf0⟩:=h0;have h1k:=h1;obtain ⟨fuel1,hf1⟩:=h1;have h2k:=h2;obtain ⟨fuel2,hf2⟩:=h2;clear XE hval
 simp only [lY] at hW' hk
 have hb:Rows.uptoBulkAll [d0,d1,d2]≤1048576:=lX hk
 simp only [Rows.uptoBulkAll] at hb
 obtain ⟨D0,e0,hcs,ajD,hz0⟩:=amx hf0 (by dsimp only;omega)
 obtain rfl:cs0=D0.cells.toArray:=by
  have:cs0.toList=D0.cells:=by simpa [Value.cells] using hcs
  rw [← Array.toArray_toList (xs:=cs0),this]
 obtain ⟨z1,e1,-,hw1⟩:=DataW.trod_int underlying5 hf1
 obtain rfl:k1=z1:=by simpa [Value.cells] using e1
 simp only [Lit.wf,IntKind.min,IntKind.max,IntKind.bits,IntKind.signed,lU,lV] at hw1
 obtain ⟨z2,e2,-,hw2⟩:=DataW.trod_int underlying62 hf2
 obtain rfl:k2=z2:=by simpa [Value.cells] using e2
 simp only [Lit.wf,IntKind.min,IntKind.max,IntKind.bits,IntKind.signed,lU,lV] at hw2
 have ajc:∀ x∈p0,x.block < W.heap.size:=fun x hx=>by simpa using hW'.lt x (by simp [hx])
 have hlt1:∀ x∈p1,x.block < W.heap.size:=fun x hx=>by simpa using hW'.lt x (by simp [hx])
 have hlt2:∀ x∈p2,x.block < W.heap.size:=fun x hx=>by simpa using hW'.lt x (by simp [hx])
 refine (aoM (oJ W) W (fun _ _ h=>h) D0 e0 ajD hz0 k1 k2 (by simpa using hw1.1) (by have:=hw1.2;simp at this;omega)).mono ?_;rintro e W' ⟨v,G',rfl,hb,-,rfl⟩;refine ⟨_,rfl,_,_,_,[],(p0++(p1++p2)),[],hW',?_,?_,?_,hb.frame _,fun h=>by cases h⟩
 ·exact trodAll_mk1 (shut_bool underlying4 _)
 ·exact trodAll_mk3 (Below.trod dcLaid (by kernel_rfl) (lX (by kernel_rfl)) h0k hb ajc) (Below.trod dcLaid (by kernel_rfl) (lX (by kernel_rfl)) h1k hb hlt1) (Below.trod dcLaid (by kernel_rfl) (lX (by kernel_rfl)) h2k hb hlt2)
 rfl
set_option maxRecDepth 100000 in
theorem dcLifted (os:Os) (started:os.Started) (H:Type) (enc:TypeId × aj→H) (F:Stop.Interp) :
  ReturnsInHanded {} checked os 6 .any ((Rows.OpenSpec.upto Rows.documentSubsequencesSpec).pre6 enc prog f6 Rows.documentSubsequencesUptoRow.domain false) (((Rows.OpenSpec.upto Rows.documentSubsequencesSpec).at F).post enc prog f6 false true false false):=by
 refine returnsInHanded_of_cond (C:=checked) (s:=Rows.OpenSpec.upto Rows.documentSubsequencesSpec) (k:=Rows.uptoSmall) rfl dcOwn started (by kernel_rfl) func6
  (OpenSpec.witness (enc:=enc) (C:=checked) (s:=Rows.OpenSpec.upto Rows.documentSubsequencesSpec) (k:=Rows.uptoSmall) rfl false ⟨#[],#[.agg #[.slice none 0 0,.slice none 0 0,vi 0,vi 0,.slice none 0 0,.slice none 0 0,.slice none 0 0,.slice none 0 0,.slice none 0 0,.slice none 0 0,.slice none 0 0],.int .u8 0,.int .u64 0],[]⟩ 8 (by kernel_rfl) (by kernel_rfl) (by kernel_rfl)
   (x:=([.agg [.nil,.agg [.nil,.agg [.lit (.int .i64 0),.lit (.int .i64 0),.nil,.nil]],.nil,.agg [.nil,.nil,.nil,.nil]],.lit (.int .u8 0),.lit (.int .u64 0)],[],[])) (by kernel_rfl) rfl (by kernel_rfl)) ?_
 intro W base args ds gs before hval hW _ hk _;exact dcContract H enc W base args ds gs before hval hW hk
theorem dcA1:(Rows.documentSubsequencesUptoRow.inPlace == prog.inPlace 6)=true:=by kernel_rfl
theorem dcA2:(Rows.documentSubsequencesUptoRow.unfollowed == prog.unfollowed 6)=true:=by kernel_rfl
theorem dcA3:(Rows.documentSubsequencesUptoRow.recurses == prog.recurses 6)=true:=by kernel_rfl
theorem dcA4:(Rows.documentSubsequencesUptoRow.named == prog.varsNamed 6)=true:=by kernel_rfl
set_option maxRecDepth 100000 in
theorem dcClosed:joinedFacts prog 6 f6 (Rows.OpenSpec.upto Rows.documentSubsequencesSpec).bare Rows.documentSubsequencesUptoRow=true:=by
 simp only [joinedFacts,lU]
 and_intros
 all_goals first|with_reducible exact dcA1|with_reducible exact dcA2|with_reducible exact dcA3|with_reducible exact dcA4|with_reducible exact dcLaid|kernel_rfl
theorem documentSubsequences_holds:Rows.DocumentSubsequencesUptoSaid :=
 OpenClaim.holds_of_cond 6 f6 rfl rfl rfl rfl rfl rfl rfl ⟨rfl,rfl,rfl,rfl,rfl⟩ rfl rfl rfl rfl rfl (by kernel_rfl) func6 dcClosed
  (lX (by kernel_rfl)) (by unfold Func.isWrapper;first|(rw [ay (by decide +kernel)];kernel_rfl)|(rw [ah (by decide +kernel)];exact ⟨rfl,rfl⟩))
  (fun os started H enc _ F=>dcLifted os started H enc F)
end Go.Proofs.YthmanofbmnfemaaGreat
