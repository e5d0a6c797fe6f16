/-
  For any small valid document, any number and any small items CheckInsert returns the first error of the definition, or OK: the statement DocumentInserts, proved for every input whose bulk is at most 1048576.
-/
import Derived.Test.YthmanofbmnfemaaGreatWbf
import Derived.ProofKit
import Derived.OpenShut
import Derived.JoinedCond
import Derived.Carry
namespace Go.Proofs.YthmanofbmnfemaaGreat
open Go.Proofs.Tryz
open Go.ChangeShapes Go.WideShapes Go.ChangeAt Go.RowKit
theorem dcOwn:ownKnob prog.godebug=none:=by kernel_rfl
theorem dcLaid:laidOutB prog=true:=by kernel_rfl
set_option maxRecDepth 100000 in
theorem dcContract (H:Type) (enc:TypeId × aj→H) (W:World) (base:Nat) (args:Array aj) (ds gs:List (DataW H)) (before:List MemPlace)
  (hval:∀ (j:Nat) t v,f3.params[j]?=some t→args[j]?=some v→Value.okWide prog W .any base t v)
  (hW:DataW.Whole enc prog f3.params.toList Rows.documentInsertsSpec.vars false W args.toList ds gs before) (hk:Rows.uptoSmall H (ds++gs)=true) :
  Calls prog 3 args W fun e W'=>∃ v,e=.returned v∧Rows.documentInsertsSpec.post enc prog f3 false true false false W args v W':=by
 have hW':=hW;obtain ⟨p,q,Zj,hV,rfl,hfz,hnd⟩:=hW;have hA:DataW.TrodAll enc prog W 0 (fun _=>true) true f3.params.toList args.toList ds p:=Zj;rw [params3] at hA hval;obtain ⟨v0,v1,v2,d0,d1,d2,p0,p1,p2,rfl,rfl,rfl,h0,h1,h2⟩:=trodAll_three hA;obtain ⟨rfl,rfl⟩:=trodVars_none hV;obtain ⟨cs0,rfl,-⟩:=okWide_struct abO.und (hval 0 38 v0 rfl rfl);obtain ⟨k1,rfl⟩:=okWide_int underlying3 (hval 1 3 v1 rfl rfl);obtain ⟨XF,nl2,Yb,rfl⟩:=okWide_slice underlying22 (hval 2 22 v2 rfl rfl);have h0k:=h0;obtain ⟨aps,hf0⟩:=h0;have h1k:=h1;obtain ⟨fuel1,hf1⟩:=h1;have h2k:=h2;obtain ⟨fuel2,hf2⟩:=h2;clear Zj hval
 simp only [nH] at hW' hk
 have hb:Rows.uptoBulkAll [d0,d1,d2]≤1048576:=oD hk
 simp only [Rows.uptoBulkAll] at hb
 obtain ⟨D0,e0,hcs,ajw,hz0⟩:=aml hf0 (by dsimp only;omega)
 obtain rfl:cs0=D0.cells.toArray:=by
  have:cs0.toList=D0.cells:=by simpa [Value.cells] using hcs
  rw [← Array.toArray_toList (xs:=cs0),this]
 obtain ⟨l2,w2,hcs2,Uy,hz2⟩:=abw hf2
 obtain rfl:.slice XF nl2 Yb=w2:=by simpa [Value.cells] using hcs2
 simp only at hz2
 have aiX:∀ x∈p0,x.block < W.heap.size:=fun x hx=>by simpa using hW'.lt x (by simp [hx])
 have hlt1:∀ x∈p1,x.block < W.heap.size:=fun x hx=>by simpa using hW'.lt x (by simp [hx])
 have hlt2:∀ x∈p2,x.block < W.heap.size:=fun x hx=>by simpa using hW'.lt x (by simp [hx])
 refine (akx (qK W) W (fun _ _ h=>h) D0 e0 ajw hz0 k1 l2 (XF,nl2,Yb) Uy (by omega)).mono ?_;rintro e W' ⟨v,G',rfl,hb,-,rfl⟩;refine ⟨_,rfl,_,_,_,[],(p0++(p1++p2)),[],hW',?_,?_,?_,hb.frame _,fun h=>by cases h⟩
 ·exact trodAll_mk1 (shut_bool underlying4 _)
 ·exact trodAll_mk3 (Below.trod dcLaid (by kernel_rfl) (oD (by kernel_rfl)) h0k hb aiX) (Below.trod dcLaid (by kernel_rfl) (oD (by kernel_rfl)) h1k hb hlt1) (Below.trod dcLaid (by kernel_rfl) (oD (by kernel_rfl)) h2k hb hlt2)
 rfl
set_option maxRecDepth 100000 in
theorem dcLifted (os:Os) (started:os.Started) (H:Type) (enc:TypeId × aj→H) (F:Stop.Interp) :
  ReturnsInHanded {} checked os 3 .any ((Rows.OpenSpec.upto Rows.documentInsertsSpec).pre6 enc prog f3 Rows.documentInsertsUptoRow.domain false) (((Rows.OpenSpec.upto Rows.documentInsertsSpec).at F).post enc prog f3 false true false false):=by
 refine returnsInHanded_of_cond (C:=checked) (s:=Rows.OpenSpec.upto Rows.documentInsertsSpec) (k:=Rows.uptoSmall) rfl dcOwn started (by kernel_rfl) func3
  (OpenSpec.witness (enc:=enc) (C:=checked) (s:=Rows.OpenSpec.upto Rows.documentInsertsSpec) (k:=Rows.uptoSmall) rfl false ⟨#[],#[.agg #[.slice none 0 0,.slice none 0 0,vi 0,vi 0,.slice none 0 0,.slice none 0 0,.slice none 0 0,.slice none 0 0,.slice none 0 0,.slice none 0 0,.slice none 0 0],vi 0,.slice none 0 0],[]⟩ 8 (by kernel_rfl) (by kernel_rfl) (by kernel_rfl)
   (x:=([.agg [.nil,.agg [.nil,.agg [.lit (.int .i64 0),.lit (.int .i64 0),.nil,.nil]],.nil,.agg [.nil,.nil,.nil,.nil]],.lit (.int .i64 0),.nil],[],[])) (by kernel_rfl) rfl (by kernel_rfl)) ?_
 intro W base args ds gs before hval hW _ hk _;exact dcContract H enc W base args ds gs before hval hW hk
theorem dcA1:(Rows.documentInsertsUptoRow.inPlace == prog.inPlace 3)=true:=by kernel_rfl
theorem dcA2:(Rows.documentInsertsUptoRow.unfollowed == prog.unfollowed 3)=true:=by kernel_rfl
theorem dcA3:(Rows.documentInsertsUptoRow.recurses == prog.recurses 3)=true:=by kernel_rfl
theorem dcA4:(Rows.documentInsertsUptoRow.named == prog.varsNamed 3)=true:=by kernel_rfl
set_option maxRecDepth 100000 in
theorem dcClosed:joinedFacts prog 3 f3 (Rows.OpenSpec.upto Rows.documentInsertsSpec).bare Rows.documentInsertsUptoRow=true:=by
 simp only [joinedFacts,jr]
 and_intros
 all_goals first|with_reducible exact dcA1|with_reducible exact dcA2|with_reducible exact dcA3|with_reducible exact dcA4|with_reducible exact dcLaid|kernel_rfl
theorem documentInserts_holds:Rows.DocumentInsertsUptoSaid :=
 OpenClaim.holds_of_cond 3 f3 rfl rfl rfl rfl rfl rfl rfl ⟨rfl,rfl,rfl,rfl,rfl⟩ rfl rfl rfl rfl rfl (by kernel_rfl) func3 dcClosed
  (oD (by kernel_rfl)) (by unfold Func.isWrapper;first|(rw [au (by decide +kernel)];kernel_rfl)|(rw [ah (by decide +kernel)];exact ⟨rfl,rfl⟩))
  (fun os started H enc _ F=>dcLifted os started H enc F)
end Go.Proofs.YthmanofbmnfemaaGreat
