/-
  resolve: the statement ResolveRows, proved for every input whose bulk is at most 1048576.
-/
import Derived.Test.YtdiflmikikiedaaGreatWeg
import Derived.ProofKit
import Derived.OpenShut
import Derived.JoinedCond
import Derived.Carry
namespace Go.Proofs.YtdiflmikikiedaaGreat
set_option linter.all false
open Go.Proofs.Tryz
open Go.ChangeShapes Go.WideShapes Go.ChangeAt Go.RowKit
theorem dcOwn:ownKnob prog.godebug=none:=by kernel_rfl
theorem dcLaid:laidOutB prog=true:=by kernel_rfl
set_option maxRecDepth 100000 in
theorem dcContract (H:Type) (enc:TypeId × aj→H) (W:World) (base:Nat) (args:Array aj) (ds gs:List (DataW H)) (before:List MemPlace)
  (hval:∀ (j:Nat) t v,f8.params[j]?=some t→args[j]?=some v→Value.okWide prog W .any base t v)
  (hW:DataW.Whole enc prog f8.params.toList Rows.resolveRowsSpec.vars false W args.toList ds gs before) (hk:Rows.uptoSmall H (ds++gs)=true) :
  Calls prog 8 args W fun e W'=>∃ v,e=.returned v∧Rows.resolveRowsSpec.post enc prog f8 false true false false W args v W':=by
 have hW':=hW;obtain ⟨p,q,ZY,hV,rfl,hfz,hnd⟩:=hW;have hA:DataW.TrodAll enc prog W 0 (fun _=>true) true f8.params.toList args.toList ds p:=ZY;rw [params8] at hA hval;obtain ⟨v0,v1,v2,d0,d1,d2,p0,p1,p2,rfl,rfl,rfl,h0,h1,h2⟩:=trodAll_three hA;obtain ⟨rfl,rfl⟩:=trodVars_none hV;obtain ⟨cs0,rfl,-⟩:=okWide_struct adk.und (hval 0 38 v0 rfl rfl);obtain ⟨k1,rfl⟩:=okWide_int underlying3 (hval 1 3 v1 rfl rfl);obtain ⟨k2,rfl⟩:=okWide_int underlying3 (hval 2 3 v2 rfl rfl);have h0k:=h0;obtain ⟨aty,hf0⟩:=h0;have h1k:=h1;obtain ⟨fuel1,hf1⟩:=h1;have h2k:=h2;obtain ⟨fuel2,hf2⟩:=h2;clear ZY hval
 simp only [jd] at hW' hk
 have hb:Rows.uptoBulkAll [d0,d1,d2]≤1048576:=mM hk
 simp only [Rows.uptoBulkAll] at hb
 obtain ⟨D0,e0,hcs,amA,hz0,auc,aub⟩:=apu hf0 (by dsimp only;omega)
 obtain rfl:cs0=D0.cells.toArray:=by
  have:cs0.toList=D0.cells:=by simpa [Value.cells] using hcs
  rw [← Array.toArray_toList (xs:=cs0),this]
 have amb:∀ x∈p0,x.block < W.heap.size:=fun x hx=>by simpa using hW'.lt x (by simp [hx])
 have hlt1:∀ x∈p1,x.block < W.heap.size:=fun x hx=>by simpa using hW'.lt x (by simp [hx])
 have hlt2:∀ x∈p2,x.block < W.heap.size:=fun x hx=>by simpa using hW'.lt x (by simp [hx])
 refine (apX (rC W) W (fun _ _ h=>h) D0 e0 amA ⟨hz0,by omega,by omega⟩ k1 k2).mono ?_;rintro e W' ⟨v,G',rfl,hb,-,rfl⟩;refine ⟨_,rfl,_,_,_,[],(p0++(p1++p2)),[],hW',?_,?_,?_,hb.frame _,fun h=>by cases h⟩
 ·exact trodAll_mk1 (shut_bool underlying4 _)
 ·exact trodAll_mk3 (Below.trod dcLaid (by kernel_rfl) (mM (by kernel_rfl)) h0k hb amb) (Below.trod dcLaid (by kernel_rfl) (mM (by kernel_rfl)) h1k hb hlt1) (Below.trod dcLaid (by kernel_rfl) (mM (by kernel_rfl)) h2k hb hlt2)
 rfl
set_option maxRecDepth 100000 in
theorem dcLifted (os:Os) (started:os.Started) (H:Type) (enc:TypeId × aj→H) (F:Stop.Interp) :
  ReturnsInHanded {} checked os 8 .any ((Rows.OpenSpec.upto Rows.resolveRowsSpec).pre6 enc prog f8 Rows.resolveRowsUptoRow.domain false) (((Rows.OpenSpec.upto Rows.resolveRowsSpec).at F).post enc prog f8 false true false false):=by
 refine returnsInHanded_of_cond (C:=checked) (s:=Rows.OpenSpec.upto Rows.resolveRowsSpec) (k:=Rows.uptoSmall) rfl dcOwn started (by kernel_rfl) func8
  (OpenSpec.witness (enc:=enc) (C:=checked) (s:=Rows.OpenSpec.upto Rows.resolveRowsSpec) (k:=Rows.uptoSmall) rfl false ⟨#[],#[.agg #[.slice none 0 0,.slice none 0 0,vi 0,vi 0,.slice none 0 0,.slice none 0 0,.slice none 0 0,.slice none 0 0,.slice none 0 0,.slice none 0 0,.slice none 0 0],vi 0,vi 0],[]⟩ 8 (by kernel_rfl) (by kernel_rfl) (by kernel_rfl)
   (x:=([.agg [.nil,.agg [.nil,.agg [.lit (.int .i64 0),.lit (.int .i64 0),.nil,.nil]],.nil,.agg [.nil,.nil,.nil,.nil]],.lit (.int .i64 0),.lit (.int .i64 0)],[],[])) (by kernel_rfl) rfl (by kernel_rfl)) ?_
 intro W base args ds gs before hval hW _ hk _;exact dcContract H enc W base args ds gs before hval hW hk
theorem dcA1:(Rows.resolveRowsUptoRow.inPlace == prog.inPlace 8)=true:=by kernel_rfl
theorem dcA2:(Rows.resolveRowsUptoRow.unfollowed == prog.unfollowed 8)=true:=by kernel_rfl
theorem dcA3:(Rows.resolveRowsUptoRow.recurses == prog.recurses 8)=true:=by kernel_rfl
theorem dcA4:(Rows.resolveRowsUptoRow.named == prog.varsNamed 8)=true:=by kernel_rfl
set_option maxRecDepth 100000 in
theorem dcClosed:joinedFacts prog 8 f8 (Rows.OpenSpec.upto Rows.resolveRowsSpec).bare Rows.resolveRowsUptoRow=true:=by
 simp only [joinedFacts,pF]
 and_intros
 all_goals first|with_reducible exact dcA1|with_reducible exact dcA2|with_reducible exact dcA3|with_reducible exact dcA4|with_reducible exact dcLaid|kernel_rfl
theorem resolveRows_holds:Rows.ResolveRowsUptoSaid :=
 OpenClaim.holds_of_cond 8 f8 rfl rfl rfl rfl rfl rfl rfl ⟨rfl,rfl,rfl,rfl,rfl⟩ rfl rfl rfl rfl rfl (by kernel_rfl) func8 dcClosed
  (mM (by kernel_rfl)) (by unfold Func.isWrapper;first|(rw [au (by decide +kernel)];kernel_rfl)|(rw [ah (by decide +kernel)];exact ⟨rfl,rfl⟩))
  (fun os started H enc _ F=>dcLifted os started H enc F)
end Go.Proofs.YtdiflmikikiedaaGreat
