/-
  resolve: the statement ResolveVisible, proved for every input whose bulk is at most 1048576.
-/
import Derived.Test.YtdiflmikikiedaaGreatWdg
import Derived.ProofKit
import Derived.OpenShut
import Derived.JoinedCond
import Derived.Carry
namespace Go.Proofs.YtdiflmikikiedaaGreat
set_option linter.all false
open Go.Proofs.Tryz
open Go.ChangeShapes Go.WideShapes Go.ChangeAt Go.RowKit
theorem dcOwn:ownKnob prog.godebug=none:=by kernel_rfl
theorem dcLaid:laidOutB prog=true:=by kernel_rfl
set_option maxRecDepth 100000 in
theorem dcContract (H:Type) (enc:TypeId × aj→H) (W:World) (base:Nat) (args:Array aj) (ds gs:List (DataW H)) (before:List MemPlace)
  (hval:∀ (j:Nat) t v,f7.params[j]?=some t→args[j]?=some v→Value.okWide prog W .any base t v)
  (hW:DataW.Whole enc prog f7.params.toList Rows.resolveVisibleSpec.vars false W args.toList ds gs before) (hk:Rows.uptoSmall H (ds++gs)=true) :
  Calls prog 7 args W fun e W'=>∃ v,e=.returned v∧Rows.resolveVisibleSpec.post enc prog f7 false true false false W args v W':=by
 have hW':=hW;obtain ⟨p,q,Za,hV,rfl,hfz,hnd⟩:=hW;have hA:DataW.TrodAll enc prog W 0 (fun _=>true) true f7.params.toList args.toList ds p:=Za;rw [params7] at hA hval;obtain ⟨v0,v1,d0,d1,p0,p1,rfl,rfl,rfl,h0,h1⟩:=trodAll_two hA;obtain ⟨rfl,rfl⟩:=trodVars_none hV;obtain ⟨cs0,rfl,-⟩:=okWide_struct abY.und (hval 0 38 v0 rfl rfl);obtain ⟨k1,rfl⟩:=okWide_int underlying3 (hval 1 3 v1 rfl rfl);have h0k:=h0;obtain ⟨asM,hf0⟩:=h0;have h1k:=h1;obtain ⟨fuel1,hf1⟩:=h1;clear Za hval
 simp only [jf] at hW' hk
 have hb:Rows.uptoBulkAll [d0,d1]≤1048576:=nK hk
 simp only [Rows.uptoBulkAll] at hb
 obtain ⟨D0,e0,hcs,alP,hz0,atm,atl⟩:=aoC hf0 (by dsimp only;omega)
 obtain rfl:cs0=D0.cells.toArray:=by
  have:cs0.toList=D0.cells:=by simpa [Value.cells] using hcs
  rw [← Array.toArray_toList (xs:=cs0),this]
 have alm:∀ x∈p0,x.block < W.heap.size:=fun x hx=>by simpa using hW'.lt x (by simp [hx])
 have hlt1:∀ x∈p1,x.block < W.heap.size:=fun x hx=>by simpa using hW'.lt x (by simp [hx])
 refine (arR (qW W) W (fun _ _ h=>h) D0 e0 alP ⟨hz0,by omega,by omega⟩ k1).mono ?_;rintro e W' ⟨v,G',rfl,hb,-,rfl⟩;refine ⟨_,rfl,_,_,_,[],p0++p1,[],hW',?_,?_,?_,hb.frame _,fun h=>by cases h⟩
 ·exact trodAll_mk1 (shut_bool underlying4 _)
 ·exact trodAll_mk2 (Below.trod dcLaid (by kernel_rfl) (nK (by kernel_rfl)) h0k hb alm) (Below.trod dcLaid (by kernel_rfl) (nK (by kernel_rfl)) h1k hb hlt1)
 rfl
set_option maxRecDepth 100000 in
theorem dcLifted (os:Os) (started:os.Started) (H:Type) (enc:TypeId × aj→H) (F:Stop.Interp) :
  ReturnsInHanded {} checked os 7 .any ((Rows.OpenSpec.upto Rows.resolveVisibleSpec).pre6 enc prog f7 Rows.resolveVisibleUptoRow.domain false) (((Rows.OpenSpec.upto Rows.resolveVisibleSpec).at F).post enc prog f7 false true false false):=by
 refine returnsInHanded_of_cond (C:=checked) (s:=Rows.OpenSpec.upto Rows.resolveVisibleSpec) (k:=Rows.uptoSmall) rfl dcOwn started (by kernel_rfl) func7
  (OpenSpec.witness (enc:=enc) (C:=checked) (s:=Rows.OpenSpec.upto Rows.resolveVisibleSpec) (k:=Rows.uptoSmall) rfl false ⟨#[],#[.agg #[.slice none 0 0,.slice none 0 0,vi 0,vi 0,.slice none 0 0,.slice none 0 0,.slice none 0 0,.slice none 0 0,.slice none 0 0,.slice none 0 0,.slice none 0 0],vi 0],[]⟩ 8 (by kernel_rfl) (by kernel_rfl) (by kernel_rfl)
   (x:=([.agg [.nil,.agg [.nil,.agg [.lit (.int .i64 0),.lit (.int .i64 0),.nil,.nil]],.nil,.agg [.nil,.nil,.nil,.nil]],.lit (.int .i64 0)],[],[])) (by kernel_rfl) rfl (by kernel_rfl)) ?_
 intro W base args ds gs before hval hW _ hk _;exact dcContract H enc W base args ds gs before hval hW hk
theorem dcA1:(Rows.resolveVisibleUptoRow.inPlace == prog.inPlace 7)=true:=by kernel_rfl
theorem dcA2:(Rows.resolveVisibleUptoRow.unfollowed == prog.unfollowed 7)=true:=by kernel_rfl
theorem dcA3:(Rows.resolveVisibleUptoRow.recurses == prog.recurses 7)=true:=by kernel_rfl
theorem dcA4:(Rows.resolveVisibleUptoRow.named == prog.varsNamed 7)=true:=by kernel_rfl
set_option maxRecDepth 100000 in
theorem dcClosed:joinedFacts prog 7 f7 (Rows.OpenSpec.upto Rows.resolveVisibleSpec).bare Rows.resolveVisibleUptoRow=true:=by
 simp only [joinedFacts,oN]
 and_intros
 all_goals first|with_reducible exact dcA1|with_reducible exact dcA2|with_reducible exact dcA3|with_reducible exact dcA4|with_reducible exact dcLaid|kernel_rfl
theorem resolveVisible_holds:Rows.ResolveVisibleUptoSaid :=
 OpenClaim.holds_of_cond 7 f7 rfl rfl rfl rfl rfl rfl rfl ⟨rfl,rfl,rfl,rfl,rfl⟩ rfl rfl rfl rfl rfl (by kernel_rfl) func7 dcClosed
  (nK (by kernel_rfl)) (by unfold Func.isWrapper;first|(rw [au (by decide +kernel)];kernel_rfl)|(rw [ah (by decide +kernel)];exact ⟨rfl,rfl⟩))
  (fun os started H enc _ F=>dcLifted os started H enc F)
end Go.Proofs.YtdiflmikikiedaaGreat
