/-
  For any valid document (of at most 300 units, 40 flows and 30 revisions), Count is the number of positions, Of returns them in document order, and Index leads back: the statement PositionIndexes, proved for every input whose bulk is at most 1048576.
-/
import Derived.Test.YthichnnlceeofaaGreatWif
import Derived.ProofKit
import Derived.OpenShut
import Derived.JoinedCond
import Derived.Carry
namespace Go.Proofs.YthichnnlceeofaaGreat
open Go.ChangeShapes Go.WideShapes Go.ChangeAt Go.RowKit
theorem dcOwn:ownKnob Tryz.prog.godebug=none:=by kernel_rfl
theorem dcLaid:laidOutB Tryz.prog=true:=by kernel_rfl
set_option maxRecDepth 100000 in
theorem dcContract (H:Type) (enc:TypeId × Value→H) (W:World) (base:Nat) (args:Array Value) (ds gs:List (DataW H)) (before:List MemPlace)
  (hval:∀ (j:Nat) t v,Tryz.f3.params[j]?=some t→args[j]?=some v→Value.okWide Tryz.prog W .any base t v)
  (hW:DataW.Whole enc Tryz.prog Tryz.f3.params.toList Rows.positionIndexesSpec.vars false W args.toList ds gs before) (hk:Rows.uptoSmall H (ds++gs)=true) :
  Calls Tryz.prog 3 args W fun e W'=>∃ v,e=.returned v∧Rows.positionIndexesSpec.post enc Tryz.prog Tryz.f3 false true false false W args v W':=by
 have hW':=hW;obtain ⟨p,q,hA0,hV,rfl,hfz,hnd⟩:=hW;have hA:DataW.TrodAll enc Tryz.prog W 0 (fun _=>true) true Tryz.f3.params.toList args.toList ds p:=hA0;rw [Tryz.params3] at hA hval;obtain ⟨v0,d0,rfl,rfl,h0⟩:=trodAll_one hA;have p0:=p;obtain ⟨rfl,rfl⟩:=trodVars_none hV;obtain ⟨cs0,rfl,-⟩:=okWide_struct sfDoc.und (hval 0 38 v0 rfl rfl);have h0k:=h0;obtain ⟨fuel0,hf0⟩:=h0;clear hA0 hval
 simp only [List.append_nil] at hW' hk
 have hb:Rows.uptoBulkAll [d0]≤1048576:=of_decide_eq_true hk
 simp only [Rows.uptoBulkAll] at hb
 obtain ⟨D,d,hcs,hrep,hz⟩:=rd_doc hf0 (by dsimp only;omega)
 obtain rfl:cs0=D.cells.toArray:=by
  have:cs0.toList=D.cells:=by simpa [Value.cells] using hcs
  rw [← Array.toArray_toList (xs:=cs0),this]
 have hlt:∀ x∈p,x.block < W.heap.size:=fun x hx=>by simpa using hW'.lt x hx
 have hlt0:=hlt;refine (indexes_true (heapG W) W (fun _ _ h=>h) D d hrep hz).mono ?_;rintro e W' ⟨v,G',rfl,hb,-,rfl⟩;refine ⟨_,rfl,_,_,_,[],p,[],hW',?_,?_,?_,hb.frame _,fun h=>by cases h⟩
 ·exact trodAll_mk1 (shut_bool Tryz.underlying4 _)
 ·exact trodAll_mk1 (Below.trod dcLaid (by kernel_rfl) (of_decide_eq_true (by kernel_rfl)) h0k hb hlt0)
 rfl
set_option maxRecDepth 100000 in
theorem dcLifted (os:Os) (started:os.Started) (H:Type) (enc:TypeId × Value→H) (F:Stop.Interp) :
  ReturnsInHanded {} Tryz.checked os 3 .any ((Rows.OpenSpec.upto Rows.positionIndexesSpec).pre6 enc Tryz.prog Tryz.f3 Rows.positionIndexesUptoRow.domain false) (((Rows.OpenSpec.upto Rows.positionIndexesSpec).at F).post enc Tryz.prog Tryz.f3 false true false false):=by
 refine returnsInHanded_of_cond (C:=Tryz.checked) (s:=Rows.OpenSpec.upto Rows.positionIndexesSpec) (k:=Rows.uptoSmall) rfl dcOwn started (by kernel_rfl) Tryz.func3
  (OpenSpec.witness (enc:=enc) (C:=Tryz.checked) (s:=Rows.OpenSpec.upto Rows.positionIndexesSpec) (k:=Rows.uptoSmall) rfl false ⟨#[],#[.agg #[.slice none 0 0,.slice none 0 0,vi 0,vi 0,.slice none 0 0,.slice none 0 0,.slice none 0 0,.slice none 0 0,.slice none 0 0,.slice none 0 0,.slice none 0 0]],[]⟩ 8 (by kernel_rfl) (by kernel_rfl) (by kernel_rfl)
   (x:=([.agg [.nil,.agg [.nil,.agg [.lit (.int .i64 0),.lit (.int .i64 0),.nil,.nil]],.nil,.agg [.nil,.nil,.nil,.nil]]],[],[])) (by kernel_rfl) rfl (by kernel_rfl)) ?_
 intro W base args ds gs before hval hW _ hk _;exact dcContract H enc W base args ds gs before hval hW hk
theorem dcA1:(Rows.positionIndexesUptoRow.inPlace == Tryz.prog.inPlace 3)=true:=by kernel_rfl
theorem dcA2:(Rows.positionIndexesUptoRow.unfollowed == Tryz.prog.unfollowed 3)=true:=by kernel_rfl
theorem dcA3:(Rows.positionIndexesUptoRow.recurses == Tryz.prog.recurses 3)=true:=by kernel_rfl
theorem dcA4:(Rows.positionIndexesUptoRow.named == Tryz.prog.varsNamed 3)=true:=by kernel_rfl
set_option maxRecDepth 100000 in
theorem dcClosed:joinedFacts Tryz.prog 3 Tryz.f3 (Rows.OpenSpec.upto Rows.positionIndexesSpec).bare Rows.positionIndexesUptoRow=true:=by
 simp only [joinedFacts,Bool.and_eq_true]
 and_intros
 all_goals first|with_reducible exact dcA1|with_reducible exact dcA2|with_reducible exact dcA3|with_reducible exact dcA4|with_reducible exact dcLaid|kernel_rfl
theorem positionIndexes_holds:Rows.PositionIndexesUptoSaid :=
 OpenClaim.holds_of_cond 3 Tryz.f3 rfl rfl rfl rfl rfl rfl rfl ⟨rfl,rfl,rfl,rfl,rfl⟩ rfl rfl rfl rfl rfl (by kernel_rfl) Tryz.func3 dcClosed
  (of_decide_eq_true (by kernel_rfl)) (by unfold Func.isWrapper;first|(rw [if_pos (by decide +kernel)];kernel_rfl)|(rw [if_neg (by decide +kernel)];exact ⟨rfl,rfl⟩))
  (fun os started H enc _ F=>dcLifted os started H enc F)
end Go.Proofs.YthichnnlceeofaaGreat
