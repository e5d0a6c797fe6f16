/-
  For any valid document (small: Small of the package) and any position, At returns the bookmarks and comments whose ranges contain it, or the first error: the statement AnchorPositions, proved for every input whose bulk is at most 1048576.
-/
import Derived.Test.YteopmoocmoigcaaGreatWvf
import Derived.ProofKit
import Derived.OpenShut
import Derived.JoinedCond
import Derived.Carry
namespace Go.Proofs.YteopmoocmoigcaaGreat
open Go.Proofs.Tryz
open Go.ChangeShapes Go.WideShapes Go.ChangeAt Go.RowKit
theorem dcOwn:ownKnob prog.godebug=none:=by kernel_rfl
theorem dcLaid:laidOutB prog=true:=by kernel_rfl
theorem sfPos:qo prog 45 2 [(3,0,1),(3,1,1)]:=⟨by kernel_rfl,by kernel_rfl,by kernel_rfl⟩
theorem rd_pos {H:Type} {enc:TypeId × aj→H} {W:World} {base:Nat} {spare:Nat→Bool} {held:Bool} {n:Nat} {cs:List aj} {x:DataW H × List MemPlace} (h:DataW.trod enc prog W base spare held n 45 cs=some x):∃ a b:Int,cs=[vi a,vi b]:=by
 obtain ⟨xs,m,hx,hl,hxl,hf⟩:=qY sfPos h
 match cs,hl,xs,hxl with
 | [c0,c1],_,[y0,y1],_ =>
  have h0:=hf 0 _ _ _ rfl;have h1:=hf 1 _ _ _ rfl;obtain ⟨k0,e0,-,-⟩:=DataW.trod_int underlying3 h0;obtain ⟨k1,e1,-,-⟩:=DataW.trod_int underlying3 h1
  simp at e0 e1
  subst e0 e1;exact ⟨k0,k1,rfl⟩
set_option maxRecDepth 100000 in
theorem dcContract (H:Type) (enc:TypeId × aj→H) (W:World) (base:Nat) (args:Array aj) (ds gs:List (DataW H)) (before:List MemPlace)
  (hval:∀ (j:Nat) t v,f6.params[j]?=some t→args[j]?=some v→Value.okWide prog W .any base t v)
  (hW:DataW.Whole enc prog f6.params.toList Rows.anchorPositionsSpec.vars false W args.toList ds gs before) (hk:Rows.uptoSmall H (ds++gs)=true) :
  Calls prog 6 args W fun e W'=>∃ v,e=.returned v∧Rows.anchorPositionsSpec.post enc prog f6 false true false false W args v W':=by
 have hW':=hW;obtain ⟨p,q,U4,hV,rfl,hfz,hnd⟩:=hW;have hA:DataW.TrodAll enc prog W 0 (fun _=>true) true f6.params.toList args.toList ds p:=U4;rw [params6] at hA hval;obtain ⟨v0,v1,d0,d1,p0,p1,rfl,rfl,rfl,h0,h1⟩:=trodAll_two hA;obtain ⟨rfl,rfl⟩:=trodVars_none hV;obtain ⟨cs0,rfl,-⟩:=okWide_struct Ya.und (hval 0 38 v0 rfl rfl);obtain ⟨cs1,rfl,-⟩:=okWide_struct sfPos.und (hval 1 45 v1 rfl rfl);have h0k:=h0;obtain ⟨alA,hf0⟩:=h0;have h1k:=h1;obtain ⟨fuel1,hf1⟩:=h1;clear U4 hval
 simp only [oF] at hW' hk
 have hb:Rows.uptoBulkAll [d0,d1]≤1048576:=rF hk
 simp only [Rows.uptoBulkAll] at hb
 obtain ⟨D,d,hcs,hrep,hz⟩:=aje hf0 (by dsimp only;omega)
 obtain rfl:cs0=D.cells.toArray:=by
  have:cs0.toList=D.cells:=by simpa [Value.cells] using hcs
  rw [← Array.toArray_toList (xs:=cs0),this]
 obtain ⟨a1,b1,e1⟩:=rd_pos hf1
 obtain rfl:cs1=#[vi a1,vi b1]:=by
  have:cs1.toList=[vi a1,vi b1]:=by simpa [Value.cells] using e1
  rw [← Array.toArray_toList (xs:=cs1),this]
 have agi:∀ x∈p0,x.block < W.heap.size:=fun x hx=>by simpa using hW'.lt x (by simp [hx])
 have hlt1:∀ x∈p1,x.block < W.heap.size:=fun x hx=>by simpa using hW'.lt x (by simp [hx])
 refine (aiY (oJ W) W (fun _ _ h=>h) D d hrep hz a1 b1).mono ?_;rintro e W' ⟨v,G',rfl,hb,-,rfl⟩;refine ⟨_,rfl,_,_,_,[],p0++p1,[],hW',?_,?_,?_,hb.frame _,fun h=>by cases h⟩
 ·exact trodAll_mk1 (shut_bool underlying4 _)
 ·exact trodAll_mk2 (Below.trod dcLaid (by kernel_rfl) (rF (by kernel_rfl)) h0k hb agi) (Below.trod dcLaid (by kernel_rfl) (rF (by kernel_rfl)) h1k hb hlt1)
 rfl
set_option maxRecDepth 100000 in
theorem dcLifted (os:Os) (started:os.Started) (H:Type) (enc:TypeId × aj→H) (F:Stop.Interp) :
  ReturnsInHanded {} checked os 6 .any ((Rows.OpenSpec.upto Rows.anchorPositionsSpec).pre6 enc prog f6 Rows.anchorPositionsUptoRow.domain false) (((Rows.OpenSpec.upto Rows.anchorPositionsSpec).at F).post enc prog f6 false true false false):=by
 refine returnsInHanded_of_cond (C:=checked) (s:=Rows.OpenSpec.upto Rows.anchorPositionsSpec) (k:=Rows.uptoSmall) rfl dcOwn started (by kernel_rfl) func6
  (OpenSpec.witness (enc:=enc) (C:=checked) (s:=Rows.OpenSpec.upto Rows.anchorPositionsSpec) (k:=Rows.uptoSmall) rfl false ⟨#[],#[.agg #[.slice none 0 0,.slice none 0 0,vi 0,vi 0,.slice none 0 0,.slice none 0 0,.slice none 0 0,.slice none 0 0,.slice none 0 0,.slice none 0 0,.slice none 0 0],.agg #[vi 0,vi 0]],[]⟩ 8 (by kernel_rfl) (by kernel_rfl) (by kernel_rfl)
   (x:=([.agg [.nil,.agg [.nil,.agg [.lit (.int .i64 0),.lit (.int .i64 0),.nil,.nil]],.nil,.agg [.nil,.nil,.nil,.nil]],.agg [.lit (.int .i64 0),.lit (.int .i64 0)]],[],[])) (by kernel_rfl) rfl (by kernel_rfl)) ?_
 intro W base args ds gs before hval hW _ hk _;exact dcContract H enc W base args ds gs before hval hW hk
theorem dcA1:(Rows.anchorPositionsUptoRow.inPlace == prog.inPlace 6)=true:=by kernel_rfl
theorem dcA2:(Rows.anchorPositionsUptoRow.unfollowed == prog.unfollowed 6)=true:=by kernel_rfl
theorem dcA3:(Rows.anchorPositionsUptoRow.recurses == prog.recurses 6)=true:=by kernel_rfl
theorem dcA4:(Rows.anchorPositionsUptoRow.named == prog.varsNamed 6)=true:=by kernel_rfl
set_option maxRecDepth 100000 in
theorem dcClosed:joinedFacts prog 6 f6 (Rows.OpenSpec.upto Rows.anchorPositionsSpec).bare Rows.anchorPositionsUptoRow=true:=by
 simp only [joinedFacts,lD]
 and_intros
 all_goals first|with_reducible exact dcA1|with_reducible exact dcA2|with_reducible exact dcA3|with_reducible exact dcA4|with_reducible exact dcLaid|kernel_rfl
theorem anchorPositions_holds:Rows.AnchorPositionsUptoSaid :=
 OpenClaim.holds_of_cond 6 f6 rfl rfl rfl rfl rfl rfl rfl ⟨rfl,rfl,rfl,rfl,rfl⟩ rfl rfl rfl rfl rfl (by kernel_rfl) func6 dcClosed
  (rF (by kernel_rfl)) (by unfold Func.isWrapper;first|(rw [au (by decide +kernel)];kernel_rfl)|(rw [ah (by decide +kernel)];exact ⟨rfl,rfl⟩))
  (fun os started H enc _ F=>dcLifted os started H enc F)
end Go.Proofs.YteopmoocmoigcaaGreat
