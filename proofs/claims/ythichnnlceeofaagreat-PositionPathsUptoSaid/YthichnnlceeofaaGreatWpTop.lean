/-
  For any valid document (as in PositionIndexes), any position and any flow, Path returns the containers of the flow of the position, and Lift the unit in which the position lies: the statement PositionPaths, proved for every input whose bulk is at most 1048576.
-/
import Derived.Test.YthichnnlceeofaaGreatWpf
import Derived.ProofKit
import Derived.OpenShut
import Derived.JoinedCond
import Derived.Carry
namespace Go.Proofs.YthichnnlceeofaaGreat
open Go.ChangeShapes Go.WideShapes Go.ChangeAt Go.RowKit
theorem dcOwn:ownKnob Tryz.prog.godebug=none:=by kernel_rfl
theorem dcLaid:laidOutB Tryz.prog=true:=by kernel_rfl
theorem sfPos:nG Tryz.prog 45 2 [(3,0,1),(3,1,1)]:=⟨by kernel_rfl,by kernel_rfl,by kernel_rfl⟩
theorem rd_pos {H:Type} {enc:TypeId × Value→H} {W:World} {base:Nat} {spare:Nat→Bool} {held:Bool} {n:Nat} {cs:List Value} {x:DataW H × List MemPlace} (h:DataW.trod enc Tryz.prog W base spare held n 45 cs=some x):∃ a b:Int,cs=[vi a,vi b]:=by
 obtain ⟨xs,m,hx,hl,hxl,hf⟩:=oC sfPos h
 match cs,hl,xs,hxl with
 | [c0,c1],_,[y0,y1],_ =>
  have h0:=hf 0 _ _ _ rfl;have h1:=hf 1 _ _ _ rfl;obtain ⟨k0,e0,-,-⟩:=DataW.trod_int Tryz.underlying3 h0;obtain ⟨k1,e1,-,-⟩:=DataW.trod_int Tryz.underlying3 h1
  simp at e0 e1
  subst e0 e1;exact ⟨k0,k1,rfl⟩
set_option maxRecDepth 100000 in
theorem dcContract (H:Type) (enc:TypeId × Value→H) (W:World) (base:Nat) (args:Array Value) (ds gs:List (DataW H)) (before:List MemPlace)
  (hval:∀ (j:Nat) t v,Tryz.f5.params[j]?=some t→args[j]?=some v→Value.okWide Tryz.prog W .any base t v)
  (hW:DataW.Whole enc Tryz.prog Tryz.f5.params.toList Rows.positionPathsSpec.vars false W args.toList ds gs before) (hk:Rows.uptoSmall H (ds++gs)=true) :
  Calls Tryz.prog 5 args W fun e W'=>∃ v,e=.returned v∧Rows.positionPathsSpec.post enc Tryz.prog Tryz.f5 false true false false W args v W':=by
 have hW':=hW;obtain ⟨p,q,QK,hV,rfl,hfz,hnd⟩:=hW;have hA:DataW.TrodAll enc Tryz.prog W 0 (fun _=>true) true Tryz.f5.params.toList args.toList ds p:=QK;rw [Tryz.params5] at hA hval;obtain ⟨v0,v1,v2,d0,d1,d2,p0,p1,p2,rfl,rfl,rfl,h0,h1,h2⟩:=trodAll_three hA;obtain ⟨rfl,rfl⟩:=trodVars_none hV;obtain ⟨cs0,rfl,-⟩:=okWide_struct Ue.und (hval 0 38 v0 rfl rfl);obtain ⟨cs1,rfl,-⟩:=okWide_struct sfPos.und (hval 1 45 v1 rfl rfl);obtain ⟨k2,rfl⟩:=okWide_int Tryz.underlying3 (hval 2 3 v2 rfl rfl);have h0k:=h0;obtain ⟨afT,hf0⟩:=h0;have h1k:=h1;obtain ⟨fuel1,hf1⟩:=h1;have h2k:=h2;obtain ⟨fuel2,hf2⟩:=h2;clear QK hval
 simp only [List.append_nil] at hW' hk
 have hb:Rows.uptoBulkAll [d0,d1,d2]≤1048576:=of_decide_eq_true hk
 simp only [Rows.uptoBulkAll] at hb
 obtain ⟨D,d,hcs,hrep,hz⟩:=adB hf0 (by dsimp only;omega)
 obtain rfl:cs0=D.cells.toArray:=by
  have:cs0.toList=D.cells:=by simpa [Value.cells] using hcs
  rw [← Array.toArray_toList (xs:=cs0),this]
 obtain ⟨a1,b1,e1⟩:=rd_pos hf1
 obtain rfl:cs1=#[vi a1,vi b1]:=by
  have:cs1.toList=[vi a1,vi b1]:=by simpa [Value.cells] using e1
  rw [← Array.toArray_toList (xs:=cs1),this]
 have abh:∀ x∈p0,x.block < W.heap.size:=fun x hx=>by simpa using hW'.lt x (by simp [hx])
 have hlt1:∀ x∈p1,x.block < W.heap.size:=fun x hx=>by simpa using hW'.lt x (by simp [hx])
 have hlt2:∀ x∈p2,x.block < W.heap.size:=fun x hx=>by simpa using hW'.lt x (by simp [hx])
 refine (adb (mg W) W (fun _ _ h=>h) D d hrep hz a1 b1 k2).mono ?_;rintro e W' ⟨v,G',rfl,hb,-,rfl⟩;refine ⟨_,rfl,_,_,_,[],(p0++(p1++p2)),[],hW',?_,?_,?_,hb.frame _,fun h=>by cases h⟩
 ·exact trodAll_mk1 (shut_bool Tryz.underlying4 _)
 ·exact trodAll_mk3 (Below.trod dcLaid (by kernel_rfl) (of_decide_eq_true (by kernel_rfl)) h0k hb abh) (Below.trod dcLaid (by kernel_rfl) (of_decide_eq_true (by kernel_rfl)) h1k hb hlt1) (Below.trod dcLaid (by kernel_rfl) (of_decide_eq_true (by kernel_rfl)) h2k hb hlt2)
 rfl
set_option maxRecDepth 100000 in
theorem dcLifted (os:Os) (started:os.Started) (H:Type) (enc:TypeId × Value→H) (F:Stop.Interp) :
  ReturnsInHanded {} Tryz.checked os 5 .any ((Rows.OpenSpec.upto Rows.positionPathsSpec).pre6 enc Tryz.prog Tryz.f5 Rows.positionPathsUptoRow.domain false) (((Rows.OpenSpec.upto Rows.positionPathsSpec).at F).post enc Tryz.prog Tryz.f5 false true false false):=by
 refine returnsInHanded_of_cond (C:=Tryz.checked) (s:=Rows.OpenSpec.upto Rows.positionPathsSpec) (k:=Rows.uptoSmall) rfl dcOwn started (by kernel_rfl) Tryz.func5
  (OpenSpec.witness (enc:=enc) (C:=Tryz.checked) (s:=Rows.OpenSpec.upto Rows.positionPathsSpec) (k:=Rows.uptoSmall) rfl false ⟨#[],#[.agg #[.slice none 0 0,.slice none 0 0,vi 0,vi 0,.slice none 0 0,.slice none 0 0,.slice none 0 0,.slice none 0 0,.slice none 0 0,.slice none 0 0,.slice none 0 0],.agg #[vi 0,vi 0],vi 0],[]⟩ 8 (by kernel_rfl) (by kernel_rfl) (by kernel_rfl)
   (x:=([.agg [.nil,.agg [.nil,.agg [.lit (.int .i64 0),.lit (.int .i64 0),.nil,.nil]],.nil,.agg [.nil,.nil,.nil,.nil]],.agg [.lit (.int .i64 0),.lit (.int .i64 0)],.lit (.int .i64 0)],[],[])) (by kernel_rfl) rfl (by kernel_rfl)) ?_
 intro W base args ds gs before hval hW _ hk _;exact dcContract H enc W base args ds gs before hval hW hk
theorem dcA1:(Rows.positionPathsUptoRow.inPlace == Tryz.prog.inPlace 5)=true:=by kernel_rfl
theorem dcA2:(Rows.positionPathsUptoRow.unfollowed == Tryz.prog.unfollowed 5)=true:=by kernel_rfl
theorem dcA3:(Rows.positionPathsUptoRow.recurses == Tryz.prog.recurses 5)=true:=by kernel_rfl
theorem dcA4:(Rows.positionPathsUptoRow.named == Tryz.prog.varsNamed 5)=true:=by kernel_rfl
set_option maxRecDepth 100000 in
theorem dcClosed:joinedFacts Tryz.prog 5 Tryz.f5 (Rows.OpenSpec.upto Rows.positionPathsSpec).bare Rows.positionPathsUptoRow=true:=by
 simp only [joinedFacts,Bool.and_eq_true]
 and_intros
 all_goals first|with_reducible exact dcA1|with_reducible exact dcA2|with_reducible exact dcA3|with_reducible exact dcA4|with_reducible exact dcLaid|kernel_rfl
theorem positionPaths_holds:Rows.PositionPathsUptoSaid :=
 OpenClaim.holds_of_cond 5 Tryz.f5 rfl rfl rfl rfl rfl rfl rfl ⟨rfl,rfl,rfl,rfl,rfl⟩ rfl rfl rfl rfl rfl (by kernel_rfl) Tryz.func5 dcClosed
  (of_decide_eq_true (by kernel_rfl)) (by unfold Func.isWrapper;first|(rw [if_pos (by decide +kernel)];kernel_rfl)|(rw [if_neg (by decide +kernel)];exact ⟨rfl,rfl⟩))
  (fun os started H enc _ F=>dcLifted os started H enc F)
end Go.Proofs.YthichnnlceeofaaGreat
