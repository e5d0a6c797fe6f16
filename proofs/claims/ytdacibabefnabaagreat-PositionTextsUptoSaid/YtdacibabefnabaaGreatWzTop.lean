/-
  For any valid document (small: Small of the package) and any range, Text returns the characters of the units, or the error: the statement PositionTexts, proved for every input whose bulk is at most 1048576.
-/
import Derived.Test.YtdacibabefnabaaGreatWze
import Derived.ProofKit
import Derived.OpenShut
import Derived.JoinedCond
import Derived.Carry
namespace Go.Proofs.YtdacibabefnabaaGreat
open Go.Proofs.Tryz
open Go.ChangeShapes Go.WideShapes Go.ChangeAt Go.RowKit
theorem dcOwn:ownKnob prog.godebug=none:=by kernel_rfl
theorem dcLaid:laidOutB prog=true:=by kernel_rfl
theorem sfRng:pG prog 51 3 [(3,0,1),(3,1,1),(3,2,1)]:=⟨by kernel_rfl,by kernel_rfl,by kernel_rfl⟩
theorem rd_range {H:Type} {enc:TypeId × aj→H} {W:World} {base:Nat} {spare:Nat→Bool} {held:Bool} {n:Nat} {cs:List aj} {x:DataW H × List MemPlace} (h:DataW.trod enc prog W base spare held n 51 cs=some x):∃ a b c:Int,cs=[vi a,vi b,vi c]:=by
 obtain ⟨xs,m,hx,hl,hxl,hf⟩:=qF sfRng h
 match cs,hl,xs,hxl with
 | [c0,c1,c2],_,[y0,y1,y2],_ =>
  have h0:=hf 0 _ _ _ rfl;have h1:=hf 1 _ _ _ rfl;have h2:=hf 2 _ _ _ rfl;obtain ⟨k0,e0,-,-⟩:=DataW.trod_int underlying3 h0;obtain ⟨k1,e1,-,-⟩:=DataW.trod_int underlying3 h1;obtain ⟨k2,e2,-,-⟩:=DataW.trod_int underlying3 h2
  simp at e0 e1 e2
  subst e0 e1 e2;exact ⟨k0,k1,k2,rfl⟩
set_option maxRecDepth 100000 in
theorem dcContract (H:Type) (enc:TypeId × aj→H) (W:World) (base:Nat) (args:Array aj) (ds gs:List (DataW H)) (before:List MemPlace)
  (hval:∀ (j:Nat) t v,f4.params[j]?=some t→args[j]?=some v→Value.okWide prog W .any base t v)
  (hW:DataW.Whole enc prog f4.params.toList Rows.positionTextsSpec.vars false W args.toList ds gs before) (hk:Rows.uptoSmall H (ds++gs)=true) :
  Calls prog 4 args W fun e W'=>∃ v,e=.returned v∧Rows.positionTextsSpec.post enc prog f4 false true false false W args v W':=by
 have hW':=hW;obtain ⟨p,q,Tk,hV,rfl,hfz,hnd⟩:=hW;have hA:DataW.TrodAll enc prog W 0 (fun _=>true) true f4.params.toList args.toList ds p:=Tk;rw [params4] at hA hval;obtain ⟨v0,v1,d0,d1,p0,p1,rfl,rfl,rfl,h0,h1⟩:=trodAll_two hA;obtain ⟨rfl,rfl⟩:=trodVars_none hV;obtain ⟨cs0,rfl,-⟩:=okWide_struct VD.und (hval 0 38 v0 rfl rfl);obtain ⟨cs1,rfl,-⟩:=okWide_struct sfRng.und (hval 1 51 v1 rfl rfl);have h0k:=h0;obtain ⟨aiE,hf0⟩:=h0;have h1k:=h1;obtain ⟨fuel1,hf1⟩:=h1;clear Tk hval
 simp only [vN] at hW' hk
 have hb:Rows.uptoBulkAll [d0,d1]≤1048576:=rF hk
 simp only [Rows.uptoBulkAll] at hb
 obtain ⟨D,d,hcs,hrep,hz⟩:=afP hf0 (by dsimp only;omega)
 obtain rfl:cs0=D.cells.toArray:=by
  have:cs0.toList=D.cells:=by simpa [Value.cells] using hcs
  rw [← Array.toArray_toList (xs:=cs0),this]
 obtain ⟨a1,b1,c1,e1⟩:=rd_range hf1
 obtain rfl:cs1=#[vi a1,vi b1,vi c1]:=by
  have:cs1.toList=[vi a1,vi b1,vi c1]:=by simpa [Value.cells] using e1
  rw [← Array.toArray_toList (xs:=cs1),this]
 have adJ:∀ x∈p0,x.block < W.heap.size:=fun x hx=>by simpa using hW'.lt x (by simp [hx])
 have hlt1:∀ x∈p1,x.block < W.heap.size:=fun x hx=>by simpa using hW'.lt x (by simp [hx])
 refine (ahw (nW W) W (fun _ _ h=>h) D d hrep hz a1 b1 c1).mono ?_;rintro e W' ⟨v,G',rfl,hb,-,rfl⟩;refine ⟨_,rfl,_,_,_,[],p0++p1,[],hW',?_,?_,?_,hb.frame _,fun h=>by cases h⟩
 ·exact trodAll_mk1 (shut_bool underlying4 _)
 ·exact trodAll_mk2 (Below.trod dcLaid (by kernel_rfl) (rF (by kernel_rfl)) h0k hb adJ) (Below.trod dcLaid (by kernel_rfl) (rF (by kernel_rfl)) h1k hb hlt1)
 rfl
set_option maxRecDepth 100000 in
theorem dcLifted (os:Os) (started:os.Started) (H:Type) (enc:TypeId × aj→H) (F:Stop.Interp) :
  ReturnsInHanded {} checked os 4 .any ((Rows.OpenSpec.upto Rows.positionTextsSpec).pre6 enc prog f4 Rows.positionTextsUptoRow.domain false) (((Rows.OpenSpec.upto Rows.positionTextsSpec).at F).post enc prog f4 false true false false):=by
 refine returnsInHanded_of_cond (C:=checked) (s:=Rows.OpenSpec.upto Rows.positionTextsSpec) (k:=Rows.uptoSmall) rfl dcOwn started (by kernel_rfl) func4
  (OpenSpec.witness (enc:=enc) (C:=checked) (s:=Rows.OpenSpec.upto Rows.positionTextsSpec) (k:=Rows.uptoSmall) rfl false ⟨#[],#[.agg #[.slice none 0 0,.slice none 0 0,vi 0,vi 0,.slice none 0 0,.slice none 0 0,.slice none 0 0,.slice none 0 0,.slice none 0 0,.slice none 0 0,.slice none 0 0],.agg #[vi 0,vi 0,vi 0]],[]⟩ 8 (by kernel_rfl) (by kernel_rfl) (by kernel_rfl)
   (x:=([.agg [.nil,.agg [.nil,.agg [.lit (.int .i64 0),.lit (.int .i64 0),.nil,.nil]],.nil,.agg [.nil,.nil,.nil,.nil]],.agg [.lit (.int .i64 0),.lit (.int .i64 0),.lit (.int .i64 0)]],[],[])) (by kernel_rfl) rfl (by kernel_rfl)) ?_
 intro W base args ds gs before hval hW _ hk _;exact dcContract H enc W base args ds gs before hval hW hk
theorem dcA1:(Rows.positionTextsUptoRow.inPlace == prog.inPlace 4)=true:=by kernel_rfl
theorem dcA2:(Rows.positionTextsUptoRow.unfollowed == prog.unfollowed 4)=true:=by kernel_rfl
theorem dcA3:(Rows.positionTextsUptoRow.recurses == prog.recurses 4)=true:=by kernel_rfl
theorem dcA4:(Rows.positionTextsUptoRow.named == prog.varsNamed 4)=true:=by kernel_rfl
set_option maxRecDepth 100000 in
theorem dcClosed:joinedFacts prog 4 f4 (Rows.OpenSpec.upto Rows.positionTextsSpec).bare Rows.positionTextsUptoRow=true:=by
 simp only [joinedFacts,jS]
 and_intros
 all_goals first|with_reducible exact dcA1|with_reducible exact dcA2|with_reducible exact dcA3|with_reducible exact dcA4|with_reducible exact dcLaid|kernel_rfl
theorem positionTexts_holds:Rows.PositionTextsUptoSaid :=
 OpenClaim.holds_of_cond 4 f4 rfl rfl rfl rfl rfl rfl rfl ⟨rfl,rfl,rfl,rfl,rfl⟩ rfl rfl rfl rfl rfl (by kernel_rfl) func4 dcClosed
  (rF (by kernel_rfl)) (by unfold Func.isWrapper;first|(rw [au (by decide +kernel)];kernel_rfl)|(rw [ah (by decide +kernel)];exact ⟨rfl,rfl⟩))
  (fun os started H enc _ F=>dcLifted os started H enc F)
end Go.Proofs.YtdacibabefnabaaGreat
