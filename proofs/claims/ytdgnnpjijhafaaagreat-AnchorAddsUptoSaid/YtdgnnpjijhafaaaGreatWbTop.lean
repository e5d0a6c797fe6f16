/-
  For any small valid document, any name and any range, Add gives the edits that add a bookmark, or the first error: the statement AnchorAdds, proved for every input whose bulk is at most 1048576.
-/
import Derived.Test.YtdgnnpjijhafaaaGreatWbg
import Derived.ProofKit
import Derived.OpenShut
import Derived.JoinedCond
import Derived.Carry
namespace Go.Proofs.YtdgnnpjijhafaaaGreat
set_option linter.all false
open Go.Proofs.Tryz
open Go.ChangeShapes Go.WideShapes Go.ChangeAt Go.RowKit
theorem dcOwn:ownKnob prog.godebug=none:=by kernel_rfl
theorem dcLaid:laidOutB prog=true:=by kernel_rfl
theorem sfRng:uO prog 51 3 [(3,0,1),(3,1,1),(3,2,1)]:=⟨V,V,V⟩
theorem rd_range {H:Type} {enc:TypeId × aj->H} {W:World} {base:Nat} {spare:Nat->Bool} {held:Bool} {n:Nat} {cs:List aj} {x:DataW H × List MemPlace} (h:DataW.trod enc prog W base spare held n 51 cs=some x):∃ a b c:Int,cs=[vi a,vi b,vi c]:=by
 obtain ⟨xs,m,hx,hl,hxl,hf⟩:=vT sfRng h
 match cs,hl,xs,hxl with
 | [c0,c1,c2],_,[y0,y1,y2],_ =>
  have h0:=hf 0 _ _ _ M;have h1:=hf 1 _ _ _ M;have h2:=hf 2 _ _ _ M;obtain ⟨k0,e0,-,-⟩:=DataW.trod_int underlying3 h0;obtain ⟨k1,e1,-,-⟩:=DataW.trod_int underlying3 h1;obtain ⟨k2,e2,-,-⟩:=DataW.trod_int underlying3 h2
  simp at e0 e1 e2
  subst e0 e1 e2;exact ⟨k0,k1,k2,M⟩
set_option maxRecDepth 100000 in
theorem dcContract (H:Type) (enc:TypeId × aj->H) (W:World) (base:Nat) (args:Array aj) (ds gs:List (DataW H)) (before:List MemPlace)
  (hval:∀ (j:Nat) t v,f4.params[j]?=some t->args[j]?=some v->Value.okWide prog W .any base t v)
  (hW:DataW.Whole enc prog f4.params.toList Rows.anchorAddsSpec.vars false W args.toList ds gs before) (hk:Rows.uptoSmall H (ds++gs)=true) :
  Calls prog 4 args W fun e W'=>∃ v,e=.returned v∧Rows.anchorAddsSpec.post enc prog f4 false true false false W args v W':=by
 have hW':=hW;obtain ⟨p,q,hA0,hV,rfl,hfz,hnd⟩:=hW;have hA:DataW.TrodAll enc prog W 0 (fun _=>true) true f4.params.toList args.toList ds p:=hA0;rw [params4] at hA hval;obtain ⟨v0,v1,v2,d0,d1,d2,p0,p1,p2,rfl,rfl,rfl,h0,h1,h2⟩:=trodAll_three hA;obtain ⟨rfl,rfl⟩:=trodVars_none hV;obtain ⟨cs0,rfl,-⟩:=okWide_struct aqE.und (hval 0 38 v0 M M);obtain ⟨k1,rfl⟩:=okWide_string underlying9 (hval 1 9 v1 M M);obtain ⟨cs2,rfl,-⟩:=okWide_struct sfRng.und (hval 2 51 v2 M M);have h0k:=h0;obtain ⟨aJC,hf0⟩:=h0;have h1k:=h1;obtain ⟨fuel1,hf1⟩:=h1;have h2k:=h2;obtain ⟨fuel2,hf2⟩:=h2;clear hA0 hval
 simp only [iR] at hW' hk
 have hb:Rows.uptoBulkAll [d0,d1,d2]<=1048576:=mW hk
 simp only [Rows.uptoBulkAll] at hb
 obtain ⟨D0,e0,hcs,aDh,hz0,aCh,aKa⟩:=aGa hf0 (by dsimp only;omega)
 obtain rfl:cs0=D0.cells.toArray:=by
  have:cs0.toList=D0.cells:=by simpa [Value.cells] using hcs
  rw [<- Array.toArray_toList (xs:=cs0),this]
 obtain ⟨a2,b2,c2,e2⟩:=rd_range hf2
 obtain rfl:cs2=#[vi a2,vi b2,vi c2]:=by
  have:cs2.toList=[vi a2,vi b2,vi c2]:=by simpa [Value.cells] using e2
  rw [<- Array.toArray_toList (xs:=cs2),this]
 have aCz:∀ x∈p0,x.block < W.heap.size:=fun x hx=>by simpa using hW'.lt x (by simp [hx])
 have hlt1:∀ x∈p1,x.block < W.heap.size:=fun x hx=>by simpa using hW'.lt x (by simp [hx])
 have hlt2:∀ x∈p2,x.block < W.heap.size:=fun x hx=>by simpa using hW'.lt x (by simp [hx])
 refine (aty (tF W) W (fun _ _ h=>h) D0 e0 aDh hz0 aCh k1 a2 b2 c2).mono ?_;rintro e W' ⟨v,G',rfl,hb,-,rfl⟩;refine ⟨_,M,_,_,_,[],(p0++(p1++p2)),[],hW',?_,?_,?_,hb.frame _,fun h=>by cases h⟩
 ·exact trodAll_mk1 (shut_bool underlying4 _)
 ·exact trodAll_mk3 (Below.trod dcLaid V (mW V) h0k hb aCz) (Below.trod dcLaid V (mW V) h1k hb hlt1) (Below.trod dcLaid V (mW V) h2k hb hlt2)
 rfl
set_option maxRecDepth 100000 in
theorem dcLifted (os:Os) (started:os.Started) (H:Type) (enc:TypeId × aj->H) (F:Stop.Interp) :
  ReturnsInHanded {} checked os 4 .any ((Rows.OpenSpec.upto Rows.anchorAddsSpec).pre6 enc prog f4 Rows.anchorAddsUptoRow.domain false) (((Rows.OpenSpec.upto Rows.anchorAddsSpec).at F).post enc prog f4 false true false false):=by
 refine returnsInHanded_of_cond (C:=checked) (s:=Rows.OpenSpec.upto Rows.anchorAddsSpec) (k:=Rows.uptoSmall) M dcOwn started V func4
  (OpenSpec.witness (enc:=enc) (C:=checked) (s:=Rows.OpenSpec.upto Rows.anchorAddsSpec) (k:=Rows.uptoSmall) M false ⟨#[],#[.agg #[.slice none 0 0,.slice none 0 0,vi 0,vi 0,.slice none 0 0,.slice none 0 0,.slice none 0 0,.slice none 0 0,.slice none 0 0,.slice none 0 0,.slice none 0 0],.string ⟨#[]⟩,.agg #[vi 0,vi 0,vi 0]],[]⟩ 8 V V V
   (x:=([.agg [.nil,.agg [.nil,.agg [.lit (.int .i64 0),.lit (.int .i64 0),.nil,.nil]],.nil,.agg [.nil,.nil,.nil,.nil]],.lit (.string []),.agg [.lit (.int .i64 0),.lit (.int .i64 0),.lit (.int .i64 0)]],[],[])) V M V) ?_
 intro W base args ds gs before hval hW _ hk _;exact dcContract H enc W base args ds gs before hval hW hk
theorem dcA1:(Rows.anchorAddsUptoRow.inPlace == prog.inPlace 4)=true:=by kernel_rfl
theorem dcA2:(Rows.anchorAddsUptoRow.unfollowed == prog.unfollowed 4)=true:=by kernel_rfl
theorem dcA3:(Rows.anchorAddsUptoRow.recurses == prog.recurses 4)=true:=by kernel_rfl
theorem dcA4:(Rows.anchorAddsUptoRow.named == prog.varsNamed 4)=true:=by kernel_rfl
set_option maxRecDepth 100000 in
theorem dcClosed:joinedFacts prog 4 f4 (Rows.OpenSpec.upto Rows.anchorAddsSpec).bare Rows.anchorAddsUptoRow=true:=by
 simp only [joinedFacts,kV]
 and_intros
 all_goals first|with_reducible exact dcA1|with_reducible exact dcA2|with_reducible exact dcA3|with_reducible exact dcA4|with_reducible exact dcLaid|kernel_rfl
theorem anchorAdds_holds:Rows.AnchorAddsUptoSaid :=
 OpenClaim.holds_of_cond 4 f4 rfl rfl rfl rfl rfl rfl rfl ⟨rfl,rfl,rfl,rfl,rfl⟩ rfl rfl rfl rfl rfl V func4 dcClosed
  (mW V) (by unfold Func.isWrapper;first|(rw [ay (by decide +kernel)];kernel_rfl)|(rw [au (by decide +kernel)];exact ⟨M,M⟩))
  (fun os started H enc _ F=>dcLifted os started H enc F)
end Go.Proofs.YtdgnnpjijhafaaaGreat
