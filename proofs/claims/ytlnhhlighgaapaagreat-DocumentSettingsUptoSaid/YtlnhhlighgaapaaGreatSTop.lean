/-
  For any small settings, CheckSettings returns the first error of the definition, or OK: the statement DocumentSettings, proved for every input whose bulk is at most 1048576.
-/
import Derived.Test.YtlnhhlighgaapaaGreatSf
import Derived.ProofKit
import Derived.OpenShut
import Derived.JoinedCond
import Derived.Carry
namespace Go.Proofs.YtlnhhlighgaapaaGreat
open Go.ChangeShapes Go.WideShapes Go.ChangeAt Go.RowKit
theorem dsOwn:ownKnob Tryz.prog.godebug=none:=by kernel_rfl
theorem dsLaid:laidOutB Tryz.prog=true:=by kernel_rfl
set_option maxRecDepth 100000 in
theorem dsContract (H:Type) (enc:TypeId × Value→H) (W:World) (base:Nat) (args:Array Value) (ds gs:List (DataW H)) (before:List MemPlace)
  (hval:∀ (j:Nat) t v,Tryz.f4.params[j]?=some t→args[j]?=some v→Value.okWide Tryz.prog W .any base t v)
  (hW:DataW.Whole enc Tryz.prog Tryz.f4.params.toList Rows.documentSettingsSpec.vars false W args.toList ds gs before) (hk:Rows.uptoSmall H (ds++gs)=true) :
  Calls Tryz.prog 4 args W fun e W'=>∃ v,e=.returned v∧Rows.documentSettingsSpec.post enc Tryz.prog Tryz.f4 false true false false W args v W':=by
 have hW':=hW;obtain ⟨p,q,hA0,hV,rfl,hfz,hnd⟩:=hW;have hA:DataW.TrodAll enc Tryz.prog W 0 (fun _=>true) true Tryz.f4.params.toList args.toList ds p:=hA0;rw [Tryz.params4] at hA hval;obtain ⟨v0,d0,rfl,rfl,h0⟩:=trodAll_one hA;obtain ⟨rfl,rfl⟩:=trodVars_none hV;obtain ⟨cs,rfl,-⟩:=okWide_struct sfStg.und (hval 0 46 v0 rfl rfl);have h0k:=h0;obtain ⟨fuel,hf⟩:=h0;clear hA0 hval
 simp only [List.append_nil] at hW' hk
 have hb:Rows.uptoBulkAll [d0]≤1048576:=of_decide_eq_true hk
 simp only [Rows.uptoBulkAll] at hb
 obtain ⟨s,a,b,c,d,hcs,hrep,hz⟩:=rd_stg hf
 obtain rfl:cs=#[a,b,c,d]:=by
  have:cs.toList=[a,b,c,d]:=by simpa [Value.cells] using hcs
  rw [← Array.toArray_toList (xs:=cs),this]
 have hlt:∀ x∈p,x.block < W.heap.size:=fun x hx=>by simpa using hW'.lt x hx
 simp only at hz
 obtain ⟨hz1,hz2⟩:=hz.zn (by omega);refine (settings_true (heapG W) W (fun _ _ h=>h) s _ _ _ _ hrep hz2 hz1).mono ?_;rintro e W' ⟨v,G',rfl,hb,-,rfl⟩;refine ⟨_,rfl,_,_,_,[],p,[],hW',?_,?_,?_,hb.frame _,fun h=>by cases h⟩
 ·exact trodAll_mk1 (shut_bool Tryz.underlying4 _)
 ·exact trodAll_mk1 (Below.trod dsLaid (by kernel_rfl) (of_decide_eq_true (by kernel_rfl)) h0k hb hlt)
 rfl
set_option maxRecDepth 100000 in
theorem dsLifted (os:Os) (started:os.Started) (H:Type) (enc:TypeId × Value→H) (F:Stop.Interp) :
  ReturnsInHanded {} Tryz.checked os 4 .any ((Rows.OpenSpec.upto Rows.documentSettingsSpec).pre6 enc Tryz.prog Tryz.f4 Rows.documentSettingsUptoRow.domain false) (((Rows.OpenSpec.upto Rows.documentSettingsSpec).at F).post enc Tryz.prog Tryz.f4 false true false false):=by
 refine returnsInHanded_of_cond (C:=Tryz.checked) (s:=Rows.OpenSpec.upto Rows.documentSettingsSpec) (k:=Rows.uptoSmall) rfl dsOwn started (by kernel_rfl) Tryz.func4
  (OpenSpec.witness (enc:=enc) (C:=Tryz.checked) (s:=Rows.OpenSpec.upto Rows.documentSettingsSpec) (k:=Rows.uptoSmall) rfl false ⟨#[],#[.agg #[.slice none 0 0,.slice none 0 0,.slice none 0 0,.slice none 0 0]],[]⟩ 8 (by kernel_rfl) (by kernel_rfl) (by kernel_rfl)
   (x:=([.agg [.nil,.nil,.nil,.nil]],[],[])) (by kernel_rfl) rfl (by kernel_rfl)) ?_
 intro W base args ds gs before hval hW _ hk _;exact dsContract H enc W base args ds gs before hval hW hk
theorem dsA1:(Rows.documentSettingsUptoRow.inPlace == Tryz.prog.inPlace 4)=true:=by kernel_rfl
theorem dsA2:(Rows.documentSettingsUptoRow.unfollowed == Tryz.prog.unfollowed 4)=true:=by kernel_rfl
theorem dsA3:(Rows.documentSettingsUptoRow.recurses == Tryz.prog.recurses 4)=true:=by kernel_rfl
theorem dsA4:(Rows.documentSettingsUptoRow.named == Tryz.prog.varsNamed 4)=true:=by kernel_rfl
set_option maxRecDepth 100000 in
theorem dsClosed:joinedFacts Tryz.prog 4 Tryz.f4 (Rows.OpenSpec.upto Rows.documentSettingsSpec).bare Rows.documentSettingsUptoRow=true:=by
 simp only [joinedFacts,Bool.and_eq_true]
 and_intros
 all_goals first|with_reducible exact dsA1|with_reducible exact dsA2|with_reducible exact dsA3|with_reducible exact dsA4|with_reducible exact dsLaid|kernel_rfl
theorem documentSettings_holds:Rows.DocumentSettingsUptoSaid :=
 OpenClaim.holds_of_cond 4 Tryz.f4 rfl rfl rfl rfl rfl rfl rfl ⟨rfl,rfl,rfl,rfl,rfl⟩ rfl rfl rfl rfl rfl (by kernel_rfl) Tryz.func4 dsClosed
  (of_decide_eq_true (by kernel_rfl)) (by unfold Func.isWrapper;first|(rw [if_pos (by decide +kernel)];kernel_rfl)|(rw [if_neg (by decide +kernel)];exact ⟨rfl,rfl⟩))
  (fun os started H enc _ F=>dsLifted os started H enc F)
end Go.Proofs.YtlnhhlighgaapaaGreat
