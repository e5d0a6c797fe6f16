/-
  What the claim stands on, part 5: Package document: form. What the checker's item, items and rows compute. Package document: visit, ids. Valid documents: their ids, their flows, their positions. Package position: Path, Lift, Intersect. How many ids a checker notes. Package obeluslaw15: size, positions, all, find, check, checkRange. Package document: the checker's rows. Package document: the checker's item. Package document: all with blocks that are lent; the checker's items. Package document: checkRevs. Package document: Check. Package document: ids, Fresh, Units, Flows. Package obeluslaw15: all, find, check, checkRange, Small; package position: Compare, Follow, Precede. Positions of valid documents: none twice, and what Index and Of give. The example of layer 15, and what it gives. The examples of layer 15 hold. The law of positions: what Count, Of and Index give. The law of positions: the errors. The builtin clear; rows of a call's own that are read. slices.Reverse of positions that a call owns. Package position: Path, Lift, of any length. Cells of a block that is only read. Package obeluslaw15: path.
-/
import Derived.Test.YthichnnlceeofaaGreatWpd
namespace Go.Proofs.YthichnnlceeofaaGreat
section
open Go.RowKit
theorem D7:bO Tryz.prog 85 1 1:=⟨by kernel_rfl⟩
def codeOk (x:aj):Bool:=if x.kind=4 then decide (1≤x.code∧x.code≤3) else if x.kind=6 then decide (1≤x.code∧x.code≤2) else if x.kind=8 then decide (1≤x.code∧x.code≤4) else true
def Cw (x:aj):Bool:=decide (x.kind=8∧x.code=1)
def CV (x:aj):Bool:=decide (x.kind=1∨x.kind=5) || Cw x
def Ce (x:aj):Bool:=decide (x.kind=6∨x.kind=7∨x.kind=8)
def Bl (x:aj):Bool:=decide (x.kind=4∨x.kind=6∨x.kind=8)
def tT (s:ByteArray):Bool:=s.toList == (⟨#[]⟩:ByteArray).toList
def yK (x:aj):Bool:=!Bl x && decide (x.code≠0) || !Ce x && decide (x.id≠0) || !CV x && !tT x.text || decide (x.kind≠6) && decide (0 < (x.flow.length:Int)) || decide (x.kind≠7) && decide (0 < (x.rows.length:Int))
/-- The first error of an item's kind and fields. -/
def lI (x:aj):Int :=
 if (!decide (1≤x.kind∧x.kind≤8) || !codeOk x)=true then 3 else if yK x=true then 15 else if oK x.text=false then 12 else if (decide (x.kind=1∨x.kind=5) && tT x.text)=true then 11
 else if (decide (x.kind=5) && decide (1024 < (x.text.size:Int)))=true then 10 else if (Cw x && !l8 x.text)=true then 13 else 0
theorem aas (G:GH) (w0:World) (hG:Hold G w0) (x:aj) (p d l:Value) (fA rA:Option Addr) (fc rc:Nat) (hs:x.text.size < 4611686018427387904) :
  Calls Tryz.prog 101 #[.agg #[vi x.kind,vi x.code,vi x.id,.string x.text,p,vi x.head.marks.ins,vi x.head.marks.move,d,l,.slice fA x.flow.length fc,.slice rA x.rows.length rc]] w0 (aU w0 G fun u G'=>u=vi (lI x)∧G=G'):=by
 refine eN [(0,_)] Tryz.func101 rfl Tryz.ntmps101 rfl rfl hG ?_;intro a H;refine aY (fun _ K1=>?_);refine bY (cs:=[_,_,_,_,_,_,_,_,_,_,_]) H wn rfl rfl rfl ?_;clear H;intro b1 a w hb1 H;refine kH H (Ra rfl (Kz K1 ?_));clear H K1;intro a H;refine qW (ι:=Bool) (Tc:=[(1,_)]) (Lc:=[(_,_)]) (fun (gh:Bool)=>[(3,.bool gh)]) (fun (gh:Bool)=>[]) (fun (gh:Bool)=>G) (fun (gh:Bool)=>gh=Cw x) (by exact (H).sub ⟨rfl,trivial⟩) ?_ ?_
 ·skip;refine kP H (SC (Rf jJ rfl (Ro ak 0 rfl rfl (Rc rfl (Rm rfl (Sp 11 rfl ?_ ?_)))))) <;> clear H
  ·intro h11 a H
   try have ow:=dT h11
   refine kH H (YF D7 h11 rfl (YO ak 0 h11 rfl rfl (YC h11 rfl (Pt h11 rfl (Ra rfl ?_)))));clear H;intro a H;refine au ?_;refine ⟨_,by exact (H).sub ⟨rfl,rfl,trivial⟩,?_⟩
   unfold Cw;first|(simp_all;done)
  intro h11 a H
  try have ow:=dF h11
  refine kH H (Ks h11 rfl (Ks h11 rfl (Ks h11 rfl (Pf h11 rfl (Ra rfl ?_)))));clear H;intro a H;refine au ?_;refine ⟨_,by exact (H).sub ⟨rfl,rfl,trivial⟩,?_⟩
  unfold Cw;first|(simp_all;done)
 clear H;intro gh a w hI H;obtain ⟨st,hgh⟩:∃ x,x=gh:=⟨_,rfl⟩;subst hgh;have hst:=hI;dsimp only [List.cons_append,List.nil_append,List.append_nil] at H;refine qW (ι:=Bool) (Tc:=[(1,_),(3,_)]) (Lc:=[(_,_)]) (fun (gh:Bool)=>[(4,.bool gh)]) (fun (gh:Bool)=>[]) (fun (gh:Bool)=>G) (fun (gh:Bool)=>gh=CV x) (by exact (H).sub ⟨rfl,rfl,trivial⟩) ?_ ?_
 ·skip;refine kP H (SC (Rf jJ rfl (Ro ak 0 rfl rfl (Rc rfl (Rm rfl (Sp 19 rfl ?_ ?_)))))) <;> clear H
  ·intro h19 a H
   try have j6:=dT h19
   refine kH H (Ks h19 rfl (Ks h19 rfl (Ks h19 rfl (Pt h19 rfl (Rm rfl (Ks rfl rfl (Pt rfl rfl (Ra rfl ?_))))))));clear H;intro a H;refine au ?_;refine ⟨_,by exact (H).sub ⟨rfl,rfl,rfl,trivial⟩,?_⟩
   unfold CV;first|(simp_all;done)
  intro h19 a H
  try have j6:=dF h19
  refine kH H (YF jJ h19 rfl (YO ak 0 h19 rfl rfl (YC h19 rfl (Pf h19 rfl (Rm rfl (Sp 24 rfl ?_ ?_)))))) <;> clear H
  ·intro dM a H
   try have jA:=dT dM
   refine kH H (Ks dM rfl (Pt dM rfl (Ra rfl ?_)));clear H;intro a H;refine au ?_;refine ⟨_,by exact (H).sub ⟨rfl,rfl,rfl,trivial⟩,?_⟩
   unfold CV;first|(simp_all;done)
  intro dM a H
  try have jA:=dF dM
  refine kH H (YM dM rfl (Pf dM rfl (Ra rfl ?_)));clear H;intro a H;refine au ?_;refine ⟨_,by exact (H).sub ⟨rfl,rfl,rfl,trivial⟩,?_⟩
  unfold CV;first|(simp_all;done)
 clear H;intro gh a w hI H;obtain ⟨wd,hgh⟩:∃ x,x=gh:=⟨_,rfl⟩;subst hgh;have hwd:=hI;dsimp only [List.cons_append,List.nil_append,List.append_nil] at H;refine qW (ι:=Bool) (Tc:=[(1,_),(3,_),(4,_)]) (Lc:=[(_,_)]) (fun (gh:Bool)=>[(5,.bool gh)]) (fun (gh:Bool)=>[]) (fun (gh:Bool)=>G) (fun (gh:Bool)=>gh=Ce x) (by exact (H).sub ⟨rfl,rfl,rfl,trivial⟩) ?_ ?_
 ·skip;refine kP H (SC (Rf jJ rfl (Ro ak 0 rfl rfl (Rc rfl (Rm rfl (Sp 30 rfl ?_ ?_)))))) <;> clear H
  ·intro kI a H
   try have p30:=dT kI
   refine kH H (Ks kI rfl (Ks kI rfl (Ks kI rfl (Pt kI rfl (Rm rfl (Ks rfl rfl (Ks rfl rfl (Ks rfl rfl (Pt rfl rfl (Ra rfl ?_))))))))));clear H;intro a H;refine au ?_;refine ⟨_,by exact (H).sub ⟨rfl,rfl,rfl,rfl,trivial⟩,?_⟩
   unfold Ce;first|(simp_all;done)
  intro kI a H
  try have p30:=dF kI
  refine kH H (YF jJ kI rfl (YO ak 0 kI rfl rfl (YC kI rfl (Pf kI rfl (Rm rfl (Sp 35 rfl ?_ ?_)))))) <;> clear H
  ·intro jM a H
   try have p35:=dT jM
   refine kH H (Ks jM rfl (Ks jM rfl (Ks jM rfl (Pt jM rfl (Ra rfl ?_)))));clear H;intro a H;refine au ?_;refine ⟨_,by exact (H).sub ⟨rfl,rfl,rfl,rfl,trivial⟩,?_⟩
   unfold Ce;first|(simp_all;done)
  intro jM a H
  try have p35:=dF jM
  refine kH H (YF jJ jM rfl (YO ak 0 jM rfl rfl (YC jM rfl (Pf jM rfl (Ra rfl ?_)))));clear H;intro a H;refine au ?_;refine ⟨_,by exact (H).sub ⟨rfl,rfl,rfl,rfl,trivial⟩,?_⟩
  unfold Ce;first|(simp_all;done)
 clear H;intro gh a w hI H;obtain ⟨nm,hgh⟩:∃ x,x=gh:=⟨_,rfl⟩;subst hgh;have hnm:=hI;dsimp only [List.cons_append,List.nil_append,List.append_nil] at H;refine kP H (SR fun _ K2=>Ra rfl (Kz K2 ?_));clear H K2;intro a H;refine qW (ι:=Bool) (Tc:=[(1,_),(3,_),(4,_),(5,_)]) (Lc:=[(_,_)]) (fun (gh:Bool)=>[(6,.bool gh)]) (fun (gh:Bool)=>[]) (fun (gh:Bool)=>G) (fun (gh:Bool)=>gh=codeOk x) (by exact (H).sub ⟨rfl,rfl,rfl,rfl,trivial⟩) ?_ ?_
 ·skip;refine kP H (SR fun _ K3=>Rf jJ rfl (Ro ak 0 rfl rfl (Kz K3 (SB (SR fun _ K4=>Rc rfl (Ra rfl (Kz K4 (Cd rfl ?_ ?_)))))))) <;> clear H K3 K4
  ·intro zS a H
   try have p42:=dT zS
   refine kP H (SC (Rf D7 rfl (Ro ak 0 rfl rfl ?_)));clear H;intro a H;refine s_call qY H wn rfl (rV _ _ H.hp.ro x.code 1 3) rfl ?_;clear H;rintro v46 _ a w ⟨rfl,rfl⟩ - H;refine kH H (Ra rfl ?_);clear H;intro a H;refine au ?_;refine ⟨_,by exact (H).sub ⟨rfl,rfl,rfl,rfl,rfl,trivial⟩,?_⟩
   unfold codeOk;first|(simp_all;done)
  intro zS a H
  try have p42:=dF zS
  refine kP H (SR fun _ K5=>Rc rfl (Ra rfl (Kz K5 (Cd rfl ?_ ?_)))) <;> clear H K5
  ·intro h47 a H
   try have p47:=dT h47
   refine kP H (SC (Rf D7 rfl (Ro ak 0 rfl rfl ?_)));clear H;intro a H;refine s_call qY H wn rfl (rV _ _ H.hp.ro x.code 1 2) rfl ?_;clear H;rintro v51 _ a w ⟨rfl,rfl⟩ - H;refine kH H (Ra rfl ?_);clear H;intro a H;refine au ?_;refine ⟨_,by exact (H).sub ⟨rfl,rfl,rfl,rfl,rfl,trivial⟩,?_⟩
   unfold codeOk;first|(simp_all;done)
  intro h47 a H
  try have p47:=dF h47
  refine kP H (SR fun _ K6=>Rc rfl (Ra rfl (Kz K6 (Cd rfl ?_ ?_)))) <;> clear H K6
  ·intro kJ a H
   try have p52:=dT kJ
   refine kP H (SC (Rf D7 rfl (Ro ak 0 rfl rfl ?_)));clear H;intro a H;refine s_call qY H wn rfl (rV _ _ H.hp.ro x.code 1 4) rfl ?_;clear H;rintro v56 _ a w ⟨rfl,rfl⟩ - H;refine kH H (Ra rfl ?_);clear H;intro a H;refine au ?_;refine ⟨_,by exact (H).sub ⟨rfl,rfl,rfl,rfl,rfl,trivial⟩,?_⟩
   unfold codeOk;first|(simp_all;done)
  intro kJ a H
  try have p52:=dF kJ
  refine eX ?_;refine ⟨_,by exact (H).sub ⟨rfl,rfl,rfl,rfl,rfl,trivial⟩,?_⟩
  unfold codeOk;first|(simp_all;done)
 clear H;intro gh a w hI H;obtain ⟨ck,hgh⟩:∃ x,x=gh:=⟨_,rfl⟩;subst hgh;have hck:=hI;dsimp only [List.cons_append,List.nil_append,List.append_nil] at H;refine qW (ι:=Bool) (Tc:=[(1,_),(3,_),(4,_),(5,_),(6,_)]) (Lc:=[(_,_)]) (fun (gh:Bool)=>[(7,.bool gh)]) (fun (gh:Bool)=>[]) (fun (gh:Bool)=>G) (fun (gh:Bool)=>gh=Bl x) (by exact (H).sub ⟨rfl,rfl,rfl,rfl,rfl,trivial⟩) ?_ ?_
 ·skip;refine kP H (SC (Rf jJ rfl (Ro ak 0 rfl rfl (Rc rfl (Rm rfl (Sp 60 rfl ?_ ?_)))))) <;> clear H
  ·intro fF a H
   try have p60:=dT fF
   refine kH H (Ks fF rfl (Ks fF rfl (Ks fF rfl (Pt fF rfl (Rm rfl (Ks rfl rfl (Ks rfl rfl (Ks rfl rfl (Pt rfl rfl (Ra rfl ?_))))))))));clear H;intro a H;refine au ?_;refine ⟨_,by exact (H).sub ⟨rfl,rfl,rfl,rfl,rfl,rfl,trivial⟩,?_⟩
   unfold Bl;first|(simp_all;done)
  intro fF a H
  try have p60:=dF fF
  refine kH H (YF jJ fF rfl (YO ak 0 fF rfl rfl (YC fF rfl (Pf fF rfl (Rm rfl (Sp 65 rfl ?_ ?_)))))) <;> clear H
  ·intro jk a H
   try have p65:=dT jk
   refine kH H (Ks jk rfl (Ks jk rfl (Ks jk rfl (Pt jk rfl (Ra rfl ?_)))));clear H;intro a H;refine au ?_;refine ⟨_,by exact (H).sub ⟨rfl,rfl,rfl,rfl,rfl,rfl,trivial⟩,?_⟩
   unfold Bl;first|(simp_all;done)
  intro jk a H
  try have p65:=dF jk
  refine kH H (YF jJ jk rfl (YO ak 0 jk rfl rfl (YC jk rfl (Pf jk rfl (Ra rfl ?_)))));clear H;intro a H;refine au ?_;refine ⟨_,by exact (H).sub ⟨rfl,rfl,rfl,rfl,rfl,rfl,trivial⟩,?_⟩
  unfold Bl;first|(simp_all;done)
 clear H;intro gh a w hI H;obtain ⟨cd,hgh⟩:∃ x,x=gh:=⟨_,rfl⟩;subst hgh;have hcd:=hI;dsimp only [List.cons_append,List.nil_append,List.append_nil] at H;refine kP H (SQ fun _ K7=>SB (SR fun _ K8=>?_));clear H;intro a H;refine yg (ι:=Bool) (Tc:=[(1,_),(3,_),(4,_),(5,_),(7,_)]) 8 (fun (q0:Bool)=>[(78,.bool q0)]) (fun (q0:Bool)=>q0=(!decide (1≤x.kind∧x.kind≤8) || !codeOk x)) (by exact H.sub ⟨rfl,rfl,rfl,rfl,rfl,trivial⟩) ?_ ?_
 ·intro QN;refine kH H (Rf jJ rfl (Ro ak 0 rfl rfl ?_));clear H;intro a H;refine s_call qY H wn rfl (rV _ _ H.hp.ro x.kind 1 8) rfl ?_;clear H;rintro v73 _ a w ⟨rfl,rfl⟩ - H;refine kH H (Rn rfl (Rm rfl (Sp 75 rfl ?_ ?_))) <;> clear H
  ·intro rF a H
   try have p75:=dT rF
   refine kH H (Ks rF rfl (Ks rF rfl (Pt rF rfl ?_)));clear H;intro a H;refine QN (_) _ _ ?_ (by exact H.sub ⟨rfl,rfl,rfl,rfl,rfl,rfl,trivial⟩);rw [← hck];clear hst hwd hnm hck hcd;(try clear hq1);(try clear hq2);(try clear hq3);(try clear hq0);(try clear hq4);(try clear jY);(try clear jZ);(try clear j5);simp_all
  intro rF a H
  try have p75:=dF rF
  refine kH H (YM rF rfl (YN rF rfl (Pf rF rfl ?_)));clear H;intro a H;refine QN (_) _ _ ?_ (by exact H.sub ⟨rfl,rfl,rfl,rfl,rfl,rfl,trivial⟩);rw [← hck];clear hst hwd hnm hck hcd;(try clear hq1);(try clear hq2);(try clear hq3);(try clear hq0);(try clear hq4);(try clear jY);(try clear jZ);(try clear j5);simp_all
 clear H;intro q0 a w hI H;dsimp only [List.cons_append,List.nil_append] at H;simp only [List.drop_succ_cons,List.drop_zero];have hq0:=hI;refine kH H (Ra rfl (Kz K8 (Cd rfl ?_ ?_))) <;> clear H K8
 ·intro qD a H
  try have p70:=dT qD
  refine aQ (fun _ K9=>?_)
  have e:lI x=3:=by unfold lI;rw [if_pos (by rw [← hq0];exact qD)]
  exact kP H (SC (Ra rfl (Kn K9 (LR Tryz.results101 rfl fun H=>H.hp.ret ⟨by rw [e],rfl⟩))))
 intro qD a H
 try have p70:=dF qD
 have f0:¬ (!decide (1≤x.kind∧x.kind≤8) || !codeOk x)=true:=by rw [← hq0,qD];decide
 refine aY (fun _ aH=>?_);refine yg (ι:=Bool) (Tc:=[(1,_),(3,_),(4,_),(5,_)]) 7 (fun (q1:Bool)=>[(86,.bool q1)]) (fun (q1:Bool)=>q1=(!Bl x && decide (x.code≠0))) (by exact H.sub ⟨rfl,rfl,rfl,rfl,trivial⟩) ?_ ?_
 ·intro QO;refine kH H (Rm rfl (Rn rfl (Rm rfl (Sp 82 rfl ?_ ?_)))) <;> clear H
  ·intro nU a H
   try have M7:=dT nU
   refine kH H (YF D7 nU rfl (YO ak 0 nU rfl rfl (YC nU rfl (Pt nU rfl ?_))));clear H;intro a H;refine QO (_) _ _ ?_ (by exact H.sub ⟨rfl,rfl,rfl,rfl,rfl,trivial⟩);rw [← hcd];clear hst hwd hnm hck hcd;(try clear hq1);(try clear hq2);(try clear hq3);(try clear hq0);(try clear hq4);(try clear jY);(try clear jZ);(try clear j5);simp_all
  intro nU a H
  try have M7:=dF nU
  refine kH H (Ks nU rfl (Ks nU rfl (Ks nU rfl (Pf nU rfl ?_))));clear H;intro a H;refine QO (_) _ _ ?_ (by exact H.sub ⟨rfl,rfl,rfl,rfl,rfl,trivial⟩);rw [← hcd];clear hst hwd hnm hck hcd;(try clear hq1);(try clear hq2);(try clear hq3);(try clear hq0);(try clear hq4);(try clear jY);(try clear jZ);(try clear j5);simp_all
 clear H;intro q1 a w hI H;dsimp only [List.cons_append,List.nil_append] at H;simp only [List.drop_succ_cons,List.drop_zero];have hq1:=hI;refine yg (ι:=Bool) (Tc:=[(1,_),(3,_),(4,_)]) 9 (fun (q2:Bool)=>[(95,.bool q2)]) (fun (q2:Bool)=>q2=(q1 || !Ce x && decide (x.id≠0))) (by exact H.sub ⟨rfl,rfl,rfl,trivial⟩) ?_ ?_
 ·intro Lf;refine kH H (Rm rfl (Sp 87 rfl ?_ ?_)) <;> clear H
  ·intro h87 a H
   try have M8:=dT h87
   refine kH H (Ks h87 rfl (Ks h87 rfl (Ks h87 rfl (Ku rfl (Ku rfl (Ku rfl (Ks h87 rfl (Pt h87 rfl ?_))))))));clear H;intro a H;refine Lf (_) _ _ ?_ (by exact H.sub ⟨rfl,rfl,rfl,rfl,trivial⟩);rw [← hnm];clear hst hwd hnm hck hcd;(try clear hq1);(try clear hq2);(try clear hq3);(try clear hq0);(try clear hq4);(try clear jY);(try clear jZ);(try clear j5);simp_all
  intro h87 a H
  try have M8:=dF h87
  refine kH H (YM h87 rfl (YN h87 rfl (YM h87 rfl (Sp 90 rfl ?_ ?_)))) <;> clear H
  ·intro uj a H
   try have p90:=dT uj
   refine kH H (YF wR uj rfl (YO ak 0 uj rfl rfl (YC uj rfl (PT h87 uj rfl (Pf h87 rfl ?_)))));clear H;intro a H;refine Lf (_) _ _ ?_ (by exact H.sub ⟨rfl,rfl,rfl,rfl,trivial⟩);rw [← hnm];clear hst hwd hnm hck hcd;(try clear hq1);(try clear hq2);(try clear hq3);(try clear hq0);(try clear hq4);(try clear jY);(try clear jZ);(try clear j5);simp_all
  intro uj a H
  try have p90:=dF uj
  refine kH H (Ks uj rfl (Ks uj rfl (Ks uj rfl (PF h87 uj rfl (Pf h87 rfl ?_)))));clear H;intro a H;refine Lf (_) _ _ ?_ (by exact H.sub ⟨rfl,rfl,rfl,rfl,trivial⟩);rw [← hnm];clear hst hwd hnm hck hcd;(try clear hq1);(try clear hq2);(try clear hq3);(try clear hq0);(try clear hq4);(try clear jY);(try clear jZ);(try clear j5);simp_all
 clear H;intro q2 a w hI H;dsimp only [List.cons_append,List.nil_append] at H;simp only [List.drop_succ_cons,List.drop_zero];have hq2:=hI;refine yg (ι:=Bool) (Tc:=[(1,_),(3,_)]) 9 (fun (q3:Bool)=>[(104,.bool q3)]) (fun (q3:Bool)=>q3=(q2 || !CV x && !tT x.text)) (by exact H.sub ⟨rfl,rfl,trivial⟩) ?_ ?_
 ·intro Lb;refine kH H (Rm rfl (Sp 96 rfl ?_ ?_)) <;> clear H
  ·intro mW a H
   try have EM:=dT mW
   refine kH H (Ks mW rfl (Ks mW rfl (Ks mW rfl (Ku rfl (Ku rfl (Ku rfl (Ks mW rfl (Pt mW rfl ?_))))))));clear H;intro a H;refine Lb (_) _ _ ?_ (by exact H.sub ⟨rfl,rfl,rfl,trivial⟩);rw [← hwd];clear hst hwd hnm hck hcd;(try clear hq1);(try clear hq2);(try clear hq3);(try clear hq0);(try clear hq4);(try clear jY);(try clear jZ);(try clear j5);simp_all [tT]
  intro mW a H
  try have EM:=dF mW
  refine kH H (YM mW rfl (YN mW rfl (YM mW rfl (Sp 99 rfl ?_ ?_)))) <;> clear H
  ·intro um a H
   try have p99:=dT um
   refine kH H (YF vL um rfl (YO gB 0 um rfl rfl ?_));clear H;intro a H;refine aea H (wg H rfl rfl um) rfl rfl rfl ?_;clear H;intro a H;refine kH H (PT mW um rfl (Pf mW rfl ?_));clear H;intro a H;refine Lb (_) _ _ ?_ (by exact H.sub ⟨rfl,rfl,rfl,trivial⟩);rw [← hwd];clear hst hwd hnm hck hcd;(try clear hq1);(try clear hq2);(try clear hq3);(try clear hq0);(try clear hq4);(try clear jY);(try clear jZ);(try clear j5);simp_all [tT]
  intro um a H
  try have p99:=dF um
  refine kH H (Ks um rfl (Ks um rfl (Ks um rfl (PF mW um rfl (Pf mW rfl ?_)))));clear H;intro a H;refine Lb (_) _ _ ?_ (by exact H.sub ⟨rfl,rfl,rfl,trivial⟩);rw [← hwd];clear hst hwd hnm hck hcd;(try clear hq1);(try clear hq2);(try clear hq3);(try clear hq0);(try clear hq4);(try clear jY);(try clear jZ);(try clear j5);simp_all [tT]
 clear H;intro q3 a w hI H;dsimp only [List.cons_append,List.nil_append] at H;simp only [List.drop_succ_cons,List.drop_zero];have hq3:=hI;refine yg (ι:=Bool) (Tc:=[(1,_),(3,_)]) 11 (fun (q4:Bool)=>[(115,.bool q4)]) (fun (q4:Bool)=>q4=(q3 || decide (x.kind≠6) && decide (0 < (x.flow.length:Int)))) (by exact H.sub ⟨rfl,rfl,trivial⟩) ?_ ?_
 ·intro Ld;refine kH H (Rm rfl (Sp 105 rfl ?_ ?_)) <;> clear H
  ·intro lJ a H
   try have Cg:=dT lJ
   refine kH H (Ks lJ rfl (Ks lJ rfl (Ks lJ rfl (Ks lJ rfl (Ku rfl (Ku rfl (Ku rfl (Ku rfl (Ks lJ rfl (Pt lJ rfl ?_))))))))));clear H;intro a H;refine Ld (_) _ _ ?_ (by exact H.sub ⟨rfl,rfl,rfl,trivial⟩);clear hst hwd hnm hck hcd;(try clear hq1);(try clear hq2);(try clear hq3);(try clear hq0);(try clear hq4);(try clear jY);(try clear jZ);(try clear j5);simp_all
  intro lJ a H
  try have Cg:=dF lJ
  refine kH H (YF jJ lJ rfl (YO ak 0 lJ rfl rfl (YC lJ rfl (YM lJ rfl (Sp 109 rfl ?_ ?_))))) <;> clear H
  ·intro rC a H
   try have acV:=dT rC
   refine kH H (YF yH rC rfl (YO iR 0 rC rfl rfl (YL jO rC rfl (YC rC rfl (PT lJ rC rfl (Pf lJ rfl ?_))))));clear H;intro a H;refine Ld (_) _ _ ?_ (by exact H.sub ⟨rfl,rfl,rfl,trivial⟩);clear hst hwd hnm hck hcd;(try clear hq1);(try clear hq2);(try clear hq3);(try clear hq0);(try clear hq4);(try clear jY);(try clear jZ);(try clear j5);simp_all
  intro rC a H
  try have acV:=dF rC
  refine kH H (Ks rC rfl (Ks rC rfl (Ks rC rfl (Ks rC rfl (PF lJ rC rfl (Pf lJ rfl ?_))))));clear H;intro a H;refine Ld (_) _ _ ?_ (by exact H.sub ⟨rfl,rfl,rfl,trivial⟩);clear hst hwd hnm hck hcd;(try clear hq1);(try clear hq2);(try clear hq3);(try clear hq0);(try clear hq4);(try clear jY);(try clear jZ);(try clear j5);simp_all
 clear H;intro q4 a w hI H;dsimp only [List.cons_append,List.nil_append] at H;simp only [List.drop_succ_cons,List.drop_zero];have hq4:=hI;refine yg (ι:=Bool) (Tc:=[(1,_),(3,_)]) 11 (fun (q5:Bool)=>[(126,.bool q5)]) (fun (q5:Bool)=>q5=yK x) (by exact H.sub ⟨rfl,rfl,trivial⟩) ?_ ?_
 ·intro Le;refine kH H (Rm rfl (Sp 116 rfl ?_ ?_)) <;> clear H
  ·intro h116 a H
   try have acW:=dT h116
   refine kH H (Ks h116 rfl (Ks h116 rfl (Ks h116 rfl (Ks h116 rfl (Ku rfl (Ku rfl (Ku rfl (Ku rfl (Ks h116 rfl (Pt h116 rfl ?_))))))))));clear H;intro a H;refine Le (_) _ _ ?_ (by exact H.sub ⟨rfl,rfl,rfl,trivial⟩);rw [show yK x=(q4 || decide (x.kind≠7) && decide (0 < (x.rows.length:Int))) by rw [hq4,hq3,hq2,hq1];rfl];clear hq4;clear hst hwd hnm hck hcd;(try clear hq1);(try clear hq2);(try clear hq3);(try clear hq0);(try clear hq4);(try clear jY);(try clear jZ);(try clear j5);simp_all
  intro h116 a H
  try have acW:=dF h116
  refine kH H (YF jJ h116 rfl (YO ak 0 h116 rfl rfl (YC h116 rfl (YM h116 rfl (Sp 120 rfl ?_ ?_))))) <;> clear H
  ·intro iD a H
   try have EL:=dT iD
   refine kH H (YF tV iD rfl (YO uU 0 iD rfl rfl (YL lV iD rfl (YC iD rfl (PT h116 iD rfl (Pf h116 rfl ?_))))));clear H;intro a H;refine Le (_) _ _ ?_ (by exact H.sub ⟨rfl,rfl,rfl,trivial⟩);rw [show yK x=(q4 || decide (x.kind≠7) && decide (0 < (x.rows.length:Int))) by rw [hq4,hq3,hq2,hq1];rfl];clear hq4;clear hst hwd hnm hck hcd;(try clear hq1);(try clear hq2);(try clear hq3);(try clear hq0);(try clear hq4);(try clear jY);(try clear jZ);(try clear j5);simp_all
  intro iD a H
  try have EL:=dF iD
  refine kH H (Ks iD rfl (Ks iD rfl (Ks iD rfl (Ks iD rfl (PF h116 iD rfl (Pf h116 rfl ?_))))));clear H;intro a H;refine Le (_) _ _ ?_ (by exact H.sub ⟨rfl,rfl,rfl,trivial⟩);rw [show yK x=(q4 || decide (x.kind≠7) && decide (0 < (x.rows.length:Int))) by rw [hq4,hq3,hq2,hq1];rfl];clear hq4;clear hst hwd hnm hck hcd;(try clear hq1);(try clear hq2);(try clear hq3);(try clear hq0);(try clear hq4);(try clear jY);(try clear jZ);(try clear j5);simp_all
 clear H;intro q5 a w hI H;dsimp only [List.cons_append,List.nil_append] at H;simp only [List.drop_succ_cons,List.drop_zero];have jY:=hI;refine kH H (Ra rfl (Kz aH (Cd rfl ?_ ?_))) <;> clear H aH
 ·intro wV a H
  try have H9:=dT wV
  refine aQ (fun _ aX=>?_)
  have e:lI x=15:=by unfold lI;rw [if_neg f0,if_pos (by rw [← jY];exact wV)]
  exact kP H (SC (Ra rfl (Kn aX (LR Tryz.results101 rfl fun H=>H.hp.ret ⟨by rw [e],rfl⟩))))
 intro wV a H
 try have H9:=dF wV
 have f1:¬ yK x=true:=by rw [← jY,wV];decide
 refine kP H (SR fun _ bD=>Rf vL rfl (Ro gB 0 rfl rfl ?_));clear H;intro a H;refine s_call DN H wn rfl (E9 _ _ H.hp.ro x.text hs) rfl ?_;clear H;rintro v130 _ a w ⟨rfl,rfl⟩ - H;refine kH H (Rn rfl (Ra rfl (Kz bD (Cd rfl ?_ ?_)))) <;> clear H bD
 ·intro h127 a H
  try have acX:=dT h127
  refine aQ (fun _ bH=>?_)
  have e:lI x=12:=by unfold lI;rw [if_neg f0,if_neg f1,if_pos (by simpa using h127)]
  exact kP H (SC (Ra rfl (Kn bH (LR Tryz.results101 rfl fun H=>H.hp.ret ⟨by rw [e],rfl⟩))))
 intro h127 a H
 try have acX:=dF h127
 have f2:¬ oK x.text=false:=by simpa using h127
 refine aY (fun _ bG=>?_);refine yg (ι:=Bool) (Tc:=[(1,_),(3,_)]) 13 (fun (q6:Bool)=>[(145,.bool q6)]) (fun (q6:Bool)=>q6=(decide (x.kind=1∨x.kind=5) && tT x.text)) (by exact H.sub ⟨rfl,rfl,trivial⟩) ?_ ?_
 ·intro Lg;refine kH H (Rf jJ rfl (Ro ak 0 rfl rfl (Rc rfl (Rm rfl (Sp 136 rfl ?_ ?_))))) <;> clear H
  ·intro uf a H
   try have acZ:=dT uf
   refine kH H (Ks uf rfl (Ks uf rfl (Ks uf rfl (Pt uf rfl (Rm rfl ?_)))));clear H;intro a H;refine Iy vL H (wg H rfl rfl rfl) rfl rfl ?_;clear H;intro a H;refine xR gB H (wg H rfl rfl rfl) rfl (H.hp.jE 0 rfl rfl) rfl ?_;clear H;intro a H;refine EO H (wg H rfl rfl rfl) rfl rfl rfl ?_;clear H;intro a H;refine kH H (Pt rfl rfl ?_);clear H;intro a H;refine Lg (_) _ _ ?_ (by exact H.sub ⟨rfl,rfl,rfl,trivial⟩);clear hst hwd hnm hck hcd;(try clear hq1);(try clear hq2);(try clear hq3);(try clear hq0);(try clear hq4);(try clear jY);(try clear jZ);(try clear j5);simp_all [tT]
  intro uf a H
  try have acZ:=dF uf
  refine kH H (YF jJ uf rfl (YO ak 0 uf rfl rfl (YC uf rfl (Pf uf rfl (Rm rfl (Sp 141 rfl ?_ ?_)))))) <;> clear H
  ·intro ug a H
   try have ac0:=dT ug
   refine kH H (YF vL ug rfl (YO gB 0 ug rfl rfl ?_));clear H;intro a H;refine EO H (wg H rfl rfl ug) rfl rfl rfl ?_;clear H;intro a H;refine kH H (Pt ug rfl ?_);clear H;intro a H;refine Lg (_) _ _ ?_ (by exact H.sub ⟨rfl,rfl,rfl,trivial⟩);clear hst hwd hnm hck hcd;(try clear hq1);(try clear hq2);(try clear hq3);(try clear hq0);(try clear hq4);(try clear jY);(try clear jZ);(try clear j5);simp_all [tT]
  intro ug a H
  try have ac0:=dF ug
  refine kH H (Ks ug rfl (Ks ug rfl (Ks ug rfl (Pf ug rfl ?_))));clear H;intro a H;refine Lg (_) _ _ ?_ (by exact H.sub ⟨rfl,rfl,rfl,trivial⟩);clear hst hwd hnm hck hcd;(try clear hq1);(try clear hq2);(try clear hq3);(try clear hq0);(try clear hq4);(try clear jY);(try clear jZ);(try clear j5);simp_all [tT]
 clear H;intro q6 a w hI H;dsimp only [List.cons_append,List.nil_append] at H;simp only [List.drop_succ_cons,List.drop_zero];have jZ:=hI;refine kH H (Ra rfl (Kz bG (Cd rfl ?_ ?_))) <;> clear H bG
 ·intro Ea a H
  try have acY:=dT Ea
  refine aQ (fun _ bV=>?_)
  have e:lI x=11:=by unfold lI;rw [if_neg f0,if_neg f1,if_neg f2,if_pos (by rw [← jZ];exact Ea)]
  exact kP H (SC (Ra rfl (Kn bV (LR Tryz.results101 rfl fun H=>H.hp.ret ⟨by rw [e],rfl⟩))))
 intro Ea a H
 try have acY:=dF Ea
 have f3:¬ (decide (x.kind=1∨x.kind=5) && tT x.text)=true:=by rw [← jZ,Ea];decide
 refine aY (fun _ bQ=>?_);refine yg (ι:=Bool) (Tc:=[(1,_),(3,_)]) 9 (fun (q7:Bool)=>[(155,.bool q7)]) (fun (q7:Bool)=>q7=(decide (x.kind=5) && decide (1024 < (x.text.size:Int)))) (by exact H.sub ⟨rfl,rfl,trivial⟩) ?_ ?_
 ·intro QS;refine kH H (Rf jJ rfl (Ro ak 0 rfl rfl (Rc rfl (Rm rfl (Sp 150 rfl ?_ ?_))))) <;> clear H
  ·intro rD a H
   try have ac2:=dT rD
   refine kH H (YF vL rD rfl (YO gB 0 rD rfl rfl ?_));clear H;intro a H;refine Au fB H (wg H rfl rfl rD) rfl rfl ?_;clear H;intro a H;refine kH H (YC rD rfl (Pt rD rfl ?_));clear H;intro a H;refine QS (_) _ _ ?_ (by exact H.sub ⟨rfl,rfl,rfl,trivial⟩);clear hst hwd hnm hck hcd;(try clear hq1);(try clear hq2);(try clear hq3);(try clear hq0);(try clear hq4);(try clear jY);(try clear jZ);(try clear j5);simp_all
  intro rD a H
  try have ac2:=dF rD
  refine kH H (Ks rD rfl (Ks rD rfl (Ks rD rfl (Ks rD rfl (Pf rD rfl ?_)))));clear H;intro a H;refine QS (_) _ _ ?_ (by exact H.sub ⟨rfl,rfl,rfl,trivial⟩);clear hst hwd hnm hck hcd;(try clear hq1);(try clear hq2);(try clear hq3);(try clear hq0);(try clear hq4);(try clear jY);(try clear jZ);(try clear j5);simp_all
 clear H;intro q7 a w hI H;dsimp only [List.cons_append,List.nil_append] at H;simp only [List.drop_succ_cons,List.drop_zero];have j5:=hI;refine kH H (Ra rfl (Kz bQ (Cd rfl ?_ ?_))) <;> clear H bQ
 ·intro Eb a H
  try have ac1:=dT Eb
  refine aQ (fun _ bS=>?_)
  have e:lI x=10:=by unfold lI;rw [if_neg f0,if_neg f1,if_neg f2,if_neg f3,if_pos (by rw [← j5];exact Eb)]
  exact kP H (SC (Ra rfl (Kn bS (LR Tryz.results101 rfl fun H=>H.hp.ret ⟨by rw [e],rfl⟩))))
 intro Eb a H
 try have ac1:=dF Eb
 have f4:¬ (decide (x.kind=5) && decide (1024 < (x.text.size:Int)))=true:=by rw [← j5,Eb];decide
 refine aY (fun _ cO=>?_);refine yg (ι:=Bool) (Tc:=[]) 7 (fun (q8:Bool)=>[(163,.bool q8)]) (fun (q8:Bool)=>q8=(Cw x && !l8 x.text)) (by exact H.sub trivial) ?_ ?_
 ·intro QT;refine kH H (Rm rfl (Rm rfl (Sp 158 rfl ?_ ?_))) <;> clear H
  ·intro rE a H
   try have ac4:=dT rE
   refine kH H (YF vL rE rfl (YO gB 0 rE rfl rfl ?_));clear H;intro a H;refine s_call Ki H (wg H rfl rfl rE) rfl (JO _ _ H.hp.ro x.text hs) rfl ?_;clear H;rintro agE _ a w ⟨rfl,rfl⟩ - H;refine kH H (YN rE rfl (Pt rE rfl ?_));clear H;intro a H;refine QT (_) _ _ ?_ (by exact H.sub ⟨rfl,trivial⟩);rw [← hst];clear hst hwd hnm hck hcd;(try clear hq1);(try clear hq2);(try clear hq3);(try clear hq0);(try clear hq4);(try clear jY);(try clear jZ);(try clear j5);simp_all
  intro rE a H
  try have ac4:=dF rE
  refine kH H (Ks rE rfl (Ks rE rfl (Ks rE rfl (Ks rE rfl (Pf rE rfl ?_)))));clear H;intro a H;refine QT (_) _ _ ?_ (by exact H.sub ⟨rfl,trivial⟩);rw [← hst];clear hst hwd hnm hck hcd;(try clear hq1);(try clear hq2);(try clear hq3);(try clear hq0);(try clear hq4);(try clear jY);(try clear jZ);(try clear j5);simp_all
 clear H;intro q8 a w hI H;dsimp only [List.cons_append,List.nil_append] at H;simp only [List.drop_succ_cons,List.drop_zero];have hq8:=hI;refine kH H (Ra rfl (Kz cO (Cd rfl ?_ ?_))) <;> clear H cO
 ·intro Ec a H
  try have ac3:=dT Ec
  refine aQ (fun _ dV=>?_)
  have e:lI x=13:=by unfold lI;rw [if_neg f0,if_neg f1,if_neg f2,if_neg f3,if_neg f4,if_pos (by rw [← hq8];exact Ec)]
  exact kP H (SC (Ra rfl (Kn dV (LR Tryz.results101 rfl fun H=>H.hp.ret ⟨by rw [e],rfl⟩))))
 intro Ec a H
 try have ac3:=dF Ec
 refine eX ?_;refine K7 _ _ ?_;clear K7;refine aQ (fun _ dI=>?_)
 have e:lI x=0:=by unfold lI;rw [if_neg f0,if_neg f1,if_neg f2,if_neg f3,if_neg f4,if_neg (by rw [← hq8,Ec];decide)]
 exact kP H (SC (Ra rfl (Kn dI (LR Tryz.results101 rfl fun H=>H.hp.ret ⟨by rw [e],rfl⟩))))
end
section
open Go.RowKit
/-- Where a checker stands: how many units, which ids came before. -/
structure CS where
 n:Int
 aW:List Int
abbrev CR:=Int × CS
def dZ (r:CR) (f:CS→CR):CR:=if r.1≠0 then r else f r.2
theorem Dw {r:CR} {f:CS→CR} (h:r.1=0):dZ r f=f r.2:=by rw [dZ,if_neg (fun h'=>h' h)]
theorem FD {r:CR} {f:CS→CR} (h:r.1≠0):dZ r f=r:=by rw [dZ,if_pos h]
def iY (s:CS) (x:Int):CR:=(mZ s.aW x,⟨s.n,iX s.aW x⟩)
/-- Behind an item's form: what its kind asks for where it stands. -/
def jU (body note:Bool) (t k i:Int) (s:CS):CR :=
 if k=3 then (bJ (!body) 19,s) else if k=6 then dZ (bJ note 19,s) fun s=>iY s i else if k=7 then dZ (bJ (decide (4≤t)) 17,s) fun s=>iY s i else if k=8 then (bJ (!decide (1≤i∧i≤1073741824)) 18,s) else (0,s)
def Aq (C:fJ) (h:gW) (n:Nat):Int:=cu [iK C 9 h,bJ (decide ((n:Int)=0)) 11,bJ (decide (32 < (n:Int))) 9]
def jN (n:Nat) (f:CS→CR) (s:CS):CR:=if n=0 then (11,s) else if 256 < n then (9,s) else f s
mutual
def dN (C:fJ) (body note:Bool) (t:Int):aj→CS→CR
 | .mk k c i tx h f r,s =>
  dZ (lI (.mk k c i tx h f r),s) fun s=>dZ (jU body note t k i ⟨s.n+(if k=1 then oQ tx else 1:Nat),s.aW⟩) fun s=>dZ (iK C k h,s) fun s =>
   if k=6 then iO C false true t f s else if k=7 then jN r.length (fun s=>gJ C note (t+1) r s) s else (0,s)
def za (C:fJ) (note:Bool) (t:Int):aN→CS→CR
 | .mk h cs,s=>dZ (Aq C h cs.length,s) fun s=>oP C note t cs s
def cellC (C:fJ) (note:Bool) (t:Int):aJ→CS→CR
 | .mk i h f,s=>dZ (iY s i) fun s=>dZ (iK C 10 h,s) fun s=>iO C false note t f s
def iO (C:fJ) (body note:Bool) (t:Int):List aj→CS→CR
 | [],s=>(0,s)
 | x :: r,s=>dZ (dN C body note t x s) fun s=>iO C body note t r s
def gJ (C:fJ) (note:Bool) (t:Int):List aN→CS→CR
 | [],s=>(0,s)
 | x :: r,s=>dZ (za C note t x s) fun s=>gJ C note t r s
def oP (C:fJ) (note:Bool) (t:Int):List aJ→CS→CR
 | [],s=>(0,s)
 | x :: r,s=>dZ (cellC C note t x s) fun s=>oP C note t r s
end
theorem Sb (C:fJ) (body note:Bool) (t:Int) (x:aj) (s:CS):dN C body note t x s=dZ (lI x,s) fun s=>dZ (jU body note t x.kind x.id ⟨s.n+(dR x:Nat),s.aW⟩) fun s=>dZ (iK C x.kind x.head,s) fun s =>
  if x.kind=6 then iO C false true t x.flow s else if x.kind=7 then jN x.rows.length (fun s=>gJ C note (t+1) x.rows s) s else (0,s):=by cases x;rw [dN];rfl
theorem Io (C:fJ) (note:Bool) (t:Int) (x:aN) (s:CS):za C note t x s=dZ (Aq C x.head x.cells.length,s) fun s=>oP C note t x.cells s:=by cases x;rw [za];rfl
theorem FJ (C:fJ) (note:Bool) (t:Int) (x:aJ) (s:CS):cellC C note t x s=dZ (iY s x.id) fun s=>dZ (iK C 10 x.head,s) fun s=>iO C false note t x.flow s:=by cases x;rw [cellC];rfl
/-! ## How many units -/
/-- From s to r no more than z units come to it. -/
def Up (s:CS) (z:Nat) (r:CR):Prop:=s.n≤r.2.n∧r.2.n≤s.n+z
theorem Up.and {s:CS} {z y q:Nat} {r:CR} {f:CS→CR} (h:Up s z r) (hq:z+y≤q) (hf:∀ s,Up s y (f s)):Up s q (dZ r f):=by
 obtain ⟨h1,h2⟩:=h
 unfold dZ
 split
 ·exact ⟨h1,by omega⟩
 obtain ⟨h3,h4⟩:=hf r.2;exact ⟨by omega,by omega⟩
theorem Up.zero (s:CS) (e:Int) (q:Nat):Up s q (e,s):=⟨Int.le_refl _,by dsimp only;omega⟩
theorem Up.le {s:CS} {z y:Nat} {r:CR} (h:Up s z r) (hq:z≤y):Up s y r:=⟨h.1,by have:=h.2;omega⟩
theorem Ux (s:CS) (x:Int) (q:Nat):Up s q (iY s x):=⟨Int.le_refl _,by dsimp only [iY];omega⟩
theorem ae5 (body note:Bool) (t k i:Int) (s:CS) (q:Nat):Up s q (jU body note t k i s):=by
 unfold jU
 (repeat' split) <;> first|exact Up.zero _ _ _|exact (Up.zero _ _ 0).and (y:=0) (by omega) fun s=>Ux _ _ _
mutual
theorem Uy (C:fJ) (body note:Bool) (t:Int):∀ (x:aj) (s:CS),Up s (bP x.dat) (dN C body note t x s)
 | .mk k c i tx h f r,s=>by
  have hz:=lF (.mk k c i tx h f r);have hf:=I5 C false true t f;have hr:=Uz C note (t+1) r;rw [dN];obtain ⟨u,hu'⟩:∃ u,u=(if k=1 then oQ tx else 1:Nat):=⟨_,rfl⟩
  have hu:u≤tx.size+1:=by
   have:=yG tx
   rw [hu'];split <;> omega
  rw [← hu'];dsimp only [aj.text,aj.flow,aj.rows,aj.head] at hz;refine (Up.zero s _ 0).and (Nat.le_of_eq (Nat.zero_add _)) fun s=>?_
  have h2:Up s (u) (jU body note t k i ⟨s.n+(u:Nat),s.aW⟩):=by
   obtain ⟨h3,h4⟩:=ae5 body note t k i ⟨s.n+(u:Nat),s.aW⟩ 0;dsimp only at h3 h4;exact ⟨by omega,by omega⟩
  refine h2.and (y:=aS f+fI r) (by omega) fun s=>(Up.zero s _ 0).and (Nat.le_of_eq (Nat.zero_add _)) fun s=>?_
  by_cases h6:k=6
  ·rw [if_pos h6];exact (hf s).le (by omega)
  rw [if_neg h6]
  by_cases h7:k=7
  ·rw [if_pos h7]
   unfold jN
   by_cases c1:r.length=0
   ·rw [if_pos c1];exact Up.zero _ _ _
   rw [if_neg c1]
   by_cases c2:256 < r.length
   ·rw [if_pos c2];exact Up.zero _ _ _
   rw [if_neg c2];exact (hr s).le (by omega)
  rw [if_neg h7];exact Up.zero _ _ _
theorem ae6 (C:fJ) (note:Bool) (t:Int):∀ (x:aN) (s:CS),Up s (bP x.dat) (za C note t x s)
 | .mk h cs,s=>by
  have hz:=tF (.mk h cs);have hc:=Uw C note t cs;rw [Io];dsimp only [aN.cells,aN.head] at hz ⊢;exact (Up.zero s _ 0).and (y:=jg cs) (by omega) fun s=>hc s
theorem ae4 (C:fJ) (note:Bool) (t:Int):∀ (x:aJ) (s:CS),Up s (bP x.dat) (cellC C note t x s)
 | .mk i h f,s=>by
  have hz:=u6 (.mk i h f);have hf:=I5 C false note t f;rw [FJ];dsimp only [aJ.flow,aJ.head,aJ.id] at hz ⊢;exact (Ux s _ 0).and (y:=aS f) (by omega) fun s=>(Up.zero s _ 0).and (Nat.le_of_eq (Nat.zero_add _)) fun s=>hf s
theorem I5 (C:fJ) (body note:Bool) (t:Int):∀ (l:List aj) (s:CS),Up s (aS l) (iO C body note t l s)
 | [],s=>by rw [iO];exact Up.zero _ _ _
 | x :: r,s=>by
  rw [iO];exact (Uy C body note t x s).and (y:=aS r) (by simp only [aS,List.map_cons,dw];omega) fun s=>I5 C body note t r s
theorem Uz (C:fJ) (note:Bool) (t:Int):∀ (l:List aN) (s:CS),Up s (fI l) (gJ C note t l s)
 | [],s=>by rw [gJ];exact Up.zero _ _ _
 | x :: r,s=>by
  rw [gJ];exact (ae6 C note t x s).and (y:=fI r) (by simp only [fI,List.map_cons,dw];omega) fun s=>Uz C note t r s
theorem Uw (C:fJ) (note:Bool) (t:Int):∀ (l:List aJ) (s:CS),Up s (jg l) (oP C note t l s)
 | [],s=>by rw [oP];exact Up.zero _ _ _
 | x :: r,s=>by
  rw [oP];exact (ae4 C note t x s).and (y:=jg r) (by simp only [jg,List.map_cons,dw];omega) fun s=>Uw C note t r s
end
/-! ## Item by item -/
/-- The state ahead of the item with an index. -/
def mF {α:Type} (f:α→CS→CR) (l:List α) (s:CS):Nat→CS
 | 0=>s
 | i+1=>match l[i]? with|some x=>(f x (mF f l s i)).2|none=>mF f l s i
def wP {α:Type} (f:α→CS→CR) (l:List α) (s:CS) (i:Nat):Int:=match l[i]? with|some x=>(f x (mF f l s i)).1|none=>0
theorem Ny {α:Type} (f:α→CS→CR) (x:α) (l:List α) (s:CS):∀ i,mF f (x :: l) s (i+1)=mF f l (f x s).2 i
 | 0=>rfl
 | i+1=>by
  have ih:=Ny f x l s i
  simp only [mF,List.getElem?_cons_succ] at ih ⊢
  rw [ih]
theorem ZC {α:Type} (f:α→CS→CR) (x:α) (l:List α) (s:CS) (i:Nat):wP f (x :: l) s (i+1)=wP f l (f x s).2 i:=by
 unfold wP
 simp only [List.getElem?_cons_succ,Ny]
theorem VX (E:Nat→Int) (n:Nat):jr E (n+1)=if E 0≠0 then E 0 else jr (fun i=>E (i+1)) n:=by
 unfold jr
 rw [List.range_succ_eq_map,List.map_cons,cu,List.map_map]
 rfl
theorem Sc (C:fJ) (body note:Bool) (t:Int):∀ (l:List aj) (s:CS),(iO C body note t l s).1=jr (wP (dN C body note t) l s) l.length∧((iO C body note t l s).1=0→(iO C body note t l s).2=mF (dN C body note t) l s l.length)
 | [],s=>by rw [iO];exact ⟨rfl,fun _=>rfl⟩
 | x :: r,s=>by
  obtain ⟨h1,h2⟩:=Sc C body note t r (dN C body note t x s).2;have e0:wP (dN C body note t) (x :: r) s 0=(dN C body note t x s).1:=rfl;rw [iO,List.length_cons,VX,e0,Ny]
  simp only [ZC]
  unfold dZ
  split
  ·next h=>exact ⟨rfl,fun h0=>absurd h0 h⟩
  exact ⟨h1,h2⟩
theorem UA (C:fJ) (body note:Bool) (t:Int) (l:List aj) (s:CS):∀ i,i≤l.length→s.n≤(mF (dN C body note t) l s i).n∧(mF (dN C body note t) l s i).n+(aS (l.drop i):Nat)≤s.n+(aS l:Nat)
 | 0,_=>⟨Int.le_refl _,Int.le_refl _⟩
 | i+1,hi=>by
  have hi':i < l.length:=hi;obtain ⟨h1,h2⟩:=UA C body note t l s i (by omega)
  have hs:mF (dN C body note t) l s (i+1)=(dN C body note t l[i] (mF (dN C body note t) l s i)).2:=by rw [mF,List.getElem?_eq_getElem hi']
  have hd:aS (l.drop i)=1+bP l[i].dat+aS (l.drop (i+1)):=by
   simp only [aS];rw [List.drop_eq_getElem_cons hi',List.map_cons,dw]
  obtain ⟨h3,h4⟩:=Uy C body note t l[i] (mF (dN C body note t) l s i);rw [hs];exact ⟨by omega,by omega⟩
end
section
open Go.RowKit
mutual
/-- The ids in items, in document order. -/
def xG:aj→List Int
 | .mk k _ i _ _ f r=>(if k=6∨k=7 then [i] else [])++((if k=6 then oW f else [])++(if k=7 then qJ r else []))
def oW:List aj→List Int
 | []=>[]
 | x :: r=>xG x++oW r
def xH:aN→List Int
 | .mk _ c=>pV c
def qJ:List aN→List Int
 | []=>[]
 | x :: r=>xH x++qJ r
def xE:aJ→List Int
 | .mk i _ f=>i :: oW f
def pV:List aJ→List Int
 | []=>[]
 | x :: r=>xE x++pV r
end
theorem Hr (x:aN):xH x=pV x.cells:=by cases x;rw [xH];rfl
theorem Hq (x:aJ):xE x=x.id :: oW x.flow:=by cases x;rw [xE];rfl
end
section
open Go.RowKit
theorem mK {r:CR} {f:CS→CR} {s':CS} (h:dZ r f=(0,s')):r.1=0∧f r.2=(0,s'):=by
 unfold dZ at h
 split at h
 ·rename_i h1;rw [h] at h1;exact absurd rfl h1
 rename_i h1;exact ⟨Decidable.not_not.1 h1,h⟩
theorem Px {r:CR} (h:r.1=0):r=(0,r.2):=Prod.ext h rfl
/-- Ids b come to a and give c: none twice. -/
structure jD (a b c:List Int):Prop where
 eq:c=a++b
 nd:a.Nodup→c.Nodup
 pos:∀ i∈b,1≤i∧i≤1073741824
theorem jD.nil (a:List Int):jD a [] a:=⟨by simp,fun h=>h,fun i h=>by cases h⟩
theorem jD.trans {a b c d e:List Int} (h:jD a b c) (g:jD c d e):jD a (b++d) e:=⟨by rw [g.eq,h.eq,List.append_assoc],fun h1=>g.nd (h.nd h1),fun i hi=>(List.mem_append.1 hi).elim (h.pos i) (g.pos i)⟩
theorem jD.id {a:List Int} {x:Int} (h:mZ a x=0):jD a [x] (iX a x):=by
 unfold iX
 rw [if_pos h]
 unfold mZ at h
 by_cases h1:1≤x∧x≤1073741824
 ·rw [if_neg (fun h'=>h' h1)] at h
  by_cases h2:x∈a
  ·rw [if_pos h2] at h;cases h
  exact ⟨rfl,fun h3=>List.nodup_append.2 ⟨h3,by simp,fun u hu v hv=>by rw [List.mem_singleton.1 hv];exact fun e=>h2 (e ▸ hu)⟩,fun i hi=>by rw [List.mem_singleton.1 hi];exact h1⟩
 rw [if_pos h1] at h;cases h
theorem jD.iY {s s':CS} {x:Int} (h:iY s x=(0,s')):jD s.aW [x] s'.aW:=by
 unfold Go.Proofs.YthichnnlceeofaaGreat.iY at h
 injection h with h1 h2
 rw [← h2];exact jD.id h1
theorem adx {body note:Bool} {t k i:Int} {s s':CS} (h:jU body note t k i s=(0,s')):jD s.aW (if k=6∨k=7 then [i] else []) s'.aW:=by
 unfold jU at h
 by_cases h3:k=3
 ·rw [if_pos h3] at h;injection h with _ h2;rw [if_neg (by omega),← h2];exact jD.nil _
 rw [if_neg h3] at h
 by_cases h6:k=6
 ·rw [if_pos h6] at h;rw [if_pos (.inl h6)];exact jD.iY (mK h).2
 rw [if_neg h6] at h
 by_cases h7:k=7
 ·rw [if_pos h7] at h;rw [if_pos (.inr h7)];exact jD.iY (mK h).2
 rw [if_neg h7] at h;rw [if_neg (by omega)]
 by_cases h8:k=8
 ·rw [if_pos h8] at h;injection h with _ h2;rw [← h2];exact jD.nil _
 rw [if_neg h8] at h;injection h with _ h2;rw [← h2];exact jD.nil _
theorem TJ {n:Nat} {f:CS→CR} {s s':CS} (h:jN n f s=(0,s')):n≠0∧f s=(0,s'):=by
 unfold jN at h
 split at h
 ·cases h
 rename_i h1
 split at h
 ·cases h
 exact ⟨h1,h⟩
mutual
theorem ZP (C:fJ) (body note:Bool) (t:Int):∀ (x:aj) (s s':CS),dN C body note t x s=(0,s')→jD s.aW (xG x) s'.aW
 | .mk k c i tx h f r,s,s',e=>by
  have hf:=Gj C false true t f;have hr:=Qh C note (t+1) r;rw [dN] at e;obtain ⟨-,e⟩:=mK e;obtain ⟨e1,e⟩:=mK e;obtain ⟨-,e⟩:=mK e;have h1:=adx (Px e1);rw [xG];refine h1.trans ?_
  by_cases h6:k=6
  ·rw [if_pos h6] at e ⊢;rw [if_neg (show ¬ k=7 by omega),List.append_nil];exact hf _ _ e
  rw [if_neg h6] at e ⊢;rw [List.nil_append]
  by_cases h7:k=7
  ·rw [if_pos h7] at e ⊢;exact hr _ _ (TJ e).2
  rw [if_neg h7] at e ⊢
  injection e with _ e
  rw [← e];exact jD.nil _
theorem ZQ (C:fJ) (note:Bool) (t:Int):∀ (x:aN) (s s':CS),za C note t x s=(0,s')→jD s.aW (xH x) s'.aW
 | .mk h cs,s,s',e=>by
  have hc:=Qg C note t cs;rw [Io] at e;rw [xH];exact hc _ _ (mK e).2
theorem ZO (C:fJ) (note:Bool) (t:Int):∀ (x:aJ) (s s':CS),cellC C note t x s=(0,s')→jD s.aW (xE x) s'.aW
 | .mk i h f,s,s',e=>by
  have hf:=Gj C false note t f;rw [FJ] at e;dsimp only [aJ.id,aJ.head,aJ.flow] at e;obtain ⟨e1,e⟩:=mK e;have h1:=jD.iY (s':=(iY s i).2) (Prod.ext e1 rfl);rw [xE];exact h1.trans (hf _ _ (mK e).2)
theorem Gj (C:fJ) (body note:Bool) (t:Int):∀ (l:List aj) (s s':CS),iO C body note t l s=(0,s')→jD s.aW (oW l) s'.aW
 | [],s,s',e=>by rw [iO] at e;injection e with _ e;rw [← e];exact jD.nil _
 | x :: r,s,s',e=>by
  rw [iO] at e;obtain ⟨e1,e⟩:=mK e;rw [oW];exact (ZP C body note t x s _ (Prod.ext e1 rfl)).trans (Gj C body note t r _ _ e)
theorem Qh (C:fJ) (note:Bool) (t:Int):∀ (l:List aN) (s s':CS),gJ C note t l s=(0,s')→jD s.aW (qJ l) s'.aW
 | [],s,s',e=>by rw [gJ] at e;injection e with _ e;rw [← e];exact jD.nil _
 | x :: r,s,s',e=>by
  rw [gJ] at e;obtain ⟨e1,e⟩:=mK e;rw [qJ];exact (ZQ C note t x s _ (Prod.ext e1 rfl)).trans (Qh C note t r _ _ e)
theorem Qg (C:fJ) (note:Bool) (t:Int):∀ (l:List aJ) (s s':CS),oP C note t l s=(0,s')→jD s.aW (pV l) s'.aW
 | [],s,s',e=>by rw [oP] at e;injection e with _ e;rw [← e];exact jD.nil _
 | x :: r,s,s',e=>by
  rw [oP] at e;obtain ⟨e1,e⟩:=mK e;rw [pV];exact (ZO C note t x s _ (Prod.ext e1 rfl)).trans (Qg C note t r _ _ e)
end
/-! ## What a valid flow is made of -/
def fP (l:List aj):Prop:=∃ (C:fJ) (body note:Bool) (t:Int) (s s':CS),iO C body note t l s=(0,s')
structure wI (x:aj):Prop where
 txt:oK x.text=true
 kd:1≤x.kind∧x.kind≤8
 TS:x.kind≠7→x.rows=[]
 fl0:x.kind≠6→x.flow=[]
 fl:fP x.flow
 rw:∀ r∈x.rows,∀ c∈r.cells,fP c.flow
theorem acP:fP []:=⟨⟨[],[],[]⟩,false,false,0,⟨0,[]⟩,⟨0,[]⟩,by rw [iO]⟩
theorem aar {x:aj} (h:lI x=0):oK x.text=true∧(1≤x.kind∧x.kind≤8)∧(x.kind≠7→x.rows=[])∧(x.kind≠6→x.flow=[]):=by
 unfold lI at h
 split at h
 ·cases h
 rename_i h1
 split at h
 ·cases h
 rename_i h2
 split at h
 ·cases h
 rename_i h3
 have hk:decide (1≤x.kind∧x.kind≤8)=true:=by
  cases hd:decide (1≤x.kind∧x.kind≤8)
  ·rw [hd] at h1;exact absurd rfl h1
  rfl
 refine ⟨by simpa using h3,of_decide_eq_true hk,fun h7=>?_,fun h6=>?_⟩
 ·rw [Bool.not_eq_true] at h2
  unfold yK at h2
  simp only [Bool.or_eq_false_iff] at h2
  have h4:=h2.2;rw [decide_eq_true h7,Bool.true_and,decide_eq_false_iff_not] at h4;exact List.length_eq_zero_iff.1 (by omega)
 rw [Bool.not_eq_true] at h2
 unfold yK at h2
 simp only [Bool.or_eq_false_iff] at h2
 have h4:=h2.1.2;rw [decide_eq_true h6,Bool.true_and,decide_eq_false_iff_not] at h4;exact List.length_eq_zero_iff.1 (by omega)
theorem cells_ok {C:fJ} {note:Bool} {t:Int}:∀ {l:List aJ} {s s':CS},oP C note t l s=(0,s')→∀ c∈l,fP c.flow
 | [],_,_,_,_,h=>by cases h
 | x :: r,s,s',e,c,h=>by
  rw [oP] at e;obtain ⟨e1,e⟩:=mK e
  rcases List.mem_cons.1 h with rfl|h
  ·have e2:cellC C note t c s=(0,(cellC C note t c s).2):=Prod.ext e1 rfl
   generalize (cellC C note t c s).2=s2 at e2
   rw [FJ] at e2;exact ⟨C,false,note,t,_,_,(mK (mK e2).2).2⟩
  exact cells_ok e c h
theorem TK {C:fJ} {note:Bool} {t:Int}:∀ {l:List aN} {s s':CS},gJ C note t l s=(0,s')→∀ r∈l,∀ c∈r.cells,fP c.flow
 | [],_,_,_,_,h=>by cases h
 | x :: r,s,s',e,q,h=>by
  rw [gJ] at e;obtain ⟨e1,e⟩:=mK e
  rcases List.mem_cons.1 h with rfl|h
  ·have e2:za C note t q s=(0,(za C note t q s).2):=Prod.ext e1 rfl
   generalize (za C note t q s).2=s2 at e2
   rw [Io] at e2;exact cells_ok (mK e2).2
  exact TK e q h
theorem fP.head {x:aj} {l:List aj} (h:fP (x :: l)):wI x∧fP l:=by
 obtain ⟨C,body,note,t,s,s',e⟩:=h;rw [iO] at e;obtain ⟨e1,e⟩:=mK e;have e2:dN C body note t x s=(0,(dN C body note t x s).2):=Prod.ext e1 rfl
 generalize (dN C body note t x s).2=s2 at e2
 refine ⟨?_,⟨C,body,note,t,_,_,e⟩⟩;rw [Sb] at e2;obtain ⟨f1,e2⟩:=mK e2;(iterate 2 obtain ⟨-,e2⟩:=mK e2);obtain ⟨h1,h2,h3,h4⟩:=aar f1;refine ⟨h1,h2,h3,h4,?_,?_⟩
 ·by_cases h6:x.kind=6
  ·rw [if_pos h6] at e2;exact ⟨_,_,_,_,_,_,e2⟩
  rw [h4 h6];exact acP
 by_cases h7:x.kind=7
 ·rw [if_neg (by omega),if_pos h7] at e2;exact TK (TJ e2).2
 rw [h3 h7];exact fun _ h=>by cases h
theorem fP.tail {x:aj} {l:List aj} (h:fP (x :: l)):fP l:=h.head.2
theorem fP.mem:∀ {l:List aj} {x:aj},fP l→x∈l→wI x
 | y :: l,x,h,hx=>by
  rcases List.mem_cons.1 hx with rfl|hx
  ·exact h.head.1
  exact fP.mem h.head.2 hx
theorem wI.e {x:aj} (h:wI x):oI x=0:=by unfold oI AB;rw [if_pos h.txt];split <;> rfl
theorem wI.n1 {x:aj} (h:wI x):n1 x=dR x:=by unfold Go.Proofs.YthichnnlceeofaaGreat.n1;rw [if_pos h.e]
theorem fP.div {l:List aj} (h:fP l):sO l=true:=by
 unfold sO
 rw [List.all_eq_true];exact fun x hx=>decide_eq_true (h.mem hx).e
theorem fP.len {l:List aj} (h:fP l):pX l=qd l:=by unfold pX;rw [if_pos h.div]
/-! ## The flows' ids -/
mutual
theorem afz (note:Bool) (t:Int):∀ x:aj,((uY note t x).map jo.id).Sublist (xG x)
 | .mk k c i tx h f r=>by
  have hf:=I9 true t f;have hr:=U0 note t r;rw [uY,xG]
  by_cases h6:k=6
  ·rw [if_pos h6,if_pos (.inl h6),if_pos h6,if_neg (by omega),List.append_nil];exact List.Sublist.cons_cons _ hf
  rw [if_neg h6,if_neg h6,List.nil_append]
  by_cases h7:k=7
  ·rw [if_pos h7,if_pos h7,if_pos (.inr h7)];exact List.Sublist.cons _ hr
  rw [if_neg h7];exact List.nil_sublist _
theorem I9 (note:Bool) (t:Int):∀ l:List aj,((iw note t l).map jo.id).Sublist (oW l)
 | []=>by rw [iw];exact List.nil_sublist _
 | x :: l=>by
  rw [iw,oW,List.map_append];exact (afz note t x).append (I9 note t l)
theorem afA (note:Bool) (t:Int):∀ x:aN,((uZ note t x).map jo.id).Sublist (xH x)
 | .mk h cs=>by rw [uZ,xH];exact UZ note t cs
theorem U0 (note:Bool) (t:Int):∀ l:List aN,((ny note t l).map jo.id).Sublist (qJ l)
 | []=>by rw [ny];exact List.nil_sublist _
 | x :: l=>by
  rw [ny,qJ,List.map_append];exact (afA note t x).append (U0 note t l)
theorem afy (note:Bool) (t:Int):∀ x:aJ,((uW note t x).map jo.id).Sublist (xE x)
 | .mk i h f=>by rw [uW,xE];exact List.Sublist.cons_cons _ (I9 note (t+1) f)
theorem UZ (note:Bool) (t:Int):∀ l:List aJ,((nO note t l).map jo.id).Sublist (pV l)
 | []=>by rw [nO];exact List.nil_sublist _
 | x :: l=>by
  rw [nO,pV,List.map_append];exact (afy note t x).append (UZ note t l)
end
/-- A valid document: all ids differ, none is that of the body. -/
structure nE (l:List aj):Prop where
 ok:fP l
 nd:(oW l).Nodup
 pos:∀ i∈oW l,1≤i∧i≤1073741824
theorem nE.of {C:fJ} {body note:Bool} {t n:Int} {l:List aj} {s':CS} (h:iO C body note t l ⟨n,[]⟩=(0,s')):nE l:=by
 have he:=Gj C body note t l _ _ h;have hn:=he.nd List.nodup_nil;rw [he.eq] at hn;exact ⟨⟨C,body,note,t,_,_,h⟩,by simpa using hn,he.pos⟩
theorem nE.ids {l:List aj} (h:nE l):((iI l).map jo.id).Nodup:=by
 have hs:=I9 false 0 l;rw [iI,List.map_cons,List.nodup_cons];exact ⟨fun hm=>by have:=h.pos _ (hs.subset hm);dsimp only at this;omega,hs.nodup h.nd⟩
end
section
open Go.RowKit
theorem jB:Tryz.prog.underlying 41=some (.slice 45):=by kernel_rfl
theorem PZ:∀ args w,(callFunc 34 args).run Tryz.prog w=.ok (.enter 34 args) w:=enters Tryz.func34 rfl (by kernel_rfl)
theorem P5:∀ args w,(callFunc 35 args).run Tryz.prog w=.ok (.enter 35 args) w:=enters Tryz.func35 rfl (by kernel_rfl)
theorem F6:∀ args w,(callFunc 18 args).run Tryz.prog w=.ok (.enter 18 args) w:=enters Tryz.func18 rfl (by kernel_rfl)
/-- The way from a flow to the body, as far as a number of steps leads. -/
def ig (l:List aj):Nat→Int→Option (Option (List (Int × Int)))
 | 0,_=>none
 | n+1,f=>if f=0 then some (some []) else match jc l f with
  | none=>some none
  | some p=>match ig l n p.1 with
   | none=>none
   | some r=>some (r.map (p :: ·))
def fu (p:Int × Int):List Dat:=[li p.1,li p.2]
/-- A slice of at most one element is its own reverse. -/
theorem adP (G:GH) (w0:World) (hG:Hold G w0) (A:Option Addr) (n c:Nat) (hn:n≤1) :
  Calls Tryz.prog 35 #[.slice A n c] w0 (aU w0 G fun _ G'=>G=G'):=by
 refine eN [(0,_)] Tryz.func35 rfl Tryz.ntmps35 rfl rfl hG ?_;intro a H;refine kP H (SR fun _ K1=>Rm rfl (Rl jB rfl (Rs rfl (Ra rfl (Ra rfl (Kz K1 (SB ?_)))))));clear H K1;intro a H;skip;refine d9 (ι:=Unit) (Tc:=[(0,_)]) (Lc:=[]) (fun (gh:Unit)=>[(2,vi 0),(3,vi ((n:Int) - 1))]) (fun (gh:Unit)=>[]) (fun (gh:Unit)=>G) (fun (gh:Unit)=>True) (fun (gh:Unit)=>0) (()) (by exact (H).sub ⟨rfl,rfl,rfl,trivial⟩) ?_ ?_
 ·trivial
 clear H;intro gh a w hI H;obtain ⟨u,hgh⟩:∃ x,x=gh:=⟨_,rfl⟩;subst hgh;skip;dsimp only [List.cons_append,List.nil_append,List.append_nil] at H;refine kP H (SQ fun _ K2=>SR fun _ K3=>Rm rfl (Rm rfl (Rc rfl (Kz K3 (Cd rfl ?_ ?_))))) <;> clear H K3
 ·intro h9 a H
  try have p9:=dT h9
  exact absurd p9 (by omega)
 intro h9 a H
 try have p9:=dF h9
 refine dL ?_;refine (leave0 H Tryz.results35 ?_).2;exact H.hp.ret rfl
theorem Tp (G:GH) (w0:World) (hG:Hold G w0) (D:jh) (l:List aj) (flow:Int) (hv:ah G (.sl 11 (l.map aj.dat)) (dY D.f)) (hz:aS l≤4294967296) (n:Nat) (hn:n≤4294967296) (res:Option (List (Int × Int))) (hp:ig l n flow=some res) (h1:∀ ps,res=some ps→ps.length≤1) :
  Calls Tryz.prog 18 #[D.val,vi flow] w0 (aU w0 G fun u G'=>∃ v,u=.tuple #[v,vi (if (fZ l flow).isSome=true then (if res.isSome=true then 0 else 8) else 8)]∧ah G' (.sl 2 ((if (fZ l flow).isSome=true then res.getD [] else []).map fu)) v):=by
 have hml:4294967297≤maxLen:=by decide
 refine eN [(0,_),(1,_)] Tryz.func18 rfl Tryz.ntmps18 rfl rfl hG ?_;intro a H;refine aY (fun _ K1=>?_);refine bY (cs:=[_,_,_,_,_,_,_,_,_,_,_]) H wn rfl rfl rfl ?_;clear H;intro b2 a w hb2 H;refine kH H (Ra rfl (Ra rfl (Kz K1 (SQ fun _ K2=>SR fun _ K3=>?_))));clear H K1;intro a H;refine aK iq (cs:=[_,_,_,_,_,_,_,_,_,_,_]) H wn rfl rfl (H.hp.bF 0 rfl rfl) rfl ?_;clear H;intro a H;refine kH H (Rm rfl ?_);clear H;intro a H;refine s_call F7 H wn rfl (GA _ _ H.hp.ro D l flow hv hz) rfl ?_;clear H;rintro v14 qV a w ⟨v,rfl,hr⟩ rM H;refine kH H (Rm rfl ?_);clear H;intro a H;(iterate 2 refine gV H wn rfl rfl rfl ?_;clear H;intro a H);refine kH H (Ra rfl (Ra rfl (Kz K3 (SR fun _ K4=>Rm rfl (Rn rfl (Kz K4 (Cd rfl ?_ ?_))))))) <;> clear H K3 K4
 ·intro h18 a H
  try have oZ:=dT h18
  refine kP H (SR fun _ K5=>Ra rfl (Ra rfl (Kz K5 ?_)));clear H K5;intro a H;refine aR ?_;refine (bU H Tryz.results18 (.cons (aF H rfl) (.cons (aF H rfl) .nil)) ?_).1;exact H.hp.ret ⟨_,by rw [if_neg (by simpa using h18)],by rw [if_neg (by simpa using h18)];exact ah.gq rfl (by decide)⟩
 intro h18 a H
 try have oZ:=dF h18
 refine kP H (Kc K2 (SR fun _ K6=>Ra rfl (Kz K6 (SQ fun _ K7=>SB ?_))));clear H K2 K6;intro a H;skip;refine d9 (ι:=Nat × Int × List (Int × Int) × Value × List Value × OL × GH) (Tc:=[(2,_)]) (Lc:=[(_,_)]) (fun (gh:Nat × Int × List (Int × Int) × Value × List Value × OL × GH)=>[(1,vi gh.2.1),(8,gh.2.2.2.1)]) (fun (gh:Nat × Int × List (Int × Int) × Value × List Value × OL × GH)=>[]++gh.2.2.2.2.2.1) (fun (gh:Nat × Int × List (Int × Int) × Value × List Value × OL × GH)=>gh.2.2.2.2.2.2) (fun (gh:Nat × Int × List (Int × Int) × Value × List Value × OL × GH)=>(∀ b o,qV b=some o→gh.2.2.2.2.2.2 b=some o)∧eB 45 2 gh.2.2.2.1 gh.2.2.1.length gh.2.2.2.2.1 gh.2.2.2.2.2.1∧eU gh.2.2.2.2.2.2 2 (gh.2.2.1.map fu) gh.2.2.2.2.1∧(∃ r,ig l gh.1 gh.2.1=some r∧res=r.map (gh.2.2.1++·))∧gh.1+gh.2.2.1.length≤n) (fun (gh:Nat × Int × List (Int × Int) × Value × List Value × OL × GH)=>gh.1) ((n,flow,[],.slice none 0 0,[],[],qV)) (by exact (H).sub ⟨rfl,rfl,rfl,trivial⟩) ?_ ?_
 ·exact ⟨fun _ _ h=>h,eB.nil,eU.nil,⟨res,hp,by cases res <;> simp⟩,by simp⟩
 clear H;intro gh a w hI H;obtain ⟨k,f,ps,v8,xs,Lo,g⟩:=gh;dsimp only at hI H;obtain ⟨hgm,hrw,gI,⟨r,hr1,hr2⟩,hkn⟩:=hI
 obtain ⟨k2,rfl⟩:∃ k2,k=k2+1:=by cases k with|zero=>simp [ig] at hr1|succ k=>exact ⟨k,rfl⟩
 rw [ig] at hr1;dsimp only [List.cons_append,List.nil_append,List.append_nil] at H;refine kP H (SQ fun _ K8=>SR fun _ K9=>Rm rfl (Rc rfl (Kz K9 (Cd rfl ?_ ?_)))) <;> clear H K9
 ·intro h20 a H
  try have mq:=dT h20
  refine kP H (Kc K8 (SB (SR fun _ aH=>?_)));clear H K8;intro a H;refine aK iq (cs:=[_,_,_,_,_,_,_,_,_,_,_]) H wn rfl rfl (H.hp.bF 0 rfl rfl) rfl ?_;clear H;intro a H;refine kH H (Rm rfl ?_);clear H;intro a H;refine s_call PZ H wn rfl (TA _ _ H.hp.ro D l f (hv.mono fun b o h=>hgm b o (rM b o h)) hz) rfl ?_;clear H;rintro v24 zB a w rfl uw H;refine kH H (Rm rfl ?_);clear H;intro a H;(iterate 2 refine gV H wn rfl rfl rfl ?_;clear H;intro a H);refine bX bN H wn rfl ?_;clear H;intro b9 a w rH H;refine aP bN 0 (vs:=[_,_]) _ H wn rfl rfl rfl rfl rfl rfl rfl rfl ?_;clear H;intro w H;dsimp only [List.set,setRow] at H;refine kH H (Ra rfl (Kz aH (SQ fun _ aX=>SR fun _ bD=>Rm rfl (Rn rfl (Kz bD (Cd rfl ?_ ?_)))))) <;> clear H aH bD
  ·intro bW a H
   try have p28:=dT bW
   refine kP H (SR fun _ bH=>Ra rfl (Ra rfl (Kz bH ?_)));clear H bH;intro a H;refine aR ?_;refine (bU H Tryz.results18 (.cons (aF H rfl) (.cons (aF H rfl) .nil)) ?_).1
   have hpn:jc l f=none:=by simpa using bW
   rw [if_neg mq,hpn] at hr1
   simp only [Option.some.injEq] at hr1
   subst hr1
   simp only [Option.map_none] at hr2
   exact H.hp.ret ⟨_,by rw [hr2];split <;> rfl,by rw [hr2];split <;> exact ah.gq rfl (by decide)⟩
  intro bW a H
  try have p28:=dF bW
  refine kP H (Kc aX (SR fun _ bG=>Rm rfl ?_));clear H aX;intro a H;refine aK bN (cs:=[_,_]) H wn rfl rfl (H.hp.bF 0 rfl rfl) rfl ?_;clear H;intro a H;refine fM jB bN [_,_] [_,_] H wn rfl rfl rfl rfl rfl (by intro i q h;match i,h with|0,h=>exact h|n+1,h=>simp at h) rfl rfl ?_;clear H;intro V3 a w aaU H;refine sF (Li:=[_,_,_]) (Lo:=Lo) (news:=[vi ((jc l f).getD (0,0)).1,vi ((jc l f).getD (0,0)).2]) jB bN rfl rfl H wn rfl rfl hrw rfl (H.hp.bF 0 rfl rfl) rfl (by omega) (by omega) rfl ?_;clear H;intro v32 Jk a w Ms H;refine kH H (Ra rfl (Kz bG (SC (Rf qC rfl (Ro ak 1 rfl rfl (Ra rfl ?_))))));clear H bG;intro a H;refine au ?_;refine dD ((k2,((jc l f).getD (0,0)).1,ps++[(jc l f).getD (0,0)],v32,xs++[vi ((jc l f).getD (0,0)).1,vi ((jc l f).getD (0,0)).2],Jk,zB)) (by exact (H.bL (Pl:=[_,_,_]) (bB:=[_]) [2] (by decide) rfl).sub ⟨rfl,rfl,rfl,trivial⟩) ?_ ?_
  ·(try dsimp only);refine ⟨fun b o h=>uw b o (hgm b o h),by simpa using Ms,?_,?_,by simp;omega⟩
   ·rw [List.map_append];exact (gI.mono uw).snoc ⟨_,_,rfl,⟨rfl,rfl⟩,_,_,rfl,⟨rfl,rfl⟩,rfl⟩ rfl
   obtain ⟨p,hpp⟩:=Option.isSome_iff_exists.1 (by simpa using bW:(jc l f).isSome=true);rw [hpp] at hr1 ⊢
   simp only [if_neg mq] at hr1
   cases hq:ig l k2 p.1 with
   | none=>rw [hq] at hr1;cases hr1
   | some r2=>rw [hq] at hr1;simp only [Option.some.injEq] at hr1;subst hr1;exact ⟨r2,by simpa using hq,by rw [hr2];cases r2 <;> simp⟩
  first|omega|(dsimp only;omega)
 intro h20 a H
 try have mq:=dF h20
 have hf0:f=0:=Decidable.not_not.1 mq;rw [if_pos hf0] at hr1
 simp only [Option.some.injEq] at hr1
 subst hr1
 simp only [Option.map_some,List.append_nil] at hr2
 obtain ⟨Gr,hmr,hrep,H⟩:=St.rz (Li:=[_]) H hrw (rows:=ps.map fu) (by simp) gI;obtain ⟨vA,vn,vc,rfl⟩:=hrep.form;have EC:=hrep.len;rw [List.length_map] at EC;have agr:=h1 ps hr2;refine dL ?_;refine K7 _ _ ?_;clear K7;refine kP H (SR fun _ bV=>Rm rfl ?_);clear H;intro a H;refine s_call P5 H wn rfl (adP _ _ H.hp.ro _ _ _ (by omega)) rfl ?_;clear H;rintro v36 Vy a w rfl abl H;refine bV _ _ ?_;clear bV;refine kP H (SR fun _ bQ=>Rm rfl (Ra rfl (Ra rfl (Kz bQ ?_))));clear H bQ;intro a H;refine aR ?_;refine (bU H Tryz.results18 (.cons (aF H rfl) (.cons (aF H rfl) .nil)) ?_).1
 have hfs:(fZ l flow).isSome=true:=by simpa using h18
 exact H.hp.ret ⟨_,by rw [if_pos hfs,hr2];rfl,by rw [if_pos hfs,hr2];exact hrep⟩
theorem Ck {G:GH} {p:Int × Int} {cs:List Value} (h:aO G (fu p) cs):cs=[vi p.1,vi p.2]:=by
 simp only [fu,aO,ah] at h
 obtain ⟨v1,_,rfl,⟨rfl,-⟩,v2,_,rfl,⟨rfl,-⟩,rfl⟩:=h
 rfl
/-- What Lift gives, from the way to the body. -/
def iU (l:List aj) (f t flow:Int) (ps:List (Int × Int)):Option Int :=
 if mQ l f t t=0 then if f=flow then some t else (ps.find? fun q=>decide (q.1=flow)).map (·.2) else none
theorem acw (G:GH) (w0:World) (hG:Hold G w0) (D:jh) (l:List aj) (f t flow:Int) (hv:ah G (.sl 11 (l.map aj.dat)) (dY D.f)) (hz:aS l≤4294967296) (n:Nat) (hn:n≤4294967296) (res:Option (List (Int × Int))) (hp:ig l n f=some res) (h1:∀ ps,res=some ps→ps.length≤1) :
  Calls Tryz.prog 19 #[D.val,.agg #[vi f,vi t],vi flow] w0 (aU w0 G fun u G'=>u=.tuple #[vi ((iU l f t flow (if (fZ l f).isSome=true then res.getD [] else [])).getD 0),.bool (iU l f t flow (if (fZ l f).isSome=true then res.getD [] else [])).isSome]):=by
 have hps:(if (fZ l f).isSome=true then res.getD [] else []).length≤1:=by
  split
  ·cases res with
   | none=>simp
   | some ps=>exact h1 ps rfl
  simp
 obtain ⟨ps,hpe⟩:∃ ps,ps=(if (fZ l f).isSome=true then res.getD [] else []):=⟨_,rfl⟩;rw [← hpe] at hps ⊢;refine eN [(0,_),(1,_),(2,_)] Tryz.func19 rfl Tryz.ntmps19 rfl rfl hG ?_;intro a H;refine aY (fun _ K1=>?_);refine bY (cs:=[_,_,_,_,_,_,_,_,_,_,_]) H wn rfl rfl rfl ?_;clear H;intro b3 a w hb3 H;refine bY (cs:=[_,_]) H wn rfl rfl rfl ?_;clear H;intro b4 a w hb4 H;refine kH H (Ra rfl (Ra rfl (Kz K1 (SQ fun _ K2=>SR fun _ K3=>?_))));clear H K1;intro a H;refine aK iq (cs:=[_,_,_,_,_,_,_,_,_,_,_]) H wn rfl rfl (H.hp.bF 1 rfl rfl) rfl ?_;clear H;intro a H;refine aK bN (cs:=[_,_]) H wn rfl rfl (H.hp.bF 0 rfl rfl) rfl ?_;clear H;intro a H;refine s_call J3 H wn rfl (JF _ _ H.hp.ro D l f t hv hz) rfl ?_;clear H;rintro v14 qV a w rfl rM H;refine kH H (Rc rfl (Kz K3 (Cd rfl ?_ ?_))) <;> clear H K3
 ·intro iM a H
  try have kQ:=dT iM
  refine kP H (SR fun _ K4=>Ra rfl (Ra rfl (Kz K4 ?_)));clear H K4;intro a H;refine aR ?_;refine (bU H Tryz.results19 (.cons (aF H rfl) (.cons (aF H rfl) .nil)) ?_).1;exact H.hp.ret (by rw [iU,if_neg kQ];rfl)
 intro iM a H
 try have kQ:=dF iM
 refine kP H (Kc K2 (SQ fun _ K5=>SR fun _ K6=>Rf qC rfl (Ro ak 0 rfl rfl (Rm rfl (Rc rfl (Kz K6 (Cd rfl ?_ ?_))))))) <;> clear H K2 K6
 ·intro h19 a H
  try have j6:=dT h19
  refine kP H (SR fun _ K7=>Rf vK rfl (Ro ak 0 rfl rfl (Ra rfl (Ra rfl (Kz K7 ?_)))));clear H K7;intro a H;refine aR ?_;refine (bU H Tryz.results19 (.cons (aF H rfl) (.cons (aF H rfl) .nil)) ?_).1;exact H.hp.ret (by rw [iU,if_pos (by omega),if_pos j6];rfl)
 intro h19 a H
 try have j6:=dF h19
 refine eX ?_;refine K5 _ _ ?_;clear K5;refine aY (fun _ K8=>?_);refine aK iq (cs:=[_,_,_,_,_,_,_,_,_,_,_]) H wn rfl rfl (H.hp.bF 1 rfl rfl) rfl ?_;clear H;intro a H;refine kH H (Rf qC rfl (Ro ak 0 rfl rfl ?_));clear H;intro a H;refine s_call F6 H wn rfl (Tp _ _ H.hp.ro D l f (hv.mono rM) hz n hn res hp h1) rfl ?_;clear H;rintro v26 Jd a w ⟨v,rfl,hrep⟩ abk H;rw [← hpe] at hrep;obtain ⟨vA,vn,vc,rfl⟩:=hrep.form;have EC:=hrep.len;rw [List.length_map] at EC;refine kH H (Rm rfl ?_);clear H;intro a H;(iterate 2 refine gV H wn rfl rfl rfl ?_;clear H;intro a H);refine kH H (Ra rfl (Ra rfl (Kz K8 (SQ fun _ K9=>SR fun _ aH=>Rm rfl (Rl jB rfl (Rm rfl (Kz aH (SB ?_))))))));clear H K8 aH;intro a H;skip;refine d9 (ι:=Nat) (Tc:=[(2,_),(29,_),(30,_)]) (Lc:=[(_,_),(_,_)]) (fun (gh:Nat)=>[(31,vi gh)]) (fun (gh:Nat)=>[]) (fun (gh:Nat)=>Jd) (fun (gh:Nat)=>gh≤ps.length∧(ps.take gh).find? (fun q=>decide (q.1=flow))=none) (fun (gh:Nat)=>ps.length - gh) (0) (by exact (H).sub ⟨rfl,rfl,rfl,rfl,trivial⟩) ?_ ?_
 ·exact ⟨by omega,rfl⟩
 clear H;intro gh a w hI H;obtain ⟨k,hgh⟩:∃ x,x=gh:=⟨_,rfl⟩;subst hgh;obtain ⟨hk,hno⟩:=hI;dsimp only [List.cons_append,List.nil_append,List.append_nil] at H;refine kP H (SR fun _ aX=>Rc rfl (Kz aX (SQ fun _ bD=>Cd rfl ?_ ?_))) <;> clear H aX
 ·intro h32 a H
  try have p32:=dT h32
  have hk2:k < ps.length:=by omega
  obtain ⟨b,o,cs,rfl,hcl,hrow,hr⟩:=hrep.at_ k (fu ps[k]) (by simp [hk2]);obtain rfl:=Ck hr;refine kP H (Kc bD (SQ fun _ bH=>SB (SR fun _ bG=>Ri jB bN rfl rfl ?_)));clear H bD;intro a H;refine aK bN (cs:=[_,_]) H wn rfl rfl (fun j v hj=>H.hp.aB (hrow j v hj)) rfl ?_;clear H;intro a H;refine bX bN H wn rfl ?_;clear H;intro b11 a w yO H;refine aP bN 0 (vs:=[_,_]) _ H wn rfl rfl rfl rfl rfl rfl rfl rfl ?_;clear H;intro w H;dsimp only [List.set,setRow] at H;refine bG _ _ ?_;clear bG;refine kP H (SR fun _ bV=>Rf qC rfl (Ro ak 0 rfl rfl (Rm rfl (Rc rfl (Kz bV (Cd rfl ?_ ?_)))))) <;> clear H bV
  ·intro uh a H
   try have p38:=dT uh
   refine kP H (SR fun _ bQ=>Rf vK rfl (Ro ak 0 rfl rfl (Ra rfl (Ra rfl (Kz bQ ?_)))));clear H bQ;intro a H;refine aR ?_;refine (bU H Tryz.results19 (.cons (aF H rfl) (.cons (aF H rfl) .nil)) ?_).1;exact H.hp.ret (by rw [iU,if_pos (by omega),if_neg j6,D8 hk2 hno uh];rfl)
  intro uh a H
  try have p38:=dF uh
  refine kP H (Kc bH (SC (Rd rfl (Rm rfl ?_))));clear H bH;intro a H;refine au ?_;refine dD ((k+1)) (by exact (H.bL (Pl:=[_,_,_]) (bB:=[_,_]) [1,2] (by decide) rfl).sub ⟨rfl,rfl,rfl,rfl,trivial⟩) ?_ ?_
  ·exact ⟨by omega,Gx hk2 hno uh⟩
  first|omega|(dsimp only;omega)
 intro h32 a H
 try have p32:=dF h32
 refine dL ?_;refine K9 _ _ ?_;clear K9;refine kP H (SR fun _ bS=>Ra rfl (Ra rfl (Kz bS ?_)));clear H bS;intro a H;refine aR ?_;refine (bU H Tryz.results19 (.cons (aF H rfl) (.cons (aF H rfl) .nil)) ?_).1;exact H.hp.ret (by rw [show ps.take k=ps from List.take_of_length_le (by omega)] at hno;rw [iU,if_pos (by omega),if_neg j6,hno];rfl)
end
section
open Go.RowKit
/-- From s to r no more than z ids come to it. -/
def sM (s:CS) (z:Nat) (r:CR):Prop:=r.2.aW.length≤s.aW.length+z
theorem sM.and {s:CS} {z y q:Nat} {r:CR} {f:CS→CR} (h:sM s z r) (hq:z+y≤q) (hf:∀ s,sM s y (f s)):sM s q (dZ r f):=by
 unfold sM at *
 unfold dZ
 split
 ·omega
 have:=hf r.2
 omega
theorem sM.zero (s:CS) (e:Int) (q:Nat):sM s q (e,s):=by unfold sM;dsimp only;omega
theorem sM.le {s:CS} {z y:Nat} {r:CR} (h:sM s z r) (hq:z≤y):sM s y r:=by unfold sM at *;omega
theorem afF {l:List aj} {k:Nat} (hk:k < l.length):aS (l.drop k)=1+bP l[k].dat+aS (l.drop (k+1)):=by
 simp only [aS];rw [List.drop_eq_getElem_cons hk,List.map_cons,dw]
theorem afI {l:List aN} {k:Nat} (hk:k < l.length):fI (l.drop k)=1+bP l[k].dat+fI (l.drop (k+1)):=by
 simp only [fI];rw [List.drop_eq_getElem_cons hk,List.map_cons,dw]
theorem afD {l:List aJ} {k:Nat} (hk:k < l.length):jg (l.drop k)=1+bP l[k].dat+jg (l.drop (k+1)):=by
 simp only [jg];rw [List.drop_eq_getElem_cons hk,List.map_cons,dw]
end
section
open Go.RowKit
theorem P6:∀ args w,(callFunc 36 args).run Tryz.prog w=.ok (.enter 36 args) w:=enters Tryz.func36 rfl (by kernel_rfl)
theorem Uf (G:GH) (w0:World) (hG:Hold G w0) (x:aj) (i2 i3:Int) (p i5 i6 d l f r:Value) (hs:x.text.size < 4611686018427387904) :
  Calls Tryz.prog 36 #[.agg #[vi x.kind,vi i2,vi i3,.string x.text,p,i5,i6,d,l,f,r]] w0 (aU w0 G fun v G'=>v=vi (dR x:Nat)∧G=G'):=by
 refine eN [(0,_)] Tryz.func36 rfl Tryz.ntmps36 rfl rfl hG ?_;intro a H;refine aY (fun _ K1=>?_);refine bY (cs:=[_,_,_,_,_,_,_,_,_,_,_]) H wn rfl rfl rfl ?_;clear H;intro b1 a w hb1 H;refine kH H (Ra rfl (Kz K1 (SQ fun _ K2=>SR fun _ K3=>Rf jJ rfl (Ro ak 0 rfl rfl (Rc rfl (Kz K3 (Cd rfl ?_ ?_))))))) <;> clear H K1 K3
 ·intro h7 a H
  try have p7:=dT h7
  exact kP H (SR fun _ K4=>Ra rfl (Kz K4 (LR Tryz.results36 rfl fun H=>H.hp.ret ⟨by unfold dR;rw [if_neg p7];rfl,rfl⟩)))
 intro h7 a H
 try have p7:=dF h7
 refine kP H (Kc K2 (SR fun _ K5=>Rf vL rfl (Ro gB 0 rfl rfl ?_)));clear H K2;intro a H;refine s_call Gd H wn rfl (FQ _ _ H.hp.ro _ hs) rfl ?_;clear H;rintro v11 _ a w ⟨rfl,rfl⟩ - H;refine kH H (Rm rfl ?_);clear H;intro a H;(iterate 2 refine gV H wn rfl rfl rfl ?_;clear H;intro a H);exact kH H (Ra rfl (Ra rfl (Kz K5 (SR fun _ K6=>Rm rfl (Ra rfl (Kz K6 (LR Tryz.results36 rfl fun H=>H.hp.ret ⟨by unfold dR;rw [if_pos (Decidable.not_not.1 p7)],rfl⟩)))))))
def EN (l:List (Int × Int)):List Value:=l.flatMap fun p=>[vi p.1,vi p.2]
/-- A row of positions that a call builds. -/
def Jp (v:Value) (xs:List (Int × Int)) (Lo:OL):Prop:=eB 45 2 v xs.length (EN xs) Lo
theorem Jp.snoc {v:Value} {xs:List (Int × Int)} {a b:Int} {Lo:OL} (h:eB 45 2 v (xs.length+1) (EN xs++[vi a,vi b]) Lo):Jp v (xs++[(a,b)]) Lo:=by
 unfold Jp
 rw [List.length_append,show EN (xs++[(a,b)])=EN xs++[vi a,vi b] by simp [EN]];exact h
theorem ae1 (x:aj):dR x+aS x.flow+fI x.rows < bP x.dat:=by
 have h1:=lF x;have h2:=yG x.text
 unfold dR;split <;> omega
end
section
open Go.RowKit
theorem Bo:∀ args w,(callFunc 43 args).run Tryz.prog w=.ok (.enter 43 args) w:=enters Tryz.func43 rfl (by kernel_rfl)
theorem JW:∀ args w,(callFunc 102 args).run Tryz.prog w=.ok (.enter 102 args) w:=enters Tryz.func102 rfl (by kernel_rfl)
theorem DL:∀ args w,(callFunc 45 args).run Tryz.prog w=.ok (.enter 45 args) w:=enters Tryz.func45 rfl (by kernel_rfl)
theorem BN (G:GH) (L:OL) (w0:World) (st:List bg) (li:List eD) (rv:List dJ) (b ms ml mr mb mu:Nat) (n:Int) (hck:qh G st li rv ms ml mr mu) (hO:gT G (dW b ms ml mr mb mu n :: L) w0)
  (e:Int) (h:gW) (p d l:Value) (hh:jq G h p d l) (hz:nC h≤4294967296) :
  Calls Tryz.prog 43 #[.pointer (some ⟨b,0,none⟩),vi e,BM h p d l] w0 (fQ w0 G (dW b ms ml mr mb mu n :: L) fun v G' L'=>G=G'∧L'=dW b ms ml mr mb mu n :: L∧v=vi (iK (aI st li rv) e h)):=by
 have hm:=GH.FC G (o:=(dW b ms ml mr mb mu n).2) (hO.sep _ List.mem_cons_self);exact (abe (G.add b (dW b ms ml mr mb mu n).2) w0 hO.add st li rv b ms ml mr mb mu n (hck.mono hm) (GH.Jy _ _ _) e h p d l (hh.mono hm) hz).mono fun _ _=>adM (b:=b) (o:=(dW b ms ml mr mb mu n).2) (R':=fun v=>v=vi (iK (aI st li rv) e h)) hO fun _ _ h=>h
/-- What a call of the checker leaves. -/
abbrev Fh (b ms ml mr mb mu:Nat) (L:OL) (r:CR):Value→OL→Prop:=fun u L'=>∃ s:CS,u=vi r.1∧L'=dW b ms ml mr mb mu s.n :: (mb,dU (dX s.aW)) :: L∧(r.1=0→s=r.2)
def AU (m:Nat):Prop:=∀ (G:GH) (L:OL) (w0:World) (st:List bg) (li:List eD) (rv:List dJ) (b ms ml mr mb mu:Nat) (s:CS) (l:List aj) (v:Value) (body note:Bool) (t:Int),
 qh G st li rv ms ml mr mu→gT G (dW b ms ml mr mb mu s.n :: (mb,dU (dX s.aW)) :: L) w0→ah G (.sl 11 (l.map aj.dat)) v→aS l < m→0≤t→t≤4→0≤s.n→s.n+(aS l:Nat)≤1099511627776 →
 Calls Tryz.prog 45 #[.pointer (some ⟨b,0,none⟩),v,.agg #[.bool body,.bool note,vi t]] w0 (fQ w0 G (dW b ms ml mr mb mu s.n :: (mb,dU (dX s.aW)) :: L) fun u G' L'=>G=G'∧Fh b ms ml mr mb mu L (iO (aI st li rv) body note t l s) u L')
theorem rows_ok {m:Nat} (ih:AU m) (hm:m≤4294967296) (Gt:GH) (L:OL) (w0:World) (st:List bg) (li:List eD) (rv:List dJ) (b ms ml mr mb mu:Nat) (s:CS) (l:List aN) (v:Value) (note:Bool) (t:Int)
  (hck:qh Gt st li rv ms ml mr mu) (hO:gT Gt (dW b ms ml mr mb mu s.n :: (mb,dU (dX s.aW)) :: L) w0) (hv:ah Gt (.sl 6 (l.map aN.dat)) v) (hz:fI l < m) (ht0:0≤t) (Aa:t≤4) (hs0:0≤s.n) (hs1:s.n+(fI l:Nat)≤1099511627776) :
  Calls Tryz.prog 103 #[.pointer (some ⟨b,0,none⟩),v,.agg #[.bool false,.bool note,vi t]] w0 (fQ w0 Gt (dW b ms ml mr mb mu s.n :: (mb,dU (dX s.aW)) :: L) fun u G' L'=>Fh b ms ml mr mb mu L (jN l.length (fun s=>gJ (aI st li rv) note t l s) s) u L'):=by
 obtain ⟨A,c,rfl,hc1,hc2,hg⟩:=hv.slice;rw [List.length_map] at *;have hll:=CX l;refine jv (N:=77) (T:=[(0,_),(1,_),(2,_)]) Tryz.func103 rfl Tryz.ntmps103 rfl rfl hO ?_;intro a H;refine aY (fun _ K1=>?_);refine bY (cs:=[_,_,_]) H wn rfl rfl rfl ?_;clear H;intro b5 a w hb5 H;refine kH H (Ra rfl (Kz K1 (SQ fun _ K2=>SR fun _ K3=>Rm rfl (Rl lV rfl (Rc rfl (Kz K3 (Cd rfl ?_ ?_))))))) <;> clear H K1 K3
 ·intro bT a H
  try have jy:=dT bT
  refine aQ (fun _ K4=>?_);have hE:jN l.length (fun s=>gJ (aI st li rv) note t l s) s=(11,s):=if_pos (by omega);exact kP H (SC (Ra rfl (Kn K4 (LR Tryz.results103 rfl fun H=>H.hp.bR (L':=dW b ms ml mr mb mu s.n :: (mb,dU (dX s.aW)) :: L) (by repeat (first|exact List.Sublist.refl _|apply List.Sublist.cons)) ⟨s,by rw [hE],rfl,fun h=>by rw [hE]⟩))))
 intro bT a H
 try have jy:=dF bT
 refine kP H (Kc K2 (SQ fun _ K5=>SR fun _ K6=>Rm rfl (Rl lV rfl (Rc rfl (Kz K6 (Cd rfl ?_ ?_)))))) <;> clear H K2 K6
 ·intro h20 a H
  try have mq:=dT h20
  refine aQ (fun _ K7=>?_)
  have hE:jN l.length (fun s=>gJ (aI st li rv) note t l s) s=(9,s):=by rw [jN,if_neg (by omega),if_pos (by omega)]
  exact kP H (SC (Ra rfl (Kn K7 (LR Tryz.results103 rfl fun H=>H.hp.bR (L':=dW b ms ml mr mb mu s.n :: (mb,dU (dX s.aW)) :: L) (by repeat (first|exact List.Sublist.refl _|apply List.Sublist.cons)) ⟨s,by rw [hE],rfl,fun h=>by rw [hE]⟩))))
 intro h20 a H
 try have mq:=dF h20
 refine kP H (Kc K5 (SQ fun _ K8=>SQ fun _ K9=>?_));clear H K5;intro a H
 have hE:jN l.length (fun s=>gJ (aI st li rv) note t l s) s=gJ (aI st li rv) note t l s:=by rw [jN,if_neg (by omega),if_neg (by omega)]
 refine kP H (SC (Rm rfl (Rl lV rfl (Rm rfl (Kn K9 (SB ?_))))));clear H K9;intro a H;skip;refine d9 (ι:=Nat × CS × GH) (Tc:=[(0,_),(5,_),(21,_),(22,_)]) (Lc:=[(_,_)]) (fun (gh:Nat × CS × GH)=>[(23,vi gh.1)]) (fun (gh:Nat × CS × GH)=>[dW b ms ml mr mb mu gh.2.1.n,(mb,dU (dX gh.2.1.aW))]++L) (fun (gh:Nat × CS × GH)=>gh.2.2) (fun (gh:Nat × CS × GH)=>gh.1≤l.length∧(∀ b o,Gt b=some o→gh.2.2 b=some o)∧gJ (aI st li rv) note t l s=gJ (aI st li rv) note t (l.drop gh.1) gh.2.1∧0≤gh.2.1.n∧gh.2.1.n+(fI (l.drop gh.1):Nat)≤1099511627776) (fun (gh:Nat × CS × GH)=>l.length - gh.1) ((0,s,Gt)) (by exact (H).sub ⟨rfl,rfl,rfl,rfl,rfl,trivial⟩) ?_ ?_
 ·exact ⟨Nat.zero_le _,fun _ _ h=>h,rfl,hs0,hs1⟩
 clear H;intro gh a w hI H;obtain ⟨k,s1,g⟩:=gh;dsimp only at hI H;obtain ⟨hk,hgm,hR,hn0,hn1⟩:=hI;dsimp only [List.cons_append,List.nil_append,List.append_nil] at H;refine kP H (SR fun _ aH=>Rc rfl (Kz aH (SQ fun _ aX=>Cd rfl ?_ ?_))) <;> clear H aH
 ·intro dM a H
  try have jA:=dT dM
  have hk2:k < l.length:=by omega
  have hsz:=Fg hk2;have hcs:=AL l[k].cells
  have hdz:fI (l.drop k)=1+bP l[k].dat+fI (l.drop (k+1)):=by simp only [fI];rw [List.drop_eq_getElem_cons hk2,List.map_cons,dw]
  have hrz:=tF l[k];obtain ⟨xb,xo,qA,qn,qc,eA,en,ec,zA,zn,zc,cA,cn,cc,rfl,hrow,xD,hcl⟩:=Cn hk2 hg;replace hrow:=fun j u hj=>aD hgm (hrow j u hj);replace xD:=xD.mono hgm;replace hcl:=hcl.mono hgm;have hcn:=hcl.len;rw [List.length_map] at hcn;subst hcn;have aa2:=hck.mono hgm;rw [List.drop_eq_getElem_cons hk2,gJ,Io] at hR;refine kP H (Kc aX (SQ fun _ bD=>SB (SR fun _ bH=>Ri lV iV rfl rfl ?_)));clear H aX;intro a H;refine aK iV (cs:=[_,_,_,_,_,_]) H wn rfl rfl (fun j v hj=>H.hp.aB (hrow j v hj)) rfl ?_;clear H;intro a H;refine bX iV H wn rfl ?_;clear H;intro b8 a w rG H;refine aP iV 0 (vs:=[_,_,_,_,_,_]) _ H wn rfl rfl rfl rfl rfl rfl rfl rfl ?_;clear H;intro w H;dsimp only [List.set,setRow] at H;refine bH _ _ ?_;clear bH;refine aQ (fun _ bG=>?_);refine aQ (fun _ bV=>?_);refine dz (hmx) [[],[],[1],[0,1,2],[],[4],[4,5],[4,5,6],(List.range 8),[],[9],[9,10],[9,10,11],(List.range 13),(List.range 14),(List.range 15),(List.range 16)] [14,15,16] (by kernel_rfl) (by kernel_rfl) (fun (aC:Nat) (v:Value) (G:GH)=>match aC with|0=>v=.pointer (some ⟨b,0,none⟩)|1=>v=.pointer (some ⟨b8,0,none⟩)|2=>v=BM l[k].head (.slice qA qn qc) (.slice eA en ec) (.slice zA zn zc)|3=>v=vi (iK (aI st li rv) 9 l[k].head)|4=>v=.pointer (some ⟨b8,5,none⟩)|5=>v=.slice cA l[k].cells.length cc|6=>v=vi l[k].cells.length|7=>v=.bool (decide ((l[k].cells.length:Int)=0))|8=>v=vi (bJ (decide ((l[k].cells.length:Int)=0)) 11)|9=>v=.pointer (some ⟨b8,5,none⟩)|10=>v=.slice cA l[k].cells.length cc|11=>v=vi l[k].cells.length|12=>v=.bool (decide (32 < (l[k].cells.length:Int)))|13=>v=vi (bJ (decide (32 < (l[k].cells.length:Int))) 9)|_=>True) (fun _ _ _ _ _ h=>h) H ?_ ?_
  ·clear H;refine av (Z0 rfl (Rm rfl)) (Z0 rfl (Rf QB rfl)) ?_ ?_ (av (Z0 rfl (Rf vM rfl)) (Z1 4 31 rfl (Ro wB 0 rfl rfl)) (Z1 5 32 rfl (Rl kg rfl)) (Z1 6 33 rfl (Rc rfl)) (av ?_ (Z0 rfl (Rf vM rfl)) (Z1 9 36 rfl (Ro wB 0 rfl rfl)) (Z1 10 37 rfl (Rl kg rfl)) (av (Z1 11 38 rfl (Rc rfl)) ?_ (aT rfl) (aT rfl) (bq (aT rfl) dh))))
   ·refine dS 1 28 rfl rfl fun _ a w G1 hG HT H fin=>?_;refine aK qO (cs:=[_,_,_,_,_]) H wn rfl rfl (H.hp.bF 0 rfl rfl) rfl ?_;clear H;intro a H;exact fin H iJ rfl
   ·refine dK 0 27 2 29 rfl rfl fun _ a w G1 hG HT H fin=>?_;refine gy Bo (Li:=[_,_]) (L:=dW b ms ml mr mb mu s1.n :: (mb,dU (dX s1.aW)) :: L) H wn rfl (BN _ _ _ st li rv b ms ml mr mb mu _ (aa2.mono hG) (Hp.owns (Li:=[_,_]) H.hp) 9 l[k].head _ _ _ (xD.mono hG) (by omega)) rfl ?_;clear H;rintro v30 _ _ a w ⟨rfl,rfl,rfl⟩ KT H;dsimp only [List.cons_append,List.nil_append] at H;exact fin H KT (rfl)
   ·refine dS 7 34 rfl rfl fun _ a w G1 hG HT H fin=>?_;refine s_call gX H wn rfl (iy _ _ H.hp.ro _ 11) rfl ?_;clear H;rintro v35 Fq a w ⟨rfl,-⟩ KU H;exact fin H KU (rfl)
   refine dS 12 39 rfl rfl fun _ a w G1 hG HT H fin=>?_;refine s_call gX H wn rfl (iy _ _ H.hp.ro _ 9) rfl ?_;clear H;rintro v40 Oc a w ⟨rfl,-⟩ aaF H;exact fin H aaF (rfl)
  clear H;intro a w G oV H hv;have H:=H.aM (hv 3 30 rfl rfl) rfl;have H:=H.aM (hv 8 35 rfl rfl) rfl;have H:=H.aM (hv 13 40 rfl rfl) rfl;clear hv;refine fM lU dQ [_,_,_] [_,_,_] H wn rfl rfl rfl rfl rfl (by intro i q h;match i,h with|0,h=>exact h|1,h=>exact h|2,h=>exact h|n+3,h=>simp at h) rfl rfl ?_;clear H;intro b41 a w af6 H;obtain ⟨Da,vS,aaW,H⟩:=H.dB;have uq:∀ b o,Gt b=some o→Da b=some o:=fun b o h=>vS _ _ (oV _ _ (hgm _ _ h));refine s_call mR H wn rfl (mU _ _ H.hp.ro _ _ (Ac [iK (aI st li rv) 9 l[k].head,bJ (decide ((l[k].cells.length:Int)=0)) 11,bJ (decide (32 < (l[k].cells.length:Int))) 9] aaW (show 3≤maxLen by decide))) rfl ?_;clear H;rintro v42 _ a w ⟨rfl,rfl⟩ - H;refine kH H (Ra rfl ?_);clear H;intro a H;refine au ⟨rfl,?_⟩;refine bV _ _ ?_;clear bV;refine kP H (SR fun _ bQ=>Rm rfl (Rc rfl (Kz bQ (Cd rfl ?_ ?_)))) <;> clear H bQ
  ·intro jS a H
   try have p44:=dT jS
   have e44:Aq (aI st li rv) l[k].head l[k].cells.length≠0:=p44
   have hF1:(jN l.length (fun s=>gJ (aI st li rv) note t l s) s).1=Aq (aI st li rv) l[k].head l[k].cells.length:=by rw [hE,hR,FD (r:=(Aq (aI st li rv) l[k].head l[k].cells.length,s1)) e44,FD e44]
   have hF2:(jN l.length (fun s=>gJ (aI st li rv) note t l s) s).1=0→s1=(jN l.length (fun s=>gJ (aI st li rv) note t l s) s).2:=fun h=>absurd (hF1.symm.trans h) e44;exact kP H (SR fun _ bS=>Rm rfl (Ra rfl (Kz bS (LR Tryz.results103 rfl fun H=>H.hp.bR (L':=dW b ms ml mr mb mu s1.n :: (mb,dU (dX s1.aW)) :: L) (by repeat (first|exact List.Sublist.refl _|apply List.Sublist.cons)) ⟨s1,congrArg vi hF1.symm,rfl,hF2⟩))))
  intro jS a H
  try have p44:=dF jS
  have e44:Aq (aI st li rv) l[k].head l[k].cells.length=0:=Decidable.not_not.1 p44;rw [Dw (r:=(Aq (aI st li rv) l[k].head l[k].cells.length,s1)) e44] at hR;dsimp only at hR;have aa3:=hck.mono uq;replace hcl:=hcl.mono (fun b o h=>vS _ _ (oV b o h));refine kP H (Kc bG (SR fun _ cO=>Rf vM rfl (Ro wB 0 rfl rfl (Rl kg rfl (Rm rfl (Kz cO (SB ?_)))))));clear H bG cO;intro a H;skip;refine d9 (ι:=Nat × CS × GH) (Tc:=[(0,_),(5,_),(21,_),(22,_),(23,_),(47,_),(48,_)]) (Lc:=[(_,_),(_,_)]) (fun (gh:Nat × CS × GH)=>[(49,vi gh.1)]) (fun (gh:Nat × CS × GH)=>[dW b ms ml mr mb mu gh.2.1.n,(mb,dU (dX gh.2.1.aW))]++L) (fun (gh:Nat × CS × GH)=>gh.2.2) (fun (gh:Nat × CS × GH)=>gh.1≤l[k].cells.length∧(∀ b o,Da b=some o→gh.2.2 b=some o)∧gJ (aI st li rv) note t l s=dZ (oP (aI st li rv) note t (l[k].cells.drop gh.1) gh.2.1) (fun s=>gJ (aI st li rv) note t (l.drop (k+1)) s)∧0≤gh.2.1.n∧gh.2.1.n+(jg (l[k].cells.drop gh.1):Nat)+(fI (l.drop (k+1)):Nat)≤1099511627776) (fun (gh:Nat × CS × GH)=>l[k].cells.length - gh.1) ((0,s1,Da)) (by exact (H).sub ⟨rfl,rfl,rfl,rfl,rfl,rfl,rfl,rfl,trivial⟩) ?_ ?_
  ·exact ⟨Nat.zero_le _,fun _ _ h=>h,hR,hn0,by dsimp only;rw [List.drop_zero];omega⟩
  clear H;intro gh a w hI H;obtain ⟨c,s2,g2⟩:=gh;dsimp only at hI H;obtain ⟨hc,GR,hR2,hm0,hm1⟩:=hI;have mh:=fun b o h=>GR b o (uq b o h);dsimp only [List.cons_append,List.nil_append,List.append_nil] at H;refine kP H (SR fun _ dV=>Rc rfl (Kz dV (SQ fun _ dI=>Cd rfl ?_ ?_))) <;> clear H dV
  ·intro h50 a H
   try have p50:=dT h50
   have hk4:c < l[k].cells.length:=by omega
   have abL:=Fb hk4
   have aa6:jg (l[k].cells.drop c)=1+bP l[k].cells[c].dat+jg (l[k].cells.drop (c+1)):=by simp only [jg];rw [List.drop_eq_getElem_cons hk4,List.map_cons,dw]
   have hcz:=u6 l[k].cells[c];obtain ⟨b3',o3,sA,sn,sc,tA,tn,tc,uA,un,uc,gA,gn,gc,rfl,hrow,hch,hcf⟩:=zM hk4 (hcl.mono GR).at_;have LK:=aa3.mono GR;rw [List.drop_eq_getElem_cons hk4,oP,FJ] at hR2;obtain ⟨y,hy⟩:∃ y,y=l[k].cells[c]:=⟨_,rfl⟩;rw [← hy] at hR2 hrow hch hcf hcz abL aa6;refine kP H (Kc dI (SQ fun _ eH=>SB (SR fun _ fq=>Ri kg gQ rfl rfl ?_)));clear H dI;intro a H;refine aK gQ (cs:=[_,_,_,_,_,_,_]) H wn rfl rfl (fun j v hj=>H.hp.aB (hrow j v hj)) rfl ?_;clear H;intro a H;refine bX gQ H wn rfl ?_;clear H;intro b11 a w yO H;refine aP gQ 0 (vs:=[_,_,_,_,_,_,_]) _ H wn rfl rfl rfl rfl rfl rfl rfl rfl ?_;clear H;intro w H;dsimp only [List.set,setRow] at H;refine fq _ _ ?_;clear fq;refine kP H (SQ fun _ gK=>SR fun _ gF=>Rm rfl (Rf wS rfl (Ro ak 0 rfl rfl ?_)));clear H;intro a H;refine gy JW (Li:=[_,_,_]) (L:=dW b ms ml mr mb mu s2.n :: (mb,dU (dX s2.aW)) :: L) H wn rfl (JI _ _ _ st li rv b ms ml mr mb mu _ s2.aW y.id LK (Hp.owns (Li:=[_,_,_]) H.hp)) rfl ?_;clear H;rintro v56 _ _ a w ⟨rfl,rfl,rfl⟩ - H;dsimp only [List.cons_append,List.nil_append] at H;refine kH H (Ra rfl (Kz gF (SR fun _ fO=>Rm rfl (Rc rfl (Kz fO (Cd rfl ?_ ?_)))))) <;> clear H gF fO
   ·intro gU a H
    try have p58:=dT gU
    have hF1:(jN l.length (fun s=>gJ (aI st li rv) note t l s) s).1=mZ s2.aW y.id:=by rw [hE,hR2];simp [dZ,iY,p58]
    have hF2:(jN l.length (fun s=>gJ (aI st li rv) note t l s) s).1=0→(⟨s2.n,iX s2.aW y.id⟩:CS)=(jN l.length (fun s=>gJ (aI st li rv) note t l s) s).2:=fun h=>absurd (hF1.symm.trans h) p58;exact kP H (SR fun _ iF=>Rm rfl (Ra rfl (Kz iF (LR Tryz.results103 rfl fun H=>H.hp.bR (L':=dW b ms ml mr mb mu s2.n :: (mb,dU (dX (iX s2.aW y.id))) :: L) (by repeat (first|exact List.Sublist.refl _|apply List.Sublist.cons)) ⟨⟨s2.n,iX s2.aW y.id⟩,congrArg vi hF1.symm,rfl,hF2⟩))))
   intro gU a H
   try have p58:=dF gU
   have e58:mZ s2.aW y.id=0:=Decidable.not_not.1 p58;refine kP H (Kc gK (SQ fun _ iT=>SR fun _ gL=>Rm rfl (Rf QC rfl ?_)));clear H gK;intro a H;refine aK qO (cs:=[_,_,_,_,_]) H wn rfl rfl (H.hp.bF 0 rfl rfl) rfl ?_;clear H;intro a H;refine gy Bo (Li:=[_,_,_]) (L:=dW b ms ml mr mb mu s2.n :: (mb,dU (dX (iX s2.aW y.id))) :: L) H wn rfl (BN _ _ _ st li rv b ms ml mr mb mu _ LK (Hp.owns (Li:=[_,_,_]) H.hp) 10 y.head _ _ _ hch (by omega)) rfl ?_;clear H;rintro v63 _ _ a w ⟨rfl,rfl,rfl⟩ - H;dsimp only [List.cons_append,List.nil_append] at H;refine kH H (Ra rfl (Kz gL (SR fun _ jG=>Rm rfl (Rc rfl (Kz jG (Cd rfl ?_ ?_)))))) <;> clear H gL jG
   ·intro jk a H
    try have p65:=dT jk
    have hF1:(jN l.length (fun s=>gJ (aI st li rv) note t l s) s).1=iK (aI st li rv) 10 y.head:=by rw [hE,hR2];simp [dZ,iY,e58,p65]
    have hF2:(jN l.length (fun s=>gJ (aI st li rv) note t l s) s).1=0→(⟨s2.n,iX s2.aW y.id⟩:CS)=(jN l.length (fun s=>gJ (aI st li rv) note t l s) s).2:=fun h=>absurd (hF1.symm.trans h) p65;exact kP H (SR fun _ jV=>Rm rfl (Ra rfl (Kz jV (LR Tryz.results103 rfl fun H=>H.hp.bR (L':=dW b ms ml mr mb mu s2.n :: (mb,dU (dX (iX s2.aW y.id))) :: L) (by repeat (first|exact List.Sublist.refl _|apply List.Sublist.cons)) ⟨⟨s2.n,iX s2.aW y.id⟩,congrArg vi hF1.symm,rfl,hF2⟩))))
   intro jk a H
   try have p65:=dF jk
   have e65:iK (aI st li rv) 10 y.head=0:=Decidable.not_not.1 p65;refine kP H (Kc iT (SR fun _ kV=>Rm rfl (Rf yI rfl (Ro iR 0 rfl rfl ?_))));clear H iT;intro a H;refine aK IV (cs:=[_,_,_]) H wn rfl rfl (H.hp.bF 2 rfl rfl) rfl ?_;clear H;intro a H;refine gy DL (Li:=[_,_,_]) (L:=dW b ms ml mr mb mu s2.n :: (mb,dU (dX (iX s2.aW y.id))) :: L) H wn rfl (ih _ _ _ st li rv b ms ml mr mb mu ⟨s2.n,iX s2.aW y.id⟩ y.flow _ false note t LK (Hp.owns (Li:=[_,_,_]) H.hp) hcf (by omega) ht0 Aa hm0 (by dsimp only;omega)) rfl ?_;clear H;rintro v71 _ _ a w ⟨rfl,s3,rfl,rfl,h3⟩ - H;dsimp only [List.cons_append,List.nil_append] at H;refine kH H (Ra rfl (Kz kV (SR fun _ kE=>Rm rfl (Rc rfl (Kz kE (Cd rfl ?_ ?_)))))) <;> clear H kV kE
   ·intro KG a H
    try have p73:=dT KG
    have hF1:(jN l.length (fun s=>gJ (aI st li rv) note t l s) s).1=(iO (aI st li rv) false note t y.flow ⟨s2.n,iX s2.aW y.id⟩).1:=by rw [hE,hR2];simp [dZ,iY,e58,e65,p73]
    have hF2:(jN l.length (fun s=>gJ (aI st li rv) note t l s) s).1=0→s3=(jN l.length (fun s=>gJ (aI st li rv) note t l s) s).2:=fun h=>absurd (hF1.symm.trans h) p73;exact kP H (SR fun _ ko=>Rm rfl (Ra rfl (Kz ko (LR Tryz.results103 rfl fun H=>H.hp.bR (L':=dW b ms ml mr mb mu s3.n :: (mb,dU (dX s3.aW)) :: L) (by repeat (first|exact List.Sublist.refl _|apply List.Sublist.cons)) ⟨s3,congrArg vi hF1.symm,rfl,hF2⟩))))
   intro KG a H
   try have p73:=dF KG
   have JU:(iO (aI st li rv) false note t y.flow ⟨s2.n,iX s2.aW y.id⟩).1=0:=Decidable.not_not.1 p73;obtain ⟨hu1,hu2⟩:=I5 (aI st li rv) false note t y.flow ⟨s2.n,iX s2.aW y.id⟩;rw [← h3 JU] at hu1 hu2;dsimp only at hu1 hu2
   have hS:dZ (dZ (dZ (iY s2 y.id) fun s=>dZ (iK (aI st li rv) 10 y.head,s) fun s=>iO (aI st li rv) false note t y.flow s) fun s=>oP (aI st li rv) note t (l[k].cells.drop (c+1)) s) (fun s=>gJ (aI st li rv) note t (l.drop (k+1)) s)=dZ (oP (aI st li rv) note t (l[k].cells.drop (c+1)) s3) (fun s=>gJ (aI st li rv) note t (l.drop (k+1)) s):=by
    rw [h3 JU];simp [dZ,iY,e58,e65,JU]
   refine kP H (Kc eH (SC (Rd rfl (Rm rfl ?_))));clear H eH;intro a H;refine au ?_;refine dD ((c+1,s3,g2)) (by exact (H.bL (Pl:=[_,_,_,_,_]) (bB:=[_,_,_,_]) [1,2,3,4] (by decide) rfl).sub ⟨rfl,rfl,rfl,rfl,rfl,rfl,rfl,rfl,trivial⟩) ?_ ?_
   ·(try dsimp only);exact ⟨by omega,GR,hR2.trans hS,by omega,by omega⟩
   first|omega|(dsimp only;omega)
  intro h50 a H
  try have p50:=dF h50
  refine dL ?_;refine bD _ _ ?_;clear bD;refine kP H (SC (Rd rfl (Rm rfl ?_)));clear H;intro a H;refine au ?_;refine dD ((k+1,s2,g2)) (by exact (H.bL (Pl:=[_,_,_,_]) (bB:=[_,_,_]) [1,2,3] (by decide) rfl).sub ⟨rfl,rfl,rfl,rfl,rfl,trivial⟩) ?_ ?_
  ·(try dsimp only);exact ⟨by omega,mh,by rw [hR2,List.drop_of_length_le (by omega),oP,Dw rfl],hm0,by omega⟩
  first|omega|(dsimp only;omega)
 intro dM a H
 try have jA:=dF dM
 refine dL ?_;refine K8 _ _ ?_;clear K8;refine aQ (fun _ nD=>?_)
 have hF1:(jN l.length (fun s=>gJ (aI st li rv) note t l s) s).1=0:=by rw [hE,hR,List.drop_of_length_le (by omega),gJ]
 have hF2:(jN l.length (fun s=>gJ (aI st li rv) note t l s) s).1=0→s1=(jN l.length (fun s=>gJ (aI st li rv) note t l s) s).2:=fun h=>by rw [hE,hR,List.drop_of_length_le (by omega),gJ]
 exact kP H (SC (Ra rfl (Kn nD (LR Tryz.results103 rfl fun H=>H.hp.bR (L':=dW b ms ml mr mb mu s1.n :: (mb,dU (dX s1.aW)) :: L) (by repeat (first|exact List.Sublist.refl _|apply List.Sublist.cons)) ⟨s1,congrArg vi hF1.symm,rfl,hF2⟩))))
end
section
open Go.RowKit
theorem X5:∀ args w,(callFunc 103 args).run Tryz.prog w=.ok (.enter 103 args) w:=enters Tryz.func103 rfl (by kernel_rfl)
theorem X4:∀ args w,(callFunc 101 args).run Tryz.prog w=.ok (.enter 101 args) w:=enters Tryz.func101 rfl (by kernel_rfl)
theorem zP:bO Tryz.prog 107 5 5:=⟨by kernel_rfl⟩
theorem ZR:bO Tryz.prog 103 0 0:=⟨by kernel_rfl⟩
theorem acQ {G:GH} {b:Nat} {x:Int} (h:G b=some (.cells #[vi x] 46 (0,0))):ah G (.sl 1 ([x].map fun k=>[li k])) (.slice (some ⟨b,0,none⟩) 1 1):=Ac [x] h (show 1≤maxLen by decide)
theorem acd {m:Nat} (ih:AU m) (hm:m≤4294967296) (Gt:GH) (L:OL) (w0:World) (st:List bg) (li:List eD) (rv:List dJ) (b ms ml mr mb mu:Nat) (s:CS) (x:aj) (p d y f r:Value) (body note:Bool) (t:Int)
  (hck:qh Gt st li rv ms ml mr mu) (hO:gT Gt (dW b ms ml mr mb mu s.n :: (mb,dU (dX s.aW)) :: L) w0) (hh:jq Gt x.head p d y) (hf:ah Gt (.sl 11 (x.flow.map aj.dat)) f) (hr:ah Gt (.sl 6 (x.rows.map aN.dat)) r) (hz:bP x.dat≤m) (ht0:0≤t) (Aa:t≤4) (hs0:0≤s.n) (hs1:s.n+(bP x.dat:Nat)≤1099511627776) :
  Calls Tryz.prog 74 #[.pointer (some ⟨b,0,none⟩),.agg #[vi x.kind,vi x.code,vi x.id,.string x.text,p,vi x.head.marks.ins,vi x.head.marks.move,d,y,f,r],.agg #[.bool body,.bool note,vi t]] w0 (fQ w0 Gt (dW b ms ml mr mb mu s.n :: (mb,dU (dX s.aW)) :: L) fun u G' L'=>Fh b ms ml mr mb mu L (dN (aI st li rv) body note t x s) u L'):=by
 obtain ⟨pA,pn,pc,rfl⟩:=hh.props.form;obtain ⟨dA,dn,dc,rfl⟩:=hh.bK.form;obtain ⟨lA,ln,lc,rfl⟩:=hh.layers.form;obtain ⟨fA,fc,rfl,-⟩:=hf.slice;obtain ⟨rA,rc,rfl,-⟩:=hr.slice;(iterate 2 rw [List.length_map] at *);have hxz:=lF x;have hcl:=yG x.text
 have Hl:dR x≤x.text.size+1:=by unfold dR;split <;> omega
 have hE:=Sb (aI st li rv) body note t x s;refine jv (N:=117) (T:=[(0,_),(1,_),(2,_)]) Tryz.func74 rfl Tryz.ntmps74 rfl rfl hO ?_;intro a H;refine aY (fun _ K1=>?_);refine bY (cs:=[_,_,_,_,_,_,_,_,_,_,_]) H wn rfl rfl rfl ?_;clear H;intro b4 a w hb4 H;refine bY (cs:=[_,_,_]) H wn rfl rfl rfl ?_;clear H;intro b5 a w hb5 H;refine kH H (Ra rfl (Kz K1 (SQ fun _ K2=>SR fun _ K3=>?_)));clear H K1;intro a H;refine aK dH (cs:=[_,_,_,_,_,_,_,_,_,_,_]) H wn rfl rfl (H.hp.bF 1 rfl rfl) rfl ?_;clear H;intro a H;refine s_call X4 H wn rfl (aas _ _ H.hp.ro x _ _ _ _ _ _ _ (by omega)) rfl ?_;clear H;rintro v15 _ a w ⟨rfl,rfl⟩ - H;refine kH H (Ra rfl (Kz K3 (SR fun _ K4=>Rm rfl (Rc rfl (Kz K4 (Cd rfl ?_ ?_)))))) <;> clear H K3 K4
 ·intro bT a H
  try have jy:=dT bT
  rw [FD (r:=(lI x,s)) jy] at hE;exact kP H (SR fun _ K5=>Rm rfl (Ra rfl (Kz K5 (LR Tryz.results74 rfl fun H=>H.hp.bR (L':=dW b ms ml mr mb mu s.n :: (mb,dU (dX s.aW)) :: L) (by repeat (first|exact List.Sublist.refl _|apply List.Sublist.cons)) ⟨s,by rw [hE],rfl,fun h=>by rw [hE]⟩))))
 intro bT a H
 try have jy:=dF bT
 rw [Dw (r:=(lI x,s)) (Decidable.not_not.1 jy)] at hE;dsimp only at hE;refine kP H (Kc K2 (SR fun _ K6=>Rm rfl (Rk rfl (Rf zP rfl (Ro ak 2 rfl rfl (Rd rfl (Rk rfl (Rf zP rfl ?_))))))));clear H K2;intro a H;refine aP ak 2 (vs:=[_]) _ H wn rfl rfl rfl rfl rfl rfl rfl rfl ?_;clear H;intro w H;dsimp only [List.set,setRow] at H;refine K6 _ _ ?_;clear K6;refine qW (ι:=CS × GH) (Tc:=[(0,_),(4,_),(5,_)]) (Lc:=[(_,_),(_,_)]) (fun (gh:CS × GH)=>[]) (fun (gh:CS × GH)=>[dW b ms ml mr mb mu gh.1.n,(mb,dU (dX gh.1.aW))]++L) (fun (gh:CS × GH)=>gh.2) (fun (gh:CS × GH)=>jU body note t x.kind x.id ⟨s.n+(dR x:Nat),s.aW⟩=(0,gh.1)∧(∀ b o,Gt b=some o→gh.2 b=some o)∧gh.1.n=s.n+(dR x:Nat)∧(x.kind=7→t < 4)) (by exact (H).sub ⟨rfl,rfl,rfl,trivial⟩) ?_ ?_
 ·skip;refine kP H (SR fun _ K7=>Rf jJ rfl (Ro ak 1 rfl rfl (Kz K7 (SB (SR fun _ K8=>Rc rfl (Ra rfl (Kz K8 (Cd rfl ?_ ?_)))))))) <;> clear H K7 K8
  ·intro bW a H
   try have p28:=dT bW
   have hu:((dR x:Nat):Int)=oQ x.text:=by rw [dR,if_pos p28]
   refine kP H (SR fun _ K9=>Rf vL rfl (Ro gB 1 rfl rfl ?_));clear H;intro a H;refine s_call Gd H wn rfl (FQ _ _ H.hp.ro x.text (by omega)) rfl ?_;clear H;rintro v33 _ a w ⟨rfl,rfl⟩ - H;refine kH H (Rm rfl ?_);clear H;intro a H;(iterate 2 refine gV H wn rfl rfl rfl ?_;clear H;intro a H);refine kH H (Ra rfl (Ra rfl (Kz K9 (SC (Rm rfl (Rk rfl (Rf zP rfl (Ro ak 2 rfl rfl (Rm rfl (Rs rfl (Rd rfl ?_)))))))))));clear H K9;intro a H;rw [show s.n+1+((oQ x.text:Int) - 1)=s.n+(dR x:Nat) by omega] at H;refine kH H (Rk rfl (Rf zP rfl ?_));clear H;intro a H;refine aP ak 2 (vs:=[_]) _ H wn rfl rfl rfl rfl rfl rfl rfl rfl ?_;clear H;intro w H;dsimp only [List.set,setRow] at H;refine au ?_;refine ⟨(⟨s.n+(dR x:Nat),s.aW⟩,Gt),by exact (H).sub ⟨rfl,rfl,rfl,trivial⟩,?_⟩;(try dsimp only)
   first
   | exact ⟨by simp_all [jU,bJ,dZ,iY],fun _ _ h=>h,rfl,fun h7=>by first|omega|(exfalso;simp_all)⟩
   | exact ⟨by simp_all [jU,bJ,dZ,iY],rQ,rfl,fun h7=>by first|omega|(exfalso;simp_all)⟩
  intro bW a H
  try have p28:=dF bW
  have hu:((dR x:Nat):Int)=1:=by rw [dR,if_neg p28];rfl
  rw [show s.n+1=s.n+((dR x:Nat):Int) by omega] at H;refine kP H (SR fun _ aH=>Rc rfl (Ra rfl (Kz aH (Cd rfl ?_ ?_)))) <;> clear H aH
  ·intro h45 a H
   try have p45:=dT h45
   refine kP H (SR fun _ aX=>Rf ZR rfl (Ro oH 0 rfl rfl (Rn rfl (Kz aX (Cd rfl ?_ ?_))))) <;> clear H aX
   ·intro GI a H
    try have p49:=dT GI
    refine aQ (fun _ bD=>?_)
    have hF1:(dN (aI st li rv) body note t x s).1=19:=by rw [hE];simp [dZ,jU,p45,bJ,GI]
    have hF2:(dN (aI st li rv) body note t x s).1=0→(⟨s.n+(dR x:Nat),s.aW⟩:CS)=(dN (aI st li rv) body note t x s).2:=fun h=>absurd (hF1.symm.trans h) (by decide);exact kP H (SC (Ra rfl (Kn bD (LR Tryz.results74 rfl fun H=>H.hp.bR (L':=dW b ms ml mr mb mu (s.n+(dR x:Nat)) :: (mb,dU (dX (s.aW))) :: L) (by repeat (first|exact List.Sublist.refl _|apply List.Sublist.cons)) ⟨⟨s.n+(dR x:Nat),s.aW⟩,congrArg vi hF1.symm,rfl,hF2⟩))))
   intro GI a H
   try have p49:=dF GI
   refine eX ?_;refine ⟨(⟨s.n+(dR x:Nat),s.aW⟩,Gt),by exact (H).sub ⟨rfl,rfl,rfl,trivial⟩,?_⟩;(try dsimp only)
   first
   | exact ⟨by simp_all [jU,bJ,dZ,iY],fun _ _ h=>h,rfl,fun h7=>by first|omega|(exfalso;simp_all)⟩
   | exact ⟨by simp_all [jU,bJ,dZ,iY],rQ,rfl,fun h7=>by first|omega|(exfalso;simp_all)⟩
  intro h45 a H
  try have p45:=dF h45
  refine kP H (SR fun _ bH=>Rc rfl (Ra rfl (Kz bH (Cd rfl ?_ ?_)))) <;> clear H bH
  ·intro h50 a H
   try have p50:=dT h50
   refine kP H (SQ fun _ bG=>SR fun _ bV=>Rf Kl rfl (Ro oH 0 rfl rfl ?_));clear H;intro a H;refine s_call gX H wn rfl (iy _ _ H.hp.ro _ 19) rfl ?_;clear H;rintro v54 _ a w ⟨rfl,rfl⟩ - H;refine fM lU dQ [_] [_] H wn rfl rfl rfl rfl rfl (by intro i q h;match i,h with|0,h=>exact h|n+1,h=>simp at h) rfl rfl ?_;clear H;intro b55 a w af9 H;obtain ⟨Jh,rQ,aaY,H⟩:=H.dB;refine s_call mR H wn rfl (mU _ _ H.hp.ro _ _ (acQ aaY)) rfl ?_;clear H;rintro v56 _ a w ⟨rfl,rfl⟩ - H;refine kH H (Ra rfl (Kz bV (SR fun _ bQ=>Rm rfl (Rc rfl (Kz bQ (Cd rfl ?_ ?_)))))) <;> clear H bV bQ
   ·intro gU a H
    try have p58:=dT gU
    have e58:bJ note 19≠0:=fun h=>p58 (by rw [h];rfl)
    have abU:cu [bJ note 19]=bJ note 19:=by simp [cu,e58]
    rw [abU] at H
    have hF1:(dN (aI st li rv) body note t x s).1=bJ note 19:=by rw [hE];simp [dZ,jU,p50,e58]
    have hF2:(dN (aI st li rv) body note t x s).1=0→(⟨s.n+(dR x:Nat),s.aW⟩:CS)=(dN (aI st li rv) body note t x s).2:=fun h=>absurd (hF1.symm.trans h) (e58);exact kP H (SR fun _ bS=>Rm rfl (Ra rfl (Kz bS (LR Tryz.results74 rfl fun H=>H.hp.bR (L':=dW b ms ml mr mb mu (s.n+(dR x:Nat)) :: (mb,dU (dX (s.aW))) :: L) (by repeat (first|exact List.Sublist.refl _|apply List.Sublist.cons)) ⟨⟨s.n+(dR x:Nat),s.aW⟩,congrArg vi hF1.symm,rfl,hF2⟩))))
   intro gU a H
   try have p58:=dF gU
   have e58:bJ note 19=0:=Decidable.byContradiction fun h=>p58 (by simp [cu,h]);refine kP H (Kc bG (SR fun _ cO=>Rm rfl (Rf wR rfl (Ro ak 1 rfl rfl ?_))));clear H bG;intro a H;refine gy JW (Li:=[_,_]) (L:=dW b ms ml mr mb mu _ :: (mb,dU (dX s.aW)) :: L) H wn rfl (JI _ _ _ st li rv b ms ml mr mb mu _ s.aW x.id (hck.mono rQ) (Hp.owns (Li:=[_,_]) H.hp)) rfl ?_;clear H;rintro v63 _ _ a w ⟨rfl,rfl,rfl⟩ - H;dsimp only [List.cons_append,List.nil_append] at H;refine kH H (Ra rfl (Kz cO (SR fun _ dV=>Rm rfl (Rc rfl (Kz dV (Cd rfl ?_ ?_)))))) <;> clear H cO dV
   ·intro jk a H
    try have p65:=dT jk
    have hF1:(dN (aI st li rv) body note t x s).1=mZ s.aW x.id:=by rw [hE];simp [dZ,jU,p50,e58,iY,p65]
    have hF2:(dN (aI st li rv) body note t x s).1=0→(⟨s.n+(dR x:Nat),iX s.aW x.id⟩:CS)=(dN (aI st li rv) body note t x s).2:=fun h=>absurd (hF1.symm.trans h) (p65);exact kP H (SR fun _ dI=>Rm rfl (Ra rfl (Kz dI (LR Tryz.results74 rfl fun H=>H.hp.bR (L':=dW b ms ml mr mb mu (s.n+(dR x:Nat)) :: (mb,dU (dX (iX s.aW x.id))) :: L) (by repeat (first|exact List.Sublist.refl _|apply List.Sublist.cons)) ⟨⟨s.n+(dR x:Nat),iX s.aW x.id⟩,congrArg vi hF1.symm,rfl,hF2⟩))))
   intro jk a H
   try have p65:=dF jk
   have e65:mZ s.aW x.id=0:=Decidable.not_not.1 p65;refine eX ?_;refine ⟨(⟨s.n+(dR x:Nat),iX s.aW x.id⟩,Jh),by exact (H).sub ⟨rfl,rfl,rfl,trivial⟩,?_⟩;(try dsimp only)
   first
   | exact ⟨by simp_all [jU,bJ,dZ,iY],fun _ _ h=>h,rfl,fun h7=>by first|omega|(exfalso;simp_all)⟩
   | exact ⟨by simp_all [jU,bJ,dZ,iY],rQ,rfl,fun h7=>by first|omega|(exfalso;simp_all)⟩
  intro h50 a H
  try have p50:=dF h50
  refine kP H (SR fun _ eH=>Rc rfl (Ra rfl (Kz eH (Cd rfl ?_ ?_)))) <;> clear H eH
  ·intro zV a H
   try have p67:=dT zV
   refine kP H (SQ fun _ fq=>SR fun _ gK=>Rf DT rfl (Ro ak 0 rfl rfl (Rc rfl (Kz gK (Cd rfl ?_ ?_))))) <;> clear H gK
   ·intro lK a H
    try have p71:=dT lK
    refine aQ (fun _ gF=>?_)
    have hF1:(dN (aI st li rv) body note t x s).1=17:=by rw [hE];simp [dZ,jU,p67,bJ,p71]
    have hF2:(dN (aI st li rv) body note t x s).1=0→(⟨s.n+(dR x:Nat),s.aW⟩:CS)=(dN (aI st li rv) body note t x s).2:=fun h=>absurd (hF1.symm.trans h) (by decide);exact kP H (SC (Ra rfl (Kn gF (LR Tryz.results74 rfl fun H=>H.hp.bR (L':=dW b ms ml mr mb mu (s.n+(dR x:Nat)) :: (mb,dU (dX (s.aW))) :: L) (by repeat (first|exact List.Sublist.refl _|apply List.Sublist.cons)) ⟨⟨s.n+(dR x:Nat),s.aW⟩,congrArg vi hF1.symm,rfl,hF2⟩))))
   intro lK a H
   try have p71:=dF lK
   have XT:¬ 4≤t:=by omega
   refine kP H (Kc fq (SR fun _ fO=>Rm rfl (Rf wR rfl (Ro ak 1 rfl rfl ?_))));clear H fq;intro a H;refine gy JW (Li:=[_,_]) (L:=dW b ms ml mr mb mu _ :: (mb,dU (dX s.aW)) :: L) H wn rfl (JI _ _ _ st li rv b ms ml mr mb mu _ s.aW x.id hck (Hp.owns (Li:=[_,_]) H.hp)) rfl ?_;clear H;rintro v75 _ _ a w ⟨rfl,rfl,rfl⟩ - H;dsimp only [List.cons_append,List.nil_append] at H;refine kH H (Ra rfl (Kz fO (SR fun _ iF=>Rm rfl (Rc rfl (Kz iF (Cd rfl ?_ ?_)))))) <;> clear H fO iF
   ·intro zW a H
    try have Ch:=dT zW
    have hF1:(dN (aI st li rv) body note t x s).1=mZ s.aW x.id:=by rw [hE];simp [dZ,jU,p67,bJ,XT,iY,Ch]
    have hF2:(dN (aI st li rv) body note t x s).1=0→(⟨s.n+(dR x:Nat),iX s.aW x.id⟩:CS)=(dN (aI st li rv) body note t x s).2:=fun h=>absurd (hF1.symm.trans h) (Ch);exact kP H (SR fun _ iT=>Rm rfl (Ra rfl (Kz iT (LR Tryz.results74 rfl fun H=>H.hp.bR (L':=dW b ms ml mr mb mu (s.n+(dR x:Nat)) :: (mb,dU (dX (iX s.aW x.id))) :: L) (by repeat (first|exact List.Sublist.refl _|apply List.Sublist.cons)) ⟨⟨s.n+(dR x:Nat),iX s.aW x.id⟩,congrArg vi hF1.symm,rfl,hF2⟩))))
   intro zW a H
   try have Ch:=dF zW
   have e77:mZ s.aW x.id=0:=Decidable.not_not.1 Ch;refine eX ?_;refine ⟨(⟨s.n+(dR x:Nat),iX s.aW x.id⟩,Gt),by exact (H).sub ⟨rfl,rfl,rfl,trivial⟩,?_⟩;(try dsimp only)
   first
   | exact ⟨by simp_all [jU,bJ,dZ,iY],fun _ _ h=>h,rfl,fun h7=>by first|omega|(exfalso;simp_all)⟩
   | exact ⟨by simp_all [jU,bJ,dZ,iY],rQ,rfl,fun h7=>by first|omega|(exfalso;simp_all)⟩
  intro zV a H
  try have p67:=dF zV
  refine kP H (SR fun _ gL=>Rc rfl (Ra rfl (Kz gL (Cd rfl ?_ ?_)))) <;> clear H gL
  ·intro wV a H
   try have H9:=dT wV
   refine kP H (SR fun _ jG=>Rf wR rfl (Ro ak 1 rfl rfl ?_));clear H;intro a H;refine s_call qY H wn rfl (rV _ _ H.hp.ro x.id 1 1073741824) rfl ?_;clear H;rintro v83 _ a w ⟨rfl,rfl⟩ - H;refine kH H (Rn rfl (Kz jG (Cd rfl ?_ ?_))) <;> clear H jG
   ·intro h84 a H
    try have p84:=dT h84
    refine aQ (fun _ jV=>?_)
    have XU:¬ (1≤x.id∧x.id≤1073741824):=by have h0:=h84;simp at h0;omega
    have hF1:(dN (aI st li rv) body note t x s).1=18:=by rw [hE];simp [dZ,jU,H9,bJ,XU]
    have hF2:(dN (aI st li rv) body note t x s).1=0→(⟨s.n+(dR x:Nat),s.aW⟩:CS)=(dN (aI st li rv) body note t x s).2:=fun h=>absurd (hF1.symm.trans h) (by decide);exact kP H (SC (Ra rfl (Kn jV (LR Tryz.results74 rfl fun H=>H.hp.bR (L':=dW b ms ml mr mb mu (s.n+(dR x:Nat)) :: (mb,dU (dX (s.aW))) :: L) (by repeat (first|exact List.Sublist.refl _|apply List.Sublist.cons)) ⟨⟨s.n+(dR x:Nat),s.aW⟩,congrArg vi hF1.symm,rfl,hF2⟩))))
   intro h84 a H
   try have p84:=dF h84
   refine eX ?_;refine ⟨(⟨s.n+(dR x:Nat),s.aW⟩,Gt),by exact (H).sub ⟨rfl,rfl,rfl,trivial⟩,?_⟩;(try dsimp only)
   first
   | exact ⟨by simp_all [jU,bJ,dZ,iY],fun _ _ h=>h,rfl,fun h7=>by first|omega|(exfalso;simp_all)⟩
   | exact ⟨by simp_all [jU,bJ,dZ,iY],rQ,rfl,fun h7=>by first|omega|(exfalso;simp_all)⟩
  intro wV a H
  try have H9:=dF wV
  refine eX ?_;refine ⟨(⟨s.n+(dR x:Nat),s.aW⟩,Gt),by exact (H).sub ⟨rfl,rfl,rfl,trivial⟩,?_⟩;(try dsimp only)
  first
  | exact ⟨by simp_all [jU,bJ,dZ,iY],fun _ _ h=>h,rfl,fun h7=>by first|omega|(exfalso;simp_all)⟩
  | exact ⟨by simp_all [jU,bJ,dZ,iY],rQ,rfl,fun h7=>by first|omega|(exfalso;simp_all)⟩
 clear H;intro gh a w hI H;obtain ⟨s1,g⟩:=gh;dsimp only at hI H;obtain ⟨hP,rR,agt,ht7⟩:=hI;rw [hP,Dw rfl] at hE;dsimp only at hE;replace hck:=hck.mono rR;replace hh:=hh.mono rR;replace hf:=hf.mono rR;replace hr:=hr.mono rR;dsimp only [List.cons_append,List.nil_append,List.append_nil] at H;refine kP H (SQ fun _ kV=>SR fun _ kE=>Rm rfl (Rf jJ rfl (Ro ak 1 rfl rfl (Rf Kr rfl ?_))));clear H;intro a H;refine aK qO (cs:=[_,_,_,_,_]) H wn rfl rfl (H.hp.bF 1 rfl rfl) rfl ?_;clear H;intro a H;refine gy Bo (Li:=[_,_]) (L:=dW b ms ml mr mb mu s1.n :: (mb,dU (dX s1.aW)) :: L) H wn rfl (BN _ _ _ st li rv b ms ml mr mb mu _ hck (Hp.owns (Li:=[_,_]) H.hp) x.kind x.head _ _ _ hh (by omega)) rfl ?_;clear H;rintro v90 _ _ a w ⟨rfl,rfl,rfl⟩ - H;dsimp only [List.cons_append,List.nil_append] at H;refine kH H (Ra rfl (Kz kE (SR fun _ ko=>Rm rfl (Rc rfl (Kz ko (Cd rfl ?_ ?_)))))) <;> clear H kE ko
 ·intro KM a H
  try have Ia:=dT KM
  have hF1:(dN (aI st li rv) body note t x s).1=iK (aI st li rv) x.kind x.head:=by rw [hE,FD (r:=(iK (aI st li rv) x.kind x.head,s1)) Ia]
  have hF2:(dN (aI st li rv) body note t x s).1=0→s1=(dN (aI st li rv) body note t x s).2:=fun h=>absurd (hF1.symm.trans h) Ia;exact kP H (SR fun _ nD=>Rm rfl (Ra rfl (Kz nD (LR Tryz.results74 rfl fun H=>H.hp.bR (L':=dW b ms ml mr mb mu (s1.n) :: (mb,dU (dX (s1.aW))) :: L) (by repeat (first|exact List.Sublist.refl _|apply List.Sublist.cons)) ⟨s1,congrArg vi hF1.symm,rfl,hF2⟩))))
 intro KM a H
 try have Ia:=dF KM
 rw [Dw (r:=(iK (aI st li rv) x.kind x.head,s1)) (Decidable.not_not.1 Ia)] at hE;dsimp only at hE;refine kP H (Kc kV (SQ fun _ oM=>SR fun _ mH=>Rf jJ rfl (Ro ak 1 rfl rfl (Kz mH (SB (SR fun _ qm=>Rc rfl (Ra rfl (Kz qm (Cd rfl ?_ ?_))))))))) <;> clear H kV mH qm
 ·intro mW a H
  try have EM:=dT mW
  rw [if_pos EM] at hE;refine kP H (SR fun _ vk=>Rm rfl (Rf yH rfl (Ro iR 1 rfl rfl (Rf DT rfl (Ro ak 0 rfl rfl ?_)))));clear H;intro a H;refine iP zi [_,_,_] H wn rfl rfl rfl rfl ?_;clear H;intro a H;refine gy DL (Li:=[_,_]) (L:=dW b ms ml mr mb mu s1.n :: (mb,dU (dX s1.aW)) :: L) H wn rfl (ih _ _ _ st li rv b ms ml mr mb mu s1 x.flow _ false true t hck (Hp.owns (Li:=[_,_]) H.hp) hf (by omega) ht0 Aa (by omega) (by omega)) rfl ?_;clear H;rintro agA _ _ a w ⟨rfl,s3,rfl,rfl,h3⟩ - H;dsimp only [List.cons_append,List.nil_append] at H
  have hF1:(dN (aI st li rv) body note t x s).1=(iO (aI st li rv) false true t x.flow s1).1:=by rw [hE]
  have hF2:(dN (aI st li rv) body note t x s).1=0→s3=(dN (aI st li rv) body note t x s).2:=by rw [hE];exact h3
  exact kH H (Ra rfl (Kz vk (LR Tryz.results74 rfl fun H=>H.hp.bR (L':=dW b ms ml mr mb mu (s3.n) :: (mb,dU (dX (s3.aW))) :: L) (by repeat (first|exact List.Sublist.refl _|apply List.Sublist.cons)) ⟨s3,congrArg vi hF1.symm,rfl,hF2⟩)))
 intro mW a H
 try have EM:=dF mW
 rw [if_neg EM] at hE;refine kP H (SR fun _ vo=>Rc rfl (Ra rfl (Kz vo (Cd rfl ?_ ?_)))) <;> clear H vo
 ·intro lJ a H
  try have Cg:=dT lJ
  rw [if_pos Cg] at hE;refine kP H (SR fun _ kW=>Rm rfl (Rf tV rfl (Ro uU 1 rfl rfl (Rf Kl rfl (Ro oH 0 rfl rfl (Rf DT rfl (Ro ak 0 rfl rfl (Rd rfl ?_))))))));clear H;intro a H;refine iP zi [_,_,_] H wn rfl rfl rfl rfl ?_;clear H;intro a H;refine gy X5 (Li:=[_,_]) (L:=dW b ms ml mr mb mu s1.n :: (mb,dU (dX s1.aW)) :: L) H wn rfl (rows_ok ih hm _ _ _ st li rv b ms ml mr mb mu s1 x.rows _ note (t+1) hck (Hp.owns (Li:=[_,_]) H.hp) hr (by omega) (by omega) (by have:=ht7 Cg;omega) (by omega) (by omega)) rfl ?_;clear H;rintro agC _ _ a w ⟨s3,rfl,rfl,h3⟩ - H;dsimp only [List.cons_append,List.nil_append] at H
  have hF1:(dN (aI st li rv) body note t x s).1=(jN x.rows.length (fun s=>gJ (aI st li rv) note (t+1) x.rows s) s1).1:=by rw [hE]
  have hF2:(dN (aI st li rv) body note t x s).1=0→s3=(dN (aI st li rv) body note t x s).2:=by rw [hE];exact h3
  exact kH H (Ra rfl (Kz kW (LR Tryz.results74 rfl fun H=>H.hp.bR (L':=dW b ms ml mr mb mu (s3.n) :: (mb,dU (dX (s3.aW))) :: L) (by repeat (first|exact List.Sublist.refl _|apply List.Sublist.cons)) ⟨s3,congrArg vi hF1.symm,rfl,hF2⟩)))
 intro lJ a H
 try have Cg:=dF lJ
 rw [if_neg Cg] at hE
 have hF1:(dN (aI st li rv) body note t x s).1=0:=by rw [hE]
 have hF2:(dN (aI st li rv) body note t x s).1=0→s1=(dN (aI st li rv) body note t x s).2:=fun h=>by rw [hE]
 exact kP H (Kc oM (SR fun _ wH=>Ra rfl (Kz wH (LR Tryz.results74 rfl fun H=>H.hp.bR (L':=dW b ms ml mr mb mu (s1.n) :: (mb,dU (dX (s1.aW))) :: L) (by repeat (first|exact List.Sublist.refl _|apply List.Sublist.cons)) ⟨s1,congrArg vi hF1.symm,rfl,hF2⟩))))
end
section
open Go.RowKit
theorem Zh:∀ args w,(callFunc 74 args).run Tryz.prog w=.ok (.enter 74 args) w:=enters Tryz.func74 rfl (by kernel_rfl)
theorem Zg:∀ args w,(callFunc 73 args).run Tryz.prog w=.ok (.enter 73 args) w:=enters Tryz.func73 rfl (by kernel_rfl)
/-- A function of an index that gives an error and turns blocks: ahead of the call at i they are B i. -/
def Oh (fv:Value) (Gi:GH) (n:Nat) (E:Nat→Int) {σ:Type} (B:σ→OL) (S:Nat→σ):Prop:=∀ i,i < n→∀ (G1:GH) (w1:World),(∀ b o,Gi b=some o→G1 b=some o)→gT G1 (B (S i)) w1 →
 qU Tryz.prog fv [vi i] w1 (fQ w1 G1 (B (S i)) fun u G' L'=>∃ s,u=vi (E i)∧L'=B s∧(E i=0→s=S (i+1)))
theorem VY (G:GH) (w0:World) {σ:Type} (B:σ→OL) (S:Nat→σ) (n:Nat) (E:Nat→Int) (fv:Value) (hO:gT G (B (S 0)) w0) (hn:n≤4611686018427387904) (hf:Oh fv G n E B S) :
  Calls Tryz.prog 63 #[vi n,fv] w0 (fQ w0 G (B (S 0)) fun u G' L'=>∃ s,u=vi (jr E n)∧L'=B s∧(jr E n=0→s=S n)):=by
 refine jv (N:=18) (T:=[(0,_),(1,_)]) Tryz.func63 rfl Tryz.ntmps63 rfl rfl hO ?_;intro a H;refine kP H (SR fun _ K1=>Ra rfl (Kz K1 (SQ fun _ K2=>SR fun _ K3=>Rm rfl (Rm rfl (Kz K3 (SB ?_))))));clear H K1 K3;intro a H;skip;refine d9 (ι:=Nat × GH) (Tc:=[(1,_),(7,_)]) (Lc:=[]) (fun (gh:Nat × GH)=>[(8,vi gh.1)]) (fun (gh:Nat × GH)=>[]++B (S gh.1)) (fun (gh:Nat × GH)=>gh.2) (fun (gh:Nat × GH)=>gh.1≤n∧cu (((List.range n).map E).drop gh.1)=jr E n∧(∀ b o,G b=some o→gh.2 b=some o)) (fun (gh:Nat × GH)=>n - gh.1) ((0,G)) (by exact (H).sub ⟨rfl,rfl,rfl,trivial⟩) ?_ ?_
 ·exact ⟨Nat.zero_le _,rfl,fun _ _ h=>h⟩
 clear H;intro gh a w hI H;obtain ⟨k,g⟩:=gh;dsimp only at hI H;obtain ⟨hk,he,hgm⟩:=hI;dsimp only [List.cons_append,List.nil_append,List.append_nil] at H;refine kP H (SR fun _ K4=>Rc rfl (Kz K4 (SQ fun _ K5=>Cd rfl ?_ ?_))) <;> clear H K4
 ·intro h9 a H
  try have p9:=dT h9
  have hk2:k < n:=by omega
  refine kP H (Kc K5 (SQ fun _ K6=>SB (SR fun _ K7=>Rm rfl (Ra rfl (Kz K7 (SR fun _ K8=>Rm rfl (Rm rfl ?_)))))));clear H K5 K7;intro a H;refine sG (Li:=[]) (L:=B (S k)) H wn rfl rfl (hf k hk2 _ _ hgm (Hp.owns (Li:=[]) H.hp)) rfl ?_;clear H;rintro v13 vg L13 a w ⟨s3,rfl,rfl,h3⟩ nY H;refine kH H (Ra rfl (Kz K8 (SR fun _ K9=>Rm rfl (Rc rfl (Kz K9 (Cd rfl ?_ ?_)))))) <;> clear H K8 K9
  ·intro iM a H
   try have kQ:=dT iM
   have hE:jr E n=E k:=by rw [zK hk2,if_pos kQ] at he;exact he.symm
   exact kP H (SR fun _ aH=>Rm rfl (Ra rfl (Kz aH (LR Tryz.results63 rfl fun H=>H.hp.eG ⟨s3,by rw [hE],rfl,fun h=>absurd (hE.symm.trans h) kQ⟩))))
  intro iM a H
  try have kQ:=dF iM
  have hS:=h3 (Decidable.not_not.1 kQ);subst hS;refine kP H (Kc K6 (SC (Rd rfl (Rm rfl ?_))));clear H K6;intro a H;refine au ?_;refine dD ((k+1,vg)) (by exact (H).sub ⟨rfl,rfl,rfl,trivial⟩) ?_ ?_
  ·(try dsimp only);exact ⟨by omega,by rw [zK hk2,if_neg kQ] at he;exact he,fun b o h=>nY b o (hgm b o h)⟩
  first|omega|(dsimp only;omega)
 intro h9 a H
 try have p9:=dF h9
 refine dL ?_;refine K2 _ _ ?_;clear K2;exact kP H (SR fun _ aX=>Ra rfl (Kz aX (LR Tryz.results63 rfl fun H=>H.hp.eG ⟨S n,congrArg vi (by rw [List.drop_of_length_le (by simp;omega)] at he;exact he),by rw [show k=n by omega],fun _=>rfl⟩)))
abbrev FP (b ms ml mr mb mu:Nat) (L:OL) (s:CS):OL:=dW b ms ml mr mb mu s.n :: (mb,dU (dX s.aW)) :: L
theorem ab9 {m:Nat} (ih:AU m) (hm:m≤4294967296) {G:GH} {L:OL} {st:List bg} {li:List eD} {rv:List dJ} {b ms ml mr mb mu:Nat} {s:CS} {l:List aj} {v:Value} {body note:Bool} {t:Int} {x3 x4 x5:Nat}
  (hck:qh G st li rv ms ml mr mu) (h3:aB G x3 0=some (.pointer (some ⟨b,0,none⟩))) (h4:aB G x4 0=some v) (h5:∀ (j:Nat) (u:Value),[.bool body,.bool note,vi t][j]?=some u→aB G x5 (0+j)=some u)
  (hv:ah G (.sl 11 (l.map aj.dat)) v) (hz:aS l≤m) (ht0:0≤t) (Aa:t≤4) (hs0:0≤s.n) (hs1:s.n+(aS l:Nat)≤1099511627776) :
  Oh (.func (.func 73) #[] #[.pointer (some ⟨x3,0,none⟩),.pointer (some ⟨x4,0,none⟩),.pointer (some ⟨x5,0,none⟩)]) G l.length (wP (dN (aI st li rv) body note t) l s) (FP b ms ml mr mb mu L) (mF (dN (aI st li rv) body note t) l s):=by
 intro k hk G1 w0 Et hO;refine jI (caps:=[.pointer (some ⟨x3,0,none⟩),.pointer (some ⟨x4,0,none⟩),.pointer (some ⟨x5,0,none⟩)]) Zg ?_;replace h3:=aD Et h3;replace h4:=aD Et h4;replace h5:=fun j u hj=>aD Et (h5 j u hj);replace hck:=hck.mono Et;replace hv:=hv.mono Et;obtain ⟨A,c,rfl,hc1,hc2,hg⟩:=hv.slice;rw [List.length_map] at *;obtain ⟨o,xo,pA,pn,pc,dA,dn,dc,yA,yn,yc,fA,fn,fc,rA,rn,rc,rfl,hrow,hhd,hfl,hrw⟩:=BD hk hg;obtain ⟨hn0,hn1⟩:=UA (aI st li rv) body note t l s k (by omega)
 have hdz:aS (l.drop k)=1+bP l[k].dat+aS (l.drop (k+1)):=by
  simp only [aS];rw [List.drop_eq_getElem_cons hk,List.map_cons,dw]
 have RY:=Ja (List.getElem_mem hk)
 have hE:wP (dN (aI st li rv) body note t) l s k=(dN (aI st li rv) body note t l[k] (mF (dN (aI st li rv) body note t) l s k)).1:=by unfold wP;rw [List.getElem?_eq_getElem hk]
 have hS:mF (dN (aI st li rv) body note t) l s (k+1)=(dN (aI st li rv) body note t l[k] (mF (dN (aI st li rv) body note t) l s k)).2:=by rw [mF,List.getElem?_eq_getElem hk]
 rw [hE,hS]
 generalize mF (dN (aI st li rv) body note t) l s k=s1 at *
 refine jv (N:=13) (T:=[(0,_),(1,_),(2,_),(3,_)]) Tryz.func73 rfl Tryz.ntmps73 rfl rfl hO ?_;intro a H;refine kP H (SR fun _ K1=>Ra rfl (Kz K1 (SQ fun _ K2=>?_)));clear H K1;intro a H;refine dz (hmx) [[],[],[],[1,2],[1,2,3],[],[0,1,2,3,4,5],(List.range 7)] [6,7] (by kernel_rfl) (by kernel_rfl) (fun (aC:Nat) (v:Value) (G:GH)=>match aC with|0=>v=.pointer (some ⟨b,0,none⟩)|1=>v=.slice (some ⟨o,xo,none⟩) l.length c|2=>v=vi k|3=>v=.pointer (some ⟨o,xo+k*11,none⟩)|4=>v=.agg #[vi l[k].kind,vi l[k].code,vi l[k].id,.string l[k].text,.slice pA pn pc,vi l[k].head.marks.ins,vi l[k].head.marks.move,.slice dA dn dc,.slice yA yn yc,.slice fA fn fc,.slice rA rn rc]|5=>v=.agg #[.bool body,.bool note,vi t]|_=>True) (fun _ _ _ _ _ h=>h) H ?_ ?_
 ·clear H;refine av (X0 rfl fun hG=>Rg CO rfl (aD hG h3)) (X0 rfl fun hG=>Rg iR rfl (aD hG h4)) (Z0 rfl (Rm rfl)) (Z2 1 7 2 8 rfl (Ri jO dH rfl rfl)) (av ?_ ?_ (aT rfl) (aT rfl) dh)
  ·refine dS 3 9 rfl rfl fun _ a w G1 hG HT H fin=>?_;refine aK dH (cs:=[_,_,_,_,_,_,_,_,_,_,_]) H wn rfl rfl (fun j v hj=>H.hp.aB (aD hG (hrow j v hj))) rfl ?_;clear H;intro a H;exact fin H iJ rfl
  refine wJ rfl fun _ a w G1 hG HT H fin=>?_;refine aK IV (cs:=[.bool body,.bool note,vi t]) H wn rfl rfl (fun j v hj=>H.hp.aB (aD hG (h5 j v hj))) rfl ?_;clear H;intro a H;exact fin H iJ rfl
 clear H;intro a w G kZ H hv;have H:=H.aM (hv 0 6 rfl rfl) rfl;have H:=H.aM (hv 4 10 rfl rfl) rfl;have H:=H.aM (hv 5 11 rfl rfl) rfl;clear hv;refine gy Zh (Li:=[]) (L:=FP b ms ml mr mb mu L s1) H wn rfl (acd ih hm _ _ _ st li rv b ms ml mr mb mu s1 l[k] _ _ _ _ _ body note t (hck.mono kZ) (Hp.owns (Li:=[]) H.hp) (hhd.mono kZ) (hfl.mono kZ) (hrw.mono kZ) (by omega) ht0 Aa (by omega) (by omega)) rfl ?_;clear H;rintro v12 _ _ a w ⟨s3,rfl,rfl,h12⟩ - H;dsimp only [List.nil_append] at H;refine kH H (Ra rfl ?_);clear H;intro a H;refine au ⟨rfl,?_⟩;refine K2 _ _ ?_;clear K2;refine lr H Tryz.results73 rfl ?_;exact H.hp.eG ⟨s3,rfl,rfl,h12⟩
theorem ace {m:Nat} (ih:AU m) (hm:m≤4294967296):AU (m+1):=by
 intro G L w0 st li rv b ms ml mr mb mu s l v body note t hck hO hv hz ht0 Aa hs0 hs1;obtain ⟨hA1,hA2⟩:=Sc (aI st li rv) body note t l s;refine Calls.Wh (R:=fun u G' L'=>Fh b ms ml mr mb mu L (iO (aI st li rv) body note t l s) u L') ?_ fun _ _ _ h=>h;obtain ⟨A,c,rfl,hc1,hc2,-⟩:=hv.slice;rw [List.length_map] at *;have hll:=CW l;refine jv (N:=11) (T:=[(0,_),(1,_),(2,_)]) Tryz.func45 rfl Tryz.ntmps45 rfl rfl hO ?_;intro a H;refine aY (fun _ K1=>?_);refine bY (cs:=[_]) H wn rfl rfl rfl ?_;clear H;intro b3 a w hb3 H;refine bY (cs:=[_]) H wn rfl rfl rfl ?_;clear H;intro b4 a w hb4 H;refine bY (cs:=[_,_,_]) H wn rfl rfl rfl ?_;clear H;intro b5 a w hb5 H;refine kH H (Ra rfl (Kz K1 (SQ fun _ K2=>?_)));clear H K1;intro a H;obtain ⟨VJ,GX,vR,H⟩:=H.dB;obtain ⟨VI,BP,uo,H⟩:=H.dB;obtain ⟨Ga,yU,w9,H⟩:=H.dB;replace vR:=yU _ _ (BP _ _ vR);replace uo:=yU _ _ uo;have hma:∀ b o,G b=some o→Ga b=some o:=fun b o h=>yU _ _ (BP _ _ (GX _ _ h))
 have g3:aB Ga b3 0=some (.pointer (some ⟨b,0,none⟩)):=by unfold aB;rw [w9];rfl
 have g4:aB Ga b4 0=some (.slice A l.length c):=by unfold aB;rw [uo];rfl
 have g5:∀ (j:Nat) (u:Value),[.bool body,.bool note,vi t][j]?=some u→aB Ga b5 (0+j)=some u:=by
  intro j u hj;unfold aB;rw [vR];simpa using hj
 have hcb:=ab9 (mb:=mb) (L:=L) (s:=s) ih hm (hck.mono hma) g3 g4 g5 (hv.mono hma) (by omega) ht0 Aa hs0 hs1;refine kP H (SC (Rg iR rfl (by assumption) ?_));clear H;intro a H;refine kH H (Rl jO rfl ?_);clear H;intro a H;refine lT H wn rfl rfl ?_;clear H;intro a H;refine gy Bp (Li:=[]) (L:=FP b ms ml mr mb mu L s) H wn rfl (VY _ _ (FP b ms ml mr mb mu L) (mF (dN (aI st li rv) body note t) l s) l.length (wP (dN (aI st li rv) body note t) l s) _ (Hp.owns (Li:=[]) H.hp) (by omega) hcb) rfl ?_;clear H;rintro v10 _ _ a w ⟨s3,rfl,rfl,h10⟩ - H;dsimp only [List.nil_append] at H;exact kH H (Ra rfl (Kn K2 (LR Tryz.results45 rfl fun H=>H.hp.eG ⟨s3,by rw [hA1],rfl,fun h=>by rw [hA1] at h;exact (h10 h).trans (hA2 (hA1.trans h)).symm⟩)))
theorem Hy:∀ m:Nat,m≤4294967297→AU m
 | 0,_=>fun _ _ _ _ _ _ _ _ _ _ _ _ _ _ _ _ _ _ _ _ _ h=>absurd h (by omega)
 | m+1,hm=>ace (Hy m (by omega)) (by omega)
end
section
open Go.RowKit
theorem ZU:bO Tryz.prog 135 1 1:=⟨by kernel_rfl⟩
theorem ZV:bO Tryz.prog 135 2 2:=⟨by kernel_rfl⟩
theorem Zd:∀ args w,(callFunc 66 args).run Tryz.prog w=.ok (.enter 66 args) w:=enters Tryz.func66 rfl (by kernel_rfl)
theorem Zc:∀ args w,(callFunc 64 args).run Tryz.prog w=.ok (.enter 64 args) w:=enters Tryz.func64 rfl (by kernel_rfl)
theorem ad1 {G:GH} {bl:Nat} {l:List dJ} {A:Option Addr} {n c:Nat} (hb:aB G bl 0=some (.slice A n c)) (hv:ah G (.sl 3 (l.map dJ.dat)) (.slice A n c)):oL (.func (.func 66) #[] #[.pointer (some ⟨bl,0,none⟩)]) G l.length fun k=>(l[k]?.map dJ.id).getD 0:=by
 intro k hk G1 w0 hm hG;refine jI (caps:=[.pointer (some ⟨bl,0,none⟩)]) Zd ?_;replace hb:=aD hm hb
 obtain rfl:n=l.length:=by have:=hv.len;simpa using this
 obtain ⟨b,o,rfl,hrow⟩:=Nk (hv.mono hm) hk;have hq:=hrow 0 _ rfl;refine eN [(0,_),(1,_)] Tryz.func66 rfl Tryz.ntmps66 rfl rfl hG ?_;intro a H;refine kP H (SR fun _ K1=>Ra rfl (Kz K1 (SR fun _ K2=>Rg zm rfl (by assumption) ?_)));clear H K1;intro a H;refine kH H (Rm rfl (Ri zo Aw rfl rfl (Rf Ql rfl (Rg ak rfl (by assumption) ?_))));clear H;intro a H;exact kH H (Ra rfl (Kz K2 (LR Tryz.results66 rfl fun H=>H.hp.ret (by dsimp only;rw [List.getElem?_eq_getElem hk];rfl))))
def Ni (l:List dJ) (i:Nat) (x:dJ):Int:=cu [mo (fun k=>(l[k]?.map dJ.id).getD 0) i,bJ (!qw x.author) 39,bJ (!decide (0≤x.time∧x.time≤1099511627776)) 40]
def Ap (l:List dJ) (i:Nat):Int:=match l[i]? with|some x=>Ni l i x|none=>0
theorem adN {G:GH} {bl:Nat} {l:List dJ} {A:Option Addr} {n c:Nat} (hb:aB G bl 0=some (.slice A n c)) (hv:ah G (.sl 3 (l.map dJ.dat)) (.slice A n c)) (hl:l.length≤4294967296) (ht:∀ x∈l,x.author.size < 4611686018427387904):oL (.func (.func 64) #[] #[.pointer (some ⟨bl,0,none⟩)]) G l.length (Ap l):=by
 intro k hk G1 w0 hm hG;refine jI (caps:=[.pointer (some ⟨bl,0,none⟩)]) Zc ?_;replace hb:=aD hm hb;replace hv:=hv.mono hm;have hcb:=ad1 hb hv
 obtain rfl:n=l.length:=by have:=hv.len;simpa using this
 obtain ⟨b,o,rfl,hrow⟩:=Nk hv hk;have hte:=ht _ (List.getElem_mem hk)
 have he:Ap l k=Ni l k l[k]:=by unfold Ap;rw [List.getElem?_eq_getElem hk]
 obtain ⟨x,hx⟩:∃ x,x=l[k]:=⟨_,rfl⟩;rw [← hx] at hrow hte he;refine eN [(0,_),(1,_)] Tryz.func64 rfl Tryz.ntmps64 rfl rfl hG ?_;intro a H;refine kP H (SR fun _ K1=>Ra rfl (Kz K1 (SQ fun _ K2=>?_)));clear H K1;intro a H;have H:=H.sub (T':=[(0,_),(1,_)]) ⟨rfl,rfl,trivial⟩;refine dz (hmx) [[],[],[0,1],[],[],[3,4],[3,4,5],[3,4,5,6],(List.range 8),(List.range 9),(List.range 10),[],[],[11,12],[11,12,13],[11,12,13,14],(List.range 16),(List.range 17),(List.range 18),(List.range 19),(List.range 20),(List.range 21)] [19,20,21] (by kernel_rfl) (by kernel_rfl) (fun (aC:Nat) (v:Value) (G:GH)=>match aC with|0=>v=vi k|1=>v=.func (.func 66) #[] #[.pointer (some ⟨bl,0,none⟩)]|2=>v=vi (mo (fun k=>(l[k]?.map dJ.id).getD 0) k)|3=>v=.slice (some ⟨b,o,none⟩) l.length c|4=>v=vi k|5=>v=.pointer (some ⟨b,o+k*3,none⟩)|6=>v=.pointer (some ⟨b,o+k*3+1,none⟩)|7=>v=.string x.author|8=>v=.bool (qw x.author)|9=>v=.bool (!qw x.author)|10=>v=vi (bJ (!qw x.author) 39)|11=>v=.slice (some ⟨b,o,none⟩) l.length c|12=>v=vi k|13=>v=.pointer (some ⟨b,o+k*3,none⟩)|14=>v=.pointer (some ⟨b,o+k*3+2,none⟩)|15=>v=vi x.time|16=>v=.bool (decide (0≤x.time∧x.time≤1099511627776))|17=>v=.bool (!decide (0≤x.time∧x.time≤1099511627776))|18=>v=vi (bJ (!decide (0≤x.time∧x.time≤1099511627776)) 40)|_=>True) (fun _ _ _ _ _ h=>h) H ?_ ?_
 ·clear H;refine av (Z0 rfl (Rm rfl)) ?_ ?_ (X0 rfl fun hG=>Rg zm rfl (aD hG hb)) (av (Z0 rfl (Rm rfl)) (Z2 3 7 4 8 rfl (Ri zo Aw rfl rfl)) (Z1 5 9 rfl (Rf ZU rfl)) (X1 6 10 rfl fun hG=>Rg gB rfl (aD hG (hrow 1 _ rfl))) (av ?_ (Z1 8 12 rfl (Rn rfl)) ?_ (X0 rfl fun hG=>Rg zm rfl (aD hG hb)) (av (Z0 rfl (Rm rfl)) (Z2 11 15 12 16 rfl (Ri zo Aw rfl rfl)) (Z1 13 17 rfl (Rf ZV rfl)) (X1 14 18 rfl fun hG=>Rg ak rfl (aD hG (hrow 2 _ rfl))) (av ?_ (Z1 16 20 rfl (Rn rfl)) ?_ (aT rfl) (bq (aT rfl) (bq (aT rfl) dh))))))
  ·refine wJ rfl fun _ a w G1 hG HT H fin=>?_;refine lT H wn rfl rfl ?_;clear H;intro a H;exact fin H iJ rfl
  ·refine dK 0 4 1 5 rfl rfl fun _ a w G1 hG HT H fin=>?_;refine s_call J9 H wn rfl (MK _ _ H.hp.ro k _ _ (by omega) (fun i hi=>(hcb.mono hG) i (by omega))) rfl ?_;clear H;rintro v6 G6 a w rfl jd H;exact fin H jd (rfl)
  ·refine dS 7 11 rfl rfl fun _ a w G1 hG HT H fin=>?_;refine s_call P8 H wn rfl (OW _ _ H.hp.ro x.author hte) rfl ?_;clear H;rintro v12 zx a w ⟨rfl,-⟩ nK H;exact fin H nK (rfl)
  ·refine dS 9 13 rfl rfl fun _ a w G1 hG HT H fin=>?_;refine s_call gX H wn rfl (iy _ _ H.hp.ro _ 39) rfl ?_;clear H;rintro v14 qV a w ⟨rfl,-⟩ vQ H;exact fin H vQ (rfl)
  ·refine dS 15 19 rfl rfl fun _ a w G1 hG HT H fin=>?_;refine s_call qY H wn rfl (rV _ _ H.hp.ro x.time 0 1099511627776) rfl ?_;clear H;rintro v20 AQ a w ⟨rfl,-⟩ aaA H;exact fin H aaA (rfl)
  refine dS 17 21 rfl rfl fun _ a w G1 hG HT H fin=>?_;refine s_call gX H wn rfl (iy _ _ H.hp.ro _ 40) rfl ?_;clear H;rintro v22 Vu a w ⟨rfl,-⟩ KQ H;exact fin H KQ (rfl)
 clear H;intro a w G kZ H hv;have H:=H.aM (hv 2 6 rfl rfl) rfl;have H:=H.aM (hv 10 14 rfl rfl) rfl;have H:=H.aM (hv 18 22 rfl rfl) rfl;clear hv;refine fM lU dQ [_,_,_] [_,_,_] H wn rfl rfl rfl rfl rfl (by intro i q h;match i,h with|0,h=>exact h|1,h=>exact h|2,h=>exact h|n+3,h=>simp at h) rfl rfl ?_;clear H;intro b23 a w af4 H;obtain ⟨N9,Q9,aaS,H⟩:=H.dB;refine s_call mR H wn rfl (mU _ _ H.hp.ro _ _ (Ac [mo (fun k=>(l[k]?.map dJ.id).getD 0) k,bJ (!qw x.author) 39,bJ (!decide (0≤x.time∧x.time≤1099511627776)) 40] aaS (show 3≤maxLen by decide))) rfl ?_;clear H;rintro v24 _ a w ⟨rfl,rfl⟩ - H;refine kH H (Ra rfl ?_);clear H;intro a H;refine au ⟨rfl,?_⟩;refine K2 _ _ ?_;clear K2;refine lr H Tryz.results64 rfl ?_;exact H.hp.ret (by rw [he,Ni])
def DC (l:List dJ):Int:=cu [bJ (decide (256 < (l.length:Int))) 9,jr (Ap l) (min l.length 256)]
theorem W9 (G:GH) (w0:World) (hG:Hold G w0) (l:List dJ) (v:Value) (hv:ah G (.sl 3 (l.map dJ.dat)) v) (hl:l.length≤4294967296) (ht:∀ x∈l,x.author.size < 4611686018427387904) :
  Calls Tryz.prog 41 #[v] w0 (aU w0 G fun u G'=>u=vi (DC l)):=by
 obtain ⟨A,c,rfl,hc1,hc2,-⟩:=hv.slice;rw [List.length_map] at *;refine eN [(0,_)] Tryz.func41 rfl Tryz.ntmps41 rfl rfl hG ?_;intro a H;refine aY (fun _ K1=>?_);refine bY (cs:=[_]) H wn rfl rfl rfl ?_;clear H;intro b1 a w hb1 H;refine kH H (Ra rfl (Kz K1 (SQ fun _ K2=>?_)));clear H K1;intro a H;have H:=H.sub (T':=[(1,_)]) ⟨rfl,trivial⟩;obtain ⟨Ga,hma,hb1',H⟩:=H.dB
 have hbl:aB Ga b1 0=some (.slice A l.length c):=by unfold aB;rw [hb1'];rfl
 have hcb:=adN hbl (hv.mono hma) hl ht;refine dz (hmx) [[],[0],[0,1],[0,1,2],[],[4],[4,5],[],(List.range 8),(List.range 9),(List.range 10),(List.range 11)] [9,10,11] (by kernel_rfl) (by kernel_rfl) (fun (aC:Nat) (v:Value) (G:GH)=>match aC with|0=>v=.slice A l.length c|1=>v=vi l.length|2=>v=.bool (decide (256 < (l.length:Int)))|3=>v=vi (bJ (decide (256 < (l.length:Int))) 9)|4=>v=.slice A l.length c|5=>v=vi l.length|6=>v=vi ((min l.length 256:Nat):Int)|7=>v=.func (.func 64) #[] #[.pointer (some ⟨b1,0,none⟩)]|8=>v=vi (jr (Ap l) (min l.length 256))|_=>True) (fun _ _ _ _ _ h=>h) H ?_ ?_
 ·clear H;refine av (X0 rfl fun hG=>Rg zm rfl (aD hG hbl)) (Z1 0 3 rfl (Rl zo rfl)) (Z1 1 4 rfl (Rc rfl)) ?_ (av (X0 rfl fun hG=>Rg zm rfl (aD hG hbl)) (Z1 4 7 rfl (Rl zo rfl)) ?_ ?_ (av ?_ (aT rfl) (aT rfl) (aT rfl) dh))
  ·refine dS 2 5 rfl rfl fun _ a w G1 hG HT H fin=>?_;refine s_call gX H wn rfl (iy _ _ H.hp.ro _ 9) rfl ?_;clear H;rintro v6 G6 a w ⟨rfl,-⟩ jd H;exact fin H jd (rfl)
  ·refine dS 5 8 rfl rfl fun _ a w G1 hG HT H fin=>?_;refine IB H wn rfl rfl rfl ?_;clear H;intro a H;exact fin H iJ (congrArg vi (by omega))
  ·refine wJ rfl fun _ a w G1 hG HT H fin=>?_;refine lT H wn rfl rfl ?_;clear H;intro a H;exact fin H iJ rfl
  refine dK 6 9 7 10 rfl rfl fun _ a w G1 hG HT H fin=>?_;refine s_call Bp H wn rfl (Du _ _ H.hp.ro (min l.length 256) (Ap l) _ (by omega) ((hcb.mono hG).le (Nat.min_le_left _ _))) rfl ?_;clear H;rintro v11 qj a w rfl pR H;exact fin H pR (rfl)
 clear H;intro a w G kZ H hv;have H:=H.aM (hv 3 6 rfl rfl) rfl;have H:=H.aM (hv 8 11 rfl rfl) rfl;clear hv;refine fM lU dQ [_,_] [_,_] H wn rfl rfl rfl rfl rfl (by intro i q h;match i,h with|0,h=>exact h|1,h=>exact h|n+2,h=>simp at h) rfl rfl ?_;clear H;intro b12 a w BL H;obtain ⟨zx,Ep,zY,H⟩:=H.dB;refine s_call mR H wn rfl (mU _ _ H.hp.ro _ _ (tu zY)) rfl ?_;clear H;rintro v13 _ a w ⟨rfl,rfl⟩ - H;refine kH H (Ra rfl ?_);clear H;intro a H;refine au ⟨rfl,?_⟩;refine K2 _ _ ?_;clear K2;refine lr H Tryz.results41 rfl ?_;exact H.hp.ret rfl
/-! ## No id twice -/
theorem ru:∀ {l:List Int},cu l=0→∀ x∈l,x=0
 | [],_,_,h=>by cases h
 | e :: r,h,x,hx=>by
  unfold cu at h
  by_cases he:e=0
  ·rw [if_neg (fun h'=>h' he)] at h
   rcases List.mem_cons.1 hx with rfl|hx
   ·exact he
   exact ru h x hx
  rw [if_pos he] at h;exact absurd h he
theorem OV {E:Nat→Int} {n:Nat} (h:jr E n=0) (i:Nat) (hi:i < n):E i=0:=ru h _ (by simp;exact ⟨i,hi,rfl⟩)
theorem R5 {id:Nat→Int} {i:Nat} (h:mo id i=0):1≤id i∧id i≤1073741824∧(0 < i→id (i - 1) < id i):=by
 unfold mo at h
 by_cases h1:1≤id i∧id i≤1073741824
 ·rw [if_neg (fun h'=>h' h1)] at h
  by_cases h2:0 < i∧id i=id (i - 1)
  ·rw [if_pos h2] at h;cases h
  rw [if_neg h2] at h
  by_cases h3:0 < i∧id i < id (i - 1)
  ·rw [if_pos h3] at h;cases h
  exact ⟨h1.1,h1.2,fun h0=>by omega⟩
 rw [if_pos h1] at h;cases h
theorem R6 {l:List Int} (h:∀ i (h:i+1 < l.length),l[i] < l[i+1]):wE l:=by
 have hlt:∀ (j i:Nat) (hj:j < l.length) (hi:i < j),l[i] < l[j]:=by
  intro j
  induction j with
  | zero=>intro i _ hi;omega
  | succ j ih =>
   intro i hj hi;have h1:=h j hj
   by_cases e:i=j
   ·subst e;exact h1
   have:=ih i (by omega) (by omega);omega
 intro k hk hm;obtain ⟨i,hi,he⟩:=List.getElem_of_mem hm;rw [List.length_take] at hi;have:=hlt k i hk (by omega);rw [List.getElem_take] at he
 omega
theorem adO {l:List dJ} (h:DC l=0):wE (l.map dJ.id):=by
 have h1:=ru h _ (List.mem_cons_self);have h2:=ru h _ (List.mem_cons_of_mem _ List.mem_cons_self)
 have hl:l.length≤256:=by
  unfold bJ at h1
  by_cases hd:256 < (l.length:Int)
  ·rw [if_pos (ay hd)] at h1;cases h1
  omega
 refine R6 fun i hi=>?_;rw [List.length_map] at hi;have h3:=OV h2 (i+1) (by omega)
 unfold Ap at h3
 rw [List.getElem?_eq_getElem hi] at h3;have h4:=(R5 (ru h3 _ List.mem_cons_self)).2.2 (by omega);rw [Nat.add_sub_cancel,List.getElem?_eq_getElem hi,List.getElem?_eq_getElem (show i < l.length by omega)] at h4
 simpa using h4
theorem acz {l:List eD} (h:Dz l=0):wE (l.map eD.id):=by
 have h1:=ru h _ (List.mem_cons_self);have h2:=ru h _ (List.mem_cons_of_mem _ List.mem_cons_self)
 have hl:l.length≤64:=by
  unfold bJ at h1
  by_cases hd:64 < (l.length:Int)
  ·rw [if_pos (ay hd)] at h1;cases h1
  omega
 refine R6 fun i hi=>?_;rw [List.length_map] at hi;have h3:=OV h2 (i+1) (by omega)
 unfold Ai at h3
 have h4:=(R5 (ru h3 _ List.mem_cons_self)).2.2 (by omega);rw [Nat.add_sub_cancel,List.getElem?_eq_getElem hi,List.getElem?_eq_getElem (show i < l.length by omega)] at h4
 simpa using h4
theorem aeO {l:List bg} (h:eY l=0):wE (l.map bg.id):=by
 unfold eY at h
 by_cases h1:128 < l.length
 ·rw [if_pos h1] at h;cases h
 rw [if_neg h1] at h
 by_cases h2:oU (uL l) 0 l.length≠0
 ·rw [if_pos h2] at h;exact absurd h h2
 intro k hk;rw [List.length_map] at hk;have:=SV (Decidable.not_not.1 h2) k hk;rw [← List.map_take,List.getElem_map];exact this
end
section
open Go.RowKit
theorem Y1:∀ args w,(callFunc 42 args).run Tryz.prog w=.ok (.enter 42 args) w:=enters Tryz.func42 rfl (by kernel_rfl)
theorem aeX:Ty Tryz.prog 36 4 96 [.slice none 0 0,.slice none 0 0,.slice none 0 0,.slice none 0 0] true:=⟨by kernel_rfl,by kernel_rfl⟩
theorem YZ:∀ args w,(callFunc 40 args).run Tryz.prog w=.ok (.enter 40 args) w:=enters Tryz.func40 rfl (by kernel_rfl)
theorem Y0:∀ args w,(callFunc 41 args).run Tryz.prog w=.ok (.enter 41 args) w:=enters Tryz.func41 rfl (by kernel_rfl)
theorem Gq:bO Tryz.prog 38 1 1:=⟨by kernel_rfl⟩
theorem Ky (e:Int):cu [e]=e:=by
 by_cases h:e=0 <;> simp [cu,h]
/-- A document. -/
structure tJ where
 flow:List aj
 fin:gW
 revs:List dJ
 kT:wL
structure zw (G:GH) (D:jh) (d:tJ):Prop where
 fl:ah G (.sl 11 (d.flow.map aj.dat)) (dY D.f)
 hd:jq G d.fin (dY D.p) (dY D.d) (dY D.y)
 ins:D.ins=d.fin.marks.ins
 mv:D.move=d.fin.marks.move
 rv:ah G (.sl 3 (d.revs.map dJ.dat)) (dY D.r)
 st:Ba G d.kT (dY D.s1) (dY D.s2) (dY D.s3) (dY D.s4)
theorem Ba.mono {G G':GH} (hm:∀ b o,G b=some o→G' b=some o) {s:wL} {a b c d:Value} (h:Ba G s a b c d):Ba G' s a b c d:=⟨h.st.mono hm,h.li.mono hm,h.cm.mono hm,h.va.mono hm⟩
theorem zw.mono {G G':GH} (hm:∀ b o,G b=some o→G' b=some o) {D:jh} {d:tJ} (h:zw G D d):zw G' D d:=⟨h.fl.mono hm,h.hd.mono hm,h.ins,h.mv,h.rv.mono hm,h.st.mono hm⟩
/-- Bounds that no machine passes. -/
structure Fj (d:tJ):Prop where
 fl:aS d.flow≤1073741824
 hd:nC d.fin≤4294967296
 rn:d.revs.length≤4294967296
 rt:∀ x∈d.revs,x.author.size < 4611686018427387904
 sn:d.kT.styles.length≤4294967296
 st:Jt d.kT
abbrev tJ.pI (d:tJ):fJ:=aI d.kT.styles d.kT.lists d.revs
def rY (m:sJ):Bool:=decide ((m.ins≠0∨m.move≠0)∨0 < (m.bK.length:Int))
/-- The first error of a document. -/
def kF (d:tJ):Int:=cu [cu [FL d.kT,DC d.revs],cu [iK d.pI 3 d.fin,bJ (rY d.fin.marks) 21],(iO d.pI true false 0 d.flow ⟨0,[]⟩).1,bJ (decide (16384 < (iO d.pI true false 0 d.flow ⟨0,[]⟩).2.n)) 9]
theorem Xc (G:GH) (w0:World) (hG:Hold G w0) (D:jh) (d:tJ) (hR:zw G D d) (hz:Fj d) :
  Calls Tryz.prog 26 #[D.val] w0 (aU w0 G fun u G'=>u=vi (kF d)):=by
 obtain ⟨df,dp,dd,dy,dr,d1,d2,d3,d4,ins,mv⟩:=D;obtain ⟨hfl,hhd,hin,hmv,uG,hst⟩:=hR;dsimp only at hfl hhd hin hmv uG hst;subst hin;subst hmv;obtain ⟨zf,zh,zr,zt,zs,zg⟩:=hz;have hdl:=hhd.bK.len;rw [List.length_map] at hdl
 have hdn:d.fin.marks.bK.length≤4294967296:=by
  have h1:=Fe d.fin;have h2:=pq (d.fin.marks.bK.map jm.dat);rw [List.length_map] at h2;omega
 refine eN [(0,_)] Tryz.func26 rfl Tryz.ntmps26 rfl rfl hG ?_;intro a H;refine aY (fun _ K1=>?_);refine bY (cs:=[_,_,_,_,_,_,_,_,_,_,_]) H wn rfl rfl rfl ?_;clear H;intro b1 a w hb1 H;refine kH H (Ra rfl (Kz K1 (SQ fun _ K2=>SQ fun _ K3=>?_)));clear H K1;intro a H;refine dz (hmx) [[],[0],[0,1],[],[3],[0,1,2,3,4],[0,1,2,3,4,5],(List.range 7),(List.range 8)] [6,7,8] (by kernel_rfl) (by kernel_rfl) (fun (aC:Nat) (v:Value) (G:GH)=>match aC with|0=>v=.pointer (some ⟨b1,7,none⟩)|1=>v=.agg #[dY d1,dY d2,dY d3,dY d4]|2=>v=vi (FL d.kT)|3=>v=.pointer (some ⟨b1,6,none⟩)|4=>v=dY dr|5=>v=vi (DC d.revs)|_=>True) (fun _ _ _ _ _ h=>h) H ?_ ?_
 ·clear H;refine av (Z0 rfl (Rf Kq rfl)) ?_ ?_ (Z0 rfl (Rf Ko rfl)) (av (Z1 3 11 rfl (Ro zm 0 rfl rfl)) ?_ (aT rfl) (aT rfl) (bq (aT rfl) dh))
  ·refine dS 0 8 rfl rfl fun _ a w G1 hG HT H fin=>?_;refine aK aeX (cs:=[_,_,_,_]) H wn rfl rfl (H.hp.bF 0 rfl rfl) rfl ?_;clear H;intro a H;exact fin H iJ rfl
  ·refine dS 1 9 rfl rfl fun _ a w G1 hG HT H fin=>?_;refine s_call YZ H wn rfl (Xa _ _ H.hp.ro d.kT _ _ _ _ (hst.mono hG) zg) rfl ?_;clear H;rintro v10 C9 a w rfl pQ H;exact fin H pQ (rfl)
  refine dS 4 12 rfl rfl fun _ a w G1 hG HT H fin=>?_;refine s_call Y0 H wn rfl (W9 _ _ H.hp.ro d.revs _ (uG.mono hG) zr zt) rfl ?_;clear H;rintro v13 vg a w rfl aay H;exact fin H aay (rfl)
 clear H;intro a w G kZ H hv;have H:=H.aM (hv 2 10 rfl rfl) rfl;have H:=H.aM (hv 5 13 rfl rfl) rfl;clear hv;refine fM lU dQ [_,_] [_,_] H wn rfl rfl rfl rfl rfl (by intro i q h;match i,h with|0,h=>exact h|1,h=>exact h|n+2,h=>simp at h) rfl rfl ?_;clear H;intro b14 a w QU H;obtain ⟨qV,rM,aaQ,H⟩:=H.dB;have hg1:=fun b o h=>rM b o (kZ b o h);replace hfl:=hfl.mono hg1;replace hhd:=hhd.mono hg1;replace uG:=uG.mono hg1;replace hst:=hst.mono hg1;refine s_call mR H wn rfl (mU _ _ H.hp.ro _ _ (tu aaQ)) rfl ?_;clear H;rintro v15 _ a w ⟨rfl,rfl⟩ - H;refine kH H (Ra rfl ?_);clear H;intro a H;refine au ⟨rfl,?_⟩;refine K3 _ _ ?_;clear K3;refine kP H (SR fun _ K4=>Rm rfl (Rc rfl (Kz K4 (Cd rfl ?_ ?_)))) <;> clear H K4
 ·intro bT a H
  try have jy:=dT bT
  have hE:kF d=cu [FL d.kT,DC d.revs]:=by rw [kF,cu,if_pos jy]
  exact kP H (SR fun _ K5=>Rm rfl (Ra rfl (Kz K5 (LR Tryz.results26 rfl fun H=>H.hp.ret (by rw [hE])))))
 intro bT a H
 try have jy:=dF bT
 have e1:=Decidable.not_not.1 jy;have s1:=ru e1 _ List.mem_cons_self;have s2:=ru e1 _ (List.mem_cons_of_mem _ List.mem_cons_self);have t1:=ru s1 _ List.mem_cons_self;have t2:=ru s1 _ (List.mem_cons_of_mem _ List.mem_cons_self);refine eX ?_;refine K2 _ _ ?_;clear K2;refine aY (fun _ K6=>?_);refine aK iq (cs:=[_,_,_,_,_,_,_,_,_,_,_]) H wn rfl rfl (H.hp.bF 0 rfl rfl) rfl ?_;clear H;intro a H;refine gy Y1 (Li:=[_]) (L:=[]) H wn rfl (acL _ _ (Hp.owns (Li:=[_]) H.hp) ⟨df,dp,dd,dy,dr,d1,d2,d3,d4,d.fin.marks.ins,d.fin.marks.move⟩ d.kT.styles d.kT.lists d.revs hst.st hst.li uG (aeO t1) (acz t2) (adO s2) zs zg.ln zr) rfl ?_;clear H;rintro v20 AQ _ a w ⟨b,ms,ml,mr,mb,mu,rfl,rfl,hck⟩ xu H;dsimp only [List.cons_append,List.nil_append] at H;replace hfl:=hfl.mono xu;replace hhd:=hhd.mono xu;refine kH H (Ra rfl (Kz K6 (SR fun _ K7=>Rf Gq rfl (Rf Bz rfl ?_))));clear H K6;intro a H;refine aK CG (cs:=[_,_,_,_]) H wn rfl rfl (H.hp.bF 0 rfl rfl) rfl ?_;clear H;intro a H;refine bX CG H wn rfl ?_;clear H;intro b5 a w hb5 H;refine aP CG 0 (vs:=[_,_,_,_]) _ H wn rfl rfl rfl rfl rfl rfl rfl rfl ?_;clear H;intro w H;dsimp only [List.set,setRow] at H;refine K7 _ _ ?_;clear K7;refine aQ (fun _ K8=>?_);refine aQ (fun _ K9=>?_)
 by_cases c0:d.fin.marks.ins≠0
 ·skip;have c1:d.fin.marks.ins≠0∨d.fin.marks.move≠0:=Or.inl c0;refine dz (hmx) [[],[],[1],[0,1,2],[],[4],[4,5],(List.range 7),(List.range 8),(List.range 9),(List.range 10),(List.range 11),(List.range 12),(List.range 13),(List.range 14),(List.range 15),(List.range 16),(List.range 17),(List.range 18),(List.range 19),(List.range 20),(List.range 21)] [19,20,21] (by kernel_rfl) (by kernel_rfl) (fun (aC:Nat) (v:Value) (G:GH)=>match aC with|0=>v=.pointer (some ⟨b,0,none⟩)|1=>v=.pointer (some ⟨b1,1,none⟩)|2=>v=BM d.fin (dY dp) (dY dd) (dY dy)|3=>v=vi (iK d.pI 3 d.fin)|4=>v=.pointer (some ⟨b5,0,none⟩)|5=>v=vi d.fin.marks.ins|6=>v=.bool (decide (d.fin.marks.ins≠0))|7=>v=.bool (decide (d.fin.marks.ins≠0))|8=>v=undef|9=>v=undef|10=>v=undef|11=>v=.bool (decide (d.fin.marks.ins≠0∨d.fin.marks.move≠0))|12=>v=.bool (decide (d.fin.marks.ins≠0∨d.fin.marks.move≠0))|13=>v=undef|14=>v=undef|15=>v=undef|16=>v=undef|17=>v=.bool (rY d.fin.marks)|18=>v=vi (bJ (rY d.fin.marks) 21)|_=>True) (fun _ _ _ _ _ h=>h) H ?_ ?_
  ·clear H;refine av (Z0 rfl (Rm rfl)) (Z0 rfl (Rf Gq rfl)) ?_ ?_ (av (Z0 rfl (Rf vI rfl)) (Z1 4 28 rfl (Ro ak 0 rfl rfl)) (Z1 5 29 rfl (Rc rfl)) (Z1 6 30 rfl (Rm rfl)) (av (aV (j:=7) (by kernel_rfl) (fun _ _ _ _ _ h=>h) rfl rfl rfl rfl rfl (fun _ _ h=>Eq.trans h (congrArg Value.bool (ay c0))) rfl (fun _=>rfl)) (aV (j:=7) (by kernel_rfl) (fun _ _ _ _ _ h=>h) rfl rfl rfl rfl rfl (fun _ _ h=>Eq.trans h (congrArg Value.bool (ay c0))) rfl (fun _=>rfl)) (aV (j:=7) (by kernel_rfl) (fun _ _ _ _ _ h=>h) rfl rfl rfl rfl rfl (fun _ _ h=>Eq.trans h (congrArg Value.bool (ay c0))) rfl (fun _=>rfl)) ?_ (av (Z1 11 35 rfl (Rm rfl)) (aV (j:=12) (by kernel_rfl) (fun _ _ _ _ _ h=>h) rfl rfl rfl rfl rfl (fun _ _ h=>Eq.trans h (congrArg Value.bool (ay c1))) rfl (fun _=>rfl)) (aV (j:=12) (by kernel_rfl) (fun _ _ _ _ _ h=>h) rfl rfl rfl rfl rfl (fun _ _ h=>Eq.trans h (congrArg Value.bool (ay c1))) rfl (fun _=>rfl)) (aV (j:=12) (by kernel_rfl) (fun _ _ _ _ _ h=>h) rfl rfl rfl rfl rfl (fun _ _ h=>Eq.trans h (congrArg Value.bool (ay c1))) rfl (fun _=>rfl)) (av (aV (j:=12) (by kernel_rfl) (fun _ _ _ _ _ h=>h) rfl rfl rfl rfl rfl (fun _ _ h=>Eq.trans h (congrArg Value.bool (ay c1))) rfl (fun _=>rfl)) ?_ ?_ (aT rfl) (bq (aT rfl) (bq (aT rfl) dh))))))
   ·refine dS 1 25 rfl rfl fun _ a w G1 hG HT H fin=>?_;refine aK qO (cs:=[_,_,_,_,_]) H wn rfl rfl (H.hp.bF 1 rfl rfl) rfl ?_;clear H;intro a H;exact fin H iJ rfl
   ·refine dK 0 24 2 26 rfl rfl fun _ a w G1 hG HT H fin=>?_;refine gy Bo (Li:=[_,_]) (L:=dW b ms ml mr mb mu 0 :: (mb,dU []) :: []) H wn rfl (BN _ _ _ d.kT.styles d.kT.lists d.revs b ms ml mr mb mu _ (hck.mono hG) (Hp.owns (Li:=[_,_]) H.hp) 3 d.fin _ _ _ (hhd.mono hG) zh) rfl ?_;clear H;rintro v27 _ _ a w ⟨rfl,rfl,rfl⟩ Ee H;dsimp only [List.cons_append,List.nil_append] at H;exact fin H Ee (rfl)
   ·refine dK 7 31 10 34 rfl rfl fun _ a w G1 hG HT H fin=>?_;refine kH H (Pt (ay c0) rfl ?_);clear H;intro a H;exact fin H iJ (by first|exact congrArg Value.bool (ay c1).symm|exact congrArg Value.bool (by simp [c0]))
   ·refine dK 12 36 16 40 rfl rfl fun _ a w G1 hG HT H fin=>?_;refine kH H (Pt (ay c1) rfl ?_);clear H;intro a H;exact fin H iJ (by first|exact congrArg Value.bool (decide_eq_true (Or.inl c1)).symm|exact congrArg Value.bool (by simp [rY,c1]))
   refine dS 17 41 rfl rfl fun _ a w G1 hG HT H fin=>?_;refine s_call gX H wn rfl (iy _ _ H.hp.ro _ 21) rfl ?_;clear H;rintro v42 Od a w ⟨rfl,-⟩ Ef H;exact fin H Ef (rfl)
  clear H;intro a w G jd H hv;have H:=H.aM (hv 3 27 rfl rfl) rfl;have H:=H.aM (hv 18 42 rfl rfl) rfl;clear hv;refine fM lU dQ [_,_] [_,_] H wn rfl rfl rfl rfl rfl (by intro i q h;match i,h with|0,h=>exact h|1,h=>exact h|n+2,h=>simp at h) rfl rfl ?_;clear H;intro FE a w QV H;obtain ⟨wG,kC,Ej,H⟩:=H.dB;have yQ:=fun b o h=>kC b o (jd b o h);replace hfl:=hfl.mono yQ;replace hck:=hck.mono yQ;refine s_call mR H wn rfl (mU _ _ H.hp.ro _ _ (tu Ej)) rfl ?_;clear H;rintro v44 _ a w ⟨rfl,rfl⟩ - H;refine kH H (Ra rfl ?_);clear H;intro a H;refine au ⟨rfl,?_⟩;refine K9 _ _ ?_;clear K9;refine kP H (SR fun _ aH=>Rm rfl (Rc rfl (Kz aH (Cd rfl ?_ ?_)))) <;> clear H aH
  ·intro h46 a H
   try have p46:=dT h46
   have hE:kF d=cu [iK d.pI 3 d.fin,bJ (rY d.fin.marks) 21]:=by rw [kF,cu,if_neg (by simpa using e1),cu,if_pos p46]
   exact kP H (SR fun _ aX=>Rm rfl (Ra rfl (Kz aX (LR Tryz.results26 rfl fun H=>H.hp.ret (by rw [hE])))))
  intro h46 a H
  try have p46:=dF h46
  have e2:=Decidable.not_not.1 p46;refine kP H (Kc K8 (SQ fun _ bD=>SR fun _ bH=>Rm rfl (Rf zQ rfl (Ro iR 1 rfl rfl ?_))));clear H K8;intro a H;refine iP zi [_,_,_] H wn rfl rfl rfl rfl ?_;clear H;intro a H;refine gy DL (Li:=[_,_]) (L:=dW b ms ml mr mb mu 0 :: (mb,dU []) :: []) H wn rfl (Hy 4294967297 (by omega) _ _ _ d.kT.styles d.kT.lists d.revs b ms ml mr mb mu ⟨0,[]⟩ d.flow _ true false 0 hck (Hp.owns (Li:=[_,_]) H.hp) hfl (by omega) (by omega) (by omega) (by decide) (by dsimp only;omega)) rfl ?_;clear H;rintro v52 _ _ a w ⟨rfl,s3,rfl,rfl,h3⟩ - H;dsimp only [List.cons_append,List.nil_append] at H;refine kH H (Ra rfl (Kz bH (SR fun _ bG=>Rm rfl (Rc rfl (Kz bG (Cd rfl ?_ ?_)))))) <;> clear H bH bG
  ·intro fG a H
   try have p54:=dT fG
   have hE:kF d=(iO d.pI true false 0 d.flow ⟨0,[]⟩).1:=by rw [kF,cu,if_neg (by simpa using e1),cu,if_neg (by simpa using e2),cu,if_pos p54]
   exact kP H (SR fun _ bV=>Rm rfl (Ra rfl (Kz bV (LR Tryz.results26 rfl fun H=>H.hp.ret (by rw [hE])))))
  intro fG a H
  try have p54:=dF fG
  have e3:=Decidable.not_not.1 p54;have hs3:=h3 e3;subst hs3;refine kP H (Kc bD (SR fun _ bQ=>Rm rfl (Rk rfl (Rf zP rfl (Ro ak 2 rfl rfl (Rc rfl ?_))))));clear H bD;intro a H;refine s_call gX H wn rfl (iy _ _ H.hp.ro _ 9) rfl ?_;clear H;rintro v61 _ a w ⟨rfl,rfl⟩ - H
  have hE:kF d=bJ (decide (16384 < (iO d.pI true false 0 d.flow ⟨0,[]⟩).2.n)) 9:=by rw [kF,cu,if_neg (by simpa using e1),cu,if_neg (by simpa using e2),cu,if_neg (by simpa using e3)];exact Ky _
  exact kH H (Ra rfl (Kz bQ (LR Tryz.results26 rfl fun H=>H.hp.ret (by rw [hE]))))
 skip
 by_cases c1:d.fin.marks.ins≠0∨d.fin.marks.move≠0
 ·skip;refine dz (hmx) [[],[],[1],[0,1,2],[],[4],[4,5],(List.range 7),(List.range 8),(List.range 9),(List.range 10),(List.range 11),(List.range 12),(List.range 13),(List.range 14),(List.range 15),(List.range 16),(List.range 17),(List.range 18),(List.range 19),(List.range 20),(List.range 21)] [19,20,21] (by kernel_rfl) (by kernel_rfl) (fun (aC:Nat) (v:Value) (G:GH)=>match aC with|0=>v=.pointer (some ⟨b,0,none⟩)|1=>v=.pointer (some ⟨b1,1,none⟩)|2=>v=BM d.fin (dY dp) (dY dd) (dY dy)|3=>v=vi (iK d.pI 3 d.fin)|4=>v=.pointer (some ⟨b5,0,none⟩)|5=>v=vi d.fin.marks.ins|6=>v=.bool (decide (d.fin.marks.ins≠0))|7=>v=.bool (decide (d.fin.marks.ins≠0))|8=>v=.pointer (some ⟨b5,1,none⟩)|9=>v=vi d.fin.marks.move|10=>v=.bool (decide (d.fin.marks.move≠0))|11=>v=.bool (decide (d.fin.marks.ins≠0∨d.fin.marks.move≠0))|12=>v=.bool (decide (d.fin.marks.ins≠0∨d.fin.marks.move≠0))|13=>v=undef|14=>v=undef|15=>v=undef|16=>v=undef|17=>v=.bool (rY d.fin.marks)|18=>v=vi (bJ (rY d.fin.marks) 21)|_=>True) (fun _ _ _ _ _ h=>h) H ?_ ?_
  ·clear H;refine av (Z0 rfl (Rm rfl)) (Z0 rfl (Rf Gq rfl)) ?_ ?_ (av (Z0 rfl (Rf vI rfl)) (Z1 4 28 rfl (Ro ak 0 rfl rfl)) (Z1 5 29 rfl (Rc rfl)) (Z1 6 30 rfl (Rm rfl)) (av (Z1 7 31 rfl (YF Bw (aL c0) rfl)) (Z2 8 32 7 31 rfl (YO ak 0 (aL c0) rfl rfl)) (Z2 9 33 7 31 rfl (YC (aL c0) rfl)) ?_ (av (Z1 11 35 rfl (Rm rfl)) (aV (j:=12) (by kernel_rfl) (fun _ _ _ _ _ h=>h) rfl rfl rfl rfl rfl (fun _ _ h=>Eq.trans h (congrArg Value.bool (ay c1))) rfl (fun _=>rfl)) (aV (j:=12) (by kernel_rfl) (fun _ _ _ _ _ h=>h) rfl rfl rfl rfl rfl (fun _ _ h=>Eq.trans h (congrArg Value.bool (ay c1))) rfl (fun _=>rfl)) (aV (j:=12) (by kernel_rfl) (fun _ _ _ _ _ h=>h) rfl rfl rfl rfl rfl (fun _ _ h=>Eq.trans h (congrArg Value.bool (ay c1))) rfl (fun _=>rfl)) (av (aV (j:=12) (by kernel_rfl) (fun _ _ _ _ _ h=>h) rfl rfl rfl rfl rfl (fun _ _ h=>Eq.trans h (congrArg Value.bool (ay c1))) rfl (fun _=>rfl)) ?_ ?_ (aT rfl) (bq (aT rfl) (bq (aT rfl) dh))))))
   ·refine dS 1 25 rfl rfl fun _ a w G1 hG HT H fin=>?_;refine aK qO (cs:=[_,_,_,_,_]) H wn rfl rfl (H.hp.bF 1 rfl rfl) rfl ?_;clear H;intro a H;exact fin H iJ rfl
   ·refine dK 0 24 2 26 rfl rfl fun _ a w G1 hG HT H fin=>?_;refine gy Bo (Li:=[_,_]) (L:=dW b ms ml mr mb mu 0 :: (mb,dU []) :: []) H wn rfl (BN _ _ _ d.kT.styles d.kT.lists d.revs b ms ml mr mb mu _ (hck.mono hG) (Hp.owns (Li:=[_,_]) H.hp) 3 d.fin _ _ _ (hhd.mono hG) zh) rfl ?_;clear H;rintro v27 _ _ a w ⟨rfl,rfl,rfl⟩ Ee H;dsimp only [List.cons_append,List.nil_append] at H;exact fin H Ee (rfl)
   ·refine dK 7 31 10 34 rfl rfl fun _ a w G1 hG HT H fin=>?_;refine kH H (Pf (aL c0) rfl ?_);clear H;intro a H;exact fin H iJ (by first|exact congrArg Value.bool (ay c1).symm|exact congrArg Value.bool (by simp [c0]))
   ·refine dK 12 36 16 40 rfl rfl fun _ a w G1 hG HT H fin=>?_;refine kH H (Pt (ay c1) rfl ?_);clear H;intro a H;exact fin H iJ (by first|exact congrArg Value.bool (decide_eq_true (Or.inl c1)).symm|exact congrArg Value.bool (by simp [rY,c1]))
   refine dS 17 41 rfl rfl fun _ a w G1 hG HT H fin=>?_;refine s_call gX H wn rfl (iy _ _ H.hp.ro _ 21) rfl ?_;clear H;rintro v42 Od a w ⟨rfl,-⟩ Ef H;exact fin H Ef (rfl)
  clear H;intro a w G jd H hv;have H:=H.aM (hv 3 27 rfl rfl) rfl;have H:=H.aM (hv 18 42 rfl rfl) rfl;clear hv;refine fM lU dQ [_,_] [_,_] H wn rfl rfl rfl rfl rfl (by intro i q h;match i,h with|0,h=>exact h|1,h=>exact h|n+2,h=>simp at h) rfl rfl ?_;clear H;intro FE a w QV H;obtain ⟨wG,kC,Ej,H⟩:=H.dB;have yQ:=fun b o h=>kC b o (jd b o h);replace hfl:=hfl.mono yQ;replace hck:=hck.mono yQ;refine s_call mR H wn rfl (mU _ _ H.hp.ro _ _ (tu Ej)) rfl ?_;clear H;rintro v44 _ a w ⟨rfl,rfl⟩ - H;refine kH H (Ra rfl ?_);clear H;intro a H;refine au ⟨rfl,?_⟩;refine K9 _ _ ?_;clear K9;refine kP H (SR fun _ bS=>Rm rfl (Rc rfl (Kz bS (Cd rfl ?_ ?_)))) <;> clear H bS
  ·intro h46 a H
   try have p46:=dT h46
   have hE:kF d=cu [iK d.pI 3 d.fin,bJ (rY d.fin.marks) 21]:=by rw [kF,cu,if_neg (by simpa using e1),cu,if_pos p46]
   exact kP H (SR fun _ cO=>Rm rfl (Ra rfl (Kz cO (LR Tryz.results26 rfl fun H=>H.hp.ret (by rw [hE])))))
  intro h46 a H
  try have p46:=dF h46
  have e2:=Decidable.not_not.1 p46;refine kP H (Kc K8 (SQ fun _ dV=>SR fun _ dI=>Rm rfl (Rf zQ rfl (Ro iR 1 rfl rfl ?_))));clear H K8;intro a H;refine iP zi [_,_,_] H wn rfl rfl rfl rfl ?_;clear H;intro a H;refine gy DL (Li:=[_,_]) (L:=dW b ms ml mr mb mu 0 :: (mb,dU []) :: []) H wn rfl (Hy 4294967297 (by omega) _ _ _ d.kT.styles d.kT.lists d.revs b ms ml mr mb mu ⟨0,[]⟩ d.flow _ true false 0 hck (Hp.owns (Li:=[_,_]) H.hp) hfl (by omega) (by omega) (by omega) (by decide) (by dsimp only;omega)) rfl ?_;clear H;rintro v52 _ _ a w ⟨rfl,s3,rfl,rfl,h3⟩ - H;dsimp only [List.cons_append,List.nil_append] at H;refine kH H (Ra rfl (Kz dI (SR fun _ eH=>Rm rfl (Rc rfl (Kz eH (Cd rfl ?_ ?_)))))) <;> clear H dI eH
  ·intro fG a H
   try have p54:=dT fG
   have hE:kF d=(iO d.pI true false 0 d.flow ⟨0,[]⟩).1:=by rw [kF,cu,if_neg (by simpa using e1),cu,if_neg (by simpa using e2),cu,if_pos p54]
   exact kP H (SR fun _ fq=>Rm rfl (Ra rfl (Kz fq (LR Tryz.results26 rfl fun H=>H.hp.ret (by rw [hE])))))
  intro fG a H
  try have p54:=dF fG
  have e3:=Decidable.not_not.1 p54;have hs3:=h3 e3;subst hs3;refine kP H (Kc dV (SR fun _ gK=>Rm rfl (Rk rfl (Rf zP rfl (Ro ak 2 rfl rfl (Rc rfl ?_))))));clear H dV;intro a H;refine s_call gX H wn rfl (iy _ _ H.hp.ro _ 9) rfl ?_;clear H;rintro v61 _ a w ⟨rfl,rfl⟩ - H
  have hE:kF d=bJ (decide (16384 < (iO d.pI true false 0 d.flow ⟨0,[]⟩).2.n)) 9:=by rw [kF,cu,if_neg (by simpa using e1),cu,if_neg (by simpa using e2),cu,if_neg (by simpa using e3)];exact Ky _
  exact kH H (Ra rfl (Kz gK (LR Tryz.results26 rfl fun H=>H.hp.ret (by rw [hE]))))
 skip;refine dz (hmx) [[],[],[1],[0,1,2],[],[4],[4,5],(List.range 7),(List.range 8),(List.range 9),(List.range 10),(List.range 11),(List.range 12),(List.range 13),(List.range 14),(List.range 15),(List.range 16),(List.range 17),(List.range 18),(List.range 19),(List.range 20),(List.range 21)] [19,20,21] (by kernel_rfl) (by kernel_rfl) (fun (aC:Nat) (v:Value) (G:GH)=>match aC with|0=>v=.pointer (some ⟨b,0,none⟩)|1=>v=.pointer (some ⟨b1,1,none⟩)|2=>v=BM d.fin (dY dp) (dY dd) (dY dy)|3=>v=vi (iK d.pI 3 d.fin)|4=>v=.pointer (some ⟨b5,0,none⟩)|5=>v=vi d.fin.marks.ins|6=>v=.bool (decide (d.fin.marks.ins≠0))|7=>v=.bool (decide (d.fin.marks.ins≠0))|8=>v=.pointer (some ⟨b5,1,none⟩)|9=>v=vi d.fin.marks.move|10=>v=.bool (decide (d.fin.marks.move≠0))|11=>v=.bool (decide (d.fin.marks.ins≠0∨d.fin.marks.move≠0))|12=>v=.bool (decide (d.fin.marks.ins≠0∨d.fin.marks.move≠0))|13=>v=.pointer (some ⟨b5,2,none⟩)|14=>v=dY dd|15=>v=vi d.fin.marks.bK.length|16=>v=.bool (decide (0 < (d.fin.marks.bK.length:Int)))|17=>v=.bool (rY d.fin.marks)|18=>v=vi (bJ (rY d.fin.marks) 21)|_=>True) (fun _ _ _ _ _ h=>h) H ?_ ?_
 ·clear H;refine av (Z0 rfl (Rm rfl)) (Z0 rfl (Rf Gq rfl)) ?_ ?_ (av (Z0 rfl (Rf vI rfl)) (Z1 4 28 rfl (Ro ak 0 rfl rfl)) (Z1 5 29 rfl (Rc rfl)) (Z1 6 30 rfl (Rm rfl)) (av (Z1 7 31 rfl (YF Bw (aL c0) rfl)) (Z2 8 32 7 31 rfl (YO ak 0 (aL c0) rfl rfl)) (Z2 9 33 7 31 rfl (YC (aL c0) rfl)) ?_ (av (Z1 11 35 rfl (Rm rfl)) (Z1 12 36 rfl (YF vJ (aL c1) rfl)) (Z2 13 37 12 36 rfl (YO wz 0 (aL c1) rfl rfl)) ?_ (av (Z2 15 39 12 36 rfl (YC (aL c1) rfl)) ?_ ?_ (aT rfl) (bq (aT rfl) (bq (aT rfl) dh))))))
  ·refine dS 1 25 rfl rfl fun _ a w G1 hG HT H fin=>?_;refine aK qO (cs:=[_,_,_,_,_]) H wn rfl rfl (H.hp.bF 1 rfl rfl) rfl ?_;clear H;intro a H;exact fin H iJ rfl
  ·refine dK 0 24 2 26 rfl rfl fun _ a w G1 hG HT H fin=>?_;refine gy Bo (Li:=[_,_]) (L:=dW b ms ml mr mb mu 0 :: (mb,dU []) :: []) H wn rfl (BN _ _ _ d.kT.styles d.kT.lists d.revs b ms ml mr mb mu _ (hck.mono hG) (Hp.owns (Li:=[_,_]) H.hp) 3 d.fin _ _ _ (hhd.mono hG) zh) rfl ?_;clear H;rintro v27 _ _ a w ⟨rfl,rfl,rfl⟩ Ee H;dsimp only [List.cons_append,List.nil_append] at H;exact fin H Ee (rfl)
  ·refine dK 7 31 10 34 rfl rfl fun _ a w G1 hG HT H fin=>?_;refine kH H (Pf (aL c0) rfl ?_);clear H;intro a H;exact fin H iJ (by first|exact congrArg Value.bool (ay c1).symm|exact congrArg Value.bool (by simp [c0]))
  ·refine dK 14 38 12 36 rfl rfl fun _ a w G1 hG HT H fin=>?_;refine kH H (YL sH (aL c1) rfl ?_);clear H;intro a H;exact fin H iJ (by first|rfl|exact congrArg (fun n:Nat=>vi n) hdl)
  ·refine dK 12 36 16 40 rfl rfl fun _ a w G1 hG HT H fin=>?_;refine kH H (Pf (aL c1) rfl ?_);clear H;intro a H;exact fin H iJ (by first|exact congrArg Value.bool (decide_eq_true (Or.inl c1)).symm|exact congrArg Value.bool (by simp [rY,c1]))
  refine dS 17 41 rfl rfl fun _ a w G1 hG HT H fin=>?_;refine s_call gX H wn rfl (iy _ _ H.hp.ro _ 21) rfl ?_;clear H;rintro v42 Od a w ⟨rfl,-⟩ Ef H;exact fin H Ef (rfl)
 clear H;intro a w G jd H hv;have H:=H.aM (hv 3 27 rfl rfl) rfl;have H:=H.aM (hv 18 42 rfl rfl) rfl;clear hv;refine fM lU dQ [_,_] [_,_] H wn rfl rfl rfl rfl rfl (by intro i q h;match i,h with|0,h=>exact h|1,h=>exact h|n+2,h=>simp at h) rfl rfl ?_;clear H;intro FE a w QV H;obtain ⟨wG,kC,Ej,H⟩:=H.dB;have yQ:=fun b o h=>kC b o (jd b o h);replace hfl:=hfl.mono yQ;replace hck:=hck.mono yQ;refine s_call mR H wn rfl (mU _ _ H.hp.ro _ _ (tu Ej)) rfl ?_;clear H;rintro v44 _ a w ⟨rfl,rfl⟩ - H;refine kH H (Ra rfl ?_);clear H;intro a H;refine au ⟨rfl,?_⟩;refine K9 _ _ ?_;clear K9;refine kP H (SR fun _ gF=>Rm rfl (Rc rfl (Kz gF (Cd rfl ?_ ?_)))) <;> clear H gF
 ·intro h46 a H
  try have p46:=dT h46
  have hE:kF d=cu [iK d.pI 3 d.fin,bJ (rY d.fin.marks) 21]:=by rw [kF,cu,if_neg (by simpa using e1),cu,if_pos p46]
  exact kP H (SR fun _ fO=>Rm rfl (Ra rfl (Kz fO (LR Tryz.results26 rfl fun H=>H.hp.ret (by rw [hE])))))
 intro h46 a H
 try have p46:=dF h46
 have e2:=Decidable.not_not.1 p46;refine kP H (Kc K8 (SQ fun _ iF=>SR fun _ iT=>Rm rfl (Rf zQ rfl (Ro iR 1 rfl rfl ?_))));clear H K8;intro a H;refine iP zi [_,_,_] H wn rfl rfl rfl rfl ?_;clear H;intro a H;refine gy DL (Li:=[_,_]) (L:=dW b ms ml mr mb mu 0 :: (mb,dU []) :: []) H wn rfl (Hy 4294967297 (by omega) _ _ _ d.kT.styles d.kT.lists d.revs b ms ml mr mb mu ⟨0,[]⟩ d.flow _ true false 0 hck (Hp.owns (Li:=[_,_]) H.hp) hfl (by omega) (by omega) (by omega) (by decide) (by dsimp only;omega)) rfl ?_;clear H;rintro v52 _ _ a w ⟨rfl,s3,rfl,rfl,h3⟩ - H;dsimp only [List.cons_append,List.nil_append] at H;refine kH H (Ra rfl (Kz iT (SR fun _ gL=>Rm rfl (Rc rfl (Kz gL (Cd rfl ?_ ?_)))))) <;> clear H iT gL
 ·intro fG a H
  try have p54:=dT fG
  have hE:kF d=(iO d.pI true false 0 d.flow ⟨0,[]⟩).1:=by rw [kF,cu,if_neg (by simpa using e1),cu,if_neg (by simpa using e2),cu,if_pos p54]
  exact kP H (SR fun _ jG=>Rm rfl (Ra rfl (Kz jG (LR Tryz.results26 rfl fun H=>H.hp.ret (by rw [hE])))))
 intro fG a H
 try have p54:=dF fG
 have e3:=Decidable.not_not.1 p54;have hs3:=h3 e3;subst hs3;refine kP H (Kc iF (SR fun _ jV=>Rm rfl (Rk rfl (Rf zP rfl (Ro ak 2 rfl rfl (Rc rfl ?_))))));clear H iF;intro a H;refine s_call gX H wn rfl (iy _ _ H.hp.ro _ 9) rfl ?_;clear H;rintro v61 _ a w ⟨rfl,rfl⟩ - H
 have hE:kF d=bJ (decide (16384 < (iO d.pI true false 0 d.flow ⟨0,[]⟩).2.n)) 9:=by rw [kF,cu,if_neg (by simpa using e1),cu,if_neg (by simpa using e2),cu,if_neg (by simpa using e3)];exact Ky _
 exact kH H (Ra rfl (Kz jV (LR Tryz.results26 rfl fun H=>H.hp.ret (by rw [hE]))))
end
section
open Go.RowKit
theorem IZ:Ty Tryz.prog 70 1 24 [.slice none 0 0] false:=⟨by kernel_rfl,by kernel_rfl⟩
theorem ab8 (G:GH) (n:Int):aO G [li n] [vi n]:=by simp [aO,ah,Value.oneCell']
/-- How many units all flows have. -/
def sI (A:List jo):Int:=A.foldl (fun n f=>n+pX f.items) 0
theorem NK {A:List jo} {k:Nat} (h:k < A.length):sI (A.take (k+1))=sI (A.take k)+pX A[k].items:=by
 rw [sI,List.take_succ_eq_append_getElem h,List.foldl_append];rfl
theorem ae2 (G:GH) (w0:World) (hG:Hold G w0) (D:jh) (l:List aj) (hv:ah G (.sl 11 (l.map aj.dat)) (dY D.f)) (hz:aS l≤4294967296) (hm:∀ k,k≤(iI l).length→0≤sI ((iI l).take k)∧sI ((iI l).take k)≤4611686018427387904) :
  Calls Tryz.prog 27 #[D.val] w0 (aU w0 G fun v G'=>v=vi (sI (iI l))):=by
 refine eN [(0,_)] Tryz.func27 rfl Tryz.ntmps27 rfl rfl hG ?_;intro a H;refine aY (fun _ K1=>?_);refine bY (cs:=[_,_,_,_,_,_,_,_,_,_,_]) H wn rfl rfl rfl ?_;clear H;intro b1 a w hb1 H;refine kH H (Ra rfl (Kz K1 (SR fun _ K2=>?_)));clear H K1;intro a H;refine bX ak H wn rfl ?_;clear H;intro b3 a w hb3 H;refine aP ak 0 (vs:=[_]) _ H wn rfl rfl rfl rfl rfl rfl rfl rfl ?_;clear H;intro w H;dsimp only [List.set,setRow] at H;refine K2 _ _ ?_;clear K2;refine aQ (fun _ K3=>?_);refine aY (fun _ K4=>?_);refine aK iq (cs:=[_,_,_,_,_,_,_,_,_,_,_]) H wn rfl rfl (H.hp.bF 1 rfl rfl) rfl ?_;clear H;intro a H;refine s_call J6 H wn rfl (MZ _ _ H.hp.ro D l hv hz) rfl ?_;clear H;rintro v9 G9 a w ⟨ba,bl,bp,rfl,hit⟩ yT H;refine K4 _ _ ?_;clear K4;refine lZ ?_;skip;refine tK (ι:=Unit) (κ:=Empty) (Lc:=[(_,_)]) (fun (k:Nat) (gh:Unit)=>[(b3,.cells #[vi (sI ((iI l).take k))] 3 (0,0))]) (fun (k:Nat) (gh:Unit)=>[]) (fun (k:Nat) (gh:Unit) (g:GH)=>True) (fun x=>x.elim) (fun x=>x.elim) (fun x=>x.elim) (fun x=>x.elim) (()) (by exact H.bL (Pl:=[_,_]) (bB:=[_,_]) [1,0] (by decide) rfl) rfl FZ (hit) (fun _ _ h=>h) rfl (fun k args g h=>by obtain ⟨_,_,_,_,rfl,_⟩:=BA h;rfl) (fun _ _ _ _ _ h=>h) (fun x=>x.elim) (trivial) ?_ ?_ ?_
 ·clear H;intro l3 oD mM bk k args gh G3 w3 F3 B3 a hk3 mY hI Em Ev RN H;obtain ⟨hk,vA,vn,vc,rfl,hfr⟩:=BA hk3;dsimp only [lY,List.cons_append,List.nil_append] at H;refine mP ?_;refine bX IW H wn rfl ?_;clear H;intro b5 a w hb5 H;refine aP IW 0 (vs:=[_,_,_,_]) _ H wn rfl rfl rfl rfl rfl rfl rfl rfl ?_;clear H;intro w H;dsimp only [List.set,setRow] at H;refine au ?_;refine Em _ _ _ _ _ _ (by exact H.bL (Pl:=[_,_,_,_]) (bB:=[_,_,_,_]) [1,0,2,3] (by decide) rfl) ?_;clear H;intro w H;refine kP H (SB (SR fun _ K5=>Rf Qk rfl (Ro iR 1 rfl rfl ?_)));clear H;intro a H;refine s_call F8 H wn rfl (Hz _ _ H.hp.ro (iI l)[k].items _ hfr (Nat.le_trans (GD (List.getElem_mem hk)) hz)) rfl ?_;clear H;rintro v15 _ a w ⟨rfl,rfl⟩ - H;refine kH H (Rm rfl ?_);clear H;intro a H;(iterate 2 refine gV H wn rfl rfl rfl ?_;clear H;intro a H);refine kH H (Ra rfl (Ra rfl (Kz K5 ?_)));clear H K5;intro a H;have Ls:=hm (k+1) hk;rw [NK hk] at Ls;refine kP H (SC (Ro ak 3 rfl rfl (Rm rfl (Rd rfl ?_))));clear H;intro a H;rw [← NK hk] at H;refine aP ak 3 (vs:=[_]) _ H wn rfl rfl rfl rfl rfl rfl rfl rfl ?_;clear H;intro w H;dsimp only [List.set,setRow] at H;refine au ?_;refine Ev (()) _ _ _ _ _ (by exact H.bL (Pl:=[_,_,_,_]) (bB:=[_,_,_]) [0,2,3] (by decide) rfl) ?_
  trivial
 ·clear H;intro NV gh Og a w mY hI H;dsimp only [List.cons_append,List.nil_append,List.append_nil] at H;refine K3 _ _ ?_;clear K3;refine aQ (fun _ K6=>?_);rw [List.take_of_length_le (by simp)] at H;refine kP H (SC (Ro ak 2 rfl rfl (Ra rfl (Kn K6 ?_))));clear H K6;intro a H;refine aR ?_;refine (oo H 0 rfl ?_).1;clear H;intro a w H;dsimp only [List.eraseIdx_cons_succ,List.eraseIdx_cons_zero] at H;refine lv H Tryz.results27 rfl ?_;exact H.hp.ret rfl
 intro Dk x;exact x.elim
mutual
theorem afr (note:Bool) (t:Int):∀ x:aj,(uY note t x).length < bP x.dat
 | .mk k c i tx h f r=>by
  have h4:=lF (.mk k c i tx h f r);have hf:=Fa true t f;have hr:=UR note t r;dsimp only [aj.text,aj.head,aj.flow,aj.rows] at h4;rw [uY]
  split
  ·rw [List.length_cons];omega
  split <;> first|omega|(simp only [List.length_nil];omega)
theorem Fa (note:Bool) (t:Int):∀ l:List aj,(iw note t l).length≤aS l
 | []=>by simp [iw]
 | x :: l=>by
  have h1:=afr note t x;have h2:=Fa note t l;rw [iw,List.length_append]
  simp only [aS,List.map_cons,dw] at *;omega
theorem afv (note:Bool) (t:Int):∀ x:aN,(uZ note t x).length≤bP x.dat
 | .mk h cs=>by
  have h4:=tF (.mk h cs);have hc:=UN note t cs;dsimp only [aN.head,aN.cells] at h4;rw [uZ];omega
theorem UR (note:Bool) (t:Int):∀ l:List aN,(ny note t l).length≤fI l
 | []=>by simp [ny]
 | x :: l=>by
  have h1:=afv note t x;have h2:=UR note t l;rw [ny,List.length_append]
  simp only [fI,List.map_cons,dw] at *;omega
theorem afp (note:Bool) (t:Int):∀ x:aJ,(uW note t x).length≤bP x.dat
 | .mk i h f=>by
  have h4:=u6 (.mk i h f);have hf:=Fa note (t+1) f;dsimp only [aJ.head,aJ.flow] at h4;rw [uW,List.length_cons];omega
theorem UN (note:Bool) (t:Int):∀ l:List aJ,(nO note t l).length≤jg l
 | []=>by simp [nO]
 | x :: l=>by
  have h1:=afp note t x;have h2:=UN note t l;rw [nO,List.length_append]
  simp only [jg,List.map_cons,dw] at *;omega
end
theorem XO (G:GH) (w0:World) (hG:Hold G w0) (D:jh) (l:List aj) (hv:ah G (.sl 11 (l.map aj.dat)) (dY D.f)) (hz:aS l≤4294967296) :
  Calls Tryz.prog 28 #[D.val] w0 (aU w0 G fun u G'=>ah G' (.sl 1 ((iI l).map fun f:jo=>[li f.id])) u):=by
 have hml:4294967299≤maxLen:=by decide
 have hn:(iI l).length≤4294967297:=by
  have:=Fa false 0 l;rw [iI,List.length_cons];omega
 refine eN [(0,_)] Tryz.func28 rfl Tryz.ntmps28 rfl rfl hG ?_;intro a H;refine aY (fun _ K1=>?_);refine bY (cs:=[_,_,_,_,_,_,_,_,_,_,_]) H wn rfl rfl rfl ?_;clear H;intro b1 a w hb1 H;refine kH H (Ra rfl (Kz K1 (SR fun _ K2=>?_)));clear H K1;intro a H;refine bX IZ H wn rfl ?_;clear H;intro b3 a w hb3 H;refine K2 _ _ ?_;clear K2;refine aQ (fun _ K3=>?_);refine aQ (fun _ K4=>?_);have H:=H.bL (Pl:=[_,_]) (bB:=[_,_]) [1,0] (by decide) rfl;refine mP ?_;refine aK iq (cs:=[_,_,_,_,_,_,_,_,_,_,_]) H wn rfl rfl (H.hp.bF 0 rfl rfl) rfl ?_;clear H;intro a H;refine s_call J6 H wn rfl (MZ _ _ H.hp.ro D l hv hz) rfl ?_;clear H;rintro v6 G6 a w ⟨ba,bl,bp,rfl,hit⟩ Rj H;refine au ?_;refine K4 _ _ ?_;clear K4;refine lZ ?_;skip;refine tK (ι:=Value × List Value × OL) (κ:=Empty) (Lc:=[(_,_)]) (fun (k:Nat) (gh:Value × List Value × OL)=>[(b3,.cells #[gh.1] 70 (0,0))]) (fun (k:Nat) (gh:Value × List Value × OL)=>gh.2.2) (fun (k:Nat) (gh:Value × List Value × OL) (g:GH)=>eB 3 1 gh.1 k gh.2.1 gh.2.2∧eU g 1 (((iI l).take k).map fun f:jo=>[li f.id]) gh.2.1) (fun x=>x.elim) (fun x=>x.elim) (fun x=>x.elim) (fun x=>x.elim) ((.slice none 0 0,[],[])) (by exact H.MX (A:=[_,_])) rfl FZ (hit) (fun _ _ h=>h) rfl (fun k args g h=>by obtain ⟨_,_,_,_,rfl,_⟩:=BA h;rfl) (fun k i G G' hm h=>⟨h.1,h.2.mono hm⟩) (fun x=>x.elim) (⟨eB.nil,eU.nil⟩) ?_ ?_ ?_
 ·clear H;intro l3 oD mM bk k args gh G3 w3 F3 B3 a hk3 mY hI Em Ev RN H;obtain ⟨v,xs,Lo⟩:=gh;dsimp only at hI H;obtain ⟨hk,vA,vn,vc,rfl,hfr⟩:=BA hk3;dsimp only [lY,List.cons_append,List.nil_append] at H;obtain ⟨hrw,gI⟩:=hI;refine kP H (SC (Ra rfl ?_));clear H;intro a H;refine au ?_;refine Em _ _ _ _ _ _ (by exact H) ?_;clear H;intro w H;refine kP H (SB (SC (Ro IZ 2 rfl rfl (Rm rfl ?_))));clear H;intro a H;refine fM qQ ak [_] [_] H wn rfl rfl rfl rfl rfl (by intro i q h;match i,h with|0,h=>exact h|n+1,h=>simp at h) rfl rfl ?_;clear H;intro b11 a w yO H;refine sF (Li:=[_,_,_,_]++bk) (Lo:=Lo) (news:=[vi (iI l)[k].id]) qQ ak rfl rfl (St.un (A:=[_,_,_,_]) H) wn rfl rfl hrw rfl (H.hp.bF 0 rfl rfl) rfl (by omega) (by omega) rfl ?_;clear H;intro v12 VN a w RI H;obtain ⟨U9,c12,rfl,-,-⟩:=RI.shape
  simp only [List.append_assoc,List.cons_append,List.nil_append] at H
  refine aP IZ 3 (vs:=[_]) _ H wn rfl rfl rfl rfl rfl rfl rfl rfl ?_;clear H;intro w H;dsimp only [List.set,setRow] at H;refine au ?_;refine Ev ((.slice U9 (k+1) c12,xs++[vi (iI l)[k].id],VN)) _ _ _ _ _ (by exact H.bL (Pl:=[_,_,_,_]) (bB:=[_,_,_]) [1,2,3] (by decide) rfl) ?_;exact ⟨RI,by rw [List.take_succ_eq_append_getElem hk,List.map_append];exact gI.snoc (ab8 _ _) rfl⟩
 ·clear H;intro NV gh Og a w mY hI H;obtain ⟨v,xs,Lo⟩:=gh;dsimp only at hI H;dsimp only [List.cons_append,List.nil_append,List.append_nil] at H;obtain ⟨hrw,gI⟩:=hI;rw [List.length_map] at hrw gI;rw [List.take_length] at gI;refine K3 _ _ ?_;clear K3;refine kP H (SR fun _ K5=>Ro IZ 2 rfl rfl (Ra rfl (Kz K5 ?_)));clear H K5;intro a H;refine aR ?_;refine (oo H 0 rfl ?_).1;clear H;intro a w H;dsimp only [List.eraseIdx_cons_succ,List.eraseIdx_cons_zero] at H;refine lv H Tryz.results28 rfl ?_;obtain ⟨Gr,hmr,hrep,H⟩:=St.rz (Li:=[_,_]) H hrw (rows:=(iI l).map fun f:jo=>[li f.id]) (by simp) gI;exact H.hp.ret hrep
 intro Dk x;exact x.elim
end
section
open Go.RowKit
theorem YT:∀ args w,(callFunc 26 args).run Tryz.prog w=.ok (.enter 26 args) w:=enters Tryz.func26 rfl (by kernel_rfl)
theorem YU:∀ args w,(callFunc 27 args).run Tryz.prog w=.ok (.enter 27 args) w:=enters Tryz.func27 rfl (by kernel_rfl)
theorem YV:∀ args w,(callFunc 28 args).run Tryz.prog w=.ok (.enter 28 args) w:=enters Tryz.func28 rfl (by kernel_rfl)
theorem SE (G:GH) (w0:World) (hG:Hold G w0) (D:jh) (l:List aj) (f t:Int) (hv:ah G (.sl 11 (l.map aj.dat)) (dY D.f)) (hz:aS l≤4294967296) :
  Calls Tryz.prog 15 #[D.val,.agg #[vi f,vi t]] w0 (aU w0 G fun u G'=>u=vi (mQ l f t t)):=by
 have hsz:aS ((fZ l f).getD [])≤aS l:=by
  cases h:fZ l f with
  | none=>exact Nat.zero_le _
  | some f=>exact QH h
 refine eN [(0,_),(1,_)] Tryz.func15 rfl Tryz.ntmps15 rfl rfl hG ?_;intro a H;refine aY (fun _ K1=>?_);refine bY (cs:=[_,_,_,_,_,_,_,_,_,_,_]) H wn rfl rfl rfl ?_;clear H;intro b2 a w hb2 H;refine bY (cs:=[_,_]) H wn rfl rfl rfl ?_;clear H;intro b3 a w hb3 H;refine kH H (Ra rfl (Kz K1 (SR fun _ K2=>?_)));clear H K1;intro a H;refine aK iq (cs:=[_,_,_,_,_,_,_,_,_,_,_]) H wn rfl rfl (H.hp.bF 1 rfl rfl) rfl ?_;clear H;intro a H;refine kH H (Rf qC rfl (Ro ak 0 rfl rfl ?_));clear H;intro a H;refine s_call F7 H wn rfl (GA _ _ H.hp.ro D l f hv hz) rfl ?_;clear H;rintro v13 vg a w ⟨v,rfl,hr⟩ nY H;refine kH H (Rm rfl ?_);clear H;intro a H;(iterate 2 refine gV H wn rfl rfl rfl ?_;clear H;intro a H);refine kH H (Ra rfl (Ra rfl (Kz K2 (SR fun _ K3=>Rm rfl ?_))));clear H K2;intro a H;refine s_call F8 H wn rfl (Hz _ _ H.hp.ro _ _ hr (by omega)) rfl ?_;clear H;rintro v18 Jc a w ⟨rfl,rfl⟩ hm18 H;refine kH H (Rm rfl ?_);clear H;intro a H;(iterate 2 refine gV H wn rfl rfl rfl ?_;clear H;intro a H);refine kH H (Ra rfl (Ra rfl (Kz K3 (SQ fun _ K4=>SB (SR fun _ K5=>Rm rfl (Rn rfl (Ra rfl (Kz K5 (Cd rfl ?_ ?_))))))))) <;> clear H K3 K5
 ·intro h21 a H
  try have lS:=dT h21
  refine kP H (SR fun _ K6=>Ra rfl (Kz K6 ?_));clear H K6;intro a H;refine lr H Tryz.results15 rfl ?_
  exact H.hp.ret (congrArg vi (by unfold mQ;(repeat' split) <;> first|rfl|(exfalso;simp_all;done)|(exfalso;simp_all;omega)))
 intro h21 a H
 try have lS:=dF h21
 refine kP H (SR fun _ K7=>Rf vK rfl (Ro ak 0 rfl rfl (Rc rfl (Rm rfl (Sp 28 rfl ?_ ?_))))) <;> clear H
 ·intro bW a H
  try have p28:=dT bW
  refine kH H (Ks bW rfl (Ks bW rfl (Ks bW rfl (Ks bW rfl (Pt bW rfl (Ra rfl (Kz K7 (Ct rfl rfl (SR fun _ K8=>Ra rfl (Kz K8 ?_))))))))));clear H K7 K8;intro a H;refine lr H Tryz.results15 rfl ?_
  exact H.hp.ret (congrArg vi (by unfold mQ;(repeat' split) <;> first|rfl|(exfalso;simp_all;done)|(exfalso;simp_all;omega)))
 intro bW a H
 try have p28:=dF bW
 refine kH H (YF vK bW rfl (YO ak 0 bW rfl rfl (YM bW rfl (YC bW rfl (Pf bW rfl (Ra rfl (Kz K7 (Cd rfl ?_ ?_)))))))) <;> clear H K7
 ·intro dM a H
  try have jA:=dT dM
  refine kP H (SR fun _ K9=>Ra rfl (Kz K9 ?_));clear H K9;intro a H;refine lr H Tryz.results15 rfl ?_
  exact H.hp.ret (congrArg vi (by unfold mQ;(repeat' split) <;> first|rfl|(exfalso;simp_all;done)|(exfalso;simp_all;omega)))
 intro dM a H
 try have jA:=dF dM
 refine kP H (Kc K4 (SR fun _ aH=>Ra rfl (Kz aH ?_)));clear H K4 aH;intro a H;refine lr H Tryz.results15 rfl ?_
 exact H.hp.ret (congrArg vi (by unfold mQ;(repeat' split) <;> first|rfl|(exfalso;simp_all;done)|(exfalso;simp_all;omega)))
theorem ae0 (l:List aj) (hz:aS l≤1073741824) (k:Nat) (hk:k≤(iI l).length):0≤sI ((iI l).take k)∧sI ((iI l).take k)≤4611686018427387904:=by
 have hn:=Fa false 0 l
 have hl:(iI l).length≤1073741825:=by rw [iI,List.length_cons];omega
 have h:∀ k,k≤(iI l).length→0≤sI ((iI l).take k)∧sI ((iI l).take k)≤k*1073741824:=by
  intro k
  induction k with
  | zero=>intro _;exact ⟨by simp [sI],by simp [sI]⟩
  | succ k ih =>
   intro hk;obtain ⟨h1,h2⟩:=ih (by omega);have h3:=GD (List.getElem_mem (show k < (iI l).length by omega))
   have h4:0≤pX (iI l)[k].items∧pX (iI l)[k].items≤aS (iI l)[k].items:=by
    unfold pX
    have h5:=NC (iI l)[k].items;have h6:=NI (iI l)[k].items
    split <;> omega
   rw [NK (by omega)]
   push_cast
   omega
 obtain ⟨h1,h2⟩:=h k hk;exact ⟨h1,by omega⟩
theorem acO {d:tJ} (h:kF d=0):nE d.flow:=by
 have h1:=ru h _ (List.mem_cons_of_mem _ (List.mem_cons_of_mem _ List.mem_cons_self));exact nE.of (Px h1)
theorem aeF (G:GH) (w0:World) (hG:Hold G w0) (D:jh) (d:tJ) (hR:zw G D d) (hz:Fj d) :
  Calls Tryz.prog 9 #[D.val] w0 (aU w0 G fun u G'=>∃ b,u=.bool b∧(b=true→kF d=0)):=by
 have yY:=hz.fl;have hrl:=hR.rv.len;refine eN [(0,_)] Tryz.func9 rfl Tryz.ntmps9 rfl rfl hG ?_;intro a H;refine aY (fun _ K1=>?_);refine bY (cs:=[_,_,_,_,_,_,_,_,_,_,_]) H wn rfl rfl rfl ?_;clear H;intro b1 a w hb1 H;refine kH H (Ra rfl (Kz K1 (SR fun _ K2=>Rf Ko rfl (Ro zm 0 rfl rfl (Rl zo rfl (Rc rfl (Rm rfl (Sp 7 rfl ?_ ?_)))))))) <;> clear H K1
 ·intro h7 a H
  try have p7:=dT h7
  refine aK iq (cs:=[_,_,_,_,_,_,_,_,_,_,_]) H (wg H rfl rfl h7) rfl rfl (H.hp.bF 0 rfl rfl) rfl ?_;clear H;intro a H;refine s_call YT H (wg H rfl rfl h7) rfl (Xc _ _ H.hp.ro D d hR hz) rfl ?_;clear H;rintro v9 G9 a w rfl yT H;have hfl:=hR.fl.mono yT;refine kH H (YC h7 rfl (Pt h7 rfl (Rm rfl (Sp 12 rfl ?_ ?_)))) <;> clear H
  ·intro h12 a H
   try have oz:=dT h12
   refine aK iq (cs:=[_,_,_,_,_,_,_,_,_,_,_]) H (wg H rfl rfl h12) rfl rfl (H.hp.bF 0 rfl rfl) rfl ?_;clear H;intro a H;refine s_call YU H (wg H rfl rfl h12) rfl (ae2 _ _ H.hp.ro D d.flow hfl (by omega) (ae0 d.flow yY)) rfl ?_;clear H;rintro v14 qV a w rfl rM H;replace hfl:=hfl.mono rM;refine kH H (YC h12 rfl (Pt h12 rfl (Rm rfl (Sp 17 rfl ?_ ?_)))) <;> clear H
   ·intro bT a H
    try have jy:=dT bT
    refine aK iq (cs:=[_,_,_,_,_,_,_,_,_,_,_]) H (wg H rfl rfl bT) rfl rfl (H.hp.bF 0 rfl rfl) rfl ?_;clear H;intro a H;refine s_call YV H (wg H rfl rfl bT) rfl (XO _ _ H.hp.ro D d.flow hfl (by omega)) rfl ?_;clear H;rintro v19 Vt a w abf LZ H;obtain ⟨NS,n19,c19,rfl⟩:=abf.form;exact kH H (YL qQ bT rfl (YC bT rfl (Pt bT rfl (Ra rfl (Kz K2 (LR Tryz.results9 rfl fun H=>H.hp.ret ⟨_,rfl,fun h=>by first|assumption|(simp_all;done)⟩))))))
   intro bT a H
   try have jy:=dF bT
   exact kH H (Ks bT rfl (Ks bT rfl (Ks bT rfl (Ks bT rfl (Pf bT rfl (Ra rfl (Kz K2 (LR Tryz.results9 rfl fun H=>H.hp.ret ⟨_,rfl,fun h=>by first|assumption|(simp_all;done)⟩))))))))
  intro h12 a H
  try have oz:=dF h12
  exact kH H (Ks h12 rfl (Ks h12 rfl (Ks h12 rfl (Pf h12 rfl (Rm rfl (Ks rfl rfl (Ks rfl rfl (Ks rfl rfl (Ks rfl rfl (Pf rfl rfl (Ra rfl (Kz K2 (LR Tryz.results9 rfl fun H=>H.hp.ret ⟨_,rfl,fun h=>by first|assumption|(simp_all;done)⟩)))))))))))))
 intro h7 a H
 try have p7:=dF h7
 refine kH H (Ks h7 rfl (Ks h7 rfl (Ks h7 rfl (Pf h7 rfl (Rm rfl (Ks rfl rfl (Ks rfl rfl (Ks rfl rfl (Pf rfl rfl (Rm rfl (Ks rfl rfl (Ks rfl rfl (Ks rfl rfl (Ks rfl rfl ?_))))))))))))));clear H;intro a H;exact kH H (Pf rfl rfl (Ra rfl (Kz K2 (LR Tryz.results9 rfl fun H=>H.hp.ret ⟨_,rfl,fun h=>by first|assumption|(simp_all;done)⟩))))
end
section
open Go.RowKit
end
section
open Go.RowKit
theorem IJ:oN Tryz.prog 85 [(0,1),(1,1),(2,1),(3,1),(4,5),(9,1),(10,1)] [.int .i64 0,.int .i64 0,.int .i64 0,.string ⟨#[]⟩,.slice none 0 0,.int .i64 0,.int .i64 0,.slice none 0 0,.slice none 0 0,.slice none 0 0,.slice none 0 0]:=⟨by kernel_rfl,by kernel_rfl⟩
theorem aeJ:oN Tryz.prog 38 [(0,1),(1,5),(6,1),(7,4)] [.slice none 0 0,.slice none 0 0,.int .i64 0,.int .i64 0,.slice none 0 0,.slice none 0 0,.slice none 0 0,.slice none 0 0,.slice none 0 0,.slice none 0 0,.slice none 0 0]:=⟨by kernel_rfl,by kernel_rfl⟩
theorem IU:oK ⟨#[97,98]⟩=true∧lG ⟨#[97,98]⟩ 0=2:=by
 have d0:ku ⟨#[97,98]⟩ 0=(97,1,true):=by decide
 have d1:ku ⟨#[97,98]⟩ 1=(98,1,true):=by decide
 have e2:nI ⟨#[97,98]⟩ 2=-1:=by rw [nI,dif_neg (by decide)]
 have e1:nI ⟨#[97,98]⟩ 1=-1:=by rw [nI,dif_pos (by decide),dif_pos (by rw [d1]),d1];exact e2
 have e0:nI ⟨#[97,98]⟩ 0=-1:=by rw [nI,dif_pos (by decide),dif_pos (by rw [d0]),d0];exact e1
 have c2:lG ⟨#[97,98]⟩ 2=0:=by rw [lG,if_neg (by decide)]
 have c1:lG ⟨#[97,98]⟩ 1=1:=by rw [lG,if_pos (by decide),c2];decide
 have c0:lG ⟨#[97,98]⟩ 0=2:=by rw [lG,if_pos (by decide),c1];decide
 exact ⟨by unfold oK;rw [e0];decide,c0⟩
theorem Us:oK ⟨#[120]⟩=true∧lG ⟨#[120]⟩ 0=1:=by
 have d0:ku ⟨#[120]⟩ 0=(120,1,true):=by decide
 have e1:nI ⟨#[120]⟩ 1=-1:=by rw [nI,dif_neg (by decide)]
 have e0:nI ⟨#[120]⟩ 0=-1:=by rw [nI,dif_pos (by decide),dif_pos (by rw [d0]),d0];exact e1
 have c1:lG ⟨#[120]⟩ 1=0:=by rw [lG,if_neg (by decide)]
 have c0:lG ⟨#[120]⟩ 0=1:=by rw [lG,if_pos (by decide),c1];decide
 exact ⟨by unfold oK;rw [e0];decide,c0⟩
abbrev hd0:gW:=⟨[],⟨0,0,[],[]⟩⟩
def nS:aj:=.mk 1 0 0 ⟨#[97,98]⟩ hd0 [] []
def lH:aj:=.mk 1 0 0 ⟨#[120]⟩ hd0 [] []
def nT:aj:=.mk 6 1 4 ⟨#[]⟩ hd0 [lH] []
def pJ:aj:=.mk 2 0 0 ⟨#[]⟩ hd0 [] []
def jX:List aj:=[nS,nT,pJ]
theorem uA:dR nS=2∧oI nS=0:=by simp [dR,oI,nS,aj.kind,aj.text,oQ,AB,IU.1,IU.2]
theorem uX:dR lH=1∧oI lH=0:=by simp [dR,oI,lH,aj.kind,aj.text,oQ,AB,Us.1,Us.2]
theorem uN:dR nT=1∧oI nT=0:=by simp [dR,oI,nT,aj.kind]
theorem uP:dR pJ=1∧oI pJ=0:=by simp [dR,oI,pJ,aj.kind]
theorem nA:n1 nS=2:=by simp [n1,uA.1,uA.2]
theorem nX:n1 lH=1:=by simp [n1,uX.1,uX.2]
theorem nN:n1 nT=1:=by simp [n1,uN.1,uN.2]
theorem nP:n1 pJ=1:=by simp [n1,uP.1,uP.2]
theorem exV:fV 0 0 jX=[(0,0),(0,1),(0,2),(4,0),(4,1),(0,3),(0,4)]:=by
 have hX:fV 4 0 [lH]=[(4,0),(4,1)]:=by
  simp only [fV,NM,nX];simp [lH,aj.kind,aj.rows,oJ,List.range,List.range.loop]
 simp only [jX,fV,NM,nA,nN,nP]
 simp [nS,nT,pJ,aj.kind,aj.rows,aj.id,aj.flow,oJ,List.range,List.range.loop,hX]
theorem ZG:iI jX=[⟨0,jX,true,false,0⟩,⟨4,[lH],false,true,0⟩]:=by
 simp [iI,jX,iw,UQ,nS,nT,pJ,lH,aj.kind,aj.id,aj.flow]
theorem Kk:fZ jX 4=some [lH]:=by simp [fZ,ZG]
theorem acp:pX [lH]=1:=by rw [Sk,nX];rfl
theorem Qe:mQ jX 4 1 1=0:=by simp [mQ,Kk,acp]
theorem ZH:Ae jX 4 1=(4,0):=by simp [Ae,Qe,exV,List.findIdx?,List.findIdx?.go]
theorem ZK:y8 jX 5=((0,3),0):=by simp [y8,exV]
theorem ZL:fK 0 0 jX=[((0,2),nT)]:=by
 have hX:fK 4 0 [lH]=[]:=by simp [fK,Ci,lH,aj.kind]
 have a1:nH nS=2:=by simp [nH,nS,aj.kind,aj.text,oQ,IU.1,IU.2]
 simp [jX,fK,Ci,a1]
 simp [nS,nT,pJ,aj.kind,iL,gZ,S9,aJ.id,aJ.flow,aj.id,aj.flow,hX]
theorem ZM:jc jX 4=some (0,2):=by simp [jc,ZL,kM,nT,aj.id]
theorem Qf:ig jX 2 4=some (some [(0,2)]):=by simp [ig,ZM]
theorem ZI:iU jX 4 1 0 [(0,2)]=some 2:=by simp [iU,Qe]
theorem ZJ:Ii jX=7:=by simp [Ii,exV]
theorem DR:aS jX≤4294967296:=by
 have h1:=lF nS;have h2:=lF nT;have h3:=lF pJ;have h4:=lF lH
 have h0:nC hd0=5:=by simp [Fe,dw]
 have s1:nS.text.size=2:=rfl;have s2:nT.text.size=0:=rfl;have s3:pJ.text.size=0:=rfl;have s4:lH.text.size=1:=rfl;have g1:nS.head=hd0:=rfl;have g2:nT.head=hd0:=rfl;have g3:pJ.head=hd0:=rfl;have g4:lH.head=hd0:=rfl;have f1:aS nS.flow=0:=rfl;have f2:aS nT.flow=1+bP lH.dat:=rfl;have f3:aS pJ.flow=0:=rfl;have f4:aS lH.flow=0:=rfl;have r1:fI nS.rows=0:=rfl;have r2:fI nT.rows=0:=rfl;have r3:fI pJ.rows=0:=rfl;have r4:fI lH.rows=0:=rfl
 simp only [aS,jX,List.map_cons,List.map_nil,dw]
 rw [g1,h0] at h1;rw [g2,h0] at h2;rw [g3,h0] at h3;rw [g4,h0] at h4
 omega
theorem GQ {G:GH}:jq G hd0 (.slice none 0 0) (.slice none 0 0) (.slice none 0 0):=⟨ah.gq rfl (by decide),ah.gq rfl (by decide),ah.gq rfl (by decide)⟩
theorem ZN (G:GH) (w0:World) (hG:Hold G w0) :
  Calls Tryz.prog 25 #[] w0 (aU w0 G fun u G'=>∃ D:jh,u=D.val∧ah G' (.sl 11 (jX.map aj.dat)) (dY D.f)):=by
 refine eN [] Tryz.func25 rfl Tryz.ntmps25 rfl rfl hG ?_;intro a H;refine aY (fun _ K1=>?_);refine bX iq H wn rfl ?_;clear H;intro b0 a w hb0 H;refine K1 _ _ ?_;clear K1;refine aY (fun _ K2=>?_);refine iP IJ [_,_,_,_,_,_,_,_,_,_,_] H wn rfl rfl rfl rfl ?_;clear H;intro a H;refine fM jO dH [_,_,_,_,_,_,_,_,_,_,_] [_,_,_,_,_,_,_,_,_,_,_] H wn rfl rfl rfl rfl rfl (by intro i q h;match i,h with|0,h=>exact h|n+1,h=>simp at h) rfl rfl ?_;clear H;intro b3 a w hb3 H;refine iP IJ [_,_,_,_,_,_,_,_,_,_,_] H wn rfl rfl rfl rfl ?_;clear H;intro a H;refine bX dH H wn rfl ?_;clear H;intro b1 a w hb1 H;refine aP dH 0 (vs:=[_,_,_,_,_,_,_,_,_,_,_]) _ H wn rfl rfl rfl rfl rfl rfl rfl rfl ?_;clear H;intro w H;dsimp only [List.set,setRow] at H;refine K2 _ _ ?_;clear K2;refine aY (fun _ K3=>?_);refine iP IJ [_,_,_,_,_,_,_,_,_,_,_] H wn rfl rfl rfl rfl ?_;clear H;intro a H;refine aK dH (cs:=[_,_,_,_,_,_,_,_,_,_,_]) H wn rfl rfl (H.hp.bF 0 rfl rfl) rfl ?_;clear H;intro a H;refine iP IJ [_,_,_,_,_,_,_,_,_,_,_] H wn rfl rfl rfl rfl ?_;clear H;intro a H;refine fM jO dH [_,_,_,_,_,_,_,_,_,_,_,_,_,_,_,_,_,_,_,_,_,_,_,_,_,_,_,_,_,_,_,_,_] [_,_,_,_,_,_,_,_,_,_,_,_,_,_,_,_,_,_,_,_,_,_,_,_,_,_,_,_,_,_,_,_,_] H wn rfl rfl rfl rfl rfl (by intro i q h;match i,h with|0,h=>exact h|1,h=>exact h|2,h=>exact h|n+3,h=>simp at h) rfl rfl ?_;clear H;intro b8 a w rG H;refine iP aeJ [_,_,_,_,_,_,_,_,_,_,_] H wn rfl rfl rfl rfl ?_;clear H;intro a H;refine aP iq 3 (vs:=[_,_,_,_,_,_,_,_,_,_,_]) _ H wn rfl rfl rfl rfl rfl rfl rfl rfl ?_;clear H;intro w H;dsimp only [List.set,setRow] at H;refine K3 _ _ ?_;clear K3;refine aR ?_;refine (leave1 H Tryz.results25 (.cons (uQ iq (cs:=[_,_,_,_,_,_,_,_,_,_,_]) H rfl rfl (H.hp.bF 3 rfl rfl)) .nil) ?_).1;have H:=H.bL (Pl:=[_,_,_,_]) (bB:=[_,_]) [2,0] (by decide) rfl;obtain ⟨G2,hm2,hr2,H⟩:=H.KE (sz:=11) (d:=lH.dat) rfl (aO.mkItem (x:=lH) GQ (ah.gq rfl (by decide)) (ah.gq rfl (by decide)));obtain ⟨G3,mY,rG,H⟩:=H.dB;have rA:aO G3 nS.dat _:=aO.mkItem (x:=nS) GQ (ah.gq (A:=none) (n:=0) (c:=0) rfl (by decide)) (ah.gq (A:=none) (n:=0) (c:=0) rfl (by decide));have rN:aO G3 nT.dat _:=aO.mkItem (x:=nT) GQ (hr2.mono mY) (ah.gq (A:=none) (n:=0) (c:=0) rfl (by decide));have rP:aO G3 pJ.dat _:=aO.mkItem (x:=pJ) GQ (ah.gq (A:=none) (n:=0) (c:=0) rfl (by decide)) (ah.gq (A:=none) (n:=0) (c:=0) rfl (by decide));have gI:eU G3 11 (jX.map aj.dat) _:=((eU.nil.snoc rA rfl).snoc rN rfl).snoc rP rfl;exact H.hp.ret ⟨⟨(some ⟨b8,0,none⟩,3,3),(none,0,0),(none,0,0),(none,0,0),(none,0,0),(none,0,0),(none,0,0),(none,0,0),(none,0,0),0,0⟩,rfl,ah.dG (n:=3) (cap:=3) rG rfl (Nat.le_refl _) (show 3≤maxLen by decide) rfl gI⟩
end
section
open Go.RowKit
theorem YS:∀ args w,(callFunc 25 args).run Tryz.prog w=.ok (.enter 25 args) w:=enters Tryz.func25 rfl (by kernel_rfl)
theorem YD:∀ args w,(callFunc 13 args).run Tryz.prog w=.ok (.enter 13 args) w:=enters Tryz.func13 rfl (by kernel_rfl)
theorem Yq:∀ args w,(callFunc 12 args).run Tryz.prog w=.ok (.enter 12 args) w:=enters Tryz.func12 rfl (by kernel_rfl)
theorem PY:∀ args w,(callFunc 19 args).run Tryz.prog w=.ok (.enter 19 args) w:=enters Tryz.func19 rfl (by kernel_rfl)
theorem Yh:∀ args w,(callFunc 11 args).run Tryz.prog w=.ok (.enter 11 args) w:=enters Tryz.func11 rfl (by kernel_rfl)
theorem Si (G:GH) (w0:World) (hG:Hold G w0):Calls Tryz.prog 8 #[] w0 (aU w0 G fun u G'=>u=.bool true):=by
 refine eN [] Tryz.func8 rfl Tryz.ntmps8 rfl rfl hG ?_;intro a H;refine kP H (SR fun _ K1=>Ra rfl (Kz K1 (SR fun _ K2=>?_)));clear H K1;intro a H;refine s_call YS H wn rfl (ZN _ _ H.hp.ro) rfl ?_;clear H;rintro v10 C9 a w ⟨D,rfl,hv⟩ Q8 H;refine bX iq H wn rfl ?_;clear H;intro b1 a w hb1 H;refine aP iq 0 (vs:=[_,_,_,_,_,_,_,_,_,_,_]) _ H wn rfl rfl rfl rfl rfl rfl rfl rfl ?_;clear H;intro w H;dsimp only [List.set,setRow] at H;refine K2 _ _ ?_;clear K2;refine aY (fun _ K3=>?_);refine aK iq (cs:=[_,_,_,_,_,_,_,_,_,_,_]) H wn rfl rfl (H.hp.bF 0 rfl rfl) rfl ?_;clear H;intro a H;refine iP wo [_,_] H wn rfl rfl rfl rfl ?_;clear H;intro a H;refine s_call YD H wn rfl (index_spec _ _ H.hp.ro D jX 4 1 hv DR) rfl ?_;clear H;rintro v14 qV a w rfl rM H;rw [ZH] at H;replace hv:=hv.mono rM;refine kH H (Rm rfl ?_);clear H;intro a H;(iterate 2 refine gV H wn rfl rfl rfl ?_;clear H;intro a H);refine kH H (Ra rfl (Ra rfl (Kz K3 (SR fun _ K4=>?_))));clear H K3;intro a H;refine aK iq (cs:=[_,_,_,_,_,_,_,_,_,_,_]) H wn rfl rfl (H.hp.bF 0 rfl rfl) rfl ?_;clear H;intro a H;refine s_call Yq H wn rfl (acN _ _ H.hp.ro D jX 5 hv DR) rfl ?_;clear H;rintro v19 Vt a w rfl LZ H;rw [ZK] at H;replace hv:=hv.mono LZ;refine kH H (Rm rfl ?_);clear H;intro a H;(iterate 2 refine gV H wn rfl rfl rfl ?_;clear H;intro a H);refine bX bN H wn rfl ?_;clear H;intro b4 a w hb4 H;refine aP bN 0 (vs:=[_,_]) _ H wn rfl rfl rfl rfl rfl rfl rfl rfl ?_;clear H;intro w H;dsimp only [List.set,setRow] at H;refine kH H (Ra rfl (Kz K4 (SR fun _ K5=>?_)));clear H K4;intro a H;refine aK iq (cs:=[_,_,_,_,_,_,_,_,_,_,_]) H wn rfl rfl (H.hp.bF 1 rfl rfl) rfl ?_;clear H;intro a H;refine s_call F6 H wn rfl (Tp _ _ H.hp.ro D jX 4 hv DR 2 (by omega) _ Qf (fun ps h=>by cases h;exact Nat.le_refl _)) rfl ?_;clear H;rintro v24 zB a w ⟨v,rfl,hrep⟩ uw H;rw [Kk] at H hrep;replace hv:=hv.mono uw;replace hrep:ah zB (.sl 2 ([((0,2):Int × Int)].map fu)) v:=hrep;obtain ⟨vA,vn,vc,rfl⟩:=hrep.form;obtain rfl:vn=1:=hrep.len;obtain ⟨b,o,cs,rfl,hcl,hrow,hr⟩:=hrep.at_ 0 (fu (0,2)) rfl;obtain rfl:=Ck hr;refine kH H (Rm rfl ?_);clear H;intro a H;(iterate 2 refine gV H wn rfl rfl rfl ?_;clear H;intro a H);refine kH H (Ra rfl (Ra rfl (Kz K5 (SR fun _ K6=>?_))));clear H K5;intro a H;refine aK iq (cs:=[_,_,_,_,_,_,_,_,_,_,_]) H wn rfl rfl (H.hp.bF 1 rfl rfl) rfl ?_;clear H;intro a H;refine iP wo [_,_] H wn rfl rfl rfl rfl ?_;clear H;intro a H;refine s_call PY H wn rfl (acw _ _ H.hp.ro D jX 4 1 0 hv DR 2 (by omega) _ Qf (fun ps h=>by cases h;exact Nat.le_refl _)) rfl ?_;clear H;rintro v30 wF a w rfl uy H
 have e:(if (fZ jX 4).isSome=true then (some [((0,2):Int × Int)]).getD [] else [])=[(0,2)]:=by rw [Kk];rfl
 rw [e,ZI] at H;replace hv:=hv.mono uy;replace hrow:=fun j u hj=>aD uy (hrow j u hj);refine kH H (Rm rfl ?_);clear H;intro a H;(iterate 2 refine gV H wn rfl rfl rfl ?_;clear H;intro a H);refine kH H (Ra rfl (Ra rfl (Kz K6 (SR fun _ K7=>Rm rfl (Rc rfl (Rm rfl (Sp 35 rfl ?_ ?_))))))) <;> clear H K6
 ·intro jM a H
  try have p35:=dT jM
  refine kH H (YM jM rfl (YC jM rfl (Pt jM rfl (Rm rfl (Sp 39 rfl ?_ ?_))))) <;> clear H
  ·intro gY a H
   try have p39:=dT gY
   refine aK bN (cs:=[_,_]) H (wg H rfl rfl gY) rfl rfl (H.hp.bF 0 rfl rfl) rfl ?_;clear H;intro a H;refine iP wo [_,_] H (wg H rfl rfl gY) rfl rfl rfl rfl ?_;clear H;intro a H;refine Nq Kj H (wg H rfl rfl gY) rfl rfl rfl rfl ?_;clear H;intro a H;refine kH H (Pt gY rfl (Rm rfl (Sp 44 rfl ?_ ?_))) <;> clear H
   ·intro jS a H
    try have p44:=dT jS
    refine kH H (YM jS rfl (YC jS rfl (Pt jS rfl (Rm rfl (Sp 48 rfl ?_ ?_))))) <;> clear H
    ·intro h48 a H
     try have p48:=dT h48
     refine kH H (YM h48 rfl (YL jB h48 rfl (YC h48 rfl (Pt h48 rfl (Rm rfl (Sp 53 rfl ?_ ?_)))))) <;> clear H
     ·intro jT a H
      try have p53:=dT jT
      refine kH H (YM jT rfl ?_);clear H;intro a H;refine Ns jB bN 0 H (wg H rfl rfl jT) rfl rfl rfl (by omega) rfl ?_;clear H;intro a H;refine aK bN (cs:=[_,_]) H (wg H rfl rfl jT) rfl rfl (fun j v hj=>H.hp.aB (hrow j v hj)) rfl ?_;clear H;intro a H;refine iP wo [_,_] H (wg H rfl rfl jT) rfl rfl rfl rfl ?_;clear H;intro a H;refine Nq Kj H (wg H rfl rfl jT) rfl rfl rfl rfl ?_;clear H;intro a H;refine kH H (Pt jT rfl (Rm rfl (Sp 60 rfl ?_ ?_))) <;> clear H
      ·intro fF a H
       try have p60:=dT fF
       refine kH H (YM fF rfl (YC fF rfl (Pt fF rfl (Rm rfl (Sp 64 rfl ?_ ?_))))) <;> clear H
       ·intro h64 a H
        try have p64:=dT h64
        refine kH H (YM h64 rfl (YC h64 rfl (Pt h64 rfl (Rm rfl (Sp 68 rfl ?_ ?_))))) <;> clear H
        ·intro h68 a H
         try have p68:=dT h68
         refine kH H (YM h68 rfl (Pt h68 rfl (Rm rfl (Sp 71 rfl ?_ ?_)))) <;> clear H
         ·intro lK a H
          try have p71:=dT lK
          refine aK iq (cs:=[_,_,_,_,_,_,_,_,_,_,_]) H (wg H rfl rfl lK) rfl rfl (H.hp.bF 1 rfl rfl) rfl ?_;clear H;intro a H;refine s_call Yh H (wg H rfl rfl lK) rfl (XD _ _ H.hp.ro D jX hv DR) rfl ?_;clear H;rintro v73 VH a w rfl agi H;rw [ZJ] at H;exact kH H (YC lK rfl (Pt lK rfl (Ra rfl (Kz K7 (LR Tryz.results8 rfl fun H=>H.hp.ret rfl)))))
         intro lK a H
         try have p71:=dF lK
         exact absurd lK (by decide)
        intro h68 a H
        try have p68:=dF h68
        exact absurd h68 (by decide)
       intro h64 a H
       try have p64:=dF h64
       exact absurd h64 (by decide)
      intro fF a H
      try have p60:=dF fF
      exact absurd fF (by decide)
     intro jT a H
     try have p53:=dF jT
     exact absurd jT (by decide)
    intro h48 a H
    try have p48:=dF h48
    exact absurd h48 (by decide)
   intro jS a H
   try have p44:=dF jS
   exact absurd jS (by decide)
  intro gY a H
  try have p39:=dF gY
  exact absurd gY (by decide)
 intro jM a H
 try have p35:=dF jM
 exact absurd jM (by decide)
end
section
open Go.RowKit
theorem Qb:∀ args w,(callFunc 8 args).run Tryz.prog w=.ok (.enter 8 args) w:=enters Tryz.func8 rfl (by kernel_rfl)
theorem ZA:∀ args w,(callFunc 9 args).run Tryz.prog w=.ok (.enter 9 args) w:=enters Tryz.func9 rfl (by kernel_rfl)
theorem ZB:N7 Tryz.prog 45 [(0,false),(1,false)]:=⟨by kernel_rfl,by kernel_rfl,by kernel_rfl,by kernel_rfl,by kernel_rfl⟩
theorem aat {G:GH} {b:Nat} {cs:List Value} {e:TypeId} {q:Nat × Nat} (h:G b=some (.cells cs.toArray e q)) (j:Nat) (v:Value) (hj:cs[j]?=some v):aB G b (0+j)=some v:=by
 unfold aB
 rw [h,Nat.zero_add]
 show cs.toArray[j]?=some v
 simpa using hj
end
section
open Go.RowKit
theorem PX:∀ args w,(callFunc 15 args).run Tryz.prog w=.ok (.enter 15 args) w:=enters Tryz.func15 rfl (by kernel_rfl)
end
section
open Go.RowKit
section
variable {N:Nat} {D:List Deferred} {w0:World} {F:Nat→Prop} {G0 G:GH} {L Lo:OL} {T:List (Nat × Value)}
variable {r:Option Nat} {P:Program} {ops:Array Oper} {Q:Exit→Act→World→Prop} {rest:List Oper} {a:Act} {w:World}
variable {d:Nat} {ty:TypeId} {pos:String} {aG:Array Edge} {g:Option (Nat × Bool)}
end
end
section
open Go.RowKit
def pC (l:List (Int × Int)):List Value:=(l.map fun p=>[vi p.1,vi p.2]).flatten
theorem SY (p:Int × Int) (l:List (Int × Int)):pC (p :: l)=vi p.1 :: vi p.2 :: pC l:=rfl
theorem Nb:∀ l:List (Int × Int),(pC l).length=l.length*2
 | []=>rfl
 | p :: l=>by rw [SY,List.length_cons,List.length_cons,Nb l,List.length_cons];omega
theorem Na:∀ {l:List (Int × Int)} {k:Nat} (h:k < l.length) (j:Nat),j < 2→(pC l)[k*2+j]?=[vi l[k].1,vi l[k].2][j]?
 | p :: l,0,_,0,_=>rfl
 | p :: l,0,_,1,_=>rfl
 | p :: l,k+1,h,j,hj=>by
  have ih:=Na (l:=l) (k:=k) (by simpa using h) j hj;rw [SY,show (k+1)*2+j=(k*2+j)+1+1 by omega,List.getElem?_cons_succ,List.getElem?_cons_succ,ih,List.getElem_cons_succ]
theorem Ud {cl:List Value} {o k:Nat} {x y:Value} (h:o+2≤cl.length):(setRow cl o [x,y])[k]?=if k=o then some x else if k=o+1 then some y else cl[k]?:=by
 rw [II _ _ _ (by simpa using h)]
 by_cases h1:k < o
 ·rw [List.append_assoc,List.getElem?_append_left (by rw [List.length_take];omega),List.getElem?_take,if_pos h1,if_neg (by omega),if_neg (by omega)]
 by_cases h2:k < o+2
 ·rw [List.append_assoc,List.getElem?_append_right (by rw [List.length_take];omega),List.length_take,Nat.min_eq_left (by omega),List.getElem?_append_left (by simp only [List.length_cons,List.length_nil];omega)]
  by_cases h3:k=o
  ·subst h3;rw [if_pos rfl,Nat.sub_self];rfl
  obtain rfl:k=o+1:=by omega
  rw [if_neg (by omega),if_pos rfl,show o+1 - o=1 by omega];rfl
 rw [List.getElem?_append_right (by rw [List.length_append,List.length_take];simp only [List.length_cons,List.length_nil];omega),List.getElem?_drop,if_neg (by omega),if_neg (by omega)]
 congr 1
 rw [List.length_append,List.length_take]
 simp only [List.length_cons,List.length_nil]
 omega
/-- The element that stands at m when i pairs are exchanged. -/
def sD (n i m:Nat):Nat:=if m < i∨n≤m+i then n - 1 - m else m
def AZ (ps:List (Int × Int)) (i:Nat) (cl:List Value):Prop:=∀ m q,m < ps.length→q < 2→cl[m*2+q]?=[vi (ps.getD (sD ps.length i m) (0,0)).1,vi (ps.getD (sD ps.length i m) (0,0)).2][q]?
theorem adW {ps:List (Int × Int)} {cl:List Value} (h:cl.take (ps.length*2)=pC ps):AZ ps 0 cl:=by
 intro m q hm hq;have h5:=Na hm q hq;rw [← h,List.getElem?_take,if_pos (by omega)] at h5;rw [h5,sD,if_neg (by omega),List.getD_eq_getElem?_getD,List.getElem?_eq_getElem hm];rfl
theorem TR {ps:List (Int × Int)} {i m:Nat} {cl:List Value} (h:AZ ps i cl) (hm:m < ps.length) (hi:¬ (m < i∨ps.length≤m+i)) (q:Nat) (u:Value) (hu:[vi (ps.getD m (0,0)).1,vi (ps.getD m (0,0)).2][q]?=some u):cl.toArray[0+m*2+q]?=some u:=by
 have hq:q < 2:=by have:=(List.getElem?_eq_some_iff.1 hu).1;simpa using this
 rw [List.getElem?_toArray,Nat.zero_add,h m q hm hq,sD,if_neg hi];exact hu
theorem adY {ps:List (Int × Int)} {i j:Nat} {cl:List Value} (h:AZ ps i cl) (hl:ps.length*2≤cl.length) (hij:i < j) (hs:i+j+1=ps.length) :
  AZ ps (i+1) (setRow (setRow cl (0+i*2) [vi (ps.getD j (0,0)).1,vi (ps.getD j (0,0)).2]) (0+j*2) [vi (ps.getD i (0,0)).1,vi (ps.getD i (0,0)).2]):=by
 intro m q hm hq;rw [Ud (by rw [Cv];omega),Ud (by omega)]
 by_cases h1:m=j
 ·subst h1
  have e:sD ps.length (i+1) m=i:=by rw [sD,if_pos (.inr (by omega))];omega
  rw [e]
  rcases (by omega:q=0∨q=1) with rfl|rfl
  ·rw [if_pos (by omega)];rfl
  rw [if_neg (by omega),if_pos (by omega)];rfl
 rw [if_neg (by omega),if_neg (by omega)]
 by_cases h2:m=i
 ·subst h2
  have e:sD ps.length (m+1) m=j:=by rw [sD,if_pos (.inl (by omega))];omega
  rw [e]
  rcases (by omega:q=0∨q=1) with rfl|rfl
  ·rw [if_pos (by omega)];rfl
  rw [if_neg (by omega),if_pos (by omega)];rfl
 rw [if_neg (by omega),if_neg (by omega),h m q hm hq]
 have e:sD ps.length (i+1) m=sD ps.length i m:=by
  unfold sD
  by_cases h3:m < i∨ps.length≤m+i
  ·rw [if_pos h3,if_pos (by omega)]
  rw [if_neg h3,if_neg (by omega)]
 rw [e]
theorem adX {ps:List (Int × Int)} {i:Nat} {cl:List Value} (h:AZ ps i cl) (hl:ps.length*2≤cl.length) (hi:ps.length≤i+i+1):cl.take (ps.length*2)=pC ps.reverse:=by
 apply List.ext_getElem?
 intro k;rw [List.getElem?_take]
 by_cases hk:k < ps.length*2
 ·rw [if_pos hk]
  have hm:k / 2 < ps.length:=by omega
  have h1:=h (k / 2) (k % 2) hm (by omega);have h2:=Na (l:=ps.reverse) (k:=k / 2) (by rw [List.length_reverse];exact hm) (k % 2) (by omega);rw [show k / 2*2+k % 2=k by omega] at h1 h2
  have e:sD ps.length i (k / 2)=ps.length - 1 - k / 2:=by
   unfold sD
   by_cases h3:k / 2 < i∨ps.length≤k / 2+i
   ·rw [if_pos h3]
   rw [if_neg h3];omega
  rw [h1,h2,e,List.getElem_reverse,List.getD_eq_getElem?_getD,List.getElem?_eq_getElem (l:=ps) (i:=ps.length - 1 - k / 2) (by omega)]
  rfl
 rw [if_neg hk,List.getElem?_eq_none (by rw [Nb,List.length_reverse];omega)]
set_option maxHeartbeats 1000000 in
theorem adQ {G:GH} {w0:World} {b c:Nat} {Bh:List Value} (ps:List (Int × Int)) (hO:gT G [(b,.cells Bh.toArray 45 (0,0))] w0) (hnc:ps.length≤c) (hcm:c≤maxLen) (hsz:Bh.length=c*2) (htk:Bh.take (ps.length*2)=pC ps) :
  Calls Tryz.prog 35 #[.slice (some ⟨b,0,none⟩) ps.length c] w0 (fQ w0 G [(b,.cells Bh.toArray 45 (0,0))] fun _ _ L'=>∃ cl:List Value,L'=[(b,.cells cl.toArray 45 (0,0))]∧cl.length=c*2∧cl.take (ps.length*2)=pC ps.reverse):=by
 have hml:maxLen=9223372036854775807:=rfl;refine jv (N:=28) (T:=[(0,_)]) Tryz.func35 rfl Tryz.ntmps35 rfl rfl hO ?_;intro a H;refine kP H (SR fun _ K1=>Rm rfl (Rl jB rfl (Rs rfl (Ra rfl (Ra rfl (Kz K1 (SB ?_)))))));clear H K1;intro a H;skip;refine d9 (ι:=Nat × Int × List Value × GH) (Tc:=[(0,_)]) (Lc:=[]) (fun (gh:Nat × Int × List Value × GH)=>[(2,vi gh.1),(3,vi gh.2.1)]) (fun (gh:Nat × Int × List Value × GH)=>[(b,.cells gh.2.2.1.toArray 45 (0,0))]) (fun (gh:Nat × Int × List Value × GH)=>gh.2.2.2) (fun (gh:Nat × Int × List Value × GH)=>gh.2.2.1.length=c*2∧gh.2.1=(ps.length:Int) - 1 - gh.1∧AZ ps gh.1 gh.2.2.1∧(∀ b o,G b=some o→gh.2.2.2 b=some o)) (fun (gh:Nat × Int × List Value × GH)=>ps.length - gh.1) ((0,(ps.length:Int) - 1,Bh,G)) (by exact (H).sub ⟨rfl,rfl,rfl,trivial⟩) ?_ ?_
 ·exact ⟨hsz,by simp,adW htk,fun _ _ h=>h⟩
 clear H;intro gh a w hI H;obtain ⟨i,j,cl,g⟩:=gh;dsimp only at hI H;obtain ⟨hcl,hj,hat,hgm⟩:=hI;dsimp only [List.cons_append,List.nil_append,List.append_nil] at H;refine kP H (SQ fun _ K2=>SR fun _ K3=>Rm rfl (Rm rfl (Rc rfl (Kz K3 (Cd rfl ?_ ?_))))) <;> clear H K3
 ·intro h9 a H
  try have p9:=dT h9
  obtain ⟨jn,rfl⟩:∃ jn:Nat,j=jn:=⟨j.toNat,by omega⟩
  have hij:i < jn:=by omega
  have hs:i+jn+1=ps.length:=by omega
  have hcj:=TR hat (m:=jn) (by omega) (by omega);have hci:=TR hat (m:=i) (by omega) (by omega);refine kP H (Kc K2 (SQ fun _ K4=>SB ?_));clear H K2;intro a H;refine Ws (hmx) [[],[],[],[],[],[],[4,5],[4,5,6],[],[],[8,9],[8,9,10],[0,1,4,5,6,7,8,9,10,11],[0,1,4,5,6,7,8,9,10,11,12],(List.range 14),(List.range 15)] [14,15] (by kernel_rfl) (by kernel_rfl) 13 (by decide) (fun (aC:Nat) (v:Value) (G:GH)=>match aC with|0=>v=.slice (some ⟨b,0,none⟩) ps.length c|1=>v=vi i|2=>v=.slice (some ⟨b,0,none⟩) ps.length c|3=>v=vi jn|4=>v=.slice (some ⟨b,0,none⟩) ps.length c|5=>v=vi jn|6=>v=.pointer (some ⟨b,0+jn*2,none⟩)|7=>v=.agg #[vi (ps.getD jn (0,0)).1,vi (ps.getD jn (0,0)).2]|8=>v=.slice (some ⟨b,0,none⟩) ps.length c|9=>v=vi i|10=>v=.pointer (some ⟨b,0+i*2,none⟩)|11=>v=.agg #[vi (ps.getD i (0,0)).1,vi (ps.getD i (0,0)).2]|12=>v=.pointer (some ⟨b,0+i*2,none⟩)|_=>True) 0 ((b,.cells (setRow cl (0+i*2) [vi (ps.getD jn (0,0)).1,vi (ps.getD jn (0,0)).2]).toArray 45 (0,0))) H ?_ ?_ ?_ ?_ (by kernel_rfl)
  ·clear H;refine av ?_ ?_ ?_ ?_ (av ?_ ?_ ?_ ?_ (av ?_ ?_ ?_ ?_ (av ?_ ?_ (aT rfl) (aT rfl) dh)))
   ·intro bC a w G1 _ _ aZ hc hG HT hv;have H:=HT;clear aZ;have Hb:=H.full;have H:=Hb;clear hc;refine kH H (Rm rfl ?_);clear H;intro a H;refine au ⟨rfl,?_⟩;exact iH (by kernel_rfl) (fun _ _ _ _ _ h=>h) rfl rfl HT Hb hG hv (fun _ _ h=>h) (rfl) H
   ·intro bC a w G1 _ _ aZ hc hG HT hv;have H:=HT;clear aZ;have Hb:=H.full;have H:=Hb;clear hc;refine kH H (Rm rfl ?_);clear H;intro a H;refine au ⟨rfl,?_⟩;exact iH (by kernel_rfl) (fun _ _ _ _ _ h=>h) rfl rfl HT Hb hG hv (fun _ _ h=>h) (rfl) H
   ·intro bC a w G1 _ _ aZ hc hG HT hv;have H:=HT;clear aZ;have Hb:=H.full;have H:=Hb;clear hc;refine kH H (Rm rfl ?_);clear H;intro a H;refine au ⟨rfl,?_⟩;exact iH (by kernel_rfl) (fun _ _ _ _ _ h=>h) rfl rfl HT Hb hG hv (fun _ _ h=>h) (rfl) H
   ·intro bC a w G1 _ _ aZ hc hG HT hv;have H:=HT;clear aZ;have Hb:=H.full;have H:=Hb;clear hc;refine kH H (Rm rfl ?_);clear H;intro a H;refine au ⟨rfl,?_⟩;exact iH (by kernel_rfl) (fun _ _ _ _ _ h=>h) rfl rfl HT Hb hG hv (fun _ _ h=>h) (rfl) H
   ·intro bC a w G1 _ _ aZ hc hG HT hv;have H:=HT;clear aZ;have Hb:=H.full;have H:=Hb;clear hc;refine kH H (Rm rfl ?_);clear H;intro a H;refine au ⟨rfl,?_⟩;exact iH (by kernel_rfl) (fun _ _ _ _ _ h=>h) rfl rfl HT Hb hG hv (fun _ _ h=>h) (rfl) H
   ·intro bC a w G1 _ _ aZ hc hG HT hv;have H:=HT;clear aZ;have Hb:=H.full;have H:=Hb;clear hc;refine kH H (Rm rfl ?_);clear H;intro a H;refine au ⟨rfl,?_⟩;exact iH (by kernel_rfl) (fun _ _ _ _ _ h=>h) rfl rfl HT Hb hG hv (fun _ _ h=>h) (rfl) H
   ·intro bC a w G1 _ _ aZ hc hG HT hv;have H:=HT;clear aZ;have H:=H.aM (hv 4 18 (hc 4 (by decide)) rfl) rfl;have H:=H.aM (hv 5 19 (hc 5 (by decide)) rfl) rfl;have Hb:=H.full;have H:=Hb;clear hc;refine kH H (Ri jB bN rfl rfl ?_);clear H;intro a H;refine au ⟨rfl,?_⟩;exact iH (by kernel_rfl) (fun _ _ _ _ _ h=>h) rfl rfl HT Hb hG hv (fun _ _ h=>h) (rfl) H
   ·intro bC a w G1 _ _ aZ hc hG HT hv;have H:=HT;clear aZ;have H:=H.aM (hv 6 20 (hc 6 (by decide)) rfl) rfl;have Hb:=H.full;have H:=Hb;clear hc;refine aK bN (cs:=[vi (ps.getD jn (0,0)).1,vi (ps.getD jn (0,0)).2]) H wn rfl rfl (fun q u hq=>H.hp.MU (c:=cl.toArray) List.mem_cons_self (hcj q u hq)) rfl ?_;clear H;intro a H;refine au ⟨rfl,?_⟩;exact iH (by kernel_rfl) (fun _ _ _ _ _ h=>h) rfl rfl HT Hb hG hv (fun _ _ h=>h) (rfl) H
   ·intro bC a w G1 _ _ aZ hc hG HT hv;have H:=HT;clear aZ;have Hb:=H.full;have H:=Hb;clear hc;refine kH H (Rm rfl ?_);clear H;intro a H;refine au ⟨rfl,?_⟩;exact iH (by kernel_rfl) (fun _ _ _ _ _ h=>h) rfl rfl HT Hb hG hv (fun _ _ h=>h) (rfl) H
   ·intro bC a w G1 _ _ aZ hc hG HT hv;have H:=HT;clear aZ;have Hb:=H.full;have H:=Hb;clear hc;refine kH H (Rm rfl ?_);clear H;intro a H;refine au ⟨rfl,?_⟩;exact iH (by kernel_rfl) (fun _ _ _ _ _ h=>h) rfl rfl HT Hb hG hv (fun _ _ h=>h) (rfl) H
   ·intro bC a w G1 _ _ aZ hc hG HT hv;have H:=HT;clear aZ;have H:=H.aM (hv 8 22 (hc 8 (by decide)) rfl) rfl;have H:=H.aM (hv 9 23 (hc 9 (by decide)) rfl) rfl;have Hb:=H.full;have H:=Hb;clear hc;refine kH H (Ri jB bN rfl rfl ?_);clear H;intro a H;refine au ⟨rfl,?_⟩;exact iH (by kernel_rfl) (fun _ _ _ _ _ h=>h) rfl rfl HT Hb hG hv (fun _ _ h=>h) (rfl) H
   ·intro bC a w G1 _ _ aZ hc hG HT hv;have H:=HT;clear aZ;have H:=H.aM (hv 10 24 (hc 10 (by decide)) rfl) rfl;have Hb:=H.full;have H:=Hb;clear hc;refine aK bN (cs:=[vi (ps.getD i (0,0)).1,vi (ps.getD i (0,0)).2]) H wn rfl rfl (fun q u hq=>H.hp.MU (c:=cl.toArray) List.mem_cons_self (hci q u hq)) rfl ?_;clear H;intro a H;refine au ⟨rfl,?_⟩;exact iH (by kernel_rfl) (fun _ _ _ _ _ h=>h) rfl rfl HT Hb hG hv (fun _ _ h=>h) (rfl) H
   ·intro bC a w G1 _ _ aZ hc hG HT hv;have H:=HT;clear aZ;have H:=H.aM (hv 0 14 (hc 0 (by decide)) rfl) rfl;have H:=H.aM (hv 1 15 (hc 1 (by decide)) rfl) rfl;have Hb:=H.full;have H:=Hb;clear hc;refine kH H (Ri jB bN rfl rfl ?_);clear H;intro a H;refine au ⟨rfl,?_⟩;exact iH (by kernel_rfl) (fun _ _ _ _ _ h=>h) rfl rfl HT Hb hG hv (fun _ _ h=>h) (rfl) H
   intro _ _ _ _ _ hB;exact absurd hB (by decide)
  ·clear H;intro o_ bC a w G1 uz _ hc hG HT hv;obtain rfl:_=o_:=Option.some.inj uz;clear uz;have H:=HT;have H:=H.aM (hv 12 26 (hc 12 (by decide)) rfl) rfl;have H:=H.aM (hv 7 21 (hc 7 (by decide)) rfl) rfl;have Hb:=H.full;have H:=Hb;clear hc;refine aP bN 0 (c:=cl) (vs:=[vi (ps.getD jn (0,0)).1,vi (ps.getD jn (0,0)).2]) _ H wn rfl rfl rfl rfl rfl rfl (Nat.ble_eq_true_of_le (by simp only [List.length_cons,List.length_nil];omega)) rfl ?_;clear H;intro w H;dsimp only [List.set] at H;refine au ⟨rfl,?_⟩;exact XP rfl HT hG hv H
  ·clear H;refine av (aT rfl) (aT rfl) ?_ ?_ (av (aT rfl) (aT rfl) (aT rfl) (aT rfl) (av (aT rfl) (aT rfl) (aT rfl) (aT rfl) (av (aT rfl) ?_ (aT rfl) (aT rfl) dh)))
   ·intro bC a w G1 _ _ aZ hc hG HT hv;have H:=HT;dsimp only [List.set,List.append,List.cons_append,List.nil_append] at H;clear aZ;have Hb:=H.full;have H:=Hb;clear hc;refine kH H (Rm rfl ?_);clear H;intro a H;refine au ⟨rfl,?_⟩;exact iH (by kernel_rfl) (fun _ _ _ _ _ h=>h) rfl rfl HT Hb hG hv (fun _ _ h=>h) (rfl) H
   ·intro bC a w G1 _ _ aZ hc hG HT hv;have H:=HT;dsimp only [List.set,List.append,List.cons_append,List.nil_append] at H;clear aZ;have Hb:=H.full;have H:=Hb;clear hc;refine kH H (Rm rfl ?_);clear H;intro a H;refine au ⟨rfl,?_⟩;exact iH (by kernel_rfl) (fun _ _ _ _ _ h=>h) rfl rfl HT Hb hG hv (fun _ _ h=>h) (rfl) H
   intro _ _ _ _ _ hB;exact absurd hB (by decide)
  clear H;intro a w G KS H hv;dsimp only [List.set,List.append,List.cons_append,List.nil_append] at H;have H:=H.aM (hv 2 16 rfl rfl) rfl;have H:=H.aM (hv 3 17 rfl rfl) rfl;have H:=H.aM (hv 11 25 rfl rfl) rfl;clear hv;refine kH H (Ri jB bN rfl rfl ?_);clear H;intro a H;refine aP bN 0 (c:=setRow cl (0+i*2) [vi (ps.getD jn (0,0)).1,vi (ps.getD jn (0,0)).2]) (vs:=[vi (ps.getD i (0,0)).1,vi (ps.getD i (0,0)).2]) _ H wn rfl rfl rfl rfl rfl rfl (Nat.ble_eq_true_of_le (by rw [Cv];simp only [List.length_cons,List.length_nil];omega)) rfl ?_;clear H;intro w H;dsimp only [List.set] at H;refine au ⟨rfl,?_⟩;refine K4 _ _ ?_;clear K4;refine kP H (SC (Rm rfl (Rd rfl (Rm rfl (Rs rfl (Ra rfl (Ra rfl ?_)))))));clear H;intro a H;refine au ?_;refine dD ((i+1,(jn:Int) - 1,setRow (setRow cl (0+i*2) [vi (ps.getD jn (0,0)).1,vi (ps.getD jn (0,0)).2]) (0+jn*2) [vi (ps.getD i (0,0)).1,vi (ps.getD i (0,0)).2],_)) (by exact (H).sub ⟨rfl,rfl,rfl,trivial⟩) ?_ ?_
  ·(try dsimp only);exact ⟨by rw [Cv,Cv,hcl],by omega,adY hat (by omega) hij hs,fun b o h=>KS b o (hgm b o h)⟩
  first|omega|(dsimp only;omega)
 intro h9 a H
 try have p9:=dF h9
 refine dL ?_;refine (leave0 H Tryz.results35 ?_).2;exact H.hp.eG ⟨cl,rfl,hcl,adX hat (by omega) (by omega)⟩
end
section
open Go.RowKit
theorem adu {G:GH} {l:List (Int × Int)} {xs:List Value} (h:eU G 2 (l.map fu) xs):xs=pC l:=by
 obtain ⟨css,rfl,h2,h3⟩:=h;rw [List.length_map] at h2
 have e:css=l.map fun p=>[vi p.1,vi p.2]:=by
  apply List.ext_getElem?
  intro j;rw [List.getElem?_map]
  by_cases hj:j < l.length
  ·have h4:=(h3 j (fu l[j]) css[j] (by simp [hj]) (List.getElem?_eq_getElem (by omega))).1;rw [List.getElem?_eq_getElem hj,List.getElem?_eq_getElem (by omega),Ck h4];rfl
  rw [List.getElem?_eq_none (by omega),List.getElem?_eq_none (by omega)];rfl
 rw [e];rfl
theorem SX (G:GH):∀ l:List (Int × Int),eU G 2 (l.map fu) (pC l)
 | []=>eU.nil
 | p :: l=>by
  have h1:eU G 2 [fu p] [vi p.1,vi p.2]:=by
   have:=(eU.nil (G:=G) (sz:=2)).snoc (q:=fu p) (cs:=[vi p.1,vi p.2]) ⟨_,_,rfl,⟨rfl,rfl⟩,_,_,rfl,⟨rfl,rfl⟩,rfl⟩ rfl
   simpa using this
  rw [List.map_cons,← List.singleton_append];exact h1.append (SX G l)
theorem reverse_nil {G:GH} {w0:World} (hO:gT G [] w0):Calls Tryz.prog 35 #[.slice none 0 0] w0 (fQ w0 G [] fun _ _ L'=>L'=[]):=by
 refine jv (N:=28) (T:=[(0,_)]) Tryz.func35 rfl Tryz.ntmps35 rfl rfl hO ?_;intro a H;refine kP H (SR fun _ K1=>Rm rfl (Rl jB rfl (Rs rfl (Ra rfl (Ra rfl (Kz K1 (SB ?_)))))));clear H K1;intro a H;skip;refine d9 (ι:=Unit) (Tc:=[(0,_)]) (Lc:=[]) (fun (gh:Unit)=>[(2,vi 0),(3,vi (-1))]) (fun (gh:Unit)=>[]) (fun (gh:Unit)=>G) (fun (gh:Unit)=>True) (fun (gh:Unit)=>0) (()) (by exact (H).sub ⟨rfl,rfl,rfl,trivial⟩) ?_ ?_
 ·trivial
 clear H;intro gh a w hI H;obtain ⟨u,hgh⟩:∃ x,x=gh:=⟨_,rfl⟩;subst hgh;skip;dsimp only [List.cons_append,List.nil_append,List.append_nil] at H;refine kP H (SQ fun _ K2=>SR fun _ K3=>Rm rfl (Rm rfl (Rc rfl (Kz K3 (Cd rfl ?_ ?_))))) <;> clear H K3
 ·intro h9 a H
  try have p9:=dT h9
  exact absurd p9 (by omega)
 intro h9 a H
 try have p9:=dF h9
 refine dL ?_;refine (leave0 H Tryz.results35 ?_).2;exact H.hp.eG rfl
theorem adR {G:GH} {w0:World} {v:Value} {Lo:OL} (ps:List (Int × Int)) (hO:gT G Lo w0) (hrw:eB 45 2 v ps.length (pC ps) Lo) :
  Calls Tryz.prog 35 #[v] w0 (fQ w0 G Lo fun _ _ L'=>eB 45 2 v ps.length (pC ps.reverse) L'):=by
 rcases hrw.2 with ⟨rfl,h0,rfl⟩|⟨b,cap,cur,rfl,rfl,h1,h2,h3,h4⟩
 ·have e:ps=[]:=List.eq_nil_of_length_eq_zero h0;subst e;exact (reverse_nil hO).mono fun e w' ⟨v,G',L',h1,h2,h4⟩=>⟨v,G',L',h1,h2,by rw [h4];exact eB.nil⟩
 obtain ⟨Bh,rfl⟩:∃ cl:List Value,cur=cl.toArray:=⟨cur.toList,by simp⟩;rw [List.size_toArray] at h3;refine (adQ ps hO h1 h2 h3 h4).mono fun e w' ⟨v,G',L',e1,e2,cl,e4,e5,e6⟩=>⟨v,G',L',e1,e2,?_⟩;exact ⟨by rw [Nb,List.length_reverse],.inr ⟨b,cap,cl.toArray,rfl,e4,h1,h2,by rw [List.size_toArray,e5],e6⟩⟩
theorem Tm (G:GH) (w0:World) (hG:Hold G w0) (D:jh) (l:List aj) (flow:Int) (hv:ah G (.sl 11 (l.map aj.dat)) (dY D.f)) (hz:aS l≤4294967296) (n:Nat) (hn:n≤4294967296) (res:Option (List (Int × Int))) (hp:(fZ l flow).isSome=true→ig l n flow=some res) :
  Calls Tryz.prog 18 #[D.val,vi flow] w0 (aU w0 G fun u G'=>∃ v,u=.tuple #[v,vi (if (fZ l flow).isSome=true then (if res.isSome=true then 0 else 8) else 8)]∧ah G' (.sl 2 ((if (fZ l flow).isSome=true then (res.getD []).reverse else []).map fu)) v):=by
 have hml:4294967297≤maxLen:=by decide
 refine eN [(0,_),(1,_)] Tryz.func18 rfl Tryz.ntmps18 rfl rfl hG ?_;intro a H;refine aY (fun _ K1=>?_);refine bY (cs:=[_,_,_,_,_,_,_,_,_,_,_]) H wn rfl rfl rfl ?_;clear H;intro b2 a w hb2 H;refine kH H (Ra rfl (Ra rfl (Kz K1 (SQ fun _ K2=>SR fun _ K3=>?_))));clear H K1;intro a H;refine aK iq (cs:=[_,_,_,_,_,_,_,_,_,_,_]) H wn rfl rfl (H.hp.bF 0 rfl rfl) rfl ?_;clear H;intro a H;refine kH H (Rm rfl ?_);clear H;intro a H;refine s_call F7 H wn rfl (GA _ _ H.hp.ro D l flow hv hz) rfl ?_;clear H;rintro v14 qV a w ⟨v,rfl,hr⟩ rM H;refine kH H (Rm rfl ?_);clear H;intro a H;(iterate 2 refine gV H wn rfl rfl rfl ?_;clear H;intro a H);refine kH H (Ra rfl (Ra rfl (Kz K3 (SR fun _ K4=>Rm rfl (Rn rfl (Kz K4 (Cd rfl ?_ ?_))))))) <;> clear H K3 K4
 ·intro h18 a H
  try have oZ:=dT h18
  refine kP H (SR fun _ K5=>Ra rfl (Ra rfl (Kz K5 ?_)));clear H K5;intro a H;refine aR ?_;refine (bU H Tryz.results18 (.cons (aF H rfl) (.cons (aF H rfl) .nil)) ?_).1;exact H.hp.ret ⟨_,by rw [if_neg (by simpa using h18)],by rw [if_neg (by simpa using h18)];exact ah.gq rfl (by decide)⟩
 intro h18 a H
 try have oZ:=dF h18
 refine kP H (Kc K2 (SR fun _ K6=>Ra rfl (Kz K6 (SQ fun _ K7=>SB ?_))));clear H K2 K6;intro a H;skip;refine d9 (ι:=Nat × Int × List (Int × Int) × Value × List Value × OL × GH) (Tc:=[(2,_)]) (Lc:=[(_,_)]) (fun (gh:Nat × Int × List (Int × Int) × Value × List Value × OL × GH)=>[(1,vi gh.2.1),(8,gh.2.2.2.1)]) (fun (gh:Nat × Int × List (Int × Int) × Value × List Value × OL × GH)=>[]++gh.2.2.2.2.2.1) (fun (gh:Nat × Int × List (Int × Int) × Value × List Value × OL × GH)=>gh.2.2.2.2.2.2) (fun (gh:Nat × Int × List (Int × Int) × Value × List Value × OL × GH)=>(∀ b o,qV b=some o→gh.2.2.2.2.2.2 b=some o)∧eB 45 2 gh.2.2.2.1 gh.2.2.1.length gh.2.2.2.2.1 gh.2.2.2.2.2.1∧eU gh.2.2.2.2.2.2 2 (gh.2.2.1.map fu) gh.2.2.2.2.1∧(∃ r,ig l gh.1 gh.2.1=some r∧res=r.map (gh.2.2.1++·))∧gh.1+gh.2.2.1.length≤n) (fun (gh:Nat × Int × List (Int × Int) × Value × List Value × OL × GH)=>gh.1) ((n,flow,[],.slice none 0 0,[],[],qV)) (by exact (H).sub ⟨rfl,rfl,rfl,trivial⟩) ?_ ?_
 ·exact ⟨fun _ _ h=>h,eB.nil,eU.nil,⟨res,hp (by simpa using h18),by cases res <;> simp⟩,by simp⟩
 clear H;intro gh a w hI H;obtain ⟨k,f,ps,v8,xs,Lo,g⟩:=gh;dsimp only at hI H;obtain ⟨hgm,hrw,gI,⟨r,hr1,hr2⟩,hkn⟩:=hI
 obtain ⟨k2,rfl⟩:∃ k2,k=k2+1:=by cases k with|zero=>simp [ig] at hr1|succ k=>exact ⟨k,rfl⟩
 rw [ig] at hr1;dsimp only [List.cons_append,List.nil_append,List.append_nil] at H;refine kP H (SQ fun _ K8=>SR fun _ K9=>Rm rfl (Rc rfl (Kz K9 (Cd rfl ?_ ?_)))) <;> clear H K9
 ·intro h20 a H
  try have mq:=dT h20
  refine kP H (Kc K8 (SB (SR fun _ aH=>?_)));clear H K8;intro a H;refine aK iq (cs:=[_,_,_,_,_,_,_,_,_,_,_]) H wn rfl rfl (H.hp.bF 0 rfl rfl) rfl ?_;clear H;intro a H;refine kH H (Rm rfl ?_);clear H;intro a H;refine s_call PZ H wn rfl (TA _ _ H.hp.ro D l f (hv.mono fun b o h=>hgm b o (rM b o h)) hz) rfl ?_;clear H;rintro v24 zB a w rfl uw H;refine kH H (Rm rfl ?_);clear H;intro a H;(iterate 2 refine gV H wn rfl rfl rfl ?_;clear H;intro a H);refine bX bN H wn rfl ?_;clear H;intro b9 a w rH H;refine aP bN 0 (vs:=[_,_]) _ H wn rfl rfl rfl rfl rfl rfl rfl rfl ?_;clear H;intro w H;dsimp only [List.set,setRow] at H;refine kH H (Ra rfl (Kz aH (SQ fun _ aX=>SR fun _ bD=>Rm rfl (Rn rfl (Kz bD (Cd rfl ?_ ?_)))))) <;> clear H aH bD
  ·intro bW a H
   try have p28:=dT bW
   refine kP H (SR fun _ bH=>Ra rfl (Ra rfl (Kz bH ?_)));clear H bH;intro a H;refine aR ?_;refine (bU H Tryz.results18 (.cons (aF H rfl) (.cons (aF H rfl) .nil)) ?_).1
   have hpn:jc l f=none:=by simpa using bW
   rw [if_neg mq,hpn] at hr1
   simp only [Option.some.injEq] at hr1
   subst hr1
   simp only [Option.map_none] at hr2
   exact H.hp.ret ⟨_,by rw [hr2];split <;> rfl,by rw [hr2];split <;> exact ah.gq rfl (by decide)⟩
  intro bW a H
  try have p28:=dF bW
  refine kP H (Kc aX (SR fun _ bG=>Rm rfl ?_));clear H aX;intro a H;refine aK bN (cs:=[_,_]) H wn rfl rfl (H.hp.bF 0 rfl rfl) rfl ?_;clear H;intro a H;refine fM jB bN [_,_] [_,_] H wn rfl rfl rfl rfl rfl (by intro i q h;match i,h with|0,h=>exact h|n+1,h=>simp at h) rfl rfl ?_;clear H;intro V3 a w aaU H;refine sF (Li:=[_,_,_]) (Lo:=Lo) (news:=[vi ((jc l f).getD (0,0)).1,vi ((jc l f).getD (0,0)).2]) jB bN rfl rfl H wn rfl rfl hrw rfl (H.hp.bF 0 rfl rfl) rfl (by omega) (by omega) rfl ?_;clear H;intro v32 Jk a w Ms H;refine kH H (Ra rfl (Kz bG (SC (Rf qC rfl (Ro ak 1 rfl rfl (Ra rfl ?_))))));clear H bG;intro a H;refine au ?_;refine dD ((k2,((jc l f).getD (0,0)).1,ps++[(jc l f).getD (0,0)],v32,xs++[vi ((jc l f).getD (0,0)).1,vi ((jc l f).getD (0,0)).2],Jk,zB)) (by exact (H.bL (Pl:=[_,_,_]) (bB:=[_]) [2] (by decide) rfl).sub ⟨rfl,rfl,rfl,trivial⟩) ?_ ?_
  ·(try dsimp only);refine ⟨fun b o h=>uw b o (hgm b o h),by simpa using Ms,?_,?_,by simp;omega⟩
   ·rw [List.map_append];exact (gI.mono uw).snoc ⟨_,_,rfl,⟨rfl,rfl⟩,_,_,rfl,⟨rfl,rfl⟩,rfl⟩ rfl
   obtain ⟨p,hpp⟩:=Option.isSome_iff_exists.1 (by simpa using bW:(jc l f).isSome=true);rw [hpp] at hr1 ⊢
   simp only [if_neg mq] at hr1
   cases hq:ig l k2 p.1 with
   | none=>rw [hq] at hr1;cases hr1
   | some r2=>rw [hq] at hr1;simp only [Option.some.injEq] at hr1;subst hr1;exact ⟨r2,by simpa using hq,by rw [hr2];cases r2 <;> simp⟩
  first|omega|(dsimp only;omega)
 intro h20 a H
 try have mq:=dF h20
 have hf0:f=0:=Decidable.not_not.1 mq;rw [if_pos hf0] at hr1
 simp only [Option.some.injEq] at hr1
 subst hr1
 simp only [Option.map_some,List.append_nil] at hr2
 obtain rfl:=adu gI;obtain ⟨v8A,v8c,rfl,-,-⟩:=hrw.shape;refine dL ?_;refine K7 _ _ ?_;clear K7;refine kP H (SR fun _ bV=>Rm rfl ?_);clear H;intro a H;refine gy P5 (Li:=[_]) (L:=Lo) H wn rfl (adR ps (Hp.owns (Li:=[_]) H.hp) hrw) rfl ?_;clear H;intro v36 Vy L36 a w abI abl H;obtain ⟨Gr,hmr,hrep,H⟩:=St.rz (Li:=[_]) H abI (rows:=ps.reverse.map fu) (by simp) (SX _ _);refine bV _ _ ?_;clear bV;refine kP H (SR fun _ bQ=>Rm rfl (Ra rfl (Ra rfl (Kz bQ ?_))));clear H bQ;intro a H;refine aR ?_;refine (bU H Tryz.results18 (.cons (aF H rfl) (.cons (aF H rfl) .nil)) ?_).1
 have hfs:(fZ l flow).isSome=true:=by simpa using h18
 exact H.hp.ret ⟨_,by rw [if_pos hfs,hr2];rfl,by rw [if_pos hfs,hr2];exact hrep⟩
theorem acv (G:GH) (w0:World) (hG:Hold G w0) (D:jh) (l:List aj) (f t flow:Int) (hv:ah G (.sl 11 (l.map aj.dat)) (dY D.f)) (hz:aS l≤4294967296) (n:Nat) (hn:n≤4294967296) (res:Option (List (Int × Int))) (hp:(fZ l f).isSome=true→ig l n f=some res) (h1:∀ ps,res=some ps→ps.length≤4294967296) :
  Calls Tryz.prog 19 #[D.val,.agg #[vi f,vi t],vi flow] w0 (aU w0 G fun u G'=>u=.tuple #[vi ((iU l f t flow (if (fZ l f).isSome=true then (res.getD []).reverse else [])).getD 0),.bool (iU l f t flow (if (fZ l f).isSome=true then (res.getD []).reverse else [])).isSome]):=by
 have hps:(if (fZ l f).isSome=true then (res.getD []).reverse else []).length≤4294967296:=by
  split
  ·cases res with
   | none=>simp
   | some ps=>simpa using h1 ps rfl
  simp
 obtain ⟨ps,hpe⟩:∃ ps,ps=(if (fZ l f).isSome=true then (res.getD []).reverse else []):=⟨_,rfl⟩;rw [← hpe] at hps ⊢;refine eN [(0,_),(1,_),(2,_)] Tryz.func19 rfl Tryz.ntmps19 rfl rfl hG ?_;intro a H;refine aY (fun _ K1=>?_);refine bY (cs:=[_,_,_,_,_,_,_,_,_,_,_]) H wn rfl rfl rfl ?_;clear H;intro b3 a w hb3 H;refine bY (cs:=[_,_]) H wn rfl rfl rfl ?_;clear H;intro b4 a w hb4 H;refine kH H (Ra rfl (Ra rfl (Kz K1 (SQ fun _ K2=>SR fun _ K3=>?_))));clear H K1;intro a H;refine aK iq (cs:=[_,_,_,_,_,_,_,_,_,_,_]) H wn rfl rfl (H.hp.bF 1 rfl rfl) rfl ?_;clear H;intro a H;refine aK bN (cs:=[_,_]) H wn rfl rfl (H.hp.bF 0 rfl rfl) rfl ?_;clear H;intro a H;refine s_call J3 H wn rfl (JF _ _ H.hp.ro D l f t hv hz) rfl ?_;clear H;rintro v14 qV a w rfl rM H;refine kH H (Rc rfl (Kz K3 (Cd rfl ?_ ?_))) <;> clear H K3
 ·intro iM a H
  try have kQ:=dT iM
  refine kP H (SR fun _ K4=>Ra rfl (Ra rfl (Kz K4 ?_)));clear H K4;intro a H;refine aR ?_;refine (bU H Tryz.results19 (.cons (aF H rfl) (.cons (aF H rfl) .nil)) ?_).1;exact H.hp.ret (by rw [iU,if_neg kQ];rfl)
 intro iM a H
 try have kQ:=dF iM
 refine kP H (Kc K2 (SQ fun _ K5=>SR fun _ K6=>Rf qC rfl (Ro ak 0 rfl rfl (Rm rfl (Rc rfl (Kz K6 (Cd rfl ?_ ?_))))))) <;> clear H K2 K6
 ·intro h19 a H
  try have j6:=dT h19
  refine kP H (SR fun _ K7=>Rf vK rfl (Ro ak 0 rfl rfl (Ra rfl (Ra rfl (Kz K7 ?_)))));clear H K7;intro a H;refine aR ?_;refine (bU H Tryz.results19 (.cons (aF H rfl) (.cons (aF H rfl) .nil)) ?_).1;exact H.hp.ret (by rw [iU,if_pos (by omega),if_pos j6];rfl)
 intro h19 a H
 try have j6:=dF h19
 refine eX ?_;refine K5 _ _ ?_;clear K5;refine aY (fun _ K8=>?_);refine aK iq (cs:=[_,_,_,_,_,_,_,_,_,_,_]) H wn rfl rfl (H.hp.bF 1 rfl rfl) rfl ?_;clear H;intro a H;refine kH H (Rf qC rfl (Ro ak 0 rfl rfl ?_));clear H;intro a H;refine s_call F6 H wn rfl (Tm _ _ H.hp.ro D l f (hv.mono rM) hz n hn res hp) rfl ?_;clear H;rintro v26 Jd a w ⟨v,rfl,hrep⟩ abk H;rw [← hpe] at hrep;obtain ⟨vA,vn,vc,rfl⟩:=hrep.form;have EC:=hrep.len;rw [List.length_map] at EC;refine kH H (Rm rfl ?_);clear H;intro a H;(iterate 2 refine gV H wn rfl rfl rfl ?_;clear H;intro a H);refine kH H (Ra rfl (Ra rfl (Kz K8 (SQ fun _ K9=>SR fun _ aH=>Rm rfl (Rl jB rfl (Rm rfl (Kz aH (SB ?_))))))));clear H K8 aH;intro a H;skip;refine d9 (ι:=Nat) (Tc:=[(2,_),(29,_),(30,_)]) (Lc:=[(_,_),(_,_)]) (fun (gh:Nat)=>[(31,vi gh)]) (fun (gh:Nat)=>[]) (fun (gh:Nat)=>Jd) (fun (gh:Nat)=>gh≤ps.length∧(ps.take gh).find? (fun q=>decide (q.1=flow))=none) (fun (gh:Nat)=>ps.length - gh) (0) (by exact (H).sub ⟨rfl,rfl,rfl,rfl,trivial⟩) ?_ ?_
 ·exact ⟨by omega,rfl⟩
 clear H;intro gh a w hI H;obtain ⟨k,hgh⟩:∃ x,x=gh:=⟨_,rfl⟩;subst hgh;obtain ⟨hk,hno⟩:=hI;dsimp only [List.cons_append,List.nil_append,List.append_nil] at H;refine kP H (SR fun _ aX=>Rc rfl (Kz aX (SQ fun _ bD=>Cd rfl ?_ ?_))) <;> clear H aX
 ·intro h32 a H
  try have p32:=dT h32
  have hk2:k < ps.length:=by omega
  obtain ⟨b,o,cs,rfl,hcl,hrow,hr⟩:=hrep.at_ k (fu ps[k]) (by simp [hk2]);obtain rfl:=Ck hr;refine kP H (Kc bD (SQ fun _ bH=>SB (SR fun _ bG=>Ri jB bN rfl rfl ?_)));clear H bD;intro a H;refine aK bN (cs:=[_,_]) H wn rfl rfl (fun j v hj=>H.hp.aB (hrow j v hj)) rfl ?_;clear H;intro a H;refine bX bN H wn rfl ?_;clear H;intro b11 a w yO H;refine aP bN 0 (vs:=[_,_]) _ H wn rfl rfl rfl rfl rfl rfl rfl rfl ?_;clear H;intro w H;dsimp only [List.set,setRow] at H;refine bG _ _ ?_;clear bG;refine kP H (SR fun _ bV=>Rf qC rfl (Ro ak 0 rfl rfl (Rm rfl (Rc rfl (Kz bV (Cd rfl ?_ ?_)))))) <;> clear H bV
  ·intro uh a H
   try have p38:=dT uh
   refine kP H (SR fun _ bQ=>Rf vK rfl (Ro ak 0 rfl rfl (Ra rfl (Ra rfl (Kz bQ ?_)))));clear H bQ;intro a H;refine aR ?_;refine (bU H Tryz.results19 (.cons (aF H rfl) (.cons (aF H rfl) .nil)) ?_).1;exact H.hp.ret (by rw [iU,if_pos (by omega),if_neg j6,D8 hk2 hno uh];rfl)
  intro uh a H
  try have p38:=dF uh
  refine kP H (Kc bH (SC (Rd rfl (Rm rfl ?_))));clear H bH;intro a H;refine au ?_;refine dD ((k+1)) (by exact (H.bL (Pl:=[_,_,_]) (bB:=[_,_]) [1,2] (by decide) rfl).sub ⟨rfl,rfl,rfl,rfl,trivial⟩) ?_ ?_
  ·exact ⟨by omega,Gx hk2 hno uh⟩
  first|omega|(dsimp only;omega)
 intro h32 a H
 try have p32:=dF h32
 refine dL ?_;refine K9 _ _ ?_;clear K9;refine kP H (SR fun _ bS=>Ra rfl (Ra rfl (Kz bS ?_)));clear H bS;intro a H;refine aR ?_;refine (bU H Tryz.results19 (.cons (aF H rfl) (.cons (aF H rfl) .nil)) ?_).1;exact H.hp.ret (by rw [show ps.take k=ps from List.take_of_length_le (by omega)] at hno;rw [iU,if_pos (by omega),if_neg j6,hno];rfl)
end
section
open Go.RowKit
theorem aau {G:GH} {b:Nat} {cs:List Value} {e:TypeId} {q:Nat × Nat} (h:G b=some (.cells cs.toArray e q)) (k:Nat) (ds:List Value) (hd:ds=(cs.drop k).take ds.length) (j:Nat) (v:Value) (hj:ds[j]?=some v):aB G b (k+j)=some v:=by
 unfold aB
 rw [h]
 show cs.toArray[k+j]?=some v
 rw [hd,List.getElem?_take] at hj
 split at hj
 ·simpa using hj
 cases hj
end
section
open Go.RowKit
theorem J4:∀ args w,(callFunc 20 args).run Tryz.prog w=.ok (.enter 20 args) w:=enters Tryz.func20 rfl (by kernel_rfl)
theorem afG (x:aj) (l:List aj):bP x.dat+aS l≤aS (x :: l):=by simp only [aS,List.map_cons,dw];omega
theorem afJ (x:aN) (l:List aN):bP x.dat+fI l≤fI (x :: l):=by simp only [fI,List.map_cons,dw];omega
theorem afE (x:aJ) (l:List aJ):bP x.dat+jg l≤jg (x :: l):=by simp only [jg,List.map_cons,dw];omega
mutual
def xO (g:Int) (t:Nat) (flow:Int):aj→Option (List (Int × Int))
 | .mk k _ i _ _ fl r=>if k=6 then (if i=flow then some [] else o7 i 0 flow fl).map ((g,(t:Int)) :: ·) else if k=7 then (lq flow r).map ((g,(t:Int)) :: ·) else none
/-- The containers of a flow, from a flow's own on, as the model finds them. -/
def o7 (g:Int) (t:Nat) (flow:Int):List aj→Option (List (Int × Int))
 | []=>none
 | x :: l=>(xO g t flow x).or (o7 g (t+n1 x) flow l)
def lq (flow:Int):List aN→Option (List (Int × Int))
 | []=>none
 | x :: l=>(xP flow x).or (lq flow l)
def xP (flow:Int):aN→Option (List (Int × Int))
 | .mk _ cs=>mD flow cs
def mD (flow:Int):List aJ→Option (List (Int × Int))
 | []=>none
 | x :: l=>(xM flow x).or (mD flow l)
def xM (flow:Int):aJ→Option (List (Int × Int))
 | .mk i _ fl=>if i=flow then some [] else o7 i 0 flow fl
end
def cB (g flow:Int) (l:List aj):Option (List (Int × Int)):=if g=flow then some [] else o7 g 0 flow l
theorem adj (g:Int) (t:Nat) (flow:Int) (x:aj):xO g t flow x=if x.kind=6 then (cB x.id flow x.flow).map ((g,(t:Int)) :: ·) else if x.kind=7 then (lq flow x.rows).map ((g,(t:Int)) :: ·) else none:=by cases x;rw [xO];rfl
theorem adk (flow:Int) (x:aN):xP flow x=mD flow x.cells:=by cases x;rw [xP];rfl
theorem adi (flow:Int) (x:aJ):xM flow x=cB x.id flow x.flow:=by cases x;rw [xM];rfl
theorem H7 {α:Type} {o:Option (List α)} {a:α} {ps:List α} (h:o.map (a :: ·)=some ps):∃ q,o=some q∧ps=a :: q:=by
 cases o with
 | none=>cases h
 | some q=>exact ⟨q,rfl,(Option.some.inj h).symm⟩
mutual
theorem adn (g:Int) (t:Nat) (flow:Int):∀ (x:aj) (ps:List (Int × Int)),xO g t flow x=some ps→ps.length≤bP x.dat
 | .mk k c i tx h fl r,ps,e=>by
  have h4:=lF (.mk k c i tx h fl r);dsimp only [aj.text,aj.head,aj.flow,aj.rows] at h4;have hf:=Ig i 0 flow fl;have hr:=Tx flow r;rw [xO] at e
  split at e
  ·obtain ⟨q,e1,rfl⟩:=H7 e
   split at e1
   ·cases e1;simp only [List.length_cons,List.length_nil];omega
   have:=hf q e1;rw [List.length_cons];omega
  split at e
  ·obtain ⟨q,e1,rfl⟩:=H7 e;have:=hr q e1;rw [List.length_cons];omega
  cases e
theorem Ig (g:Int) (t:Nat) (flow:Int):∀ (l:List aj) (ps:List (Int × Int)),o7 g t flow l=some ps→ps.length≤aS l
 | [],ps,e=>by rw [o7] at e;cases e
 | x :: l,ps,e=>by
  have hx:=adn g t flow x;have hl:=Ig g (t+n1 x) flow l;rw [o7,Option.or_eq_some_iff] at e;have hz:=afG x l
  rcases e with e|⟨-,e⟩
  ·have:=hx ps e;omega
  have:=hl ps e;omega
theorem Tx (flow:Int):∀ (l:List aN) (ps:List (Int × Int)),lq flow l=some ps→ps.length≤fI l
 | [],ps,e=>by rw [lq] at e;cases e
 | x :: l,ps,e=>by
  have hx:=ado flow x;have hl:=Tx flow l;rw [lq,Option.or_eq_some_iff] at e;have hz:=afJ x l
  rcases e with e|⟨-,e⟩
  ·have:=hx ps e;omega
  have:=hl ps e;omega
theorem ado (flow:Int):∀ (x:aN) (ps:List (Int × Int)),xP flow x=some ps→ps.length≤bP x.dat
 | .mk h cs,ps,e=>by
  have h4:=tF (.mk h cs);dsimp only [aN.head,aN.cells] at h4;rw [xP] at e;have:=Tw flow cs ps e
  omega
theorem Tw (flow:Int):∀ (l:List aJ) (ps:List (Int × Int)),mD flow l=some ps→ps.length≤jg l
 | [],ps,e=>by rw [mD] at e;cases e
 | x :: l,ps,e=>by
  have hx:=adl flow x;have hl:=Tw flow l;rw [mD,Option.or_eq_some_iff] at e;have hz:=afE x l
  rcases e with e|⟨-,e⟩
  ·have:=hx ps e;omega
  have:=hl ps e;omega
theorem adl (flow:Int):∀ (x:aJ) (ps:List (Int × Int)),xM flow x=some ps→ps.length≤bP x.dat
 | .mk i h fl,ps,e=>by
  have h4:=u6 (.mk i h fl);dsimp only [aJ.head,aJ.flow] at h4;rw [xM] at e
  split at e
  ·cases e;simp
  have:=Ig i 0 flow fl ps e;omega
end
theorem Ic {g flow:Int} {l:List aj} {ps:List (Int × Int)} (e:cB g flow l=some ps):ps.length≤aS l:=by
 unfold cB at e
 split at e
 ·cases e;simp
 exact Ig g 0 flow l ps e
def Jo (m:Nat):Prop:=∀ (G:GH) (w0:World),Hold G w0→∀ (g flow:Int) (l:List aj) (u:Value),ah G (.sl 11 (l.map aj.dat)) u→fP l→aS l < m →
 Calls Tryz.prog 20 #[vi g,u,vi flow] w0 (aU w0 G fun r G'=>∃ v,r=.tuple #[v,.bool (cB g flow l).isSome]∧ah G' (.sl 2 (((cB g flow l).getD []).map fu)) v)
theorem QY {b:Nat} {p q:Int}:eB 45 2 (.slice (some ⟨b,0,none⟩) 1 1) 1 [vi p,vi q] [(b,.cells #[vi p,vi q] 45 (0,0))] :=
 ⟨rfl,.inr ⟨b,1,_,rfl,rfl,Nat.le_refl _,by decide,rfl,rfl⟩⟩
theorem Ug {G:GH} {e n:Nat} {o:Option (List (Int × Int))} {v:Value} {p:Int × Int} {r:List (Int × Int)} {news:List Value} {Lo:OL} (hr:o=some r) (h:eB e 2 v (1+n) ([vi p.1,vi p.2]++news) Lo) (hn:r.length=n) (hc:eU G 2 (r.map fu) news) :
  eB e 2 v ((p :: r).map fu).length ([vi p.1,vi p.2]++news) Lo∧eU G 2 ((p :: r).map fu) ([vi p.1,vi p.2]++news):=by
 refine ⟨by rw [List.length_map,List.length_cons,hn,Nat.add_comm];exact h,?_⟩
 have h1:eU G 2 [fu p] [vi p.1,vi p.2]:=by
  have:=(eU.nil (G:=G) (sz:=2)).snoc (q:=fu p) (cs:=[vi p.1,vi p.2]) ⟨_,_,rfl,⟨rfl,rfl⟩,_,_,rfl,⟨rfl,rfl⟩,rfl⟩ rfl
  simpa using this
 rw [List.map_cons,← List.singleton_append];exact h1.append hc
set_option maxHeartbeats 4000000 in
theorem acJ {m:Nat} (ih:Jo m) (hm:m≤4294967296):Jo (m+1):=by
 intro G w0 hG g flow l u hu hok hz;obtain ⟨A,c,rfl,hc1,hc2,hgu⟩:=hu.slice;rw [List.length_map] at *;have hll:=CW l;have hml:maxLen=9223372036854775807:=rfl;refine eN [(0,_),(1,_),(2,_)] Tryz.func20 rfl Tryz.ntmps20 rfl rfl hG ?_;intro a H;refine kP H (SR fun _ K1=>Ra rfl (Ra rfl (Kz K1 (SQ fun _ K2=>SR fun _ K3=>Rm rfl (Rm rfl (Rc rfl (Kz K3 (Cd rfl ?_ ?_)))))))) <;> clear H K1 K3
 ·intro h20 a H
  try have mq:=dT h20
  refine kP H (SR fun _ K4=>Ra rfl (Ra rfl (Kz K4 ?_)));clear H K4;intro a H;refine aR ?_;refine (bU H Tryz.results20 (.cons (aF H rfl) (.cons (aF H rfl) .nil)) ?_).1;exact H.hp.ret ⟨_,by rw [cB,if_pos mq];rfl,by rw [cB,if_pos mq];exact ah.gq rfl (by decide)⟩
 intro h20 a H
 try have mq:=dF h20
 refine kP H (Kc K2 (SR fun _ K5=>Ra rfl (Kz K5 (SQ fun _ K6=>SR fun _ K7=>Ra rfl (Kz K7 (SB ?_))))));clear H K2 K5 K7;intro a H;skip;refine d9 (ι:=Nat × Nat × GH) (Tc:=[(0,_),(1,_),(2,_)]) (Lc:=[]) (fun (gh:Nat × Nat × GH)=>[(8,vi gh.2.1),(9,vi gh.1)]) (fun (gh:Nat × Nat × GH)=>[]) (fun (gh:Nat × Nat × GH)=>gh.2.2) (fun (gh:Nat × Nat × GH)=>gh.1≤l.length∧o7 g gh.2.1 flow (l.drop gh.1)=cB g flow l∧fP (l.drop gh.1)∧gh.2.1+aS (l.drop gh.1)≤4294967297∧(∀ b o,G b=some o→gh.2.2 b=some o)) (fun (gh:Nat × Nat × GH)=>l.length - gh.1) ((0,0,G)) (by exact (H).sub ⟨rfl,rfl,rfl,rfl,rfl,trivial⟩) ?_ ?_
 ·exact ⟨Nat.zero_le _,by rw [cB,if_neg mq];rfl,hok,by dsimp only;rw [List.drop_zero];omega,fun _ _ h=>h⟩
 clear H;intro gh a w hI H;obtain ⟨k,at_,g1⟩:=gh;dsimp only at hI H;obtain ⟨hk,hX,hok1,hat,hg1⟩:=hI;dsimp only [List.cons_append,List.nil_append,List.append_nil] at H;refine kP H (SQ fun _ K8=>SR fun _ K9=>Rm rfl (Rm rfl (Rl jO rfl (Rc rfl (Kz K9 (Cd rfl ?_ ?_)))))) <;> clear H K9
 ·intro dM a H
  try have jA:=dT dM
  have hk2:k < l.length:=by omega
  obtain ⟨b,o,pA,pn,pc,dA,dn,dc,yA,yn,yc,fA,fn,fc,rA,rn,rc,rfl,hrow,hhd,hfl,hrw⟩:=BD hk2 hgu;replace hrow:=fun j u hj=>aD hg1 (hrow j u hj);replace hfl:=hfl.mono hg1;replace hrw:=hrw.mono hg1;have hrn:=hrw.len;rw [List.length_map] at hrn;subst hrn;have hzs:=afF hk2;have hzi:=lF l[k];have RY:=Ja (List.getElem_mem hk2);have Hl:=ae1 l[k];rw [List.drop_eq_getElem_cons hk2] at hX hok1;obtain ⟨hox,hok2⟩:=hok1.head;rw [o7,adj,hox.n1] at hX;obtain ⟨x,hx⟩:∃ x,x=l[k]:=⟨_,rfl⟩;rw [← hx] at hX hox hrow hhd hfl hrw hzs hzi RY Hl;have hrl:=CX x.rows;refine kP H (Kc K8 (SQ fun _ aH=>SB (SR fun _ aX=>Rm rfl (Rm rfl ?_))));clear H K8;intro a H;refine iP wo [_,_] H wn rfl rfl rfl rfl ?_;clear H;intro a H;refine bX bN H wn rfl ?_;clear H;intro b10 a w BJ H;refine aP bN 0 (vs:=[_,_]) _ H wn rfl rfl rfl rfl rfl rfl rfl rfl ?_;clear H;intro w H;dsimp only [List.set,setRow] at H;obtain ⟨Ga,hma,BJ,H⟩:=H.dB;have Q5:=fun j v hj=>aau BJ 0 [vi g,vi at_] rfl j v hj;replace hrow:=fun j u hj=>aD hma (hrow j u hj);replace hfl:=hfl.mono hma;replace hrw:=hrw.mono hma;have r0:aB Ga b (o+k*11+0)=some (vi x.kind):=hrow 0 _ rfl;have r10:aB Ga b (o+k*11+10)=some (.slice rA x.rows.length rc):=hrow 10 _ rfl;refine aX _ _ ?_;clear aX;refine qW (ι:=GH) (Tc:=[(0,_),(1,_),(2,_),(8,_),(9,_),(10,_)]) (Lc:=[]) (fun (gh:GH)=>[]) (fun (gh:GH)=>[]) (fun (gh:GH)=>gh) (fun (gh:GH)=>(x.kind=6→cB x.id flow x.flow=none)∧(∀ b o,Ga b=some o→gh b=some o)) (by exact (H).sub ⟨rfl,rfl,rfl,rfl,rfl,rfl,trivial⟩) ?_ ?_
  ·skip;refine aQ (fun _ bD=>?_);skip;refine kP H (SC (Rm rfl (Rm rfl (Ri jO dH rfl rfl (Rf jJ rfl (Rg ak rfl (by assumption) ?_))))));clear H;intro a H;refine kH H (Rc rfl (Kn bD (Cd rfl ?_ ?_))) <;> clear H bD
   ·intro jM a H
    try have p35:=dT jM
    refine aQ (fun _ bH=>?_)
    have om:∀ (aC:Nat) (v:Value) (G G':GH),(∀ k o,G k=some o→G' k=some o)→(fun (aC:Nat) (v:Value) (G:GH)=>match aC with|0=>v=.slice (some ⟨b,o,none⟩) l.length c|1=>v=vi k|2=>v=.pointer (some ⟨b,o+k*11,none⟩)|3=>v=.pointer (some ⟨b,o+k*11+2,none⟩)|4=>v=vi x.id|5=>v=.slice (some ⟨b,o,none⟩) l.length c|6=>v=vi k|7=>v=.pointer (some ⟨b,o+k*11,none⟩)|8=>v=.pointer (some ⟨b,o+k*11+9,none⟩)|9=>v=.slice fA fn fc|10=>v=vi flow|11=>∃ y,v=.tuple #[y,.bool (cB x.id flow x.flow).isSome]∧ah G (.sl 2 (((cB x.id flow x.flow).getD []).map fu)) y|12=>∃ y,v=.tuple #[y,.bool (cB x.id flow x.flow).isSome]∧ah G (.sl 2 (((cB x.id flow x.flow).getD []).map fu)) y|13=>ah G (.sl 2 (((cB x.id flow x.flow).getD []).map fu)) v|14=>v=.bool (cB x.id flow x.flow).isSome|15=>ah G (.sl 2 (((cB x.id flow x.flow).getD []).map fu)) v|_=>True) aC v G→(fun (aC:Nat) (v:Value) (G:GH)=>match aC with|0=>v=.slice (some ⟨b,o,none⟩) l.length c|1=>v=vi k|2=>v=.pointer (some ⟨b,o+k*11,none⟩)|3=>v=.pointer (some ⟨b,o+k*11+2,none⟩)|4=>v=vi x.id|5=>v=.slice (some ⟨b,o,none⟩) l.length c|6=>v=vi k|7=>v=.pointer (some ⟨b,o+k*11,none⟩)|8=>v=.pointer (some ⟨b,o+k*11+9,none⟩)|9=>v=.slice fA fn fc|10=>v=vi flow|11=>∃ y,v=.tuple #[y,.bool (cB x.id flow x.flow).isSome]∧ah G (.sl 2 (((cB x.id flow x.flow).getD []).map fu)) y|12=>∃ y,v=.tuple #[y,.bool (cB x.id flow x.flow).isSome]∧ah G (.sl 2 (((cB x.id flow x.flow).getD []).map fu)) y|13=>ah G (.sl 2 (((cB x.id flow x.flow).getD []).map fu)) v|14=>v=.bool (cB x.id flow x.flow).isSome|15=>ah G (.sl 2 (((cB x.id flow x.flow).getD []).map fu)) v|_=>True) aC v G':=by
     intro aC v G G' hm h
     match aC,h with
     | 0,h=>exact h
     | 1,h=>exact h
     | 2,h=>exact h
     | 3,h=>exact h
     | 4,h=>exact h
     | 5,h=>exact h
     | 6,h=>exact h
     | 7,h=>exact h
     | 8,h=>exact h
     | 9,h=>exact h
     | 10,h=>exact h
     | 11,h=>exact let ⟨y,h1,h2⟩:=h;⟨y,h1,h2.mono hm⟩
     | 12,h=>exact let ⟨y,h1,h2⟩:=h;⟨y,h1,h2.mono hm⟩
     | 13,h=>exact ah.mono hm h
     | 14,h=>exact h
     | 15,h=>exact ah.mono hm h
     | 16,h=>exact trivial
     | _+17,h=>exact trivial
    refine dz (hmx) [[],[],[0,1],[0,1,2],[0,1,2,3],[],[],[5,6],[5,6,7],[5,6,7,8],[],(List.range 11),(List.range 12),(List.range 13),(List.range 13),(List.range 14),(List.range 16)] [16] (by kernel_rfl) (by kernel_rfl) (fun (aC:Nat) (v:Value) (G:GH)=>match aC with|0=>v=.slice (some ⟨b,o,none⟩) l.length c|1=>v=vi k|2=>v=.pointer (some ⟨b,o+k*11,none⟩)|3=>v=.pointer (some ⟨b,o+k*11+2,none⟩)|4=>v=vi x.id|5=>v=.slice (some ⟨b,o,none⟩) l.length c|6=>v=vi k|7=>v=.pointer (some ⟨b,o+k*11,none⟩)|8=>v=.pointer (some ⟨b,o+k*11+9,none⟩)|9=>v=.slice fA fn fc|10=>v=vi flow|11=>∃ y,v=.tuple #[y,.bool (cB x.id flow x.flow).isSome]∧ah G (.sl 2 (((cB x.id flow x.flow).getD []).map fu)) y|12=>∃ y,v=.tuple #[y,.bool (cB x.id flow x.flow).isSome]∧ah G (.sl 2 (((cB x.id flow x.flow).getD []).map fu)) y|13=>ah G (.sl 2 (((cB x.id flow x.flow).getD []).map fu)) v|14=>v=.bool (cB x.id flow x.flow).isSome|15=>ah G (.sl 2 (((cB x.id flow x.flow).getD []).map fu)) v|_=>True) om H ?_ ?_
    ·clear H;refine av ?_ ?_ ?_ ?_ (av ?_ ?_ ?_ ?_ (av ?_ ?_ ?_ ?_ (av ?_ ?_ ?_ ?_ (bq (aT rfl) dh))))
     ·refine dx [] rfl trivial (by kernel_rfl) om rfl rfl ?_;intro bC a w G1 hG HT H fin;exact kH H (Rm rfl fun _ H=>fin H iJ rfl)
     ·refine dx [] rfl trivial (by kernel_rfl) om rfl rfl ?_;intro bC a w G1 hG HT H fin;exact kH H (Rm rfl fun _ H=>fin H iJ rfl)
     ·refine dx [(0,37,_),(1,38,_)] rfl ⟨fun _ _ h=>h,fun _ _ h=>h,trivial⟩ (by kernel_rfl) om rfl rfl ?_;intro bC a w G1 hG HT H fin;exact kH H (Ri jO dH rfl rfl fun _ H=>fin H iJ rfl)
     ·refine dx [(2,39,_)] rfl ⟨fun _ _ h=>h,trivial⟩ (by kernel_rfl) om rfl rfl ?_;intro bC a w G1 hG HT H fin;exact kH H (Rf wR rfl fun _ H=>fin H iJ rfl)
     ·refine dx [(3,40,_)] rfl ⟨fun _ _ h=>h,trivial⟩ (by kernel_rfl) om rfl rfl ?_;intro bC a w G1 hG HT H fin;exact kH H (Rg ak rfl (aD hG (hrow 2 _ rfl)) fun _ H=>fin H iJ rfl)
     ·refine dx [] rfl trivial (by kernel_rfl) om rfl rfl ?_;intro bC a w G1 hG HT H fin;exact kH H (Rm rfl fun _ H=>fin H iJ rfl)
     ·refine dx [] rfl trivial (by kernel_rfl) om rfl rfl ?_;intro bC a w G1 hG HT H fin;exact kH H (Rm rfl fun _ H=>fin H iJ rfl)
     ·refine dx [(5,42,_),(6,43,_)] rfl ⟨fun _ _ h=>h,fun _ _ h=>h,trivial⟩ (by kernel_rfl) om rfl rfl ?_;intro bC a w G1 hG HT H fin;exact kH H (Ri jO dH rfl rfl fun _ H=>fin H iJ rfl)
     ·refine dx [(7,44,_)] rfl ⟨fun _ _ h=>h,trivial⟩ (by kernel_rfl) om rfl rfl ?_;intro bC a w G1 hG HT H fin;exact kH H (Rf yH rfl fun _ H=>fin H iJ rfl)
     ·refine dx [(8,45,_)] rfl ⟨fun _ _ h=>h,trivial⟩ (by kernel_rfl) om rfl rfl ?_;intro bC a w G1 hG HT H fin;exact kH H (Rg iR rfl (aD hG (hrow 9 _ rfl)) fun _ H=>fin H iJ rfl)
     ·refine dx [] rfl trivial (by kernel_rfl) om rfl rfl ?_;intro bC a w G1 hG HT H fin;exact kH H (Rm rfl fun _ H=>fin H iJ rfl)
     ·refine dx [(4,41,_),(9,46,_),(10,47,_)] rfl ⟨fun _ _ h=>h,fun _ _ h=>h,fun _ _ h=>h,trivial⟩ (by kernel_rfl) om rfl rfl ?_;intro bC a w G1 hG HT H fin;refine s_call J4 H wn rfl (ih _ _ H.hp.ro x.id flow x.flow _ (hfl.mono hG) hox.fl (by omega)) rfl ?_;clear H;rintro v48 G48 a w ⟨AJ,rfl,rU⟩ aaG H;exact fin H aaG (⟨_,rfl,rU⟩)
     ·intro bC a w G1 _ aZ hc hG HT hv;have H:=HT;clear aZ;obtain ⟨u48,abS,RB⟩:=hv 11 48 (hc 11 (by decide)) rfl;(try dsimp only at RB);obtain ⟨AJ,rfl,rU⟩:=RB;have H:=H.kr abS;have Hb:=H.full;have H:=Hb;clear hc;refine kH H (Rm rfl ?_);clear H;intro a H;refine au ⟨rfl,?_⟩;exact iH (by kernel_rfl) om rfl rfl HT Hb hG hv (fun _ _ h=>h) (⟨_,rfl,rU⟩) H
     ·intro bC a w G1 _ aZ hc hG HT hv;have H:=HT;clear aZ;obtain ⟨u36,ME,Ez⟩:=hv 12 36 (hc 12 (by decide)) rfl;(try dsimp only at Ez);obtain ⟨AJ,rfl,rU⟩:=Ez;have H:=H.kr ME;have Hb:=H.full;have H:=Hb;clear hc;refine gV H wn rfl rfl rfl ?_;clear H;intro a H;refine au ⟨rfl,?_⟩;exact iH (by kernel_rfl) om rfl rfl HT Hb hG hv (fun _ _ h=>h) (rU) H
     ·intro bC a w G1 _ aZ hc hG HT hv;have H:=HT;clear aZ;obtain ⟨u36,ME,Ez⟩:=hv 12 36 (hc 12 (by decide)) rfl;(try dsimp only at Ez);obtain ⟨AJ,rfl,rU⟩:=Ez;have H:=H.kr ME;have Hb:=H.full;have H:=Hb;clear hc;refine gV H wn rfl rfl rfl ?_;clear H;intro a H;refine au ⟨rfl,?_⟩;exact iH (by kernel_rfl) om rfl rfl HT Hb hG hv (fun _ _ h=>h) (rfl) H
     intro bC a w G1 _ aZ hc hG HT hv;have H:=HT;clear aZ;obtain ⟨u49,abT,RD⟩:=hv 13 49 (hc 13 (by decide)) rfl;(try dsimp only at RD);have H:=H.kr abT;have Hb:=H.full;have H:=Hb;clear hc;refine kH H (Ra rfl ?_);clear H;intro a H;refine au ⟨rfl,?_⟩;exact iH (by kernel_rfl) om rfl rfl HT Hb hG hv (fun _ _ h=>h) (RD) H
    clear H;intro a w G BG H hv;obtain ⟨u11,MC,uE⟩:=hv 15 11 (by decide) rfl;(try dsimp only at uE);have H:=H.kr MC;have H:=H.aM (hv 14 50 rfl rfl) rfl;clear hv;refine kH H (Ra rfl ?_);clear H;intro a H;refine au ⟨rfl,?_⟩;refine bH _ _ ?_;clear bH;refine kP H (SR fun _ bG=>Rm rfl (Kz bG (Cd rfl ?_ ?_))) <;> clear H bG
    ·intro eF a H
     try have p51:=dT eF
     obtain ⟨ps,hps⟩:=Option.isSome_iff_exists.1 (show (cB x.id flow x.flow).isSome=true by simpa using eF);have hpl:=Ic hps;rw [hps,Option.getD_some] at uE;obtain ⟨yA,yn,yc,rfl⟩:=uE.form;have hyn:=uE.len;rw [List.length_map] at hyn;have LQ:=fun j v hj=>aD BG (Q5 j v hj);refine aY (fun _ bV=>?_);refine aK bN (cs:=[vi g,vi at_]) H wn rfl rfl (fun j v hj=>H.hp.aB (LQ j v hj)) rfl ?_;clear H;intro a H;refine fM jB bN [_,_] [_,_] H wn rfl rfl rfl rfl rfl (by intro i q h;match i,h with|0,h=>exact h|n+1,h=>simp at h) rfl rfl ?_;clear H;intro b53 a w af8 H;refine kH H (Rm rfl ?_);clear H;intro a H;refine Nn (Li:=[]) (Lo:=[_]) jB bN rfl rfl H wn rfl rfl QY uE (by omega) (by omega) rfl ?_;clear H;intro v55 afO agv a w Mt LH H;obtain ⟨Mt,LH⟩:=Ug (p:=(g,(at_:Int))) hps Mt hyn.symm LH;obtain ⟨Gr,hmr,hrep,H⟩:=St.rz (Li:=[]) H Mt rfl LH;refine kH H (Ra rfl (Ra rfl (Kz bV ?_)));clear H bV;intro a H;refine aR ?_;refine (bU H Tryz.results20 (.cons (aF H rfl) (.cons (aF H rfl) .nil)) ?_).1
     have hf:cB g flow l=some ((g,(at_:Int)) :: ps):=by rw [← hX,if_pos p35,hps];rfl
     exact H.hp.ret ⟨_,by rw [hf];rfl,by rw [hf];exact hrep⟩
    intro eF a H
    try have p51:=dF eF
    refine eX ?_;refine ⟨_,by exact (H).sub ⟨rfl,rfl,rfl,rfl,rfl,rfl,trivial⟩,?_⟩;exact ⟨fun _=>by simpa using eF,fun b o h=>BG b o h⟩
   intro jM a H
   try have p35:=dF jM
   refine eX ?_;refine ⟨Ga,by exact (H).sub ⟨rfl,rfl,rfl,rfl,rfl,rfl,trivial⟩,?_⟩;exact ⟨fun h=>absurd h p35,fun _ _ h=>h⟩
  clear H;intro gh a w hI H;obtain ⟨g2,hgh⟩:∃ x,x=gh:=⟨_,rfl⟩;subst hgh;obtain ⟨GZ,hg2⟩:=hI;dsimp only [List.cons_append,List.nil_append,List.append_nil] at H;refine kP H (SQ fun _ bQ=>SR fun _ bS=>Ra rfl (Kz bS (SB ?_)));clear H bS;intro a H;skip;refine d9 (ι:=Nat × GH) (Tc:=[(0,_),(1,_),(2,_),(8,_),(9,_),(10,_)]) (Lc:=[]) (fun (gh:Nat × GH)=>[(13,vi gh.1)]) (fun (gh:Nat × GH)=>[]) (fun (gh:Nat × GH)=>gh.2) (fun (gh:Nat × GH)=>gh.1≤x.rows.length∧(x.kind=7→lq flow (x.rows.drop gh.1)=lq flow x.rows)∧(∀ b o,g2 b=some o→gh.2 b=some o)) (fun (gh:Nat × GH)=>x.rows.length - gh.1) ((0,g2)) (by exact (H).sub ⟨rfl,rfl,rfl,rfl,rfl,rfl,rfl,trivial⟩) ?_ ?_
  ·exact ⟨Nat.zero_le _,fun _=>rfl,fun _ _ h=>h⟩
  clear H;intro gh a w hI H;obtain ⟨rk,g3⟩:=gh;dsimp only at hI H;obtain ⟨Hg,hX2,hg3⟩:=hI;have agw:=aD hg3 (aD hg2 r10);have r0':=aD hg3 (aD hg2 r0);dsimp only [List.cons_append,List.nil_append,List.append_nil] at H;refine kP H (SQ fun _ cO=>SR fun _ dV=>Rm rfl (Rm rfl (Rm rfl (Ri jO dH rfl rfl (Rf tV rfl (Rg uU rfl (by assumption) ?_))))));clear H;intro a H;refine kH H (Rl lV rfl (Rc rfl (Rm rfl (Sp 64 rfl ?_ ?_)))) <;> clear H
  ·intro h64 a H
   try have p64:=dT h64
   refine kH H (YM h64 rfl (YM h64 rfl (YI jO dH h64 rfl rfl (YF jJ h64 rfl (YR ak h64 rfl (by assumption) ?_)))));clear H;intro a H;refine kH H (YC h64 rfl (Pt h64 rfl (Kz dV (Cd rfl ?_ ?_)))) <;> clear H dV
   ·intro lK a H
    try have p71:=dT lK
    have hk3:rk < x.rows.length:=by first|omega|simp_all
    have h7:x.kind=7:=by first|omega|simp_all
    obtain ⟨b2,o2,qA,qn,qc,eA,en,ec,zA,zn,zc,cA,cn,cc,rfl,hrow2,xD,hcl⟩:=Cn hk3 ((hrw.mono hg2).mono hg3).at_;have hcn:=hcl.len;rw [List.length_map] at hcn;subst hcn;have r5:aB g3 b2 (o2+rk*6+5)=some (.slice cA x.rows[rk].cells.length cc):=hrow2 5 _ rfl;have hsz2:=Fg hk3;have hcs:=AL x.rows[rk].cells;have hzr:=afI hk3;have hzw:=tF x.rows[rk];have hoc:=hox.rw _ (List.getElem_mem hk3)
    have Ml:lq flow (x.rows.drop rk)=(mD flow x.rows[rk].cells).or (lq flow (x.rows.drop (rk+1))):=by rw [List.drop_eq_getElem_cons hk3,lq,adk]
    obtain ⟨y,hy⟩:∃ y,y=x.rows[rk]:=⟨_,rfl⟩;rw [← hy] at r5 hrow2 xD hcl hsz2 hcs hzr hzw hoc Ml;refine kP H (Kc cO (SQ fun _ dI=>SB (SR fun _ eH=>Rm rfl (Rm rfl (Ri jO dH rfl rfl (Rf tV rfl (Rg uU rfl (by assumption) ?_)))))));clear H cO;intro a H;refine kH H (Rm rfl (Ri lV iV rfl rfl (Rf vM rfl (Rg wB rfl (by assumption) ?_))));clear H;intro a H;refine kH H (Ra rfl (Kz eH (SR fun _ fq=>Ra rfl (Kz fq (SB ?_)))));clear H eH fq;intro a H;skip;refine d9 (ι:=Nat × GH) (Tc:=[(0,_),(1,_),(2,_),(8,_),(9,_),(10,_),(13,_),(14,_)]) (Lc:=[]) (fun (gh:Nat × GH)=>[(15,vi gh.1)]) (fun (gh:Nat × GH)=>[]) (fun (gh:Nat × GH)=>gh.2) (fun (gh:Nat × GH)=>gh.1≤y.cells.length∧mD flow (y.cells.drop gh.1)=mD flow y.cells∧(∀ b o,g3 b=some o→gh.2 b=some o)) (fun (gh:Nat × GH)=>y.cells.length - gh.1) ((0,g3)) (by exact (H).sub ⟨rfl,rfl,rfl,rfl,rfl,rfl,rfl,rfl,rfl,trivial⟩) ?_ ?_
    ·exact ⟨Nat.zero_le _,rfl,fun _ _ h=>h⟩
    clear H;intro gh a w hI H;obtain ⟨ck,g4⟩:=gh;dsimp only at hI H;obtain ⟨hck,Ll,hg4⟩:=hI;dsimp only [List.cons_append,List.nil_append,List.append_nil] at H;refine kP H (SQ fun _ gK=>SR fun _ gF=>Rm rfl (Rm rfl (Rl kg rfl (Rc rfl (Kz gF (Cd rfl ?_ ?_)))))) <;> clear H gF
    ·intro KJ a H
     try have p86:=dT KJ
     have hk4:ck < y.cells.length:=by omega
     obtain ⟨b3,o3,sA,sn,sc,tA,tn,tc,uA,un,uc,gA,gn,gc,rfl,hrow3,hch,hcf⟩:=zM hk4 (hcl.mono hg4).at_;have BU:=Fb hk4;have hzc:=afD hk4;have hzz:=u6 y.cells[ck];have Rw:=hoc _ (List.getElem_mem hk4)
     have LJ:mD flow (y.cells.drop ck)=(cB y.cells[ck].id flow y.cells[ck].flow).or (mD flow (y.cells.drop (ck+1))):=by rw [List.drop_eq_getElem_cons hk4,mD,adi]
     obtain ⟨z,hzy⟩:∃ z,z=y.cells[ck]:=⟨_,rfl⟩;rw [← hzy] at hrow3 hch hcf BU hzc hzz Rw LJ;refine kP H (Kc gK (SQ fun _ fO=>SB (SQ fun _ iF=>?_)));clear H gK;intro a H
     have oh:∀ (aC:Nat) (v:Value) (G G':GH),(∀ k o,G k=some o→G' k=some o)→(fun (aC:Nat) (v:Value) (G:GH)=>match aC with|0=>v=.slice (some ⟨b3,o3,none⟩) y.cells.length cc|1=>v=vi ck|2=>v=.pointer (some ⟨b3,o3+ck*7,none⟩)|3=>v=.pointer (some ⟨b3,o3+ck*7+0,none⟩)|4=>v=vi z.id|5=>v=.slice (some ⟨b3,o3,none⟩) y.cells.length cc|6=>v=vi ck|7=>v=.pointer (some ⟨b3,o3+ck*7,none⟩)|8=>v=.pointer (some ⟨b3,o3+ck*7+6,none⟩)|9=>v=.slice gA gn gc|10=>v=vi flow|11=>∃ y,v=.tuple #[y,.bool (cB z.id flow z.flow).isSome]∧ah G (.sl 2 (((cB z.id flow z.flow).getD []).map fu)) y|12=>∃ y,v=.tuple #[y,.bool (cB z.id flow z.flow).isSome]∧ah G (.sl 2 (((cB z.id flow z.flow).getD []).map fu)) y|13=>ah G (.sl 2 (((cB z.id flow z.flow).getD []).map fu)) v|14=>v=.bool (cB z.id flow z.flow).isSome|15=>ah G (.sl 2 (((cB z.id flow z.flow).getD []).map fu)) v|_=>True) aC v G→(fun (aC:Nat) (v:Value) (G:GH)=>match aC with|0=>v=.slice (some ⟨b3,o3,none⟩) y.cells.length cc|1=>v=vi ck|2=>v=.pointer (some ⟨b3,o3+ck*7,none⟩)|3=>v=.pointer (some ⟨b3,o3+ck*7+0,none⟩)|4=>v=vi z.id|5=>v=.slice (some ⟨b3,o3,none⟩) y.cells.length cc|6=>v=vi ck|7=>v=.pointer (some ⟨b3,o3+ck*7,none⟩)|8=>v=.pointer (some ⟨b3,o3+ck*7+6,none⟩)|9=>v=.slice gA gn gc|10=>v=vi flow|11=>∃ y,v=.tuple #[y,.bool (cB z.id flow z.flow).isSome]∧ah G (.sl 2 (((cB z.id flow z.flow).getD []).map fu)) y|12=>∃ y,v=.tuple #[y,.bool (cB z.id flow z.flow).isSome]∧ah G (.sl 2 (((cB z.id flow z.flow).getD []).map fu)) y|13=>ah G (.sl 2 (((cB z.id flow z.flow).getD []).map fu)) v|14=>v=.bool (cB z.id flow z.flow).isSome|15=>ah G (.sl 2 (((cB z.id flow z.flow).getD []).map fu)) v|_=>True) aC v G':=by
      intro aC v G G' hm h
      match aC,h with
      | 0,h=>exact h
      | 1,h=>exact h
      | 2,h=>exact h
      | 3,h=>exact h
      | 4,h=>exact h
      | 5,h=>exact h
      | 6,h=>exact h
      | 7,h=>exact h
      | 8,h=>exact h
      | 9,h=>exact h
      | 10,h=>exact h
      | 11,h=>exact let ⟨y,h1,h2⟩:=h;⟨y,h1,h2.mono hm⟩
      | 12,h=>exact let ⟨y,h1,h2⟩:=h;⟨y,h1,h2.mono hm⟩
      | 13,h=>exact ah.mono hm h
      | 14,h=>exact h
      | 15,h=>exact ah.mono hm h
      | 16,h=>exact trivial
      | _+17,h=>exact trivial
     refine dz (hmx) [[],[],[0,1],[0,1,2],[0,1,2,3],[],[],[5,6],[5,6,7],[5,6,7,8],[],(List.range 11),(List.range 12),(List.range 13),(List.range 13),(List.range 14),(List.range 16)] [16] (by kernel_rfl) (by kernel_rfl) (fun (aC:Nat) (v:Value) (G:GH)=>match aC with|0=>v=.slice (some ⟨b3,o3,none⟩) y.cells.length cc|1=>v=vi ck|2=>v=.pointer (some ⟨b3,o3+ck*7,none⟩)|3=>v=.pointer (some ⟨b3,o3+ck*7+0,none⟩)|4=>v=vi z.id|5=>v=.slice (some ⟨b3,o3,none⟩) y.cells.length cc|6=>v=vi ck|7=>v=.pointer (some ⟨b3,o3+ck*7,none⟩)|8=>v=.pointer (some ⟨b3,o3+ck*7+6,none⟩)|9=>v=.slice gA gn gc|10=>v=vi flow|11=>∃ y,v=.tuple #[y,.bool (cB z.id flow z.flow).isSome]∧ah G (.sl 2 (((cB z.id flow z.flow).getD []).map fu)) y|12=>∃ y,v=.tuple #[y,.bool (cB z.id flow z.flow).isSome]∧ah G (.sl 2 (((cB z.id flow z.flow).getD []).map fu)) y|13=>ah G (.sl 2 (((cB z.id flow z.flow).getD []).map fu)) v|14=>v=.bool (cB z.id flow z.flow).isSome|15=>ah G (.sl 2 (((cB z.id flow z.flow).getD []).map fu)) v|_=>True) oh H ?_ ?_
     ·clear H;refine av ?_ ?_ ?_ ?_ (av ?_ ?_ ?_ ?_ (av ?_ ?_ ?_ ?_ (av ?_ ?_ ?_ ?_ (bq (aT rfl) dh))))
      ·refine dx [] rfl trivial (by kernel_rfl) oh rfl rfl ?_;intro bC a w G1 hG HT H fin;exact kH H (Rm rfl fun _ H=>fin H iJ rfl)
      ·refine dx [] rfl trivial (by kernel_rfl) oh rfl rfl ?_;intro bC a w G1 hG HT H fin;exact kH H (Rm rfl fun _ H=>fin H iJ rfl)
      ·refine dx [(0,90,_),(1,91,_)] rfl ⟨fun _ _ h=>h,fun _ _ h=>h,trivial⟩ (by kernel_rfl) oh rfl rfl ?_;intro bC a w G1 hG HT H fin;exact kH H (Ri kg gQ rfl rfl fun _ H=>fin H iJ rfl)
      ·refine dx [(2,92,_)] rfl ⟨fun _ _ h=>h,trivial⟩ (by kernel_rfl) oh rfl rfl ?_;intro bC a w G1 hG HT H fin;exact kH H (Rf wS rfl fun _ H=>fin H iJ rfl)
      ·refine dx [(3,93,_)] rfl ⟨fun _ _ h=>h,trivial⟩ (by kernel_rfl) oh rfl rfl ?_;intro bC a w G1 hG HT H fin;exact kH H (Rg ak rfl (aD hG (hrow3 0 _ rfl)) fun _ H=>fin H iJ rfl)
      ·refine dx [] rfl trivial (by kernel_rfl) oh rfl rfl ?_;intro bC a w G1 hG HT H fin;exact kH H (Rm rfl fun _ H=>fin H iJ rfl)
      ·refine dx [] rfl trivial (by kernel_rfl) oh rfl rfl ?_;intro bC a w G1 hG HT H fin;exact kH H (Rm rfl fun _ H=>fin H iJ rfl)
      ·refine dx [(5,95,_),(6,96,_)] rfl ⟨fun _ _ h=>h,fun _ _ h=>h,trivial⟩ (by kernel_rfl) oh rfl rfl ?_;intro bC a w G1 hG HT H fin;exact kH H (Ri kg gQ rfl rfl fun _ H=>fin H iJ rfl)
      ·refine dx [(7,97,_)] rfl ⟨fun _ _ h=>h,trivial⟩ (by kernel_rfl) oh rfl rfl ?_;intro bC a w G1 hG HT H fin;exact kH H (Rf yI rfl fun _ H=>fin H iJ rfl)
      ·refine dx [(8,98,_)] rfl ⟨fun _ _ h=>h,trivial⟩ (by kernel_rfl) oh rfl rfl ?_;intro bC a w G1 hG HT H fin;exact kH H (Rg iR rfl (aD hG (hrow3 6 _ rfl)) fun _ H=>fin H iJ rfl)
      ·refine dx [] rfl trivial (by kernel_rfl) oh rfl rfl ?_;intro bC a w G1 hG HT H fin;exact kH H (Rm rfl fun _ H=>fin H iJ rfl)
      ·refine dx [(4,94,_),(9,99,_),(10,100,_)] rfl ⟨fun _ _ h=>h,fun _ _ h=>h,fun _ _ h=>h,trivial⟩ (by kernel_rfl) oh rfl rfl ?_;intro bC a w G1 hG HT H fin;refine s_call J4 H wn rfl (ih _ _ H.hp.ro z.id flow z.flow _ (hcf.mono hG) Rw (by omega)) rfl ?_;clear H;rintro agz afL a w ⟨AJ,rfl,rU⟩ aax H;exact fin H aax (⟨_,rfl,rU⟩)
      ·intro bC a w G1 _ aZ hc hG HT hv;have H:=HT;clear aZ;obtain ⟨agx,abM,Rx⟩:=hv 11 101 (hc 11 (by decide)) rfl;(try dsimp only at Rx);obtain ⟨AJ,rfl,rU⟩:=Rx;have H:=H.kr abM;have Hb:=H.full;have H:=Hb;clear hc;refine kH H (Rm rfl ?_);clear H;intro a H;refine au ⟨rfl,?_⟩;exact iH (by kernel_rfl) oh rfl rfl HT Hb hG hv (fun _ _ h=>h) (⟨_,rfl,rU⟩) H
      ·intro bC a w G1 _ aZ hc hG HT hv;have H:=HT;clear aZ;obtain ⟨u89,MH,EA⟩:=hv 12 89 (hc 12 (by decide)) rfl;(try dsimp only at EA);obtain ⟨AJ,rfl,rU⟩:=EA;have H:=H.kr MH;have Hb:=H.full;have H:=Hb;clear hc;refine gV H wn rfl rfl rfl ?_;clear H;intro a H;refine au ⟨rfl,?_⟩;exact iH (by kernel_rfl) oh rfl rfl HT Hb hG hv (fun _ _ h=>h) (rU) H
      ·intro bC a w G1 _ aZ hc hG HT hv;have H:=HT;clear aZ;obtain ⟨u89,MH,EA⟩:=hv 12 89 (hc 12 (by decide)) rfl;(try dsimp only at EA);obtain ⟨AJ,rfl,rU⟩:=EA;have H:=H.kr MH;have Hb:=H.full;have H:=Hb;clear hc;refine gV H wn rfl rfl rfl ?_;clear H;intro a H;refine au ⟨rfl,?_⟩;exact iH (by kernel_rfl) oh rfl rfl HT Hb hG hv (fun _ _ h=>h) (rfl) H
      intro bC a w G1 _ aZ hc hG HT hv;have H:=HT;clear aZ;obtain ⟨agy,abN,Ry⟩:=hv 13 102 (hc 13 (by decide)) rfl;(try dsimp only at Ry);have H:=H.kr abN;have Hb:=H.full;have H:=Hb;clear hc;refine kH H (Ra rfl ?_);clear H;intro a H;refine au ⟨rfl,?_⟩;exact iH (by kernel_rfl) oh rfl rfl HT Hb hG hv (fun _ _ h=>h) (Ry) H
     clear H;intro a w G QM H hv;obtain ⟨u16,abQ,Ey⟩:=hv 15 16 (by decide) rfl;(try dsimp only at Ey);have H:=H.kr abQ;have H:=H.aM (hv 14 103 rfl rfl) rfl;clear hv;refine kH H (Ra rfl ?_);clear H;intro a H;refine au ⟨rfl,?_⟩;refine iF _ _ ?_;clear iF;refine kP H (SR fun _ iT=>Rm rfl (Kz iT (Cd rfl ?_ ?_))) <;> clear H iT
     ·intro D9 a H
      try have acU:=dT D9
      obtain ⟨ps,hps⟩:=Option.isSome_iff_exists.1 (show (cB z.id flow z.flow).isSome=true by simpa using D9);have hpl:=Ic hps;rw [hps,Option.getD_some] at Ey;obtain ⟨yA,yn,yc,rfl⟩:=Ey.form;have hyn:=Ey.len;rw [List.length_map] at hyn;have LQ:=fun j v hj=>aD QM (aD hg4 (aD hg3 (aD hg2 (Q5 j v hj))));refine aY (fun _ gL=>?_);refine aK bN (cs:=[vi g,vi at_]) H wn rfl rfl (fun j v hj=>H.hp.aB (LQ j v hj)) rfl ?_;clear H;intro a H;refine fM jB bN [_,_] [_,_] H wn rfl rfl rfl rfl rfl (by intro i q h;match i,h with|0,h=>exact h|n+1,h=>simp at h) rfl rfl ?_;clear H;intro afR a w afY H;refine kH H (Rm rfl ?_);clear H;intro a H;refine Nn (Li:=[]) (Lo:=[_]) jB bN rfl rfl H wn rfl rfl QY Ey (by omega) (by omega) rfl ?_;clear H;intro agB afN agu a w Mr LG H;obtain ⟨Mr,LG⟩:=Ug (p:=(g,(at_:Int))) hps Mr hyn.symm LG;obtain ⟨Gr,hmr,hrep,H⟩:=St.rz (Li:=[]) H Mr rfl LG;refine kH H (Ra rfl (Ra rfl (Kz gL ?_)));clear H gL;intro a H;refine aR ?_;refine (bU H Tryz.results20 (.cons (aF H rfl) (.cons (aF H rfl) .nil)) ?_).1
      have hf:cB g flow l=some ((g,(at_:Int)) :: ps):=by
       have hr:lq flow x.rows=some ps:=by rw [← hX2 h7,Ml,← Ll,LJ,hps];rfl
       rw [← hX,if_neg (by omega),if_pos h7,hr];rfl
      exact H.hp.ret ⟨_,by rw [hf];rfl,by rw [hf];exact hrep⟩
     intro D9 a H
     try have acU:=dF D9
     refine kP H (Kc fO (SC (Rm rfl (Rd rfl (Ra rfl ?_)))));clear H fO;intro a H;refine au ?_;refine dD ((ck+1,_)) (by exact (H).sub ⟨rfl,rfl,rfl,rfl,rfl,rfl,rfl,rfl,rfl,trivial⟩) ?_ ?_
     ·(try dsimp only);exact ⟨by omega,by rw [← Ll,LJ,show cB z.id flow z.flow=none by simpa using D9,Option.none_or],fun b o h=>QM b o (hg4 b o h)⟩
     first|omega|(dsimp only;omega)
    intro KJ a H
    try have p86:=dF KJ
    have aa4:mD flow y.cells=none:=by rw [← Ll,List.drop_of_length_le (by omega),mD]
    refine dL ?_;refine dI _ _ ?_;clear dI;refine kP H (SC (Rm rfl (Rd rfl (Ra rfl ?_))));clear H;intro a H;refine au ?_;refine dD ((rk+1,g4)) (by exact (H).sub ⟨rfl,rfl,rfl,rfl,rfl,rfl,rfl,trivial⟩) ?_ ?_
    ·(try dsimp only);exact ⟨by omega,fun h=>by rw [← hX2 h,Ml,aa4,Option.none_or],fun b o h=>hg4 b o (hg3 b o h)⟩
    first|omega|(dsimp only;omega)
   intro lK a H
   try have p71:=dF lK
   refine dL ?_;refine bQ _ _ ?_;clear bQ;refine kP H (SC (Rm rfl (Rm rfl (Rm rfl (Ri jO dH rfl rfl ?_)))));clear H;intro a H;refine aK dH (cs:=[vi x.kind,vi x.code,vi x.id,.string x.text,.slice pA pn pc,vi x.head.marks.ins,vi x.head.marks.move,.slice dA dn dc,.slice yA yn yc,.slice fA fn fc,.slice rA x.rows.length rc]) H wn rfl rfl (fun j v hj=>H.hp.aB (aD hg3 (aD hg2 (hrow j v hj)))) rfl ?_;clear H;intro a H;refine s_call P6 H wn rfl (Uf _ _ H.hp.ro x _ _ _ _ _ _ _ _ _ (by omega)) rfl ?_;clear H;rintro aff _ a w ⟨rfl,rfl⟩ - H;refine kH H (Rd rfl (Ra rfl (Kn aH (SC (Rm rfl (Rd rfl (Ra rfl ?_)))))));clear H aH;intro a H;refine au ?_;refine dD ((k+1,at_+dR x,g3)) (by exact (H).sub ⟨rfl,rfl,rfl,rfl,rfl,trivial⟩) ?_ ?_
   ·try dsimp only
    have hno:(if x.kind=6 then (cB x.id flow x.flow).map ((g,(at_:Int)) :: ·) else if x.kind=7 then (lq flow x.rows).map ((g,(at_:Int)) :: ·) else none)=none:=by
     by_cases h6:x.kind=6
     ·rw [if_pos h6,GZ h6];rfl
     rw [if_neg h6]
     by_cases h7:x.kind=7
     ·rw [if_pos h7,← hX2 h7,List.drop_of_length_le (by first|omega|(exfalso;simp_all;done)),lq];rfl
     rw [if_neg h7]
    exact ⟨by omega,by rw [← hX,hno,Option.none_or],hok2,by omega,fun b o h=>hg3 b o (hg2 b o (hma b o (hg1 b o h)))⟩
   first|omega|(dsimp only;omega)
  intro h64 a H
  try have p64:=dF h64
  refine kH H (Ks h64 rfl (Ks h64 rfl (Ks h64 rfl (Ks h64 rfl (Ks h64 rfl (Ks h64 rfl (Pf h64 rfl (Kz dV (Cf rfl rfl ?_)))))))));clear H dV;intro a H;refine dL ?_;refine bQ _ _ ?_;clear bQ;refine kP H (SC (Rm rfl (Rm rfl (Rm rfl (Ri jO dH rfl rfl ?_)))));clear H;intro a H;refine aK dH (cs:=[vi x.kind,vi x.code,vi x.id,.string x.text,.slice pA pn pc,vi x.head.marks.ins,vi x.head.marks.move,.slice dA dn dc,.slice yA yn yc,.slice fA fn fc,.slice rA x.rows.length rc]) H wn rfl rfl (fun j v hj=>H.hp.aB (aD hg3 (aD hg2 (hrow j v hj)))) rfl ?_;clear H;intro a H;refine s_call P6 H wn rfl (Uf _ _ H.hp.ro x _ _ _ _ _ _ _ _ _ (by omega)) rfl ?_;clear H;rintro aff _ a w ⟨rfl,rfl⟩ - H;refine kH H (Rd rfl (Ra rfl (Kn aH (SC (Rm rfl (Rd rfl (Ra rfl ?_)))))));clear H aH;intro a H;refine au ?_;refine dD ((k+1,at_+dR x,g3)) (by exact (H).sub ⟨rfl,rfl,rfl,rfl,rfl,trivial⟩) ?_ ?_
  ·try dsimp only
   have hno:(if x.kind=6 then (cB x.id flow x.flow).map ((g,(at_:Int)) :: ·) else if x.kind=7 then (lq flow x.rows).map ((g,(at_:Int)) :: ·) else none)=none:=by
    by_cases h6:x.kind=6
    ·rw [if_pos h6,GZ h6];rfl
    rw [if_neg h6]
    by_cases h7:x.kind=7
    ·rw [if_pos h7,← hX2 h7,List.drop_of_length_le (by first|omega|(exfalso;simp_all;done)),lq];rfl
    rw [if_neg h7]
   exact ⟨by omega,by rw [← hX,hno,Option.none_or],hok2,by omega,fun b o h=>hg3 b o (hg2 b o (hma b o (hg1 b o h)))⟩
  first|omega|(dsimp only;omega)
 intro dM a H
 try have jA:=dF dM
 refine dL ?_;refine K6 _ _ ?_;clear K6;refine kP H (SR fun _ jG=>Ra rfl (Ra rfl (Kz jG ?_)));clear H jG;intro a H;refine aR ?_;refine (bU H Tryz.results20 (.cons (aF H rfl) (.cons (aF H rfl) .nil)) ?_).1
 have hf:cB g flow l=none:=by rw [← hX,List.drop_of_length_le (by omega),o7]
 exact H.hp.ret ⟨_,by rw [hf];rfl,by rw [hf];exact ah.gq rfl (by decide)⟩
theorem SG:∀ m:Nat,m≤4294967297→Jo m
 | 0,_=>fun _ _ _ _ _ _ _ _ _ h=>absurd h (by omega)
 | m+1,hm=>acJ (SG m (by omega)) (by omega)
theorem acI (G:GH) (w0:World) (hG:Hold G w0) (g flow:Int) (l:List aj) (u:Value) (hu:ah G (.sl 11 (l.map aj.dat)) u) (hok:fP l) (hz:aS l≤4294967296) :
  Calls Tryz.prog 20 #[vi g,u,vi flow] w0 (aU w0 G fun r G'=>∃ v,r=.tuple #[v,.bool (cB g flow l).isSome]∧ah G' (.sl 2 (((cB g flow l).getD []).map fu)) v) :=
 SG (aS l+1) (by omega) G w0 hG g flow l u hu hok (by omega)
end
end Go.Proofs.YthichnnlceeofaaGreat
