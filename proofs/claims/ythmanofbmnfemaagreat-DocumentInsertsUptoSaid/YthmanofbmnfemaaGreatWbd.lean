/-
  What the claim stands on, part 4: Cid Mt Ehd Hdr Hea Frm Itc Rws Itm Its Rvs Chd Mn Lay Srt Vis Frs Ms Ids Gco Ubf.
-/
import Derived.Test.YthmanofbmnfemaaGreatWbc
import Derived.Shelf.SlIterI.Nil
import Derived.Shelf.SortM.Plain
import Derived.Shelf.SortM.SortNone
namespace Go.Proofs.YthmanofbmnfemaaGreat
open Go.Proofs.Tryz
section
open Go.RowKit
theorem Zb:dJ prog 98 4 4:=⟨by kernel_rfl⟩
theorem Za:dJ prog 98 3 3:=⟨by kernel_rfl⟩
variable {us:List Int}
theorem ER (x:Int):∀ l:List Int,(uV x (fT l)).getD (.bool false)=.bool (decide (x∈l))
 | []=>rfl
 | k :: r=>by
  have ih:=ER x r;rw [fT,dV,uV]
  by_cases e:k=x
  ·subst e;simp
  rw [ah e,show (r.map fun k=>(k,Value.bool true))=fT r from rfl,ih]
  simp [show x≠k from fun h=>e h.symm]
def DT (st:List bL) (v:Int):Int:=((st.find? fun s=>decide (s.id=v)).map bL.kind).getD 0
theorem LY (x:Int):∀ l:List bL,(uV x (Bq l)).getD (vi 0)=vi (DT l x)
 | []=>rfl
 | s :: r=>by
  have ih:=LY x r;rw [Bq,dV,uV]
  by_cases e:s.id=x
  ·subst e;simp [DT]
  rw [ah e,show (r.map fun s=>(s.id,vi s.kind))=Bq r from rfl,ih]
  simp [DT,e]
def mh (us aU:List Int) (x:Int):Int:=if ¬ (1≤x∧x≤1073741824)∨x∈us then 18 else if x∈aU then 7 else 0
def jm (us aU:List Int) (x:Int):List Int:=if mh us aU x=0 then aU++[x] else aU
theorem alb (l:List Int) (x:Int):fT (l++[x])=fT l++[(x,.bool true)]:=by simp [fT]
theorem QJ (G:GH) (L:OL) (w0:World) (st:List bL) (li:List dM) (rv:List dU) (b ms ml mr mb mu:Nat) (n:Int) (aU:List Int) (x:Int) (hck:wW us G st li rv ms ml mr mu) (hO:ji G (gI b ms ml mr mb mu n :: (mb,fu (fT aU)) :: L) w0) :
  Calls prog 163 #[(aQ b 0),vi x] w0 (iM w0 G (gI b ms ml mr mb mu n :: (mb,fu (fT aU)) :: L) fun u G' L'=>u=vi (mh us aU x)∧L'=gI b ms ml mr mb mu n :: (mb,fu (fT (jm us aU x))) :: L∧G=G'):=by
 refine lq (N:=29) (T:=[(0,_),(1,_)]) func163 rfl ntmps163 rfl rfl hO ?_;intro a H;refine kP H (SR fun _ K1=>ak K1 rfl (SQ fun _ K2=>SB (SR fun _ K3=>Rm rfl ?_)));clear H K1;intro a H;refine s_call yK H wn rfl (ze _ _ H.ro x 1 1073741824) rfl ?_;clear H;rintro v7 _ a w ⟨rfl,rfl⟩ - H;refine kH H (Rn rfl (Rm rfl (Sp 9 rfl ?_ ?_))) <;> clear H
 ·intro h9 a H
  try have p9:=dT h9
  refine kH H (aZ h9 rfl (aZ h9 rfl (Pt h9 rfl (ak K3 rfl (Ct rfl rfl (SQ fun _ K4=>?_))))));clear H K3;intro a H
  have e:mh us aU x=18:=by rw [mh,au (by first|(simp_all;done)|(simp_all;omega))]
  refine kP H (SC (aM K4 rfl ?_));clear H K4;intro a H;refine lr H results163 rfl ?_
  first
   | exact H.hp.fO ⟨by rw [e],by rw [jm,au e],rfl⟩
   | exact H.hp.fO ⟨by rw [e],by rw [jm,ah (by rw [e];decide)],rfl⟩
 intro h9 a H
 try have p9:=dF h9
 refine kH H (YM h9 rfl ?_);clear H;intro a H;refine sO H (wg H rfl rfl h9) rfl rfl ?_;clear H;intro a H;refine kH H (YF Zb h9 rfl (YO wR 0 h9 rfl (YM h9 rfl ?_)));clear H;intro a H;refine Bv (zv:=.bool false) Ak nZ (by kernel_rfl) H (wg H rfl rfl h9) rfl rfl (H.ro _ _ hck.use) rfl ?_;clear H;intro a H;rw [ER] at H;refine kH H (Pf h9 rfl (ak K3 rfl (Cd rfl ?_ ?_))) <;> clear H K3
 ·intro h5 a H
  try have p5:=dT h5
  refine aN (fun _ K5=>?_)
  have e:mh us aU x=18:=by rw [mh,au (by first|(simp_all;done)|(simp_all;omega))]
  refine kP H (SC (aM K5 rfl ?_));clear H K5;intro a H;refine lr H results163 rfl ?_
  first
   | exact H.hp.fO ⟨by rw [e],by rw [jm,au e],rfl⟩
   | exact H.hp.fO ⟨by rw [e],by rw [jm,ah (by rw [e];decide)],rfl⟩
 intro h5 a H
 try have p5:=dF h5
 have hin:¬ (¬ (1≤x∧x≤1073741824)∨x∈us):=by first|(simp_all;done)|(simp_all;omega)
 refine kP H (SR fun _ K6=>Rm rfl (Rk rfl (aT Za wR 0 rfl rfl (Rm rfl ?_))));clear H;intro a H;refine Bv (zv:=.bool false) Ak nZ (by kernel_rfl) H wn rfl rfl (H.hp.own _ (vR _ jB)) rfl ?_;clear H;intro a H;rw [ER] at H;refine kH H (ak K6 rfl (Cd rfl ?_ ?_)) <;> clear H K6
 ·intro gK a H
  refine aN (fun _ K7=>?_)
  have e:mh us aU x=7:=by rw [mh,ah hin,au (oD gK)]
  refine kP H (SC (aM K7 rfl ?_));clear H K7;intro a H;refine lr H results163 rfl ?_
  first
   | exact H.hp.fO ⟨by rw [e],by rw [jm,au e],rfl⟩
   | exact H.hp.fO ⟨by rw [e],by rw [jm,ah (by rw [e];decide)],rfl⟩
 intro gK a H
 have hx:x∉aU:=of_decide_eq_false gK;have hnew:uV x (fT aU)=none:=LX (by simpa [fT,List.map_map,Function.comp_def] using hx)
 have e:mh us aU x=0:=by rw [mh,ah hin,ah hx]
 refine kP H (Kc K2 (SR fun _ K8=>Rm rfl (Rk rfl (aT Za wR 0 rfl rfl (Rm rfl ?_)))));clear H K2;intro a H;refine JI (i:=1) Ak nZ H wn rfl rfl rfl rfl hnew ?_;clear H;intro w H;dsimp only [List.set] at H;rw [← alb] at H;refine K8 _ _ ?_;clear K8;refine kP H (SR fun _ K9=>ak K9 rfl ?_);clear H K9;intro a H;refine lr H results163 rfl ?_
 first
  | exact H.hp.fO ⟨by rw [e],by rw [jm,au e],rfl⟩
  | exact H.hp.fO ⟨by rw [e],by rw [jm,ah (by rw [e];decide)],rfl⟩
def kK (st:List bL) (uU:List Int) (key v:Int):Int :=
 if key=20∨key=1 then bE (decide (v≠0∧DT st v≠(if key=1 then 2 else 1))) 25 else if key=33 then bE (decide (v≠0∧v∉uU)) 26 else 0
theorem QK (G:GH) (w0:World) (hG:Hold G w0) (st:List bL) (li:List dM) (rv:List dU) (b ms ml mr mb mu:Nat) (n:Int) (key v:Int) (hck:wW us G st li rv ms ml mr mu) (hb:G b=some (gI b ms ml mr mb mu n).2) :
  Calls prog 135 #[(aQ b 0),vi key,vi v] w0 (bY w0 G fun u G'=>u=vi (kK st (li.map dM.id) key v)∧G=G'):=by
 have hc0:aG G b 0=some (.map (some ms)):=by unfold aG;rw [hb];rfl
 have hc1:aG G b 1=some (.map (some ml)):=by unfold aG;rw [hb];rfl
 refine eN [(0,_),(1,_),(2,_)] func135 rfl ntmps135 rfl rfl hG ?_;intro a H;refine kP H (SR fun _ K1=>ak K1 rfl (SQ fun _ K2=>SR fun _ K3=>Rm rfl (Kz K3 (SB (SQ fun _ K4=>SR fun _ K5=>Rc rfl (ak K5 rfl (Cd rfl ?_ ?_))))))) <;> clear H K1 K3 K5
 ·intro h9 a H
  try have p9:=dT h9
  refine kP H (Kc K4 (Ct rfl h9 (SR fun _ K6=>ak K6 rfl (SQ fun _ K7=>SR fun _ K8=>Rm rfl (Rc rfl (Kz K8 (Cd rfl ?_ ?_))))))) <;> clear H K4 K6 K8
  ·intro gy a H
   try have pO:=dT gy
   refine kP H (SC (aM K7 rfl (SR fun _ K9=>Rm rfl (Rc rfl (Rm rfl (Sp 16 rfl ?_ ?_)))))) <;> clear H K7
   ·intro h16 a H
    try have p16:=dT h16
    refine kH H (YM h16 rfl ?_);clear H;intro a H;refine sO H (wg H rfl rfl h16) rfl rfl ?_;clear H;intro a H;refine kH H (YF KQ h16 rfl (YR Mw h16 rfl (by assumption) ?_));clear H;intro a H;refine kH H (YM h16 rfl ?_);clear H;intro a H;refine Bv (zv:=vi 0) Ig nZ (by kernel_rfl) H (wg H rfl rfl h16) rfl rfl (H.ro _ _ hck.sty) rfl ?_;clear H;intro a H;rw [LY] at H;refine kH H (YM h16 rfl (YC h16 rfl (Pt h16 rfl ?_)));clear H;intro a H;refine s_call jM H wn rfl (jO _ _ H.ro _ 25) rfl ?_;clear H;rintro v26 _ a w ⟨rfl,rfl⟩ - H;refine kH H (ak K9 rfl ?_);clear H K9;intro a H;refine lr H results135 rfl ?_
    exact H.rt ⟨av vi (by unfold kK;(repeat' split) <;> first|rfl|(simp_all;done)|(exfalso;simp_all;done)|(congr 1;rw [qW];simp only [yF,vS,uH];exact ⟨fun h=>⟨p31,h⟩,fun h=>h.2⟩)),rfl⟩
   intro h16 a H
   try have p16:=dF h16
   refine kH H (aZ h16 rfl (aZ h16 rfl (aS h16 rfl (Pf h16 rfl ?_))));clear H;intro a H;refine s_call jM H wn rfl (jO _ _ H.ro _ 25) rfl ?_;clear H;rintro v26 _ a w ⟨rfl,rfl⟩ - H;refine kH H (ak K9 rfl ?_);clear H K9;intro a H;refine lr H results135 rfl ?_
   exact H.rt ⟨av vi (by unfold kK;(repeat' split) <;> first|rfl|(simp_all;done)|(exfalso;simp_all;done)|(congr 1;rw [qW];simp only [yF,vS,uH];exact ⟨fun h=>⟨p31,h⟩,fun h=>h.2⟩)),rfl⟩
  intro gy a H
  try have pO:=dF gy
  refine kP H (Kc K7 (SR fun _ aV=>Rm rfl (Rc rfl (Rm rfl (Sp 16 rfl ?_ ?_))))) <;> clear H K7
  ·intro h16 a H
   try have p16:=dT h16
   refine kH H (YM h16 rfl ?_);clear H;intro a H;refine sO H (wg H rfl rfl h16) rfl rfl ?_;clear H;intro a H;refine kH H (YF KQ h16 rfl (YR Mw h16 rfl (by assumption) ?_));clear H;intro a H;refine kH H (YM h16 rfl ?_);clear H;intro a H;refine Bv (zv:=vi 0) Ig nZ (by kernel_rfl) H (wg H rfl rfl h16) rfl rfl (H.ro _ _ hck.sty) rfl ?_;clear H;intro a H;rw [LY] at H;refine kH H (YM h16 rfl (YC h16 rfl (Pt h16 rfl ?_)));clear H;intro a H;refine s_call jM H wn rfl (jO _ _ H.ro _ 25) rfl ?_;clear H;rintro v26 _ a w ⟨rfl,rfl⟩ - H;refine kH H (ak aV rfl ?_);clear H aV;intro a H;refine lr H results135 rfl ?_
   exact H.rt ⟨av vi (by unfold kK;(repeat' split) <;> first|rfl|(simp_all;done)|(exfalso;simp_all;done)|(congr 1;rw [qW];simp only [yF,vS,uH];exact ⟨fun h=>⟨p31,h⟩,fun h=>h.2⟩)),rfl⟩
  intro h16 a H
  try have p16:=dF h16
  refine kH H (aZ h16 rfl (aZ h16 rfl (aS h16 rfl (Pf h16 rfl ?_))));clear H;intro a H;refine s_call jM H wn rfl (jO _ _ H.ro _ 25) rfl ?_;clear H;rintro v26 _ a w ⟨rfl,rfl⟩ - H;refine kH H (ak aV rfl ?_);clear H aV;intro a H;refine lr H results135 rfl ?_
  exact H.rt ⟨av vi (by unfold kK;(repeat' split) <;> first|rfl|(simp_all;done)|(exfalso;simp_all;done)|(congr 1;rw [qW];simp only [yF,vS,uH];exact ⟨fun h=>⟨p31,h⟩,fun h=>h.2⟩)),rfl⟩
 intro h9 a H
 try have p9:=dF h9
 refine kP H (SC (Rc rfl (aM K4 rfl (Cd rfl ?_ ?_)))) <;> clear H K4
 ·intro h9 a H
  try have p9:=dT h9
  refine kP H (SR fun _ bF=>ak bF rfl (SQ fun _ bG=>SR fun _ bM=>Rm rfl (Rc rfl (Kz bM (Cd rfl ?_ ?_))))) <;> clear H bF bM
  ·intro gy a H
   try have pO:=dT gy
   refine kP H (SC (aM bG rfl (SR fun _ bN=>Rm rfl (Rc rfl (Rm rfl (Sp 16 rfl ?_ ?_)))))) <;> clear H bG
   ·intro h16 a H
    try have p16:=dT h16
    refine kH H (YM h16 rfl ?_);clear H;intro a H;refine sO H (wg H rfl rfl h16) rfl rfl ?_;clear H;intro a H;refine kH H (YF KQ h16 rfl (YR Mw h16 rfl (by assumption) ?_));clear H;intro a H;refine kH H (YM h16 rfl ?_);clear H;intro a H;refine Bv (zv:=vi 0) Ig nZ (by kernel_rfl) H (wg H rfl rfl h16) rfl rfl (H.ro _ _ hck.sty) rfl ?_;clear H;intro a H;rw [LY] at H;refine kH H (YM h16 rfl (YC h16 rfl (Pt h16 rfl ?_)));clear H;intro a H;refine s_call jM H wn rfl (jO _ _ H.ro _ 25) rfl ?_;clear H;rintro v26 _ a w ⟨rfl,rfl⟩ - H;refine kH H (ak bN rfl ?_);clear H bN;intro a H;refine lr H results135 rfl ?_
    exact H.rt ⟨av vi (by unfold kK;(repeat' split) <;> first|rfl|(simp_all;done)|(exfalso;simp_all;done)|(congr 1;rw [qW];simp only [yF,vS,uH];exact ⟨fun h=>⟨p31,h⟩,fun h=>h.2⟩)),rfl⟩
   intro h16 a H
   try have p16:=dF h16
   refine kH H (aZ h16 rfl (aZ h16 rfl (aS h16 rfl (Pf h16 rfl ?_))));clear H;intro a H;refine s_call jM H wn rfl (jO _ _ H.ro _ 25) rfl ?_;clear H;rintro v26 _ a w ⟨rfl,rfl⟩ - H;refine kH H (ak bN rfl ?_);clear H bN;intro a H;refine lr H results135 rfl ?_
   exact H.rt ⟨av vi (by unfold kK;(repeat' split) <;> first|rfl|(simp_all;done)|(exfalso;simp_all;done)|(congr 1;rw [qW];simp only [yF,vS,uH];exact ⟨fun h=>⟨p31,h⟩,fun h=>h.2⟩)),rfl⟩
  intro gy a H
  try have pO:=dF gy
  refine kP H (Kc bG (SR fun _ bW=>Rm rfl (Rc rfl (Rm rfl (Sp 16 rfl ?_ ?_))))) <;> clear H bG
  ·intro h16 a H
   try have p16:=dT h16
   refine kH H (YM h16 rfl ?_);clear H;intro a H;refine sO H (wg H rfl rfl h16) rfl rfl ?_;clear H;intro a H;refine kH H (YF KQ h16 rfl (YR Mw h16 rfl (by assumption) ?_));clear H;intro a H;refine kH H (YM h16 rfl ?_);clear H;intro a H;refine Bv (zv:=vi 0) Ig nZ (by kernel_rfl) H (wg H rfl rfl h16) rfl rfl (H.ro _ _ hck.sty) rfl ?_;clear H;intro a H;rw [LY] at H;refine kH H (YM h16 rfl (YC h16 rfl (Pt h16 rfl ?_)));clear H;intro a H;refine s_call jM H wn rfl (jO _ _ H.ro _ 25) rfl ?_;clear H;rintro v26 _ a w ⟨rfl,rfl⟩ - H;refine kH H (ak bW rfl ?_);clear H bW;intro a H;refine lr H results135 rfl ?_
   exact H.rt ⟨av vi (by unfold kK;(repeat' split) <;> first|rfl|(simp_all;done)|(exfalso;simp_all;done)|(congr 1;rw [qW];simp only [yF,vS,uH];exact ⟨fun h=>⟨p31,h⟩,fun h=>h.2⟩)),rfl⟩
  intro h16 a H
  try have p16:=dF h16
  refine kH H (aZ h16 rfl (aZ h16 rfl (aS h16 rfl (Pf h16 rfl ?_))));clear H;intro a H;refine s_call jM H wn rfl (jO _ _ H.ro _ 25) rfl ?_;clear H;rintro v26 _ a w ⟨rfl,rfl⟩ - H;refine kH H (ak bW rfl ?_);clear H bW;intro a H;refine lr H results135 rfl ?_
  exact H.rt ⟨av vi (by unfold kK;(repeat' split) <;> first|rfl|(simp_all;done)|(exfalso;simp_all;done)|(congr 1;rw [qW];simp only [yF,vS,uH];exact ⟨fun h=>⟨p31,h⟩,fun h=>h.2⟩)),rfl⟩
 intro h9 a H
 try have p9:=dF h9
 refine kP H (SR fun _ cK=>Rc rfl (ak cK rfl (Cd rfl ?_ ?_))) <;> clear H cK
 ·intro h27 a H
  try have p27:=dT h27
  refine kP H (SR fun _ bS=>Rm rfl (Rc rfl (Rm rfl (Sp 31 rfl ?_ ?_)))) <;> clear H
  ·intro h31 a H
   try have p31:=dT h31
   refine kH H (YM h31 rfl ?_);clear H;intro a H;refine sO H (wg H rfl rfl h31) rfl rfl ?_;clear H;intro a H;refine kH H (YF Y9 h31 rfl (YR wR h31 rfl (by assumption) ?_));clear H;intro a H;refine kH H (YM h31 rfl ?_);clear H;intro a H;refine Bv (zv:=.bool false) Ak nZ (by kernel_rfl) H (wg H rfl rfl h31) rfl rfl (H.ro _ _ hck.uU) rfl ?_;clear H;intro a H;rw [ER] at H;refine kH H (YN h31 rfl (Pt h31 rfl ?_));clear H;intro a H;refine s_call jM H wn rfl (jO _ _ H.ro _ 26) rfl ?_;clear H;rintro v40 _ a w ⟨rfl,rfl⟩ - H;refine kH H (ak bS rfl ?_);clear H bS;intro a H;refine lr H results135 rfl ?_
   exact H.rt ⟨av vi (by unfold kK;(repeat' split) <;> first|rfl|(simp_all;done)|(exfalso;simp_all;done)|(congr 1;rw [qW];simp only [yF,vS,uH];exact ⟨fun h=>⟨p31,h⟩,fun h=>h.2⟩)),rfl⟩
  intro h31 a H
  try have p31:=dF h31
  refine kH H (aZ h31 rfl (aS h31 rfl (aS h31 rfl (Pf h31 rfl ?_))));clear H;intro a H;refine s_call jM H wn rfl (jO _ _ H.ro _ 26) rfl ?_;clear H;rintro v40 _ a w ⟨rfl,rfl⟩ - H;refine kH H (ak bS rfl ?_);clear H bS;intro a H;refine lr H results135 rfl ?_
  exact H.rt ⟨av vi (by unfold kK;(repeat' split) <;> first|rfl|(simp_all;done)|(exfalso;simp_all;done)|(congr 1;rw [qW];simp only [yF,vS,uH];exact ⟨fun h=>⟨p31,h⟩,fun h=>h.2⟩)),rfl⟩
 intro h27 a H
 try have p27:=dF h27
 refine kP H (Kc K2 (SR fun _ dD=>ak dD rfl ?_));clear H K2 dD;intro a H;refine lr H results135 rfl ?_
 exact H.rt ⟨av vi (by unfold kK;(repeat' split) <;> first|rfl|(simp_all;done)|(exfalso;simp_all;done)|(congr 1;rw [qW];simp only [yF,vS,uH];exact ⟨fun h=>⟨p31,h⟩,fun h=>h.2⟩)),rfl⟩
end
section
open Go.RowKit
section
variable {N:Nat} {D:List Deferred} {w0:World} {F:Nat→Prop} {G0 G G':GH} {L L':OL} {T:List (Nat × aj)}
variable {r:Option Nat} {P:Program} {ops:Array Oper} {Q:Exit→Act→World→Prop} {rest:List Oper} {a:Act} {w w':World}
theorem nE {ι:Type} {Tc:List (Nat × aj)} {l:List Oper} (k:Nat) (Tv:ι→List (Nat × aj)) (Pr:ι→Prop) (_:St N D w0 F G0 G L Tc a w)
  (h1:(∀ i a w,Pr i→St N D w0 F G0 G L (Tv i++Tc) a w→WL r P ops Q (l.drop k) a w)→WL r P ops Q l a w)
  (h2:∀ i a w,Pr i→St N D w0 F G0 G L (Tv i++Tc) a w→WL r P ops Q (l.drop k) a w):WL r P ops Q l a w:=h1 h2
theorem Change.back (h:Change w w' G G' L L'):Change w w' G G L L' :=
 ⟨h.os,h.tape,h.output,h.size,h.fr,fun _ _ h=>h,fun _ _ h=>.inl h,⟨fun k o hk=>h.owns.ro k o (h.gm k o hk),h.owns.own,fun p hp=>(by
  have hs:=h.owns.sep p hp
  cases hg:G p.1 with
  | none=>rfl
  | some o=>have:=h.gm _ _ hg;rw [hs] at this;cases this),h.owns.nd⟩,h.lx⟩
theorem iM.back {R:aj→GH→OL→Prop} {R':aj→OL→Prop} (hR:∀ v G' L',R v G' L'→R' v L') {e:Ending} (h:iM w G L R e w'):iM w G L (fun v G' L'=>G=G'∧R' v L') e w':=by
 obtain ⟨v,G',L',rfl,hc,hr⟩:=h
 exact ⟨v,G,L',rfl,hc.back,rfl,hR _ _ _ hr⟩
theorem Calls.adU {f:FuncId} {args:Array aj} {R:aj→GH→OL→Prop} {R':aj→OL→Prop} (h:Calls P f args w (iM w G L R)) (hR:∀ v G' L',R v G' L'→R' v L'):Calls P f args w (iM w G L fun v G' L'=>G=G'∧R' v L') :=
 h.mono fun _ _=>iM.back hR
theorem bY.back {R:aj→GH→Prop} {e:Ending} (h:bY w G R e w'):bY w G (fun v G'=>(∃ g,R v g)∧G=G') e w':=by
 obtain ⟨v,G',rfl,hb,hX,hr⟩:=h
 exact ⟨v,G,rfl,hb,⟨fun _ _ h=>h,fun _ _ h=>.inl h,fun k o hk=>hX.2.2 k o (hX.1 k o hk)⟩,⟨G',hr⟩,rfl⟩
theorem Ep {f:FuncId} {args:Array aj} {R:aj→GH→Prop} (h:Calls P f args w (bY w G R)):Calls P f args w (bY w G fun v G'=>(∃ g,R v g)∧G=G'):=h.mono fun _ _=>bY.back
theorem ji.add {b:Nat} {o:Obj} (h:ji G ((b,o) :: L) w):Hold (G.add b o) w:=fun k o' hk=>by
 unfold GH.add at hk
 split at hk
 ·next e=>cases hk;subst e;exact h.own _ jB
 ·exact h.ro k o' hk
theorem VD {b:Nat} {o:Obj} {R:aj→GH→Prop} {R':aj→Prop} (hO:ji G ((b,o) :: L) w) (hR:∀ v G',R v G'→R' v) {e:Ending} (h:bY w (G.add b o) R e w'):iM w G ((b,o) :: L) (fun v G' L'=>G=G'∧L'=(b,o) :: L∧R' v) e w':=by
 obtain ⟨v,G',rfl,hb,hX,hr⟩:=h
 exact ⟨v,G,_,rfl,(hO.hp.below hb).acn,rfl,rfl,hR _ _ hr⟩
end
end
section
open Go.RowKit
theorem vW:dJ prog 27 0 0:=⟨by kernel_rfl⟩
theorem yM:dJ prog 27 1 1:=⟨by kernel_rfl⟩
abbrev nG.cells (x:nG):List aj:=[vi x.rev,vi x.move]
abbrev mH.cells (x:mH):List aj:=[vi x.rev,vi x.key,vi x.before,.bool x.had]
theorem afe {G:GH} {x:nG} {cs:List aj} (h:bJ G x.dat cs):cs=x.cells:=by
 simp only [nG.dat,bJ,aC] at h
 obtain ⟨_,_,rfl,⟨rfl,_⟩,_,_,rfl,⟨rfl,_⟩,rfl⟩:=h
 rfl
theorem akK {G:GH} {x:mH} {cs:List aj} (h:bJ G x.dat cs):cs=x.cells:=by
 simp only [mH.dat,bJ,aC] at h
 obtain ⟨_,_,rfl,⟨rfl,_⟩,_,_,rfl,⟨rfl,_⟩,_,_,rfl,⟨rfl,_⟩,_,_,rfl,⟨rfl,_⟩,rfl⟩:=h
 rfl
abbrev EI (h:jl) (p d l:aj):aj:=.agg #[p,vi h.marks.ins,vi h.marks.move,d,l]
end
section
open Go.RowKit
theorem Y1:dJ prog 117 0 0:=⟨by kernel_rfl⟩
theorem pF:dJ prog 117 1 1:=⟨by kernel_rfl⟩
theorem Ev:dJ prog 117 3 3:=⟨by kernel_rfl⟩
theorem uM:dJ prog 117 2 2:=⟨by kernel_rfl⟩
theorem QW:∀ args w,(callFunc 135 args).run prog w=.ok (.enter 135 args) w:=enters func135 rfl (by kernel_rfl)
variable {us:List Int}
structure dL where
 st:List bL
 uU:List Int
 Cy:List Int
 us:List Int
abbrev aK (us:List Int) (st:List bL) (li:List dM) (rv:List dU):dL:=⟨st,li.map dM.id,rv.map dU.id,us⟩
theorem OP {G:GH} {l:List mH} {A:Option Addr} {n c k:Nat} (hv:aC G (.sl 4 (l.map mH.dat)) (.slice A n c)) (hk:k < l.length):∃ b o,A=some ⟨b,o,none⟩∧(∀ j u,l[k].cells[j]?=some u→aG G b (o+k*4+j)=some u):=by
 obtain ⟨A',c',he,_,_,hg⟩:=hv.slice
 injection he with e1 e2 e3
 subst e1;obtain ⟨b,o,cs,h1,h2,h3,h4⟩:=hg k l[k].dat (by simp [hk]);have:=akK h4;subst this;exact ⟨b,o,h1,h3⟩
theorem Nq {G:GH} {l:List nG} {A:Option Addr} {n c k:Nat} (hv:aC G (.sl 2 (l.map nG.dat)) (.slice A n c)) (hk:k < l.length):∃ b o,A=some ⟨b,o,none⟩∧(∀ j u,l[k].cells[j]?=some u→aG G b (o+k*2+j)=some u):=by
 obtain ⟨A',c',he,_,_,hg⟩:=hv.slice
 injection he with e1 e2 e3
 subst e1;obtain ⟨b,o,cs,h1,h2,h3,h4⟩:=hg k l[k].dat (by simp [hk]);have:=afe h4;subst this;exact ⟨b,o,h1,h3⟩
def lI (C:dL) (e:Int) (k:Nat) (x:mH) (pk:Int):Int :=
 if x.rev∉C.Cy then 22 else if AQ e x.key=false then 4 else if 0 < k∧x.key < pk then 6 else if x.had=false then bE (decide (x.before≠0)) 21 else bK [sF x.key x.before,kK C.st C.uU x.key x.before]
def Bp (C:dL) (e:Int) (l:List mH) (k:Nat):Int:=match l[k]? with|some x=>lI C e k x ((l[k - 1]?.map mH.key).getD 0)|none=>0
theorem akL (G:GH) (w0:World) (hG:Hold G w0) (st:List bL) (li:List dM) (rv:List dU) (b ms ml mr mb mu:Nat) (n:Int) (hck:wW us G st li rv ms ml mr mu) (hb:G b=some (gI b ms ml mr mb mu n).2)
  (e:Int) (l:List mH) (v:aj) (hv:aC G (.sl 4 (l.map mH.dat)) v) (k:Nat) (hk:k < l.length) :
  Calls prog 137 #[(aQ b 0),vi e,v,vi k] w0 (bY w0 G fun u G'=>u=vi (Bp (aK us st li rv) e l k)):=by
 have hc2:aG G b 2=some (.map (some mr)):=by unfold aG;rw [hb];rfl
 obtain ⟨A,c,rfl,hl1,hl2,-⟩:=hv.slice;have hml:maxLen=9223372036854775807:=rfl;rw [bQ] at *;obtain ⟨xb,xo,rfl,hrow⟩:=OP hv hk
 have hk1:k - 1 < l.length:=by omega
 obtain ⟨b',o',he',hrow'⟩:=OP hv hk1
 injection he' with he'
 injection he' with e1 e2
 subst e1;subst e2
 have he:Bp (aK us st li rv) e l k=lI (aK us st li rv) e k l[k] l[k - 1].key:=by unfold Bp;rw [fP hk,fP hk1];rfl
 obtain ⟨x,hx⟩:∃ x,x=l[k]:=⟨_,rfl⟩;obtain ⟨y,hy⟩:∃ y,y=l[k - 1]:=⟨_,rfl⟩;rw [← hx] at hrow he;rw [← hy] at hrow' he;have hq:=hrow' 1 _ rfl;refine eN [(0,_),(1,_),(2,_),(3,_)] func137 rfl ntmps137 rfl rfl hG ?_;intro a H;refine kP H (SR fun _ K1=>ak K1 rfl (SR fun _ K2=>Rm rfl (Rm rfl (Ri xX Ag rfl rfl ?_))));clear H K1;intro a H;refine bP Ag (cs:=x.cells) H wn rfl rfl (fun j v hj=>H.hp.aG (hrow j v hj)) rfl ?_;clear H;intro a H;refine eH Ag H wn rfl ?_;clear H;intro b9 a w wD H;refine bT Ag 0 (vs:=[_,_,_,_]) _ H wn rfl rfl rfl rfl rfl rfl rfl rfl ?_;clear H;intro w H;dsimp only [List.set,setRow] at H;refine K2 _ _ ?_;clear K2;refine kP H (SQ fun _ K3=>SB (SQ fun _ K4=>?_));clear H;intro a H;refine dI hmx [[],[0],[0,1],[0,1,2],[],[4],(ra 0 6),(ra 0 7),(ra 0 8)] [8] (by kernel_rfl) [_,_,_,_,_,vi x.rev,.bool (decide (x.rev∈rv.map dU.id)),_] H (aI (Z0 rfl (Rm rfl)) (Z1 0 15 rfl (Rk rfl)) (Z1 1 16 rfl (Rf KR rfl)) (X1 2 17 rfl fun hG=>Rg wR rfl (aH hG hc2)) (aI (Z0 rfl (Rf Y1 rfl)) (Z1 4 19 rfl (Ro aD 0 rfl)) ?_ (Z1 6 21 rfl (Rn rfl)) (bC (cu rfl) dN))) ?_
 ·refine eU 3 18 5 20 rfl rfl fun _ a w G1 hG HT H fin=>?_;refine Bv (zv:=.bool false) Ak nZ (by kernel_rfl) H wn rfl rfl (H.ro _ _ (hG _ _ hck.rev)) rfl ?_;clear H;intro a H;rw [ER] at H;exact fin H iJ rfl
 clear H;intro a w G Gp H hv;have H:=H.bg (hv 7 22 rfl rfl) rfl;clear hv;refine kH H (Ra rfl ?_);clear H;intro a H;refine aJ ⟨rfl,?_⟩;refine K4 _ _ ?_;clear K4;refine qF H rfl ?_ ?_
 ·intro gq
  try have sN:=dT gq
  refine kP H (SR fun _ K5=>ak K5 rfl ?_);clear H K5;intro a H;refine lr H results137 rfl ?_
  exact H.rt (by rw [he];refine av vi ?_;clear he hrow hrow' hq hx hy;unfold lI;(repeat' split) <;> first|rfl|(simp_all;done)|(exfalso;simp_all;done))
 intro gq
 try have sN:=dF gq
 refine kP H (SR fun _ K6=>Rm rfl (aT pF aD 0 rfl rfl ?_));clear H;intro a H;refine s_call Ru H wn rfl (Ep (RQ _ _ H.ro e x.key)) rfl ?_;clear H;rintro v27 _ a w ⟨⟨_,rfl⟩,rfl⟩ - H;refine kH H (Rn rfl (ak K6 rfl (Cd rfl ?_ ?_))) <;> clear H K6
 ·intro h23 a H
  try have Cr:=dT h23
  refine kP H (SR fun _ K7=>ak K7 rfl ?_);clear H K7;intro a H;refine lr H results137 rfl ?_
  exact H.rt (by rw [he];refine av vi ?_;clear he hrow hrow' hq hx hy;unfold lI;(repeat' split) <;> first|rfl|(simp_all;done)|(exfalso;simp_all;done))
 intro h23 a H
 try have Cr:=dF h23
 refine aN (fun _ K8=>?_);replace hq:=aH Gp hq
 by_cases c0:0 < (k:Int)
 ·skip
  by_cases c1:x.key < y.key
  ·skip;refine dI hmx [[],[0],[0,1],[0,1,2],(ra 0 4),[0,1,2],[0,1,2],[0,1,2,6],[0,1,2,5,6,7],[0,1,2,5,6,7,8],[0,1,2,5,6,7,8,9],(ra 0 11),(ra 0 12),(ra 0 13)] [13] (by kernel_rfl) [_,_,_,_,vi x.key,_,_,vi ((k - 1:Nat):Int),_,_,_,_,_] H (aI (Z0 rfl (Rm rfl)) (Z1 0 30 rfl (Rc rfl)) (Z1 1 31 rfl (Rm rfl)) (Z1 2 32 rfl (YF pF (aF c0) rfl)) (aI (Z2 3 33 2 32 rfl (YO aD 0 (aF c0) rfl)) (Z1 2 32 rfl (YM (aF c0) rfl)) (Z1 2 32 rfl (YM (aF c0) rfl)) ?_ (aI (Z3 5 35 7 37 2 32 rfl (YI xX Ag (aF c0) rfl rfl)) (Z2 8 38 2 32 rfl (YF pF (aF c0) rfl)) (X2 9 39 2 32 rfl fun hG=>YR aD (aF c0) rfl (aH hG hq)) (Z3 4 34 10 40 2 32 rfl (YC (aF c0) rfl)) (bC (Z2 2 32 11 41 rfl (Pt (aF c0) rfl)) (bC (cu rfl) dN))))) ?_
   ·refine eU 6 36 2 32 rfl rfl fun _ a w G1 hG HT H fin=>?_;refine mD _ H (wg H rfl rfl (aF c0)) rfl rfl rfl (by omega) (by omega) rfl ?_;clear H;intro a H;exact fin H iJ (by show _=_;first|rfl|exact av vi (by omega))
   clear H;intro a w G lS H hv;have H:=H.bg (hv 12 42 rfl rfl) rfl;clear hv;refine kH H (Ra rfl ?_);clear H;intro a H;refine aJ ⟨rfl,?_⟩;refine K8 _ _ ?_;clear K8;refine Ay H rfl (aF c1) ?_;refine aN (fun _ K9=>?_);have hz:0 < k∧x.key < y.key:=⟨by omega,c1⟩;refine kP H (SC (aM K9 rfl ?_));clear H K9;intro a H;refine lr H results137 rfl ?_
   exact H.rt (by rw [he];refine av vi ?_;clear he hrow hrow' hq hx hy;unfold lI;(repeat' split) <;> first|rfl|(simp_all;done)|(exfalso;simp_all;done))
  skip;refine dI hmx [[],[0],[0,1],[0,1,2],(ra 0 4),[0,1,2],[0,1,2],[0,1,2,6],[0,1,2,5,6,7],[0,1,2,5,6,7,8],[0,1,2,5,6,7,8,9],(ra 0 11),(ra 0 12),(ra 0 13)] [13] (by kernel_rfl) [_,_,_,_,vi x.key,_,_,vi ((k - 1:Nat):Int),_,_,_,_,_] H (aI (Z0 rfl (Rm rfl)) (Z1 0 30 rfl (Rc rfl)) (Z1 1 31 rfl (Rm rfl)) (Z1 2 32 rfl (YF pF (aF c0) rfl)) (aI (Z2 3 33 2 32 rfl (YO aD 0 (aF c0) rfl)) (Z1 2 32 rfl (YM (aF c0) rfl)) (Z1 2 32 rfl (YM (aF c0) rfl)) ?_ (aI (Z3 5 35 7 37 2 32 rfl (YI xX Ag (aF c0) rfl rfl)) (Z2 8 38 2 32 rfl (YF pF (aF c0) rfl)) (X2 9 39 2 32 rfl fun hG=>YR aD (aF c0) rfl (aH hG hq)) (Z3 4 34 10 40 2 32 rfl (YC (aF c0) rfl)) (bC (Z2 2 32 11 41 rfl (Pt (aF c0) rfl)) (bC (cu rfl) dN))))) ?_
  ·refine eU 6 36 2 32 rfl rfl fun _ a w G1 hG HT H fin=>?_;refine mD _ H (wg H rfl rfl (aF c0)) rfl rfl rfl (by omega) (by omega) rfl ?_;clear H;intro a H;exact fin H iJ (by show _=_;first|rfl|exact av vi (by omega))
  clear H;intro a w G lS H hv;have H:=H.bg (hv 12 42 rfl rfl) rfl;clear hv;refine kH H (Ra rfl ?_);clear H;intro a H;refine aJ ⟨rfl,?_⟩;refine K8 _ _ ?_;clear K8;refine oh H rfl (aP c1) ?_;refine aN (fun _ aV=>?_)
  have hz:¬ (0 < k∧x.key < y.key):=by first|exact fun h=>c1 h.2|exact fun h=>c0 (by omega)
  refine kP H (SC (aT Ev qQ 0 rfl rfl (Rn rfl (aM aV rfl (Cd rfl ?_ ?_))))) <;> clear H aV
  ·intro h43 a H
   try have p43:=dT h43
   refine kP H (SR fun _ bF=>aT uM aD 0 rfl rfl (Rc rfl ?_));clear H;intro a H;refine s_call jM H wn rfl (jO _ _ H.ro _ 21) rfl ?_;clear H;rintro v50 _ a w ⟨rfl,rfl⟩ - H;refine kH H (ak bF rfl ?_);clear H bF;intro a H;refine lr H results137 rfl ?_
   exact H.rt (by rw [he];refine av vi ?_;clear he hrow hrow' hq hx hy;unfold lI;(repeat' split) <;> first|rfl|(simp_all;done)|(exfalso;simp_all;done))
  intro h43 a H
  try have p43:=dF h43
  refine fF ?_;refine K3 _ _ ?_;clear K3;refine aN (fun _ bG=>?_);replace hck:=(hck.mono Gp).mono lS;replace hb:=lS _ _ (Gp _ _ hb);refine dI hmx [[],[0],[],[2],(ra 0 4),[],[],[6],[],[8],(ra 0 10),(ra 0 11),(ra 0 12),(ra 0 13)] [11,12,13] (by kernel_rfl) [_,vi x.key,_,vi x.before,vi (sF x.key x.before),_,_,vi x.key,_,vi x.before,vi (kK st (li.map dM.id) x.key x.before)] H (aI (Z0 rfl (Rf pF rfl)) (Z1 0 51 rfl (Ro aD 0 rfl)) (Z0 rfl (Rf uM rfl)) (Z1 2 53 rfl (Ro aD 0 rfl)) (aI ?_ (Z0 rfl (Rm rfl)) (Z0 rfl (Rf pF rfl)) (Z1 6 57 rfl (Ro aD 0 rfl)) (aI (Z0 rfl (Rf uM rfl)) (Z1 8 59 rfl (Ro aD 0 rfl)) ?_ (cu rfl) (bC (cu rfl) (bC (cu rfl) dN))))) ?_
  ·refine eU 1 52 3 54 rfl rfl fun _ a w G1 hG HT H fin=>?_;refine s_call F6 H wn rfl (F4 _ _ H.ro x.key x.before) rfl ?_;clear H;rintro v55 Qg a w rfl SI H;exact fin H SI (rfl)
  ·refine vK 5 56 7 58 9 60 rfl rfl fun _ a w G1 hG HT H fin=>?_;refine s_call QW H wn rfl (QK _ _ H.ro st li rv b ms ml mr mb mu n x.key x.before (hck.mono hG) (hG _ _ hb)) rfl ?_;clear H;rintro v61 G61 a w ⟨rfl,-⟩ SK H;exact fin H SK (rfl)
  clear H;intro a w G rM H hv;have H:=H.bg (hv 4 55 rfl rfl) rfl;have H:=H.bg (hv 10 61 rfl rfl) rfl;clear hv;refine jy qz gZ [_,_] [_,_] H wn rfl rfl rfl rfl rfl (by intro i q h;match i,h with|0,h=>exact h|1,h=>exact h|n+2,h=>simp at h) rfl rfl ?_;clear H;intro XJ a w ait H;obtain ⟨WS,LG,Tz,H⟩:=H.dW;refine s_call qZ H wn rfl (rz _ _ H.ro _ _ (Af Tz)) rfl ?_;clear H;rintro v63 _ a w ⟨rfl,rfl⟩ - H;refine kH H (Ra rfl ?_);clear H;intro a H;refine aJ ⟨rfl,?_⟩;refine bG _ _ ?_;clear bG;refine lr H results137 rfl ?_
  exact H.rt (by rw [he];refine av vi ?_;clear he hrow hrow' hq hx hy;unfold lI;(repeat' split) <;> first|rfl|(simp_all;done)|(exfalso;simp_all;done))
 skip;refine dI hmx [[],[0],[0,1],[0,1,2],(ra 0 4),[0,1,2],[0,1,2],[0,1,2,6],[0,1,2,5,6,7],[0,1,2,5,6,7,8],[0,1,2,5,6,7,8,9],(ra 0 11),(ra 0 12),(ra 0 13)] [13] (by kernel_rfl) [_,_,_,undef,undef,undef,undef,undef,undef,undef,undef,undef,_] H (aI (Z0 rfl (Rm rfl)) (Z1 0 30 rfl (Rc rfl)) (Z1 1 31 rfl (Rm rfl)) (aW (j:=2) (by kernel_rfl) (fun _ _ _ _ _ h=>h) rfl rfl rfl rfl rfl (fun _ _ h=>aY h (aL (aP c0))) rfl (fun _=>rfl)) (aI (aW (j:=2) (by kernel_rfl) (fun _ _ _ _ _ h=>h) rfl rfl rfl rfl rfl (fun _ _ h=>aY h (aL (aP c0))) rfl (fun _=>rfl)) (aW (j:=2) (by kernel_rfl) (fun _ _ _ _ _ h=>h) rfl rfl rfl rfl rfl (fun _ _ h=>aY h (aL (aP c0))) rfl (fun _=>rfl)) (aW (j:=2) (by kernel_rfl) (fun _ _ _ _ _ h=>h) rfl rfl rfl rfl rfl (fun _ _ h=>aY h (aL (aP c0))) rfl (fun _=>rfl)) (aW (j:=2) (by kernel_rfl) (fun _ _ _ _ _ h=>h) rfl rfl rfl rfl rfl (fun _ _ h=>aY h (aL (aP c0))) rfl (fun _=>rfl)) (aI (aW (j:=2) (by kernel_rfl) (fun _ _ _ _ _ h=>h) rfl rfl rfl rfl rfl (fun _ _ h=>aY h (aL (aP c0))) rfl (fun _=>rfl)) (aW (j:=2) (by kernel_rfl) (fun _ _ _ _ _ h=>h) rfl rfl rfl rfl rfl (fun _ _ h=>aY h (aL (aP c0))) rfl (fun _=>rfl)) (aW (j:=2) (by kernel_rfl) (fun _ _ _ _ _ h=>h) rfl rfl rfl rfl rfl (fun _ _ h=>aY h (aL (aP c0))) rfl (fun _=>rfl)) (aW (j:=2) (by kernel_rfl) (fun _ _ _ _ _ h=>h) rfl rfl rfl rfl rfl (fun _ _ h=>aY h (aL (aP c0))) rfl (fun _=>rfl)) (bC (Z2 2 32 11 41 rfl (Pf (aP c0) rfl)) (bC (cu rfl) dN))))) ?_
 clear H;intro a w G lS H hv;have H:=H.bg (hv 12 42 rfl rfl) rfl;clear hv;refine kH H (Ra rfl ?_);clear H;intro a H;refine aJ ⟨rfl,?_⟩;refine K8 _ _ ?_;clear K8;refine oh H rfl rfl ?_;refine aN (fun _ bM=>?_)
 have hz:¬ (0 < k∧x.key < y.key):=by first|exact fun h=>c1 h.2|exact fun h=>c0 (by omega)
 refine kP H (SC (aT Ev qQ 0 rfl rfl (Rn rfl (aM bM rfl (Cd rfl ?_ ?_))))) <;> clear H bM
 ·intro h43 a H
  try have p43:=dT h43
  refine kP H (SR fun _ bN=>aT uM aD 0 rfl rfl (Rc rfl ?_));clear H;intro a H;refine s_call jM H wn rfl (jO _ _ H.ro _ 21) rfl ?_;clear H;rintro v50 _ a w ⟨rfl,rfl⟩ - H;refine kH H (ak bN rfl ?_);clear H bN;intro a H;refine lr H results137 rfl ?_
  exact H.rt (by rw [he];refine av vi ?_;clear he hrow hrow' hq hx hy;unfold lI;(repeat' split) <;> first|rfl|(simp_all;done)|(exfalso;simp_all;done))
 intro h43 a H
 try have p43:=dF h43
 refine fF ?_;refine K3 _ _ ?_;clear K3;refine aN (fun _ bW=>?_);replace hck:=(hck.mono Gp).mono lS;replace hb:=lS _ _ (Gp _ _ hb);refine dI hmx [[],[0],[],[2],(ra 0 4),[],[],[6],[],[8],(ra 0 10),(ra 0 11),(ra 0 12),(ra 0 13)] [11,12,13] (by kernel_rfl) [_,vi x.key,_,vi x.before,vi (sF x.key x.before),_,_,vi x.key,_,vi x.before,vi (kK st (li.map dM.id) x.key x.before)] H (aI (Z0 rfl (Rf pF rfl)) (Z1 0 51 rfl (Ro aD 0 rfl)) (Z0 rfl (Rf uM rfl)) (Z1 2 53 rfl (Ro aD 0 rfl)) (aI ?_ (Z0 rfl (Rm rfl)) (Z0 rfl (Rf pF rfl)) (Z1 6 57 rfl (Ro aD 0 rfl)) (aI (Z0 rfl (Rf uM rfl)) (Z1 8 59 rfl (Ro aD 0 rfl)) ?_ (cu rfl) (bC (cu rfl) (bC (cu rfl) dN))))) ?_
 ·refine eU 1 52 3 54 rfl rfl fun _ a w G1 hG HT H fin=>?_;refine s_call F6 H wn rfl (F4 _ _ H.ro x.key x.before) rfl ?_;clear H;rintro v55 Qg a w rfl SI H;exact fin H SI (rfl)
 ·refine vK 5 56 7 58 9 60 rfl rfl fun _ a w G1 hG HT H fin=>?_;refine s_call QW H wn rfl (QK _ _ H.ro st li rv b ms ml mr mb mu n x.key x.before (hck.mono hG) (hG _ _ hb)) rfl ?_;clear H;rintro v61 G61 a w ⟨rfl,-⟩ SK H;exact fin H SK (rfl)
 clear H;intro a w G rM H hv;have H:=H.bg (hv 4 55 rfl rfl) rfl;have H:=H.bg (hv 10 61 rfl rfl) rfl;clear hv;refine jy qz gZ [_,_] [_,_] H wn rfl rfl rfl rfl rfl (by intro i q h;match i,h with|0,h=>exact h|1,h=>exact h|n+2,h=>simp at h) rfl rfl ?_;clear H;intro XJ a w ait H;obtain ⟨WS,LG,Tz,H⟩:=H.dW;refine s_call qZ H wn rfl (rz _ _ H.ro _ _ (Af Tz)) rfl ?_;clear H;rintro v63 _ a w ⟨rfl,rfl⟩ - H;refine kH H (Ra rfl ?_);clear H;intro a H;refine aJ ⟨rfl,?_⟩;refine bW _ _ ?_;clear bW;refine lr H results137 rfl ?_
 exact H.rt (by rw [he];refine av vi ?_;clear he hrow hrow' hq hx hy;unfold lI;(repeat' split) <;> first|rfl|(simp_all;done)|(exfalso;simp_all;done))
end
section
open Go.RowKit
theorem JR:Ty prog 93 1 8 [.pointer none] false:=⟨by kernel_rfl,by kernel_rfl⟩
theorem afB:∀ args w,(callFunc 137 args).run prog w=.ok (.enter 137 args) w:=enters func137 rfl (by kernel_rfl)
theorem Ai:Ty prog 27 4 64 [.int .i64 0,.int .i64 0,.slice none 0 0,.slice none 0 0] true:=⟨by kernel_rfl,by kernel_rfl⟩
theorem BS:dJ prog 115 0 0:=⟨by kernel_rfl⟩
theorem IU:dJ prog 115 1 1:=⟨by kernel_rfl⟩
theorem afA:∀ args w,(callFunc 136 args).run prog w=.ok (.enter 136 args) w:=enters func136 rfl (by kernel_rfl)
variable {us:List Int}
theorem akJ {G:GH} {st:List bL} {li:List dM} {rv:List dU} {b ms ml mr mb mu:Nat} {n:Int} (hck:wW us G st li rv ms ml mr mu) (hb:G b=some (gI b ms ml mr mb mu n).2)
  {x3 x4 Wq:Nat} {e:Int} {l:List mH} {v:aj} (h3:aG G x3 0=some (aQ b 0)) (h4:aG G x4 0=some (vi e)) (h11:aG G Wq 3=some v) (hv:aC G (.sl 4 (l.map mH.dat)) v) :
  uE (.func (.func 136) #[] #[(aQ x3 0),(aQ x4 0),(aQ Wq 0)]) G l.length (Bp (aK us st li rv) e l):=by
 intro k hk G1 w0 hm hG;refine nK (caps:=[(aQ x3 0),(aQ x4 0),(aQ Wq 0)]) afA ?_;replace h3:=aH hm h3;replace h4:=aH hm h4;replace h11:=aH hm h11;replace hv:=hv.mono hm;obtain ⟨vA,vn,vc,rfl⟩:=hv.form;refine eN [(0,_),(1,_),(2,_),(3,_)] func136 rfl ntmps136 rfl rfl hG ?_;intro a H;refine kP H (SR fun _ K1=>ak K1 rfl (SR fun _ K2=>Rg JR rfl (by assumption) ?_));clear H K1;intro a H;refine kH H (Rg aD rfl (by assumption) ?_);clear H;intro a H;refine kH H (Rf zO rfl (Rg Ah rfl (by assumption) ?_));clear H;intro a H;refine kH H (Rm rfl ?_);clear H;intro a H;refine s_call afB H wn rfl (akL _ _ H.ro st li rv b ms ml mr mb mu n (hck.mono hm) (hm _ _ hb) e l _ hv k hk) rfl ?_;clear H;rintro v11 zG a w rfl GK H;exact kH H (ak K2 rfl (LR results136 rfl fun H=>H.rt rfl))
def xR (C:dL) (l:List jL):Int:=bK (l.map fun p=>kK C.st C.uU p.key p.value)
def fU (C:dL) (m:zJ):Int:=if m.ins≠0∧m.ins∉C.Cy then 22 else if ¬ (0≤m.move∧m.move≤1073741824)∨(m.move≠0∧m.ins=0) then 21 else if 16 < (m.bV.length:Int) then 9 else 0
def oI (C:dL) (k:Nat) (x:nG) (pr:Int):Int:=if x.rev∉C.Cy then 22 else if 0 < k∧x.rev≤pr then 6 else if ¬ (0≤x.move∧x.move≤1073741824) then 21 else 0
def tJ (C:dL) (l:List nG) (k:Nat):Int:=match l[k]? with|some x=>oI C k x ((l[k - 1]?.map nG.rev).getD 0)|none=>0
def fK (C:dL) (e:Int) (h:jl):Int:=bK [iO e h.props,xR C h.props,fU C h.marks,iC (tJ C h.marks.bV) h.marks.bV.length,bE (decide (64 < (h.marks.layers.length:Int))) 9,iC (Bp C e h.marks.layers) h.marks.layers.length]
theorem ZF {C:dL} {e:Int} {h:jl} (h1:iO e h.props≠0):fK C e h=iO e h.props:=by simp [fK,bK,h1]
theorem ZG {C:dL} {e:Int} {h:jl} (h1:iO e h.props=0) (h2:xR C h.props≠0):fK C e h=xR C h.props:=by simp [fK,bK,h1,h2]
theorem qJ {C:dL} {e:Int} {h:jl} (h1:iO e h.props=0) (h2:xR C h.props=0) (h3:fU C h.marks≠0):fK C e h=fU C h.marks:=by simp [fK,bK,h1,h2,h3]
theorem ZH {C:dL} {e:Int} {h:jl} (h1:iO e h.props=0) (h2:xR C h.props=0) (h3:fU C h.marks=0) (h4:iC (tJ C h.marks.bV) h.marks.bV.length≠0):fK C e h=iC (tJ C h.marks.bV) h.marks.bV.length:=by simp [fK,bK,h1,h2,h3,h4]
theorem ZI {C:dL} {e:Int} {h:jl} (h1:iO e h.props=0) (h2:xR C h.props=0) (h3:fU C h.marks=0) (h4:iC (tJ C h.marks.bV) h.marks.bV.length=0) (h5:64 < (h.marks.layers.length:Int)):fK C e h=9:=by simp [fK,bK,h1,h2,h3,h4,bE,h5]
theorem ZJ {C:dL} {e:Int} {h:jl} (h1:iO e h.props=0) (h2:xR C h.props=0) (h3:fU C h.marks=0) (h4:iC (tJ C h.marks.bV) h.marks.bV.length=0) (h5:¬ 64 < (h.marks.layers.length:Int)):fK C e h=iC (Bp C e h.marks.layers) h.marks.layers.length:=by simp [fK,bK,h1,h2,h3,h4,bE,h5];exact Eq.symm
theorem Pn {C:dL} {l:List jL} {k:Nat} (h:k < l.length):bK ((l.map fun p=>kK C.st C.uU p.key p.value).drop k)=if kK C.st C.uU l[k].key l[k].value≠0 then kK C.st C.uU l[k].key l[k].value else bK ((l.map fun p=>kK C.st C.uU p.key p.value).drop (k+1)):=by
 rw [NR (by simpa using h)];simp
theorem aiP (G:GH) (w0:World) (hG:Hold G w0) (st:List bL) (li:List dM) (rv:List dU) (b ms ml mr mb mu:Nat) (n:Int) (hck:wW us G st li rv ms ml mr mu) (hb:G b=some (gI b ms ml mr mb mu n).2)
  (e:Int) (h:jl) (p d l:aj) (hh:qC G h p d l) (hz:oV h≤4294967296) :
  Calls prog 75 #[(aQ b 0),vi e,EI h p d l] w0 (bY w0 G fun u G'=>u=vi (fK (aK us st li rv) e h)):=by
 obtain ⟨pA,pc,rfl,-,-,-⟩:=hh.props.slice;obtain ⟨dA,dc,rfl,-,-,-⟩:=hh.bV.slice;obtain ⟨lA,lc,rfl,-,-,-⟩:=hh.layers.slice;have hml:maxLen=9223372036854775807:=rfl;have hzz:=CK h;have hz1:=mP (h.props.map jL.dat);have hz2:=mP (h.marks.bV.map nG.dat);have hz3:=mP (h.marks.layers.map mH.dat)
 simp only [bQ] at hh hz1 hz2 hz3 ⊢
 generalize oV h=zz at hz hzz
 refine eN [(0,_),(1,_),(2,_)] func75 rfl ntmps75 rfl rfl hG ?_;intro a H;refine dh (fun _ K1=>?_);refine fB (cs:=[_]) H wn rfl rfl rfl ?_;clear H;intro b3 a w hb3 H;refine fB (cs:=[_]) H wn rfl rfl rfl ?_;clear H;intro b4 a w hb4 H;refine fB (cs:=[_,_,_,_,_]) H wn rfl rfl rfl ?_;clear H;intro b5 a w hb5 H;refine kH H (ak K1 rfl (SQ fun _ K2=>SQ fun _ K3=>?_));clear H K1;intro a H;obtain ⟨Ga5,Om,wC,H⟩:=H.dW;obtain ⟨Ga4,Jj,yS,H⟩:=H.dW;obtain ⟨Ga,EL,Bb,H⟩:=H.dW;replace wC:=EL _ _ (Jj _ _ wC);replace yS:=EL _ _ yS;have hma:∀ b o,G b=some o→Ga b=some o:=fun b o h=>EL _ _ (Jj _ _ (Om _ _ h));clear EL Jj Om;replace hck:=hck.mono hma;replace hb:=hma _ _ hb;replace hh:=hh.mono hma
 have g3:aG Ga b3 0=some (aQ b 0):=by unfold aG;rw [Bb];rfl
 have g4:aG Ga b4 0=some (vi e):=by unfold aG;rw [yS];rfl
 have R6:aG Ga b5 0=some (.slice pA h.props.length pc):=by unfold aG;rw [wC];rfl
 have R8:∀ (j:Nat) (u:aj),[vi h.marks.ins,vi h.marks.move,.slice dA h.marks.bV.length dc,.slice lA h.marks.layers.length lc][j]?=some u→aG Ga b5 (1+j)=some u:=by
  intro j u hj
  unfold aG;rw [wC]
  match j,hj with
  | 0,hj=>exact hj
  | 1,hj=>exact hj
  | 2,hj=>exact hj
  | 3,hj=>exact hj
  | n+4,hj=>simp at hj
 have hc2:aG Ga b 2=some (.map (some mr)):=by unfold aG;rw [hb];rfl
 refine kP H (SC (Rg aD rfl (by assumption) ?_));clear H;intro a H;refine kH H (Rf BX rfl (Rg zx rfl (by assumption) ?_));clear H;intro a H;refine s_call Rq H wn rfl (Ep (Vz _ _ H.ro e h.props _ hh.props)) rfl ?_;clear H;rintro v17 _ a w ⟨⟨_,rfl⟩,rfl⟩ - H;refine kH H (aM K3 rfl (SR fun _ K4=>Rm rfl (Rc rfl (Kz K4 (Cd rfl ?_ ?_))))) <;> clear H K3 K4
 ·intro h19 a H
  try have wL:=dT h19
  refine aN (fun _ K5=>?_);have hE:=ZF (C:=aK us st li rv) (e:=e) (h:=h) wL;exact kP H (SC (Rm rfl (aM K5 rfl (LR results75 rfl fun H=>H.rt (by rw [hE])))))
 intro h19 a H
 try have wL:=dF h19
 have e1:iO e h.props=0:=by simpa using wL
 refine kP H (Kc K2 (SQ fun _ K6=>SR fun _ K7=>Rf BX rfl (Rg zx rfl (by assumption) ?_)));clear H K2;intro a H;refine kH H (Rl sQ rfl (Rm rfl (Kz K7 (SB ?_))));clear H K7;intro a H;skip;refine eT (ι:=Nat) (Tc:=[(3,_),(4,_),(5,_),(22,_),(23,_)]) (Lc:=[]) (fun gh=>[(24,vi gh)]) (fun gh=>[]) (fun gh=>Ga) (fun gh=>gh≤h.props.length∧bK ((h.props.map fun p=>kK st (li.map dM.id) p.key p.value).drop gh)=xR (aK us st li rv) h.props) (fun gh=>h.props.length - gh) (0) (by exact (H).sub ⟨rfl,rfl,rfl,rfl,rfl,rfl,aB⟩) ?_ ?_
 ·exact ⟨gX _,rfl⟩
 clear H;intro k a w hI H;obtain ⟨hk,heq⟩:=hI;dsimp only [lca,aO] at H;refine kP H (SR fun _ K8=>Rc rfl (Kz K8 (SQ fun _ K9=>Cd rfl ?_ ?_))) <;> clear H K8
 ·intro gN a H
  try have p25:=dT gN
  have hk2:k < h.props.length:=by omega
  obtain ⟨xb,xo,rfl,hrow⟩:=Mi hh.props hk2;refine kP H (Kc K9 (SQ fun _ aV=>SB (SR fun _ bF=>Ri sQ sP rfl rfl ?_)));clear H K9;intro a H;refine bP sP (cs:=[_,_]) H wn rfl rfl (fun j v hj=>H.hp.aG (hrow j v hj)) rfl ?_;clear H;intro a H;refine eH sP H wn rfl ?_;clear H;intro b9 a w wD H;refine bT sP 0 (vs:=[_,_]) _ H wn rfl rfl rfl rfl rfl rfl rfl rfl ?_;clear H;intro w H;dsimp only [List.set,setRow] at H;refine bF _ _ ?_;clear bF;refine kP H (SR fun _ bG=>Rg JR rfl (by assumption) ?_);clear H;intro a H;refine kH H (aT xB aD 0 rfl rfl (aT RD aD 0 rfl rfl ?_));clear H;intro a H;refine s_call QW H wn rfl (QK _ _ H.ro st li rv b ms ml mr mb mu n h.props[k].key h.props[k].value hck hb) rfl ?_;clear H;rintro v33 _ a w ⟨rfl,rfl⟩ - H;refine kH H (ak bG rfl (SR fun _ bM=>Rm rfl (Rc rfl (Kz bM (Cd rfl ?_ ?_))))) <;> clear H bG bM
  ·intro yO a H
   try have p35:=dT yO
   refine aN (fun _ bN=>?_)
   have hr:xR (aK us st li rv) h.props=kK st (li.map dM.id) h.props[k].key h.props[k].value:=by rw [← heq];exact (Pn (C:=aK us st li rv) hk2).trans (au p35)
   have hE:=(ZG (C:=aK us st li rv) (e:=e) (h:=h) e1 (by rw [hr];exact p35)).trans hr;exact kP H (SC (Rm rfl (aM bN rfl (LR results75 rfl fun H=>H.rt (by rw [hE])))))
  intro yO a H
  try have p35:=dF yO
  refine kP H (Kc aV (SC (Rd rfl (Rm rfl ?_))));clear H aV;intro a H;refine aJ ?_;refine dH ((k+1)) (by exact (H.dB (Pl:=[_]) (cB:=[]) [] (by decide) rfl).sub ⟨rfl,rfl,rfl,rfl,rfl,rfl,aB⟩) ?_ ?_
  ·exact ⟨by omega,by rw [Pn (C:=aK us st li rv) hk2,ah (by simpa using p35)] at heq;exact heq⟩
  first|omega|(dsimp only;omega)
 intro gN a H
 try have p25:=dF gN
 refine dR ?_;refine K6 _ _ ?_;clear K6;refine aN (fun _ bW=>?_)
 have e2:xR (aK us st li rv) h.props=0:=by rw [← heq,fI (by rw [bQ];omega)];rfl
 refine kP H (SC (Rf zP rfl ?_));clear H;intro a H;refine bP Ai (cs:=[vi h.marks.ins,vi h.marks.move,.slice dA h.marks.bV.length dc,.slice lA h.marks.layers.length lc]) H wn rfl rfl (fun j v hj=>H.hp.aG (R8 j v hj)) rfl ?_;clear H;intro a H;refine eH Ai H wn rfl ?_;clear H;intro b11 a w Gw H;refine bT Ai 0 (vs:=[_,_,_,_]) _ H wn rfl rfl rfl rfl rfl rfl rfl rfl ?_;clear H;intro w H;dsimp only [List.set,setRow] at H;obtain ⟨Gb,hmb,Ja,H⟩:=H.dW;replace hck:=hck.mono hmb;replace hb:=hmb _ _ hb;replace hh:=hh.mono hmb;replace g3:=aH hmb g3;replace g4:=aH hmb g4;replace hc2:=aH hmb hc2
 have q0:aG Gb b11 0=some (vi h.marks.ins):=by unfold aG;rw [Ja];rfl
 have q1:aG Gb b11 1=some (vi h.marks.move):=by unfold aG;rw [Ja];rfl
 have q2:aG Gb b11 2=some (.slice dA h.marks.bV.length dc):=by unfold aG;rw [Ja];rfl
 have q3:aG Gb b11 3=some (.slice lA h.marks.layers.length lc):=by unfold aG;rw [Ja];rfl
 have hcb:=akJ hck hb g3 g4 q3 hh.layers;refine aJ ?_;refine bW _ _ ?_;clear bW;refine oF (ι:=GH) (Tc:=[(3,_),(4,_),(11,_)]) (Lc:=[]) (fun gh=>[]) (fun gh=>[]) (fun gh=>gh) (fun gh=>fU (aK us st li rv) h.marks=0∧(∀ b o,Gb b=some o→gh b=some o)) (by exact (H).sub ⟨rfl,rfl,rfl,aB⟩) ?_ ?_
 ·skip;refine sD ?_;refine aN (fun _ cK=>?_)
  by_cases c0:h.marks.ins≠0
  ·skip
   by_cases c1:h.marks.ins∉rv.map dU.id
   ·skip;refine dI hmx [[],[0],[0,1],[0,1,2],(ra 0 4),(ra 0 5),(ra 0 6),(ra 0 7),(ra 0 4),[0,1,2,3,8],(ra 0 10),(ra 0 11),(ra 0 12),(ra 0 13)] [13] (by kernel_rfl) [_,_,_,_,_,(aQ b 0),_,_,_,_,.bool (decide (h.marks.ins∈rv.map dU.id)),.bool (decide (h.marks.ins∉rv.map dU.id)),_] H (aI (Z0 rfl (Rf vW rfl)) (X1 0 41 rfl fun hG=>Rg aD rfl (aH hG q0)) (Z1 1 42 rfl (Rc rfl)) (Z1 2 43 rfl (Rm rfl)) (aI (X1 3 44 rfl fun hG=>YR JR (aF c0) rfl (aH hG g3)) ?_ (Z2 5 46 3 44 rfl (YF KR (aF c0) rfl)) (X2 6 47 3 44 rfl fun hG=>YR wR (aF c0) rfl (aH hG hc2)) (aI (Z1 3 44 rfl (YF vW (aF c0) rfl)) (X2 8 49 3 44 rfl fun hG=>YR aD (aF c0) rfl (aH hG q0)) ?_ ?_ (bC (Z2 3 44 11 52 rfl (Pt (aF c0) rfl)) (bC (cu rfl) dN))))) ?_
    ·refine eU 4 45 3 44 rfl rfl fun _ a w G1 hG HT H fin=>?_;refine sO H (wg H rfl rfl (aF c0)) rfl rfl ?_;clear H;intro a H;exact fin H iJ rfl
    ·refine vK 7 48 9 50 3 44 rfl rfl fun _ a w G1 hG HT H fin=>?_;refine Bv (zv:=.bool false) Ak nZ (by kernel_rfl) H (wg H rfl rfl (aF c0)) rfl rfl (H.ro _ _ (hG _ _ hck.rev)) rfl ?_;clear H;intro a H;rw [ER] at H;exact fin H iJ rfl
    ·refine eU 10 51 3 44 rfl rfl fun _ a w G1 hG HT H fin=>?_;refine kH H (YN (aF c0) rfl ?_);clear H;intro a H;exact fin H iJ (by show _=_;first|rfl|exact aL decide_not.symm)
    clear H;intro a w G sG H hv;have H:=H.bg (hv 12 53 rfl rfl) rfl;clear hv;refine kH H (Ra rfl ?_);clear H;intro a H;refine aJ ⟨rfl,?_⟩;refine cK _ _ ?_;clear cK;refine Ay H rfl (aF c1) ?_;refine aN (fun _ bS=>?_);have e3:fU (aK us st li rv) h.marks=22:=au ⟨c0,c1⟩;have hE:=(qJ (C:=aK us st li rv) (e:=e) (h:=h) e1 e2 (by rw [e3];decide)).trans e3;exact kP H (SC (aM bS rfl (LR results75 rfl fun H=>H.rt (by rw [hE]))))
   skip;refine dI hmx [[],[0],[0,1],[0,1,2],(ra 0 4),(ra 0 5),(ra 0 6),(ra 0 7),(ra 0 4),[0,1,2,3,8],(ra 0 10),(ra 0 11),(ra 0 12),(ra 0 13)] [13] (by kernel_rfl) [_,_,_,_,_,(aQ b 0),_,_,_,_,.bool (decide (h.marks.ins∈rv.map dU.id)),.bool (decide (h.marks.ins∉rv.map dU.id)),_] H (aI (Z0 rfl (Rf vW rfl)) (X1 0 41 rfl fun hG=>Rg aD rfl (aH hG q0)) (Z1 1 42 rfl (Rc rfl)) (Z1 2 43 rfl (Rm rfl)) (aI (X1 3 44 rfl fun hG=>YR JR (aF c0) rfl (aH hG g3)) ?_ (Z2 5 46 3 44 rfl (YF KR (aF c0) rfl)) (X2 6 47 3 44 rfl fun hG=>YR wR (aF c0) rfl (aH hG hc2)) (aI (Z1 3 44 rfl (YF vW (aF c0) rfl)) (X2 8 49 3 44 rfl fun hG=>YR aD (aF c0) rfl (aH hG q0)) ?_ ?_ (bC (Z2 3 44 11 52 rfl (Pt (aF c0) rfl)) (bC (cu rfl) dN))))) ?_
   ·refine eU 4 45 3 44 rfl rfl fun _ a w G1 hG HT H fin=>?_;refine sO H (wg H rfl rfl (aF c0)) rfl rfl ?_;clear H;intro a H;exact fin H iJ rfl
   ·refine vK 7 48 9 50 3 44 rfl rfl fun _ a w G1 hG HT H fin=>?_;refine Bv (zv:=.bool false) Ak nZ (by kernel_rfl) H (wg H rfl rfl (aF c0)) rfl rfl (H.ro _ _ (hG _ _ hck.rev)) rfl ?_;clear H;intro a H;rw [ER] at H;exact fin H iJ rfl
   ·refine eU 10 51 3 44 rfl rfl fun _ a w G1 hG HT H fin=>?_;refine kH H (YN (aF c0) rfl ?_);clear H;intro a H;exact fin H iJ (by show _=_;first|rfl|exact aL decide_not.symm)
   clear H;intro a w G sG H hv;have H:=H.bg (hv 12 53 rfl rfl) rfl;clear hv;refine kH H (Ra rfl ?_);clear H;intro a H;refine aJ ⟨rfl,?_⟩;refine cK _ _ ?_;clear cK;refine oh H rfl (aP c1) ?_;refine aN (fun _ dD=>?_)
   have hno:¬ (h.marks.ins≠0∧h.marks.ins∉(aK us st li rv).Cy):=by first|exact fun h=>c1 h.2|exact fun h=>c0 h.1
   replace q0:=aH sG q0;replace q1:=aH sG q1;replace q2:=aH sG q2;refine kP H (SC (Rf yM rfl (Rg aD rfl (by assumption) ?_)));clear H;intro a H;refine s_call yK H wn rfl (ze _ _ H.ro h.marks.move 0 1073741824) rfl ?_;clear H;rintro v57 _ a w ⟨rfl,rfl⟩ - H;refine kH H (Rn rfl (Rm rfl (Sp 59 rfl ?_ ?_))) <;> clear H
   ·intro jc a H
    try have p59:=dT jc
    refine kH H (aS jc rfl (aS jc rfl (Ku rfl (Ku rfl (Ku rfl (Ks jc rfl (Pt jc rfl (aM dD rfl (Ct rfl rfl (SQ fun _ dO=>?_))))))))));clear H dD;intro a H
    have e3:fU (aK us st li rv) h.marks=21:=by unfold fU;rw [ah hno,au (by first|(simp_all;done)|(simp_all;omega))]
    have hE:=(qJ (C:=aK us st li rv) (e:=e) (h:=h) e1 e2 (by rw [e3];decide)).trans e3;exact kP H (SC (aM dO rfl (LR results75 rfl fun H=>H.rt (by rw [hE]))))
   intro jc a H
   try have p59:=dF jc
   refine kH H (YF yM jc rfl (YR aD jc rfl (by assumption) ?_));clear H;intro a H;refine kH H (YC jc rfl (YM jc rfl (Sp 63 rfl ?_ ?_))) <;> clear H
   ·intro h63 a H
    try have p63:=dT h63
    refine kH H (YF vW h63 rfl (YR aD h63 rfl (by assumption) ?_));clear H;intro a H;refine kH H (YC h63 rfl (PT jc h63 rfl (Pf jc rfl (aM dD rfl (Cd rfl ?_ ?_))))) <;> clear H dD
    ·intro iG a H
     try have p54:=dT iG
     refine aN (fun _ dK=>?_)
     have e3:fU (aK us st li rv) h.marks=21:=by unfold fU;rw [ah hno,au (by first|(simp_all;done)|(simp_all;omega))]
     have hE:=(qJ (C:=aK us st li rv) (e:=e) (h:=h) e1 e2 (by rw [e3];decide)).trans e3;exact kP H (SC (aM dK rfl (LR results75 rfl fun H=>H.rt (by rw [hE]))))
    intro iG a H
    try have p54:=dF iG
    refine aN (fun _ dS=>?_)
    have hn2:¬ (¬ (0≤h.marks.move∧h.marks.move≤1073741824)∨(h.marks.move≠0∧h.marks.ins=0)):=by first|(simp_all;done)|(simp_all;omega)
    refine kP H (SC (Rf mY rfl (Rg nC rfl (by assumption) ?_)));clear H;intro a H;refine kH H (Rl mQ rfl (Rc rfl (aM dS rfl (Cd rfl ?_ ?_)))) <;> clear H dS
    ·intro gU a H
     refine aN (fun _ eP=>?_)
     have e3:fU (aK us st li rv) h.marks=9:=by unfold fU;rw [ah hno,ah hn2,au (by simpa using gU)]
     have hE:=(qJ (C:=aK us st li rv) (e:=e) (h:=h) e1 e2 (by rw [e3];decide)).trans e3;exact kP H (SC (aM eP rfl (LR results75 rfl fun H=>H.rt (by rw [hE]))))
    intro gU a H
    have e3:fU (aK us st li rv) h.marks=0:=by unfold fU;rw [ah hno,ah hn2,ah (by simpa using gU)]
    refine fF ?_;refine ⟨_,by exact (H).sub ⟨rfl,rfl,rfl,aB⟩,?_⟩;exact ⟨e3,sG⟩
   intro h63 a H
   try have p63:=dF h63
   refine kH H (aZ h63 rfl (PF jc h63 rfl (Pf jc rfl (aM dD rfl (Cf rfl rfl (SQ fun _ gG=>?_))))));clear H dD;intro a H
   have hn2:¬ (¬ (0≤h.marks.move∧h.marks.move≤1073741824)∨(h.marks.move≠0∧h.marks.ins=0)):=by first|(simp_all;done)|(simp_all;omega)
   refine kP H (SC (Rf mY rfl (Rg nC rfl (by assumption) ?_)));clear H;intro a H;refine kH H (Rl mQ rfl (Rc rfl (aM gG rfl (Cd rfl ?_ ?_)))) <;> clear H gG
   ·intro gU a H
    refine aN (fun _ gT=>?_)
    have e3:fU (aK us st li rv) h.marks=9:=by unfold fU;rw [ah hno,ah hn2,au (by simpa using gU)]
    have hE:=(qJ (C:=aK us st li rv) (e:=e) (h:=h) e1 e2 (by rw [e3];decide)).trans e3;exact kP H (SC (aM gT rfl (LR results75 rfl fun H=>H.rt (by rw [hE]))))
   intro gU a H
   have e3:fU (aK us st li rv) h.marks=0:=by unfold fU;rw [ah hno,ah hn2,ah (by simpa using gU)]
   refine fF ?_;refine ⟨_,by exact (H).sub ⟨rfl,rfl,rfl,aB⟩,?_⟩;exact ⟨e3,sG⟩
  skip;refine dI hmx [[],[0],[0,1],[0,1,2],(ra 0 4),(ra 0 5),(ra 0 6),(ra 0 7),(ra 0 4),[0,1,2,3,8],(ra 0 10),(ra 0 11),(ra 0 12),(ra 0 13)] [13] (by kernel_rfl) [_,_,_,_,undef,undef,undef,undef,undef,undef,undef,undef,_] H (aI (Z0 rfl (Rf vW rfl)) (X1 0 41 rfl fun hG=>Rg aD rfl (aH hG q0)) (Z1 1 42 rfl (Rc rfl)) (Z1 2 43 rfl (Rm rfl)) (aI (aW (j:=3) (by kernel_rfl) (fun _ _ _ _ _ h=>h) rfl rfl rfl rfl rfl (fun _ _ h=>aY h (aL (aP c0))) rfl (fun _=>rfl)) (aW (j:=3) (by kernel_rfl) (fun _ _ _ _ _ h=>h) rfl rfl rfl rfl rfl (fun _ _ h=>aY h (aL (aP c0))) rfl (fun _=>rfl)) (aW (j:=3) (by kernel_rfl) (fun _ _ _ _ _ h=>h) rfl rfl rfl rfl rfl (fun _ _ h=>aY h (aL (aP c0))) rfl (fun _=>rfl)) (aW (j:=3) (by kernel_rfl) (fun _ _ _ _ _ h=>h) rfl rfl rfl rfl rfl (fun _ _ h=>aY h (aL (aP c0))) rfl (fun _=>rfl)) (aI (aW (j:=3) (by kernel_rfl) (fun _ _ _ _ _ h=>h) rfl rfl rfl rfl rfl (fun _ _ h=>aY h (aL (aP c0))) rfl (fun _=>rfl)) (aW (j:=3) (by kernel_rfl) (fun _ _ _ _ _ h=>h) rfl rfl rfl rfl rfl (fun _ _ h=>aY h (aL (aP c0))) rfl (fun _=>rfl)) (aW (j:=3) (by kernel_rfl) (fun _ _ _ _ _ h=>h) rfl rfl rfl rfl rfl (fun _ _ h=>aY h (aL (aP c0))) rfl (fun _=>rfl)) (aW (j:=3) (by kernel_rfl) (fun _ _ _ _ _ h=>h) rfl rfl rfl rfl rfl (fun _ _ h=>aY h (aL (aP c0))) rfl (fun _=>rfl)) (bC (Z2 3 44 11 52 rfl (Pf (aP c0) rfl)) (bC (cu rfl) dN))))) ?_
  clear H;intro a w G sG H hv;have H:=H.bg (hv 12 53 rfl rfl) rfl;clear hv;refine kH H (Ra rfl ?_);clear H;intro a H;refine aJ ⟨rfl,?_⟩;refine cK _ _ ?_;clear cK;refine oh H rfl rfl ?_;refine aN (fun _ gM=>?_)
  have hno:¬ (h.marks.ins≠0∧h.marks.ins∉(aK us st li rv).Cy):=by first|exact fun h=>c1 h.2|exact fun h=>c0 h.1
  replace q0:=aH sG q0;replace q1:=aH sG q1;replace q2:=aH sG q2;refine kP H (SC (Rf yM rfl (Rg aD rfl (by assumption) ?_)));clear H;intro a H;refine s_call yK H wn rfl (ze _ _ H.ro h.marks.move 0 1073741824) rfl ?_;clear H;rintro v57 _ a w ⟨rfl,rfl⟩ - H;refine kH H (Rn rfl (Rm rfl (Sp 59 rfl ?_ ?_))) <;> clear H
  ·intro jc a H
   try have p59:=dT jc
   refine kH H (aS jc rfl (aS jc rfl (Ku rfl (Ku rfl (Ku rfl (Ks jc rfl (Pt jc rfl (aM gM rfl (Ct rfl rfl (SQ fun _ jf=>?_))))))))));clear H gM;intro a H
   have e3:fU (aK us st li rv) h.marks=21:=by unfold fU;rw [ah hno,au (by first|(simp_all;done)|(simp_all;omega))]
   have hE:=(qJ (C:=aK us st li rv) (e:=e) (h:=h) e1 e2 (by rw [e3];decide)).trans e3;exact kP H (SC (aM jf rfl (LR results75 rfl fun H=>H.rt (by rw [hE]))))
  intro jc a H
  try have p59:=dF jc
  refine kH H (YF yM jc rfl (YR aD jc rfl (by assumption) ?_));clear H;intro a H;refine kH H (YC jc rfl (YM jc rfl (Sp 63 rfl ?_ ?_))) <;> clear H
  ·intro h63 a H
   try have p63:=dT h63
   refine kH H (YF vW h63 rfl (YR aD h63 rfl (by assumption) ?_));clear H;intro a H;refine kH H (YC h63 rfl (PT jc h63 rfl (Pf jc rfl (aM gM rfl (Cd rfl ?_ ?_))))) <;> clear H gM
   ·intro iG a H
    try have p54:=dT iG
    refine aN (fun _ jq=>?_)
    have e3:fU (aK us st li rv) h.marks=21:=by unfold fU;rw [ah hno,au (by first|(simp_all;done)|(simp_all;omega))]
    have hE:=(qJ (C:=aK us st li rv) (e:=e) (h:=h) e1 e2 (by rw [e3];decide)).trans e3;exact kP H (SC (aM jq rfl (LR results75 rfl fun H=>H.rt (by rw [hE]))))
   intro iG a H
   try have p54:=dF iG
   refine aN (fun _ iQ=>?_)
   have hn2:¬ (¬ (0≤h.marks.move∧h.marks.move≤1073741824)∨(h.marks.move≠0∧h.marks.ins=0)):=by first|(simp_all;done)|(simp_all;omega)
   refine kP H (SC (Rf mY rfl (Rg nC rfl (by assumption) ?_)));clear H;intro a H;refine kH H (Rl mQ rfl (Rc rfl (aM iQ rfl (Cd rfl ?_ ?_)))) <;> clear H iQ
   ·intro gU a H
    refine aN (fun _ kT=>?_)
    have e3:fU (aK us st li rv) h.marks=9:=by unfold fU;rw [ah hno,ah hn2,au (by simpa using gU)]
    have hE:=(qJ (C:=aK us st li rv) (e:=e) (h:=h) e1 e2 (by rw [e3];decide)).trans e3;exact kP H (SC (aM kT rfl (LR results75 rfl fun H=>H.rt (by rw [hE]))))
   intro gU a H
   have e3:fU (aK us st li rv) h.marks=0:=by unfold fU;rw [ah hno,ah hn2,ah (by simpa using gU)]
   refine fF ?_;refine ⟨_,by exact (H).sub ⟨rfl,rfl,rfl,aB⟩,?_⟩;exact ⟨e3,sG⟩
  intro h63 a H
  try have p63:=dF h63
  refine kH H (aZ h63 rfl (PF jc h63 rfl (Pf jc rfl (aM gM rfl (Cf rfl rfl (SQ fun _ kU=>?_))))));clear H gM;intro a H
  have hn2:¬ (¬ (0≤h.marks.move∧h.marks.move≤1073741824)∨(h.marks.move≠0∧h.marks.ins=0)):=by first|(simp_all;done)|(simp_all;omega)
  refine kP H (SC (Rf mY rfl (Rg nC rfl (by assumption) ?_)));clear H;intro a H;refine kH H (Rl mQ rfl (Rc rfl (aM kU rfl (Cd rfl ?_ ?_)))) <;> clear H kU
  ·intro gU a H
   refine aN (fun _ jG=>?_)
   have e3:fU (aK us st li rv) h.marks=9:=by unfold fU;rw [ah hno,ah hn2,au (by simpa using gU)]
   have hE:=(qJ (C:=aK us st li rv) (e:=e) (h:=h) e1 e2 (by rw [e3];decide)).trans e3;exact kP H (SC (aM jG rfl (LR results75 rfl fun H=>H.rt (by rw [hE]))))
  intro gU a H
  have e3:fU (aK us st li rv) h.marks=0:=by unfold fU;rw [ah hno,ah hn2,ah (by simpa using gU)]
  refine fF ?_;refine ⟨_,by exact (H).sub ⟨rfl,rfl,rfl,aB⟩,?_⟩;exact ⟨e3,sG⟩
 clear H;intro g a w hI H;obtain ⟨e3,yX⟩:=hI;replace hck:=hck.mono yX;replace hb:=yX _ _ hb;replace hh:=hh.mono yX;replace g3:=aH yX g3;replace q2:=aH yX q2;replace q3:=aH yX q3;replace hc2:=aH yX hc2;replace hcb:=hcb.mono yX;dsimp only [lca,aO] at H;refine kP H (SQ fun _ kZ=>SR fun _ lg=>Rf mY rfl (Rg nC rfl (by assumption) ?_));clear H;intro a H;refine kH H (Rl mQ rfl (Rm rfl (Kz lg (SB ?_))));clear H lg;intro a H;skip;refine eT (ι:=Nat × GH) (Tc:=[(3,_),(4,_),(11,_),(75,_),(76,_)]) (Lc:=[]) (fun gh=>[(77,vi gh.1)]) (fun gh=>[]) (fun gh=>gh.2) (fun gh=>gh.1≤h.marks.bV.length∧bK (((List.range h.marks.bV.length).map (tJ (aK us st li rv) h.marks.bV)).drop gh.1)=iC (tJ (aK us st li rv) h.marks.bV) h.marks.bV.length∧(∀ b o,g b=some o→gh.2 b=some o)) (fun gh=>h.marks.bV.length - gh.1) ((0,g)) (by exact (H).sub ⟨rfl,rfl,rfl,rfl,rfl,rfl,aB⟩) ?_ ?_
 ·exact ⟨gX _,rfl,fun _ _ h=>h⟩
 clear H;rintro ⟨k,g2⟩ a w hI H;dsimp only at hI H;obtain ⟨hk,heq,hgm⟩:=hI;dsimp only [lca,aO] at H;refine kP H (SR fun _ lK=>Rc rfl (Kz lK (SQ fun _ lM=>Cd rfl ?_ ?_))) <;> clear H lK
 ·intro ql a H
  try have Vs:=dT ql
  have hk2:k < h.marks.bV.length:=by omega
  have hd2:=hh.bV.mono hgm;obtain ⟨xb,xo,rfl,hrow⟩:=Nq hd2 hk2
  have hk1:k - 1 < h.marks.bV.length:=by omega
  obtain ⟨b',o',he',hrow'⟩:=Nq hd2 hk1
  injection he' with he'
  injection he' with e1 e2
  subst e1;subst e2
  have hde:tJ (aK us st li rv) h.marks.bV k=oI (aK us st li rv) k h.marks.bV[k] h.marks.bV[k - 1].rev:=by unfold tJ;rw [fP hk2,fP hk1];rfl
  have hX:∀ v,oI (aK us st li rv) k h.marks.bV[k] h.marks.bV[k - 1].rev=v→v≠0→fK (aK us st li rv) e h=v:=fun v h1 h2=>by
   have h4:iC (tJ (aK us st li rv) h.marks.bV) h.marks.bV.length=v:=by rw [← heq,qd hk2,hde,h1,au h2]
   exact (ZH e1 e2 e3 (by rw [h4];exact h2)).trans h4
  have hp:=hrow' 0 _ rfl;have g3':=aH hgm g3;have hc2':=aH hgm hc2;have q2':=aH hgm q2;refine kP H (Kc lM (SQ fun _ lN=>SB (SR fun _ lY=>Rm rfl (Ri mQ wO rfl rfl ?_))));clear H lM;intro a H;refine bP wO (cs:=h.marks.bV[k].cells) H wn rfl rfl (fun j v hj=>H.hp.aG (hrow j v hj)) rfl ?_;clear H;intro a H;refine eH wO H wn rfl ?_;clear H;intro b13 a w Od H;refine kH H (Ra rfl ?_);clear H;intro a H;refine bT wO 0 (vs:=[_,_]) _ H wn rfl rfl rfl rfl rfl rfl rfl rfl ?_;clear H;intro w H;dsimp only [List.set,setRow] at H;refine lY _ _ ?_;clear lY;refine sD ?_;refine aN (fun _ qD=>?_);refine dI hmx [[],[0],[0,1],[0,1,2],[],[4],(ra 0 6),(ra 0 7),(ra 0 8)] [8] (by kernel_rfl) [_,_,_,_,_,vi h.marks.bV[k].rev,.bool (decide (h.marks.bV[k].rev∈rv.map dU.id)),_] H (aI (X0 rfl fun hG=>Rg JR rfl (aH hG g3')) (Z1 0 83 rfl (Rk rfl)) (Z1 1 84 rfl (Rf KR rfl)) (X1 2 85 rfl fun hG=>Rg wR rfl (aH hG hc2')) (aI (Z0 rfl (Rf BS rfl)) (Z1 4 87 rfl (Ro aD 0 rfl)) ?_ (Z1 6 89 rfl (Rn rfl)) (bC (cu rfl) dN))) ?_
  ·refine eU 3 86 5 88 rfl rfl fun _ a w G1 hG HT H fin=>?_;refine Bv (zv:=.bool false) Ak nZ (by kernel_rfl) H wn rfl rfl (H.ro _ _ (hG _ _ (hgm _ _ hck.rev))) rfl ?_;clear H;intro a H;rw [ER] at H;exact fin H iJ rfl
  clear H;intro a w G I6 H hv;have H:=H.bg (hv 7 90 rfl rfl) rfl;clear hv;refine kH H (Ra rfl ?_);clear H;intro a H;refine aJ ⟨rfl,?_⟩;refine qD _ _ ?_;clear qD;refine qF H rfl ?_ ?_
  ·intro xD
   refine aN (fun _ vH=>?_);have hE:=hX 22 (by unfold oI;rw [au (by simpa using xD)]) (by decide);exact kP H (SC (aM vH rfl (LR results75 rfl fun H=>H.rt (by rw [hE]))))
  intro xD
  try have p82:=dF xD
  have LH:¬ (h.marks.bV[k].rev∉(aK us st li rv).Cy):=by simpa using xD
  refine aN (fun _ kV=>?_);replace hp:=aH I6 hp;replace q2':=aH I6 q2'
  by_cases c3:0 < (k:Int)
  ·skip
   by_cases c4:h.marks.bV[k].rev≤h.marks.bV[k - 1].rev
   ·skip;refine dI hmx [[],[0],[0,1],[0,1,2],(ra 0 4),[0,1,2],[0,1,2,5],[0,1,2],[0,1,2,7],[0,1,2,5,6,7,8],[0,1,2,5,6,7,8,9],([0,1,2]++ra 5 6),(ra 0 12),(ra 0 13),(ra 0 14)] [14] (by kernel_rfl) [_,_,_,_,vi h.marks.bV[k].rev,_,_,_,vi ((k - 1:Nat):Int),_,_,_,_,_] H (aI (Z0 rfl (Rm rfl)) (Z1 0 92 rfl (Rc rfl)) (Z1 1 93 rfl (Rm rfl)) (Z1 2 94 rfl (YF BS (aF c3) rfl)) (aI (Z2 3 95 2 94 rfl (YO aD 0 (aF c3) rfl)) (Z1 2 94 rfl (YF mY (aF c3) rfl)) (X2 5 97 2 94 rfl fun hG=>YR nC (aF c3) rfl (aH hG q2')) (Z1 2 94 rfl (YM (aF c3) rfl)) (aI ?_ (Z3 6 98 8 100 2 94 rfl (YI mQ wO (aF c3) rfl rfl)) (Z2 9 101 2 94 rfl (YF BS (aF c3) rfl)) (X2 10 102 2 94 rfl fun hG=>YR aD (aF c3) rfl (aH hG hp)) (bC (Z3 4 96 11 103 2 94 rfl (YC (aF c3) rfl)) (bC (Z2 2 94 12 104 rfl (Pt (aF c3) rfl)) (bC (cu rfl) dN)))))) ?_
    ·refine eU 7 99 2 94 rfl rfl fun _ a w G1 hG HT H fin=>?_;refine mD _ H (wg H rfl rfl (aF c3)) rfl rfl rfl (by omega) (by omega) rfl ?_;clear H;intro a H;exact fin H iJ (by show _=_;first|rfl|exact av vi (by omega))
    clear H;intro a w G I7 H hv;have H:=H.bg (hv 13 105 rfl rfl) rfl;clear hv;refine kH H (Ra rfl ?_);clear H;intro a H;refine aJ ⟨rfl,?_⟩;refine kV _ _ ?_;clear kV;refine Ay H rfl (aF c4) ?_;refine aN (fun _ yC=>?_);have hz:0 < k∧h.marks.bV[k].rev≤h.marks.bV[k - 1].rev:=⟨by omega,c4⟩;have hE:=hX 6 (by unfold oI;rw [ah LH,au hz]) (by decide);exact kP H (SC (aM yC rfl (LR results75 rfl fun H=>H.rt (by rw [hE]))))
   skip;refine dI hmx [[],[0],[0,1],[0,1,2],(ra 0 4),[0,1,2],[0,1,2,5],[0,1,2],[0,1,2,7],[0,1,2,5,6,7,8],[0,1,2,5,6,7,8,9],([0,1,2]++ra 5 6),(ra 0 12),(ra 0 13),(ra 0 14)] [14] (by kernel_rfl) [_,_,_,_,vi h.marks.bV[k].rev,_,_,_,vi ((k - 1:Nat):Int),_,_,_,_,_] H (aI (Z0 rfl (Rm rfl)) (Z1 0 92 rfl (Rc rfl)) (Z1 1 93 rfl (Rm rfl)) (Z1 2 94 rfl (YF BS (aF c3) rfl)) (aI (Z2 3 95 2 94 rfl (YO aD 0 (aF c3) rfl)) (Z1 2 94 rfl (YF mY (aF c3) rfl)) (X2 5 97 2 94 rfl fun hG=>YR nC (aF c3) rfl (aH hG q2')) (Z1 2 94 rfl (YM (aF c3) rfl)) (aI ?_ (Z3 6 98 8 100 2 94 rfl (YI mQ wO (aF c3) rfl rfl)) (Z2 9 101 2 94 rfl (YF BS (aF c3) rfl)) (X2 10 102 2 94 rfl fun hG=>YR aD (aF c3) rfl (aH hG hp)) (bC (Z3 4 96 11 103 2 94 rfl (YC (aF c3) rfl)) (bC (Z2 2 94 12 104 rfl (Pt (aF c3) rfl)) (bC (cu rfl) dN)))))) ?_
   ·refine eU 7 99 2 94 rfl rfl fun _ a w G1 hG HT H fin=>?_;refine mD _ H (wg H rfl rfl (aF c3)) rfl rfl rfl (by omega) (by omega) rfl ?_;clear H;intro a H;exact fin H iJ (by show _=_;first|rfl|exact av vi (by omega))
   clear H;intro a w G I7 H hv;have H:=H.bg (hv 13 105 rfl rfl) rfl;clear hv;refine kH H (Ra rfl ?_);clear H;intro a H;refine aJ ⟨rfl,?_⟩;refine kV _ _ ?_;clear kV;refine oh H rfl (aP c4) ?_;refine aN (fun _ vI=>?_)
   have hz:¬ (0 < k∧h.marks.bV[k].rev≤h.marks.bV[k - 1].rev):=by first|exact fun h=>c4 h.2|exact fun h=>c3 (by omega)
   refine kP H (SC (aT IU aD 0 rfl rfl ?_));clear H;intro a H;refine s_call yK H wn rfl (ze _ _ H.ro h.marks.bV[k].move 0 1073741824) rfl ?_;clear H;rintro v109 _ a w ⟨rfl,rfl⟩ - H;refine kH H (Rn rfl (aM vI rfl (Cd rfl ?_ ?_))) <;> clear H vI
   ·intro AX a H
    try have Vi:=dT AX
    refine aN (fun _ D7=>?_);have hE:=hX 21 (by unfold oI;rw [ah LH,ah hz,au (by have h0:=AX;simp at h0;omega)]) (by decide);exact kP H (SC (aM D7 rfl (LR results75 rfl fun H=>H.rt (by rw [hE]))))
   intro AX a H
   try have Vi:=dF AX
   have GI:oI (aK us st li rv) k h.marks.bV[k] h.marks.bV[k - 1].rev=0:=by unfold oI;rw [ah LH,ah hz,ah (by have h0:=AX;simp at h0;omega)]
   have rH:=fun b o h=>I7 b o (I6 b o (hgm b o h));refine kP H (Kc lN (SC (Rd rfl (Rm rfl ?_))));clear H lN;intro a H;refine aJ ?_;refine dH ((k+1,G)) (by exact (H.dB (Pl:=[_]) (cB:=[]) [] (by decide) rfl).sub ⟨rfl,rfl,rfl,rfl,rfl,rfl,aB⟩) ?_ ?_
   ·(try dsimp only);exact ⟨by omega,by rw [qd hk2,ah (by rw [hde];simpa using GI)] at heq;exact heq,rH⟩
   first|omega|(dsimp only;omega)
  skip;refine dI hmx [[],[0],[0,1],[0,1,2],(ra 0 4),[0,1,2],[0,1,2,5],[0,1,2],[0,1,2,7],[0,1,2,5,6,7,8],[0,1,2,5,6,7,8,9],([0,1,2]++ra 5 6),(ra 0 12),(ra 0 13),(ra 0 14)] [14] (by kernel_rfl) [_,_,_,undef,undef,undef,undef,undef,undef,undef,undef,undef,undef,_] H (aI (Z0 rfl (Rm rfl)) (Z1 0 92 rfl (Rc rfl)) (Z1 1 93 rfl (Rm rfl)) (aW (j:=2) (by kernel_rfl) (fun _ _ _ _ _ h=>h) rfl rfl rfl rfl rfl (fun _ _ h=>aY h (aL (aP c3))) rfl (fun _=>rfl)) (aI (aW (j:=2) (by kernel_rfl) (fun _ _ _ _ _ h=>h) rfl rfl rfl rfl rfl (fun _ _ h=>aY h (aL (aP c3))) rfl (fun _=>rfl)) (aW (j:=2) (by kernel_rfl) (fun _ _ _ _ _ h=>h) rfl rfl rfl rfl rfl (fun _ _ h=>aY h (aL (aP c3))) rfl (fun _=>rfl)) (aW (j:=2) (by kernel_rfl) (fun _ _ _ _ _ h=>h) rfl rfl rfl rfl rfl (fun _ _ h=>aY h (aL (aP c3))) rfl (fun _=>rfl)) (aW (j:=2) (by kernel_rfl) (fun _ _ _ _ _ h=>h) rfl rfl rfl rfl rfl (fun _ _ h=>aY h (aL (aP c3))) rfl (fun _=>rfl)) (aI (aW (j:=2) (by kernel_rfl) (fun _ _ _ _ _ h=>h) rfl rfl rfl rfl rfl (fun _ _ h=>aY h (aL (aP c3))) rfl (fun _=>rfl)) (aW (j:=2) (by kernel_rfl) (fun _ _ _ _ _ h=>h) rfl rfl rfl rfl rfl (fun _ _ h=>aY h (aL (aP c3))) rfl (fun _=>rfl)) (aW (j:=2) (by kernel_rfl) (fun _ _ _ _ _ h=>h) rfl rfl rfl rfl rfl (fun _ _ h=>aY h (aL (aP c3))) rfl (fun _=>rfl)) (aW (j:=2) (by kernel_rfl) (fun _ _ _ _ _ h=>h) rfl rfl rfl rfl rfl (fun _ _ h=>aY h (aL (aP c3))) rfl (fun _=>rfl)) (bC (aW (j:=2) (by kernel_rfl) (fun _ _ _ _ _ h=>h) rfl rfl rfl rfl rfl (fun _ _ h=>aY h (aL (aP c3))) rfl (fun _=>rfl)) (bC (Z2 2 94 12 104 rfl (Pf (aP c3) rfl)) (bC (cu rfl) dN)))))) ?_
  clear H;intro a w G I7 H hv;have H:=H.bg (hv 13 105 rfl rfl) rfl;clear hv;refine kH H (Ra rfl ?_);clear H;intro a H;refine aJ ⟨rfl,?_⟩;refine kV _ _ ?_;clear kV;refine oh H rfl rfl ?_;refine aN (fun _ BG=>?_)
  have hz:¬ (0 < k∧h.marks.bV[k].rev≤h.marks.bV[k - 1].rev):=by first|exact fun h=>c4 h.2|exact fun h=>c3 (by omega)
  refine kP H (SC (aT IU aD 0 rfl rfl ?_));clear H;intro a H;refine s_call yK H wn rfl (ze _ _ H.ro h.marks.bV[k].move 0 1073741824) rfl ?_;clear H;rintro v109 _ a w ⟨rfl,rfl⟩ - H;refine kH H (Rn rfl (aM BG rfl (Cd rfl ?_ ?_))) <;> clear H BG
  ·intro AX a H
   try have Vi:=dT AX
   refine aN (fun _ Aq=>?_);have hE:=hX 21 (by unfold oI;rw [ah LH,ah hz,au (by have h0:=AX;simp at h0;omega)]) (by decide);exact kP H (SC (aM Aq rfl (LR results75 rfl fun H=>H.rt (by rw [hE]))))
  intro AX a H
  try have Vi:=dF AX
  have GI:oI (aK us st li rv) k h.marks.bV[k] h.marks.bV[k - 1].rev=0:=by unfold oI;rw [ah LH,ah hz,ah (by have h0:=AX;simp at h0;omega)]
  have rH:=fun b o h=>I7 b o (I6 b o (hgm b o h));refine kP H (Kc lN (SC (Rd rfl (Rm rfl ?_))));clear H lN;intro a H;refine aJ ?_;refine dH ((k+1,G)) (by exact (H.dB (Pl:=[_]) (cB:=[]) [] (by decide) rfl).sub ⟨rfl,rfl,rfl,rfl,rfl,rfl,aB⟩) ?_ ?_
  ·(try dsimp only);exact ⟨by omega,by rw [qd hk2,ah (by rw [hde];simpa using GI)] at heq;exact heq,rH⟩
  first|omega|(dsimp only;omega)
 intro ql a H
 try have Vs:=dF ql
 refine dR ?_;refine kZ _ _ ?_;clear kZ;refine aN (fun _ zH=>?_);refine aN (fun _ CP=>?_)
 have e4:iC (tJ (aK us st li rv) h.marks.bV) h.marks.bV.length=0:=by rw [← heq,fI (by simp;omega)];rfl
 replace q3:=aH hgm q3;refine kP H (SC (Rf zO rfl (Rg Ah rfl (by assumption) ?_)));clear H;intro a H;refine kH H (Rl xX rfl (Rc rfl (Kn CP (Cd rfl ?_ ?_)))) <;> clear H CP
 ·intro Sb a H
  try have Vk:=dT Sb
  refine aN (fun _ CQ=>?_);have hE:=ZI (C:=aK us st li rv) (e:=e) (h:=h) e1 e2 e3 e4 Vk;exact kP H (SC (aM CQ rfl (LR results75 rfl fun H=>H.rt (by rw [hE]))))
 intro Sb a H
 try have Vk:=dF Sb
 refine fF ?_;refine zH _ _ ?_;clear zH;refine aN (fun _ BH=>?_);have hE:=ZJ (C:=aK us st li rv) (e:=e) (h:=h) e1 e2 e3 e4 Vk;refine kP H (SC (Rf zO rfl (Rg Ah rfl (by assumption) ?_)));clear H;intro a H;refine kH H (Rl xX rfl ?_);clear H;intro a H;refine pV H wn rfl rfl ?_;clear H;intro a H;refine s_call IJ H wn rfl (Ko _ _ H.ro h.marks.layers.length (Bp (aK us st li rv) e h.marks.layers) _ (by omega) (hcb.mono hgm)) rfl ?_;clear H;rintro aqA apj a w rfl apu H;exact kH H (aM BH rfl (LR results75 rfl fun H=>H.rt (by rw [hE])))
end
section
open Go.RowKit
theorem Di:dJ prog 68 1 1:=⟨by kernel_rfl⟩
def codeOk (x:ay):Bool:=if x.kind=4 then decide (1≤x.code∧x.code≤3) else if x.kind=6 then decide (1≤x.code∧x.code≤2) else if x.kind=8 then decide (1≤x.code∧x.code≤4) else true
def Ad (x:ay):Bool:=decide (x.kind=8∧x.code=1)
def zC (x:ay):Bool:=decide (x.kind=1∨x.kind=5) || Ad x
def zk (x:ay):Bool:=decide (x.kind=6∨x.kind=7∨x.kind=8)
def AA (x:ay):Bool:=decide (x.kind=4∨x.kind=6∨x.kind=8)
def pE (s:ByteArray):Bool:=s.toList == (⟨#[]⟩:ByteArray).toList
def vZ (x:ay):Bool:=!AA x && decide (x.code≠0) || !zk x && decide (x.id≠0) || !zC x && !pE x.text || decide (x.kind≠6) && decide (0 < (x.flow.length:Int)) || decide (x.kind≠7) && decide (0 < (x.rows.length:Int))
def jw (x:ay):Int :=
 if (!decide (1≤x.kind∧x.kind≤8) || !codeOk x)=true then 3 else if vZ x=true then 15 else if qB x.text=false then 12 else if (decide (x.kind=1∨x.kind=5) && pE x.text)=true then 11
 else if (decide (x.kind=5) && decide (1024 < (x.text.size:Int)))=true then 10 else if (Ad x && !oG x.text)=true then 13 else 0
theorem ahx (G:GH) (w0:World) (hG:Hold G w0) (x:ay) (p d l:aj) (fA rA:Option Addr) (fc rc:Nat) (hs:x.text.size < 4611686018427387904) :
  Calls prog 162 #[.agg #[vi x.kind,vi x.code,vi x.id,.string x.text,p,vi x.head.marks.ins,vi x.head.marks.move,d,l,.slice fA x.flow.length fc,.slice rA x.rows.length rc]] w0 (bY w0 G fun u G'=>u=vi (jw x)∧G=G'):=by
 refine eN [(0,_)] func162 rfl ntmps162 rfl rfl hG ?_;intro a H;refine dh (fun _ K1=>?_);refine fB (cs:=[_,_,_,_,_,_,_,_,_,_,_]) H wn rfl rfl rfl ?_;clear H;intro b1 a w hb1 H;refine kH H (ak K1 rfl ?_);clear H K1;intro a H;refine oF (ι:=Bool) (Tc:=[(1,_)]) (Lc:=[(_,_)]) (fun gh=>[(3,.bool gh)]) (fun gh=>[]) (fun gh=>G) (fun gh=>gh=Ad x) (by exact (H).sub ⟨rfl,aB⟩) ?_ ?_
 ·skip;refine kP H (SC (aT gJ aD 0 rfl rfl (Rc rfl (Rm rfl (Sp 11 rfl ?_ ?_))))) <;> clear H
  ·intro h11 a H
   try have xP:=dT h11
   refine kH H (YF Di h11 rfl (YO aD 0 h11 rfl (YC h11 rfl (Pt h11 rfl (Ra rfl ?_)))));clear H;intro a H;refine aJ ?_;refine ⟨_,by exact (H).sub ⟨rfl,rfl,aB⟩,?_⟩
   unfold Ad;first|(simp_all;done)
  intro h11 a H
  try have xP:=dF h11
  refine kH H (aZ h11 rfl (Pf h11 rfl (Ra rfl ?_)));clear H;intro a H;refine aJ ?_;refine ⟨_,by exact (H).sub ⟨rfl,rfl,aB⟩,?_⟩
  unfold Ad;first|(simp_all;done)
 clear H;intro st a w hI H;have hst:=hI;dsimp only [lca,aO] at H;refine oF (ι:=Bool) (Tc:=[(1,_),(3,_)]) (Lc:=[(_,_)]) (fun gh=>[(4,.bool gh)]) (fun gh=>[]) (fun gh=>G) (fun gh=>gh=zC x) (by exact (H).sub ⟨rfl,rfl,aB⟩) ?_ ?_
 ·skip;refine kP H (SC (aT gJ aD 0 rfl rfl (Rc rfl (Rm rfl (Sp 19 rfl ?_ ?_))))) <;> clear H
  ·intro h19 a H
   try have wL:=dT h19
   refine kH H (aZ h19 rfl (Pt h19 rfl (Rm rfl (Ks rfl rfl (Pt rfl rfl (Ra rfl ?_))))));clear H;intro a H;refine aJ ?_;refine ⟨_,by exact (H).sub ⟨rfl,rfl,rfl,aB⟩,?_⟩
   unfold zC;first|(simp_all;done)
  intro h19 a H
  try have wL:=dF h19
  refine kH H (YF gJ h19 rfl (YO aD 0 h19 rfl (YC h19 rfl (Pf h19 rfl (Rm rfl (Sp 24 rfl ?_ ?_)))))) <;> clear H
  ·intro fJ a H
   try have nO:=dT fJ
   refine kH H (Ks fJ rfl (Pt fJ rfl (Ra rfl ?_)));clear H;intro a H;refine aJ ?_;refine ⟨_,by exact (H).sub ⟨rfl,rfl,rfl,aB⟩,?_⟩
   unfold zC;first|(simp_all;done)
  intro fJ a H
  try have nO:=dF fJ
  refine kH H (YM fJ rfl (Pf fJ rfl (Ra rfl ?_)));clear H;intro a H;refine aJ ?_;refine ⟨_,by exact (H).sub ⟨rfl,rfl,rfl,aB⟩,?_⟩
  unfold zC;first|(simp_all;done)
 clear H;intro wd a w hI H;have hwd:=hI;dsimp only [lca,aO] at H;refine oF (ι:=Bool) (Tc:=[(1,_),(3,_),(4,_)]) (Lc:=[(_,_)]) (fun gh=>[(5,.bool gh)]) (fun gh=>[]) (fun gh=>G) (fun gh=>gh=zk x) (by exact (H).sub ⟨rfl,rfl,rfl,aB⟩) ?_ ?_
 ·skip;refine kP H (SC (aT gJ aD 0 rfl rfl (Rc rfl (Rm rfl (Sp 30 rfl ?_ ?_))))) <;> clear H
  ·intro qh a H
   try have p30:=dT qh
   refine kH H (aZ qh rfl (Pt qh rfl (Rm rfl (aZ rfl rfl (Pt rfl rfl (Ra rfl ?_))))));clear H;intro a H;refine aJ ?_;refine ⟨_,by exact (H).sub ⟨rfl,rfl,rfl,rfl,aB⟩,?_⟩
   unfold zk;first|(simp_all;done)
  intro qh a H
  try have p30:=dF qh
  refine kH H (YF gJ qh rfl (YO aD 0 qh rfl (YC qh rfl (Pf qh rfl (Rm rfl (Sp 35 rfl ?_ ?_)))))) <;> clear H
  ·intro yO a H
   try have p35:=dT yO
   refine kH H (aZ yO rfl (Pt yO rfl (Ra rfl ?_)));clear H;intro a H;refine aJ ?_;refine ⟨_,by exact (H).sub ⟨rfl,rfl,rfl,rfl,aB⟩,?_⟩
   unfold zk;first|(simp_all;done)
  intro yO a H
  try have p35:=dF yO
  refine kH H (YF gJ yO rfl (YO aD 0 yO rfl (YC yO rfl (Pf yO rfl (Ra rfl ?_)))));clear H;intro a H;refine aJ ?_;refine ⟨_,by exact (H).sub ⟨rfl,rfl,rfl,rfl,aB⟩,?_⟩
  unfold zk;first|(simp_all;done)
 clear H;intro nm a w hI H;have hnm:=hI;dsimp only [lca,aO] at H;refine kP H (SR fun _ K2=>ak K2 rfl ?_);clear H K2;intro a H;refine oF (ι:=Bool) (Tc:=[(1,_),(3,_),(4,_),(5,_)]) (Lc:=[(_,_)]) (fun gh=>[(6,.bool gh)]) (fun gh=>[]) (fun gh=>G) (fun gh=>gh=codeOk x) (by exact (H).sub ⟨rfl,rfl,rfl,rfl,aB⟩) ?_ ?_
 ·skip;refine kP H (SR fun _ K3=>aT gJ aD 0 rfl rfl (Kz K3 (SB (SR fun _ K4=>Rc rfl (ak K4 rfl (Cd rfl ?_ ?_)))))) <;> clear H K3 K4
  ·intro A9 a H
   try have p42:=dT A9
   refine kP H (SC (aT Di aD 0 rfl rfl ?_));clear H;intro a H;refine s_call yK H wn rfl (ze _ _ H.ro x.code 1 3) rfl ?_;clear H;rintro v46 _ a w ⟨rfl,rfl⟩ - H;refine kH H (Ra rfl ?_);clear H;intro a H;refine aJ ?_;refine ⟨_,by exact (H).sub ⟨rfl,rfl,rfl,rfl,rfl,aB⟩,?_⟩
   unfold codeOk;first|(simp_all;done)
  intro A9 a H
  try have p42:=dF A9
  refine kP H (SR fun _ K5=>Rc rfl (ak K5 rfl (Cd rfl ?_ ?_))) <;> clear H K5
  ·intro h47 a H
   try have p47:=dT h47
   refine kP H (SC (aT Di aD 0 rfl rfl ?_));clear H;intro a H;refine s_call yK H wn rfl (ze _ _ H.ro x.code 1 2) rfl ?_;clear H;rintro v51 _ a w ⟨rfl,rfl⟩ - H;refine kH H (Ra rfl ?_);clear H;intro a H;refine aJ ?_;refine ⟨_,by exact (H).sub ⟨rfl,rfl,rfl,rfl,rfl,aB⟩,?_⟩
   unfold codeOk;first|(simp_all;done)
  intro h47 a H
  try have p47:=dF h47
  refine kP H (SR fun _ K6=>Rc rfl (ak K6 rfl (Cd rfl ?_ ?_))) <;> clear H K6
  ·intro rE a H
   try have p52:=dT rE
   refine kP H (SC (aT Di aD 0 rfl rfl ?_));clear H;intro a H;refine s_call yK H wn rfl (ze _ _ H.ro x.code 1 4) rfl ?_;clear H;rintro v56 _ a w ⟨rfl,rfl⟩ - H;refine kH H (Ra rfl ?_);clear H;intro a H;refine aJ ?_;refine ⟨_,by exact (H).sub ⟨rfl,rfl,rfl,rfl,rfl,aB⟩,?_⟩
   unfold codeOk;first|(simp_all;done)
  intro rE a H
  try have p52:=dF rE
  refine fF ?_;refine ⟨_,by exact (H).sub ⟨rfl,rfl,rfl,rfl,rfl,aB⟩,?_⟩
  unfold codeOk;first|(simp_all;done)
 clear H;intro ck a w hI H;have hck:=hI;dsimp only [lca,aO] at H;refine oF (ι:=Bool) (Tc:=[(1,_),(3,_),(4,_),(5,_),(6,_)]) (Lc:=[(_,_)]) (fun gh=>[(7,.bool gh)]) (fun gh=>[]) (fun gh=>G) (fun gh=>gh=AA x) (by exact (H).sub ⟨rfl,rfl,rfl,rfl,rfl,aB⟩) ?_ ?_
 ·skip;refine kP H (SC (aT gJ aD 0 rfl rfl (Rc rfl (Rm rfl (Sp 60 rfl ?_ ?_))))) <;> clear H
  ·intro eY a H
   try have p60:=dT eY
   refine kH H (aZ eY rfl (Pt eY rfl (Rm rfl (aZ rfl rfl (Pt rfl rfl (Ra rfl ?_))))));clear H;intro a H;refine aJ ?_;refine ⟨_,by exact (H).sub ⟨rfl,rfl,rfl,rfl,rfl,rfl,aB⟩,?_⟩
   unfold AA;first|(simp_all;done)
  intro eY a H
  try have p60:=dF eY
  refine kH H (YF gJ eY rfl (YO aD 0 eY rfl (YC eY rfl (Pf eY rfl (Rm rfl (Sp 65 rfl ?_ ?_)))))) <;> clear H
  ·intro jY a H
   try have p65:=dT jY
   refine kH H (aZ jY rfl (Pt jY rfl (Ra rfl ?_)));clear H;intro a H;refine aJ ?_;refine ⟨_,by exact (H).sub ⟨rfl,rfl,rfl,rfl,rfl,rfl,aB⟩,?_⟩
   unfold AA;first|(simp_all;done)
  intro jY a H
  try have p65:=dF jY
  refine kH H (YF gJ jY rfl (YO aD 0 jY rfl (YC jY rfl (Pf jY rfl (Ra rfl ?_)))));clear H;intro a H;refine aJ ?_;refine ⟨_,by exact (H).sub ⟨rfl,rfl,rfl,rfl,rfl,rfl,aB⟩,?_⟩
  unfold AA;first|(simp_all;done)
 clear H;intro cd a w hI H;have hcd:=hI;dsimp only [lca,aO] at H;refine kP H (SQ fun _ K7=>SB (SR fun _ K8=>?_));clear H;intro a H;refine nE (ι:=Bool) (Tc:=[(1,_),(3,_),(4,_),(5,_),(7,_)]) 8 (fun (q0:Bool)=>[(78,.bool q0)]) (fun (q0:Bool)=>q0=(!decide (1≤x.kind∧x.kind≤8) || !codeOk x)) (by exact H.sub ⟨rfl,rfl,rfl,rfl,rfl,aB⟩) ?_ ?_
 ·intro Zn;refine kH H (aT gJ aD 0 rfl rfl ?_);clear H;intro a H;refine s_call yK H wn rfl (ze _ _ H.ro x.kind 1 8) rfl ?_;clear H;rintro v73 _ a w ⟨rfl,rfl⟩ - H;refine kH H (Rn rfl (Rm rfl (Sp 75 rfl ?_ ?_))) <;> clear H
  ·intro EC a H
   try have p75:=dT EC
   refine kH H (aS EC rfl (Pt EC rfl ?_));clear H;intro a H;refine Zn (_) _ _ ?_ (by exact H.sub ⟨rfl,rfl,rfl,rfl,rfl,rfl,aB⟩);rw [← hck];clear hst hwd hnm hck hcd;(try clear hq1);(try clear hq2);(try clear hq3);(try clear hq0);(try clear hq4);(try clear iq);(try clear iD);(try clear iE);simp_all
  intro EC a H
  try have p75:=dF EC
  refine kH H (YM EC rfl (YN EC rfl (Pf EC rfl ?_)));clear H;intro a H;refine Zn (_) _ _ ?_ (by exact H.sub ⟨rfl,rfl,rfl,rfl,rfl,rfl,aB⟩);rw [← hck];clear hst hwd hnm hck hcd;(try clear hq1);(try clear hq2);(try clear hq3);(try clear hq0);(try clear hq4);(try clear iq);(try clear iD);(try clear iE);simp_all
 clear H;intro q0 a w hI H;dsimp only [lca,aO] at H;simp only [mX,jW];have hq0:=hI;refine kH H (ak K8 rfl (Cd rfl ?_ ?_)) <;> clear H K8
 ·intro om a H
  refine aN (fun _ K9=>?_)
  have e:jw x=3:=by unfold jw;rw [au (by rw [← hq0];exact om)]
  exact kP H (SC (aM K9 rfl (LR results162 rfl fun H=>H.rt ⟨by rw [e],rfl⟩)))
 intro om a H
 try have p70:=dF om
 have f0:¬ (!decide (1≤x.kind∧x.kind≤8) || !codeOk x)=true:=by rw [← hq0,om];decide
 refine dh (fun _ aV=>?_);refine nE (ι:=Bool) (Tc:=[(1,_),(3,_),(4,_),(5,_)]) 7 (fun (q1:Bool)=>[(86,.bool q1)]) (fun (q1:Bool)=>q1=(!AA x && decide (x.code≠0))) (by exact H.sub ⟨rfl,rfl,rfl,rfl,aB⟩) ?_ ?_
 ·intro Zo;refine kH H (Rm rfl (Rn rfl (Rm rfl (Sp 82 rfl ?_ ?_)))) <;> clear H
  ·intro xD a H
   try have p82:=dT xD
   refine kH H (YF Di xD rfl (YO aD 0 xD rfl (YC xD rfl (Pt xD rfl ?_))));clear H;intro a H;refine Zo (_) _ _ ?_ (by exact H.sub ⟨rfl,rfl,rfl,rfl,rfl,aB⟩);rw [← hcd];clear hst hwd hnm hck hcd;(try clear hq1);(try clear hq2);(try clear hq3);(try clear hq0);(try clear hq4);(try clear iq);(try clear iD);(try clear iE);simp_all
  intro xD a H
  try have p82:=dF xD
  refine kH H (aZ xD rfl (Pf xD rfl ?_));clear H;intro a H;refine Zo (_) _ _ ?_ (by exact H.sub ⟨rfl,rfl,rfl,rfl,rfl,aB⟩);rw [← hcd];clear hst hwd hnm hck hcd;(try clear hq1);(try clear hq2);(try clear hq3);(try clear hq0);(try clear hq4);(try clear iq);(try clear iD);(try clear iE);simp_all
 clear H;intro q1 a w hI H;dsimp only [lca,aO] at H;simp only [mX,jW];have hq1:=hI;refine nE (ι:=Bool) (Tc:=[(1,_),(3,_),(4,_)]) 9 (fun (q2:Bool)=>[(95,.bool q2)]) (fun (q2:Bool)=>q2=(q1 || !zk x && decide (x.id≠0))) (by exact H.sub ⟨rfl,rfl,rfl,aB⟩) ?_ ?_
 ·intro Te;refine kH H (Rm rfl (Sp 87 rfl ?_ ?_)) <;> clear H
  ·intro h87 a H
   try have Vv:=dT h87
   refine kH H (aZ h87 rfl (Ku rfl (Ku rfl (Ku rfl (Ks h87 rfl (Pt h87 rfl ?_))))));clear H;intro a H;refine Te (_) _ _ ?_ (by exact H.sub ⟨rfl,rfl,rfl,rfl,aB⟩);rw [← hnm];clear hst hwd hnm hck hcd;(try clear hq1);(try clear hq2);(try clear hq3);(try clear hq0);(try clear hq4);(try clear iq);(try clear iD);(try clear iE);simp_all
  intro h87 a H
  try have Vv:=dF h87
  refine kH H (YM h87 rfl (YN h87 rfl (YM h87 rfl (Sp 90 rfl ?_ ?_)))) <;> clear H
  ·intro Dp a H
   try have p90:=dT Dp
   refine kH H (YF uN Dp rfl (YO aD 0 Dp rfl (YC Dp rfl (PT h87 Dp rfl (Pf h87 rfl ?_)))));clear H;intro a H;refine Te (_) _ _ ?_ (by exact H.sub ⟨rfl,rfl,rfl,rfl,aB⟩);rw [← hnm];clear hst hwd hnm hck hcd;(try clear hq1);(try clear hq2);(try clear hq3);(try clear hq0);(try clear hq4);(try clear iq);(try clear iD);(try clear iE);simp_all
  intro Dp a H
  try have p90:=dF Dp
  refine kH H (aZ Dp rfl (PF h87 Dp rfl (Pf h87 rfl ?_)));clear H;intro a H;refine Te (_) _ _ ?_ (by exact H.sub ⟨rfl,rfl,rfl,rfl,aB⟩);rw [← hnm];clear hst hwd hnm hck hcd;(try clear hq1);(try clear hq2);(try clear hq3);(try clear hq0);(try clear hq4);(try clear iq);(try clear iD);(try clear iE);simp_all
 clear H;intro q2 a w hI H;dsimp only [lca,aO] at H;simp only [mX,jW];have hq2:=hI;refine nE (ι:=Bool) (Tc:=[(1,_),(3,_)]) 9 (fun (q3:Bool)=>[(104,.bool q3)]) (fun (q3:Bool)=>q3=(q2 || !zC x && !pE x.text)) (by exact H.sub ⟨rfl,rfl,aB⟩) ?_ ?_
 ·intro S9;refine kH H (Rm rfl (Sp 96 rfl ?_ ?_)) <;> clear H
  ·intro tQ a H
   try have Mg:=dT tQ
   refine kH H (aZ tQ rfl (Ku rfl (Ku rfl (Ku rfl (Ks tQ rfl (Pt tQ rfl ?_))))));clear H;intro a H;refine S9 (_) _ _ ?_ (by exact H.sub ⟨rfl,rfl,rfl,aB⟩);rw [← hwd];clear hst hwd hnm hck hcd;(try clear hq1);(try clear hq2);(try clear hq3);(try clear hq0);(try clear hq4);(try clear iq);(try clear iD);(try clear iE);simp_all [pE]
  intro tQ a H
  try have Mg:=dF tQ
  refine kH H (YM tQ rfl (YN tQ rfl (YM tQ rfl (Sp 99 rfl ?_ ?_)))) <;> clear H
  ·intro Dr a H
   try have p99:=dT Dr
   refine kH H (YF uO Dr rfl (YO gW 0 Dr rfl ?_));clear H;intro a H;refine abI H (wg H rfl rfl Dr) rfl rfl rfl ?_;clear H;intro a H;refine kH H (PT tQ Dr rfl (Pf tQ rfl ?_));clear H;intro a H;refine S9 (_) _ _ ?_ (by exact H.sub ⟨rfl,rfl,rfl,aB⟩);rw [← hwd];clear hst hwd hnm hck hcd;(try clear hq1);(try clear hq2);(try clear hq3);(try clear hq0);(try clear hq4);(try clear iq);(try clear iD);(try clear iE);simp_all [pE]
  intro Dr a H
  try have p99:=dF Dr
  refine kH H (aZ Dr rfl (PF tQ Dr rfl (Pf tQ rfl ?_)));clear H;intro a H;refine S9 (_) _ _ ?_ (by exact H.sub ⟨rfl,rfl,rfl,aB⟩);rw [← hwd];clear hst hwd hnm hck hcd;(try clear hq1);(try clear hq2);(try clear hq3);(try clear hq0);(try clear hq4);(try clear iq);(try clear iD);(try clear iE);simp_all [pE]
 clear H;intro q3 a w hI H;dsimp only [lca,aO] at H;simp only [mX,jW];have hq3:=hI;refine nE (ι:=Bool) (Tc:=[(1,_),(3,_)]) 11 (fun (q4:Bool)=>[(115,.bool q4)]) (fun (q4:Bool)=>q4=(q3 || decide (x.kind≠6) && decide (0 < (x.flow.length:Int)))) (by exact H.sub ⟨rfl,rfl,aB⟩) ?_ ?_
 ·intro Ta;refine kH H (Rm rfl (Sp 105 rfl ?_ ?_)) <;> clear H
  ·intro rC a H
   try have Jy:=dT rC
   refine kH H (aS rC rfl (aS rC rfl (Ku rfl (Ku rfl (Ku rfl (Ku rfl (Ks rC rfl (Pt rC rfl ?_))))))));clear H;intro a H;refine Ta (_) _ _ ?_ (by exact H.sub ⟨rfl,rfl,rfl,aB⟩);clear hst hwd hnm hck hcd;(try clear hq1);(try clear hq2);(try clear hq3);(try clear hq0);(try clear hq4);(try clear iq);(try clear iD);(try clear iE);simp_all
  intro rC a H
  try have Jy:=dF rC
  refine kH H (YF gJ rC rfl (YO aD 0 rC rfl (YC rC rfl (YM rC rfl (Sp 109 rfl ?_ ?_))))) <;> clear H
  ·intro mZ a H
   try have Vj:=dT mZ
   refine kH H (YF Ca mZ rfl (YO jJ 0 mZ rfl (YL kr mZ rfl (YC mZ rfl (PT rC mZ rfl (Pf rC rfl ?_))))));clear H;intro a H;refine Ta (_) _ _ ?_ (by exact H.sub ⟨rfl,rfl,rfl,aB⟩);clear hst hwd hnm hck hcd;(try clear hq1);(try clear hq2);(try clear hq3);(try clear hq0);(try clear hq4);(try clear iq);(try clear iD);(try clear iE);simp_all
  intro mZ a H
  try have Vj:=dF mZ
  refine kH H (aS mZ rfl (aS mZ rfl (PF rC mZ rfl (Pf rC rfl ?_))));clear H;intro a H;refine Ta (_) _ _ ?_ (by exact H.sub ⟨rfl,rfl,rfl,aB⟩);clear hst hwd hnm hck hcd;(try clear hq1);(try clear hq2);(try clear hq3);(try clear hq0);(try clear hq4);(try clear iq);(try clear iD);(try clear iE);simp_all
 clear H;intro q4 a w hI H;dsimp only [lca,aO] at H;simp only [mX,jW];have hq4:=hI;refine nE (ι:=Bool) (Tc:=[(1,_),(3,_)]) 11 (fun (q5:Bool)=>[(126,.bool q5)]) (fun (q5:Bool)=>q5=vZ x) (by exact H.sub ⟨rfl,rfl,aB⟩) ?_ ?_
 ·intro Td;refine kH H (Rm rfl (Sp 116 rfl ?_ ?_)) <;> clear H
  ·intro h116 a H
   try have O5:=dT h116
   refine kH H (aS h116 rfl (aS h116 rfl (Ku rfl (Ku rfl (Ku rfl (Ku rfl (Ks h116 rfl (Pt h116 rfl ?_))))))));clear H;intro a H;refine Td (_) _ _ ?_ (by exact H.sub ⟨rfl,rfl,rfl,aB⟩);rw [show vZ x=(q4 || decide (x.kind≠7) && decide (0 < (x.rows.length:Int))) by rw [hq4,hq3,hq2,hq1];rfl];clear hq4;clear hst hwd hnm hck hcd;(try clear hq1);(try clear hq2);(try clear hq3);(try clear hq0);(try clear hq4);(try clear iq);(try clear iD);(try clear iE);simp_all
  intro h116 a H
  try have O5:=dF h116
  refine kH H (YF gJ h116 rfl (YO aD 0 h116 rfl (YC h116 rfl (YM h116 rfl (Sp 120 rfl ?_ ?_))))) <;> clear H
  ·intro mM a H
   try have EU:=dT mM
   refine kH H (YF uP mM rfl (YO vD 0 mM rfl (YL ku mM rfl (YC mM rfl (PT h116 mM rfl (Pf h116 rfl ?_))))));clear H;intro a H;refine Td (_) _ _ ?_ (by exact H.sub ⟨rfl,rfl,rfl,aB⟩);rw [show vZ x=(q4 || decide (x.kind≠7) && decide (0 < (x.rows.length:Int))) by rw [hq4,hq3,hq2,hq1];rfl];clear hq4;clear hst hwd hnm hck hcd;(try clear hq1);(try clear hq2);(try clear hq3);(try clear hq0);(try clear hq4);(try clear iq);(try clear iD);(try clear iE);simp_all
  intro mM a H
  try have EU:=dF mM
  refine kH H (aS mM rfl (aS mM rfl (PF h116 mM rfl (Pf h116 rfl ?_))));clear H;intro a H;refine Td (_) _ _ ?_ (by exact H.sub ⟨rfl,rfl,rfl,aB⟩);rw [show vZ x=(q4 || decide (x.kind≠7) && decide (0 < (x.rows.length:Int))) by rw [hq4,hq3,hq2,hq1];rfl];clear hq4;clear hst hwd hnm hck hcd;(try clear hq1);(try clear hq2);(try clear hq3);(try clear hq0);(try clear hq4);(try clear iq);(try clear iD);(try clear iE);simp_all
 clear H;intro q5 a w hI H;dsimp only [lca,aO] at H;simp only [mX,jW];have iq:=hI;refine kH H (ak aV rfl (Cd rfl ?_ ?_)) <;> clear H aV
 ·intro iH a H
  refine aN (fun _ bF=>?_)
  have e:jw x=15:=by unfold jw;rw [ah f0,au (by rw [← iq];exact iH)]
  exact kP H (SC (aM bF rfl (LR results162 rfl fun H=>H.rt ⟨by rw [e],rfl⟩)))
 intro iH a H
 try have mq:=dF iH
 have f1:¬ vZ x=true:=by rw [← iq,iH];decide
 refine kP H (SR fun _ bG=>aT uO gW 0 rfl rfl ?_);clear H;intro a H;refine s_call Eu H wn rfl (Fh _ _ H.ro x.text hs) rfl ?_;clear H;rintro v130 _ a w ⟨rfl,rfl⟩ - H;refine kH H (Rn rfl (ak bG rfl (Cd rfl ?_ ?_))) <;> clear H bG
 ·intro h127 a H
  refine aN (fun _ bM=>?_)
  have e:jw x=12:=by unfold jw;rw [ah f0,ah f1,au (by simpa using h127)]
  exact kP H (SC (aM bM rfl (LR results162 rfl fun H=>H.rt ⟨by rw [e],rfl⟩)))
 intro h127 a H
 try have abl:=dF h127
 have f2:¬ qB x.text=false:=by simpa using h127
 refine dh (fun _ bN=>?_);refine nE (ι:=Bool) (Tc:=[(1,_),(3,_)]) 13 (fun (q6:Bool)=>[(145,.bool q6)]) (fun (q6:Bool)=>q6=(decide (x.kind=1∨x.kind=5) && pE x.text)) (by exact H.sub ⟨rfl,rfl,aB⟩) ?_ ?_
 ·intro Tg;refine kH H (aT gJ aD 0 rfl rfl (Rc rfl (Rm rfl (Sp 136 rfl ?_ ?_)))) <;> clear H
  ·intro qg a H
   try have Vm:=dT qg
   refine kH H (aZ qg rfl (Pt qg rfl (Rm rfl ?_)));clear H;intro a H;refine JG uO H (wg H rfl rfl rfl) rfl rfl ?_;clear H;intro a H;refine zu gW H (wg H rfl rfl rfl) rfl (H.hp.qN 0 rfl rfl) rfl ?_;clear H;intro a H;refine Ia H (wg H rfl rfl rfl) rfl rfl rfl ?_;clear H;intro a H;refine kH H (Pt rfl rfl ?_);clear H;intro a H;refine Tg (_) _ _ ?_ (by exact H.sub ⟨rfl,rfl,rfl,aB⟩);clear hst hwd hnm hck hcd;(try clear hq1);(try clear hq2);(try clear hq3);(try clear hq0);(try clear hq4);(try clear iq);(try clear iD);(try clear iE);simp_all [pE]
  intro qg a H
  try have Vm:=dF qg
  refine kH H (YF gJ qg rfl (YO aD 0 qg rfl (YC qg rfl (Pf qg rfl (Rm rfl (Sp 141 rfl ?_ ?_)))))) <;> clear H
  ·intro Dn a H
   try have alI:=dT Dn
   refine kH H (YF uO Dn rfl (YO gW 0 Dn rfl ?_));clear H;intro a H;refine Ia H (wg H rfl rfl Dn) rfl rfl rfl ?_;clear H;intro a H;refine kH H (Pt Dn rfl ?_);clear H;intro a H;refine Tg (_) _ _ ?_ (by exact H.sub ⟨rfl,rfl,rfl,aB⟩);clear hst hwd hnm hck hcd;(try clear hq1);(try clear hq2);(try clear hq3);(try clear hq0);(try clear hq4);(try clear iq);(try clear iD);(try clear iE);simp_all [pE]
  intro Dn a H
  try have alI:=dF Dn
  refine kH H (aZ Dn rfl (Pf Dn rfl ?_));clear H;intro a H;refine Tg (_) _ _ ?_ (by exact H.sub ⟨rfl,rfl,rfl,aB⟩);clear hst hwd hnm hck hcd;(try clear hq1);(try clear hq2);(try clear hq3);(try clear hq0);(try clear hq4);(try clear iq);(try clear iD);(try clear iE);simp_all [pE]
 clear H;intro q6 a w hI H;dsimp only [lca,aO] at H;simp only [mX,jW];have iD:=hI;refine kH H (ak bN rfl (Cd rfl ?_ ?_)) <;> clear H bN
 ·intro Dm a H
  refine aN (fun _ bW=>?_)
  have e:jw x=11:=by unfold jw;rw [ah f0,ah f1,ah f2,au (by rw [← iD];exact Dm)]
  exact kP H (SC (aM bW rfl (LR results162 rfl fun H=>H.rt ⟨by rw [e],rfl⟩)))
 intro Dm a H
 try have alG:=dF Dm
 have f3:¬ (decide (x.kind=1∨x.kind=5) && pE x.text)=true:=by rw [← iD,Dm];decide
 refine dh (fun _ cK=>?_);refine nE (ι:=Bool) (Tc:=[(1,_),(3,_)]) 9 (fun (q7:Bool)=>[(155,.bool q7)]) (fun (q7:Bool)=>q7=(decide (x.kind=5) && decide (1024 < (x.text.size:Int)))) (by exact H.sub ⟨rfl,rfl,aB⟩) ?_ ?_
 ·intro Zr;refine kH H (aT gJ aD 0 rfl rfl (Rc rfl (Rm rfl (Sp 150 rfl ?_ ?_)))) <;> clear H
  ·intro AY a H
   try have alK:=dT AY
   refine kH H (YF uO AY rfl (YO gW 0 AY rfl ?_));clear H;intro a H;refine Bu iB H (wg H rfl rfl AY) rfl rfl ?_;clear H;intro a H;refine kH H (YC AY rfl (Pt AY rfl ?_));clear H;intro a H;refine Zr (_) _ _ ?_ (by exact H.sub ⟨rfl,rfl,rfl,aB⟩);clear hst hwd hnm hck hcd;(try clear hq1);(try clear hq2);(try clear hq3);(try clear hq0);(try clear hq4);(try clear iq);(try clear iD);(try clear iE);simp_all
  intro AY a H
  try have alK:=dF AY
  refine kH H (aS AY rfl (aS AY rfl (Pf AY rfl ?_)));clear H;intro a H;refine Zr (_) _ _ ?_ (by exact H.sub ⟨rfl,rfl,rfl,aB⟩);clear hst hwd hnm hck hcd;(try clear hq1);(try clear hq2);(try clear hq3);(try clear hq0);(try clear hq4);(try clear iq);(try clear iD);(try clear iE);simp_all
 clear H;intro q7 a w hI H;dsimp only [lca,aO] at H;simp only [mX,jW];have iE:=hI;refine kH H (ak cK rfl (Cd rfl ?_ ?_)) <;> clear H cK
 ·intro NU a H
  refine aN (fun _ bS=>?_)
  have e:jw x=10:=by unfold jw;rw [ah f0,ah f1,ah f2,ah f3,au (by rw [← iE];exact NU)]
  exact kP H (SC (aM bS rfl (LR results162 rfl fun H=>H.rt ⟨by rw [e],rfl⟩)))
 intro NU a H
 try have aqg:=dF NU
 have f4:¬ (decide (x.kind=5) && decide (1024 < (x.text.size:Int)))=true:=by rw [← iE,NU];decide
 refine dh (fun _ dD=>?_);refine nE (ι:=Bool) (Tc:=[]) 7 (fun (q8:Bool)=>[(163,.bool q8)]) (fun (q8:Bool)=>q8=(Ad x && !oG x.text)) (by exact H.sub trivial) ?_ ?_
 ·intro Zu;refine kH H (Rm rfl (Rm rfl (Sp 158 rfl ?_ ?_))) <;> clear H
  ·intro AZ a H
   try have alL:=dT AZ
   refine kH H (YF uO AZ rfl (YO gW 0 AZ rfl ?_));clear H;intro a H;refine s_call KD H (wg H rfl rfl AZ) rfl (Kt _ _ H.ro x.text hs) rfl ?_;clear H;rintro aqN _ a w ⟨rfl,rfl⟩ - H;refine kH H (YN AZ rfl (Pt AZ rfl ?_));clear H;intro a H;refine Zu (_) _ _ ?_ (by exact H.sub ⟨rfl,aB⟩);rw [← hst];clear hst hwd hnm hck hcd;(try clear hq1);(try clear hq2);(try clear hq3);(try clear hq0);(try clear hq4);(try clear iq);(try clear iD);(try clear iE);simp_all
  intro AZ a H
  try have alL:=dF AZ
  refine kH H (aS AZ rfl (aS AZ rfl (Pf AZ rfl ?_)));clear H;intro a H;refine Zu (_) _ _ ?_ (by exact H.sub ⟨rfl,aB⟩);rw [← hst];clear hst hwd hnm hck hcd;(try clear hq1);(try clear hq2);(try clear hq3);(try clear hq0);(try clear hq4);(try clear iq);(try clear iD);(try clear iE);simp_all
 clear H;intro q8 a w hI H;dsimp only [lca,aO] at H;simp only [mX,jW];have hq8:=hI;refine kH H (ak dD rfl (Cd rfl ?_ ?_)) <;> clear H dD
 ·intro Sq a H
  refine aN (fun _ dO=>?_)
  have e:jw x=13:=by unfold jw;rw [ah f0,ah f1,ah f2,ah f3,ah f4,au (by rw [← hq8];exact Sq)]
  exact kP H (SC (aM dO rfl (LR results162 rfl fun H=>H.rt ⟨by rw [e],rfl⟩)))
 intro Sq a H
 refine fF ?_;refine K7 _ _ ?_;clear K7;refine aN (fun _ dK=>?_)
 have e:jw x=0:=by unfold jw;rw [ah f0,ah f1,ah f2,ah f3,ah f4,ah (by rw [← hq8,Sq];decide)]
 exact kP H (SC (aM dK rfl (LR results162 rfl fun H=>H.rt ⟨by rw [e],rfl⟩)))
end
section
open Go.RowKit
structure CS where
 n:Int
 aU:List Int
abbrev CR:=Int × CS
def fG (r:CR) (f:CS→CR):CR:=if r.1≠0 then r else f r.2
theorem sj {r:CR} {f:CS→CR} (h:r.1=0):fG r f=f r.2:=by rw [fG,ah (fun h'=>h' h)]
theorem tq {r:CR} {f:CS→CR} (h:r.1≠0):fG r f=r:=by rw [fG,au h]
def iK (C:dL) (s:CS) (x:Int):CR:=(mh C.us s.aU x,⟨s.n,jm C.us s.aU x⟩)
def jo (C:dL) (body note:Bool) (t k i:Int) (s:CS):CR :=
 if k=3 then (bE (!body) 19,s) else if k=6 then fG (bE note 19,s) fun s=>iK C s i else if k=7 then fG (bE (decide (4≤t)) 17,s) fun s=>iK C s i else if k=8 then (bE (!decide (1≤i∧i≤1073741824)) 18,s) else (0,s)
def rV (C:dL) (h:jl) (n:Nat):Int:=bK [fK C 9 h,bE (decide ((n:Int)=0)) 11,bE (decide (32 < (n:Int))) 9]
def jS (n:Nat) (f:CS→CR) (s:CS):CR:=if n=0 then (11,s) else if 256 < n then (9,s) else f s
mutual
def dY (C:dL) (body note:Bool) (t:Int):ay→CS→CR
 | .mk k c i tx h f r,s =>
  fG (jw (.mk k c i tx h f r),s) fun s=>fG (jo C body note t k i ⟨s.n+(if k=1 then xu tx else 1:Nat),s.aU⟩) fun s=>fG (fK C k h,s) fun s =>
   if k=6 then fq C false true t f s else if k=7 then jS r.length (fun s=>fH C note (t+1) r s) s else (0,s)
def uY (C:dL) (note:Bool) (t:Int):bH→CS→CR
 | .mk h cs,s=>fG (rV C h cs.length,s) fun s=>kE C note t cs s
def cellC (C:dL) (note:Bool) (t:Int):bD→CS→CR
 | .mk i h f,s=>fG (iK C s i) fun s=>fG (fK C 10 h,s) fun s=>fq C false note t f s
def fq (C:dL) (body note:Bool) (t:Int):List ay→CS→CR
 | [],s=>(0,s)
 | x :: r,s=>fG (dY C body note t x s) fun s=>fq C body note t r s
def fH (C:dL) (note:Bool) (t:Int):List bH→CS→CR
 | [],s=>(0,s)
 | x :: r,s=>fG (uY C note t x s) fun s=>fH C note t r s
def kE (C:dL) (note:Bool) (t:Int):List bD→CS→CR
 | [],s=>(0,s)
 | x :: r,s=>fG (cellC C note t x s) fun s=>kE C note t r s
end
theorem LV (C:dL) (body note:Bool) (t:Int) (x:ay) (s:CS):dY C body note t x s=fG (jw x,s) fun s=>fG (jo C body note t x.kind x.id ⟨s.n+(gD x:Nat),s.aU⟩) fun s=>fG (fK C x.kind x.head,s) fun s =>
  if x.kind=6 then fq C false true t x.flow s else if x.kind=7 then jS x.rows.length (fun s=>fH C note (t+1) x.rows s) s else (0,s):=by cases x;rw [dY];rfl
theorem H8 (C:dL) (note:Bool) (t:Int) (x:bH) (s:CS):uY C note t x s=fG (rV C x.head x.cells.length,s) fun s=>kE C note t x.cells s:=by cases x;rw [uY];rfl
theorem zL (C:dL) (note:Bool) (t:Int) (x:bD) (s:CS):cellC C note t x s=fG (iK C s x.id) fun s=>fG (fK C 10 x.head,s) fun s=>fq C false note t x.flow s:=by cases x;rw [cellC];rfl
def Up (s:CS) (z:Nat) (r:CR):Prop:=s.n≤r.2.n∧r.2.n≤s.n+z
theorem Up.and {s:CS} {z y q:Nat} {r:CR} {f:CS→CR} (h:Up s z r) (hq:z+y≤q) (hf:∀ s,Up s y (f s)):Up s q (fG r f):=by
 obtain ⟨h1,h2⟩:=h
 unfold fG
 split
 ·exact ⟨h1,by omega⟩
 obtain ⟨h3,h4⟩:=hf r.2;exact ⟨by omega,by omega⟩
theorem Up.zero (s:CS) (e:Int) (q:Nat):Up s q (e,s):=⟨Int.le_refl _,by dsimp only;omega⟩
theorem Up.le {s:CS} {z y:Nat} {r:CR} (h:Up s z r) (hq:z≤y):Up s y r:=⟨h.1,by have:=h.2;omega⟩
theorem acF (C:dL) (s:CS) (x:Int) (q:Nat):Up s q (iK C s x):=⟨Int.le_refl _,by dsimp only [iK];omega⟩
theorem aou (C:dL) (body note:Bool) (t k i:Int) (s:CS) (q:Nat):Up s q (jo C body note t k i s):=by
 unfold jo
 (repeat' split) <;> first|exact Up.zero _ _ _|exact (Up.zero _ _ 0).and (y:=0) (by omega) fun s=>acF _ _ _ _
mutual
theorem Wj (C:dL) (body note:Bool) (t:Int):∀ (x:ay) (s:CS),Up s (cO x.dat) (dY C body note t x s)
 | .mk k c i tx h f r,s=>by
  have hz:=oW (.mk k c i tx h f r);have hf:=JV C false true t f;have hr:=acG C note (t+1) r;rw [dY];obtain ⟨u,hu'⟩:∃ u,u=(if k=1 then xu tx else 1:Nat):=⟨_,rfl⟩
  have hu:u≤tx.size+1:=by
   have:=Es tx
   rw [hu'];split <;> omega
  rw [← hu'];dsimp only [ay.text,ay.flow,ay.rows,ay.head] at hz;refine (Up.zero s _ 0).and (Nat.le_of_eq (nT _)) fun s=>?_
  have h2:Up s (u) (jo C body note t k i ⟨s.n+(u:Nat),s.aU⟩):=by
   obtain ⟨h3,h4⟩:=aou C body note t k i ⟨s.n+(u:Nat),s.aU⟩ 0;dsimp only at h3 h4;exact ⟨by omega,by omega⟩
  refine h2.and (y:=bq f+eD r) (by omega) fun s=>(Up.zero s _ 0).and (Nat.le_of_eq (nT _)) fun s=>?_
  by_cases h6:k=6
  ·rw [au h6];exact (hf s).le (by omega)
  rw [ah h6]
  by_cases h7:k=7
  ·rw [au h7]
   unfold jS
   by_cases c1:r.length=0
   ·rw [au c1];exact Up.zero _ _ _
   rw [ah c1]
   by_cases c2:256 < r.length
   ·rw [au c2];exact Up.zero _ _ _
   rw [ah c2];exact (hr s).le (by omega)
  rw [ah h7];exact Up.zero _ _ _
theorem aow (C:dL) (note:Bool) (t:Int):∀ (x:bH) (s:CS),Up s (cO x.dat) (uY C note t x s)
 | .mk h cs,s=>by
  have hz:=uD (.mk h cs);have hc:=acE C note t cs;rw [H8];dsimp only [bH.cells,bH.head] at hz ⊢;exact (Up.zero s _ 0).and (y:=iw cs) (by omega) fun s=>hc s
theorem acD (C:dL) (note:Bool) (t:Int):∀ (x:bD) (s:CS),Up s (cO x.dat) (cellC C note t x s)
 | .mk i h f,s=>by
  have hz:=uz (.mk i h f);have hf:=JV C false note t f;rw [zL];dsimp only [bD.flow,bD.head,bD.id] at hz ⊢;exact (acF C s _ 0).and (y:=bq f) (by omega) fun s=>(Up.zero s _ 0).and (Nat.le_of_eq (nT _)) fun s=>hf s
theorem JV (C:dL) (body note:Bool) (t:Int):∀ (l:List ay) (s:CS),Up s (bq l) (fq C body note t l s)
 | [],s=>by rw [fq];exact Up.zero _ _ _
 | x :: r,s=>by
  rw [fq];exact (Wj C body note t x s).and (y:=bq r) (by simp only [bq,dV,dZ];omega) fun s=>JV C body note t r s
theorem acG (C:dL) (note:Bool) (t:Int):∀ (l:List bH) (s:CS),Up s (eD l) (fH C note t l s)
 | [],s=>by rw [fH];exact Up.zero _ _ _
 | x :: r,s=>by
  rw [fH];exact (aow C note t x s).and (y:=eD r) (by simp only [eD,dV,dZ];omega) fun s=>acG C note t r s
theorem acE (C:dL) (note:Bool) (t:Int):∀ (l:List bD) (s:CS),Up s (iw l) (kE C note t l s)
 | [],s=>by rw [kE];exact Up.zero _ _ _
 | x :: r,s=>by
  rw [kE];exact (acD C note t x s).and (y:=iw r) (by simp only [iw,dV,dZ];omega) fun s=>acE C note t r s
end
def qO {α:Type} (f:α→CS→CR) (l:List α) (s:CS):Nat→CS
 | 0=>s
 | i+1=>match l[i]? with|some x=>(f x (qO f l s i)).2|none=>qO f l s i
def Db {α:Type} (f:α→CS→CR) (l:List α) (s:CS) (i:Nat):Int:=match l[i]? with|some x=>(f x (qO f l s i)).1|none=>0
theorem VQ {α:Type} (f:α→CS→CR) (x:α) (l:List α) (s:CS):∀ i,qO f (x :: l) s (i+1)=qO f l (f x s).2 i
 | 0=>rfl
 | i+1=>by
  have ih:=VQ f x l s i
  simp only [qO,List.getElem?_cons_succ] at ih ⊢
  rw [ih]
theorem agV {α:Type} (f:α→CS→CR) (x:α) (l:List α) (s:CS) (i:Nat):Db f (x :: l) s (i+1)=Db f l (f x s).2 i:=by
 unfold Db
 simp only [List.getElem?_cons_succ,VQ]
theorem adL (E:Nat→Int) (n:Nat):iC E (n+1)=if E 0≠0 then E 0 else iC (fun i=>E (i+1)) n:=by
 unfold iC
 rw [List.range_succ_eq_map,dV,bK,List.map_map]
 rfl
theorem aaI (C:dL) (body note:Bool) (t:Int):∀ (l:List ay) (s:CS),(fq C body note t l s).1=iC (Db (dY C body note t) l s) l.length∧((fq C body note t l s).1=0→(fq C body note t l s).2=qO (dY C body note t) l s l.length)
 | [],s=>by rw [fq];exact ⟨rfl,fun _=>rfl⟩
 | x :: r,s=>by
  obtain ⟨h1,h2⟩:=aaI C body note t r (dY C body note t x s).2;have e0:Db (dY C body note t) (x :: r) s 0=(dY C body note t x s).1:=rfl;rw [fq,kW,adL,e0,VQ]
  simp only [agV]
  unfold fG
  split
  ·next h=>exact ⟨rfl,fun h0=>absurd h0 h⟩
  exact ⟨h1,h2⟩
theorem acH (C:dL) (body note:Bool) (t:Int) (l:List ay) (s:CS):∀ i,i≤l.length→s.n≤(qO (dY C body note t) l s i).n∧(qO (dY C body note t) l s i).n+(bq (l.drop i):Nat)≤s.n+(bq l:Nat)
 | 0,_=>⟨Int.le_refl _,Int.le_refl _⟩
 | i+1,hi=>by
  have hi':i < l.length:=hi;obtain ⟨h1,h2⟩:=acH C body note t l s i (by omega)
  have hs:qO (dY C body note t) l s (i+1)=(dY C body note t l[i] (qO (dY C body note t) l s i)).2:=by rw [qO,fP hi']
  have hd:bq (l.drop i)=1+cO l[i].dat+bq (l.drop (i+1)):=by
   simp only [bq];rw [jV hi',dV,dZ]
  obtain ⟨h3,h4⟩:=Wj C body note t l[i] (qO (dY C body note t) l s i);rw [hs];exact ⟨by omega,by omega⟩
end
section
open Go.RowKit
theorem IQ:∀ args w,(callFunc 75 args).run prog w=.ok (.enter 75 args) w:=enters func75 rfl (by kernel_rfl)
theorem Q0:∀ args w,(callFunc 163 args).run prog w=.ok (.enter 163 args) w:=enters func163 rfl (by kernel_rfl)
theorem IK:∀ args w,(callFunc 46 args).run prog w=.ok (.enter 46 args) w:=enters func46 rfl (by kernel_rfl)
variable {us:List Int}
theorem Jd (G:GH) (L:OL) (w0:World) (st:List bL) (li:List dM) (rv:List dU) (b ms ml mr mb mu:Nat) (n:Int) (hck:wW us G st li rv ms ml mr mu) (hO:ji G (gI b ms ml mr mb mu n :: L) w0)
  (e:Int) (h:jl) (p d l:aj) (hh:qC G h p d l) (hz:oV h≤4294967296) :
  Calls prog 75 #[(aQ b 0),vi e,EI h p d l] w0 (iM w0 G (gI b ms ml mr mb mu n :: L) fun v G' L'=>G=G'∧L'=gI b ms ml mr mb mu n :: L∧v=vi (fK (aK us st li rv) e h)):=by
 have hm:=GH.FT G (o:=(gI b ms ml mr mb mu n).2) (hO.sep _ jB);exact (aiP (G.add b (gI b ms ml mr mb mu n).2) w0 hO.add st li rv b ms ml mr mb mu n (hck.mono hm) (GH.FU _ _ _) e h p d l (hh.mono hm) hz).mono fun _ _=>VD (b:=b) (o:=(gI b ms ml mr mb mu n).2) (R':=fun v=>v=vi (fK (aK us st li rv) e h)) hO fun _ _ h=>h
abbrev MO (b ms ml mr mb mu:Nat) (L:OL) (r:CR):aj→OL→Prop:=fun u L'=>∃ s:CS,u=vi r.1∧L'=gI b ms ml mr mb mu s.n :: (mb,fu (fT s.aU)) :: L∧(r.1=0→s=r.2)
def Ij (us:List Int) (m:Nat):Prop:=∀ (G:GH) (L:OL) (w0:World) (st:List bL) (li:List dM) (rv:List dU) (b ms ml mr mb mu:Nat) (s:CS) (l:List ay) (v:aj) (body note:Bool) (t:Int),
 wW us G st li rv ms ml mr mu→ji G (gI b ms ml mr mb mu s.n :: (mb,fu (fT s.aU)) :: L) w0→aC G (.sl 11 (l.map ay.dat)) v→bq l < m→0≤t→t≤4→0≤s.n→s.n+(bq l:Nat)≤1099511627776 →
 Calls prog 46 #[(aQ b 0),v,.agg #[.bool body,.bool note,vi t]] w0 (iM w0 G (gI b ms ml mr mb mu s.n :: (mb,fu (fT s.aU)) :: L) fun u G' L'=>G=G'∧MO b ms ml mr mb mu L (fq (aK us st li rv) body note t l s) u L')
theorem rows_ok {m:Nat} (ih:Ij us m) (hm:m≤4294967296) (Gt:GH) (L:OL) (w0:World) (st:List bL) (li:List dM) (rv:List dU) (b ms ml mr mb mu:Nat) (s:CS) (l:List bH) (v:aj) (note:Bool) (t:Int)
  (hck:wW us Gt st li rv ms ml mr mu) (hO:ji Gt (gI b ms ml mr mb mu s.n :: (mb,fu (fT s.aU)) :: L) w0) (hv:aC Gt (.sl 6 (l.map bH.dat)) v) (hz:eD l < m) (ht0:0≤t) (Bh:t≤4) (hs0:0≤s.n) (hs1:s.n+(eD l:Nat)≤1099511627776) :
  Calls prog 164 #[(aQ b 0),v,.agg #[.bool false,.bool note,vi t]] w0 (iM w0 Gt (gI b ms ml mr mb mu s.n :: (mb,fu (fT s.aU)) :: L) fun u G' L'=>MO b ms ml mr mb mu L (jS l.length (fun s=>fH (aK us st li rv) note t l s) s) u L'):=by
 obtain ⟨A,c,rfl,hc1,hc2,hg⟩:=hv.slice;rw [bQ] at *;have hll:=Fv l;refine lq (N:=77) (T:=[(0,_),(1,_),(2,_)]) func164 rfl ntmps164 rfl rfl hO ?_;intro a H;refine dh (fun _ K1=>?_);refine fB (cs:=[_,_,_]) H wn rfl rfl rfl ?_;clear H;intro b5 a w hb5 H;refine kH H (ak K1 rfl (SQ fun _ K2=>SR fun _ K3=>Rm rfl (Rl ku rfl (Rc rfl (Kz K3 (Cd rfl ?_ ?_)))))) <;> clear H K1 K3
 ·intro gK a H
  try have mo:=dT gK
  refine aN (fun _ K4=>?_);have hE:jS l.length (fun s=>fH (aK us st li rv) note t l s) s=(11,s):=au (by omega);exact kP H (SC (aM K4 rfl (LR results164 rfl fun H=>H.hp.bR (L':=gI b ms ml mr mb mu s.n :: (mb,fu (fT s.aU)) :: L) (by repeat (first|exact bZ _|apply List.Sublist.cons)) ⟨s,by rw [hE],rfl,fun h=>by rw [hE]⟩)))
 intro gK a H
 try have mo:=dF gK
 refine kP H (Kc K2 (SQ fun _ K5=>SR fun _ K6=>Rm rfl (Rl ku rfl (Rc rfl (Kz K6 (Cd rfl ?_ ?_)))))) <;> clear H K2 K6
 ·intro h20 a H
  try have qw:=dT h20
  refine aN (fun _ K7=>?_)
  have hE:jS l.length (fun s=>fH (aK us st li rv) note t l s) s=(9,s):=by rw [jS,ah (by omega),au (by omega)]
  exact kP H (SC (aM K7 rfl (LR results164 rfl fun H=>H.hp.bR (L':=gI b ms ml mr mb mu s.n :: (mb,fu (fT s.aU)) :: L) (by repeat (first|exact bZ _|apply List.Sublist.cons)) ⟨s,by rw [hE],rfl,fun h=>by rw [hE]⟩)))
 intro h20 a H
 try have qw:=dF h20
 refine kP H (Kc K5 (SQ fun _ K8=>SQ fun _ K9=>?_));clear H K5;intro a H
 have hE:jS l.length (fun s=>fH (aK us st li rv) note t l s) s=fH (aK us st li rv) note t l s:=by rw [jS,ah (by omega),ah (by omega)]
 refine kP H (SC (Rm rfl (Rl ku rfl (Rm rfl (Kn K9 (SB ?_))))));clear H K9;intro a H;skip;refine eT (ι:=Nat × CS × GH) (Tc:=[(0,_),(5,_),(21,_),(22,_)]) (Lc:=[(_,_)]) (fun gh=>[(23,vi gh.1)]) (fun gh=>[gI b ms ml mr mb mu gh.2.1.n,(mb,fu (fT gh.2.1.aU))]++L) (fun gh=>gh.2.2) (fun gh=>gh.1≤l.length∧(∀ b o,Gt b=some o→gh.2.2 b=some o)∧fH (aK us st li rv) note t l s=fH (aK us st li rv) note t (l.drop gh.1) gh.2.1∧0≤gh.2.1.n∧gh.2.1.n+(eD (l.drop gh.1):Nat)≤1099511627776) (fun gh=>l.length - gh.1) ((0,s,Gt)) (by exact (H).sub ⟨rfl,rfl,rfl,rfl,rfl,aB⟩) ?_ ?_
 ·exact ⟨gX _,fun _ _ h=>h,rfl,hs0,hs1⟩
 clear H;rintro ⟨k,s1,g⟩ a w hI H;dsimp only at hI H;obtain ⟨hk,hgm,hR,hn0,hn1⟩:=hI;dsimp only [lca,aO] at H;refine kP H (SR fun _ aV=>Rc rfl (Kz aV (SQ fun _ bF=>Cd rfl ?_ ?_))) <;> clear H aV
 ·intro fJ a H
  try have nO:=dT fJ
  have hk2:k < l.length:=by omega
  have hsz:=MK hk2;have hcs:=Fq l[k].cells
  have hdz:eD (l.drop k)=1+cO l[k].dat+eD (l.drop (k+1)):=by simp only [eD];rw [jV hk2,dV,dZ]
  have hrz:=uD l[k];obtain ⟨xb,xo,qA,qn,qc,eA,en,ec,zA,zn,zc,cA,cn,cc,rfl,hrow,Ck,hcl⟩:=E5 hk2 hg;replace hrow:=fun j u hj=>aH hgm (hrow j u hj);replace Ck:=Ck.mono hgm;replace hcl:=hcl.mono hgm;have hcn:=hcl.len;rw [bQ] at hcn;subst hcn;have aiB:=hck.mono hgm;rw [jV hk2,fH,H8] at hR;refine kP H (Kc bF (SQ fun _ bG=>SB (SR fun _ bM=>Ri ku kQ rfl rfl ?_)));clear H bF;intro a H;refine bP kQ (cs:=[_,_,_,_,_,_]) H wn rfl rfl (fun j v hj=>H.hp.aG (hrow j v hj)) rfl ?_;clear H;intro a H;refine eH kQ H wn rfl ?_;clear H;intro b8 a w yT H;refine bT kQ 0 (vs:=[_,_,_,_,_,_]) _ H wn rfl rfl rfl rfl rfl rfl rfl rfl ?_;clear H;intro w H;dsimp only [List.set,setRow] at H;refine bM _ _ ?_;clear bM;refine aN (fun _ bN=>?_);refine aN (fun _ bW=>?_);refine dI hmx [[],[],[1],[0,1,2],[],[4],[4,5],[4,5,6],(ra 0 8),[],[9],[9,10],[9,10,11],(ra 0 13),(ra 0 14),(ra 0 15),(ra 0 16)] [14,15,16] (by kernel_rfl) [_,_,EI l[k].head (.slice qA qn qc) (.slice eA en ec) (.slice zA zn zc),vi (fK (aK us st li rv) 9 l[k].head),_,.slice cA l[k].cells.length cc,_,_,vi (bE (decide ((l[k].cells.length:Int)=0)) 11),_,.slice cA l[k].cells.length cc,_,_,vi (bE (decide (32 < (l[k].cells.length:Int))) 9)] H (aI (Z0 rfl (Rm rfl)) (Z0 rfl (Rf KF rfl)) ?_ ?_ (aI (Z0 rfl (Rf ru rfl)) (Z1 4 31 rfl (Ro rY 0 rfl)) (Z1 5 32 rfl (Rl mE rfl)) (Z1 6 33 rfl (Rc rfl)) (aI ?_ (Z0 rfl (Rf ru rfl)) (Z1 9 36 rfl (Ro rY 0 rfl)) (Z1 10 37 rfl (Rl mE rfl)) (aI (Z1 11 38 rfl (Rc rfl)) ?_ (cu rfl) (cu rfl) (bC (cu rfl) dN))))) ?_
  ·refine eF 1 28 rfl rfl fun _ a w G1 hG HT H fin=>?_;refine bP vC (cs:=[_,_,_,_,_]) H wn rfl rfl (H.hp.gB 0 rfl rfl) rfl ?_;clear H;intro a H;exact fin H iJ rfl
  ·refine eU 0 27 2 29 rfl rfl fun _ a w G1 hG HT H fin=>?_;refine gP IQ (Li:=[_,_]) (L:=gI b ms ml mr mb mu s1.n :: (mb,fu (fT s1.aU)) :: L) H wn rfl (Jd _ _ _ st li rv b ms ml mr mb mu _ (aiB.mono hG) (Hp.owns (Li:=[_,_]) H.hp) 9 l[k].head _ _ _ (Ck.mono hG) (by omega)) rfl ?_;clear H;rintro v30 _ _ a w ⟨rfl,rfl,rfl⟩ KW H;dsimp only [lca,aO] at H;exact fin H KW (rfl)
  ·refine eF 7 34 rfl rfl fun _ a w G1 hG HT H fin=>?_;refine s_call jM H wn rfl (jO _ _ H.ro _ 11) rfl ?_;clear H;rintro v35 Qb a w ⟨rfl,-⟩ SG H;exact fin H SG (rfl)
  ·refine eF 12 39 rfl rfl fun _ a w G1 hG HT H fin=>?_;refine s_call jM H wn rfl (jO _ _ H.ro _ 9) rfl ?_;clear H;rintro v40 WM a w ⟨rfl,-⟩ ahN H;exact fin H ahN (rfl)
  clear H;intro a w G zR H hv;have H:=H.bg (hv 3 30 rfl rfl) rfl;have H:=H.bg (hv 8 35 rfl rfl) rfl;have H:=H.bg (hv 13 40 rfl rfl) rfl;clear hv;refine jy qz gZ [_,_,_] [_,_,_] H wn rfl rfl rfl rfl rfl (by intro i q h;match i,h with|0,h=>exact h|1,h=>exact h|2,h=>exact h|n+3,h=>simp at h) rfl rfl ?_;clear H;intro b41 a w apH H;obtain ⟨J4,Ci,aip,H⟩:=H.dW;have LA:∀ b o,Gt b=some o→J4 b=some o:=fun b o h=>Ci _ _ (zR _ _ (hgm _ _ h));refine s_call qZ H wn rfl (rz _ _ H.ro _ _ (Hl [fK (aK us st li rv) 9 l[k].head,bE (decide ((l[k].cells.length:Int)=0)) 11,bE (decide (32 < (l[k].cells.length:Int))) 9] aip (show 3≤maxLen by decide))) rfl ?_;clear H;rintro v42 _ a w ⟨rfl,rfl⟩ - H;refine kH H (Ra rfl ?_);clear H;intro a H;refine aJ ⟨rfl,?_⟩;refine bW _ _ ?_;clear bW;refine kP H (SR fun _ cK=>Rm rfl (Rc rfl (Kz cK (Cd rfl ?_ ?_)))) <;> clear H cK
  ·intro kN a H
   try have p44:=dT kN
   have e44:rV (aK us st li rv) l[k].head l[k].cells.length≠0:=p44
   have hF1:(jS l.length (fun s=>fH (aK us st li rv) note t l s) s).1=rV (aK us st li rv) l[k].head l[k].cells.length:=by rw [hE,hR,tq (r:=(rV (aK us st li rv) l[k].head l[k].cells.length,s1)) e44,tq e44]
   have hF2:(jS l.length (fun s=>fH (aK us st li rv) note t l s) s).1=0→s1=(jS l.length (fun s=>fH (aK us st li rv) note t l s) s).2:=fun h=>absurd (hF1.symm.trans h) e44;exact kP H (SR fun _ bS=>Rm rfl (ak bS rfl (LR results164 rfl fun H=>H.hp.bR (L':=gI b ms ml mr mb mu s1.n :: (mb,fu (fT s1.aU)) :: L) (by repeat (first|exact bZ _|apply List.Sublist.cons)) ⟨s1,av vi hF1.symm,rfl,hF2⟩)))
  intro kN a H
  try have p44:=dF kN
  have e44:rV (aK us st li rv) l[k].head l[k].cells.length=0:=gu.1 p44;rw [sj (r:=(rV (aK us st li rv) l[k].head l[k].cells.length,s1)) e44] at hR;dsimp only at hR;have aiC:=hck.mono LA;replace hcl:=hcl.mono (fun b o h=>Ci _ _ (zR b o h));refine kP H (Kc bN (SR fun _ dD=>aT ru rY 0 rfl rfl (Rl mE rfl (Rm rfl (Kz dD (SB ?_))))));clear H bN dD;intro a H;skip;refine eT (ι:=Nat × CS × GH) (Tc:=[(0,_),(5,_),(21,_),(22,_),(23,_),(47,_),(48,_)]) (Lc:=[(_,_),(_,_)]) (fun gh=>[(49,vi gh.1)]) (fun gh=>[gI b ms ml mr mb mu gh.2.1.n,(mb,fu (fT gh.2.1.aU))]++L) (fun gh=>gh.2.2) (fun gh=>gh.1≤l[k].cells.length∧(∀ b o,J4 b=some o→gh.2.2 b=some o)∧fH (aK us st li rv) note t l s=fG (kE (aK us st li rv) note t (l[k].cells.drop gh.1) gh.2.1) (fun s=>fH (aK us st li rv) note t (l.drop (k+1)) s)∧0≤gh.2.1.n∧gh.2.1.n+(iw (l[k].cells.drop gh.1):Nat)+(eD (l.drop (k+1)):Nat)≤1099511627776) (fun gh=>l[k].cells.length - gh.1) ((0,s1,J4)) (by exact (H).sub ⟨rfl,rfl,rfl,rfl,rfl,rfl,rfl,rfl,aB⟩) ?_ ?_
  ·exact ⟨gX _,fun _ _ h=>h,hR,hn0,by dsimp only;rw [jW];omega⟩
  clear H;rintro ⟨c,s2,g2⟩ a w hI H;dsimp only at hI H;obtain ⟨hc,Og,hR2,hm0,hm1⟩:=hI;have kF:=fun b o h=>Og b o (LA b o h);dsimp only [lca,aO] at H;refine kP H (SR fun _ dO=>Rc rfl (Kz dO (SQ fun _ dK=>Cd rfl ?_ ?_))) <;> clear H dO
  ·intro h50 a H
   try have p50:=dT h50
   have hk4:c < l[k].cells.length:=by omega
   have ajL:=MI hk4
   have aiN:iw (l[k].cells.drop c)=1+cO l[k].cells[c].dat+iw (l[k].cells.drop (c+1)):=by simp only [iw];rw [jV hk4,dV,dZ]
   have hcz:=uz l[k].cells[c];obtain ⟨b3',o3,sA,sn,sc,tA,tn,tc,uA,un,uc,gA,gn,gc,rfl,hrow,hch,hcf⟩:=C8 hk4 (hcl.mono Og).at_;have TI:=aiC.mono Og;rw [jV hk4,kE,zL] at hR2;obtain ⟨y,hy⟩:∃ y,y=l[k].cells[c]:=⟨_,rfl⟩;rw [← hy] at hR2 hrow hch hcf hcz ajL aiN;refine kP H (Kc dK (SQ fun _ dS=>SB (SR fun _ eP=>Ri mE kg rfl rfl ?_)));clear H dK;intro a H;refine bP kg (cs:=[_,_,_,_,_,_,_]) H wn rfl rfl (fun j v hj=>H.hp.aG (hrow j v hj)) rfl ?_;clear H;intro a H;refine eH kg H wn rfl ?_;clear H;intro b11 a w Gw H;refine bT kg 0 (vs:=[_,_,_,_,_,_,_]) _ H wn rfl rfl rfl rfl rfl rfl rfl rfl ?_;clear H;intro w H;dsimp only [List.set,setRow] at H;refine eP _ _ ?_;clear eP;refine kP H (SQ fun _ gG=>SR fun _ gT=>Rm rfl (aT Dc aD 0 rfl rfl ?_));clear H;intro a H;refine gP Q0 (Li:=[_,_,_]) (L:=gI b ms ml mr mb mu s2.n :: (mb,fu (fT s2.aU)) :: L) H wn rfl (QJ _ _ _ st li rv b ms ml mr mb mu _ s2.aU y.id TI (Hp.owns (Li:=[_,_,_]) H.hp)) rfl ?_;clear H;rintro v56 _ _ a w ⟨rfl,rfl,rfl⟩ - H;dsimp only [lca,aO] at H;refine kH H (ak gT rfl (SR fun _ gM=>Rm rfl (Rc rfl (Kz gM (Cd rfl ?_ ?_))))) <;> clear H gT gM
   ·intro iZ a H
    try have p58:=dT iZ
    have hF1:(jS l.length (fun s=>fH (aK us st li rv) note t l s) s).1=mh us s2.aU y.id:=by rw [hE,hR2];simp [fG,iK,p58]
    have hF2:(jS l.length (fun s=>fH (aK us st li rv) note t l s) s).1=0→(⟨s2.n,jm us s2.aU y.id⟩:CS)=(jS l.length (fun s=>fH (aK us st li rv) note t l s) s).2:=fun h=>absurd (hF1.symm.trans h) p58;exact kP H (SR fun _ jf=>Rm rfl (ak jf rfl (LR results164 rfl fun H=>H.hp.bR (L':=gI b ms ml mr mb mu s2.n :: (mb,fu (fT (jm us s2.aU y.id))) :: L) (by repeat (first|exact bZ _|apply List.Sublist.cons)) ⟨⟨s2.n,jm us s2.aU y.id⟩,av vi hF1.symm,rfl,hF2⟩)))
   intro iZ a H
   try have p58:=dF iZ
   have e58:mh us s2.aU y.id=0:=gu.1 p58;refine kP H (Kc gG (SQ fun _ jq=>SR fun _ iQ=>Rm rfl (Rf Rw rfl ?_)));clear H gG;intro a H;refine bP vC (cs:=[_,_,_,_,_]) H wn rfl rfl (H.hp.gB 0 rfl rfl) rfl ?_;clear H;intro a H;refine gP IQ (Li:=[_,_,_]) (L:=gI b ms ml mr mb mu s2.n :: (mb,fu (fT (jm us s2.aU y.id))) :: L) H wn rfl (Jd _ _ _ st li rv b ms ml mr mb mu _ TI (Hp.owns (Li:=[_,_,_]) H.hp) 10 y.head _ _ _ hch (by omega)) rfl ?_;clear H;rintro v63 _ _ a w ⟨rfl,rfl,rfl⟩ - H;dsimp only [lca,aO] at H;refine kH H (ak iQ rfl (SR fun _ kT=>Rm rfl (Rc rfl (Kz kT (Cd rfl ?_ ?_))))) <;> clear H iQ kT
   ·intro jY a H
    try have p65:=dT jY
    have hF1:(jS l.length (fun s=>fH (aK us st li rv) note t l s) s).1=fK (aK us st li rv) 10 y.head:=by rw [hE,hR2];simp [fG,iK,e58,p65]
    have hF2:(jS l.length (fun s=>fH (aK us st li rv) note t l s) s).1=0→(⟨s2.n,jm us s2.aU y.id⟩:CS)=(jS l.length (fun s=>fH (aK us st li rv) note t l s) s).2:=fun h=>absurd (hF1.symm.trans h) p65;exact kP H (SR fun _ kU=>Rm rfl (ak kU rfl (LR results164 rfl fun H=>H.hp.bR (L':=gI b ms ml mr mb mu s2.n :: (mb,fu (fT (jm us s2.aU y.id))) :: L) (by repeat (first|exact bZ _|apply List.Sublist.cons)) ⟨⟨s2.n,jm us s2.aU y.id⟩,av vi hF1.symm,rfl,hF2⟩)))
   intro jY a H
   try have p65:=dF jY
   have e65:fK (aK us st li rv) 10 y.head=0:=gu.1 p65;refine kP H (Kc jq (SR fun _ jG=>Rm rfl (aT Df jJ 0 rfl rfl ?_)));clear H jq;intro a H;refine bP Mv (cs:=[_,_,_]) H wn rfl rfl (H.hp.gB 2 rfl rfl) rfl ?_;clear H;intro a H;refine gP IK (Li:=[_,_,_]) (L:=gI b ms ml mr mb mu s2.n :: (mb,fu (fT (jm us s2.aU y.id))) :: L) H wn rfl (ih _ _ _ st li rv b ms ml mr mb mu ⟨s2.n,jm us s2.aU y.id⟩ y.flow _ false note t TI (Hp.owns (Li:=[_,_,_]) H.hp) hcf (by omega) ht0 Bh hm0 (by dsimp only;omega)) rfl ?_;clear H;rintro v71 _ _ a w ⟨rfl,s3,rfl,rfl,h3⟩ - H;dsimp only [lca,aO] at H;refine kH H (ak jG rfl (SR fun _ kZ=>Rm rfl (Rc rfl (Kz kZ (Cd rfl ?_ ?_))))) <;> clear H jG kZ
   ·intro iR a H
    try have p73:=dT iR
    have hF1:(jS l.length (fun s=>fH (aK us st li rv) note t l s) s).1=(fq (aK us st li rv) false note t y.flow ⟨s2.n,jm us s2.aU y.id⟩).1:=by rw [hE,hR2];simp [fG,iK,e58,e65,p73]
    have hF2:(jS l.length (fun s=>fH (aK us st li rv) note t l s) s).1=0→s3=(jS l.length (fun s=>fH (aK us st li rv) note t l s) s).2:=fun h=>absurd (hF1.symm.trans h) p73;exact kP H (SR fun _ lg=>Rm rfl (ak lg rfl (LR results164 rfl fun H=>H.hp.bR (L':=gI b ms ml mr mb mu s3.n :: (mb,fu (fT s3.aU)) :: L) (by repeat (first|exact bZ _|apply List.Sublist.cons)) ⟨s3,av vi hF1.symm,rfl,hF2⟩)))
   intro iR a H
   try have p73:=dF iR
   have QO:(fq (aK us st li rv) false note t y.flow ⟨s2.n,jm us s2.aU y.id⟩).1=0:=gu.1 p73;obtain ⟨hu1,hu2⟩:=JV (aK us st li rv) false note t y.flow ⟨s2.n,jm us s2.aU y.id⟩;rw [← h3 QO] at hu1 hu2;dsimp only at hu1 hu2
   have hS:fG (fG (fG (iK (aK us st li rv) s2 y.id) fun s=>fG (fK (aK us st li rv) 10 y.head,s) fun s=>fq (aK us st li rv) false note t y.flow s) fun s=>kE (aK us st li rv) note t (l[k].cells.drop (c+1)) s) (fun s=>fH (aK us st li rv) note t (l.drop (k+1)) s)=fG (kE (aK us st li rv) note t (l[k].cells.drop (c+1)) s3) (fun s=>fH (aK us st li rv) note t (l.drop (k+1)) s):=by
    rw [h3 QO];simp [fG,iK,e58,e65,QO]
   refine kP H (Kc dS (SC (Rd rfl (Rm rfl ?_))));clear H dS;intro a H;refine aJ ?_;refine dH ((c+1,s3,g2)) (by exact (H.dB (Pl:=[_,_,_,_,_]) (cB:=[_,_,_,_]) [1,2,3,4] (by decide) rfl).sub ⟨rfl,rfl,rfl,rfl,rfl,rfl,rfl,rfl,aB⟩) ?_ ?_
   ·(try dsimp only);exact ⟨by omega,Og,hR2.trans hS,by omega,by omega⟩
   first|omega|(dsimp only;omega)
  intro h50 a H
  try have p50:=dF h50
  refine dR ?_;refine bG _ _ ?_;clear bG;refine kP H (SC (Rd rfl (Rm rfl ?_)));clear H;intro a H;refine aJ ?_;refine dH ((k+1,s2,g2)) (by exact (H.dB (Pl:=[_,_,_,_]) (cB:=[_,_,_]) [1,2,3] (by decide) rfl).sub ⟨rfl,rfl,rfl,rfl,rfl,aB⟩) ?_ ?_
  ·(try dsimp only);exact ⟨by omega,kF,by rw [hR2,fI (by omega),kE,sj rfl],hm0,by omega⟩
  first|omega|(dsimp only;omega)
 intro fJ a H
 try have nO:=dF fJ
 refine dR ?_;refine K8 _ _ ?_;clear K8;refine aN (fun _ lK=>?_)
 have hF1:(jS l.length (fun s=>fH (aK us st li rv) note t l s) s).1=0:=by rw [hE,hR,fI (by omega),fH]
 have hF2:(jS l.length (fun s=>fH (aK us st li rv) note t l s) s).1=0→s1=(jS l.length (fun s=>fH (aK us st li rv) note t l s) s).2:=fun h=>by rw [hE,hR,fI (by omega),fH]
 exact kP H (SC (aM lK rfl (LR results164 rfl fun H=>H.hp.bR (L':=gI b ms ml mr mb mu s1.n :: (mb,fu (fT s1.aU)) :: L) (by repeat (first|exact bZ _|apply List.Sublist.cons)) ⟨s1,av vi hF1.symm,rfl,hF2⟩)))
end
section
open Go.RowKit
theorem afN:∀ args w,(callFunc 164 args).run prog w=.ok (.enter 164 args) w:=enters func164 rfl (by kernel_rfl)
theorem afM:∀ args w,(callFunc 162 args).run prog w=.ok (.enter 162 args) w:=enters func162 rfl (by kernel_rfl)
theorem Ey:dJ prog 98 5 5:=⟨by kernel_rfl⟩
theorem ahj:dJ prog 90 0 0:=⟨by kernel_rfl⟩
variable {us:List Int}
theorem alA {G:GH} {b:Nat} {x:Int} (h:G b=some (.cells #[vi x] 42 (0,0))):aC G (.sl 1 ([x].map fun k=>[li k])) (.slice (some ⟨b,0,none⟩) 1 1):=Hl [x] h (show 1≤maxLen by decide)
theorem akC {m:Nat} (ih:Ij us m) (hm:m≤4294967296) (Gt:GH) (L:OL) (w0:World) (st:List bL) (li:List dM) (rv:List dU) (b ms ml mr mb mu:Nat) (s:CS) (x:ay) (p d y f r:aj) (body note:Bool) (t:Int)
  (hck:wW us Gt st li rv ms ml mr mu) (hO:ji Gt (gI b ms ml mr mb mu s.n :: (mb,fu (fT s.aU)) :: L) w0) (hh:qC Gt x.head p d y) (hf:aC Gt (.sl 11 (x.flow.map ay.dat)) f) (hr:aC Gt (.sl 6 (x.rows.map bH.dat)) r) (hz:cO x.dat≤m) (ht0:0≤t) (Bh:t≤4) (hs0:0≤s.n) (hs1:s.n+(cO x.dat:Nat)≤1099511627776) :
  Calls prog 103 #[(aQ b 0),.agg #[vi x.kind,vi x.code,vi x.id,.string x.text,p,vi x.head.marks.ins,vi x.head.marks.move,d,y,f,r],.agg #[.bool body,.bool note,vi t]] w0 (iM w0 Gt (gI b ms ml mr mb mu s.n :: (mb,fu (fT s.aU)) :: L) fun u G' L'=>MO b ms ml mr mb mu L (dY (aK us st li rv) body note t x s) u L'):=by
 obtain ⟨pA,pn,pc,rfl⟩:=hh.props.form;obtain ⟨dA,dn,dc,rfl⟩:=hh.bV.form;obtain ⟨lA,ln,lc,rfl⟩:=hh.layers.form;obtain ⟨fA,fc,rfl,-⟩:=hf.slice;obtain ⟨rA,rc,rfl,-⟩:=hr.slice;(iterate 2 rw [bQ] at *);have hxz:=oW x;have hcl:=Es x.text
 have UJ:gD x≤x.text.size+1:=by unfold gD;split <;> omega
 have hE:=LV (aK us st li rv) body note t x s;refine lq (N:=117) (T:=[(0,_),(1,_),(2,_)]) func103 rfl ntmps103 rfl rfl hO ?_;intro a H;refine dh (fun _ K1=>?_);refine fB (cs:=[_,_,_,_,_,_,_,_,_,_,_]) H wn rfl rfl rfl ?_;clear H;intro b4 a w hb4 H;refine fB (cs:=[_,_,_]) H wn rfl rfl rfl ?_;clear H;intro b5 a w hb5 H;refine kH H (ak K1 rfl (SQ fun _ K2=>SR fun _ K3=>?_));clear H K1;intro a H;refine bP fC (cs:=[_,_,_,_,_,_,_,_,_,_,_]) H wn rfl rfl (H.hp.gB 1 rfl rfl) rfl ?_;clear H;intro a H;refine s_call afM H wn rfl (ahx _ _ H.ro x _ _ _ _ _ _ _ (by omega)) rfl ?_;clear H;rintro v15 _ a w ⟨rfl,rfl⟩ - H;refine kH H (ak K3 rfl (SR fun _ K4=>Rm rfl (Rc rfl (Kz K4 (Cd rfl ?_ ?_))))) <;> clear H K3 K4
 ·intro gK a H
  try have mo:=dT gK
  rw [tq (r:=(jw x,s)) mo] at hE;exact kP H (SR fun _ K5=>Rm rfl (ak K5 rfl (LR results103 rfl fun H=>H.hp.bR (L':=gI b ms ml mr mb mu s.n :: (mb,fu (fT s.aU)) :: L) (by repeat (first|exact bZ _|apply List.Sublist.cons)) ⟨s,by rw [hE],rfl,fun h=>by rw [hE]⟩)))
 intro gK a H
 try have mo:=dF gK
 rw [sj (r:=(jw x,s)) (gu.1 mo)] at hE;dsimp only at hE;refine kP H (Kc K2 (SR fun _ K6=>Rm rfl (Rk rfl (aT Ey aD 2 rfl rfl (Rd rfl (Rk rfl (Rf Ey rfl ?_)))))));clear H K2;intro a H;refine bT aD 2 (vs:=[_]) _ H wn rfl rfl rfl rfl rfl rfl rfl rfl ?_;clear H;intro w H;dsimp only [List.set,setRow] at H;refine K6 _ _ ?_;clear K6;refine oF (ι:=CS × GH) (Tc:=[(0,_),(4,_),(5,_)]) (Lc:=[(_,_),(_,_)]) (fun gh=>[]) (fun gh=>[gI b ms ml mr mb mu gh.1.n,(mb,fu (fT gh.1.aU))]++L) (fun gh=>gh.2) (fun gh=>jo (aK us st li rv) body note t x.kind x.id ⟨s.n+(gD x:Nat),s.aU⟩=(0,gh.1)∧(∀ b o,Gt b=some o→gh.2 b=some o)∧gh.1.n=s.n+(gD x:Nat)∧(x.kind=7→t < 4)) (by exact (H).sub ⟨rfl,rfl,rfl,aB⟩) ?_ ?_
 ·skip;refine kP H (SR fun _ K7=>aT gJ aD 1 rfl rfl (Kz K7 (SB (SR fun _ K8=>Rc rfl (ak K8 rfl (Cd rfl ?_ ?_)))))) <;> clear H K7 K8
  ·intro jC a H
   try have p28:=dT jC
   have hu:((gD x:Nat):Int)=xu x.text:=by rw [gD,au p28]
   refine kP H (SR fun _ K9=>aT uO gW 1 rfl rfl ?_);clear H;intro a H;refine s_call NC H wn rfl (Nk _ _ H.ro x.text (by omega)) rfl ?_;clear H;rintro v33 _ a w ⟨rfl,rfl⟩ - H;refine kH H (Rm rfl ?_);clear H;intro a H;(iterate 2 refine nA H wn rfl rfl rfl ?_;clear H;intro a H);refine kH H (Ra rfl (ak K9 rfl (SC (Rm rfl (Rk rfl (aT Ey aD 2 rfl rfl (Rm rfl (Rs rfl (Rd rfl ?_)))))))));clear H K9;intro a H;rw [show s.n+1+((xu x.text:Int) - 1)=s.n+(gD x:Nat) by omega] at H;refine kH H (Rk rfl (Rf Ey rfl ?_));clear H;intro a H;refine bT aD 2 (vs:=[_]) _ H wn rfl rfl rfl rfl rfl rfl rfl rfl ?_;clear H;intro w H;dsimp only [List.set,setRow] at H;refine aJ ?_;refine ⟨(⟨s.n+(gD x:Nat),s.aU⟩,Gt),by exact (H).sub ⟨rfl,rfl,rfl,aB⟩,?_⟩;(try dsimp only)
   first
   | exact ⟨by simp_all [jo,bE,fG,iK],fun _ _ h=>h,rfl,fun h7=>by first|omega|(exfalso;simp_all)⟩
   | exact ⟨by simp_all [jo,bE,fG,iK],yV,rfl,fun h7=>by first|omega|(exfalso;simp_all)⟩
  intro jC a H
  try have p28:=dF jC
  have hu:((gD x:Nat):Int)=1:=by rw [gD,ah p28];rfl
  rw [show s.n+1=s.n+((gD x:Nat):Int) by omega] at H;refine kP H (SR fun _ aV=>Rc rfl (ak aV rfl (Cd rfl ?_ ?_))) <;> clear H aV
  ·intro h45 a H
   try have p45:=dT h45
   refine kP H (SR fun _ bF=>aT ahj qQ 0 rfl rfl (Rn rfl (Kz bF (Cd rfl ?_ ?_)))) <;> clear H bF
   ·intro pG a H
    try have p49:=dT pG
    refine aN (fun _ bG=>?_)
    have hF1:(dY (aK us st li rv) body note t x s).1=19:=by rw [hE];simp [fG,jo,p45,bE,pG]
    have hF2:(dY (aK us st li rv) body note t x s).1=0→(⟨s.n+(gD x:Nat),s.aU⟩:CS)=(dY (aK us st li rv) body note t x s).2:=fun h=>absurd (hF1.symm.trans h) (by decide);exact kP H (SC (aM bG rfl (LR results103 rfl fun H=>H.hp.bR (L':=gI b ms ml mr mb mu (s.n+(gD x:Nat)) :: (mb,fu (fT (s.aU))) :: L) (by repeat (first|exact bZ _|apply List.Sublist.cons)) ⟨⟨s.n+(gD x:Nat),s.aU⟩,av vi hF1.symm,rfl,hF2⟩)))
   intro pG a H
   try have p49:=dF pG
   refine fF ?_;refine ⟨(⟨s.n+(gD x:Nat),s.aU⟩,Gt),by exact (H).sub ⟨rfl,rfl,rfl,aB⟩,?_⟩;(try dsimp only)
   first
   | exact ⟨by simp_all [jo,bE,fG,iK],fun _ _ h=>h,rfl,fun h7=>by first|omega|(exfalso;simp_all)⟩
   | exact ⟨by simp_all [jo,bE,fG,iK],yV,rfl,fun h7=>by first|omega|(exfalso;simp_all)⟩
  intro h45 a H
  try have p45:=dF h45
  refine kP H (SR fun _ bM=>Rc rfl (ak bM rfl (Cd rfl ?_ ?_))) <;> clear H bM
  ·intro h50 a H
   try have p50:=dT h50
   refine kP H (SQ fun _ bN=>SR fun _ bW=>aT RJ qQ 0 rfl rfl ?_);clear H;intro a H;refine s_call jM H wn rfl (jO _ _ H.ro _ 19) rfl ?_;clear H;rintro v54 _ a w ⟨rfl,rfl⟩ - H;refine jy qz gZ [_] [_] H wn rfl rfl rfl rfl rfl (by intro i q h;match i,h with|0,h=>exact h|n+1,h=>simp at h) rfl rfl ?_;clear H;intro QC a w air H;obtain ⟨Qg,yV,ais,H⟩:=H.dW;refine s_call qZ H wn rfl (rz _ _ H.ro _ _ (alA ais)) rfl ?_;clear H;rintro v56 _ a w ⟨rfl,rfl⟩ - H;refine kH H (ak bW rfl (SR fun _ cK=>Rm rfl (Rc rfl (Kz cK (Cd rfl ?_ ?_))))) <;> clear H bW cK
   ·intro iZ a H
    try have p58:=dT iZ
    have e58:bE note 19≠0:=fun h=>p58 (by rw [h];rfl)
    have akc:bK [bE note 19]=bE note 19:=by simp [bK,e58]
    rw [akc] at H
    have hF1:(dY (aK us st li rv) body note t x s).1=bE note 19:=by rw [hE];simp [fG,jo,p50,e58]
    have hF2:(dY (aK us st li rv) body note t x s).1=0→(⟨s.n+(gD x:Nat),s.aU⟩:CS)=(dY (aK us st li rv) body note t x s).2:=fun h=>absurd (hF1.symm.trans h) (e58);exact kP H (SR fun _ bS=>Rm rfl (ak bS rfl (LR results103 rfl fun H=>H.hp.bR (L':=gI b ms ml mr mb mu (s.n+(gD x:Nat)) :: (mb,fu (fT (s.aU))) :: L) (by repeat (first|exact bZ _|apply List.Sublist.cons)) ⟨⟨s.n+(gD x:Nat),s.aU⟩,av vi hF1.symm,rfl,hF2⟩)))
   intro iZ a H
   try have p58:=dF iZ
   have e58:bE note 19=0:=Decidable.byContradiction fun h=>p58 (by simp [bK,h]);refine kP H (Kc bN (SR fun _ dD=>Rm rfl (aT uN aD 1 rfl rfl ?_)));clear H bN;intro a H;refine gP Q0 (Li:=[_,_]) (L:=gI b ms ml mr mb mu _ :: (mb,fu (fT s.aU)) :: L) H wn rfl (QJ _ _ _ st li rv b ms ml mr mb mu _ s.aU x.id (hck.mono yV) (Hp.owns (Li:=[_,_]) H.hp)) rfl ?_;clear H;rintro v63 _ _ a w ⟨rfl,rfl,rfl⟩ - H;dsimp only [lca,aO] at H;refine kH H (ak dD rfl (SR fun _ dO=>Rm rfl (Rc rfl (Kz dO (Cd rfl ?_ ?_))))) <;> clear H dD dO
   ·intro jY a H
    try have p65:=dT jY
    have hF1:(dY (aK us st li rv) body note t x s).1=mh us s.aU x.id:=by rw [hE];simp [fG,jo,p50,e58,iK,p65]
    have hF2:(dY (aK us st li rv) body note t x s).1=0→(⟨s.n+(gD x:Nat),jm us s.aU x.id⟩:CS)=(dY (aK us st li rv) body note t x s).2:=fun h=>absurd (hF1.symm.trans h) (p65);exact kP H (SR fun _ dK=>Rm rfl (ak dK rfl (LR results103 rfl fun H=>H.hp.bR (L':=gI b ms ml mr mb mu (s.n+(gD x:Nat)) :: (mb,fu (fT (jm us s.aU x.id))) :: L) (by repeat (first|exact bZ _|apply List.Sublist.cons)) ⟨⟨s.n+(gD x:Nat),jm us s.aU x.id⟩,av vi hF1.symm,rfl,hF2⟩)))
   intro jY a H
   try have p65:=dF jY
   have e65:mh us s.aU x.id=0:=gu.1 p65;refine fF ?_;refine ⟨(⟨s.n+(gD x:Nat),jm us s.aU x.id⟩,Qg),by exact (H).sub ⟨rfl,rfl,rfl,aB⟩,?_⟩;(try dsimp only)
   first
   | exact ⟨by simp_all [jo,bE,fG,iK],fun _ _ h=>h,rfl,fun h7=>by first|omega|(exfalso;simp_all)⟩
   | exact ⟨by simp_all [jo,bE,fG,iK],yV,rfl,fun h7=>by first|omega|(exfalso;simp_all)⟩
  intro h50 a H
  try have p50:=dF h50
  refine kP H (SR fun _ dS=>Rc rfl (ak dS rfl (Cd rfl ?_ ?_))) <;> clear H dS
  ·intro Ba a H
   try have p67:=dT Ba
   refine kP H (SQ fun _ eP=>SR fun _ gG=>aT KP aD 0 rfl rfl (Rc rfl (Kz gG (Cd rfl ?_ ?_)))) <;> clear H gG
   ·intro tN a H
    try have p71:=dT tN
    refine aN (fun _ gT=>?_)
    have hF1:(dY (aK us st li rv) body note t x s).1=17:=by rw [hE];simp [fG,jo,p67,bE,p71]
    have hF2:(dY (aK us st li rv) body note t x s).1=0→(⟨s.n+(gD x:Nat),s.aU⟩:CS)=(dY (aK us st li rv) body note t x s).2:=fun h=>absurd (hF1.symm.trans h) (by decide);exact kP H (SC (aM gT rfl (LR results103 rfl fun H=>H.hp.bR (L':=gI b ms ml mr mb mu (s.n+(gD x:Nat)) :: (mb,fu (fT (s.aU))) :: L) (by repeat (first|exact bZ _|apply List.Sublist.cons)) ⟨⟨s.n+(gD x:Nat),s.aU⟩,av vi hF1.symm,rfl,hF2⟩)))
   intro tN a H
   try have p71:=dF tN
   have e71:¬ 4≤t:=by omega
   refine kP H (Kc eP (SR fun _ gM=>Rm rfl (aT uN aD 1 rfl rfl ?_)));clear H eP;intro a H;refine gP Q0 (Li:=[_,_]) (L:=gI b ms ml mr mb mu _ :: (mb,fu (fT s.aU)) :: L) H wn rfl (QJ _ _ _ st li rv b ms ml mr mb mu _ s.aU x.id hck (Hp.owns (Li:=[_,_]) H.hp)) rfl ?_;clear H;rintro v75 _ _ a w ⟨rfl,rfl,rfl⟩ - H;dsimp only [lca,aO] at H;refine kH H (ak gM rfl (SR fun _ jf=>Rm rfl (Rc rfl (Kz jf (Cd rfl ?_ ?_))))) <;> clear H gM jf
   ·intro tO a H
    try have Cu:=dT tO
    have hF1:(dY (aK us st li rv) body note t x s).1=mh us s.aU x.id:=by rw [hE];simp [fG,jo,p67,bE,e71,iK,Cu]
    have hF2:(dY (aK us st li rv) body note t x s).1=0→(⟨s.n+(gD x:Nat),jm us s.aU x.id⟩:CS)=(dY (aK us st li rv) body note t x s).2:=fun h=>absurd (hF1.symm.trans h) (Cu);exact kP H (SR fun _ jq=>Rm rfl (ak jq rfl (LR results103 rfl fun H=>H.hp.bR (L':=gI b ms ml mr mb mu (s.n+(gD x:Nat)) :: (mb,fu (fT (jm us s.aU x.id))) :: L) (by repeat (first|exact bZ _|apply List.Sublist.cons)) ⟨⟨s.n+(gD x:Nat),jm us s.aU x.id⟩,av vi hF1.symm,rfl,hF2⟩)))
   intro tO a H
   try have Cu:=dF tO
   have e77:mh us s.aU x.id=0:=gu.1 Cu;refine fF ?_;refine ⟨(⟨s.n+(gD x:Nat),jm us s.aU x.id⟩,Gt),by exact (H).sub ⟨rfl,rfl,rfl,aB⟩,?_⟩;(try dsimp only)
   first
   | exact ⟨by simp_all [jo,bE,fG,iK],fun _ _ h=>h,rfl,fun h7=>by first|omega|(exfalso;simp_all)⟩
   | exact ⟨by simp_all [jo,bE,fG,iK],yV,rfl,fun h7=>by first|omega|(exfalso;simp_all)⟩
  intro Ba a H
  try have p67:=dF Ba
  refine kP H (SR fun _ iQ=>Rc rfl (ak iQ rfl (Cd rfl ?_ ?_))) <;> clear H iQ
  ·intro iH a H
   try have mq:=dT iH
   refine kP H (SR fun _ kT=>aT uN aD 1 rfl rfl ?_);clear H;intro a H;refine s_call yK H wn rfl (ze _ _ H.ro x.id 1 1073741824) rfl ?_;clear H;rintro v83 _ a w ⟨rfl,rfl⟩ - H;refine kH H (Rn rfl (Kz kT (Cd rfl ?_ ?_))) <;> clear H kT
   ·intro h84 a H
    try have Vt:=dT h84
    refine aN (fun _ kU=>?_)
    have e84:¬ (1≤x.id∧x.id≤1073741824):=by have h0:=h84;simp at h0;omega
    have hF1:(dY (aK us st li rv) body note t x s).1=18:=by rw [hE];simp [fG,jo,mq,bE,e84]
    have hF2:(dY (aK us st li rv) body note t x s).1=0→(⟨s.n+(gD x:Nat),s.aU⟩:CS)=(dY (aK us st li rv) body note t x s).2:=fun h=>absurd (hF1.symm.trans h) (by decide);exact kP H (SC (aM kU rfl (LR results103 rfl fun H=>H.hp.bR (L':=gI b ms ml mr mb mu (s.n+(gD x:Nat)) :: (mb,fu (fT (s.aU))) :: L) (by repeat (first|exact bZ _|apply List.Sublist.cons)) ⟨⟨s.n+(gD x:Nat),s.aU⟩,av vi hF1.symm,rfl,hF2⟩)))
   intro h84 a H
   try have Vt:=dF h84
   refine fF ?_;refine ⟨(⟨s.n+(gD x:Nat),s.aU⟩,Gt),by exact (H).sub ⟨rfl,rfl,rfl,aB⟩,?_⟩;(try dsimp only)
   first
   | exact ⟨by simp_all [jo,bE,fG,iK],fun _ _ h=>h,rfl,fun h7=>by first|omega|(exfalso;simp_all)⟩
   | exact ⟨by simp_all [jo,bE,fG,iK],yV,rfl,fun h7=>by first|omega|(exfalso;simp_all)⟩
  intro iH a H
  try have mq:=dF iH
  refine fF ?_;refine ⟨(⟨s.n+(gD x:Nat),s.aU⟩,Gt),by exact (H).sub ⟨rfl,rfl,rfl,aB⟩,?_⟩;(try dsimp only)
  first
  | exact ⟨by simp_all [jo,bE,fG,iK],fun _ _ h=>h,rfl,fun h7=>by first|omega|(exfalso;simp_all)⟩
  | exact ⟨by simp_all [jo,bE,fG,iK],yV,rfl,fun h7=>by first|omega|(exfalso;simp_all)⟩
 clear H;rintro ⟨s1,g⟩ a w hI H;dsimp only at hI H;obtain ⟨hP,yX,aqb,ht7⟩:=hI;rw [hP,sj rfl] at hE;dsimp only at hE;replace hck:=hck.mono yX;replace hh:=hh.mono yX;replace hf:=hf.mono yX;replace hr:=hr.mono yX;dsimp only [lca,aO] at H;refine kP H (SQ fun _ jG=>SR fun _ kZ=>Rm rfl (aT gJ aD 1 rfl rfl (Rf KN rfl ?_)));clear H;intro a H;refine bP vC (cs:=[_,_,_,_,_]) H wn rfl rfl (H.hp.gB 1 rfl rfl) rfl ?_;clear H;intro a H;refine gP IQ (Li:=[_,_]) (L:=gI b ms ml mr mb mu s1.n :: (mb,fu (fT s1.aU)) :: L) H wn rfl (Jd _ _ _ st li rv b ms ml mr mb mu _ hck (Hp.owns (Li:=[_,_]) H.hp) x.kind x.head _ _ _ hh (by omega)) rfl ?_;clear H;rintro v90 _ _ a w ⟨rfl,rfl,rfl⟩ - H;dsimp only [lca,aO] at H;refine kH H (ak kZ rfl (SR fun _ lg=>Rm rfl (Rc rfl (Kz lg (Cd rfl ?_ ?_))))) <;> clear H kZ lg
 ·intro yP a H
  try have Jz:=dT yP
  have hF1:(dY (aK us st li rv) body note t x s).1=fK (aK us st li rv) x.kind x.head:=by rw [hE,tq (r:=(fK (aK us st li rv) x.kind x.head,s1)) Jz]
  have hF2:(dY (aK us st li rv) body note t x s).1=0→s1=(dY (aK us st li rv) body note t x s).2:=fun h=>absurd (hF1.symm.trans h) Jz;exact kP H (SR fun _ lK=>Rm rfl (ak lK rfl (LR results103 rfl fun H=>H.hp.bR (L':=gI b ms ml mr mb mu (s1.n) :: (mb,fu (fT (s1.aU))) :: L) (by repeat (first|exact bZ _|apply List.Sublist.cons)) ⟨s1,av vi hF1.symm,rfl,hF2⟩)))
 intro yP a H
 try have Jz:=dF yP
 rw [sj (r:=(fK (aK us st li rv) x.kind x.head,s1)) (gu.1 Jz)] at hE;dsimp only at hE;refine kP H (Kc jG (SQ fun _ lM=>SR fun _ lN=>aT gJ aD 1 rfl rfl (Kz lN (SB (SR fun _ lY=>Rc rfl (ak lY rfl (Cd rfl ?_ ?_))))))) <;> clear H jG lN lY
 ·intro tQ a H
  try have Mg:=dT tQ
  rw [au Mg] at hE;refine kP H (SR fun _ qD=>Rm rfl (aT Ca jJ 1 rfl rfl (aT KP aD 0 rfl rfl ?_)));clear H;intro a H;refine lJ Fb [_,_,_] H wn rfl rfl rfl rfl ?_;clear H;intro a H;refine gP IK (Li:=[_,_]) (L:=gI b ms ml mr mb mu s1.n :: (mb,fu (fT s1.aU)) :: L) H wn rfl (ih _ _ _ st li rv b ms ml mr mb mu s1 x.flow _ false true t hck (Hp.owns (Li:=[_,_]) H.hp) hf (by omega) ht0 Bh (by omega) (by omega)) rfl ?_;clear H;rintro aqs _ _ a w ⟨rfl,s3,rfl,rfl,h3⟩ - H;dsimp only [lca,aO] at H
  have hF1:(dY (aK us st li rv) body note t x s).1=(fq (aK us st li rv) false true t x.flow s1).1:=by rw [hE]
  have hF2:(dY (aK us st li rv) body note t x s).1=0→s3=(dY (aK us st li rv) body note t x s).2:=by rw [hE];exact h3
  exact kH H (ak qD rfl (LR results103 rfl fun H=>H.hp.bR (L':=gI b ms ml mr mb mu (s3.n) :: (mb,fu (fT (s3.aU))) :: L) (by repeat (first|exact bZ _|apply List.Sublist.cons)) ⟨s3,av vi hF1.symm,rfl,hF2⟩))
 intro tQ a H
 try have Mg:=dF tQ
 rw [ah Mg] at hE;refine kP H (SR fun _ vH=>Rc rfl (ak vH rfl (Cd rfl ?_ ?_))) <;> clear H vH
 ·intro rC a H
  try have Jy:=dT rC
  rw [au Jy] at hE;refine kP H (SR fun _ kV=>Rm rfl (aT uP vD 1 rfl rfl (aT RJ qQ 0 rfl rfl (aT KP aD 0 rfl rfl (Rd rfl ?_)))));clear H;intro a H;refine lJ Fb [_,_,_] H wn rfl rfl rfl rfl ?_;clear H;intro a H;refine gP afN (Li:=[_,_]) (L:=gI b ms ml mr mb mu s1.n :: (mb,fu (fT s1.aU)) :: L) H wn rfl (rows_ok ih hm _ _ _ st li rv b ms ml mr mb mu s1 x.rows _ note (t+1) hck (Hp.owns (Li:=[_,_]) H.hp) hr (by omega) (by omega) (by have:=ht7 Jy;omega) (by omega) (by omega)) rfl ?_;clear H;rintro acK _ _ a w ⟨s3,rfl,rfl,h3⟩ - H;dsimp only [lca,aO] at H
  have hF1:(dY (aK us st li rv) body note t x s).1=(jS x.rows.length (fun s=>fH (aK us st li rv) note (t+1) x.rows s) s1).1:=by rw [hE]
  have hF2:(dY (aK us st li rv) body note t x s).1=0→s3=(dY (aK us st li rv) body note t x s).2:=by rw [hE];exact h3
  exact kH H (ak kV rfl (LR results103 rfl fun H=>H.hp.bR (L':=gI b ms ml mr mb mu (s3.n) :: (mb,fu (fT (s3.aU))) :: L) (by repeat (first|exact bZ _|apply List.Sublist.cons)) ⟨s3,av vi hF1.symm,rfl,hF2⟩))
 intro rC a H
 try have Jy:=dF rC
 rw [ah Jy] at hE
 have hF1:(dY (aK us st li rv) body note t x s).1=0:=by rw [hE]
 have hF2:(dY (aK us st li rv) body note t x s).1=0→s1=(dY (aK us st li rv) body note t x s).2:=fun h=>by rw [hE]
 exact kP H (Kc lM (SR fun _ yC=>ak yC rfl (LR results103 rfl fun H=>H.hp.bR (L':=gI b ms ml mr mb mu (s1.n) :: (mb,fu (fT (s1.aU))) :: L) (by repeat (first|exact bZ _|apply List.Sublist.cons)) ⟨s1,av vi hF1.symm,rfl,hF2⟩)))
end
section
open Go.RowKit
theorem afn:∀ args w,(callFunc 103 args).run prog w=.ok (.enter 103 args) w:=enters func103 rfl (by kernel_rfl)
theorem afm:∀ args w,(callFunc 102 args).run prog w=.ok (.enter 102 args) w:=enters func102 rfl (by kernel_rfl)
variable {us:List Int}
def WX (fv:aj) (Gi:GH) (n:Nat) (E:Nat→Int) {σ:Type} (B:σ→OL) (S:Nat→σ):Prop:=∀ i,i < n→∀ (G1:GH) (w1:World),(∀ b o,Gi b=some o→G1 b=some o)→ji G1 (B (S i)) w1 →
 zD prog fv [vi i] w1 (iM w1 G1 (B (S i)) fun u G' L'=>∃ s,u=vi (E i)∧L'=B s∧(E i=0→s=S (i+1)))
theorem adM (G:GH) (w0:World) {σ:Type} (B:σ→OL) (S:Nat→σ) (n:Nat) (E:Nat→Int) (fv:aj) (hO:ji G (B (S 0)) w0) (hn:n≤4611686018427387904) (hf:WX fv G n E B S) :
  Calls prog 101 #[vi n,fv] w0 (iM w0 G (B (S 0)) fun u G' L'=>∃ s,u=vi (iC E n)∧L'=B s∧(iC E n=0→s=S n)):=by
 refine lq (N:=18) (T:=[(0,_),(1,_)]) func101 rfl ntmps101 rfl rfl hO ?_;intro a H;refine kP H (SR fun _ K1=>ak K1 rfl (SQ fun _ K2=>SR fun _ K3=>Rm rfl (Rm rfl (Kz K3 (SB ?_)))));clear H K1 K3;intro a H;skip;refine eT (ι:=Nat × GH) (Tc:=[(1,_),(7,_)]) (Lc:=[]) (fun gh=>[(8,vi gh.1)]) (fun gh=>[]++B (S gh.1)) (fun gh=>gh.2) (fun gh=>gh.1≤n∧bK (((List.range n).map E).drop gh.1)=iC E n∧(∀ b o,G b=some o→gh.2 b=some o)) (fun gh=>n - gh.1) ((0,G)) (by exact (H).sub ⟨rfl,rfl,rfl,aB⟩) ?_ ?_
 ·exact ⟨gX _,rfl,fun _ _ h=>h⟩
 clear H;rintro ⟨k,g⟩ a w hI H;dsimp only at hI H;obtain ⟨hk,he,hgm⟩:=hI;dsimp only [lca,aO] at H;refine kP H (SR fun _ K4=>Rc rfl (Kz K4 (SQ fun _ K5=>Cd rfl ?_ ?_))) <;> clear H K4
 ·intro h9 a H
  try have p9:=dT h9
  have hk2:k < n:=by omega
  refine kP H (Kc K5 (SQ fun _ K6=>SB (SR fun _ K7=>Rm rfl (ak K7 rfl (SR fun _ K8=>Rm rfl (Rm rfl ?_))))));clear H K5 K7;intro a H;refine uZ (Li:=[]) (L:=B (S k)) H wn rfl rfl (hf k hk2 _ _ hgm (Hp.owns (Li:=[]) H.hp)) rfl ?_;clear H;rintro v13 Ao L13 a w ⟨s3,rfl,rfl,h3⟩ rQ H;refine kH H (ak K8 rfl (SR fun _ K9=>Rm rfl (Rc rfl (Kz K9 (Cd rfl ?_ ?_))))) <;> clear H K8 K9
  ·intro jI a H
   try have pQ:=dT jI
   have hE:iC E n=E k:=by rw [qd hk2,au pQ] at he;exact he.symm
   exact kP H (SR fun _ aV=>Rm rfl (ak aV rfl (LR results101 rfl fun H=>H.hp.fO ⟨s3,by rw [hE],rfl,fun h=>absurd (hE.symm.trans h) pQ⟩)))
  intro jI a H
  try have pQ:=dF jI
  have hS:=h3 (gu.1 pQ);subst hS;refine kP H (Kc K6 (SC (Rd rfl (Rm rfl ?_))));clear H K6;intro a H;refine aJ ?_;refine dH ((k+1,Ao)) (by exact (H).sub ⟨rfl,rfl,rfl,aB⟩) ?_ ?_
  ·(try dsimp only);exact ⟨by omega,by rw [qd hk2,ah pQ] at he;exact he,fun b o h=>rQ b o (hgm b o h)⟩
  first|omega|(dsimp only;omega)
 intro h9 a H
 try have p9:=dF h9
 refine dR ?_;refine K2 _ _ ?_;clear K2;exact kP H (SR fun _ bF=>ak bF rfl (LR results101 rfl fun H=>H.hp.fO ⟨S n,av vi (by rw [fI (by simp;omega)] at he;exact he),by rw [show k=n by omega],fun _=>rfl⟩))
abbrev Ni (b ms ml mr mb mu:Nat) (L:OL) (s:CS):OL:=gI b ms ml mr mb mu s.n :: (mb,fu (fT s.aU)) :: L
theorem akB {m:Nat} (ih:Ij us m) (hm:m≤4294967296) {G:GH} {L:OL} {st:List bL} {li:List dM} {rv:List dU} {b ms ml mr mb mu:Nat} {s:CS} {l:List ay} {v:aj} {body note:Bool} {t:Int} {x3 x4 x5:Nat}
  (hck:wW us G st li rv ms ml mr mu) (h3:aG G x3 0=some (aQ b 0)) (h4:aG G x4 0=some v) (h5:∀ (j:Nat) (u:aj),[.bool body,.bool note,vi t][j]?=some u→aG G x5 (0+j)=some u)
  (hv:aC G (.sl 11 (l.map ay.dat)) v) (hz:bq l≤m) (ht0:0≤t) (Bh:t≤4) (hs0:0≤s.n) (hs1:s.n+(bq l:Nat)≤1099511627776) :
  WX (.func (.func 102) #[] #[(aQ x3 0),(aQ x4 0),(aQ x5 0)]) G l.length (Db (dY (aK us st li rv) body note t) l s) (Ni b ms ml mr mb mu L) (qO (dY (aK us st li rv) body note t) l s):=by
 intro k hk G1 w0 LJ hO;refine nK (caps:=[(aQ x3 0),(aQ x4 0),(aQ x5 0)]) afm ?_;replace h3:=aH LJ h3;replace h4:=aH LJ h4;replace h5:=fun j u hj=>aH LJ (h5 j u hj);replace hck:=hck.mono LJ;replace hv:=hv.mono LJ;obtain ⟨A,c,rfl,hc1,hc2,hg⟩:=hv.slice;rw [bQ] at *;obtain ⟨o,xo,pA,pn,pc,dA,dn,dc,yA,yn,yc,fA,fn,fc,rA,rn,rc,rfl,hrow,hhd,hfl,hrw⟩:=Dl hk hg;obtain ⟨hn0,hn1⟩:=acH (aK us st li rv) body note t l s k (by omega)
 have hdz:bq (l.drop k)=1+cO l[k].dat+bq (l.drop (k+1)):=by
  simp only [bq];rw [jV hk,dV,dZ]
 have He:=MJ (jv hk)
 have hE:Db (dY (aK us st li rv) body note t) l s k=(dY (aK us st li rv) body note t l[k] (qO (dY (aK us st li rv) body note t) l s k)).1:=by unfold Db;rw [fP hk]
 have hS:qO (dY (aK us st li rv) body note t) l s (k+1)=(dY (aK us st li rv) body note t l[k] (qO (dY (aK us st li rv) body note t) l s k)).2:=by rw [qO,fP hk]
 rw [hE,hS]
 generalize qO (dY (aK us st li rv) body note t) l s k=s1 at *
 refine lq (N:=13) (T:=[(0,_),(1,_),(2,_),(3,_)]) func102 rfl ntmps102 rfl rfl hO ?_;intro a H;refine kP H (SR fun _ K1=>ak K1 rfl (SQ fun _ K2=>?_));clear H K1;intro a H;refine dI hmx [[],[],[],[1,2],[1,2,3],[],(ra 0 6),(ra 0 7)] [6,7] (by kernel_rfl) [_,_,_,_,.agg #[vi l[k].kind,vi l[k].code,vi l[k].id,.string l[k].text,.slice pA pn pc,vi l[k].head.marks.ins,vi l[k].head.marks.move,.slice dA dn dc,.slice yA yn yc,.slice fA fn fc,.slice rA rn rc],.agg #[.bool body,.bool note,vi t]] H (aI (X0 rfl fun hG=>Rg JR rfl (aH hG h3)) (X0 rfl fun hG=>Rg jJ rfl (aH hG h4)) (Z0 rfl (Rm rfl)) (Z2 1 7 2 8 rfl (Ri kr fC rfl rfl)) (aI ?_ ?_ (cu rfl) (cu rfl) dN)) ?_
 ·refine eF 3 9 rfl rfl fun _ a w G1 hG HT H fin=>?_;refine bP fC (cs:=[_,_,_,_,_,_,_,_,_,_,_]) H wn rfl rfl (fun j v hj=>H.hp.aG (aH hG (hrow j v hj))) rfl ?_;clear H;intro a H;exact fin H iJ rfl
 ·refine BI rfl fun _ a w G1 hG HT H fin=>?_;refine bP Mv (cs:=[.bool body,.bool note,vi t]) H wn rfl rfl (fun j v hj=>H.hp.aG (aH hG (h5 j v hj))) rfl ?_;clear H;intro a H;exact fin H iJ rfl
 clear H;intro a w G rJ H hv;have H:=H.bg (hv 0 6 rfl rfl) rfl;have H:=H.bg (hv 4 10 rfl rfl) rfl;have H:=H.bg (hv 5 11 rfl rfl) rfl;clear hv;refine gP afn (Li:=[]) (L:=Ni b ms ml mr mb mu L s1) H wn rfl (akC ih hm _ _ _ st li rv b ms ml mr mb mu s1 l[k] _ _ _ _ _ body note t (hck.mono rJ) (Hp.owns (Li:=[]) H.hp) (hhd.mono rJ) (hfl.mono rJ) (hrw.mono rJ) (by omega) ht0 Bh (by omega) (by omega)) rfl ?_;clear H;rintro v12 _ _ a w ⟨s3,rfl,rfl,h12⟩ - H;dsimp only [List.nil_append] at H;refine kH H (Ra rfl ?_);clear H;intro a H;refine aJ ⟨rfl,?_⟩;refine K2 _ _ ?_;clear K2;refine lr H results102 rfl ?_;exact H.hp.fO ⟨s3,rfl,rfl,h12⟩
theorem akE {m:Nat} (ih:Ij us m) (hm:m≤4294967296):Ij us (m+1):=by
 intro G L w0 st li rv b ms ml mr mb mu s l v body note t hck hO hv hz ht0 Bh hs0 hs1;obtain ⟨hA1,hA2⟩:=aaI (aK us st li rv) body note t l s;refine Calls.adU (R:=fun u G' L'=>MO b ms ml mr mb mu L (fq (aK us st li rv) body note t l s) u L') ?_ fun _ _ _ h=>h;obtain ⟨A,c,rfl,hc1,hc2,-⟩:=hv.slice;rw [bQ] at *;have hll:=Fu l;refine lq (N:=11) (T:=[(0,_),(1,_),(2,_)]) func46 rfl ntmps46 rfl rfl hO ?_;intro a H;refine dh (fun _ K1=>?_);refine fB (cs:=[_]) H wn rfl rfl rfl ?_;clear H;intro b3 a w hb3 H;refine fB (cs:=[_]) H wn rfl rfl rfl ?_;clear H;intro b4 a w hb4 H;refine fB (cs:=[_,_,_]) H wn rfl rfl rfl ?_;clear H;intro b5 a w hb5 H;refine kH H (ak K1 rfl (SQ fun _ K2=>?_));clear H K1;intro a H;obtain ⟨Ga5,Om,wC,H⟩:=H.dW;obtain ⟨Ga4,Jj,yS,H⟩:=H.dW;obtain ⟨Ga,EL,Bb,H⟩:=H.dW;replace wC:=EL _ _ (Jj _ _ wC);replace yS:=EL _ _ yS;have hma:∀ b o,G b=some o→Ga b=some o:=fun b o h=>EL _ _ (Jj _ _ (Om _ _ h))
 have g3:aG Ga b3 0=some (aQ b 0):=by unfold aG;rw [Bb];rfl
 have g4:aG Ga b4 0=some (.slice A l.length c):=by unfold aG;rw [yS];rfl
 have g5:∀ (j:Nat) (u:aj),[.bool body,.bool note,vi t][j]?=some u→aG Ga b5 (0+j)=some u:=by
  intro j u hj;unfold aG;rw [wC];simpa using hj
 have hcb:=akB (mb:=mb) (L:=L) (s:=s) ih hm (hck.mono hma) g3 g4 g5 (hv.mono hma) (by omega) ht0 Bh hs0 hs1;refine kP H (SC (Rg jJ rfl (by assumption) ?_));clear H;intro a H;refine kH H (Rl kr rfl ?_);clear H;intro a H;refine pV H wn rfl rfl ?_;clear H;intro a H;refine gP IJ (Li:=[]) (L:=Ni b ms ml mr mb mu L s) H wn rfl (adM _ _ (Ni b ms ml mr mb mu L) (qO (dY (aK us st li rv) body note t) l s) l.length (Db (dY (aK us st li rv) body note t) l s) _ (Hp.owns (Li:=[]) H.hp) (by omega) hcb) rfl ?_;clear H;rintro v10 _ _ a w ⟨s3,rfl,rfl,h10⟩ - H;dsimp only [List.nil_append] at H;exact kH H (aM K2 rfl (LR results46 rfl fun H=>H.hp.fO ⟨s3,by rw [hA1],rfl,fun h=>by rw [hA1] at h;exact (h10 h).trans (hA2 (hA1.trans h)).symm⟩))
theorem LW:∀ m:Nat,m≤4294967297→Ij us m
 | 0,_=>fun _ _ _ _ _ _ _ _ _ _ _ _ _ _ _ _ _ _ _ _ _ h=>absurd h (by omega)
 | m+1,hm=>akE (LW m (by omega)) (by omega)
end
section
open Go.RowKit
theorem Y8:dJ prog 82 1 1:=⟨by kernel_rfl⟩
theorem RI:dJ prog 82 2 2:=⟨by kernel_rfl⟩
theorem afz:∀ args w,(callFunc 132 args).run prog w=.ok (.enter 132 args) w:=enters func132 rfl (by kernel_rfl)
theorem afy:∀ args w,(callFunc 130 args).run prog w=.ok (.enter 130 args) w:=enters func130 rfl (by kernel_rfl)
theorem amI {G:GH} {bl:Nat} {l:List dU} {A:Option Addr} {n c:Nat} (hb:aG G bl 0=some (.slice A n c)) (hv:aC G (.sl 3 (l.map dU.dat)) (.slice A n c)):uE (.func (.func 132) #[] #[(aQ bl 0)]) G l.length fun k=>(l[k]?.map dU.id).getD 0:=by
 intro k hk G1 w0 hm hG;refine nK (caps:=[(aQ bl 0)]) afz ?_;replace hb:=aH hm hb
 obtain rfl:n=l.length:=by have:=hv.len;simpa using this
 obtain ⟨b,o,rfl,hrow⟩:=JE (hv.mono hm) hk;have hq:=hrow 0 _ rfl;refine eN [(0,_),(1,_)] func132 rfl ntmps132 rfl rfl hG ?_;intro a H;refine kP H (SR fun _ K1=>ak K1 rfl (SR fun _ K2=>Rg xW rfl (by assumption) ?_));clear H K1;intro a H;refine kH H (Rm rfl (Ri xY zy rfl rfl (Rf KO rfl (Rg aD rfl (by assumption) ?_))));clear H;intro a H;exact kH H (ak K2 rfl (LR results132 rfl fun H=>H.rt (by dsimp only;rw [fP hk];rfl)))
def Mj (l:List dU) (i:Nat) (x:dU):Int:=bK [kI (fun k=>(l[k]?.map dU.id).getD 0) i,bE (!pz x.author) 39,bE (!decide (0≤x.time∧x.time≤1099511627776)) 40]
def zo (l:List dU) (i:Nat):Int:=match l[i]? with|some x=>Mj l i x|none=>0
theorem amw {G:GH} {bl:Nat} {l:List dU} {A:Option Addr} {n c:Nat} (hb:aG G bl 0=some (.slice A n c)) (hv:aC G (.sl 3 (l.map dU.dat)) (.slice A n c)) (hl:l.length≤4294967296) (ht:∀ x∈l,x.author.size < 4611686018427387904):uE (.func (.func 130) #[] #[(aQ bl 0)]) G l.length (zo l):=by
 intro k hk G1 w0 hm hG;refine nK (caps:=[(aQ bl 0)]) afy ?_;replace hb:=aH hm hb;replace hv:=hv.mono hm;have hcb:=amI hb hv
 obtain rfl:n=l.length:=by have:=hv.len;simpa using this
 obtain ⟨b,o,rfl,hrow⟩:=JE hv hk;have hte:=ht _ (jv hk)
 have he:zo l k=Mj l k l[k]:=by unfold zo;rw [fP hk]
 obtain ⟨x,hx⟩:∃ x,x=l[k]:=⟨_,rfl⟩;rw [← hx] at hrow hte he;refine eN [(0,_),(1,_)] func130 rfl ntmps130 rfl rfl hG ?_;intro a H;refine kP H (SR fun _ K1=>ak K1 rfl (SQ fun _ K2=>?_));clear H K1;intro a H;have H:=H.sub (T':=[(0,_),(1,_)]) ⟨rfl,rfl,aB⟩;refine dI hmx [[],[],[0,1],[],[],[3,4],[3,4,5],(ra 3 4),(ra 0 8),(ra 0 9),(ra 0 10),[],[],[11,12],[11,12,13],(ra 11 4),(ra 0 16),(ra 0 17),(ra 0 18),(ra 0 19),(ra 0 20),(ra 0 21)] [19,20,21] (by kernel_rfl) [_,.func (.func 132) #[] #[(aQ bl 0)],vi (kI (fun k=>(l[k]?.map dU.id).getD 0) k),_,_,_,_,_,.bool (pz x.author),_,vi (bE (!pz x.author) 39),_,_,_,_,_,.bool (decide (0≤x.time∧x.time≤1099511627776)),_,vi (bE (!decide (0≤x.time∧x.time≤1099511627776)) 40)] H (aI (Z0 rfl (Rm rfl)) ?_ ?_ (X0 rfl fun hG=>Rg xW rfl (aH hG hb)) (aI (Z0 rfl (Rm rfl)) (Z2 3 7 4 8 rfl (Ri xY zy rfl rfl)) (Z1 5 9 rfl (Rf Y8 rfl)) (X1 6 10 rfl fun hG=>Rg gW rfl (aH hG (hrow 1 _ rfl))) (aI ?_ (Z1 8 12 rfl (Rn rfl)) ?_ (X0 rfl fun hG=>Rg xW rfl (aH hG hb)) (aI (Z0 rfl (Rm rfl)) (Z2 11 15 12 16 rfl (Ri xY zy rfl rfl)) (Z1 13 17 rfl (Rf RI rfl)) (X1 14 18 rfl fun hG=>Rg aD rfl (aH hG (hrow 2 _ rfl))) (aI ?_ (Z1 16 20 rfl (Rn rfl)) ?_ (cu rfl) (bC (cu rfl) (bC (cu rfl) dN))))))) ?_
 ·refine BI rfl fun _ a w G1 hG HT H fin=>?_;refine pV H wn rfl rfl ?_;clear H;intro a H;exact fin H iJ rfl
 ·refine eU 0 4 1 5 rfl rfl fun _ a w G1 hG HT H fin=>?_;refine s_call QV H wn rfl (UW _ _ H.ro k _ _ (by omega) (fun i hi=>(hcb.mono hG) i (by omega))) rfl ?_;clear H;rintro v6 G6 a w rfl lS H;exact fin H lS (rfl)
 ·refine eF 7 11 rfl rfl fun _ a w G1 hG HT H fin=>?_;refine s_call Yv H wn rfl (XI _ _ H.ro x.author hte) rfl ?_;clear H;rintro v12 yw a w ⟨rfl,-⟩ sG H;exact fin H sG (rfl)
 ·refine eF 9 13 rfl rfl fun _ a w G1 hG HT H fin=>?_;refine s_call jM H wn rfl (jO _ _ H.ro _ 39) rfl ?_;clear H;rintro v14 MR a w ⟨rfl,-⟩ NZ H;exact fin H NZ (rfl)
 ·refine eF 15 19 rfl rfl fun _ a w G1 hG HT H fin=>?_;refine s_call yK H wn rfl (ze _ _ H.ro x.time 0 1099511627776) rfl ?_;clear H;rintro v20 J3 a w ⟨rfl,-⟩ ahH H;exact fin H ahH (rfl)
 ·refine eF 17 21 rfl rfl fun _ a w G1 hG HT H fin=>?_;refine s_call jM H wn rfl (jO _ _ H.ro _ 40) rfl ?_;clear H;rintro v22 G22 a w ⟨rfl,-⟩ xE H;exact fin H xE (rfl)
 clear H;intro a w G rJ H hv;have H:=H.bg (hv 2 6 rfl rfl) rfl;have H:=H.bg (hv 10 14 rfl rfl) rfl;have H:=H.bg (hv 18 22 rfl rfl) rfl;clear hv;refine jy qz gZ [_,_,_] [_,_,_] H wn rfl rfl rfl rfl rfl (by intro i q h;match i,h with|0,h=>exact h|1,h=>exact h|2,h=>exact h|n+3,h=>simp at h) rfl rfl ?_;clear H;intro b23 a w apA H;obtain ⟨P9,GQ,ail,H⟩:=H.dW;refine s_call qZ H wn rfl (rz _ _ H.ro _ _ (Hl [kI (fun k=>(l[k]?.map dU.id).getD 0) k,bE (!pz x.author) 39,bE (!decide (0≤x.time∧x.time≤1099511627776)) 40] ail (show 3≤maxLen by decide))) rfl ?_;clear H;rintro v24 _ a w ⟨rfl,rfl⟩ - H;refine kH H (Ra rfl ?_);clear H;intro a H;refine aJ ⟨rfl,?_⟩;refine K2 _ _ ?_;clear K2;refine lr H results130 rfl ?_;exact H.rt (by rw [he,Mj])
def xq (l:List dU):Int:=bK [bE (decide (256 < (l.length:Int))) 9,iC (zo l) (min l.length 256)]
theorem aeJ (G:GH) (w0:World) (hG:Hold G w0) (l:List dU) (v:aj) (hv:aC G (.sl 3 (l.map dU.dat)) v) (hl:l.length≤4294967296) (ht:∀ x∈l,x.author.size < 4611686018427387904) :
  Calls prog 74 #[v] w0 (bY w0 G fun u G'=>u=vi (xq l)):=by
 obtain ⟨A,c,rfl,hc1,hc2,-⟩:=hv.slice;rw [bQ] at *;refine eN [(0,_)] func74 rfl ntmps74 rfl rfl hG ?_;intro a H;refine dh (fun _ K1=>?_);refine fB (cs:=[_]) H wn rfl rfl rfl ?_;clear H;intro b1 a w hb1 H;refine kH H (ak K1 rfl (SQ fun _ K2=>?_));clear H K1;intro a H;have H:=H.sub (T':=[(1,_)]) ⟨rfl,aB⟩;obtain ⟨Ga,hma,hb1',H⟩:=H.dW
 have hbl:aG Ga b1 0=some (.slice A l.length c):=by unfold aG;rw [hb1'];rfl
 have hcb:=amw hbl (hv.mono hma) hl ht;refine dI hmx [[],[0],[0,1],[0,1,2],[],[4],[4,5],[],(ra 0 8),(ra 0 9),(ra 0 10),(ra 0 11)] [9,10,11] (by kernel_rfl) [_,_,_,vi (bE (decide (256 < (l.length:Int))) 9),_,_,vi ((min l.length 256:Nat):Int),.func (.func 130) #[] #[(aQ b1 0)],vi (iC (zo l) (min l.length 256))] H (aI (X0 rfl fun hG=>Rg xW rfl (aH hG hbl)) (Z1 0 3 rfl (Rl xY rfl)) (Z1 1 4 rfl (Rc rfl)) ?_ (aI (X0 rfl fun hG=>Rg xW rfl (aH hG hbl)) (Z1 4 7 rfl (Rl xY rfl)) ?_ ?_ (aI ?_ (cu rfl) (cu rfl) (cu rfl) dN))) ?_
 ·refine eF 2 5 rfl rfl fun _ a w G1 hG HT H fin=>?_;refine s_call jM H wn rfl (jO _ _ H.ro _ 9) rfl ?_;clear H;rintro v6 G6 a w ⟨rfl,-⟩ lS H;exact fin H lS (rfl)
 ·refine eF 5 8 rfl rfl fun _ a w G1 hG HT H fin=>?_;refine Pw H wn rfl rfl rfl ?_;clear H;intro a H;exact fin H iJ (av vi (by omega))
 ·refine BI rfl fun _ a w G1 hG HT H fin=>?_;refine pV H wn rfl rfl ?_;clear H;intro a H;exact fin H iJ rfl
 ·refine eU 6 9 7 10 rfl rfl fun _ a w G1 hG HT H fin=>?_;refine s_call IJ H wn rfl (Ko _ _ H.ro (min l.length 256) (zo l) _ (by omega) ((hcb.mono hG).le (Nat.min_le_left _ _))) rfl ?_;clear H;rintro v11 zG a w rfl yQ H;exact fin H yQ (rfl)
 clear H;intro a w G rJ H hv;have H:=H.bg (hv 3 6 rfl rfl) rfl;have H:=H.bg (hv 8 11 rfl rfl) rfl;clear hv;refine jy qz gZ [_,_] [_,_] H wn rfl rfl rfl rfl rfl (by intro i q h;match i,h with|0,h=>exact h|1,h=>exact h|n+2,h=>simp at h) rfl rfl ?_;clear H;intro b12 a w EH H;obtain ⟨yw,xH,Gx,H⟩:=H.dW;refine s_call qZ H wn rfl (rz _ _ H.ro _ _ (Af Gx)) rfl ?_;clear H;rintro v13 _ a w ⟨rfl,rfl⟩ - H;refine kH H (Ra rfl ?_);clear H;intro a H;refine aJ ⟨rfl,?_⟩;refine K2 _ _ ?_;clear K2;refine lr H results74 rfl ?_;exact H.rt rfl
theorem oK:∀ {l:List Int},bK l=0→∀ x∈l,x=0
 | [],_,_,h=>by cases h
 | e :: r,h,x,hx=>by
  unfold bK at h
  by_cases he:e=0
  ·rw [ah (fun h'=>h' he)] at h
   rcases ow.1 hx with rfl|hx
   ·exact he
   exact oK h x hx
  rw [au he] at h;exact absurd h he
theorem XG {E:Nat→Int} {n:Nat} (h:iC E n=0) (i:Nat) (hi:i < n):E i=0:=oK h _ (by simp;exact ⟨i,hi,rfl⟩)
theorem aaC {id:Nat→Int} {i:Nat} (h:kI id i=0):1≤id i∧id i≤1073741824∧(0 < i→id (i - 1) < id i):=by
 unfold kI at h
 by_cases h1:1≤id i∧id i≤1073741824
 ·rw [ah (fun h'=>h' h1)] at h
  by_cases h2:0 < i∧id i=id (i - 1)
  ·rw [au h2] at h;cases h
  rw [ah h2] at h
  by_cases h3:0 < i∧id i < id (i - 1)
  ·rw [au h3] at h;cases h
  exact ⟨h1.1,h1.2,fun h0=>by omega⟩
 rw [au h1] at h;cases h
theorem aaD {l:List Int} (h:∀ i (h:i+1 < l.length),l[i] < l[i+1]):zF l:=by
 have hlt:∀ (j i:Nat) (hj:j < l.length) (hi:i < j),l[i] < l[j]:=by
  intro j
  induction j with
  | zero=>intro i _ hi;omega
  | succ j ih =>
   intro i hj hi;have h1:=h j hj
   by_cases e:i=j
   ·subst e;exact h1
   have:=ih i (by omega) (by omega);omega
 intro k hk hm;obtain ⟨i,hi,he⟩:=List.getElem_of_mem hm;rw [List.length_take] at hi;have:=hlt k i hk (by omega);rw [List.getElem_take] at he
 omega
theorem aby {l:List dU} (h:xq l=0):zF (l.map dU.id):=by
 have h1:=oK h _ (jB);have h2:=oK h _ (vR _ jB)
 have hl:l.length≤256:=by
  unfold bE at h1
  by_cases hd:256 < (l.length:Int)
  ·rw [au (aF hd)] at h1;cases h1
  omega
 refine aaD fun i hi=>?_;rw [bQ] at hi;have h3:=XG h2 (i+1) (by omega)
 unfold zo at h3
 rw [fP hi] at h3;have h4:=(aaC (oK h3 _ jB)).2.2 (by omega);rw [Nat.add_sub_cancel,fP hi,fP (show i < l.length by omega)] at h4
 simpa using h4
theorem aaP {l:List dM} (h:vT l=0):zF (l.map dM.id):=by
 have h1:=oK h _ (jB);have h2:=oK h _ (vR _ jB)
 have hl:l.length≤64:=by
  unfold bE at h1
  by_cases hd:64 < (l.length:Int)
  ·rw [au (aF hd)] at h1;cases h1
  omega
 refine aaD fun i hi=>?_;rw [bQ] at hi;have h3:=XG h2 (i+1) (by omega)
 unfold xM at h3
 have h4:=(aaC (oK h3 _ jB)).2.2 (by omega);rw [Nat.add_sub_cancel,fP hi,fP (show i < l.length by omega)] at h4
 simpa using h4
theorem Pz {l:List bL} (h:gH l=0):zF (l.map bL.id):=by
 unfold gH at h
 by_cases h1:128 < l.length
 ·rw [au h1] at h;cases h
 rw [ah h1] at h
 by_cases h2:tL (Br l) 0 l.length≠0
 ·rw [au h2] at h;exact absurd h h2
 intro k hk;rw [bQ] at hk;have:=abj (gu.1 h2) k hk;rw [← List.map_take,List.getElem_map];exact this
end
section
open Go.RowKit
theorem YJ:∀ args w,(callFunc 45 args).run prog w=.ok (.enter 45 args) w:=enters func45 rfl (by kernel_rfl)
theorem V9:Ty prog 36 4 96 [.slice none 0 0,.slice none 0 0,.slice none 0 0,.slice none 0 0] true:=⟨by kernel_rfl,by kernel_rfl⟩
theorem agL:∀ args w,(callFunc 73 args).run prog w=.ok (.enter 73 args) w:=enters func73 rfl (by kernel_rfl)
theorem agM:∀ args w,(callFunc 74 args).run prog w=.ok (.enter 74 args) w:=enters func74 rfl (by kernel_rfl)
theorem F9:dJ prog 38 1 1:=⟨by kernel_rfl⟩
theorem Cc (e:Int):bK [e]=e:=by
 by_cases h:e=0 <;> simp [bK,h]
structure qR where
 flow:List ay
 fin:jl
 revs:List dU
 iI:vM
structure BF (G:GH) (D:jT) (d:qR):Prop where
 fl:aC G (.sl 11 (d.flow.map ay.dat)) (bU D.f)
 hd:qC G d.fin (bU D.p) (bU D.d) (bU D.y)
 ins:D.ins=d.fin.marks.ins
 mv:D.move=d.fin.marks.move
 rv:aC G (.sl 3 (d.revs.map dU.dat)) (bU D.r)
 st:CW G d.iI (bU D.s1) (bU D.s2) (bU D.s3) (bU D.s4)
theorem CW.mono {G G':GH} (hm:∀ b o,G b=some o→G' b=some o) {s:vM} {a b c d:aj} (h:CW G s a b c d):CW G' s a b c d:=⟨h.st.mono hm,h.li.mono hm,h.cm.mono hm,h.va.mono hm⟩
theorem BF.mono {G G':GH} (hm:∀ b o,G b=some o→G' b=some o) {D:jT} {d:qR} (h:BF G D d):BF G' D d:=⟨h.fl.mono hm,h.hd.mono hm,h.ins,h.mv,h.rv.mono hm,h.st.mono hm⟩
structure Fw (d:qR):Prop where
 fl:bq d.flow≤1073741824
 hd:oV d.fin≤4294967296
 rn:d.revs.length≤4294967296
 rt:∀ x∈d.revs,x.author.size < 4611686018427387904
 sn:d.iI.styles.length≤4294967296
 st:Kl d.iI
abbrev qR.mJ (d:qR):dL:=aK [] d.iI.styles d.iI.lists d.revs
def rR (m:zJ):Bool:=decide ((m.ins≠0∨m.move≠0)∨0 < (m.bV.length:Int))
def jk (d:qR):Int:=bK [bK [jX d.iI,xq d.revs],bK [fK d.mJ 3 d.fin,bE (rR d.fin.marks) 21],(fq d.mJ true false 0 d.flow ⟨0,[]⟩).1,bE (decide (16384 < (fq d.mJ true false 0 d.flow ⟨0,[]⟩).2.n)) 9]
theorem aeM (G:GH) (w0:World) (hG:Hold G w0) (D:jT) (d:qR) (hR:BF G D d) (hz:Fw d) :
  Calls prog 27 #[D.val] w0 (bY w0 G fun u G'=>u=vi (jk d)):=by
 obtain ⟨df,dp,dd,dy,dr,d1,d2,d3,d4,ins,mv⟩:=D;obtain ⟨hfl,hhd,hin,hmv,nN,hst⟩:=hR;dsimp only at hfl hhd hin hmv nN hst;subst hin;subst hmv;obtain ⟨zf,zh,zr,zt,zs,zg⟩:=hz;have hdl:=hhd.bV.len;rw [bQ] at hdl
 have hdn:d.fin.marks.bV.length≤4294967296:=by
  have h1:=CK d.fin;have h2:=mP (d.fin.marks.bV.map nG.dat);rw [bQ] at h2;omega
 refine eN [(0,_)] func27 rfl ntmps27 rfl rfl hG ?_;intro a H;refine dh (fun _ K1=>?_);refine fB (cs:=[_,_,_,_,_,_,_,_,_,_,_]) H wn rfl rfl rfl ?_;clear H;intro b1 a w hb1 H;refine kH H (ak K1 rfl (SQ fun _ K2=>SQ fun _ K3=>?_));clear H K1;intro a H;refine dI hmx [[],[0],[0,1],[],[3],(ra 0 5),(ra 0 6),(ra 0 7),(ra 0 8)] [6,7,8] (by kernel_rfl) [_,.agg #[bU d1,bU d2,bU d3,bU d4],vi (jX d.iI),_,bU dr,vi (xq d.revs)] H (aI (Z0 rfl (Rf Dh rfl)) ?_ ?_ (Z0 rfl (Rf Dg rfl)) (aI (Z1 3 11 rfl (Ro xW 0 rfl)) ?_ (cu rfl) (cu rfl) (bC (cu rfl) dN))) ?_
 ·refine eF 0 8 rfl rfl fun _ a w G1 hG HT H fin=>?_;refine bP V9 (cs:=[_,_,_,_]) H wn rfl rfl (H.hp.gB 0 rfl rfl) rfl ?_;clear H;intro a H;exact fin H iJ rfl
 ·refine eF 1 9 rfl rfl fun _ a w G1 hG HT H fin=>?_;refine s_call agL H wn rfl (aeK _ _ H.ro d.iI _ _ _ _ (hst.mono hG) zg) rfl ?_;clear H;rintro v10 WH a w rfl rM H;exact fin H rM (rfl)
 ·refine eF 4 12 rfl rfl fun _ a w G1 hG HT H fin=>?_;refine s_call agM H wn rfl (aeJ _ _ H.ro d.revs _ (nN.mono hG) zr zt) rfl ?_;clear H;rintro v13 Ao a w rfl ahF H;exact fin H ahF (rfl)
 clear H;intro a w G rJ H hv;have H:=H.bg (hv 2 10 rfl rfl) rfl;have H:=H.bg (hv 5 13 rfl rfl) rfl;clear hv;refine jy qz gZ [_,_] [_,_] H wn rfl rfl rfl rfl rfl (by intro i q h;match i,h with|0,h=>exact h|1,h=>exact h|n+2,h=>simp at h) rfl rfl ?_;clear H;intro b14 a w Tq H;obtain ⟨MR,Bc,aif,H⟩:=H.dW;have hg1:=fun b o h=>Bc b o (rJ b o h);replace hfl:=hfl.mono hg1;replace hhd:=hhd.mono hg1;replace nN:=nN.mono hg1;replace hst:=hst.mono hg1;refine s_call qZ H wn rfl (rz _ _ H.ro _ _ (Af aif)) rfl ?_;clear H;rintro v15 _ a w ⟨rfl,rfl⟩ - H;refine kH H (Ra rfl ?_);clear H;intro a H;refine aJ ⟨rfl,?_⟩;refine K3 _ _ ?_;clear K3;refine kP H (SR fun _ K4=>Rm rfl (Rc rfl (Kz K4 (Cd rfl ?_ ?_)))) <;> clear H K4
 ·intro gK a H
  try have mo:=dT gK
  have hE:jk d=bK [jX d.iI,xq d.revs]:=by rw [jk,bK,au mo]
  exact kP H (SR fun _ K5=>Rm rfl (ak K5 rfl (LR results27 rfl fun H=>H.rt (by rw [hE]))))
 intro gK a H
 try have mo:=dF gK
 have e1:=gu.1 mo;have s1:=oK e1 _ jB;have s2:=oK e1 _ (vR _ jB);have t1:=oK s1 _ jB;have t2:=oK s1 _ (vR _ jB);refine fF ?_;refine K2 _ _ ?_;clear K2;refine dh (fun _ K6=>?_);refine bP lX (cs:=[_,_,_,_,_,_,_,_,_,_,_]) H wn rfl rfl (H.hp.gB 0 rfl rfl) rfl ?_;clear H;intro a H;refine gP YJ (Li:=[_]) (L:=[]) H wn rfl (abe _ _ (Hp.owns (Li:=[_]) H.hp) ⟨df,dp,dd,dy,dr,d1,d2,d3,d4,d.fin.marks.ins,d.fin.marks.move⟩ d.iI.styles d.iI.lists d.revs hst.st hst.li nN (Pz t1) (aaP t2) (aby s2) zs zg.ln zr) rfl ?_;clear H;rintro v20 J3 _ a w ⟨b,ms,ml,mr,mb,mu,rfl,rfl,hck⟩ Je H;dsimp only [lca,aO] at H;have H:=H.dB (Pl:=[_,_,_,_]) (cB:=[_,_,_,_]) [3,0,1,2] (by decide) rfl;obtain ⟨Gu,hmu,hu,H⟩:=H.dW;replace hck:=hck.with (us:=[]) hmu hu;replace hfl:=(hfl.mono Je).mono hmu;replace hhd:=(hhd.mono Je).mono hmu;refine kH H (ak K6 rfl (SR fun _ K7=>Rf F9 rfl (Rf zP rfl ?_)));clear H K6;intro a H;refine bP Ai (cs:=[_,_,_,_]) H wn rfl rfl (H.hp.gB 0 rfl rfl) rfl ?_;clear H;intro a H;refine eH Ai H wn rfl ?_;clear H;intro b5 a w hb5 H;refine bT Ai 0 (vs:=[_,_,_,_]) _ H wn rfl rfl rfl rfl rfl rfl rfl rfl ?_;clear H;intro w H;dsimp only [List.set,setRow] at H;refine K7 _ _ ?_;clear K7;refine aN (fun _ K8=>?_);refine aN (fun _ K9=>?_)
 by_cases c0:d.fin.marks.ins≠0
 ·skip;have c1:d.fin.marks.ins≠0∨d.fin.marks.move≠0:=Or.inl c0;refine dI hmx [[],[],[1],[0,1,2],[],[4],[4,5],(ra 0 7),(ra 0 8),(ra 0 9),(ra 0 10),(ra 0 11),(ra 0 12),(ra 0 13),(ra 0 14),(ra 0 15),(ra 0 16),(ra 0 17),(ra 0 18),(ra 0 19),(ra 0 20),(ra 0 21)] [19,20,21] (by kernel_rfl) [_,_,EI d.fin (bU dp) (bU dd) (bU dy),vi (fK d.mJ 3 d.fin),_,vi d.fin.marks.ins,_,_,undef,undef,undef,.bool (decide (d.fin.marks.ins≠0∨d.fin.marks.move≠0)),_,undef,undef,undef,undef,.bool (rR d.fin.marks),vi (bE (rR d.fin.marks) 21)] H (aI (Z0 rfl (Rm rfl)) (Z0 rfl (Rf F9 rfl)) ?_ ?_ (aI (Z0 rfl (Rf vW rfl)) (Z1 4 28 rfl (Ro aD 0 rfl)) (Z1 5 29 rfl (Rc rfl)) (Z1 6 30 rfl (Rm rfl)) (aI (aW (j:=7) (by kernel_rfl) (fun _ _ _ _ _ h=>h) rfl rfl rfl rfl rfl (fun _ _ h=>aY h (aL (aF c0))) rfl (fun _=>rfl)) (aW (j:=7) (by kernel_rfl) (fun _ _ _ _ _ h=>h) rfl rfl rfl rfl rfl (fun _ _ h=>aY h (aL (aF c0))) rfl (fun _=>rfl)) (aW (j:=7) (by kernel_rfl) (fun _ _ _ _ _ h=>h) rfl rfl rfl rfl rfl (fun _ _ h=>aY h (aL (aF c0))) rfl (fun _=>rfl)) ?_ (aI (Z1 11 35 rfl (Rm rfl)) (aW (j:=12) (by kernel_rfl) (fun _ _ _ _ _ h=>h) rfl rfl rfl rfl rfl (fun _ _ h=>aY h (aL (aF c1))) rfl (fun _=>rfl)) (aW (j:=12) (by kernel_rfl) (fun _ _ _ _ _ h=>h) rfl rfl rfl rfl rfl (fun _ _ h=>aY h (aL (aF c1))) rfl (fun _=>rfl)) (aW (j:=12) (by kernel_rfl) (fun _ _ _ _ _ h=>h) rfl rfl rfl rfl rfl (fun _ _ h=>aY h (aL (aF c1))) rfl (fun _=>rfl)) (aI (aW (j:=12) (by kernel_rfl) (fun _ _ _ _ _ h=>h) rfl rfl rfl rfl rfl (fun _ _ h=>aY h (aL (aF c1))) rfl (fun _=>rfl)) ?_ ?_ (cu rfl) (bC (cu rfl) (bC (cu rfl) dN))))))) ?_
  ·refine eF 1 25 rfl rfl fun _ a w G1 hG HT H fin=>?_;refine bP vC (cs:=[_,_,_,_,_]) H wn rfl rfl (H.hp.gB 1 rfl rfl) rfl ?_;clear H;intro a H;exact fin H iJ rfl
  ·refine eU 0 24 2 26 rfl rfl fun _ a w G1 hG HT H fin=>?_;refine gP IQ (Li:=[_,_]) (L:=gI b ms ml mr mb mu 0 :: (mb,fu []) :: []) H wn rfl (Jd _ _ _ d.iI.styles d.iI.lists d.revs b ms ml mr mb mu _ (hck.mono hG) (Hp.owns (Li:=[_,_]) H.hp) 3 d.fin _ _ _ (hhd.mono hG) zh) rfl ?_;clear H;rintro v27 _ _ a w ⟨rfl,rfl,rfl⟩ KV H;dsimp only [lca,aO] at H;exact fin H KV (rfl)
  ·refine eU 7 31 10 34 rfl rfl fun _ a w G1 hG HT H fin=>?_;refine kH H (Pt (aF c0) rfl ?_);clear H;intro a H;exact fin H iJ (by show _=_;first|exact aL (aF c1).symm|exact aL (by simp [c0]))
  ·refine eU 12 36 16 40 rfl rfl fun _ a w G1 hG HT H fin=>?_;refine kH H (Pt (aF c1) rfl ?_);clear H;intro a H;exact fin H iJ (by show _=_;first|exact aL (dQ (Or.inl c1)).symm|exact aL (by simp [rR,c1]))
  ·refine eF 17 41 rfl rfl fun _ a w G1 hG HT H fin=>?_;refine s_call jM H wn rfl (jO _ _ H.ro _ 21) rfl ?_;clear H;rintro v42 WO a w ⟨rfl,-⟩ KX H;exact fin H KX (rfl)
  clear H;intro a w G lS H hv;have H:=H.bg (hv 3 27 rfl rfl) rfl;have H:=H.bg (hv 18 42 rfl rfl) rfl;clear hv;refine jy qz gZ [_,_] [_,_] H wn rfl rfl rfl rfl rfl (by intro i q h;match i,h with|0,h=>exact h|1,h=>exact h|n+2,h=>simp at h) rfl rfl ?_;clear H;intro M7 a w Zx H;obtain ⟨Ap,nu,Lj,H⟩:=H.dW;have EJ:=fun b o h=>nu b o (lS b o h);replace hfl:=hfl.mono EJ;replace hck:=hck.mono EJ;refine s_call qZ H wn rfl (rz _ _ H.ro _ _ (Af Lj)) rfl ?_;clear H;rintro v44 _ a w ⟨rfl,rfl⟩ - H;refine kH H (Ra rfl ?_);clear H;intro a H;refine aJ ⟨rfl,?_⟩;refine K9 _ _ ?_;clear K9;refine kP H (SR fun _ aV=>Rm rfl (Rc rfl (Kz aV (Cd rfl ?_ ?_)))) <;> clear H aV
  ·intro h46 a H
   try have p46:=dT h46
   have hE:jk d=bK [fK d.mJ 3 d.fin,bE (rR d.fin.marks) 21]:=by rw [jk,bK,ah (by simpa using e1),bK,au p46]
   exact kP H (SR fun _ bF=>Rm rfl (ak bF rfl (LR results27 rfl fun H=>H.rt (by rw [hE]))))
  intro h46 a H
  try have p46:=dF h46
  have e2:=gu.1 p46;refine kP H (Kc K8 (SQ fun _ bG=>SR fun _ bM=>Rm rfl (aT BZ jJ 1 rfl rfl ?_)));clear H K8;intro a H;refine lJ Fb [_,_,_] H wn rfl rfl rfl rfl ?_;clear H;intro a H;refine gP IK (Li:=[_,_]) (L:=gI b ms ml mr mb mu 0 :: (mb,fu []) :: []) H wn rfl (LW 4294967297 (by omega) _ _ _ d.iI.styles d.iI.lists d.revs b ms ml mr mb mu ⟨0,[]⟩ d.flow _ true false 0 hck (Hp.owns (Li:=[_,_]) H.hp) hfl (by omega) (by omega) (by omega) (by decide) (by dsimp only;omega)) rfl ?_;clear H;rintro v52 _ _ a w ⟨rfl,s3,rfl,rfl,h3⟩ - H;dsimp only [lca,aO] at H;refine kH H (ak bM rfl (SR fun _ bN=>Rm rfl (Rc rfl (Kz bN (Cd rfl ?_ ?_))))) <;> clear H bM bN
  ·intro iG a H
   try have p54:=dT iG
   have hE:jk d=(fq d.mJ true false 0 d.flow ⟨0,[]⟩).1:=by rw [jk,bK,ah (by simpa using e1),bK,ah (by simpa using e2),bK,au p54]
   exact kP H (SR fun _ bW=>Rm rfl (ak bW rfl (LR results27 rfl fun H=>H.rt (by rw [hE]))))
  intro iG a H
  try have p54:=dF iG
  have e3:=gu.1 p54;have hs3:=h3 e3;subst hs3;refine kP H (Kc bG (SR fun _ cK=>Rm rfl (Rk rfl (aT Ey aD 2 rfl rfl (Rc rfl ?_)))));clear H bG;intro a H;refine s_call jM H wn rfl (jO _ _ H.ro _ 9) rfl ?_;clear H;rintro v61 _ a w ⟨rfl,rfl⟩ - H
  have hE:jk d=bE (decide (16384 < (fq d.mJ true false 0 d.flow ⟨0,[]⟩).2.n)) 9:=by rw [jk,bK,ah (by simpa using e1),bK,ah (by simpa using e2),bK,ah (by simpa using e3)];exact Cc _
  exact kH H (ak cK rfl (LR results27 rfl fun H=>H.rt (by rw [hE])))
 skip
 by_cases c1:d.fin.marks.ins≠0∨d.fin.marks.move≠0
 ·skip;refine dI hmx [[],[],[1],[0,1,2],[],[4],[4,5],(ra 0 7),(ra 0 8),(ra 0 9),(ra 0 10),(ra 0 11),(ra 0 12),(ra 0 13),(ra 0 14),(ra 0 15),(ra 0 16),(ra 0 17),(ra 0 18),(ra 0 19),(ra 0 20),(ra 0 21)] [19,20,21] (by kernel_rfl) [_,_,EI d.fin (bU dp) (bU dd) (bU dy),vi (fK d.mJ 3 d.fin),_,vi d.fin.marks.ins,_,_,_,vi d.fin.marks.move,_,.bool (decide (d.fin.marks.ins≠0∨d.fin.marks.move≠0)),_,undef,undef,undef,undef,.bool (rR d.fin.marks),vi (bE (rR d.fin.marks) 21)] H (aI (Z0 rfl (Rm rfl)) (Z0 rfl (Rf F9 rfl)) ?_ ?_ (aI (Z0 rfl (Rf vW rfl)) (Z1 4 28 rfl (Ro aD 0 rfl)) (Z1 5 29 rfl (Rc rfl)) (Z1 6 30 rfl (Rm rfl)) (aI (Z1 7 31 rfl (YF yM (aP c0) rfl)) (Z2 8 32 7 31 rfl (YO aD 0 (aP c0) rfl)) (Z2 9 33 7 31 rfl (YC (aP c0) rfl)) ?_ (aI (Z1 11 35 rfl (Rm rfl)) (aW (j:=12) (by kernel_rfl) (fun _ _ _ _ _ h=>h) rfl rfl rfl rfl rfl (fun _ _ h=>aY h (aL (aF c1))) rfl (fun _=>rfl)) (aW (j:=12) (by kernel_rfl) (fun _ _ _ _ _ h=>h) rfl rfl rfl rfl rfl (fun _ _ h=>aY h (aL (aF c1))) rfl (fun _=>rfl)) (aW (j:=12) (by kernel_rfl) (fun _ _ _ _ _ h=>h) rfl rfl rfl rfl rfl (fun _ _ h=>aY h (aL (aF c1))) rfl (fun _=>rfl)) (aI (aW (j:=12) (by kernel_rfl) (fun _ _ _ _ _ h=>h) rfl rfl rfl rfl rfl (fun _ _ h=>aY h (aL (aF c1))) rfl (fun _=>rfl)) ?_ ?_ (cu rfl) (bC (cu rfl) (bC (cu rfl) dN))))))) ?_
  ·refine eF 1 25 rfl rfl fun _ a w G1 hG HT H fin=>?_;refine bP vC (cs:=[_,_,_,_,_]) H wn rfl rfl (H.hp.gB 1 rfl rfl) rfl ?_;clear H;intro a H;exact fin H iJ rfl
  ·refine eU 0 24 2 26 rfl rfl fun _ a w G1 hG HT H fin=>?_;refine gP IQ (Li:=[_,_]) (L:=gI b ms ml mr mb mu 0 :: (mb,fu []) :: []) H wn rfl (Jd _ _ _ d.iI.styles d.iI.lists d.revs b ms ml mr mb mu _ (hck.mono hG) (Hp.owns (Li:=[_,_]) H.hp) 3 d.fin _ _ _ (hhd.mono hG) zh) rfl ?_;clear H;rintro v27 _ _ a w ⟨rfl,rfl,rfl⟩ KV H;dsimp only [lca,aO] at H;exact fin H KV (rfl)
  ·refine eU 7 31 10 34 rfl rfl fun _ a w G1 hG HT H fin=>?_;refine kH H (Pf (aP c0) rfl ?_);clear H;intro a H;exact fin H iJ (by show _=_;first|exact aL (aF c1).symm|exact aL (by simp [c0]))
  ·refine eU 12 36 16 40 rfl rfl fun _ a w G1 hG HT H fin=>?_;refine kH H (Pt (aF c1) rfl ?_);clear H;intro a H;exact fin H iJ (by show _=_;first|exact aL (dQ (Or.inl c1)).symm|exact aL (by simp [rR,c1]))
  ·refine eF 17 41 rfl rfl fun _ a w G1 hG HT H fin=>?_;refine s_call jM H wn rfl (jO _ _ H.ro _ 21) rfl ?_;clear H;rintro v42 WO a w ⟨rfl,-⟩ KX H;exact fin H KX (rfl)
  clear H;intro a w G lS H hv;have H:=H.bg (hv 3 27 rfl rfl) rfl;have H:=H.bg (hv 18 42 rfl rfl) rfl;clear hv;refine jy qz gZ [_,_] [_,_] H wn rfl rfl rfl rfl rfl (by intro i q h;match i,h with|0,h=>exact h|1,h=>exact h|n+2,h=>simp at h) rfl rfl ?_;clear H;intro M7 a w Zx H;obtain ⟨Ap,nu,Lj,H⟩:=H.dW;have EJ:=fun b o h=>nu b o (lS b o h);replace hfl:=hfl.mono EJ;replace hck:=hck.mono EJ;refine s_call qZ H wn rfl (rz _ _ H.ro _ _ (Af Lj)) rfl ?_;clear H;rintro v44 _ a w ⟨rfl,rfl⟩ - H;refine kH H (Ra rfl ?_);clear H;intro a H;refine aJ ⟨rfl,?_⟩;refine K9 _ _ ?_;clear K9;refine kP H (SR fun _ bS=>Rm rfl (Rc rfl (Kz bS (Cd rfl ?_ ?_)))) <;> clear H bS
  ·intro h46 a H
   try have p46:=dT h46
   have hE:jk d=bK [fK d.mJ 3 d.fin,bE (rR d.fin.marks) 21]:=by rw [jk,bK,ah (by simpa using e1),bK,au p46]
   exact kP H (SR fun _ dD=>Rm rfl (ak dD rfl (LR results27 rfl fun H=>H.rt (by rw [hE]))))
  intro h46 a H
  try have p46:=dF h46
  have e2:=gu.1 p46;refine kP H (Kc K8 (SQ fun _ dO=>SR fun _ dK=>Rm rfl (aT BZ jJ 1 rfl rfl ?_)));clear H K8;intro a H;refine lJ Fb [_,_,_] H wn rfl rfl rfl rfl ?_;clear H;intro a H;refine gP IK (Li:=[_,_]) (L:=gI b ms ml mr mb mu 0 :: (mb,fu []) :: []) H wn rfl (LW 4294967297 (by omega) _ _ _ d.iI.styles d.iI.lists d.revs b ms ml mr mb mu ⟨0,[]⟩ d.flow _ true false 0 hck (Hp.owns (Li:=[_,_]) H.hp) hfl (by omega) (by omega) (by omega) (by decide) (by dsimp only;omega)) rfl ?_;clear H;rintro v52 _ _ a w ⟨rfl,s3,rfl,rfl,h3⟩ - H;dsimp only [lca,aO] at H;refine kH H (ak dK rfl (SR fun _ dS=>Rm rfl (Rc rfl (Kz dS (Cd rfl ?_ ?_))))) <;> clear H dK dS
  ·intro iG a H
   try have p54:=dT iG
   have hE:jk d=(fq d.mJ true false 0 d.flow ⟨0,[]⟩).1:=by rw [jk,bK,ah (by simpa using e1),bK,ah (by simpa using e2),bK,au p54]
   exact kP H (SR fun _ eP=>Rm rfl (ak eP rfl (LR results27 rfl fun H=>H.rt (by rw [hE]))))
  intro iG a H
  try have p54:=dF iG
  have e3:=gu.1 p54;have hs3:=h3 e3;subst hs3;refine kP H (Kc dO (SR fun _ gG=>Rm rfl (Rk rfl (aT Ey aD 2 rfl rfl (Rc rfl ?_)))));clear H dO;intro a H;refine s_call jM H wn rfl (jO _ _ H.ro _ 9) rfl ?_;clear H;rintro v61 _ a w ⟨rfl,rfl⟩ - H
  have hE:jk d=bE (decide (16384 < (fq d.mJ true false 0 d.flow ⟨0,[]⟩).2.n)) 9:=by rw [jk,bK,ah (by simpa using e1),bK,ah (by simpa using e2),bK,ah (by simpa using e3)];exact Cc _
  exact kH H (ak gG rfl (LR results27 rfl fun H=>H.rt (by rw [hE])))
 skip;refine dI hmx [[],[],[1],[0,1,2],[],[4],[4,5],(ra 0 7),(ra 0 8),(ra 0 9),(ra 0 10),(ra 0 11),(ra 0 12),(ra 0 13),(ra 0 14),(ra 0 15),(ra 0 16),(ra 0 17),(ra 0 18),(ra 0 19),(ra 0 20),(ra 0 21)] [19,20,21] (by kernel_rfl) [_,_,EI d.fin (bU dp) (bU dd) (bU dy),vi (fK d.mJ 3 d.fin),_,vi d.fin.marks.ins,_,_,_,vi d.fin.marks.move,_,.bool (decide (d.fin.marks.ins≠0∨d.fin.marks.move≠0)),_,_,bU dd,vi d.fin.marks.bV.length,_,.bool (rR d.fin.marks),vi (bE (rR d.fin.marks) 21)] H (aI (Z0 rfl (Rm rfl)) (Z0 rfl (Rf F9 rfl)) ?_ ?_ (aI (Z0 rfl (Rf vW rfl)) (Z1 4 28 rfl (Ro aD 0 rfl)) (Z1 5 29 rfl (Rc rfl)) (Z1 6 30 rfl (Rm rfl)) (aI (Z1 7 31 rfl (YF yM (aP c0) rfl)) (Z2 8 32 7 31 rfl (YO aD 0 (aP c0) rfl)) (Z2 9 33 7 31 rfl (YC (aP c0) rfl)) ?_ (aI (Z1 11 35 rfl (Rm rfl)) (Z1 12 36 rfl (YF mY (aP c1) rfl)) (Z2 13 37 12 36 rfl (YO nC 0 (aP c1) rfl)) ?_ (aI (Z2 15 39 12 36 rfl (YC (aP c1) rfl)) ?_ ?_ (cu rfl) (bC (cu rfl) (bC (cu rfl) dN))))))) ?_
 ·refine eF 1 25 rfl rfl fun _ a w G1 hG HT H fin=>?_;refine bP vC (cs:=[_,_,_,_,_]) H wn rfl rfl (H.hp.gB 1 rfl rfl) rfl ?_;clear H;intro a H;exact fin H iJ rfl
 ·refine eU 0 24 2 26 rfl rfl fun _ a w G1 hG HT H fin=>?_;refine gP IQ (Li:=[_,_]) (L:=gI b ms ml mr mb mu 0 :: (mb,fu []) :: []) H wn rfl (Jd _ _ _ d.iI.styles d.iI.lists d.revs b ms ml mr mb mu _ (hck.mono hG) (Hp.owns (Li:=[_,_]) H.hp) 3 d.fin _ _ _ (hhd.mono hG) zh) rfl ?_;clear H;rintro v27 _ _ a w ⟨rfl,rfl,rfl⟩ KV H;dsimp only [lca,aO] at H;exact fin H KV (rfl)
 ·refine eU 7 31 10 34 rfl rfl fun _ a w G1 hG HT H fin=>?_;refine kH H (Pf (aP c0) rfl ?_);clear H;intro a H;exact fin H iJ (by show _=_;first|exact aL (aF c1).symm|exact aL (by simp [c0]))
 ·refine eU 14 38 12 36 rfl rfl fun _ a w G1 hG HT H fin=>?_;refine kH H (YL mQ (aP c1) rfl ?_);clear H;intro a H;exact fin H iJ (by show _=_;first|rfl|exact av (fun n:Nat=>vi n) hdl)
 ·refine eU 12 36 16 40 rfl rfl fun _ a w G1 hG HT H fin=>?_;refine kH H (Pf (aP c1) rfl ?_);clear H;intro a H;exact fin H iJ (by show _=_;first|exact aL (dQ (Or.inl c1)).symm|exact aL (by simp [rR,c1]))
 ·refine eF 17 41 rfl rfl fun _ a w G1 hG HT H fin=>?_;refine s_call jM H wn rfl (jO _ _ H.ro _ 21) rfl ?_;clear H;rintro v42 WO a w ⟨rfl,-⟩ KX H;exact fin H KX (rfl)
 clear H;intro a w G lS H hv;have H:=H.bg (hv 3 27 rfl rfl) rfl;have H:=H.bg (hv 18 42 rfl rfl) rfl;clear hv;refine jy qz gZ [_,_] [_,_] H wn rfl rfl rfl rfl rfl (by intro i q h;match i,h with|0,h=>exact h|1,h=>exact h|n+2,h=>simp at h) rfl rfl ?_;clear H;intro M7 a w Zx H;obtain ⟨Ap,nu,Lj,H⟩:=H.dW;have EJ:=fun b o h=>nu b o (lS b o h);replace hfl:=hfl.mono EJ;replace hck:=hck.mono EJ;refine s_call qZ H wn rfl (rz _ _ H.ro _ _ (Af Lj)) rfl ?_;clear H;rintro v44 _ a w ⟨rfl,rfl⟩ - H;refine kH H (Ra rfl ?_);clear H;intro a H;refine aJ ⟨rfl,?_⟩;refine K9 _ _ ?_;clear K9;refine kP H (SR fun _ gT=>Rm rfl (Rc rfl (Kz gT (Cd rfl ?_ ?_)))) <;> clear H gT
 ·intro h46 a H
  try have p46:=dT h46
  have hE:jk d=bK [fK d.mJ 3 d.fin,bE (rR d.fin.marks) 21]:=by rw [jk,bK,ah (by simpa using e1),bK,au p46]
  exact kP H (SR fun _ gM=>Rm rfl (ak gM rfl (LR results27 rfl fun H=>H.rt (by rw [hE]))))
 intro h46 a H
 try have p46:=dF h46
 have e2:=gu.1 p46;refine kP H (Kc K8 (SQ fun _ jf=>SR fun _ jq=>Rm rfl (aT BZ jJ 1 rfl rfl ?_)));clear H K8;intro a H;refine lJ Fb [_,_,_] H wn rfl rfl rfl rfl ?_;clear H;intro a H;refine gP IK (Li:=[_,_]) (L:=gI b ms ml mr mb mu 0 :: (mb,fu []) :: []) H wn rfl (LW 4294967297 (by omega) _ _ _ d.iI.styles d.iI.lists d.revs b ms ml mr mb mu ⟨0,[]⟩ d.flow _ true false 0 hck (Hp.owns (Li:=[_,_]) H.hp) hfl (by omega) (by omega) (by omega) (by decide) (by dsimp only;omega)) rfl ?_;clear H;rintro v52 _ _ a w ⟨rfl,s3,rfl,rfl,h3⟩ - H;dsimp only [lca,aO] at H;refine kH H (ak jq rfl (SR fun _ iQ=>Rm rfl (Rc rfl (Kz iQ (Cd rfl ?_ ?_))))) <;> clear H jq iQ
 ·intro iG a H
  try have p54:=dT iG
  have hE:jk d=(fq d.mJ true false 0 d.flow ⟨0,[]⟩).1:=by rw [jk,bK,ah (by simpa using e1),bK,ah (by simpa using e2),bK,au p54]
  exact kP H (SR fun _ kT=>Rm rfl (ak kT rfl (LR results27 rfl fun H=>H.rt (by rw [hE]))))
 intro iG a H
 try have p54:=dF iG
 have e3:=gu.1 p54;have hs3:=h3 e3;subst hs3;refine kP H (Kc jf (SR fun _ kU=>Rm rfl (Rk rfl (aT Ey aD 2 rfl rfl (Rc rfl ?_)))));clear H jf;intro a H;refine s_call jM H wn rfl (jO _ _ H.ro _ 9) rfl ?_;clear H;rintro v61 _ a w ⟨rfl,rfl⟩ - H
 have hE:jk d=bE (decide (16384 < (fq d.mJ true false 0 d.flow ⟨0,[]⟩).2.n)) 9:=by rw [jk,bK,ah (by simpa using e1),bK,ah (by simpa using e2),bK,ah (by simpa using e3)];exact Cc _
 exact kH H (ak kU rfl (LR results27 rfl fun H=>H.rt (by rw [hE])))
end
section
open Go.RowKit
section
variable {N:Nat} {D:List Deferred} {w0:World} {F:Nat→Prop} {G0 G:GH} {L:OL} {T:List (Nat × aj)}
variable {r:Option Nat} {P:Program} {ops:Array Oper} {Q:Exit→Act→World→Prop} {rest:List Oper} {a:Act} {w:World}
variable {d:Nat} {ty:TypeId} {pos:String} {aR:Array Edge} {g:Option (Nat × Bool)}
end
end
section
open Go.RowKit
def aaM:Go.Shelf.Ren:=⟨fun|7=>59|10=>111|n=>n,fun|0=>0|3=>4|4=>4|23=>96|26=>3|27=>118|28=>119|33=>172|n=>n,fun n=>n⟩
theorem aaL:Go.Proofs.SlLaysZI.n7 prog aaM where
 mixed:=by kernel_rfl
 f7:=⟨f59.name,by kernel_rfl,func59.trans (av some (by kernel_rfl))⟩
 f10:=⟨f111.name,by kernel_rfl,func111.trans (av some (by kernel_rfl))⟩
 t0:=underlying0
 a0:=isAgg0
 z0:=sizeOf0
 v0:=zeroValue0
 t4:=underlying4
 a4:=isAgg4
 z4:=sizeOf4
 v4:=zeroValue4
 t23:=underlying96
 a23:=isAgg96
 z23:=sizeOf96
 v23:=zeroValue96
 t26:=underlying3
 a26:=isAgg3
 z26:=sizeOf3
 v26:=zeroValue3
 t27:=underlying118
 a27:=isAgg118
 z27:=sizeOf118
 v27:=zeroValue118
 t28:=underlying119
 a28:=isAgg119
 z28:=sizeOf119
 v28:=zeroValue119
 t33:=underlying172
 a33:=isAgg172
 z33:=sizeOf172
 v33:=zeroValue172
def abT:Go.Shelf.Ren:=⟨fun|6=>58|8=>109|9=>110|11=>165|n=>n,fun|0=>0|24=>52|26=>3|28=>119|33=>172|n=>n,fun n=>n⟩
theorem anE:Go.Proofs.SlLaysZI.n6 prog abT where
 mixed:=by kernel_rfl
 f6:=⟨f58.name,by kernel_rfl,func58.trans (av some (by kernel_rfl))⟩
 f8:=⟨f109.name,by kernel_rfl,func109.trans (av some (by kernel_rfl))⟩
 f11:=⟨f165.name,by kernel_rfl,func165.trans (av some (by kernel_rfl))⟩
 t0:=underlying0
 a0:=isAgg0
 z0:=sizeOf0
 v0:=zeroValue0
 t24:=underlying52
 a24:=isAgg52
 z24:=sizeOf52
 v24:=zeroValue52
 t26:=underlying3
 a26:=isAgg3
 z26:=sizeOf3
 v26:=zeroValue3
 t28:=underlying119
 a28:=isAgg119
 z28:=sizeOf119
 v28:=zeroValue119
 i26:=by kernel_rfl
def anD:Go.Shelf.Ren:=⟨fun|5=>110|7=>166|8=>167|10=>207|11=>208|12=>209|13=>210|14=>211|15=>212|16=>118|17=>213|18=>214|19=>215|20=>216|30=>228|31=>229|32=>230|33=>231|34=>232|35=>173|40=>237|n=>n,fun|0=>0|3=>3|4=>4|5=>5|9=>9|22=>52|23=>52|25=>3|32=>65|35=>268|36=>269|41=>128|44=>275|46=>62|53=>293|57=>79|63=>302|64=>303|n=>n,fun n=>n⟩
theorem abS:Go.Proofs.SlLaysM.n5 prog anD where
 mixed:=by kernel_rfl
 f5:=⟨f110.name,by kernel_rfl,func110.trans (av some (by kernel_rfl))⟩
 f7:=⟨f166.name,by kernel_rfl,func166.trans (av some (by kernel_rfl))⟩
 f8:=func167.trans (av some (by kernel_rfl))
 f10:=⟨f207.name,by kernel_rfl,func207.trans (av some (by kernel_rfl))⟩
 f11:=⟨f208.name,by kernel_rfl,func208.trans (av some (by kernel_rfl))⟩
 f12:=⟨f209.name,by kernel_rfl,func209.trans (av some (by kernel_rfl))⟩
 f13:=⟨f210.name,by kernel_rfl,func210.trans (av some (by kernel_rfl))⟩
 f14:=⟨f211.name,by kernel_rfl,func211.trans (av some (by kernel_rfl))⟩
 f15:=⟨f212.name,by kernel_rfl,func212.trans (av some (by kernel_rfl))⟩
 f16:=⟨f118.name,by kernel_rfl,func118.trans (av some (by kernel_rfl))⟩
 f17:=⟨f213.name,by kernel_rfl,func213.trans (av some (by kernel_rfl))⟩
 f18:=⟨f214.name,by kernel_rfl,func214.trans (av some (by kernel_rfl))⟩
 f19:=func215.trans (av some (by kernel_rfl))
 f20:=func216.trans (av some (by kernel_rfl))
 f30:=⟨f228.name,by kernel_rfl,func228.trans (av some (by kernel_rfl))⟩
 f31:=func229.trans (av some (by kernel_rfl))
 f32:=func230.trans (av some (by kernel_rfl))
 f33:=⟨f231.name,by kernel_rfl,func231.trans (av some (by kernel_rfl))⟩
 f34:=⟨f232.name,by kernel_rfl,func232.trans (av some (by kernel_rfl))⟩
 f35:=⟨f173.name,by kernel_rfl,func173.trans (av some (by kernel_rfl))⟩
 f40:=⟨f237.name,by kernel_rfl,func237.trans (av some (by kernel_rfl))⟩
 t0:=underlying0
 a0:=isAgg0
 z0:=sizeOf0
 v0:=zeroValue0
 t3:=underlying3
 a3:=isAgg3
 z3:=sizeOf3
 v3:=zeroValue3
 t4:=underlying4
 a4:=isAgg4
 z4:=sizeOf4
 v4:=zeroValue4
 t5:=underlying5
 a5:=isAgg5
 z5:=sizeOf5
 v5:=zeroValue5
 t9:=underlying9
 a9:=isAgg9
 z9:=sizeOf9
 v9:=zeroValue9
 t22:=underlying52
 a22:=isAgg52
 z22:=sizeOf52
 v22:=zeroValue52
 t23:=underlying52
 a23:=isAgg52
 z23:=sizeOf52
 v23:=zeroValue52
 t25:=underlying3
 a25:=isAgg3
 z25:=sizeOf3
 v25:=zeroValue3
 t32:=underlying65
 a32:=isAgg65
 z32:=sizeOf65
 v32:=zeroValue65
 t35:=underlying268
 a35:=isAgg268
 z35:=sizeOf268
 v35:=zeroValue268
 t36:=underlying269
 a36:=isAgg269
 z36:=sizeOf269
 v36:=zeroValue269
 t41:=underlying128
 a41:=isAgg128
 z41:=sizeOf128
 v41:=zeroValue128
 t44:=underlying275
 a44:=isAgg275
 z44:=sizeOf275
 v44:=zeroValue275
 t46:=underlying62
 a46:=isAgg62
 z46:=sizeOf62
 v46:=zeroValue62
 t53:=underlying293
 a53:=isAgg293
 z53:=sizeOf293
 v53:=zeroValue293
 t57:=underlying79
 a57:=isAgg79
 z57:=sizeOf79
 v57:=zeroValue79
 t63:=underlying302
 a63:=isAgg302
 z63:=sizeOf302
 v63:=zeroValue302
 t64:=underlying303
 a64:=isAgg303
 z64:=sizeOf303
 v64:=zeroValue303
end
section
open Go.RowKit Go.Maps
theorem afq:∀ args w,(callFunc 110 args).run prog w=.ok (.enter 110 args) w:=enters func110 rfl (by kernel_rfl)
theorem afr:∀ args w,(callFunc 111 args).run prog w=.ok (.enter 111 args) w:=enters func111 rfl (by kernel_rfl)
theorem ajn {G:GH} {w:World} (h:Hold G w) {b:Nat} (hb:w.heap.size≤b):G b=none:=by
 cases hg:G b with
 | none=>rfl
 | some o=>exact absurd (lt_of_heap (h b o hg)) (by omega)
theorem YX {G:GH} {w w':World} (h:Hold G w) (hb:Below w.heap.size w w') {b:Nat} {o:Obj} (hn:w.heap.size≤b) (ho:w'.heap[b]?=some o):Ext w.heap.size G (G.add b o) w':=by
 refine ⟨fun k o' hk=>GH.FT G (ajn h hn) k o' hk,fun k o' hk=>?_,fun k o' hk=>?_⟩
 ·unfold GH.add at hk
  split at hk
  ·rename_i e;exact .inr (e ▸ hn)
  exact .inl hk
 unfold GH.add at hk
 split at hk
 ·rename_i e;rw [e,ho,hk]
 exact (hb.block k (lt_of_heap (h k o' hk))).trans (h k o' hk)
theorem alh (G:GH) (w0:World) (hG:Hold G w0) (mb:Option Nat) :
  Calls prog 59 #[.map mb] w0 (bY w0 G fun u G'=>∃ bx,u=.func (.func 111) #[] #[(aQ bx 0)]∧G' bx=some (.cells #[.map mb] 96 (0,0))):=by
 have h:CallsIn Fence.wide 5 prog 59 #[.map mb] w0 fun e w'=>e=.returned (.func (.func 111) #[] #[(aQ w0.heap.size 0)])∧w'=w0.alloc (.cells #[.map mb] 96):=AnyZI.keys_in aaL Fence.wide 5 trivial rfl mb w0;refine ((callsIn_wide (n:=5)).1 h).mono ?_;rintro e w' ⟨rfl,rfl⟩;have hb:Below w0.heap.size w0 (w0.alloc (.cells #[.map mb] 96)):=(Below.refl _ w0).alloc (dw _) _;exact ⟨_,_,rfl,hb,YX hG hb (dw _) (show (w0.heap.push _)[w0.heap.size]?=_ by simp),_,rfl,GH.FU _ _ _⟩
def H7 (_:aj):Option (DataW Unit × List MemPlace):=some (.nil,[])
theorem alD {w:World} {b clock:Nat} {es:Array MapEntry} {l:List Int} (hb:w.heap[b]?=some (.map es clock)) (hs:MapKept.Stamped es clock) (hk:es.toList.map (·.key)=l.map (Value.int .i64)) (hw:∀ k∈l,-9223372036854775808≤k∧k < 9223372036854775808) (hl:l.length≤4294967296) :
  ∃ D:DataW Unit,w.ownsMap prog 3 H7 b l.length D∧(intKeys D).Perm l∧Maps.size D=l.length:=by
 have hlen:es.size=l.length:=by
  have:=av List.length hk
  simpa using this
 have hml:maxLen=9223372036854775807:=rfl
 have hr:∀ x∈es.toList,∃ k∈l,Go.WideElems.rd prog 3 H7 x=some (.int .i64 k,.nil):=by
  intro x hx
  have h1:x.key∈l.map (Value.int .i64):=by rw [← hk];exact List.mem_map_of_mem hx
  obtain ⟨k,h2,h3⟩:=List.mem_map.1 h1;obtain ⟨h4,h5⟩:=hw k h2
  have hwf:(Lit.int .i64 k).wf=true:=by
   show (decide (IntKind.i64.min≤k) && decide (k≤IntKind.i64.max))=true
   rw [show IntKind.i64.min=-9223372036854775808 by decide,show IntKind.i64.max=9223372036854775807 by decide]
   simp;omega
  refine ⟨k,h2,?_⟩
  unfold Go.WideElems.rd
  rw [← h3]
  have h6:keyOf prog 3 (.int .i64 k)=some (.int .i64 k):=by
   unfold keyOf mapKey
   rw [underlying3]
   simp [hwf]
  rw [h6]
  rfl
 refine ⟨_,⟨es,clock,hb,⟨by omega,hs,fun x hx=>?_⟩,by omega,rfl⟩,?_,?_⟩
 ·obtain ⟨k,-,h⟩:=hr x hx;exact ⟨_,h⟩
 ·show (((es.toList.map (Go.WideElems.rg prog 3 H7)).foldr DataW.insert []).map fun p=>Go.intOf p.1).Perm l
  refine ((Go.WideShapes.sorted_perm _).map _).trans ?_;rw [List.map_map]
  have h1:es.toList.map ((fun p:Lit × DataW Unit=>Go.intOf p.1) ∘ Go.WideElems.rg prog 3 H7)=l:=by
   have h2:es.toList.map ((fun p:Lit × DataW Unit=>Go.intOf p.1) ∘ Go.WideElems.rg prog 3 H7)=(es.toList.map (·.key)).map fun v=>match v with|.int _ a=>a|_=>0:=by
    rw [List.map_map];refine List.map_congr_left fun x hx=>?_;obtain ⟨k,hkl,h⟩:=hr x hx
    obtain ⟨k',h3,h4⟩:∃ k',Go.WideElems.rd prog 3 H7 x=some (.int .i64 k',.nil)∧x.key=.int .i64 k':=by
     have h5:x.key∈l.map (Value.int .i64):=by rw [← hk];exact List.mem_map_of_mem hx
     obtain ⟨k',h6,h7⟩:=List.mem_map.1 h5;refine ⟨k,h,?_⟩;have h8:=Go.WideElems.rd_key h;obtain ⟨z,h9,h10,-⟩:=Maps.keyOf_i64 underlying3 h8
     cases h10
     exact h9
    simp only [Function.comp,Go.WideElems.rg_of h3,h4,Go.intOf]
   rw [h2,hk,List.map_map]
   simp [Function.comp_def]
  rw [h1]
 show ((es.toList.map (Go.WideElems.rg prog 3 H7)).foldr DataW.insert []).length=_
 rw [(Go.WideShapes.sorted_perm _).length_eq,bQ,yD,hlen]
theorem anI (m:Nat):AnyZI.SortsIn prog abT Fence.wide m :=
  ⟨fun blk off cap ss W hH hblk hsz=>callsIn_wide.2 (AnyM.slices_Sort_int abS blk off cap ss W hH hblk hsz),
   fun p cap W=>callsIn_wide.2 (AnyM.slices_Sort_int_none abS p cap W)⟩
def rW (l:List Int):List Int:=l.mergeSort leI
theorem anH (G:GH) (w0:World) (hG:Hold G w0) (b bx clock:Nat) (es:Array MapEntry) (l:List Int) (hbx:G bx=some (.cells #[.map (some b)] 96 (0,0))) (hb:w0.heap[b]?=some (.map es clock)) (hs:MapKept.Stamped es clock) (hk:es.toList.map (·.key)=l.map (Value.int .i64))
  (hw:∀ k∈l,-9223372036854775808≤k∧k < 9223372036854775808) (hl:l.length≤4294967296) :
  Calls prog 58 #[.func (.func 111) #[] #[(aQ bx 0)]] w0 (bY w0 G fun u G'=>aC G' (.sl 1 ((rW l).map fun k=>[li k])) u):=by
 obtain ⟨D0,hown,hperm,hsize⟩:=alD hb hs hk hw hl;have hml:maxLen=9223372036854775807:=rfl
 have hseq:SeqGives Fence.wide 2 prog 111 #[(aQ bx 0)] encZ (fun ss=>ss.Perm (intKeys D0)) (Maps.size D0) w0 :=
  AnyZI.keys_gives (ρ:=aaM) { aaL with } Fence.wide _ trivial rfl (by omega) bx b l.length D0 _ (lt_of_heap (hG _ _ hbx)) (by simp [World.cell?,hG _ _ hbx]) hown
 have cS:=AnyZI.sorted_in anE Fence.wide 5 trivial trivial trivial trivial rfl (by omega) (anI _) afq 111 #[(aQ bx 0)] trivial afr _ _ (by omega) (by omega) _ hseq
 change CallsIn _ _ prog 58 _ _ _ at cS
 refine ((callsIn_wide (n:=5)).1 cS).mono ?_;rintro e w' ⟨v,ss,rfl,hS,hrow,-,hbel⟩;have hS2:ss.mergeSort (fun x y=>decide (x≤y))=rW l:=mergeSort_of_perm_i (hS.trans hperm);rw [hS2] at hrow
 have hlen:ss.length=(rW l).length:=by rw [rW,List.length_mergeSort,hS.length_eq,hperm.length_eq]
 have rO:∀ (G1:GH) (xs:List Int),ig G1 1 (xs.map fun k=>[li k]) (xs.map encZ):=by
  intro G1 xs
  induction xs with
  | nil=>exact ig.nil
  | cons x xs ih =>
   have h8:=((ig.nil (G:=G1) (sz:=1)).snoc (q:=[li x]) (cs:=[encZ x]) (by simp [bJ,aC,li,Value.oneCell']) rfl).append ih
   simpa using h8
 rcases hrow.2 with ⟨rfl,hz⟩|⟨gb,cap,cur,rfl,hbase,hgb,r1,r2,r3,r4⟩
 ·refine ⟨_,G,rfl,hbel,⟨fun _ _ h=>h,fun _ _ h=>.inl h,fun k o hk=>(hbel.block k (lt_of_heap (hG k o hk))).trans (hG k o hk)⟩,?_⟩;rw [List.eq_nil_of_length_eq_zero (by omega:(rW l).length=0)]
  simp only [aC]
  exact ⟨none,0,by simp,by simp,by simp [maxLen],fun h=>absurd rfl h⟩
 exact ⟨_,_,rfl,hbel,YX hG hbel hbase hgb,aC.eZ (GH.FU G gb _) (by simp [hlen]) r1 r2 (by simpa using r4) (rO _ _)⟩
end
section
open Go.RowKit
theorem QU:∀ args w,(callFunc 107 args).run prog w=.ok (.enter 107 args) w:=enters func107 rfl (by kernel_rfl)
mutual
/-- The ids in items, in document order. -/
def DC:ay→List Int
 | .mk k _ i _ _ f r=>(if k=6∨k=7 then [i] else [])++((if k=6 then gF f else [])++(if k=7 then wH r else []))
def gF:List ay→List Int
 | []=>[]
 | x :: r=>DC x++gF r
def DF:bH→List Int
 | .mk _ c=>xK c
def wH:List bH→List Int
 | []=>[]
 | x :: r=>DF x++wH r
def Dz:bD→List Int
 | .mk i _ f=>i :: gF f
def xK:List bD→List Int
 | []=>[]
 | x :: r=>Dz x++xK r
end
theorem aau (x:ay):DC x=(if x.kind=6∨x.kind=7 then [x.id] else [])++((if x.kind=6 then gF x.flow else [])++(if x.kind=7 then wH x.rows else [])):=by cases x;rw [DC];rfl
theorem aav (x:bH):DF x=xK x.cells:=by cases x;rw [DF];rfl
theorem aat (x:bD):Dz x=x.id :: gF x.flow:=by cases x;rw [Dz];rfl
def Cm (i:Int):AP:=fun args _=>args=[vi i]
def Qx (n:Nat):Prop:=∀ (fv:aj) (Gi:GH) (xs:List AP) (J:Nat→GH→OL→Prop) (Jx:GH→OL→Prop) (G:GH) (L:OL) (w0:World) (j:Nat) (l:List ay) (v:aj),
 (∀ b o,Gi b=some o→G b=some o)→DZ prog fv Gi xs J Jx→Fz J→FR Jx→J j G L→ji G L w0→aC G (.sl 11 (l.map ay.dat)) v→bq l < n→(∀ i a,(gF l)[i]?=some a→xs[j+i]?=some (Cm a)) →
 Calls prog 107 #[v,fv] w0 (iM w0 G L fun u G' L'=>∃ b,u=.bool b∧(b=true→J (j+(gF l).length) G' L')∧(b=false→Jx G' L'))
set_option maxHeartbeats 1000000 in
theorem aoJ {n:Nat} (ih:Qx n) (hn:n≤4294967296):Qx (n+1):=by
 intro fv Gi xs J Jx G L w0 j0 l v hGi hcb nk hJx hJ0 hO hv hz hx0;obtain ⟨A,c,rfl,hc1,hc2,hg⟩:=hv.slice;rw [bQ] at *;have hll:=Fu l;refine lq (N:=74) (T:=[(0,_),(1,_)]) func107 rfl ntmps107 rfl rfl hO ?_;intro a H;refine kP H (SR fun _ K1=>ak K1 rfl (SQ fun _ K2=>SR fun _ K3=>Rm rfl (Rl kr rfl (Rm rfl (Kz K3 (SB ?_))))));clear H K1 K3;intro a H;skip;refine eT (ι:=Nat × Nat × OL × GH) (Tc:=[(1,_),(11,_),(12,_)]) (Lc:=[]) (fun gh=>[(13,vi gh.1)]) (fun gh=>[]++gh.2.2.1) (fun gh=>gh.2.2.2) (fun gh=>gh.1≤l.length∧(∀ b o,G b=some o→gh.2.2.2 b=some o)∧Now xs Cm J (j0+(gF l).length) gh.2.1 (gF (l.drop gh.1)) gh.2.2.2 gh.2.2.1) (fun gh=>l.length - gh.1) ((0,j0,L,G)) (by exact (H).sub ⟨rfl,rfl,rfl,rfl,aB⟩) ?_ ?_
 ·exact ⟨by omega,fun _ _ h=>h,⟨hJ0,hx0,rfl⟩⟩
 clear H;rintro ⟨k,j,Lt,g⟩ a w hI H;dsimp only at hI H;obtain ⟨hk,hgm,bO⟩:=hI;dsimp only [lca,aO] at H;refine kP H (SR fun _ K4=>Rc rfl (Kz K4 (SQ fun _ K5=>Cd rfl ?_ ?_))) <;> clear H K4
 ·intro gq a H
  try have sN:=dT gq
  have hk2:k < l.length:=by omega
  obtain ⟨b,o,pA,pn,pc,dA,dn,dc,yA,yn,yc,fA,fn,fc,rA,rn,rc,rfl,hrow,hhd,hfl,hrw⟩:=Dl hk2 hg;replace hrow:=fun j u hj=>aH hgm (hrow j u hj);have hrn:=hrw.len;rw [bQ] at hrn;subst hrn;have hrs:=Fv l[k].rows;have hsz1:=adk hk2;rw [jV hk2] at bO
  simp only [gF,aau,jQ] at bO
  refine kP H (Kc K5 (SQ fun _ K6=>SB (SR fun _ K7=>Ri kr fC rfl rfl ?_)));clear H K5;intro a H;refine bP fC (cs:=[_,_,_,_,_,_,_,_,_,_,_]) H wn rfl rfl (fun j v hj=>H.hp.aG (hrow j v hj)) rfl ?_;clear H;intro a H;refine eH fC H wn rfl ?_;clear H;intro b6 a w hb6 H;refine bT fC 0 (vs:=[_,_,_,_,_,_,_,_,_,_,_]) _ H wn rfl rfl rfl rfl rfl rfl rfl rfl ?_;clear H;intro w H;dsimp only [List.set,setRow] at H;refine K7 _ _ ?_;clear K7;refine kP H (SQ fun _ K8=>SR fun _ K9=>aT gJ aD 0 rfl rfl (Rc rfl (Rm rfl (Sp 20 rfl ?_ ?_)))) <;> clear H
  ·intro h20 a H
   try have qw:=dT h20
   rw [au (Or.inl qw),au qw,ah (by omega)] at bO
   simp only [nS,kD] at bO
   refine kH H (aZ h20 rfl (Pt h20 rfl (Rm rfl ?_)));clear H;intro a H;refine JH H (wg H rfl rfl rfl) rfl rfl ?_;clear H;intro a H;refine JG uN H (wg H rfl rfl rfl) rfl rfl ?_;clear H;intro a H;refine zu aD H (wg H rfl rfl rfl) rfl (H.hp.qN 0 rfl rfl) rfl ?_;clear H;intro a H;refine uZ (Li:=[_]) (L:=Lt) H (wg H rfl rfl rfl) rfl rfl (hcb _ _ _ _ _ ⟨_,bO.head,rfl⟩ (fun b o h=>hgm b o (hGi b o h)) bO.now (Hp.owns (Li:=[_]) H.hp)) rfl ?_;clear H;rintro v29 CO CV a w ⟨b29,rfl,hb1,hb2⟩ Jf H;refine VH H (wg H rfl rfl rfl) rfl rfl ?_;clear H;intro a H;refine kH H (Pt rfl rfl (Kz K9 (Cd rfl ?_ ?_))) <;> clear H K9
   ·intro h31 a H
    try have p31:=dT h31
    refine kP H (SR fun _ aV=>ak aV rfl ?_);clear H aV;intro a H;refine lr H results107 rfl ?_
    first
     | exact H.hp.bR (L':=CV) (by repeat (first|exact bZ _|apply List.Sublist.cons)) ⟨_,rfl,fun e=>(by cases e),fun _=>hb2 (by simpa using h31)⟩
     | exact H.hp.bR (L':=FL) (by repeat (first|exact bZ _|apply List.Sublist.cons)) ⟨_,rfl,fun e=>(by cases e),fun _=>hb4 (by simpa using lu)⟩
     | exact H.hp.bR (L':=FM) (by repeat (first|exact bZ _|apply List.Sublist.cons)) ⟨_,rfl,fun e=>(by cases e),fun _=>hb6 (by simpa using h64)⟩
     | exact H.hp.bR (L':=FN) (by repeat (first|exact bZ _|apply List.Sublist.cons)) ⟨_,rfl,fun e=>(by cases e),fun _=>yT (by simpa using om)⟩
     | exact H.hp.bR (L':=Lt) (by repeat (first|exact bZ _|apply List.Sublist.cons)) ⟨_,rfl,fun _=>(by rw [fI (by omega),gF] at bO;have:=bO.len;simp only [List.length_nil,nR] at this;rw [← this];exact bO.now),fun e=>(by cases e)⟩
   intro h31 a H
   try have p31:=dF h31
   have yY:=bO.step (hb1 (by simpa using h31));have kF:∀ b o,G b=some o→CO b=some o:=fun b o h=>Jf b o (hgm b o h);refine kP H (Kc K8 (SQ fun _ bF=>SR fun _ bG=>aT gJ aD 0 rfl rfl (Rc rfl (Rm rfl (YF Ca h20 rfl (YO jJ 0 h20 rfl (YM h20 rfl ?_)))))));clear H K8;intro a H;refine gP QU (Li:=[_]) (L:=CV) H (wg H rfl rfl h20) rfl (ih fv Gi xs J Jx _ _ _ (j+1) l[k].flow _ (fun b o h=>kF b o (hGi b o h)) hcb nk hJx yY.now (Hp.owns (Li:=[_]) H.hp) (hfl.mono kF) (by omega) yY.part) rfl ?_;clear H;rintro v39 WK FL a w ⟨b39,rfl,hb3,hb4⟩ ZQ H;refine kH H (YN h20 rfl (Pt h20 rfl (Kz bG (Cd rfl ?_ ?_)))) <;> clear H bG
   ·intro lu a H
    try have p41:=dT lu
    refine kP H (SR fun _ bM=>ak bM rfl ?_);clear H bM;intro a H;refine lr H results107 rfl ?_
    first
     | exact H.hp.bR (L':=CV) (by repeat (first|exact bZ _|apply List.Sublist.cons)) ⟨_,rfl,fun e=>(by cases e),fun _=>hb2 (by simpa using h31)⟩
     | exact H.hp.bR (L':=FL) (by repeat (first|exact bZ _|apply List.Sublist.cons)) ⟨_,rfl,fun e=>(by cases e),fun _=>hb4 (by simpa using lu)⟩
     | exact H.hp.bR (L':=FM) (by repeat (first|exact bZ _|apply List.Sublist.cons)) ⟨_,rfl,fun e=>(by cases e),fun _=>hb6 (by simpa using h64)⟩
     | exact H.hp.bR (L':=FN) (by repeat (first|exact bZ _|apply List.Sublist.cons)) ⟨_,rfl,fun e=>(by cases e),fun _=>yT (by simpa using om)⟩
     | exact H.hp.bR (L':=Lt) (by repeat (first|exact bZ _|apply List.Sublist.cons)) ⟨_,rfl,fun _=>(by rw [fI (by omega),gF] at bO;have:=bO.len;simp only [List.length_nil,nR] at this;rw [← this];exact bO.now),fun e=>(by cases e)⟩
   intro lu a H
   try have p41:=dF lu
   refine kP H (Kc bF (SQ fun _ bN=>SR fun _ bW=>aT gJ aD 0 rfl rfl (Rc rfl (Kz bW (Cd rfl ?_ ?_))))) <;> clear H bF bW
   ·intro kN a H
    try have p44:=dT kN
    refine dR ?_;refine K6 _ _ ?_;clear K6;refine kP H (SC (Rd rfl (Rm rfl ?_)));clear H;intro a H;refine aJ ?_;refine dH ((k+1,j+1+(gF l[k].flow).length,FL,WK)) (by exact (H.dB (Pl:=[_]) (cB:=[]) [] (by decide) rfl).sub ⟨rfl,rfl,rfl,rfl,aB⟩) ?_ ?_
    ·(try dsimp only);exact ⟨by omega,fun b o h=>ZQ b o (kF b o h),yY.jump (hb3 (by simpa using lu))⟩
    first|omega|(dsimp only;omega)
   intro kN a H
   try have p44:=dF kN
   exact absurd (show l[k].kind=7 by omega) (by omega)
  intro h20 a H
  try have qw:=dF h20
  refine kH H (YF gJ h20 rfl (YO aD 0 h20 rfl (YC h20 rfl (Pf h20 rfl (Rm rfl (Sp 25 rfl ?_ ?_)))))) <;> clear H
  ·intro gN a H
   try have p25:=dT gN
   rw [au (Or.inr p25),ah qw,au p25] at bO
   simp only [nS,kD] at bO
   refine kH H (YM gN rfl (YF uN gN rfl (YO aD 0 gN rfl ?_)));clear H;intro a H;refine uZ (Li:=[_]) (L:=Lt) H (wg H rfl rfl gN) rfl rfl (hcb _ _ _ _ _ ⟨_,bO.head,rfl⟩ (fun b o h=>hgm b o (hGi b o h)) bO.now (Hp.owns (Li:=[_]) H.hp)) rfl ?_;clear H;rintro v29 CO CV a w ⟨b29,rfl,hb1,hb2⟩ Jf H;refine kH H (YN gN rfl (Pt gN rfl (Kz K9 (Cd rfl ?_ ?_)))) <;> clear H K9
   ·intro h31 a H
    try have p31:=dT h31
    refine kP H (SR fun _ cK=>ak cK rfl ?_);clear H cK;intro a H;refine lr H results107 rfl ?_
    first
     | exact H.hp.bR (L':=CV) (by repeat (first|exact bZ _|apply List.Sublist.cons)) ⟨_,rfl,fun e=>(by cases e),fun _=>hb2 (by simpa using h31)⟩
     | exact H.hp.bR (L':=FL) (by repeat (first|exact bZ _|apply List.Sublist.cons)) ⟨_,rfl,fun e=>(by cases e),fun _=>hb4 (by simpa using lu)⟩
     | exact H.hp.bR (L':=FM) (by repeat (first|exact bZ _|apply List.Sublist.cons)) ⟨_,rfl,fun e=>(by cases e),fun _=>hb6 (by simpa using h64)⟩
     | exact H.hp.bR (L':=FN) (by repeat (first|exact bZ _|apply List.Sublist.cons)) ⟨_,rfl,fun e=>(by cases e),fun _=>yT (by simpa using om)⟩
     | exact H.hp.bR (L':=Lt) (by repeat (first|exact bZ _|apply List.Sublist.cons)) ⟨_,rfl,fun _=>(by rw [fI (by omega),gF] at bO;have:=bO.len;simp only [List.length_nil,nR] at this;rw [← this];exact bO.now),fun e=>(by cases e)⟩
   intro h31 a H
   try have p31:=dF h31
   have yY:=bO.step (hb1 (by simpa using h31));have kF:∀ b o,G b=some o→CO b=some o:=fun b o h=>Jf b o (hgm b o h);refine kP H (Kc K8 (SQ fun _ bS=>SR fun _ dD=>aT gJ aD 0 rfl rfl (Rc rfl (Rm rfl (aZ h20 rfl (aS h20 rfl (Pf h20 rfl (Kz dD (Cf rfl rfl (Kc bS (SQ fun _ dO=>SR fun _ dK=>aT gJ aD 0 rfl rfl (Rc rfl (Kz dK (Cd rfl ?_ ?_)))))))))))))) <;> clear H K8 dD bS dK
   ·intro kN a H
    try have p44:=dT kN
    exact absurd p25 p44
   intro kN a H
   try have p44:=dF kN
   refine kP H (Kc dO (SR fun _ dS=>aT uP vD 0 rfl rfl (Rl ku rfl (Rm rfl (Kz dS (SB ?_))))));clear H dO dS;intro a H;skip;refine eT (ι:=Nat × Nat × OL × GH) (Tc:=[(1,_),(11,_),(12,_),(13,_),(46,_),(47,_)]) (Lc:=[(_,_)]) (fun gh=>[(48,vi gh.1)]) (fun gh=>[]++gh.2.2.1) (fun gh=>gh.2.2.2) (fun gh=>gh.1≤l[k].rows.length∧(∀ b o,G b=some o→gh.2.2.2 b=some o)∧Now xs Cm J (j0+(gF l).length) gh.2.1 (wH (l[k].rows.drop gh.1)++gF (l.drop (k+1))) gh.2.2.2 gh.2.2.1) (fun gh=>l[k].rows.length - gh.1) ((0,j+1,CV,CO)) (by exact (H).sub ⟨rfl,rfl,rfl,rfl,rfl,rfl,rfl,aB⟩) ?_ ?_
   ·exact ⟨by omega,kF,yY⟩
   clear H;rintro ⟨rk,j3,Lt3,g3⟩ a w hI H;dsimp only at hI H;obtain ⟨Oz,qL,Bg⟩:=hI;dsimp only [lca,aO] at H;refine kP H (SR fun _ eP=>Rc rfl (Kz eP (SQ fun _ gG=>Cd rfl ?_ ?_))) <;> clear H eP
   ·intro pG a H
    try have p49:=dT pG
    have hk3:rk < l[k].rows.length:=by omega
    obtain ⟨b2,o2,qA,qn,qc,eA,en,ec,zA,zn,zc,cA,cn,cc,rfl,hrow,Ck,hcl⟩:=E5 hk3 hrw.at_;replace hrow:=fun j u hj=>aH qL (hrow j u hj);have hcn:=hcl.len;rw [bQ] at hcn;subst hcn;have hsz2:=MK hk3;have hcs:=Fq l[k].rows[rk].cells;rw [jV hk3] at Bg
    simp only [wH,aav,jQ] at Bg
    refine kP H (Kc gG (SQ fun _ gT=>SB (SR fun _ gM=>Ri ku kQ rfl rfl ?_)));clear H gG;intro a H;refine bP kQ (cs:=[_,_,_,_,_,_]) H wn rfl rfl (fun j v hj=>H.hp.aG (hrow j v hj)) rfl ?_;clear H;intro a H;refine eH kQ H wn rfl ?_;clear H;intro b8 a w yT H;refine bT kQ 0 (vs:=[_,_,_,_,_,_]) _ H wn rfl rfl rfl rfl rfl rfl rfl rfl ?_;clear H;intro w H;dsimp only [List.set,setRow] at H;refine gM _ _ ?_;clear gM;refine kP H (SR fun _ jf=>aT ru rY 0 rfl rfl (Rl mE rfl (Rm rfl (Kz jf (SB ?_)))));clear H jf;intro a H;skip;refine eT (ι:=Nat × Nat × OL × GH) (Tc:=[(1,_),(11,_),(12,_),(13,_),(46,_),(47,_),(48,_),(53,_),(54,_)]) (Lc:=[(_,_),(_,_)]) (fun gh=>[(55,vi gh.1)]) (fun gh=>[]++gh.2.2.1) (fun gh=>gh.2.2.2) (fun gh=>gh.1≤l[k].rows[rk].cells.length∧(∀ b o,G b=some o→gh.2.2.2 b=some o)∧Now xs Cm J (j0+(gF l).length) gh.2.1 (xK (l[k].rows[rk].cells.drop gh.1)++(wH (l[k].rows.drop (rk+1))++gF (l.drop (k+1)))) gh.2.2.2 gh.2.2.1) (fun gh=>l[k].rows[rk].cells.length - gh.1) ((0,j3,Lt3,g3)) (by exact (H).sub ⟨rfl,rfl,rfl,rfl,rfl,rfl,rfl,rfl,rfl,rfl,aB⟩) ?_ ?_
    ·exact ⟨by omega,qL,Bg⟩
    clear H;rintro ⟨ck,j4,Lt4,g4⟩ a w hI H;dsimp only at hI H;obtain ⟨hck,uS,wG⟩:=hI;dsimp only [lca,aO] at H;refine kP H (SR fun _ jq=>Rc rfl (Kz jq (SQ fun _ iQ=>Cd rfl ?_ ?_))) <;> clear H jq
    ·intro pI a H
     try have p56:=dT pI
     have hk4:ck < l[k].rows[rk].cells.length:=by omega
     obtain ⟨b3,o3,sA,sn,sc,tA,tn,tc,uA,un,uc,gA,gn,gc,rfl,hrow,hch,hcf⟩:=C8 hk4 hcl.at_;replace hrow:=fun j u hj=>aH uS (hrow j u hj);have GY:=MI hk4;rw [jV hk4] at wG
     simp only [xK,aat,jQ,nS] at wG
     refine kP H (Kc iQ (SQ fun _ kT=>SB (SR fun _ kU=>Ri mE kg rfl rfl ?_)));clear H iQ;intro a H;refine bP kg (cs:=[_,_,_,_,_,_,_]) H wn rfl rfl (fun j v hj=>H.hp.aG (hrow j v hj)) rfl ?_;clear H;intro a H;refine eH kg H wn rfl ?_;clear H;intro b10 a w I9 H;refine bT kg 0 (vs:=[_,_,_,_,_,_,_]) _ H wn rfl rfl rfl rfl rfl rfl rfl rfl ?_;clear H;intro w H;dsimp only [List.set,setRow] at H;refine kU _ _ ?_;clear kU;refine kP H (SR fun _ jG=>Rm rfl (aT Dc aD 0 rfl rfl ?_));clear H;intro a H;refine uZ (Li:=[_,_,_]) (L:=Lt4) H wn rfl rfl (hcb _ _ _ _ _ ⟨_,wG.head,rfl⟩ (fun b o h=>uS b o (hGi b o h)) wG.now (Hp.owns (Li:=[_,_,_]) H.hp)) rfl ?_;clear H;rintro v62 WS FM a w ⟨XJ,rfl,hb5,hb6⟩ LG H;refine kH H (Rn rfl (Rm rfl (Sp 64 rfl ?_ ?_))) <;> clear H
     ·intro h64 a H
      try have p64:=dT h64
      refine kH H (aZ h64 rfl (aS h64 rfl (Pt h64 rfl (Kz jG (Ct rfl rfl (SR fun _ kZ=>ak kZ rfl ?_))))));clear H jG kZ;intro a H;refine lr H results107 rfl ?_
      first
       | exact H.hp.bR (L':=CV) (by repeat (first|exact bZ _|apply List.Sublist.cons)) ⟨_,rfl,fun e=>(by cases e),fun _=>hb2 (by simpa using h31)⟩
       | exact H.hp.bR (L':=FL) (by repeat (first|exact bZ _|apply List.Sublist.cons)) ⟨_,rfl,fun e=>(by cases e),fun _=>hb4 (by simpa using lu)⟩
       | exact H.hp.bR (L':=FM) (by repeat (first|exact bZ _|apply List.Sublist.cons)) ⟨_,rfl,fun e=>(by cases e),fun _=>hb6 (by simpa using h64)⟩
       | exact H.hp.bR (L':=FN) (by repeat (first|exact bZ _|apply List.Sublist.cons)) ⟨_,rfl,fun e=>(by cases e),fun _=>yT (by simpa using om)⟩
       | exact H.hp.bR (L':=Lt) (by repeat (first|exact bZ _|apply List.Sublist.cons)) ⟨_,rfl,fun _=>(by rw [fI (by omega),gF] at bO;have:=bO.len;simp only [List.length_nil,nR] at this;rw [← this];exact bO.now),fun e=>(by cases e)⟩
     intro h64 a H
     try have p64:=dF h64
     have Un:=wG.step (hb5 (by simpa using h64));refine kH H (YF Df h64 rfl (YO jJ 0 h64 rfl (YM h64 rfl ?_)));clear H;intro a H;refine gP QU (Li:=[_,_,_]) (L:=FM) H (wg H rfl rfl h64) rfl (ih fv Gi xs J Jx _ _ _ (j4+1) l[k].rows[rk].cells[ck].flow _ (fun b o h=>LG b o (uS b o (hGi b o h))) hcb nk hJx Un.now (Hp.owns (Li:=[_,_,_]) H.hp) ((hcf.mono uS).mono LG) (by omega) Un.part) rfl ?_;clear H;rintro v68 G68 FN a w ⟨b68,rfl,zT,yT⟩ aje H;refine kH H (YN h64 rfl (Pf h64 rfl (Kz jG (Cd rfl ?_ ?_)))) <;> clear H jG
     ·intro om a H
      try have p70:=dT om
      refine kP H (SR fun _ lg=>ak lg rfl ?_);clear H lg;intro a H;refine lr H results107 rfl ?_
      first
       | exact H.hp.bR (L':=CV) (by repeat (first|exact bZ _|apply List.Sublist.cons)) ⟨_,rfl,fun e=>(by cases e),fun _=>hb2 (by simpa using h31)⟩
       | exact H.hp.bR (L':=FL) (by repeat (first|exact bZ _|apply List.Sublist.cons)) ⟨_,rfl,fun e=>(by cases e),fun _=>hb4 (by simpa using lu)⟩
       | exact H.hp.bR (L':=FM) (by repeat (first|exact bZ _|apply List.Sublist.cons)) ⟨_,rfl,fun e=>(by cases e),fun _=>hb6 (by simpa using h64)⟩
       | exact H.hp.bR (L':=FN) (by repeat (first|exact bZ _|apply List.Sublist.cons)) ⟨_,rfl,fun e=>(by cases e),fun _=>yT (by simpa using om)⟩
       | exact H.hp.bR (L':=Lt) (by repeat (first|exact bZ _|apply List.Sublist.cons)) ⟨_,rfl,fun _=>(by rw [fI (by omega),gF] at bO;have:=bO.len;simp only [List.length_nil,nR] at this;rw [← this];exact bO.now),fun e=>(by cases e)⟩
     intro om a H
     try have p70:=dF om
     refine kP H (Kc kT (SC (Rd rfl (Rm rfl ?_))));clear H kT;intro a H;refine aJ ?_;refine dH ((ck+1,j4+1+(gF l[k].rows[rk].cells[ck].flow).length,FN,G68)) (by exact (H.dB (Pl:=[_,_,_]) (cB:=[_,_]) [1,2] (by decide) rfl).sub ⟨rfl,rfl,rfl,rfl,rfl,rfl,rfl,rfl,rfl,rfl,aB⟩) ?_ ?_
     ·(try dsimp only);exact ⟨by omega,fun b o h=>aje b o (LG b o (uS b o h)),Un.jump (zT (by simpa using om))⟩
     first|omega|(dsimp only;omega)
    intro pI a H
    try have p56:=dF pI
    refine dR ?_;refine gT _ _ ?_;clear gT;refine kP H (SC (Rd rfl (Rm rfl ?_)));clear H;intro a H;refine aJ ?_;refine dH ((rk+1,j4,Lt4,g4)) (by exact (H.dB (Pl:=[_,_]) (cB:=[_]) [1] (by decide) rfl).sub ⟨rfl,rfl,rfl,rfl,rfl,rfl,rfl,aB⟩) ?_ ?_
    ·(try dsimp only);exact ⟨by omega,uS,by rw [fI (by omega),xK,kD] at wG;exact wG⟩
    first|omega|(dsimp only;omega)
   intro pG a H
   try have p49:=dF pG
   refine dR ?_;refine K6 _ _ ?_;clear K6;refine kP H (SC (Rd rfl (Rm rfl ?_)));clear H;intro a H;refine aJ ?_;refine dH ((k+1,j3,Lt3,g3)) (by exact (H.dB (Pl:=[_]) (cB:=[]) [] (by decide) rfl).sub ⟨rfl,rfl,rfl,rfl,aB⟩) ?_ ?_
   ·(try dsimp only);exact ⟨by omega,qL,by rw [fI (by omega),wH,kD] at Bg;exact Bg⟩
   first|omega|(dsimp only;omega)
  intro gN a H
  try have p25:=dF gN
  rw [ah (by omega),ah qw,ah p25] at bO
  simp only [kD] at bO
  refine kH H (aZ gN rfl (aS gN rfl (Pf gN rfl (Kz K9 (Cf rfl rfl (Kc K8 (SQ fun _ lK=>SR fun _ lM=>aT gJ aD 0 rfl rfl (Rc rfl (Rm rfl (aZ h20 rfl (aS h20 rfl (Pf h20 rfl (Kz lM (Cf rfl rfl (Kc lK (SQ fun _ lN=>SR fun _ lY=>aT gJ aD 0 rfl rfl (Rc rfl (Kz lY (Cd rfl ?_ ?_))))))))))))))))))) <;> clear H K9 K8 lM lK lY
  ·intro kN a H
   try have p44:=dT kN
   refine dR ?_;refine K6 _ _ ?_;clear K6;refine kP H (SC (Rd rfl (Rm rfl ?_)));clear H;intro a H;refine aJ ?_;refine dH ((k+1,j,Lt,g)) (by exact (H.dB (Pl:=[_]) (cB:=[]) [] (by decide) rfl).sub ⟨rfl,rfl,rfl,rfl,aB⟩) ?_ ?_
   ·(try dsimp only);exact ⟨by omega,hgm,bO⟩
   first|omega|(dsimp only;omega)
  intro kN a H
  try have p44:=dF kN
  exact absurd p25 p44
 intro gq a H
 try have sN:=dF gq
 refine dR ?_;refine K2 _ _ ?_;clear K2;refine kP H (SR fun _ qD=>ak qD rfl ?_);clear H qD;intro a H;refine lr H results107 rfl ?_
 first
  | exact H.hp.bR (L':=CV) (by repeat (first|exact bZ _|apply List.Sublist.cons)) ⟨_,rfl,fun e=>(by cases e),fun _=>hb2 (by simpa using h31)⟩
  | exact H.hp.bR (L':=FL) (by repeat (first|exact bZ _|apply List.Sublist.cons)) ⟨_,rfl,fun e=>(by cases e),fun _=>hb4 (by simpa using lu)⟩
  | exact H.hp.bR (L':=FM) (by repeat (first|exact bZ _|apply List.Sublist.cons)) ⟨_,rfl,fun e=>(by cases e),fun _=>hb6 (by simpa using h64)⟩
  | exact H.hp.bR (L':=FN) (by repeat (first|exact bZ _|apply List.Sublist.cons)) ⟨_,rfl,fun e=>(by cases e),fun _=>yT (by simpa using om)⟩
  | exact H.hp.bR (L':=Lt) (by repeat (first|exact bZ _|apply List.Sublist.cons)) ⟨_,rfl,fun _=>(by rw [fI (by omega),gF] at bO;have:=bO.len;simp only [List.length_nil,nR] at this;rw [← this];exact bO.now),fun e=>(by cases e)⟩
theorem acM:∀ n:Nat,n≤4294967297→Qx n
 | 0,_=>fun _ _ _ _ _ _ _ _ _ _ _ _ _ _ _ _ _ _ _ h=>absurd h (by omega)
 | n+1,hn=>aoJ (acM n (by omega)) (by omega)
end
section
open Go.RowKit
theorem aok:Ty prog 172 1 8 [.nilFunc] false:=⟨by kernel_rfl,by kernel_rfl⟩
theorem YQ:∀ args w,(callFunc 57 args).run prog w=.ok (.enter 57 args) w:=enters func57 rfl (by kernel_rfl)
theorem QT:∀ args w,(callFunc 106 args).run prog w=.ok (.enter 106 args) w:=enters func106 rfl (by kernel_rfl)
theorem IL:∀ args w,(callFunc 51 args).run prog w=.ok (.enter 51 args) w:=enters func51 rfl (by kernel_rfl)
theorem wQ:Ty prog 52 1 24 [.slice none 0 0] false:=⟨by kernel_rfl,by kernel_rfl⟩
theorem afp:∀ args w,(callFunc 108 args).run prog w=.ok (.enter 108 args) w:=enters func108 rfl (by kernel_rfl)
theorem LU {A:List Int} {k:Nat} {args:List aj} {g:GH} (h:yu (A.map Cm) k args g):∃ hk:k < A.length,args=[vi A[k]]:=by
 obtain ⟨p,hp,hargs⟩:=h;rw [qE] at hp;obtain ⟨q,hq,rfl⟩:=oC.1 hp;obtain ⟨hk,rfl⟩:=lG.1 hq;exact ⟨hk,hargs⟩
theorem akl {G G0:GH} {A:List Int} {b2:Nat} {fv:aj} {J:Nat→GH→OL→Prop} {Jx:GH→OL→Prop} (hcb:DZ prog fv G0 (A.map Cm) J Jx) (hG0:∀ b o,G0 b=some o→G b=some o) (Du:fv.cells=#[fv]) (hb:aG G b2 0=some fv) :
  DZ prog (.func (.func 108) #[] #[(aQ b2 0)]) G (A.map Cm) J Jx:=by
 intro k args G1 L w0 hk hm hJ hO;obtain ⟨hk2,rfl⟩:=LU hk;refine nK (caps:=[(aQ b2 0)]) afp ?_;replace hb:=aH hm hb;refine lq (N:=7) (T:=[(0,_),(1,_)]) func108 rfl ntmps108 rfl rfl hO ?_;intro a H;refine kP H (SR fun _ K1=>ak K1 rfl (SR fun _ K2=>Rg aok rfl (by assumption) ?_));clear H K1;intro a H;refine kH H (Rm rfl ?_);clear H;intro a H;refine uZ (Li:=[]) (L:=L) H wn rfl rfl (hcb _ _ _ _ _ hk (fun b o h=>hm b o (hG0 b o h)) hJ (Hp.owns (Li:=[]) H.hp)) rfl ?_;clear H;rintro v6 G6 L6 a w ⟨b6,rfl,h1,h2⟩ Jg H;exact kH H (ak K2 rfl (LR results108 rfl fun H=>H.hp.fO ⟨b6,rfl,h1,h2⟩))
theorem akm {G:GH} {bd:Nat} {D:jT} {l:List ay} (hb:G bd=some (.cells D.cells.toArray 38 (0,0))) (hv:aC G (.sl 11 (l.map ay.dat)) (bU D.f)) (hz:bq l≤4294967296) :
  Iter prog G (.func (.func 106) #[] #[(aQ bd 0)]) ((gF l).map Cm):=by
 intro J Jx fv G1 L w0 Du hGi nk hJx hJ hO hcb;refine nK (caps:=[(aQ bd 0)]) QT ?_;have hfl:aG G1 bd 0=some (bU D.f):=aH hGi (by unfold aG;rw [hb];rfl);refine lq (N:=7) (T:=[(0,_),(1,_)]) func106 rfl ntmps106 rfl rfl hO ?_;intro a H;refine dh (fun _ K1=>?_);refine fB (cs:=[fv]) H wn rfl Du rfl ?_;clear H;intro b2 a w hb2 H;refine K1 _ _ ?_;clear K1;obtain ⟨G2,hm2,hb2,H⟩:=H.dW;replace hfl:=aH hm2 hfl;refine kP H (SC (Rf BZ rfl (Rg jJ rfl (by assumption) ?_)));clear H;intro a H;refine pV H wn rfl rfl ?_;clear H;intro a H;refine gP QU (Li:=[]) (L:=L) H wn rfl (acM 4294967297 (by omega) _ G2 ((gF l).map Cm) J Jx G2 _ _ 0 l _ (fun _ _ h=>h) (akl (b2:=b2) hcb hm2 Du (by unfold aG;rw [hb2];rfl)) nk hJx (nk _ _ _ _ hm2 hJ) (Hp.owns (Li:=[]) H.hp) ((hv.mono hGi).mono hm2) (by omega) (fun i a h=>by rw [nT,qE,h];rfl)) rfl ?_;clear H;rintro v6 G6 L6 a w ⟨b6,rfl,h1,h2⟩ Jg H;refine aJ ?_;refine (leave0 H results106 ?_).2
 cases b6
 ·exact H.hp.fO (.inr (h2 rfl))
 exact H.hp.fO (.inl (by simpa using h1 rfl))
theorem aay (G:GH) (w0:World) (hG:Hold G w0) (D:jT) (l:List ay) (hv:aC G (.sl 11 (l.map ay.dat)) (bU D.f)) (hz:bq l≤4294967296) :
  Calls prog 57 #[D.val] w0 (bY w0 G fun v G'=>∃ bd,v=.func (.func 106) #[] #[(aQ bd 0)]∧Iter prog G' v ((gF l).map Cm)):=by
 refine eN [(0,_)] func57 rfl ntmps57 rfl rfl hG ?_;intro a H;refine dh (fun _ K1=>?_);refine fB (cs:=[_,_,_,_,_,_,_,_,_,_,_]) H wn rfl rfl rfl ?_;clear H;intro b1 a w hb1 H;refine kH H (ak K1 rfl (SR fun _ K2=>?_));clear H K1;intro a H;refine pV H wn rfl rfl ?_;clear H;intro a H;refine kH H (ak K2 rfl ?_);clear H K2;intro a H;refine dG ?_;obtain ⟨G2,hm2,hb2,H⟩:=H.dW;refine lv H results57 rfl ?_;exact H.rt ⟨b1,rfl,akm hb2 (hv.mono hm2) hz⟩
def Hw (l:List Int):Int:=l.foldl max 0
theorem ali {l:List Int} {k:Nat} (h:k < l.length):Hw (l.take (k+1))=max (Hw (l.take k)) l[k]:=by
 rw [Hw,mV h,List.foldl_append];rfl
theorem ahz (G:GH) (w0:World) (hG:Hold G w0) (D:jT) (l:List ay) (hv:aC G (.sl 11 (l.map ay.dat)) (bU D.f)) (hz:bq l≤4294967296) (hm:Hw (gF l)≤4611686018427387904) (h0:0≤Hw (gF l)) :
  Calls prog 20 #[D.val] w0 (bY w0 G fun v G'=>v=vi (Hw (gF l)+1)):=by
 refine eN [(0,_)] func20 rfl ntmps20 rfl rfl hG ?_;intro a H;refine dh (fun _ K1=>?_);refine fB (cs:=[_,_,_,_,_,_,_,_,_,_,_]) H wn rfl rfl rfl ?_;clear H;intro b1 a w hb1 H;refine kH H (ak K1 rfl (SR fun _ K2=>?_));clear H K1;intro a H;refine eH aD H wn rfl ?_;clear H;intro b3 a w hb3 H;refine bT aD 0 (vs:=[_]) _ H wn rfl rfl rfl rfl rfl rfl rfl rfl ?_;clear H;intro w H;dsimp only [List.set,setRow] at H;refine K2 _ _ ?_;clear K2;refine aN (fun _ K3=>?_);refine dh (fun _ K4=>?_);refine bP lX (cs:=[_,_,_,_,_,_,_,_,_,_,_]) H wn rfl rfl (H.hp.gB 1 rfl rfl) rfl ?_;clear H;intro a H;refine s_call YQ H wn rfl (aay _ _ H.ro D l hv hz) rfl ?_;clear H;rintro v6 G6 a w ⟨bd,rfl,hit⟩ Jg H;refine K4 _ _ ?_;clear K4;refine sD ?_;skip;refine BP (ι:=Unit) (κ:=Empty) (Lc:=[(_,_)]) (fun (k:Nat) (gh:Unit)=>[(b3,.cells #[vi (Hw ((gF l).take k))] 3 (0,0))]) (fun (k:Nat) (gh:Unit)=>[]) (fun (k:Nat) (gh:Unit) (g:GH)=>True) (fun x=>x.elim) (fun x=>x.elim) (fun x=>x.elim) (fun x=>x.elim) (()) (by exact H.dB (Pl:=[_,_]) (cB:=[_,_]) [1,0] (by decide) rfl) rfl QT (hit) (fun _ _ h=>h) rfl (fun k args g h=>by obtain ⟨_,rfl⟩:=LU h;rfl) (fun _ _ _ _ _ h=>h) (fun x=>x.elim) (trivial) ?_ ?_ ?_
 ·clear H;intro l3 uX sw bk k args gh G3 w3 F3 B3 a hk3 qM hI Gy GU UF H;obtain ⟨hk,rfl⟩:=LU hk3;dsimp only [qX,List.cons_append,List.nil_append] at H;refine kP H (SC (Ra rfl ?_));clear H;intro a H;refine aJ ?_;refine Gy _ _ _ _ _ _ (by exact H) ?_;clear H;intro w H;refine kP H (SB (SC (Ro aD 2 rfl (Rm rfl ?_))));clear H;intro a H;refine E9 H wn rfl rfl rfl ?_;clear H;intro a H;rw [← ali hk] at H;refine bT aD 2 (vs:=[_]) _ H wn rfl rfl rfl rfl rfl rfl rfl rfl ?_;clear H;intro w H;dsimp only [List.set,setRow] at H;refine aJ ?_;refine GU (()) _ _ _ _ _ (by exact H) ?_
  trivial
 ·clear H;intro P8 gh Qi a w qM hI H;dsimp only [lca,aO] at H;refine K3 _ _ ?_;clear K3;refine aN (fun _ K5=>?_);rw [lZ (by simp)] at H;refine kP H (SC (Ro aD 2 rfl (Rd rfl (aM K5 rfl ?_))));clear H K5;intro a H;refine dG ?_;refine (xL H 0 rfl ?_).1;clear H;intro a w H;dsimp only [List.eraseIdx_cons_succ,List.eraseIdx_cons_zero] at H;refine lv H results20 rfl ?_;exact H.rt rfl
 intro Dk x;exact x.elim
theorem akz (G:GH) (n:Int):bJ G [li n] [vi n]:=by simp [bJ,aC,Value.oneCell']
def kR (A:List jh):Int:=A.foldl (fun n f=>n+oQ f.items) 0
theorem MF {A:List jh} {k:Nat} (h:k < A.length):kR (A.take (k+1))=kR (A.take k)+oQ A[k].items:=by
 rw [kR,mV h,List.foldl_append];rfl
theorem acB (G:GH) (w0:World) (hG:Hold G w0) (D:jT) (l:List ay) (hv:aC G (.sl 11 (l.map ay.dat)) (bU D.f)) (hz:bq l≤4294967296) (hm:∀ k,k≤(dx l).length→0≤kR ((dx l).take k)∧kR ((dx l).take k)≤4611686018427387904) :
  Calls prog 21 #[D.val] w0 (bY w0 G fun v G'=>v=vi (kR (dx l))):=by
 refine eN [(0,_)] func21 rfl ntmps21 rfl rfl hG ?_;intro a H;refine dh (fun _ K1=>?_);refine fB (cs:=[_,_,_,_,_,_,_,_,_,_,_]) H wn rfl rfl rfl ?_;clear H;intro b1 a w hb1 H;refine kH H (ak K1 rfl (SR fun _ K2=>?_));clear H K1;intro a H;refine eH aD H wn rfl ?_;clear H;intro b3 a w hb3 H;refine bT aD 0 (vs:=[_]) _ H wn rfl rfl rfl rfl rfl rfl rfl rfl ?_;clear H;intro w H;dsimp only [List.set,setRow] at H;refine K2 _ _ ?_;clear K2;refine aN (fun _ K3=>?_);refine dh (fun _ K4=>?_);refine bP lX (cs:=[_,_,_,_,_,_,_,_,_,_,_]) H wn rfl rfl (H.hp.gB 1 rfl rfl) rfl ?_;clear H;intro a H;refine s_call Rh H wn rfl (Ve _ _ H.ro D l hv hz) rfl ?_;clear H;rintro v9 G9 a w ⟨ba,bl,bp,rfl,hit⟩ Jh H;refine K4 _ _ ?_;clear K4;refine sD ?_;skip;refine BP (ι:=Unit) (κ:=Empty) (Lc:=[(_,_)]) (fun (k:Nat) (gh:Unit)=>[(b3,.cells #[vi (kR ((dx l).take k))] 3 (0,0))]) (fun (k:Nat) (gh:Unit)=>[]) (fun (k:Nat) (gh:Unit) (g:GH)=>True) (fun x=>x.elim) (fun x=>x.elim) (fun x=>x.elim) (fun x=>x.elim) (()) (by exact H.dB (Pl:=[_,_]) (cB:=[_,_]) [1,0] (by decide) rfl) rfl Nw (hit) (fun _ _ h=>h) rfl (fun k args g h=>by obtain ⟨_,_,_,_,rfl,_⟩:=IZ h;rfl) (fun _ _ _ _ _ h=>h) (fun x=>x.elim) (trivial) ?_ ?_ ?_
 ·clear H;intro l3 uX sw bk k args gh G3 w3 F3 B3 a hk3 qM hI Gy GU UF H;obtain ⟨hk,vA,vn,vc,rfl,hfr⟩:=IZ hk3;dsimp only [qX,List.cons_append,List.nil_append] at H;refine qG ?_;refine eH PS H wn rfl ?_;clear H;intro b5 a w hb5 H;refine bT PS 0 (vs:=[_,_,_,_]) _ H wn rfl rfl rfl rfl rfl rfl rfl rfl ?_;clear H;intro w H;dsimp only [List.set,setRow] at H;refine aJ ?_;refine Gy _ _ _ _ _ _ (by exact H.dB (Pl:=[_,_,_,_]) (cB:=[_,_,_,_]) [1,0,2,3] (by decide) rfl) ?_;clear H;intro w H;refine kP H (SB (SR fun _ K5=>aT ahk jJ 1 rfl rfl ?_));clear H;intro a H;refine s_call IL H wn rfl (Jt _ _ H.ro (dx l)[k].items _ hfr (Nat.le_trans (RY (jv hk)) hz)) rfl ?_;clear H;rintro v15 _ a w ⟨rfl,rfl⟩ - H;refine kH H (Rm rfl ?_);clear H;intro a H;(iterate 2 refine nA H wn rfl rfl rfl ?_;clear H;intro a H);refine kH H (Ra rfl (ak K5 rfl ?_));clear H K5;intro a H;have Tw:=hm (k+1) hk;rw [MF hk] at Tw;refine kP H (SC (Ro aD 3 rfl (Rm rfl (Rd rfl ?_))));clear H;intro a H;rw [← MF hk] at H;refine bT aD 3 (vs:=[_]) _ H wn rfl rfl rfl rfl rfl rfl rfl rfl ?_;clear H;intro w H;dsimp only [List.set,setRow] at H;refine aJ ?_;refine GU (()) _ _ _ _ _ (by exact H.dB (Pl:=[_,_,_,_]) (cB:=[_,_,_]) [0,2,3] (by decide) rfl) ?_
  trivial
 ·clear H;intro P8 gh Qi a w qM hI H;dsimp only [lca,aO] at H;refine K3 _ _ ?_;clear K3;refine aN (fun _ K6=>?_);rw [lZ (by simp)] at H;refine kP H (SC (Ro aD 2 rfl (aM K6 rfl ?_)));clear H K6;intro a H;refine dG ?_;refine (xL H 0 rfl ?_).1;clear H;intro a w H;dsimp only [List.eraseIdx_cons_succ,List.eraseIdx_cons_zero] at H;refine lv H results21 rfl ?_;exact H.rt rfl
 intro Dk x;exact x.elim
mutual
theorem aoM (note:Bool) (t:Int):∀ x:ay,(uw note t x).length < cO x.dat
 | .mk k c i tx h f r=>by
  have h4:=oW (.mk k c i tx h f r);have hf:=DY true t f;have hr:=acS note t r;dsimp only [ay.text,ay.head,ay.flow,ay.rows] at h4;rw [uw]
  split
  ·rw [kW];omega
  split <;> first|omega|(simp only [List.length_nil];omega)
theorem DY (note:Bool) (t:Int):∀ l:List ay,(iT note t l).length≤bq l
 | []=>by simp [iT]
 | x :: l=>by
  have h1:=aoM note t x;have h2:=DY note t l;rw [iT,jP]
  simp only [bq,dV,dZ] at *;omega
theorem aoO (note:Bool) (t:Int):∀ x:bH,(uy note t x).length≤cO x.dat
 | .mk h cs=>by
  have h4:=uD (.mk h cs);have hc:=acO note t cs;dsimp only [bH.head,bH.cells] at h4;rw [uy];omega
theorem acS (note:Bool) (t:Int):∀ l:List bH,(mF note t l).length≤eD l
 | []=>by simp [mF]
 | x :: l=>by
  have h1:=aoO note t x;have h2:=acS note t l;rw [mF,jP]
  simp only [eD,dV,dZ] at *;omega
theorem aoK (note:Bool) (t:Int):∀ x:bD,(uq note t x).length≤cO x.dat
 | .mk i h f=>by
  have h4:=uz (.mk i h f);have hf:=DY note (t+1) f;dsimp only [bD.head,bD.flow] at h4;rw [uq,kW];omega
theorem acO (note:Bool) (t:Int):∀ l:List bD,(mR note t l).length≤iw l
 | []=>by simp [mR]
 | x :: l=>by
  have h1:=aoK note t x;have h2:=acO note t l;rw [mR,jP]
  simp only [iw,dV,dZ] at *;omega
end
theorem afh (G:GH) (w0:World) (hG:Hold G w0) (D:jT) (l:List ay) (hv:aC G (.sl 11 (l.map ay.dat)) (bU D.f)) (hz:bq l≤4294967296) :
  Calls prog 28 #[D.val] w0 (bY w0 G fun u G'=>aC G' (.sl 1 ((dx l).map fun f:jh=>[li f.id])) u):=by
 have hml:4294967299≤maxLen:=by decide
 have hn:(dx l).length≤4294967297:=by
  have:=DY false 0 l;rw [dx,kW];omega
 refine eN [(0,_)] func28 rfl ntmps28 rfl rfl hG ?_;intro a H;refine dh (fun _ K1=>?_);refine fB (cs:=[_,_,_,_,_,_,_,_,_,_,_]) H wn rfl rfl rfl ?_;clear H;intro b1 a w hb1 H;refine kH H (ak K1 rfl (SR fun _ K2=>?_));clear H K1;intro a H;refine eH wQ H wn rfl ?_;clear H;intro b3 a w hb3 H;refine K2 _ _ ?_;clear K2;refine aN (fun _ K3=>?_);refine aN (fun _ K4=>?_);have H:=H.dB (Pl:=[_,_]) (cB:=[_,_]) [1,0] (by decide) rfl;refine qG ?_;refine bP lX (cs:=[_,_,_,_,_,_,_,_,_,_,_]) H wn rfl rfl (H.hp.gB 0 rfl rfl) rfl ?_;clear H;intro a H;refine s_call Rh H wn rfl (Ve _ _ H.ro D l hv hz) rfl ?_;clear H;rintro v6 G6 a w ⟨ba,bl,bp,rfl,hit⟩ Jg H;refine aJ ?_;refine K4 _ _ ?_;clear K4;refine sD ?_;skip;refine BP (ι:=aj × List aj × OL) (κ:=Empty) (Lc:=[(_,_)]) (fun (k:Nat) (gh:aj × List aj × OL)=>[(b3,.cells #[gh.1] 52 (0,0))]) (fun (k:Nat) (gh:aj × List aj × OL)=>gh.2.2) (fun (k:Nat) (gh:aj × List aj × OL) (g:GH)=>gQ 3 1 gh.1 k gh.2.1 gh.2.2∧ig g 1 (((dx l).take k).map fun f:jh=>[li f.id]) gh.2.1) (fun x=>x.elim) (fun x=>x.elim) (fun x=>x.elim) (fun x=>x.elim) ((.slice none 0 0,[],[])) (by exact H.Vd (A:=[_,_])) rfl Nw (hit) (fun _ _ h=>h) rfl (fun k args g h=>by obtain ⟨_,_,_,_,rfl,_⟩:=IZ h;rfl) (fun k i G G' hm h=>⟨h.1,h.2.mono hm⟩) (fun x=>x.elim) (⟨gQ.nil,ig.nil⟩) ?_ ?_ ?_
 ·clear H;intro l3 uX sw bk k args gh G3 w3 F3 B3 a hk3 qM hI Gy GU UF H;obtain ⟨v,xs,Lo⟩:=gh;dsimp only at hI H;obtain ⟨hk,vA,vn,vc,rfl,hfr⟩:=IZ hk3;dsimp only [qX,List.cons_append,List.nil_append] at H;obtain ⟨hrw,rO⟩:=hI;refine kP H (SC (Ra rfl ?_));clear H;intro a H;refine aJ ?_;refine Gy _ _ _ _ _ _ (by exact H) ?_;clear H;intro w H;refine kP H (SB (SC (Ro wQ 2 rfl (Rm rfl ?_))));clear H;intro a H;refine jy lT aD [_] [_] H wn rfl rfl rfl rfl rfl (by intro i q h;match i,h with|0,h=>exact h|n+1,h=>simp at h) rfl rfl ?_;clear H;intro b11 a w Gw H;refine E8 (Li:=[_,_,_,_]++bk) (Lo:=Lo) (news:=[vi (dx l)[k].id]) lT aD rfl rfl (St.un (A:=[_,_,_,_]) H) wn rfl rfl hrw rfl (H.hp.gB 0 rfl rfl) rfl (by omega) (by omega) rfl ?_;clear H;intro v12 ady a w aah H;obtain ⟨A12,c12,rfl,-,-⟩:=aah.shape
  simp only [jQ,nS,kD] at H
  refine bT wQ 3 (vs:=[_]) _ H wn rfl rfl rfl rfl rfl rfl rfl rfl ?_;clear H;intro w H;dsimp only [List.set,setRow] at H;refine aJ ?_;refine GU ((.slice A12 (k+1) c12,xs++[vi (dx l)[k].id],ady)) _ _ _ _ _ (by exact H.dB (Pl:=[_,_,_,_]) (cB:=[_,_,_]) [1,2,3] (by decide) rfl) ?_;exact ⟨aah,by rw [mV hk,mW];exact rO.snoc (akz _ _) rfl⟩
 ·clear H;intro P8 gh Qi a w qM hI H;obtain ⟨v,xs,Lo⟩:=gh;dsimp only at hI H;dsimp only [lca,aO] at H;obtain ⟨hrw,rO⟩:=hI;rw [bQ] at hrw rO;rw [Eo] at rO;refine K3 _ _ ?_;clear K3;refine kP H (SR fun _ K5=>Ro wQ 2 rfl (ak K5 rfl ?_));clear H K5;intro a H;refine dG ?_;refine (xL H 0 rfl ?_).1;clear H;intro a w H;dsimp only [List.eraseIdx_cons_succ,List.eraseIdx_cons_zero] at H;refine lv H results28 rfl ?_;obtain ⟨Gr,hmr,hrep,H⟩:=St.Gf (Li:=[_,_]) H hrw (rows:=(dx l).map fun f:jh=>[li f.id]) (by simp) rO;exact H.rt hrep
 intro Dk x;exact x.elim
theorem Wi (l:List ay) (hz:bq l≤1073741824) (k:Nat) (hk:k≤(dx l).length):0≤kR ((dx l).take k)∧kR ((dx l).take k)≤4611686018427387904:=by
 have hn:=DY false 0 l
 have hl:(dx l).length≤1073741825:=by rw [dx,kW];omega
 have h:∀ k,k≤(dx l).length→0≤kR ((dx l).take k)∧kR ((dx l).take k)≤k*1073741824:=by
  intro k
  induction k with
  | zero=>intro _;exact ⟨by simp [kR],by simp [kR]⟩
  | succ k ih =>
   intro hk;obtain ⟨h1,h2⟩:=ih (by omega);have h3:=RY (jv (show k < (dx l).length by omega))
   have h4:0≤oQ (dx l)[k].items∧oQ (dx l)[k].items≤bq (dx l)[k].items:=by
    unfold oQ
    have h5:=PD (dx l)[k].items;have h6:=V5 (dx l)[k].items
    split <;> omega
   rw [MF (by omega)]
   push_cast
   omega
 obtain ⟨h1,h2⟩:=h k hk;exact ⟨h1,by omega⟩
end
section
open Go.RowKit
abbrev Fa (l:List Int):List (Int × aj):=l.map fun q=>(q,.bool true)
theorem abM (l:List Int):(Fa l).map (·.1)=l:=by rw [List.map_map];simp [Function.comp_def]
theorem U8:∀ (i:Nat) (l:List (Int × aj)),(pJ i l).map (·.key)=l.map fun x=>Value.int .i64 x.1
 | _,[]=>rfl
 | i,(k,v) :: r=>by rw [pJ,dV,dV,U8 (i+1) r]
theorem U7:∀ (i:Nat) (l:List (Int × aj)),(pJ i l).map (·.born)=List.range' i l.length
 | _,[]=>rfl
 | i,(k,v) :: r=>by rw [pJ,dV,U7 (i+1) r];rfl
theorem alg {l:List (Int × aj)} (h:(l.map (·.1)).Nodup):MapKept.Stamped (pJ 0 l).toArray l.length:=by
 refine ⟨fun x hx=>?_,?_,?_⟩
 ·have h1:=List.mem_map_of_mem (f:=(·.born)) hx
  rw [U7] at h1
  have:=List.mem_range'_1.1 h1
  omega
 ·show ((pJ 0 l).map (·.born)).Nodup
  rw [U7];exact List.nodup_range'
 ·show ((pJ 0 l).map (·.key)).Nodup
  rw [U8,show (fun x:Int × aj=>Value.int .i64 x.1)=Value.int .i64 ∘ (·.1) from rfl,← List.map_map]
  exact List.pairwise_map.2 (h.imp fun hne e=>hne (by injection e))
section
variable {N:Nat} {D:List Deferred} {w0:World} {F:Nat→Prop} {G0 G:GH} {L:OL} {T:List (Nat × aj)}
variable {r:Option Nat} {P:Program} {ops:Array Oper} {Q:Exit→Act→World→Prop} {rest:List Oper} {a:Act} {w:World}
variable {d:Nat} {ty:TypeId} {pos:String} {aR:Array Edge} {g:Option (Nat × Bool)}
end
end
section
open Go.RowKit
theorem agK:∀ args w,(callFunc 59 args).run prog w=.ok (.enter 59 args) w:=enters func59 rfl (by kernel_rfl)
theorem agJ:∀ args w,(callFunc 58 args).run prog w=.ok (.enter 58 args) w:=enters func58 rfl (by kernel_rfl)
theorem anG (G:GH) (w0:World) (hG:Hold G w0) (b bx:Nat) (l:List Int) (hbx:G bx=some (.cells #[.map (some b)] 96 (0,0))) (hb:w0.heap[b]?=some (fu (Fa l))) (hn:l.Nodup) (hw:∀ k∈l,-9223372036854775808≤k∧k < 9223372036854775808) (hl:l.length≤4294967296) :
  Calls prog 58 #[.func (.func 111) #[] #[(aQ bx 0)]] w0 (bY w0 G fun u G'=>aC G' (.sl 1 ((rW l).map fun k=>[li k])) u) :=
 anH G w0 hG b bx _ _ l hbx hb (alg (by rw [abM];exact hn)) (by show (pJ 0 (Fa l)).map (·.key)=_;rw [U8,List.map_map];rfl) hw hl
theorem abf {α:Type} {l:List α} (h:l.Nodup) {k:Nat} (hk:k < l.length):l[k]∉l.take k:=by
 intro hm;obtain ⟨i,hi,e⟩:=List.getElem_of_mem hm;rw [List.length_take] at hi;rw [List.getElem_take] at e;exact List.pairwise_iff_getElem.1 h i k (by omega) hk (by omega) e
theorem afi (G:GH) (w0:World) (hG:Hold G w0) (D:jT) (l:List ay) (hv:aC G (.sl 11 (l.map ay.dat)) (bU D.f)) (hz:bq l≤4294967296) (hn:(gF l).Nodup) (hw:∀ k∈gF l,-9223372036854775808≤k∧k < 9223372036854775808) (hl:(gF l).length≤4294967296) :
  Calls prog 19 #[D.val] w0 (bY w0 G fun u G'=>aC G' (.sl 1 ((rW (gF l)).map fun k=>[li k])) u):=by
 refine eN [(0,_)] func19 rfl ntmps19 rfl rfl hG ?_;intro a H;refine dh (fun _ K1=>?_);refine fB (cs:=[_,_,_,_,_,_,_,_,_,_,_]) H wn rfl rfl rfl ?_;clear H;intro b1 a w hb1 H;refine kH H (ak K1 rfl (SR fun _ K2=>?_));clear H K1;intro a H;refine Ib H wn rfl ?_;clear H;intro b5 a w hb5 H;refine eH wR H wn rfl ?_;clear H;intro b3 a w hb3 H;refine bT wR 0 (vs:=[_]) _ H wn rfl rfl rfl rfl rfl rfl rfl rfl ?_;clear H;intro w H;dsimp only [List.set,setRow] at H;refine K2 _ _ ?_;clear K2;refine aN (fun _ K3=>?_);refine dh (fun _ K4=>?_);refine bP lX (cs:=[_,_,_,_,_,_,_,_,_,_,_]) H wn rfl rfl (H.hp.gB 2 rfl rfl) rfl ?_;clear H;intro a H;refine s_call YQ H wn rfl (aay _ _ H.ro D l hv hz) rfl ?_;clear H;rintro v7 G7 a w ⟨bd,rfl,hit⟩ xI H;refine K4 _ _ ?_;clear K4;refine sD ?_;skip;refine BP (ι:=Unit) (κ:=Empty) (Lc:=[(_,_),(_,_)]) (fun (k:Nat) (gh:Unit)=>[(b5,fu (Fa ((gF l).take k)))]) (fun (k:Nat) (gh:Unit)=>[]) (fun (k:Nat) (gh:Unit) (g:GH)=>True) (fun x=>x.elim) (fun x=>x.elim) (fun x=>x.elim) (fun x=>x.elim) (()) (by exact H.dB (Pl:=[_,_,_]) (cB:=[_,_,_]) [0,2,1] (by decide) rfl) rfl QT (hit) (fun _ _ h=>h) rfl (fun k args g h=>by obtain ⟨_,rfl⟩:=LU h;rfl) (fun _ _ _ _ _ h=>h) (fun x=>x.elim) (trivial) ?_ ?_ ?_
 ·clear H;intro l3 uX sw bk k args gh G3 w3 F3 B3 a hk3 qM hI Gy GU UF H;obtain ⟨hk,rfl⟩:=LU hk3;dsimp only [qX,List.cons_append,List.nil_append] at H;refine kP H (SC (Ra rfl ?_));clear H;intro a H;refine aJ ?_;refine Gy _ _ _ _ _ _ (by exact H) ?_;clear H;intro w H;refine kP H (SB (SC (Ro wR 1 rfl (Rm rfl ?_))));clear H;intro a H;refine JI (i:=3) Ak nZ H wn rfl rfl rfl rfl (LX (by rw [abM];exact abf hn hk)) ?_;clear H;intro w H;dsimp only [List.set] at H;rw [show Fa ((gF l).take k)++[((gF l)[k],Value.bool true)]=Fa ((gF l).take (k+1)) from by rw [mV hk];unfold Fa;rw [mW];rfl] at H;refine aJ ?_;refine GU (()) _ _ _ _ _ (by exact H) ?_
  trivial
 ·clear H;intro P8 gh Qi a w qM hI H;dsimp only [lca,aO] at H;refine K3 _ _ ?_;clear K3;refine aN (fun _ K5=>?_);rw [lZ (by simp)] at H;refine kP H (SC (Ro wR 1 rfl ?_));clear H;intro a H;refine s_call agK H wn rfl (alh _ _ H.ro _) rfl ?_;clear H;rintro v12 yw a w ⟨bx,rfl,hbx⟩ xH H;refine s_call agJ H wn rfl (anG _ _ H.ro b5 bx _ hbx (H.hp.own (b5,fu (Fa (gF l))) (by simp)) hn hw hl) rfl ?_;clear H;rintro v13 Ao a w akb rQ H;refine kH H (aM K5 rfl ?_);clear H K5;intro a H;refine dG ?_;refine (xL H 0 rfl ?_).1;clear H;intro a w H;dsimp only [List.eraseIdx_cons_succ,List.eraseIdx_cons_zero] at H;refine lv H results19 rfl ?_;exact H.rt akb
 intro Dk x;exact x.elim
end
section
open Go.RowKit
theorem EB {G:GH} {b:Nat} {cs:List aj} {e:TypeId} {q:Nat × Nat} (h:G b=some (.cells cs.toArray e q)) (k:Nat) (ds:List aj) (hd:ds=(cs.drop k).take ds.length) (j:Nat) (v:aj) (hj:ds[j]?=some v):aG G b (k+j)=some v:=by
 unfold aG
 rw [h]
 show cs.toArray[k+j]?=some v
 rw [hd,zK] at hj
 split at hj
 ·simpa using hj
 cases hj
end
section
open Go.RowKit
def kM (s:CS) (z:Nat) (r:CR):Prop:=r.2.aU.length≤s.aU.length+z
theorem kM.and {s:CS} {z y q:Nat} {r:CR} {f:CS→CR} (h:kM s z r) (hq:z+y≤q) (hf:∀ s,kM s y (f s)):kM s q (fG r f):=by
 unfold kM at *
 unfold fG
 split
 ·omega
 have:=hf r.2
 omega
theorem kM.zero (s:CS) (e:Int) (q:Nat):kM s q (e,s):=by unfold kM;dsimp only;omega
theorem kM.le {s:CS} {z y:Nat} {r:CR} (h:kM s z r) (hq:z≤y):kM s y r:=by unfold kM at *;omega
theorem akk (us l:List Int) (x:Int):(jm us l x).length≤l.length+1:=by
 unfold jm
 split
 ·simp
 omega
theorem PU (C:dL) (s:CS) (x:Int):kM s 1 (iK C s x):=akk _ _ _
theorem aom (C:dL) (body note:Bool) (t k i:Int) (s:CS):kM s 1 (jo C body note t k i s):=by
 unfold jo
 (repeat' split) <;> first|exact kM.zero _ _ _|exact (kM.zero _ _ 0).and (y:=1) (by omega) fun s=>PU _ _ _
mutual
theorem acw (C:dL) (body note:Bool) (t:Int):∀ (x:ay) (s:CS),kM s (cO x.dat) (dY C body note t x s)
 | .mk k c i tx h f r,s=>by
  have hz:=oW (.mk k c i tx h f r);have hf:=Wh C false true t f;have hr:=acy C note (t+1) r;rw [dY];dsimp only [ay.text,ay.flow,ay.rows,ay.head] at hz;refine (kM.zero s _ 0).and (Nat.le_of_eq (nT _)) fun s=>?_;refine kM.and (z:=1) (s:=s) (aom C body note t k i ⟨_,s.aU⟩) (y:=bq f+eD r) (by omega) fun s=>(kM.zero s _ 0).and (Nat.le_of_eq (nT _)) fun s=>?_
  by_cases h6:k=6
  ·rw [au h6];exact (hf s).le (by omega)
  rw [ah h6]
  by_cases h7:k=7
  ·rw [au h7]
   unfold jS
   by_cases c1:r.length=0
   ·rw [au c1];exact kM.zero _ _ _
   rw [ah c1]
   by_cases c2:256 < r.length
   ·rw [au c2];exact kM.zero _ _ _
   rw [ah c2];exact (hr s).le (by omega)
  rw [ah h7];exact kM.zero _ _ _
theorem aon (C:dL) (note:Bool) (t:Int):∀ (x:bH) (s:CS),kM s (cO x.dat) (uY C note t x s)
 | .mk h cs,s=>by
  have hz:=uD (.mk h cs);have hc:=acv C note t cs;rw [H8];dsimp only [bH.cells,bH.head] at hz ⊢;exact (kM.zero s _ 0).and (y:=iw cs) (by omega) fun s=>hc s
theorem acu (C:dL) (note:Bool) (t:Int):∀ (x:bD) (s:CS),kM s (cO x.dat) (cellC C note t x s)
 | .mk i h f,s=>by
  have hz:=uz (.mk i h f);have hf:=Wh C false note t f;rw [zL];dsimp only [bD.flow,bD.head,bD.id] at hz ⊢;exact (PU C s _).and (y:=bq f) (by omega) fun s=>(kM.zero s _ 0).and (Nat.le_of_eq (nT _)) fun s=>hf s
theorem Wh (C:dL) (body note:Bool) (t:Int):∀ (l:List ay) (s:CS),kM s (bq l) (fq C body note t l s)
 | [],s=>by rw [fq];exact kM.zero _ _ _
 | x :: r,s=>by
  rw [fq];exact (acw C body note t x s).and (y:=bq r) (by simp only [bq,dV,dZ];omega) fun s=>Wh C body note t r s
theorem acy (C:dL) (note:Bool) (t:Int):∀ (l:List bH) (s:CS),kM s (eD l) (fH C note t l s)
 | [],s=>by rw [fH];exact kM.zero _ _ _
 | x :: r,s=>by
  rw [fH];exact (aon C note t x s).and (y:=eD r) (by simp only [eD,dV,dZ];omega) fun s=>acy C note t r s
theorem acv (C:dL) (note:Bool) (t:Int):∀ (l:List bD) (s:CS),kM s (iw l) (kE C note t l s)
 | [],s=>by rw [kE];exact kM.zero _ _ _
 | x :: r,s=>by
  rw [kE];exact (acu C note t x s).and (y:=iw r) (by simp only [iw,dV,dZ];omega) fun s=>acv C note t r s
end
theorem Iy {C:dL} {body note:Bool} {t:Int} {x:ay} {s s':CS} {e:Int} (h:dY C body note t x s=(e,s')):s.n≤s'.n∧s'.n≤s.n+cO x.dat∧s'.aU.length≤s.aU.length+cO x.dat:=by
 have h1:=Wj C body note t x s;have h2:=acw C body note t x s;rw [h] at h1 h2;exact ⟨h1.1,h1.2,h2⟩
theorem adX {C:dL} {note:Bool} {t:Int} {x:bD} {s s':CS} {e:Int} (h:cellC C note t x s=(e,s')):s.n≤s'.n∧s'.n≤s.n+cO x.dat∧s'.aU.length≤s.aU.length+cO x.dat:=by
 have h1:=acD C note t x s;have h2:=acu C note t x s;rw [h] at h1 h2;exact ⟨h1.1,h1.2,h2⟩
theorem akD {C:dL} {body note:Bool} {t:Int} {l:List ay} {k:Nat} (hk:k < l.length) (s:CS):fq C body note t (l.drop k) s=fG (dY C body note t l[k] s) fun s=>fq C body note t (l.drop (k+1)) s:=by rw [jV hk,fq]
theorem amC {C:dL} {note:Bool} {t:Int} {l:List bH} {k:Nat} (hk:k < l.length) (s:CS):fH C note t (l.drop k) s=fG (uY C note t l[k] s) fun s=>fH C note t (l.drop (k+1)) s:=by rw [jV hk,fH]
theorem aem {C:dL} {note:Bool} {t:Int} {l:List bD} {k:Nat} (hk:k < l.length) (s:CS):kE C note t (l.drop k) s=fG (cellC C note t l[k] s) fun s=>kE C note t (l.drop (k+1)) s:=by rw [jV hk,kE]
theorem Wv {l:List ay} {k:Nat} (hk:k < l.length):bq (l.drop k)=1+cO l[k].dat+bq (l.drop (k+1)):=by
 simp only [bq];rw [jV hk,dV,dZ]
theorem Wx {l:List bH} {k:Nat} (hk:k < l.length):eD (l.drop k)=1+cO l[k].dat+eD (l.drop (k+1)):=by
 simp only [eD];rw [jV hk,dV,dZ]
theorem Wu {l:List bD} {k:Nat} (hk:k < l.length):iw (l.drop k)=1+cO l[k].dat+iw (l.drop (k+1)):=by
 simp only [iw];rw [jV hk,dV,dZ]
end
end Go.Proofs.YthmanofbmnfemaaGreat
