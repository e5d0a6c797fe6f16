/-
  What the claim stands on, part 4: Cid Mt Ehd Hdr Hea Frm Itc Vis Okd Rws Itm Its Rvs Chd Ck13 Cl Rc Ct Nf Vc Ubf Av16 Frs Hds.
-/
import Derived.Test.YthmanofbmnfemaaGreatWdc
namespace Go.Proofs.YthmanofbmnfemaaGreat
open Go.Proofs.Tryz
set_option maxRecDepth 20000
set_option maxHeartbeats 4000000
section
open Go.RowKit
instance:dL prog 98 4 4:=⟨by kernel_rfl⟩
instance:dL prog 98 3 3:=⟨by kernel_rfl⟩
variable {us:List Int}
theorem Fu (x:Int):∀ l:List Int,(vT x (fI l)).getD (.bool false)=.bool (decide (x∈l))
 | []=>rfl
 | k :: r=>by
  have ih:=Fu x r;rw [fI,dR,vT]
  by_cases e:k=x
  ·subst e;simp
  rw [ah e,show (r.map fun k=>(k,Value.bool true))=fI r from rfl,ih]
  simp [show x≠k from fun h=>e h.symm]
def Ep (st:List bH) (v:Int):Int:=((st.find? fun s=>decide (s.id=v)).map bH.kind).getD 0
theorem Ng (x:Int):∀ l:List bH,(vT x (Bn l)).getD (vi 0)=vi (Ep l x)
 | []=>rfl
 | s :: r=>by
  have ih:=Ng x r;rw [Bn,dR,vT]
  by_cases e:s.id=x
  ·subst e;simp [Ep]
  rw [ah e,show (r.map fun s=>(s.id,vi s.kind))=Bn r from rfl,ih]
  simp [Ep,e]
def lJ (us aU:List Int) (x:Int):Int:=if ¬ (1≤x∧x≤1073741824)∨x∈us then 18 else if x∈aU then 7 else 0
def iQ (us aU:List Int) (x:Int):List Int:=if lJ us aU x=0 then aU++[x] else aU
theorem aqV (l:List Int) (x:Int):fI (l++[x])=fI l++[(x,.bool true)]:=by simp [fI]
theorem Tq (G:GH) (L:OL) (w0:World) (st:List bH) (li:List dz) (rv:List bD) (b ms ml mr mb mu:Nat) (n:Int) (aU:List Int) (x:Int) (hck:xL us G st li rv ms ml mr mu) (hO:fM G (fZ b ms ml mr mb mu n :: (mb,eP (fI aU)) :: L) w0) :
  Calls prog 163 #[(aK b 0),vi x] w0 (fB w0 G (fZ b ms ml mr mb mu n :: (mb,eP (fI aU)) :: L) fun u G' L'=>u=vi (lJ us aU x)∧L'=fZ b ms ml mr mb mu n :: (mb,eP (fI (iQ us aU x))) :: L∧G=G'):=by
 refine iM (N:=29) (T:=[(0,_),(1,_)]) func163 rfl ntmps163 rfl rfl hO ?_;refine aj 7 ?_;intro a H;refine s_call yU H wn rfl (zl _ _ H.ro x 1 1073741824) rfl ?_;clear H;rintro v7 _ a w ⟨rfl,rfl⟩ - H;refine jA 2 9 H ?_ ?_ <;> clear H
 ·intro h9
  try have p9:=dT h9
  refine aj 10 ?_
  have e:lJ us aU x=18:=by rw [lJ,au (by first|(simp_all;done)|(simp_all;omega))]
  refine aj 3 ?_;intro a H;refine lr H results163 rfl ?_
  first
   | exact H.hp.dO ⟨by rw [e],by rw [iQ,au e],rfl⟩
   | exact H.hp.dO ⟨by rw [e],by rw [iQ,ah (by rw [e];decide)],rfl⟩
 intro h9
 try have p9:=dF h9
 refine aj 1 ?_;intro a H;refine uS H (wg H rfl rfl h9) rfl rfl ?_;clear H;refine aj 3 ?_;intro a H;refine Bu (zv:=.bool false) xG lZ (by kernel_rfl) H (wg H rfl rfl h9) rfl rfl (H.ro _ _ hck.use) rfl ?_;clear H;intro a H;rw [Fu] at H;refine eO 3 H ?_ ?_ <;> clear H
 ·intro p5
  have e:lJ us aU x=18:=by rw [lJ,au (by first|(simp_all;done)|(simp_all;omega))]
  refine aj 3 ?_;intro a H;refine lr H results163 rfl ?_
  first
   | exact H.hp.dO ⟨by rw [e],by rw [iQ,au e],rfl⟩
   | exact H.hp.dO ⟨by rw [e],by rw [iQ,ah (by rw [e];decide)],rfl⟩
 intro p5
 have hin:¬ (¬ (1≤x∧x≤1073741824)∨x∈us):=by first|(simp_all;done)|(simp_all;omega)
 refine aj 6 ?_;intro a H;refine Bu (zv:=.bool false) xG lZ (by kernel_rfl) H wn rfl rfl (H.hp.own _ (jT _ gP)) rfl ?_;clear H;intro a H;rw [Fu] at H;refine fE 2 H ?_ ?_ <;> clear H
 ·intro jd
  have e:lJ us aU x=7:=by rw [lJ,ah hin,au (lQ jd)]
  refine aj 3 ?_;intro a H;refine lr H results163 rfl ?_
  first
   | exact H.hp.dO ⟨by rw [e],by rw [iQ,au e],rfl⟩
   | exact H.hp.dO ⟨by rw [e],by rw [iQ,ah (by rw [e];decide)],rfl⟩
 intro jd
 have hx:x∉aU:=of_decide_eq_false jd;have hnew:vT x (fI aU)=none:=Nf (by simpa [fI,List.map_map,Function.comp_def] using hx)
 have e:lJ us aU x=0:=by rw [lJ,ah hin,ah hx]
 refine aj 7 ?_;intro a H;refine NC (i:=1) xG lZ H wn rfl rfl rfl rfl hnew ?_;clear H;intro w H;dsimp only [List.set] at H;rw [← aqV] at H;refine aH 4 H ?_;clear H;intro a H;refine lr H results163 rfl ?_
 first
  | exact H.hp.dO ⟨by rw [e],by rw [iQ,au e],rfl⟩
  | exact H.hp.dO ⟨by rw [e],by rw [iQ,ah (by rw [e];decide)],rfl⟩
def jY (st:List bH) (lU:List Int) (key v:Int):Int :=
 if key=20∨key=1 then bK (decide (v≠0∧Ep st v≠(if key=1 then 2 else 1))) 25 else if key=33 then bK (decide (v≠0∧v∉lU)) 26 else 0
theorem Tt (G:GH) (w0:World) (hG:Hold G w0) (st:List bH) (li:List dz) (rv:List bD) (b ms ml mr mb mu:Nat) (n:Int) (key v:Int) (hck:xL us G st li rv ms ml mr mu) (hb:G b=some (fZ b ms ml mr mb mu n).2) :
  Calls prog 135 #[(aK b 0),vi key,vi v] w0 (bB w0 G fun u G'=>u=vi (jY st (li.map dz.id) key v)∧G=G'):=by
 have hc0:aC G b 0=some (.map (some ms)):=by unfold aC;rw [hb];rfl
 have hc1:aC G b 1=some (.map (some ml)):=by unfold aC;rw [hb];rfl
 refine eN [(0,_),(1,_),(2,_)] func135 rfl ntmps135 rfl rfl hG ?_;refine goC 13 ?_ ?_
 ·intro h9
  try have p9:=dT h9
  refine goB 10 ?_ ?_
  ·intro oJ
   refine iV 7 16 ?_ ?_
   ·intro h16
    try have p16:=dT h16
    refine aj 1 ?_;intro a H;refine uS H (wg H rfl rfl h16) rfl rfl ?_;clear H;refine aj 3 ?_;intro a H;refine Bu (zv:=vi 0) FQ lZ (by kernel_rfl) H (wg H rfl rfl h16) rfl rfl (H.ro _ _ hck.sty) rfl ?_;clear H;intro a H;rw [Ng] at H;refine aH 3 H ?_;clear H;intro a H;refine s_call jF H wn rfl (jK _ _ H.ro _ 25) rfl ?_;clear H;rintro v26 _ a w ⟨rfl,rfl⟩ - H;refine gK 2 H ?_;exact ⟨aB vi (by unfold jY;(repeat' split) <;> first|rfl|(simp_all;done)|(exfalso;simp_all;done)|(congr 1;rw [lq];simp only [ug,oP,lN];exact ⟨fun h=>⟨p31,h⟩,fun h=>h.2⟩)),rfl⟩
   intro h16
   try have p16:=dF h16
   refine aj 9 ?_;intro a H;refine s_call jF H wn rfl (jK _ _ H.ro _ 25) rfl ?_;clear H;rintro v26 _ a w ⟨rfl,rfl⟩ - H;refine gK 2 H ?_;exact ⟨aB vi (by unfold jY;(repeat' split) <;> first|rfl|(simp_all;done)|(exfalso;simp_all;done)|(congr 1;rw [lq];simp only [ug,oP,lN];exact ⟨fun h=>⟨p31,h⟩,fun h=>h.2⟩)),rfl⟩
  intro oJ
  refine iV 5 16 ?_ ?_
  ·intro h16
   try have p16:=dT h16
   refine aj 1 ?_;intro a H;refine uS H (wg H rfl rfl h16) rfl rfl ?_;clear H;refine aj 3 ?_;intro a H;refine Bu (zv:=vi 0) FQ lZ (by kernel_rfl) H (wg H rfl rfl h16) rfl rfl (H.ro _ _ hck.sty) rfl ?_;clear H;intro a H;rw [Ng] at H;refine aH 3 H ?_;clear H;intro a H;refine s_call jF H wn rfl (jK _ _ H.ro _ 25) rfl ?_;clear H;rintro v26 _ a w ⟨rfl,rfl⟩ - H;refine gK 2 H ?_;exact ⟨aB vi (by unfold jY;(repeat' split) <;> first|rfl|(simp_all;done)|(exfalso;simp_all;done)|(congr 1;rw [lq];simp only [ug,oP,lN];exact ⟨fun h=>⟨p31,h⟩,fun h=>h.2⟩)),rfl⟩
  intro h16
  try have p16:=dF h16
  refine aj 9 ?_;intro a H;refine s_call jF H wn rfl (jK _ _ H.ro _ 25) rfl ?_;clear H;rintro v26 _ a w ⟨rfl,rfl⟩ - H;refine gK 2 H ?_;exact ⟨aB vi (by unfold jY;(repeat' split) <;> first|rfl|(simp_all;done)|(exfalso;simp_all;done)|(congr 1;rw [lq];simp only [ug,oP,lN];exact ⟨fun h=>⟨p31,h⟩,fun h=>h.2⟩)),rfl⟩
 intro h9
 try have p9:=dF h9
 refine goB 4 ?_ ?_
 ·intro p9
  refine goB 8 ?_ ?_
  ·intro oJ
   refine iV 7 16 ?_ ?_
   ·intro h16
    try have p16:=dT h16
    refine aj 1 ?_;intro a H;refine uS H (wg H rfl rfl h16) rfl rfl ?_;clear H;refine aj 3 ?_;intro a H;refine Bu (zv:=vi 0) FQ lZ (by kernel_rfl) H (wg H rfl rfl h16) rfl rfl (H.ro _ _ hck.sty) rfl ?_;clear H;intro a H;rw [Ng] at H;refine aH 3 H ?_;clear H;intro a H;refine s_call jF H wn rfl (jK _ _ H.ro _ 25) rfl ?_;clear H;rintro v26 _ a w ⟨rfl,rfl⟩ - H;refine gK 2 H ?_;exact ⟨aB vi (by unfold jY;(repeat' split) <;> first|rfl|(simp_all;done)|(exfalso;simp_all;done)|(congr 1;rw [lq];simp only [ug,oP,lN];exact ⟨fun h=>⟨p31,h⟩,fun h=>h.2⟩)),rfl⟩
   intro h16
   try have p16:=dF h16
   refine aj 9 ?_;intro a H;refine s_call jF H wn rfl (jK _ _ H.ro _ 25) rfl ?_;clear H;rintro v26 _ a w ⟨rfl,rfl⟩ - H;refine gK 2 H ?_;exact ⟨aB vi (by unfold jY;(repeat' split) <;> first|rfl|(simp_all;done)|(exfalso;simp_all;done)|(congr 1;rw [lq];simp only [ug,oP,lN];exact ⟨fun h=>⟨p31,h⟩,fun h=>h.2⟩)),rfl⟩
  intro oJ
  refine iV 5 16 ?_ ?_
  ·intro h16
   try have p16:=dT h16
   refine aj 1 ?_;intro a H;refine uS H (wg H rfl rfl h16) rfl rfl ?_;clear H;refine aj 3 ?_;intro a H;refine Bu (zv:=vi 0) FQ lZ (by kernel_rfl) H (wg H rfl rfl h16) rfl rfl (H.ro _ _ hck.sty) rfl ?_;clear H;intro a H;rw [Ng] at H;refine aH 3 H ?_;clear H;intro a H;refine s_call jF H wn rfl (jK _ _ H.ro _ 25) rfl ?_;clear H;rintro v26 _ a w ⟨rfl,rfl⟩ - H;refine gK 2 H ?_;exact ⟨aB vi (by unfold jY;(repeat' split) <;> first|rfl|(simp_all;done)|(exfalso;simp_all;done)|(congr 1;rw [lq];simp only [ug,oP,lN];exact ⟨fun h=>⟨p31,h⟩,fun h=>h.2⟩)),rfl⟩
  intro h16
  try have p16:=dF h16
  refine aj 9 ?_;intro a H;refine s_call jF H wn rfl (jK _ _ H.ro _ 25) rfl ?_;clear H;rintro v26 _ a w ⟨rfl,rfl⟩ - H;refine gK 2 H ?_;exact ⟨aB vi (by unfold jY;(repeat' split) <;> first|rfl|(simp_all;done)|(exfalso;simp_all;done)|(congr 1;rw [lq];simp only [ug,oP,lN];exact ⟨fun h=>⟨p31,h⟩,fun h=>h.2⟩)),rfl⟩
 intro p9
 refine goB 4 ?_ ?_
 ·intro p27
  refine iV 4 31 ?_ ?_
  ·intro h31
   try have p31:=dT h31
   refine aj 1 ?_;intro a H;refine uS H (wg H rfl rfl h31) rfl rfl ?_;clear H;refine aj 3 ?_;intro a H;refine Bu (zv:=.bool false) xG lZ (by kernel_rfl) H (wg H rfl rfl h31) rfl rfl (H.ro _ _ hck.lU) rfl ?_;clear H;intro a H;rw [Fu] at H;refine aH 2 H ?_;clear H;intro a H;refine s_call jF H wn rfl (jK _ _ H.ro _ 26) rfl ?_;clear H;rintro v40 _ a w ⟨rfl,rfl⟩ - H;refine gK 2 H ?_;exact ⟨aB vi (by unfold jY;(repeat' split) <;> first|rfl|(simp_all;done)|(exfalso;simp_all;done)|(congr 1;rw [lq];simp only [ug,oP,lN];exact ⟨fun h=>⟨p31,h⟩,fun h=>h.2⟩)),rfl⟩
  intro h31
  try have p31:=dF h31
  refine aj 8 ?_;intro a H;refine s_call jF H wn rfl (jK _ _ H.ro _ 26) rfl ?_;clear H;rintro v40 _ a w ⟨rfl,rfl⟩ - H;refine gK 2 H ?_;exact ⟨aB vi (by unfold jY;(repeat' split) <;> first|rfl|(simp_all;done)|(exfalso;simp_all;done)|(congr 1;rw [lq];simp only [ug,oP,lN];exact ⟨fun h=>⟨p31,h⟩,fun h=>h.2⟩)),rfl⟩
 intro p27
 refine aJ 4 ?_;exact ⟨aB vi (by unfold jY;(repeat' split) <;> first|rfl|(simp_all;done)|(exfalso;simp_all;done)|(congr 1;rw [lq];simp only [ug,oP,lN];exact ⟨fun h=>⟨p31,h⟩,fun h=>h.2⟩)),rfl⟩
end
section
open Go.RowKit
section
variable {N:Nat} {D:List Deferred} {w0:World} {F:Nat→Prop} {G0 G G':GH} {L L':OL} {T:List (Nat × ak)}
variable {r:Option Nat} {P:Program} {ops:Array Oper} {Q:Exit→Act→World→Prop} {rest:List Oper} {a:Act} {w w':World}
theorem mI {ι:Type} {Tc:List (Nat × ak)} {l:List Oper} (k:Nat) (Tv:ι→List (Nat × ak)) (Pr:ι→Prop) (_:St N D w0 F G0 G L Tc a w)
  (h1:(∀ i a w,Pr i→St N D w0 F G0 G L (Tv i++Tc) a w→WL r P ops Q (l.drop k) a w)→WL r P ops Q l a w)
  (h2:∀ i a w,Pr i→St N D w0 F G0 G L (Tv i++Tc) a w→WL r P ops Q (l.drop k) a w):WL r P ops Q l a w:=h1 h2
theorem Change.back (h:Change w w' G G' L L'):Change w w' G G L L' :=
 ⟨h.os,h.tape,h.output,h.size,h.fr,fun _ _ h=>h,fun _ _ h=>.inl h,⟨fun k o hk=>h.owns.ro k o (h.gm k o hk),h.owns.own,fun p hp=>(by
  have hs:=h.owns.sep p hp
  cases hg:G p.1 with
  | none=>rfl
  | some o=>have:=h.gm _ _ hg;rw [hs] at this;cases this),h.owns.nd⟩,h.lx⟩
theorem fB.back {R:ak→GH→OL→Prop} {R':ak→OL→Prop} (hR:∀ v G' L',R v G' L'→R' v L') {e:Ending} (h:fB w G L R e w'):fB w G L (fun v G' L'=>G=G'∧R' v L') e w':=by
 obtain ⟨v,G',L',rfl,hc,hr⟩:=h
 exact ⟨v,G,L',rfl,hc.back,rfl,hR _ _ _ hr⟩
theorem Calls.ahk {f:FuncId} {args:Array ak} {R:ak→GH→OL→Prop} {R':ak→OL→Prop} (h:Calls P f args w (fB w G L R)) (hR:∀ v G' L',R v G' L'→R' v L'):Calls P f args w (fB w G L fun v G' L'=>G=G'∧R' v L') :=
 h.mono fun _ _=>fB.back hR
theorem bB.back {R:ak→GH→Prop} {e:Ending} (h:bB w G R e w'):bB w G (fun v G'=>(∃ g,R v g)∧G=G') e w':=by
 obtain ⟨v,G',rfl,hb,hX,hr⟩:=h
 exact ⟨v,G,rfl,hb,⟨fun _ _ h=>h,fun _ _ h=>.inl h,fun k o hk=>hX.2.2 k o (hX.1 k o hk)⟩,⟨G',hr⟩,rfl⟩
theorem EL {f:FuncId} {args:Array ak} {R:ak→GH→Prop} (h:Calls P f args w (bB w G R)):Calls P f args w (bB w G fun v G'=>(∃ g,R v g)∧G=G'):=h.mono fun _ _=>bB.back
theorem fM.add {b:Nat} {o:Obj} (h:fM G ((b,o) :: L) w):Hold (G.add b o) w:=fun k o' hk=>by
 unfold GH.add at hk
 split at hk
 ·next e=>cases hk;subst e;exact h.own _ gP
 ·exact h.ro k o' hk
theorem Xr {b:Nat} {o:Obj} {R:ak→GH→Prop} {R':ak→Prop} (hO:fM G ((b,o) :: L) w) (hR:∀ v G',R v G'→R' v) {e:Ending} (h:bB w (G.add b o) R e w'):fB w G ((b,o) :: L) (fun v G' L'=>G=G'∧L'=(b,o) :: L∧R' v) e w':=by
 obtain ⟨v,G',rfl,hb,hX,hr⟩:=h
 exact ⟨v,G,_,rfl,(hO.hp.below hb).afA,rfl,rfl,hR _ _ hr⟩
end
end
section
open Go.RowKit
theorem alR:NY prog 171 [(0,false),(1,false)]:=⟨by kernel_rfl,by kernel_rfl,by kernel_rfl,by kernel_rfl,by kernel_rfl⟩
theorem alP:NY prog 115 [(0,false),(1,false)]:=⟨by kernel_rfl,by kernel_rfl,by kernel_rfl,by kernel_rfl,by kernel_rfl⟩
theorem alQ:NY prog 117 [(0,false),(1,false),(2,false),(3,true)]:=⟨by kernel_rfl,by kernel_rfl,by kernel_rfl,by kernel_rfl,by kernel_rfl⟩
theorem aao:∀ args w,(callFunc 123 args).run prog w=.ok (.enter 123 args) w:=enters func123 rfl (by kernel_rfl)
instance EU:dL prog 27 0 0:=⟨by kernel_rfl⟩
instance aaY:dL prog 27 1 1:=⟨by kernel_rfl⟩
theorem aju:∀ args w,(callFunc 124 args).run prog w=.ok (.enter 124 args) w:=enters func124 rfl (by kernel_rfl)
theorem ajv:∀ args w,(callFunc 125 args).run prog w=.ok (.enter 125 args) w:=enters func125 rfl (by kernel_rfl)
abbrev iK.cells (x:iK):List ak:=[vi x.rev,vi x.move]
abbrev iO.cells (x:iO):List ak:=[vi x.rev,vi x.key,vi x.before,.bool x.had]
theorem TI {G:GH} {x:iK} {cs:List ak} (h:aZ G x.dat cs):cs=x.cells:=by
 simp only [iK.dat,aZ,ay] at h
 obtain ⟨_,_,rfl,⟨rfl,_⟩,_,_,rfl,⟨rfl,_⟩,rfl⟩:=h
 rfl
theorem Wy {G:GH} {x:iO} {cs:List ak} (h:aZ G x.dat cs):cs=x.cells:=by
 simp only [iO.dat,aZ,ay] at h
 obtain ⟨_,_,rfl,⟨rfl,_⟩,_,_,rfl,⟨rfl,_⟩,_,_,rfl,⟨rfl,_⟩,_,_,rfl,⟨rfl,_⟩,rfl⟩:=h
 rfl
theorem gB.eq_iff (a b:gB):(a.key=b.key∧a.value=b.value)↔a=b:=by cases a;cases b;simp
theorem iK.eq_iff (a b:iK):(a.rev=b.rev∧a.move=b.move)↔a=b:=by cases a;cases b;simp
theorem iO.eq_iff (a b:iO):(a.rev=b.rev∧a.key=b.key∧a.before=b.before∧a.had=b.had)↔a=b:=by cases a;cases b;simp
instance:DecidableEq gB:=fun a b=>decidable_of_iff _ (gB.eq_iff a b)
instance:DecidableEq iK:=fun a b=>decidable_of_iff _ (iK.eq_iff a b)
instance:DecidableEq iO:=fun a b=>decidable_of_iff _ (iO.eq_iff a b)
theorem arA (a b:gB):(!([(0,false),(1,false)].all fun o=>lG #[vi a.key,vi a.value] o == lG #[vi b.key,vi b.value] o))=!decide (a=b):=by
 have h:=gB.eq_iff a b;rw [lq]
 simp only [ug,oP]
 rw [← h]
 simp [lG]
theorem arx (a b:iK):(!([(0,false),(1,false)].all fun o=>lG #[vi a.rev,vi a.move] o == lG #[vi b.rev,vi b.move] o))=!decide (a=b):=by
 have h:=iK.eq_iff a b;rw [lq]
 simp only [ug,oP]
 rw [← h]
 simp [lG]
theorem arz (a b:iO):(!([(0,false),(1,false),(2,false),(3,true)].all fun o=>lG #[vi a.rev,vi a.key,vi a.before,.bool a.had] o == lG #[vi b.rev,vi b.key,vi b.before,.bool b.had] o))=!decide (a=b):=by
 have h:=iO.eq_iff a b;rw [lq]
 simp only [ug,oP]
 rw [← h]
 simp [lG]
theorem aaO (G:GH) (w0:World) (hG:Hold G w0) (A B:List gB) (v u:ak) (hv:ay G (.sl 2 (A.map gB.dat)) v) (hu:ay G (.sl 2 (B.map gB.dat)) u) :
  Calls prog 123 #[v,u] w0 (bB w0 G fun r G'=>r=.bool (decide (A=B))):=by
 obtain ⟨vA,vc,rfl,hc1,hc2,hg⟩:=hv.slice;obtain ⟨uA,uc,rfl,hd1,hd2,hh⟩:=hu.slice;have hml:maxLen=9223372036854775807:=rfl;(iterate 2 rw [bE] at *);refine eN [(0,_),(1,_)] func123 rfl ntmps123 rfl rfl hG ?_;refine goB 11 ?_ ?_
 ·intro kE
  refine aJ 3 ?_;exact (dJ (gD fun e=>absurd (aB List.length e) (by omega)).symm)
 intro kE
 refine aj 8 ?_;intro a H;refine dD (ι:=Nat × GH) (Tc:=[(0,_),(1,_),(12,_)]) (Lc:=[]) (fun gh=>[(13,vi gh.1)]) (fun gh=>[]) (fun gh=>gh.2) (fun gh=>gh.1≤A.length∧A.take gh.1=B.take gh.1∧(∀ b o,G b=some o→gh.2 b=some o)) (fun gh=>A.length - gh.1) ((0,G)) sB ?_ ?_
 ·exact ⟨by omega,rfl,fun _ _ h=>h⟩
 clear H;rintro ⟨k,g⟩ a w hI H;dsimp only at hI H;obtain ⟨hk,hsame,hgm⟩:=hI;dsimp only [lca,aQ] at H;refine cK 4 H ?_ ?_ <;> clear H
 ·intro kM
  have hk2:k < A.length:=by omega
  have hk3:k < B.length:=by omega
  obtain ⟨b1,o1,cs1,rfl,JH,wZ,hr1⟩:=hg k A[k].dat (by simp [hk2]);obtain rfl:=Xm hr1;obtain ⟨b2,o2,cs2,rfl,JI,hrow2,hr2⟩:=hh k B[k].dat (by simp [hk3]);obtain rfl:=Xm hr2;refine aj 8 ?_;intro a H;refine dI hmx [[],[],[0,1],[0,1,2],[],[],[4,5],[4,5,6],(ra 0 8)] [] (by kernel_rfl) [_,_,_,.agg A[k].cells.toArray,_,_,_,.agg B[k].cells.toArray,.bool (!decide (A[k]=B[k]))] H (aF (Z0 rfl (Rm rfl)) (Z0 rfl (Rm rfl)) (Z2 0 16 1 17 rfl (Ri wu ql rfl rfl)) ?_ (aF (Z0 rfl (Rm rfl)) (Z0 rfl (Rm rfl)) (Z2 4 20 5 21 rfl (Ri wu ql rfl rfl)) ?_ (aW ?_ cZ))) ?_
  ·refine dM 2 18 rfl rfl fun _ a w G1 hG HT H fin=>?_;refine aT ql (cs:=A[k].cells) H wn rfl rfl (fun j v hj=>H.hp.aC (aD hG (aD hgm (wZ j v hj)))) rfl ?_;clear H;intro a H;exact fin H iJ rfl
  ·refine dM 6 22 rfl rfl fun _ a w G1 hG HT H fin=>?_;refine aT ql (cs:=B[k].cells) H wn rfl rfl (fun j v hj=>H.hp.aC (aD hG (aD hgm (hrow2 j v hj)))) rfl ?_;clear H;intro a H;exact fin H iJ rfl
  ·refine dP 3 19 7 23 rfl rfl fun _ a w G1 hG HT H fin=>?_;refine XB (.inr rfl) alR H wn rfl rfl rfl rfl ?_;clear H;intro a H;exact fin H iJ (dJ (arA A[k] B[k]))
  clear H;intro a w G iw H hv;have H:=H.aV (hv 8 24 rfl rfl) rfl;clear hv;refine t0 1 H ?_;clear H;refine goC 0 ?_ ?_
  ·intro kT
   refine aJ 3 ?_;exact (dJ (gD fun e=>absurd kT (by subst e;simp)).symm)
  intro kT
  try have kN:=dF kT
  have hsm:A[k]=B[k]:=by simpa using kT
  refine aj 4 ?_;intro a H;refine aI ?_;refine bR ((k+1,G)) sB ?_ ?_
  ·(try dsimp only);exact ⟨by omega,by rw [gI hk2,gI hk3,hsame,hsm],fun b o h=>iw b o (hgm b o h)⟩
  first|omega|(dsimp only;omega)
 intro kM
 refine aJ 4 ?_;exact (dJ (eZ (by rw [iL (by omega),iL (by omega)] at hsame;exact hsame)).symm)
theorem alv (G:GH) (w0:World) (hG:Hold G w0) (A B:List iK) (v u:ak) (hv:ay G (.sl 2 (A.map iK.dat)) v) (hu:ay G (.sl 2 (B.map iK.dat)) u) :
  Calls prog 124 #[v,u] w0 (bB w0 G fun r G'=>r=.bool (decide (A=B))):=by
 obtain ⟨vA,vc,rfl,hc1,hc2,hg⟩:=hv.slice;obtain ⟨uA,uc,rfl,hd1,hd2,hh⟩:=hu.slice;have hml:maxLen=9223372036854775807:=rfl;(iterate 2 rw [bE] at *);refine eN [(0,_),(1,_)] func124 rfl ntmps124 rfl rfl hG ?_;refine goB 11 ?_ ?_
 ·intro kE
  refine aJ 3 ?_;exact (dJ (gD fun e=>absurd (aB List.length e) (by omega)).symm)
 intro kE
 refine aj 8 ?_;intro a H;refine dD (ι:=Nat × GH) (Tc:=[(0,_),(1,_),(12,_)]) (Lc:=[]) (fun gh=>[(13,vi gh.1)]) (fun gh=>[]) (fun gh=>gh.2) (fun gh=>gh.1≤A.length∧A.take gh.1=B.take gh.1∧(∀ b o,G b=some o→gh.2 b=some o)) (fun gh=>A.length - gh.1) ((0,G)) sB ?_ ?_
 ·exact ⟨by omega,rfl,fun _ _ h=>h⟩
 clear H;rintro ⟨k,g⟩ a w hI H;dsimp only at hI H;obtain ⟨hk,hsame,hgm⟩:=hI;dsimp only [lca,aQ] at H;refine cK 4 H ?_ ?_ <;> clear H
 ·intro kM
  have hk2:k < A.length:=by omega
  have hk3:k < B.length:=by omega
  obtain ⟨b1,o1,cs1,rfl,JH,wZ,hr1⟩:=hg k A[k].dat (by simp [hk2]);obtain rfl:=TI hr1;obtain ⟨b2,o2,cs2,rfl,JI,hrow2,hr2⟩:=hh k B[k].dat (by simp [hk3]);obtain rfl:=TI hr2;refine aj 8 ?_;intro a H;refine dI hmx [[],[],[0,1],[0,1,2],[],[],[4,5],[4,5,6],(ra 0 8)] [] (by kernel_rfl) [_,_,_,.agg A[k].cells.toArray,_,_,_,.agg B[k].cells.toArray,.bool (!decide (A[k]=B[k]))] H (aF (Z0 rfl (Rm rfl)) (Z0 rfl (Rm rfl)) (Z2 0 16 1 17 rfl (Ri wz sQ rfl rfl)) ?_ (aF (Z0 rfl (Rm rfl)) (Z0 rfl (Rm rfl)) (Z2 4 20 5 21 rfl (Ri wz sQ rfl rfl)) ?_ (aW ?_ cZ))) ?_
  ·refine dM 2 18 rfl rfl fun _ a w G1 hG HT H fin=>?_;refine aT sQ (cs:=A[k].cells) H wn rfl rfl (fun j v hj=>H.hp.aC (aD hG (aD hgm (wZ j v hj)))) rfl ?_;clear H;intro a H;exact fin H iJ rfl
  ·refine dM 6 22 rfl rfl fun _ a w G1 hG HT H fin=>?_;refine aT sQ (cs:=B[k].cells) H wn rfl rfl (fun j v hj=>H.hp.aC (aD hG (aD hgm (hrow2 j v hj)))) rfl ?_;clear H;intro a H;exact fin H iJ rfl
  ·refine dP 3 19 7 23 rfl rfl fun _ a w G1 hG HT H fin=>?_;refine XB (.inr rfl) alP H wn rfl rfl rfl rfl ?_;clear H;intro a H;exact fin H iJ (dJ (arx A[k] B[k]))
  clear H;intro a w G iw H hv;have H:=H.aV (hv 8 24 rfl rfl) rfl;clear hv;refine t0 1 H ?_;clear H;refine goC 0 ?_ ?_
  ·intro kT
   refine aJ 3 ?_;exact (dJ (gD fun e=>absurd kT (by subst e;simp)).symm)
  intro kT
  try have kN:=dF kT
  have hsm:A[k]=B[k]:=by simpa using kT
  refine aj 4 ?_;intro a H;refine aI ?_;refine bR ((k+1,G)) sB ?_ ?_
  ·(try dsimp only);exact ⟨by omega,by rw [gI hk2,gI hk3,hsame,hsm],fun b o h=>iw b o (hgm b o h)⟩
  first|omega|(dsimp only;omega)
 intro kM
 refine aJ 4 ?_;exact (dJ (eZ (by rw [iL (by omega),iL (by omega)] at hsame;exact hsame)).symm)
theorem alC (G:GH) (w0:World) (hG:Hold G w0) (A B:List iO) (v u:ak) (hv:ay G (.sl 4 (A.map iO.dat)) v) (hu:ay G (.sl 4 (B.map iO.dat)) u) :
  Calls prog 125 #[v,u] w0 (bB w0 G fun r G'=>r=.bool (decide (A=B))):=by
 obtain ⟨vA,vc,rfl,hc1,hc2,hg⟩:=hv.slice;obtain ⟨uA,uc,rfl,hd1,hd2,hh⟩:=hu.slice;have hml:maxLen=9223372036854775807:=rfl;(iterate 2 rw [bE] at *);refine eN [(0,_),(1,_)] func125 rfl ntmps125 rfl rfl hG ?_;refine goB 11 ?_ ?_
 ·intro kE
  refine aJ 3 ?_;exact (dJ (gD fun e=>absurd (aB List.length e) (by omega)).symm)
 intro kE
 refine aj 8 ?_;intro a H;refine dD (ι:=Nat × GH) (Tc:=[(0,_),(1,_),(12,_)]) (Lc:=[]) (fun gh=>[(13,vi gh.1)]) (fun gh=>[]) (fun gh=>gh.2) (fun gh=>gh.1≤A.length∧A.take gh.1=B.take gh.1∧(∀ b o,G b=some o→gh.2 b=some o)) (fun gh=>A.length - gh.1) ((0,G)) sB ?_ ?_
 ·exact ⟨by omega,rfl,fun _ _ h=>h⟩
 clear H;rintro ⟨k,g⟩ a w hI H;dsimp only at hI H;obtain ⟨hk,hsame,hgm⟩:=hI;dsimp only [lca,aQ] at H;refine cK 4 H ?_ ?_ <;> clear H
 ·intro kM
  have hk2:k < A.length:=by omega
  have hk3:k < B.length:=by omega
  obtain ⟨b1,o1,cs1,rfl,JH,wZ,hr1⟩:=hg k A[k].dat (by simp [hk2]);obtain rfl:=Wy hr1;obtain ⟨b2,o2,cs2,rfl,JI,hrow2,hr2⟩:=hh k B[k].dat (by simp [hk3]);obtain rfl:=Wy hr2;refine aj 8 ?_;intro a H;refine dI hmx [[],[],[0,1],[0,1,2],[],[],[4,5],[4,5,6],(ra 0 8)] [] (by kernel_rfl) [_,_,_,.agg A[k].cells.toArray,_,_,_,.agg B[k].cells.toArray,.bool (!decide (A[k]=B[k]))] H (aF (Z0 rfl (Rm rfl)) (Z0 rfl (Rm rfl)) (Z2 0 16 1 17 rfl (Ri yK rO rfl rfl)) ?_ (aF (Z0 rfl (Rm rfl)) (Z0 rfl (Rm rfl)) (Z2 4 20 5 21 rfl (Ri yK rO rfl rfl)) ?_ (aW ?_ cZ))) ?_
  ·refine dM 2 18 rfl rfl fun _ a w G1 hG HT H fin=>?_;refine aT rO (cs:=A[k].cells) H wn rfl rfl (fun j v hj=>H.hp.aC (aD hG (aD hgm (wZ j v hj)))) rfl ?_;clear H;intro a H;exact fin H iJ rfl
  ·refine dM 6 22 rfl rfl fun _ a w G1 hG HT H fin=>?_;refine aT rO (cs:=B[k].cells) H wn rfl rfl (fun j v hj=>H.hp.aC (aD hG (aD hgm (hrow2 j v hj)))) rfl ?_;clear H;intro a H;exact fin H iJ rfl
  ·refine dP 3 19 7 23 rfl rfl fun _ a w G1 hG HT H fin=>?_;refine XB (.inr rfl) alQ H wn rfl rfl rfl rfl ?_;clear H;intro a H;exact fin H iJ (dJ (arz A[k] B[k]))
  clear H;intro a w G iw H hv;have H:=H.aV (hv 8 24 rfl rfl) rfl;clear hv;refine t0 1 H ?_;clear H;refine goC 0 ?_ ?_
  ·intro kT
   refine aJ 3 ?_;exact (dJ (gD fun e=>absurd kT (by subst e;simp)).symm)
  intro kT
  try have kN:=dF kT
  have hsm:A[k]=B[k]:=by simpa using kT
  refine aj 4 ?_;intro a H;refine aI ?_;refine bR ((k+1,G)) sB ?_ ?_
  ·(try dsimp only);exact ⟨by omega,by rw [gI hk2,gI hk3,hsame,hsm],fun b o h=>iw b o (hgm b o h)⟩
  first|omega|(dsimp only;omega)
 intro kM
 refine aJ 4 ?_;exact (dJ (eZ (by rw [iL (by omega),iL (by omega)] at hsame;exact hsame)).symm)
theorem cu.eq_iff (a b:cu):(((a.props=b.props∧a.marks.ins=b.marks.ins)∧a.marks.move=b.marks.move)∧a.marks.bg=b.marks.bg)∧a.marks.layers=b.marks.layers↔a=b:=by
 obtain ⟨p,i,m,d,l⟩:=a;obtain ⟨p2,i2,m2,d2,l2⟩:=b
 simp [and_assoc]
instance:DecidableEq cu:=fun a b=>decidable_of_iff _ (cu.eq_iff a b)
abbrev uK (h:cu) (p d l:ak):ak:=.agg #[p,vi h.marks.ins,vi h.marks.move,d,l]
theorem Jv (G:GH) (w0:World) (hG:Hold G w0) (x y:cu) (p d l p2 d2 l2:ak) (hx:gW G x p d l) (hy:gW G y p2 d2 l2) :
  Calls prog 69 #[uK x p d l,uK y p2 d2 l2] w0 (bB w0 G fun r G'=>r=.bool (decide (x=y))):=by
 obtain ⟨pA,pc,rfl,-,-,-⟩:=hx.props.slice;obtain ⟨dA,dc,rfl,-,-,-⟩:=hx.bg.slice;obtain ⟨lA,lc,rfl,-,-,-⟩:=hx.layers.slice;obtain ⟨Ee,pc2,rfl,-,-,-⟩:=hy.props.slice;obtain ⟨Dr,Dt,rfl,-,-,-⟩:=hy.bg.slice;obtain ⟨lA2,lc2,rfl,-,-,-⟩:=hy.layers.slice;have he:=cu.eq_iff x y;refine eN [(0,_),(1,_)] func69 rfl ntmps69 rfl rfl hG ?_;refine aj 1 ?_;intro a H;refine dN (cs:=[_,_,_,_,_]) H wn rfl rfl rfl ?_;clear H;intro b2 a w hb2 H;refine dN (cs:=[_,_,_,_,_]) H wn rfl rfl rfl ?_;clear H;intro b3 a w hb3 H;refine aH 7 H ?_;clear H;intro a H;refine s_call aao H wn rfl (aaO _ _ H.ro x.props y.props _ _ hx.props hy.props) rfl ?_;clear H;rintro v9 G9 a w rfl ze H;refine ku 1 10 H ?_ ?_ <;> clear H
 ·intro kE
  refine gV 9 19 ?_ ?_
  ·intro uQ
   refine iV 9 28 ?_ ?_
   ·intro EZ
    try have p28:=dT EZ
    refine aj 6 ?_;intro a H;refine s_call aju H (wg H rfl rfl EZ) rfl (alv _ _ H.ro x.marks.bg y.marks.bg _ _ (hx.bg.mono ze) (hy.bg.mono ze)) rfl ?_;clear H;rintro v35 YK a w rfl aci H;refine jA 2 37 H ?_ ?_ <;> clear H
    ·intro h37
     try have p37:=dT h37
     refine aj 6 ?_;intro a H;refine s_call ajv H (wg H rfl rfl h37) rfl (alC _ _ H.ro x.marks.layers y.marks.layers _ _ ((hx.layers.mono ze).mono aci) ((hy.layers.mono ze).mono aci)) rfl ?_;clear H;rintro v44 G44 a w rfl awU H;refine gK 3 H ?_;exact (dJ (by simp_all))
    intro h37
    try have p37:=dF h37
    refine aJ 10 ?_;exact (dJ (by simp_all))
   intro EZ
   try have p28:=dF EZ
   refine aJ 19 ?_;exact (dJ (by simp_all))
  intro uQ
  refine aJ 28 ?_;exact (dJ (by simp_all))
 intro kE
 refine aJ 37 ?_;exact (dJ (by simp_all))
end
section
open Go.RowKit
instance ama:dL prog 117 0 0:=⟨by kernel_rfl⟩
instance zR:dL prog 117 1 1:=⟨by kernel_rfl⟩
instance:dL prog 117 3 3:=⟨by kernel_rfl⟩
instance O4:dL prog 117 2 2:=⟨by kernel_rfl⟩
theorem TM:∀ args w,(callFunc 135 args).run prog w=.ok (.enter 135 args) w:=enters func135 rfl (by kernel_rfl)
variable {us:List Int}
structure bL where
 st:List bH
 lU:List Int
 kQ:List Int
 us:List Int
abbrev aL (us:List Int) (st:List bH) (li:List dz) (rv:List bD):bL:=⟨st,li.map dz.id,rv.map bD.id,us⟩
theorem J7 {G:GH} {l:List iO} {A:Option Addr} {n c k:Nat} (hv:ay G (.sl 4 (l.map iO.dat)) (.slice A n c)) (hk:k < l.length):∃ b o,A=some ⟨b,o,none⟩∧(∀ j u,l[k].cells[j]?=some u→aC G b (o+k*4+j)=some u):=by
 obtain ⟨A',c',he,_,_,hg⟩:=hv.slice
 injection he with e1 e2 e3
 subst e1;obtain ⟨b,o,cs,h1,h2,h3,h4⟩:=hg k l[k].dat (by simp [hk]);have:=Wy h4;subst this;exact ⟨b,o,h1,h3⟩
theorem Jp {G:GH} {l:List iK} {A:Option Addr} {n c k:Nat} (hv:ay G (.sl 2 (l.map iK.dat)) (.slice A n c)) (hk:k < l.length):∃ b o,A=some ⟨b,o,none⟩∧(∀ j u,l[k].cells[j]?=some u→aC G b (o+k*2+j)=some u):=by
 obtain ⟨A',c',he,_,_,hg⟩:=hv.slice
 injection he with e1 e2 e3
 subst e1;obtain ⟨b,o,cs,h1,h2,h3,h4⟩:=hg k l[k].dat (by simp [hk]);have:=TI h4;subst this;exact ⟨b,o,h1,h3⟩
def kL (C:bL) (e:Int) (k:Nat) (x:iO) (pk:Int):Int :=
 if x.rev∉C.kQ then 22 else if Ay e x.key=false then 4 else if 0 < k∧x.key < pk then 6 else if x.had=false then bK (decide (x.before≠0)) 21 else bP [sZ x.key x.before,jY C.st C.lU x.key x.before]
def xu (C:bL) (e:Int) (l:List iO) (k:Nat):Int:=match l[k]? with|some x=>kL C e k x ((l[k - 1]?.map iO.key).getD 0)|none=>0
theorem aqz (G:GH) (w0:World) (hG:Hold G w0) (st:List bH) (li:List dz) (rv:List bD) (b ms ml mr mb mu:Nat) (n:Int) (hck:xL us G st li rv ms ml mr mu) (hb:G b=some (fZ b ms ml mr mb mu n).2)
  (e:Int) (l:List iO) (v:ak) (hv:ay G (.sl 4 (l.map iO.dat)) v) (k:Nat) (hk:k < l.length) :
  Calls prog 137 #[(aK b 0),vi e,v,vi k] w0 (bB w0 G fun u G'=>u=vi (xu (aL us st li rv) e l k)):=by
 have hc2:aC G b 2=some (.map (some mr)):=by unfold aC;rw [hb];rfl
 obtain ⟨A,c,rfl,hl1,hl2,-⟩:=hv.slice;have hml:maxLen=9223372036854775807:=rfl;rw [bE] at *;obtain ⟨xb,xo,rfl,hrow⟩:=J7 hv hk
 have hk1:k - 1 < l.length:=by omega
 obtain ⟨b',o',he',hrow'⟩:=J7 hv hk1
 injection he' with he'
 injection he' with e1 e2
 subst e1;subst e2
 have he:xu (aL us st li rv) e l k=kL (aL us st li rv) e k l[k] l[k - 1].key:=by unfold xu;rw [dV hk,dV hk1];rfl
 obtain ⟨x,hx⟩:∃ x,x=l[k]:=⟨_,rfl⟩;obtain ⟨y,hy⟩:∃ y,y=l[k - 1]:=⟨_,rfl⟩;rw [← hx] at hrow he;rw [← hy] at hrow' he;have hq:=hrow' 1 _ rfl;refine eN [(0,_),(1,_),(2,_),(3,_)] func137 rfl ntmps137 rfl rfl hG ?_;refine aj 7 ?_;intro a H;refine aT rO (cs:=x.cells) H wn rfl rfl (fun j v hj=>H.hp.aC (hrow j v hj)) rfl ?_;clear H;intro a H;refine dx rO H wn rfl ?_;clear H;intro b9 a w qE H;refine bq rO 0 (vs:=[_,_,_,_]) _ H wn rfl rfl rfl rfl rfl rfl rfl rfl ?_;clear H;intro w H;dsimp only [List.set,setRow] at H;refine aH 4 H ?_;clear H;intro a H;refine dI hmx [[],[0],[0,1],[0,1,2],[],[4],(ra 0 6),(ra 0 7),(ra 0 8)] [8] (by kernel_rfl) [_,_,_,_,_,vi x.rev,.bool (decide (x.rev∈rv.map bD.id)),_] H (aF (Z0 rfl (Rm rfl)) (Z1 0 15 rfl (Rk rfl)) (Z1 1 16 rfl (Rf Me rfl)) (X1 2 17 rfl fun hG=>Rg FM rfl (aD hG hc2)) (aF (Z0 rfl (Rf ama rfl)) (Z1 4 19 rfl (Ro bC 0 rfl)) ?_ (Z1 6 21 rfl (Rn rfl)) (aW (bS rfl) cZ))) ?_
 ·refine dP 3 18 5 20 rfl rfl fun _ a w G1 hG HT H fin=>?_;refine Bu (zv:=.bool false) xG lZ (by kernel_rfl) H wn rfl rfl (H.ro _ _ (hG _ _ hck.rev)) rfl ?_;clear H;intro a H;rw [Fu] at H;exact fin H iJ rfl
 clear H;intro a w G DN H hv;have H:=H.aV (hv 7 22 rfl rfl) rfl;clear hv;refine t1 2 H ?_;clear H;refine goB 0 ?_ ?_
 ·intro kM
  refine aJ 3 ?_;rw [he];refine aB vi ?_;clear he hrow hrow' hq hx hy;unfold kL;(repeat' split) <;> first|rfl|(simp_all;done)|(exfalso;simp_all;done)
 intro kM
 refine aj 4 ?_;intro a H;refine s_call Uk H wn rfl (EL (Uw _ _ H.ro e x.key)) rfl ?_;clear H;rintro v27 _ a w ⟨⟨_,rfl⟩,rfl⟩ - H;refine eO 3 H ?_ ?_ <;> clear H
 ·intro Aa
  refine aJ 3 ?_;rw [he];refine aB vi ?_;clear he hrow hrow' hq hx hy;unfold kL;(repeat' split) <;> first|rfl|(simp_all;done)|(exfalso;simp_all;done)
 intro Aa
 refine aj 1 ?_;replace hq:=aD DN hq
 intro a H;by_cases c0:0 < (k:Int)
 ·skip
  by_cases c1:x.key < y.key
  ·refine dI hmx [[],[0],[0,1],[0,1,2],(ra 0 4),[0,1,2],[0,1,2],[0,1,2,6],[0,1,2,5,6,7],[0,1,2,5,6,7,8],[0,1,2,5,6,7,8,9],(ra 0 11),(ra 0 12),(ra 0 13)] [13] (by kernel_rfl) [_,_,_,_,vi x.key,_,_,vi ((k - 1:Nat):Int),_,_,_,_,_] H (aF (Z0 rfl (Rm rfl)) (Z1 0 30 rfl (Rc rfl)) (Z1 1 31 rfl (Rm rfl)) (Z1 2 32 rfl (YF zR (aG c0) rfl)) (aF (Z2 3 33 2 32 rfl (YO bC 0 (aG c0) rfl)) (Z1 2 32 rfl (YM (aG c0) rfl)) (Z1 2 32 rfl (YM (aG c0) rfl)) ?_ (aF (Z3 5 35 7 37 2 32 rfl (YI yK rO (aG c0) rfl rfl)) (Z2 8 38 2 32 rfl (YF zR (aG c0) rfl)) (X2 9 39 2 32 rfl fun hG=>YR bC (aG c0) rfl (aD hG hq)) (Z3 4 34 10 40 2 32 rfl (YC (aG c0) rfl)) (aW (Z2 2 32 11 41 rfl (Pt (aG c0) rfl)) (aW (bS rfl) cZ))))) ?_
   ·refine dP 6 36 2 32 rfl rfl fun _ a w G1 hG HT H fin=>?_;refine lC _ H (wg H rfl rfl (aG c0)) rfl rfl rfl (by omega) (by omega) rfl ?_;clear H;intro a H;exact fin H iJ (by show _=_;first|rfl|exact aB vi (by omega))
   clear H;intro a w G iw H hv;have H:=H.aV (hv 12 42 rfl rfl) rfl;clear hv;refine t1 3 H ?_;clear H;have hz:0 < k∧x.key < y.key:=⟨by omega,c1⟩;refine aJ 3 ?_;rw [he];refine aB vi ?_;clear he hrow hrow' hq hx hy;unfold kL;(repeat' split) <;> first|rfl|(simp_all;done)|(exfalso;simp_all;done)
  refine dI hmx [[],[0],[0,1],[0,1,2],(ra 0 4),[0,1,2],[0,1,2],[0,1,2,6],[0,1,2,5,6,7],[0,1,2,5,6,7,8],[0,1,2,5,6,7,8,9],(ra 0 11),(ra 0 12),(ra 0 13)] [13] (by kernel_rfl) [_,_,_,_,vi x.key,_,_,vi ((k - 1:Nat):Int),_,_,_,_,_] H (aF (Z0 rfl (Rm rfl)) (Z1 0 30 rfl (Rc rfl)) (Z1 1 31 rfl (Rm rfl)) (Z1 2 32 rfl (YF zR (aG c0) rfl)) (aF (Z2 3 33 2 32 rfl (YO bC 0 (aG c0) rfl)) (Z1 2 32 rfl (YM (aG c0) rfl)) (Z1 2 32 rfl (YM (aG c0) rfl)) ?_ (aF (Z3 5 35 7 37 2 32 rfl (YI yK rO (aG c0) rfl rfl)) (Z2 8 38 2 32 rfl (YF zR (aG c0) rfl)) (X2 9 39 2 32 rfl fun hG=>YR bC (aG c0) rfl (aD hG hq)) (Z3 4 34 10 40 2 32 rfl (YC (aG c0) rfl)) (aW (Z2 2 32 11 41 rfl (Pt (aG c0) rfl)) (aW (bS rfl) cZ))))) ?_
  ·refine dP 6 36 2 32 rfl rfl fun _ a w G1 hG HT H fin=>?_;refine lC _ H (wg H rfl rfl (aG c0)) rfl rfl rfl (by omega) (by omega) rfl ?_;clear H;intro a H;exact fin H iJ (by show _=_;first|rfl|exact aB vi (by omega))
  clear H;intro a w G iw H hv;have H:=H.aV (hv 12 42 rfl rfl) rfl;clear hv;refine t1 3 H ?_;clear H
  have hz:¬ (0 < k∧x.key < y.key):=by first|exact fun h=>c1 h.2|exact fun h=>c0 (by omega)
  refine goB 6 ?_ ?_
  ·intro p43
   refine aj 4 ?_;intro a H;refine s_call jF H wn rfl (jK _ _ H.ro _ 21) rfl ?_;clear H;rintro v50 _ a w ⟨rfl,rfl⟩ - H;refine gK 2 H ?_;rw [he];refine aB vi ?_;clear he hrow hrow' hq hx hy;unfold kL;(repeat' split) <;> first|rfl|(simp_all;done)|(exfalso;simp_all;done)
  intro p43
  refine aj 2 ?_;replace hck:=(hck.mono DN).mono iw;replace hb:=iw _ _ (DN _ _ hb);intro a H;refine dI hmx [[],[0],[],[2],(ra 0 4),[],[],[6],[],[8],(ra 0 10),(ra 0 11),(ra 0 12),(ra 0 13)] [11,12,13] (by kernel_rfl) [_,vi x.key,_,vi x.before,vi (sZ x.key x.before),_,_,vi x.key,_,vi x.before,vi (jY st (li.map dz.id) x.key x.before)] H (aF (Z0 rfl (Rf zR rfl)) (Z1 0 51 rfl (Ro bC 0 rfl)) (Z0 rfl (Rf O4 rfl)) (Z1 2 53 rfl (Ro bC 0 rfl)) (aF ?_ (Z0 rfl (Rm rfl)) (Z0 rfl (Rf zR rfl)) (Z1 6 57 rfl (Ro bC 0 rfl)) (aF (Z0 rfl (Rf O4 rfl)) (Z1 8 59 rfl (Ro bC 0 rfl)) ?_ (bS rfl) (aW (bS rfl) (aW (bS rfl) cZ))))) ?_
  ·refine dP 1 52 3 54 rfl rfl fun _ a w G1 hG HT H fin=>?_;refine s_call GU H wn rfl (GK _ _ H.ro x.key x.before) rfl ?_;clear H;rintro v55 KO a w rfl UN H;exact fin H UN (rfl)
  ·refine tQ 5 56 7 58 9 60 rfl rfl fun _ a w G1 hG HT H fin=>?_;refine s_call TM H wn rfl (Tt _ _ H.ro st li rv b ms ml mr mb mu n x.key x.before (hck.mono hG) (hG _ _ hb)) rfl ?_;clear H;rintro v61 G61 a w ⟨rfl,-⟩ UO H;exact fin H UO (rfl)
  clear H;intro a w G nV H hv;have H:=H.aV (hv 4 55 rfl rfl) rfl;have H:=H.aV (hv 10 61 rfl rfl) rfl;clear hv;refine iy rQ iN [_,_] [_,_] H wn rfl rfl rfl rfl rfl (by intro i q h;match i,h with|0,h=>exact h|1,h=>exact h|n+2,h=>simp at h) rfl rfl ?_;clear H;intro Zi a w anV H;obtain ⟨YT,MP,Ve,H⟩:=H.dS;refine s_call sj H wn rfl (sw _ _ H.ro _ _ (Ae Ve)) rfl ?_;clear H;rintro v63 _ a w ⟨rfl,rfl⟩ - H;refine kH H (Ra rfl ?_);clear H;intro a H;refine aI ⟨rfl,?_⟩;refine dW ?_;refine wS 0 H ?_;rw [he];refine aB vi ?_;clear he hrow hrow' hq hx hy;unfold kL;(repeat' split) <;> first|rfl|(simp_all;done)|(exfalso;simp_all;done)
 refine dI hmx [[],[0],[0,1],[0,1,2],(ra 0 4),[0,1,2],[0,1,2],[0,1,2,6],[0,1,2,5,6,7],[0,1,2,5,6,7,8],[0,1,2,5,6,7,8,9],(ra 0 11),(ra 0 12),(ra 0 13)] [13] (by kernel_rfl) [_,_,_,undef,undef,undef,undef,undef,undef,undef,undef,undef,_] H (aF (Z0 rfl (Rm rfl)) (Z1 0 30 rfl (Rc rfl)) (Z1 1 31 rfl (Rm rfl)) (aO 2 (aN c0) rfl rfl) (aF (aO 2 (aN c0) rfl rfl) (aO 2 (aN c0) rfl rfl) (aO 2 (aN c0) rfl rfl) (aO 2 (aN c0) rfl rfl) (aF (aO 2 (aN c0) rfl rfl) (aO 2 (aN c0) rfl rfl) (aO 2 (aN c0) rfl rfl) (aO 2 (aN c0) rfl rfl) (aW (Z2 2 32 11 41 rfl (Pf (aN c0) rfl)) (aW (bS rfl) cZ))))) ?_
 clear H;intro a w G iw H hv;have H:=H.aV (hv 12 42 rfl rfl) rfl;clear hv;refine t1 3 H ?_;clear H
 have hz:¬ (0 < k∧x.key < y.key):=by first|exact fun h=>c1 h.2|exact fun h=>c0 (by omega)
 refine goB 6 ?_ ?_
 ·intro p43
  refine aj 4 ?_;intro a H;refine s_call jF H wn rfl (jK _ _ H.ro _ 21) rfl ?_;clear H;rintro v50 _ a w ⟨rfl,rfl⟩ - H;refine gK 2 H ?_;rw [he];refine aB vi ?_;clear he hrow hrow' hq hx hy;unfold kL;(repeat' split) <;> first|rfl|(simp_all;done)|(exfalso;simp_all;done)
 intro p43
 refine aj 2 ?_;replace hck:=(hck.mono DN).mono iw;replace hb:=iw _ _ (DN _ _ hb);intro a H;refine dI hmx [[],[0],[],[2],(ra 0 4),[],[],[6],[],[8],(ra 0 10),(ra 0 11),(ra 0 12),(ra 0 13)] [11,12,13] (by kernel_rfl) [_,vi x.key,_,vi x.before,vi (sZ x.key x.before),_,_,vi x.key,_,vi x.before,vi (jY st (li.map dz.id) x.key x.before)] H (aF (Z0 rfl (Rf zR rfl)) (Z1 0 51 rfl (Ro bC 0 rfl)) (Z0 rfl (Rf O4 rfl)) (Z1 2 53 rfl (Ro bC 0 rfl)) (aF ?_ (Z0 rfl (Rm rfl)) (Z0 rfl (Rf zR rfl)) (Z1 6 57 rfl (Ro bC 0 rfl)) (aF (Z0 rfl (Rf O4 rfl)) (Z1 8 59 rfl (Ro bC 0 rfl)) ?_ (bS rfl) (aW (bS rfl) (aW (bS rfl) cZ))))) ?_
 ·refine dP 1 52 3 54 rfl rfl fun _ a w G1 hG HT H fin=>?_;refine s_call GU H wn rfl (GK _ _ H.ro x.key x.before) rfl ?_;clear H;rintro v55 KO a w rfl UN H;exact fin H UN (rfl)
 ·refine tQ 5 56 7 58 9 60 rfl rfl fun _ a w G1 hG HT H fin=>?_;refine s_call TM H wn rfl (Tt _ _ H.ro st li rv b ms ml mr mb mu n x.key x.before (hck.mono hG) (hG _ _ hb)) rfl ?_;clear H;rintro v61 G61 a w ⟨rfl,-⟩ UO H;exact fin H UO (rfl)
 clear H;intro a w G nV H hv;have H:=H.aV (hv 4 55 rfl rfl) rfl;have H:=H.aV (hv 10 61 rfl rfl) rfl;clear hv;refine iy rQ iN [_,_] [_,_] H wn rfl rfl rfl rfl rfl (by intro i q h;match i,h with|0,h=>exact h|1,h=>exact h|n+2,h=>simp at h) rfl rfl ?_;clear H;intro Zi a w anV H;obtain ⟨YT,MP,Ve,H⟩:=H.dS;refine s_call sj H wn rfl (sw _ _ H.ro _ _ (Ae Ve)) rfl ?_;clear H;rintro v63 _ a w ⟨rfl,rfl⟩ - H;refine kH H (Ra rfl ?_);clear H;intro a H;refine aI ⟨rfl,?_⟩;refine dW ?_;refine wS 0 H ?_;rw [he];refine aB vi ?_;clear he hrow hrow' hq hx hy;unfold kL;(repeat' split) <;> first|rfl|(simp_all;done)|(exfalso;simp_all;done)
end
section
open Go.RowKit
instance RX:Ty prog 93 1 8 [.pointer none] false:=⟨by kernel_rfl,by kernel_rfl⟩
theorem ajD:∀ args w,(callFunc 137 args).run prog w=.ok (.enter 137 args) w:=enters func137 rfl (by kernel_rfl)
instance xE:Ty prog 27 4 64 [.int .i64 0,.int .i64 0,.slice none 0 0,.slice none 0 0] true:=⟨by kernel_rfl,by kernel_rfl⟩
instance Dw:dL prog 115 0 0:=⟨by kernel_rfl⟩
instance:dL prog 115 1 1:=⟨by kernel_rfl⟩
theorem ajC:∀ args w,(callFunc 136 args).run prog w=.ok (.enter 136 args) w:=enters func136 rfl (by kernel_rfl)
variable {us:List Int}
theorem aqy {G:GH} {st:List bH} {li:List dz} {rv:List bD} {b ms ml mr mb mu:Nat} {n:Int} (hck:xL us G st li rv ms ml mr mu) (hb:G b=some (fZ b ms ml mr mb mu n).2)
  {x3 x4 Yl:Nat} {e:Int} {l:List iO} {v:ak} (h3:aC G x3 0=some (aK b 0)) (h4:aC G x4 0=some (vi e)) (h11:aC G Yl 3=some v) (hv:ay G (.sl 4 (l.map iO.dat)) v) :
  vk (.func (.func 136) #[] #[(aK x3 0),(aK x4 0),(aK Yl 0)]) G l.length (xu (aL us st li rv) e l):=by
 intro k hk G1 w0 hm hG;refine jM (caps:=[(aK x3 0),(aK x4 0),(aK Yl 0)]) ajC ?_;replace h3:=aD hm h3;replace h4:=aD hm h4;replace h11:=aD hm h11;replace hv:=hv.mono hm;obtain ⟨vA,vn,vc,rfl⟩:=hv.form;refine eN [(0,_),(1,_),(2,_),(3,_)] func136 rfl ntmps136 rfl rfl hG ?_;refine aj 9 ?_;intro a H;refine s_call ajD H wn rfl (aqz _ _ H.ro st li rv b ms ml mr mb mu n (hck.mono hm) (hm _ _ hb) e l _ hv k hk) rfl ?_;clear H;rintro v11 qM a w rfl DZ H;refine gK 2 H ?_;exact rfl
def vZ (C:bL) (l:List gB):Int:=bP (l.map fun p=>jY C.st C.lU p.key p.value)
def fq (C:bL) (m:yO):Int:=if m.ins≠0∧m.ins∉C.kQ then 22 else if ¬ (0≤m.move∧m.move≤1073741824)∨(m.move≠0∧m.ins=0) then 21 else if 16 < (m.bg.length:Int) then 9 else 0
def nS (C:bL) (k:Nat) (x:iK) (pr:Int):Int:=if x.rev∉C.kQ then 22 else if 0 < k∧x.rev≤pr then 6 else if ¬ (0≤x.move∧x.move≤1073741824) then 21 else 0
def qy (C:bL) (l:List iK) (k:Nat):Int:=match l[k]? with|some x=>nS C k x ((l[k - 1]?.map iK.rev).getD 0)|none=>0
def eH (C:bL) (e:Int) (h:cu):Int:=bP [gY e h.props,vZ C h.props,fq C h.marks,fV (qy C h.marks.bg) h.marks.bg.length,bK (decide (64 < (h.marks.layers.length:Int))) 9,fV (xu C e h.marks.layers) h.marks.layers.length]
theorem abP {C:bL} {e:Int} {h:cu} (h1:gY e h.props≠0):eH C e h=gY e h.props:=by simp [eH,bP,h1]
theorem abQ {C:bL} {e:Int} {h:cu} (h1:gY e h.props=0) (h2:vZ C h.props≠0):eH C e h=vZ C h.props:=by simp [eH,bP,h1,h2]
theorem qY {C:bL} {e:Int} {h:cu} (h1:gY e h.props=0) (h2:vZ C h.props=0) (h3:fq C h.marks≠0):eH C e h=fq C h.marks:=by simp [eH,bP,h1,h2,h3]
theorem abR {C:bL} {e:Int} {h:cu} (h1:gY e h.props=0) (h2:vZ C h.props=0) (h3:fq C h.marks=0) (h4:fV (qy C h.marks.bg) h.marks.bg.length≠0):eH C e h=fV (qy C h.marks.bg) h.marks.bg.length:=by simp [eH,bP,h1,h2,h3,h4]
theorem abS {C:bL} {e:Int} {h:cu} (h1:gY e h.props=0) (h2:vZ C h.props=0) (h3:fq C h.marks=0) (h4:fV (qy C h.marks.bg) h.marks.bg.length=0) (h5:64 < (h.marks.layers.length:Int)):eH C e h=9:=by simp [eH,bP,h1,h2,h3,h4,bK,h5]
theorem abT {C:bL} {e:Int} {h:cu} (h1:gY e h.props=0) (h2:vZ C h.props=0) (h3:fq C h.marks=0) (h4:fV (qy C h.marks.bg) h.marks.bg.length=0) (h5:¬ 64 < (h.marks.layers.length:Int)):eH C e h=fV (xu C e h.marks.layers) h.marks.layers.length:=by simp [eH,bP,h1,h2,h3,h4,bK,h5];exact Eq.symm
theorem Rt {C:bL} {l:List gB} {k:Nat} (h:k < l.length):bP ((l.map fun p=>jY C.st C.lU p.key p.value).drop k)=if jY C.st C.lU l[k].key l[k].value≠0 then jY C.st C.lU l[k].key l[k].value else bP ((l.map fun p=>jY C.st C.lU p.key p.value).drop (k+1)):=by
 rw [O9 (by simpa using h)];simp
theorem aox (G:GH) (w0:World) (hG:Hold G w0) (st:List bH) (li:List dz) (rv:List bD) (b ms ml mr mb mu:Nat) (n:Int) (hck:xL us G st li rv ms ml mr mu) (hb:G b=some (fZ b ms ml mr mb mu n).2)
  (e:Int) (h:cu) (p d l:ak) (hh:gW G h p d l) (hz:oN h≤4294967296) :
  Calls prog 75 #[(aK b 0),vi e,uK h p d l] w0 (bB w0 G fun u G'=>u=vi (eH (aL us st li rv) e h)):=by
 obtain ⟨pA,pc,rfl,-,-,-⟩:=hh.props.slice;obtain ⟨dA,dc,rfl,-,-,-⟩:=hh.bg.slice;obtain ⟨lA,lc,rfl,-,-,-⟩:=hh.layers.slice;have hml:maxLen=9223372036854775807:=rfl;have hzz:=BF h;have hz1:=lK (h.props.map gB.dat);have hz2:=lK (h.marks.bg.map iK.dat);have hz3:=lK (h.marks.layers.map iO.dat)
 simp only [bE] at hh hz1 hz2 hz3 ⊢
 generalize oN h=zz at hz hzz
 refine eN [(0,_),(1,_),(2,_)] func75 rfl ntmps75 rfl rfl hG ?_;refine aj 1 ?_;intro a H;refine dN (cs:=[_]) H wn rfl rfl rfl ?_;clear H;intro b3 a w hb3 H;refine dN (cs:=[_]) H wn rfl rfl rfl ?_;clear H;intro b4 a w hb4 H;refine dN (cs:=[_,_,_,_,_]) H wn rfl rfl rfl ?_;clear H;intro b5 a w hb5 H;refine aH 3 H ?_;clear H;intro a H;obtain ⟨Ga5,Qj,za,H⟩:=H.dS;obtain ⟨Ga4,JR,AZ,H⟩:=H.dS;obtain ⟨Ga,Fg,uJ,H⟩:=H.dS;replace za:=Fg _ _ (JR _ _ za);replace AZ:=Fg _ _ AZ;have hma:∀ b o,G b=some o→Ga b=some o:=fun b o h=>Fg _ _ (JR _ _ (Qj _ _ h));clear Fg JR Qj;replace hck:=hck.mono hma;replace hb:=hma _ _ hb;replace hh:=hh.mono hma
 have g3:aC Ga b3 0=some (aK b 0):=by unfold aC;rw [uJ];rfl
 have g4:aC Ga b4 0=some (vi e):=by unfold aC;rw [AZ];rfl
 have g50:aC Ga b5 0=some (.slice pA h.props.length pc):=by unfold aC;rw [za];rfl
 have UE:∀ (j:Nat) (u:ak),[vi h.marks.ins,vi h.marks.move,.slice dA h.marks.bg.length dc,.slice lA h.marks.layers.length lc][j]?=some u→aC Ga b5 (1+j)=some u:=by
  intro j u hj
  unfold aC;rw [za]
  match j,hj with
  | 0,hj=>exact hj
  | 1,hj=>exact hj
  | 2,hj=>exact hj
  | 3,hj=>exact hj
  | n+4,hj=>simp at hj
 have hc2:aC Ga b 2=some (.map (some mr)):=by unfold aC;rw [hb];rfl
 refine dG 4 H ?_;clear H;intro a H;refine s_call Ui H wn rfl (EL (Xl _ _ H.ro e h.props _ hh.props)) rfl ?_;clear H;rintro v17 _ a w ⟨⟨_,rfl⟩,rfl⟩ - H;refine eO 6 H ?_ ?_ <;> clear H
 ·intro uQ
  have hE:=abP (C:=aL us st li rv) (e:=e) (h:=h) uQ;refine aJ 4 ?_;rw [hE]
 intro uQ
 have e1:gY e h.props=0:=by simpa using uQ
 refine aj 9 ?_;intro a H;refine dD (ι:=Nat) (Tc:=[(3,_),(4,_),(5,_),(22,_),(23,_)]) (Lc:=[]) (fun gh=>[(24,vi gh)]) (fun gh=>[]) (fun gh=>Ga) (fun gh=>gh≤h.props.length∧bP ((h.props.map fun p=>jY st (li.map dz.id) p.key p.value).drop gh)=vZ (aL us st li rv) h.props) (fun gh=>h.props.length - gh) (0) sB ?_ ?_
 ·exact ⟨eG _,rfl⟩
 clear H;intro k a w hI H;obtain ⟨hk,heq⟩:=hI;dsimp only [lca,aQ] at H;refine cK 4 H ?_ ?_ <;> clear H
 ·intro p25
  have hk2:k < h.props.length:=by omega
  obtain ⟨xb,xo,rfl,hrow⟩:=Nz hh.props hk2;refine aj 5 ?_;intro a H;refine aT ql (cs:=[_,_]) H wn rfl rfl (fun j v hj=>H.hp.aC (hrow j v hj)) rfl ?_;clear H;intro a H;refine dx ql H wn rfl ?_;clear H;intro b9 a w qE H;refine bq ql 0 (vs:=[_,_]) _ H wn rfl rfl rfl rfl rfl rfl rfl rfl ?_;clear H;intro w H;dsimp only [List.set,setRow] at H;refine aH 7 H ?_;clear H;intro a H;refine s_call TM H wn rfl (Tt _ _ H.ro st li rv b ms ml mr mb mu n h.props[k].key h.props[k].value hck hb) rfl ?_;clear H;rintro v33 _ a w ⟨rfl,rfl⟩ - H;refine eO 6 H ?_ ?_ <;> clear H
  ·intro p35
   have hr:vZ (aL us st li rv) h.props=jY st (li.map dz.id) h.props[k].key h.props[k].value:=by rw [← heq];exact (Rt (C:=aL us st li rv) hk2).trans (au p35)
   have hE:=(abQ (C:=aL us st li rv) (e:=e) (h:=h) e1 (by rw [hr];exact p35)).trans hr;refine aJ 4 ?_;rw [hE]
  intro p35
  refine aj 4 ?_;intro a H;refine aI ?_;refine bR ((k+1)) (by exact (H.bY (Pl:=[_]) (bT:=[]) [] (by decide) rfl).sub ⟨rfl,rfl,rfl,rfl,rfl,rfl,aY⟩) ?_ ?_
  ·exact ⟨by omega,by rw [Rt (C:=aL us st li rv) hk2,ah (by simpa using p35)] at heq;exact heq⟩
  first|omega|(dsimp only;omega)
 intro p25
 refine aj 1 ?_
 have e2:vZ (aL us st li rv) h.props=0:=by rw [← heq,eX (by rw [bE];omega)];rfl
 refine aj 2 ?_;intro a H;refine aT xE (cs:=[vi h.marks.ins,vi h.marks.move,.slice dA h.marks.bg.length dc,.slice lA h.marks.layers.length lc]) H wn rfl rfl (fun j v hj=>H.hp.aC (UE j v hj)) rfl ?_;clear H;intro a H;refine dx xE H wn rfl ?_;clear H;intro b11 a w Hu H;refine bq xE 0 (vs:=[_,_,_,_]) _ H wn rfl rfl rfl rfl rfl rfl rfl rfl ?_;clear H;intro w H;dsimp only [List.set,setRow] at H;obtain ⟨Gb,hmb,JD,H⟩:=H.dS;replace hck:=hck.mono hmb;replace hb:=hmb _ _ hb;replace hh:=hh.mono hmb;replace g3:=aD hmb g3;replace g4:=aD hmb g4;replace hc2:=aD hmb hc2
 have q0:aC Gb b11 0=some (vi h.marks.ins):=by unfold aC;rw [JD];rfl
 have q1:aC Gb b11 1=some (vi h.marks.move):=by unfold aC;rw [JD];rfl
 have q2:aC Gb b11 2=some (.slice dA h.marks.bg.length dc):=by unfold aC;rw [JD];rfl
 have q3:aC Gb b11 3=some (.slice lA h.marks.layers.length lc):=by unfold aC;rw [JD];rfl
 have hcb:=aqy hck hb g3 g4 q3 hh.layers;refine aI ?_;refine dW ?_;refine oQ (ι:=GH) (Tc:=[(3,_),(4,_),(11,_)]) (Lc:=[]) (fun gh=>[]) (fun gh=>[]) (fun gh=>gh) (fun gh=>fq (aL us st li rv) h.marks=0∧(∀ b o,Gb b=some o→gh b=some o)) sB ?_ ?_
 ·refine LG ?_;refine Jy ?_
  by_cases c0:h.marks.ins≠0
  ·skip
   by_cases c1:h.marks.ins∉rv.map bD.id
   ·refine dI hmx [[],[0],[0,1],[0,1,2],(ra 0 4),(ra 0 5),(ra 0 6),(ra 0 7),(ra 0 4),[0,1,2,3,8],(ra 0 10),(ra 0 11),(ra 0 12),(ra 0 13)] [13] (by kernel_rfl) [_,_,_,_,_,(aK b 0),_,_,_,_,.bool (decide (h.marks.ins∈rv.map bD.id)),.bool (decide (h.marks.ins∉rv.map bD.id)),_] H (aF (Z0 rfl (Rf EU rfl)) (X1 0 41 rfl fun hG=>Rg bC rfl (aD hG q0)) (Z1 1 42 rfl (Rc rfl)) (Z1 2 43 rfl (Rm rfl)) (aF (X1 3 44 rfl fun hG=>YR RX (aG c0) rfl (aD hG g3)) ?_ (Z2 5 46 3 44 rfl (YF Me (aG c0) rfl)) (X2 6 47 3 44 rfl fun hG=>YR FM (aG c0) rfl (aD hG hc2)) (aF (Z1 3 44 rfl (YF EU (aG c0) rfl)) (X2 8 49 3 44 rfl fun hG=>YR bC (aG c0) rfl (aD hG q0)) ?_ ?_ (aW (Z2 3 44 11 52 rfl (Pt (aG c0) rfl)) (aW (bS rfl) cZ))))) ?_
    ·refine dP 4 45 3 44 rfl rfl fun _ a w G1 hG HT H fin=>?_;refine uS H (wg H rfl rfl (aG c0)) rfl rfl ?_;clear H;intro a H;exact fin H iJ rfl
    ·refine tQ 7 48 9 50 3 44 rfl rfl fun _ a w G1 hG HT H fin=>?_;refine Bu (zv:=.bool false) xG lZ (by kernel_rfl) H (wg H rfl rfl (aG c0)) rfl rfl (H.ro _ _ (hG _ _ hck.rev)) rfl ?_;clear H;intro a H;rw [Fu] at H;exact fin H iJ rfl
    ·refine dP 10 51 3 44 rfl rfl fun _ a w G1 hG HT H fin=>?_;refine aH 1 H ?_;clear H;intro a H;exact fin H iJ (by show _=_;first|rfl|exact dJ decide_not.symm)
    clear H;intro a w G oD H hv;have H:=H.aV (hv 12 53 rfl rfl) rfl;clear hv;refine t1 3 H ?_;clear H;have e3:fq (aL us st li rv) h.marks=22:=au ⟨c0,c1⟩;have hE:=(qY (C:=aL us st li rv) (e:=e) (h:=h) e1 e2 (by rw [e3];decide)).trans e3;refine aJ 3 ?_;rw [hE]
   refine dI hmx [[],[0],[0,1],[0,1,2],(ra 0 4),(ra 0 5),(ra 0 6),(ra 0 7),(ra 0 4),[0,1,2,3,8],(ra 0 10),(ra 0 11),(ra 0 12),(ra 0 13)] [13] (by kernel_rfl) [_,_,_,_,_,(aK b 0),_,_,_,_,.bool (decide (h.marks.ins∈rv.map bD.id)),.bool (decide (h.marks.ins∉rv.map bD.id)),_] H (aF (Z0 rfl (Rf EU rfl)) (X1 0 41 rfl fun hG=>Rg bC rfl (aD hG q0)) (Z1 1 42 rfl (Rc rfl)) (Z1 2 43 rfl (Rm rfl)) (aF (X1 3 44 rfl fun hG=>YR RX (aG c0) rfl (aD hG g3)) ?_ (Z2 5 46 3 44 rfl (YF Me (aG c0) rfl)) (X2 6 47 3 44 rfl fun hG=>YR FM (aG c0) rfl (aD hG hc2)) (aF (Z1 3 44 rfl (YF EU (aG c0) rfl)) (X2 8 49 3 44 rfl fun hG=>YR bC (aG c0) rfl (aD hG q0)) ?_ ?_ (aW (Z2 3 44 11 52 rfl (Pt (aG c0) rfl)) (aW (bS rfl) cZ))))) ?_
   ·refine dP 4 45 3 44 rfl rfl fun _ a w G1 hG HT H fin=>?_;refine uS H (wg H rfl rfl (aG c0)) rfl rfl ?_;clear H;intro a H;exact fin H iJ rfl
   ·refine tQ 7 48 9 50 3 44 rfl rfl fun _ a w G1 hG HT H fin=>?_;refine Bu (zv:=.bool false) xG lZ (by kernel_rfl) H (wg H rfl rfl (aG c0)) rfl rfl (H.ro _ _ (hG _ _ hck.rev)) rfl ?_;clear H;intro a H;rw [Fu] at H;exact fin H iJ rfl
   ·refine dP 10 51 3 44 rfl rfl fun _ a w G1 hG HT H fin=>?_;refine aH 1 H ?_;clear H;intro a H;exact fin H iJ (by show _=_;first|rfl|exact dJ decide_not.symm)
   clear H;intro a w G oD H hv;have H:=H.aV (hv 12 53 rfl rfl) rfl;clear hv;refine t1 3 H ?_;clear H
   have hno:¬ (h.marks.ins≠0∧h.marks.ins∉(aL us st li rv).kQ):=by first|exact fun h=>c1 h.2|exact fun h=>c0 h.1
   replace q0:=aD oD q0;replace q1:=aD oD q1;replace q2:=aD oD q2;refine aj 3 ?_;intro a H;refine s_call yU H wn rfl (zl _ _ H.ro h.marks.move 0 1073741824) rfl ?_;clear H;rintro v57 _ a w ⟨rfl,rfl⟩ - H;refine ku 2 59 H ?_ ?_ <;> clear H
   ·intro p59
    refine aj 12 ?_
    have e3:fq (aL us st li rv) h.marks=21:=by unfold fq;rw [ah hno,au (by first|(simp_all;done)|(simp_all;omega))]
    have hE:=(qY (C:=aL us st li rv) (e:=e) (h:=h) e1 e2 (by rw [e3];decide)).trans e3;refine aJ 3 ?_;rw [hE]
   intro p59
   refine gV 4 63 ?_ ?_
   ·intro p63
    refine goB 7 ?_ ?_
    ·intro p54
     have e3:fq (aL us st li rv) h.marks=21:=by unfold fq;rw [ah hno,au (by first|(simp_all;done)|(simp_all;omega))]
     have hE:=(qY (C:=aL us st li rv) (e:=e) (h:=h) e1 e2 (by rw [e3];decide)).trans e3;refine aJ 3 ?_;rw [hE]
    intro p54
    have hn2:¬ (¬ (0≤h.marks.move∧h.marks.move≤1073741824)∨(h.marks.move≠0∧h.marks.ins=0)):=by first|(simp_all;done)|(simp_all;omega)
    refine goC 7 ?_ ?_
    ·intro qB
     have e3:fq (aL us st li rv) h.marks=9:=by unfold fq;rw [ah hno,ah hn2,au (by simpa using qB)]
     have hE:=(qY (C:=aL us st li rv) (e:=e) (h:=h) e1 e2 (by rw [e3];decide)).trans e3;refine aJ 3 ?_;rw [hE]
    intro qB
    have e3:fq (aL us st li rv) h.marks=0:=by unfold fq;rw [ah hno,ah hn2,ah (by simpa using qB)]
    intro a H;refine iE ?_;refine ⟨_,sB,?_⟩;exact ⟨e3,oD⟩
   intro p63
   refine aj 8 ?_
   have hn2:¬ (¬ (0≤h.marks.move∧h.marks.move≤1073741824)∨(h.marks.move≠0∧h.marks.ins=0)):=by first|(simp_all;done)|(simp_all;omega)
   refine goC 7 ?_ ?_
   ·intro qB
    have e3:fq (aL us st li rv) h.marks=9:=by unfold fq;rw [ah hno,ah hn2,au (by simpa using qB)]
    have hE:=(qY (C:=aL us st li rv) (e:=e) (h:=h) e1 e2 (by rw [e3];decide)).trans e3;refine aJ 3 ?_;rw [hE]
   intro qB
   have e3:fq (aL us st li rv) h.marks=0:=by unfold fq;rw [ah hno,ah hn2,ah (by simpa using qB)]
   intro a H;refine iE ?_;refine ⟨_,sB,?_⟩;exact ⟨e3,oD⟩
  refine dI hmx [[],[0],[0,1],[0,1,2],(ra 0 4),(ra 0 5),(ra 0 6),(ra 0 7),(ra 0 4),[0,1,2,3,8],(ra 0 10),(ra 0 11),(ra 0 12),(ra 0 13)] [13] (by kernel_rfl) [_,_,_,_,undef,undef,undef,undef,undef,undef,undef,undef,_] H (aF (Z0 rfl (Rf EU rfl)) (X1 0 41 rfl fun hG=>Rg bC rfl (aD hG q0)) (Z1 1 42 rfl (Rc rfl)) (Z1 2 43 rfl (Rm rfl)) (aF (aO 3 (aN c0) rfl rfl) (aO 3 (aN c0) rfl rfl) (aO 3 (aN c0) rfl rfl) (aO 3 (aN c0) rfl rfl) (aF (aO 3 (aN c0) rfl rfl) (aO 3 (aN c0) rfl rfl) (aO 3 (aN c0) rfl rfl) (aO 3 (aN c0) rfl rfl) (aW (Z2 3 44 11 52 rfl (Pf (aN c0) rfl)) (aW (bS rfl) cZ))))) ?_
  clear H;intro a w G oD H hv;have H:=H.aV (hv 12 53 rfl rfl) rfl;clear hv;refine t1 3 H ?_;clear H
  have hno:¬ (h.marks.ins≠0∧h.marks.ins∉(aL us st li rv).kQ):=by first|exact fun h=>c1 h.2|exact fun h=>c0 h.1
  replace q0:=aD oD q0;replace q1:=aD oD q1;replace q2:=aD oD q2;refine aj 3 ?_;intro a H;refine s_call yU H wn rfl (zl _ _ H.ro h.marks.move 0 1073741824) rfl ?_;clear H;rintro v57 _ a w ⟨rfl,rfl⟩ - H;refine ku 2 59 H ?_ ?_ <;> clear H
  ·intro p59
   refine aj 12 ?_
   have e3:fq (aL us st li rv) h.marks=21:=by unfold fq;rw [ah hno,au (by first|(simp_all;done)|(simp_all;omega))]
   have hE:=(qY (C:=aL us st li rv) (e:=e) (h:=h) e1 e2 (by rw [e3];decide)).trans e3;refine aJ 3 ?_;rw [hE]
  intro p59
  refine gV 4 63 ?_ ?_
  ·intro p63
   refine goB 7 ?_ ?_
   ·intro p54
    have e3:fq (aL us st li rv) h.marks=21:=by unfold fq;rw [ah hno,au (by first|(simp_all;done)|(simp_all;omega))]
    have hE:=(qY (C:=aL us st li rv) (e:=e) (h:=h) e1 e2 (by rw [e3];decide)).trans e3;refine aJ 3 ?_;rw [hE]
   intro p54
   have hn2:¬ (¬ (0≤h.marks.move∧h.marks.move≤1073741824)∨(h.marks.move≠0∧h.marks.ins=0)):=by first|(simp_all;done)|(simp_all;omega)
   refine goC 7 ?_ ?_
   ·intro qB
    have e3:fq (aL us st li rv) h.marks=9:=by unfold fq;rw [ah hno,ah hn2,au (by simpa using qB)]
    have hE:=(qY (C:=aL us st li rv) (e:=e) (h:=h) e1 e2 (by rw [e3];decide)).trans e3;refine aJ 3 ?_;rw [hE]
   intro qB
   have e3:fq (aL us st li rv) h.marks=0:=by unfold fq;rw [ah hno,ah hn2,ah (by simpa using qB)]
   intro a H;refine iE ?_;refine ⟨_,sB,?_⟩;exact ⟨e3,oD⟩
  intro p63
  refine aj 8 ?_
  have hn2:¬ (¬ (0≤h.marks.move∧h.marks.move≤1073741824)∨(h.marks.move≠0∧h.marks.ins=0)):=by first|(simp_all;done)|(simp_all;omega)
  refine goC 7 ?_ ?_
  ·intro qB
   have e3:fq (aL us st li rv) h.marks=9:=by unfold fq;rw [ah hno,ah hn2,au (by simpa using qB)]
   have hE:=(qY (C:=aL us st li rv) (e:=e) (h:=h) e1 e2 (by rw [e3];decide)).trans e3;refine aJ 3 ?_;rw [hE]
  intro qB
  have e3:fq (aL us st li rv) h.marks=0:=by unfold fq;rw [ah hno,ah hn2,ah (by simpa using qB)]
  intro a H;refine iE ?_;refine ⟨_,sB,?_⟩;exact ⟨e3,oD⟩
 clear H;intro g a w hI H;obtain ⟨e3,zi⟩:=hI;replace hck:=hck.mono zi;replace hb:=zi _ _ hb;replace hh:=hh.mono zi;replace g3:=aD zi g3;replace q2:=aD zi q2;replace q3:=aD zi q3;replace hc2:=aD zi hc2;replace hcb:=hcb.mono zi;dsimp only [lca,aQ] at H;refine dG 8 H ?_;clear H;intro a H;refine dD (ι:=Nat × GH) (Tc:=[(3,_),(4,_),(11,_),(75,_),(76,_)]) (Lc:=[]) (fun gh=>[(77,vi gh.1)]) (fun gh=>[]) (fun gh=>gh.2) (fun gh=>gh.1≤h.marks.bg.length∧bP (((List.range h.marks.bg.length).map (qy (aL us st li rv) h.marks.bg)).drop gh.1)=fV (qy (aL us st li rv) h.marks.bg) h.marks.bg.length∧(∀ b o,g b=some o→gh.2 b=some o)) (fun gh=>h.marks.bg.length - gh.1) ((0,g)) sB ?_ ?_
 ·exact ⟨eG _,rfl,fun _ _ h=>h⟩
 clear H;rintro ⟨k,g2⟩ a w hI H;dsimp only at hI H;obtain ⟨hk,heq,hgm⟩:=hI;dsimp only [lca,aQ] at H;refine cK 4 H ?_ ?_ <;> clear H
 ·intro Xe
  have hk2:k < h.marks.bg.length:=by omega
  have hd2:=hh.bg.mono hgm;obtain ⟨xb,xo,rfl,hrow⟩:=Jp hd2 hk2
  have hk1:k - 1 < h.marks.bg.length:=by omega
  obtain ⟨b',o',he',hrow'⟩:=Jp hd2 hk1
  intro a H;injection he' with he'
  injection he' with e1 e2
  subst e1;subst e2
  have hde:qy (aL us st li rv) h.marks.bg k=nS (aL us st li rv) k h.marks.bg[k] h.marks.bg[k - 1].rev:=by unfold qy;rw [dV hk2,dV hk1];rfl
  have hX:∀ v,nS (aL us st li rv) k h.marks.bg[k] h.marks.bg[k - 1].rev=v→v≠0→eH (aL us st li rv) e h=v:=fun v h1 h2=>by
   have h4:fV (qy (aL us st li rv) h.marks.bg) h.marks.bg.length=v:=by rw [← heq,qp hk2,hde,h1,au h2]
   exact (abR e1 e2 e3 (by rw [h4];exact h2)).trans h4
  have hp:=hrow' 0 _ rfl;have g3':=aD hgm g3;have hc2':=aD hgm hc2;have q2':=aD hgm q2;refine dG 6 H ?_;clear H;intro a H;refine aT sQ (cs:=h.marks.bg[k].cells) H wn rfl rfl (fun j v hj=>H.hp.aC (hrow j v hj)) rfl ?_;clear H;intro a H;refine dx sQ H wn rfl ?_;clear H;intro b13 a w JE H;refine aH 1 H ?_;clear H;intro a H;refine bq sQ 0 (vs:=[_,_]) _ H wn rfl rfl rfl rfl rfl rfl rfl rfl ?_;clear H;intro w H;dsimp only [List.set,setRow] at H;refine aH 3 H ?_;clear H;intro a H;refine dI hmx [[],[0],[0,1],[0,1,2],[],[4],(ra 0 6),(ra 0 7),(ra 0 8)] [8] (by kernel_rfl) [_,_,_,_,_,vi h.marks.bg[k].rev,.bool (decide (h.marks.bg[k].rev∈rv.map bD.id)),_] H (aF (X0 rfl fun hG=>Rg RX rfl (aD hG g3')) (Z1 0 83 rfl (Rk rfl)) (Z1 1 84 rfl (Rf Me rfl)) (X1 2 85 rfl fun hG=>Rg FM rfl (aD hG hc2')) (aF (Z0 rfl (Rf Dw rfl)) (Z1 4 87 rfl (Ro bC 0 rfl)) ?_ (Z1 6 89 rfl (Rn rfl)) (aW (bS rfl) cZ))) ?_
  ·refine dP 3 86 5 88 rfl rfl fun _ a w G1 hG HT H fin=>?_;refine Bu (zv:=.bool false) xG lZ (by kernel_rfl) H wn rfl rfl (H.ro _ _ (hG _ _ (hgm _ _ hck.rev))) rfl ?_;clear H;intro a H;rw [Fu] at H;exact fin H iJ rfl
  clear H;intro a w G Ck H hv;have H:=H.aV (hv 7 90 rfl rfl) rfl;clear hv;refine t1 2 H ?_;clear H;refine goC 0 ?_ ?_
  ·intro PI
   have hE:=hX 22 (by unfold nS;rw [au (by simpa using PI)]) (by decide);refine aJ 3 ?_;rw [hE]
  intro PI
  try have p82:=dF PI
  have MQ:¬ (h.marks.bg[k].rev∉(aL us st li rv).kQ):=by simpa using PI
  refine aj 1 ?_;replace hp:=aD Ck hp;replace q2':=aD Ck q2'
  intro a H;by_cases c3:0 < (k:Int)
  ·skip
   by_cases c4:h.marks.bg[k].rev≤h.marks.bg[k - 1].rev
   ·refine dI hmx [[],[0],[0,1],[0,1,2],(ra 0 4),[0,1,2],[0,1,2,5],[0,1,2],[0,1,2,7],[0,1,2,5,6,7,8],[0,1,2,5,6,7,8,9],([0,1,2]++ra 5 6),(ra 0 12),(ra 0 13),(ra 0 14)] [14] (by kernel_rfl) [_,_,_,_,vi h.marks.bg[k].rev,_,_,_,vi ((k - 1:Nat):Int),_,_,_,_,_] H (aF (Z0 rfl (Rm rfl)) (Z1 0 92 rfl (Rc rfl)) (Z1 1 93 rfl (Rm rfl)) (Z1 2 94 rfl (YF Dw (aG c3) rfl)) (aF (Z2 3 95 2 94 rfl (YO bC 0 (aG c3) rfl)) (Z1 2 94 rfl (YF zS (aG c3) rfl)) (X2 5 97 2 94 rfl fun hG=>YR Af (aG c3) rfl (aD hG q2')) (Z1 2 94 rfl (YM (aG c3) rfl)) (aF ?_ (Z3 6 98 8 100 2 94 rfl (YI wz sQ (aG c3) rfl rfl)) (Z2 9 101 2 94 rfl (YF Dw (aG c3) rfl)) (X2 10 102 2 94 rfl fun hG=>YR bC (aG c3) rfl (aD hG hp)) (aW (Z3 4 96 11 103 2 94 rfl (YC (aG c3) rfl)) (aW (Z2 2 94 12 104 rfl (Pt (aG c3) rfl)) (aW (bS rfl) cZ)))))) ?_
    ·refine dP 7 99 2 94 rfl rfl fun _ a w G1 hG HT H fin=>?_;refine lC _ H (wg H rfl rfl (aG c3)) rfl rfl rfl (by omega) (by omega) rfl ?_;clear H;intro a H;exact fin H iJ (by show _=_;first|rfl|exact aB vi (by omega))
    clear H;intro a w G PO H hv;have H:=H.aV (hv 13 105 rfl rfl) rfl;clear hv;refine t1 3 H ?_;clear H;have hz:0 < k∧h.marks.bg[k].rev≤h.marks.bg[k - 1].rev:=⟨by omega,c4⟩;have hE:=hX 6 (by unfold nS;rw [ah MQ,au hz]) (by decide);refine aJ 3 ?_;rw [hE]
   refine dI hmx [[],[0],[0,1],[0,1,2],(ra 0 4),[0,1,2],[0,1,2,5],[0,1,2],[0,1,2,7],[0,1,2,5,6,7,8],[0,1,2,5,6,7,8,9],([0,1,2]++ra 5 6),(ra 0 12),(ra 0 13),(ra 0 14)] [14] (by kernel_rfl) [_,_,_,_,vi h.marks.bg[k].rev,_,_,_,vi ((k - 1:Nat):Int),_,_,_,_,_] H (aF (Z0 rfl (Rm rfl)) (Z1 0 92 rfl (Rc rfl)) (Z1 1 93 rfl (Rm rfl)) (Z1 2 94 rfl (YF Dw (aG c3) rfl)) (aF (Z2 3 95 2 94 rfl (YO bC 0 (aG c3) rfl)) (Z1 2 94 rfl (YF zS (aG c3) rfl)) (X2 5 97 2 94 rfl fun hG=>YR Af (aG c3) rfl (aD hG q2')) (Z1 2 94 rfl (YM (aG c3) rfl)) (aF ?_ (Z3 6 98 8 100 2 94 rfl (YI wz sQ (aG c3) rfl rfl)) (Z2 9 101 2 94 rfl (YF Dw (aG c3) rfl)) (X2 10 102 2 94 rfl fun hG=>YR bC (aG c3) rfl (aD hG hp)) (aW (Z3 4 96 11 103 2 94 rfl (YC (aG c3) rfl)) (aW (Z2 2 94 12 104 rfl (Pt (aG c3) rfl)) (aW (bS rfl) cZ)))))) ?_
   ·refine dP 7 99 2 94 rfl rfl fun _ a w G1 hG HT H fin=>?_;refine lC _ H (wg H rfl rfl (aG c3)) rfl rfl rfl (by omega) (by omega) rfl ?_;clear H;intro a H;exact fin H iJ (by show _=_;first|rfl|exact aB vi (by omega))
   clear H;intro a w G PO H hv;have H:=H.aV (hv 13 105 rfl rfl) rfl;clear hv;refine t1 3 H ?_;clear H
   have hz:¬ (0 < k∧h.marks.bg[k].rev≤h.marks.bg[k - 1].rev):=by first|exact fun h=>c4 h.2|exact fun h=>c3 (by omega)
   refine aj 3 ?_;intro a H;refine s_call yU H wn rfl (zl _ _ H.ro h.marks.bg[k].move 0 1073741824) rfl ?_;clear H;rintro v109 _ a w ⟨rfl,rfl⟩ - H;refine fE 3 H ?_ ?_ <;> clear H
   ·intro AJ
    try have WW:=dT AJ
    have hE:=hX 21 (by unfold nS;rw [ah MQ,ah hz,au (by have h0:=AJ;simp at h0;omega)]) (by decide);refine aJ 3 ?_;rw [hE]
   intro AJ
   try have WW:=dF AJ
   have HV:nS (aL us st li rv) k h.marks.bg[k] h.marks.bg[k - 1].rev=0:=by unfold nS;rw [ah MQ,ah hz,ah (by have h0:=AJ;simp at h0;omega)]
   have sH:=fun b o h=>PO b o (Ck b o (hgm b o h));refine aj 4 ?_;intro a H;refine aI ?_;refine bR ((k+1,G)) (by exact (H.bY (Pl:=[_]) (bT:=[]) [] (by decide) rfl).sub ⟨rfl,rfl,rfl,rfl,rfl,rfl,aY⟩) ?_ ?_
   ·(try dsimp only);exact ⟨by omega,by rw [qp hk2,ah (by rw [hde];simpa using HV)] at heq;exact heq,sH⟩
   first|omega|(dsimp only;omega)
  refine dI hmx [[],[0],[0,1],[0,1,2],(ra 0 4),[0,1,2],[0,1,2,5],[0,1,2],[0,1,2,7],[0,1,2,5,6,7,8],[0,1,2,5,6,7,8,9],([0,1,2]++ra 5 6),(ra 0 12),(ra 0 13),(ra 0 14)] [14] (by kernel_rfl) [_,_,_,undef,undef,undef,undef,undef,undef,undef,undef,undef,undef,_] H (aF (Z0 rfl (Rm rfl)) (Z1 0 92 rfl (Rc rfl)) (Z1 1 93 rfl (Rm rfl)) (aO 2 (aN c3) rfl rfl) (aF (aO 2 (aN c3) rfl rfl) (aO 2 (aN c3) rfl rfl) (aO 2 (aN c3) rfl rfl) (aO 2 (aN c3) rfl rfl) (aF (aO 2 (aN c3) rfl rfl) (aO 2 (aN c3) rfl rfl) (aO 2 (aN c3) rfl rfl) (aO 2 (aN c3) rfl rfl) (aW (aO 2 (aN c3) rfl rfl) (aW (Z2 2 94 12 104 rfl (Pf (aN c3) rfl)) (aW (bS rfl) cZ)))))) ?_
  clear H;intro a w G PO H hv;have H:=H.aV (hv 13 105 rfl rfl) rfl;clear hv;refine t1 3 H ?_;clear H
  have hz:¬ (0 < k∧h.marks.bg[k].rev≤h.marks.bg[k - 1].rev):=by first|exact fun h=>c4 h.2|exact fun h=>c3 (by omega)
  refine aj 3 ?_;intro a H;refine s_call yU H wn rfl (zl _ _ H.ro h.marks.bg[k].move 0 1073741824) rfl ?_;clear H;rintro v109 _ a w ⟨rfl,rfl⟩ - H;refine fE 3 H ?_ ?_ <;> clear H
  ·intro AJ
   try have WW:=dT AJ
   have hE:=hX 21 (by unfold nS;rw [ah MQ,ah hz,au (by have h0:=AJ;simp at h0;omega)]) (by decide);refine aJ 3 ?_;rw [hE]
  intro AJ
  try have WW:=dF AJ
  have HV:nS (aL us st li rv) k h.marks.bg[k] h.marks.bg[k - 1].rev=0:=by unfold nS;rw [ah MQ,ah hz,ah (by have h0:=AJ;simp at h0;omega)]
  have sH:=fun b o h=>PO b o (Ck b o (hgm b o h));refine aj 4 ?_;intro a H;refine aI ?_;refine bR ((k+1,G)) (by exact (H.bY (Pl:=[_]) (bT:=[]) [] (by decide) rfl).sub ⟨rfl,rfl,rfl,rfl,rfl,rfl,aY⟩) ?_ ?_
  ·(try dsimp only);exact ⟨by omega,by rw [qp hk2,ah (by rw [hde];simpa using HV)] at heq;exact heq,sH⟩
  first|omega|(dsimp only;omega)
 intro Xe
 refine aj 2 ?_
 have e4:fV (qy (aL us st li rv) h.marks.bg) h.marks.bg.length=0:=by rw [← heq,eX (by simp;omega)];rfl
 replace q3:=aD hgm q3;refine goB 6 ?_ ?_
 ·intro WY
  have hE:=abS (C:=aL us st li rv) (e:=e) (h:=h) e1 e2 e3 e4 WY;refine aJ 3 ?_;rw [hE]
 intro WY
 refine aj 1 ?_;have hE:=abT (C:=aL us st li rv) (e:=e) (h:=h) e1 e2 e3 e4 WY;refine aj 4 ?_;intro a H;refine pK H wn rfl rfl ?_;clear H;intro a H;refine s_call Js H wn rfl (LA _ _ H.ro h.marks.layers.length (xu (aL us st li rv) e h.marks.layers) _ (by omega) (hcb.mono hgm)) rfl ?_;clear H;rintro axv avU a w rfl awd H;refine gK 2 H ?_;rw [hE]
end
section
open Go.RowKit
instance:dL prog 68 1 1:=⟨by kernel_rfl⟩
def codeOk (x:av):Bool:=if x.kind=4 then decide (1≤x.code∧x.code≤3) else if x.kind=6 then decide (1≤x.code∧x.code≤2) else if x.kind=8 then decide (1≤x.code∧x.code≤4) else true
def wo (x:av):Bool:=decide (x.kind=8∧x.code=1)
def uY (x:av):Bool:=decide (x.kind=1∨x.kind=5) || wo x
def sN (x:av):Bool:=decide (x.kind=6∨x.kind=7∨x.kind=8)
def uy (x:av):Bool:=decide (x.kind=4∨x.kind=6∨x.kind=8)
def mh (s:ByteArray):Bool:=s.toList == (⟨#[]⟩:ByteArray).toList
def qU (x:av):Bool:=!uy x && decide (x.code≠0) || !sN x && decide (x.id≠0) || !uY x && !mh x.text || decide (x.kind≠6) && decide (0 < (x.flow.length:Int)) || decide (x.kind≠7) && decide (0 < (x.rows.length:Int))
def gN (x:av):Int :=
 if (!decide (1≤x.kind∧x.kind≤8) || !codeOk x)=true then 3 else if qU x=true then 15 else if mX x.text=false then 12 else if (decide (x.kind=1∨x.kind=5) && mh x.text)=true then 11
 else if (decide (x.kind=5) && decide (1024 < (x.text.size:Int)))=true then 10 else if (wo x && !oU x.text)=true then 13 else 0
theorem amM (G:GH) (w0:World) (hG:Hold G w0) (x:av) (p d l:ak) (fA rA:Option Addr) (fc rc:Nat) (hs:x.text.size < 4611686018427387904) :
  Calls prog 162 #[.agg #[vi x.kind,vi x.code,vi x.id,.string x.text,p,vi x.head.marks.ins,vi x.head.marks.move,d,l,.slice fA x.flow.length fc,.slice rA x.rows.length rc]] w0 (bB w0 G fun u G'=>u=vi (gN x)∧G=G'):=by
 refine eN [(0,_)] func162 rfl ntmps162 rfl rfl hG ?_;refine aj 1 ?_;intro a H;refine dN (cs:=[_,_,_,_,_,_,_,_,_,_,_]) H wn rfl rfl rfl ?_;clear H;intro b1 a w hb1 H;refine aH 2 H ?_;clear H;intro a H;refine oQ (ι:=Bool) (Tc:=[(1,_)]) (Lc:=[(_,_)]) (fun gh=>[(3,.bool gh)]) (fun gh=>[]) (fun gh=>G) (fun gh=>gh=wo x) sB ?_ ?_
 ·refine wT 5 11 H ?_ ?_ <;> clear H
  ·intro qg
   refine aj 5 ?_;intro a H;refine aI ?_;refine ⟨_,sB,?_⟩
   unfold wo;first|(simp_all;done)
  intro qg
  refine aj 5 ?_;intro a H;refine aI ?_;refine ⟨_,sB,?_⟩
  unfold wo;first|(simp_all;done)
 clear H;intro st a w hI H;have hst:=hI;dsimp only [lca,aQ] at H;refine oQ (ι:=Bool) (Tc:=[(1,_),(3,_)]) (Lc:=[(_,_)]) (fun gh=>[(4,.bool gh)]) (fun gh=>[]) (fun gh=>G) (fun gh=>gh=uY x) sB ?_ ?_
 ·refine wT 5 19 H ?_ ?_ <;> clear H
  ·intro uQ
   refine aj 8 ?_;intro a H;refine aI ?_;refine ⟨_,sB,?_⟩
   unfold uY;first|(simp_all;done)
  intro uQ
  refine gV 5 24 ?_ ?_
  ·intro kN
   refine aj 3 ?_;intro a H;refine aI ?_;refine ⟨_,sB,?_⟩
   unfold uY;first|(simp_all;done)
  intro kN
  refine aj 3 ?_;intro a H;refine aI ?_;refine ⟨_,sB,?_⟩
  unfold uY;first|(simp_all;done)
 clear H;intro wd a w hI H;have hwd:=hI;dsimp only [lca,aQ] at H;refine oQ (ι:=Bool) (Tc:=[(1,_),(3,_),(4,_)]) (Lc:=[(_,_)]) (fun gh=>[(5,.bool gh)]) (fun gh=>[]) (fun gh=>G) (fun gh=>gh=sN x) sB ?_ ?_
 ·refine wT 5 30 H ?_ ?_ <;> clear H
  ·intro p30
   refine aj 10 ?_;intro a H;refine aI ?_;refine ⟨_,sB,?_⟩
   unfold sN;first|(simp_all;done)
  intro p30
  refine gV 5 35 ?_ ?_
  ·intro p35
   refine aj 5 ?_;intro a H;refine aI ?_;refine ⟨_,sB,?_⟩
   unfold sN;first|(simp_all;done)
  intro p35
  refine aj 5 ?_;intro a H;refine aI ?_;refine ⟨_,sB,?_⟩
  unfold sN;first|(simp_all;done)
 clear H;intro nm a w hI H;have hnm:=hI;dsimp only [lca,aQ] at H;refine dG 3 H ?_;clear H;intro a H;refine oQ (ι:=Bool) (Tc:=[(1,_),(3,_),(4,_),(5,_)]) (Lc:=[(_,_)]) (fun gh=>[(6,.bool gh)]) (fun gh=>[]) (fun gh=>G) (fun gh=>gh=codeOk x) sB ?_ ?_
 ·refine cK 9 H ?_ ?_ <;> clear H
  ·intro p42
   refine aj 3 ?_;intro a H;refine s_call yU H wn rfl (zl _ _ H.ro x.code 1 3) rfl ?_;clear H;rintro v46 _ a w ⟨rfl,rfl⟩ - H;refine aH 1 H ?_;clear H;intro a H;refine aI ?_;refine ⟨_,sB,?_⟩
   unfold codeOk;first|(simp_all;done)
  intro p42
  refine goB 4 ?_ ?_
  ·intro p47
   refine aj 3 ?_;intro a H;refine s_call yU H wn rfl (zl _ _ H.ro x.code 1 2) rfl ?_;clear H;rintro v51 _ a w ⟨rfl,rfl⟩ - H;refine aH 1 H ?_;clear H;intro a H;refine aI ?_;refine ⟨_,sB,?_⟩
   unfold codeOk;first|(simp_all;done)
  intro p47
  refine goB 4 ?_ ?_
  ·intro p52
   refine aj 3 ?_;intro a H;refine s_call yU H wn rfl (zl _ _ H.ro x.code 1 4) rfl ?_;clear H;rintro v56 _ a w ⟨rfl,rfl⟩ - H;refine aH 1 H ?_;clear H;intro a H;refine aI ?_;refine ⟨_,sB,?_⟩
   unfold codeOk;first|(simp_all;done)
  intro p52
  intro a H;refine iE ?_;refine ⟨_,sB,?_⟩
  unfold codeOk;first|(simp_all;done)
 clear H;intro ck a w hI H;have hck:=hI;dsimp only [lca,aQ] at H;refine oQ (ι:=Bool) (Tc:=[(1,_),(3,_),(4,_),(5,_),(6,_)]) (Lc:=[(_,_)]) (fun gh=>[(7,.bool gh)]) (fun gh=>[]) (fun gh=>G) (fun gh=>gh=uy x) sB ?_ ?_
 ·refine wT 5 60 H ?_ ?_ <;> clear H
  ·intro p60
   refine aj 10 ?_;intro a H;refine aI ?_;refine ⟨_,sB,?_⟩
   unfold uy;first|(simp_all;done)
  intro p60
  refine gV 5 65 ?_ ?_
  ·intro p65
   refine aj 5 ?_;intro a H;refine aI ?_;refine ⟨_,sB,?_⟩
   unfold uy;first|(simp_all;done)
  intro p65
  refine aj 5 ?_;intro a H;refine aI ?_;refine ⟨_,sB,?_⟩
  unfold uy;first|(simp_all;done)
 clear H;intro cd a w hI H;have hcd:=hI;dsimp only [lca,aQ] at H;refine dG 3 H ?_;clear H;intro a H;refine mI (ι:=Bool) (Tc:=[(1,_),(3,_),(4,_),(5,_),(7,_)]) 8 (fun (q0:Bool)=>[(78,.bool q0)]) (fun (q0:Bool)=>q0=(!decide (1≤x.kind∧x.kind≤8) || !codeOk x)) sB ?_ ?_
 ·intro abw;refine aH 2 H ?_;clear H;intro a H;refine s_call yU H wn rfl (zl _ _ H.ro x.kind 1 8) rfl ?_;clear H;rintro v73 _ a w ⟨rfl,rfl⟩ - H;refine ku 2 75 H ?_ ?_ <;> clear H
  ·intro p75
   refine aj 3 ?_;intro a H;refine abw (_) _ _ ?_ sB;rw [← hck];clear hst hwd hnm hck hcd;(try clear hq1);(try clear hq2);(try clear hq3);(try clear hq0);(try clear hq4);(try clear gL);(try clear gQ);(try clear gU);simp_all
  intro p75
  refine aj 3 ?_;intro a H;refine abw (_) _ _ ?_ sB;rw [← hck];clear hst hwd hnm hck hcd;(try clear hq1);(try clear hq2);(try clear hq3);(try clear hq0);(try clear hq4);(try clear gL);(try clear gQ);(try clear gU);simp_all
 clear H;intro q0 a w hI H;dsimp only [lca,aQ] at H;(repeat with_reducible refine dK ?_);refine d0 ?_;have hq0:=hI;refine fE 2 H ?_ ?_ <;> clear H
 ·intro oz
  have e:gN x=3:=by unfold gN;rw [au (by rw [← hq0];exact oz)]
  refine aJ 3 ?_;exact ⟨by rw [e],rfl⟩
 intro oz
 try have p70:=dF oz
 have f0:¬ (!decide (1≤x.kind∧x.kind≤8) || !codeOk x)=true:=by rw [← hq0,oz];decide
 refine aj 1 ?_;intro a H;refine mI (ι:=Bool) (Tc:=[(1,_),(3,_),(4,_),(5,_)]) 7 (fun (q1:Bool)=>[(86,.bool q1)]) (fun (q1:Bool)=>q1=(!uy x && decide (x.code≠0))) sB ?_ ?_
 ·intro abx;refine ku 3 82 H ?_ ?_ <;> clear H
  ·intro p82
   refine aj 4 ?_;intro a H;refine abx (_) _ _ ?_ sB;rw [← hcd];clear hst hwd hnm hck hcd;(try clear hq1);(try clear hq2);(try clear hq3);(try clear hq0);(try clear hq4);(try clear gL);(try clear gQ);(try clear gU);simp_all
  intro p82
  refine aj 4 ?_;intro a H;refine abx (_) _ _ ?_ sB;rw [← hcd];clear hst hwd hnm hck hcd;(try clear hq1);(try clear hq2);(try clear hq3);(try clear hq0);(try clear hq4);(try clear gL);(try clear gQ);(try clear gU);simp_all
 clear H;intro q1 a w hI H;dsimp only [lca,aQ] at H;(repeat with_reducible refine dK ?_);refine d0 ?_;have hq1:=hI;refine mI (ι:=Bool) (Tc:=[(1,_),(3,_),(4,_)]) 9 (fun (q2:Bool)=>[(95,.bool q2)]) (fun (q2:Bool)=>q2=(q1 || !sN x && decide (x.id≠0))) sB ?_ ?_
 ·intro U3;refine ku 1 87 H ?_ ?_ <;> clear H
  ·intro Nt
   refine aj 8 ?_;intro a H;refine U3 (_) _ _ ?_ sB;rw [← hnm];clear hst hwd hnm hck hcd;(try clear hq1);(try clear hq2);(try clear hq3);(try clear hq0);(try clear hq4);(try clear gL);(try clear gQ);(try clear gU);simp_all
  intro Nt
  refine gV 3 90 ?_ ?_
  ·intro p90
   refine aj 5 ?_;intro a H;refine U3 (_) _ _ ?_ sB;rw [← hnm];clear hst hwd hnm hck hcd;(try clear hq1);(try clear hq2);(try clear hq3);(try clear hq0);(try clear hq4);(try clear gL);(try clear gQ);(try clear gU);simp_all
  intro p90
  refine aj 5 ?_;intro a H;refine U3 (_) _ _ ?_ sB;rw [← hnm];clear hst hwd hnm hck hcd;(try clear hq1);(try clear hq2);(try clear hq3);(try clear hq0);(try clear hq4);(try clear gL);(try clear gQ);(try clear gU);simp_all
 clear H;intro q2 a w hI H;dsimp only [lca,aQ] at H;(repeat with_reducible refine dK ?_);refine d0 ?_;have hq2:=hI;refine mI (ι:=Bool) (Tc:=[(1,_),(3,_)]) 9 (fun (q3:Bool)=>[(104,.bool q3)]) (fun (q3:Bool)=>q3=(q2 || !uY x && !mh x.text)) sB ?_ ?_
 ·intro U0;refine ku 1 96 H ?_ ?_ <;> clear H
  ·intro Nv
   refine aj 8 ?_;intro a H;refine U0 (_) _ _ ?_ sB;rw [← hwd];clear hst hwd hnm hck hcd;(try clear hq1);(try clear hq2);(try clear hq3);(try clear hq0);(try clear hq4);(try clear gL);(try clear gQ);(try clear gU);simp_all [mh]
  intro Nv
  refine iV 3 99 ?_ ?_
  ·intro PN
   try have p99:=dT PN
   refine aj 2 ?_;intro a H;refine afd H (wg H rfl rfl PN) rfl rfl rfl ?_;clear H;refine aj 2 ?_;intro a H;refine U0 (_) _ _ ?_ sB;rw [← hwd];clear hst hwd hnm hck hcd;(try clear hq1);(try clear hq2);(try clear hq3);(try clear hq0);(try clear hq4);(try clear gL);(try clear gQ);(try clear gU);simp_all [mh]
  intro PN
  try have p99:=dF PN
  refine aj 5 ?_;intro a H;refine U0 (_) _ _ ?_ sB;rw [← hwd];clear hst hwd hnm hck hcd;(try clear hq1);(try clear hq2);(try clear hq3);(try clear hq0);(try clear hq4);(try clear gL);(try clear gQ);(try clear gU);simp_all [mh]
 clear H;intro q3 a w hI H;dsimp only [lca,aQ] at H;(repeat with_reducible refine dK ?_);refine d0 ?_;have hq3:=hI;refine mI (ι:=Bool) (Tc:=[(1,_),(3,_)]) 11 (fun (q4:Bool)=>[(115,.bool q4)]) (fun (q4:Bool)=>q4=(q3 || decide (x.kind≠6) && decide (0 < (x.flow.length:Int)))) sB ?_ ?_
 ·intro U1;refine ku 1 105 H ?_ ?_ <;> clear H
  ·intro Kj
   refine aj 10 ?_;intro a H;refine U1 (_) _ _ ?_ sB;clear hst hwd hnm hck hcd;(try clear hq1);(try clear hq2);(try clear hq3);(try clear hq0);(try clear hq4);(try clear gL);(try clear gQ);(try clear gU);simp_all
  intro Kj
  refine gV 4 109 ?_ ?_
  ·intro WX
   refine aj 6 ?_;intro a H;refine U1 (_) _ _ ?_ sB;clear hst hwd hnm hck hcd;(try clear hq1);(try clear hq2);(try clear hq3);(try clear hq0);(try clear hq4);(try clear gL);(try clear gQ);(try clear gU);simp_all
  intro WX
  refine aj 6 ?_;intro a H;refine U1 (_) _ _ ?_ sB;clear hst hwd hnm hck hcd;(try clear hq1);(try clear hq2);(try clear hq3);(try clear hq0);(try clear hq4);(try clear gL);(try clear gQ);(try clear gU);simp_all
 clear H;intro q4 a w hI H;dsimp only [lca,aQ] at H;(repeat with_reducible refine dK ?_);refine d0 ?_;have hq4:=hI;refine mI (ι:=Bool) (Tc:=[(1,_),(3,_)]) 11 (fun (q5:Bool)=>[(126,.bool q5)]) (fun (q5:Bool)=>q5=qU x) sB ?_ ?_
 ·intro U2;refine ku 1 116 H ?_ ?_ <;> clear H
  ·intro Q0
   refine aj 10 ?_;intro a H;refine U2 (_) _ _ ?_ sB;rw [show qU x=(q4 || decide (x.kind≠7) && decide (0 < (x.rows.length:Int))) by rw [hq4,hq3,hq2,hq1];rfl];clear hq4;clear hst hwd hnm hck hcd;(try clear hq1);(try clear hq2);(try clear hq3);(try clear hq0);(try clear hq4);(try clear gL);(try clear gQ);(try clear gU);simp_all
  intro Q0
  refine gV 4 120 ?_ ?_
  ·intro Fz
   refine aj 6 ?_;intro a H;refine U2 (_) _ _ ?_ sB;rw [show qU x=(q4 || decide (x.kind≠7) && decide (0 < (x.rows.length:Int))) by rw [hq4,hq3,hq2,hq1];rfl];clear hq4;clear hst hwd hnm hck hcd;(try clear hq1);(try clear hq2);(try clear hq3);(try clear hq0);(try clear hq4);(try clear gL);(try clear gQ);(try clear gU);simp_all
  intro Fz
  refine aj 6 ?_;intro a H;refine U2 (_) _ _ ?_ sB;rw [show qU x=(q4 || decide (x.kind≠7) && decide (0 < (x.rows.length:Int))) by rw [hq4,hq3,hq2,hq1];rfl];clear hq4;clear hst hwd hnm hck hcd;(try clear hq1);(try clear hq2);(try clear hq3);(try clear hq0);(try clear hq4);(try clear gL);(try clear gQ);(try clear gU);simp_all
 clear H;intro q5 a w hI H;dsimp only [lca,aQ] at H;(repeat with_reducible refine dK ?_);refine d0 ?_;have gL:=hI;refine fE 2 H ?_ ?_ <;> clear H
 ·intro qW
  have e:gN x=15:=by unfold gN;rw [ah f0,au (by rw [← gL];exact qW)]
  refine aJ 3 ?_;exact ⟨by rw [e],rfl⟩
 intro qW
 try have zq:=dF qW
 have f1:¬ qU x=true:=by rw [← gL,qW];decide
 refine aj 3 ?_;intro a H;refine s_call ER H wn rfl (FU _ _ H.ro x.text hs) rfl ?_;clear H;rintro v130 _ a w ⟨rfl,rfl⟩ - H;refine fE 3 H ?_ ?_ <;> clear H
 ·intro h127
  have e:gN x=12:=by unfold gN;rw [ah f0,ah f1,au (by simpa using h127)]
  refine aJ 3 ?_;exact ⟨by rw [e],rfl⟩
 intro h127
 try have aeF:=dF h127
 have f2:¬ mX x.text=false:=by simpa using h127
 refine aj 1 ?_;intro a H;refine mI (ι:=Bool) (Tc:=[(1,_),(3,_)]) 13 (fun (q6:Bool)=>[(145,.bool q6)]) (fun (q6:Bool)=>q6=(decide (x.kind=1∨x.kind=5) && mh x.text)) sB ?_ ?_
 ·intro U4;refine ku 4 136 H ?_ ?_ <;> clear H
  ·intro W9
   refine aj 5 ?_;intro a H;refine IJ O7 H (wg H rfl rfl rfl) rfl rfl ?_;clear H;intro a H;refine iH lY H (wg H rfl rfl rfl) rfl (H.hp.qd 0 rfl rfl) rfl ?_;clear H;intro a H;refine CQ H (wg H rfl rfl rfl) rfl rfl rfl ?_;clear H;refine aj 1 ?_;intro a H;refine U4 (_) _ _ ?_ sB;clear hst hwd hnm hck hcd;(try clear hq1);(try clear hq2);(try clear hq3);(try clear hq0);(try clear hq4);(try clear gL);(try clear gQ);(try clear gU);simp_all [mh]
  intro W9
  refine iV 5 141 ?_ ?_
  ·intro Pq
   try have ash:=dT Pq
   refine aj 2 ?_;intro a H;refine CQ H (wg H rfl rfl Pq) rfl rfl rfl ?_;clear H;refine aj 1 ?_;intro a H;refine U4 (_) _ _ ?_ sB;clear hst hwd hnm hck hcd;(try clear hq1);(try clear hq2);(try clear hq3);(try clear hq0);(try clear hq4);(try clear gL);(try clear gQ);(try clear gU);simp_all [mh]
  intro Pq
  try have ash:=dF Pq
  refine aj 4 ?_;intro a H;refine U4 (_) _ _ ?_ sB;clear hst hwd hnm hck hcd;(try clear hq1);(try clear hq2);(try clear hq3);(try clear hq0);(try clear hq4);(try clear gL);(try clear gQ);(try clear gU);simp_all [mh]
 clear H;intro q6 a w hI H;dsimp only [lca,aQ] at H;(repeat with_reducible refine dK ?_);refine d0 ?_;have gQ:=hI;refine fE 2 H ?_ ?_ <;> clear H
 ·intro DI
  have e:gN x=11:=by unfold gN;rw [ah f0,ah f1,ah f2,au (by rw [← gQ];exact DI)]
  refine aJ 3 ?_;exact ⟨by rw [e],rfl⟩
 intro DI
 try have ase:=dF DI
 have f3:¬ (decide (x.kind=1∨x.kind=5) && mh x.text)=true:=by rw [← gQ,DI];decide
 refine aj 1 ?_;intro a H;refine mI (ι:=Bool) (Tc:=[(1,_),(3,_)]) 9 (fun (q7:Bool)=>[(155,.bool q7)]) (fun (q7:Bool)=>q7=(decide (x.kind=5) && decide (1024 < (x.text.size:Int)))) sB ?_ ?_
 ·intro aby;refine jA 4 150 H ?_ ?_ <;> clear H
  ·intro Pw
   try have asj:=dT Pw
   refine aj 2 ?_;intro a H;refine Bt jl H (wg H rfl rfl Pw) rfl rfl ?_;clear H;refine aj 2 ?_;intro a H;refine aby (_) _ _ ?_ sB;clear hst hwd hnm hck hcd;(try clear hq1);(try clear hq2);(try clear hq3);(try clear hq0);(try clear hq4);(try clear gL);(try clear gQ);(try clear gU);simp_all
  intro Pw
  try have asj:=dF Pw
  refine aj 5 ?_;intro a H;refine aby (_) _ _ ?_ sB;clear hst hwd hnm hck hcd;(try clear hq1);(try clear hq2);(try clear hq3);(try clear hq0);(try clear hq4);(try clear gL);(try clear gQ);(try clear gU);simp_all
 clear H;intro q7 a w hI H;dsimp only [lca,aQ] at H;(repeat with_reducible refine dK ?_);refine d0 ?_;have gU:=hI;refine fE 2 H ?_ ?_ <;> clear H
 ·intro Pv
  have e:gN x=10:=by unfold gN;rw [ah f0,ah f1,ah f2,ah f3,au (by rw [← gU];exact Pv)]
  refine aJ 3 ?_;exact ⟨by rw [e],rfl⟩
 intro Pv
 try have axh:=dF Pv
 have f4:¬ (decide (x.kind=5) && decide (1024 < (x.text.size:Int)))=true:=by rw [← gU,Pv];decide
 refine aj 1 ?_;intro a H;refine mI (ι:=Bool) (Tc:=[]) 7 (fun (q8:Bool)=>[(163,.bool q8)]) (fun (q8:Bool)=>q8=(wo x && !oU x.text)) (by exact H.sub trivial) ?_ ?_
 ·intro abA;refine jA 2 158 H ?_ ?_ <;> clear H
  ·intro Pz
   try have asl:=dT Pz
   refine aj 2 ?_;intro a H;refine s_call LY H (wg H rfl rfl Pz) rfl (LP _ _ H.ro x.text hs) rfl ?_;clear H;rintro axC _ a w ⟨rfl,rfl⟩ - H;refine aH 2 H ?_;clear H;intro a H;refine abA (_) _ _ ?_ sB;rw [← hst];clear hst hwd hnm hck hcd;(try clear hq1);(try clear hq2);(try clear hq3);(try clear hq0);(try clear hq4);(try clear gL);(try clear gQ);(try clear gU);simp_all
  intro Pz
  try have asl:=dF Pz
  refine aj 5 ?_;intro a H;refine abA (_) _ _ ?_ sB;rw [← hst];clear hst hwd hnm hck hcd;(try clear hq1);(try clear hq2);(try clear hq3);(try clear hq0);(try clear hq4);(try clear gL);(try clear gQ);(try clear gU);simp_all
 clear H;intro q8 a w hI H;dsimp only [lca,aQ] at H;(repeat with_reducible refine dK ?_);refine d0 ?_;have hq8:=hI;refine fE 2 H ?_ ?_ <;> clear H
 ·intro UG
  have e:gN x=13:=by unfold gN;rw [ah f0,ah f1,ah f2,ah f3,ah f4,au (by rw [← hq8];exact UG)]
  refine aJ 3 ?_;exact ⟨by rw [e],rfl⟩
 intro UG
 refine aj 1 ?_
 have e:gN x=0:=by unfold gN;rw [ah f0,ah f1,ah f2,ah f3,ah f4,ah (by rw [← hq8,UG];decide)]
 refine aJ 3 ?_;exact ⟨by rw [e],rfl⟩
end
section
open Go.RowKit
structure CS where
 n:Int
 aU:List Int
abbrev CR:=Int × CS
def fF (r:CR) (f:CS→CR):CR:=if r.1≠0 then r else f r.2
theorem rW {r:CR} {f:CS→CR} (h:r.1=0):fF r f=f r.2:=by rw [fF,ah (fun h'=>h' h)]
theorem uh {r:CR} {f:CS→CR} (h:r.1≠0):fF r f=r:=by rw [fF,au h]
def gZ (C:bL) (s:CS) (x:Int):CR:=(lJ C.us s.aU x,⟨s.n,iQ C.us s.aU x⟩)
def jh (C:bL) (body note:Bool) (t k i:Int) (s:CS):CR :=
 if k=3 then (bK (!body) 19,s) else if k=6 then fF (bK note 19,s) fun s=>gZ C s i else if k=7 then fF (bK (decide (4≤t)) 17,s) fun s=>gZ C s i else if k=8 then (bK (!decide (1≤i∧i≤1073741824)) 18,s) else (0,s)
def rG (C:bL) (h:cu) (n:Nat):Int:=bP [eH C 9 h,bK (decide ((n:Int)=0)) 11,bK (decide (32 < (n:Int))) 9]
def jD (n:Nat) (f:CS→CR) (s:CS):CR:=if n=0 then (11,s) else if 256 < n then (9,s) else f s
mutual
def eB (C:bL) (body note:Bool) (t:Int):av→CS→CR
 | .mk k c i tx h f r,s =>
  fF (gN (.mk k c i tx h f r),s) fun s=>fF (jh C body note t k i ⟨s.n+(if k=1 then qP tx else 1:Nat),s.aU⟩) fun s=>fF (eH C k h,s) fun s =>
   if k=6 then fP C false true t f s else if k=7 then jD r.length (fun s=>fJ C note (t+1) r s) s else (0,s)
def yI (C:bL) (note:Bool) (t:Int):aS→CS→CR
 | .mk h cs,s=>fF (rG C h cs.length,s) fun s=>kS C note t cs s
def cellC (C:bL) (note:Bool) (t:Int):aR→CS→CR
 | .mk i h f,s=>fF (gZ C s i) fun s=>fF (eH C 10 h,s) fun s=>fP C false note t f s
def fP (C:bL) (body note:Bool) (t:Int):List av→CS→CR
 | [],s=>(0,s)
 | x :: r,s=>fF (eB C body note t x s) fun s=>fP C body note t r s
def fJ (C:bL) (note:Bool) (t:Int):List aS→CS→CR
 | [],s=>(0,s)
 | x :: r,s=>fF (yI C note t x s) fun s=>fJ C note t r s
def kS (C:bL) (note:Bool) (t:Int):List aR→CS→CR
 | [],s=>(0,s)
 | x :: r,s=>fF (cellC C note t x s) fun s=>kS C note t r s
end
theorem Nc (C:bL) (body note:Bool) (t:Int) (x:av) (s:CS):eB C body note t x s=fF (gN x,s) fun s=>fF (jh C body note t x.kind x.id ⟨s.n+(fK x:Nat),s.aU⟩) fun s=>fF (eH C x.kind x.head,s) fun s =>
  if x.kind=6 then fP C false true t x.flow s else if x.kind=7 then jD x.rows.length (fun s=>fJ C note (t+1) x.rows s) s else (0,s):=by cases x;rw [eB];rfl
theorem II (C:bL) (note:Bool) (t:Int) (x:aS) (s:CS):yI C note t x s=fF (rG C x.head x.cells.length,s) fun s=>kS C note t x.cells s:=by cases x;rw [yI];rfl
theorem zO (C:bL) (note:Bool) (t:Int) (x:aR) (s:CS):cellC C note t x s=fF (gZ C s x.id) fun s=>fF (eH C 10 x.head,s) fun s=>fP C false note t x.flow s:=by cases x;rw [cellC];rfl
def Up (s:CS) (z:Nat) (r:CR):Prop:=s.n≤r.2.n∧r.2.n≤s.n+z
theorem Up.and {s:CS} {z y q:Nat} {r:CR} {f:CS→CR} (h:Up s z r) (hq:z+y≤q) (hf:∀ s,Up s y (f s)):Up s q (fF r f):=by
 obtain ⟨h1,h2⟩:=h
 unfold fF
 split
 ·exact ⟨h1,by omega⟩
 obtain ⟨h3,h4⟩:=hf r.2;exact ⟨by omega,by omega⟩
theorem Up.zero (s:CS) (e:Int) (q:Nat):Up s q (e,s):=⟨Int.le_refl _,by dsimp only;omega⟩
theorem Up.le {s:CS} {z y:Nat} {r:CR} (h:Up s z r) (hq:z≤y):Up s y r:=⟨h.1,by have:=h.2;omega⟩
theorem afT (C:bL) (s:CS) (x:Int) (q:Nat):Up s q (gZ C s x):=⟨Int.le_refl _,by dsimp only [gZ];omega⟩
theorem avg (C:bL) (body note:Bool) (t k i:Int) (s:CS) (q:Nat):Up s q (jh C body note t k i s):=by
 unfold jh
 (repeat' split) <;> first|exact Up.zero _ _ _|exact (Up.zero _ _ 0).and (y:=0) (by omega) fun s=>afT _ _ _ _
mutual
theorem Ye (C:bL) (body note:Bool) (t:Int):∀ (x:av) (s:CS),Up s (bM x.dat) (eB C body note t x s)
 | .mk k c i tx h f r,s=>by
  have hz:=pU (.mk k c i tx h f r);have hf:=R8 C false true t f;have hr:=afU C note (t+1) r;rw [eB];obtain ⟨u,hu'⟩:∃ u,u=(if k=1 then qP tx else 1:Nat):=⟨_,rfl⟩
  have hu:u≤tx.size+1:=by
   have:=GQ tx
   rw [hu'];split <;> omega
  rw [← hu'];dsimp only [av.text,av.flow,av.rows,av.head] at hz;refine (Up.zero s _ 0).and (Nat.le_of_eq (gX _)) fun s=>?_
  have h2:Up s (u) (jh C body note t k i ⟨s.n+(u:Nat),s.aU⟩):=by
   obtain ⟨h3,h4⟩:=avg C body note t k i ⟨s.n+(u:Nat),s.aU⟩ 0;dsimp only at h3 h4;exact ⟨by omega,by omega⟩
  refine h2.and (y:=aX f+eD r) (by omega) fun s=>(Up.zero s _ 0).and (Nat.le_of_eq (gX _)) fun s=>?_
  by_cases h6:k=6
  ·rw [au h6];exact (hf s).le (by omega)
  rw [ah h6]
  by_cases h7:k=7
  ·rw [au h7]
   unfold jD
   by_cases c1:r.length=0
   ·rw [au c1];exact Up.zero _ _ _
   rw [ah c1]
   by_cases c2:256 < r.length
   ·rw [au c2];exact Up.zero _ _ _
   rw [ah c2];exact (hr s).le (by omega)
  rw [ah h7];exact Up.zero _ _ _
theorem avh (C:bL) (note:Bool) (t:Int):∀ (x:aS) (s:CS),Up s (bM x.dat) (yI C note t x s)
 | .mk h cs,s=>by
  have hz:=tO (.mk h cs);have hc:=afS C note t cs;rw [II];dsimp only [aS.cells,aS.head] at hz ⊢;exact (Up.zero s _ 0).and (y:=gH cs) (by omega) fun s=>hc s
theorem afR (C:bL) (note:Bool) (t:Int):∀ (x:aR) (s:CS),Up s (bM x.dat) (cellC C note t x s)
 | .mk i h f,s=>by
  have hz:=uZ (.mk i h f);have hf:=R8 C false note t f;rw [zO];dsimp only [aR.flow,aR.head,aR.id] at hz ⊢;exact (afT C s _ 0).and (y:=aX f) (by omega) fun s=>(Up.zero s _ 0).and (Nat.le_of_eq (gX _)) fun s=>hf s
theorem R8 (C:bL) (body note:Bool) (t:Int):∀ (l:List av) (s:CS),Up s (aX l) (fP C body note t l s)
 | [],s=>by rw [fP];exact Up.zero _ _ _
 | x :: r,s=>by
  rw [fP];exact (Ye C body note t x s).and (y:=aX r) (by simp only [aX,dR,dY];omega) fun s=>R8 C body note t r s
theorem afU (C:bL) (note:Bool) (t:Int):∀ (l:List aS) (s:CS),Up s (eD l) (fJ C note t l s)
 | [],s=>by rw [fJ];exact Up.zero _ _ _
 | x :: r,s=>by
  rw [fJ];exact (avh C note t x s).and (y:=eD r) (by simp only [eD,dR,dY];omega) fun s=>afU C note t r s
theorem afS (C:bL) (note:Bool) (t:Int):∀ (l:List aR) (s:CS),Up s (gH l) (kS C note t l s)
 | [],s=>by rw [kS];exact Up.zero _ _ _
 | x :: r,s=>by
  rw [kS];exact (afR C note t x s).and (y:=gH r) (by simp only [gH,dR,dY];omega) fun s=>afS C note t r s
end
def rM {α:Type} (f:α→CS→CR) (l:List α) (s:CS):Nat→CS
 | 0=>s
 | i+1=>match l[i]? with|some x=>(f x (rM f l s i)).2|none=>rM f l s i
def Du {α:Type} (f:α→CS→CR) (l:List α) (s:CS) (i:Nat):Int:=match l[i]? with|some x=>(f x (rM f l s i)).1|none=>0
theorem XO {α:Type} (f:α→CS→CR) (x:α) (l:List α) (s:CS):∀ i,rM f (x :: l) s (i+1)=rM f l (f x s).2 i
 | 0=>rfl
 | i+1=>by
  have ih:=XO f x l s i
  simp only [rM,List.getElem?_cons_succ] at ih ⊢
  rw [ih]
theorem alT {α:Type} (f:α→CS→CR) (x:α) (l:List α) (s:CS) (i:Nat):Du f (x :: l) s (i+1)=Du f l (f x s).2 i:=by
 unfold Du
 simp only [List.getElem?_cons_succ,XO]
theorem ahc (E:Nat→Int) (n:Nat):fV E (n+1)=if E 0≠0 then E 0 else fV (fun i=>E (i+1)) n:=by
 unfold fV
 rw [List.range_succ_eq_map,dR,bP,List.map_map]
 rfl
theorem ady (C:bL) (body note:Bool) (t:Int):∀ (l:List av) (s:CS),(fP C body note t l s).1=fV (Du (eB C body note t) l s) l.length∧((fP C body note t l s).1=0→(fP C body note t l s).2=rM (eB C body note t) l s l.length)
 | [],s=>by rw [fP];exact ⟨rfl,fun _=>rfl⟩
 | x :: r,s=>by
  obtain ⟨h1,h2⟩:=ady C body note t r (eB C body note t x s).2;have e0:Du (eB C body note t) (x :: r) s 0=(eB C body note t x s).1:=rfl;rw [fP,jS,ahc,e0,XO]
  simp only [alT]
  unfold fF
  split
  ·next h=>exact ⟨rfl,fun h0=>absurd h0 h⟩
  exact ⟨h1,h2⟩
theorem afV (C:bL) (body note:Bool) (t:Int) (l:List av) (s:CS):∀ i,i≤l.length→s.n≤(rM (eB C body note t) l s i).n∧(rM (eB C body note t) l s i).n+(aX (l.drop i):Nat)≤s.n+(aX l:Nat)
 | 0,_=>⟨Int.le_refl _,Int.le_refl _⟩
 | i+1,hi=>by
  have hi':i < l.length:=hi;obtain ⟨h1,h2⟩:=afV C body note t l s i (by omega)
  have hs:rM (eB C body note t) l s (i+1)=(eB C body note t l[i] (rM (eB C body note t) l s i)).2:=by rw [rM,dV hi']
  have hd:aX (l.drop i)=1+bM l[i].dat+aX (l.drop (i+1)):=by
   simp only [aX];rw [jy hi',dR,dY]
  obtain ⟨h3,h4⟩:=Ye C body note t l[i] (rM (eB C body note t) l s i);rw [hs];exact ⟨by omega,by omega⟩
end
section
open Go.RowKit
theorem TK:∀ args w,(callFunc 107 args).run prog w=.ok (.enter 107 args) w:=enters func107 rfl (by kernel_rfl)
mutual
/-- The ids in items, in document order. -/
def vQ:av→List Int
 | .mk k _ i _ _ f r=>(if k=6∨k=7 then [i] else [])++((if k=6 then fO f else [])++(if k=7 then rD r else []))
def fO:List av→List Int
 | []=>[]
 | x :: r=>vQ x++fO r
def yD:aS→List Int
 | .mk _ c=>sM c
def rD:List aS→List Int
 | []=>[]
 | x :: r=>yD x++rD r
def yC:aR→List Int
 | .mk i _ f=>i :: fO f
def sM:List aR→List Int
 | []=>[]
 | x :: r=>yC x++sM r
end
theorem adn (x:av):vQ x=(if x.kind=6∨x.kind=7 then [x.id] else [])++((if x.kind=6 then fO x.flow else [])++(if x.kind=7 then rD x.rows else [])):=by cases x;rw [vQ];rfl
theorem ado (x:aS):yD x=sM x.cells:=by cases x;rw [yD];rfl
theorem adl (x:aR):yC x=x.id :: fO x.flow:=by cases x;rw [yC];rfl
def Cx (i:Int):AP:=fun args _=>args=[vi i]
def SY (n:Nat):Prop:=∀ (fv:ak) (Gi:GH) (xs:List AP) (J:Nat→GH→OL→Prop) (Jx:GH→OL→Prop) (G:GH) (L:OL) (w0:World) (j:Nat) (l:List av) (v:ak),
 (∀ b o,Gi b=some o→G b=some o)→Ev prog fv Gi xs J Jx→EB J→GD Jx→J j G L→fM G L w0→ay G (.sl 11 (l.map av.dat)) v→aX l < n→(∀ i a,(fO l)[i]?=some a→xs[j+i]?=some (Cx a)) →
 Calls prog 107 #[v,fv] w0 (fB w0 G L fun u G' L'=>∃ b,u=.bool b∧(b=true→J (j+(fO l).length) G' L')∧(b=false→Jx G' L'))
theorem avr {n:Nat} (ih:SY n) (hn:n≤4294967296):SY (n+1):=by
 intro fv Gi xs J Jx G L w0 j0 l v hGi hcb lT hJx hJ0 hO hv hz hx0;obtain ⟨A,c,rfl,hc1,hc2,hg⟩:=hv.slice;rw [bE] at *;have hll:=BG l;refine iM (N:=74) (T:=[(0,_),(1,_)]) func107 rfl ntmps107 rfl rfl hO ?_;refine aj 10 ?_;intro a H;refine dD (ι:=Nat × Nat × OL × GH) (Tc:=[(1,_),(11,_),(12,_)]) (Lc:=[]) (fun gh=>[(13,vi gh.1)]) (fun gh=>[]++gh.2.2.1) (fun gh=>gh.2.2.2) (fun gh=>gh.1≤l.length∧(∀ b o,G b=some o→gh.2.2.2 b=some o)∧Now xs Cx J (j0+(fO l).length) gh.2.1 (fO (l.drop gh.1)) gh.2.2.2 gh.2.2.1) (fun gh=>l.length - gh.1) ((0,j0,L,G)) sB ?_ ?_
 ·exact ⟨by omega,fun _ _ h=>h,⟨hJ0,hx0,rfl⟩⟩
 clear H;rintro ⟨k,j,Lt,g⟩ a w hI H;dsimp only at hI H;obtain ⟨hk,hgm,bQ⟩:=hI;dsimp only [lca,aQ] at H;refine cK 4 H ?_ ?_ <;> clear H
 ·intro kM
  have hk2:k < l.length:=by omega
  obtain ⟨b,o,pA,pn,pc,dA,dn,dc,yA,yn,yc,fA,fn,fc,rA,rn,rc,rfl,hrow,hhd,hfl,hrw⟩:=AA hk2 hg;replace hrow:=fun j u hj=>aD hgm (hrow j u hj);have hrn:=hrw.len;rw [bE] at hrn;subst hrn;have hrs:=BH l[k].rows;have hsz1:=KE hk2;rw [jy hk2] at bQ
  simp only [fO,adn,fT] at bQ
  refine aj 5 ?_;intro a H;refine aT dU (cs:=[_,_,_,_,_,_,_,_,_,_,_]) H wn rfl rfl (fun j v hj=>H.hp.aC (hrow j v hj)) rfl ?_;clear H;intro a H;refine dx dU H wn rfl ?_;clear H;intro b6 a w hb6 H;refine bq dU 0 (vs:=[_,_,_,_,_,_,_,_,_,_,_]) _ H wn rfl rfl rfl rfl rfl rfl rfl rfl ?_;clear H;intro w H;dsimp only [List.set,setRow] at H;refine jA 7 20 H ?_ ?_ <;> clear H
  ·intro h20
   try have pJ:=dT h20
   rw [au (Or.inl pJ),au pJ,ah (by omega)] at bQ
   simp only [kr,jv] at bQ
   refine aj 5 ?_;intro a H;refine FK H (wg H rfl rfl rfl) rfl rfl ?_;clear H;intro a H;refine IJ amn H (wg H rfl rfl rfl) rfl rfl ?_;clear H;intro a H;refine iH bC H (wg H rfl rfl rfl) rfl (H.hp.qd 0 rfl rfl) rfl ?_;clear H;intro a H;refine tL (Li:=[_]) (L:=Lt) H (wg H rfl rfl rfl) rfl rfl (hcb _ _ _ _ _ ⟨_,bQ.head,rfl⟩ (fun b o h=>hgm b o (hGi b o h)) bQ.now (Hp.owns (Li:=[_]) H.hp)) rfl ?_;clear H;rintro v29 xM Dc a w ⟨LD,rfl,hb1,hb2⟩ Bb H;refine XC H (wg H rfl rfl rfl) rfl rfl ?_;clear H;refine goC 2 ?_ ?_
   ·intro h31
    try have p31:=dT h31
    refine aj 3 ?_;intro a H;refine lr H results107 rfl ?_
    first
     | exact H.hp.bU (L':=Dc) (by repeat (first|exact bZ _|apply List.Sublist.cons)) ⟨_,rfl,fun e=>(by cases e),fun _=>hb2 (by simpa using h31)⟩
     | exact H.hp.bU (L':=Gn) (by repeat (first|exact bZ _|apply List.Sublist.cons)) ⟨_,rfl,fun e=>(by cases e),fun _=>hb4 (by simpa using ow)⟩
     | exact H.hp.bU (L':=Gq) (by repeat (first|exact bZ _|apply List.Sublist.cons)) ⟨_,rfl,fun e=>(by cases e),fun _=>hb6 (by simpa using h64)⟩
     | exact H.hp.bU (L':=Gw) (by repeat (first|exact bZ _|apply List.Sublist.cons)) ⟨_,rfl,fun e=>(by cases e),fun _=>wV (by simpa using oz)⟩
     | exact H.hp.bU (L':=Lt) (by repeat (first|exact bZ _|apply List.Sublist.cons)) ⟨_,rfl,fun _=>(by rw [eX (by omega),fO] at bQ;have:=bQ.len;simp only [List.length_nil,mO] at this;rw [← this];exact bQ.now),fun e=>(by cases e)⟩
   intro h31
   try have p31:=dF h31
   have pE:=bQ.step (hb1 (by simpa using h31));have jI:∀ b o,G b=some o→xM b=some o:=fun b o h=>Bb b o (hgm b o h);refine aj 10 ?_;intro a H;refine fu TK (Li:=[_]) (L:=Dc) H (wg H rfl rfl h20) rfl (ih fv Gi xs J Jx _ _ _ (j+1) l[k].flow _ (fun b o h=>jI b o (hGi b o h)) hcb lT hJx pE.now (Hp.owns (Li:=[_]) H.hp) (hfl.mono jI) (by omega) pE.part) rfl ?_;clear H;rintro v39 SA Gn a w ⟨Ti,rfl,hb3,hb4⟩ acj H;refine fE 3 H ?_ ?_ <;> clear H
   ·intro ow
    try have p41:=dT ow
    refine aj 3 ?_;intro a H;refine lr H results107 rfl ?_
    first
     | exact H.hp.bU (L':=Dc) (by repeat (first|exact bZ _|apply List.Sublist.cons)) ⟨_,rfl,fun e=>(by cases e),fun _=>hb2 (by simpa using h31)⟩
     | exact H.hp.bU (L':=Gn) (by repeat (first|exact bZ _|apply List.Sublist.cons)) ⟨_,rfl,fun e=>(by cases e),fun _=>hb4 (by simpa using ow)⟩
     | exact H.hp.bU (L':=Gq) (by repeat (first|exact bZ _|apply List.Sublist.cons)) ⟨_,rfl,fun e=>(by cases e),fun _=>hb6 (by simpa using h64)⟩
     | exact H.hp.bU (L':=Gw) (by repeat (first|exact bZ _|apply List.Sublist.cons)) ⟨_,rfl,fun e=>(by cases e),fun _=>wV (by simpa using oz)⟩
     | exact H.hp.bU (L':=Lt) (by repeat (first|exact bZ _|apply List.Sublist.cons)) ⟨_,rfl,fun _=>(by rw [eX (by omega),fO] at bQ;have:=bQ.len;simp only [List.length_nil,mO] at this;rw [← this];exact bQ.now),fun e=>(by cases e)⟩
   intro ow
   try have p41:=dF ow
   refine goB 7 ?_ ?_
   ·intro p44
    refine aj 4 ?_;intro a H;refine aI ?_;refine bR ((k+1,j+1+(fO l[k].flow).length,Gn,SA)) (by exact (H.bY (Pl:=[_]) (bT:=[]) [] (by decide) rfl).sub ⟨rfl,rfl,rfl,rfl,aY⟩) ?_ ?_
    ·(try dsimp only);exact ⟨by omega,fun b o h=>acj b o (jI b o h),pE.jump (hb3 (by simpa using ow))⟩
    first|omega|(dsimp only;omega)
   intro p44
   intro a H;exact absurd (show l[k].kind=7 by omega) (by omega)
  intro h20
  try have pJ:=dF h20
  refine iV 5 25 ?_ ?_
  ·intro ou
   try have p25:=dT ou
   rw [au (Or.inr p25),ah pJ,au p25] at bQ
   simp only [kr,jv] at bQ
   refine aj 3 ?_;intro a H;refine tL (Li:=[_]) (L:=Lt) H (wg H rfl rfl ou) rfl rfl (hcb _ _ _ _ _ ⟨_,bQ.head,rfl⟩ (fun b o h=>hgm b o (hGi b o h)) bQ.now (Hp.owns (Li:=[_]) H.hp)) rfl ?_;clear H;rintro v29 xM Dc a w ⟨LD,rfl,hb1,hb2⟩ Bb H;refine fE 3 H ?_ ?_ <;> clear H
   ·intro h31
    try have p31:=dT h31
    refine aj 3 ?_;intro a H;refine lr H results107 rfl ?_
    first
     | exact H.hp.bU (L':=Dc) (by repeat (first|exact bZ _|apply List.Sublist.cons)) ⟨_,rfl,fun e=>(by cases e),fun _=>hb2 (by simpa using h31)⟩
     | exact H.hp.bU (L':=Gn) (by repeat (first|exact bZ _|apply List.Sublist.cons)) ⟨_,rfl,fun e=>(by cases e),fun _=>hb4 (by simpa using ow)⟩
     | exact H.hp.bU (L':=Gq) (by repeat (first|exact bZ _|apply List.Sublist.cons)) ⟨_,rfl,fun e=>(by cases e),fun _=>hb6 (by simpa using h64)⟩
     | exact H.hp.bU (L':=Gw) (by repeat (first|exact bZ _|apply List.Sublist.cons)) ⟨_,rfl,fun e=>(by cases e),fun _=>wV (by simpa using oz)⟩
     | exact H.hp.bU (L':=Lt) (by repeat (first|exact bZ _|apply List.Sublist.cons)) ⟨_,rfl,fun _=>(by rw [eX (by omega),fO] at bQ;have:=bQ.len;simp only [List.length_nil,mO] at this;rw [← this];exact bQ.now),fun e=>(by cases e)⟩
   intro h31
   try have p31:=dF h31
   have pE:=bQ.step (hb1 (by simpa using h31));have jI:∀ b o,G b=some o→xM b=some o:=fun b o h=>Bb b o (hgm b o h);refine goB 22 ?_ ?_
   ·intro p44
    intro a H;exact absurd p25 p44
   intro p44
   refine aj 8 ?_;intro a H;refine dD (ι:=Nat × Nat × OL × GH) (Tc:=[(1,_),(11,_),(12,_),(13,_),(46,_),(47,_)]) (Lc:=[(_,_)]) (fun gh=>[(48,vi gh.1)]) (fun gh=>[]++gh.2.2.1) (fun gh=>gh.2.2.2) (fun gh=>gh.1≤l[k].rows.length∧(∀ b o,G b=some o→gh.2.2.2 b=some o)∧Now xs Cx J (j0+(fO l).length) gh.2.1 (rD (l[k].rows.drop gh.1)++fO (l.drop (k+1))) gh.2.2.2 gh.2.2.1) (fun gh=>l[k].rows.length - gh.1) ((0,j+1,Dc,xM)) sB ?_ ?_
   ·exact ⟨by omega,jI,pE⟩
   clear H;rintro ⟨rk,j3,Lt3,g3⟩ a w hI H;dsimp only at hI H;obtain ⟨MZ,ru,rz⟩:=hI;dsimp only [lca,aQ] at H;refine cK 4 H ?_ ?_ <;> clear H
   ·intro p49
    have hk3:rk < l[k].rows.length:=by omega
    obtain ⟨b2,o2,qA,qn,qc,eA,en,ec,zA,zn,zc,cA,cn,cc,rfl,hrow,yB,hcl⟩:=Eh hk3 hrw.at_;replace hrow:=fun j u hj=>aD ru (hrow j u hj);have hcn:=hcl.len;rw [bE] at hcn;subst hcn;have hsz2:=I6 hk3;have hcs:=BD l[k].rows[rk].cells;rw [jy hk3] at rz
    simp only [rD,ado,fT] at rz
    refine aj 5 ?_;intro a H;refine aT jw (cs:=[_,_,_,_,_,_]) H wn rfl rfl (fun j v hj=>H.hp.aC (hrow j v hj)) rfl ?_;clear H;intro a H;refine dx jw H wn rfl ?_;clear H;intro b8 a w wV H;refine bq jw 0 (vs:=[_,_,_,_,_,_]) _ H wn rfl rfl rfl rfl rfl rfl rfl rfl ?_;clear H;intro w H;dsimp only [List.set,setRow] at H;refine aH 8 H ?_;clear H;intro a H;refine dD (ι:=Nat × Nat × OL × GH) (Tc:=[(1,_),(11,_),(12,_),(13,_),(46,_),(47,_),(48,_),(53,_),(54,_)]) (Lc:=[(_,_),(_,_)]) (fun gh=>[(55,vi gh.1)]) (fun gh=>[]++gh.2.2.1) (fun gh=>gh.2.2.2) (fun gh=>gh.1≤l[k].rows[rk].cells.length∧(∀ b o,G b=some o→gh.2.2.2 b=some o)∧Now xs Cx J (j0+(fO l).length) gh.2.1 (sM (l[k].rows[rk].cells.drop gh.1)++(rD (l[k].rows.drop (rk+1))++fO (l.drop (k+1)))) gh.2.2.2 gh.2.2.1) (fun gh=>l[k].rows[rk].cells.length - gh.1) ((0,j3,Lt3,g3)) sB ?_ ?_
    ·exact ⟨by omega,ru,rz⟩
    clear H;rintro ⟨ck,j4,Lt4,g4⟩ a w hI H;dsimp only at hI H;obtain ⟨hck,vM,pF⟩:=hI;dsimp only [lca,aQ] at H;refine cK 4 H ?_ ?_ <;> clear H
    ·intro p56
     have hk4:ck < l[k].rows[rk].cells.length:=by omega
     obtain ⟨b3,o3,sA,sn,sc,tA,tn,tc,uA,un,uc,gA,gn,gc,rfl,hrow,hch,hcf⟩:=BR hk4 hcl.at_;replace hrow:=fun j u hj=>aD vM (hrow j u hj);have J3:=KD hk4;rw [jy hk4] at pF
     simp only [sM,adl,fT,kr] at pF
     refine aj 5 ?_;intro a H;refine aT iI (cs:=[_,_,_,_,_,_,_]) H wn rfl rfl (fun j v hj=>H.hp.aC (hrow j v hj)) rfl ?_;clear H;intro a H;refine dx iI H wn rfl ?_;clear H;intro b10 a w E9 H;refine bq iI 0 (vs:=[_,_,_,_,_,_,_]) _ H wn rfl rfl rfl rfl rfl rfl rfl rfl ?_;clear H;intro w H;dsimp only [List.set,setRow] at H;refine aH 5 H ?_;clear H;intro a H;refine tL (Li:=[_,_,_]) (L:=Lt4) H wn rfl rfl (hcb _ _ _ _ _ ⟨_,pF.head,rfl⟩ (fun b o h=>vM b o (hGi b o h)) pF.now (Hp.owns (Li:=[_,_,_]) H.hp)) rfl ?_;clear H;rintro v62 YT Gq a w ⟨Zi,rfl,hb5,hb6⟩ MP H;refine jA 2 64 H ?_ ?_ <;> clear H
     ·intro h64
      try have p64:=dT h64
      refine aj 11 ?_;intro a H;refine lr H results107 rfl ?_
      first
       | exact H.hp.bU (L':=Dc) (by repeat (first|exact bZ _|apply List.Sublist.cons)) ⟨_,rfl,fun e=>(by cases e),fun _=>hb2 (by simpa using h31)⟩
       | exact H.hp.bU (L':=Gn) (by repeat (first|exact bZ _|apply List.Sublist.cons)) ⟨_,rfl,fun e=>(by cases e),fun _=>hb4 (by simpa using ow)⟩
       | exact H.hp.bU (L':=Gq) (by repeat (first|exact bZ _|apply List.Sublist.cons)) ⟨_,rfl,fun e=>(by cases e),fun _=>hb6 (by simpa using h64)⟩
       | exact H.hp.bU (L':=Gw) (by repeat (first|exact bZ _|apply List.Sublist.cons)) ⟨_,rfl,fun e=>(by cases e),fun _=>wV (by simpa using oz)⟩
       | exact H.hp.bU (L':=Lt) (by repeat (first|exact bZ _|apply List.Sublist.cons)) ⟨_,rfl,fun _=>(by rw [eX (by omega),fO] at bQ;have:=bQ.len;simp only [List.length_nil,mO] at this;rw [← this];exact bQ.now),fun e=>(by cases e)⟩
     intro h64
     try have p64:=dF h64
     have Ib:=pF.step (hb5 (by simpa using h64));refine aj 3 ?_;intro a H;refine fu TK (Li:=[_,_,_]) (L:=Gq) H (wg H rfl rfl h64) rfl (ih fv Gi xs J Jx _ _ _ (j4+1) l[k].rows[rk].cells[ck].flow _ (fun b o h=>MP b o (vM b o (hGi b o h))) hcb lT hJx Ib.now (Hp.owns (Li:=[_,_,_]) H.hp) ((hcf.mono vM).mono MP) (by omega) Ib.part) rfl ?_;clear H;rintro v68 G68 Gw a w ⟨b68,rfl,qD,wV⟩ aoO H;refine fE 3 H ?_ ?_ <;> clear H
     ·intro oz
      try have p70:=dT oz
      refine aj 3 ?_;intro a H;refine lr H results107 rfl ?_
      first
       | exact H.hp.bU (L':=Dc) (by repeat (first|exact bZ _|apply List.Sublist.cons)) ⟨_,rfl,fun e=>(by cases e),fun _=>hb2 (by simpa using h31)⟩
       | exact H.hp.bU (L':=Gn) (by repeat (first|exact bZ _|apply List.Sublist.cons)) ⟨_,rfl,fun e=>(by cases e),fun _=>hb4 (by simpa using ow)⟩
       | exact H.hp.bU (L':=Gq) (by repeat (first|exact bZ _|apply List.Sublist.cons)) ⟨_,rfl,fun e=>(by cases e),fun _=>hb6 (by simpa using h64)⟩
       | exact H.hp.bU (L':=Gw) (by repeat (first|exact bZ _|apply List.Sublist.cons)) ⟨_,rfl,fun e=>(by cases e),fun _=>wV (by simpa using oz)⟩
       | exact H.hp.bU (L':=Lt) (by repeat (first|exact bZ _|apply List.Sublist.cons)) ⟨_,rfl,fun _=>(by rw [eX (by omega),fO] at bQ;have:=bQ.len;simp only [List.length_nil,mO] at this;rw [← this];exact bQ.now),fun e=>(by cases e)⟩
     intro oz
     try have p70:=dF oz
     refine aj 4 ?_;intro a H;refine aI ?_;refine bR ((ck+1,j4+1+(fO l[k].rows[rk].cells[ck].flow).length,Gw,G68)) (by exact (H.bY (Pl:=[_,_,_]) (bT:=[_,_]) [1,2] (by decide) rfl).sub ⟨rfl,rfl,rfl,rfl,rfl,rfl,rfl,rfl,rfl,rfl,aY⟩) ?_ ?_
     ·(try dsimp only);exact ⟨by omega,fun b o h=>aoO b o (MP b o (vM b o h)),Ib.jump (qD (by simpa using oz))⟩
     first|omega|(dsimp only;omega)
    intro p56
    refine aj 4 ?_;intro a H;refine aI ?_;refine bR ((rk+1,j4,Lt4,g4)) (by exact (H.bY (Pl:=[_,_]) (bT:=[_]) [1] (by decide) rfl).sub ⟨rfl,rfl,rfl,rfl,rfl,rfl,rfl,aY⟩) ?_ ?_
    ·(try dsimp only);exact ⟨by omega,vM,by rw [eX (by omega),sM,jv] at pF;exact pF⟩
    first|omega|(dsimp only;omega)
   intro p49
   refine aj 4 ?_;intro a H;refine aI ?_;refine bR ((k+1,j3,Lt3,g3)) (by exact (H.bY (Pl:=[_]) (bT:=[]) [] (by decide) rfl).sub ⟨rfl,rfl,rfl,rfl,aY⟩) ?_ ?_
   ·(try dsimp only);exact ⟨by omega,ru,by rw [eX (by omega),rD,jv] at rz;exact rz⟩
   first|omega|(dsimp only;omega)
  intro ou
  try have p25:=dF ou
  rw [ah (by omega),ah pJ,ah p25] at bQ
  simp only [jv] at bQ
  refine goB 30 ?_ ?_
  ·intro p44
   refine aj 4 ?_;intro a H;refine aI ?_;refine bR ((k+1,j,Lt,g)) (by exact (H.bY (Pl:=[_]) (bT:=[]) [] (by decide) rfl).sub ⟨rfl,rfl,rfl,rfl,aY⟩) ?_ ?_
   ·(try dsimp only);exact ⟨by omega,hgm,bQ⟩
   first|omega|(dsimp only;omega)
  intro p44
  intro a H;exact absurd p25 p44
 intro kM
 refine aj 4 ?_;intro a H;refine lr H results107 rfl ?_
 first
  | exact H.hp.bU (L':=Dc) (by repeat (first|exact bZ _|apply List.Sublist.cons)) ⟨_,rfl,fun e=>(by cases e),fun _=>hb2 (by simpa using h31)⟩
  | exact H.hp.bU (L':=Gn) (by repeat (first|exact bZ _|apply List.Sublist.cons)) ⟨_,rfl,fun e=>(by cases e),fun _=>hb4 (by simpa using ow)⟩
  | exact H.hp.bU (L':=Gq) (by repeat (first|exact bZ _|apply List.Sublist.cons)) ⟨_,rfl,fun e=>(by cases e),fun _=>hb6 (by simpa using h64)⟩
  | exact H.hp.bU (L':=Gw) (by repeat (first|exact bZ _|apply List.Sublist.cons)) ⟨_,rfl,fun e=>(by cases e),fun _=>wV (by simpa using oz)⟩
  | exact H.hp.bU (L':=Lt) (by repeat (first|exact bZ _|apply List.Sublist.cons)) ⟨_,rfl,fun _=>(by rw [eX (by omega),fO] at bQ;have:=bQ.len;simp only [List.length_nil,mO] at this;rw [← this];exact bQ.now),fun e=>(by cases e)⟩
theorem agb:∀ n:Nat,n≤4294967297→SY n
 | 0,_=>fun _ _ _ _ _ _ _ _ _ _ _ _ _ _ _ _ _ _ _ h=>absurd h (by omega)
 | n+1,hn=>avr (agb n (by omega)) (by omega)
end
section
open Go.RowKit
theorem mP {r:CR} {f:CS→CR} {s':CS} (h:fF r f=(0,s')):r.1=0∧f r.2=(0,s'):=by
 unfold fF at h
 split at h
 ·rename_i h1;rw [h] at h1;exact absurd rfl h1
 rename_i h1;exact ⟨fD.1 h1,h⟩
theorem TB {r:CR} (h:r.1=0):r=(0,r.2):=Prod.ext h rfl
structure mK (a b c:List Int):Prop where
 eq:c=a++b
 nd:a.Nodup→c.Nodup
 pos:∀ i∈b,1≤i∧i≤1073741824
theorem mK.nil (a:List Int):mK a [] a:=⟨by simp,fun h=>h,fun i h=>by cases h⟩
theorem mK.trans {a b c d e:List Int} (h:mK a b c) (g:mK c d e):mK a (b++d) e:=⟨by rw [g.eq,h.eq,fT],fun h1=>g.nd (h.nd h1),fun i hi=>(ng.1 hi).elim (h.pos i) (g.pos i)⟩
theorem mK.id {us a:List Int} {x:Int} (h:lJ us a x=0):mK a [x] (iQ us a x):=by
 unfold iQ
 rw [au h]
 unfold lJ at h
 by_cases h0:¬ (1≤x∧x≤1073741824)∨x∈us
 ·rw [au h0] at h;cases h
 rw [ah h0] at h;have h1:1≤x∧x≤1073741824:=fD.1 fun h'=>h0 (.inl h')
 by_cases h2:x∈a
 ·rw [au h2] at h;cases h
 exact ⟨rfl,fun h3=>List.nodup_append.2 ⟨h3,by simp,fun u hu v hv=>by rw [qO.1 hv];exact fun e=>h2 (e ▸ hu)⟩,fun i hi=>by rw [qO.1 hi];exact h1⟩
theorem mK.gZ {C:bL} {s s':CS} {x:Int} (h:gZ C s x=(0,s')):mK s.aU [x] s'.aU:=by
 unfold Go.Proofs.YthmanofbmnfemaaGreat.gZ at h
 injection h with h1 h2
 rw [← h2];exact mK.id h1
theorem asD {C:bL} {body note:Bool} {t k i:Int} {s s':CS} (h:jh C body note t k i s=(0,s')):mK s.aU (if k=6∨k=7 then [i] else []) s'.aU:=by
 unfold jh at h
 by_cases h3:k=3
 ·rw [au h3] at h;injection h with _ h2;rw [ah (by omega),← h2];exact mK.nil _
 rw [ah h3] at h
 by_cases h6:k=6
 ·rw [au h6] at h;rw [au (.inl h6)];exact mK.gZ (mP h).2
 rw [ah h6] at h
 by_cases h7:k=7
 ·rw [au h7] at h;rw [au (.inr h7)];exact mK.gZ (mP h).2
 rw [ah h7] at h;rw [ah (by omega)]
 by_cases h8:k=8
 ·rw [au h8] at h;injection h with _ h2;rw [← h2];exact mK.nil _
 rw [ah h8] at h;injection h with _ h2;rw [← h2];exact mK.nil _
theorem Xt {n:Nat} {f:CS→CR} {s s':CS} (h:jD n f s=(0,s')):n≠0∧f s=(0,s'):=by
 unfold jD at h
 split at h
 ·cases h
 rename_i h1
 split at h
 ·cases h
 exact ⟨h1,h⟩
mutual
theorem alY (C:bL) (body note:Bool) (t:Int):∀ (x:av) (s s':CS),eB C body note t x s=(0,s')→mK s.aU (vQ x) s'.aU
 | .mk k c i tx h f r,s,s',e=>by
  have hf:=O1 C false true t f;have hr:=aaT C note (t+1) r;rw [eB] at e;obtain ⟨-,e⟩:=mP e;obtain ⟨e1,e⟩:=mP e;obtain ⟨-,e⟩:=mP e;have h1:=asD (TB e1);rw [vQ];refine h1.trans ?_
  by_cases h6:k=6
  ·rw [au h6] at e ⊢;rw [ah (show ¬ k=7 by omega),lD];exact hf _ _ e
  rw [ah h6] at e ⊢;rw [jv]
  by_cases h7:k=7
  ·rw [au h7] at e ⊢;exact hr _ _ (Xt e).2
  rw [ah h7] at e ⊢
  injection e with _ e
  rw [← e];exact mK.nil _
theorem alZ (C:bL) (note:Bool) (t:Int):∀ (x:aS) (s s':CS),yI C note t x s=(0,s')→mK s.aU (yD x) s'.aU
 | .mk h cs,s,s',e=>by
  have hc:=aaS C note t cs;rw [II] at e;rw [yD];exact hc _ _ (mP e).2
theorem alX (C:bL) (note:Bool) (t:Int):∀ (x:aR) (s s':CS),cellC C note t x s=(0,s')→mK s.aU (yC x) s'.aU
 | .mk i h f,s,s',e=>by
  have hf:=O1 C false note t f;rw [zO] at e;dsimp only [aR.id,aR.head,aR.flow] at e;obtain ⟨e1,e⟩:=mP e;have h1:=mK.gZ (s':=(gZ C s i).2) (Prod.ext e1 rfl);rw [yC];exact h1.trans (hf _ _ (mP e).2)
theorem O1 (C:bL) (body note:Bool) (t:Int):∀ (l:List av) (s s':CS),fP C body note t l s=(0,s')→mK s.aU (fO l) s'.aU
 | [],s,s',e=>by rw [fP] at e;injection e with _ e;rw [← e];exact mK.nil _
 | x :: r,s,s',e=>by
  rw [fP] at e;obtain ⟨e1,e⟩:=mP e;rw [fO];exact (alY C body note t x s _ (Prod.ext e1 rfl)).trans (O1 C body note t r _ _ e)
theorem aaT (C:bL) (note:Bool) (t:Int):∀ (l:List aS) (s s':CS),fJ C note t l s=(0,s')→mK s.aU (rD l) s'.aU
 | [],s,s',e=>by rw [fJ] at e;injection e with _ e;rw [← e];exact mK.nil _
 | x :: r,s,s',e=>by
  rw [fJ] at e;obtain ⟨e1,e⟩:=mP e;rw [rD];exact (alZ C note t x s _ (Prod.ext e1 rfl)).trans (aaT C note t r _ _ e)
theorem aaS (C:bL) (note:Bool) (t:Int):∀ (l:List aR) (s s':CS),kS C note t l s=(0,s')→mK s.aU (sM l) s'.aU
 | [],s,s',e=>by rw [kS] at e;injection e with _ e;rw [← e];exact mK.nil _
 | x :: r,s,s',e=>by
  rw [kS] at e;obtain ⟨e1,e⟩:=mP e;rw [sM];exact (alX C note t x s _ (Prod.ext e1 rfl)).trans (aaS C note t r _ _ e)
end
def rU (l:List av):Prop:=∃ (C:bL) (body note:Bool) (t:Int) (s s':CS),fP C body note t l s=(0,s')
structure Jc (x:av):Prop where
 txt:mX x.text=true
 kd:1≤x.kind∧x.kind≤8
 rw0:x.kind≠7→x.rows=[]
 fl0:x.kind≠6→x.flow=[]
 fl:rU x.flow
 rw:∀ r∈x.rows,∀ c∈r.cells,rU c.flow
theorem arP:rU []:=⟨⟨[],[],[],[]⟩,false,false,0,⟨0,[]⟩,⟨0,[]⟩,by rw [fP]⟩
theorem GY {x:av} (h:gN x=0):mX x.text=true∧(1≤x.kind∧x.kind≤8)∧(x.kind≠7→x.rows=[])∧(x.kind≠6→x.flow=[]):=by
 unfold gN at h
 split at h
 ·cases h
 rename_i h1
 split at h
 ·cases h
 rename_i h2
 split at h
 ·cases h
 rename_i h3
 have hk:decide (1≤x.kind∧x.kind≤8)=true:=by
  cases hd:decide (1≤x.kind∧x.kind≤8)
  ·rw [hd] at h1;exact absurd rfl h1
  rfl
 refine ⟨by simpa using h3,lQ hk,fun h7=>?_,fun h6=>?_⟩
 ·rw [Bool.not_eq_true] at h2
  unfold qU at h2
  simp only [Bool.or_eq_false_iff] at h2
  have h4:=h2.2;rw [eZ h7,tY,oP] at h4;exact List.length_eq_zero_iff.1 (by omega)
 rw [Bool.not_eq_true] at h2
 unfold qU at h2
 simp only [Bool.or_eq_false_iff] at h2
 have h4:=h2.1.2;rw [eZ h6,tY,oP] at h4;exact List.length_eq_zero_iff.1 (by omega)
theorem cells_ok {C:bL} {note:Bool} {t:Int}:∀ {l:List aR} {s s':CS},kS C note t l s=(0,s')→∀ c∈l,rU c.flow
 | [],_,_,_,_,h=>by cases h
 | x :: r,s,s',e,c,h=>by
  rw [kS] at e;obtain ⟨e1,e⟩:=mP e
  rcases kZ.1 h with rfl|h
  ·have e2:cellC C note t c s=(0,(cellC C note t c s).2):=Prod.ext e1 rfl
   generalize (cellC C note t c s).2=s2 at e2
   rw [zO] at e2;exact ⟨C,false,note,t,_,_,(mP (mP e2).2).2⟩
  exact cells_ok e c h
theorem aeQ {C:bL} {note:Bool} {t:Int}:∀ {l:List aS} {s s':CS},fJ C note t l s=(0,s')→∀ r∈l,∀ c∈r.cells,rU c.flow
 | [],_,_,_,_,h=>by cases h
 | x :: r,s,s',e,q,h=>by
  rw [fJ] at e;obtain ⟨e1,e⟩:=mP e
  rcases kZ.1 h with rfl|h
  ·have e2:yI C note t q s=(0,(yI C note t q s).2):=Prod.ext e1 rfl
   generalize (yI C note t q s).2=s2 at e2
   rw [II] at e2;exact cells_ok (mP e2).2
  exact aeQ e q h
theorem rU.head {x:av} {l:List av} (h:rU (x :: l)):Jc x∧rU l:=by
 obtain ⟨C,body,note,t,s,s',e⟩:=h;rw [fP] at e;obtain ⟨e1,e⟩:=mP e;have e2:eB C body note t x s=(0,(eB C body note t x s).2):=Prod.ext e1 rfl
 generalize (eB C body note t x s).2=s2 at e2
 refine ⟨?_,⟨C,body,note,t,_,_,e⟩⟩;rw [Nc] at e2;obtain ⟨f1,e2⟩:=mP e2;(iterate 2 obtain ⟨-,e2⟩:=mP e2);obtain ⟨h1,h2,h3,h4⟩:=GY f1;refine ⟨h1,h2,h3,h4,?_,?_⟩
 ·by_cases h6:x.kind=6
  ·rw [au h6] at e2;exact ⟨_,_,_,_,_,_,e2⟩
  rw [h4 h6];exact arP
 by_cases h7:x.kind=7
 ·rw [ah (by omega),au h7] at e2;exact aeQ (Xt e2).2
 rw [h3 h7];exact fun _ h=>by cases h
theorem rU.tail {x:av} {l:List av} (h:rU (x :: l)):rU l:=h.head.2
theorem rU.mem:∀ {l:List av} {x:av},rU l→x∈l→Jc x
 | y :: l,x,h,hx=>by
  rcases kZ.1 hx with rfl|hx
  ·exact h.head.1
  exact rU.mem h.head.2 hx
theorem Jc.e {x:av} (h:Jc x):zD x=0:=by unfold zD IW;rw [au h.txt];split <;> rfl
theorem Jc.n1 {x:av} (h:Jc x):n1 x=fK x:=by unfold Go.Proofs.YthmanofbmnfemaaGreat.n1;rw [au h.e]
theorem rU.div {l:List av} (h:rU l):wO l=true:=by
 unfold wO
 rw [mZ];exact fun x hx=>eZ (h.mem hx).e
theorem rU.len {l:List av} (h:rU l):pX l=qL l:=by unfold pX;rw [au h.div]
mutual
theorem avA (note:Bool) (t:Int):∀ x:av,((zH note t x).map kg.id).Sublist (vQ x)
 | .mk k c i tx h f r=>by
  have hf:=Sg true t f;have hr:=agp note t r;rw [zH,vQ]
  by_cases h6:k=6
  ·rw [au h6,au (.inl h6),au h6,ah (by omega),lD];exact List.Sublist.cons_cons _ hf
  rw [ah h6,ah h6,jv]
  by_cases h7:k=7
  ·rw [au h7,au h7,au (.inr h7)];exact List.Sublist.cons _ hr
  rw [ah h7];exact List.nil_sublist _
theorem Sg (note:Bool) (t:Int):∀ l:List av,((jm note t l).map kg.id).Sublist (fO l)
 | []=>by rw [jm];exact List.nil_sublist _
 | x :: l=>by
  rw [jm,fO,lg];exact (avA note t x).append (Sg note t l)
theorem avB (note:Bool) (t:Int):∀ x:aS,((zI note t x).map kg.id).Sublist (yD x)
 | .mk h cs=>by rw [zI,yD];exact agn note t cs
theorem agp (note:Bool) (t:Int):∀ l:List aS,((pR note t l).map kg.id).Sublist (rD l)
 | []=>by rw [pR];exact List.nil_sublist _
 | x :: l=>by
  rw [pR,rD,lg];exact (avB note t x).append (agp note t l)
theorem avz (note:Bool) (t:Int):∀ x:aR,((zG note t x).map kg.id).Sublist (yC x)
 | .mk i h f=>by rw [zG,yC];exact List.Sublist.cons_cons _ (Sg note (t+1) f)
theorem agn (note:Bool) (t:Int):∀ l:List aR,((qm note t l).map kg.id).Sublist (sM l)
 | []=>by rw [qm];exact List.nil_sublist _
 | x :: l=>by
  rw [qm,sM,lg];exact (avz note t x).append (agn note t l)
end
structure Od (l:List av):Prop where
 ok:rU l
 nd:(fO l).Nodup
 pos:∀ i∈fO l,1≤i∧i≤1073741824
theorem Od.of {C:bL} {body note:Bool} {t n:Int} {l:List av} {s':CS} (h:fP C body note t l ⟨n,[]⟩=(0,s')):Od l:=by
 have he:=O1 C body note t l _ _ h;have hn:=he.nd List.nodup_nil;rw [he.eq] at hn;exact ⟨⟨C,body,note,t,_,_,h⟩,by simpa using hn,he.pos⟩
theorem Od.ids {l:List av} (h:Od l):((fC l).map kg.id).Nodup:=by
 have hs:=Sg false 0 l;rw [fC,dR,List.nodup_cons];exact ⟨fun hm=>by have:=h.pos _ (hs.subset hm);dsimp only at this;omega,hs.nodup h.nd⟩
end
section
open Go.RowKit
theorem Ju:∀ args w,(callFunc 75 args).run prog w=.ok (.enter 75 args) w:=enters func75 rfl (by kernel_rfl)
theorem TR:∀ args w,(callFunc 163 args).run prog w=.ok (.enter 163 args) w:=enters func163 rfl (by kernel_rfl)
theorem LX:∀ args w,(callFunc 46 args).run prog w=.ok (.enter 46 args) w:=enters func46 rfl (by kernel_rfl)
variable {us:List Int}
theorem JK (G:GH) (L:OL) (w0:World) (st:List bH) (li:List dz) (rv:List bD) (b ms ml mr mb mu:Nat) (n:Int) (hck:xL us G st li rv ms ml mr mu) (hO:fM G (fZ b ms ml mr mb mu n :: L) w0)
  (e:Int) (h:cu) (p d l:ak) (hh:gW G h p d l) (hz:oN h≤4294967296) :
  Calls prog 75 #[(aK b 0),vi e,uK h p d l] w0 (fB w0 G (fZ b ms ml mr mb mu n :: L) fun v G' L'=>G=G'∧L'=fZ b ms ml mr mb mu n :: L∧v=vi (eH (aL us st li rv) e h)):=by
 have hm:=GH.EG G (o:=(fZ b ms ml mr mb mu n).2) (hO.sep _ gP);exact (aox (G.add b (fZ b ms ml mr mb mu n).2) w0 hO.add st li rv b ms ml mr mb mu n (hck.mono hm) (GH.EH _ _ _) e h p d l (hh.mono hm) hz).mono fun _ _=>Xr (b:=b) (o:=(fZ b ms ml mr mb mu n).2) (R':=fun v=>v=vi (eH (aL us st li rv) e h)) hO fun _ _ h=>h
abbrev NW (b ms ml mr mb mu:Nat) (L:OL) (r:CR):ak→OL→Prop:=fun u L'=>∃ s:CS,u=vi r.1∧L'=fZ b ms ml mr mb mu s.n :: (mb,eP (fI s.aU)) :: L∧(r.1=0→s=r.2)
def Ja (us:List Int) (m:Nat):Prop:=∀ (G:GH) (L:OL) (w0:World) (st:List bH) (li:List dz) (rv:List bD) (b ms ml mr mb mu:Nat) (s:CS) (l:List av) (v:ak) (body note:Bool) (t:Int),
 xL us G st li rv ms ml mr mu→fM G (fZ b ms ml mr mb mu s.n :: (mb,eP (fI s.aU)) :: L) w0→ay G (.sl 11 (l.map av.dat)) v→aX l < m→0≤t→t≤4→0≤s.n→s.n+(aX l:Nat)≤1099511627776 →
 Calls prog 46 #[(aK b 0),v,.agg #[.bool body,.bool note,vi t]] w0 (fB w0 G (fZ b ms ml mr mb mu s.n :: (mb,eP (fI s.aU)) :: L) fun u G' L'=>G=G'∧NW b ms ml mr mb mu L (fP (aL us st li rv) body note t l s) u L')
theorem rows_ok {m:Nat} (ih:Ja us m) (hm:m≤4294967296) (Gt:GH) (L:OL) (w0:World) (st:List bH) (li:List dz) (rv:List bD) (b ms ml mr mb mu:Nat) (s:CS) (l:List aS) (v:ak) (note:Bool) (t:Int)
  (hck:xL us Gt st li rv ms ml mr mu) (hO:fM Gt (fZ b ms ml mr mb mu s.n :: (mb,eP (fI s.aU)) :: L) w0) (hv:ay Gt (.sl 6 (l.map aS.dat)) v) (hz:eD l < m) (ht0:0≤t) (Bf:t≤4) (hs0:0≤s.n) (hs1:s.n+(eD l:Nat)≤1099511627776) :
  Calls prog 164 #[(aK b 0),v,.agg #[.bool false,.bool note,vi t]] w0 (fB w0 Gt (fZ b ms ml mr mb mu s.n :: (mb,eP (fI s.aU)) :: L) fun u G' L'=>NW b ms ml mr mb mu L (jD l.length (fun s=>fJ (aL us st li rv) note t l s) s) u L'):=by
 obtain ⟨A,c,rfl,hc1,hc2,hg⟩:=hv.slice;rw [bE] at *;have hll:=BH l;refine iM (N:=77) (T:=[(0,_),(1,_),(2,_)]) func164 rfl ntmps164 rfl rfl hO ?_;refine aj 1 ?_;intro a H;refine dN (cs:=[_,_,_]) H wn rfl rfl rfl ?_;clear H;intro b5 a w hb5 H;refine eO 8 H ?_ ?_ <;> clear H
 ·intro kF
  have hE:jD l.length (fun s=>fJ (aL us st li rv) note t l s) s=(11,s):=au (by omega);refine aj 3 ?_;intro a H;refine lr H results164 rfl ?_;exact H.hp.bU (L':=fZ b ms ml mr mb mu s.n :: (mb,eP (fI s.aU)) :: L) (by repeat (first|exact bZ _|apply List.Sublist.cons)) ⟨s,by rw [hE],rfl,fun h=>by rw [hE]⟩
 intro kF
 refine goB 7 ?_ ?_
 ·intro pJ
  have hE:jD l.length (fun s=>fJ (aL us st li rv) note t l s) s=(9,s):=by rw [jD,ah (by omega),au (by omega)]
  refine aj 3 ?_;intro a H;refine lr H results164 rfl ?_;exact H.hp.bU (L':=fZ b ms ml mr mb mu s.n :: (mb,eP (fI s.aU)) :: L) (by repeat (first|exact bZ _|apply List.Sublist.cons)) ⟨s,by rw [hE],rfl,fun h=>by rw [hE]⟩
 intro pJ
 refine aj 2 ?_
 have hE:jD l.length (fun s=>fJ (aL us st li rv) note t l s) s=fJ (aL us st li rv) note t l s:=by rw [jD,ah (by omega),ah (by omega)]
 refine aj 6 ?_;intro a H;refine dD (ι:=Nat × CS × GH) (Tc:=[(0,_),(5,_),(21,_),(22,_)]) (Lc:=[(_,_)]) (fun gh=>[(23,vi gh.1)]) (fun gh=>[fZ b ms ml mr mb mu gh.2.1.n,(mb,eP (fI gh.2.1.aU))]++L) (fun gh=>gh.2.2) (fun gh=>gh.1≤l.length∧(∀ b o,Gt b=some o→gh.2.2 b=some o)∧fJ (aL us st li rv) note t l s=fJ (aL us st li rv) note t (l.drop gh.1) gh.2.1∧0≤gh.2.1.n∧gh.2.1.n+(eD (l.drop gh.1):Nat)≤1099511627776) (fun gh=>l.length - gh.1) ((0,s,Gt)) sB ?_ ?_
 ·exact ⟨eG _,fun _ _ h=>h,rfl,hs0,hs1⟩
 clear H;rintro ⟨k,s1,g⟩ a w hI H;dsimp only at hI H;obtain ⟨hk,hgm,hR,hn0,hn1⟩:=hI;dsimp only [lca,aQ] at H;refine cK 4 H ?_ ?_ <;> clear H
 ·intro kN
  have hk2:k < l.length:=by omega
  have hsz:=I6 hk2;have hcs:=BD l[k].cells
  have hdz:eD (l.drop k)=1+bM l[k].dat+eD (l.drop (k+1)):=by simp only [eD];rw [jy hk2,dR,dY]
  have hrz:=tO l[k];obtain ⟨xb,xo,qA,qn,qc,eA,en,ec,zA,zn,zc,cA,cn,cc,rfl,hrow,yB,hcl⟩:=Eh hk2 hg;replace hrow:=fun j u hj=>aD hgm (hrow j u hj);replace yB:=yB.mono hgm;replace hcl:=hcl.mono hgm;have hcn:=hcl.len;rw [bE] at hcn;subst hcn;have aok:=hck.mono hgm;rw [jy hk2,fJ,II] at hR;refine aj 5 ?_;intro a H;refine aT jw (cs:=[_,_,_,_,_,_]) H wn rfl rfl (fun j v hj=>H.hp.aC (hrow j v hj)) rfl ?_;clear H;intro a H;refine dx jw H wn rfl ?_;clear H;intro b8 a w wV H;refine bq jw 0 (vs:=[_,_,_,_,_,_]) _ H wn rfl rfl rfl rfl rfl rfl rfl rfl ?_;clear H;intro w H;dsimp only [List.set,setRow] at H;refine aH 3 H ?_;clear H;intro a H;refine dI hmx [[],[],[1],[0,1,2],[],[4],[4,5],[4,5,6],(ra 0 8),[],[9],[9,10],[9,10,11],(ra 0 13),(ra 0 14),(ra 0 15),(ra 0 16)] [14,15,16] (by kernel_rfl) [_,_,uK l[k].head (.slice qA qn qc) (.slice eA en ec) (.slice zA zn zc),vi (eH (aL us st li rv) 9 l[k].head),_,.slice cA l[k].cells.length cc,_,_,vi (bK (decide ((l[k].cells.length:Int)=0)) 11),_,.slice cA l[k].cells.length cc,_,_,vi (bK (decide (32 < (l[k].cells.length:Int))) 9)] H (aF (Z0 rfl (Rm rfl)) (Z0 rfl (Rf Jw rfl)) ?_ ?_ (aF (Z0 rfl (Rf O5 rfl)) (Z1 4 31 rfl (Ro RP 0 rfl)) (Z1 5 32 rfl (Rl FP rfl)) (Z1 6 33 rfl (Rc rfl)) (aF ?_ (Z0 rfl (Rf O5 rfl)) (Z1 9 36 rfl (Ro RP 0 rfl)) (Z1 10 37 rfl (Rl FP rfl)) (aF (Z1 11 38 rfl (Rc rfl)) ?_ (bS rfl) (bS rfl) (aW (bS rfl) cZ))))) ?_
  ·refine dM 1 28 rfl rfl fun _ a w G1 hG HT H fin=>?_;refine aT gG (cs:=[_,_,_,_,_]) H wn rfl rfl (H.hp.cO 0 rfl rfl) rfl ?_;clear H;intro a H;exact fin H iJ rfl
  ·refine dP 0 27 2 29 rfl rfl fun _ a w G1 hG HT H fin=>?_;refine fu Ju (Li:=[_,_]) (L:=fZ b ms ml mr mb mu s1.n :: (mb,eP (fI s1.aU)) :: L) H wn rfl (JK _ _ _ st li rv b ms ml mr mb mu _ (aok.mono hG) (Hp.owns (Li:=[_,_]) H.hp) 9 l[k].head _ _ _ (yB.mono hG) (by omega)) rfl ?_;clear H;rintro v30 _ _ a w ⟨rfl,rfl,rfl⟩ Mv H;dsimp only [lca,aQ] at H;exact fin H Mv (rfl)
  ·refine dM 7 34 rfl rfl fun _ a w G1 hG HT H fin=>?_;refine s_call jF H wn rfl (jK _ _ H.ro _ 11) rfl ?_;clear H;rintro v35 YK a w ⟨rfl,-⟩ UL H;exact fin H UL (rfl)
  ·refine dM 12 39 rfl rfl fun _ a w G1 hG HT H fin=>?_;refine s_call jF H wn rfl (jK _ _ H.ro _ 9) rfl ?_;clear H;rintro v40 KM a w ⟨rfl,-⟩ ank H;exact fin H ank (rfl)
  clear H;intro a w G pW H hv;have H:=H.aV (hv 3 30 rfl rfl) rfl;have H:=H.aV (hv 8 35 rfl rfl) rfl;have H:=H.aV (hv 13 40 rfl rfl) rfl;clear hv;refine iy rQ iN [_,_,_] [_,_,_] H wn rfl rfl rfl rfl rfl (by intro i q h;match i,h with|0,h=>exact h|1,h=>exact h|2,h=>exact h|n+3,h=>simp at h) rfl rfl ?_;clear H;intro b41 a w awp H;obtain ⟨KN,Cu,anS,H⟩:=H.dS;have MK:∀ b o,Gt b=some o→KN b=some o:=fun b o h=>Cu _ _ (pW _ _ (hgm _ _ h));refine s_call sj H wn rfl (sw _ _ H.ro _ _ (Im [eH (aL us st li rv) 9 l[k].head,bK (decide ((l[k].cells.length:Int)=0)) 11,bK (decide (32 < (l[k].cells.length:Int))) 9] anS (show 3≤maxLen by decide))) rfl ?_;clear H;rintro v42 _ a w ⟨rfl,rfl⟩ - H;refine kH H (Ra rfl ?_);clear H;intro a H;refine aI ⟨rfl,?_⟩;refine dW ?_;refine cK 4 H ?_ ?_ <;> clear H
  ·intro p44
   have e44:rG (aL us st li rv) l[k].head l[k].cells.length≠0:=p44
   have hF1:(jD l.length (fun s=>fJ (aL us st li rv) note t l s) s).1=rG (aL us st li rv) l[k].head l[k].cells.length:=by rw [hE,hR,uh (r:=(rG (aL us st li rv) l[k].head l[k].cells.length,s1)) e44,uh e44]
   have hF2:(jD l.length (fun s=>fJ (aL us st li rv) note t l s) s).1=0→s1=(jD l.length (fun s=>fJ (aL us st li rv) note t l s) s).2:=fun h=>absurd (hF1.symm.trans h) e44;refine aj 4 ?_;intro a H;refine lr H results164 rfl ?_;exact H.hp.bU (L':=fZ b ms ml mr mb mu s1.n :: (mb,eP (fI s1.aU)) :: L) (by repeat (first|exact bZ _|apply List.Sublist.cons)) ⟨s1,aB vi hF1.symm,rfl,hF2⟩
  intro p44
  have e44:rG (aL us st li rv) l[k].head l[k].cells.length=0:=fD.1 p44;rw [rW (r:=(rG (aL us st li rv) l[k].head l[k].cells.length,s1)) e44] at hR;intro a H;dsimp only at hR;have aol:=hck.mono MK;replace hcl:=hcl.mono (fun b o h=>Cu _ _ (pW b o h));refine dG 8 H ?_;clear H;intro a H;refine dD (ι:=Nat × CS × GH) (Tc:=[(0,_),(5,_),(21,_),(22,_),(23,_),(47,_),(48,_)]) (Lc:=[(_,_),(_,_)]) (fun gh=>[(49,vi gh.1)]) (fun gh=>[fZ b ms ml mr mb mu gh.2.1.n,(mb,eP (fI gh.2.1.aU))]++L) (fun gh=>gh.2.2) (fun gh=>gh.1≤l[k].cells.length∧(∀ b o,KN b=some o→gh.2.2 b=some o)∧fJ (aL us st li rv) note t l s=fF (kS (aL us st li rv) note t (l[k].cells.drop gh.1) gh.2.1) (fun s=>fJ (aL us st li rv) note t (l.drop (k+1)) s)∧0≤gh.2.1.n∧gh.2.1.n+(gH (l[k].cells.drop gh.1):Nat)+(eD (l.drop (k+1)):Nat)≤1099511627776) (fun gh=>l[k].cells.length - gh.1) ((0,s1,KN)) sB ?_ ?_
  ·exact ⟨eG _,fun _ _ h=>h,hR,hn0,by dsimp only;rw [GI];omega⟩
  clear H;rintro ⟨c,s2,g2⟩ a w hI H;dsimp only at hI H;obtain ⟨hc,Qc,hR2,hm0,hm1⟩:=hI;have jI:=fun b o h=>Qc b o (MK b o h);dsimp only [lca,aQ] at H;refine cK 4 H ?_ ?_ <;> clear H
  ·intro p50
   have hk4:c < l[k].cells.length:=by omega
   have apI:=KD hk4
   have aot:gH (l[k].cells.drop c)=1+bM l[k].cells[c].dat+gH (l[k].cells.drop (c+1)):=by simp only [gH];rw [jy hk4,dR,dY]
   have hcz:=uZ l[k].cells[c];obtain ⟨b3',o3,sA,sn,sc,tA,tn,tc,uA,un,uc,gA,gn,gc,rfl,hrow,hch,hcf⟩:=BR hk4 (hcl.mono Qc).at_;have Vk:=aol.mono Qc;rw [jy hk4,kS,zO] at hR2;obtain ⟨y,hy⟩:∃ y,y=l[k].cells[c]:=⟨_,rfl⟩;rw [← hy] at hR2 hrow hch hcf hcz apI aot;refine aj 5 ?_;intro a H;refine aT iI (cs:=[_,_,_,_,_,_,_]) H wn rfl rfl (fun j v hj=>H.hp.aC (hrow j v hj)) rfl ?_;clear H;intro a H;refine dx iI H wn rfl ?_;clear H;intro b11 a w Hu H;refine bq iI 0 (vs:=[_,_,_,_,_,_,_]) _ H wn rfl rfl rfl rfl rfl rfl rfl rfl ?_;clear H;intro w H;dsimp only [List.set,setRow] at H;refine aH 6 H ?_;clear H;intro a H;refine fu TR (Li:=[_,_,_]) (L:=fZ b ms ml mr mb mu s2.n :: (mb,eP (fI s2.aU)) :: L) H wn rfl (Tq _ _ _ st li rv b ms ml mr mb mu _ s2.aU y.id Vk (Hp.owns (Li:=[_,_,_]) H.hp)) rfl ?_;clear H;rintro v56 _ _ a w ⟨rfl,rfl,rfl⟩ - H;dsimp only [lca,aQ] at H;refine eO 6 H ?_ ?_ <;> clear H
   ·intro p58
    have hF1:(jD l.length (fun s=>fJ (aL us st li rv) note t l s) s).1=lJ us s2.aU y.id:=by rw [hE,hR2];simp [fF,gZ,p58]
    have hF2:(jD l.length (fun s=>fJ (aL us st li rv) note t l s) s).1=0→(⟨s2.n,iQ us s2.aU y.id⟩:CS)=(jD l.length (fun s=>fJ (aL us st li rv) note t l s) s).2:=fun h=>absurd (hF1.symm.trans h) p58;refine aj 4 ?_;intro a H;refine lr H results164 rfl ?_;exact H.hp.bU (L':=fZ b ms ml mr mb mu s2.n :: (mb,eP (fI (iQ us s2.aU y.id))) :: L) (by repeat (first|exact bZ _|apply List.Sublist.cons)) ⟨⟨s2.n,iQ us s2.aU y.id⟩,aB vi hF1.symm,rfl,hF2⟩
   intro p58
   have e58:lJ us s2.aU y.id=0:=fD.1 p58;refine aj 5 ?_;intro a H;refine aT gG (cs:=[_,_,_,_,_]) H wn rfl rfl (H.hp.cO 0 rfl rfl) rfl ?_;clear H;intro a H;refine fu Ju (Li:=[_,_,_]) (L:=fZ b ms ml mr mb mu s2.n :: (mb,eP (fI (iQ us s2.aU y.id))) :: L) H wn rfl (JK _ _ _ st li rv b ms ml mr mb mu _ Vk (Hp.owns (Li:=[_,_,_]) H.hp) 10 y.head _ _ _ hch (by omega)) rfl ?_;clear H;rintro v63 _ _ a w ⟨rfl,rfl,rfl⟩ - H;dsimp only [lca,aQ] at H;refine eO 6 H ?_ ?_ <;> clear H
   ·intro p65
    have hF1:(jD l.length (fun s=>fJ (aL us st li rv) note t l s) s).1=eH (aL us st li rv) 10 y.head:=by rw [hE,hR2];simp [fF,gZ,e58,p65]
    have hF2:(jD l.length (fun s=>fJ (aL us st li rv) note t l s) s).1=0→(⟨s2.n,iQ us s2.aU y.id⟩:CS)=(jD l.length (fun s=>fJ (aL us st li rv) note t l s) s).2:=fun h=>absurd (hF1.symm.trans h) p65;refine aj 4 ?_;intro a H;refine lr H results164 rfl ?_;exact H.hp.bU (L':=fZ b ms ml mr mb mu s2.n :: (mb,eP (fI (iQ us s2.aU y.id))) :: L) (by repeat (first|exact bZ _|apply List.Sublist.cons)) ⟨⟨s2.n,iQ us s2.aU y.id⟩,aB vi hF1.symm,rfl,hF2⟩
   intro p65
   have e65:eH (aL us st li rv) 10 y.head=0:=fD.1 p65;refine aj 5 ?_;intro a H;refine aT RU (cs:=[_,_,_]) H wn rfl rfl (H.hp.cO 2 rfl rfl) rfl ?_;clear H;intro a H;refine fu LX (Li:=[_,_,_]) (L:=fZ b ms ml mr mb mu s2.n :: (mb,eP (fI (iQ us s2.aU y.id))) :: L) H wn rfl (ih _ _ _ st li rv b ms ml mr mb mu ⟨s2.n,iQ us s2.aU y.id⟩ y.flow _ false note t Vk (Hp.owns (Li:=[_,_,_]) H.hp) hcf (by omega) ht0 Bf hm0 (by dsimp only;omega)) rfl ?_;clear H;rintro v71 _ _ a w ⟨rfl,s3,rfl,rfl,h3⟩ - H;dsimp only [lca,aQ] at H;refine eO 6 H ?_ ?_ <;> clear H
   ·intro p73
    have hF1:(jD l.length (fun s=>fJ (aL us st li rv) note t l s) s).1=(fP (aL us st li rv) false note t y.flow ⟨s2.n,iQ us s2.aU y.id⟩).1:=by rw [hE,hR2];simp [fF,gZ,e58,e65,p73]
    have hF2:(jD l.length (fun s=>fJ (aL us st li rv) note t l s) s).1=0→s3=(jD l.length (fun s=>fJ (aL us st li rv) note t l s) s).2:=fun h=>absurd (hF1.symm.trans h) p73;refine aj 4 ?_;intro a H;refine lr H results164 rfl ?_;exact H.hp.bU (L':=fZ b ms ml mr mb mu s3.n :: (mb,eP (fI s3.aU)) :: L) (by repeat (first|exact bZ _|apply List.Sublist.cons)) ⟨s3,aB vi hF1.symm,rfl,hF2⟩
   intro p73
   have TJ:(fP (aL us st li rv) false note t y.flow ⟨s2.n,iQ us s2.aU y.id⟩).1=0:=fD.1 p73;obtain ⟨hu1,hu2⟩:=R8 (aL us st li rv) false note t y.flow ⟨s2.n,iQ us s2.aU y.id⟩;rw [← h3 TJ] at hu1 hu2;intro a H;dsimp only at hu1 hu2
   have hS:fF (fF (fF (gZ (aL us st li rv) s2 y.id) fun s=>fF (eH (aL us st li rv) 10 y.head,s) fun s=>fP (aL us st li rv) false note t y.flow s) fun s=>kS (aL us st li rv) note t (l[k].cells.drop (c+1)) s) (fun s=>fJ (aL us st li rv) note t (l.drop (k+1)) s)=fF (kS (aL us st li rv) note t (l[k].cells.drop (c+1)) s3) (fun s=>fJ (aL us st li rv) note t (l.drop (k+1)) s):=by
    rw [h3 TJ];simp [fF,gZ,e58,e65,TJ]
   refine dG 4 H ?_;clear H;intro a H;refine aI ?_;refine bR ((c+1,s3,g2)) (by exact (H.bY (Pl:=[_,_,_,_,_]) (bT:=[_,_,_,_]) [1,2,3,4] (by decide) rfl).sub ⟨rfl,rfl,rfl,rfl,rfl,rfl,rfl,rfl,aY⟩) ?_ ?_
   ·(try dsimp only);exact ⟨by omega,Qc,hR2.trans hS,by omega,by omega⟩
   first|omega|(dsimp only;omega)
  intro p50
  refine aj 4 ?_;intro a H;refine aI ?_;refine bR ((k+1,s2,g2)) (by exact (H.bY (Pl:=[_,_,_,_]) (bT:=[_,_,_]) [1,2,3] (by decide) rfl).sub ⟨rfl,rfl,rfl,rfl,rfl,aY⟩) ?_ ?_
  ·(try dsimp only);exact ⟨by omega,jI,by rw [hR2,eX (by omega),kS,rW rfl],hm0,by omega⟩
  first|omega|(dsimp only;omega)
 intro kN
 refine aj 1 ?_
 have hF1:(jD l.length (fun s=>fJ (aL us st li rv) note t l s) s).1=0:=by rw [hE,hR,eX (by omega),fJ]
 have hF2:(jD l.length (fun s=>fJ (aL us st li rv) note t l s) s).1=0→s1=(jD l.length (fun s=>fJ (aL us st li rv) note t l s) s).2:=fun h=>by rw [hE,hR,eX (by omega),fJ]
 refine aj 3 ?_;intro a H;refine lr H results164 rfl ?_;exact H.hp.bU (L':=fZ b ms ml mr mb mu s1.n :: (mb,eP (fI s1.aU)) :: L) (by repeat (first|exact bZ _|apply List.Sublist.cons)) ⟨s1,aB vi hF1.symm,rfl,hF2⟩
end
section
open Go.RowKit
theorem ajP:∀ args w,(callFunc 164 args).run prog w=.ok (.enter 164 args) w:=enters func164 rfl (by kernel_rfl)
theorem ajO:∀ args w,(callFunc 162 args).run prog w=.ok (.enter 162 args) w:=enters func162 rfl (by kernel_rfl)
instance:dL prog 98 5 5:=⟨by kernel_rfl⟩
instance:dL prog 90 0 0:=⟨by kernel_rfl⟩
variable {us:List Int}
theorem arT {G:GH} {b:Nat} {x:Int} (h:G b=some (.cells #[vi x] 42 (0,0))):ay G (.sl 1 ([x].map fun k=>[li k])) (.slice (some ⟨b,0,none⟩) 1 1):=Im [x] h (show 1≤maxLen by decide)
theorem aqn {m:Nat} (ih:Ja us m) (hm:m≤4294967296) (Gt:GH) (L:OL) (w0:World) (st:List bH) (li:List dz) (rv:List bD) (b ms ml mr mb mu:Nat) (s:CS) (x:av) (p d y f r:ak) (body note:Bool) (t:Int)
  (hck:xL us Gt st li rv ms ml mr mu) (hO:fM Gt (fZ b ms ml mr mb mu s.n :: (mb,eP (fI s.aU)) :: L) w0) (hh:gW Gt x.head p d y) (hf:ay Gt (.sl 11 (x.flow.map av.dat)) f) (hr:ay Gt (.sl 6 (x.rows.map aS.dat)) r) (hz:bM x.dat≤m) (ht0:0≤t) (Bf:t≤4) (hs0:0≤s.n) (hs1:s.n+(bM x.dat:Nat)≤1099511627776) :
  Calls prog 103 #[(aK b 0),.agg #[vi x.kind,vi x.code,vi x.id,.string x.text,p,vi x.head.marks.ins,vi x.head.marks.move,d,y,f,r],.agg #[.bool body,.bool note,vi t]] w0 (fB w0 Gt (fZ b ms ml mr mb mu s.n :: (mb,eP (fI s.aU)) :: L) fun u G' L'=>NW b ms ml mr mb mu L (eB (aL us st li rv) body note t x s) u L'):=by
 obtain ⟨pA,pn,pc,rfl⟩:=hh.props.form;obtain ⟨dA,dn,dc,rfl⟩:=hh.bg.form;obtain ⟨lA,ln,lc,rfl⟩:=hh.layers.form;obtain ⟨fA,fc,rfl,-⟩:=hf.slice;obtain ⟨rA,rc,rfl,-⟩:=hr.slice;(iterate 2 rw [bE] at *);have hxz:=pU x;have hcl:=GQ x.text
 have Ii:fK x≤x.text.size+1:=by unfold fK;split <;> omega
 have hE:=Nc (aL us st li rv) body note t x s;refine iM (N:=117) (T:=[(0,_),(1,_),(2,_)]) func103 rfl ntmps103 rfl rfl hO ?_;refine aj 1 ?_;intro a H;refine dN (cs:=[_,_,_,_,_,_,_,_,_,_,_]) H wn rfl rfl rfl ?_;clear H;intro b4 a w hb4 H;refine dN (cs:=[_,_,_]) H wn rfl rfl rfl ?_;clear H;intro b5 a w hb5 H;refine aH 4 H ?_;clear H;intro a H;refine aT dU (cs:=[_,_,_,_,_,_,_,_,_,_,_]) H wn rfl rfl (H.hp.cO 1 rfl rfl) rfl ?_;clear H;intro a H;refine s_call ajO H wn rfl (amM _ _ H.ro x _ _ _ _ _ _ _ (by omega)) rfl ?_;clear H;rintro v15 _ a w ⟨rfl,rfl⟩ - H;refine eO 6 H ?_ ?_ <;> clear H
 ·intro kF
  rw [uh (r:=(gN x,s)) kF] at hE;refine aj 4 ?_;intro a H;refine lr H results103 rfl ?_;exact H.hp.bU (L':=fZ b ms ml mr mb mu s.n :: (mb,eP (fI s.aU)) :: L) (by repeat (first|exact bZ _|apply List.Sublist.cons)) ⟨s,by rw [hE],rfl,fun h=>by rw [hE]⟩
 intro kF
 rw [rW (r:=(gN x,s)) (fD.1 kF)] at hE;intro a H;dsimp only at hE;refine dG 9 H ?_;clear H;intro a H;refine bq bC 2 (vs:=[_]) _ H wn rfl rfl rfl rfl rfl rfl rfl rfl ?_;clear H;intro w H;dsimp only [List.set,setRow] at H;refine aI ?_;refine dW ?_;refine oQ (ι:=CS × GH) (Tc:=[(0,_),(4,_),(5,_)]) (Lc:=[(_,_),(_,_)]) (fun gh=>[]) (fun gh=>[fZ b ms ml mr mb mu gh.1.n,(mb,eP (fI gh.1.aU))]++L) (fun gh=>gh.2) (fun gh=>jh (aL us st li rv) body note t x.kind x.id ⟨s.n+(fK x:Nat),s.aU⟩=(0,gh.1)∧(∀ b o,Gt b=some o→gh.2 b=some o)∧gh.1.n=s.n+(fK x:Nat)∧(x.kind=7→t < 4)) sB ?_ ?_
 ·refine cK 9 H ?_ ?_ <;> clear H
  ·intro p28
   have hu:((fK x:Nat):Int)=qP x.text:=by rw [fK,au p28]
   refine aj 3 ?_;intro a H;refine s_call OX H wn rfl (OE _ _ H.ro x.text (by omega)) rfl ?_;clear H;rintro v33 _ a w ⟨rfl,rfl⟩ - H;refine aH 1 H ?_;clear H;intro a H;(iterate 2 refine qK H wn rfl rfl rfl ?_;clear H;intro a H);refine aH 11 H ?_;clear H;intro a H;rw [show s.n+1+((qP x.text:Int) - 1)=s.n+(fK x:Nat) by omega] at H;refine aH 2 H ?_;clear H;intro a H;refine bq bC 2 (vs:=[_]) _ H wn rfl rfl rfl rfl rfl rfl rfl rfl ?_;clear H;intro w H;dsimp only [List.set,setRow] at H;refine aI ?_;refine ⟨(⟨s.n+(fK x:Nat),s.aU⟩,Gt),sB,?_⟩;(try dsimp only)
   first
   | exact ⟨by simp_all [jh,bK,fF,gZ],fun _ _ h=>h,rfl,fun h7=>by first|omega|(exfalso;simp_all)⟩
   | exact ⟨by simp_all [jh,bK,fF,gZ],wY,rfl,fun h7=>by first|omega|(exfalso;simp_all)⟩
  intro p28
  have hu:((fK x:Nat):Int)=1:=by rw [fK,ah p28];rfl
  intro a H;rw [show s.n+1=s.n+((fK x:Nat):Int) by omega] at H;refine cK 4 H ?_ ?_ <;> clear H
  ·intro p45
   refine goC 5 ?_ ?_
   ·intro xY
    try have p49:=dT xY
    have hF1:(eB (aL us st li rv) body note t x s).1=19:=by rw [hE];simp [fF,jh,p45,bK,xY]
    have hF2:(eB (aL us st li rv) body note t x s).1=0→(⟨s.n+(fK x:Nat),s.aU⟩:CS)=(eB (aL us st li rv) body note t x s).2:=fun h=>absurd (hF1.symm.trans h) (by decide);refine aj 3 ?_;intro a H;refine lr H results103 rfl ?_;exact H.hp.bU (L':=fZ b ms ml mr mb mu (s.n+(fK x:Nat)) :: (mb,eP (fI (s.aU))) :: L) (by repeat (first|exact bZ _|apply List.Sublist.cons)) ⟨⟨s.n+(fK x:Nat),s.aU⟩,aB vi hF1.symm,rfl,hF2⟩
   intro xY
   try have p49:=dF xY
   intro a H;refine iE ?_;refine ⟨(⟨s.n+(fK x:Nat),s.aU⟩,Gt),sB,?_⟩;(try dsimp only)
   first
   | exact ⟨by simp_all [jh,bK,fF,gZ],fun _ _ h=>h,rfl,fun h7=>by first|omega|(exfalso;simp_all)⟩
   | exact ⟨by simp_all [jh,bK,fF,gZ],wY,rfl,fun h7=>by first|omega|(exfalso;simp_all)⟩
  intro p45
  refine goB 4 ?_ ?_
  ·intro p50
   refine aj 4 ?_;intro a H;refine s_call jF H wn rfl (jK _ _ H.ro _ 19) rfl ?_;clear H;rintro v54 _ a w ⟨rfl,rfl⟩ - H;refine iy rQ iN [_] [_] H wn rfl rfl rfl rfl rfl (by intro i q h;match i,h with|0,h=>exact h|n+1,h=>simp at h) rfl rfl ?_;clear H;intro b55 a w awt H;obtain ⟨KO,wY,anU,H⟩:=H.dS;refine s_call sj H wn rfl (sw _ _ H.ro _ _ (arT anU)) rfl ?_;clear H;rintro v56 _ a w ⟨rfl,rfl⟩ - H;refine eO 6 H ?_ ?_ <;> clear H
   ·intro p58
    have e58:bK note 19≠0:=fun h=>p58 (by rw [h];rfl)
    have apQ:bP [bK note 19]=bK note 19:=by simp [bP,e58]
    intro a H;rw [apQ] at H
    have hF1:(eB (aL us st li rv) body note t x s).1=bK note 19:=by rw [hE];simp [fF,jh,p50,e58]
    have hF2:(eB (aL us st li rv) body note t x s).1=0→(⟨s.n+(fK x:Nat),s.aU⟩:CS)=(eB (aL us st li rv) body note t x s).2:=fun h=>absurd (hF1.symm.trans h) (e58);refine dG 4 H ?_;clear H;intro a H;refine lr H results103 rfl ?_;exact H.hp.bU (L':=fZ b ms ml mr mb mu (s.n+(fK x:Nat)) :: (mb,eP (fI (s.aU))) :: L) (by repeat (first|exact bZ _|apply List.Sublist.cons)) ⟨⟨s.n+(fK x:Nat),s.aU⟩,aB vi hF1.symm,rfl,hF2⟩
   intro p58
   have e58:bK note 19=0:=Decidable.byContradiction fun h=>p58 (by simp [bP,h]);refine aj 5 ?_;intro a H;refine fu TR (Li:=[_,_]) (L:=fZ b ms ml mr mb mu _ :: (mb,eP (fI s.aU)) :: L) H wn rfl (Tq _ _ _ st li rv b ms ml mr mb mu _ s.aU x.id (hck.mono wY) (Hp.owns (Li:=[_,_]) H.hp)) rfl ?_;clear H;rintro v63 _ _ a w ⟨rfl,rfl,rfl⟩ - H;dsimp only [lca,aQ] at H;refine eO 6 H ?_ ?_ <;> clear H
   ·intro p65
    have hF1:(eB (aL us st li rv) body note t x s).1=lJ us s.aU x.id:=by rw [hE];simp [fF,jh,p50,e58,gZ,p65]
    have hF2:(eB (aL us st li rv) body note t x s).1=0→(⟨s.n+(fK x:Nat),iQ us s.aU x.id⟩:CS)=(eB (aL us st li rv) body note t x s).2:=fun h=>absurd (hF1.symm.trans h) (p65);refine aj 4 ?_;intro a H;refine lr H results103 rfl ?_;exact H.hp.bU (L':=fZ b ms ml mr mb mu (s.n+(fK x:Nat)) :: (mb,eP (fI (iQ us s.aU x.id))) :: L) (by repeat (first|exact bZ _|apply List.Sublist.cons)) ⟨⟨s.n+(fK x:Nat),iQ us s.aU x.id⟩,aB vi hF1.symm,rfl,hF2⟩
   intro p65
   have e65:lJ us s.aU x.id=0:=fD.1 p65;intro a H;refine iE ?_;refine ⟨(⟨s.n+(fK x:Nat),iQ us s.aU x.id⟩,KO),sB,?_⟩;(try dsimp only)
   first
   | exact ⟨by simp_all [jh,bK,fF,gZ],fun _ _ h=>h,rfl,fun h7=>by first|omega|(exfalso;simp_all)⟩
   | exact ⟨by simp_all [jh,bK,fF,gZ],wY,rfl,fun h7=>by first|omega|(exfalso;simp_all)⟩
  intro p50
  refine goB 4 ?_ ?_
  ·intro p67
   refine goB 6 ?_ ?_
   ·intro p71
    have hF1:(eB (aL us st li rv) body note t x s).1=17:=by rw [hE];simp [fF,jh,p67,bK,p71]
    have hF2:(eB (aL us st li rv) body note t x s).1=0→(⟨s.n+(fK x:Nat),s.aU⟩:CS)=(eB (aL us st li rv) body note t x s).2:=fun h=>absurd (hF1.symm.trans h) (by decide);refine aj 3 ?_;intro a H;refine lr H results103 rfl ?_;exact H.hp.bU (L':=fZ b ms ml mr mb mu (s.n+(fK x:Nat)) :: (mb,eP (fI (s.aU))) :: L) (by repeat (first|exact bZ _|apply List.Sublist.cons)) ⟨⟨s.n+(fK x:Nat),s.aU⟩,aB vi hF1.symm,rfl,hF2⟩
   intro p71
   have e71:¬ 4≤t:=by omega
   refine aj 5 ?_;intro a H;refine fu TR (Li:=[_,_]) (L:=fZ b ms ml mr mb mu _ :: (mb,eP (fI s.aU)) :: L) H wn rfl (Tq _ _ _ st li rv b ms ml mr mb mu _ s.aU x.id hck (Hp.owns (Li:=[_,_]) H.hp)) rfl ?_;clear H;rintro v75 _ _ a w ⟨rfl,rfl,rfl⟩ - H;dsimp only [lca,aQ] at H;refine eO 6 H ?_ ?_ <;> clear H
   ·intro FB
    have hF1:(eB (aL us st li rv) body note t x s).1=lJ us s.aU x.id:=by rw [hE];simp [fF,jh,p67,bK,e71,gZ,FB]
    have hF2:(eB (aL us st li rv) body note t x s).1=0→(⟨s.n+(fK x:Nat),iQ us s.aU x.id⟩:CS)=(eB (aL us st li rv) body note t x s).2:=fun h=>absurd (hF1.symm.trans h) (FB);refine aj 4 ?_;intro a H;refine lr H results103 rfl ?_;exact H.hp.bU (L':=fZ b ms ml mr mb mu (s.n+(fK x:Nat)) :: (mb,eP (fI (iQ us s.aU x.id))) :: L) (by repeat (first|exact bZ _|apply List.Sublist.cons)) ⟨⟨s.n+(fK x:Nat),iQ us s.aU x.id⟩,aB vi hF1.symm,rfl,hF2⟩
   intro FB
   have e77:lJ us s.aU x.id=0:=fD.1 FB;intro a H;refine iE ?_;refine ⟨(⟨s.n+(fK x:Nat),iQ us s.aU x.id⟩,Gt),sB,?_⟩;(try dsimp only)
   first
   | exact ⟨by simp_all [jh,bK,fF,gZ],fun _ _ h=>h,rfl,fun h7=>by first|omega|(exfalso;simp_all)⟩
   | exact ⟨by simp_all [jh,bK,fF,gZ],wY,rfl,fun h7=>by first|omega|(exfalso;simp_all)⟩
  intro p67
  refine goB 4 ?_ ?_
  ·intro zq
   refine aj 3 ?_;intro a H;refine s_call yU H wn rfl (zl _ _ H.ro x.id 1 1073741824) rfl ?_;clear H;rintro v83 _ a w ⟨rfl,rfl⟩ - H;refine fE 2 H ?_ ?_ <;> clear H
   ·intro h84
    try have Xf:=dT h84
    have e84:¬ (1≤x.id∧x.id≤1073741824):=by have h0:=h84;simp at h0;omega
    have hF1:(eB (aL us st li rv) body note t x s).1=18:=by rw [hE];simp [fF,jh,zq,bK,e84]
    have hF2:(eB (aL us st li rv) body note t x s).1=0→(⟨s.n+(fK x:Nat),s.aU⟩:CS)=(eB (aL us st li rv) body note t x s).2:=fun h=>absurd (hF1.symm.trans h) (by decide);refine aj 3 ?_;intro a H;refine lr H results103 rfl ?_;exact H.hp.bU (L':=fZ b ms ml mr mb mu (s.n+(fK x:Nat)) :: (mb,eP (fI (s.aU))) :: L) (by repeat (first|exact bZ _|apply List.Sublist.cons)) ⟨⟨s.n+(fK x:Nat),s.aU⟩,aB vi hF1.symm,rfl,hF2⟩
   intro h84
   try have Xf:=dF h84
   intro a H;refine iE ?_;refine ⟨(⟨s.n+(fK x:Nat),s.aU⟩,Gt),sB,?_⟩;(try dsimp only)
   first
   | exact ⟨by simp_all [jh,bK,fF,gZ],fun _ _ h=>h,rfl,fun h7=>by first|omega|(exfalso;simp_all)⟩
   | exact ⟨by simp_all [jh,bK,fF,gZ],wY,rfl,fun h7=>by first|omega|(exfalso;simp_all)⟩
  intro zq
  intro a H;refine iE ?_;refine ⟨(⟨s.n+(fK x:Nat),s.aU⟩,Gt),sB,?_⟩;(try dsimp only)
  first
  | exact ⟨by simp_all [jh,bK,fF,gZ],fun _ _ h=>h,rfl,fun h7=>by first|omega|(exfalso;simp_all)⟩
  | exact ⟨by simp_all [jh,bK,fF,gZ],wY,rfl,fun h7=>by first|omega|(exfalso;simp_all)⟩
 clear H;rintro ⟨s1,g⟩ a w hI H;dsimp only at hI H;obtain ⟨hP,zi,axc,ht7⟩:=hI;rw [hP,rW rfl] at hE;dsimp only at hE;replace hck:=hck.mono zi;replace hh:=hh.mono zi;replace hf:=hf.mono zi;replace hr:=hr.mono zi;dsimp only [lca,aQ] at H;refine dG 6 H ?_;clear H;intro a H;refine aT gG (cs:=[_,_,_,_,_]) H wn rfl rfl (H.hp.cO 1 rfl rfl) rfl ?_;clear H;intro a H;refine fu Ju (Li:=[_,_]) (L:=fZ b ms ml mr mb mu s1.n :: (mb,eP (fI s1.aU)) :: L) H wn rfl (JK _ _ _ st li rv b ms ml mr mb mu _ hck (Hp.owns (Li:=[_,_]) H.hp) x.kind x.head _ _ _ hh (by omega)) rfl ?_;clear H;rintro v90 _ _ a w ⟨rfl,rfl,rfl⟩ - H;dsimp only [lca,aQ] at H;refine eO 6 H ?_ ?_ <;> clear H
 ·intro Kk
  have hF1:(eB (aL us st li rv) body note t x s).1=eH (aL us st li rv) x.kind x.head:=by rw [hE,uh (r:=(eH (aL us st li rv) x.kind x.head,s1)) Kk]
  have hF2:(eB (aL us st li rv) body note t x s).1=0→s1=(eB (aL us st li rv) body note t x s).2:=fun h=>absurd (hF1.symm.trans h) Kk;refine aj 4 ?_;intro a H;refine lr H results103 rfl ?_;exact H.hp.bU (L':=fZ b ms ml mr mb mu (s1.n) :: (mb,eP (fI (s1.aU))) :: L) (by repeat (first|exact bZ _|apply List.Sublist.cons)) ⟨s1,aB vi hF1.symm,rfl,hF2⟩
 intro Kk
 rw [rW (r:=(eH (aL us st li rv) x.kind x.head,s1)) (fD.1 Kk)] at hE;intro a H;dsimp only at hE;refine cK 11 H ?_ ?_ <;> clear H
 ·intro Nv
  rw [au Nv] at hE;refine aj 6 ?_;intro a H;refine jZ FL [_,_,_] H wn rfl rfl rfl rfl ?_;clear H;intro a H;refine fu LX (Li:=[_,_]) (L:=fZ b ms ml mr mb mu s1.n :: (mb,eP (fI s1.aU)) :: L) H wn rfl (ih _ _ _ st li rv b ms ml mr mb mu s1 x.flow _ false true t hck (Hp.owns (Li:=[_,_]) H.hp) hf (by omega) ht0 Bf (by omega) (by omega)) rfl ?_;clear H;rintro axp _ _ a w ⟨rfl,s3,rfl,rfl,h3⟩ - H;dsimp only [lca,aQ] at H
  have hF1:(eB (aL us st li rv) body note t x s).1=(fP (aL us st li rv) false true t x.flow s1).1:=by rw [hE]
  have hF2:(eB (aL us st li rv) body note t x s).1=0→s3=(eB (aL us st li rv) body note t x s).2:=by rw [hE];exact h3
  refine aH 2 H ?_;clear H;intro a H;refine lr H results103 rfl ?_;exact H.hp.bU (L':=fZ b ms ml mr mb mu (s3.n) :: (mb,eP (fI (s3.aU))) :: L) (by repeat (first|exact bZ _|apply List.Sublist.cons)) ⟨s3,aB vi hF1.symm,rfl,hF2⟩
 intro Nv
 rw [ah Nv] at hE;refine goB 4 ?_ ?_
 ·intro Kj
  rw [au Kj] at hE;refine aj 9 ?_;intro a H;refine jZ FL [_,_,_] H wn rfl rfl rfl rfl ?_;clear H;intro a H;refine fu ajP (Li:=[_,_]) (L:=fZ b ms ml mr mb mu s1.n :: (mb,eP (fI s1.aU)) :: L) H wn rfl (rows_ok ih hm _ _ _ st li rv b ms ml mr mb mu s1 x.rows _ note (t+1) hck (Hp.owns (Li:=[_,_]) H.hp) hr (by omega) (by omega) (by have:=ht7 Kj;omega) (by omega) (by omega)) rfl ?_;clear H;rintro axt _ _ a w ⟨s3,rfl,rfl,h3⟩ - H;dsimp only [lca,aQ] at H
  have hF1:(eB (aL us st li rv) body note t x s).1=(jD x.rows.length (fun s=>fJ (aL us st li rv) note (t+1) x.rows s) s1).1:=by rw [hE]
  have hF2:(eB (aL us st li rv) body note t x s).1=0→s3=(eB (aL us st li rv) body note t x s).2:=by rw [hE];exact h3
  refine aH 2 H ?_;clear H;intro a H;refine lr H results103 rfl ?_;exact H.hp.bU (L':=fZ b ms ml mr mb mu (s3.n) :: (mb,eP (fI (s3.aU))) :: L) (by repeat (first|exact bZ _|apply List.Sublist.cons)) ⟨s3,aB vi hF1.symm,rfl,hF2⟩
 intro Kj
 rw [ah Kj] at hE
 have hF1:(eB (aL us st li rv) body note t x s).1=0:=by rw [hE]
 have hF2:(eB (aL us st li rv) body note t x s).1=0→s1=(eB (aL us st li rv) body note t x s).2:=fun h=>by rw [hE]
 refine aj 4 ?_;intro a H;refine lr H results103 rfl ?_;exact H.hp.bU (L':=fZ b ms ml mr mb mu (s1.n) :: (mb,eP (fI (s1.aU))) :: L) (by repeat (first|exact bZ _|apply List.Sublist.cons)) ⟨s1,aB vi hF1.symm,rfl,hF2⟩
end
section
open Go.RowKit
theorem aje:∀ args w,(callFunc 103 args).run prog w=.ok (.enter 103 args) w:=enters func103 rfl (by kernel_rfl)
theorem ajd:∀ args w,(callFunc 102 args).run prog w=.ok (.enter 102 args) w:=enters func102 rfl (by kernel_rfl)
variable {us:List Int}
def YZ (fv:ak) (Gi:GH) (n:Nat) (E:Nat→Int) {σ:Type} (B:σ→OL) (S:Nat→σ):Prop:=∀ i,i < n→∀ (G1:GH) (w1:World),(∀ b o,Gi b=some o→G1 b=some o)→fM G1 (B (S i)) w1 →
 wD prog fv [vi i] w1 (fB w1 G1 (B (S i)) fun u G' L'=>∃ s,u=vi (E i)∧L'=B s∧(E i=0→s=S (i+1)))
theorem ahd (G:GH) (w0:World) {σ:Type} (B:σ→OL) (S:Nat→σ) (n:Nat) (E:Nat→Int) (fv:ak) (hO:fM G (B (S 0)) w0) (hn:n≤4611686018427387904) (hf:YZ fv G n E B S) :
  Calls prog 101 #[vi n,fv] w0 (fB w0 G (B (S 0)) fun u G' L'=>∃ s,u=vi (fV E n)∧L'=B s∧(fV E n=0→s=S n)):=by
 refine iM (N:=18) (T:=[(0,_),(1,_)]) func101 rfl ntmps101 rfl rfl hO ?_;refine aj 9 ?_;intro a H;refine dD (ι:=Nat × GH) (Tc:=[(1,_),(7,_)]) (Lc:=[]) (fun gh=>[(8,vi gh.1)]) (fun gh=>[]++B (S gh.1)) (fun gh=>gh.2) (fun gh=>gh.1≤n∧bP (((List.range n).map E).drop gh.1)=fV E n∧(∀ b o,G b=some o→gh.2 b=some o)) (fun gh=>n - gh.1) ((0,G)) sB ?_ ?_
 ·exact ⟨eG _,rfl,fun _ _ h=>h⟩
 clear H;rintro ⟨k,g⟩ a w hI H;dsimp only at hI H;obtain ⟨hk,he,hgm⟩:=hI;dsimp only [lca,aQ] at H;refine cK 4 H ?_ ?_ <;> clear H
 ·intro p9
  have hk2:k < n:=by omega
  refine aj 10 ?_;intro a H;refine tL (Li:=[]) (L:=B (S k)) H wn rfl rfl (hf k hk2 _ _ hgm (Hp.owns (Li:=[]) H.hp)) rfl ?_;clear H;rintro v13 oh L13 a w ⟨s3,rfl,rfl,h3⟩ kV H;refine eO 6 H ?_ ?_ <;> clear H
  ·intro mE
   have hE:fV E n=E k:=by rw [qp hk2,au mE] at he;exact he.symm
   refine aj 4 ?_;intro a H;refine lr H results101 rfl ?_;exact H.hp.dO ⟨s3,by rw [hE],rfl,fun h=>absurd (hE.symm.trans h) mE⟩
  intro mE
  have hS:=h3 (fD.1 mE);subst hS;refine aj 4 ?_;intro a H;refine aI ?_;refine bR ((k+1,oh)) sB ?_ ?_
  ·(try dsimp only);exact ⟨by omega,by rw [qp hk2,ah mE] at he;exact he,fun b o h=>kV b o (hgm b o h)⟩
  first|omega|(dsimp only;omega)
 intro p9
 refine aj 4 ?_;intro a H;refine lr H results101 rfl ?_;exact H.hp.dO ⟨S n,aB vi (by rw [eX (by simp;omega)] at he;exact he),by rw [show k=n by omega],fun _=>rfl⟩
abbrev OB (b ms ml mr mb mu:Nat) (L:OL) (s:CS):OL:=fZ b ms ml mr mb mu s.n :: (mb,eP (fI s.aU)) :: L
theorem aqm {m:Nat} (ih:Ja us m) (hm:m≤4294967296) {G:GH} {L:OL} {st:List bH} {li:List dz} {rv:List bD} {b ms ml mr mb mu:Nat} {s:CS} {l:List av} {v:ak} {body note:Bool} {t:Int} {x3 x4 x5:Nat}
  (hck:xL us G st li rv ms ml mr mu) (h3:aC G x3 0=some (aK b 0)) (h4:aC G x4 0=some v) (h5:∀ (j:Nat) (u:ak),[.bool body,.bool note,vi t][j]?=some u→aC G x5 (0+j)=some u)
  (hv:ay G (.sl 11 (l.map av.dat)) v) (hz:aX l≤m) (ht0:0≤t) (Bf:t≤4) (hs0:0≤s.n) (hs1:s.n+(aX l:Nat)≤1099511627776) :
  YZ (.func (.func 102) #[] #[(aK x3 0),(aK x4 0),(aK x5 0)]) G l.length (Du (eB (aL us st li rv) body note t) l s) (OB b ms ml mr mb mu L) (rM (eB (aL us st li rv) body note t) l s):=by
 intro k hk G1 w0 MR hO;refine jM (caps:=[(aK x3 0),(aK x4 0),(aK x5 0)]) ajd ?_;replace h3:=aD MR h3;replace h4:=aD MR h4;replace h5:=fun j u hj=>aD MR (h5 j u hj);replace hck:=hck.mono MR;replace hv:=hv.mono MR;obtain ⟨A,c,rfl,hc1,hc2,hg⟩:=hv.slice;rw [bE] at *;obtain ⟨o,xo,pA,pn,pc,dA,dn,dc,yA,yn,yc,fA,fn,fc,rA,rn,rc,rfl,hrow,hhd,hfl,hrw⟩:=AA hk hg;obtain ⟨hn0,hn1⟩:=afV (aL us st li rv) body note t l s k (by omega)
 have hdz:aX (l.drop k)=1+bM l[k].dat+aX (l.drop (k+1)):=by
  simp only [aX];rw [jy hk,dR,dY]
 have Ik:=I5 (iq hk)
 have hE:Du (eB (aL us st li rv) body note t) l s k=(eB (aL us st li rv) body note t l[k] (rM (eB (aL us st li rv) body note t) l s k)).1:=by unfold Du;rw [dV hk]
 have hS:rM (eB (aL us st li rv) body note t) l s (k+1)=(eB (aL us st li rv) body note t l[k] (rM (eB (aL us st li rv) body note t) l s k)).2:=by rw [rM,dV hk]
 rw [hE,hS]
 generalize rM (eB (aL us st li rv) body note t) l s k=s1 at *
 refine iM (N:=13) (T:=[(0,_),(1,_),(2,_),(3,_)]) func102 rfl ntmps102 rfl rfl hO ?_;refine aj 4 ?_;intro a H;refine dI hmx [[],[],[],[1,2],[1,2,3],[],(ra 0 6),(ra 0 7)] [6,7] (by kernel_rfl) [_,_,_,_,.agg #[vi l[k].kind,vi l[k].code,vi l[k].id,.string l[k].text,.slice pA pn pc,vi l[k].head.marks.ins,vi l[k].head.marks.move,.slice dA dn dc,.slice yA yn yc,.slice fA fn fc,.slice rA rn rc],.agg #[.bool body,.bool note,vi t]] H (aF (X0 rfl fun hG=>Rg RX rfl (aD hG h3)) (X0 rfl fun hG=>Rg zB rfl (aD hG h4)) (Z0 rfl (Rm rfl)) (Z2 1 7 2 8 rfl (Ri rR dU rfl rfl)) (aF ?_ ?_ (bS rfl) (bS rfl) cZ)) ?_
 ·refine dM 3 9 rfl rfl fun _ a w G1 hG HT H fin=>?_;refine aT dU (cs:=[_,_,_,_,_,_,_,_,_,_,_]) H wn rfl rfl (fun j v hj=>H.hp.aC (aD hG (hrow j v hj))) rfl ?_;clear H;intro a H;exact fin H iJ rfl
 ·refine Df rfl fun _ a w G1 hG HT H fin=>?_;refine aT RU (cs:=[.bool body,.bool note,vi t]) H wn rfl rfl (fun j v hj=>H.hp.aC (aD hG (h5 j v hj))) rfl ?_;clear H;intro a H;exact fin H iJ rfl
 clear H;intro a w G nH H hv;have H:=H.aV (hv 0 6 rfl rfl) rfl;have H:=H.aV (hv 4 10 rfl rfl) rfl;have H:=H.aV (hv 5 11 rfl rfl) rfl;clear hv;refine fu aje (Li:=[]) (L:=OB b ms ml mr mb mu L s1) H wn rfl (aqn ih hm _ _ _ st li rv b ms ml mr mb mu s1 l[k] _ _ _ _ _ body note t (hck.mono nH) (Hp.owns (Li:=[]) H.hp) (hhd.mono nH) (hfl.mono nH) (hrw.mono nH) (by omega) ht0 Bf (by omega) (by omega)) rfl ?_;clear H;rintro v12 _ _ a w ⟨s3,rfl,rfl,h12⟩ - H;dsimp only [List.nil_append] at H;refine kH H (Ra rfl ?_);clear H;intro a H;refine aI ⟨rfl,?_⟩;refine dW ?_;refine lr H results102 rfl ?_;exact H.hp.dO ⟨s3,rfl,rfl,h12⟩
theorem aqp {m:Nat} (ih:Ja us m) (hm:m≤4294967296):Ja us (m+1):=by
 intro G L w0 st li rv b ms ml mr mb mu s l v body note t hck hO hv hz ht0 Bf hs0 hs1;obtain ⟨hA1,hA2⟩:=ady (aL us st li rv) body note t l s;refine Calls.ahk (R:=fun u G' L'=>NW b ms ml mr mb mu L (fP (aL us st li rv) body note t l s) u L') ?_ fun _ _ _ h=>h;obtain ⟨A,c,rfl,hc1,hc2,-⟩:=hv.slice;rw [bE] at *;have hll:=BG l;refine iM (N:=11) (T:=[(0,_),(1,_),(2,_)]) func46 rfl ntmps46 rfl rfl hO ?_;refine aj 1 ?_;intro a H;refine dN (cs:=[_]) H wn rfl rfl rfl ?_;clear H;intro b3 a w hb3 H;refine dN (cs:=[_]) H wn rfl rfl rfl ?_;clear H;intro b4 a w hb4 H;refine dN (cs:=[_,_,_]) H wn rfl rfl rfl ?_;clear H;intro b5 a w hb5 H;refine aH 2 H ?_;clear H;intro a H;obtain ⟨Ga5,Qj,za,H⟩:=H.dS;obtain ⟨Ga4,JR,AZ,H⟩:=H.dS;obtain ⟨Ga,Fg,uJ,H⟩:=H.dS;replace za:=Fg _ _ (JR _ _ za);replace AZ:=Fg _ _ AZ;have hma:∀ b o,G b=some o→Ga b=some o:=fun b o h=>Fg _ _ (JR _ _ (Qj _ _ h))
 have g3:aC Ga b3 0=some (aK b 0):=by unfold aC;rw [uJ];rfl
 have g4:aC Ga b4 0=some (.slice A l.length c):=by unfold aC;rw [AZ];rfl
 have g5:∀ (j:Nat) (u:ak),[.bool body,.bool note,vi t][j]?=some u→aC Ga b5 (0+j)=some u:=by
  intro j u hj;unfold aC;rw [za];simpa using hj
 have hcb:=aqm (mb:=mb) (L:=L) (s:=s) ih hm (hck.mono hma) g3 g4 g5 (hv.mono hma) (by omega) ht0 Bf hs0 hs1;refine dG 3 H ?_;clear H;intro a H;refine pK H wn rfl rfl ?_;clear H;intro a H;refine fu Js (Li:=[]) (L:=OB b ms ml mr mb mu L s) H wn rfl (ahd _ _ (OB b ms ml mr mb mu L) (rM (eB (aL us st li rv) body note t) l s) l.length (Du (eB (aL us st li rv) body note t) l s) _ (Hp.owns (Li:=[]) H.hp) (by omega) hcb) rfl ?_;clear H;rintro v10 _ _ a w ⟨s3,rfl,rfl,h10⟩ - H;dsimp only [List.nil_append] at H;refine aH 2 H ?_;clear H;intro a H;refine lr H results46 rfl ?_;exact H.hp.dO ⟨s3,by rw [hA1],rfl,fun h=>by rw [hA1] at h;exact (h10 h).trans (hA2 (hA1.trans h)).symm⟩
theorem QF:∀ m:Nat,m≤4294967297→Ja us m
 | 0,_=>fun _ _ _ _ _ _ _ _ _ _ _ _ _ _ _ _ _ _ _ _ _ h=>absurd h (by omega)
 | m+1,hm=>aqp (QF m (by omega)) (by omega)
end
section
open Go.RowKit
instance amo:dL prog 82 1 1:=⟨by kernel_rfl⟩
instance amq:dL prog 82 2 2:=⟨by kernel_rfl⟩
theorem ajB:∀ args w,(callFunc 132 args).run prog w=.ok (.enter 132 args) w:=enters func132 rfl (by kernel_rfl)
theorem ajA:∀ args w,(callFunc 130 args).run prog w=.ok (.enter 130 args) w:=enters func130 rfl (by kernel_rfl)
theorem ato {G:GH} {bl:Nat} {l:List bD} {A:Option Addr} {n c:Nat} (hb:aC G bl 0=some (.slice A n c)) (hv:ay G (.sl 3 (l.map bD.dat)) (.slice A n c)):vk (.func (.func 132) #[] #[(aK bl 0)]) G l.length fun k=>(l[k]?.map bD.id).getD 0:=by
 intro k hk G1 w0 hm hG;refine jM (caps:=[(aK bl 0)]) ajB ?_;replace hb:=aD hm hb
 obtain rfl:n=l.length:=by have:=hv.len;simpa using this
 obtain ⟨b,o,rfl,hrow⟩:=FH (hv.mono hm) hk;have hq:=hrow 0 _ rfl;refine eN [(0,_),(1,_)] func132 rfl ntmps132 rfl rfl hG ?_;refine aJ 11 ?_;dsimp only;rw [dV hk];rfl
def Km (l:List bD) (i:Nat) (x:bD):Int:=bP [jJ (fun k=>(l[k]?.map bD.id).getD 0) i,bK (!oq x.author) 39,bK (!decide (0≤x.time∧x.time≤1099511627776)) 40]
def wh (l:List bD) (i:Nat):Int:=match l[i]? with|some x=>Km l i x|none=>0
theorem asY {G:GH} {bl:Nat} {l:List bD} {A:Option Addr} {n c:Nat} (hb:aC G bl 0=some (.slice A n c)) (hv:ay G (.sl 3 (l.map bD.dat)) (.slice A n c)) (hl:l.length≤4294967296) (ht:∀ x∈l,x.author.size < 4611686018427387904):vk (.func (.func 130) #[] #[(aK bl 0)]) G l.length (wh l):=by
 intro k hk G1 w0 hm hG;refine jM (caps:=[(aK bl 0)]) ajA ?_;replace hb:=aD hm hb;replace hv:=hv.mono hm;have hcb:=ato hb hv
 obtain rfl:n=l.length:=by have:=hv.len;simpa using this
 obtain ⟨b,o,rfl,hrow⟩:=FH hv hk;have hte:=ht _ (iq hk)
 have he:wh l k=Km l k l[k]:=by unfold wh;rw [dV hk]
 obtain ⟨x,hx⟩:∃ x,x=l[k]:=⟨_,rfl⟩;rw [← hx] at hrow hte he;refine eN [(0,_),(1,_)] func130 rfl ntmps130 rfl rfl hG ?_;refine aj 4 ?_;intro a H;have H:=H.sub (T':=[(0,_),(1,_)]) ⟨rfl,rfl,aY⟩;refine dI hmx [[],[],[0,1],[],[],[3,4],[3,4,5],(ra 3 4),(ra 0 8),(ra 0 9),(ra 0 10),[],[],[11,12],[11,12,13],(ra 11 4),(ra 0 16),(ra 0 17),(ra 0 18),(ra 0 19),(ra 0 20),(ra 0 21)] [19,20,21] (by kernel_rfl) [_,.func (.func 132) #[] #[(aK bl 0)],vi (jJ (fun k=>(l[k]?.map bD.id).getD 0) k),_,_,_,_,_,.bool (oq x.author),_,vi (bK (!oq x.author) 39),_,_,_,_,_,.bool (decide (0≤x.time∧x.time≤1099511627776)),_,vi (bK (!decide (0≤x.time∧x.time≤1099511627776)) 40)] H (aF (Z0 rfl (Rm rfl)) ?_ ?_ (X0 rfl fun hG=>Rg uW rfl (aD hG hb)) (aF (Z0 rfl (Rm rfl)) (Z2 3 7 4 8 rfl (Ri uX mF rfl rfl)) (Z1 5 9 rfl (Rf amo rfl)) (X1 6 10 rfl fun hG=>Rg lY rfl (aD hG (hrow 1 _ rfl))) (aF ?_ (Z1 8 12 rfl (Rn rfl)) ?_ (X0 rfl fun hG=>Rg uW rfl (aD hG hb)) (aF (Z0 rfl (Rm rfl)) (Z2 11 15 12 16 rfl (Ri uX mF rfl rfl)) (Z1 13 17 rfl (Rf amq rfl)) (X1 14 18 rfl fun hG=>Rg bC rfl (aD hG (hrow 2 _ rfl))) (aF ?_ (Z1 16 20 rfl (Rn rfl)) ?_ (bS rfl) (aW (bS rfl) (aW (bS rfl) cZ))))))) ?_
 ·refine Df rfl fun _ a w G1 hG HT H fin=>?_;refine pK H wn rfl rfl ?_;clear H;intro a H;exact fin H iJ rfl
 ·refine dP 0 4 1 5 rfl rfl fun _ a w G1 hG HT H fin=>?_;refine s_call TL H wn rfl (Ws _ _ H.ro k _ _ (by omega) (fun i hi=>(hcb.mono hG) i (by omega))) rfl ?_;clear H;rintro v6 G6 a w rfl iw H;exact fin H iw (rfl)
 ·refine dM 7 11 rfl rfl fun _ a w G1 hG HT H fin=>?_;refine s_call aap H wn rfl (Zg _ _ H.ro x.author hte) rfl ?_;clear H;rintro v12 C9 a w ⟨rfl,-⟩ oD H;exact fin H oD (rfl)
 ·refine dM 9 13 rfl rfl fun _ a w G1 hG HT H fin=>?_;refine s_call jF H wn rfl (jK _ _ H.ro _ 39) rfl ?_;clear H;rintro v14 qo a w ⟨rfl,-⟩ DL H;exact fin H DL (rfl)
 ·refine dM 15 19 rfl rfl fun _ a w G1 hG HT H fin=>?_;refine s_call yU H wn rfl (zl _ _ H.ro x.time 0 1099511627776) rfl ?_;clear H;rintro v20 KJ a w ⟨rfl,-⟩ ana H;exact fin H ana (rfl)
 ·refine dM 17 21 rfl rfl fun _ a w G1 hG HT H fin=>?_;refine s_call jF H wn rfl (jK _ _ H.ro _ 40) rfl ?_;clear H;rintro v22 YE a w ⟨rfl,-⟩ vJ H;exact fin H vJ (rfl)
 clear H;intro a w G nH H hv;have H:=H.aV (hv 2 6 rfl rfl) rfl;have H:=H.aV (hv 10 14 rfl rfl) rfl;have H:=H.aV (hv 18 22 rfl rfl) rfl;clear hv;refine iy rQ iN [_,_,_] [_,_,_] H wn rfl rfl rfl rfl rfl (by intro i q h;match i,h with|0,h=>exact h|1,h=>exact h|2,h=>exact h|n+3,h=>simp at h) rfl rfl ?_;clear H;intro b23 a w awm H;obtain ⟨YG,Fb,anO,H⟩:=H.dS;refine s_call sj H wn rfl (sw _ _ H.ro _ _ (Im [jJ (fun k=>(l[k]?.map bD.id).getD 0) k,bK (!oq x.author) 39,bK (!decide (0≤x.time∧x.time≤1099511627776)) 40] anO (show 3≤maxLen by decide))) rfl ?_;clear H;rintro v24 _ a w ⟨rfl,rfl⟩ - H;refine kH H (Ra rfl ?_);clear H;intro a H;refine aI ⟨rfl,?_⟩;refine dW ?_;refine wS 0 H ?_;rw [he,Km]
def uq (l:List bD):Int:=bP [bK (decide (256 < (l.length:Int))) 9,fV (wh l) (min l.length 256)]
theorem ahY (G:GH) (w0:World) (hG:Hold G w0) (l:List bD) (v:ak) (hv:ay G (.sl 3 (l.map bD.dat)) v) (hl:l.length≤4294967296) (ht:∀ x∈l,x.author.size < 4611686018427387904) :
  Calls prog 74 #[v] w0 (bB w0 G fun u G'=>u=vi (uq l)):=by
 obtain ⟨A,c,rfl,hc1,hc2,-⟩:=hv.slice;rw [bE] at *;refine eN [(0,_)] func74 rfl ntmps74 rfl rfl hG ?_;refine aj 1 ?_;intro a H;refine dN (cs:=[_]) H wn rfl rfl rfl ?_;clear H;intro b1 a w hb1 H;refine aH 3 H ?_;clear H;intro a H;have H:=H.sub (T':=[(1,_)]) ⟨rfl,aY⟩;obtain ⟨Ga,hma,hb1',H⟩:=H.dS
 have hbl:aC Ga b1 0=some (.slice A l.length c):=by unfold aC;rw [hb1'];rfl
 have hcb:=asY hbl (hv.mono hma) hl ht;refine dI hmx [[],[0],[0,1],[0,1,2],[],[4],[4,5],[],(ra 0 8),(ra 0 9),(ra 0 10),(ra 0 11)] [9,10,11] (by kernel_rfl) [_,_,_,vi (bK (decide (256 < (l.length:Int))) 9),_,_,vi ((min l.length 256:Nat):Int),.func (.func 130) #[] #[(aK b1 0)],vi (fV (wh l) (min l.length 256))] H (aF (X0 rfl fun hG=>Rg uW rfl (aD hG hbl)) (Z1 0 3 rfl (Rl uX rfl)) (Z1 1 4 rfl (Rc rfl)) ?_ (aF (X0 rfl fun hG=>Rg uW rfl (aD hG hbl)) (Z1 4 7 rfl (Rl uX rfl)) ?_ ?_ (aF ?_ (bS rfl) (bS rfl) (bS rfl) cZ))) ?_
 ·refine dM 2 5 rfl rfl fun _ a w G1 hG HT H fin=>?_;refine s_call jF H wn rfl (jK _ _ H.ro _ 9) rfl ?_;clear H;rintro v6 G6 a w ⟨rfl,-⟩ iw H;exact fin H iw (rfl)
 ·refine dM 5 8 rfl rfl fun _ a w G1 hG HT H fin=>?_;refine RF H wn rfl rfl rfl ?_;clear H;intro a H;exact fin H iJ (aB vi (by omega))
 ·refine Df rfl fun _ a w G1 hG HT H fin=>?_;refine pK H wn rfl rfl ?_;clear H;intro a H;exact fin H iJ rfl
 ·refine dP 6 9 7 10 rfl rfl fun _ a w G1 hG HT H fin=>?_;refine s_call Js H wn rfl (LA _ _ H.ro (min l.length 256) (wh l) _ (by omega) ((hcb.mono hG).le (Nat.min_le_left _ _))) rfl ?_;clear H;rintro v11 qM a w rfl lH H;exact fin H lH (rfl)
 clear H;intro a w G nH H hv;have H:=H.aV (hv 3 6 rfl rfl) rfl;have H:=H.aV (hv 8 11 rfl rfl) rfl;clear hv;refine iy rQ iN [_,_] [_,_] H wn rfl rfl rfl rfl rfl (by intro i q h;match i,h with|0,h=>exact h|1,h=>exact h|n+2,h=>simp at h) rfl rfl ?_;clear H;intro b12 a w DU H;obtain ⟨C9,A9,Hw,H⟩:=H.dS;refine s_call sj H wn rfl (sw _ _ H.ro _ _ (Ae Hw)) rfl ?_;clear H;rintro v13 _ a w ⟨rfl,rfl⟩ - H;refine kH H (Ra rfl ?_);clear H;intro a H;refine aI ⟨rfl,?_⟩;refine dW ?_;refine wS 0 H ?_;exact rfl
theorem lF:∀ {l:List Int},bP l=0→∀ x∈l,x=0
 | [],_,_,h=>by cases h
 | e :: r,h,x,hx=>by
  unfold bP at h
  by_cases he:e=0
  ·rw [ah (fun h'=>h' he)] at h
   rcases kZ.1 hx with rfl|hx
   ·exact he
   exact lF h x hx
  rw [au he] at h;exact absurd h he
theorem EI {E:Nat→Int} {n:Nat} (h:fV E n=0) (i:Nat) (hi:i < n):E i=0:=lF h _ (by simp;exact ⟨i,hi,rfl⟩)
theorem Nb {id:Nat→Int} {i:Nat} (h:jJ id i=0):1≤id i∧id i≤1073741824∧(0 < i→id (i - 1) < id i):=by
 unfold jJ at h
 by_cases h1:1≤id i∧id i≤1073741824
 ·rw [ah (fun h'=>h' h1)] at h
  by_cases h2:0 < i∧id i=id (i - 1)
  ·rw [au h2] at h;cases h
  rw [ah h2] at h
  by_cases h3:0 < i∧id i < id (i - 1)
  ·rw [au h3] at h;cases h
  exact ⟨h1.1,h1.2,fun h0=>by omega⟩
 rw [au h1] at h;cases h
theorem adt {l:List Int} (h:∀ i (h:i+1 < l.length),l[i] < l[i+1]):zK l:=by
 have hlt:∀ (j i:Nat) (hj:j < l.length) (hi:i < j),l[i] < l[j]:=by
  intro j
  induction j with
  | zero=>intro i _ hi;omega
  | succ j ih =>
   intro i hj hi;have h1:=h j hj
   by_cases e:i=j
   ·subst e;exact h1
   have:=ih i (by omega) (by omega);omega
 intro k hk hm;obtain ⟨i,hi,he⟩:=List.getElem_of_mem hm;rw [List.length_take] at hi;have:=hlt k i hk (by omega);rw [List.getElem_take] at he
 omega
theorem asZ {l:List bD} (h:uq l=0):zK (l.map bD.id):=by
 have h1:=lF h _ (gP);have h2:=lF h _ (jT _ gP)
 have hl:l.length≤256:=by
  unfold bK at h1
  by_cases hd:256 < (l.length:Int)
  ·rw [au (aG hd)] at h1;cases h1
  omega
 refine adt fun i hi=>?_;rw [bE] at hi;have h3:=EI h2 (i+1) (by omega)
 unfold wh at h3
 rw [dV hi] at h3;have h4:=(Nb (lF h3 _ gP)).2.2 (by omega);rw [Nat.add_sub_cancel,dV hi,dV (show i < l.length by omega)] at h4
 simpa using h4
theorem aqH {l:List dz} (h:wM l=0):zK (l.map dz.id):=by
 have h1:=lF h _ (gP);have h2:=lF h _ (jT _ gP)
 have hl:l.length≤64:=by
  unfold bK at h1
  by_cases hd:64 < (l.length:Int)
  ·rw [au (aG hd)] at h1;cases h1
  omega
 refine adt fun i hi=>?_;rw [bE] at hi;have h3:=EI h2 (i+1) (by omega)
 unfold yE at h3
 have h4:=(Nb (lF h3 _ gP)).2.2 (by omega);rw [Nat.add_sub_cancel,dV hi,dV (show i < l.length by omega)] at h4
 simpa using h4
theorem afw {l:List bH} (h:fU l=0):zK (l.map bH.id):=by
 unfold fU at h
 by_cases h1:128 < l.length
 ·rw [au h1] at h;cases h
 rw [ah h1] at h
 by_cases h2:uE (Bo l) 0 l.length≠0
 ·rw [au h2] at h;exact absurd h h2
 intro k hk;rw [bE] at hk;have:=aeD (fD.1 h2) k hk;rw [← List.map_take,List.getElem_map];exact this
end
section
open Go.RowKit
theorem akX:∀ args w,(callFunc 45 args).run prog w=.ok (.enter 45 args) w:=enters func45 rfl (by kernel_rfl)
instance Ag:Ty prog 36 4 96 [.slice none 0 0,.slice none 0 0,.slice none 0 0,.slice none 0 0] true:=⟨by kernel_rfl,by kernel_rfl⟩
theorem alj:∀ args w,(callFunc 73 args).run prog w=.ok (.enter 73 args) w:=enters func73 rfl (by kernel_rfl)
theorem alk:∀ args w,(callFunc 74 args).run prog w=.ok (.enter 74 args) w:=enters func74 rfl (by kernel_rfl)
instance Uq:dL prog 38 1 1:=⟨by kernel_rfl⟩
theorem Cg (e:Int):bP [e]=e:=by
 by_cases h:e=0 <;> simp [bP,h]
structure iW where
 flow:List av
 fin:cu
 revs:List bD
 iD:qN
structure mJ (G:GH) (D:gM) (d:iW):Prop where
 fl:ay G (.sl 11 (d.flow.map av.dat)) (aM D.f)
 hd:gW G d.fin (aM D.p) (aM D.d) (aM D.y)
 ins:D.ins=d.fin.marks.ins
 mv:D.move=d.fin.marks.move
 rv:ay G (.sl 3 (d.revs.map bD.dat)) (aM D.r)
 st:tV G d.iD (aM D.s1) (aM D.s2) (aM D.s3) (aM D.s4)
theorem tV.mono {G G':GH} (hm:∀ b o,G b=some o→G' b=some o) {s:qN} {a b c d:ak} (h:tV G s a b c d):tV G' s a b c d:=⟨h.st.mono hm,h.li.mono hm,h.cm.mono hm,h.va.mono hm⟩
theorem mJ.mono {G G':GH} (hm:∀ b o,G b=some o→G' b=some o) {D:gM} {d:iW} (h:mJ G D d):mJ G' D d:=⟨h.fl.mono hm,h.hd.mono hm,h.ins,h.mv,h.rv.mono hm,h.st.mono hm⟩
structure zJ (d:iW):Prop where
 fl:aX d.flow≤1073741824
 hd:oN d.fin≤4294967296
 rn:d.revs.length≤4294967296
 rt:∀ x∈d.revs,x.author.size < 4611686018427387904
 sn:d.iD.styles.length≤4294967296
 st:Ll d.iD
abbrev iW.jN (d:iW):bL:=aL [] d.iD.styles d.iD.lists d.revs
def qI (m:yO):Bool:=decide ((m.ins≠0∨m.move≠0)∨0 < (m.bg.length:Int))
def gJ (d:iW):Int:=bP [bP [jU d.iD,uq d.revs],bP [eH d.jN 3 d.fin,bK (qI d.fin.marks) 21],(fP d.jN true false 0 d.flow ⟨0,[]⟩).1,bK (decide (16384 < (fP d.jN true false 0 d.flow ⟨0,[]⟩).2.n)) 9]
theorem ZK (G:GH) (w0:World) (hG:Hold G w0) (D:gM) (d:iW) (hR:mJ G D d) (hz:zJ d) :
  Calls prog 27 #[D.val] w0 (bB w0 G fun u G'=>u=vi (gJ d)):=by
 obtain ⟨df,dp,dd,dy,dr,d1,d2,d3,d4,ins,mv⟩:=D;obtain ⟨hfl,hhd,hin,hmv,jO,hst⟩:=hR;dsimp only at hfl hhd hin hmv jO hst;subst hin;subst hmv;obtain ⟨zf,zh,zr,zt,zs,zg⟩:=hz;have hdl:=hhd.bg.len;rw [bE] at hdl
 have hdn:d.fin.marks.bg.length≤4294967296:=by
  have h1:=BF d.fin;have h2:=lK (d.fin.marks.bg.map iK.dat);rw [bE] at h2;omega
 refine eN [(0,_)] func27 rfl ntmps27 rfl rfl hG ?_;refine aj 1 ?_;intro a H;refine dN (cs:=[_,_,_,_,_,_,_,_,_,_,_]) H wn rfl rfl rfl ?_;clear H;intro b1 a w hb1 H;refine aH 4 H ?_;clear H;intro a H;refine dI hmx [[],[0],[0,1],[],[3],(ra 0 5),(ra 0 6),(ra 0 7),(ra 0 8)] [6,7,8] (by kernel_rfl) [_,.agg #[aM d1,aM d2,aM d3,aM d4],vi (jU d.iD),_,aM dr,vi (uq d.revs)] H (aF (Z0 rfl (Rf amm rfl)) ?_ ?_ (Z0 rfl (Rf O6 rfl)) (aF (Z1 3 11 rfl (Ro uW 0 rfl)) ?_ (bS rfl) (bS rfl) (aW (bS rfl) cZ))) ?_
 ·refine dM 0 8 rfl rfl fun _ a w G1 hG HT H fin=>?_;refine aT Ag (cs:=[_,_,_,_]) H wn rfl rfl (H.hp.cO 0 rfl rfl) rfl ?_;clear H;intro a H;exact fin H iJ rfl
 ·refine dM 1 9 rfl rfl fun _ a w G1 hG HT H fin=>?_;refine s_call alj H wn rfl (ahZ _ _ H.ro d.iD _ _ _ _ (hst.mono hG) zg) rfl ?_;clear H;rintro v10 Ak a w rfl nV H;exact fin H nV (rfl)
 ·refine dM 4 12 rfl rfl fun _ a w G1 hG HT H fin=>?_;refine s_call alk H wn rfl (ahY _ _ H.ro d.revs _ (jO.mono hG) zr zt) rfl ?_;clear H;rintro v13 oh a w rfl amW H;exact fin H amW (rfl)
 clear H;intro a w G nH H hv;have H:=H.aV (hv 2 10 rfl rfl) rfl;have H:=H.aV (hv 5 13 rfl rfl) rfl;clear hv;refine iy rQ iN [_,_] [_,_] H wn rfl rfl rfl rfl rfl (by intro i q h;match i,h with|0,h=>exact h|1,h=>exact h|n+2,h=>simp at h) rfl rfl ?_;clear H;intro b14 a w U9 H;obtain ⟨qo,Cr,anL,H⟩:=H.dS;have hg1:=fun b o h=>Cr b o (nH b o h);replace hfl:=hfl.mono hg1;replace hhd:=hhd.mono hg1;replace jO:=jO.mono hg1;replace hst:=hst.mono hg1;refine s_call sj H wn rfl (sw _ _ H.ro _ _ (Ae anL)) rfl ?_;clear H;rintro v15 _ a w ⟨rfl,rfl⟩ - H;refine kH H (Ra rfl ?_);clear H;intro a H;refine aI ⟨rfl,?_⟩;refine dW ?_;refine cK 4 H ?_ ?_ <;> clear H
 ·intro kF
  have hE:gJ d=bP [jU d.iD,uq d.revs]:=by rw [gJ,bP,au kF]
  refine aJ 4 ?_;rw [hE]
 intro kF
 have e1:=fD.1 kF;have s1:=lF e1 _ gP;have s2:=lF e1 _ (jT _ gP);have t1:=lF s1 _ gP;have t2:=lF s1 _ (jT _ gP);refine aj 2 ?_;intro a H;refine aT iY (cs:=[_,_,_,_,_,_,_,_,_,_,_]) H wn rfl rfl (H.hp.cO 0 rfl rfl) rfl ?_;clear H;intro a H;refine fu akX (Li:=[_]) (L:=[]) H wn rfl (arE _ _ (Hp.owns (Li:=[_]) H.hp) ⟨df,dp,dd,dy,dr,d1,d2,d3,d4,d.fin.marks.ins,d.fin.marks.move⟩ d.iD.styles d.iD.lists d.revs hst.st hst.li jO (afw t1) (aqH t2) (asZ s2) zs zg.ln zr) rfl ?_;clear H;rintro v20 KJ _ a w ⟨b,ms,ml,mr,mb,mu,rfl,rfl,hck⟩ JO H;dsimp only [lca,aQ] at H;have H:=H.bY (Pl:=[_,_,_,_]) (bT:=[_,_,_,_]) [3,0,1,2] (by decide) rfl;obtain ⟨Gu,hmu,hu,H⟩:=H.dS;replace hck:=hck.with (us:=[]) hmu hu;replace hfl:=(hfl.mono JO).mono hmu;replace hhd:=(hhd.mono JO).mono hmu;refine aH 5 H ?_;clear H;intro a H;refine aT xE (cs:=[_,_,_,_]) H wn rfl rfl (H.hp.cO 0 rfl rfl) rfl ?_;clear H;intro a H;refine dx xE H wn rfl ?_;clear H;intro b5 a w hb5 H;refine bq xE 0 (vs:=[_,_,_,_]) _ H wn rfl rfl rfl rfl rfl rfl rfl rfl ?_;clear H;intro w H;dsimp only [List.set,setRow] at H;refine aH 3 H ?_;clear H
 intro a H;by_cases c0:d.fin.marks.ins≠0
 ·have c1:d.fin.marks.ins≠0∨d.fin.marks.move≠0:=Or.inl c0;refine dI hmx [[],[],[1],[0,1,2],[],[4],[4,5],(ra 0 7),(ra 0 8),(ra 0 9),(ra 0 10),(ra 0 11),(ra 0 12),(ra 0 13),(ra 0 14),(ra 0 15),(ra 0 16),(ra 0 17),(ra 0 18),(ra 0 19),(ra 0 20),(ra 0 21)] [19,20,21] (by kernel_rfl) [_,_,uK d.fin (aM dp) (aM dd) (aM dy),vi (eH d.jN 3 d.fin),_,vi d.fin.marks.ins,_,_,undef,undef,undef,.bool (decide (d.fin.marks.ins≠0∨d.fin.marks.move≠0)),_,undef,undef,undef,undef,.bool (qI d.fin.marks),vi (bK (qI d.fin.marks) 21)] H (aF (Z0 rfl (Rm rfl)) (Z0 rfl (Rf Uq rfl)) ?_ ?_ (aF (Z0 rfl (Rf EU rfl)) (Z1 4 28 rfl (Ro bC 0 rfl)) (Z1 5 29 rfl (Rc rfl)) (Z1 6 30 rfl (Rm rfl)) (aF (aO 7 (aG c0) rfl rfl) (aO 7 (aG c0) rfl rfl) (aO 7 (aG c0) rfl rfl) ?_ (aF (Z1 11 35 rfl (Rm rfl)) (aO 12 (aG c1) rfl rfl) (aO 12 (aG c1) rfl rfl) (aO 12 (aG c1) rfl rfl) (aF (aO 12 (aG c1) rfl rfl) ?_ ?_ (bS rfl) (aW (bS rfl) (aW (bS rfl) cZ))))))) ?_
  ·refine dM 1 25 rfl rfl fun _ a w G1 hG HT H fin=>?_;refine aT gG (cs:=[_,_,_,_,_]) H wn rfl rfl (H.hp.cO 1 rfl rfl) rfl ?_;clear H;intro a H;exact fin H iJ rfl
  ·refine dP 0 24 2 26 rfl rfl fun _ a w G1 hG HT H fin=>?_;refine fu Ju (Li:=[_,_]) (L:=fZ b ms ml mr mb mu 0 :: (mb,eP []) :: []) H wn rfl (JK _ _ _ d.iD.styles d.iD.lists d.revs b ms ml mr mb mu _ (hck.mono hG) (Hp.owns (Li:=[_,_]) H.hp) 3 d.fin _ _ _ (hhd.mono hG) zh) rfl ?_;clear H;rintro v27 _ _ a w ⟨rfl,rfl,rfl⟩ Mt H;dsimp only [lca,aQ] at H;exact fin H Mt (rfl)
  ·refine dP 7 31 10 34 rfl rfl fun _ a w G1 hG HT H fin=>?_;refine aH 1 H ?_;clear H;intro a H;exact fin H iJ (by show _=_;first|exact dJ (aG c1).symm|exact dJ (by simp [c0]))
  ·refine dP 12 36 16 40 rfl rfl fun _ a w G1 hG HT H fin=>?_;refine aH 1 H ?_;clear H;intro a H;exact fin H iJ (by show _=_;first|exact dJ (eZ (Or.inl c1)).symm|exact dJ (by simp [qI,c1]))
  ·refine dM 17 41 rfl rfl fun _ a w G1 hG HT H fin=>?_;refine s_call jF H wn rfl (jK _ _ H.ro _ 21) rfl ?_;clear H;rintro v42 YQ a w ⟨rfl,-⟩ Mw H;exact fin H Mw (rfl)
  clear H;intro a w G iw H hv;have H:=H.aV (hv 3 27 rfl rfl) rfl;have H:=H.aV (hv 18 42 rfl rfl) rfl;clear hv;refine iy rQ iN [_,_] [_,_] H wn rfl rfl rfl rfl rfl (by intro i q h;match i,h with|0,h=>exact h|1,h=>exact h|n+2,h=>simp at h) rfl rfl ?_;clear H;intro Oq a w abF H;obtain ⟨Am,nK,MI,H⟩:=H.dS;have Fa:=fun b o h=>nK b o (iw b o h);replace hfl:=hfl.mono Fa;replace hck:=hck.mono Fa;refine s_call sj H wn rfl (sw _ _ H.ro _ _ (Ae MI)) rfl ?_;clear H;rintro v44 _ a w ⟨rfl,rfl⟩ - H;refine kH H (Ra rfl ?_);clear H;intro a H;refine aI ⟨rfl,?_⟩;refine dW ?_;refine cK 4 H ?_ ?_ <;> clear H
  ·intro p46
   have hE:gJ d=bP [eH d.jN 3 d.fin,bK (qI d.fin.marks) 21]:=by rw [gJ,bP,ah (by simpa using e1),bP,au p46]
   refine aJ 4 ?_;rw [hE]
  intro p46
  have e2:=fD.1 p46;refine aj 6 ?_;intro a H;refine jZ FL [_,_,_] H wn rfl rfl rfl rfl ?_;clear H;intro a H;refine fu LX (Li:=[_,_]) (L:=fZ b ms ml mr mb mu 0 :: (mb,eP []) :: []) H wn rfl (QF 4294967297 (by omega) _ _ _ d.iD.styles d.iD.lists d.revs b ms ml mr mb mu ⟨0,[]⟩ d.flow _ true false 0 hck (Hp.owns (Li:=[_,_]) H.hp) hfl (by omega) (by omega) (by omega) (by decide) (by dsimp only;omega)) rfl ?_;clear H;rintro v52 _ _ a w ⟨rfl,s3,rfl,rfl,h3⟩ - H;dsimp only [lca,aQ] at H;refine eO 6 H ?_ ?_ <;> clear H
  ·intro p54
   have hE:gJ d=(fP d.jN true false 0 d.flow ⟨0,[]⟩).1:=by rw [gJ,bP,ah (by simpa using e1),bP,ah (by simpa using e2),bP,au p54]
   refine aJ 4 ?_;rw [hE]
  intro p54
  have e3:=fD.1 p54;have hs3:=h3 e3;subst hs3;refine aj 7 ?_;intro a H;refine s_call jF H wn rfl (jK _ _ H.ro _ 9) rfl ?_;clear H;rintro v61 _ a w ⟨rfl,rfl⟩ - H
  have hE:gJ d=bK (decide (16384 < (fP d.jN true false 0 d.flow ⟨0,[]⟩).2.n)) 9:=by rw [gJ,bP,ah (by simpa using e1),bP,ah (by simpa using e2),bP,ah (by simpa using e3)];exact Cg _
  refine gK 2 H ?_;rw [hE]
 by_cases c1:d.fin.marks.ins≠0∨d.fin.marks.move≠0
 ·refine dI hmx [[],[],[1],[0,1,2],[],[4],[4,5],(ra 0 7),(ra 0 8),(ra 0 9),(ra 0 10),(ra 0 11),(ra 0 12),(ra 0 13),(ra 0 14),(ra 0 15),(ra 0 16),(ra 0 17),(ra 0 18),(ra 0 19),(ra 0 20),(ra 0 21)] [19,20,21] (by kernel_rfl) [_,_,uK d.fin (aM dp) (aM dd) (aM dy),vi (eH d.jN 3 d.fin),_,vi d.fin.marks.ins,_,_,_,vi d.fin.marks.move,_,.bool (decide (d.fin.marks.ins≠0∨d.fin.marks.move≠0)),_,undef,undef,undef,undef,.bool (qI d.fin.marks),vi (bK (qI d.fin.marks) 21)] H (aF (Z0 rfl (Rm rfl)) (Z0 rfl (Rf Uq rfl)) ?_ ?_ (aF (Z0 rfl (Rf EU rfl)) (Z1 4 28 rfl (Ro bC 0 rfl)) (Z1 5 29 rfl (Rc rfl)) (Z1 6 30 rfl (Rm rfl)) (aF (Z1 7 31 rfl (YF aaY (aN c0) rfl)) (Z2 8 32 7 31 rfl (YO bC 0 (aN c0) rfl)) (Z2 9 33 7 31 rfl (YC (aN c0) rfl)) ?_ (aF (Z1 11 35 rfl (Rm rfl)) (aO 12 (aG c1) rfl rfl) (aO 12 (aG c1) rfl rfl) (aO 12 (aG c1) rfl rfl) (aF (aO 12 (aG c1) rfl rfl) ?_ ?_ (bS rfl) (aW (bS rfl) (aW (bS rfl) cZ))))))) ?_
  ·refine dM 1 25 rfl rfl fun _ a w G1 hG HT H fin=>?_;refine aT gG (cs:=[_,_,_,_,_]) H wn rfl rfl (H.hp.cO 1 rfl rfl) rfl ?_;clear H;intro a H;exact fin H iJ rfl
  ·refine dP 0 24 2 26 rfl rfl fun _ a w G1 hG HT H fin=>?_;refine fu Ju (Li:=[_,_]) (L:=fZ b ms ml mr mb mu 0 :: (mb,eP []) :: []) H wn rfl (JK _ _ _ d.iD.styles d.iD.lists d.revs b ms ml mr mb mu _ (hck.mono hG) (Hp.owns (Li:=[_,_]) H.hp) 3 d.fin _ _ _ (hhd.mono hG) zh) rfl ?_;clear H;rintro v27 _ _ a w ⟨rfl,rfl,rfl⟩ Mt H;dsimp only [lca,aQ] at H;exact fin H Mt (rfl)
  ·refine dP 7 31 10 34 rfl rfl fun _ a w G1 hG HT H fin=>?_;refine aH 1 H ?_;clear H;intro a H;exact fin H iJ (by show _=_;first|exact dJ (aG c1).symm|exact dJ (by simp [c0]))
  ·refine dP 12 36 16 40 rfl rfl fun _ a w G1 hG HT H fin=>?_;refine aH 1 H ?_;clear H;intro a H;exact fin H iJ (by show _=_;first|exact dJ (eZ (Or.inl c1)).symm|exact dJ (by simp [qI,c1]))
  ·refine dM 17 41 rfl rfl fun _ a w G1 hG HT H fin=>?_;refine s_call jF H wn rfl (jK _ _ H.ro _ 21) rfl ?_;clear H;rintro v42 YQ a w ⟨rfl,-⟩ Mw H;exact fin H Mw (rfl)
  clear H;intro a w G iw H hv;have H:=H.aV (hv 3 27 rfl rfl) rfl;have H:=H.aV (hv 18 42 rfl rfl) rfl;clear hv;refine iy rQ iN [_,_] [_,_] H wn rfl rfl rfl rfl rfl (by intro i q h;match i,h with|0,h=>exact h|1,h=>exact h|n+2,h=>simp at h) rfl rfl ?_;clear H;intro Oq a w abF H;obtain ⟨Am,nK,MI,H⟩:=H.dS;have Fa:=fun b o h=>nK b o (iw b o h);replace hfl:=hfl.mono Fa;replace hck:=hck.mono Fa;refine s_call sj H wn rfl (sw _ _ H.ro _ _ (Ae MI)) rfl ?_;clear H;rintro v44 _ a w ⟨rfl,rfl⟩ - H;refine kH H (Ra rfl ?_);clear H;intro a H;refine aI ⟨rfl,?_⟩;refine dW ?_;refine cK 4 H ?_ ?_ <;> clear H
  ·intro p46
   have hE:gJ d=bP [eH d.jN 3 d.fin,bK (qI d.fin.marks) 21]:=by rw [gJ,bP,ah (by simpa using e1),bP,au p46]
   refine aJ 4 ?_;rw [hE]
  intro p46
  have e2:=fD.1 p46;refine aj 6 ?_;intro a H;refine jZ FL [_,_,_] H wn rfl rfl rfl rfl ?_;clear H;intro a H;refine fu LX (Li:=[_,_]) (L:=fZ b ms ml mr mb mu 0 :: (mb,eP []) :: []) H wn rfl (QF 4294967297 (by omega) _ _ _ d.iD.styles d.iD.lists d.revs b ms ml mr mb mu ⟨0,[]⟩ d.flow _ true false 0 hck (Hp.owns (Li:=[_,_]) H.hp) hfl (by omega) (by omega) (by omega) (by decide) (by dsimp only;omega)) rfl ?_;clear H;rintro v52 _ _ a w ⟨rfl,s3,rfl,rfl,h3⟩ - H;dsimp only [lca,aQ] at H;refine eO 6 H ?_ ?_ <;> clear H
  ·intro p54
   have hE:gJ d=(fP d.jN true false 0 d.flow ⟨0,[]⟩).1:=by rw [gJ,bP,ah (by simpa using e1),bP,ah (by simpa using e2),bP,au p54]
   refine aJ 4 ?_;rw [hE]
  intro p54
  have e3:=fD.1 p54;have hs3:=h3 e3;subst hs3;refine aj 7 ?_;intro a H;refine s_call jF H wn rfl (jK _ _ H.ro _ 9) rfl ?_;clear H;rintro v61 _ a w ⟨rfl,rfl⟩ - H
  have hE:gJ d=bK (decide (16384 < (fP d.jN true false 0 d.flow ⟨0,[]⟩).2.n)) 9:=by rw [gJ,bP,ah (by simpa using e1),bP,ah (by simpa using e2),bP,ah (by simpa using e3)];exact Cg _
  refine gK 2 H ?_;rw [hE]
 refine dI hmx [[],[],[1],[0,1,2],[],[4],[4,5],(ra 0 7),(ra 0 8),(ra 0 9),(ra 0 10),(ra 0 11),(ra 0 12),(ra 0 13),(ra 0 14),(ra 0 15),(ra 0 16),(ra 0 17),(ra 0 18),(ra 0 19),(ra 0 20),(ra 0 21)] [19,20,21] (by kernel_rfl) [_,_,uK d.fin (aM dp) (aM dd) (aM dy),vi (eH d.jN 3 d.fin),_,vi d.fin.marks.ins,_,_,_,vi d.fin.marks.move,_,.bool (decide (d.fin.marks.ins≠0∨d.fin.marks.move≠0)),_,_,aM dd,vi d.fin.marks.bg.length,_,.bool (qI d.fin.marks),vi (bK (qI d.fin.marks) 21)] H (aF (Z0 rfl (Rm rfl)) (Z0 rfl (Rf Uq rfl)) ?_ ?_ (aF (Z0 rfl (Rf EU rfl)) (Z1 4 28 rfl (Ro bC 0 rfl)) (Z1 5 29 rfl (Rc rfl)) (Z1 6 30 rfl (Rm rfl)) (aF (Z1 7 31 rfl (YF aaY (aN c0) rfl)) (Z2 8 32 7 31 rfl (YO bC 0 (aN c0) rfl)) (Z2 9 33 7 31 rfl (YC (aN c0) rfl)) ?_ (aF (Z1 11 35 rfl (Rm rfl)) (Z1 12 36 rfl (YF zS (aN c1) rfl)) (Z2 13 37 12 36 rfl (YO Af 0 (aN c1) rfl)) ?_ (aF (Z2 15 39 12 36 rfl (YC (aN c1) rfl)) ?_ ?_ (bS rfl) (aW (bS rfl) (aW (bS rfl) cZ))))))) ?_
 ·refine dM 1 25 rfl rfl fun _ a w G1 hG HT H fin=>?_;refine aT gG (cs:=[_,_,_,_,_]) H wn rfl rfl (H.hp.cO 1 rfl rfl) rfl ?_;clear H;intro a H;exact fin H iJ rfl
 ·refine dP 0 24 2 26 rfl rfl fun _ a w G1 hG HT H fin=>?_;refine fu Ju (Li:=[_,_]) (L:=fZ b ms ml mr mb mu 0 :: (mb,eP []) :: []) H wn rfl (JK _ _ _ d.iD.styles d.iD.lists d.revs b ms ml mr mb mu _ (hck.mono hG) (Hp.owns (Li:=[_,_]) H.hp) 3 d.fin _ _ _ (hhd.mono hG) zh) rfl ?_;clear H;rintro v27 _ _ a w ⟨rfl,rfl,rfl⟩ Mt H;dsimp only [lca,aQ] at H;exact fin H Mt (rfl)
 ·refine dP 7 31 10 34 rfl rfl fun _ a w G1 hG HT H fin=>?_;refine aH 1 H ?_;clear H;intro a H;exact fin H iJ (by show _=_;first|exact dJ (aG c1).symm|exact dJ (by simp [c0]))
 ·refine dP 14 38 12 36 rfl rfl fun _ a w G1 hG HT H fin=>?_;refine aH 1 H ?_;clear H;intro a H;exact fin H iJ (by show _=_;first|rfl|exact aB (fun n:Nat=>vi n) hdl)
 ·refine dP 12 36 16 40 rfl rfl fun _ a w G1 hG HT H fin=>?_;refine aH 1 H ?_;clear H;intro a H;exact fin H iJ (by show _=_;first|exact dJ (eZ (Or.inl c1)).symm|exact dJ (by simp [qI,c1]))
 ·refine dM 17 41 rfl rfl fun _ a w G1 hG HT H fin=>?_;refine s_call jF H wn rfl (jK _ _ H.ro _ 21) rfl ?_;clear H;rintro v42 YQ a w ⟨rfl,-⟩ Mw H;exact fin H Mw (rfl)
 clear H;intro a w G iw H hv;have H:=H.aV (hv 3 27 rfl rfl) rfl;have H:=H.aV (hv 18 42 rfl rfl) rfl;clear hv;refine iy rQ iN [_,_] [_,_] H wn rfl rfl rfl rfl rfl (by intro i q h;match i,h with|0,h=>exact h|1,h=>exact h|n+2,h=>simp at h) rfl rfl ?_;clear H;intro Oq a w abF H;obtain ⟨Am,nK,MI,H⟩:=H.dS;have Fa:=fun b o h=>nK b o (iw b o h);replace hfl:=hfl.mono Fa;replace hck:=hck.mono Fa;refine s_call sj H wn rfl (sw _ _ H.ro _ _ (Ae MI)) rfl ?_;clear H;rintro v44 _ a w ⟨rfl,rfl⟩ - H;refine kH H (Ra rfl ?_);clear H;intro a H;refine aI ⟨rfl,?_⟩;refine dW ?_;refine cK 4 H ?_ ?_ <;> clear H
 ·intro p46
  have hE:gJ d=bP [eH d.jN 3 d.fin,bK (qI d.fin.marks) 21]:=by rw [gJ,bP,ah (by simpa using e1),bP,au p46]
  refine aJ 4 ?_;rw [hE]
 intro p46
 have e2:=fD.1 p46;refine aj 6 ?_;intro a H;refine jZ FL [_,_,_] H wn rfl rfl rfl rfl ?_;clear H;intro a H;refine fu LX (Li:=[_,_]) (L:=fZ b ms ml mr mb mu 0 :: (mb,eP []) :: []) H wn rfl (QF 4294967297 (by omega) _ _ _ d.iD.styles d.iD.lists d.revs b ms ml mr mb mu ⟨0,[]⟩ d.flow _ true false 0 hck (Hp.owns (Li:=[_,_]) H.hp) hfl (by omega) (by omega) (by omega) (by decide) (by dsimp only;omega)) rfl ?_;clear H;rintro v52 _ _ a w ⟨rfl,s3,rfl,rfl,h3⟩ - H;dsimp only [lca,aQ] at H;refine eO 6 H ?_ ?_ <;> clear H
 ·intro p54
  have hE:gJ d=(fP d.jN true false 0 d.flow ⟨0,[]⟩).1:=by rw [gJ,bP,ah (by simpa using e1),bP,ah (by simpa using e2),bP,au p54]
  refine aJ 4 ?_;rw [hE]
 intro p54
 have e3:=fD.1 p54;have hs3:=h3 e3;subst hs3;refine aj 7 ?_;intro a H;refine s_call jF H wn rfl (jK _ _ H.ro _ 9) rfl ?_;clear H;rintro v61 _ a w ⟨rfl,rfl⟩ - H
 have hE:gJ d=bK (decide (16384 < (fP d.jN true false 0 d.flow ⟨0,[]⟩).2.n)) 9:=by rw [gJ,bP,ah (by simpa using e1),bP,ah (by simpa using e2),bP,ah (by simpa using e3)];exact Cg _
 refine gK 2 H ?_;rw [hE]
end
section
open Go.RowKit
def Rb (body note:Bool) (t k i:Int):Prop:=(k=3→body=true)∧(k=6→note=false)∧(k=7→t < 4)∧(k=8→1≤i∧i≤1073741824)
mutual
def pI (C:bL) (body note:Bool) (t:Int):av→Prop
 | .mk k c i tx h f r=>gN (.mk k c i tx h f r)=0∧Rb body note t k i∧eH C k h=0∧(k=6→kD C false true t f)∧(k=7→(r.length≠0∧r.length≤256)∧qJ C note (t+1) r)
def vX (C:bL) (note:Bool) (t:Int):aS→Prop
 | .mk h cs=>rG C h cs.length=0∧rF C note t cs
def vV (C:bL) (note:Bool) (t:Int):aR→Prop
 | .mk _ h f=>eH C 10 h=0∧kD C false note t f
def kD (C:bL) (body note:Bool) (t:Int):List av→Prop
 | []=>True
 | x :: l=>pI C body note t x∧kD C body note t l
def qJ (C:bL) (note:Bool) (t:Int):List aS→Prop
 | []=>True
 | x :: l=>vX C note t x∧qJ C note t l
def rF (C:bL) (note:Bool) (t:Int):List aR→Prop
 | []=>True
 | x :: l=>vV C note t x∧rF C note t l
end
theorem Ki {C:bL} {body note:Bool} {t:Int}:∀ {l:List av},kD C body note t l↔∀ x∈l,pI C body note t x
 | []=>by simp [kD]
 | x :: l=>by rw [kD,Ki (l:=l)];simp
mutual
/-- The units that a check counts. -/
def uI:av→Nat
 | .mk k _ _ tx _ f r=>(if k=1 then qP tx else 1)+(if k=6 then mG f else if k=7 then zC r else 0)
def uR:aS→Nat
 | .mk _ cs=>Ah cs
def uC:aR→Nat
 | .mk _ _ f=>mG f
def mG:List av→Nat
 | []=>0
 | x :: l=>uI x+mG l
def zC:List aS→Nat
 | []=>0
 | x :: l=>uR x+zC l
def Ah:List aR→Nat
 | []=>0
 | x :: l=>uC x+Ah l
end
def jQ (us aU ids:List Int):Prop:=(∀ i∈ids,(1≤i∧i≤1073741824)∧i∉us∧i∉aU)∧ids.Nodup
theorem jQ.nil (us aU:List Int):jQ us aU []:=⟨fun _ h=>(by cases h),List.nodup_nil⟩
theorem jQ.app {us aU a b:List Int}:jQ us aU (a++b)↔jQ us aU a∧jQ us (aU++a) b:=by
 unfold jQ
 rw [List.nodup_append]
 constructor
 ·rintro ⟨h,h1,h2,h3⟩;exact ⟨⟨fun i hi=>h i (List.mem_append_left _ hi),h1⟩,fun i hi=>⟨(h i (List.mem_append_right _ hi)).1,(h i (List.mem_append_right _ hi)).2.1,fun hm=>(ng.1 hm).elim (h i (List.mem_append_right _ hi)).2.2 fun ha=>h3 i ha i hi rfl⟩,h2⟩
 rintro ⟨⟨h,h1⟩,h2,h3⟩;exact ⟨fun i hi=>(ng.1 hi).elim (h i) fun hb=>⟨(h2 i hb).1,(h2 i hb).2.1,fun hm=>(h2 i hb).2.2 (List.mem_append_left _ hm)⟩,h1,h3,fun i hi j hj e=>(h2 j hj).2.2 (List.mem_append_right _ (e ▸ hi))⟩
theorem jQ.sub {us aU a b:List Int} (h:jQ us aU a) (hs:b.Sublist a):jQ us aU b:=⟨fun i hi=>h.1 i (hs.subset hi),hs.nodup h.2⟩
theorem EJ {r:CR} {f:CS→CR} {s':CS}:fF r f=(0,s')↔∃ m,r=(0,m)∧f m=(0,s'):=by
 constructor
 ·intro h;obtain ⟨h1,h2⟩:=mP h;exact ⟨r.2,Prod.ext h1 rfl,h2⟩
 rintro ⟨m,rfl,h⟩;rw [rW rfl];exact h
theorem yV {e:Int} {s m:CS}:((e,s):CR)=(0,m)↔e=0∧m=s:=by rw [iB,@eq_comm _ s m]
theorem Wm {C:bL} {s m:CS} {x:Int}:gZ C s x=(0,m)↔jQ C.us s.aU [x]∧m=⟨s.n,s.aU++[x]⟩:=by
 unfold gZ
 rw [yV]
 have he:lJ C.us s.aU x=0↔jQ C.us s.aU [x]:=by
  unfold lJ jQ
  by_cases h0:¬ (1≤x∧x≤1073741824)∨x∈C.us
  ·rw [au h0];refine ⟨fun h=>(by cases h),fun h=>?_⟩;have:=h.1 x (List.mem_singleton_self _);exact absurd h0 (by rintro (h1|h1);exact h1 this.1;exact this.2.1 h1)
  rw [ah h0]
  by_cases h1:x∈s.aU
  ·rw [au h1];exact ⟨fun h=>(by cases h),fun h=>absurd h1 (h.1 x (List.mem_singleton_self _)).2.2⟩
  rw [ah h1];refine ⟨fun _=>⟨fun i hi=>?_,by simp⟩,fun _=>rfl⟩;rw [qO.1 hi];exact ⟨fD.1 fun h=>h0 (.inl h),fun h=>h0 (.inr h),h1⟩
 rw [he]
 constructor
 ·rintro ⟨h,rfl⟩;exact ⟨h,by rw [iQ,au (he.2 h)]⟩
 rintro ⟨h,rfl⟩;exact ⟨h,by rw [iQ,au (he.2 h)]⟩
theorem Aj {b:Bool} {e:Int} (he:e≠0):bK b e=0↔b=false:=by cases b <;> simp [bK,he]
theorem asE {C:bL} {body note:Bool} {t k i:Int} {s m:CS}:jh C body note t k i s=(0,m)↔Rb body note t k i∧jQ C.us s.aU (if k=6∨k=7 then [i] else [])∧m=⟨s.n,s.aU++(if k=6∨k=7 then [i] else [])⟩:=by
 unfold jh Rb
 by_cases h3:k=3
 ·subst h3;rw [au rfl,yV,Aj (by decide)];cases body <;> simp [jQ.nil]
 rw [ah h3]
 by_cases h6:k=6
 ·subst h6;rw [au rfl,EJ]
  simp only [yV,Aj (show (19:Int)≠0 by decide),Wm]
  constructor
  ·rintro ⟨_,⟨h1,rfl⟩,h2,h4⟩;exact ⟨⟨fun h=>absurd h (by decide),fun _=>h1,fun h=>absurd h (by decide),fun h=>absurd h (by decide)⟩,by simpa using h2,by simpa using h4⟩
  rintro ⟨⟨-,h1,-,-⟩,h2,h4⟩;exact ⟨s,⟨h1 trivial,rfl⟩,by simpa using h2,by simpa using h4⟩
 rw [ah h6]
 by_cases h7:k=7
 ·subst h7;rw [au rfl,EJ]
  simp only [yV,Aj (show (17:Int)≠0 by decide),Wm,oP,Int.not_le]
  constructor
  ·rintro ⟨_,⟨h1,rfl⟩,h2,h4⟩;exact ⟨⟨fun h=>absurd h (by decide),fun h=>absurd h (by decide),fun _=>h1,fun h=>absurd h (by decide)⟩,by simpa using h2,by simpa using h4⟩
  rintro ⟨⟨-,-,h1,-⟩,h2,h4⟩;exact ⟨s,⟨h1 trivial,rfl⟩,by simpa using h2,by simpa using h4⟩
 rw [ah h7,ah (show ¬ (k=6∨k=7) by omega),lD]
 by_cases h8:k=8
 ·rw [au h8,yV,Aj (by decide)]
  simp [h3,h6,h7,h8,jQ.nil]
 rw [ah h8,yV];simp [h3,h6,h7,h8,jQ.nil]
theorem atg {n:Nat} {f:CS→CR} {s s':CS}:jD n f s=(0,s')↔(n≠0∧n≤256)∧f s=(0,s'):=by
 unfold jD
 split
 ·rename_i h;simp [h]
 rename_i h
 split
 ·rename_i h2;simp [show ¬ n≤256 by omega]
 rename_i h2;simp [h,show n≤256 by omega]
mutual
theorem aie (C:bL) (body note:Bool) (t:Int):∀ (x:av) (s s':CS),eB C body note t x s=(0,s')↔pI C body note t x∧jQ C.us s.aU (vQ x)∧s'=⟨s.n+(uI x:Nat),s.aU++vQ x⟩
 | .mk k c i tx h f r,s,s'=>by
  have hf:=LK C false true t f;have hr:=ZN C note (t+1) r;rw [eB,pI,vQ,uI]
  simp only [EJ,yV,asE]
  by_cases h6:k=6
  ·subst h6
   simp only [if_true,hf,jQ.app,true_or,ah (show ¬ (6:Int)=7 by decide),ah (show ¬ (6:Int)=1 by decide),lD]
   constructor
   ·rintro ⟨_,⟨h1,rfl⟩,_,⟨h2,h3,rfl⟩,_,⟨h4,rfl⟩,h5,h7,rfl⟩;exact ⟨⟨h1,h2,h4,fun _=>h5,fun h=>absurd h (by decide)⟩,⟨h3,h7⟩,by rw [fT];congr 1;push_cast;omega⟩
   rintro ⟨⟨h1,h2,h4,h5,-⟩,⟨h3,h7⟩,rfl⟩;exact ⟨s,⟨h1,rfl⟩,_,⟨h2,h3,rfl⟩,_,⟨h4,rfl⟩,h5 trivial,h7,by rw [fT];congr 1;push_cast;omega⟩
  by_cases h7:k=7
  ·subst h7
   simp only [if_true,atg,hr,jQ.app,or_true,ah (show ¬ (7:Int)=6 by decide),ah (show ¬ (7:Int)=1 by decide),jv]
   constructor
   ·rintro ⟨_,⟨h1,rfl⟩,_,⟨h2,h3,rfl⟩,_,⟨h4,rfl⟩,h0,h5,h8,rfl⟩;exact ⟨⟨h1,h2,h4,fun h=>absurd h (by decide),fun _=>⟨h0,h5⟩⟩,⟨h3,h8⟩,by rw [fT];congr 1;push_cast;omega⟩
   rintro ⟨⟨h1,h2,h4,-,h5⟩,⟨h3,h8⟩,rfl⟩;exact ⟨s,⟨h1,rfl⟩,_,⟨h2,h3,rfl⟩,_,⟨h4,rfl⟩,(h5 trivial).1,(h5 trivial).2,h8,by rw [fT];congr 1;push_cast;omega⟩
  simp only [ah h6,ah h7,ah (show ¬ (k=6∨k=7) by omega),lD,yV]
  constructor
  ·rintro ⟨_,⟨h1,rfl⟩,_,⟨h2,h3,rfl⟩,_,⟨h4,rfl⟩,-,rfl⟩;exact ⟨⟨h1,h2,h4,fun h=>absurd h h6,fun h=>absurd h h7⟩,jQ.nil _ _,by simp⟩
  rintro ⟨⟨h1,h2,h4,-,-⟩,h3,rfl⟩;exact ⟨s,⟨h1,rfl⟩,_,⟨h2,jQ.nil _ _,rfl⟩,_,⟨h4,rfl⟩,aY,by simp⟩
theorem aif (C:bL) (note:Bool) (t:Int):∀ (x:aS) (s s':CS),yI C note t x s=(0,s')↔vX C note t x∧jQ C.us s.aU (yD x)∧s'=⟨s.n+(uR x:Nat),s.aU++yD x⟩
 | .mk h cs,s,s'=>by
  have hc:=ZM C note t cs;rw [yI,vX,yD,uR]
  simp only [EJ,yV,hc]
  constructor
  ·rintro ⟨_,⟨h1,rfl⟩,h2,h3⟩;exact ⟨⟨h1,h2⟩,h3⟩
  rintro ⟨⟨h1,h2⟩,h3⟩;exact ⟨s,⟨h1,rfl⟩,h2,h3⟩
theorem aic (C:bL) (note:Bool) (t:Int):∀ (x:aR) (s s':CS),cellC C note t x s=(0,s')↔vV C note t x∧jQ C.us s.aU (yC x)∧s'=⟨s.n+(uC x:Nat),s.aU++yC x⟩
 | .mk i h f,s,s'=>by
  have hf:=LK C false note t f;rw [cellC,vV,yC,uC,show i :: fO f=[i]++fO f from rfl]
  simp only [EJ,yV,hf,Wm,jQ.app]
  constructor
  ·rintro ⟨_,⟨h1,rfl⟩,_,⟨h2,rfl⟩,h3,h4,rfl⟩;exact ⟨⟨h2,h3⟩,⟨h1,h4⟩,by rw [fT]⟩
  rintro ⟨⟨h2,h3⟩,⟨h1,h4⟩,rfl⟩;exact ⟨_,⟨h1,rfl⟩,_,⟨h2,rfl⟩,h3,h4,by rw [fT]⟩
theorem LK (C:bL) (body note:Bool) (t:Int):∀ (l:List av) (s s':CS),fP C body note t l s=(0,s')↔kD C body note t l∧jQ C.us s.aU (fO l)∧s'=⟨s.n+(mG l:Nat),s.aU++fO l⟩
 | [],s,s'=>by rw [fP,kD,fO,mG,yV];simp [jQ.nil]
 | x :: r,s,s'=>by
  have h1:=aie C body note t x;have h2:=LK C body note t r;rw [fP,kD,fO,mG]
  simp only [EJ,h1,h2,jQ.app]
  constructor
  ·rintro ⟨_,⟨q1,q2,rfl⟩,q3,q4,rfl⟩;exact ⟨⟨q1,q3⟩,⟨q2,q4⟩,by rw [fT];congr 1;push_cast;omega⟩
  rintro ⟨⟨q1,q3⟩,⟨q2,q4⟩,rfl⟩;exact ⟨_,⟨q1,q2,rfl⟩,q3,q4,by rw [fT];congr 1;push_cast;omega⟩
theorem ZN (C:bL) (note:Bool) (t:Int):∀ (l:List aS) (s s':CS),fJ C note t l s=(0,s')↔qJ C note t l∧jQ C.us s.aU (rD l)∧s'=⟨s.n+(zC l:Nat),s.aU++rD l⟩
 | [],s,s'=>by rw [fJ,qJ,rD,zC,yV];simp [jQ.nil]
 | x :: r,s,s'=>by
  have h1:=aif C note t x;have h2:=ZN C note t r;rw [fJ,qJ,rD,zC]
  simp only [EJ,h1,h2,jQ.app]
  constructor
  ·rintro ⟨_,⟨q1,q2,rfl⟩,q3,q4,rfl⟩;exact ⟨⟨q1,q3⟩,⟨q2,q4⟩,by rw [fT];congr 1;push_cast;omega⟩
  rintro ⟨⟨q1,q3⟩,⟨q2,q4⟩,rfl⟩;exact ⟨_,⟨q1,q2,rfl⟩,q3,q4,by rw [fT];congr 1;push_cast;omega⟩
theorem ZM (C:bL) (note:Bool) (t:Int):∀ (l:List aR) (s s':CS),kS C note t l s=(0,s')↔rF C note t l∧jQ C.us s.aU (sM l)∧s'=⟨s.n+(Ah l:Nat),s.aU++sM l⟩
 | [],s,s'=>by rw [kS,rF,sM,Ah,yV];simp [jQ.nil]
 | x :: r,s,s'=>by
  have h1:=aic C note t x;have h2:=ZM C note t r;rw [kS,rF,sM,Ah]
  simp only [EJ,h1,h2,jQ.app]
  constructor
  ·rintro ⟨_,⟨q1,q2,rfl⟩,q3,q4,rfl⟩;exact ⟨⟨q1,q3⟩,⟨q2,q4⟩,by rw [fT];congr 1;push_cast;omega⟩
  rintro ⟨⟨q1,q3⟩,⟨q2,q4⟩,rfl⟩;exact ⟨_,⟨q1,q2,rfl⟩,q3,q4,by rw [fT];congr 1;push_cast;omega⟩
end
theorem amA {a b c d:Int}:bP [a,b,c,d]=0↔a=0∧b=0∧c=0∧d=0:=by
 constructor
 ·intro h;have z:=lF h;exact ⟨z _ (by simp),z _ (by simp),z _ (by simp),z _ (by simp)⟩
 rintro ⟨rfl,rfl,rfl,rfl⟩;rfl
theorem Uv {a b:Int}:bP [a,b]=0↔a=0∧b=0:=by
 constructor
 ·intro h;have z:=lF h;exact ⟨z _ (by simp),z _ (by simp)⟩
 rintro ⟨rfl,rfl⟩;rfl
theorem LJ (d:iW):gJ d=0↔(jU d.iD=0∧uq d.revs=0)∧(eH d.jN 3 d.fin=0∧qI d.fin.marks=false)∧kD d.jN true false 0 d.flow∧jQ [] [] (fO d.flow)∧mG d.flow≤16384:=by
 unfold gJ
 rw [amA,Uv,Uv,Aj (by decide),Aj (by decide),oP]
 constructor
 ·rintro ⟨h1,h2,h3,h4⟩;obtain ⟨q1,q2,q3⟩:=(LK d.jN true false 0 d.flow ⟨0,[]⟩ _).1 (TB h3);rw [q3] at h4;dsimp only at h4;exact ⟨h1,h2,q1,q2,by omega⟩
 rintro ⟨h1,h2,q1,q2,q3⟩;have h:=(LK d.jN true false 0 d.flow ⟨0,[]⟩ _).2 ⟨q1,q2,rfl⟩;rw [h];exact ⟨h1,h2,rfl,by dsimp only;omega⟩
end
section
open Go.RowKit
section
variable {N:Nat} {D:List Deferred} {w0:World} {F:Nat→Prop} {G0 G:GH} {L Lo:OL} {T:List (Nat × ak)}
variable {r:Option Nat} {P:Program} {ops:Array Oper} {Q:Exit→Act→World→Prop} {rest:List Oper} {a:Act} {w:World}
variable {d:Nat} {ty:TypeId} {pos:String} {aP:Array Edge} {g:Option (Nat × Bool)}
theorem avS (z:Array ak) (n:Nat):(Builtin.zeroCells z n).toList.length=n*z.size:=by simp [Builtin.zeroCells]
theorem avT {z:Array ak} {n:Nat} (h:z.toList.all Value.oneCell'=true):∀ u∈(Builtin.zeroCells z n).toList,u.oneCell'=true:=by
 intro u hu
 simp only [Builtin.zeroCells,Array.toList_map,List.mem_map] at hu
 obtain ⟨i,hi,rfl⟩:=hu
 have hi2:i < n*z.size:=by simpa using hi
 have hz:0 < z.size:=by
  rcases Nat.eq_zero_or_pos z.size with e|e
  ·rw [e,Nat.mul_zero] at hi2;omega
  ·exact e
 have hlt:i % z.size < z.size:=Nat.mod_lt _ hz
 rw [getElem!_pos z (i % z.size) hlt]
 exact mZ.1 h _ (by simp)
theorem aty {t e:TypeId} {sz bytes:Nat} {zero:List ak} {agg:Bool} (hs:P.underlying t=some (.slice e)) (ht:Ty P e sz bytes zero agg) (hz:Nat.beq zero.length sz=true) (hz1:zero.all Value.oneCell'=true) {x:Operand} (i:Nat) {b o n cp:Nat} {c:List ak} (H:St N D w0 F G0 G L T a w)
  (hw:Region.wanted ⟨none,.call { callee:=.builtin .clear,args:=#[x],argTypes:=#[t] },ty,pos,aP,g⟩ (yielded ops a.tmps)=true) (hx:ev T x=some (.slice (some ⟨b,o,none⟩) n cp)) (hi:L[i]?=some (b,.cells c.toArray e (0,0))) (hn:0 < n) (hle:o+n*sz≤c.length)
  (k:∀ (c':List ak) w',c'.length=c.length→c'.take o=c.take o→St N D w0 F G0 G (L.set i (b,.cells c'.toArray e (0,0))) T a w'→WL r P ops Q rest a w') :
  WL r P ops Q (⟨none,.call { callee:=.builtin .clear,args:=#[x],argTypes:=#[t] },ty,pos,aP,g⟩ :: rest) a w:=by
 obtain ⟨inf,z,hi0,hi1,hi2,hi3,hi4⟩:=ht.parts
 have hb:=H.hp.own _ (mg hi)
 have hzs:z.cells.size=sz:=by rw [hi4];simpa using Dg hz
 have hlen:(Builtin.zeroCells z.cells n).toList.length=n*sz:=by rw [avS,hzs]
 obtain ⟨w2,h2,u2⟩:=Xw (P:=P) b e o (Builtin.zeroCells z.cells n).toList 0 c w hb (by rw [hlen];omega) (avT (by rw [hi4];simpa using hz1))
 simp only [mO] at u2
 refine fQ (v:=.tuple #[]) (w':=w2) hw rfl ?_ (k _ w2 ?_ ?_ (H.move (H.hp.upd hi u2)))
 ·obtain ⟨m,rfl⟩:∃ m,n=m+1:=⟨n - 1,by omega⟩
  simp [execOp,resolve,invoke,builtin,Builtin.clear_,dX,H.ev hx,nO hs,zeroValue,FE hi0,hi3,h2]
 ·rw [XI]
 ·rw [RH _ _ _ (by rw [hlen];exact hle),fT,List.take_append_of_le_length (by rw [List.length_take];omega),iL (by rw [List.length_take];omega)]
end
end
section
open Go.RowKit
theorem cB.ptr {e sz n c:Nat} {A:Option Addr} {xs:List ak} {Lo:OL} (h:cB e sz (.slice A n c) n xs Lo) (hn:0 < n):∃ b,A=some ⟨b,0,none⟩:=by
 rcases h.2 with ⟨_,h0,_⟩|⟨b,cap,cur,he,_⟩
 ·omega
 ·injection he with e1;exact ⟨b,e1⟩
theorem cB.at {w0 w:World} {F:Nat→Prop} {G0 G:GH} {L Lo:OL} {e sz n c b o:Nat} {xs:List ak} (h:cB e sz (.slice (some ⟨b,o,none⟩) n c) n xs Lo) (H:Hp w0 F G0 G L w) (hsub:∀ x∈Lo,x∈L) {i:Nat} {u:ak} (hi:xs[i]?=some u):w.cell? ⟨b,i,none⟩=some u:=by
 rcases h.2 with ⟨h1,_⟩|⟨b2,cap,cur,he,hl,h1,h2,h3,h4⟩
 ·cases h1
 ·injection he with e1
  injection e1 with e1
  injection e1 with e1
  subst e1
  refine H.QT (c:=cur) (e:=e) (fz:=(0,0)) (hsub _ (by rw [hl];exact List.mem_singleton_self _)) ?_
  have hx:i < xs.length:=(jr.1 hi).1
  rw [h.1] at hx
  rw [← h4,xQ,au hx,Array.getElem?_toList] at hi
  exact hi
theorem flat_get {sz:Nat}:∀ {css:List (List ak)} {k:Nat} (hk:k < css.length) (h:∀ cs∈css,cs.length=sz) (j:Nat),j < sz→css.flatten[k*sz+j]?=css[k][j]?
 | c :: css,0,_,h,j,hj=>by
  rw [List.flatten_cons,Nat.zero_mul,gX,List.getElem_cons_zero,yQ (by rw [h c gP];exact hj)]
 | c :: css,k+1,hk,h,j,hj=>by
  have ih:=flat_get (css:=css) (k:=k) (by simpa using hk) (fun cs hc=>h cs (jT _ hc)) j hj
  rw [List.flatten_cons,List.getElem_cons_succ,tZ (by rw [h c gP,Nat.succ_mul];omega),h c gP,show (k+1)*sz+j - sz=k*sz+j by rw [Nat.succ_mul];omega]
  exact ih
theorem bV.at {G:GH} {sz:Nat} {rows:List (List Dat)} {xs:List ak} (h:bV G sz rows xs) {k:Nat} {r:List Dat} (hk:rows[k]?=some r):∃ cs,cs.length=sz∧(∀ j u,cs[j]?=some u→xs[k*sz+j]?=some u)∧aZ G r cs:=by
 obtain ⟨css,rfl,h2,h3⟩:=h
 have hkl:k < css.length:=by rw [h2];exact (jr.1 hk).1
 obtain ⟨hr,hl⟩:=h3 k r css[k] hk (dV hkl)
 refine ⟨css[k],hl,fun j u hj=>?_,hr⟩
 rw [flat_get hkl (fun cs hc=>?_) j (by rw [← hl];exact (jr.1 hj).1)]
 ·exact hj
 ·obtain ⟨i,hi,rfl⟩:=List.getElem_of_mem hc
  exact (h3 i rows[i] css[i] (dV (by omega)) (dV hi)).2
end
section
open Go.RowKit
section
variable {N:Nat} {D:List Deferred} {w0:World} {F:Nat→Prop} {G0 G:GH} {L:OL} {T:List (Nat × ak)}
variable {r:Option Nat} {P:Program} {ops:Array Oper} {Q:Exit→Act→World→Prop} {rest:List Oper} {a:Act} {w:World}
variable {d:Nat} {ty:TypeId} {pos:String} {aP:Array Edge} {g:Option (Nat × Bool)}
theorem atx {t yt:TypeId} {x y:Operand} {p q:ByteArray} (H:St N D w0 F G0 G L T a w) (hw:Region.wanted ⟨some d,.binOp .add t x y yt,ty,pos,aP,g⟩ (yielded ops a.tmps)=true) (hx:ev T x=some (.string p)) (hy:ev T y=some (.string q)) (hs:p.size+q.size≤4611686018427387904) (hd:Nat.blt d N=true)
  (k:∀ a',St N D w0 F G0 G L ((d,.string (p++q)) :: T) a' w→WL r P ops Q rest a' w):WL r P ops Q (⟨some d,.binOp .add t x y yt,ty,pos,aP,g⟩ :: rest) a w:=by
 refine fQ (v:=.string (p++q)) (w':=w) hw rfl ?_ (k _ (H.put hd _ H.hp))
 have h:¬ ((p.size+q.size:Nat):Int) > IntKind.i64.max:=by
  rw [show IntKind.i64.max=9223372036854775807 by decide];omega
 simp only [execOp,H.ev hx,H.ev hy,dX,eqGuard,binOp,Op.stringOp,ah h]
 rfl
end
theorem cB.set1 {e sz n cap b o:Nat} {xs:List ak} {Lo:OL} (h:cB e sz (.slice (some ⟨b,o,none⟩) n cap) n xs Lo) :
  ∃ cur:List ak,o=0∧Lo=[(b,.cells cur.toArray e (0,0))]∧n*sz≤cur.length∧∀ j v,cB e sz (.slice (some ⟨b,0,none⟩) n cap) n (xs.set j v) [(b,.cells (cur.set j v).toArray e (0,0))]:=by
 rcases h.2 with ⟨h1,_⟩|⟨b',cap',cur',h1,h2,h3,h4,h5,h6⟩
 ·cases h1
 ·cases h1
  refine ⟨cur'.toList,rfl,h2,?_,fun j v=>⟨by rw [List.length_set];exact h.1,.inr ⟨b,cap,_,rfl,rfl,h3,h4,by simpa using h5,?_⟩⟩⟩
  ·rw [wJ,h5];exact Nat.mul_le_mul_right _ h3
  ·rw [List.toList_toArray,← h6,List.take_set]
theorem bV.auv {G:GH} {sz:Nat} {rows:List (List Dat)} {q:List Dat} {xs:List ak} (h:bV G sz (rows++[q]) xs):∃ x0 cs,xs=x0++cs∧bV G sz rows x0∧aZ G q cs∧cs.length=sz∧x0.length=rows.length*sz:=by
 obtain ⟨css,rfl,h2,h3⟩:=h
 rw [jc,List.length_singleton] at h2
 have hne:css≠[]:=fun e=>by rw [e] at h2;simp at h2
 have e:css=css.dropLast++[css.getLast hne]:=(List.dropLast_concat_getLast hne).symm
 have hdl:css.dropLast.length=rows.length:=by rw [List.length_dropLast];omega
 generalize css.dropLast=c0 at e hdl
 generalize css.getLast hne=cl at e
 subst e
 have h4:∀ (j:Nat) (r:List Dat) (cs:List ak),rows[j]?=some r→c0[j]?=some cs→aZ G r cs∧cs.length=sz:=fun j r cs hr hc=>h3 j r cs (by rw [yQ (jr.1 hr).1];exact hr) (by rw [yQ (jr.1 hc).1];exact hc)
 have h5:=h3 rows.length q cl (by rw [tZ (bX _),Nat.sub_self];rfl) (by rw [tZ (by omega),hdl,Nat.sub_self];rfl)
 refine ⟨c0.flatten,cl,by simp,⟨c0,rfl,hdl,h4⟩,h5.1,h5.2,?_⟩
 have h6:∀ (c:List (List ak)) (rs:List (List Dat)),c.length=rs.length→(∀ (j:Nat) (r:List Dat) (cs:List ak),rs[j]?=some r→c[j]?=some cs→aZ G r cs∧cs.length=sz)→c.flatten.length=rs.length*sz:=by
  intro c
  induction c with
  | nil=>intro rs h _;cases rs with
   | nil=>simp
   | cons r rs=>simp at h
  | cons x c ih =>
   intro rs h hh
   cases rs with
   | nil=>simp at h
   | cons r rs =>
    have e1:=(hh 0 r x rfl rfl).2
    have e2:=ih rs (by simpa using h) fun j r' cs hr hc=>hh (j+1) r' cs (by simpa using hr) (by simpa using hc)
    rw [List.flatten_cons,jc,e1,e2,jS,Nat.succ_mul,Nat.add_comm]
 exact h6 c0 rows hdl h4
theorem aqa (A B:OL) (x:Nat × Obj):(A++(B++[x]))[A.length+B.length]?=some x:=by
 rw [tZ (by omega),Dh,tZ (bX _),Nat.sub_self];rfl
theorem atY (A B:OL) (x y:Nat × Obj):(A++(B++[x])).set (A.length+B.length) y=A++(B++[y]):=by
 rw [List.set_append_right _ _ (by omega),Dh,List.set_append_right _ _ (bX _),Nat.sub_self];rfl
end
section
open Go.RowKit
def oI (z y:av):av:=.mk z.kind z.code z.id (z.text++y.text) z.head z.flow z.rows
def uD (y:av):Prop:=(y.kind=7∧y.rows.length=0)∨(y.kind=1∧y.text.size=0)
def qH (z y:av):Prop:=y.kind=1∧z.kind=1∧z.head=y.head
instance (y:av):Decidable (uD y):=inferInstanceAs (Decidable (_∨_))
instance (z y:av):Decidable (qH z y):=inferInstanceAs (Decidable (_∧_∧_))
def addN (out:List av) (y:av):List av :=
 if uD y then out else match out.getLast? with
  | none=>out++[y]
  | some z=>if qH z y then out.dropLast++[oI z y] else out++[y]
theorem Oj {out:List av} {y:av} (h:uD y):addN out y=out:=au h
theorem BM {out:List av} {y:av} (h:¬ uD y) (hj:∀ o z,out=o++[z]→¬ qH z y):addN out y=out++[y]:=by
 unfold addN
 rw [ah h]
 split
 ·rfl
 rename_i z hz
 obtain ⟨o,rfl⟩:=List.getLast?_eq_some_iff.1 hz;rw [ah (hj o z rfl)]
theorem Lm {o:List av} {z y:av} (h:¬ uD y) (hj:qH z y):addN (o++[z]) y=o++[oI z y]:=by
 unfold addN
 rw [ah h,List.getLast?_concat];dsimp only;rw [au hj,List.dropLast_concat]
theorem Zd (out:List av) (y:av):addN out y=out∨addN out y=out++[y]∨∃ o z,out=o++[z]∧z.kind=1∧y.kind=1∧addN out y=o++[oI z y]:=by
 by_cases h:uD y
 ·exact .inl (Oj h)
 by_cases hj:∃ o z,out=o++[z]∧qH z y
 ·obtain ⟨o,z,rfl,hj⟩:=hj;exact .inr (.inr ⟨o,z,rfl,hj.2.1,hj.1,Lm h hj⟩)
 exact .inr (.inl (BM h fun o z e hz=>hj ⟨o,z,e,hz⟩))
mutual
/-- What becomes of an item in a normal form, of rows, of cells. -/
def nI:av→av
 | .mk k c i t h f r=>.mk k c i t h ((nW f).foldl addN []) (qb r)
def nW:List av→List av
 | []=>[]
 | x :: l=>nI x :: nW l
def nR:aS→aS
 | .mk h c=>.mk h (pY c)
def qb:List aS→List aS
 | []=>[]
 | x :: l=>nR x :: qb l
def nC:aR→aR
 | .mk i h f=>.mk i h ((nW f).foldl addN [])
def pY:List aR→List aR
 | []=>[]
 | x :: l=>nC x :: pY l
end
theorem Nj:∀ l:List av,nW l=l.map nI
 | []=>by simp [nW]
 | x :: l=>by simp [nW,Nj l]
theorem QW:∀ l:List aS,qb l=l.map nR
 | []=>by simp [qb]
 | x :: l=>by simp [qb,QW l]
theorem WJ:∀ l:List aR,pY l=l.map nC
 | []=>by simp [pY]
 | x :: l=>by simp [pY,WJ l]
def uP (l:List av) (k:Nat):List av:=((l.take k).map nI).foldl addN []
def jC (l:List av):List av:=uP l l.length
theorem aed (x:av):nI x=.mk x.kind x.code x.id x.text x.head (jC x.flow) (x.rows.map nR):=by
 cases x;rw [nI,Nj,QW];simp [jC,uP,av.kind,av.code,av.id,av.text,av.head,av.flow,av.rows]
theorem aee (x:aS):nR x=.mk x.head (x.cells.map nC):=by cases x;rw [nR,WJ];rfl
theorem ark (x:aR):nC x=.mk x.id x.head (jC x.flow):=by cases x;rw [nC,Nj];simp [jC,uP,aR.id,aR.head,aR.flow]
theorem aeA {l:List av} {k:Nat} (h:k < l.length):uP l (k+1)=addN (uP l k) (nI l[k]):=by
 unfold uP;rw [gI h,lg,List.foldl_append];rfl
theorem auS (out:List av) (y:av):lX (addN out y)≤lX out+(y.text.size+1):=by
 rcases Zd out y with e|e|⟨o,z,rfl,-,-,e⟩ <;> rw [e]
 ·omega
 ·rw [IQ];simp [lX]
 rw [IQ,IQ];have:(oI z y).text.size=z.text.size+y.text.size:=ByteArray.size_append
 simp only [lX,this];omega
theorem WU {l:List av}:∀ {k:Nat},k≤l.length→lX (uP l k)≤lX (l.take k)
 | 0,_=>by simp [uP,lX]
 | k+1,h=>by
  have ih:=WU (l:=l) (k:=k) (by omega);have h1:=auS (uP l k) (nI l[k])
  have h2:(nI l[k]).text=l[k].text:=by rw [aed];rfl
  rw [h2] at h1;rw [aeA (by omega),gI (by omega),IQ]
  simp only [lX];omega
theorem arU {l:List av} {k:Nat} (h:k≤l.length):(uP l k).length≤lX l:=by
 have h1:=QJ (uP l k);have h2:=WU h;have h3:=XW l k
 omega
mutual
/-- Tables whose rows all have cells. -/
def Kh:av→Prop
 | .mk _ _ _ _ _ f r=>vU f∧Eb r
def vU:List av→Prop
 | []=>True
 | x :: l=>Kh x∧vU l
def Fy:aS→Prop
 | .mk _ c=>c≠[]∧Fx c
def Eb:List aS→Prop
 | []=>True
 | x :: l=>Fy x∧Eb l
def Fw:aR→Prop
 | .mk _ _ f=>vU f
def Fx:List aR→Prop
 | []=>True
 | x :: l=>Fw x∧Fx l
end
theorem aek:∀ {l:List av},vU l→∀ x∈l,Kh x
 | [],_,_,h=>by cases h
 | y :: l,h,x,hx=>by
  rw [vU] at h
  rcases kZ.1 hx with rfl|hx
  ·exact h.1
  exact aek h.2 x hx
theorem WM:∀ {l:List aS},Eb l→∀ x∈l,Fy x
 | [],_,_,h=>by cases h
 | y :: l,h,x,hx=>by
  rw [Eb] at h
  rcases kZ.1 hx with rfl|hx
  ·exact h.1
  exact WM h.2 x hx
theorem aej:∀ {l:List aR},Fx l→∀ x∈l,Fw x
 | [],_,_,h=>by cases h
 | y :: l,h,x,hx=>by
  rw [Fx] at h
  rcases kZ.1 hx with rfl|hx
  ·exact h.1
  exact aej h.2 x hx
theorem arw (x:av):Kh x=(vU x.flow∧Eb x.rows):=by cases x;rw [Kh];rfl
theorem ael (x:aS):Fy x=(x.cells≠[]∧Fx x.cells):=by cases x;rw [Fy];rfl
theorem arv (x:aR):Fw x=vU x.flow:=by cases x;rw [Fw];rfl
end
section
open Go.RowKit
theorem Tj {a b:ByteArray} {i:Nat} (h:i < a.size):gF (a++b) i=gF a i:=by
 rw [lS h,lS (by rw [ByteArray.size_append];omega),ByteArray.getElem_append_left h]
theorem Tk (a b:ByteArray) (j:Nat):gF (a++b) (a.size+j)=gF b j:=by
 by_cases h:j < b.size
 ·rw [lS h,lS (by rw [ByteArray.size_append];omega),ByteArray.getElem_append_right (by omega)]
  congr 2
  simp
 unfold gF
 rw [dif_neg (by rw [ByteArray.size_append];omega),dif_neg h]
theorem Z6 {a b:ByteArray} {t n:Nat}:∀ (f k:Nat) (low high p:Int),(qx a t n f k low high p).2.2=true→qx (a++b) t n f k low high p=qx a t n f k low high p
 | 0,_,_,_,_,_=>rfl
 | f+1,k,low,high,p,h=>by
  unfold qx at h ⊢
  by_cases h1:n≤k
  ·rw [au h1,au h1]
  rw [ah h1] at h;rw [ah h1,ah h1]
  by_cases h2:a.size≤t+k∨gF a (t+k) < low∨high < gF a (t+k)
  ·rw [au h2] at h;cases h
  rw [ah h2] at h
  have h3:t+k < a.size:=by omega
  rw [Tj h3,ah h2,ah (by rw [ByteArray.size_append];omega)];exact Z6 f (k+1) _ _ _ h
theorem Z7 (a b:ByteArray) (j n:Nat):∀ (f k:Nat) (low high p:Int),qx (a++b) (a.size+j) n f k low high p=qx b j n f k low high p
 | 0,_,_,_,_=>rfl
 | f+1,k,low,high,p=>by
  unfold qx
  have e:gF (a++b) (a.size+j+k)=gF b (j+k):=by rw [Nat.add_assoc];exact Tk a b (j+k)
  have e2:((a++b).size≤a.size+j+k)↔(b.size≤j+k):=by rw [ByteArray.size_append];omega
  rw [e,Z7 a b j n f]
  simp only [e2]
theorem Z9 {a b:ByteArray} {i:Nat} (hi:i < a.size) (h:(kJ a i).2.2=true):kJ (a++b) i=kJ a i:=by
 unfold kJ at h ⊢
 simp only [Tj hi] at h ⊢
 split
 ·rfl
 rename_i h1
 rw [ah h1] at h
 split
 ·rfl
 rename_i h2
 rw [ah h2] at h;exact Z6 _ _ _ _ _ h
theorem aac (a b:ByteArray) (j:Nat):kJ (a++b) (a.size+j)=kJ b j:=by
 unfold kJ
 simp only [Tk,Z7]
theorem amC (a b:ByteArray):∀ (n j:Nat),b.size - j=n→nT b j < 0→nT (a++b) (a.size+j) < 0:=by
 intro n
 induction n using Nat.strongRecOn with
 | _ n ih =>
  intro j hn h;rw [nT]
  by_cases hj:j < b.size
  ·rw [nT,dif_pos hj] at h;rw [dif_pos (by rw [ByteArray.size_append];omega)]
   by_cases hd:(kJ b j).2.2=true
   ·rw [dif_pos hd] at h;have hs:=(OJ b j hj).2 hd;rw [dif_pos (by rw [aac];exact hd),aac,Nat.add_assoc];exact ih _ (by omega) (j+(kJ b j).2.1) rfl h
   rw [dif_neg hd] at h;omega
  rw [dif_neg (by rw [ByteArray.size_append];omega)];decide
theorem amB (a b:ByteArray) (hb:nT b 0 < 0):∀ (n i:Nat),a.size - i=n→i≤a.size→nT a i < 0→nT (a++b) i < 0:=by
 intro n
 induction n using Nat.strongRecOn with
 | _ n ih =>
  intro i hn hi h
  by_cases hj:i < a.size
  ·rw [nT,dif_pos hj] at h;rw [nT,dif_pos (by rw [ByteArray.size_append];omega)]
   by_cases hd:(kJ a i).2.2=true
   ·rw [dif_pos hd] at h;have hs:=(OJ a i hj).2 hd;rw [dif_pos (by rw [Z9 hj hd];exact hd),Z9 hj hd];exact ih _ (by omega) (i+(kJ a i).2.1) rfl hs.2 h
   rw [dif_neg hd] at h;omega
  obtain rfl:i=a.size:=by omega
  exact amC a b b.size 0 rfl hb
theorem aga {a b:ByteArray} (ha:mX a=true) (hb:mX b=true):mX (a++b)=true:=by
 unfold mX at *
 exact eZ (amB a b (lQ hb) a.size 0 rfl (eG _) (lQ ha))
theorem ZX (a b:ByteArray):∀ (n j:Nat),b.size - j=n→mQ (a++b) (a.size+j)=mQ b j
 | 0,j,h=>by
  rw [mQ.eq_def (a++b),mQ.eq_def b,ah (show ¬ a.size+j < (a++b).size by rw [ByteArray.size_append];omega),ah (show ¬ j < b.size by omega)]
 | n+1,j,h=>by
  have ih:=ZX a b n (j+1) (by omega);rw [mQ.eq_def (a++b),mQ.eq_def b,au (show a.size+j < (a++b).size by rw [ByteArray.size_append];omega),au (show j < b.size by omega),Tk,Nat.add_assoc,ih]
theorem ZW (a b:ByteArray):∀ (n i:Nat),a.size - i=n→i≤a.size→mQ (a++b) i=mQ a i+mQ b 0
 | 0,i,h,hi=>by
  obtain rfl:i=a.size:=by omega
  rw [mQ.eq_def a a.size,ah (Nat.lt_irrefl _),gX];exact ZX a b b.size 0 rfl
 | n+1,i,h,hi=>by
  have ih:=ZW a b n (i+1) (by omega) (by omega);rw [mQ.eq_def (a++b),mQ.eq_def a i,au (show i < (a++b).size by rw [ByteArray.size_append];omega),au (show i < a.size by omega),Tj (show i < a.size by omega),ih,Nat.add_assoc]
theorem aiD {a b:ByteArray} (ha:mX a=true) (hb:mX b=true):qP (a++b)=qP a+qP b:=by
 unfold qP
 rw [au ha,au hb,au (aga ha hb)];exact ZW a b a.size 0 rfl (eG _)
end
section
open Go.RowKit
def ko (s:CS) (z:Nat) (r:CR):Prop:=r.2.aU.length≤s.aU.length+z
theorem ko.and {s:CS} {z y q:Nat} {r:CR} {f:CS→CR} (h:ko s z r) (hq:z+y≤q) (hf:∀ s,ko s y (f s)):ko s q (fF r f):=by
 unfold ko at *
 unfold fF
 split
 ·omega
 have:=hf r.2
 omega
theorem ko.zero (s:CS) (e:Int) (q:Nat):ko s q (e,s):=by unfold ko;dsimp only;omega
theorem ko.le {s:CS} {z y:Nat} {r:CR} (h:ko s z r) (hq:z≤y):ko s y r:=by unfold ko at *;omega
theorem apU (us l:List Int) (x:Int):(iQ us l x).length≤l.length+1:=by
 unfold iQ
 split
 ·simp
 omega
theorem R5 (C:bL) (s:CS) (x:Int):ko s 1 (gZ C s x):=apU _ _ _
theorem auX (C:bL) (body note:Bool) (t k i:Int) (s:CS):ko s 1 (jh C body note t k i s):=by
 unfold jh
 (repeat' split) <;> first|exact ko.zero _ _ _|exact (ko.zero _ _ 0).and (y:=1) (by omega) fun s=>R5 _ _ _
mutual
theorem afH (C:bL) (body note:Bool) (t:Int):∀ (x:av) (s:CS),ko s (bM x.dat) (eB C body note t x s)
 | .mk k c i tx h f r,s=>by
  have hz:=pU (.mk k c i tx h f r);have hf:=Yc C false true t f;have hr:=afI C note (t+1) r;rw [eB];dsimp only [av.text,av.flow,av.rows,av.head] at hz;refine (ko.zero s _ 0).and (Nat.le_of_eq (gX _)) fun s=>?_;refine ko.and (z:=1) (s:=s) (auX C body note t k i ⟨_,s.aU⟩) (y:=aX f+eD r) (by omega) fun s=>(ko.zero s _ 0).and (Nat.le_of_eq (gX _)) fun s=>?_
  by_cases h6:k=6
  ·rw [au h6];exact (hf s).le (by omega)
  rw [ah h6]
  by_cases h7:k=7
  ·rw [au h7]
   unfold jD
   by_cases c1:r.length=0
   ·rw [au c1];exact ko.zero _ _ _
   rw [ah c1]
   by_cases c2:256 < r.length
   ·rw [au c2];exact ko.zero _ _ _
   rw [ah c2];exact (hr s).le (by omega)
  rw [ah h7];exact ko.zero _ _ _
theorem auY (C:bL) (note:Bool) (t:Int):∀ (x:aS) (s:CS),ko s (bM x.dat) (yI C note t x s)
 | .mk h cs,s=>by
  have hz:=tO (.mk h cs);have hc:=afG C note t cs;rw [II];dsimp only [aS.cells,aS.head] at hz ⊢;exact (ko.zero s _ 0).and (y:=gH cs) (by omega) fun s=>hc s
theorem afF (C:bL) (note:Bool) (t:Int):∀ (x:aR) (s:CS),ko s (bM x.dat) (cellC C note t x s)
 | .mk i h f,s=>by
  have hz:=uZ (.mk i h f);have hf:=Yc C false note t f;rw [zO];dsimp only [aR.flow,aR.head,aR.id] at hz ⊢;exact (R5 C s _).and (y:=aX f) (by omega) fun s=>(ko.zero s _ 0).and (Nat.le_of_eq (gX _)) fun s=>hf s
theorem Yc (C:bL) (body note:Bool) (t:Int):∀ (l:List av) (s:CS),ko s (aX l) (fP C body note t l s)
 | [],s=>by rw [fP];exact ko.zero _ _ _
 | x :: r,s=>by
  rw [fP];exact (afH C body note t x s).and (y:=aX r) (by simp only [aX,dR,dY];omega) fun s=>Yc C body note t r s
theorem afI (C:bL) (note:Bool) (t:Int):∀ (l:List aS) (s:CS),ko s (eD l) (fJ C note t l s)
 | [],s=>by rw [fJ];exact ko.zero _ _ _
 | x :: r,s=>by
  rw [fJ];exact (auY C note t x s).and (y:=eD r) (by simp only [eD,dR,dY];omega) fun s=>afI C note t r s
theorem afG (C:bL) (note:Bool) (t:Int):∀ (l:List aR) (s:CS),ko s (gH l) (kS C note t l s)
 | [],s=>by rw [kS];exact ko.zero _ _ _
 | x :: r,s=>by
  rw [kS];exact (afF C note t x s).and (y:=gH r) (by simp only [gH,dR,dY];omega) fun s=>afG C note t r s
end
theorem Ji {C:bL} {body note:Bool} {t:Int} {x:av} {s s':CS} {e:Int} (h:eB C body note t x s=(e,s')):s.n≤s'.n∧s'.n≤s.n+bM x.dat∧s'.aU.length≤s.aU.length+bM x.dat:=by
 have h1:=Ye C body note t x s;have h2:=afH C body note t x s;rw [h] at h1 h2;exact ⟨h1.1,h1.2,h2⟩
theorem ahm {C:bL} {note:Bool} {t:Int} {x:aR} {s s':CS} {e:Int} (h:cellC C note t x s=(e,s')):s.n≤s'.n∧s'.n≤s.n+bM x.dat∧s'.aU.length≤s.aU.length+bM x.dat:=by
 have h1:=afR C note t x s;have h2:=afF C note t x s;rw [h] at h1 h2;exact ⟨h1.1,h1.2,h2⟩
theorem aqo {C:bL} {body note:Bool} {t:Int} {l:List av} {k:Nat} (hk:k < l.length) (s:CS):fP C body note t (l.drop k) s=fF (eB C body note t l[k] s) fun s=>fP C body note t (l.drop (k+1)) s:=by rw [jy hk,fP]
theorem ath {C:bL} {note:Bool} {t:Int} {l:List aS} {k:Nat} (hk:k < l.length) (s:CS):fJ C note t (l.drop k) s=fF (yI C note t l[k] s) fun s=>fJ C note t (l.drop (k+1)) s:=by rw [jy hk,fJ]
theorem ahC {C:bL} {note:Bool} {t:Int} {l:List aR} {k:Nat} (hk:k < l.length) (s:CS):kS C note t (l.drop k) s=fF (cellC C note t l[k] s) fun s=>kS C note t (l.drop (k+1)) s:=by rw [jy hk,kS]
theorem Yo {l:List av} {k:Nat} (hk:k < l.length):aX (l.drop k)=1+bM l[k].dat+aX (l.drop (k+1)):=by
 simp only [aX];rw [jy hk,dR,dY]
theorem Yq {l:List aS} {k:Nat} (hk:k < l.length):eD (l.drop k)=1+bM l[k].dat+eD (l.drop (k+1)):=by
 simp only [eD];rw [jy hk,dR,dY]
theorem agw {l:List aR} {k:Nat} (hk:k < l.length):gH (l.drop k)=1+bM l[k].dat+gH (l.drop (k+1)):=by
 simp only [gH];rw [jy hk,dR,dY]
end
section
open Go.RowKit
structure NV where
 code:Int
 id:Int
 name:ByteArray
 flow:Int
 at_:Int
def NV.dat (x:NV):List Dat:=[li x.code,li x.id,.lf (.string x.name),li x.flow,li x.at_]
abbrev NV.cells (x:NV):List ak:=[vi x.code,vi x.id,.string x.name,vi x.flow,vi x.at_]
def Yw (P:Program) (fv:ak) (Gi:GH) (xs:List AP) (J:Nat→GH→OL→Prop):Prop :=
 ∀ k args G L w,xK xs k args G→(∀ b o,Gi b=some o→G b=some o)→J k G L→fM G L w→wD P fv args w (fB w G L fun _ G' L'=>J (k+1) G' L')
end
section
open Go.RowKit
instance:Ty prog 172 1 8 [.nilFunc] false:=⟨by kernel_rfl,by kernel_rfl⟩
theorem alb:∀ args w,(callFunc 57 args).run prog w=.ok (.enter 57 args) w:=enters func57 rfl (by kernel_rfl)
theorem aam:∀ args w,(callFunc 106 args).run prog w=.ok (.enter 106 args) w:=enters func106 rfl (by kernel_rfl)
theorem OW:∀ args w,(callFunc 51 args).run prog w=.ok (.enter 51 args) w:=enters func51 rfl (by kernel_rfl)
instance NP:Ty prog 52 1 24 [.slice none 0 0] false:=⟨by kernel_rfl,by kernel_rfl⟩
theorem ajg:∀ args w,(callFunc 108 args).run prog w=.ok (.enter 108 args) w:=enters func108 rfl (by kernel_rfl)
theorem Wn {A:List Int} {k:Nat} {args:List ak} {g:GH} (h:xK (A.map Cx) k args g):∃ hk:k < A.length,args=[vi A[k]]:=by
 obtain ⟨p,hp,hargs⟩:=h;rw [om] at hp;obtain ⟨q,hq,rfl⟩:=oO.1 hp;obtain ⟨hk,rfl⟩:=jr.1 hq;exact ⟨hk,hargs⟩
theorem apV {G G0:GH} {A:List Int} {b2:Nat} {fv:ak} {J:Nat→GH→OL→Prop} {Jx:GH→OL→Prop} (hcb:Ev prog fv G0 (A.map Cx) J Jx) (hG0:∀ b o,G0 b=some o→G b=some o) (DV:fv.cells=#[fv]) (hb:aC G b2 0=some fv) :
  Ev prog (.func (.func 108) #[] #[(aK b2 0)]) G (A.map Cx) J Jx:=by
 intro k args G1 L w0 hk hm hJ hO;obtain ⟨hk2,rfl⟩:=Wn hk;refine jM (caps:=[(aK b2 0)]) ajg ?_;replace hb:=aD hm hb;refine iM (N:=7) (T:=[(0,_),(1,_)]) func108 rfl ntmps108 rfl rfl hO ?_;refine aj 6 ?_;intro a H;refine tL (Li:=[]) (L:=L) H wn rfl rfl (hcb _ _ _ _ _ hk (fun b o h=>hm b o (hG0 b o h)) hJ (Hp.owns (Li:=[]) H.hp)) rfl ?_;clear H;rintro v6 G6 L6 a w ⟨b6,rfl,h1,h2⟩ Cv H;refine aH 2 H ?_;clear H;intro a H;refine lr H results108 rfl ?_;exact H.hp.dO ⟨b6,rfl,h1,h2⟩
theorem apW {G:GH} {bd:Nat} {D:gM} {l:List av} (hb:G bd=some (.cells D.cells.toArray 38 (0,0))) (hv:ay G (.sl 11 (l.map av.dat)) (aM D.f)) (hz:aX l≤4294967296) :
  Iter prog G (.func (.func 106) #[] #[(aK bd 0)]) ((fO l).map Cx):=by
 intro J Jx fv G1 L w0 DV hGi lT hJx hJ hO hcb;refine jM (caps:=[(aK bd 0)]) aam ?_;have hfl:aC G1 bd 0=some (aM D.f):=aD hGi (by unfold aC;rw [hb];rfl);refine iM (N:=7) (T:=[(0,_),(1,_)]) func106 rfl ntmps106 rfl rfl hO ?_;refine aj 1 ?_;intro a H;refine dN (cs:=[fv]) H wn rfl DV rfl ?_;clear H;intro b2 a w hb2 H;refine aI ?_;refine dW ?_;obtain ⟨G2,hm2,hb2,H⟩:=H.dS;replace hfl:=aD hm2 hfl;refine dG 3 H ?_;clear H;intro a H;refine pK H wn rfl rfl ?_;clear H;intro a H;refine fu TK (Li:=[]) (L:=L) H wn rfl (agb 4294967297 (by omega) _ G2 ((fO l).map Cx) J Jx G2 _ _ 0 l _ (fun _ _ h=>h) (apV (b2:=b2) hcb hm2 DV (by unfold aC;rw [hb2];rfl)) lT hJx (lT _ _ _ _ hm2 hJ) (Hp.owns (Li:=[]) H.hp) ((hv.mono hGi).mono hm2) (by omega) (fun i a h=>by rw [gX,om,h];rfl)) rfl ?_;clear H;rintro v6 G6 L6 a w ⟨b6,rfl,h1,h2⟩ Cv H;refine aI ?_;refine (leave0 H results106 ?_).2
 cases b6
 ·exact H.hp.dO (.inr (h2 rfl))
 exact H.hp.dO (.inl (by simpa using h1 rfl))
theorem apZ (G:GH) (w0:World) (hG:Hold G w0) (D:gM) (l:List av) (hv:ay G (.sl 11 (l.map av.dat)) (aM D.f)) (hz:aX l≤4294967296) :
  Calls prog 57 #[D.val] w0 (bB w0 G fun v G'=>∃ bd,v=.func (.func 106) #[] #[(aK bd 0)]∧Iter prog G' v ((fO l).map Cx)):=by
 refine eN [(0,_)] func57 rfl ntmps57 rfl rfl hG ?_;refine aj 1 ?_;intro a H;refine dN (cs:=[_,_,_,_,_,_,_,_,_,_,_]) H wn rfl rfl rfl ?_;clear H;intro b1 a w hb1 H;refine aH 3 H ?_;clear H;intro a H;refine pK H wn rfl rfl ?_;clear H;refine aj 2 ?_;intro a H;refine dw ?_;obtain ⟨G2,hm2,hb2,H⟩:=H.dS;refine lv H results57 rfl ?_;exact H.rt ⟨b1,rfl,apW hb2 (hv.mono hm2) hz⟩
def Iw (l:List Int):Int:=l.foldl max 0
theorem arf {l:List Int} {k:Nat} (h:k < l.length):Iw (l.take (k+1))=max (Iw (l.take k)) l[k]:=by
 rw [Iw,gI h,List.foldl_append];rfl
theorem amO (G:GH) (w0:World) (hG:Hold G w0) (D:gM) (l:List av) (hv:ay G (.sl 11 (l.map av.dat)) (aM D.f)) (hz:aX l≤4294967296) (hm:Iw (fO l)≤4611686018427387904) (h0:0≤Iw (fO l)) :
  Calls prog 20 #[D.val] w0 (bB w0 G fun v G'=>v=vi (Iw (fO l)+1)):=by
 refine eN [(0,_)] func20 rfl ntmps20 rfl rfl hG ?_;refine aj 1 ?_;intro a H;refine dN (cs:=[_,_,_,_,_,_,_,_,_,_,_]) H wn rfl rfl rfl ?_;clear H;intro b1 a w hb1 H;refine aH 3 H ?_;clear H;intro a H;refine dx bC H wn rfl ?_;clear H;intro b3 a w hb3 H;refine bq bC 0 (vs:=[_]) _ H wn rfl rfl rfl rfl rfl rfl rfl rfl ?_;clear H;intro w H;dsimp only [List.set,setRow] at H;refine aH 3 H ?_;clear H;intro a H;refine aT iY (cs:=[_,_,_,_,_,_,_,_,_,_,_]) H wn rfl rfl (H.hp.cO 1 rfl rfl) rfl ?_;clear H;intro a H;refine s_call alb H wn rfl (apZ _ _ H.ro D l hv hz) rfl ?_;clear H;rintro v6 G6 a w ⟨bd,rfl,hit⟩ Cv H;refine aH 2 H ?_;clear H;intro a H;refine EN (ι:=Unit) (κ:=Empty) (Lc:=[(_,_)]) (fun (k:Nat) (gh:Unit)=>[(b3,.cells #[vi (Iw ((fO l).take k))] 3 (0,0))]) (fun (k:Nat) (gh:Unit)=>[]) (fun (k:Nat) (gh:Unit) (g:GH)=>True) (fun x=>x.elim) (fun x=>x.elim) (fun x=>x.elim) (fun x=>x.elim) (()) (by exact H.bY (Pl:=[_,_]) (bT:=[_,_]) [1,0] (by decide) rfl) rfl aam (hit) (fun _ _ h=>h) rfl (fun k args g h=>by obtain ⟨_,rfl⟩:=Wn h;rfl) (fun _ _ _ _ _ h=>h) (fun x=>x.elim) (trivial) ?_ ?_ ?_
 ·clear H;intro l3 yH vE bk k args gh G3 w3 F3 B3 a hk3 tJ hI MJ MS acX H;obtain ⟨hk,rfl⟩:=Wn hk3;dsimp only [uj,List.cons_append,List.nil_append] at H;refine dG 2 H ?_;clear H;intro a H;refine aI ?_;refine MJ _ _ _ _ _ _ (by exact H) ?_;clear H;intro w H;refine dG 4 H ?_;clear H;intro a H;refine FJ H wn rfl rfl rfl ?_;clear H;intro a H;rw [← arf hk] at H;refine bq bC 2 (vs:=[_]) _ H wn rfl rfl rfl rfl rfl rfl rfl rfl ?_;clear H;intro w H;dsimp only [List.set,setRow] at H;refine aI ?_;refine MS (()) _ _ _ _ _ (by exact H) ?_
  trivial
 ·clear H;intro Yy gh YX a w tJ hI H;dsimp only [lca,aQ] at H;refine dW ?_;rw [iL (by simp)] at H;refine dG 5 H ?_;clear H;intro a H;refine dw ?_;refine (Bl H 0 rfl ?_).1;clear H;intro a w H;dsimp only [List.eraseIdx_cons_succ,List.eraseIdx_cons_zero] at H;refine lv H results20 rfl ?_;exact H.rt rfl
 intro Dk x;exact x.elim
theorem aqj (G:GH) (n:Int):aZ G [li n] [vi n]:=by simp [aZ,ay,Value.oneCell']
def kY (A:List kg):Int:=A.foldl (fun n f=>n+pX f.items) 0
theorem NT {A:List kg} {k:Nat} (h:k < A.length):kY (A.take (k+1))=kY (A.take k)+pX A[k].items:=by
 rw [kY,gI h,List.foldl_append];rfl
theorem afP (G:GH) (w0:World) (hG:Hold G w0) (D:gM) (l:List av) (hv:ay G (.sl 11 (l.map av.dat)) (aM D.f)) (hz:aX l≤4294967296) (hm:∀ k,k≤(fC l).length→0≤kY ((fC l).take k)∧kY ((fC l).take k)≤4611686018427387904) :
  Calls prog 21 #[D.val] w0 (bB w0 G fun v G'=>v=vi (kY (fC l))):=by
 refine eN [(0,_)] func21 rfl ntmps21 rfl rfl hG ?_;refine aj 1 ?_;intro a H;refine dN (cs:=[_,_,_,_,_,_,_,_,_,_,_]) H wn rfl rfl rfl ?_;clear H;intro b1 a w hb1 H;refine aH 3 H ?_;clear H;intro a H;refine dx bC H wn rfl ?_;clear H;intro b3 a w hb3 H;refine bq bC 0 (vs:=[_]) _ H wn rfl rfl rfl rfl rfl rfl rfl rfl ?_;clear H;intro w H;dsimp only [List.set,setRow] at H;refine aH 3 H ?_;clear H;intro a H;refine aT iY (cs:=[_,_,_,_,_,_,_,_,_,_,_]) H wn rfl rfl (H.hp.cO 1 rfl rfl) rfl ?_;clear H;intro a H;refine s_call aaH H wn rfl (aeu _ _ H.ro D l hv hz) rfl ?_;clear H;rintro v9 G9 a w ⟨ba,bl,bp,rfl,hit⟩ ze H;refine aH 2 H ?_;clear H;intro a H;refine EN (ι:=Unit) (κ:=Empty) (Lc:=[(_,_)]) (fun (k:Nat) (gh:Unit)=>[(b3,.cells #[vi (kY ((fC l).take k))] 3 (0,0))]) (fun (k:Nat) (gh:Unit)=>[]) (fun (k:Nat) (gh:Unit) (g:GH)=>True) (fun x=>x.elim) (fun x=>x.elim) (fun x=>x.elim) (fun x=>x.elim) (()) (by exact H.bY (Pl:=[_,_]) (bT:=[_,_]) [1,0] (by decide) rfl) rfl TP (hit) (fun _ _ h=>h) rfl (fun k args g h=>by obtain ⟨_,_,_,_,rfl,_⟩:=Pg h;rfl) (fun _ _ _ _ _ h=>h) (fun x=>x.elim) (trivial) ?_ ?_ ?_
 ·clear H;intro l3 yH vE bk k args gh G3 w3 F3 B3 a hk3 tJ hI MJ MS acX H;obtain ⟨hk,vA,vn,vc,rfl,hfr⟩:=Pg hk3;dsimp only [uj,List.cons_append,List.nil_append] at H;refine LH ?_;refine dx afD H wn rfl ?_;clear H;intro b5 a w hb5 H;refine bq afD 0 (vs:=[_,_,_,_]) _ H wn rfl rfl rfl rfl rfl rfl rfl rfl ?_;clear H;intro w H;dsimp only [List.set,setRow] at H;refine aI ?_;refine MJ _ _ _ _ _ _ (by exact H.bY (Pl:=[_,_,_,_]) (bT:=[_,_,_,_]) [1,0,2,3] (by decide) rfl) ?_;clear H;intro w H;refine dG 4 H ?_;clear H;intro a H;refine s_call OW H wn rfl (QI _ _ H.ro (fC l)[k].items _ hfr (Nat.le_trans (Ph (iq hk)) hz)) rfl ?_;clear H;rintro v15 _ a w ⟨rfl,rfl⟩ - H;refine aH 1 H ?_;clear H;intro a H;(iterate 2 refine qK H wn rfl rfl rfl ?_;clear H;intro a H);refine aH 3 H ?_;clear H;have Vb:=hm (k+1) hk;rw [NT hk] at Vb;refine aj 4 ?_;intro a H;rw [← NT hk] at H;refine bq bC 3 (vs:=[_]) _ H wn rfl rfl rfl rfl rfl rfl rfl rfl ?_;clear H;intro w H;dsimp only [List.set,setRow] at H;refine aI ?_;refine MS (()) _ _ _ _ _ (by exact H.bY (Pl:=[_,_,_,_]) (bT:=[_,_,_]) [0,2,3] (by decide) rfl) ?_
  trivial
 ·clear H;intro Yy gh YX a w tJ hI H;dsimp only [lca,aQ] at H;refine dW ?_;rw [iL (by simp)] at H;refine dG 4 H ?_;clear H;intro a H;refine dw ?_;refine (Bl H 0 rfl ?_).1;clear H;intro a w H;dsimp only [List.eraseIdx_cons_succ,List.eraseIdx_cons_zero] at H;refine lv H results21 rfl ?_;exact H.rt rfl
 intro Dk x;exact x.elim
mutual
theorem avu (note:Bool) (t:Int):∀ x:av,(zH note t x).length < bM x.dat
 | .mk k c i tx h f r=>by
  have h4:=pU (.mk k c i tx h f r);have hf:=IX true t f;have hr:=agj note t r;dsimp only [av.text,av.head,av.flow,av.rows] at h4;rw [zH]
  split
  ·rw [jS];omega
  split <;> first|omega|(simp only [List.length_nil];omega)
theorem IX (note:Bool) (t:Int):∀ l:List av,(jm note t l).length≤aX l
 | []=>by simp [jm]
 | x :: l=>by
  have h1:=avu note t x;have h2:=IX note t l;rw [jm,jc]
  simp only [aX,dR,dY] at *;omega
theorem avw (note:Bool) (t:Int):∀ x:aS,(zI note t x).length≤bM x.dat
 | .mk h cs=>by
  have h4:=tO (.mk h cs);have hc:=agd note t cs;dsimp only [aS.head,aS.cells] at h4;rw [zI];omega
theorem agj (note:Bool) (t:Int):∀ l:List aS,(pR note t l).length≤eD l
 | []=>by simp [pR]
 | x :: l=>by
  have h1:=avw note t x;have h2:=agj note t l;rw [pR,jc]
  simp only [eD,dR,dY] at *;omega
theorem avs (note:Bool) (t:Int):∀ x:aR,(zG note t x).length≤bM x.dat
 | .mk i h f=>by
  have h4:=uZ (.mk i h f);have hf:=IX note (t+1) f;dsimp only [aR.head,aR.flow] at h4;rw [zG,jS];omega
theorem agd (note:Bool) (t:Int):∀ l:List aR,(qm note t l).length≤gH l
 | []=>by simp [qm]
 | x :: l=>by
  have h1:=avs note t x;have h2:=agd note t l;rw [qm,jc]
  simp only [gH,dR,dY] at *;omega
end
theorem aiS (G:GH) (w0:World) (hG:Hold G w0) (D:gM) (l:List av) (hv:ay G (.sl 11 (l.map av.dat)) (aM D.f)) (hz:aX l≤4294967296) :
  Calls prog 28 #[D.val] w0 (bB w0 G fun u G'=>ay G' (.sl 1 ((fC l).map fun f:kg=>[li f.id])) u):=by
 have hml:4294967299≤maxLen:=by decide
 have hn:(fC l).length≤4294967297:=by
  have:=IX false 0 l;rw [fC,jS];omega
 refine eN [(0,_)] func28 rfl ntmps28 rfl rfl hG ?_;refine aj 1 ?_;intro a H;refine dN (cs:=[_,_,_,_,_,_,_,_,_,_,_]) H wn rfl rfl rfl ?_;clear H;intro b1 a w hb1 H;refine aH 3 H ?_;clear H;intro a H;refine dx NP H wn rfl ?_;clear H;intro b3 a w hb3 H;refine aH 2 H ?_;clear H;intro a H;have H:=H.bY (Pl:=[_,_]) (bT:=[_,_]) [1,0] (by decide) rfl;refine tq ?_;refine aT iY (cs:=[_,_,_,_,_,_,_,_,_,_,_]) H wn rfl rfl (H.hp.cO 0 rfl rfl) rfl ?_;clear H;intro a H;refine s_call aaH H wn rfl (aeu _ _ H.ro D l hv hz) rfl ?_;clear H;rintro v6 G6 a w ⟨ba,bl,bp,rfl,hit⟩ Cv H;refine aH 2 H ?_;clear H;intro a H;refine EN (ι:=ak × List ak × OL) (κ:=Empty) (Lc:=[(_,_)]) (fun (k:Nat) (gh:ak × List ak × OL)=>[(b3,.cells #[gh.1] 52 (0,0))]) (fun (k:Nat) (gh:ak × List ak × OL)=>gh.2.2) (fun (k:Nat) (gh:ak × List ak × OL) (g:GH)=>cB 3 1 gh.1 k gh.2.1 gh.2.2∧bV g 1 (((fC l).take k).map fun f:kg=>[li f.id]) gh.2.1) (fun x=>x.elim) (fun x=>x.elim) (fun x=>x.elim) (fun x=>x.elim) ((.slice none 0 0,[],[])) (by exact H.WO (A:=[_,_])) rfl TP (hit) (fun _ _ h=>h) rfl (fun k args g h=>by obtain ⟨_,_,_,_,rfl,_⟩:=Pg h;rfl) (fun k i G G' hm h=>⟨h.1,h.2.mono hm⟩) (fun x=>x.elim) (⟨cB.nil,bV.nil⟩) ?_ ?_ ?_
 ·clear H;intro l3 yH vE bk k args gh G3 w3 F3 B3 a hk3 tJ hI MJ MS acX H;obtain ⟨v,xs,Lo⟩:=gh;dsimp only at hI H;obtain ⟨hk,vA,vn,vc,rfl,hfr⟩:=Pg hk3;dsimp only [uj,List.cons_append,List.nil_append] at H;obtain ⟨hrw,eU⟩:=hI;refine dG 2 H ?_;clear H;intro a H;refine aI ?_;refine MJ _ _ _ _ _ _ (by exact H) ?_;clear H;intro w H;refine dG 4 H ?_;clear H;intro a H;refine iy tN bC [_] [_] H wn rfl rfl rfl rfl rfl (by intro i q h;match i,h with|0,h=>exact h|n+1,h=>simp at h) rfl rfl ?_;clear H;intro b11 a w Hu H;refine oK (Li:=[_,_,_,_]++bk) (Lo:=Lo) (news:=[vi (fC l)[k].id]) tN bC rfl rfl (St.un (A:=[_,_,_,_]) H) wn rfl rfl hrw rfl (H.hp.cO 0 rfl rfl) rfl (by omega) (by omega) rfl ?_;clear H;intro v12 agH a w JW H;obtain ⟨A12,c12,rfl,-,-⟩:=JW.shape
  simp only [fT,kr,jv] at H
  refine bq NP 3 (vs:=[_]) _ H wn rfl rfl rfl rfl rfl rfl rfl rfl ?_;clear H;intro w H;dsimp only [List.set,setRow] at H;refine aI ?_;refine MS ((.slice A12 (k+1) c12,xs++[vi (fC l)[k].id],agH)) _ _ _ _ _ (by exact H.bY (Pl:=[_,_,_,_]) (bT:=[_,_,_]) [1,2,3] (by decide) rfl) ?_;exact ⟨JW,by rw [gI hk,lg];exact eU.snoc (aqj _ _) rfl⟩
 ·clear H;intro Yy gh YX a w tJ hI H;obtain ⟨v,xs,Lo⟩:=gh;dsimp only at hI H;dsimp only [lca,aQ] at H;obtain ⟨hrw,eU⟩:=hI;rw [bE] at hrw eU;rw [wL] at eU;refine dW ?_;refine dG 4 H ?_;clear H;intro a H;refine dw ?_;refine (Bl H 0 rfl ?_).1;clear H;intro a w H;dsimp only [List.eraseIdx_cons_succ,List.eraseIdx_cons_zero] at H;refine lv H results28 rfl ?_;obtain ⟨Gr,hmr,hrep,H⟩:=St.vI (Li:=[_,_]) H hrw (rows:=(fC l).map fun f:kg=>[li f.id]) (by simp) eU;exact H.rt hrep
 intro Dk x;exact x.elim
theorem afL (l:List av) (hz:aX l≤1073741824) (k:Nat) (hk:k≤(fC l).length):0≤kY ((fC l).take k)∧kY ((fC l).take k)≤4611686018427387904:=by
 have hn:=IX false 0 l
 have hl:(fC l).length≤1073741825:=by rw [fC,jS];omega
 have h:∀ k,k≤(fC l).length→0≤kY ((fC l).take k)∧kY ((fC l).take k)≤k*1073741824:=by
  intro k
  induction k with
  | zero=>intro _;exact ⟨by simp [kY],by simp [kY]⟩
  | succ k ih =>
   intro hk;obtain ⟨h1,h2⟩:=ih (by omega);have h3:=Ph (iq (show k < (fC l).length by omega))
   have h4:0≤pX (fC l)[k].items∧pX (fC l)[k].items≤aX (fC l)[k].items:=by
    unfold pX
    have h5:=XR (fC l)[k].items;have h6:=RO (fC l)[k].items
    split <;> omega
   rw [NT (by omega)]
   push_cast
   omega
 obtain ⟨h1,h2⟩:=h k hk;exact ⟨h1,by omega⟩
end
section
open Go.RowKit
theorem Uc:∀ args w,(callFunc 61 args).run prog w=.ok (.enter 61 args) w:=enters func61 rfl (by kernel_rfl)
mutual
/-- The heads of items, rows and cells, in document order. -/
def AO:av→List cu
 | .mk k _ _ _ h f r=>h :: ((if k=6 then kU f else [])++(if k=7 then tu r else []))
def kU:List av→List cu
 | []=>[]
 | x :: r=>AO x++kU r
def AU:aS→List cu
 | .mk h c=>h :: uG c
def tu:List aS→List cu
 | []=>[]
 | x :: r=>AU x++tu r
def AL:aR→List cu
 | .mk _ h f=>h :: kU f
def uG:List aR→List cu
 | []=>[]
 | x :: r=>AL x++uG r
end
theorem anu (x:av):AO x=x.head :: ((if x.kind=6 then kU x.flow else [])++(if x.kind=7 then tu x.rows else [])):=by cases x;rw [AO];rfl
theorem anD (x:aS):AU x=x.head :: uG x.cells:=by cases x;rw [AU];rfl
theorem amS (x:aR):AL x=x.head :: kU x.flow:=by cases x;rw [AL];rfl
def HZ (h:cu):AP:=fun args G=>∃ p d y:Option Addr × Nat × Nat,args=[.agg #[aM p,vi h.marks.ins,vi h.marks.move,aM d,aM y]]∧gW G h (aM p) (aM d) (aM y)
theorem Vq {G:GH} {h:cu} {pA dA yA:Option Addr} {pn pc dn dc yn yc:Nat} (hr:gW G h (.slice pA pn pc) (.slice dA dn dc) (.slice yA yn yc)):HZ h [.agg #[.slice pA pn pc,vi h.marks.ins,vi h.marks.move,.slice dA dn dc,.slice yA yn yc]] G:=⟨(pA,pn,pc),(dA,dn,dc),(yA,yn,yc),rfl,hr⟩
def SG (n:Nat):Prop:=∀ (fv:ak) (Gi:GH) (xs:List AP) (J:Nat→GH→OL→Prop) (G:GH) (L:OL) (w0:World) (j:Nat) (l:List av) (v:ak),
 (∀ b o,Gi b=some o→G b=some o)→Yw prog fv Gi xs J→EB J→J j G L→fM G L w0→ay G (.sl 11 (l.map av.dat)) v→aX l < n→(∀ i a,(kU l)[i]?=some a→xs[j+i]?=some (HZ a)) →
 Calls prog 61 #[v,fv] w0 (fB w0 G L fun _ G' L'=>J (j+(kU l).length) G' L')
theorem aos {n:Nat} (ih:SG n) (hn:n≤4294967296):SG (n+1):=by
 intro fv Gi xs J G L w0 j0 l v hGi hcb lT hJ0 hO hv hz hx0;obtain ⟨A,c,rfl,hc1,hc2,hg⟩:=hv.slice;rw [bE] at *;have hll:=BG l;refine iM (N:=59) (T:=[(0,_),(1,_)]) func61 rfl ntmps61 rfl rfl hO ?_;refine aj 6 ?_;intro a H;refine dD (ι:=Nat × Nat × OL × GH) (Tc:=[(1,_),(10,_),(11,_)]) (Lc:=[]) (fun gh=>[(12,vi gh.1)]) (fun gh=>[]++gh.2.2.1) (fun gh=>gh.2.2.2) (fun gh=>gh.1≤l.length∧(∀ b o,G b=some o→gh.2.2.2 b=some o)∧Now xs HZ J (j0+(kU l).length) gh.2.1 (kU (l.drop gh.1)) gh.2.2.2 gh.2.2.1) (fun gh=>l.length - gh.1) ((0,j0,L,G)) sB ?_ ?_
 ·exact ⟨by omega,fun _ _ h=>h,⟨hJ0,hx0,rfl⟩⟩
 clear H;rintro ⟨k,j,Lt,g1⟩ a w hI H;dsimp only at hI H;obtain ⟨hk,hgm,bQ⟩:=hI;dsimp only [lca,aQ] at H;refine cK 4 H ?_ ?_ <;> clear H
 ·intro oJ
  have hk2:k < l.length:=by omega
  obtain ⟨b,o,pA,pn,pc,dA,dn,dc,yA,yn,yc,fA,fn,fc,rA,rn,rc,rfl,hrow,hhd,hfl,hrw⟩:=AA hk2 hg;replace hrow:=fun j u hj=>aD hgm (hrow j u hj);replace hhd:=hhd.mono hgm;replace hfl:=hfl.mono hgm;replace hrw:=hrw.mono hgm;have hrn:=hrw.len;rw [bE] at hrn;subst hrn;have hsz1:=KE hk2;rw [jy hk2] at bQ
  simp only [kU,anu,fT,kr] at bQ
  obtain ⟨x,hx⟩:∃ x,x=l[k]:=⟨_,rfl⟩;rw [← hx] at bQ hrow hhd hfl hrw hsz1;have hrl:=BH x.rows;refine aj 5 ?_;intro a H;refine aT dU (cs:=[_,_,_,_,_,_,_,_,_,_,_]) H wn rfl rfl (fun j v hj=>H.hp.aC (hrow j v hj)) rfl ?_;clear H;intro a H;refine dx dU H wn rfl ?_;clear H;intro b5 a w hb5 H;refine bq dU 0 (vs:=[_,_,_,_,_,_,_,_,_,_,_]) _ H wn rfl rfl rfl rfl rfl rfl rfl rfl ?_;clear H;intro w H;dsimp only [List.set,setRow] at H;refine aH 4 H ?_;clear H;intro a H;refine aT gG (cs:=[_,_,_,_,_]) H wn rfl rfl (H.hp.cO 0 rfl rfl) rfl ?_;clear H;intro a H;refine tL (Li:=[_]) (L:=Lt) H wn rfl rfl (hcb _ _ _ _ _ ⟨_,bQ.head,Vq hhd⟩ (fun b o h=>hgm b o (hGi b o h)) bQ.now (Hp.owns (Li:=[_]) H.hp)) rfl ?_;clear H;intro v19 F9 SK a w anw oG H;have pE:=bQ.step anw;refine eO 10 H ?_ ?_ <;> clear H
  ·intro iT
   rw [au iT,ah (by omega),jv] at pE;refine aj 4 ?_;intro a H;refine fu Uc (Li:=[_]) (L:=SK) H wn rfl (ih fv Gi xs J _ _ _ (j+1) x.flow _ (fun b o h=>oG b o (hgm b o (hGi b o h))) hcb lT pE.now (Hp.owns (Li:=[_]) H.hp) (hfl.mono oG) (by omega) pE.part) rfl ?_;clear H;intro v27 YJ agT a w anx acg H;refine aH 4 H ?_;clear H;intro a H;refine aI ?_;refine bR ((k+1,j+1+(kU x.flow).length,agT,YJ)) (by exact (H.bY (Pl:=[_]) (bT:=[]) [] (by decide) rfl).sub ⟨rfl,rfl,rfl,rfl,aY⟩) ?_ ?_
   ·(try dsimp only);exact ⟨by omega,fun b o h=>acg b o (oG b o (hgm b o h)),pE.jump anx⟩
   first|omega|(dsimp only;omega)
  intro iT
  rw [ah iT,jv] at pE;refine goB 4 ?_ ?_
  ·intro p28
   rw [au p28] at pE;refine aj 7 ?_;intro a H;refine dD (ι:=Nat × Nat × OL × GH) (Tc:=[(1,_),(10,_),(11,_),(12,_),(31,_),(32,_)]) (Lc:=[(_,_)]) (fun gh=>[(33,vi gh.1)]) (fun gh=>[]++gh.2.2.1) (fun gh=>gh.2.2.2) (fun gh=>gh.1≤x.rows.length∧(∀ b o,F9 b=some o→gh.2.2.2 b=some o)∧Now xs HZ J (j0+(kU l).length) gh.2.1 (tu (x.rows.drop gh.1)++kU (l.drop (k+1))) gh.2.2.2 gh.2.2.1) (fun gh=>x.rows.length - gh.1) ((0,j+1,SK,F9)) sB ?_ ?_
   ·exact ⟨by omega,fun _ _ h=>h,pE⟩
   clear H;rintro ⟨rk,j3,Lt3,g3⟩ a w hI H;dsimp only at hI H;obtain ⟨MZ,hg3,rz⟩:=hI;dsimp only [lca,aQ] at H;refine cK 4 H ?_ ?_ <;> clear H
   ·intro p34
    have hk3:rk < x.rows.length:=by omega
    obtain ⟨b2,o2,qA,qn,qc,eA,en,ec,zA,zn,zc,cA,cn,cc,rfl,hrow,yB,hcl⟩:=Eh hk3 ((hrw.mono oG).mono hg3).at_;have hcn:=hcl.len;rw [bE] at hcn;subst hcn;have hsz2:=I6 hk3;have hcs:=BD x.rows[rk].cells;rw [jy hk3] at rz
    simp only [tu,anD,fT,kr] at rz
    obtain ⟨y,hy⟩:∃ y,y=x.rows[rk]:=⟨_,rfl⟩;rw [← hy] at rz hrow yB hcl hsz2 hcs;refine aj 5 ?_;intro a H;refine aT jw (cs:=[_,_,_,_,_,_]) H wn rfl rfl (fun j v hj=>H.hp.aC (hrow j v hj)) rfl ?_;clear H;intro a H;refine dx jw H wn rfl ?_;clear H;intro b7 a w qD H;refine bq jw 0 (vs:=[_,_,_,_,_,_]) _ H wn rfl rfl rfl rfl rfl rfl rfl rfl ?_;clear H;intro w H;dsimp only [List.set,setRow] at H;refine aH 4 H ?_;clear H;intro a H;refine aT gG (cs:=[_,_,_,_,_]) H wn rfl rfl (H.hp.cO 0 rfl rfl) rfl ?_;clear H;intro a H;refine tL (Li:=[_,_]) (L:=Lt3) H wn rfl rfl (hcb _ _ _ _ _ ⟨_,rz.head,Vq yB⟩ (fun b o h=>hg3 b o (oG b o (hgm b o (hGi b o h)))) rz.now (Hp.owns (Li:=[_,_]) H.hp)) rfl ?_;clear H;intro v40 KM Gp a w anz D6 H;have aoZ:=rz.step anz;refine aH 8 H ?_;clear H;intro a H;refine dD (ι:=Nat × Nat × OL × GH) (Tc:=[(1,_),(10,_),(11,_),(12,_),(31,_),(32,_),(33,_),(42,_),(43,_)]) (Lc:=[(_,_),(_,_)]) (fun gh=>[(44,vi gh.1)]) (fun gh=>[]++gh.2.2.1) (fun gh=>gh.2.2.2) (fun gh=>gh.1≤y.cells.length∧(∀ b o,KM b=some o→gh.2.2.2 b=some o)∧Now xs HZ J (j0+(kU l).length) gh.2.1 (uG (y.cells.drop gh.1)++(tu (x.rows.drop (rk+1))++kU (l.drop (k+1)))) gh.2.2.2 gh.2.2.1) (fun gh=>y.cells.length - gh.1) ((0,j3+1,Gp,KM)) sB ?_ ?_
    ·exact ⟨by omega,fun _ _ h=>h,aoZ⟩
    clear H;rintro ⟨ck,j4,Lt4,g4⟩ a w hI H;dsimp only at hI H;obtain ⟨hck,hg4,pF⟩:=hI;dsimp only [lca,aQ] at H;refine cK 4 H ?_ ?_ <;> clear H
    ·intro p45
     have hk4:ck < y.cells.length:=by omega
     obtain ⟨b3,o3,sA,sn,sc,tA,tn,tc,uA,un,uc,gA,gn,gc,rfl,hrow,hch,hcf⟩:=BR hk4 ((hcl.mono D6).mono hg4).at_;have J3:=KD hk4;rw [jy hk4] at pF
     simp only [uG,amS,fT,kr] at pF
     refine aj 5 ?_;intro a H;refine aT iI (cs:=[_,_,_,_,_,_,_]) H wn rfl rfl (fun j v hj=>H.hp.aC (hrow j v hj)) rfl ?_;clear H;intro a H;refine dx iI H wn rfl ?_;clear H;intro b9 a w qE H;refine bq iI 0 (vs:=[_,_,_,_,_,_,_]) _ H wn rfl rfl rfl rfl rfl rfl rfl rfl ?_;clear H;intro w H;dsimp only [List.set,setRow] at H;refine aH 4 H ?_;clear H;intro a H;refine aT gG (cs:=[_,_,_,_,_]) H wn rfl rfl (H.hp.cO 0 rfl rfl) rfl ?_;clear H;intro a H;refine tL (Li:=[_,_,_]) (L:=Lt4) H wn rfl rfl (hcb _ _ _ _ _ ⟨_,pF.head,Vq hch⟩ (fun b o h=>hg4 b o (D6 b o (hg3 b o (oG b o (hgm b o (hGi b o h)))))) pF.now (Hp.owns (Li:=[_,_,_]) H.hp)) rfl ?_;clear H;intro v51 G51 agU a w anA VA H;have Ib:=pF.step anA;refine aH 5 H ?_;clear H;intro a H;refine fu Uc (Li:=[_,_,_]) (L:=agU) H wn rfl (ih fv Gi xs J _ _ _ (j4+1) y.cells[ck].flow _ (fun b o h=>VA b o (hg4 b o (D6 b o (hg3 b o (oG b o (hgm b o (hGi b o h))))))) hcb lT Ib.now (Hp.owns (Li:=[_,_,_]) H.hp) (hcf.mono VA) (by omega) Ib.part) rfl ?_;clear H;intro v55 KO agV a w anB wY H;refine aH 4 H ?_;clear H;intro a H;refine aI ?_;refine bR ((ck+1,j4+1+(kU y.cells[ck].flow).length,agV,KO)) (by exact (H.bY (Pl:=[_,_,_]) (bT:=[_,_]) [1,2] (by decide) rfl).sub ⟨rfl,rfl,rfl,rfl,rfl,rfl,rfl,rfl,rfl,rfl,aY⟩) ?_ ?_
     ·(try dsimp only);exact ⟨by omega,fun b o h=>wY b o (VA b o (hg4 b o h)),Ib.jump anB⟩
     first|omega|(dsimp only;omega)
    intro p45
    refine aj 4 ?_;intro a H;refine aI ?_;refine bR ((rk+1,j4,Lt4,g4)) (by exact (H.bY (Pl:=[_,_]) (bT:=[_]) [1] (by decide) rfl).sub ⟨rfl,rfl,rfl,rfl,rfl,rfl,rfl,aY⟩) ?_ ?_
    ·(try dsimp only);exact ⟨by omega,fun b o h=>hg4 b o (D6 b o (hg3 b o h)),by rw [eX (by omega),uG,jv] at pF;exact pF⟩
    first|omega|(dsimp only;omega)
   intro p34
   refine aj 4 ?_;intro a H;refine aI ?_;refine bR ((k+1,j3,Lt3,g3)) (by exact (H.bY (Pl:=[_]) (bT:=[]) [] (by decide) rfl).sub ⟨rfl,rfl,rfl,rfl,aY⟩) ?_ ?_
   ·(try dsimp only);exact ⟨by omega,fun b o h=>hg3 b o (oG b o (hgm b o h)),by rw [eX (by omega),tu,jv] at rz;exact rz⟩
   first|omega|(dsimp only;omega)
  intro p28
  rw [ah p28,jv] at pE;refine aj 4 ?_;intro a H;refine aI ?_;refine bR ((k+1,j+1,SK,F9)) (by exact (H.bY (Pl:=[_]) (bT:=[]) [] (by decide) rfl).sub ⟨rfl,rfl,rfl,rfl,aY⟩) ?_ ?_
  ·(try dsimp only);exact ⟨by omega,fun b o h=>oG b o (hgm b o h),pE⟩
  first|omega|(dsimp only;omega)
 intro oJ
 intro a H;refine Au ?_;refine (leave0 H results61 ?_).2
 exact H.hp.bU (L':=Lt) (by repeat (first|exact bZ _|apply List.Sublist.cons)) (by
   rw [eX (by omega),kU] at bQ;have:=bQ.len
   simp only [List.length_nil,mO] at this
   rw [← this];exact bQ.now)
theorem abO:∀ n:Nat,n≤4294967297→SG n
 | 0,_=>fun _ _ _ _ _ _ _ _ _ _ _ _ _ _ _ _ h=>absurd h (by omega)
 | n+1,hn=>aos (abO n (by omega)) (by omega)
end
end Go.Proofs.YthmanofbmnfemaaGreat
