/-
  What the claim stands on, part 4: Cid Mt Hdr Hea Frm Itc Vis Okd Ubf Av16 Mz Vn15 Sp16 Avi16 Gco Lst16 Rmv16 Rc Ct Nf Nm Par It Div Nrm Pas L14 L14b L14c L14d L14e.
-/
import Derived.Test.YtggpjlchglgodaaGreatWac
namespace Go.Proofs.YtggpjlchglgodaaGreat
set_option linter.all false
open Go.Proofs.Tryz
open Go.RowKit
section
theorem asM:dz prog 115 4 4:=⟨Z⟩
theorem afA:dz prog 115 3 3:=⟨Z⟩
variable {us:List Int}
theorem Ir (x:Int):∀ l:List Int,(vQ x (gB l)).getD (.bool false)=.bool (decide (x∈l))
 | []=>rfl
 | k :: r=>by
  have ih:=Ir x r;rw [gB,eP,vQ]
  by_cases e:k=x
  ·subst e;simp
  rw [ay e,show (r.map fun k=>(k,Value.bool true))=gB r from rfl,ih]
  simp [show x≠k from fun h=>e h.symm]
def Ta (st:List cB) (v:Int):Int:=((st.find? fun s=>decide (s.id=v)).map cB.kind).getD 0
theorem Og (x:Int):∀ l:List cB,(vQ x (BG l)).getD (vi 0)=vi (Ta l x)
 | []=>rfl
 | s :: r=>by
  have ih:=Og x r;rw [BG,eP,vQ]
  by_cases e:s.id=x
  ·subst e;simp [Ta]
  rw [ay e,show (r.map fun s=>(s.id,vi s.kind))=BG r from rfl,ih]
  simp [Ta,e]
def qH (us bL:List Int) (x:Int):Int:=if ¬ (1<=x∧x<=1073741824)∨x∈us then 18 else if x∈bL then 7 else 0
def ng (us bL:List Int) (x:Int):List Int:=if qH us bL x=0 then bL++[x] else bL
theorem ayf (l:List Int) (x:Int):gB (l++[x])=gB l++[(x,.bool true)]:=by simp [gB]
theorem abB {p:Prop} (h:p:=by
 first
  | exact H.hp.gI ⟨by rw [e],by rw [ng,aH e],O⟩
  | exact H.hp.gI ⟨by rw [e],by rw [ng,ay (by rw [e];decide)],rfl⟩):p:=h
theorem U4 {p:Prop} (h:p:=by
 intro a H;refine lr H results207 O ?_
 exact abB):p:=h
theorem VQ (G:GH) (L:OL) (w0:World) (st:List cB) (li:List fK) (rv:List dw) (b ms ml mr mb mu:Nat) (n:Int) (bL:List Int) (x:Int) (hck:wY us G st li rv ms ml mr mu) (hO:fM G (gU b ms ml mr mb mu n :: (mb,fG (gB bL)) :: L) w0) :
  Calls prog 207 #[(aJ b 0),vi x] w0 (fB w0 G (gU b ms ml mr mb mu n :: (mb,fG (gB bL)) :: L) fun u G' L'=>u=vi (qH us bL x)∧L'=gU b ms ml mr mb mu n :: (mb,fG (gB (ng us bL x))) :: L∧G=G'):=by
 refine iB (N:=29) (T:=[(0,_),(1,_)]) func207 O ntmps207 O O hO ?_;intro a H;refine kP H (SR fun _ K1=>au K1 O (SQ fun _ K2=>SB (SR fun _ K3=>Rm O ?_)));clear H K1;intro a H;refine s_call yM H wn O (zi _ _ H.ro x 1 1073741824) O ?_;clear H;rintro v7 _ a w ⟨rfl,rfl⟩ - H;refine kH H (Rn O (Rm O (Sp 9 O ?_ ?_))) <;> clear H
 ·intro h9 a H
  try have p9:=dT h9
  refine kH H (bg h9 O (bg h9 O (Pt h9 O (au K3 O (Ct O O (SQ fun _ K4=>?_))))));clear H K3;intro a H
  have e:qH us bL x=18:=by rw [qH,aH (by first|(simp_all;done)|(simp_all;omega))]
  refine kP H (SC (aZ K4 O ?_));clear H K4;exact U4
 intro h9 a H
 try have p9:=dF h9
 refine kH H (YM h9 O ?_);clear H;intro a H;refine zx H (wg H O O h9) O O ?_;clear H;intro a H;refine kH H (YF asM h9 O (YO uO 0 h9 O (YM h9 O ?_)));clear H;intro a H;refine CY (zv:=.bool false) zF mQ Z H (wg H O O h9) O O (H.ro _ _ hck.use) O ?_;clear H;intro a H;rw [Ir] at H;refine kH H (Pf h9 O (au K3 O (Cd O ?_ ?_))) <;> clear H K3
 ·intro h5 a H
  try have p5:=dT h5
  refine bP (fun _ K5=>?_)
  have e:qH us bL x=18:=by rw [qH,aH (by first|(simp_all;done)|(simp_all;omega))]
  refine kP H (SC (aZ K5 O ?_));clear H K5;exact U4
 intro h5 a H
 try have p5:=dF h5
 have hin:¬ (¬ (1<=x∧x<=1073741824)∨x∈us):=by first|(simp_all;done)|(simp_all;omega)
 refine kP H (SR fun _ K6=>Rm O (Rk O (aU afA uO 0 O O (Rm O ?_))));clear H;intro a H;refine CY (zv:=.bool false) zF mQ Z H wn O O (H.hp.own _ (gH _ eT)) O ?_;clear H;intro a H;rw [Ir] at H;refine kH H (au K6 O (Cd O ?_ ?_)) <;> clear H K6
 ·intro cK a H
  refine bP (fun _ K7=>?_)
  have e:qH us bL x=7:=by rw [qH,ay hin,aH (pK cK)]
  refine kP H (SC (aZ K7 O ?_));clear H K7;exact U4
 intro cK a H
 have hx:x∉bL:=of_decide_eq_false cK;have hnew:vQ x (gB bL)=none:=Oe (by simpa [gB,List.map_map,Function.comp_def] using hx)
 have e:qH us bL x=0:=by rw [qH,ay hin,ay hx]
 refine kP H (Kc K2 (SR fun _ K8=>Rm O (Rk O (aU afA uO 0 O O (Rm O ?_)))));clear H K2;intro a H;refine Ow (i:=1) zF mQ H wn O O O O hnew ?_;clear H;intro w H;dsimp only [List.set] at H;rw [<- ayf] at H;refine K8 _ _ ?_;clear K8;refine kP H (SR fun _ K9=>au K9 O ?_);clear H K9;intro a H;refine lr H results207 O ?_
 exact abB
def Ag (st:List cB) (nP:List Int) (key v:Int):Int :=
 if key=20∨key=1 then dN (decide (v≠0∧Ta st v≠(if key=1 then 2 else 1))) 25 else if key=33 then dN (decide (v≠0∧v∉nP)) 26 else 0
theorem Mr {p:Prop} (h:p:=by
 exact H.rt ⟨dh vi (by unfold Ag;(repeat' split) <;> first|rfl|(simp_all;done)|(exfalso;simp_all;done)|(congr 1;rw [zK];simp only [Bool.not_eq_true',Dr,sW];exact ⟨fun h=>⟨p31,h⟩,fun h=>h.2⟩)),O⟩):p:=h
theorem Vp {p:Prop} (h:p:=by
 intro a H;refine lr H results134 O ?_
 exact Mr):p:=h
theorem MB {p:Prop} (h:p:=by
 refine lr H results134 O ?_
 exact Mr):p:=h
theorem adS (G:GH) (w0:World) (hG:Hold G w0) (st:List cB) (li:List fK) (rv:List dw) (b ms ml mr mb mu:Nat) (n:Int) (key v:Int) (hck:wY us G st li rv ms ml mr mu) (hb:G b=some (gU b ms ml mr mb mu n).2) :
  Calls prog 134 #[(aJ b 0),vi key,vi v] w0 (bG w0 G fun u G'=>u=vi (Ag st (li.map fK.id) key v)∧G=G'):=by
 have hc0:aI G b 0=some (.map (some ms)):=by unfold aI;rw [hb];rfl
 have hc1:aI G b 1=some (.map (some ml)):=by unfold aI;rw [hb];rfl
 refine eN [(0,_),(1,_),(2,_)] func134 O ntmps134 O O hG ?_;intro a H;refine kP H (SR fun _ K1=>au K1 O (SQ fun _ K2=>SR fun _ K3=>Rm O (Kz K3 (SB (SQ fun _ K4=>SR fun _ K5=>Rc O (au K5 O (Cd O ?_ ?_))))))) <;> clear H K1 K3 K5
 ·intro h9 a H
  try have p9:=dT h9
  refine kP H (Kc K4 (Ct O h9 (SR fun _ K6=>au K6 O (SQ fun _ K7=>SR fun _ K8=>Rm O (Rc O (Kz K8 (Cd O ?_ ?_))))))) <;> clear H K4 K6 K8
  ·intro fT a H
   try have pz:=dT fT
   refine kP H (SC (aZ K7 O (SR fun _ K9=>Rm O (Rc O (Rm O (Sp 16 O ?_ ?_)))))) <;> clear H K7
   ·intro h16 a H
    try have p16:=dT h16
    refine kH H (YM h16 O ?_);clear H;intro a H;refine zx H (wg H O O h16) O O ?_;clear H;intro a H;refine kH H (YF M7 h16 O (YR OB h16 O (by assumption) ?_));clear H;intro a H;refine kH H (YM h16 O ?_);clear H;intro a H;refine CY (zv:=vi 0) IQ mQ Z H (wg H O O h16) O O (H.ro _ _ hck.sty) O ?_;clear H;intro a H;rw [Og] at H;refine kH H (YM h16 O (YC h16 O (Pt h16 O ?_)));clear H;intro a H;refine s_call lX H wn O (mD _ _ H.ro _ 25) O ?_;clear H;rintro v26 _ a w ⟨rfl,rfl⟩ - H;refine kH H (au K9 O ?_);clear H K9;intro a H;refine lr H results134 O ?_
    exact Mr
   intro h16 a H
   try have p16:=dF h16
   refine kH H (bg h16 O (bg h16 O (aR h16 O (Pf h16 O ?_))));clear H;intro a H;refine s_call lX H wn O (mD _ _ H.ro _ 25) O ?_;clear H;rintro v26 _ a w ⟨rfl,rfl⟩ - H;refine kH H (au K9 O ?_);clear H K9;intro a H;exact MB
  intro fT a H
  try have pz:=dF fT
  refine kP H (Kc K7 (SR fun _ aT=>Rm O (Rc O (Rm O (Sp 16 O ?_ ?_))))) <;> clear H K7
  ·intro h16 a H
   try have p16:=dT h16
   refine kH H (YM h16 O ?_);clear H;intro a H;refine zx H (wg H O O h16) O O ?_;clear H;intro a H;refine kH H (YF M7 h16 O (YR OB h16 O (by assumption) ?_));clear H;intro a H;refine kH H (YM h16 O ?_);clear H;intro a H;refine CY (zv:=vi 0) IQ mQ Z H (wg H O O h16) O O (H.ro _ _ hck.sty) O ?_;clear H;intro a H;rw [Og] at H;refine kH H (YM h16 O (YC h16 O (Pt h16 O ?_)));clear H;intro a H;refine s_call lX H wn O (mD _ _ H.ro _ 25) O ?_;clear H;rintro v26 _ a w ⟨rfl,rfl⟩ - H;refine kH H (au aT O ?_);clear H aT;intro a H;exact MB
  intro h16 a H
  try have p16:=dF h16
  refine kH H (bg h16 O (bg h16 O (aR h16 O (Pf h16 O ?_))));clear H;intro a H;refine s_call lX H wn O (mD _ _ H.ro _ 25) O ?_;clear H;rintro v26 _ a w ⟨rfl,rfl⟩ - H;refine kH H (au aT O ?_);clear H aT;exact Vp
 intro h9 a H
 try have p9:=dF h9
 refine kP H (SC (Rc O (aZ K4 O (Cd O ?_ ?_)))) <;> clear H K4
 ·intro h9 a H
  try have p9:=dT h9
  refine kP H (SR fun _ bJ=>au bJ O (SQ fun _ bO=>SR fun _ bU=>Rm O (Rc O (Kz bU (Cd O ?_ ?_))))) <;> clear H bJ bU
  ·intro fT a H
   try have pz:=dT fT
   refine kP H (SC (aZ bO O (SR fun _ bZ=>Rm O (Rc O (Rm O (Sp 16 O ?_ ?_)))))) <;> clear H bO
   ·intro h16 a H
    try have p16:=dT h16
    refine kH H (YM h16 O ?_);clear H;intro a H;refine zx H (wg H O O h16) O O ?_;clear H;intro a H;refine kH H (YF M7 h16 O (YR OB h16 O (by assumption) ?_));clear H;intro a H;refine kH H (YM h16 O ?_);clear H;intro a H;refine CY (zv:=vi 0) IQ mQ Z H (wg H O O h16) O O (H.ro _ _ hck.sty) O ?_;clear H;intro a H;rw [Og] at H;refine kH H (YM h16 O (YC h16 O (Pt h16 O ?_)));clear H;intro a H;refine s_call lX H wn O (mD _ _ H.ro _ 25) O ?_;clear H;rintro v26 _ a w ⟨rfl,rfl⟩ - H;refine kH H (au bZ O ?_);clear H bZ;intro a H;refine lr H results134 O ?_
    exact Mr
   intro h16 a H
   try have p16:=dF h16
   refine kH H (bg h16 O (bg h16 O (aR h16 O (Pf h16 O ?_))));clear H;intro a H;refine s_call lX H wn O (mD _ _ H.ro _ 25) O ?_;clear H;rintro v26 _ a w ⟨rfl,rfl⟩ - H;refine kH H (au bZ O ?_);clear H bZ;intro a H;exact MB
  intro fT a H
  try have pz:=dF fT
  refine kP H (Kc bO (SR fun _ dP=>Rm O (Rc O (Rm O (Sp 16 O ?_ ?_))))) <;> clear H bO
  ·intro h16 a H
   try have p16:=dT h16
   refine kH H (YM h16 O ?_);clear H;intro a H;refine zx H (wg H O O h16) O O ?_;clear H;intro a H;refine kH H (YF M7 h16 O (YR OB h16 O (by assumption) ?_));clear H;intro a H;refine kH H (YM h16 O ?_);clear H;intro a H;refine CY (zv:=vi 0) IQ mQ Z H (wg H O O h16) O O (H.ro _ _ hck.sty) O ?_;clear H;intro a H;rw [Og] at H;refine kH H (YM h16 O (YC h16 O (Pt h16 O ?_)));clear H;intro a H;refine s_call lX H wn O (mD _ _ H.ro _ 25) O ?_;clear H;rintro v26 _ a w ⟨rfl,rfl⟩ - H;refine kH H (au dP O ?_);clear H dP;intro a H;exact MB
  intro h16 a H
  try have p16:=dF h16
  refine kH H (bg h16 O (bg h16 O (aR h16 O (Pf h16 O ?_))));clear H;intro a H;refine s_call lX H wn O (mD _ _ H.ro _ 25) O ?_;clear H;rintro v26 _ a w ⟨rfl,rfl⟩ - H;refine kH H (au dP O ?_);clear H dP;exact Vp
 intro h9 a H
 try have p9:=dF h9
 refine kP H (SR fun _ dY=>Rc O (au dY O (Cd O ?_ ?_))) <;> clear H dY
 ·intro h27 a H
  try have p27:=dT h27
  refine kP H (SR fun _ dQ=>Rm O (Rc O (Rm O (Sp 31 O ?_ ?_)))) <;> clear H
  ·intro h31 a H
   try have p31:=dT h31
   refine kH H (YM h31 O ?_);clear H;intro a H;refine zx H (wg H O O h31) O O ?_;clear H;intro a H;refine kH H (YF afz h31 O (YR uO h31 O (by assumption) ?_));clear H;intro a H;refine kH H (YM h31 O ?_);clear H;intro a H;refine CY (zv:=.bool false) zF mQ Z H (wg H O O h31) O O (H.ro _ _ hck.nP) O ?_;clear H;intro a H;rw [Ir] at H;refine kH H (YN h31 O (Pt h31 O ?_));clear H;intro a H;refine s_call lX H wn O (mD _ _ H.ro _ 26) O ?_;clear H;rintro v40 _ a w ⟨rfl,rfl⟩ - H;refine kH H (au dQ O ?_);clear H dQ;intro a H;exact MB
  intro h31 a H
  try have p31:=dF h31
  refine kH H (bg h31 O (aR h31 O (aR h31 O (Pf h31 O ?_))));clear H;intro a H;refine s_call lX H wn O (mD _ _ H.ro _ 26) O ?_;clear H;rintro v40 _ a w ⟨rfl,rfl⟩ - H;refine kH H (au dQ O ?_);clear H dQ;exact Vp
 intro h27 a H
 try have p27:=dF h27
 refine kP H (Kc K2 (SR fun _ eX=>au eX O ?_));clear H K2 eX;intro a H;refine lr H results134 O ?_
 exact Mr
end
section
section
variable {N:Nat} {D:List Deferred} {w0:World} {F:Nat->Prop} {G0 G G':GH} {L L':OL} {T:List (Nat × ah)}
variable {r:Option Nat} {P:Program} {ops:Array Oper} {Q:Exit->Act->World->Prop} {rest:List Oper} {a:Act} {w w':World}
theorem Ey {ι:Type} {Tc:List (Nat × ah)} {l:List Oper} (k:Nat) (Tv:ι->List (Nat × ah)) (Pr:ι->Prop) (_:St N D w0 F G0 G L Tc a w)
  (h1:(∀ i a w,Pr i->St N D w0 F G0 G L (Tv i++Tc) a w->WL r P ops Q (l.drop k) a w)->WL r P ops Q l a w)
  (h2:∀ i a w,Pr i->St N D w0 F G0 G L (Tv i++Tc) a w->WL r P ops Q (l.drop k) a w):WL r P ops Q l a w:=h1 h2
theorem Change.back (h:Change w w' G G' L L'):Change w w' G G L L' :=
 ⟨h.os,h.tape,h.output,h.size,h.fr,fun _ _ h=>h,fun _ _ h=>.inl h,⟨fun k o hk=>h.owns.ro k o (h.gm k o hk),h.owns.own,fun p hp=>(by
  have hs:=h.owns.sep p hp
  cases hg:G p.1 with
  | none=>rfl
  | some o=>have:=h.gm _ _ hg;rw [hs] at this;cases this),h.owns.nd⟩,h.lx⟩
theorem fB.back {R:ah->GH->OL->Prop} {R':ah->OL->Prop} (hR:∀ v G' L',R v G' L'->R' v L') {e:Ending} (h:fB w G L R e w'):fB w G L (fun v G' L'=>G=G'∧R' v L') e w':=by
 obtain ⟨v,G',L',rfl,hc,hr⟩:=h
 exact ⟨v,G,L',O,hc.back,O,hR _ _ _ hr⟩
theorem Calls.anp {f:FuncId} {args:Array ah} {R:ah->GH->OL->Prop} {R':ah->OL->Prop} (h:Calls P f args w (fB w G L R)) (hR:∀ v G' L',R v G' L'->R' v L'):Calls P f args w (fB w G L fun v G' L'=>G=G'∧R' v L') :=
 h.mono fun _ _=>fB.back hR
theorem bG.back {R:ah->GH->Prop} {e:Ending} (h:bG w G R e w'):bG w G (fun v G'=>(∃ g,R v g)∧G=G') e w':=by
 obtain ⟨v,G',rfl,hb,hX,hr⟩:=h
 exact ⟨v,G,O,hb,⟨fun _ _ h=>h,fun _ _ h=>.inl h,fun k o hk=>hX.2.2 k o (hX.1 k o hk)⟩,⟨G',hr⟩,O⟩
theorem abe {f:FuncId} {args:Array ah} {R:ah->GH->Prop} (h:Calls P f args w (bG w G R)):Calls P f args w (bG w G fun v G'=>(∃ g,R v g)∧G=G'):=h.mono fun _ _=>bG.back
theorem fM.add {b:Nat} {o:Obj} (h:fM G ((b,o) :: L) w):Hold (G.add b o) w:=fun k o' hk=>by
 unfold GH.add at hk
 split at hk
 ·next e=>cases hk;subst e;exact h.own _ eT
 ·exact h.ro k o' hk
theorem azZ {b:Nat} {o:Obj} {R:ah->GH->Prop} {R':ah->Prop} (hO:fM G ((b,o) :: L) w) (hR:∀ v G',R v G'->R' v) {e:Ending} (h:bG w (G.add b o) R e w'):fB w G ((b,o) :: L) (fun v G' L'=>G=G'∧L'=(b,o) :: L∧R' v) e w':=by
 obtain ⟨v,G',rfl,hb,hX,hr⟩:=h
 exact ⟨v,G,_,O,(hO.hp.below hb).ald,O,O,hR _ _ hr⟩
end
end
section
theorem afH:dz prog 202 0 0:=⟨Z⟩
theorem DL:dz prog 202 1 1:=⟨Z⟩
theorem afI:dz prog 202 3 3:=⟨Z⟩
theorem JR:dz prog 202 2 2:=⟨Z⟩
theorem aeN:aW 134:=aY func134 O
variable {us:List Int}
structure bN where
 st:List cB
 nP:List Int
 mg:List Int
 us:List Int
abbrev bH (us:List Int) (st:List cB) (li:List fK) (rv:List dw):bN:=⟨st,li.map fK.id,rv.map dw.id,us⟩
theorem Yw {G:GH} {l:List jK} {A:Option Addr} {n c k:Nat} (hv:av G (.sl 4 (l.map jK.dat)) (.slice A n c)) (hk:k < l.length):∃ b o,A=some ⟨b,o,none⟩∧(∀ j u,l[k].cells[j]?=some u->aI G b (o+k*4+j)=some u):=by
 obtain ⟨A',c',he,_,_,hg⟩:=hv.slice
 injection he with e1 e2 e3
 subst e1;obtain ⟨b,o,cs,h1,h2,h3,h4⟩:=hg k l[k].dat (by simp [hk]);have:=Yx h4;subst this;exact Jq
theorem V3 {G:GH} {l:List ku} {A:Option Addr} {n c k:Nat} (hv:av G (.sl 2 (l.map ku.dat)) (.slice A n c)) (hk:k < l.length):∃ b o,A=some ⟨b,o,none⟩∧(∀ j u,l[k].cells[j]?=some u->aI G b (o+k*2+j)=some u):=by
 obtain ⟨A',c',he,_,_,hg⟩:=hv.slice
 injection he with e1 e2 e3
 subst e1;obtain ⟨b,o,cs,h1,h2,h3,h4⟩:=hg k l[k].dat (by simp [hk]);have:=V4 h4;subst this;exact Jq
def Im (C:bN) (e:Int) (k:Nat) (x:jK) (pk:Int):Int :=
 if x.rev∉C.mg then 22 else if EX e x.key=false then 4 else if 0 < k∧x.key < pk then 6 else if x.had=false then dN (decide (x.before≠0)) 21 else eu [xD x.key x.before,Ag C.st C.nP x.key x.before]
def BF (C:bN) (e:Int) (l:List jK) (k:Nat):Int:=match l[k]? with|some x=>Im C e k x ((l[k - 1]?.map jK.key).getD 0)|none=>0
theorem Qh {p:Prop} (h:p:=by
 refine lr H results136 O ?_
 exact H.rt (by rw [he];refine dh vi ?_;clear he hrow hrow' hq hx hy;unfold Im;(repeat' split) <;> first|rfl|(simp_all;done)|(exfalso;simp_all;done))):p:=h
theorem acG {p:Prop} (h:p:=by
 intro a H;refine lr H results136 O ?_
 exact H.rt (by rw [he];refine dh vi ?_;clear he hrow hrow' hq hx hy;unfold Im;(repeat' split) <;> first|rfl|(simp_all;done)|(exfalso;simp_all;done))):p:=h
theorem acQ {p:Prop} (h:p:=by
 refine uh 5 56 7 58 9 60 O O fun _ a w G1 hG HT H fin=>?_;refine s_call aeN H wn O (adS _ _ H.ro st li rv b ms ml mr mb mu n x.key x.before (hck.mono hG) (hG _ _ hb)) O ?_;clear H;rintro v61 G61 a w ⟨rfl,-⟩ auf H;exact fin H auf (rfl)):p:=h
theorem acY {p:Prop} (h:p:=by
 refine eU 1 52 3 54 O O fun _ a w G1 hG HT H fin=>?_;refine s_call aeI H wn O (adP _ _ H.ro x.key x.before) O ?_;clear H;rintro v55 LW a w rfl aue H;exact fin H aue (rfl)):p:=h
theorem axN (G:GH) (w0:World) (hG:Hold G w0) (st:List cB) (li:List fK) (rv:List dw) (b ms ml mr mb mu:Nat) (n:Int) (hck:wY us G st li rv ms ml mr mu) (hb:G b=some (gU b ms ml mr mb mu n).2)
  (e:Int) (l:List jK) (v:ah) (hv:av G (.sl 4 (l.map jK.dat)) v) (k:Nat) (hk:k < l.length) :
  Calls prog 136 #[(aJ b 0),vi e,v,vi k] w0 (bG w0 G fun u G'=>u=vi (BF (bH us st li rv) e l k)):=by
 have hc2:aI G b 2=some (.map (some mr)):=by unfold aI;rw [hb];rfl
 obtain ⟨A,c,rfl,hl1,hl2,-⟩:=hv.slice;have hml:maxLen=9223372036854775807:=rfl;rw [bR] at *;obtain ⟨xb,xo,rfl,hrow⟩:=Yw hv hk
 have hk1:k - 1 < l.length:=by omega
 obtain ⟨b',o',he',hrow'⟩:=Yw hv hk1
 injection he' with he'
 injection he' with e1 e2
 subst e1;subst e2
 have he:BF (bH us st li rv) e l k=Im (bH us st li rv) e k l[k] l[k - 1].key:=by unfold BF;rw [fF hk,fF hk1];rfl
 obtain ⟨x,hx⟩:∃ x,x=l[k]:=⟨_,O⟩;obtain ⟨y,hy⟩:∃ y,y=l[k - 1]:=⟨_,O⟩;rw [<- hx] at hrow he;rw [<- hy] at hrow' he;have hq:=hrow' 1 _ O;refine eN [(0,_),(1,_),(2,_),(3,_)] func136 O ntmps136 O O hG ?_;intro a H;refine kP H (SR fun _ K1=>au K1 O (SR fun _ K2=>Rm O (Rm O (Ri vZ uQ O O ?_))));clear H K1;intro a H;refine bq uQ (cs:=x.cells) H wn O O (fun j v hj=>H.hp.aI (hrow j v hj)) O ?_;clear H;intro a H;refine dR uQ H wn O ?_;clear H;intro b9 a w uG H;refine bM uQ 0 (vs:=[_,_,_,_]) H wn O ?_;clear H;intro w H;refine K2 _ _ ?_;clear K2;refine kP H (SQ fun _ K3=>SB (SQ fun _ K4=>?_));clear H;intro a H;refine dI hmx [[],[0],[0,1],[0,1,2],[],[4],ra 0 6,ra 0 7,ra 0 8] [8] Z [_,_,_,_,_,vi x.rev,.bool (decide (x.rev∈rv.map dw.id)),_] H (aC (Z0 O (Rm O)) (Z1 0 15 O (Rk O)) (Z1 1 16 O (Rf M8 O)) (X1 2 17 O fun hG=>Rg uO O (aK hG hc2)) (aC (Z0 O (Rf afH O)) (Z1 4 19 O (Ro aD 0 O)) ?_ (Z1 6 21 O (Rn O)) (bK (bQ O) dG))) ?_
 ·refine eU 3 18 5 20 O O fun _ a w G1 hG HT H fin=>?_;refine CY (zv:=.bool false) zF mQ Z H wn O O (H.ro _ _ (hG _ _ hck.rev)) O ?_;clear H;intro a H;rw [Ir] at H;exact GD
 clear H;intro a w G D8 H hv;have H:=H.aQ (hv 7 22 O O) O;clear hv;refine kH H (Ra O ?_);clear H;intro a H;refine aF ⟨O,?_⟩;refine K4 _ _ ?_;clear K4;refine jX H O ?_ ?_
 ·intro eD
  try have lJ:=dT eD
  refine kP H (SR fun _ K5=>au K5 O ?_);clear H K5;intro a H;exact Qh
 intro eD
 try have lJ:=dF eD
 refine kP H (SR fun _ K6=>Rm O (aU DL aD 0 O O ?_));clear H;intro a H;refine s_call aeH H wn O (abe (agb _ _ H.ro e x.key)) O ?_;clear H;rintro v27 _ a w ⟨⟨_,rfl⟩,rfl⟩ - H;refine kH H (Rn O (au K6 O (Cd O ?_ ?_))) <;> clear H K6
 ·intro h23 a H
  try have qL:=dT h23
  refine kP H (SR fun _ K7=>au K7 O ?_);clear H K7;intro a H;exact Qh
 intro h23 a H
 try have qL:=dF h23
 refine bP (fun _ K8=>?_);replace hq:=aK D8 hq
 by_cases c0:0 < (k:Int)
 ·skip
  by_cases c1:x.key < y.key
  ·skip;refine dI hmx [[],[0],[0,1],[0,1,2],ra 0 4,[0,1,2],[0,1,2],[0,1,2,6],[0,1,2,5,6,7],[0,1,2,5,6,7,8],[0,1,2,5,6,7,8,9],ra 0 11,ra 0 12,ra 0 13] [13] Z [_,_,_,_,vi x.key,_,_,vi ((k - 1:Nat):Int),_,_,_,_,_] H (aC (Z0 O (Rm O)) (Z1 0 30 O (Rc O)) (Z1 1 31 O (Rm O)) (Z1 2 32 O (YF DL (aG c0) O)) (aC (Z2 3 33 2 32 O (YO aD 0 (aG c0) O)) (Z1 2 32 O (YM (aG c0) O)) (Z1 2 32 O (YM (aG c0) O)) ?_ (aC (Z3 5 35 7 37 2 32 O (YI vZ uQ (aG c0) O O)) (Z2 8 38 2 32 O (YF DL (aG c0) O)) (X2 9 39 2 32 O fun hG=>YR aD (aG c0) O (aK hG hq)) (Z3 4 34 10 40 2 32 O (YC (aG c0) O)) (bK (Z2 2 32 11 41 O (Pt (aG c0) O)) (bK (bQ O) dG))))) ?_
   ·refine eU 6 36 2 32 O O fun _ a w G1 hG HT H fin=>?_;exact zP
   clear H;intro a w G pU H hv;have H:=H.aQ (hv 12 42 O O) O;clear hv;refine kH H (Ra O ?_);clear H;intro a H;refine aF ⟨O,?_⟩;refine K8 _ _ ?_;clear K8;refine AV H O (aG c1) ?_;refine bP (fun _ K9=>?_);have hz:0 < k∧x.key < y.key:=⟨V,c1⟩;refine kP H (SC (aZ K9 O ?_));clear H K9;exact acG
  skip;refine dI hmx [[],[0],[0,1],[0,1,2],ra 0 4,[0,1,2],[0,1,2],[0,1,2,6],[0,1,2,5,6,7],[0,1,2,5,6,7,8],[0,1,2,5,6,7,8,9],ra 0 11,ra 0 12,ra 0 13] [13] Z [_,_,_,_,vi x.key,_,_,vi ((k - 1:Nat):Int),_,_,_,_,_] H (aC (Z0 O (Rm O)) (Z1 0 30 O (Rc O)) (Z1 1 31 O (Rm O)) (Z1 2 32 O (YF DL (aG c0) O)) (aC (Z2 3 33 2 32 O (YO aD 0 (aG c0) O)) (Z1 2 32 O (YM (aG c0) O)) (Z1 2 32 O (YM (aG c0) O)) ?_ (aC (Z3 5 35 7 37 2 32 O (YI vZ uQ (aG c0) O O)) (Z2 8 38 2 32 O (YF DL (aG c0) O)) (X2 9 39 2 32 O fun hG=>YR aD (aG c0) O (aK hG hq)) (Z3 4 34 10 40 2 32 O (YC (aG c0) O)) (bK (Z2 2 32 11 41 O (Pt (aG c0) O)) (bK (bQ O) dG))))) ?_
  ·refine eU 6 36 2 32 O O fun _ a w G1 hG HT H fin=>?_;exact zP
  clear H;intro a w G pU H hv;have H:=H.aQ (hv 12 42 O O) O;clear hv;refine kH H (Ra O ?_);clear H;intro a H;refine aF ⟨O,?_⟩;refine K8 _ _ ?_;clear K8;refine oQ H O (aS c1) ?_;refine bP (fun _ aT=>?_)
  have hz:¬ (0 < k∧x.key < y.key):=by first|exact fun h=>c1 h.2|exact fun h=>c0 V
  refine kP H (SC (aU afI uS 0 O O (Rn O (aZ aT O (Cd O ?_ ?_))))) <;> clear H aT
  ·intro h43 a H
   try have p43:=dT h43
   refine kP H (SR fun _ bJ=>aU JR aD 0 O O (Rc O ?_));clear H;intro a H;refine s_call lX H wn O (mD _ _ H.ro _ 21) O ?_;clear H;rintro v50 _ a w ⟨rfl,rfl⟩ - H;refine kH H (au bJ O ?_);clear H bJ;exact acG
  intro h43 a H
  try have p43:=dF h43
  refine gT ?_;refine K3 _ _ ?_;clear K3;refine bP (fun _ bO=>?_);replace hck:=(hck.mono D8).mono pU;replace hb:=pU _ _ (D8 _ _ hb);refine dI hmx [[],[0],[],[2],ra 0 4,[],[],[6],[],[8],ra 0 10,ra 0 11,ra 0 12,ra 0 13] [11,12,13] Z [_,vi x.key,_,vi x.before,vi (xD x.key x.before),_,_,vi x.key,_,vi x.before,vi (Ag st (li.map fK.id) x.key x.before)] H (aC (Z0 O (Rf DL O)) (Z1 0 51 O (Ro aD 0 O)) (Z0 O (Rf JR O)) (Z1 2 53 O (Ro aD 0 O)) (aC ?_ (Z0 O (Rm O)) (Z0 O (Rf DL O)) (Z1 6 57 O (Ro aD 0 O)) (aC (Z0 O (Rf JR O)) (Z1 8 59 O (Ro aD 0 O)) ?_ (bQ O) (bK (bQ O) (bK (bQ O) dG))))) ?_
  ·exact acY
  ·exact acQ
  clear H;intro a w G wM H hv;have H:=H.aQ (hv 4 55 O O) O;have H:=H.aQ (hv 10 61 O O) O;clear hv;refine iG qO jm [_,_] [_,_] H wn O O O O O (by intro i q h;match i,h with|0,h=>exact h|1,h=>exact h|n+2,h=>simp at h) O O ?_;clear H;intro b62 a w auR H;obtain ⟨G62,avJ,Xu,H⟩:=H.fJ;refine s_call sj H wn O (sw _ _ H.ro _ _ (Al Xu)) O ?_;clear H;rintro v63 _ a w ⟨rfl,rfl⟩ - H;refine kH H (Ra O ?_);clear H;intro a H;refine aF ⟨O,?_⟩;refine bO _ _ ?_;clear bO;exact Qh
 skip;refine dI hmx [[],[0],[0,1],[0,1,2],ra 0 4,[0,1,2],[0,1,2],[0,1,2,6],[0,1,2,5,6,7],[0,1,2,5,6,7,8],[0,1,2,5,6,7,8,9],ra 0 11,ra 0 12,ra 0 13] [13] Z [_,_,_,undef,undef,undef,undef,undef,undef,undef,undef,undef,_] H (aC (Z0 O (Rm O)) (Z1 0 30 O (Rc O)) (Z1 1 31 O (Rm O)) (aO 2 (aS c0) O O) (aC (aO 2 (aS c0) O O) (aO 2 (aS c0) O O) (aO 2 (aS c0) O O) (aO 2 (aS c0) O O) (aC (aO 2 (aS c0) O O) (aO 2 (aS c0) O O) (aO 2 (aS c0) O O) (aO 2 (aS c0) O O) (bK (Z2 2 32 11 41 O (Pf (aS c0) O)) (bK (bQ O) dG))))) ?_
 clear H;intro a w G pU H hv;have H:=H.aQ (hv 12 42 O O) O;clear hv;refine kH H (Ra O ?_);clear H;intro a H;refine aF ⟨O,?_⟩;refine K8 _ _ ?_;clear K8;refine oQ H O O ?_;refine bP (fun _ bU=>?_)
 have hz:¬ (0 < k∧x.key < y.key):=by first|exact fun h=>c1 h.2|exact fun h=>c0 V
 refine kP H (SC (aU afI uS 0 O O (Rn O (aZ bU O (Cd O ?_ ?_))))) <;> clear H bU
 ·intro h43 a H
  try have p43:=dT h43
  refine kP H (SR fun _ bZ=>aU JR aD 0 O O (Rc O ?_));clear H;intro a H;refine s_call lX H wn O (mD _ _ H.ro _ 21) O ?_;clear H;rintro v50 _ a w ⟨rfl,rfl⟩ - H;refine kH H (au bZ O ?_);clear H bZ;intro a H;exact Qh
 intro h43 a H
 try have p43:=dF h43
 refine gT ?_;refine K3 _ _ ?_;clear K3;refine bP (fun _ dP=>?_);replace hck:=(hck.mono D8).mono pU;replace hb:=pU _ _ (D8 _ _ hb);refine dI hmx [[],[0],[],[2],ra 0 4,[],[],[6],[],[8],ra 0 10,ra 0 11,ra 0 12,ra 0 13] [11,12,13] Z [_,vi x.key,_,vi x.before,vi (xD x.key x.before),_,_,vi x.key,_,vi x.before,vi (Ag st (li.map fK.id) x.key x.before)] H (aC (Z0 O (Rf DL O)) (Z1 0 51 O (Ro aD 0 O)) (Z0 O (Rf JR O)) (Z1 2 53 O (Ro aD 0 O)) (aC ?_ (Z0 O (Rm O)) (Z0 O (Rf DL O)) (Z1 6 57 O (Ro aD 0 O)) (aC (Z0 O (Rf JR O)) (Z1 8 59 O (Ro aD 0 O)) ?_ (bQ O) (bK (bQ O) (bK (bQ O) dG))))) ?_
 ·exact acY
 ·exact acQ
 clear H;intro a w G wM H hv;have H:=H.aQ (hv 4 55 O O) O;have H:=H.aQ (hv 10 61 O O) O;clear hv;refine iG qO jm [_,_] [_,_] H wn O O O O O (by intro i q h;match i,h with|0,h=>exact h|1,h=>exact h|n+2,h=>simp at h) O O ?_;clear H;intro b62 a w auR H;obtain ⟨G62,avJ,Xu,H⟩:=H.fJ;refine s_call sj H wn O (sw _ _ H.ro _ _ (Al Xu)) O ?_;clear H;rintro v63 _ a w ⟨rfl,rfl⟩ - H;refine kH H (Ra O ?_);clear H;intro a H;refine aF ⟨O,?_⟩;refine dP _ _ ?_;clear dP;refine lr H results136 O ?_
 exact H.rt (by rw [he];refine dh vi ?_;clear he hrow hrow' hq hx hy;unfold Im;(repeat' split) <;> first|rfl|(simp_all;done)|(exfalso;simp_all;done))
end
section
theorem LB:Ty prog 106 1 8 [.pointer none] false:=⟨Z,Z⟩
theorem aqc:aW 136:=aY func136 O
theorem LC:Ty prog 27 4 64 [.int .i64 0,.int .i64 0,.slice none 0 0,.slice none 0 0] true:=⟨Z,Z⟩
theorem JQ:dz prog 200 0 0:=⟨Z⟩
theorem afG:dz prog 200 1 1:=⟨Z⟩
theorem aqb:aW 135:=aY func135 O
variable {us:List Int}
theorem axM {G:GH} {st:List cB} {li:List fK} {rv:List dw} {b ms ml mr mb mu:Nat} {n:Int} (hck:wY us G st li rv ms ml mr mu) (hb:G b=some (gU b ms ml mr mb mu n).2)
  {x3 x4 x11:Nat} {e:Int} {l:List jK} {v:ah} (h3:aI G x3 0=some (aJ b 0)) (h4:aI G x4 0=some (vi e)) (h11:aI G x11 3=some v) (hv:av G (.sl 4 (l.map jK.dat)) v) :
  uU (.func (.func 135) #[] #[(aJ x3 0),(aJ x4 0),(aJ x11 0)]) G l.length (BF (bH us st li rv) e l):=by
 intro k hk G1 w0 hm hG;refine kG (caps:=[(aJ x3 0),(aJ x4 0),(aJ x11 0)]) aqb ?_;replace h3:=aK hm h3;replace h4:=aK hm h4;replace h11:=aK hm h11;replace hv:=hv.mono hm;obtain ⟨vA,vn,vc,rfl⟩:=hv.form;refine eN [(0,_),(1,_),(2,_),(3,_)] func135 O ntmps135 O O hG ?_;intro a H;refine kP H (SR fun _ K1=>au K1 O (SR fun _ K2=>Rg LB O (by assumption) ?_));clear H K1;intro a H;refine kH H (Rg aD O (by assumption) ?_);clear H;intro a H;refine kH H (Rf EU O (Rg FL O (by assumption) ?_));clear H;intro a H;refine kH H (Rm O ?_);clear H;intro a H;refine s_call aqc H wn O (axN _ _ H.ro st li rv b ms ml mr mb mu n (hck.mono hm) (hm _ _ hb) e l _ hv k hk) O ?_;clear H;rintro v11 Dl a w rfl Rh H;exact kH H (au K2 O (LR results135 O fun H=>H.rt O))
def zu (C:bN) (l:List jf):Int:=eu (l.map fun p=>Ag C.st C.nP p.key p.value)
def jR (C:bN) (m:zJ):Int:=if m.ins≠0∧m.ins∉C.mg then 22 else if ¬ (0<=m.move∧m.move<=1073741824)∨(m.move≠0∧m.ins=0) then 21 else if 16 < (m.dJ.length:Int) then 9 else 0
def yI (C:bN) (k:Nat) (x:ku) (pr:Int):Int:=if x.rev∉C.mg then 22 else if 0 < k∧x.rev<=pr then 6 else if ¬ (0<=x.move∧x.move<=1073741824) then 21 else 0
def wE (C:bN) (l:List ku) (k:Nat):Int:=match l[k]? with|some x=>yI C k x ((l[k - 1]?.map ku.rev).getD 0)|none=>0
def iw (C:bN) (e:Int) (h:fH):Int:=eu [qZ e h.props,zu C h.props,jR C h.marks,kF (wE C h.marks.dJ) h.marks.dJ.length,dN (decide (64 < (h.marks.layers.length:Int))) 9,kF (BF C e h.marks.layers) h.marks.layers.length]
theorem avm {C:bN} {e:Int} {h:fH} (h1:qZ e h.props≠0):iw C e h=qZ e h.props:=by simp [iw,eu,h1]
theorem avn {C:bN} {e:Int} {h:fH} (h1:qZ e h.props=0) (h2:zu C h.props≠0):iw C e h=zu C h.props:=by simp [iw,eu,h1,h2]
theorem Eb {C:bN} {e:Int} {h:fH} (h1:qZ e h.props=0) (h2:zu C h.props=0) (h3:jR C h.marks≠0):iw C e h=jR C h.marks:=by simp [iw,eu,h1,h2,h3]
theorem avo {C:bN} {e:Int} {h:fH} (h1:qZ e h.props=0) (h2:zu C h.props=0) (h3:jR C h.marks=0) (h4:kF (wE C h.marks.dJ) h.marks.dJ.length≠0):iw C e h=kF (wE C h.marks.dJ) h.marks.dJ.length:=by simp [iw,eu,h1,h2,h3,h4]
theorem avp {C:bN} {e:Int} {h:fH} (h1:qZ e h.props=0) (h2:zu C h.props=0) (h3:jR C h.marks=0) (h4:kF (wE C h.marks.dJ) h.marks.dJ.length=0) (h5:64 < (h.marks.layers.length:Int)):iw C e h=9:=by simp [iw,eu,h1,h2,h3,h4,dN,h5]
theorem avq {C:bN} {e:Int} {h:fH} (h1:qZ e h.props=0) (h2:zu C h.props=0) (h3:jR C h.marks=0) (h4:kF (wE C h.marks.dJ) h.marks.dJ.length=0) (h5:¬ 64 < (h.marks.layers.length:Int)):iw C e h=kF (BF C e h.marks.layers) h.marks.layers.length:=by simp [iw,eu,h1,h2,h3,h4,dN,h5];exact Eq.symm
theorem ajP {C:bN} {l:List jf} {k:Nat} (h:k < l.length):eu ((l.map fun p=>Ag C.st C.nP p.key p.value).drop k)=if Ag C.st C.nP l[k].key l[k].value≠0 then Ag C.st C.nP l[k].key l[k].value else eu ((l.map fun p=>Ag C.st C.nP p.key p.value).drop (k+1)):=by
 rw [QH (by simpa using h)];simp
theorem anE {p:Prop} (h:p:=by
 exact fin H iJ (by show _=_;first|rfl|exact iq decide_not.symm)):p:=h
theorem abC {p:Prop} (h:p:=by
 exact ⟨V,by rw [Mk hk2,ay (by rw [hde];simpa using agN)] at heq;exact heq,hGk⟩):p:=h
theorem acR {p:Prop} (h:p:=by
 refine uh 7 48 9 50 3 44 O O fun _ a w G1 hG HT H fin=>?_;refine CY (zv:=.bool false) zF mQ Z H (wg H O O (aG c0)) O O (H.ro _ _ (hG _ _ hck.rev)) O ?_;clear H;intro a H;rw [Ir] at H;exact GD):p:=h
theorem adw {p:Prop} (h:p:=by
 refine eU 10 51 3 44 O O fun _ a w G1 hG HT H fin=>?_;refine kH H (YN (aG c0) O ?_);clear H;intro a H;exact anE):p:=h
theorem U9 {p:Prop} (h:p:=by
 refine BN _ H (wg H O O (aG c3)) O O O V V O ?_;exact Qc):p:=h
theorem avr (G:GH) (w0:World) (hG:Hold G w0) (st:List cB) (li:List fK) (rv:List dw) (b ms ml mr mb mu:Nat) (n:Int) (hck:wY us G st li rv ms ml mr mu) (hb:G b=some (gU b ms ml mr mb mu n).2)
  (e:Int) (h:fH) (p d l:ah) (hh:jI G h p d l) (hz:oN h<=4294967296) :
  Calls prog 55 #[(aJ b 0),vi e,vJ h p d l] w0 (bG w0 G fun u G'=>u=vi (iw (bH us st li rv) e h)):=by
 obtain ⟨pA,pc,rfl,-,-,-⟩:=hh.props.slice;obtain ⟨dA,dc,rfl,-,-,-⟩:=hh.dJ.slice;obtain ⟨lA,lc,rfl,-,-,-⟩:=hh.layers.slice;have hml:maxLen=9223372036854775807:=rfl;have hzz:=OT h;have hz1:=tT (h.props.map jf.dat);have hz2:=tT (h.marks.dJ.map ku.dat);have hz3:=tT (h.marks.layers.map jK.dat)
 simp only [bR] at hh hz1 hz2 hz3 |-
 generalize oN h=zz at hz hzz
 refine eN [(0,_),(1,_),(2,_)] func55 O ntmps55 O O hG ?_;intro a H;refine dH (fun _ K1=>?_);refine eB (cs:=[_]) H wn O O O ?_;clear H;intro b3 a w hb3 H;refine eB (cs:=[_]) H wn O O O ?_;clear H;intro b4 a w hb4 H;refine eB (cs:=[_,_,_,_,_]) H wn O O O ?_;clear H;intro b5 a w hb5 H;refine kH H (au K1 O (SQ fun _ K2=>SQ fun _ K3=>?_));clear H K1;intro a H;obtain ⟨Ga5,Rt,zV,H⟩:=H.fJ;obtain ⟨Ga4,Km,yV,H⟩:=H.fJ;obtain ⟨Ga,Fj,Bp,H⟩:=H.fJ;replace zV:=Fj _ _ (Km _ _ zV);replace yV:=Fj _ _ yV;have hma:∀ b o,G b=some o->Ga b=some o:=fun b o h=>Fj _ _ (Km _ _ (Rt _ _ h));clear Fj Km Rt;replace hck:=hck.mono hma;replace hb:=hma _ _ hb;replace hh:=hh.mono hma
 have g3:aI Ga b3 0=some (aJ b 0):=by unfold aI;rw [Bp];rfl
 have g4:aI Ga b4 0=some (vi e):=by unfold aI;rw [yV];rfl
 have g50:aI Ga b5 0=some (.slice pA h.props.length pc):=by unfold aI;rw [zV];rfl
 have g51:∀ (j:Nat) (u:ah),[vi h.marks.ins,vi h.marks.move,.slice dA h.marks.dJ.length dc,.slice lA h.marks.layers.length lc][j]?=some u->aI Ga b5 (1+j)=some u:=by
  intro j u hj
  unfold aI;rw [zV]
  match j,hj with
  | 0,hj=>exact hj
  | 1,hj=>exact hj
  | 2,hj=>exact hj
  | 3,hj=>exact hj
  | n+4,hj=>simp at hj
 have hc2:aI Ga b 2=some (.map (some mr)):=by unfold aI;rw [hb];rfl
 refine kP H (SC (Rg aD O (by assumption) ?_));clear H;intro a H;refine kH H (Rf GZ O (Rg BS O (by assumption) ?_));clear H;intro a H;refine s_call aeG H wn O (abe (ajL _ _ H.ro e h.props _ hh.props)) O ?_;clear H;rintro v17 _ a w ⟨⟨_,rfl⟩,rfl⟩ - H;refine kH H (aZ K3 O (SR fun _ K4=>Rm O (Rc O (Kz K4 (Cd O ?_ ?_))))) <;> clear H K3 K4
 ·intro h19 a H
  try have wS:=dT h19
  refine bP (fun _ K5=>?_);have hE:=avm (C:=bH us st li rv) (e:=e) (h:=h) wS;exact kP H (SC (Rm O (aZ K5 O (LR results55 O fun H=>H.rt (by rw [hE])))))
 intro h19 a H
 try have wS:=dF h19
 have e1:qZ e h.props=0:=by simpa using wS
 refine kP H (Kc K2 (SQ fun _ K6=>SR fun _ K7=>Rf GZ O (Rg BS O (by assumption) ?_)));clear H K2;intro a H;refine kH H (Rl rO O (Rm O (Kz K7 (SB ?_))));clear H K7;intro a H;skip;refine eO (ι:=Nat) (Tc:=[(3,_),(4,_),(5,_),(22,_),(23,_)]) (Lc:=[]) (fun gh=>[(24,vi gh)]) (fun gh=>[]) (fun gh=>Ga) (fun gh=>gh<=h.props.length∧eu ((h.props.map fun p=>Ag st (li.map fK.id) p.key p.value).drop gh)=zu (bH us st li rv) h.props) (fun gh=>h.props.length - gh) (0) (by exact H.sub ⟨O,O,O,O,O,O,aB⟩) ?_ ?_
 ·exact Js
 clear H;intro k a w hI H;obtain ⟨hk,heq⟩:=hI;dsimp only [lca,bD] at H;refine kP H (SR fun _ K8=>Rc O (Kz K8 (SQ fun _ K9=>Cd O ?_ ?_))) <;> clear H K8
 ·intro nW a H
  try have p25:=dT nW
  have hk2:k < h.props.length:=by omega
  obtain ⟨xb,xo,rfl,hrow⟩:=Sz hh.props hk2;refine kP H (Kc K9 (SQ fun _ aT=>SB (SR fun _ bJ=>Ri rO qd O O ?_)));clear H K9;intro a H;refine bq qd (cs:=[_,_]) H wn O O (fun j v hj=>H.hp.aI (hrow j v hj)) O ?_;clear H;intro a H;refine dR qd H wn O ?_;clear H;intro b9 a w uG H;refine bM qd 0 (vs:=[_,_]) H wn O ?_;clear H;intro w H;refine bJ _ _ ?_;clear bJ;refine kP H (SR fun _ bO=>Rg LB O (by assumption) ?_);clear H;intro a H;refine kH H (aU yP aD 0 O O (aU afF aD 0 O O ?_));clear H;intro a H;refine s_call aeN H wn O (adS _ _ H.ro st li rv b ms ml mr mb mu n h.props[k].key h.props[k].value hck hb) O ?_;clear H;rintro v33 _ a w ⟨rfl,rfl⟩ - H;refine kH H (au bO O (SR fun _ bU=>Rm O (Rc O (Kz bU (Cd O ?_ ?_))))) <;> clear H bO bU
  ·intro iV a H
   try have p35:=dT iV
   refine bP (fun _ bZ=>?_)
   have hr:zu (bH us st li rv) h.props=Ag st (li.map fK.id) h.props[k].key h.props[k].value:=by rw [<- heq];exact (ajP (C:=bH us st li rv) hk2).trans (aH p35)
   have hE:=(avn (C:=bH us st li rv) (e:=e) (h:=h) e1 (by rw [hr];exact p35)).trans hr;exact kP H (SC (Rm O (aZ bZ O (LR results55 O fun H=>H.rt (by rw [hE])))))
  intro iV a H
  try have p35:=dF iV
  refine kP H (Kc aT (SC (Rd O (Rm O ?_))));clear H aT;intro a H;refine aF ?_;refine dS ((k+1)) (by exact (H.dV (Pl:=[_]) (dL:=[]) [] Q1 O).sub ⟨O,O,O,O,O,O,aB⟩) ?_
  exact ⟨V,by rw [ajP (C:=bH us st li rv) hk2,ay (by simpa using p35)] at heq;exact heq⟩
 intro nW a H
 try have p25:=dF nW
 refine dX ?_;refine K6 _ _ ?_;clear K6;refine bP (fun _ dP=>?_)
 have e2:zu (bH us st li rv) h.props=0:=by rw [<- heq,ow (by rw [bR];omega)];rfl
 refine kP H (SC (Rf wI O ?_));clear H;intro a H;refine bq LC (cs:=[vi h.marks.ins,vi h.marks.move,.slice dA h.marks.dJ.length dc,.slice lA h.marks.layers.length lc]) H wn O O (fun j v hj=>H.hp.aI (g51 j v hj)) O ?_;clear H;intro a H;refine dR LC H wn O ?_;clear H;intro b11 a w Nn H;refine bM LC 0 (vs:=[_,_,_,_]) H wn O ?_;clear H;intro w H;obtain ⟨Gb,hmb,Ke,H⟩:=H.fJ;replace hck:=hck.mono hmb;replace hb:=hmb _ _ hb;replace hh:=hh.mono hmb;replace g3:=aK hmb g3;replace g4:=aK hmb g4;replace hc2:=aK hmb hc2
 have q0:aI Gb b11 0=some (vi h.marks.ins):=by unfold aI;rw [Ke];rfl
 have q1:aI Gb b11 1=some (vi h.marks.move):=by unfold aI;rw [Ke];rfl
 have q2:aI Gb b11 2=some (.slice dA h.marks.dJ.length dc):=by unfold aI;rw [Ke];rfl
 have q3:aI Gb b11 3=some (.slice lA h.marks.layers.length lc):=by unfold aI;rw [Ke];rfl
 have hcb:=axM hck hb g3 g4 q3 hh.layers;refine aF ?_;refine dP _ _ ?_;clear dP;refine rX (ι:=GH) (Tc:=[(3,_),(4,_),(11,_)]) (Lc:=[]) (fun gh=>[]) (fun gh=>[]) (fun gh=>gh) (fun gh=>jR (bH us st li rv) h.marks=0∧(∀ b o,Gb b=some o->gh b=some o)) (by exact H.sub ⟨O,O,O,aB⟩) ?_ ?_
 ·skip;refine AU ?_;refine bP (fun _ dY=>?_)
  by_cases c0:h.marks.ins≠0
  ·skip
   by_cases c1:h.marks.ins∉rv.map dw.id
   ·skip;refine dI hmx [[],[0],[0,1],[0,1,2],ra 0 4,ra 0 5,ra 0 6,ra 0 7,ra 0 4,[0,1,2,3,8],ra 0 10,ra 0 11,ra 0 12,ra 0 13] [13] Z [_,_,_,_,_,(aJ b 0),_,_,_,_,.bool (decide (h.marks.ins∈rv.map dw.id)),.bool (decide (h.marks.ins∉rv.map dw.id)),_] H (aC (Z0 O (Rf yQ O)) (X1 0 41 O fun hG=>Rg aD O (aK hG q0)) (Z1 1 42 O (Rc O)) (Z1 2 43 O (Rm O)) (aC (X1 3 44 O fun hG=>YR LB (aG c0) O (aK hG g3)) ?_ (Z2 5 46 3 44 O (YF M8 (aG c0) O)) (X2 6 47 3 44 O fun hG=>YR uO (aG c0) O (aK hG hc2)) (aC (Z1 3 44 O (YF yQ (aG c0) O)) (X2 8 49 3 44 O fun hG=>YR aD (aG c0) O (aK hG q0)) ?_ ?_ (bK (Z2 3 44 11 52 O (Pt (aG c0) O)) (bK (bQ O) dG))))) ?_
    ·refine eU 4 45 3 44 O O fun _ a w G1 hG HT H fin=>?_;exact P9
    ·exact acR
    ·exact adw
    clear H;intro a w G oV H hv;have H:=H.aQ (hv 12 53 O O) O;clear hv;refine kH H (Ra O ?_);clear H;intro a H;refine aF ⟨O,?_⟩;refine dY _ _ ?_;clear dY;refine AV H O (aG c1) ?_;refine bP (fun _ dQ=>?_);have e3:jR (bH us st li rv) h.marks=22:=aH ⟨c0,c1⟩;have hE:=(Eb (C:=bH us st li rv) (e:=e) (h:=h) e1 e2 (by rw [e3];decide)).trans e3;exact kP H (SC (aZ dQ O (LR results55 O fun H=>H.rt (by rw [hE]))))
   skip;refine dI hmx [[],[0],[0,1],[0,1,2],ra 0 4,ra 0 5,ra 0 6,ra 0 7,ra 0 4,[0,1,2,3,8],ra 0 10,ra 0 11,ra 0 12,ra 0 13] [13] Z [_,_,_,_,_,(aJ b 0),_,_,_,_,.bool (decide (h.marks.ins∈rv.map dw.id)),.bool (decide (h.marks.ins∉rv.map dw.id)),_] H (aC (Z0 O (Rf yQ O)) (X1 0 41 O fun hG=>Rg aD O (aK hG q0)) (Z1 1 42 O (Rc O)) (Z1 2 43 O (Rm O)) (aC (X1 3 44 O fun hG=>YR LB (aG c0) O (aK hG g3)) ?_ (Z2 5 46 3 44 O (YF M8 (aG c0) O)) (X2 6 47 3 44 O fun hG=>YR uO (aG c0) O (aK hG hc2)) (aC (Z1 3 44 O (YF yQ (aG c0) O)) (X2 8 49 3 44 O fun hG=>YR aD (aG c0) O (aK hG q0)) ?_ ?_ (bK (Z2 3 44 11 52 O (Pt (aG c0) O)) (bK (bQ O) dG))))) ?_
   ·refine eU 4 45 3 44 O O fun _ a w G1 hG HT H fin=>?_;exact P9
   ·exact acR
   ·exact adw
   clear H;intro a w G oV H hv;have H:=H.aQ (hv 12 53 O O) O;clear hv;refine kH H (Ra O ?_);clear H;intro a H;refine aF ⟨O,?_⟩;refine dY _ _ ?_;clear dY;refine oQ H O (aS c1) ?_;refine bP (fun _ eX=>?_)
   have hno:¬ (h.marks.ins≠0∧h.marks.ins∉(bH us st li rv).mg):=by first|exact fun h=>c1 h.2|exact fun h=>c0 h.1
   replace q0:=aK oV q0;replace q1:=aK oV q1;replace q2:=aK oV q2;refine kP H (SC (Rf ET O (Rg aD O (by assumption) ?_)));clear H;intro a H;refine s_call yM H wn O (zi _ _ H.ro h.marks.move 0 1073741824) O ?_;clear H;rintro v57 _ a w ⟨rfl,rfl⟩ - H;refine kH H (Rn O (Rm O (Sp 59 O ?_ ?_))) <;> clear H
   ·intro iC a H
    try have p59:=dT iC
    refine kH H (aR iC O (aR iC O (Ku O (Ku O (Ku O (Ks iC O (Pt iC O (aZ eX O (Ct O O (SQ fun _ gM=>?_))))))))));clear H eX;intro a H
    have e3:jR (bH us st li rv) h.marks=21:=by unfold jR;rw [ay hno,aH (by first|(simp_all;done)|(simp_all;omega))]
    have hE:=(Eb (C:=bH us st li rv) (e:=e) (h:=h) e1 e2 (by rw [e3];decide)).trans e3;exact kP H (SC (aZ gM O (LR results55 O fun H=>H.rt (by rw [hE]))))
   intro iC a H
   try have p59:=dF iC
   refine kH H (YF ET iC O (YR aD iC O (by assumption) ?_));clear H;intro a H;refine kH H (YC iC O (YM iC O (Sp 63 O ?_ ?_))) <;> clear H
   ·intro h63 a H
    try have p63:=dT h63
    refine kH H (YF yQ h63 O (YR aD h63 O (by assumption) ?_));clear H;intro a H;refine kH H (YC h63 O (PT iC h63 O (Pf iC O (aZ eX O (Cd O ?_ ?_))))) <;> clear H eX
    ·intro iZ a H
     try have p54:=dT iZ
     refine bP (fun _ fI=>?_)
     have e3:jR (bH us st li rv) h.marks=21:=by unfold jR;rw [ay hno,aH (by first|(simp_all;done)|(simp_all;omega))]
     have hE:=(Eb (C:=bH us st li rv) (e:=e) (h:=h) e1 e2 (by rw [e3];decide)).trans e3;exact kP H (SC (aZ fI O (LR results55 O fun H=>H.rt (by rw [hE]))))
    intro iZ a H
    try have p54:=dF iZ
    refine bP (fun _ gQ=>?_)
    have hn2:¬ (¬ (0<=h.marks.move∧h.marks.move<=1073741824)∨(h.marks.move≠0∧h.marks.ins=0)):=by first|(simp_all;done)|(simp_all;omega)
    refine kP H (SC (Rf yR O (Rg zC O (by assumption) ?_)));clear H;intro a H;refine kH H (Rl rP O (Rc O (aZ gQ O (Cd O ?_ ?_)))) <;> clear H gQ
    ·intro kL a H
     refine bP (fun _ jw=>?_)
     have e3:jR (bH us st li rv) h.marks=9:=by unfold jR;rw [ay hno,ay hn2,aH (by simpa using kL)]
     have hE:=(Eb (C:=bH us st li rv) (e:=e) (h:=h) e1 e2 (by rw [e3];decide)).trans e3;exact kP H (SC (aZ jw O (LR results55 O fun H=>H.rt (by rw [hE]))))
    intro kL a H
    have e3:jR (bH us st li rv) h.marks=0:=by unfold jR;rw [ay hno,ay hn2,ay (by simpa using kL)]
    refine gT ?_;refine ⟨_,by exact H.sub ⟨O,O,O,aB⟩,?_⟩;exact ⟨e3,oV⟩
   intro h63 a H
   try have p63:=dF h63
   refine kH H (bg h63 O (PF iC h63 O (Pf iC O (aZ eX O (Cf O O (SQ fun _ kK=>?_))))));clear H eX;intro a H
   have hn2:¬ (¬ (0<=h.marks.move∧h.marks.move<=1073741824)∨(h.marks.move≠0∧h.marks.ins=0)):=by first|(simp_all;done)|(simp_all;omega)
   refine kP H (SC (Rf yR O (Rg zC O (by assumption) ?_)));clear H;intro a H;refine kH H (Rl rP O (Rc O (aZ kK O (Cd O ?_ ?_)))) <;> clear H kK
   ·intro kL a H
    refine bP (fun _ kD=>?_)
    have e3:jR (bH us st li rv) h.marks=9:=by unfold jR;rw [ay hno,ay hn2,aH (by simpa using kL)]
    have hE:=(Eb (C:=bH us st li rv) (e:=e) (h:=h) e1 e2 (by rw [e3];decide)).trans e3;exact kP H (SC (aZ kD O (LR results55 O fun H=>H.rt (by rw [hE]))))
   intro kL a H
   have e3:jR (bH us st li rv) h.marks=0:=by unfold jR;rw [ay hno,ay hn2,ay (by simpa using kL)]
   refine gT ?_;refine ⟨_,by exact H.sub ⟨O,O,O,aB⟩,?_⟩;exact ⟨e3,oV⟩
  skip;refine dI hmx [[],[0],[0,1],[0,1,2],ra 0 4,ra 0 5,ra 0 6,ra 0 7,ra 0 4,[0,1,2,3,8],ra 0 10,ra 0 11,ra 0 12,ra 0 13] [13] Z [_,_,_,_,undef,undef,undef,undef,undef,undef,undef,undef,_] H (aC (Z0 O (Rf yQ O)) (X1 0 41 O fun hG=>Rg aD O (aK hG q0)) (Z1 1 42 O (Rc O)) (Z1 2 43 O (Rm O)) (aC (aO 3 (aS c0) O O) (aO 3 (aS c0) O O) (aO 3 (aS c0) O O) (aO 3 (aS c0) O O) (aC (aO 3 (aS c0) O O) (aO 3 (aS c0) O O) (aO 3 (aS c0) O O) (aO 3 (aS c0) O O) (bK (Z2 3 44 11 52 O (Pf (aS c0) O)) (bK (bQ O) dG))))) ?_
  clear H;intro a w G oV H hv;have H:=H.aQ (hv 12 53 O O) O;clear hv;refine kH H (Ra O ?_);clear H;intro a H;refine aF ⟨O,?_⟩;refine dY _ _ ?_;clear dY;refine oQ H O O ?_;refine bP (fun _ jF=>?_)
  have hno:¬ (h.marks.ins≠0∧h.marks.ins∉(bH us st li rv).mg):=by first|exact fun h=>c1 h.2|exact fun h=>c0 h.1
  replace q0:=aK oV q0;replace q1:=aK oV q1;replace q2:=aK oV q2;refine kP H (SC (Rf ET O (Rg aD O (by assumption) ?_)));clear H;intro a H;refine s_call yM H wn O (zi _ _ H.ro h.marks.move 0 1073741824) O ?_;clear H;rintro v57 _ a w ⟨rfl,rfl⟩ - H;refine kH H (Rn O (Rm O (Sp 59 O ?_ ?_))) <;> clear H
  ·intro iC a H
   try have p59:=dT iC
   refine kH H (aR iC O (aR iC O (Ku O (Ku O (Ku O (Ks iC O (Pt iC O (aZ jF O (Ct O O (SQ fun _ kR=>?_))))))))));clear H jF;intro a H
   have e3:jR (bH us st li rv) h.marks=21:=by unfold jR;rw [ay hno,aH (by first|(simp_all;done)|(simp_all;omega))]
   have hE:=(Eb (C:=bH us st li rv) (e:=e) (h:=h) e1 e2 (by rw [e3];decide)).trans e3;exact kP H (SC (aZ kR O (LR results55 O fun H=>H.rt (by rw [hE]))))
  intro iC a H
  try have p59:=dF iC
  refine kH H (YF ET iC O (YR aD iC O (by assumption) ?_));clear H;intro a H;refine kH H (YC iC O (YM iC O (Sp 63 O ?_ ?_))) <;> clear H
  ·intro h63 a H
   try have p63:=dT h63
   refine kH H (YF yQ h63 O (YR aD h63 O (by assumption) ?_));clear H;intro a H;refine kH H (YC h63 O (PT iC h63 O (Pf iC O (aZ jF O (Cd O ?_ ?_))))) <;> clear H jF
   ·intro iZ a H
    try have p54:=dT iZ
    refine bP (fun _ lN=>?_)
    have e3:jR (bH us st li rv) h.marks=21:=by unfold jR;rw [ay hno,aH (by first|(simp_all;done)|(simp_all;omega))]
    have hE:=(Eb (C:=bH us st li rv) (e:=e) (h:=h) e1 e2 (by rw [e3];decide)).trans e3;exact kP H (SC (aZ lN O (LR results55 O fun H=>H.rt (by rw [hE]))))
   intro iZ a H
   try have p54:=dF iZ
   refine bP (fun _ jJ=>?_)
   have hn2:¬ (¬ (0<=h.marks.move∧h.marks.move<=1073741824)∨(h.marks.move≠0∧h.marks.ins=0)):=by first|(simp_all;done)|(simp_all;omega)
   refine kP H (SC (Rf yR O (Rg zC O (by assumption) ?_)));clear H;intro a H;refine kH H (Rl rP O (Rc O (aZ jJ O (Cd O ?_ ?_)))) <;> clear H jJ
   ·intro kL a H
    refine bP (fun _ qV=>?_)
    have e3:jR (bH us st li rv) h.marks=9:=by unfold jR;rw [ay hno,ay hn2,aH (by simpa using kL)]
    have hE:=(Eb (C:=bH us st li rv) (e:=e) (h:=h) e1 e2 (by rw [e3];decide)).trans e3;exact kP H (SC (aZ qV O (LR results55 O fun H=>H.rt (by rw [hE]))))
   intro kL a H
   have e3:jR (bH us st li rv) h.marks=0:=by unfold jR;rw [ay hno,ay hn2,ay (by simpa using kL)]
   refine gT ?_;refine ⟨_,by exact H.sub ⟨O,O,O,aB⟩,?_⟩;exact ⟨e3,oV⟩
  intro h63 a H
  try have p63:=dF h63
  refine kH H (bg h63 O (PF iC h63 O (Pf iC O (aZ jF O (Cf O O (SQ fun _ rT=>?_))))));clear H jF;intro a H
  have hn2:¬ (¬ (0<=h.marks.move∧h.marks.move<=1073741824)∨(h.marks.move≠0∧h.marks.ins=0)):=by first|(simp_all;done)|(simp_all;omega)
  refine kP H (SC (Rf yR O (Rg zC O (by assumption) ?_)));clear H;intro a H;refine kH H (Rl rP O (Rc O (aZ rT O (Cd O ?_ ?_)))) <;> clear H rT
  ·intro kL a H
   refine bP (fun _ sQ=>?_)
   have e3:jR (bH us st li rv) h.marks=9:=by unfold jR;rw [ay hno,ay hn2,aH (by simpa using kL)]
   have hE:=(Eb (C:=bH us st li rv) (e:=e) (h:=h) e1 e2 (by rw [e3];decide)).trans e3;exact kP H (SC (aZ sQ O (LR results55 O fun H=>H.rt (by rw [hE]))))
  intro kL a H
  have e3:jR (bH us st li rv) h.marks=0:=by unfold jR;rw [ay hno,ay hn2,ay (by simpa using kL)]
  refine gT ?_;refine ⟨_,by exact H.sub ⟨O,O,O,aB⟩,?_⟩;exact ⟨e3,oV⟩
 clear H;intro g a w hI H;obtain ⟨e3,yZ⟩:=hI;replace hck:=hck.mono yZ;replace hb:=yZ _ _ hb;replace hh:=hh.mono yZ;replace g3:=aK yZ g3;replace q2:=aK yZ q2;replace q3:=aK yZ q3;replace hc2:=aK yZ hc2;replace hcb:=hcb.mono yZ;dsimp only [lca,bD] at H;refine kP H (SQ fun _ ug=>SR fun _ sS=>Rf yR O (Rg zC O (by assumption) ?_));clear H;intro a H;refine kH H (Rl rP O (Rm O (Kz sS (SB ?_))));clear H sS;intro a H;skip;refine eO (ι:=Nat × GH) (Tc:=[(3,_),(4,_),(11,_),(75,_),(76,_)]) (Lc:=[]) (fun gh=>[(77,vi gh.1)]) (fun gh=>[]) (fun gh=>gh.2) (fun gh=>gh.1<=h.marks.dJ.length∧eu (((List.range h.marks.dJ.length).map (wE (bH us st li rv) h.marks.dJ)).drop gh.1)=kF (wE (bH us st li rv) h.marks.dJ) h.marks.dJ.length∧(∀ b o,g b=some o->gh.2 b=some o)) (fun gh=>h.marks.dJ.length - gh.1) ((0,g)) (by exact H.sub ⟨O,O,O,O,O,O,aB⟩) ?_ ?_
 ·exact EK
 clear H;rintro ⟨k,g2⟩ a w hI H;dsimp only at hI H;obtain ⟨hk,heq,hgm⟩:=hI;dsimp only [lca,bD] at H;refine kP H (SR fun _ wo=>Rc O (Kz wo (SQ fun _ yw=>Cd O ?_ ?_))) <;> clear H wo
 ·intro qm a H
  try have Zd:=dT qm
  have hk2:k < h.marks.dJ.length:=by omega
  have hd2:=hh.dJ.mono hgm;obtain ⟨xb,xo,rfl,hrow⟩:=V3 hd2 hk2
  have hk1:k - 1 < h.marks.dJ.length:=by omega
  obtain ⟨b',o',he',hrow'⟩:=V3 hd2 hk1
  injection he' with he'
  injection he' with e1 e2
  subst e1;subst e2
  have hde:wE (bH us st li rv) h.marks.dJ k=yI (bH us st li rv) k h.marks.dJ[k] h.marks.dJ[k - 1].rev:=by unfold wE;rw [fF hk2,fF hk1];rfl
  have hX:∀ v,yI (bH us st li rv) k h.marks.dJ[k] h.marks.dJ[k - 1].rev=v->v≠0->iw (bH us st li rv) e h=v:=fun v h1 h2=>by
   have h4:kF (wE (bH us st li rv) h.marks.dJ) h.marks.dJ.length=v:=by rw [<- heq,Mk hk2,hde,h1,aH h2]
   exact (avo e1 e2 e3 (by rw [h4];exact h2)).trans h4
  have hp:=hrow' 0 _ O;have g3':=aK hgm g3;have hc2':=aK hgm hc2;have q2':=aK hgm q2;refine kP H (Kc yw (SQ fun _ uV=>SB (SR fun _ Az=>Rm O (Ri rP uP O O ?_))));clear H yw;intro a H;refine bq uP (cs:=h.marks.dJ[k].cells) H wn O O (fun j v hj=>H.hp.aI (hrow j v hj)) O ?_;clear H;intro a H;refine dR uP H wn O ?_;clear H;intro b13 a w Xr H;refine kH H (Ra O ?_);clear H;intro a H;refine bM uP 0 (vs:=[_,_]) H wn O ?_;clear H;intro w H;refine Az _ _ ?_;clear Az;refine AU ?_;refine bP (fun _ Gd=>?_);refine dI hmx [[],[0],[0,1],[0,1,2],[],[4],ra 0 6,ra 0 7,ra 0 8] [8] Z [_,_,_,_,_,vi h.marks.dJ[k].rev,.bool (decide (h.marks.dJ[k].rev∈rv.map dw.id)),_] H (aC (X0 O fun hG=>Rg LB O (aK hG g3')) (Z1 0 83 O (Rk O)) (Z1 1 84 O (Rf M8 O)) (X1 2 85 O fun hG=>Rg uO O (aK hG hc2')) (aC (Z0 O (Rf JQ O)) (Z1 4 87 O (Ro aD 0 O)) ?_ (Z1 6 89 O (Rn O)) (bK (bQ O) dG))) ?_
  ·refine eU 3 86 5 88 O O fun _ a w G1 hG HT H fin=>?_;refine CY (zv:=.bool false) zF mQ Z H wn O O (H.ro _ _ (hG _ _ (hgm _ _ hck.rev))) O ?_;clear H;intro a H;rw [Ir] at H;exact GD
  clear H;intro a w G J4 H hv;have H:=H.aQ (hv 7 90 O O) O;clear hv;refine kH H (Ra O ?_);clear H;intro a H;refine aF ⟨O,?_⟩;refine Gd _ _ ?_;clear Gd;refine jX H O ?_ ?_
  ·intro xJ
   refine bP (fun _ Gf=>?_);have hE:=hX 22 (by unfold yI;rw [aH (by simpa using xJ)]) Q1;exact kP H (SC (aZ Gf O (LR results55 O fun H=>H.rt (by rw [hE]))))
  intro xJ
  try have p82:=dF xJ
  have NC:¬ (h.marks.dJ[k].rev∉(bH us st li rv).mg):=by simpa using xJ
  refine bP (fun _ rU=>?_);replace hp:=aK J4 hp;replace q2':=aK J4 q2'
  by_cases c3:0 < (k:Int)
  ·skip
   by_cases c4:h.marks.dJ[k].rev<=h.marks.dJ[k - 1].rev
   ·skip;refine dI hmx [[],[0],[0,1],[0,1,2],ra 0 4,[0,1,2],[0,1,2,5],[0,1,2],[0,1,2,7],[0,1,2,5,6,7,8],[0,1,2,5,6,7,8,9],([0,1,2]++ra 5 6),ra 0 12,ra 0 13,ra 0 14] [14] Z [_,_,_,_,vi h.marks.dJ[k].rev,_,_,_,vi ((k - 1:Nat):Int),_,_,_,_,_] H (aC (Z0 O (Rm O)) (Z1 0 92 O (Rc O)) (Z1 1 93 O (Rm O)) (Z1 2 94 O (YF JQ (aG c3) O)) (aC (Z2 3 95 2 94 O (YO aD 0 (aG c3) O)) (Z1 2 94 O (YF yR (aG c3) O)) (X2 5 97 2 94 O fun hG=>YR zC (aG c3) O (aK hG q2')) (Z1 2 94 O (YM (aG c3) O)) (aC ?_ (Z3 6 98 8 100 2 94 O (YI rP uP (aG c3) O O)) (Z2 9 101 2 94 O (YF JQ (aG c3) O)) (X2 10 102 2 94 O fun hG=>YR aD (aG c3) O (aK hG hp)) (bK (Z3 4 96 11 103 2 94 O (YC (aG c3) O)) (bK (Z2 2 94 12 104 O (Pt (aG c3) O)) (bK (bQ O) dG)))))) ?_
    ·refine eU 7 99 2 94 O O fun _ a w G1 hG HT H fin=>?_;exact U9
    clear H;intro a w G QS H hv;have H:=H.aQ (hv 13 105 O O) O;clear hv;refine kH H (Ra O ?_);clear H;intro a H;refine aF ⟨O,?_⟩;refine rU _ _ ?_;clear rU;refine AV H O (aG c4) ?_;refine bP (fun _ Jd=>?_);have hz:0 < k∧h.marks.dJ[k].rev<=h.marks.dJ[k - 1].rev:=⟨V,c4⟩;have hE:=hX 6 (by unfold yI;rw [ay NC,aH hz]) Q1;exact kP H (SC (aZ Jd O (LR results55 O fun H=>H.rt (by rw [hE]))))
   skip;refine dI hmx [[],[0],[0,1],[0,1,2],ra 0 4,[0,1,2],[0,1,2,5],[0,1,2],[0,1,2,7],[0,1,2,5,6,7,8],[0,1,2,5,6,7,8,9],([0,1,2]++ra 5 6),ra 0 12,ra 0 13,ra 0 14] [14] Z [_,_,_,_,vi h.marks.dJ[k].rev,_,_,_,vi ((k - 1:Nat):Int),_,_,_,_,_] H (aC (Z0 O (Rm O)) (Z1 0 92 O (Rc O)) (Z1 1 93 O (Rm O)) (Z1 2 94 O (YF JQ (aG c3) O)) (aC (Z2 3 95 2 94 O (YO aD 0 (aG c3) O)) (Z1 2 94 O (YF yR (aG c3) O)) (X2 5 97 2 94 O fun hG=>YR zC (aG c3) O (aK hG q2')) (Z1 2 94 O (YM (aG c3) O)) (aC ?_ (Z3 6 98 8 100 2 94 O (YI rP uP (aG c3) O O)) (Z2 9 101 2 94 O (YF JQ (aG c3) O)) (X2 10 102 2 94 O fun hG=>YR aD (aG c3) O (aK hG hp)) (bK (Z3 4 96 11 103 2 94 O (YC (aG c3) O)) (bK (Z2 2 94 12 104 O (Pt (aG c3) O)) (bK (bQ O) dG)))))) ?_
   ·refine eU 7 99 2 94 O O fun _ a w G1 hG HT H fin=>?_;exact U9
   clear H;intro a w G QS H hv;have H:=H.aQ (hv 13 105 O O) O;clear hv;refine kH H (Ra O ?_);clear H;intro a H;refine aF ⟨O,?_⟩;refine rU _ _ ?_;clear rU;refine oQ H O (aS c4) ?_;refine bP (fun _ LX=>?_)
   have hz:¬ (0 < k∧h.marks.dJ[k].rev<=h.marks.dJ[k - 1].rev):=by first|exact fun h=>c4 h.2|exact fun h=>c3 V
   refine kP H (SC (aU afG aD 0 O O ?_));clear H;intro a H;refine s_call yM H wn O (zi _ _ H.ro h.marks.dJ[k].move 0 1073741824) O ?_;clear H;rintro v109 _ a w ⟨rfl,rfl⟩ - H;refine kH H (Rn O (aZ LX O (Cd O ?_ ?_))) <;> clear H LX
   ·intro Bc a H
    try have Za:=dT Bc
    refine bP (fun _ Ph=>?_);have hE:=hX 21 (by unfold yI;rw [ay NC,ay hz,aH (by have h0:=Bc;simp at h0;omega)]) Q1;exact kP H (SC (aZ Ph O (LR results55 O fun H=>H.rt (by rw [hE]))))
   intro Bc a H
   try have Za:=dF Bc
   have agN:yI (bH us st li rv) k h.marks.dJ[k] h.marks.dJ[k - 1].rev=0:=by unfold yI;rw [ay NC,ay hz,ay (by have h0:=Bc;simp at h0;omega)]
   have hGk:=fun b o h=>QS b o (J4 b o (hgm b o h));refine kP H (Kc uV (SC (Rd O (Rm O ?_))));clear H uV;intro a H;refine aF ?_;refine dS ((k+1,G)) (by exact (H.dV (Pl:=[_]) (dL:=[]) [] Q1 O).sub ⟨O,O,O,O,O,O,aB⟩) ?_
   (try dsimp only);exact abC
  skip;refine dI hmx [[],[0],[0,1],[0,1,2],ra 0 4,[0,1,2],[0,1,2,5],[0,1,2],[0,1,2,7],[0,1,2,5,6,7,8],[0,1,2,5,6,7,8,9],([0,1,2]++ra 5 6),ra 0 12,ra 0 13,ra 0 14] [14] Z [_,_,_,undef,undef,undef,undef,undef,undef,undef,undef,undef,undef,_] H (aC (Z0 O (Rm O)) (Z1 0 92 O (Rc O)) (Z1 1 93 O (Rm O)) (aO 2 (aS c3) O O) (aC (aO 2 (aS c3) O O) (aO 2 (aS c3) O O) (aO 2 (aS c3) O O) (aO 2 (aS c3) O O) (aC (aO 2 (aS c3) O O) (aO 2 (aS c3) O O) (aO 2 (aS c3) O O) (aO 2 (aS c3) O O) (bK (aO 2 (aS c3) O O) (bK (Z2 2 94 12 104 O (Pf (aS c3) O)) (bK (bQ O) dG)))))) ?_
  clear H;intro a w G QS H hv;have H:=H.aQ (hv 13 105 O O) O;clear hv;refine kH H (Ra O ?_);clear H;intro a H;refine aF ⟨O,?_⟩;refine rU _ _ ?_;clear rU;refine oQ H O O ?_;refine bP (fun _ LY=>?_)
  have hz:¬ (0 < k∧h.marks.dJ[k].rev<=h.marks.dJ[k - 1].rev):=by first|exact fun h=>c4 h.2|exact fun h=>c3 V
  refine kP H (SC (aU afG aD 0 O O ?_));clear H;intro a H;refine s_call yM H wn O (zi _ _ H.ro h.marks.dJ[k].move 0 1073741824) O ?_;clear H;rintro v109 _ a w ⟨rfl,rfl⟩ - H;refine kH H (Rn O (aZ LY O (Cd O ?_ ?_))) <;> clear H LY
  ·intro Bc a H
   try have Za:=dT Bc
   refine bP (fun _ Pj=>?_);have hE:=hX 21 (by unfold yI;rw [ay NC,ay hz,aH (by have h0:=Bc;simp at h0;omega)]) Q1;exact kP H (SC (aZ Pj O (LR results55 O fun H=>H.rt (by rw [hE]))))
  intro Bc a H
  try have Za:=dF Bc
  have agN:yI (bH us st li rv) k h.marks.dJ[k] h.marks.dJ[k - 1].rev=0:=by unfold yI;rw [ay NC,ay hz,ay (by have h0:=Bc;simp at h0;omega)]
  have hGk:=fun b o h=>QS b o (J4 b o (hgm b o h));refine kP H (Kc uV (SC (Rd O (Rm O ?_))));clear H uV;intro a H;refine aF ?_;refine dS ((k+1,G)) (by exact (H.dV (Pl:=[_]) (dL:=[]) [] Q1 O).sub ⟨O,O,O,O,O,O,aB⟩) ?_
  (try dsimp only);exact abC
 intro qm a H
 try have Zd:=dF qm
 refine dX ?_;refine ug _ _ ?_;clear ug;refine bP (fun _ LZ=>?_);refine bP (fun _ Ma=>?_)
 have e4:kF (wE (bH us st li rv) h.marks.dJ) h.marks.dJ.length=0:=by rw [<- heq,ow (by simp;omega)];rfl
 replace q3:=aK hgm q3;refine kP H (SC (Rf EU O (Rg FL O (by assumption) ?_)));clear H;intro a H;refine kH H (Rl vZ O (Rc O (Kn Ma (Cd O ?_ ?_)))) <;> clear H Ma
 ·intro WW a H
  try have Zb:=dT WW
  refine bP (fun _ Pk=>?_);have hE:=avp (C:=bH us st li rv) (e:=e) (h:=h) e1 e2 e3 e4 Zb;exact kP H (SC (aZ Pk O (LR results55 O fun H=>H.rt (by rw [hE]))))
 intro WW a H
 try have Zb:=dF WW
 refine gT ?_;refine LZ _ _ ?_;clear LZ;refine bP (fun _ Pm=>?_);have hE:=avq (C:=bH us st li rv) (e:=e) (h:=h) e1 e2 e3 e4 Zb;refine kP H (SC (Rf EU O (Rg FL O (by assumption) ?_)));clear H;intro a H;refine kH H (Rl vZ O ?_);clear H;intro a H;refine wV H wn O O ?_;clear H;intro a H;refine s_call JK H wn O (Ml _ _ H.ro h.marks.layers.length (BF (bH us st li rv) e h.marks.layers) _ V (hcb.mono hgm)) O ?_;clear H;rintro aCw ami a w rfl agx H;exact kH H (aZ Pm O (LR results55 O fun H=>H.rt (by rw [hE])))
end
def codeOk (x:ak):Bool:=if x.kind=4 then decide (1<=x.code∧x.code<=3) else if x.kind=6 then decide (1<=x.code∧x.code<=2) else if x.kind=8 then decide (1<=x.code∧x.code<=4) else true
def xX (x:ak):Bool:=decide (x.kind=8∧x.code=1)
def xZ (x:ak):Bool:=decide (x.kind=1∨x.kind=5) || xX x
def vT (x:ak):Bool:=decide (x.kind=6∨x.kind=7∨x.kind=8)
def vw (x:ak):Bool:=decide (x.kind=4∨x.kind=6∨x.kind=8)
def rZ (s:ByteArray):Bool:=s.toList == (⟨#[]⟩:ByteArray).toList
def vD (x:ak):Bool:=!vw x && decide (x.code≠0) || !vT x && decide (x.id≠0) || !xZ x && !rZ x.text || decide (x.kind≠6) && decide (0 < (x.flow.length:Int)) || decide (x.kind≠7) && decide (0 < (x.rows.length:Int))
def iU (x:ak):Int :=
 if (!decide (1<=x.kind∧x.kind<=8) || !codeOk x)=true then 3 else if vD x=true then 15 else if ny x.text=false then 12 else if (decide (x.kind=1∨x.kind=5) && rZ x.text)=true then 11
 else if (decide (x.kind=5) && decide (1024 < (x.text.size:Int)))=true then 10 else if (xX x && !wC x.text)=true then 13 else 0
theorem yF {p:Prop} (h:p:=by
 first|(simp_all;done)):p:=h
theorem GK {p:Prop} (h:p:=by
 clear hst hwd hnm hck hcd;(try clear hq1);(try clear hq2);(try clear hq3);(try clear hq0);(try clear hq4);(try clear KA);(try clear KC);(try clear KD);simp_all):p:=h
theorem anO {p:Prop} (h:p:=by
 (try clear hq1);(try clear hq2);(try clear hq3);(try clear hq0);(try clear hq4);(try clear KA);(try clear KC);(try clear KD);simp_all):p:=h
theorem acs {p:Prop} (h:p:=by
 clear hst hwd hnm hck hcd;(try clear hq1);(try clear hq2);(try clear hq3);(try clear hq0);(try clear hq4);(try clear KA);(try clear KC);(try clear KD);simp_all [rZ]):p:=h
theorem acJ {p:Prop} (h:p:=by
 (try clear hq1);(try clear hq2);(try clear hq3);(try clear hq0);(try clear hq4);(try clear KA);(try clear KC);(try clear KD);simp_all [rZ]):p:=h
theorem Vt {p:Prop} (h:p:=by
 refine kH H (Ra O ?_);clear H;intro a H;refine aF ?_;refine ⟨_,by exact H.sub ⟨O,O,O,O,O,aB⟩,?_⟩
 unfold codeOk;exact yF):p:=h
theorem GJ {p:Prop} (h:p:=by
 clear hst hwd hnm hck hcd;exact anO):p:=h
theorem acy {p:Prop} (h:p:=by
 clear H;intro a H;refine agA (_) _ _ ?_ (by exact H.sub ⟨O,O,O,aB⟩);rw [<- hwd];clear hst hwd hnm hck hcd;exact acJ):p:=h
theorem acz {p:Prop} (h:p:=by
 clear H;intro a H;refine agE (_) _ _ ?_ (by exact H.sub ⟨O,O,O,aB⟩);clear hst hwd hnm hck hcd;exact acJ):p:=h
theorem acE {p:Prop} (h:p:=by
 clear H;intro a H;refine agC (_) _ _ ?_ (by exact H.sub ⟨O,O,O,aB⟩);rw [show vD x=(q4 || decide (x.kind≠7) && decide (0 < (x.rows.length:Int))) by rw [hq4,hq3,hq2,hq1];rfl];clear hq4;exact GJ):p:=h
theorem acH {p:Prop} (h:p:=by
 clear H;intro a H;refine agD (_) _ _ ?_ (by exact H.sub ⟨O,O,O,O,aB⟩);rw [<- hnm];exact GJ):p:=h
theorem acI {p:Prop} (h:p:=by
 clear H;intro a H;refine agB (_) _ _ ?_ (by exact H.sub ⟨O,O,O,aB⟩);exact GJ):p:=h
theorem atA (G:GH) (w0:World) (hG:Hold G w0) (x:ak) (p d l:ah) (fA rA:Option Addr) (fc rc:Nat) (hs:x.text.size < 4611686018427387904) :
  Calls prog 206 #[.agg #[vi x.kind,vi x.code,vi x.id,.string x.text,p,vi x.head.marks.ins,vi x.head.marks.move,d,l,.slice fA x.flow.length fc,.slice rA x.rows.length rc]] w0 (bG w0 G fun u G'=>u=vi (iU x)∧G=G'):=by
 refine eN [(0,_)] func206 O ntmps206 O O hG ?_;intro a H;refine dH (fun _ K1=>?_);refine eB (cs:=[_,_,_,_,_,_,_,_,_,_,_]) H wn O O O ?_;clear H;intro b1 a w hb1 H;refine kH H (au K1 O ?_);clear H K1;intro a H;refine rX (ι:=Bool) (Tc:=[(1,_)]) (Lc:=[(_,_)]) (fun gh=>[(3,.bool gh)]) (fun gh=>[]) (fun gh=>G) (fun gh=>gh=xX x) (by exact H.sub ⟨O,aB⟩) ?_ ?_
 ·skip;refine kP H (SC (aU iL aD 0 O O (Rc O (Rm O (Sp 11 O ?_ ?_))))) <;> clear H
  ·intro h11 a H
   try have qp:=dT h11
   refine kH H (YF DJ h11 O (YO aD 0 h11 O (YC h11 O (Pt h11 O (Ra O ?_)))));clear H;intro a H;refine aF ?_;refine ⟨_,by exact H.sub ⟨O,O,aB⟩,?_⟩
   unfold xX;exact yF
  intro h11 a H
  try have qp:=dF h11
  refine kH H (bg h11 O (Pf h11 O (Ra O ?_)));clear H;intro a H;refine aF ?_;refine ⟨_,by exact H.sub ⟨O,O,aB⟩,?_⟩
  unfold xX;exact yF
 clear H;intro st a w hI H;have hst:=hI;dsimp only [lca,bD] at H;refine rX (ι:=Bool) (Tc:=[(1,_),(3,_)]) (Lc:=[(_,_)]) (fun gh=>[(4,.bool gh)]) (fun gh=>[]) (fun gh=>G) (fun gh=>gh=xZ x) (by exact H.sub ⟨O,O,aB⟩) ?_ ?_
 ·skip;refine kP H (SC (aU iL aD 0 O O (Rc O (Rm O (Sp 19 O ?_ ?_))))) <;> clear H
  ·intro h19 a H
   try have wS:=dT h19
   refine kH H (bg h19 O (Pt h19 O (Rm O (Ks O O (Pt O O (Ra O ?_))))));clear H;intro a H;refine aF ?_;refine ⟨_,by exact H.sub ⟨O,O,O,aB⟩,?_⟩
   unfold xZ;exact yF
  intro h19 a H
  try have wS:=dF h19
  refine kH H (YF iL h19 O (YO aD 0 h19 O (YC h19 O (Pf h19 O (Rm O (Sp 24 O ?_ ?_)))))) <;> clear H
  ·intro dU a H
   try have lK:=dT dU
   refine kH H (Ks dU O (Pt dU O (Ra O ?_)));clear H;intro a H;refine aF ?_;refine ⟨_,by exact H.sub ⟨O,O,O,aB⟩,?_⟩
   unfold xZ;exact yF
  intro dU a H
  try have lK:=dF dU
  refine kH H (YM dU O (Pf dU O (Ra O ?_)));clear H;intro a H;refine aF ?_;refine ⟨_,by exact H.sub ⟨O,O,O,aB⟩,?_⟩
  unfold xZ;exact yF
 clear H;intro wd a w hI H;have hwd:=hI;dsimp only [lca,bD] at H;refine rX (ι:=Bool) (Tc:=[(1,_),(3,_),(4,_)]) (Lc:=[(_,_)]) (fun gh=>[(5,.bool gh)]) (fun gh=>[]) (fun gh=>G) (fun gh=>gh=vT x) (by exact H.sub ⟨O,O,O,aB⟩) ?_ ?_
 ·skip;refine kP H (SC (aU iL aD 0 O O (Rc O (Rm O (Sp 30 O ?_ ?_))))) <;> clear H
  ·intro nX a H
   try have p30:=dT nX
   refine kH H (bg nX O (Pt nX O (Rm O (bg O O (Pt O O (Ra O ?_))))));clear H;intro a H;refine aF ?_;refine ⟨_,by exact H.sub ⟨O,O,O,O,aB⟩,?_⟩
   unfold vT;exact yF
  intro nX a H
  try have p30:=dF nX
  refine kH H (YF iL nX O (YO aD 0 nX O (YC nX O (Pf nX O (Rm O (Sp 35 O ?_ ?_)))))) <;> clear H
  ·intro iV a H
   try have p35:=dT iV
   refine kH H (bg iV O (Pt iV O (Ra O ?_)));clear H;intro a H;refine aF ?_;refine ⟨_,by exact H.sub ⟨O,O,O,O,aB⟩,?_⟩
   unfold vT;exact yF
  intro iV a H
  try have p35:=dF iV
  refine kH H (YF iL iV O (YO aD 0 iV O (YC iV O (Pf iV O (Ra O ?_)))));clear H;intro a H;refine aF ?_;refine ⟨_,by exact H.sub ⟨O,O,O,O,aB⟩,?_⟩
  unfold vT;exact yF
 clear H;intro nm a w hI H;have hnm:=hI;dsimp only [lca,bD] at H;refine kP H (SR fun _ K2=>au K2 O ?_);clear H K2;intro a H;refine rX (ι:=Bool) (Tc:=[(1,_),(3,_),(4,_),(5,_)]) (Lc:=[(_,_)]) (fun gh=>[(6,.bool gh)]) (fun gh=>[]) (fun gh=>G) (fun gh=>gh=codeOk x) (by exact H.sub ⟨O,O,O,O,aB⟩) ?_ ?_
 ·skip;refine kP H (SR fun _ K3=>aU iL aD 0 O O (Kz K3 (SB (SR fun _ K4=>Rc O (au K4 O (Cd O ?_ ?_)))))) <;> clear H K3 K4
  ·intro jy a H
   try have p42:=dT jy
   refine kP H (SC (aU DJ aD 0 O O ?_));clear H;intro a H;refine s_call yM H wn O (zi _ _ H.ro x.code 1 3) O ?_;clear H;rintro v46 _ a w ⟨rfl,rfl⟩ - H;exact Vt
  intro jy a H
  try have p42:=dF jy
  refine kP H (SR fun _ K5=>Rc O (au K5 O (Cd O ?_ ?_))) <;> clear H K5
  ·intro h47 a H
   try have p47:=dT h47
   refine kP H (SC (aU DJ aD 0 O O ?_));clear H;intro a H;refine s_call yM H wn O (zi _ _ H.ro x.code 1 2) O ?_;clear H;rintro v51 _ a w ⟨rfl,rfl⟩ - H;exact Vt
  intro h47 a H
  try have p47:=dF h47
  refine kP H (SR fun _ K6=>Rc O (au K6 O (Cd O ?_ ?_))) <;> clear H K6
  ·intro jP a H
   try have p52:=dT jP
   refine kP H (SC (aU DJ aD 0 O O ?_));clear H;intro a H;refine s_call yM H wn O (zi _ _ H.ro x.code 1 4) O ?_;clear H;rintro v56 _ a w ⟨rfl,rfl⟩ - H;exact Vt
  intro jP a H
  try have p52:=dF jP
  refine gT ?_;refine ⟨_,by exact H.sub ⟨O,O,O,O,O,aB⟩,?_⟩
  unfold codeOk;exact yF
 clear H;intro ck a w hI H;have hck:=hI;dsimp only [lca,bD] at H;refine rX (ι:=Bool) (Tc:=[(1,_),(3,_),(4,_),(5,_),(6,_)]) (Lc:=[(_,_)]) (fun gh=>[(7,.bool gh)]) (fun gh=>[]) (fun gh=>G) (fun gh=>gh=vw x) (by exact H.sub ⟨O,O,O,O,O,aB⟩) ?_ ?_
 ·skip;refine kP H (SC (aU iL aD 0 O O (Rc O (Rm O (Sp 60 O ?_ ?_))))) <;> clear H
  ·intro kZ a H
   try have p60:=dT kZ
   refine kH H (bg kZ O (Pt kZ O (Rm O (bg O O (Pt O O (Ra O ?_))))));clear H;intro a H;refine aF ?_;refine ⟨_,by exact H.sub ⟨O,O,O,O,O,O,aB⟩,?_⟩
   unfold vw;exact yF
  intro kZ a H
  try have p60:=dF kZ
  refine kH H (YF iL kZ O (YO aD 0 kZ O (YC kZ O (Pf kZ O (Rm O (Sp 65 O ?_ ?_)))))) <;> clear H
  ·intro uD a H
   try have p65:=dT uD
   refine kH H (bg uD O (Pt uD O (Ra O ?_)));clear H;intro a H;refine aF ?_;refine ⟨_,by exact H.sub ⟨O,O,O,O,O,O,aB⟩,?_⟩
   unfold vw;exact yF
  intro uD a H
  try have p65:=dF uD
  refine kH H (YF iL uD O (YO aD 0 uD O (YC uD O (Pf uD O (Ra O ?_)))));clear H;intro a H;refine aF ?_;refine ⟨_,by exact H.sub ⟨O,O,O,O,O,O,aB⟩,?_⟩
  unfold vw;exact yF
 clear H;intro cd a w hI H;have hcd:=hI;dsimp only [lca,bD] at H;refine kP H (SQ fun _ K7=>SB (SR fun _ K8=>?_));clear H;intro a H;refine Ey (ι:=Bool) (Tc:=[(1,_),(3,_),(4,_),(5,_),(7,_)]) 8 (fun (q0:Bool)=>[(78,.bool q0)]) (fun (q0:Bool)=>q0=(!decide (1<=x.kind∧x.kind<=8) || !codeOk x)) (by exact H.sub ⟨O,O,O,O,O,aB⟩) ?_ ?_
 ·intro agy;refine kH H (aU iL aD 0 O O ?_);clear H;intro a H;refine s_call yM H wn O (zi _ _ H.ro x.kind 1 8) O ?_;clear H;rintro v73 _ a w ⟨rfl,rfl⟩ - H;refine kH H (Rn O (Rm O (Sp 75 O ?_ ?_))) <;> clear H
  ·intro EZ a H
   try have p75:=dT EZ
   refine kH H (aR EZ O (Pt EZ O ?_));clear H;intro a H;refine agy (_) _ _ ?_ (by exact H.sub ⟨O,O,O,O,O,O,aB⟩);rw [<- hck];exact GJ
  intro EZ a H
  try have p75:=dF EZ
  refine kH H (YM EZ O (YN EZ O (Pf EZ O ?_)));clear H;intro a H;refine agy (_) _ _ ?_ (by exact H.sub ⟨O,O,O,O,O,O,aB⟩);rw [<- hck];exact GK
 clear H;intro q0 a w hI H;dsimp only [lca,bD] at H;simp only [Dt,xu];have hq0:=hI;refine kH H (au K8 O (Cd O ?_ ?_)) <;> clear H K8
 ·intro Cn a H
  refine bP (fun _ K9=>?_)
  have e:iU x=3:=by unfold iU;rw [aH (by rw [<- hq0];exact Cn)]
  exact kP H (SC (aZ K9 O (LR results206 O fun H=>H.rt ⟨by rw [e],O⟩)))
 intro Cn a H
 try have p70:=dF Cn
 have f0:¬ (!decide (1<=x.kind∧x.kind<=8) || !codeOk x)=true:=by rw [<- hq0,Cn];decide
 refine dH (fun _ aT=>?_);refine Ey (ι:=Bool) (Tc:=[(1,_),(3,_),(4,_),(5,_)]) 7 (fun (q1:Bool)=>[(86,.bool q1)]) (fun (q1:Bool)=>q1=(!vw x && decide (x.code≠0))) (by exact H.sub ⟨O,O,O,O,aB⟩) ?_ ?_
 ·intro agz;refine kH H (Rm O (Rn O (Rm O (Sp 82 O ?_ ?_)))) <;> clear H
  ·intro xJ a H
   try have p82:=dT xJ
   refine kH H (YF DJ xJ O (YO aD 0 xJ O (YC xJ O (Pt xJ O ?_))));clear H;intro a H;refine agz (_) _ _ ?_ (by exact H.sub ⟨O,O,O,O,O,aB⟩);rw [<- hcd];exact GJ
  intro xJ a H
  try have p82:=dF xJ
  refine kH H (bg xJ O (Pf xJ O ?_));clear H;intro a H;refine agz (_) _ _ ?_ (by exact H.sub ⟨O,O,O,O,O,aB⟩);rw [<- hcd];exact GK
 clear H;intro q1 a w hI H;dsimp only [lca,bD] at H;simp only [Dt,xu];have hq1:=hI;refine Ey (ι:=Bool) (Tc:=[(1,_),(3,_),(4,_)]) 9 (fun (q2:Bool)=>[(95,.bool q2)]) (fun (q2:Bool)=>q2=(q1 || !vT x && decide (x.id≠0))) (by exact H.sub ⟨O,O,O,aB⟩) ?_ ?_
 ·intro agD;refine kH H (Rm O (Sp 87 O ?_ ?_)) <;> clear H
  ·intro h87 a H
   try have Sn:=dT h87
   refine kH H (bg h87 O (Ku O (Ku O (Ku O (Ks h87 O (Pt h87 O ?_))))));exact acH
  intro h87 a H
  try have Sn:=dF h87
  refine kH H (YM h87 O (YN h87 O (YM h87 O (Sp 90 O ?_ ?_)))) <;> clear H
  ·intro D5 a H
   try have p90:=dT D5
   refine kH H (YF yO D5 O (YO aD 0 D5 O (YC D5 O (PT h87 D5 O (Pf h87 O ?_)))));exact acH
  intro D5 a H
  try have p90:=dF D5
  refine kH H (bg D5 O (PF h87 D5 O (Pf h87 O ?_)));clear H;intro a H;refine agD (_) _ _ ?_ (by exact H.sub ⟨O,O,O,O,aB⟩);rw [<- hnm];exact GK
 clear H;intro q2 a w hI H;dsimp only [lca,bD] at H;simp only [Dt,xu];have hq2:=hI;refine Ey (ι:=Bool) (Tc:=[(1,_),(3,_)]) 9 (fun (q3:Bool)=>[(104,.bool q3)]) (fun (q3:Bool)=>q3=(q2 || !xZ x && !rZ x.text)) (by exact H.sub ⟨O,O,aB⟩) ?_ ?_
 ·intro agA;refine kH H (Rm O (Sp 96 O ?_ ?_)) <;> clear H
  ·intro uE a H
   try have Oq:=dT uE
   refine kH H (bg uE O (Ku O (Ku O (Ku O (Ks uE O (Pt uE O ?_))))));exact acy
  intro uE a H
  try have Oq:=dF uE
  refine kH H (YM uE O (YN uE O (YM uE O (Sp 99 O ?_ ?_)))) <;> clear H
  ·intro D6 a H
   try have p99:=dT D6
   refine kH H (YF rC D6 O (YO gV 0 D6 O ?_));clear H;intro a H;refine aA2 H (wg H O O D6) O O O ?_;clear H;intro a H;refine kH H (PT uE D6 O (Pf uE O ?_));exact acy
  intro D6 a H
  try have p99:=dF D6
  refine kH H (bg D6 O (PF uE D6 O (Pf uE O ?_)));clear H;intro a H;refine agA (_) _ _ ?_ (by exact H.sub ⟨O,O,O,aB⟩);rw [<- hwd];exact acs
 clear H;intro q3 a w hI H;dsimp only [lca,bD] at H;simp only [Dt,xu];have hq3:=hI;refine Ey (ι:=Bool) (Tc:=[(1,_),(3,_)]) 11 (fun (q4:Bool)=>[(115,.bool q4)]) (fun (q4:Bool)=>q4=(q3 || decide (x.kind≠6) && decide (0 < (x.flow.length:Int)))) (by exact H.sub ⟨O,O,aB⟩) ?_ ?_
 ·intro agB;refine kH H (Rm O (Sp 105 O ?_ ?_)) <;> clear H
  ·intro sD a H
   try have KU:=dT sD
   refine kH H (aR sD O (aR sD O (Ku O (Ku O (Ku O (Ku O (Ks sD O (Pt sD O ?_))))))));exact acI
  intro sD a H
  try have KU:=dF sD
  refine kH H (YF iL sD O (YO aD 0 sD O (YC sD O (YM sD O (Sp 109 O ?_ ?_))))) <;> clear H
  ·intro Bd a H
   try have azj:=dT Bd
   refine kH H (YF uw Bd O (YO fC 0 Bd O (YL eH Bd O (YC Bd O (PT sD Bd O (Pf sD O ?_))))));exact acI
  intro Bd a H
  try have azj:=dF Bd
  refine kH H (aR Bd O (aR Bd O (PF sD Bd O (Pf sD O ?_))));clear H;intro a H;refine agB (_) _ _ ?_ (by exact H.sub ⟨O,O,O,aB⟩);exact GK
 clear H;intro q4 a w hI H;dsimp only [lca,bD] at H;simp only [Dt,xu];have hq4:=hI;refine Ey (ι:=Bool) (Tc:=[(1,_),(3,_)]) 11 (fun (q5:Bool)=>[(126,.bool q5)]) (fun (q5:Bool)=>q5=vD x) (by exact H.sub ⟨O,O,aB⟩) ?_ ?_
 ·intro agC;refine kH H (Rm O (Sp 116 O ?_ ?_)) <;> clear H
  ·intro h116 a H
   try have azl:=dT h116
   refine kH H (aR h116 O (aR h116 O (Ku O (Ku O (Ku O (Ku O (Ks h116 O (Pt h116 O ?_))))))));exact acE
  intro h116 a H
  try have azl:=dF h116
  refine kH H (YF iL h116 O (YO aD 0 h116 O (YC h116 O (YM h116 O (Sp 120 O ?_ ?_))))) <;> clear H
  ·intro Bf a H
   try have azm:=dT Bf
   refine kH H (YF pR Bf O (YO oq 0 Bf O (YL jS Bf O (YC Bf O (PT h116 Bf O (Pf h116 O ?_))))));exact acE
  intro Bf a H
  try have azm:=dF Bf
  refine kH H (aR Bf O (aR Bf O (PF h116 Bf O (Pf h116 O ?_))));clear H;intro a H;refine agC (_) _ _ ?_ (by exact H.sub ⟨O,O,O,aB⟩);rw [show vD x=(q4 || decide (x.kind≠7) && decide (0 < (x.rows.length:Int))) by rw [hq4,hq3,hq2,hq1];rfl];clear hq4;exact GK
 clear H;intro q5 a w hI H;dsimp only [lca,bD] at H;simp only [Dt,xu];have KA:=hI;refine kH H (au aT O (Cd O ?_ ?_)) <;> clear H aT
 ·intro E5 a H
  refine bP (fun _ bJ=>?_)
  have e:iU x=15:=by unfold iU;rw [ay f0,aH (by rw [<- KA];exact E5)]
  exact kP H (SC (aZ bJ O (LR results206 O fun H=>H.rt ⟨by rw [e],O⟩)))
 intro E5 a H
 try have Ze:=dF E5
 have f1:¬ vD x=true:=by rw [<- KA,E5];decide
 refine kP H (SR fun _ bO=>aU rC gV 0 O O ?_);clear H;intro a H;refine s_call MX H wn O (OJ _ _ H.ro x.text hs) O ?_;clear H;rintro v130 _ a w ⟨rfl,rfl⟩ - H;refine kH H (Rn O (au bO O (Cd O ?_ ?_))) <;> clear H bO
 ·intro h127 a H
  refine bP (fun _ bU=>?_)
  have e:iU x=12:=by unfold iU;rw [ay f0,ay f1,aH (by simpa using h127)]
  exact kP H (SC (aZ bU O (LR results206 O fun H=>H.rt ⟨by rw [e],O⟩)))
 intro h127 a H
 try have aEf:=dF h127
 have f2:¬ ny x.text=false:=by simpa using h127
 refine dH (fun _ bZ=>?_);refine Ey (ι:=Bool) (Tc:=[(1,_),(3,_)]) 13 (fun (q6:Bool)=>[(145,.bool q6)]) (fun (q6:Bool)=>q6=(decide (x.kind=1∨x.kind=5) && rZ x.text)) (by exact H.sub ⟨O,O,aB⟩) ?_ ?_
 ·intro agE;refine kH H (aU iL aD 0 O O (Rc O (Rm O (Sp 136 O ?_ ?_)))) <;> clear H
  ·intro DT a H
   try have azo:=dT DT
   refine kH H (bg DT O (Pt DT O (Rm O ?_)));clear H;intro a H;refine CX rC H (wg H O O O) O O ?_;clear H;intro a H;refine tQ gV H (wg H O O O) O (H.hp.tO 0 O O) O ?_;clear H;intro a H;refine CW H (wg H O O O) O O O ?_;clear H;intro a H;refine kH H (Pt O O ?_);exact acz
  intro DT a H
  try have azo:=dF DT
  refine kH H (YF iL DT O (YO aD 0 DT O (YC DT O (Pf DT O (Rm O (Sp 141 O ?_ ?_)))))) <;> clear H
  ·intro DV a H
   try have azp:=dT DV
   refine kH H (YF rC DV O (YO gV 0 DV O ?_));clear H;intro a H;refine CW H (wg H O O DV) O O O ?_;clear H;intro a H;refine kH H (Pt DV O ?_);exact acz
  intro DV a H
  try have azp:=dF DV
  refine kH H (bg DV O (Pf DV O ?_));clear H;intro a H;refine agE (_) _ _ ?_ (by exact H.sub ⟨O,O,O,aB⟩);exact acs
 clear H;intro q6 a w hI H;dsimp only [lca,bD] at H;simp only [Dt,xu];have KC:=hI;refine kH H (au bZ O (Cd O ?_ ?_)) <;> clear H bZ
 ·intro sF a H
  refine bP (fun _ dP=>?_)
  have e:iU x=11:=by unfold iU;rw [ay f0,ay f1,ay f2,aH (by rw [<- KC];exact sF)]
  exact kP H (SC (aZ dP O (LR results206 O fun H=>H.rt ⟨by rw [e],O⟩)))
 intro sF a H
 try have Sm:=dF sF
 have f3:¬ (decide (x.kind=1∨x.kind=5) && rZ x.text)=true:=by rw [<- KC,sF];decide
 refine dH (fun _ dY=>?_);refine Ey (ι:=Bool) (Tc:=[(1,_),(3,_)]) 9 (fun (q7:Bool)=>[(155,.bool q7)]) (fun (q7:Bool)=>q7=(decide (x.kind=5) && decide (1024 < (x.text.size:Int)))) (by exact H.sub ⟨O,O,aB⟩) ?_ ?_
 ·intro agF;refine kH H (aU iL aD 0 O O (Rc O (Rm O (Sp 150 O ?_ ?_)))) <;> clear H
  ·intro Bg a H
   try have azr:=dT Bg
   refine kH H (YF rC Bg O (YO gV 0 Bg O ?_));clear H;intro a H;refine FE iI H (wg H O O Bg) O O ?_;clear H;intro a H;refine kH H (YC Bg O (Pt Bg O ?_));clear H;intro a H;refine agF (_) _ _ ?_ (by exact H.sub ⟨O,O,O,aB⟩);exact GJ
  intro Bg a H
  try have azr:=dF Bg
  refine kH H (aR Bg O (aR Bg O (Pf Bg O ?_)));clear H;intro a H;refine agF (_) _ _ ?_ (by exact H.sub ⟨O,O,O,aB⟩);exact GK
 clear H;intro q7 a w hI H;dsimp only [lca,bD] at H;simp only [Dt,xu];have KD:=hI;refine kH H (au dY O (Cd O ?_ ?_)) <;> clear H dY
 ·intro QN a H
  refine bP (fun _ dQ=>?_)
  have e:iU x=10:=by unfold iU;rw [ay f0,ay f1,ay f2,ay f3,aH (by rw [<- KD];exact QN)]
  exact kP H (SC (aZ dQ O (LR results206 O fun H=>H.rt ⟨by rw [e],O⟩)))
 intro QN a H
 try have aEh:=dF QN
 have f4:¬ (decide (x.kind=5) && decide (1024 < (x.text.size:Int)))=true:=by rw [<- KD,QN];decide
 refine dH (fun _ eX=>?_);refine Ey (ι:=Bool) (Tc:=[]) 7 (fun (q8:Bool)=>[(163,.bool q8)]) (fun (q8:Bool)=>q8=(xX x && !wC x.text)) (by exact H.sub trivial) ?_ ?_
 ·intro agG;refine kH H (Rm O (Rm O (Sp 158 O ?_ ?_))) <;> clear H
  ·intro Bh a H
   try have azt:=dT Bh
   refine kH H (YF rC Bh O (YO gV 0 Bh O ?_));clear H;intro a H;refine s_call afn H (wg H O O Bh) O (aeh _ _ H.ro x.text hs) O ?_;clear H;rintro aEq _ a w ⟨rfl,rfl⟩ - H;refine kH H (YN Bh O (Pt Bh O ?_));clear H;intro a H;refine agG (_) _ _ ?_ (by exact H.sub ⟨O,aB⟩);rw [<- hst];exact GJ
  intro Bh a H
  try have azt:=dF Bh
  refine kH H (aR Bh O (aR Bh O (Pf Bh O ?_)));clear H;intro a H;refine agG (_) _ _ ?_ (by exact H.sub ⟨O,aB⟩);rw [<- hst];exact GK
 clear H;intro q8 a w hI H;dsimp only [lca,bD] at H;simp only [Dt,xu];have hq8:=hI;refine kH H (au eX O (Cd O ?_ ?_)) <;> clear H eX
 ·intro WX a H
  refine bP (fun _ gM=>?_)
  have e:iU x=13:=by unfold iU;rw [ay f0,ay f1,ay f2,ay f3,ay f4,aH (by rw [<- hq8];exact WX)]
  exact kP H (SC (aZ gM O (LR results206 O fun H=>H.rt ⟨by rw [e],O⟩)))
 intro WX a H
 refine gT ?_;refine K7 _ _ ?_;clear K7;refine bP (fun _ fI=>?_)
 have e:iU x=0:=by unfold iU;rw [ay f0,ay f1,ay f2,ay f3,ay f4,ay (by rw [<- hq8,WX];decide)]
 exact kP H (SC (aZ fI O (LR results206 O fun H=>H.rt ⟨by rw [e],O⟩)))
structure CS where
 n:Int
 bL:List Int
abbrev CR:=Int × CS
def iF (r:CR) (f:CS->CR):CR:=if r.1≠0 then r else f r.2
theorem Jm {r:CR} {f:CS->CR} (h:r.1=0):iF r f=f r.2:=by rw [iF,ay (fun h'=>h' h)]
theorem PE {r:CR} {f:CS->CR} (h:r.1≠0):iF r f=r:=by rw [iF,aH h]
def nZ (C:bN) (s:CS) (x:Int):CR:=(qH C.us s.bL x,⟨s.n,ng C.us s.bL x⟩)
def pE (C:bN) (body note:Bool) (t k i:Int) (s:CS):CR :=
 if k=3 then (dN (!body) 19,s) else if k=6 then iF (dN note 19,s) fun s=>nZ C s i else if k=7 then iF (dN (decide (4<=t)) 17,s) fun s=>nZ C s i else if k=8 then (dN (!decide (1<=i∧i<=1073741824)) 18,s) else (0,s)
def Eo (C:bN) (h:fH) (n:Nat):Int:=eu [iw C 9 h,dN (decide ((n:Int)=0)) 11,dN (decide (32 < (n:Int))) 9]
def mO (n:Nat) (f:CS->CR) (s:CS):CR:=if n=0 then (11,s) else if 256 < n then (9,s) else f s
mutual
def fu (C:bN) (body note:Bool) (t:Int):ak->CS->CR
 | .mk k c i tx h f r,s =>
  iF (iU (.mk k c i tx h f r),s) fun s=>iF (pE C body note t k i ⟨s.n+(if k=1 then ru tx else 1:Nat),s.bL⟩) fun s=>iF (iw C k h,s) fun s =>
   if k=6 then jg C false true t f s else if k=7 then mO r.length (fun s=>iR C note (t+1) r s) s else (0,s)
def zw (C:bN) (note:Bool) (t:Int):aM->CS->CR
 | .mk h cs,s=>iF (Eo C h cs.length,s) fun s=>pO C note t cs s
def cellC (C:bN) (note:Bool) (t:Int):aN->CS->CR
 | .mk i h f,s=>iF (nZ C s i) fun s=>iF (iw C 10 h,s) fun s=>jg C false note t f s
def jg (C:bN) (body note:Bool) (t:Int):List ak->CS->CR
 | [],s=>(0,s)
 | x :: r,s=>iF (fu C body note t x s) fun s=>jg C body note t r s
def iR (C:bN) (note:Bool) (t:Int):List aM->CS->CR
 | [],s=>(0,s)
 | x :: r,s=>iF (zw C note t x s) fun s=>iR C note t r s
def pO (C:bN) (note:Bool) (t:Int):List aN->CS->CR
 | [],s=>(0,s)
 | x :: r,s=>iF (cellC C note t x s) fun s=>pO C note t r s
end
theorem RN (C:bN) (body note:Bool) (t:Int) (x:ak) (s:CS):fu C body note t x s=iF (iU x,s) fun s=>iF (pE C body note t x.kind x.id ⟨s.n+(eG x:Nat),s.bL⟩) fun s=>iF (iw C x.kind x.head,s) fun s =>
  if x.kind=6 then jg C false true t x.flow s else if x.kind=7 then mO x.rows.length (fun s=>iR C note (t+1) x.rows s) s else (0,s):=by cases x;rw [fu];rfl
theorem Ou (C:bN) (note:Bool) (t:Int) (x:aM) (s:CS):zw C note t x s=iF (Eo C x.head x.cells.length,s) fun s=>pO C note t x.cells s:=by cases x;rw [zw];rfl
theorem MI (C:bN) (note:Bool) (t:Int) (x:aN) (s:CS):cellC C note t x s=iF (nZ C s x.id) fun s=>iF (iw C 10 x.head,s) fun s=>jg C false note t x.flow s:=by cases x;rw [cellC];rfl
def Up (s:CS) (z:Nat) (r:CR):Prop:=s.n<=r.2.n∧r.2.n<=s.n+z
theorem Up.and {s:CS} {z y q:Nat} {r:CR} {f:CS->CR} (h:Up s z r) (hq:z+y<=q) (hf:∀ s,Up s y (f s)):Up s q (iF r f):=by
 obtain ⟨h1,h2⟩:=h
 unfold iF
 split
 ·exact ⟨h1,V⟩
 obtain ⟨h3,h4⟩:=hf r.2;exact ⟨V,V⟩
theorem Up.zero (s:CS) (e:Int) (q:Nat):Up s q (e,s):=⟨Int.le_refl _,by dsimp only;omega⟩
theorem Up.le {s:CS} {z y:Nat} {r:CR} (h:Up s z r) (hq:z<=y):Up s y r:=⟨h.1,by have:=h.2;omega⟩
theorem alu (C:bN) (s:CS) (x:Int) (q:Nat):Up s q (nZ C s x):=⟨Int.le_refl _,by dsimp only [nZ];omega⟩
theorem aCo (C:bN) (body note:Bool) (t k i:Int) (s:CS) (q:Nat):Up s q (pE C body note t k i s):=by
 unfold pE
 (repeat' split) <;> first|exact Up.zero _ _ _|exact (Up.zero _ _ 0).and (y:=0) V fun s=>alu _ _ _ _
mutual
theorem alv (C:bN) (body note:Bool) (t:Int):∀ (x:ak) (s:CS),Up s (bY x.dat) (fu C body note t x s)
 | .mk k c i tx h f r,s=>by
  have hz:=pG (.mk k c i tx h f r);have hf:=Tz C false true t f;have hr:=alx C note (t+1) r;rw [fu];obtain ⟨u,hu'⟩:∃ u,u=(if k=1 then ru tx else 1:Nat):=⟨_,O⟩
  have hu:u<=tx.size+1:=by
   have:=MQ tx
   rw [hu'];split <;> omega
  rw [<- hu'];dsimp only [ak.text,ak.flow,ak.rows,ak.head] at hz;refine (Up.zero s _ 0).and (Nat.le_of_eq (fO _)) fun s=>?_
  have h2:Up s (u) (pE C body note t k i ⟨s.n+(u:Nat),s.bL⟩):=by
   obtain ⟨h3,h4⟩:=aCo C body note t k i ⟨s.n+(u:Nat),s.bL⟩ 0;dsimp only at h3 h4;exact ⟨V,V⟩
  refine h2.and (y:=aP f+gq r) V fun s=>(Up.zero s _ 0).and (Nat.le_of_eq (fO _)) fun s=>?_
  by_cases h6:k=6
  ·rw [aH h6];exact (hf s).le V
  rw [ay h6]
  by_cases h7:k=7
  ·rw [aH h7]
   unfold mO
   by_cases c1:r.length=0
   ·rw [aH c1];exact Up.zero _ _ _
   rw [ay c1]
   by_cases c2:256 < r.length
   ·rw [aH c2];exact Up.zero _ _ _
   rw [ay c2];exact (hr s).le V
  rw [ay h7];exact Up.zero _ _ _
theorem aCp (C:bN) (note:Bool) (t:Int):∀ (x:aM) (s:CS),Up s (bY x.dat) (zw C note t x s)
 | .mk h cs,s=>by
  have hz:=Av (.mk h cs);have hc:=als C note t cs;rw [Ou];dsimp only [aM.cells,aM.head] at hz |-;exact (Up.zero s _ 0).and (y:=iA cs) V fun s=>hc s
theorem aCn (C:bN) (note:Bool) (t:Int):∀ (x:aN) (s:CS),Up s (bY x.dat) (cellC C note t x s)
 | .mk i h f,s=>by
  have hz:=Ar (.mk i h f);have hf:=Tz C false note t f;rw [MI];dsimp only [aN.flow,aN.head,aN.id] at hz |-;exact (alu C s _ 0).and (y:=aP f) V fun s=>(Up.zero s _ 0).and (Nat.le_of_eq (fO _)) fun s=>hf s
theorem Tz (C:bN) (body note:Bool) (t:Int):∀ (l:List ak) (s:CS),Up s (aP l) (jg C body note t l s)
 | [],s=>by rw [jg];exact Up.zero _ _ _
 | x :: r,s=>by
  rw [jg];exact (alv C body note t x s).and (y:=aP r) (by simp only [aP,eP,eZ];omega) fun s=>Tz C body note t r s
theorem alx (C:bN) (note:Bool) (t:Int):∀ (l:List aM) (s:CS),Up s (gq l) (iR C note t l s)
 | [],s=>by rw [iR];exact Up.zero _ _ _
 | x :: r,s=>by
  rw [iR];exact (aCp C note t x s).and (y:=gq r) (by simp only [gq,eP,eZ];omega) fun s=>alx C note t r s
theorem als (C:bN) (note:Bool) (t:Int):∀ (l:List aN) (s:CS),Up s (iA l) (pO C note t l s)
 | [],s=>by rw [pO];exact Up.zero _ _ _
 | x :: r,s=>by
  rw [pO];exact (aCn C note t x s).and (y:=iA r) (by simp only [iA,eP,eZ];omega) fun s=>als C note t r s
end
def rJ {α:Type} (f:α->CS->CR) (l:List α) (s:CS):Nat->CS
 | 0=>s
 | i+1=>match l[i]? with|some x=>(f x (rJ f l s i)).2|none=>rJ f l s i
def DI {α:Type} (f:α->CS->CR) (l:List α) (s:CS) (i:Nat):Int:=match l[i]? with|some x=>(f x (rJ f l s i)).1|none=>0
theorem ZN {α:Type} (f:α->CS->CR) (x:α) (l:List α) (s:CS):∀ i,rJ f (x :: l) s (i+1)=rJ f l (f x s).2 i
 | 0=>rfl
 | i+1=>by
  have ih:=ZN f x l s i
  simp only [rJ,List.getElem?_cons_succ] at ih |-
  rw [ih]
theorem asD {α:Type} (f:α->CS->CR) (x:α) (l:List α) (s:CS) (i:Nat):DI f (x :: l) s (i+1)=DI f l (f x s).2 i:=by
 unfold DI
 simp only [List.getElem?_cons_succ,ZN]
theorem amR (E:Nat->Int) (n:Nat):kF E (n+1)=if E 0≠0 then E 0 else kF (fun i=>E (i+1)) n:=by
 unfold kF
 rw [List.range_succ_eq_map,eP,eu,List.map_map]
 rfl
theorem aiu (C:bN) (body note:Bool) (t:Int):∀ (l:List ak) (s:CS),(jg C body note t l s).1=kF (DI (fu C body note t) l s) l.length∧((jg C body note t l s).1=0->(jg C body note t l s).2=rJ (fu C body note t) l s l.length)
 | [],s=>by rw [jg];exact ⟨O,fun _=>rfl⟩
 | x :: r,s=>by
  obtain ⟨h1,h2⟩:=aiu C body note t r (fu C body note t x s).2;have e0:DI (fu C body note t) (x :: r) s 0=(fu C body note t x s).1:=rfl;rw [jg,lD,amR,e0,ZN]
  simp only [asD]
  unfold iF
  split
  ·next h=>exact ⟨O,fun h0=>absurd h0 h⟩
  exact ⟨h1,h2⟩
theorem aly (C:bN) (body note:Bool) (t:Int) (l:List ak) (s:CS):∀ i,i<=l.length->s.n<=(rJ (fu C body note t) l s i).n∧(rJ (fu C body note t) l s i).n+(aP (l.drop i):Nat)<=s.n+(aP l:Nat)
 | 0,_=>⟨Int.le_refl _,Int.le_refl _⟩
 | i+1,hi=>by
  have hi':i < l.length:=hi;obtain ⟨h1,h2⟩:=aly C body note t l s i V
  have hs:rJ (fu C body note t) l s (i+1)=(fu C body note t l[i] (rJ (fu C body note t) l s i)).2:=by rw [rJ,fF hi']
  have hd:aP (l.drop i)=1+bY l[i].dat+aP (l.drop (i+1)):=by
   simp only [aP];rw [mW hi',eP,eZ]
  obtain ⟨h3,h4⟩:=alv C body note t l[i] (rJ (fu C body note t) l s i);rw [hs];exact ⟨V,V⟩
mutual
/-- The ids in items, in document order. -/
def pW:ak->List Int
 | .mk k _ i _ _ f r=>(if k=6∨k=7 then [i] else [])++((if k=6 then gZ f else [])++(if k=7 then nN r else []))
def gZ:List ak->List Int
 | []=>[]
 | x :: r=>pW x++gZ r
def vO:aM->List Int
 | .mk _ c=>nY c
def nN:List aM->List Int
 | []=>[]
 | x :: r=>vO x++nN r
def vN:aN->List Int
 | .mk i _ f=>i :: gZ f
def nY:List aN->List Int
 | []=>[]
 | x :: r=>vN x++nY r
end
theorem axi (x:ak):pW x=(if x.kind=6∨x.kind=7 then [x.id] else [])++((if x.kind=6 then gZ x.flow else [])++(if x.kind=7 then nN x.rows else [])):=by cases x;rw [pW];rfl
theorem jG {r:CR} {f:CS->CR} {s':CS} (h:iF r f=(0,s')):r.1=0∧f r.2=(0,s'):=by
 unfold iF at h
 split at h
 ·rename_i h1;rw [h] at h1;exact absurd O h1
 rename_i h1;exact ⟨nV.1 h1,h⟩
theorem Qn {r:CR} (h:r.1=0):r=(0,r.2):=Prod.ext h O
structure mV (a b c:List Int):Prop where
 eq:c=a++b
 nd:a.Nodup->c.Nodup
 pos:∀ i∈b,1<=i∧i<=1073741824
theorem mV.nil (a:List Int):mV a [] a:=⟨by simp,fun h=>h,fun i h=>by cases h⟩
theorem mV.trans {a b c d e:List Int} (h:mV a b c) (g:mV c d e):mV a (b++d) e:=⟨by rw [g.eq,h.eq,gY],fun h1=>g.nd (h.nd h1),fun i hi=>(iP.1 hi).elim (h.pos i) (g.pos i)⟩
theorem mV.id {us a:List Int} {x:Int} (h:qH us a x=0):mV a [x] (ng us a x):=by
 unfold ng
 rw [aH h]
 unfold qH at h
 by_cases h0:¬ (1<=x∧x<=1073741824)∨x∈us
 ·rw [aH h0] at h;cases h
 rw [ay h0] at h;have h1:1<=x∧x<=1073741824:=nV.1 fun h'=>h0 (.inl h')
 by_cases h2:x∈a
 ·rw [aH h2] at h;cases h
 exact ⟨O,fun h3=>List.nodup_append.2 ⟨h3,by simp,fun u hu v hv=>by rw [qX.1 hv];exact fun e=>h2 (e ▸ hu)⟩,fun i hi=>by rw [qX.1 hi];exact h1⟩
theorem mV.nZ {C:bN} {s s':CS} {x:Int} (h:nZ C s x=(0,s')):mV s.bL [x] s'.bL:=by
 unfold Go.Proofs.YtggpjlchglgodaaGreat.nZ at h
 injection h with h1 h2
 rw [<- h2];exact mV.id h1
theorem azz {C:bN} {body note:Bool} {t k i:Int} {s s':CS} (h:pE C body note t k i s=(0,s')):mV s.bL (if k=6∨k=7 then [i] else []) s'.bL:=by
 unfold pE at h
 by_cases h3:k=3
 ·rw [aH h3] at h;injection h with _ h2;rw [cu,<- h2];exact mV.nil _
 rw [ay h3] at h
 by_cases h6:k=6
 ·rw [aH h6] at h;rw [aH (.inl h6)];exact mV.nZ (jG h).2
 rw [ay h6] at h
 by_cases h7:k=7
 ·rw [aH h7] at h;rw [aH (.inr h7)];exact mV.nZ (jG h).2
 rw [ay h7] at h;rw [cu]
 by_cases h8:k=8
 ·rw [aH h8] at h;injection h with _ h2;rw [<- h2];exact mV.nil _
 rw [ay h8] at h;injection h with _ h2;rw [<- h2];exact mV.nil _
theorem SH {n:Nat} {f:CS->CR} {s s':CS} (h:mO n f s=(0,s')):n≠0∧f s=(0,s'):=by
 unfold mO at h
 split at h
 ·cases h
 rename_i h1
 split at h
 ·cases h
 exact ⟨h1,h⟩
theorem acg {p:Prop} (h:p:=by
 rw [aH h6] at e |-;rw [ay (show ¬ k=7 by omega),jV];exact hf _ _ e):p:=h
mutual
theorem asI (C:bN) (body note:Bool) (t:Int):∀ (x:ak) (s s':CS),fu C body note t x s=(0,s')->mV s.bL (pW x) s'.bL
 | .mk k c i tx h f r,s,s',e=>by
  have hf:=Qy C false true t f;have hr:=afx C note (t+1) r;rw [fu] at e;obtain ⟨-,e⟩:=jG e;obtain ⟨e1,e⟩:=jG e;obtain ⟨-,e⟩:=jG e;have h1:=azz (Qn e1);rw [pW];refine h1.trans ?_
  by_cases h6:k=6
  ·exact acg
  rw [ay h6] at e |-;rw [gJ]
  by_cases h7:k=7
  ·rw [aH h7] at e |-;exact hr _ _ (SH e).2
  rw [ay h7] at e |-
  injection e with _ e
  rw [<- e];exact mV.nil _
theorem asJ (C:bN) (note:Bool) (t:Int):∀ (x:aM) (s s':CS),zw C note t x s=(0,s')->mV s.bL (vO x) s'.bL
 | .mk h cs,s,s',e=>by
  have hc:=afv C note t cs;rw [Ou] at e;rw [vO];exact hc _ _ (jG e).2
theorem asG (C:bN) (note:Bool) (t:Int):∀ (x:aN) (s s':CS),cellC C note t x s=(0,s')->mV s.bL (vN x) s'.bL
 | .mk i h f,s,s',e=>by
  have hf:=Qy C false note t f;rw [MI] at e;dsimp only [aN.id,aN.head,aN.flow] at e;obtain ⟨e1,e⟩:=jG e;have h1:=mV.nZ (s':=(nZ C s i).2) (Prod.ext e1 O);rw [vN];exact h1.trans (hf _ _ (jG e).2)
theorem Qy (C:bN) (body note:Bool) (t:Int):∀ (l:List ak) (s s':CS),jg C body note t l s=(0,s')->mV s.bL (gZ l) s'.bL
 | [],s,s',e=>by rw [jg] at e;injection e with _ e;rw [<- e];exact mV.nil _
 | x :: r,s,s',e=>by
  rw [jg] at e;obtain ⟨e1,e⟩:=jG e;rw [gZ];exact (asI C body note t x s _ (Prod.ext e1 O)).trans (Qy C body note t r _ _ e)
theorem afx (C:bN) (note:Bool) (t:Int):∀ (l:List aM) (s s':CS),iR C note t l s=(0,s')->mV s.bL (nN l) s'.bL
 | [],s,s',e=>by rw [iR] at e;injection e with _ e;rw [<- e];exact mV.nil _
 | x :: r,s,s',e=>by
  rw [iR] at e;obtain ⟨e1,e⟩:=jG e;rw [nN];exact (asJ C note t x s _ (Prod.ext e1 O)).trans (afx C note t r _ _ e)
theorem afv (C:bN) (note:Bool) (t:Int):∀ (l:List aN) (s s':CS),pO C note t l s=(0,s')->mV s.bL (nY l) s'.bL
 | [],s,s',e=>by rw [pO] at e;injection e with _ e;rw [<- e];exact mV.nil _
 | x :: r,s,s',e=>by
  rw [pO] at e;obtain ⟨e1,e⟩:=jG e;rw [nY];exact (asG C note t x s _ (Prod.ext e1 O)).trans (afv C note t r _ _ e)
end
def fq (l:List ak):Prop:=∃ (C:bN) (body note:Bool) (t:Int) (s s':CS),jg C body note t l s=(0,s')
structure AA (x:ak):Prop where
 txt:ny x.text=true
 kd:1<=x.kind∧x.kind<=8
 SL:x.kind≠7->x.rows=[]
 fl0:x.kind≠6->x.flow=[]
 fl:fq x.flow
 rw:∀ r∈x.rows,∀ c∈r.cells,fq c.flow
theorem ayZ:fq []:=⟨⟨[],[],[],[]⟩,false,false,0,⟨0,[]⟩,⟨0,[]⟩,by rw [jg]⟩
theorem EY {x:ak} (h:iU x=0):ny x.text=true∧(1<=x.kind∧x.kind<=8)∧(x.kind≠7->x.rows=[])∧(x.kind≠6->x.flow=[]):=by
 unfold iU at h
 split at h
 ·cases h
 rename_i h1
 split at h
 ·cases h
 rename_i h2
 split at h
 ·cases h
 rename_i h3
 have hk:decide (1<=x.kind∧x.kind<=8)=true:=by
  cases hd:decide (1<=x.kind∧x.kind<=8)
  ·rw [hd] at h1;exact absurd O h1
  rfl
 refine ⟨by simpa using h3,pK hk,fun h7=>?_,fun h6=>?_⟩
 ·rw [Bool.not_eq_true] at h2
  unfold vD at h2
  simp only [Bool.or_eq_false_iff] at h2
  have h4:=h2.2;rw [lT h7,Jk,Dr] at h4;exact List.length_eq_zero_iff.1 V
 rw [Bool.not_eq_true] at h2
 unfold vD at h2
 simp only [Bool.or_eq_false_iff] at h2
 have h4:=h2.1.2;rw [lT h6,Jk,Dr] at h4;exact List.length_eq_zero_iff.1 V
theorem cells_ok {C:bN} {note:Bool} {t:Int}:∀ {l:List aN} {s s':CS},pO C note t l s=(0,s')->∀ c∈l,fq c.flow
 | [],_,_,_,_,h=>by cases h
 | x :: r,s,s',e,c,h=>by
  rw [pO] at e;obtain ⟨e1,e⟩:=jG e
  rcases iD.1 h with rfl|h
  ·have e2:cellC C note t c s=(0,(cellC C note t c s).2):=Prod.ext e1 O
   generalize (cellC C note t c s).2=s2 at e2
   rw [MI] at e2;exact ⟨C,false,note,t,_,_,(jG (jG e2).2).2⟩
  exact cells_ok e c h
theorem ajS {C:bN} {note:Bool} {t:Int}:∀ {l:List aM} {s s':CS},iR C note t l s=(0,s')->∀ r∈l,∀ c∈r.cells,fq c.flow
 | [],_,_,_,_,h=>by cases h
 | x :: r,s,s',e,q,h=>by
  rw [iR] at e;obtain ⟨e1,e⟩:=jG e
  rcases iD.1 h with rfl|h
  ·have e2:zw C note t q s=(0,(zw C note t q s).2):=Prod.ext e1 O
   generalize (zw C note t q s).2=s2 at e2
   rw [Ou] at e2;exact cells_ok (jG e2).2
  exact ajS e q h
theorem fq.head {x:ak} {l:List ak} (h:fq (x :: l)):AA x∧fq l:=by
 obtain ⟨C,body,note,t,s,s',e⟩:=h;rw [jg] at e;obtain ⟨e1,e⟩:=jG e;have e2:fu C body note t x s=(0,(fu C body note t x s).2):=Prod.ext e1 O
 generalize (fu C body note t x s).2=s2 at e2
 refine ⟨?_,⟨C,body,note,t,_,_,e⟩⟩;rw [RN] at e2;obtain ⟨f1,e2⟩:=jG e2;(iterate 2 obtain ⟨-,e2⟩:=jG e2);obtain ⟨h1,h2,h3,h4⟩:=EY f1;refine ⟨h1,h2,h3,h4,?_,?_⟩
 ·by_cases h6:x.kind=6
  ·rw [aH h6] at e2;exact ⟨_,_,_,_,_,_,e2⟩
  rw [h4 h6];exact ayZ
 by_cases h7:x.kind=7
 ·rw [cu,aH h7] at e2;exact ajS (SH e2).2
 rw [h3 h7];exact fun _ h=>by cases h
theorem fq.tail {x:ak} {l:List ak} (h:fq (x :: l)):fq l:=h.head.2
theorem fq.mem:∀ {l:List ak} {x:ak},fq l->x∈l->AA x
 | y :: l,x,h,hx=>by
  rcases iD.1 hx with rfl|hx
  ·exact h.head.1
  exact fq.mem h.head.2 hx
theorem AA.e {x:ak} (h:AA x):sN x=0:=by unfold sN FT;rw [aH h.txt];split <;> rfl
theorem AA.n1 {x:ak} (h:AA x):n1 x=eG x:=by unfold Go.Proofs.YtggpjlchglgodaaGreat.n1;rw [aH h.e]
theorem fq.div {l:List ak} (h:fq l):xE l=true:=by
 unfold xE
 rw [lS];exact fun x hx=>lT (h.mem hx).e
theorem fq.len {l:List ak} (h:fq l):sI l=fU l:=by unfold sI;rw [aH h.div]
def wm (f t:Int) (L:List gF):Prop:=∃ F∈L,F.id=f∧0<=t∧t<=sI F.items
theorem RI {f t:Int}:wm f t []↔False:=⟨fun ⟨_,h,_⟩=>(by cases h),False.elim⟩
theorem Yp {f t:Int} {L M:List gF}:wm f t (L++M)↔wm f t L∨wm f t M:=by
 unfold wm
 constructor
 ·rintro ⟨F,h,r⟩
  rcases iP.1 h with h|h
  ·exact .inl ⟨F,h,r⟩
  exact .inr ⟨F,h,r⟩
 rintro (⟨F,h,r⟩|⟨F,h,r⟩)
 ·exact ⟨F,iP.2 (.inl h),r⟩
 exact ⟨F,iP.2 (.inr h),r⟩
theorem aio {f t:Int} {F:gF} {L:List gF}:wm f t (F :: L)↔(F.id=f∧0<=t∧t<=sI F.items)∨wm f t L:=by
 unfold wm
 constructor
 ·rintro ⟨E,h,r⟩
  rcases iD.1 h with rfl|h
  ·exact .inl r
  exact .inr ⟨E,h,r⟩
 rintro (r|⟨E,h,r⟩)
 ·exact ⟨F,eT,r⟩
 exact ⟨E,gH _ h,r⟩
theorem PZ {p:Prop} (h:p:=by
 exact .inl ⟨e,V,V⟩):p:=h
mutual
theorem aiT (g:Int) (at_:Nat) (note:Bool) (tt f t:Int):∀ x:ak,AA x->((f,t)∈FV g at_ x↔(g=f∧(at_:Int)<=t∧t < at_+eG x)∨wm f t (qQ note tt x))
 | .mk k c i tx h fl r,hx=>by
  have hf:=RX i 0 true tt f t fl hx.fl;have hr:=YJ note tt f t r hx.rw;have hn:=hx.n1;have h0:=hx.SL;have hl:=hx.fl.len;rw [FV,qQ,hn]
  simp only [ak.kind,ak.rows,ak.flow] at h0 hl
  generalize eG (.mk k c i tx h fl r)=u
  have h1:(f,t)∈(List.range u).map (fun q=>(g,((at_+q:Nat):Int)))↔(g=f∧(at_:Int)<=t∧t < at_+u):=by
   rw [List.mem_map]
   constructor
   ·rintro ⟨q,hq,e⟩
    injection e with e1 e2
    have:=qD.1 hq;exact ⟨e1,V,V⟩
   rintro ⟨e,h2,h3⟩;exact ⟨(t - at_).toNat,qD.2 V,by rw [e];exact Prod.ext O (by simp only;omega)⟩
  rw [iP,iP,h1];refine or_congr Iff.rfl ?_
  by_cases h6:k=6
  ·rw [aH h6,aH h6,h0 V,hf,aio]
   simp only [wh,List.not_mem_nil,or_false,hl]
   constructor
   ·rintro (⟨e,h2,h3⟩|h2)
    ·exact PZ
    exact .inr h2
   rintro (⟨e,h2,h3⟩|h2)
   ·exact PZ
   exact .inr h2
  rw [ay h6,ay h6]
  by_cases h7:k=7
  ·rw [aH h7,hr];simp
  rw [ay h7,h0 h7,RI];simp [wh]
theorem RX (g:Int) (at_:Nat) (note:Bool) (tt f t:Int):∀ l:List ak,fq l->((f,t)∈zH g at_ l↔(g=f∧(at_:Int)<=t∧t<=at_+fU l)∨wm f t (iO note tt l))
 | [],_=>by
  rw [zH,iO,RI,qX]
  constructor
  ·intro e;injection e with e1 e2;exact .inl ⟨e1.symm,V,by simp only [fU];omega⟩
  rintro (⟨e,h2,h3⟩|h)
  ·simp only [fU] at h3;rw [e];exact Prod.ext O (by simp only;omega)
  exact h.elim
 | x :: l,hl=>by
  obtain ⟨hx,hl⟩:=hl.head;have h1:=aiT g at_ note tt f t x hx;have h2:=RX g (at_+n1 x) note tt f t l hl;rw [zH,iO,iP,h1,h2,Yp,hx.n1]
  simp only [fU]
  constructor
  ·rintro ((⟨e,h3,h4⟩|h3)|(⟨e,h3,h4⟩|h3))
   ·exact PZ
   ·exact .inr (.inl h3)
   ·exact PZ
   exact .inr (.inr h3)
  rintro (⟨e,h3,h4⟩|(h3|h3))
  ·by_cases hlt:t < at_+eG x
   ·exact .inl (.inl ⟨e,h3,hlt⟩)
   exact .inr (.inl ⟨e,V,V⟩)
  ·exact .inl (.inr h3)
  exact .inr (.inr h3)
theorem mem_row (note:Bool) (tt f t:Int):∀ x:aM,(∀ c∈x.cells,fq c.flow)->((f,t)∈FX x↔wm f t (sO note tt x))
 | .mk h cs,hx=>by
  have hc:=YH note tt f t cs hx;rw [FX,sO];exact hc
theorem YJ (note:Bool) (tt f t:Int):∀ l:List aM,(∀ r∈l,∀ c∈r.cells,fq c.flow)->((f,t)∈wh l↔wm f t (mR note tt l))
 | [],_=>by rw [wh,mR,RI];simp
 | x :: l,hx=>by
  have h1:=mem_row note tt f t x (hx x eT);have h2:=YJ note tt f t l (fun r hr=>hx r (gH _ hr));rw [wh,mR,iP,h1,h2,Yp]
theorem aiS (note:Bool) (tt f t:Int):∀ x:aN,fq x.flow->((f,t)∈FU x↔wm f t (qP note tt x))
 | .mk i h fl,hx=>by
  have h1:=RX i 0 note (tt+1) f t fl hx;have hl:=hx.len
  simp only [aN.flow] at hl
  rw [FU,qP,h1,aio]
  simp only [hl]
  refine or_congr ?_ Iff.rfl
  constructor
  ·rintro ⟨e,h2,h3⟩;exact ⟨e,V,V⟩
  rintro ⟨e,h2,h3⟩;exact ⟨e,V,V⟩
theorem YH (note:Bool) (tt f t:Int):∀ l:List aN,(∀ c∈l,fq c.flow)->((f,t)∈Ca l↔wm f t (nA note tt l))
 | [],_=>by rw [Ca,nA,RI];simp
 | x :: l,hx=>by
  have h1:=aiS note tt f t x (hx x eT);have h2:=YH note tt f t l (fun r hr=>hx r (gH _ hr));rw [Ca,nA,iP,h1,h2,Yp]
end
mutual
theorem alQ (note:Bool) (t:Int):∀ x:ak,((qQ note t x).map gF.id).Sublist (pW x)
 | .mk k c i tx h f r=>by
  have hf:=OM true t f;have hr:=aad note t r;rw [qQ,pW]
  by_cases h6:k=6
  ·rw [aH h6,aH (.inl h6),aH h6,cu,jV];exact List.Sublist.cons_cons _ hf
  rw [ay h6,ay h6,gJ]
  by_cases h7:k=7
  ·rw [aH h7,aH h7,aH (.inr h7)];exact List.Sublist.cons _ hr
  rw [ay h7];exact List.nil_sublist _
theorem OM (note:Bool) (t:Int):∀ l:List ak,((iO note t l).map gF.id).Sublist (gZ l)
 | []=>by rw [iO];exact List.nil_sublist _
 | x :: l=>by
  rw [iO,gZ,jM];exact (alQ note t x).append (OM note t l)
theorem alS (note:Bool) (t:Int):∀ x:aM,((sO note t x).map gF.id).Sublist (vO x)
 | .mk h cs=>by rw [sO,vO];exact aac note t cs
theorem aad (note:Bool) (t:Int):∀ l:List aM,((mR note t l).map gF.id).Sublist (nN l)
 | []=>by rw [mR];exact List.nil_sublist _
 | x :: l=>by
  rw [mR,nN,jM];exact (alS note t x).append (aad note t l)
theorem alP (note:Bool) (t:Int):∀ x:aN,((qP note t x).map gF.id).Sublist (vN x)
 | .mk i h f=>by rw [qP,vN];exact List.Sublist.cons_cons _ (OM note (t+1) f)
theorem aac (note:Bool) (t:Int):∀ l:List aN,((nA note t l).map gF.id).Sublist (nY l)
 | []=>by rw [nA];exact List.nil_sublist _
 | x :: l=>by
  rw [nA,nY,jM];exact (alP note t x).append (aac note t l)
end
structure yx (l:List ak):Prop where
 ok:fq l
 nd:(gZ l).Nodup
 pos:∀ i∈gZ l,1<=i∧i<=1073741824
theorem yx.of {C:bN} {body note:Bool} {t n:Int} {l:List ak} {s':CS} (h:jg C body note t l ⟨n,[]⟩=(0,s')):yx l:=by
 have he:=Qy C body note t l _ _ h;have hn:=he.nd List.nodup_nil;rw [he.eq] at hn;exact ⟨⟨C,body,note,t,_,_,h⟩,by simpa using hn,he.pos⟩
theorem yx.ids {l:List ak} (h:yx l):((mI l).map gF.id).Nodup:=by
 have hs:=OM false 0 l;rw [mI,eP,List.nodup_cons];exact ⟨fun hm=>by have:=h.pos _ (hs.subset hm);dsimp only at this;omega,hs.nodup h.nd⟩
theorem QG {L:List gF} (hn:(L.map gF.id).Nodup) {F:gF} (hF:F∈L):L.find? (fun f=>decide (f.id=F.id))=some F:=by
 induction L with
 | nil=>cases hF
 | cons E L ih =>
  rw [eP,List.nodup_cons] at hn;rw [List.find?_cons]
  rcases iD.1 hF with rfl|hF
  ·simp
  have:E.id≠F.id:=fun e=>hn.1 (e ▸ List.mem_map_of_mem hF);rw [oP this];exact ih hn.2 hF
def EH (s:CS) (z:Nat) (r:CR):Prop:=r.2.bL.length<=s.bL.length+z
theorem EH.and {s:CS} {z y q:Nat} {r:CR} {f:CS->CR} (h:EH s z r) (hq:z+y<=q) (hf:∀ s,EH s y (f s)):EH s q (iF r f):=by
 unfold EH at *
 unfold iF
 split
 ·omega
 have:=hf r.2
 omega
theorem EH.zero (s:CS) (e:Int) (q:Nat):EH s q (e,s):=by unfold EH;dsimp only;omega
theorem alZ {l:List ak} {k:Nat} (hk:k < l.length):aP (l.drop k)=1+bY l[k].dat+aP (l.drop (k+1)):=by
 simp only [aP];rw [mW hk,eP,eZ]
structure cZ where
 code:Int
 id:Int
 name:ByteArray
 flow:Int
 at_:Int
def cZ.dat (x:cZ):List Dat:=[li x.code,li x.id,.lf (.string x.name),li x.flow,li x.at_]
abbrev cZ.cells (x:cZ):List ah:=[vi x.code,vi x.id,.string x.name,vi x.flow,vi x.at_]
abbrev cZ.val (x:cZ):ah:=.agg #[vi x.code,vi x.id,.string x.name,vi x.flow,vi x.at_]
theorem aaS {G:GH} {x:cZ} {cs:List ah} (h:aX G x.dat cs):cs=x.cells:=by
 simp only [cZ.dat,aX,av] at h
 obtain ⟨_,_,rfl,⟨rfl,_⟩,_,_,rfl,⟨rfl,_⟩,_,_,rfl,⟨rfl,_⟩,_,_,rfl,⟨rfl,_⟩,_,_,rfl,⟨rfl,_⟩,rfl⟩:=h
 rfl
theorem ana (G:GH) (x:cZ):aX G x.dat x.cells :=
 ⟨_,_,rfl,⟨rfl,rfl⟩,_,_,rfl,⟨rfl,rfl⟩,_,_,rfl,⟨rfl,rfl⟩,_,_,rfl,⟨rfl,rfl⟩,_,_,rfl,⟨rfl,rfl⟩,rfl⟩
mutual
def qC (g:Int) (t:Nat):ak->List cZ
 | .mk k c i tx _ f r=>(if k=8 then [⟨c,i,tx,g,(t:Int)⟩] else [])++((if k=6 then dx i 0 f else [])++(if k=7 then jC r else []))
/-- The anchors of a flow, and of those in it, in document order. -/
def dx (g:Int):Nat->List ak->List cZ
 | _,[]=>[]
 | t,x :: l=>qC g t x++dx g (t+n1 x) l
def jC:List aM->List cZ
 | []=>[]
 | x :: l=>uY x++jC l
def uY:aM->List cZ
 | .mk _ cs=>kE cs
def kE:List aN->List cZ
 | []=>[]
 | x :: l=>uX x++kE l
def uX:aN->List cZ
 | .mk i _ f=>dx i 0 f
end
theorem Gn (g:Int) (t:Nat) (x:ak):qC g t x=(if x.kind=8 then [⟨x.code,x.id,x.text,g,(t:Int)⟩] else [])++((if x.kind=6 then dx x.id 0 x.flow else [])++(if x.kind=7 then jC x.rows else [])):=by cases x;rw [qC];rfl
theorem aaD (x:aM):uY x=kE x.cells:=by cases x;rw [uY];rfl
theorem aaA (x:aN):uX x=dx x.id 0 x.flow:=by cases x;rw [uX];rfl
mutual
theorem amG (g:Int) (t:Nat):∀ x:ak,(qC g t x).length<=bY x.dat
 | .mk k c i tx h fl r=>by
  have h4:=pG (.mk k c i tx h fl r);have hf:=Ci i 0 fl;have hr:=Uy r;dsimp only [ak.text,ak.head,ak.flow,ak.rows] at h4;rw [qC,iK,iK]
  split <;> split <;> split <;> simp only [lD,List.length_nil] <;> omega
theorem Ci (g:Int):∀ (t:Nat) (l:List ak),(dx g t l).length<=aP l
 | _,[]=>by simp [dx]
 | t,x :: l=>by
  have h1:=amG g t x;have h2:=Ci g (t+n1 x) l;rw [dx,iK]
  simp only [aP,eP,eZ] at *;omega
theorem amH:∀ x:aM,(uY x).length<=bY x.dat
 | .mk h cs=>by
  have h4:=Av (.mk h cs);have hc:=aaB cs;dsimp only [aM.head,aM.cells] at h4;rw [uY];omega
theorem Uy:∀ l:List aM,(jC l).length<=gq l
 | []=>by simp [jC]
 | x :: l=>by
  have h1:=amH x;have h2:=Uy l;rw [jC,iK]
  simp only [gq,eP,eZ] at *;omega
theorem amE:∀ x:aN,(uX x).length<=bY x.dat
 | .mk i h fl=>by
  have h4:=Ar (.mk i h fl);have hf:=Ci i 0 fl;dsimp only [aN.head,aN.flow] at h4;rw [uX];omega
theorem aaB:∀ l:List aN,(kE l).length<=iA l
 | []=>by simp [kE]
 | x :: l=>by
  have h1:=amE x;have h2:=aaB l;rw [kE,iK]
  simp only [iA,eP,eZ] at *;omega
end
theorem YS (x:ak):n1 x+aP x.flow+gq x.rows < bY x.dat:=by
 have h1:=pG x;have h2:=MQ x.text
 unfold n1 eG
 split <;> first|omega|(split <;> omega)
def Gw (a:cZ):AP:=fun args _=>args=[a.val]
def OW (P:Program) (fv:ah) (Gi:GH) (xs:List AP) (J:Nat->GH->OL->Prop):Prop :=
 ∀ k args G L w,yg xs k args G->(∀ b o,Gi b=some o->G b=some o)->J k G L->fM G L w->tY P fv args w (fB w G L fun _ G' L'=>J (k+1) G' L')
section
abbrev sH (p:Int × Int):ah:=.agg #[vi p.1,vi p.2]
def ni:Nat->List ((Int × Int) × ah)->List MapEntry
 | _,[]=>[]
 | i,(k,v) :: r=>⟨sH k,v,i⟩ :: ni (i+1) r
theorem aiR (x:(Int × Int) × ah):∀ (i:Nat) (l:List ((Int × Int) × ah)),ni i (l++[x])=ni i l++[⟨sH x.1,x.2,i+l.length⟩]
 | _,[]=>rfl
 | i,k :: r=>by
  rw [iT,ni,aiR x (i+1) r,ni,iT,lD,show i+1+r.length=i+(r.length+1) by omega]
def oZ (x:Int × Int):List ((Int × Int) × ah)->Option ah
 | []=>none
 | (k,v) :: r=>if k=x then some v else oZ x r
theorem aki {P:Program} {kt:TypeId} (he:Di P kt [0,1]) (w:World) (p q:Int × Int):(Op.equal kt (sH p) (sH q)).run P w=.ok (decide (p=q)) w:=by
 have h1:=Zo (P:=P) (w:=w) (d:=9998) (xs:=#[vi p.1,vi p.2]) (ys:=#[vi q.1,vi q.2]) _ he.ok (by rw [he.xI];rfl)
 rw [he.xI] at h1
 have h2:=run_equalIn_struct w 9999 kt #[vi p.1,vi p.2] #[vi q.1,vi q.2] he.und he.held
 show (Op.equalIn 10000 kt (sH p) (sH q)).run P w=_
 rw [h2,h1]
 congr 1
 obtain ⟨a,b⟩:=p
 obtain ⟨c,d⟩:=q
 rw [zK]
 simp [kY]
theorem Zn {P:Program} {kt:TypeId} (he:Di P kt [0,1]) (w:World) (e:Bool) (p:Int × Int):(Instr.checkKey e 10000 kt (sH p)).run P w=.ok () w:=by
 show (Instr.checkKey e (9999+1) kt (sH p)).run P w=_
 have hok:=he.ok
 have hfl:=he.xI
 rw [Instr.checkKey]
 simp only [dM,run_underlying he.und,kW]
 rw [<- Array.forIn_toList]
 have hall:∀ f∈(P.fieldsOf kt).toList,f.name ≠ "_"∧P.plainKey f.type=true∧P.underlying f.type=some (.int .i64)∧∃ m,(#[vi p.1,vi p.2]:Array ah)[f.offset]?=some (.int .i64 m):=by
  intro f hf
  have h1:=lS.1 hok f hf
  simp only [mG,sW] at h1
  refine ⟨h1.1.1,h1.1.2,?_,?_⟩
  ·have h2:=h1.2
   unfold Oa at h2
   split at h2
   ·assumption
   ·cases h2
  ·have:f.offset∈[0,1]:=by rw [<- hfl];exact List.mem_map_of_mem hf
   simp only [iD,List.not_mem_nil,or_false] at this
   rcases this with h|h
   ·rw [h];exact ⟨p.1,O⟩
   ·rw [h];exact ⟨p.2,O⟩
 clear hok hfl
 generalize (P.fieldsOf kt).toList=fs at hall
 induction fs with
 | nil=>simp
 | cons f fs ih =>
  obtain ⟨hn,hp,hu,m,hm⟩:=hall f eT
  have p1:=run_part_plain w hp hm
  have p2:=MapKept.run_checkKey (P:=P) (w:=w) (k:=.int .i64 m) hu (by trivial) e 9998
  simp only [List.forIn_cons,dM,hn,ne_eq,not_false_eq_true,if_true,kW,p1,p2,rW]
  exact ih fun y hy=>hall y (gH _ hy)
theorem akj {P:Program} {kt:TypeId} (he:Di P kt [0,1]) (w:World) (x:Int × Int):∀ (i j:Nat) (l:List ((Int × Int) × ah)),∃ an,(Instr.findAsking kt (sH x) (ni i l) j).run P w=.ok an w∧an.map (·.2)=oZ x l
 | _,_,[]=>⟨none,by simp [ni,Instr.findAsking],O⟩
 | i,j,(k,v) :: r=>by
  obtain ⟨an,h1,h2⟩:=akj he w x (i+1) (j+1) r
  by_cases e:k=x
  ·subst e
   exact ⟨some (j,v),by simp [ni,Instr.findAsking,aki he,dM],by rw [oZ,aH O];rfl⟩
  ·exact ⟨an,by simp [ni,Instr.findAsking,aki he,dM,show ¬ x=k from fun h=>e h.symm,h1],by rw [oZ,ay e];exact h2⟩
theorem ate {P:Program} {kt:TypeId} (he:Di P kt [0,1]) (x:ah):∀ (l:List MapEntry) (j:Nat),l≠[]->Instr.findNow (.struct (P.fieldsOf kt)) x l j=none
 | [],_,h=>absurd O h
 | e :: l,j,_=>by simp [Instr.findNow,Instr.sameNow]
theorem Zq {P:Program} {kt:TypeId} (he:Di P kt [0,1]) (w:World) (x:Int × Int) (l:List ((Int × Int) × ah)):∃ an,(Instr.findKey kt (sH x) (ni 0 l)).run P w=.ok an w∧an.map (·.2)=oZ x l:=by
 obtain ⟨an,h1,h2⟩:=akj he w x 0 0 l
 refine ⟨an,?_,h2⟩
 unfold Instr.findKey
 simp only [dM,run_underlying he.und,kW]
 cases l with
 | nil=>simp only [ni,Instr.findAsking] at h1 |-;simpa [Instr.findNow] using h1
 | cons y l =>
  rw [ate he _ _ _ (by obtain ⟨k,v⟩:=y;simp [ni])]
  exact h1
abbrev FB (l:List ((Int × Int) × ah)):Obj:=.map (ni 0 l).toArray l.length
section
variable {N:Nat} {D:List Deferred} {w0:World} {F:Nat->Prop} {G0 G:GH} {L:OL} {T:List (Nat × ah)}
variable {r:Option Nat} {P:Program} {ops:Array Oper} {Q:Exit->Act->World->Prop} {rest:List Oper} {a:Act} {w:World}
variable {d:Nat} {ty:TypeId} {pos:String} {aL:Array Edge} {g:Option (Nat × Bool)}
theorem aAY {t kt et:TypeId} {x y:Operand} {b:Nat} {l:List ((Int × Int) × ah)} {ky:Int × Int} {zv:ah} (hm:P.underlying t=some (.map kt et)) (he:Di P kt [0,1]) (hz:(P.info? et).map (fun i=>i.zero)=some (some zv)) (H:St N D w0 F G0 G L T a w)
  (hw:Region.wanted ⟨some d,.lookup t x y false,ty,pos,aL,g⟩ (yielded ops a.tmps)=true) (hx:ev T x=some (.map (some b))) (hy:ev T y=some (sH ky)) (hb:w.heap[b]?=some (FB l)) (hd:Nat.blt d N=true)
  (k:∀ a',St N D w0 F G0 G L ((d,(oZ ky l).getD zv) :: T) a' w->WL r P ops Q rest a' w):WL r P ops Q (⟨some d,.lookup t x y false,ty,pos,aL,g⟩ :: rest) a w:=by
 obtain ⟨an,h2,han⟩:=Zq he w ky l
 obtain ⟨inf,hi1,hi2⟩:=nG.1 hz
 refine fQ (v:=(oZ ky l).getD zv) (w':=w) hw O ?_ (k _ (H.put hd _ H.hp))
 have h1:=Zn he w (ni 0 l).toArray.isEmpty ky
 replace hb:w.heap[b]?=some (.map (ni 0 l).toArray l.length):=hb
 have h2':(Instr.findKey kt (sH ky) (ni 0 l).toArray.toList).run P w=.ok an w:=by simpa using h2
 generalize (ni 0 l).toArray=es at hb h1 h2'
 rw [<- han]
 cases an with
 | none=>simp [execOp,Instr.lookup,H.ev hx,H.ev hy,dM,lC hm,MapKept.run_getObj_map hb,h1,h2',Result.andThen,zeroValue,CO hi1,hi2]
 | some q=>simp [execOp,Instr.lookup,H.ev hx,H.ev hy,dM,lC hm,MapKept.run_getObj_map hb,h1,h2',Result.andThen]
theorem aks {t kt et:TypeId} {x y:Operand} {b:Nat} {l:List ((Int × Int) × ah)} {ky:Int × Int} {zv:ah} (hm:P.underlying t=some (.map kt et)) (he:Di P kt [0,1]) (hz:(P.info? et).map (fun i=>i.zero)=some (some zv)) (H:St N D w0 F G0 G L T a w)
  (hw:Region.wanted ⟨some d,.lookup t x y true,ty,pos,aL,g⟩ (yielded ops a.tmps)=true) (hx:ev T x=some (.map (some b))) (hy:ev T y=some (sH ky)) (hb:w.heap[b]?=some (FB l)) (hd:Nat.blt d N=true)
  (k:∀ a',St N D w0 F G0 G L ((d,.tuple #[(oZ ky l).getD zv,.bool (oZ ky l).isSome]) :: T) a' w->WL r P ops Q rest a' w):WL r P ops Q (⟨some d,.lookup t x y true,ty,pos,aL,g⟩ :: rest) a w:=by
 obtain ⟨an,h2,han⟩:=Zq he w ky l
 obtain ⟨inf,hi1,hi2⟩:=nG.1 hz
 refine fQ (v:=.tuple #[(oZ ky l).getD zv,.bool (oZ ky l).isSome]) (w':=w) hw O ?_ (k _ (H.put hd _ H.hp))
 have h1:=Zn he w (ni 0 l).toArray.isEmpty ky
 replace hb:w.heap[b]?=some (.map (ni 0 l).toArray l.length):=hb
 have h2':(Instr.findKey kt (sH ky) (ni 0 l).toArray.toList).run P w=.ok an w:=by simpa using h2
 generalize (ni 0 l).toArray=es at hb h1 h2'
 rw [<- han]
 cases an with
 | none=>simp [execOp,Instr.lookup,H.ev hx,H.ev hy,dM,lC hm,MapKept.run_getObj_map hb,h1,h2',Result.andThen,zeroValue,CO hi1,hi2]
 | some q=>simp [execOp,Instr.lookup,H.ev hx,H.ev hy,dM,lC hm,MapKept.run_getObj_map hb,h1,h2',Result.andThen]
theorem aA3 {t kt et:TypeId} {x y z:Operand} {b i:Nat} {l:List ((Int × Int) × ah)} {ky:Int × Int} {v:ah} (hm:P.underlying t=some (.map kt et)) (he:Di P kt [0,1]) (H:St N D w0 F G0 G L T a w)
  (hw:Region.wanted ⟨none,.mapUpdate t x y z,ty,pos,aL,g⟩ (yielded ops a.tmps)=true) (hx:ev T x=some (.map (some b))) (hy:ev T y=some (sH ky)) (hzv:ev T z=some v) (hi:L[i]?=some (b,FB l)) (hn:oZ ky l=none)
  (k:∀ w',St N D w0 F G0 G (L.set i (b,FB (l++[(ky,v)]))) T a w'->WL r P ops Q rest a w'):WL r P ops Q (⟨none,.mapUpdate t x y z,ty,pos,aL,g⟩ :: rest) a w:=by
 obtain ⟨an,h2,han⟩:=Zq he w ky l
 have hnone:an=none:=by
  rw [hn] at han
  cases an with
  | none=>rfl
  | some q=>cases han
 subst hnone
 have hb:w.heap[b]?=some (.map (ni 0 l).toArray l.length):=H.hp.own _ (lQ hi)
 have h1:=Zn he w false ky
 have h2':(Instr.findKey kt (sH ky) (ni 0 l).toArray.toList).run P w=.ok none w:=by simpa using h2
 have e:(ni 0 l).toArray.push ⟨sH ky,v,l.length⟩=(ni 0 (l++[(ky,v)])).toArray:=by
  rw [aiR,List.push_toArray,fO]
 refine TH (w':={ w with heap:=w.heap.setIfInBounds b (.map ((ni 0 l).toArray.push ⟨sH ky,v,l.length⟩) (l.length+1)) }) hw O ?_ ?_
 ·generalize (ni 0 l).toArray=es at hb h2'
  simp [execOp,Instr.mapUpdate,H.ev hx,H.ev hy,H.ev hzv,dM,lC hm,MapKept.run_getObj_map hb,h1,h2',MapKept.run_setObj_map _ hb,Result.andThen]
 ·refine k _ ?_
  have H':=H.move (H.hp.upd hi (TA (o:=.map ((ni 0 l).toArray.push ⟨sH ky,v,l.length⟩) (l.length+1)) hb))
  rw [e] at H' |-
  rw [FB,iK]
  exact H'
end
end
theorem KI {f t:Int} {L:List gF} (h:wm f t L):f∈L.map gF.id:=by
 obtain ⟨F,hF,rfl,-⟩:=h;exact List.mem_map_of_mem hF
theorem WU {g:Int} {at_:Nat} {l:List ak} (h:fq l) {p:Int × Int} (hp:p∈zH g at_ l):(g=p.1∧(at_:Int)<=p.2)∨p.1∈gZ l:=by
 rcases (RX g at_ false 0 p.1 p.2 l h).1 hp with ⟨h1,h2,-⟩|h1
 ·exact .inl ⟨h1,h2⟩
 exact .inr ((OM false 0 l).subset (KI h1))
theorem atI {g:Int} {at_:Nat} {x:ak} (h:AA x) {p:Int × Int} (hp:p∈FV g at_ x):(g=p.1∧p.2 < at_+eG x)∨p.1∈pW x:=by
 rcases (aiT g at_ false 0 p.1 p.2 x h).1 hp with ⟨h1,-,h2⟩|h1
 ·exact .inl ⟨h1,h2⟩
 exact .inr ((alQ false 0 x).subset (KI h1))
theorem agr {l:List aM} (h:∀ r∈l,∀ c∈r.cells,fq c.flow) {p:Int × Int} (hp:p∈wh l):p.1∈nN l:=(aad false 0 l).subset (KI ((YJ false 0 p.1 p.2 l h).1 hp))
theorem atJ {x:aM} (h:∀ c∈x.cells,fq c.flow) {p:Int × Int} (hp:p∈FX x):p.1∈vO x:=(alS false 0 x).subset (KI ((mem_row false 0 p.1 p.2 x h).1 hp))
theorem atH {l:List aN} (h:∀ c∈l,fq c.flow) {p:Int × Int} (hp:p∈Ca l):p.1∈nY l:=(aac false 0 l).subset (KI ((YH false 0 p.1 p.2 l h).1 hp))
theorem atG {x:aN} (h:fq x.flow) {p:Int × Int} (hp:p∈FU x):p.1∈vN x:=(alP false 0 x).subset (KI ((aiS false 0 p.1 p.2 x h).1 hp))
theorem R8 (g:Int) (a:Nat):∀ u:Nat,((List.range u).map fun q=>(g,((a+q:Nat):Int))).Nodup
 | 0=>List.nodup_nil
 | u+1=>by
  rw [List.range_succ,jM,List.nodup_append];refine ⟨R8 g a u,by simp,fun p hp q hq=>?_⟩;obtain ⟨i,hi,rfl⟩:=List.mem_map.1 hp;have hi:=qD.1 hi
  simp only [eP,tq,qX] at hq
  subst hq;intro e
  injection e with _ e
  omega
mutual
theorem ayy (g:Int) (at_:Nat):∀ x:ak,AA x->(pW x).Nodup->g∉pW x->(FV g at_ x).Nodup
 | .mk k c i tx h fl r,hx,hn,hg=>by
  have hf:=R7 i 0 fl hx.fl;have hr:=aiX r hx.rw;have h0:=hx.SL;have hxf:fq fl:=hx.fl;have RD:∀ q∈r,∀ c∈q.cells,fq c.flow:=hx.rw
  simp only [ak.kind,ak.rows] at h0
  rw [pW] at hn hg;rw [FV]
  by_cases h6:k=6
  ·rw [aH (.inl h6),aH h6,ay (show ¬ k=7 by omega),jV] at hn hg;rw [aH h6,h0 V,wh,jV]
   simp only [iT,gJ,List.nodup_cons,iD,not_or] at hn hg
   rw [List.nodup_append];refine ⟨R8 _ _ _,hf hn.2 hn.1,fun p hp q hq e=>?_⟩;subst e;obtain ⟨j,-,rfl⟩:=List.mem_map.1 hp
   rcases WU hxf hq with ⟨h1,-⟩|h1
   ·exact hg.1 h1.symm
   exact hg.2 h1
  rw [ay h6,gJ]
  by_cases h7:k=7
  ·rw [aH (.inr h7),ay h6,aH h7,gJ] at hn hg
   simp only [iT,gJ,List.nodup_cons,iD,not_or] at hn hg
   rw [List.nodup_append];refine ⟨R8 _ _ _,hr hn.2,fun p hp q hq e=>?_⟩;subst e;obtain ⟨j,-,rfl⟩:=List.mem_map.1 hp;exact hg.2 (agr RD hq)
  rw [h0 h7,wh,jV];exact R8 _ _ _
theorem R7 (g:Int) (at_:Nat):∀ l:List ak,fq l->(gZ l).Nodup->g∉gZ l->(zH g at_ l).Nodup
 | [],_,_,_=>by rw [zH];simp
 | x :: l,hl,hn,hg=>by
  obtain ⟨hx,hl⟩:=hl.head;rw [gZ,List.nodup_append] at hn;rw [gZ,iP,not_or] at hg;rw [zH,List.nodup_append];refine ⟨ayy g at_ x hx hn.1 hg.1,R7 g (at_+n1 x) l hl hn.2.1 hg.2,fun p hp q hq e=>?_⟩;subst e
  rcases atI hx hp with ⟨h1,h2⟩|h1
  ·rcases WU hl hq with ⟨h3,h4⟩|h3
   ·rw [hx.n1] at h4;push_cast at h4;omega
   exact hg.2 (h1 ▸ h3)
  rcases WU hl hq with ⟨h3,h4⟩|h3
  ·exact hg.1 (h3 ▸ h1)
  exact hn.2.2 _ h1 _ h3 O
theorem ayz:∀ x:aM,(∀ c∈x.cells,fq c.flow)->(vO x).Nodup->(FX x).Nodup
 | .mk h cs,hx,hn=>by
  rw [vO] at hn;rw [FX];exact aiW cs hx hn
theorem aiX:∀ l:List aM,(∀ r∈l,∀ c∈r.cells,fq c.flow)->(nN l).Nodup->(wh l).Nodup
 | [],_,_=>by rw [wh];exact List.nodup_nil
 | x :: l,hx,hn=>by
  rw [nN,List.nodup_append] at hn;rw [wh,List.nodup_append];exact ⟨ayz x (hx x eT) hn.1,aiX l (fun r hr=>hx r (gH _ hr)) hn.2.1,fun p hp q hq e=>hn.2.2 _ (atJ (hx x eT) hp) _ (agr (fun r hr=>hx r (gH _ hr)) hq) (by rw [e])⟩
theorem ayx:∀ x:aN,fq x.flow->(vN x).Nodup->(FU x).Nodup
 | .mk i h fl,hx,hn=>by
  rw [vN,List.nodup_cons] at hn;rw [FU];exact R7 i 0 fl hx hn.2 hn.1
theorem aiW:∀ l:List aN,(∀ c∈l,fq c.flow)->(nY l).Nodup->(Ca l).Nodup
 | [],_,_=>by rw [Ca];exact List.nodup_nil
 | x :: l,hx,hn=>by
  rw [nY,List.nodup_append] at hn;rw [Ca,List.nodup_append];exact ⟨ayx x (hx x eT) hn.1,aiW l (fun r hr=>hx r (gH _ hr)) hn.2.1,fun p hp q hq e=>hn.2.2 _ (atG (hx x eT) hp) _ (atH (fun r hr=>hx r (gH _ hr)) hq) (by rw [e])⟩
end
theorem yx.vnd {l:List ak} (h:yx l):(zH 0 0 l).Nodup:=R7 0 0 l h.ok h.nd fun hm=>by have:=h.pos _ hm;omega
theorem cZ.eq_iff (a b:cZ):(a.code=b.code∧a.id=b.id∧a.name=b.name∧a.flow=b.flow∧a.at_=b.at_)↔a=b:=by cases a;cases b;simp
instance:DecidableEq cZ:=fun a b=>decidable_of_iff _ (cZ.eq_iff a b)
def rF (l:List cZ) (c i:Int):Option cZ:=l.find? fun a=>decide (a.code=c∧a.id=i)
theorem ags {l:List cZ} {k:Nat} (hk:k < l.length) (c i:Int):rF (l.take (k+1)) c i=(rF (l.take k) c i).or (if l[k].code=c∧l[k].id=i then some l[k] else none):=by
 unfold rF
 rw [jk hk,List.find?_append,List.find?_cons,List.find?_nil]
 by_cases h:l[k].code=c∧l[k].id=i
 ·rw [aH h,lT h]
 rw [ay h,oP h]
theorem aiH (p q:Int × Int) (v:ah):∀ l:List ((Int × Int) × ah),oZ p (l++[(q,v)])=(oZ p l).or (if q=p then some v else none)
 | []=>by
  by_cases h:q=p
  ·simp [oZ,h]
  simp [oZ,h]
 | (k,u) :: r=>by
  rw [iT,oZ,oZ]
  by_cases h:k=p
  ·rw [aH h,aH h];rfl
  rw [ay h,ay h];exact aiH p q v r
def yh (acc:List ((Int × Int) × ah)) (l:List cZ):Prop:=∀ p:Int × Int,oZ p acc=(rF l p.1 p.2).map cZ.val
theorem yh.nil:yh [] []:=fun _=>rfl
theorem yh.new {acc:List ((Int × Int) × ah)} {l:List cZ} {k:Nat} (h:yh acc (l.take k)) (hk:k < l.length) (hn:oZ (l[k].code,l[k].id) acc=none):yh (acc++[((l[k].code,l[k].id),l[k].val)]) (l.take (k+1)):=by
 intro p;rw [aiH,h p,ags hk]
 by_cases e:(l[k].code,l[k].id)=p
 ·subst e;rw [aH O,aH ⟨O,O⟩];rw [h] at hn
  cases hf:rF (l.take k) l[k].code l[k].id with
  | none=>rfl
  | some x=>rw [hf] at hn;cases hn
 rw [ay e,ay (fun h=>e (Prod.ext h.1 h.2))]
 cases rF (l.take k) p.1 p.2 <;> rfl
theorem yh.old {acc:List ((Int × Int) × ah)} {l:List cZ} {k:Nat} (h:yh acc (l.take k)) (hk:k < l.length) (hn:(oZ (l[k].code,l[k].id) acc).isSome=true):yh acc (l.take (k+1)):=by
 intro p;rw [h p,ags hk]
 by_cases e:l[k].code=p.1∧l[k].id=p.2
 ·rw [h,Option.isSome_map] at hn;rw [e.1,e.2] at hn;obtain ⟨x,hx⟩:=Option.isSome_iff_exists.1 hn;rw [hx];rfl
 rw [ay e,Option.or_none]
structure mE where
 id:Int
 name:ByteArray
 ff:Int
 fa:Int
 tf:Int
 ta:Int
def mE.dat (x:mE):List Dat:=[li x.id,.lf (.string x.name),li x.ff,li x.fa,li x.tf,li x.ta]
abbrev mE.cells (x:mE):List ah:=[vi x.id,.string x.name,vi x.ff,vi x.fa,vi x.tf,vi x.ta]
theorem akN {G:GH} {x:mE} {cs:List ah} (h:aX G x.dat cs):cs=x.cells:=by
 simp only [mE.dat,aX,av] at h
 exact adl
theorem akO (G:GH) (x:mE):aX G x.dat x.cells :=
 ⟨_,_,rfl,⟨rfl,rfl⟩,_,_,rfl,⟨rfl,rfl⟩,_,_,rfl,⟨rfl,rfl⟩,_,_,rfl,⟨rfl,rfl⟩,_,_,rfl,⟨rfl,rfl⟩,_,_,rfl,⟨rfl,rfl⟩,rfl⟩
def ER (l:List cZ) (c:Int) (a:cZ):Int × Int:=match rF l (c+1) a.id with
 | some e=>if e.flow=a.flow∧a.at_ < e.at_ then (e.flow,e.at_) else (a.flow,a.at_+1)
 | none=>(a.flow,a.at_+1)
def Es (l:List cZ) (c:Int) (a:cZ):mE:=⟨a.id,a.name,a.flow,a.at_+1,(ER l c a).1,(ER l c a).2⟩
def xQ (l:List cZ) (c:Int) (a:cZ):Bool:=decide (a.code=c∧rF l c a.id=some a)
def Da (l:List cZ) (c:Int):List mE:=(l.filter (xQ l c)).map (Es l c)
theorem akM {l m:List cZ} {c:Int} {k:Nat} (hk:k < l.length):((l.take (k+1)).filter (xQ m c)).map (Es m c)=((l.take k).filter (xQ m c)).map (Es m c)++if xQ m c l[k]=true then [Es m c l[k]] else []:=by
 rw [jk hk,List.filter_append,jM]
 congr 1
 by_cases h:xQ m c l[k]=true
 ·rw [aH h,List.filter_cons,aH h];rfl
 rw [ay h,List.filter_cons,ay h];rfl
mutual
theorem ang (g:Int) (t:Nat):∀ x:ak,AA x->((qC g t x).map fun a=>(a.flow,a.at_)).Sublist (FV g t x)
 | .mk k c i tx h fl r,hx=>by
  have hf:=PI i 0 fl hx.fl;have hr:=aaX r hx.rw;have h0:=hx.SL
  simp only [ak.kind,ak.rows] at h0
  rw [qC,FV,jM,jM];have hn:=hx.n1
  by_cases h8:k=8
  ·subst h8
   have hu:eG (.mk 8 c i tx h fl r)=1:=by unfold eG;rw [ay (by simp [ak.kind])]
   rw [hn,hu,aH O,cu,cu,h0 V,wh,show List.range 1=[0] from rfl]
   simp
  rw [ay h8,tq,gJ];refine List.Sublist.trans ?_ (List.sublist_append_right _ _)
  by_cases h6:k=6
  ·rw [aH h6,aH h6,cu,tq,jV];exact hf.trans (List.sublist_append_left _ _)
  rw [ay h6,ay h6,tq,gJ,gJ]
  by_cases h7:k=7
  ·rw [aH h7];exact hr
  rw [ay h7];exact List.nil_sublist _
theorem PI (g:Int):∀ (t:Nat) (l:List ak),fq l->((dx g t l).map fun a=>(a.flow,a.at_)).Sublist (zH g t l)
 | _,[],_=>by rw [dx];exact List.nil_sublist _
 | t,x :: l,hl=>by
  obtain ⟨hx,hl⟩:=hl.head;rw [dx,zH,jM,hx.n1];have h2:=PI g (t+n1 x) l hl;rw [hx.n1] at h2;exact (ang g t x hx).append h2
theorem aaX:∀ l:List aM,(∀ r∈l,∀ c∈r.cells,fq c.flow)->((jC l).map fun a=>(a.flow,a.at_)).Sublist (wh l)
 | [],_=>by rw [jC];exact List.nil_sublist _
 | x :: l,h=>by
  rw [jC,wh,jM];exact (anh x (h x eT)).append (aaX l fun r hr=>h r (gH _ hr))
theorem anh:∀ x:aM,(∀ c∈x.cells,fq c.flow)->((uY x).map fun a=>(a.flow,a.at_)).Sublist (FX x)
 | .mk hd cs,h=>by rw [uY,FX];exact aaW cs h
theorem aaW:∀ l:List aN,(∀ c∈l,fq c.flow)->((kE l).map fun a=>(a.flow,a.at_)).Sublist (Ca l)
 | [],_=>by rw [kE];exact List.nil_sublist _
 | x :: l,h=>by
  rw [kE,Ca,jM];exact (anf x (h x eT)).append (aaW l fun r hr=>h r (gH _ hr))
theorem anf:∀ x:aN,fq x.flow->((uX x).map fun a=>(a.flow,a.at_)).Sublist (FU x)
 | .mk i hd fl,h=>by rw [uX,FU];exact PI i 0 fl h
end
theorem Wh:aW 151:=aY func151 O
theorem akV:qW prog 58 [(0,1),(1,1),(2,1),(3,2)] [.int .i64 0,.int .i64 0,.string ⟨#[]⟩,.int .i64 0,.int .i64 0]:=⟨Z,Z⟩
theorem afo:aW 81:=aY func81 O
def TT (n:Nat):Prop:=∀ (fv:ah) (Gi:GH) (xs:List AP) (J:Nat->GH->OL->Prop) (G:GH) (L:OL) (w0:World) (j:Nat) (g:Int) (l:List ak) (v:ah),
 (∀ b o,Gi b=some o->G b=some o)->OW prog fv Gi xs J->EF J->J j G L->fM G L w0->av G (.sl 11 (l.map ak.dat)) v->fq l->aP l < n->(∀ i a,(dx g 0 l)[i]?=some a->xs[j+i]?=some (Gw a)) ->
 Calls prog 151 #[vi g,v,fv] w0 (fB w0 G L fun _ G' L'=>J (j+(dx g 0 l).length) G' L')
set_option maxHeartbeats 4000000 in
theorem ani {n:Nat} (ih:TT n) (hn:n<=4294967296):TT (n+1):=by
 intro fv Gi xs J G L w0 j0 g l v hGi hcb vG hJ0 hO hv hok hz hx0;obtain ⟨A,c,rfl,hc1,hc2,hg⟩:=hv.slice;rw [bR] at *;have hll:=Au l;have hml:maxLen=9223372036854775807:=rfl;refine iB (N:=83) (T:=[(0,_),(1,_),(2,_)]) func151 O ntmps151 O O hO ?_;intro a H;refine kP H (SR fun _ K1=>au K1 O (SR fun _ K2=>Rm O (Rl eH O (Rm O (Kz K2 (SB ?_))))));clear H K1 K2;intro a H;skip;refine eO (ι:=Nat × Nat × Nat × OL × GH) (Tc:=[(0,_),(1,_),(2,_),(15,_),(16,_)]) (Lc:=[]) (fun gh=>[(6,vi gh.2.1),(17,vi gh.1)]) (fun gh=>[]++gh.2.2.2.1) (fun gh=>gh.2.2.2.2) (fun gh=>gh.1<=l.length∧(∀ b o,G b=some o->gh.2.2.2.2 b=some o)∧fq (l.drop gh.1)∧gh.2.1+aP (l.drop gh.1)<=4294967297∧Now xs Gw J (j0+(dx g 0 l).length) gh.2.2.1 (dx g gh.2.1 (l.drop gh.1)) gh.2.2.2.2 gh.2.2.2.1) (fun gh=>l.length - gh.1) ((0,0,j0,L,G)) (by exact H.sub ⟨O,O,O,O,O,O,O,aB⟩) ?_ ?_
 ·exact ⟨V,fun _ _ h=>h,hok,by dsimp only;rw [xu];omega,⟨hJ0,hx0,rfl⟩⟩
 clear H;rintro ⟨k,t,j,Lt,g1⟩ a w hI H;dsimp only at hI H;obtain ⟨hk,hgm,hok1,hat,fP⟩:=hI;dsimp only [lca,bD] at H;refine kP H (SR fun _ K3=>Rc O (Kz K3 (SQ fun _ K4=>Cd O ?_ ?_))) <;> clear H K3
 ·intro h18 a H
  try have qw:=dT h18
  have hk2:k < l.length:=by omega
  obtain ⟨b,o,pA,pn,pc,dA,dn,dc,yA,yn,yc,fA,fn,fc,rA,rn,rc,rfl,hrow,hhd,hfl,hrw⟩:=zT hk2 hg;replace hrow:=fun j u hj=>aK hgm (hrow j u hj);replace hfl:=hfl.mono hgm;replace hrw:=hrw.mono hgm;have hpart:=(hv.mono hgm).part k (k+1) V (by rw [bR];omega)
  have he1:((l.map ak.dat).drop k).take 1=[l[k]].map ak.dat:=by rw [mW (by simpa using hk2)];simp
  have hc3:¬ c=k:=by omega
  have hrn:=hrw.len;rw [bR] at hrn;subst hrn;have hzs:=alZ hk2;have hzi:=pG l[k];have RH:=LM (jl hk2);have Ie:=YS l[k];rw [mW hk2] at hok1 fP;obtain ⟨hox,hok2⟩:=hok1.head;have hn1:=hox.n1;rw [dx,Gn] at fP;obtain ⟨x,hx⟩:∃ x,x=l[k]:=⟨_,O⟩;rw [<- hx] at fP hox hrow hhd hfl hrw hzs hzi RH Ie he1 hn1;have hrl:=F4 x.rows;refine kP H (Kc K4 (SQ fun _ K5=>SB (SR fun _ K6=>Rm O (Ri eH cO O O ?_))));clear H K4;intro a H;refine bq cO (cs:=[_,_,_,_,_,_,_,_,_,_,_]) H wn O O (fun j v hj=>H.hp.aI (hrow j v hj)) O ?_;clear H;intro a H;refine dR cO H wn O ?_;clear H;intro b8 a w Ea H;refine kH H (Ra O ?_);clear H;intro a H;refine bM cO 0 (vs:=[_,_,_,_,_,_,_,_,_,_,_]) H wn O ?_;clear H;intro w H;refine K6 _ _ ?_;clear K6;refine rX (ι:=Nat × OL × GH) (Tc:=[(0,_),(1,_),(2,_),(6,_),(7,_),(15,_),(16,_),(17,_)]) (Lc:=[(_,_)]) (fun gh=>[]) (fun gh=>[]++gh.2.1) (fun gh=>gh.2.2) (fun gh=>(∀ b o,g1 b=some o->gh.2.2 b=some o)∧Now xs Gw J (j0+(dx g 0 l).length) gh.1 (dx g (t+n1 x) (l.drop (k+1))) gh.2.2 gh.2.1) (by exact H.sub ⟨O,O,O,O,O,O,O,O,aB⟩) ?_ ?_
  ·skip;refine kP H (SR fun _ K7=>aU iL aD 0 O O (Kz K7 (SB (SR fun _ K8=>Rc O (au K8 O (Cd O ?_ ?_)))))) <;> clear H K7 K8
   ·intro dU a H
    try have lK:=dT dU
    rw [aH lK,cu,cu] at fP
    simp only [iT,gJ] at fP
    refine kP H (SC (Rm O (aU DJ aD 0 O O (aU yO aD 0 O O (aU rC gV 0 O O (Rm O (Rm O ?_)))))));clear H;intro a H;refine kg ZL [_,_] H wn O O O O ?_;clear H;intro a H;refine kg akV [_,_,_,_,_] H wn O O O O ?_;clear H;intro a H;refine Ai (Li:=[_]) (L:=Lt) H wn O O (hcb _ _ _ _ _ ⟨_,fP.head,O⟩ (fun b o h=>hgm b o (hGi b o h)) fP.now (Hp.owns (Li:=[_]) H.hp)) O ?_;clear H;intro v37 G37 amw a w aut NA H;have oF:=fP.step aut;refine aF ?_;refine ⟨(j+1,amw,G37),by exact H.sub ⟨O,O,O,O,O,O,O,O,aB⟩,?_⟩;(try dsimp only);exact ⟨NA,oF⟩
   intro dU a H
   try have lK:=dF dU
   rw [ay lK,gJ,gY] at fP;refine kP H (SR fun _ K9=>Rc O (au K9 O (Cd O ?_ ?_))) <;> clear H K9
   ·intro jq a H
    try have p38:=dT jq
    rw [aH p38,cu,gJ] at fP;refine kP H (SC (aU yO aD 0 O O (aU uw fC 0 O O (Rm O ?_))));clear H;intro a H;refine gD Wh (Li:=[_]) (L:=Lt) H wn O (ih fv Gi xs J _ _ _ j x.id x.flow _ (fun b o h=>hgm b o (hGi b o h)) hcb vG fP.now (Hp.owns (Li:=[_]) H.hp) hfl hox.fl V fP.part) O ?_;clear H;intro v45 Ud amx a w auv XL H;have oF:=fP.jump auv;refine aF ?_;refine ⟨(j+(dx x.id 0 x.flow).length,amx,Ud),by exact H.sub ⟨O,O,O,O,O,O,O,O,aB⟩,?_⟩;(try dsimp only);exact ⟨XL,oF⟩
   intro jq a H
   try have p38:=dF jq
   rw [ay p38,gJ] at fP;refine kP H (SR fun _ aT=>Rc O (au aT O (Cd O ?_ ?_))) <;> clear H aT
   ·intro h46 a H
    try have p46:=dT h46
    rw [aH p46] at fP;refine kP H (SR fun _ bJ=>aU pR oq 0 O O (Rl jS O (Rm O (Kz bJ (SB ?_)))));clear H bJ;intro a H;skip;refine eO (ι:=Nat × Nat × OL × GH) (Tc:=[(0,_),(1,_),(2,_),(6,_),(7,_),(15,_),(16,_),(17,_),(49,_),(50,_)]) (Lc:=[(_,_)]) (fun gh=>[(51,vi gh.1)]) (fun gh=>[]++gh.2.2.1) (fun gh=>gh.2.2.2) (fun gh=>gh.1<=x.rows.length∧(∀ b o,g1 b=some o->gh.2.2.2 b=some o)∧Now xs Gw J (j0+(dx g 0 l).length) gh.2.1 (jC (x.rows.drop gh.1)++dx g (t+n1 x) (l.drop (k+1))) gh.2.2.2 gh.2.2.1) (fun gh=>x.rows.length - gh.1) ((0,j,Lt,g1)) (by exact H.sub ⟨O,O,O,O,O,O,O,O,O,O,O,aB⟩) ?_ ?_
    ·exact ⟨V,fun _ _ h=>h,fP⟩
    clear H;rintro ⟨rk,j3,Lt3,g3⟩ a w hI H;dsimp only at hI H;obtain ⟨NU,hg3,oF⟩:=hI;dsimp only [lca,bD] at H;refine kP H (SR fun _ bO=>Rc O (Kz bO (SQ fun _ bU=>Cd O ?_ ?_))) <;> clear H bO
    ·intro jP a H
     try have p52:=dT jP
     have hk3:rk < x.rows.length:=by omega
     obtain ⟨b2,o2,qA,qn,qc,eA,en,ec,zA,zn,zc,cA,cn,cc,rfl,hrow,Ac,hcl⟩:=IB hk3 (hrw.mono hg3).at_;have hcn:=hcl.len;rw [bR] at hcn;subst hcn;have hsz2:=IX hk3;have hcs:=FZ x.rows[rk].cells;have hoc:=hox.rw _ (jl hk3);rw [mW hk3] at oF
     simp only [jC,aaD,gY] at oF
     obtain ⟨y,hy⟩:∃ y,y=x.rows[rk]:=⟨_,O⟩;rw [<- hy] at oF hrow Ac hcl hsz2 hcs hoc;refine kP H (Kc bU (SQ fun _ bZ=>SB (SR fun _ dP=>Ri jS ig O O ?_)));clear H bU;intro a H;refine bq ig (cs:=[_,_,_,_,_,_]) H wn O O (fun j v hj=>H.hp.aI (hrow j v hj)) O ?_;clear H;intro a H;refine dR ig H wn O ?_;clear H;intro b10 a w Xq H;refine bM ig 0 (vs:=[_,_,_,_,_,_]) H wn O ?_;clear H;intro w H;refine dP _ _ ?_;clear dP;refine kP H (SR fun _ dY=>aU uy rM 0 O O (Rl kQ O (Rm O (Kz dY (SB ?_)))));clear H dY;intro a H;skip;refine eO (ι:=Nat × Nat × OL × GH) (Tc:=[(0,_),(1,_),(2,_),(6,_),(7,_),(15,_),(16,_),(17,_),(49,_),(50,_),(51,_),(56,_),(57,_)]) (Lc:=[(_,_),(_,_)]) (fun gh=>[(58,vi gh.1)]) (fun gh=>[]++gh.2.2.1) (fun gh=>gh.2.2.2) (fun gh=>gh.1<=y.cells.length∧(∀ b o,g3 b=some o->gh.2.2.2 b=some o)∧Now xs Gw J (j0+(dx g 0 l).length) gh.2.1 (kE (y.cells.drop gh.1)++(jC (x.rows.drop (rk+1))++dx g (t+n1 x) (l.drop (k+1)))) gh.2.2.2 gh.2.2.1) (fun gh=>y.cells.length - gh.1) ((0,j3,Lt3,g3)) (by exact H.sub ⟨O,O,O,O,O,O,O,O,O,O,O,O,O,O,aB⟩) ?_ ?_
     ·exact ⟨V,fun _ _ h=>h,oF⟩
     clear H;rintro ⟨ck,j4,Lt4,g4⟩ a w hI H;dsimp only at hI H;obtain ⟨hck,hg4,pV⟩:=hI;dsimp only [lca,bD] at H;refine kP H (SR fun _ dQ=>Rc O (Kz dQ (SQ fun _ eX=>Cd O ?_ ?_))) <;> clear H dQ
     ·intro iC a H
      try have p59:=dT iC
      have hk4:ck < y.cells.length:=by omega
      obtain ⟨b3,o3,sA,sn,sc,tA,tn,tc,uA,un,uc,gA,gn,gc,rfl,hrow,hch,hcf⟩:=JD hk4 (hcl.mono hg4).at_;have Rz:=IV hk4;have Ee:=hoc _ (jl hk4);rw [mW hk4] at pV
      simp only [kE,aaA,gY] at pV
      refine kP H (Kc eX (SQ fun _ gM=>SB (SR fun _ fI=>Ri kQ iN O O ?_)));clear H eX;intro a H;refine bq iN (cs:=[_,_,_,_,_,_,_]) H wn O O (fun j v hj=>H.hp.aI (hrow j v hj)) O ?_;clear H;intro a H;refine dR iN H wn O ?_;clear H;intro b12 a w D9 H;refine bM iN 0 (vs:=[_,_,_,_,_,_,_]) H wn O ?_;clear H;intro w H;refine fI _ _ ?_;clear fI;refine kP H (SC (aU JM aD 0 O O (aU DK fC 0 O O (Rm O ?_))));clear H;intro a H;refine gD Wh (Li:=[_,_,_]) (L:=Lt4) H wn O (ih fv Gi xs J _ _ _ j4 y.cells[ck].id y.cells[ck].flow _ (fun b o h=>hg4 b o (hg3 b o (hgm b o (hGi b o h)))) hcb vG pV.now (Hp.owns (Li:=[_,_,_]) H.hp) hcf Ee V pV.part) O ?_;clear H;intro v67 G67 amB a w auz avK H;have NJ:=pV.jump auz;refine kH H (Kn gM (SC (Rd O (Rm O ?_))));clear H gM;intro a H;refine aF ?_;refine dS ((ck+1,j4+(dx y.cells[ck].id 0 y.cells[ck].flow).length,amB,G67)) (by exact (H.dV (Pl:=[_,_,_]) (dL:=[_,_]) [1,2] Q1 O).sub ⟨O,O,O,O,O,O,O,O,O,O,O,O,O,O,aB⟩) ?_
      (try dsimp only);exact ⟨V,fun b o h=>avK b o (hg4 b o h),NJ⟩
     intro iC a H
     try have p59:=dF iC
     refine dX ?_;refine bZ _ _ ?_;clear bZ;refine kP H (SC (Rd O (Rm O ?_)));clear H;intro a H;refine aF ?_;refine dS ((rk+1,j4,Lt4,g4)) (by exact (H.dV (Pl:=[_,_]) (dL:=[_]) [1] Q1 O).sub ⟨O,O,O,O,O,O,O,O,O,O,O,aB⟩) ?_
     (try dsimp only);exact ⟨V,fun b o h=>hg4 b o (hg3 b o h),by rw [ow V,kE,gJ] at pV;exact pV⟩
    intro jP a H
    try have p52:=dF jP
    refine dX ?_;refine ⟨(j3,Lt3,g3),by exact H.sub ⟨O,O,O,O,O,O,O,O,aB⟩,?_⟩;(try dsimp only);exact ⟨hg3,by rw [ow V,jC,gJ] at oF;exact oF⟩
   intro h46 a H
   try have p46:=dF h46
   rw [ay p46,gJ] at fP;refine gT ?_;refine ⟨(j,Lt,g1),by exact H.sub ⟨O,O,O,O,O,O,O,O,aB⟩,?_⟩;(try dsimp only);exact ⟨fun _ _ h=>h,fP⟩
  clear H;rintro ⟨j2,Lt2,g2⟩ a w hI H;dsimp only at hI H;obtain ⟨hg2,Bu⟩:=hI;dsimp only [lca,bD] at H;refine kP H (SR fun _ gQ=>Rm O (Rm O (Rm O (Rd O ?_))));clear H;intro a H;refine aA6 eH cO k (k+1) H wn O O O O V V V O ?_;clear H;intro a H;rw [ay hc3,Option.map_some,add_lit,Gq] at H;refine s_call afo H wn O (aiE _ _ H.ro [x] _ (by have h:=hpart;rw [ay hc3,Option.map_some,add_lit,Gq,he1] at h;exact h.mono hg2) (by show 1+bY x.dat+0<=_;omega)) rfl ?_;clear H;rintro v76 G76 a w ⟨rfl,rfl⟩ - H;rw [axP] at H;refine kH H (Rm O ?_);clear H;intro a H;(iterate 2 refine ko H wn O O O ?_;clear H;intro a H);refine kH H (Ra O (au gQ O (SC (Rm O (Rm O (Rd O (aZ K5 O (SC (Rd O (Rm O ?_))))))))));clear H gQ K5;intro a H;refine aF ?_;refine dS ((k+1,t+n1 x,j2,Lt2,g2)) (by exact (H.dV (Pl:=[_]) (dL:=[]) [] Q1 O).sub ⟨O,O,O,O,O,O,O,aB⟩) ?_
  (try dsimp only);exact ⟨V,fun b o h=>hg2 b o (hgm b o h),hok2,V,Bu⟩
 intro h18 a H
 try have qw:=dF h18
 refine dX ?_;refine (leave0 H results151 ?_).2;exact H.hp.kJ (L':=Lt) (by repeat (first|exact lV _|apply List.Sublist.cons)) (by rw [ow V,dx] at fP;have:=fP.len;simp only [List.length_nil,wB] at this;rw [<- this];exact fP.now)
theorem aaZ:∀ n:Nat,n<=4294967297->TT n
 | 0,_=>fun _ _ _ _ _ _ _ _ _ _ _ _ _ _ _ _ _ _ h=>absurd h V
 | n+1,hn=>ani (aaZ n V) V
theorem tC {G:GH} {b:Nat} {cs:List ah} {e:TypeId} {q:Nat × Nat} (h:G b=some (.cells cs.toArray e q)) (k:Nat) (ds:List ah) (hd:ds=(cs.drop k).take ds.length) (j:Nat) (v:ah) (hj:ds[j]?=some v):aI G b (k+j)=some v:=by
 unfold aI
 rw [h]
 show cs.toArray[k+j]?=some v
 rw [hd,sV] at hj
 split at hj
 ·simpa using hj
 cases hj
theorem tX:prog.underlying 53=some (.slice 58):=by kernel_rfl
theorem mP:Ty prog 58 5 48 [.int .i64 0,.int .i64 0,.string ⟨#[]⟩,.int .i64 0,.int .i64 0] true:=⟨Z,Z⟩
theorem Tk:Ty prog 53 1 24 [.slice none 0 0] false:=⟨Z,Z⟩
theorem Tt:prog.underlying 295=some (.map 298 58):=by kernel_rfl
theorem JY:dz prog 58 0 0:=⟨Z⟩
theorem JZ:dz prog 58 1 1:=⟨Z⟩
theorem ZK:qW prog 298 [(0,1),(1,1)] [.int .i64 0,.int .i64 0]:=⟨Z,Z⟩
theorem Tj:Ty prog 298 2 16 [.int .i64 0,.int .i64 0] true:=⟨Z,Z⟩
theorem aqg:aW 152:=aY func152 O
def uo (l:List cZ):List ah:=(l.map cZ.cells).flatten
theorem amW {l:List cZ} {k:Nat} (hk:k < l.length):uo (l.take (k+1))=uo (l.take k)++l[k].cells:=by
 unfold uo
 rw [jk hk,jM,List.flatten_append]
 simp
theorem UG (G:GH):∀ l:List cZ,bT G 5 (l.map cZ.dat) (uo l)
 | []=>bT.nil
 | x :: l=>by
  have h1:bT G 5 [x.dat] x.cells:=by
   have:=(bT.nil (G:=G) (sz:=5)).snoc (q:=x.dat) (cs:=x.cells) (ana G x) O
   simpa using this
  rw [eP,<- List.singleton_append];exact h1.append (UG G l)
def aap (bo:Nat) (A:List cZ):Nat->GH->OL->Prop:=fun k _ L=>k<=A.length∧∃ v Lo,L=(bo,.cells #[v] 53 (0,0)) :: Lo∧bV 58 5 v k (uo (A.take k)) Lo
theorem axY (Gi:GH) (bo:Nat) (A:List cZ) (hA:A.length<=4294967296):OW prog (.func (.func 152) #[] #[(aJ bo 0)]) Gi (A.map Gw) (aap bo A):=by
 rintro k args G L w0 ⟨p,hp,hargs⟩ hGi ⟨-,v,Lo,rfl,hrw⟩ hO;rw [pJ] at hp;obtain ⟨x,hx,rfl⟩:=nG.1 hp;obtain ⟨hk,hxe⟩:=ji.1 hx;have ha:args=[x.val]:=hargs;subst ha;obtain ⟨vA,vc,rfl,-,-⟩:=hrw.shape;have hml:maxLen=9223372036854775807:=rfl;refine kG (caps:=[(aJ bo 0)]) aqg ?_;refine iB (N:=7) (T:=[(0,_),(1,_)]) func152 O ntmps152 O O hO ?_;intro a H;refine dH (fun _ K1=>?_);refine eB (cs:=[_,_,_,_,_]) H wn O O O ?_;clear H;intro b2 a w hb2 H;refine K1 _ _ ?_;clear K1;refine kP H (SC (Ro Tk 1 O ?_));clear H;intro a H;refine bq mP (cs:=[_,_,_,_,_]) H wn O O (H.hp.dD 0 O O) O ?_;clear H;intro a H;refine iG tX mP [_,_,_,_,_] [_,_,_,_,_] H wn O O O O O (by intro i q h;match i,h with|0,h=>exact h|n+1,h=>simp at h) O O ?_;clear H;intro b5 a w hb5 H;refine mh (Li:=[_,_,_]) (Lo:=Lo) (news:=x.cells) tX mP O O H wn O O hrw O (H.hp.dD 0 O O) O V V O ?_;clear H;intro v6 Lo6 a w ahJ H;obtain ⟨v6A,v6c,rfl,-,-⟩:=ahJ.shape;refine bM Tk 2 (vs:=[_]) H wn O ?_;clear H;intro w H;refine aF ?_;refine (leave0 H results152 ?_).2;exact H.hp.kJ (L':=(bo,.cells #[.slice v6A (k+1) v6c] 53 (0,0)) :: Lo6) (by repeat (first|exact lV _|apply List.Sublist.cons)) ⟨hk,_,Lo6,O,by rw [amW hk,hxe];exact ahJ⟩
theorem aiG (G:GH) (w0:World) (hG:Hold G w0) (D:jd) (l:List ak) (hv:av G (.sl 11 (l.map ak.dat)) (bX D.f)) (hok:fq l) (hz:aP l<=4294967296) :
  Calls prog 66 #[D.val] w0 (bG w0 G fun u G'=>av G' (.sl 5 ((dx 0 0 l).map cZ.dat)) u):=by
 have hn:=Ci 0 0 l;refine eN [(0,_)] func66 O ntmps66 O O hG ?_;intro a H;refine dH (fun _ K1=>?_);refine eB (cs:=[_,_,_,_,_,_,_,_,_,_,_]) H wn O O O ?_;clear H;intro b1 a w hb1 H;refine kH H (au K1 O (SQ fun _ K2=>?_));clear H K1;intro a H;obtain ⟨Ga,hma,hb',H⟩:=H.fJ;have hga:=fun j v hj=>tC hb' 0 D.cells O j v hj;replace hv:=hv.mono hma;refine mX ?_;refine dR Tk H wn O ?_;clear H;intro b3 a w hb3 H;refine kH H (Kn K2 (SR fun _ K3=>Rf wJ O (Rg fC O (hga 0 _ O) ?_)));clear H K2;intro a H;refine wV H wn O O ?_;clear H;intro a H;refine gD Wh (Li:=[]) (L:=[(b3,.cells #[.slice none 0 0] 53 (0,0))]) H wn O (aaZ 4294967297 V _ Ga ((dx 0 0 l).map Gw) (aap b3 (dx 0 0 l)) _ _ _ 0 0 l _ (fun _ _ h=>h) (axY Ga b3 (dx 0 0 l) V) (fun _ _ _ _ _ h=>h) ⟨jL _,_,[],O,bV.nil⟩ (Hp.owns (Li:=[]) H.hp) hv hok V (fun i a h=>by rw [fO,pJ,h];rfl)) rfl ?_;clear H;rintro v7 G7 L7 a w ⟨-,v,Lo,rfl,hrw⟩ Cu H;rw [fO,vg] at hrw;dsimp only [List.nil_append] at H;refine K3 _ _ ?_;clear K3;refine kP H (SR fun _ K4=>Ro Tk 0 O (au K4 O ?_));clear H K4;intro a H;refine lr H results66 O ?_;obtain ⟨Gr,hmr,hrep,H⟩:=St.qF (Li:=[_]) H hrw (rows:=(dx 0 0 l).map cZ.dat) (by simp) (UG _ _);exact H.rt hrep
theorem Qx:Di prog 298 [0,1]:=⟨Z,Z,Z,Z,Z⟩
def FY:cZ:=⟨0,0,⟨#[]⟩,0,0⟩
theorem YB {acc:List ((Int × Int) × ah)} {l:List cZ} (h:yh acc l) (p:Int × Int):(oZ p acc).getD FY.val=((rF l p.1 p.2).getD FY).val:=by
 rw [h p];cases rF l p.1 p.2 <;> rfl
theorem PD {G:GH} {A:List cZ} {v:Option Addr} {n c k:Nat} (h:av G (.sl 5 (A.map cZ.dat)) (.slice v n c)) (hk:k < A.length):∃ b o,v=some ⟨b,o,none⟩∧∀ j u,A[k].cells[j]?=some u->aI G b (o+k*5+j)=some u:=by
 obtain ⟨b,o,cs,rfl,hcl,hrow,hr⟩:=h.at_ k A[k].dat (by simp [hk]);obtain rfl:=aaS hr;exact ⟨b,o,O,hrow⟩
set_option maxHeartbeats 1000000 in
theorem atp (G:GH) (w0:World) (hG:Hold G w0) (A:List cZ) (v:ah) (hv:av G (.sl 5 (A.map cZ.dat)) v) (hl:A.length<=4294967296) :
  Calls prog 209 #[v] w0 (bG w0 G fun u G'=>∃ b acc,u=.map (some b)∧G' b=some (FB acc)∧yh acc A):=by
 obtain ⟨vA,n,c,rfl⟩:=hv.form;have hn:=hv.len;rw [bR] at hn;subst hn;have hml:maxLen=9223372036854775807:=rfl;refine eN [(0,_)] func209 O ntmps209 O O hG ?_;intro a H;refine kP H (SR fun _ K1=>au K1 O (SR fun _ K2=>?_));clear H K1;intro a H;refine FH H wn O ?_;clear H;intro b9 a w uG H;refine kH H (au K2 O (SQ fun _ K3=>SR fun _ K4=>Rm O (Rl tX O (Rm O (Kz K4 (SB ?_))))));clear H K2 K4;intro a H;skip;refine eO (ι:=Nat × List ((Int × Int) × ah)) (Tc:=[(3,_),(10,_),(11,_)]) (Lc:=[]) (fun (gh:Nat × List ((Int × Int) × ah))=>[(12,vi gh.1)]) (fun (gh:Nat × List ((Int × Int) × ah))=>[(b9,FB gh.2)]) (fun (gh:Nat × List ((Int × Int) × ah))=>G) (fun (gh:Nat × List ((Int × Int) × ah))=>gh.1<=A.length∧yh gh.2 (A.take gh.1)) (fun (gh:Nat × List ((Int × Int) × ah))=>A.length - gh.1) ((0,[])) (by exact H.sub ⟨O,O,O,O,aB⟩) ?_ ?_
 ·exact ⟨jL _,yh.nil⟩
 clear H;rintro ⟨k,acc⟩ a w hI H;dsimp only at hI H;obtain ⟨hk,hfm⟩:=hI;dsimp only [lca,bD] at H;refine kP H (SR fun _ K5=>Rc O (Kz K5 (SQ fun _ K6=>Cd O ?_ ?_))) <;> clear H K5
 ·intro fT a H
  try have pz:=dT fT
  have hk2:k < A.length:=by omega
  obtain ⟨b,o,rfl,hrow⟩:=PD hv hk2;refine kP H (Kc K6 (SQ fun _ K7=>SB (SR fun _ K8=>Ri tX mP O O ?_)));clear H K6;intro a H;refine bq mP (cs:=A[k].cells) H wn O O (fun j v hj=>H.hp.aI (hrow j v hj)) O ?_;clear H;intro a H;refine dR mP H wn O ?_;clear H;intro b5 a w hb5 H;refine bM mP 0 (vs:=[_,_,_,_,_]) H wn O ?_;clear H;intro w H;refine K8 _ _ ?_;clear K8;refine kP H (SR fun _ K9=>aU JY aD 0 O O (aU JZ aD 0 O O ?_));clear H;intro a H;refine kg ZK [_,_] H wn O O O O ?_;clear H;intro a H;refine dR Tj H wn O ?_;clear H;intro b6 a w hb6 H;refine bM Tj 0 (vs:=[_,_]) H wn O ?_;clear H;intro w H;refine K9 _ _ ?_;clear K9;refine kP H (SR fun _ aT=>Rm O ?_);clear H;intro a H;refine bq Tj (cs:=[_,_]) H wn O O (H.hp.dD 0 O O) O ?_;clear H;intro a H;refine aks (ky:=(A[k].code,A[k].id)) (zv:=FY.val) (l:=acc) Tt Qx Z H wn O O (H.hp.own (b9,FB acc) (by simp)) O ?_;clear H;intro a H;rw [YB hfm] at H;refine kH H (Rm O ?_);clear H;intro a H;(iterate 2 refine ko H wn O O O ?_;clear H;intro a H);refine dR mP H wn O ?_;clear H;intro b7 a w Cq H;refine bM mP 0 (vs:=[_,_,_,_,_]) H wn O ?_;clear H;intro w H;refine kH H (au aT O (SR fun _ bJ=>Rm O (Rn O (Kz bJ (Cd O ?_ ?_))))) <;> clear H aT bJ
  ·intro eY a H
   try have p28:=dT eY
   have hnone:oZ (A[k].code,A[k].id) acc=none:=by simpa using eY
   refine kP H (SC (Rm O ?_));clear H;intro a H;refine bq Tj (cs:=[_,_]) H wn O O (H.hp.dD 1 O O) O ?_;clear H;intro a H;refine bq mP (cs:=[_,_,_,_,_]) H wn O O (H.hp.dD 2 O O) O ?_;clear H;intro a H;refine aA3 (i:=3) (l:=acc) (ky:=(A[k].code,A[k].id)) (v:=A[k].val) Tt Qx H wn O O O O hnone ?_;clear H;intro w H;dsimp only [List.set] at H;refine kH H (Kn K7 (SC (Rd O (Rm O ?_))));clear H K7;intro a H;refine aF ?_;refine dS ((k+1,acc++[((A[k].code,A[k].id),A[k].val)])) (by exact (H.dV (Pl:=[_,_,_,_]) (dL:=[_]) [3] Q1 O).sub ⟨O,O,O,O,aB⟩) ?_
   (try dsimp only);exact ⟨V,hfm.new hk2 hnone⟩
  intro eY a H
  try have p28:=dF eY
  refine kP H (Kc K7 (SC (Rd O (Rm O ?_))));clear H K7;intro a H;refine aF ?_;refine dS ((k+1,acc)) (by exact (H.dV (Pl:=[_,_,_,_]) (dL:=[_]) [3] Q1 O).sub ⟨O,O,O,O,aB⟩) ?_
  (try dsimp only);exact ⟨V,hfm.old hk2 (by simpa using eY)⟩
 intro fT a H
 try have pz:=dF fT
 obtain rfl:k=A.length:=by omega
 rw [vg] at hfm;refine dX ?_;refine K3 _ _ ?_;clear K3;refine kP H (SR fun _ bO=>Rm O (au bO O ?_));clear H bO;intro a H;refine lr H results209 O ?_;obtain ⟨Gr,hmr,hbr,H⟩:=H.fJ;exact H.rt ⟨_,acc,O,hbr,hfm⟩
theorem arS:aW 68:=aY func68 O
theorem afj:aW 66:=aY func66 O
theorem arR:aW 67:=aY func67 O
theorem AZ:dz prog 58 3 3:=⟨Z⟩
theorem Ng:dz prog 56 0 0:=⟨Z⟩
theorem Cm:dz prog 56 1 1:=⟨Z⟩
theorem akW:qW prog 63 [(0,1),(1,1),(2,1),(3,1),(4,1),(5,1),(6,1),(7,1),(8,1),(9,1),(10,1),(11,1),(12,1),(13,1),(14,4)] [.int .i64 0,.int .i64 0,.int .i64 0,.int .i64 0,.int .i64 0,.int .i64 0,.int .i64 0,.int .i64 0,.int .i64 0,.int .i64 0,.bool false,.slice none 0 0,.slice none 0 0,.slice none 0 0,.slice none 0 0,.slice none 0 0,.slice none 0 0,.slice none 0 0]:=⟨Z,Z⟩
theorem anQ (G:GH) (w0:World) (hG:Hold G w0) (x:cZ):Calls prog 67 #[.agg x.cells.toArray] w0 (bG w0 G fun u G'=>u=.bool (decide (x.code=1∨x.code=2))):=by
 refine eN [(0,_)] func67 O ntmps67 O O hG ?_;intro a H;refine dH (fun _ K1=>?_);refine eB (cs:=[_,_,_,_,_]) H wn O O O ?_;clear H;intro b1 a w hb1 H;refine kH H (au K1 O (SR fun _ K2=>aU JY aD 0 O O (Rc O (Rm O (Sp 6 O ?_ ?_))))) <;> clear H K1
 ·intro h6 a H
  try have p6:=dT h6
  exact kH H (bg h6 O (Pt h6 O (au K2 O (LR results67 O fun H=>H.rt (by simp_all)))))
 intro h6 a H
 try have p6:=dF h6
 exact kH H (YF JY h6 O (YO aD 0 h6 O (YC h6 O (Pf h6 O (au K2 O (LR results67 O fun H=>H.rt (by simp_all)))))))
def qE (id:Int) (a:cZ):Bool:=decide ((a.code=1∨a.code=2)∧a.id=id)
def EP (a:cZ):oO:=⟨12,a.flow,a.at_,(none,0,0)⟩
def rG (A:List cZ) (id:Int):List oO:=((A.filter (qE id)).reverse).map EP
theorem aAl {A:List cZ} {id:Int} {k:Nat} (hk:k < A.length) (h:qE id A[k]=true):(A.take (k+1)).filter (qE id)=(A.take k).filter (qE id)++[A[k]]:=by
 rw [jk hk,List.filter_append,List.filter_cons,aH h];rfl
theorem aAj {A:List cZ} {id:Int} {k:Nat} (hk:k < A.length) (h:¬ qE id A[k]=true):(A.take (k+1)).filter (qE id)=(A.take k).filter (qE id):=by
 rw [jk hk,List.filter_append,List.filter_cons,ay h,List.filter_nil,jV]
theorem aAi (A:List cZ) (id:Int) (k:Nat):((A.take k).filter (qE id)).length<=A.length:=Nat.le_trans (List.length_filter_le _ _) (by rw [List.length_take];omega)
theorem aeD (G:GH):∀ (B A:List oO),bT G 18 (A.map oO.dat) (wH A).flatten->bT G 18 ((A++B).map oO.dat) (wH (A++B)).flatten
 | [],A,h=>by rw [jV];exact h
 | x :: B,A,h=>by
  have h2:=h.snoc (apK G x) O;have h3:=aeD G B (A++[x]) (by simpa [wH] using h2)
  simpa using h3
theorem abD {p:Prop} (h:p:=by
 exact ⟨V,by rw [aAj hk2 (by unfold qE;simp_all)];exact hrw,fun b o h=>tK b o (hgm b o h)⟩):p:=h
set_option maxHeartbeats 2000000 in
theorem azU (G:GH) (w0:World) (hG:Hold G w0) (D:jd) (l:List ak) (hv:av G (.sl 11 (l.map ak.dat)) (bX D.f)) (hok:fq l) (hz:aP l<=1073741824) (id:Int) :
  Calls prog 20 #[D.val,vi id] w0 (bG w0 G fun u G'=>∃ x,u=.tuple #[x,vi (if (rG (dx 0 0 l) id).length=0 then 8 else 0)]∧av G' (.sl 18 ((rG (dx 0 0 l) id).map oO.dat)) x):=by
 have hn:=Ci 0 0 l;have hml:maxLen=9223372036854775807:=rfl;obtain ⟨A,hA⟩:∃ A,A=dx 0 0 l:=⟨_,O⟩;rw [<- hA] at hn |-;refine eN [(0,_),(1,_)] func20 O ntmps20 O O hG ?_;intro a H;refine dH (fun _ K1=>?_);refine eB (cs:=[_,_,_,_,_,_,_,_,_,_,_]) H wn O O O ?_;clear H;intro b2 a w hb2 H;refine kH H (Ra O (au K1 O (SQ fun _ K2=>?_)));clear H K1;intro a H;obtain ⟨Ga,hma,hb',H⟩:=H.fJ;have hga:=fun j v hj=>tC hb' 0 D.cells O j v hj;replace hv:=hv.mono hma;refine kP H (SC (aZ K2 O (SQ fun _ K3=>SR fun _ K4=>?_)));clear H K2;intro a H;refine bq jH (cs:=D.cells) H wn O O (fun j v hj=>H.hp.aI (hga j v hj)) O ?_;clear H;intro a H;refine s_call afj H wn O (aiG _ _ H.ro D l hv hok V) O ?_;clear H;rintro v10 tZ a w hr tH H;rw [<- hA] at hr;obtain ⟨vA,n10,c10,rfl⟩:=hr.form;have ahk:=hr.len;rw [bR] at ahk;subst ahk;refine kH H (Rl tX O (Rm O (Kz K4 (SB ?_))));clear H K4;intro a H;skip;refine eO (ι:=Nat × ah × OL × GH) (Tc:=[(1,_),(10,_),(11,_)]) (Lc:=[]) (fun gh=>[(6,gh.2.1),(12,vi gh.1)]) (fun gh=>[]++gh.2.2.1) (fun gh=>gh.2.2.2) (fun gh=>gh.1<=A.length∧bV 63 18 gh.2.1 ((A.take gh.1).filter (qE id)).length (wH (((A.take gh.1).filter (qE id)).map EP)).flatten gh.2.2.1∧(∀ b o,tZ b=some o->gh.2.2.2 b=some o)) (fun gh=>A.length - gh.1) ((0,.slice none 0 0,[],tZ)) (by exact (H.KR (A:=[])).sub ⟨O,O,O,O,O,aB⟩) ?_ ?_
 ·exact ⟨jL _,bV.nil,fun _ _ h=>h⟩
 clear H;rintro ⟨k,v,Lo,g⟩ a w hI H;dsimp only at hI H;obtain ⟨hk,hrw,hgm⟩:=hI;have hrl:=aAi A id k;dsimp only [lca,bD] at H;refine kP H (SR fun _ K5=>Rc O (Kz K5 (SQ fun _ K6=>Cd O ?_ ?_))) <;> clear H K5
 ·intro fT a H
  try have pz:=dT fT
  have hk2:k < A.length:=by omega
  obtain ⟨b,o,rfl,hrow⟩:=PD (hr.mono hgm) hk2;refine kP H (Kc K6 (SQ fun _ K7=>SB (SR fun _ K8=>Ri tX mP O O ?_)));clear H K6;intro a H;refine bq mP (cs:=A[k].cells) H wn O O (fun j v hj=>H.hp.aI (hrow j v hj)) O ?_;clear H;intro a H;refine dR mP H wn O ?_;clear H;intro b8 a w Ea H;refine bM mP 0 (vs:=[_,_,_,_,_]) H wn O ?_;clear H;intro w H;refine K8 _ _ ?_;clear K8;refine dH (fun _ K9=>?_);refine bq mP (cs:=[_,_,_,_,_]) H wn O O (H.hp.dD 0 O O) O ?_;clear H;intro a H;refine s_call arR H wn O (anQ _ _ H.ro A[k]) O ?_;clear H;rintro v17 Ay a w rfl tK H;refine kH H (Rm O (Sp 18 O ?_ ?_)) <;> clear H
  ·intro h18 a H
   try have qw:=dT h18
   refine kH H (YF JZ h18 O (YO aD 0 h18 O (YM h18 O (YC h18 O (Pt h18 O (Kz K9 (Cd O ?_ ?_))))))) <;> clear H K9
   ·intro h23 a H
    try have qL:=dT h23
    refine kP H (SC (Rm O (Rf AZ O (aU Ng aD 0 O O (Rf AZ O (aU Cm aD 0 O O ?_))))));clear H;intro a H;refine kg akW [_,_,_,_,_,_,_,_,_,_,_,_,_,_,_,_,_,_] H wn O O O O ?_;clear H;intro a H;refine iG Ap Am [_,_,_,_,_,_,_,_,_,_,_,_,_,_,_,_,_,_] [_,_,_,_,_,_,_,_,_,_,_,_,_,_,_,_,_,_] H wn O O O O O (by intro i q h;match i,h with|0,h=>exact h|n+1,h=>simp at h) O O ?_;clear H;intro b32 a w aDq H;refine mh (Li:=[_,_]) (Lo:=Lo) (news:=(EP A[k]).cells) Ap Am O O H wn O O hrw O (H.hp.dD 0 O O) O V V O ?_;clear H;intro v33 Ui a w X9 H;dsimp only [List.nil_append,List.cons_append] at H;refine kH H (aZ K7 O (SC (Rd O (Rm O ?_))));clear H K7;intro a H;refine aF ?_;refine dS ((k+1,v33,Ui,_)) (by exact (H.dV (Pl:=[_,_]) (dL:=[]) [] Q1 O).sub ⟨O,O,O,O,O,aB⟩) ?_
    (try dsimp only);exact ⟨V,by rw [aAl hk2 (by unfold qE;simp_all),iK,jM,wH,jM,List.flatten_append];exact X9,fun b o h=>tK b o (hgm b o h)⟩
   intro h23 a H
   try have qL:=dF h23
   refine kP H (Kc K7 (SC (Rd O (Rm O ?_))));clear H K7;intro a H;refine aF ?_;refine dS ((k+1,v,Lo,_)) (by exact (H.dV (Pl:=[_]) (dL:=[]) [] Q1 O).sub ⟨O,O,O,O,O,aB⟩) ?_
   (try dsimp only);exact abD
  intro h18 a H
  try have qw:=dF h18
  refine kH H (aR h18 O (aR h18 O (Pf h18 O (Kz K9 (Cf O O (Kc K7 (SC (Rd O (Rm O ?_)))))))));clear H K9 K7;intro a H;refine aF ?_;refine dS ((k+1,v,Lo,_)) (by exact (H.dV (Pl:=[_]) (dL:=[]) [] Q1 O).sub ⟨O,O,O,O,O,aB⟩) ?_
  (try dsimp only);exact abD
 intro fT a H
 try have pz:=dF fT
 obtain rfl:k=A.length:=by omega
 rw [vg] at hrw;obtain ⟨vR,cR,rfl,-,-⟩:=hrw.shape
 have hll:(rG A id).length=(A.filter (qE id)).length:=by simp [rG]
 refine dX ?_;refine K3 _ _ ?_;clear K3;refine kP H (SQ fun _ aT=>SR fun _ bJ=>Rm O (Rl Ap O (Rc O (Kz bJ (Cd O ?_ ?_))))) <;> clear H bJ
 ·intro h37 a H
  try have p37:=dT h37
  refine kP H (SR fun _ bO=>Ra O (au bO O ?_));clear H bO;intro a H;refine gu ?_;refine (jQ H results20 (.cons (fE H O) (.cons (fE H O) .nil)) ?_).1
  exact H.rt ⟨_,by rw [jZ],by
   have e:rG A id=[]:=List.eq_nil_of_length_eq_zero V
   rw [e];exact av.og O Q1⟩
 intro h37 a H
 try have p37:=dF h37
 refine kP H (Kc aT (SR fun _ bU=>Rm O ?_));clear H aT;intro a H;refine gD arS (Li:=[]) (L:=Lo) H wn O (aAd ((A.filter (qE id)).map EP) (by intro e;have h9:=dh List.length e;simp only [bR,List.length_nil] at h9;omega) (Hp.owns (Li:=[]) H.hp) (by rw [bR];exact hrw)) O ?_;clear H;rintro v39 O9 L39 a w ahH XK H;rw [bR,<- List.map_reverse] at ahH;dsimp only [List.nil_append] at H;obtain ⟨Gr,hmr,hrep,H⟩:=St.qF (Li:=[]) (Lo:=L39) H ahH (rows:=(rG A id).map oO.dat) (by rw [bR,hll]) (aeD _ (rG A id) [] bT.nil);refine bU _ _ ?_;clear bU;refine kP H (SR fun _ bZ=>Rm O (Ra O (au bZ O ?_)));clear H bZ;intro a H;refine gu ?_;refine (jQ H results20 (.cons (fE H O) (.cons (fE H O) .nil)) ?_).1;exact H.rt ⟨_,by rw [cu],hrep⟩
theorem bV.ptr {e sz n c:Nat} {A:Option Addr} {xs:List ah} {Lo:OL} (h:bV e sz (.slice A n c) n xs Lo) (hn:0 < n):∃ b,A=some ⟨b,0,none⟩:=by
 rcases h.2 with ⟨_,h0,_⟩|⟨b,cap,cur,he,_⟩
 ·omega
 ·injection he with e1;exact ⟨b,e1⟩
theorem bV.at {w0 w:World} {F:Nat->Prop} {G0 G:GH} {L Lo:OL} {e sz n c b o:Nat} {xs:List ah} (h:bV e sz (.slice (some ⟨b,o,none⟩) n c) n xs Lo) (H:Hp w0 F G0 G L w) (hsub:∀ x∈Lo,x∈L) {i:Nat} {u:ah} (hi:xs[i]?=some u):w.cell? ⟨b,i,none⟩=some u:=by
 rcases h.2 with ⟨h1,_⟩|⟨b2,cap,cur,he,hl,h1,h2,h3,h4⟩
 ·cases h1
 ·injection he with e1
  injection e1 with e1
  injection e1 with e1
  subst e1
  refine H.KQ (c:=cur) (e:=e) (fz:=(0,0)) (hsub _ (by rw [hl];exact List.mem_singleton_self _)) ?_
  have hx:i < xs.length:=(ji.1 hi).1
  rw [h.1] at hx
  rw [<- h4,sV,aH hx,Array.getElem?_toList] at hi
  exact hi
theorem flat_get {sz:Nat}:∀ {css:List (List ah)} {k:Nat} (hk:k < css.length) (h:∀ cs∈css,cs.length=sz) (j:Nat),j < sz->css.flatten[k*sz+j]?=css[k][j]?
 | c :: css,0,_,h,j,hj=>by
  rw [List.flatten_cons,Nat.zero_mul,fO,List.getElem_cons_zero,sZ (by rw [h c eT];exact hj)]
 | c :: css,k+1,hk,h,j,hj=>by
  have ih:=flat_get (css:=css) (k:=k) (by simpa using hk) (fun cs hc=>h cs (gH _ hc)) j hj
  rw [List.flatten_cons,List.getElem_cons_succ,qj (by rw [h c eT,Nat.succ_mul];omega),h c eT,show (k+1)*sz+j - sz=k*sz+j by rw [Nat.succ_mul];omega]
  exact ih
theorem bT.at {G:GH} {sz:Nat} {rows:List (List Dat)} {xs:List ah} (h:bT G sz rows xs) {k:Nat} {r:List Dat} (hk:rows[k]?=some r):∃ cs,cs.length=sz∧(∀ j u,cs[j]?=some u->xs[k*sz+j]?=some u)∧aX G r cs:=by
 obtain ⟨css,rfl,h2,h3⟩:=h
 have hkl:k < css.length:=by rw [h2];exact (ji.1 hk).1
 obtain ⟨hr,hl⟩:=h3 k r css[k] hk (fF hkl)
 refine ⟨css[k],hl,fun j u hj=>?_,hr⟩
 rw [flat_get hkl (fun cs hc=>?_) j (by rw [<- hl];exact (ji.1 hj).1)]
 ·exact hj
 ·obtain ⟨i,hi,rfl⟩:=List.getElem_of_mem hc
  exact (h3 i rows[i] css[i] (fF V) (fF hi)).2
section
section
variable {N:Nat} {D:List Deferred} {w0:World} {F:Nat->Prop} {G0 G:GH} {L:OL} {T:List (Nat × ah)}
variable {r:Option Nat} {P:Program} {ops:Array Oper} {Q:Exit->Act->World->Prop} {rest:List Oper} {a:Act} {w:World}
variable {d:Nat} {ty:TypeId} {pos:String} {aL:Array Edge} {g:Option (Nat × Bool)}
theorem aAS {t yt:TypeId} {x y:Operand} {p q:ByteArray} (H:St N D w0 F G0 G L T a w) (hw:Region.wanted ⟨some d,.binOp .add t x y yt,ty,pos,aL,g⟩ (yielded ops a.tmps)=true) (hx:ev T x=some (.string p)) (hy:ev T y=some (.string q)) (hs:p.size+q.size<=4611686018427387904) (hd:Nat.blt d N=true)
  (k:∀ a',St N D w0 F G0 G L ((d,.string (p++q)) :: T) a' w->WL r P ops Q rest a' w):WL r P ops Q (⟨some d,.binOp .add t x y yt,ty,pos,aL,g⟩ :: rest) a w:=by
 refine fQ (v:=.string (p++q)) (w':=w) hw O ?_ (k _ (H.put hd _ H.hp))
 have h:¬ ((p.size+q.size:Nat):Int) > IntKind.i64.max:=by
  rw [show IntKind.i64.max=9223372036854775807 by decide];omega
 simp only [execOp,H.ev hx,H.ev hy,dM,eqGuard,binOp,Op.stringOp,ay h]
 rfl
end
theorem bV.set1 {e sz n cap b o:Nat} {xs:List ah} {Lo:OL} (h:bV e sz (.slice (some ⟨b,o,none⟩) n cap) n xs Lo) :
  ∃ cur:List ah,o=0∧Lo=[(b,.cells cur.toArray e (0,0))]∧n*sz<=cur.length∧∀ j v,bV e sz (.slice (some ⟨b,0,none⟩) n cap) n (xs.set j v) [(b,.cells (cur.set j v).toArray e (0,0))]:=by
 rcases h.2 with ⟨h1,_⟩|⟨b',cap',cur',h1,h2,h3,h4,h5,h6⟩
 ·cases h1
 ·cases h1
  refine ⟨cur'.toList,O,h2,?_,fun j v=>⟨by rw [List.length_set];exact h.1,.inr ⟨b,cap,_,O,O,h3,h4,by simpa using h5,?_⟩⟩⟩
  ·rw [uZ,h5];exact Nat.mul_le_mul_right _ h3
  ·rw [List.toList_toArray,<- h6,List.take_set]
theorem bT.aBJ {G:GH} {sz:Nat} {rows:List (List Dat)} {q:List Dat} {xs:List ah} (h:bT G sz (rows++[q]) xs):∃ x0 cs,xs=x0++cs∧bT G sz rows x0∧aX G q cs∧cs.length=sz∧x0.length=rows.length*sz:=by
 obtain ⟨css,rfl,h2,h3⟩:=h
 rw [iK,List.length_singleton] at h2
 have hne:css≠[]:=fun e=>by rw [e] at h2;simp at h2
 have e:css=css.dropLast++[css.getLast hne]:=(List.dropLast_concat_getLast hne).symm
 have hdl:css.dropLast.length=rows.length:=by rw [List.length_dropLast];omega
 generalize css.dropLast=c0 at e hdl
 generalize css.getLast hne=cl at e
 subst e
 have h4:∀ (j:Nat) (r:List Dat) (cs:List ah),rows[j]?=some r->c0[j]?=some cs->aX G r cs∧cs.length=sz:=fun j r cs hr hc=>h3 j r cs (by rw [sZ (ji.1 hr).1];exact hr) (by rw [sZ (ji.1 hc).1];exact hc)
 have h5:=h3 rows.length q cl (by rw [qj (fD _),Nat.sub_self];rfl) (by rw [qj V,hdl,Nat.sub_self];rfl)
 refine ⟨c0.flatten,cl,by simp,⟨c0,O,hdl,h4⟩,h5.1,h5.2,?_⟩
 have h6:∀ (c:List (List ah)) (rs:List (List Dat)),c.length=rs.length->(∀ (j:Nat) (r:List Dat) (cs:List ah),rs[j]?=some r->c[j]?=some cs->aX G r cs∧cs.length=sz)->c.flatten.length=rs.length*sz:=by
  intro c
  induction c with
  | nil=>intro rs h _;cases rs with
   | nil=>simp
   | cons r rs=>simp at h
  | cons x c ih =>
   intro rs h hh
   cases rs with
   | nil=>simp at h
   | cons r rs =>
    have e1:=(hh 0 r x O O).2
    have e2:=ih rs (by simpa using h) fun j r' cs hr hc=>hh (j+1) r' cs (by simpa using hr) (by simpa using hc)
    rw [List.flatten_cons,iK,e1,e2,lD,Nat.succ_mul,Nat.add_comm]
 exact h6 c0 rows hdl h4
theorem ail (A B:OL) (x:Nat × Obj):(A++(B++[x]))[A.length+B.length]?=some x:=by
 rw [qj V,Gq,qj (fD _),Nat.sub_self];rfl
theorem akD (A B:OL) (x y:Nat × Obj):(A++(B++[x])).set (A.length+B.length) y=A++(B++[y]):=by
 rw [List.set_append_right _ _ V,Gq,List.set_append_right _ _ (fD _),Nat.sub_self];rfl
end
def qo (z y:ak):ak:=.mk z.kind z.code z.id (z.text++y.text) z.head z.flow z.rows
def wF (y:ak):Prop:=(y.kind=7∧y.rows.length=0)∨(y.kind=1∧y.text.size=0)
def xR (z y:ak):Prop:=y.kind=1∧z.kind=1∧z.head=y.head
instance (y:ak):Decidable (wF y):=inferInstanceAs (Decidable (_∨_))
instance (z y:ak):Decidable (xR z y):=inferInstanceAs (Decidable (_∧_∧_))
def addN (out:List ak) (y:ak):List ak :=
 if wF y then out else match out.getLast? with
  | none=>out++[y]
  | some z=>if xR z y then out.dropLast++[qo z y] else out++[y]
theorem UA {out:List ak} {y:ak} (h:wF y):addN out y=out:=aH h
theorem Px {out:List ak} {y:ak} (h:¬ wF y) (hj:∀ o z,out=o++[z]->¬ xR z y):addN out y=out++[y]:=by
 unfold addN
 rw [ay h]
 split
 ·rfl
 rename_i z hz
 obtain ⟨o,rfl⟩:=List.getLast?_eq_some_iff.1 hz;rw [ay (hj o z O)]
theorem Pw {o:List ak} {z y:ak} (h:¬ wF y) (hj:xR z y):addN (o++[z]) y=o++[qo z y]:=by
 unfold addN
 rw [ay h,List.getLast?_concat];dsimp only;rw [aH hj,List.dropLast_concat]
theorem aaJ (out:List ak) (y:ak):addN out y=out∨addN out y=out++[y]∨∃ o z,out=o++[z]∧z.kind=1∧y.kind=1∧addN out y=o++[qo z y]:=by
 by_cases h:wF y
 ·exact .inl (UA h)
 by_cases hj:∃ o z,out=o++[z]∧xR z y
 ·obtain ⟨o,z,rfl,hj⟩:=hj;exact .inr (.inr ⟨o,z,O,hj.2.1,hj.1,Pw h hj⟩)
 exact .inr (.inl (Px h fun o z e hz=>hj ⟨o,z,e,hz⟩))
mutual
/-- What becomes of an item in a normal form, of rows, of cells. -/
def nI:ak->ak
 | .mk k c i t h f r=>.mk k c i t h ((pX f).foldl addN []) (tN r)
def pX:List ak->List ak
 | []=>[]
 | x :: l=>nI x :: pX l
def nR:aM->aM
 | .mk h c=>.mk h (tL c)
def tN:List aM->List aM
 | []=>[]
 | x :: l=>nR x :: tN l
def nC:aN->aN
 | .mk i h f=>.mk i h ((pX f).foldl addN [])
def tL:List aN->List aN
 | []=>[]
 | x :: l=>nC x :: tL l
end
theorem R5:∀ l:List ak,pX l=l.map nI
 | []=>by simp [pX]
 | x :: l=>by simp [pX,R5 l]
theorem R6:∀ l:List aM,tN l=l.map nR
 | []=>by simp [tN]
 | x :: l=>by simp [tN,R6 l]
theorem YV:∀ l:List aN,tL l=l.map nC
 | []=>by simp [tL]
 | x :: l=>by simp [tL,YV l]
def uK (l:List ak) (k:Nat):List ak:=((l.take k).map nI).foldl addN []
def iy (l:List ak):List ak:=uK l l.length
theorem YX (x:ak):nI x=.mk x.kind x.code x.id x.text x.head (iy x.flow) (x.rows.map nR):=by
 cases x;rw [nI,R5,R6];simp [iy,uK,ak.kind,ak.code,ak.id,ak.text,ak.head,ak.flow,ak.rows]
theorem aiV (x:aM):nR x=.mk x.head (x.cells.map nC):=by cases x;rw [nR,YV];rfl
theorem ayr (x:aN):nC x=.mk x.id x.head (iy x.flow):=by cases x;rw [nC,R5];simp [iy,uK,aN.id,aN.head,aN.flow]
theorem ajx {l:List ak} {k:Nat} (h:k < l.length):uK l (k+1)=addN (uK l k) (nI l[k]):=by
 unfold uK;rw [jk h,jM,List.foldl_append];rfl
theorem aCa (out:List ak) (y:ak):mo (addN out y)<=mo out+(y.text.size+1):=by
 rcases aaJ out y with e|e|⟨o,z,rfl,-,-,e⟩ <;> rw [e]
 ·omega
 ·rw [IJ];simp [mo]
 rw [IJ,IJ];have:(qo z y).text.size=z.text.size+y.text.size:=ByteArray.size_append
 simp only [mo,this];omega
theorem Y8 {l:List ak}:∀ {k:Nat},k<=l.length->mo (uK l k)<=mo (l.take k)
 | 0,_=>by simp [uK,mo]
 | k+1,h=>by
  have ih:=Y8 (l:=l) (k:=k) V;have h1:=aCa (uK l k) (nI l[k])
  have h2:(nI l[k]).text=l[k].text:=by rw [YX];rfl
  rw [h2] at h1;rw [ajx V,jk V,IJ]
  simp only [mo];omega
theorem aze {l:List ak} {k:Nat} (h:k<=l.length):(uK l k).length<=mo l:=by
 have h1:=Od (uK l k);have h2:=Y8 h;have h3:=ZU l k
 omega
mutual
/-- Tables whose rows all have cells. -/
def El:ak->Prop
 | .mk _ _ _ _ _ f r=>lq f∧xS r
def lq:List ak->Prop
 | []=>True
 | x :: l=>El x∧lq l
def CG:aM->Prop
 | .mk _ c=>c≠[]∧BH c
def xS:List aM->Prop
 | []=>True
 | x :: l=>CG x∧xS l
def CF:aN->Prop
 | .mk _ _ f=>lq f
def BH:List aN->Prop
 | []=>True
 | x :: l=>CF x∧BH l
end
theorem Oj:∀ {l:List ak},lq l->∀ x∈l,El x
 | [],_,_,h=>by cases h
 | y :: l,h,x,hx=>by
  rw [lq] at h
  rcases iD.1 hx with rfl|hx
  ·exact h.1
  exact Oj h.2 x hx
theorem Y0:∀ {l:List ak},(∀ x∈l,El x)->lq l
 | [],_=>by rw [lq];trivial
 | y :: l,h=>by rw [lq];exact ⟨h y eT,Y0 fun x hx=>h x (gH _ hx)⟩
theorem Y1:∀ {l:List aM},xS l->∀ x∈l,CG x
 | [],_,_,h=>by cases h
 | y :: l,h,x,hx=>by
  rw [xS] at h
  rcases iD.1 hx with rfl|hx
  ·exact h.1
  exact Y1 h.2 x hx
theorem ajb:∀ {l:List aN},BH l->∀ x∈l,CF x
 | [],_,_,h=>by cases h
 | y :: l,h,x,hx=>by
  rw [BH] at h
  rcases iD.1 hx with rfl|hx
  ·exact h.1
  exact ajb h.2 x hx
theorem ayB (x:ak):El x=(lq x.flow∧xS x.rows):=by cases x;rw [El];rfl
theorem aje (x:aM):CG x=(x.cells≠[]∧BH x.cells):=by cases x;rw [CG];rfl
theorem ayA (x:aN):CF x=lq x.flow:=by cases x;rw [CF];rfl
theorem JL:aW 74:=aY func74 O
theorem aeP:aW 162:=aY func162 O
theorem aqm:aW 164:=aY func164 O
theorem aqT:aW 218:=aY func218 O
theorem aql:aW 163:=aY func163 O
theorem ayV {G:GH} (r:aM):uW (.func (.func 164) #[] #[]) G r.dat (decide (r.cells.length=0)):=by
 intro G1 w0 cs hm hG hr;refine kG (caps:=[]) aqm ?_;obtain ⟨pA,pn,pc,dA,dn,dc,yA,yn,yc,fA,fn,fc,rfl,-,hf⟩:=hr.row;have hn:=hf.len;rw [bR] at hn;subst hn;refine eN [(0,_)] func164 O ntmps164 O O hG ?_;intro a H;refine dH (fun _ K1=>?_);refine eB (cs:=[_,_,_,_,_,_]) H wn O O O ?_;clear H;intro b1 a w hb1 H;exact kH H (au K1 O (SR fun _ K2=>aU uy rM 0 O O (Rl kQ O (Rc O (au K2 O (LR results164 O fun H=>H.rt (iq (decide_eq_decide.2 V))))))))
theorem abE {p:Prop} (h:p:=by
 exact kP H (SR fun _ K5=>Rm O (au K5 O (LR results162 O fun H=>H.rt (hv.mono tH))))):p:=h
theorem apw (G:GH) (w0:World) (hG:Hold G w0) (l:List aM) (v:ah) (hv:av G (.sl 6 (l.map aM.dat)) v) (hne:∀ r∈l,r.cells≠[]) :
  Calls prog 162 #[v,.func (.func 164) #[] #[]] w0 (bG w0 G fun u G'=>av G' (.sl 6 (l.map aM.dat)) u):=by
 obtain ⟨A,n,c,rfl⟩:=hv.form
 have hno:l.findIdx? (fun r=>decide (r.cells.length=0))=none:=by
  rw [List.findIdx?_eq_none_iff];intro r hr;exact oP fun h=>hne r hr (List.length_eq_zero_iff.1 h)
 refine eN [(0,_),(1,_)] func162 O ntmps162 O O hG ?_;intro a H;refine kP H (SR fun _ K1=>au K1 O (SR fun _ K2=>Rm O (Rm O ?_)));clear H K1;intro a H;refine s_call aeR H wn O (air _ _ H.ro l (fun r=>decide (r.cells.length=0)) _ _ hv (fun r _=>ayV r)) O ?_;clear H;rintro v10 tZ a w rfl tH H;rw [hno] at H;refine kH H (au K2 O (SQ fun _ K3=>SR fun _ K4=>Rm O (Rc O (Kz K4 (Cd O ?_ ?_))))) <;> clear H K2 K4
 ·intro h12 a H
  exact abE
 intro h12 a H
 try have pq:=dF h12
 exact absurd O pq
def Gm (n:Nat):Prop:=∀ (G:GH) (w0:World),Hold G w0->∀ (l:List ak) (v:ah),av G (.sl 11 (l.map ak.dat)) v->lq l->aP l < n ->
 Calls prog 74 #[v] w0 (bG w0 G fun u G'=>av G' (.sl 11 ((iy l).map ak.dat)) u)
theorem ayQ {n:Nat} (ih:Gm n) (hn:n<=4294967296) (G:GH) (w0:World) (hG:Hold G w0) (x:aN) (cs:List ah) (hv:aX G x.dat cs) (hne:CF x) (hz:bY x.dat < n+1) :
  Calls prog 218 #[.agg cs.toArray] w0 (bG w0 G fun u G'=>∃ cs',u=.agg cs'.toArray∧aX G' (nC x).dat cs'):=by
 have he:=Ar x;obtain ⟨pA,pn,pc,dA,dn,dc,yA,yn,yc,fA,fn,fc,rfl,hh,hf⟩:=hv.cell;rw [ayA] at hne;refine eN [(0,_)] func218 O ntmps218 O O hG ?_;intro a H;refine dH (fun _ K1=>?_);refine eB (cs:=[_,_,_,_,_,_,_]) H wn O O O ?_;clear H;intro b1 a w hb1 H;refine dR iN H wn O ?_;clear H;intro b2 a w hb2 H;refine K1 _ _ ?_;clear K1;refine bP (fun _ K2=>?_)
 have gK:wu (fun (dK:Nat) (v:ah) (G:GH)=>match dK with|0=>v=(aJ b1 0)|1=>v=vi x.id|2=>v=(aJ b1 1)|3=>v=.agg #[.slice pA pn pc,vi x.head.marks.ins,vi x.head.marks.move,.slice dA dn dc,.slice yA yn yc]|4=>∃ p d l,v=.agg #[p,vi x.head.marks.ins,vi x.head.marks.move,d,l]∧jI G x.head p d l|5=>v=(aJ b1 6)|6=>v=.slice fA fn fc|7=>av G (.sl 11 ((iy x.flow).map ak.dat)) v|_=>True):=by intro dK v G G' hm h;(iterate 10 (rcases dK with _|dK;(first|exact h|exact let ⟨p,d,l,h1,h2⟩:=h;⟨p,d,l,h1,h2.mono hm⟩|exact av.mono hm h)));exact trivial
 refine xC (hmx) [[],[0],[],[2],[2,3],[],[5],ra 2 5,ra 0 8,ra 0 9] [8,9] Z Z _ gK H ?_ ?_
 ·clear H;refine aC ?_ ?_ ?_ ?_ (aC ?_ ?_ ?_ ?_ (bK (bQ O) (bK (bQ O) dG)))
  ·refine dB [] O trivial Z gK O O ?_;exact P7
  ·exact adj
  ·exact adn
  ·exact acF
  ·exact acN
  ·refine dB [] O trivial Z gK O O ?_;exact P6
  ·exact ads
  refine dB [(6,9,_)] O ⟨fun _ _ h=>h,aB⟩ Z gK O O ?_;intro bC a w G1 hG HT H fin;refine s_call JL H wn O (ih _ _ H.ro x.flow _ (hf.mono hG) hne V) O ?_;exact VG
 clear H;intro a w G jA H hv;have H:=H.aQ (hv 1 4 O O) O;obtain ⟨u7,Yd,H9⟩:=hv 4 7 Q1 O;(try dsimp only at H9);obtain ⟨p7,d7,l7,rfl,Ec⟩:=H9;obtain ⟨a1,a2,a3,rfl⟩:=Ec.props.form;obtain ⟨a4,a5,a6,rfl⟩:=Ec.dJ.form;obtain ⟨a7,a8,a9,rfl⟩:=Ec.layers.form;have H:=H.fV Yd;obtain ⟨u10,NY,za⟩:=hv 7 10 Q1 O;(try dsimp only at za);obtain ⟨A10,n10,c10,rfl⟩:=za.form;have H:=H.fV NY;clear hv;refine kg akR [_,_,_,_,_,_,_] H wn O O O O ?_;clear H;intro a H;refine bM iN 0 (vs:=[_,_,_,_,_,_,_]) H wn O ?_;clear H;intro w H;refine aF ⟨O,?_⟩;refine K2 _ _ ?_;clear K2;refine gu ?_;refine (leave1 H results218 (.cons (vX iN (cs:=[_,_,_,_,_,_,_]) H O O (H.hp.dD 0 O O)) .nil) ?_).1;exact H.rt ⟨_,O,by rw [ayr];exact aX.RY (x:=.mk x.id x.head (iy x.flow)) Ec za⟩
theorem ayR {n:Nat} (ih:Gm n) (hn:n<=4294967296) {G:GH} {w0:World} (x:aN) (hne:CF x) (hz:bY x.dat < n+1):Dh (.func (.func 218) #[] #[]) w0 G x.dat (nC x).dat:=by
 intro G1 w1 cs hm1 hG1 hr;have h:=ayQ ih hn _ _ hG1 x cs hr hne hz;have h2:=kG (P:=prog) (caps:=[]) (args:=[.agg cs.toArray]) aqT h;exact h2
theorem ayS {n:Nat} (ih:Gm n) (hn:n<=4294967296) (G:GH) (w0:World) (hG:Hold G w0) (x:aM) (cs:List ah) (hv:aX G x.dat cs) (hne:CG x) (hz:bY x.dat < n+1) :
  Calls prog 163 #[.agg cs.toArray] w0 (bG w0 G fun u G'=>∃ cs',u=.agg cs'.toArray∧aX G' (nR x).dat cs'):=by
 have he:=Av x;have hl:=FZ x.cells;obtain ⟨pA,pn,pc,dA,dn,dc,yA,yn,yc,fA,fn,fc,rfl,hh,hf⟩:=hv.row;rw [aje] at hne;refine eN [(0,_)] func163 O ntmps163 O O hG ?_;intro a H;refine dH (fun _ K1=>?_);refine eB (cs:=[_,_,_,_,_,_]) H wn O O O ?_;clear H;intro b1 a w hb1 H;refine dR ig H wn O ?_;clear H;intro b2 a w hb2 H;refine K1 _ _ ?_;clear K1;refine bP (fun _ K2=>?_)
 have gK:wu (fun (dK:Nat) (v:ah) (G:GH)=>match dK with|0=>v=(aJ b1 0)|1=>v=.agg #[.slice pA pn pc,vi x.head.marks.ins,vi x.head.marks.move,.slice dA dn dc,.slice yA yn yc]|2=>∃ p d l,v=.agg #[p,vi x.head.marks.ins,vi x.head.marks.move,d,l]∧jI G x.head p d l|3=>v=(aJ b1 5)|4=>v=.slice fA fn fc|5=>av G (.sl 7 (x.cells.map fun y=>(nC y).dat)) v|_=>True):=by intro dK v G G' hm h;(iterate 8 (rcases dK with _|dK;(first|exact h|exact let ⟨p,d,l,h1,h2⟩:=h;⟨p,d,l,h1,h2.mono hm⟩|exact av.mono hm h)));exact trivial
 refine xC (hmx) [[],[0],[0,1],[],[3],ra 0 5,ra 0 6,ra 0 7] [6,7] Z Z _ gK H ?_ ?_
 ·clear H;refine aC ?_ ?_ ?_ ?_ (aC ?_ ?_ (bQ O) (bQ O) dG)
  ·exact ado
  ·exact Vi
  ·exact Vm
  ·refine dB [] O trivial Z gK O O ?_;exact MF
  ·exact adt
  refine dB [(4,7,_)] O ⟨fun _ _ h=>h,aB⟩ Z gK O O ?_;intro bC a w G1 hG HT H fin;refine s_call aeX H wn O (aeB nC _ _ H.ro x.cells _ _ (hf.mono hG) V (fun y hy=>ayR ih hn y (ajb hne.2 y hy) (by have:=alX hy;omega))) rfl ?_;exact U3
 clear H;intro a w G jA H hv;obtain ⟨u5,Ic,vM⟩:=hv 2 5 Q1 O;(try dsimp only at vM);obtain ⟨p5,d5,l5,rfl,xL⟩:=vM;obtain ⟨a1,a2,a3,rfl⟩:=xL.props.form;obtain ⟨a4,a5,a6,rfl⟩:=xL.dJ.form;obtain ⟨a7,a8,a9,rfl⟩:=xL.layers.form;have H:=H.fV Ic;obtain ⟨u8,Bz,oW⟩:=hv 5 8 Q1 O;(try dsimp only at oW);obtain ⟨A8,n8,c8,rfl⟩:=oW.form;have H:=H.fV Bz;clear hv;refine kg akQ [_,_,_,_,_,_] H wn O O O O ?_;clear H;intro a H;refine bM ig 0 (vs:=[_,_,_,_,_,_]) H wn O ?_;clear H;intro w H;refine aF ⟨O,?_⟩;refine K2 _ _ ?_;clear K2;refine gu ?_;refine (leave1 H results163 (.cons (vX ig (cs:=[_,_,_,_,_,_]) H O O (H.hp.dD 0 O O)) .nil) ?_).1;exact H.rt ⟨_,O,by rw [aiV];exact aX.RZ (x:=.mk x.head (x.cells.map nC)) xL (by show av _ (.sl 7 ((x.cells.map nC).map aN.dat)) _;rw [List.map_map];exact oW)⟩
theorem ayT {n:Nat} (ih:Gm n) (hn:n<=4294967296) {G:GH} {w0:World} (x:aM) (hne:CG x) (hz:bY x.dat < n+1):Dh (.func (.func 163) #[] #[]) w0 G x.dat (nR x).dat:=by
 intro G1 w1 cs hm1 hG1 hr;have h:=ayS ih hn _ _ hG1 x cs hr hne hz;have h2:=kG (P:=prog) (caps:=[]) (args:=[.agg cs.toArray]) aql h;exact h2
theorem joined {G:GH} {o:List ak} {z y:ak} {x0:List ah} {s p d q f r:ah} (hc:bT G 11 (o.map ak.dat) x0) (hl:x0.length=o.length*11) (hh:jI G z.head p d q) (hf:av G (.sl 11 (z.flow.map ak.dat)) f) (hr:av G (.sl 6 (z.rows.map aM.dat)) r) (hs:s=.string (z.text++y.text)) :
  bT G 11 ((o++[qo z y]).map ak.dat) ((x0++[vi z.kind,vi z.code,vi z.id,.string z.text,p,vi z.head.marks.ins,vi z.head.marks.move,d,q,f,r]).set (((o++[z]).length - 1)*11+3) s):=by
 rw [jM,iK,List.length_singleton,Nat.add_sub_cancel,List.set_append_right _ _ V,hl,Gq];refine hc.snoc ?_ O;rw [hs];exact aX.mkItem (x:=qo z y) hh hf hr
theorem Qi {s:ByteArray} {k:Int} {n:Nat} (hk:k=1):(s.toList == (⟨#[]⟩:ByteArray).toList)=true↔(k=7∧n=0)∨(k=1∧s.size=0):=by
 rw [beq_iff_eq,ByteArray.toList_eq,ByteArray.toList_eq]
 constructor
 ·intro h;refine .inr ⟨hk,?_⟩;have:=dh List.length h
  simpa using this
 rintro (⟨h,-⟩|⟨-,h⟩)
 ·omega
 have:s.data.toList.length=0:=by simpa using h
 rw [List.length_eq_zero_iff.1 this]
theorem abF {p:Prop} (h:p:=by
 exact fin H iJ (by show _=_;first|rfl|exact dh (fun A=>Value.slice A out.length vc) (hvA c2))):p:=h
theorem Ms {p:Prop} (h:p:=by
 first
  | exact absurd ((aG c4).symm.trans h) Q1
  | (rw [hos]
     refine Px hnd fun o2 z2 e2 hj=>?_;rw [xR,hyk,hyh] at hj;obtain ⟨j1,j2,j3⟩:=hj
     first
       | exact c1 j1
       | (have c2':0 < (out.length:Int):=by rw [e2,iK,List.length_singleton];omega
          obtain ⟨o,z,_,_,_,e,_,epk,_⟩:=ze c2';obtain ⟨-,ez⟩:=List.append_inj' (e2.symm.trans e) O
          injection ez with ez
          subst ez
          first
            | exact c2 c2'
            | exact c3 (by rw [epk];exact j2)
            | exact c4 (by rw [epk];exact j3)))):p:=h
theorem Mv {p:Prop} (h:p:=by
 refine eU 9 62 7 60 O O fun _ a w G1 hG HT H fin=>?_;refine BN _ H (wg H O O (aG c2)) O O O V V O ?_;clear H;intro a H;exact UL):p:=h
theorem acL {p:Prop} (h:p:=by
 refine eU 21 74 16 69 O O fun _ a w G1 hG HT H fin=>?_;obtain ⟨_,_,_,_,_,_,rfl,_,_,_,_,_,_,_,_,hx⟩:=ze c2
 refine bq nT (cs:=[pp,vi pk.1.marks.ins,vi pk.1.marks.move,pd,pl]) H (wg H O O (aG c3)) O O (fun j u hj=>hrw.at H.hp (fun x hx=>gH _ hx) (by
     rw [fO,Nat.add_assoc];refine hx (4+j) u ?_
     match j,hj with
     | 0,hj=>exact hj
     | 1,hj=>exact hj
     | 2,hj=>exact hj
     | 3,hj=>exact hj
     | 4,hj=>exact hj)) O ?_;clear H;intro a H
 exact GD):p:=h
theorem acM {p:Prop} (h:p:=by
 refine uh 22 75 24 77 16 69 O O fun _ a w G1 hG HT H fin=>?_;refine s_call M0 H (wg H O O (aG c3)) O (M5 _ _ H.ro pk.1 l[k].head _ _ _ _ _ _ (by obtain ⟨_,_,_,_,_,_,_,e,_,_,_,_,hh,_⟩:=ze c2;rw [e];exact hh.mono hG) (Br.mono fun b o h=>hG b o (wN b o (vK b o (nM b o h))))) O ?_;clear H;rintro v78 G78 a w rfl Xo H;exact fin H Xo (rfl)):p:=h
theorem Vy {p:Prop} (h:p:=by
 refine gX 7 60 O O fun _ a w G1 hG HT H fin=>?_;refine kH H (YM (aG c2) O ?_);clear H;intro a H;exact abF):p:=h
theorem adA {p:Prop} (h:p:=by
 refine gX 16 69 O O fun _ a w G1 hG HT H fin=>?_;refine kH H (YM (aG c3) O ?_);clear H;intro a H;exact abF):p:=h
theorem U7 {p:Prop} (h:p:=by
 refine eU 12 65 7 60 O O fun _ a w G1 hG HT H fin=>?_;obtain ⟨_,_,_,_,_,_,rfl,_,_,_,_,_,_,_,_,hx⟩:=ze c2;refine tQ aD H (wg H O O (aG c2)) O (hrw.at H.hp (fun x hx=>gH _ hx) (by rw [fO];exact hx 0 _ O)) O ?_;exact iX):p:=h
theorem Va {p:Prop} (h:p:=by
 refine eU 23 76 16 69 O O fun _ a w G1 hG HT H fin=>?_;refine bq nT (cs:=[_,_,_,_,_]) H (wg H O O (aG c3)) O O (H.hp.dD 0 O O) O ?_;exact iX):p:=h
theorem Vj {p:Prop} (h:p:=by
 refine eU 18 71 16 69 O O fun _ a w G1 hG HT H fin=>?_;exact U9):p:=h
set_option maxHeartbeats 4000000 in
theorem ayU {n:Nat} (ih:Gm n) (hn:n<=1073741824):Gm (n+1):=by
  intro G w0 hG l v hv hne hz;obtain ⟨A,c,rfl,hc1,hc2,hg⟩:=hv.slice
  have hml:4294967297<=maxLen:=by decide
  have htl:mo l<=aP l:=Tg l;have hll:l.length<=mo l:=Od l;rw [bR] at *;refine eN [(0,_)] func74 O ntmps74 O O hG ?_;intro a H;refine kP H (SR fun _ K1=>au K1 O (SR fun _ K2=>au K2 O (SQ fun _ K3=>SR fun _ K4=>Rm O (Rl eH O (Rm O (Kz K4 (SB ?_)))))));clear H K1 K2 K4;intro a H;skip;refine eO (ι:=Nat × ah × List ah × OL × GH) (Tc:=[(7,_),(8,_)]) (Lc:=[]) (fun gh=>[(3,gh.2.1),(9,vi gh.1)]) (fun gh=>[]++gh.2.2.2.1) (fun gh=>gh.2.2.2.2) (fun gh=>gh.1<=l.length∧bV 128 11 gh.2.1 (uK l gh.1).length gh.2.2.1 gh.2.2.2.1∧bT gh.2.2.2.2 11 ((uK l gh.1).map ak.dat) gh.2.2.1∧(∀ b o,G b=some o->gh.2.2.2.2 b=some o)) (fun gh=>l.length - gh.1) ((0,.slice none 0 0,[],[],G)) (by exact H.sub ⟨O,O,O,O,aB⟩) ?_ ?_
  · exact ⟨V,bV.nil,bT.nil,fun _ _ h=>h⟩
  clear H;rintro ⟨k,v,xs,Lo,g⟩ a w hI H;dsimp only at hI H;obtain ⟨hk,hrw,fZ,hgm⟩:=hI;have hol:=aze hk;obtain ⟨out,hout⟩:∃ o,o=uK l k:=⟨_,O⟩;rw [<- hout] at hrw fZ hol;dsimp only [lca,bD] at H;refine kP H (SR fun _ K5=>Rc O (Kz K5 (SQ fun _ K6=>Cd O ?_ ?_))) <;> clear H K5
  · intro h10 a H
    try have kN:=dT h10
    have hk2:k < l.length:=by omega
    have hos:=ajx hk2;have hot:=Y8 (l:=l) (k:=k) V;have htt:=ZU l (k+1);rw [jk hk2,IJ] at htt
    simp only [mo] at htt
    rw [<- hout] at hos hot;obtain ⟨vA,vc,rfl,-,-⟩:=hrw.shape;obtain ⟨b,o,pA,pn,pc,dA,dn,dc,yA,yn,yc,fA,fn,fc,rA,rn,rc,rfl,hrow,hhd,hfl,hrs⟩:=zT hk2 hg;replace hrow:=fun j u hj=>aK hgm (hrow j u hj);have hnx:=Oj hne _ (jl hk2);rw [ayB] at hnx;obtain ⟨hnf,hnr⟩:=hnx;have hzi:=IW hk2;have Ih:=pG l[k];have hrl:=F4 l[k].rows
    have awq:∀ r∈l[k].rows.map nR,r.cells≠[]:=fun r hr=>by
      obtain ⟨x,hx,rfl⟩:=List.mem_map.1 hr;have h1:=Y1 hnr x hx;rw [aje] at h1;rw [aiV];exact fun e=>h1.1 (List.map_eq_nil_iff.1 e)
    refine kP H (Kc K6 (SQ fun _ K7=>SB (SR fun _ K8=>Ri eH cO O O ?_)));clear H K6;intro a H;refine bq cO (cs:=[_,_,_,_,_,_,_,_,_,_,_]) H wn O O (fun j v hj=>H.hp.aI (hrow j v hj)) O ?_;clear H;intro a H;refine dR cO H wn O ?_;clear H;intro b5 a w hb5 H;refine bM cO 0 (vs:=[_,_,_,_,_,_,_,_,_,_,_]) H wn O ?_;clear H;intro w H;refine K8 _ _ ?_;clear K8;refine kP H (SR fun _ K9=>Rf uq O ?_);clear H;intro a H;refine bq nT (cs:=[_,_,_,_,_]) H wn O O (H.hp.dD 0 O O) O ?_;clear H;intro a H;refine s_call MZ H wn O (MN _ _ H.ro _ _ _ _ _ _ _ _ _ _ (hhd.mono hgm) V) O ?_;clear H;rintro v15 EB a w ⟨uL,d15,l15,rfl,Br⟩ tJ H;obtain ⟨a1,a2,a3,rfl⟩:=Br.props.form;obtain ⟨a4,a5,a6,rfl⟩:=Br.dJ.form;obtain ⟨a7,a8,a9,rfl⟩:=Br.layers.form;refine kH H (Rf uq O ?_);clear H;intro a H;refine bM nT 0 (vs:=[_,_,_,_,_]) H wn O ?_;clear H;intro w H;refine K9 _ _ ?_;clear K9;refine kP H (SR fun _ aT=>aU uw fC 0 O O ?_);clear H;intro a H;refine s_call JL H wn O (ih _ _ H.ro l[k].flow _ (hfl.mono fun b o h=>tJ b o (hgm b o h)) hnf V) O ?_;clear H;rintro v19 F8 a w NM nM H;obtain ⟨Ez,n19,c19,rfl⟩:=NM.form;refine kH H (Rf uw O ?_);clear H;intro a H;refine bM fC 0 (vs:=[_]) H wn O ?_;clear H;intro w H;refine aT _ _ ?_;clear aT;refine kP H (SR fun _ bJ=>aU pR oq 0 O O ?_);clear H;intro a H;refine s_call Wi H wn O (aeC nR _ _ H.ro l[k].rows _ _ (hrs.mono fun b o h=>nM b o (tJ b o (hgm b o h))) V (fun x hx=>ayT ih V x (Y1 hnr x hx) (by have:=amc hx;omega))) rfl ?_;clear H;rintro v23 O6 a w Kt vK H;rw [show (l[k].rows.map fun x=>(nR x).dat)=(l[k].rows.map nR).map aM.dat by rw [List.map_map];rfl] at Kt;obtain ⟨A23,n23,c23,rfl⟩:=Kt.form;refine s_call aeP H wn O (apw _ _ H.ro (l[k].rows.map nR) _ Kt awq) O ?_;clear H;rintro v24 yu a w Kv wN H;obtain ⟨IZ,n24,c24,rfl⟩:=Kv.form;have ahm:=Kv.len;rw [bR,bR] at ahm;subst ahm;refine kH H (Rf pR O ?_);clear H;intro a H;refine bM oq 0 (vs:=[_]) H wn O ?_;clear H;intro w H;refine bJ _ _ ?_;clear bJ;refine bP (fun _ bO=>?_);obtain ⟨y,hy⟩:∃ y,y=nI l[k]:=⟨_,O⟩;have hye:=hy.trans (YX l[k])
    have hyk:y.kind=l[k].kind:=by rw [hye];rfl
    have N9:y.text=l[k].text:=by rw [hye];rfl
    have hyh:y.head=l[k].head:=by rw [hye];rfl
    have RG:y.rows.length=l[k].rows.length:=by rw [hye];simp [ak.rows]
    rw [<- hy] at hos;obtain ⟨wD,uH⟩:∃ x,x=[vi l[k].kind,vi l[k].code,vi l[k].id,.string l[k].text,.slice a1 a2 a3,vi l[k].head.marks.ins,vi l[k].head.marks.move,.slice a4 a5 a6,.slice a7 a8 a9,.slice Ez n19 c19,.slice IZ l[k].rows.length c24]:=⟨_,O⟩
    have Ef:aX yu y.dat wD:=by
      rw [uH,hye];exact aX.mkItem (x:=.mk l[k].kind l[k].code l[k].id l[k].text l[k].head (iy l[k].flow) (l[k].rows.map nR)) (Br.mono fun b o h=>wN b o (vK b o (nM b o h))) (NM.mono fun b o h=>wN b o (vK b o h)) Kv
    have HY:=fZ.mono fun b o h=>wN b o (vK b o (nM b o (tJ b o h)));have agU:∀ b o,G b=some o->yu b=some o:=fun b o h=>wN b o (vK b o (nM b o (tJ b o (hgm b o h))));refine kP H (SC (Rm O (Rl eH O (aZ bO O (SB ?_)))));clear H bO;intro a H;refine rX (ι:=Bool) (Tc:=[(3,_),(5,_),(6,_),(7,_),(8,_),(9,_)]) (Lc:=[]) (fun gh=>[(32,.bool gh)]) (fun gh=>[(b5,.cells [vi l[k].kind,vi l[k].code,vi l[k].id,.string l[k].text,.slice a1 a2 a3,vi l[k].head.marks.ins,vi l[k].head.marks.move,.slice a4 a5 a6,.slice a7 a8 a9,.slice Ez n19 c19,.slice IZ l[k].rows.length c24].toArray 128 (0,0))]++Lo) (fun gh=>yu) (fun gh=>gh=true↔wF y) (by exact H.sub ⟨O,O,O,O,O,O,aB⟩) ?_ ?_
    · skip;refine kP H (SC (aU iL aD 0 O O (Rc O (Rm O (Sp 36 O ?_ ?_))))) <;> clear H
      · intro oU a H
        try have p36:=dT oU
        refine kH H (YF pR oU O (YO oq 0 oU O (YL jS oU O (YC oU O (Pt oU O (Rm O (Sp 42 O ?_ ?_))))))) <;> clear H
        · intro jy a H
          try have p42:=dT jy
          refine kH H (aR jy O (aR jy O (Ku O (Ku O (Ku O (Ks jy O (Pt jy O (Ra O ?_))))))));clear H;intro a H;refine aF ?_;refine ⟨_,by exact H.sub ⟨O,O,O,O,O,O,O,aB⟩,?_⟩;rw [wF,hyk,RG,N9]
          first
            | exact ⟨fun _=>.inl ⟨p36,V⟩,fun _=>by first|rfl|exact lT p42⟩
            | exact ⟨fun h=>(by cases h),fun h=>(by exfalso;omega)⟩
            | exact Qi p46
            | fail
        intro jy a H
        try have p42:=dF jy
        refine kH H (YF iL jy O (YO aD 0 jy O (YC jy O (YM jy O (Sp 46 O ?_ ?_))))) <;> clear H
        · intro h46 a H
          try have p46:=dT h46
          exfalso;omega
        intro h46 a H
        try have p46:=dF h46
        refine kH H (bg h46 O (PF jy h46 O (Pf jy O (Ra O ?_))));clear H;intro a H;refine aF ?_;refine ⟨_,by exact H.sub ⟨O,O,O,O,O,O,O,aB⟩,?_⟩;rw [wF,hyk,RG,N9]
        first
          | exact ⟨fun _=>.inl ⟨p36,V⟩,fun _=>by first|rfl|exact lT p42⟩
          | exact ⟨fun h=>(by cases h),fun h=>(by exfalso;omega)⟩
          | exact Qi p46
          | fail
      intro oU a H
      try have p36:=dF oU
      refine kH H (aR oU O (aR oU O (Pf oU O (Rm O ?_))));clear H;intro a H;refine CX iL H (wg H O O O) O O ?_;clear H;intro a H;refine tQ aD H (wg H O O O) O (H.hp.tO 0 O O) O ?_;clear H;intro a H;refine IE H (wg H O O O) O O O O ?_;clear H;intro a H;refine FI H (wg H O O O) O O ?_;clear H;intro a H;refine SY H 46 O ?_ ?_
      · intro h46
        try have p46:=dT h46
        refine kH H (YF rC h46 O (YO gV 0 h46 O ?_));clear H;intro a H;refine CW H (wg H O O h46) O O O ?_;clear H;intro a H;refine Le H (wg H O O O) O h46 O O ?_;clear H;intro a H;refine kH H (Pf O O (Ra O ?_));clear H;intro a H;refine aF ?_;refine ⟨_,by exact H.sub ⟨O,O,O,O,O,O,O,aB⟩,?_⟩;rw [wF,hyk,RG,N9]
        first
          | exact ⟨fun _=>.inl ⟨p36,V⟩,fun _=>by first|rfl|exact lT p42⟩
          | exact ⟨fun h=>(by cases h),fun h=>(by exfalso;omega)⟩
          | exact Qi p46
          | fail
      intro h46
      try have p46:=dF h46
      refine kH H (bg h46 O ?_);clear H;intro a H;refine Ov H (wg H O O O) O h46 O O ?_;clear H;intro a H;refine kH H (Pf O O (Ra O ?_));clear H;intro a H;refine aF ?_;refine ⟨_,by exact H.sub ⟨O,O,O,O,O,O,O,aB⟩,?_⟩;rw [wF,hyk,RG,N9]
      first
        | exact ⟨fun _=>.inl ⟨p36,V⟩,fun _=>by first|rfl|exact lT p42⟩
        | exact ⟨fun h=>(by cases h),fun h=>(by exfalso;omega)⟩
        | exact Qi p46
        | fail
    clear H;intro db a w hI H;skip;dsimp only [lca,bD] at H;refine jX H O ?_ ?_
    · intro h32
      try have p32:=dT h32
      have hdp:=hI.1 (by assumption);rw [UA hdp] at hos;refine kP H (Kc K7 (SC (Rd O (Rm O ?_))));clear H K7;intro a H;refine aF ?_;refine dS ((k+1,_,xs,Lo,_)) (by exact (H.dV (Pl:=[_]) (dL:=[]) [] Q1 O).sub ⟨O,O,O,O,aB⟩) ?_
      (try dsimp only);exact ⟨V,by rw [hos];exact hrw,by rw [hos];exact HY,agU⟩
    intro h32
    try have p32:=dF h32
    have hnd:¬ wF y:=fun h=>by have:=hI.2 h;simp_all
    obtain ⟨bo,pk,pt,pp,pd,pl,ze⟩:∃ (bo:Nat) (pk:fH × Int) (pt:ByteArray) (pp pd pl:ah),0 < (out.length:Int)->∃ (o:List ak) (z:ak) (x0:List ah) (f r:ah),out=o++[z]∧vA=some ⟨bo,0,none⟩∧pk=(z.head,z.kind)∧pt=z.text ∧
        xs=x0++[vi z.kind,vi z.code,vi z.id,.string z.text,pp,vi z.head.marks.ins,vi z.head.marks.move,pd,pl,f,r]∧x0.length=o.length*11∧bT yu 11 (o.map ak.dat) x0∧jI yu z.head pp pd pl∧av yu (.sl 11 (z.flow.map ak.dat)) f∧av yu (.sl 6 (z.rows.map aM.dat)) r ∧
        ∀ j u,[vi pk.2,vi z.code,vi z.id,.string pt,pp,vi pk.1.marks.ins,vi pk.1.marks.move,pd,pl][j]?=some u->xs[(out.length - 1)*11+j]?=some u:=by
      by_cases h0:0 < out.length
      · obtain ⟨bo,Xw⟩:=hrw.ptr h0;obtain ⟨o,z,e⟩:∃ o z,out=o++[z]:=⟨_,_,(List.dropLast_concat_getLast (fun e=>by rw [e] at h0;simp at h0)).symm⟩;rw [e,jM] at HY;obtain ⟨x0,cs,hxs,hc0,hrz,hcl,hxl⟩:=HY.aBJ;obtain ⟨qA,qn,qc,sA,sn,sc,tA,tn,tc,GV,He,GX,Zj,SG,Zk,rfl,hh,hf2,hr2⟩:=hrz.item;rw [bR] at hxl;refine ⟨bo,(z.head,z.kind),z.text,.slice qA qn qc,.slice sA sn sc,.slice tA tn tc,fun _=>⟨o,z,x0,_,_,e,Xw,O,O,hxs,hxl,hc0,hh,hf2,hr2,fun j u hj=>?_⟩⟩;rw [hxs,e,iK,List.length_singleton,Nat.add_sub_cancel,qj V,hxl,Gq];rw [<- hj]
        match j,hj with
        | 0,hj=>rfl
        | 1,hj=>rfl
        | 2,hj=>rfl
        | 3,hj=>rfl
        | 4,hj=>rfl
        | 5,hj=>rfl
        | 6,hj=>rfl
        | 7,hj=>rfl
        | 8,hj=>rfl
        | _+9,hj=>simp at hj
      exact ⟨0,(⟨[],⟨0,0,[],[]⟩⟩,0),⟨#[]⟩,.slice none 0 0,.slice none 0 0,.slice none 0 0,fun h=>by omega⟩
    have hvA:0 < (out.length:Int)->vA=some ⟨bo,0,none⟩:=fun h=>by obtain ⟨_,_,_,_,_,_,e,_⟩:=ze h;exact e
    refine rX (ι:=Bool × GH) (Tc:=[(3,_),(5,_),(6,_),(7,_),(8,_),(9,_)]) (Lc:=[]) (fun gh=>[(52,.bool gh.1)]) (fun gh=>[(b5,.cells [vi l[k].kind,vi l[k].code,vi l[k].id,.string l[k].text,.slice a1 a2 a3,vi l[k].head.marks.ins,vi l[k].head.marks.move,.slice a4 a5 a6,.slice a7 a8 a9,.slice Ez n19 c19,.slice IZ l[k].rows.length c24].toArray 128 (0,0))]++Lo) (fun gh=>gh.2) (fun gh=>(gh.1=true->(l[k].kind=1∧0 < (out.length:Int)∧pk.2=1∧pk.1=l[k].head))∧(gh.1=false->uK l (k+1)=out++[y])∧(∀ b o,yu b=some o->gh.2 b=some o)) (by exact H.sub ⟨O,O,O,O,O,O,aB⟩) ?_ ?_
    · skip
      by_cases c1:l[k].kind=1
      · skip
        by_cases c2:0 < (out.length:Int)
        · skip
          by_cases c3:pk.2=1
          · skip
            by_cases c4:pk.1=l[k].head
            · skip;refine dI hmx [[],[0],[0,1],[0,1,2],ra 0 4,ra 0 5,ra 0 6,ra 0 7,ra 0 8,ra 0 8,(ra 0 8++[9]),ra 0 11,ra 0 12,ra 0 13,ra 0 14,ra 0 15,ra 0 16,ra 0 17,ra 0 17,(ra 0 17++[18]),ra 0 20,ra 0 21,ra 0 22,ra 0 17,(ra 0 17++[23]),ra 0 25,ra 0 26,ra 0 27] [] Z [_,vi l[k].kind,_,_,_,_,_,_,.slice (some ⟨bo,0,none⟩) out.length vc,_,vi ((out.length - 1:Nat):Int),_,_,vi pk.2,_,_,_,.slice (some ⟨bo,0,none⟩) out.length vc,_,vi ((out.length - 1:Nat):Int),_,_,vJ pk.1 pp pd pl,_,vJ l[k].head (.slice a1 a2 a3) (.slice a4 a5 a6) (.slice a7 a8 a9),.bool (decide (pk.1=l[k].head)),_,_] H (aC (Z0 O (Rf iL O)) (Z1 0 53 O (Ro aD 0 O)) (Z1 1 54 O (Rc O)) (Z1 2 55 O (Rm O)) (aC (Z1 3 56 O (YM (aG c1) O)) (Z2 4 57 3 56 O (YC (aG c1) O)) (Z2 3 56 5 58 O (Pt (aG c1) O)) (Z1 6 59 O (Rm O)) (aC ?_ (Z1 7 60 O (YM (aG c2) O)) ?_ (Z3 8 61 10 63 7 60 O (YI eH cO (aG c2) O O)) (aC (Z2 11 64 7 60 O (YF iL (aG c2) O)) ?_ (Z2 13 66 7 60 O (YC (aG c2) O)) (Z2 7 60 14 67 O (Pt (aG c2) O)) (aC (Z1 15 68 O (Rm O)) ?_ (Z1 16 69 O (YM (aG c3) O)) ?_ (aC (Z3 17 70 19 72 16 69 O (YI eH cO (aG c3) O O)) (Z2 20 73 16 69 O (YF uq (aG c3) O)) ?_ (Z1 16 69 O (YF uq (aG c3) O)) (aC ?_ ?_ (Z2 16 69 25 78 O (Pt (aG c3) O)) (Z1 26 79 O (Ra O)) dG))))))) ?_
              · exact Vy
              · exact Mv
              · exact U7
              · exact adA
              · exact Vj
              · exact acL
              · exact Va
              · exact acM
              clear H;intro a w G lH H hv;have H:=H.aQ (hv 27 52 O O) O;clear hv;refine aF ⟨O,?_⟩;refine ⟨(_,_),by exact H.sub ⟨O,O,O,O,O,O,O,aB⟩,?_⟩;(try dsimp only);refine ⟨fun h=>by first|exact absurd h Q1|exact ⟨c1,c2,c3,pK h⟩,fun h=>?_,lH⟩
              exact Ms
            skip;refine dI hmx [[],[0],[0,1],[0,1,2],ra 0 4,ra 0 5,ra 0 6,ra 0 7,ra 0 8,ra 0 8,(ra 0 8++[9]),ra 0 11,ra 0 12,ra 0 13,ra 0 14,ra 0 15,ra 0 16,ra 0 17,ra 0 17,(ra 0 17++[18]),ra 0 20,ra 0 21,ra 0 22,ra 0 17,(ra 0 17++[23]),ra 0 25,ra 0 26,ra 0 27] [] Z [_,vi l[k].kind,_,_,_,_,_,_,.slice (some ⟨bo,0,none⟩) out.length vc,_,vi ((out.length - 1:Nat):Int),_,_,vi pk.2,_,_,_,.slice (some ⟨bo,0,none⟩) out.length vc,_,vi ((out.length - 1:Nat):Int),_,_,vJ pk.1 pp pd pl,_,vJ l[k].head (.slice a1 a2 a3) (.slice a4 a5 a6) (.slice a7 a8 a9),.bool (decide (pk.1=l[k].head)),_,_] H (aC (Z0 O (Rf iL O)) (Z1 0 53 O (Ro aD 0 O)) (Z1 1 54 O (Rc O)) (Z1 2 55 O (Rm O)) (aC (Z1 3 56 O (YM (aG c1) O)) (Z2 4 57 3 56 O (YC (aG c1) O)) (Z2 3 56 5 58 O (Pt (aG c1) O)) (Z1 6 59 O (Rm O)) (aC ?_ (Z1 7 60 O (YM (aG c2) O)) ?_ (Z3 8 61 10 63 7 60 O (YI eH cO (aG c2) O O)) (aC (Z2 11 64 7 60 O (YF iL (aG c2) O)) ?_ (Z2 13 66 7 60 O (YC (aG c2) O)) (Z2 7 60 14 67 O (Pt (aG c2) O)) (aC (Z1 15 68 O (Rm O)) ?_ (Z1 16 69 O (YM (aG c3) O)) ?_ (aC (Z3 17 70 19 72 16 69 O (YI eH cO (aG c3) O O)) (Z2 20 73 16 69 O (YF uq (aG c3) O)) ?_ (Z1 16 69 O (YF uq (aG c3) O)) (aC ?_ ?_ (Z2 16 69 25 78 O (Pt (aG c3) O)) (Z1 26 79 O (Ra O)) dG))))))) ?_
            · exact Vy
            · exact Mv
            · exact U7
            · exact adA
            · exact Vj
            · exact acL
            · exact Va
            · exact acM
            clear H;intro a w G lH H hv;have H:=H.aQ (hv 27 52 O O) O;clear hv;refine aF ⟨O,?_⟩;refine ⟨(_,_),by exact H.sub ⟨O,O,O,O,O,O,O,aB⟩,?_⟩;(try dsimp only);refine ⟨fun h=>by first|exact absurd h Q1|exact ⟨c1,c2,c3,pK h⟩,fun h=>?_,lH⟩
            exact Ms
          skip;refine dI hmx [[],[0],[0,1],[0,1,2],ra 0 4,ra 0 5,ra 0 6,ra 0 7,ra 0 8,ra 0 8,(ra 0 8++[9]),ra 0 11,ra 0 12,ra 0 13,ra 0 14,ra 0 15,ra 0 16,ra 0 17,ra 0 17,(ra 0 17++[18]),ra 0 20,ra 0 21,ra 0 22,ra 0 17,(ra 0 17++[23]),ra 0 25,ra 0 26,ra 0 27] [] Z [_,vi l[k].kind,_,_,_,_,_,_,.slice (some ⟨bo,0,none⟩) out.length vc,_,vi ((out.length - 1:Nat):Int),_,_,vi pk.2,_,_,_,undef,undef,undef,undef,undef,undef,undef,undef,undef,_,_] H (aC (Z0 O (Rf iL O)) (Z1 0 53 O (Ro aD 0 O)) (Z1 1 54 O (Rc O)) (Z1 2 55 O (Rm O)) (aC (Z1 3 56 O (YM (aG c1) O)) (Z2 4 57 3 56 O (YC (aG c1) O)) (Z2 3 56 5 58 O (Pt (aG c1) O)) (Z1 6 59 O (Rm O)) (aC ?_ (Z1 7 60 O (YM (aG c2) O)) ?_ (Z3 8 61 10 63 7 60 O (YI eH cO (aG c2) O O)) (aC (Z2 11 64 7 60 O (YF iL (aG c2) O)) ?_ (Z2 13 66 7 60 O (YC (aG c2) O)) (Z2 7 60 14 67 O (Pt (aG c2) O)) (aC (Z1 15 68 O (Rm O)) (aO 16 (aS c3) O O) (aO 16 (aS c3) O O) (aO 16 (aS c3) O O) (aC (aO 16 (aS c3) O O) (aO 16 (aS c3) O O) (aO 16 (aS c3) O O) (aO 16 (aS c3) O O) (aC (aO 16 (aS c3) O O) (aO 16 (aS c3) O O) (Z2 16 69 25 78 O (Pf (aS c3) O)) (Z1 26 79 O (Ra O)) dG))))))) ?_
          · exact Vy
          · exact Mv
          · exact U7
          clear H;intro a w G lH H hv;have H:=H.aQ (hv 27 52 O O) O;clear hv;refine aF ⟨O,?_⟩;refine ⟨(_,_),by exact H.sub ⟨O,O,O,O,O,O,O,aB⟩,?_⟩;(try dsimp only);refine ⟨fun h=>by first|exact absurd h Q1|exact ⟨c1,c2,c3,pK h⟩,fun h=>?_,lH⟩
          exact Ms
        skip;refine dI hmx [[],[0],[0,1],[0,1,2],ra 0 4,ra 0 5,ra 0 6,ra 0 7,ra 0 8,ra 0 8,(ra 0 8++[9]),ra 0 11,ra 0 12,ra 0 13,ra 0 14,ra 0 15,ra 0 16,ra 0 17,ra 0 17,(ra 0 17++[18]),ra 0 20,ra 0 21,ra 0 22,ra 0 17,(ra 0 17++[23]),ra 0 25,ra 0 26,ra 0 27] [] Z [_,vi l[k].kind,_,_,_,_,_,_,undef,undef,undef,undef,undef,undef,undef,_,_,undef,undef,undef,undef,undef,undef,undef,undef,undef,_,_] H (aC (Z0 O (Rf iL O)) (Z1 0 53 O (Ro aD 0 O)) (Z1 1 54 O (Rc O)) (Z1 2 55 O (Rm O)) (aC (Z1 3 56 O (YM (aG c1) O)) (Z2 4 57 3 56 O (YC (aG c1) O)) (Z2 3 56 5 58 O (Pt (aG c1) O)) (Z1 6 59 O (Rm O)) (aC (aO 7 (aS c2) O O) (aO 7 (aS c2) O O) (aO 7 (aS c2) O O) (aO 7 (aS c2) O O) (aC (aO 7 (aS c2) O O) (aO 7 (aS c2) O O) (aO 7 (aS c2) O O) (Z2 7 60 14 67 O (Pf (aS c2) O)) (aC (Z1 15 68 O (Rm O)) (aO 16 O O O) (aO 16 O O O) (aO 16 O O O) (aC (aO 16 O O O) (aO 16 O O O) (aO 16 O O O) (aO 16 O O O) (aC (aO 16 O O O) (aO 16 O O O) (Z2 16 69 25 78 O (Pf O O)) (Z1 26 79 O (Ra O)) dG))))))) ?_
        clear H;intro a w G lH H hv;have H:=H.aQ (hv 27 52 O O) O;clear hv;refine aF ⟨O,?_⟩;refine ⟨(_,_),by exact H.sub ⟨O,O,O,O,O,O,O,aB⟩,?_⟩;(try dsimp only);refine ⟨fun h=>by first|exact absurd h Q1|exact ⟨c1,c2,c3,pK h⟩,fun h=>?_,lH⟩
        exact Ms
      skip;refine dI hmx [[],[0],[0,1],[0,1,2],ra 0 4,ra 0 5,ra 0 6,ra 0 7,ra 0 8,ra 0 8,(ra 0 8++[9]),ra 0 11,ra 0 12,ra 0 13,ra 0 14,ra 0 15,ra 0 16,ra 0 17,ra 0 17,(ra 0 17++[18]),ra 0 20,ra 0 21,ra 0 22,ra 0 17,(ra 0 17++[23]),ra 0 25,ra 0 26,ra 0 27] [] Z [_,vi l[k].kind,_,_,undef,undef,_,_,undef,undef,undef,undef,undef,undef,undef,_,_,undef,undef,undef,undef,undef,undef,undef,undef,undef,_,_] H (aC (Z0 O (Rf iL O)) (Z1 0 53 O (Ro aD 0 O)) (Z1 1 54 O (Rc O)) (Z1 2 55 O (Rm O)) (aC (aO 3 (aS c1) O O) (aO 3 (aS c1) O O) (Z2 3 56 5 58 O (Pf (aS c1) O)) (Z1 6 59 O (Rm O)) (aC (aO 7 O O O) (aO 7 O O O) (aO 7 O O O) (aO 7 O O O) (aC (aO 7 O O O) (aO 7 O O O) (aO 7 O O O) (Z2 7 60 14 67 O (Pf O O)) (aC (Z1 15 68 O (Rm O)) (aO 16 O O O) (aO 16 O O O) (aO 16 O O O) (aC (aO 16 O O O) (aO 16 O O O) (aO 16 O O O) (aO 16 O O O) (aC (aO 16 O O O) (aO 16 O O O) (Z2 16 69 25 78 O (Pf O O)) (Z1 26 79 O (Ra O)) dG))))))) ?_
      clear H;intro a w G lH H hv;have H:=H.aQ (hv 27 52 O O) O;clear hv;refine aF ⟨O,?_⟩;refine ⟨(_,_),by exact H.sub ⟨O,O,O,O,O,O,O,aB⟩,?_⟩;(try dsimp only);refine ⟨fun h=>by first|exact absurd h Q1|exact ⟨c1,c2,c3,pK h⟩,fun h=>?_,lH⟩
      exact Ms
    clear H;rintro ⟨jb,g9⟩ a w hI H;dsimp only at hI H;obtain ⟨hjy,hjn,Cr⟩:=hI;have ava:=HY.mono Cr;have NT:=Ef.mono Cr;have agV:∀ b o,G b=some o->g9 b=some o:=fun b o h=>Cr b o (agU b o h);dsimp only [lca,bD] at H;refine jX H O ?_ ?_
    · intro jP
      try have p52:=dT jP
      obtain ⟨c1,c2,c3,c4⟩:=hjy (by assumption);obtain ⟨oo,z,x0,zf,zr,Ee,rfl,rfl,rfl,hxs,hxl,hc0,hhz,hfz,hrz,hxj⟩:=ze c2
      have hzt:z.text.size<=mo out:=by
        rw [Ee,IJ];simp only [mo];omega
      obtain ⟨cur,-,rfl,hcur,hset⟩:=hrw.set1;refine dI hmx [[],[],[1],[0,1,2],ra 0 4,ra 0 5,[],[6],ra 0 8,ra 0 9,ra 0 10,ra 0 11] [9,10,11] Z [_,_,vi ((out.length - 1:Nat):Int),_,_,.string z.text,_,.string l[k].text,.string (z.text++l[k].text)] H (aC (Z0 O (Rm O)) (Z0 O (Rm O)) ?_ (Z2 0 80 2 82 O (Ri eH cO O O)) (aC (Z1 3 83 O (Rf rC O)) ?_ (Z0 O (Rf rC O)) (Z1 6 86 O (Ro gV 0 O)) (aC ?_ (bQ O) (bQ O) (bQ O) dG))) ?_
      · refine gX 1 81 O O fun _ a w G1 hG HT H fin=>?_;refine kH H (Rs O ?_);exact Qc
      · refine gX 4 84 O O fun _ a w G1 hG HT H fin=>?_;refine tQ gV H wn O (hrw.at H.hp (fun x hx=>gH _ hx) (by rw [fO];exact hxj 3 _ O)) O ?_;exact iX
      · refine eU 5 85 7 87 O O fun _ a w G1 hG HT H fin=>?_;refine aAS H wn O O V O ?_;exact iX
      clear H;intro a w G oV H hv;have H:=H.aQ (hv 0 80 O O) O;have H:=H.aQ (hv 2 82 O O) O;have H:=H.aQ (hv 8 88 O O) O;clear hv;refine kH H (Ri eH cO O O (Rf rC O ?_));clear H;intro a H;refine zy gV 1 (c:=cur) (vs:=[.string (z.text++l[k].text)]) (cur.set ((out.length - 1)*11+3) (.string (z.text++l[k].text))) H wn O O O O O O (by simp;omega) (by rw [fO];rfl) ?_;clear H;intro w H;dsimp only [List.set] at H;have awF:=hset ((out.length - 1)*11+3) (.string (z.text++l[k].text))
      have NI:uK l (k+1)=oo++[qo z y]:=by rw [hos,Ee];exact Pw hnd ⟨by rw [hyk];exact c1,c3,by rw [hyh];exact c4⟩
      refine aF ⟨O,?_⟩;refine K7 _ _ ?_;clear K7;refine kP H (SC (Rd O (Rm O ?_)));clear H;intro a H;refine aF ?_;refine dS ((k+1,_,xs.set ((out.length - 1)*11+3) (.string (z.text++l[k].text)),_,_)) (by exact (H.dV (Pl:=[_]) (dL:=[]) [] Q1 O).sub ⟨O,O,O,O,aB⟩) ?_
      (try dsimp only);exact ⟨V,by rw [NI,show (oo++[qo z y]).length=out.length by rw [Ee];simp];exact awF,by rw [NI,hxs,Ee];exact joined (hc0.mono fun b o h=>oV b o (Cr b o h)) hxl (hhz.mono fun b o h=>oV b o (Cr b o h)) (hfz.mono fun b o h=>oV b o (Cr b o h)) (hrz.mono fun b o h=>oV b o (Cr b o h)) (by rw [N9]),fun b o h=>oV b o (agV b o h)⟩
    intro jP
    try have p52:=dF jP
    have hnx:=hjn (by assumption);refine kP H (SC (Rm O ?_));clear H;intro a H;refine bq cO (cs:=[_,_,_,_,_,_,_,_,_,_,_]) H wn O O (H.hp.dD 0 O O) O ?_;clear H;intro a H;refine iG eH cO [_,_,_,_,_,_,_,_,_,_,_] [_,_,_,_,_,_,_,_,_,_,_] H wn O O O O O (by intro i q h;match i,h with|0,h=>exact h|n+1,h=>simp at h) O O ?_;clear H;intro PL a w QX H;refine mh (Li:=[_,_]) (Lo:=Lo) (news:=wD) eH cO O O H wn O O hrw (by rw [uH];rfl) (by rw [uH];exact H.hp.dD 0 O O) Ef.one V V O ?_;clear H;intro v31 Dn a w KF H;refine kH H (aZ K7 O (SC (Rd O (Rm O ?_))));clear H K7;intro a H;refine aF ?_;refine dS ((k+1,v31,xs++wD,Dn,_)) (by exact (H.dV (Pl:=[_,_]) (dL:=[]) [] Q1 O).sub ⟨O,O,O,O,aB⟩) ?_
    (try dsimp only);exact ⟨V,by rw [hnx,iK];exact KF,by rw [hnx,jM];exact (ava.snoc NT (by rw [uH];rfl)),agV⟩
  intro h10 a H
  try have kN:=dF h10
  refine dX ?_;refine K3 _ _ ?_;clear K3;refine bP (fun _ bU=>?_)
  obtain rfl:k=l.length:=by omega
  obtain ⟨G',hm,hrep,H⟩:=H.qF (Li:=[]) hrw (rows:=out.map ak.dat) (by simp) fZ;exact kP H (SC (Rm O (aZ bU O (LR results74 O fun H=>H.rt (by rw [iy,<- hout];exact hrep)))))
theorem ajm:∀ n:Nat,n<=1073741825->Gm n
 | 0,_=>fun _ _ _ _ _ _ _ h=>absurd h V
 | n+1,hn=>ayU (ajm n V) V
theorem ajn (G:GH) (w0:World) (hG:Hold G w0) (l:List ak) (v:ah) (hv:av G (.sl 11 (l.map ak.dat)) v) (hne:lq l) (hz:aP l<=1073741824) :
  Calls prog 74 #[v] w0 (bG w0 G fun u G'=>av G' (.sl 11 ((iy l).map ak.dat)) u):=ajm 1073741825 V G w0 hG l v hv hne V

theorem aeY:aW 217:=aY func217 O
def gL:Nat->List ak->List (Nat × ak)
 | _,[]=>[]
 | o,x :: l=>(o,x) :: gL (o+eG x) l
def KL (a:Nat × ak):AP:=fun args g=>∃ cs,args=[vi a.1,.agg cs.toArray]∧aX g a.2.dat cs
theorem ait {A:List (Nat × ak)} {k:Nat} {args:List ah} {g:GH} (h:yg (A.map KL) k args g):∃ (hk:k < A.length) (cs:List ah),args=[vi A[k].1,.agg cs.toArray]∧aX g A[k].2.dat cs:=by
 exact acW
theorem ajr:∀ (l:List ak) (o:Nat),(gL o l).length=l.length
 | [],_=>rfl
 | x :: l,o=>by simp [gL,ajr l]
theorem Z8 (x:ak):eG x < bY x.dat:=by
 have:=pG x;have h2:=MQ x.text
 unfold eG;split <;> omega
theorem abG {p:Prop} (h:p:=by
 first
  | exact H.hp.kJ (L':=aaq) (by repeat (first|exact lV _|apply List.Sublist.cons)) (.inr (hb2 (by simpa using h18)))
  | exact H.hp.gI (.inl (by have:=fP.len;rw [ow V] at this;simp only [gL,List.length_nil,wB] at this;(try rw [bR]);rw [<- this];exact fP.now))):p:=h
set_option maxHeartbeats 1000000 in
theorem axx {G:GH} {bd:Nat} {l:List ak} {v:ah} (hb:aI G bd 0=some v) (hv:av G (.sl 11 (l.map ak.dat)) v) (hz:aP l<=4294967290) :
  Iter prog G (.func (.func 217) #[] #[(aJ bd 0)]) ((gL 0 l).map KL):=by
 intro J Jx fv G1 L w0 hfv hGi vG hJx hJ hO hcb;refine kG (caps:=[(aJ bd 0)]) aeY ?_;obtain ⟨A,c,rfl,hc1,hc2,hg⟩:=hv.slice;rw [bR] at *;have hll:=Au l;replace hb:=aK hGi hb;refine iB (N:=28) (T:=[(0,_),(1,_)]) func217 O ntmps217 O O hO ?_;intro a H;refine kP H (SR fun _ K1=>au K1 O (SR fun _ K2=>Rg fC O (by assumption) ?_));clear H K1;intro a H;refine kH H (Rl eH O (Rm O (Kz K2 (SB ?_))));clear H K2;intro a H;skip;refine eO (ι:=Nat × Nat × Nat × OL × GH) (Tc:=[(0,_),(8,_),(9,_)]) (Lc:=[]) (fun gh=>[(3,vi gh.2.1),(10,vi gh.1)]) (fun gh=>[]++gh.2.2.2.1) (fun gh=>gh.2.2.2.2) (fun gh=>gh.1<=l.length∧(∀ b o,G1 b=some o->gh.2.2.2.2 b=some o)∧Now ((gL 0 l).map KL) KL J (gL 0 l).length gh.2.2.1 (gL gh.2.1 (l.drop gh.1)) gh.2.2.2.2 gh.2.2.2.1∧gh.2.1+aP (l.drop gh.1)<=4294967290) (fun gh=>l.length - gh.1) ((0,0,0,L,G1)) (by exact H.sub ⟨O,O,O,O,O,aB⟩) ?_ ?_
 ·exact ⟨V,fun _ _ h=>h,⟨hJ,fun i a h=>by rw [fO,pJ];rw [xu] at h;rw [h];rfl,by simp⟩,by simp;omega⟩
 clear H;rintro ⟨k,at_,j1,Lt,g⟩ a w hI H;dsimp only at hI H;obtain ⟨hk,hgm,fP,hat⟩:=hI;dsimp only [lca,bD] at H;refine bP (fun _ K3=>?_);skip;refine kP H (SC (Rc O (Kn K3 (SQ fun _ K4=>Cd O ?_ ?_)))) <;> clear H K3
 ·intro h11 a H
  try have qp:=dT h11
  have hk2:k < l.length:=by omega
  obtain ⟨b,o,pA,pn,pc,dA,dn,dc,yA,yn,yc,fA,fn,fc,rA,rn,rc,rfl,hrow,hhd,hfl,hrw⟩:=zT hk2 hg;have Q8:∀ b o,G b=some o->g b=some o:=fun b o h=>hgm b o (hGi b o h);replace hrow:=fun j u hj=>aK Q8 (hrow j u hj);have hsz2:=LM (jl hk2);have hn1:=Z8 l[k];have hzi:=pG l[k];rw [mW hk2] at fP hat;rw [aP,eP,eZ] at hat;rw [gL] at fP;refine kP H (Kc K4 (SQ fun _ K5=>SB (SR fun _ K6=>Ri eH cO O O ?_)));clear H K4;intro a H;refine bq cO (cs:=[_,_,_,_,_,_,_,_,_,_,_]) H wn O O (fun j v hj=>H.hp.aI (hrow j v hj)) O ?_;clear H;intro a H;refine dR cO H wn O ?_;clear H;intro b5 a w hb5 H;refine bM cO 0 (vs:=[_,_,_,_,_,_,_,_,_,_,_]) H wn O ?_;clear H;intro w H;refine K6 _ _ ?_;clear K6;refine kP H (SQ fun _ K7=>SR fun _ K8=>Rm O (Rm O ?_));clear H;intro a H;refine bq cO (cs:=[_,_,_,_,_,_,_,_,_,_,_]) H wn O O (H.hp.dD 0 O O) O ?_;clear H;intro a H;refine Ai (Li:=[_]) (L:=Lt) H wn O O (hcb j1 _ _ _ _ ⟨_,fP.head,_,O,aX.mkItem (hhd.mono Q8) (hfl.mono Q8) (hrw.mono Q8)⟩ hgm fP.now (Hp.owns (Li:=[_]) H.hp)) O ?_;clear H;rintro v17 Ay aaq a w ⟨b17,rfl,hb1,hb2⟩ tK H;refine kH H (Rn O (Kz K8 (Cd O ?_ ?_))) <;> clear H K8
  ·intro h18 a H
   try have qw:=dT h18
   refine gu ?_;refine (leave0 H results217 ?_).1
   exact abG
  intro h18 a H
  try have qw:=dF h18
  refine gT ?_;refine K7 _ _ ?_;clear K7;refine dH (fun _ K9=>?_);refine bq cO (cs:=[_,_,_,_,_,_,_,_,_,_,_]) H wn O O (H.hp.dD 0 O O) O ?_;clear H;intro a H;refine s_call Wj H wn O (Z9 _ _ H.ro _ _ _ _ _ _ _ _ _ _ V) O ?_;clear H;rintro v21 _ a w ⟨rfl,rfl⟩ - H;refine kH H (Rm O ?_);clear H;intro a H;(iterate 2 refine ko H wn O O O ?_;clear H;intro a H);refine kH H (Ra O (au K9 O (SC (Rm O (Rm O (Rd O (aZ K5 O (SC (Rd O (Rm O ?_))))))))));clear H K9 K5;intro a H;refine aF ?_;refine dS ((k+1,at_+eG l[k],j1+1,aaq,Ay)) (by exact (H.dV (Pl:=[_]) (dL:=[]) [] Q1 O).sub ⟨O,O,O,O,O,aB⟩) ?_
  (try dsimp only);exact ⟨V,fun b o h=>tK b o (hgm b o h),fP.step (hb1 (by simpa using h18)),by show at_+eG l[k]+eZ ((l.drop (k+1)).map ak.dat)<=4294967290;omega⟩
 intro h11 a H
 try have qp:=dF h11
 refine dX ?_;refine (leave0 H results217 ?_).2
 exact abG
theorem axy (G:GH) (w0:World) (hG:Hold G w0) (l:List ak) (v:ah) (hv:av G (.sl 11 (l.map ak.dat)) v) (hz:aP l<=4294967290) :
  Calls prog 159 #[v] w0 (bG w0 G fun u G'=>∃ bd,u=.func (.func 217) #[] #[(aJ bd 0)]∧Iter prog G' u ((gL 0 l).map KL)):=by
 obtain ⟨A,c,rfl,hc1,hc2,hg⟩:=hv.slice;refine eN [(0,_)] func159 O ntmps159 O O hG ?_;intro a H;refine dH (fun _ K1=>?_);refine eB (cs:=[_]) H wn O O O ?_;clear H;intro b1 a w hb1 H;refine kH H (au K1 O (SR fun _ K2=>?_));clear H K1;intro a H;refine wV H wn O O ?_;clear H;intro a H;refine kH H (au K2 O ?_);clear H K2;intro a H;refine gu ?_;obtain ⟨G2,hm2,hb1,H⟩:=H.fJ;refine lv H results159 O ?_;exact H.rt ⟨b1,O,axx (by unfold aI;rw [hb1];rfl) (hv.mono hm2) hz⟩
theorem aqk:aW 159:=aY func159 O
def xH (t:Int) (a:Nat × ak):Bool:=decide ((a.1:Int)+eG a.2<=t)
def lA (t:Int) (A:List (Nat × ak)):List ak:=(A.filter (xH t)).map (·.2)
def rA (t:Int) (A:List (Nat × ak)):List ak:=(A.filter fun a=>!xH t a).map (·.2)
theorem abZ {p:Prop} (h:p:=by
 rw [jk hk];simp only [lA,rA,List.filter_append,jM];simp [h]):p:=h
theorem axL {t:Int} {A:List (Nat × ak)} {k:Nat} (hk:k < A.length) (h:xH t A[k]=true):lA t (A.take (k+1))=lA t (A.take k)++[A[k].2]∧rA t (A.take (k+1))=rA t (A.take k):=by
 exact abZ
theorem axK {t:Int} {A:List (Nat × ak)} {k:Nat} (hk:k < A.length) (h:xH t A[k]=false):lA t (A.take (k+1))=lA t (A.take k)∧rA t (A.take (k+1))=rA t (A.take k)++[A[k].2]:=by
 exact abZ
theorem axJ (t:Int) (A:List (Nat × ak)):(lA t A).length<=A.length:=by simp only [lA,bR];exact List.length_filter_le _ _
theorem azB (t:Int) (A:List (Nat × ak)):(rA t A).length<=A.length:=by simp only [rA,bR];exact List.length_filter_le _ _
def vP (t:Int) (l:List ak):List ak:=lA t (gL 0 l)
def BL (t:Int) (l:List ak):List ak:=rA t (gL 0 l)
theorem ajs:∀ {l:List ak} {o:Nat} {a:Nat × ak},a∈gL o l->a.2∈l∧a.1+bY a.2.dat<=o+aP l
 | [],_,_,h=>by cases h
 | x :: l,o,a,h=>by
  rw [gL] at h;have hu:=Z8 x
  rcases iD.1 h with rfl|h
  ·exact ⟨eT,by simp only [aP,eP,eZ];omega⟩
  obtain ⟨h1,h2⟩:=ajs h;exact ⟨gH _ h1,by simp only [aP,eP,eZ] at *;omega⟩
theorem adr {p:Prop} (h:p:=by
 refine XR ((vl,vr,xl,xr,Ll,Lr)) _ _ _ _ _ (by exact H.dV (Pl:=[_,_,_,_,_]) (dL:=[_,_,_,_]) [0,2,3,4] Q1 O) ?_;exact hI):p:=h
theorem Qp (G:GH) (w0:World) (hG:Hold G w0) (l:List ak) (t:Int) (v:ah) (hv:av G (.sl 11 (l.map ak.dat)) v) (hz:aP l<=1073741824) (hcut:∀ a∈gL 0 l,xH t a=true∨t<=a.1) :
  Calls prog 73 #[v,vi t] w0 (bG w0 G fun u G'=>∃ x y,u=.tuple #[x,y]∧av G' (.sl 11 ((vP t l).map ak.dat)) x∧av G' (.sl 11 ((BL t l).map ak.dat)) y):=by
 have hml:4294967297<=maxLen:=by decide
 have hll:=Au l;have hol:=ajr l 0;obtain ⟨A,hA⟩:∃ A,A=gL 0 l:=⟨_,O⟩;refine eN [(0,_),(1,_)] func73 O ntmps73 O O hG ?_;intro a H;refine dH (fun _ K1=>?_);refine eB (cs:=[_]) H wn O O O ?_;clear H;intro b3 a w hb3 H;refine dR fC H wn O ?_;clear H;intro b4 a w hb4 H;refine dR fC H wn O ?_;clear H;intro b5 a w hb5 H;refine K1 _ _ ?_;clear K1;refine kP H (SQ fun _ K2=>SR fun _ K3=>Rm O ?_);clear H;intro a H;refine s_call aqk H wn O (axy _ _ H.ro l v hv V) O ?_;clear H;rintro v14 EA a w ⟨bd,rfl,hit⟩ Kj H;rw [<- hA] at hit hcut hol;refine K3 _ _ ?_;clear K3;refine AU ?_;skip;refine VN (ι:=ah × ah × List ah × List ah × OL × OL) (κ:=Empty) (Lc:=[(_,_)]) (fun (k:Nat) (gh:ah × ah × List ah × List ah × OL × OL)=>[(b4,.cells #[gh.1] 22 (0,0)),(b5,.cells #[gh.2.1] 22 (0,0))]) (fun (k:Nat) (gh:ah × ah × List ah × List ah × OL × OL)=>gh.2.2.2.2.1++gh.2.2.2.2.2) (fun (k:Nat) (gh:ah × ah × List ah × List ah × OL × OL) (g:GH)=>bV 128 11 gh.1 (lA t (A.take k)).length gh.2.2.1 gh.2.2.2.2.1∧bT g 11 ((lA t (A.take k)).map ak.dat) gh.2.2.1∧bV 128 11 gh.2.1 (rA t (A.take k)).length gh.2.2.2.1 gh.2.2.2.2.2∧bT g 11 ((rA t (A.take k)).map ak.dat) gh.2.2.2.1) (fun x=>x.elim) (fun x=>x.elim) (fun x=>x.elim) (fun x=>x.elim) ((.slice none 0 0,.slice none 0 0,[],[],[],[])) (by exact (H.KR (A:=[_,_,_])).dV (Pl:=[_,_,_]) (dL:=[_,_,_]) [2,1,0] Q1 O) O aeY (hit) (fun _ _ h=>h) O (fun k args g h=>by obtain ⟨_,_,rfl,_⟩:=ait h;rfl) (fun k i G G' hm h=>⟨h.1,h.2.1.mono hm,h.2.2.1,h.2.2.2.mono hm⟩) (fun x=>x.elim) (⟨bV.nil,bT.nil,bV.nil,bT.nil⟩) ?_ ?_ ?_
 ·clear H;intro l2 Em AQ bk k args gh G2 w2 F2 B2 a hk2 hm2 hI Xv XR ahM H;obtain ⟨vl,vr,xl,xr,Ll,Lr⟩:=gh;dsimp only at hI H;obtain ⟨hk,cs,rfl,hcs⟩:=ait hk2;obtain ⟨-,hza⟩:=ajs (l:=l) (o:=0) (a:=A[k]) (by rw [<- hA];exact jl hk);have hzi:=pG A[k].2;have hun:=Z8 A[k].2;have hlk:=axJ t (A.take k);have NU:=azB t (A.take k);rw [List.length_take] at hlk NU;obtain ⟨pA,pn,pc,dA,dn,dc,yA,yn,yc,fA,fn,fc,rA_,rn,rc,rfl,hh,hf,hr⟩:=hcs.item;dsimp only [zM,List.cons_append,List.nil_append] at H;obtain ⟨hrl,hcl,hrr,hcr⟩:=hI;refine kP H (SR fun _ K4=>au K4 O (SC ?_));clear H K4;intro a H;refine dR cO H wn O ?_;clear H;intro b7 a w Cq H;refine bM cO 0 (vs:=[_,_,_,_,_,_,_,_,_,_,_]) H wn O ?_;clear H;intro w H;refine aF ?_;refine Xv _ _ _ _ _ _ (by exact H.dV (Pl:=[_,_,_,_,_]) (dL:=[_,_,_,_,_]) [1,0,2,3,4] Q1 O) ?_;clear H;intro w H;refine AU ?_;refine dH (fun _ K5=>?_);refine bq cO (cs:=[_,_,_,_,_,_,_,_,_,_,_]) H wn O O (H.hp.dD 1 O O) O ?_;clear H;intro a H;refine s_call Wj H wn O (Z9 _ _ H.ro A[k].2 _ _ _ _ _ _ _ _ _ V) O ?_;clear H;rintro v19 _ a w ⟨rfl,rfl⟩ - H;refine kH H (Rm O ?_);clear H;intro a H;(iterate 2 refine ko H wn O O O ?_;clear H;intro a H);refine kH H (Ra O (au K5 O (SB (SR fun _ K6=>Rm O (Rm O (Rd O (Ro aD 2 O (Rc O (au K6 O (Cd O ?_ ?_)))))))))) <;> clear H K5 K6
  ·intro h50 a H
   try have p50:=dT h50
   have hfit:xH t A[k]=true:=h50;obtain ⟨e1,e2⟩:=axL hk hfit;obtain ⟨vA,vc,rfl,-,-⟩:=hrl.shape;have H:=H.perm (ajK [_,_,_,_,_] bk Ll Lr);refine adG (i0:=3) (i1:=1) hmx Z eH fC cO O O O O O Z O Q1 H O O O O O O hrl V V ?_;clear H;intro vl Ll tZ a w tH ahE H;have H:St _ _ _ _ _ _ ([_,_,_,_,_]++(bk++(Ll++Lr))) _ _ _:=H.perm (ajK [_,_,_,_,_] bk Ll Lr).symm;dsimp only [lca,bD] at H;obtain ⟨xl,hxl⟩:∃ x,x=xl++[vi A[k].2.kind,vi A[k].2.code,vi A[k].2.id,.string A[k].2.text,.slice pA pn pc,vi A[k].2.head.marks.ins,vi A[k].2.head.marks.move,.slice dA dn dc,.slice yA yn yc,.slice fA fn fc,.slice rA_ rn rc]:=⟨_,O⟩;rw [<- hxl] at ahE
   have hI:bV 128 11 vl (lA t (A.take (k+1))).length xl Ll∧bT tZ 11 ((lA t (A.take (k+1))).map ak.dat) xl∧bV 128 11 vr (rA t (A.take (k+1))).length xr Lr∧bT tZ 11 ((rA t (A.take (k+1))).map ak.dat) xr:=by
    rw [e1,e2,iK,jM];exact ⟨ahE,by rw [hxl];exact (hcl.mono tH).snoc (hcs.mono tH) O,hrr,hcr.mono tH⟩
   exact adr
  intro h50 a H
  try have p50:=dF h50
  have hfit:xH t A[k]=false:=h50;obtain ⟨e1,e2⟩:=axK hk hfit;refine kP H (SR fun _ K7=>Rm O (Ro aD 2 O (Rc O (au K7 O (Cd O ?_ ?_))))) <;> clear H K7
  ·intro Ho a H
   try have p62:=dT Ho
   obtain ⟨vA,vc,rfl,-,-⟩:=hrr.shape;have H:=H.cast (ajJ [_,_,_,_,_] bk Ll Lr);refine adG (i0:=4) (i1:=1) hmx Z eH fC cO O O O O O Z O Q1 H O O O O O O hrr V V ?_;clear H;intro vr Lr tZ a w tH ahF H;have H:St _ _ _ _ _ _ ([_,_,_,_,_]++(bk++(Ll++Lr))) _ _ _:=H.cast (ajJ [_,_,_,_,_] bk Ll Lr).symm;dsimp only [lca,bD] at H;obtain ⟨xr,RD⟩:∃ x,x=xr++[vi A[k].2.kind,vi A[k].2.code,vi A[k].2.id,.string A[k].2.text,.slice pA pn pc,vi A[k].2.head.marks.ins,vi A[k].2.head.marks.move,.slice dA dn dc,.slice yA yn yc,.slice fA fn fc,.slice rA_ rn rc]:=⟨_,O⟩;rw [<- RD] at ahF
   have hI:bV 128 11 vl (lA t (A.take (k+1))).length xl Ll∧bT tZ 11 ((lA t (A.take (k+1))).map ak.dat) xl∧bV 128 11 vr (rA t (A.take (k+1))).length xr Lr∧bT tZ 11 ((rA t (A.take (k+1))).map ak.dat) xr:=by
    rw [e1,e2,iK,jM];exact ⟨hrl,hcl.mono tH,ahF,by rw [RD];exact (hcr.mono tH).snoc (hcs.mono tH) O⟩
   exact adr
  intro Ho a H
  try have p62:=dF Ho
  exact absurd (hcut _ (jl hk)) (by rw [hfit];simp only [yC,false_or];omega)
 ·clear H;intro Dk2 gh Gd2 a w hm2 hI H;obtain ⟨vl,vr,xl,xr,Ll,Lr⟩:=gh;dsimp only at hI H;dsimp only [lca,bD] at H;obtain ⟨hrl,hcl,hrr,hcr⟩:=hI;rw [show A.take (A.map KL).length=A by rw [bR,vg]] at hrl hcl hrr hcr;obtain ⟨lA0,lc0,rfl,-,-⟩:=hrl.shape;obtain ⟨rA0,rc0,rfl,-,-⟩:=hrr.shape;refine K2 _ _ ?_;clear K2;refine bP (fun _ K8=>?_);refine dI hmx [[],[],[0],[0,1,2]] [] Z [.slice lA0 (lA t A).length lc0,.slice rA0 (rA t A).length rc0] H (aC (Z0 O (Ro fC 2 O)) (Z0 O (Ro fC 3 O)) ?_ ?_ dG) ?_
  ·intro bC a w G1 _ aV hc hG HT hv;have H:=HT;clear aV;have H:=H.aQ (hv 0 72 (hc 0 Q1) O) O;have Hb:=H.full;have H:=Hb;clear hc;refine bM fC 2 (vs:=[_]) H wn O ?_;clear H;intro w H;refine aF ⟨O,?_⟩;exact aew O HT hG hv H
  ·intro bC a w G1 _ aV hc hG HT hv;have H:=HT;clear aV;have H:=H.aQ (hv 1 73 (hc 1 Q1) O) O;have Hb:=H.full;have H:=Hb;clear hc;refine bM fC 3 (vs:=[_]) H wn O ?_;clear H;intro w H;refine aF ⟨O,?_⟩;exact aew O HT hG hv H
  clear H;intro a w G Co H hv;clear hv;refine aF ⟨O,?_⟩;refine K8 _ _ ?_;clear K8;refine gu ?_;obtain ⟨I8,Fb,hgr,H⟩:=St.qF (Li:=[_,_,_,_]++Ll) (St.un (A:=[_,_,_,_]) H) hrr (rows:=(rA t A).map ak.dat) (by simp) (hcr.mono Co);obtain ⟨O5,zY,hgl,H⟩:=St.qF (Li:=[_,_,_,_]) H hrl (rows:=(lA t A).map ak.dat) (by simp) ((hcl.mono Co).mono Fb);replace hgr:=hgr.mono zY;refine (KM H 0 O ?_).1;clear H;intro a w H;dsimp only [List.eraseIdx_cons_succ,List.eraseIdx_cons_zero] at H;refine (jQ H results73 (.cons (CQ fC H O (H.hp.tO 1 O O)) (.cons (CQ fC H O (H.hp.tO 2 O O)) .nil)) ?_).1;exact H.rt ⟨_,_,O,by rw [vP,<- hA];exact hgl,by rw [BL,<- hA];exact hgr⟩
 intro Dk x;exact x.elim
theorem apv (G:GH) (w0:World) (hG:Hold G w0) (A:Option Addr) (n c:Nat) (fv:ah) (hv:av G (.sl 6 []) (.slice A n c)) :
  Calls prog 162 #[.slice A n c,fv] w0 (bG w0 G fun u G'=>av G' (.sl 6 []) u):=by
 refine eN [(0,_),(1,_)] func162 O ntmps162 O O hG ?_;intro a H;refine kP H (SR fun _ K1=>au K1 O (SR fun _ K2=>Rm O (Rm O ?_)));clear H K1;intro a H;refine s_call aeR H wn O (air _ _ H.ro [] (fun _=>true) _ _ hv (fun x h=>by cases h)) rfl ?_;clear H;rintro v10 tZ a w rfl tH H;refine kH H (au K2 O (SQ fun _ K3=>SR fun _ K4=>Rm O (Rc O (Kz K4 (Cd O ?_ ?_))))) <;> clear H K2 K4
 ·intro h12 a H
  exact abE
 intro h12 a H
 exact absurd h12 Q1
theorem ayW (G:GH) (w0:World) (hG:Hold G w0) (A:Option Addr) (n c:Nat) (hv:av G (.sl 11 []) (.slice A n c)) :
  Calls prog 74 #[.slice A n c] w0 (bG w0 G fun u G'=>av G' (.sl 11 []) u):=by
 have hn:n=0:=hv.len;refine eN [(0,_)] func74 O ntmps74 O O hG ?_;intro a H;refine kP H (SR fun _ K1=>au K1 O (SR fun _ K2=>au K2 O (SQ fun _ K3=>SR fun _ K4=>Rm O (Rl eH O (Rm O (Kz K4 (SB ?_)))))));clear H K1 K2 K4;intro a H;skip;refine eO (ι:=Unit) (Tc:=[(7,_),(8,_)]) (Lc:=[]) (fun gh=>[(3,.slice none 0 0),(9,vi 0)]) (fun gh=>[]) (fun gh=>G) (fun gh=>True) (fun gh=>0) (()) (by exact H.sub ⟨O,O,O,O,aB⟩) ?_ ?_
 ·trivial
 clear H;intro u a w hI H;skip;dsimp only [lca,bD] at H;refine kP H (SR fun _ K5=>Rc O (Kz K5 (SQ fun _ K6=>Cd O ?_ ?_))) <;> clear H K5
 ·intro h10 a H
  try have kN:=dT h10
  exact absurd kN (by rw [hn];decide)
 intro h10 a H
 refine dX ?_;refine K3 _ _ ?_;clear K3;exact kP H (SR fun _ K7=>Rm O (au K7 O (LR results74 O fun H=>H.rt (av.og O Q1))))
def aau (x:ak):Prop:=x.flow=[]∧x.rows=[]∧¬ x.kind=7∧(x.kind=1->¬ x.text.toList=[])
def Me (l:List ak):Prop:=∀ (k:Nat) (h:k+1 < l.length),¬ (l[k].kind=1∧l[k+1].kind=1∧l[k].head=l[k+1].head)
theorem Me.one {l:List ak} (h:l.length<=1):Me l:=fun k hk=>by omega
theorem abH {p:Prop} (h:p:=by
 exact aX.mkItem (Br.mono fun b o h=>wN b o (vK b o (nM b o h))) (by rw [e1];exact NM.mono fun b o h=>wN b o (vK b o h)) (by rw [e2];exact Kv)):p:=h
theorem anF {p:Prop} (h:p:=by
 exact ⟨0,(⟨[],⟨0,0,[],[]⟩⟩,0),.slice none 0 0,.slice none 0 0,.slice none 0 0,fun h=>by omega⟩):p:=h
theorem abI {p:Prop} (h:p:=by
 exact fin H iJ (by show _=_;first|rfl|exact dh (fun A=>Value.slice A k vc) (Exists.elim (ze c2) fun _ h=>h.1))):p:=h
theorem P5 {p:Prop} (h:p:=by
 exact ⟨V,KF,by rw [hA1];exact (fZ.mono (fun b o h=>lH b o (wN b o (vK b o (nM b o (tJ b o h)))))).snoc (Ef.mono lH) (by rw [uH];rfl),fun b o h=>lH b o (wN b o (vK b o (nM b o (tJ b o (hgm b o h)))))⟩):p:=h
theorem acK {p:Prop} (h:p:=by
 by_cases h0:0 < k
 ·obtain ⟨bo,Xw⟩:=hrw.ptr h0;obtain ⟨cs,hcl,hcx,hcr⟩:=HY.at (k:=k - 1) (r:=l[k - 1].dat) (by rw [sV,jZ];simp [show k - 1 < l.length by omega]);obtain ⟨qA,qn,qc,sA,sn,sc,tA,tn,tc,GV,He,GX,Zj,SG,Zk,rfl,hh,-,-⟩:=hcr.item;refine ⟨bo,(l[k - 1].head,l[k - 1].kind),.slice qA qn qc,.slice sA sn sc,.slice tA tn tc,fun _=>⟨V,Xw,O,hcx 0 _ O,hh,fun j u hj=>?_⟩⟩;rw [Nat.add_assoc]
  exact hcx (4+j) u (by
   match j,hj with
   | 0,hj=>exact hj
   | 1,hj=>exact hj
   | 2,hj=>exact hj
   | 3,hj=>exact hj
   | 4,hj=>exact hj)
 exact anF):p:=h
theorem adk {p:Prop} (h:p:=by
 intro c1 c2 c3 e;obtain ⟨hk1,-,hpk,-⟩:=ze c2;have hjk:=hj (k - 1) V;rw [hpk] at e c3
 simp only [show k - 1+1=k by omega] at hjk
 exact hjk ⟨c3,c1,e⟩):p:=h
theorem abV {p:Prop} (h:p:=by
 refine gX 7 60 O O fun _ a w G1 hG HT H fin=>?_;refine kH H (YM (aG c2) O ?_);clear H;intro a H;exact abI):p:=h
theorem acv {p:Prop} (h:p:=by
 refine eU 12 65 7 60 O O fun _ a w G1 hG HT H fin=>?_;obtain ⟨_,rfl,_,hkd,_⟩:=ze c2;refine tQ aD H (wg H O O (aG c2)) O (hrw.at H.hp (fun x hx=>gH _ hx) (by rw [fO];exact hkd)) O ?_;exact iX):p:=h
set_option maxHeartbeats 2000000 in
theorem ayX (G:GH) (w0:World) (hG:Hold G w0) (l:List ak) (v:ah) (hv:av G (.sl 11 (l.map ak.dat)) v) (hj:Me l) (hp:∀ x∈l,aau x) (hz:aP l<=1073741824) :
  Calls prog 74 #[v] w0 (bG w0 G fun u G'=>av G' (.sl 11 (l.map ak.dat)) u):=by
 obtain ⟨A,c,rfl,hc1,hc2,hg⟩:=hv.slice
 have hml:4294967297<=maxLen:=by decide
 have hll:l.length<=aP l:=Nat.le_trans (Od l) (Tg l);rw [bR] at *;refine eN [(0,_)] func74 O ntmps74 O O hG ?_;intro a H;refine kP H (SR fun _ K1=>au K1 O (SR fun _ K2=>au K2 O (SQ fun _ K3=>SR fun _ K4=>Rm O (Rl eH O (Rm O (Kz K4 (SB ?_)))))));clear H K1 K2 K4;intro a H;skip;refine eO (ι:=Nat × ah × List ah × OL × GH) (Tc:=[(7,_),(8,_)]) (Lc:=[]) (fun gh=>[(3,gh.2.1),(9,vi gh.1)]) (fun gh=>[]++gh.2.2.2.1) (fun gh=>gh.2.2.2.2) (fun gh=>gh.1<=l.length∧bV 128 11 gh.2.1 gh.1 gh.2.2.1 gh.2.2.2.1∧bT gh.2.2.2.2 11 ((l.map ak.dat).take gh.1) gh.2.2.1∧(∀ b o,G b=some o->gh.2.2.2.2 b=some o)) (fun gh=>l.length - gh.1) ((0,.slice none 0 0,[],[],G)) (by exact H.sub ⟨O,O,O,O,aB⟩) ?_ ?_
 ·exact PW
 clear H;rintro ⟨k,v,xs,Lo,g⟩ a w hI H;dsimp only at hI H;obtain ⟨hk,hrw,fZ,hgm⟩:=hI;dsimp only [lca,bD] at H;refine kP H (SR fun _ K5=>Rc O (Kz K5 (SQ fun _ K6=>Cd O ?_ ?_))) <;> clear H K5
 ·intro h10 a H
  try have kN:=dT h10
  have hk2:k < l.length:=by omega
  obtain ⟨vA,vc,rfl,-,-⟩:=hrw.shape;obtain ⟨b,o,pA,pn,pc,dA,dn,dc,yA,yn,yc,fA,fn,fc,rA,rn,rc,rfl,hrow,hhd,hfl,hrs⟩:=zT hk2 hg;replace hrow:=fun j u hj=>aK hgm (hrow j u hj);obtain ⟨e1,e2,e3,e4⟩:=hp _ (jl hk2);have hzi:=IW hk2;rw [e1] at hfl;rw [e2] at hrs;refine kP H (Kc K6 (SQ fun _ K7=>SB (SR fun _ K8=>Ri eH cO O O ?_)));clear H K6;intro a H;refine bq cO (cs:=[_,_,_,_,_,_,_,_,_,_,_]) H wn O O (fun j v hj=>H.hp.aI (hrow j v hj)) O ?_;clear H;intro a H;refine dR cO H wn O ?_;clear H;intro b5 a w hb5 H;refine bM cO 0 (vs:=[_,_,_,_,_,_,_,_,_,_,_]) H wn O ?_;clear H;intro w H;refine K8 _ _ ?_;clear K8;refine kP H (SR fun _ K9=>Rf uq O ?_);clear H;intro a H;refine bq nT (cs:=[_,_,_,_,_]) H wn O O (H.hp.dD 0 O O) O ?_;clear H;intro a H;refine s_call MZ H wn O (MN _ _ H.ro _ _ _ _ _ _ _ _ _ _ (hhd.mono hgm) V) O ?_;clear H;rintro v15 EB a w ⟨uL,d15,l15,rfl,Br⟩ tJ H;obtain ⟨a1,a2,a3,rfl⟩:=Br.props.form;obtain ⟨a4,a5,a6,rfl⟩:=Br.dJ.form;obtain ⟨a7,a8,a9,rfl⟩:=Br.layers.form;refine kH H (Rf uq O ?_);clear H;intro a H;refine bM nT 0 (vs:=[_,_,_,_,_]) H wn O ?_;clear H;intro w H;refine K9 _ _ ?_;clear K9;refine kP H (SR fun _ aT=>aU uw fC 0 O O ?_);clear H;intro a H;refine s_call JL H wn O (ayW _ _ H.ro _ _ _ (hfl.mono fun b o h=>tJ b o (hgm b o h))) O ?_;clear H;rintro v19 F8 a w NM nM H;obtain ⟨Ez,n19,c19,rfl⟩:=NM.form;refine kH H (Rf uw O ?_);clear H;intro a H;refine bM fC 0 (vs:=[_]) H wn O ?_;clear H;intro w H;refine aT _ _ ?_;clear aT;refine kP H (SR fun _ bJ=>aU pR oq 0 O O ?_);clear H;intro a H;refine s_call Wi H wn O (aeA _ _ H.ro [] _ _ (hrs.mono fun b o h=>nM b o (tJ b o (hgm b o h))) Q1 (fun x h=>by cases h)) rfl ?_;clear H;rintro v23 O6 a w Kt vK H;obtain ⟨A23,n23,c23,rfl⟩:=Kt.form;refine s_call aeP H wn O (apv _ _ H.ro _ _ _ _ Kt) O ?_;clear H;rintro v24 yu a w Kv wN H;obtain ⟨IZ,n24,c24,rfl⟩:=Kv.form;refine kH H (Rf pR O ?_);clear H;intro a H;refine bM oq 0 (vs:=[_]) H wn O ?_;clear H;intro w H;refine bJ _ _ ?_;clear bJ;refine kP H (SR fun _ bO=>Rm O (Rl eH O (au bO O (SB (SR fun _ bU=>aU iL aD 0 O O (Rc O (Rm O (Sp 36 O ?_ ?_)))))))) <;> clear H bO
  ·intro oU a H
   try have p36:=dT oU
   exact absurd p36 e3
  intro oU a H
  try have p36:=dF oU
  refine kH H (aR oU O (aR oU O (Pf oU O (Rm O ?_))));clear H;intro a H;refine CX iL H (wg H O O O) O O ?_;clear H;intro a H;refine tQ aD H (wg H O O O) O (H.hp.tO 0 O O) O ?_;clear H;intro a H;refine IE H (wg H O O O) O O O O ?_;clear H;intro a H;refine FI H (wg H O O O) O O ?_;clear H;intro a H;refine SY H 46 O ?_ ?_
  ·intro h46
   try have p46:=dT h46
   refine kH H (YF rC h46 O (YO gV 0 h46 O ?_));clear H;intro a H;refine CW H (wg H O O h46) O O O ?_;clear H;intro a H;refine Le H (wg H O O O) O h46 O O ?_;clear H;intro a H;refine kH H (Pf O O (au bU O (Cd O ?_ ?_))) <;> clear H bU
   ·intro h32 a H
    exact absurd h32 (by simpa using e4 p46)
   intro h32 a H
   try have p32:=dF h32
   refine bP (fun _ bZ=>?_);obtain ⟨wD,uH⟩:∃ x,x=[vi l[k].kind,vi l[k].code,vi l[k].id,.string l[k].text,.slice a1 a2 a3,vi l[k].head.marks.ins,vi l[k].head.marks.move,.slice a4 a5 a6,.slice a7 a8 a9,.slice Ez n19 c19,.slice IZ n24 c24]:=⟨_,O⟩
   have Ef:aX yu l[k].dat wD:=by
    rw [uH];exact abH
   have hA1:(l.map ak.dat).take (k+1)=(l.map ak.dat).take k++[l[k].dat]:=by rw [jk (by simpa using hk2)];simp
   have HY:=fZ.mono fun b o h=>wN b o (vK b o (nM b o (tJ b o h)))
   obtain ⟨bo,pk,pp,pd,pl,ze⟩:∃ (bo:Nat) (pk:fH × Int) (pp pd pl:ah),0 < (k:Int)->∃ (h:k - 1 < l.length),vA=some ⟨bo,0,none⟩∧pk=(l[k - 1].head,l[k - 1].kind)∧xs[(k - 1)*11]?=some (vi pk.2)∧jI yu pk.1 pp pd pl∧∀ j u,[pp,vi pk.1.marks.ins,vi pk.1.marks.move,pd,pl][j]?=some u->xs[(k - 1)*11+4+j]?=some u:=by
    exact acK
   have NI:l[k].kind=1->0 < (k:Int)->pk.2=1->¬ pk.1=l[k].head:=by
    exact adk
   have c1:l[k].kind=1:=p46
   by_cases c2:0 < (k:Int)
   ·skip
    by_cases c3:pk.2=1
    ·skip;refine dI hmx [[],[0],[0,1],[0,1,2],ra 0 4,ra 0 5,ra 0 6,ra 0 7,ra 0 8,ra 0 8,(ra 0 8++[9]),ra 0 11,ra 0 12,ra 0 13,ra 0 14,ra 0 15,ra 0 16,ra 0 17,ra 0 17,(ra 0 17++[18]),ra 0 20,ra 0 21,ra 0 22,ra 0 17,(ra 0 17++[23]),ra 0 25,ra 0 26,ra 0 27] [] Z [_,vi l[k].kind,_,_,_,_,_,_,.slice (some ⟨bo,0,none⟩) k vc,_,vi ((k - 1:Nat):Int),_,_,vi pk.2,_,_,_,.slice (some ⟨bo,0,none⟩) k vc,_,vi ((k - 1:Nat):Int),_,_,vJ pk.1 pp pd pl,_,vJ l[k].head (.slice a1 a2 a3) (.slice a4 a5 a6) (.slice a7 a8 a9),.bool false,_,_] H (aC (Z0 O (Rf iL O)) (Z1 0 53 O (Ro aD 0 O)) (Z1 1 54 O (Rc O)) (Z1 2 55 O (Rm O)) (aC (Z1 3 56 O (YM (aG c1) O)) (Z2 4 57 3 56 O (YC (aG c1) O)) (Z2 3 56 5 58 O (Pt (aG c1) O)) (Z1 6 59 O (Rm O)) (aC ?_ (Z1 7 60 O (YM (aG c2) O)) ?_ (Z3 8 61 10 63 7 60 O (YI eH cO (aG c2) O O)) (aC (Z2 11 64 7 60 O (YF iL (aG c2) O)) ?_ (Z2 13 66 7 60 O (YC (aG c2) O)) (Z2 7 60 14 67 O (Pt (aG c2) O)) (aC (Z1 15 68 O (Rm O)) ?_ (Z1 16 69 O (YM (aG c3) O)) ?_ (aC (Z3 17 70 19 72 16 69 O (YI eH cO (aG c3) O O)) (Z2 20 73 16 69 O (YF uq (aG c3) O)) ?_ (Z1 16 69 O (YF uq (aG c3) O)) (aC ?_ ?_ (Z2 16 69 25 78 O (Pt (aG c3) O)) (Z1 26 79 O (Ra O)) dG))))))) ?_
     ·exact abV
     ·exact Mv
     ·exact acv
     ·refine gX 16 69 O O fun _ a w G1 hG HT H fin=>?_;refine kH H (YM (aG c3) O ?_);clear H;intro a H;exact abI
     ·exact Vj
     ·refine eU 21 74 16 69 O O fun _ a w G1 hG HT H fin=>?_;obtain ⟨_,rfl,_,_,_,hhx⟩:=ze c2;refine bq nT (cs:=[pp,vi pk.1.marks.ins,vi pk.1.marks.move,pd,pl]) H (wg H O O (aG c3)) O O (fun j u hj=>hrw.at H.hp (fun x hx=>gH _ hx) (by rw [fO];exact hhx j u hj)) O ?_;exact iX
     ·exact Va
     ·refine uh 22 75 24 77 16 69 O O fun _ a w G1 hG HT H fin=>?_;refine s_call M0 H (wg H O O (aG c3)) O (M5 _ _ H.ro pk.1 l[k].head _ _ _ _ _ _ (by obtain ⟨_,_,_,_,hh,_⟩:=ze c2;exact hh.mono hG) (Br.mono fun b o h=>hG b o (wN b o (vK b o (nM b o h))))) O ?_;clear H;rintro v78 G78 a w rfl Xo H;exact fin H Xo (by show _=_;first|rfl|exact iq (oP (NI c1 c2 c3)))
     clear H;intro a w G lH H hv;have H:=H.aQ (hv 27 52 O O) O;clear hv;refine aF ⟨O,?_⟩;refine bZ _ _ ?_;clear bZ;refine oQ H O O ?_;refine kP H (SC (Rm O ?_));clear H;intro a H;refine bq cO (cs:=[_,_,_,_,_,_,_,_,_,_,_]) H wn O O (H.hp.dD 0 O O) O ?_;clear H;intro a H;refine iG eH cO [_,_,_,_,_,_,_,_,_,_,_] [_,_,_,_,_,_,_,_,_,_,_] H wn O O O O O (by intro i q h;match i,h with|0,h=>exact h|n+1,h=>simp at h) O O ?_;clear H;intro PL a w QX H;refine mh (Li:=[_,_]) (Lo:=Lo) (news:=wD) eH cO O O H wn O O hrw (by rw [uH];rfl) (by rw [uH];exact H.hp.dD 0 O O) Ef.one V V O ?_;clear H;intro v31 Dn a w KF H;refine kH H (aZ K7 O (SC (Rd O (Rm O ?_))));clear H K7;intro a H;refine aF ?_;refine dS ((k+1,v31,xs++wD,Dn,G)) (by exact (H.dV (Pl:=[_,_]) (dL:=[]) [] Q1 O).sub ⟨O,O,O,O,aB⟩) ?_
     (try dsimp only);exact P5
    skip;refine dI hmx [[],[0],[0,1],[0,1,2],ra 0 4,ra 0 5,ra 0 6,ra 0 7,ra 0 8,ra 0 8,(ra 0 8++[9]),ra 0 11,ra 0 12,ra 0 13,ra 0 14,ra 0 15,ra 0 16,ra 0 17,ra 0 17,(ra 0 17++[18]),ra 0 20,ra 0 21,ra 0 22,ra 0 17,(ra 0 17++[23]),ra 0 25,ra 0 26,ra 0 27] [] Z [_,vi l[k].kind,_,_,_,_,_,_,.slice (some ⟨bo,0,none⟩) k vc,_,vi ((k - 1:Nat):Int),_,_,vi pk.2,_,_,_,undef,undef,undef,undef,undef,undef,undef,undef,undef,_,_] H (aC (Z0 O (Rf iL O)) (Z1 0 53 O (Ro aD 0 O)) (Z1 1 54 O (Rc O)) (Z1 2 55 O (Rm O)) (aC (Z1 3 56 O (YM (aG c1) O)) (Z2 4 57 3 56 O (YC (aG c1) O)) (Z2 3 56 5 58 O (Pt (aG c1) O)) (Z1 6 59 O (Rm O)) (aC ?_ (Z1 7 60 O (YM (aG c2) O)) ?_ (Z3 8 61 10 63 7 60 O (YI eH cO (aG c2) O O)) (aC (Z2 11 64 7 60 O (YF iL (aG c2) O)) ?_ (Z2 13 66 7 60 O (YC (aG c2) O)) (Z2 7 60 14 67 O (Pt (aG c2) O)) (aC (Z1 15 68 O (Rm O)) (aO 16 (aS c3) O O) (aO 16 (aS c3) O O) (aO 16 (aS c3) O O) (aC (aO 16 (aS c3) O O) (aO 16 (aS c3) O O) (aO 16 (aS c3) O O) (aO 16 (aS c3) O O) (aC (aO 16 (aS c3) O O) (aO 16 (aS c3) O O) (Z2 16 69 25 78 O (Pf (aS c3) O)) (Z1 26 79 O (Ra O)) dG))))))) ?_
    ·exact abV
    ·exact Mv
    ·exact acv
    clear H;intro a w G lH H hv;have H:=H.aQ (hv 27 52 O O) O;clear hv;refine aF ⟨O,?_⟩;refine bZ _ _ ?_;clear bZ;refine oQ H O O ?_;refine kP H (SC (Rm O ?_));clear H;intro a H;refine bq cO (cs:=[_,_,_,_,_,_,_,_,_,_,_]) H wn O O (H.hp.dD 0 O O) O ?_;clear H;intro a H;refine iG eH cO [_,_,_,_,_,_,_,_,_,_,_] [_,_,_,_,_,_,_,_,_,_,_] H wn O O O O O (by intro i q h;match i,h with|0,h=>exact h|n+1,h=>simp at h) O O ?_;clear H;intro PL a w QX H;refine mh (Li:=[_,_]) (Lo:=Lo) (news:=wD) eH cO O O H wn O O hrw (by rw [uH];rfl) (by rw [uH];exact H.hp.dD 0 O O) Ef.one V V O ?_;clear H;intro v31 Dn a w KF H;refine kH H (aZ K7 O (SC (Rd O (Rm O ?_))));clear H K7;intro a H;refine aF ?_;refine dS ((k+1,v31,xs++wD,Dn,G)) (by exact (H.dV (Pl:=[_,_]) (dL:=[]) [] Q1 O).sub ⟨O,O,O,O,aB⟩) ?_
    (try dsimp only);exact P5
   skip;refine dI hmx [[],[0],[0,1],[0,1,2],ra 0 4,ra 0 5,ra 0 6,ra 0 7,ra 0 8,ra 0 8,(ra 0 8++[9]),ra 0 11,ra 0 12,ra 0 13,ra 0 14,ra 0 15,ra 0 16,ra 0 17,ra 0 17,(ra 0 17++[18]),ra 0 20,ra 0 21,ra 0 22,ra 0 17,(ra 0 17++[23]),ra 0 25,ra 0 26,ra 0 27] [] Z [_,vi l[k].kind,_,_,_,_,_,_,undef,undef,undef,undef,undef,undef,undef,_,_,undef,undef,undef,undef,undef,undef,undef,undef,undef,_,_] H (aC (Z0 O (Rf iL O)) (Z1 0 53 O (Ro aD 0 O)) (Z1 1 54 O (Rc O)) (Z1 2 55 O (Rm O)) (aC (Z1 3 56 O (YM (aG c1) O)) (Z2 4 57 3 56 O (YC (aG c1) O)) (Z2 3 56 5 58 O (Pt (aG c1) O)) (Z1 6 59 O (Rm O)) (aC (aO 7 (aS c2) O O) (aO 7 (aS c2) O O) (aO 7 (aS c2) O O) (aO 7 (aS c2) O O) (aC (aO 7 (aS c2) O O) (aO 7 (aS c2) O O) (aO 7 (aS c2) O O) (Z2 7 60 14 67 O (Pf (aS c2) O)) (aC (Z1 15 68 O (Rm O)) (aO 16 O O O) (aO 16 O O O) (aO 16 O O O) (aC (aO 16 O O O) (aO 16 O O O) (aO 16 O O O) (aO 16 O O O) (aC (aO 16 O O O) (aO 16 O O O) (Z2 16 69 25 78 O (Pf O O)) (Z1 26 79 O (Ra O)) dG))))))) ?_
   clear H;intro a w G lH H hv;have H:=H.aQ (hv 27 52 O O) O;clear hv;refine aF ⟨O,?_⟩;refine bZ _ _ ?_;clear bZ;refine oQ H O O ?_;refine kP H (SC (Rm O ?_));clear H;intro a H;refine bq cO (cs:=[_,_,_,_,_,_,_,_,_,_,_]) H wn O O (H.hp.dD 0 O O) O ?_;clear H;intro a H;refine iG eH cO [_,_,_,_,_,_,_,_,_,_,_] [_,_,_,_,_,_,_,_,_,_,_] H wn O O O O O (by intro i q h;match i,h with|0,h=>exact h|n+1,h=>simp at h) O O ?_;clear H;intro PL a w QX H;refine mh (Li:=[_,_]) (Lo:=Lo) (news:=wD) eH cO O O H wn O O hrw (by rw [uH];rfl) (by rw [uH];exact H.hp.dD 0 O O) Ef.one V V O ?_;clear H;intro v31 Dn a w KF H;refine kH H (aZ K7 O (SC (Rd O (Rm O ?_))));clear H K7;intro a H;refine aF ?_;refine dS ((k+1,v31,xs++wD,Dn,G)) (by exact (H.dV (Pl:=[_,_]) (dL:=[]) [] Q1 O).sub ⟨O,O,O,O,aB⟩) ?_
   (try dsimp only);exact P5
  intro h46
  try have p46:=dF h46
  refine kH H (bg h46 O ?_);clear H;intro a H;refine Ov H (wg H O O O) O h46 O O ?_;clear H;intro a H;refine kH H (Pf O O (au bU O (Cf O O (SQ fun _ dP=>?_))));clear H bU;intro a H;obtain ⟨wD,uH⟩:∃ x,x=[vi l[k].kind,vi l[k].code,vi l[k].id,.string l[k].text,.slice a1 a2 a3,vi l[k].head.marks.ins,vi l[k].head.marks.move,.slice a4 a5 a6,.slice a7 a8 a9,.slice Ez n19 c19,.slice IZ n24 c24]:=⟨_,O⟩
  have Ef:aX yu l[k].dat wD:=by
   rw [uH];exact abH
  have hA1:(l.map ak.dat).take (k+1)=(l.map ak.dat).take k++[l[k].dat]:=by rw [jk (by simpa using hk2)];simp
  have HY:=fZ.mono fun b o h=>wN b o (vK b o (nM b o (tJ b o h)))
  obtain ⟨bo,pk,pp,pd,pl,ze⟩:∃ (bo:Nat) (pk:fH × Int) (pp pd pl:ah),0 < (k:Int)->∃ (h:k - 1 < l.length),vA=some ⟨bo,0,none⟩∧pk=(l[k - 1].head,l[k - 1].kind)∧xs[(k - 1)*11]?=some (vi pk.2)∧jI yu pk.1 pp pd pl∧∀ j u,[pp,vi pk.1.marks.ins,vi pk.1.marks.move,pd,pl][j]?=some u->xs[(k - 1)*11+4+j]?=some u:=by
   exact acK
  have NI:l[k].kind=1->0 < (k:Int)->pk.2=1->¬ pk.1=l[k].head:=by
   exact adk
  have c1:¬ (l[k].kind=1):=p46;refine dI hmx [[],[0],[0,1],[0,1,2],ra 0 4,ra 0 5,ra 0 6,ra 0 7,ra 0 8,ra 0 8,(ra 0 8++[9]),ra 0 11,ra 0 12,ra 0 13,ra 0 14,ra 0 15,ra 0 16,ra 0 17,ra 0 17,(ra 0 17++[18]),ra 0 20,ra 0 21,ra 0 22,ra 0 17,(ra 0 17++[23]),ra 0 25,ra 0 26,ra 0 27] [] Z [_,vi l[k].kind,_,_,undef,undef,_,_,undef,undef,undef,undef,undef,undef,undef,_,_,undef,undef,undef,undef,undef,undef,undef,undef,undef,_,_] H (aC (Z0 O (Rf iL O)) (Z1 0 53 O (Ro aD 0 O)) (Z1 1 54 O (Rc O)) (Z1 2 55 O (Rm O)) (aC (aO 3 (aS c1) O O) (aO 3 (aS c1) O O) (Z2 3 56 5 58 O (Pf (aS c1) O)) (Z1 6 59 O (Rm O)) (aC (aO 7 O O O) (aO 7 O O O) (aO 7 O O O) (aO 7 O O O) (aC (aO 7 O O O) (aO 7 O O O) (aO 7 O O O) (Z2 7 60 14 67 O (Pf O O)) (aC (Z1 15 68 O (Rm O)) (aO 16 O O O) (aO 16 O O O) (aO 16 O O O) (aC (aO 16 O O O) (aO 16 O O O) (aO 16 O O O) (aO 16 O O O) (aC (aO 16 O O O) (aO 16 O O O) (Z2 16 69 25 78 O (Pf O O)) (Z1 26 79 O (Ra O)) dG))))))) ?_
  clear H;intro a w G lH H hv;have H:=H.aQ (hv 27 52 O O) O;clear hv;refine aF ⟨O,?_⟩;refine dP _ _ ?_;clear dP;refine oQ H O O ?_;refine kP H (SC (Rm O ?_));clear H;intro a H;refine bq cO (cs:=[_,_,_,_,_,_,_,_,_,_,_]) H wn O O (H.hp.dD 0 O O) O ?_;clear H;intro a H;refine iG eH cO [_,_,_,_,_,_,_,_,_,_,_] [_,_,_,_,_,_,_,_,_,_,_] H wn O O O O O (by intro i q h;match i,h with|0,h=>exact h|n+1,h=>simp at h) O O ?_;clear H;intro PL a w QX H;refine mh (Li:=[_,_]) (Lo:=Lo) (news:=wD) eH cO O O H wn O O hrw (by rw [uH];rfl) (by rw [uH];exact H.hp.dD 0 O O) Ef.one V V O ?_;clear H;intro v31 Dn a w KF H;refine kH H (aZ K7 O (SC (Rd O (Rm O ?_))));clear H K7;intro a H;refine aF ?_;refine dS ((k+1,v31,xs++wD,Dn,G)) (by exact (H.dV (Pl:=[_,_]) (dL:=[]) [] Q1 O).sub ⟨O,O,O,O,aB⟩) ?_
  (try dsimp only);exact P5
 intro h10 a H
 try have kN:=dF h10
 refine dX ?_;refine K3 _ _ ?_;clear K3;refine bP (fun _ dY=>?_);obtain ⟨G',hm,hrep,H⟩:=H.qF (Li:=[]) hrw (rows:=l.map ak.dat) (by simp;omega) (by rw [lU (by simp;omega)] at fZ;exact fZ);exact kP H (SC (Rm O (aZ dY O (LR results74 O fun H=>H.rt hrep))))



theorem aCT (l m:List ak):aP (l++m)=aP l+aP m:=by simp [aP,LA]


end Go.Proofs.YtggpjlchglgodaaGreat
