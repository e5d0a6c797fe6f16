/-
  What the claim stands on, part 3: Ehd Dc24 Bld Fst Nam Pn De Dj Dk Dw Lsc Dm Dl Lfl Dv Lpc Scn By Lps Lcl Dst Sty Stz Dsc Mi.
-/
import Derived.Test.YtdiflmikikiedaaGreatWeb
import Derived.Lib.ConvBytes
namespace Go.Proofs.YtdiflmikikiedaaGreat
set_option linter.all false
open Go.Proofs.Tryz
open Go.RowKit
theorem ajB:Ni prog 187 [(0,false),(1,false)]:=⟨by kernel_rfl,by kernel_rfl,by kernel_rfl,by kernel_rfl,by kernel_rfl⟩
theorem ajz:Ni prog 159 [(0,false),(1,false)]:=⟨by kernel_rfl,by kernel_rfl,by kernel_rfl,by kernel_rfl,by kernel_rfl⟩
theorem ajA:Ni prog 161 [(0,false),(1,false),(2,false),(3,true)]:=⟨by kernel_rfl,by kernel_rfl,by kernel_rfl,by kernel_rfl,by kernel_rfl⟩
theorem ahb:∀ args w,(callFunc 102 args).run prog w=.ok (.enter 102 args) w:=enters func102 rfl (by kernel_rfl)
theorem sw:dN prog 27 0 0:=⟨by kernel_rfl⟩
theorem BQ:dN prog 27 1 1:=⟨by kernel_rfl⟩
theorem ahc:∀ args w,(callFunc 103 args).run prog w=.ok (.enter 103 args) w:=enters func103 rfl (by kernel_rfl)
theorem ahd:∀ args w,(callFunc 104 args).run prog w=.ok (.enter 104 args) w:=enters func104 rfl (by kernel_rfl)
abbrev gq.cells (x:gq):List aj:=[vi x.rev,vi x.move]
abbrev cO.cells (x:cO):List aj:=[vi x.rev,vi x.key,vi x.before,.bool x.had]
theorem KO {G:GH} {x:gq} {cs:List aj} (h:aR G x.dat cs):cs=x.cells:=by
 simp only [gq.dat,aR,av] at h
 obtain ⟨_,_,rfl,⟨rfl,_⟩,_,_,rfl,⟨rfl,_⟩,rfl⟩:=h
 rfl
theorem Vl {G:GH} {x:cO} {cs:List aj} (h:aR G x.dat cs):cs=x.cells:=by
 simp only [cO.dat,aR,av] at h
 obtain ⟨_,_,rfl,⟨rfl,_⟩,_,_,rfl,⟨rfl,_⟩,_,_,rfl,⟨rfl,_⟩,_,_,rfl,⟨rfl,_⟩,rfl⟩:=h
 rfl
theorem aO.eq_iff (a b:aO):(a.key=b.key∧a.value=b.value)↔a=b:=by cases a;cases b;simp
theorem gq.eq_iff (a b:gq):(a.rev=b.rev∧a.move=b.move)↔a=b:=by cases a;cases b;simp
theorem cO.eq_iff (a b:cO):(a.rev=b.rev∧a.key=b.key∧a.before=b.before∧a.had=b.had)↔a=b:=by cases a;cases b;simp
instance:DecidableEq aO:=fun a b=>decidable_of_iff _ (aO.eq_iff a b)
instance:DecidableEq gq:=fun a b=>decidable_of_iff _ (gq.eq_iff a b)
instance:DecidableEq cO:=fun a b=>decidable_of_iff _ (cO.eq_iff a b)
theorem aon (a b:aO):(!([(0,false),(1,false)].all fun o=>lN #[vi a.key,vi a.value] o == lN #[vi b.key,vi b.value] o))=!decide (a=b):=by
 have h:=aO.eq_iff a b;rw [tq]
 simp only [wV,ny]
 rw [← h]
 simp [lN]
theorem aol (a b:gq):(!([(0,false),(1,false)].all fun o=>lN #[vi a.rev,vi a.move] o == lN #[vi b.rev,vi b.move] o))=!decide (a=b):=by
 have h:=gq.eq_iff a b;rw [tq]
 simp only [wV,ny]
 rw [← h]
 simp [lN]
theorem aom (a b:cO):(!([(0,false),(1,false),(2,false),(3,true)].all fun o=>lN #[vi a.rev,vi a.key,vi a.before,.bool a.had] o == lN #[vi b.rev,vi b.key,vi b.before,.bool b.had] o))=!decide (a=b):=by
 have h:=cO.eq_iff a b;rw [tq]
 simp only [wV,ny]
 rw [← h]
 simp [lN]
theorem ajy (G:GH) (w0:World) (hG:Hold G w0) (A B:List aO) (v u:aj) (hv:av G (.sl 2 (A.map aO.dat)) v) (hu:av G (.sl 2 (B.map aO.dat)) u) :
  Calls prog 102 #[v,u] w0 (bH w0 G fun r G'=>r=.bool (decide (A=B))):=by
 obtain ⟨vA,vc,rfl,hc1,hc2,hg⟩:=hv.slice;obtain ⟨uA,uc,rfl,hd1,hd2,hh⟩:=hu.slice;have hml:maxLen=9223372036854775807:=rfl;(iterate 2 rw [aZ] at *);refine eN [(0,_),(1,_)] func102 rfl ntmps102 rfl rfl hG ?_;intro a H;refine kP H (SR fun _ K1=>ak K1 rfl (SQ fun _ K2=>SR fun _ K3=>Rm rfl (Rl gG rfl (Rm rfl (Rl gG rfl (Rc rfl (Kz K3 (Cd rfl ?_ ?_)))))))) <;> clear H K1 K3
 ·intro h10 a H
  try have nV:=dT h10
  exact kP H (SR fun _ K4=>ak K4 rfl (LR results102 rfl fun H=>H.rt (dO (kX fun e=>absurd (aB List.length e) (by omega)).symm)))
 intro h10 a H
 try have nV:=dF h10
 refine kP H (Kc K2 (SQ fun _ K5=>SR fun _ K6=>Rm rfl (Rl gG rfl (Rm rfl (Kz K6 (SB ?_))))));clear H K2 K6;intro a H;skip;refine fH (ι:=Nat × GH) (Tc:=[(0,_),(1,_),(12,_)]) (Lc:=[]) (fun gh=>[(13,vi gh.1)]) (fun gh=>[]) (fun gh=>gh.2) (fun gh=>gh.1≤A.length∧A.take gh.1=B.take gh.1∧(∀ b o,G b=some o→gh.2 b=some o)) (fun gh=>A.length - gh.1) ((0,G)) (by exact (H).sub ⟨rfl,rfl,rfl,rfl,aC⟩) ?_ ?_
 ·exact ⟨by omega,rfl,fun _ _ h=>h⟩
 clear H;rintro ⟨k,g⟩ a w hI H;dsimp only at hI H;obtain ⟨hk,hsame,hgm⟩:=hI;dsimp only [lca,bq] at H;refine kP H (SR fun _ K7=>Rc rfl (Kz K7 (SQ fun _ K8=>Cd rfl ?_ ?_))) <;> clear H K7
 ·intro jD a H
  try have xL:=dT jD
  have hk2:k < A.length:=by omega
  have hk3:k < B.length:=by omega
  obtain ⟨b1,o1,cs1,rfl,aai,Mf,hr1⟩:=hg k A[k].dat (by simp [hk2]);obtain rfl:=PO hr1;obtain ⟨b2,o2,cs2,rfl,OE,hrow2,hr2⟩:=hh k B[k].dat (by simp [hk3]);obtain rfl:=PO hr2;refine kP H (Kc K8 (SQ fun _ K9=>SB (SR fun _ aW=>Rm rfl (ak aW rfl (SQ fun _ bO=>?_)))));clear H K8 aW;intro a H;refine dI hmx [[],[],[0,1],[0,1,2],[],[],[4,5],[4,5,6],(ra 0 8)] [] (by kernel_rfl) [_,_,_,.agg A[k].cells.toArray,_,_,_,.agg B[k].cells.toArray,.bool (!decide (A[k]=B[k]))] H (aF (Z0 rfl (Rm rfl)) (Z0 rfl (Rm rfl)) (Z2 0 16 1 17 rfl (Ri gG gT rfl rfl)) ?_ (aF (Z0 rfl (Rm rfl)) (Z0 rfl (Rm rfl)) (Z2 4 20 5 21 rfl (Ri gG gT rfl rfl)) ?_ (bM ?_ dz))) ?_
  ·refine eP 2 18 rfl rfl fun _ a w G1 hG HT H fin=>?_;refine bB gT (cs:=A[k].cells) H wn rfl rfl (fun j v hj=>H.hp.aI (aJ hG (aJ hgm (Mf j v hj)))) rfl ?_;clear H;intro a H;exact fin H iJ rfl
  ·refine eP 6 22 rfl rfl fun _ a w G1 hG HT H fin=>?_;refine bB gT (cs:=B[k].cells) H wn rfl rfl (fun j v hj=>H.hp.aI (aJ hG (aJ hgm (hrow2 j v hj)))) rfl ?_;clear H;intro a H;exact fin H iJ rfl
  ·refine dK 3 19 7 23 rfl rfl fun _ a w G1 hG HT H fin=>?_;refine V8 (.inr rfl) ajB H wn rfl rfl rfl rfl ?_;clear H;intro a H;exact fin H iJ (dO (aon A[k] B[k]))
  clear H;intro a w G iU H hv;have H:=H.aM (hv 8 24 rfl rfl) rfl;clear hv;refine aD ⟨rfl,?_⟩;refine bO _ _ ?_;clear bO;refine jC H rfl ?_ ?_
  ·intro fB
   exact kP H (SR fun _ bW=>ak bW rfl (LR results102 rfl fun H=>H.rt (dO (kX fun e=>absurd fB (by subst e;simp)).symm)))
  intro fB
  try have mX:=dF fB
  have hsm:A[k]=B[k]:=by simpa using fB
  refine kP H (Kc K9 (SC (Rd rfl (Rm rfl ?_))));clear H K9;intro a H;refine aD ?_;refine dM ((k+1,G)) (by exact (H).sub ⟨rfl,rfl,rfl,rfl,aC⟩) ?_
  (try dsimp only);exact ⟨by omega,by rw [iH hk2,iH hk3,hsame,hsm],fun b o h=>iU b o (hgm b o h)⟩
 intro jD a H
 try have xL:=dF jD
 refine eu ?_;refine K5 _ _ ?_;clear K5;exact kP H (SR fun _ cB=>ak cB rfl (LR results102 rfl fun H=>H.rt (dO (jB (by rw [iX (by omega),iX (by omega)] at hsame;exact hsame)).symm)))
theorem ajw (G:GH) (w0:World) (hG:Hold G w0) (A B:List gq) (v u:aj) (hv:av G (.sl 2 (A.map gq.dat)) v) (hu:av G (.sl 2 (B.map gq.dat)) u) :
  Calls prog 103 #[v,u] w0 (bH w0 G fun r G'=>r=.bool (decide (A=B))):=by
 obtain ⟨vA,vc,rfl,hc1,hc2,hg⟩:=hv.slice;obtain ⟨uA,uc,rfl,hd1,hd2,hh⟩:=hu.slice;have hml:maxLen=9223372036854775807:=rfl;(iterate 2 rw [aZ] at *);refine eN [(0,_),(1,_)] func103 rfl ntmps103 rfl rfl hG ?_;intro a H;refine kP H (SR fun _ K1=>ak K1 rfl (SQ fun _ K2=>SR fun _ K3=>Rm rfl (Rl lU rfl (Rm rfl (Rl lU rfl (Rc rfl (Kz K3 (Cd rfl ?_ ?_)))))))) <;> clear H K1 K3
 ·intro h10 a H
  try have nV:=dT h10
  exact kP H (SR fun _ K4=>ak K4 rfl (LR results103 rfl fun H=>H.rt (dO (kX fun e=>absurd (aB List.length e) (by omega)).symm)))
 intro h10 a H
 try have nV:=dF h10
 refine kP H (Kc K2 (SQ fun _ K5=>SR fun _ K6=>Rm rfl (Rl lU rfl (Rm rfl (Kz K6 (SB ?_))))));clear H K2 K6;intro a H;skip;refine fH (ι:=Nat × GH) (Tc:=[(0,_),(1,_),(12,_)]) (Lc:=[]) (fun gh=>[(13,vi gh.1)]) (fun gh=>[]) (fun gh=>gh.2) (fun gh=>gh.1≤A.length∧A.take gh.1=B.take gh.1∧(∀ b o,G b=some o→gh.2 b=some o)) (fun gh=>A.length - gh.1) ((0,G)) (by exact (H).sub ⟨rfl,rfl,rfl,rfl,aC⟩) ?_ ?_
 ·exact ⟨by omega,rfl,fun _ _ h=>h⟩
 clear H;rintro ⟨k,g⟩ a w hI H;dsimp only at hI H;obtain ⟨hk,hsame,hgm⟩:=hI;dsimp only [lca,bq] at H;refine kP H (SR fun _ K7=>Rc rfl (Kz K7 (SQ fun _ K8=>Cd rfl ?_ ?_))) <;> clear H K7
 ·intro jD a H
  try have xL:=dT jD
  have hk2:k < A.length:=by omega
  have hk3:k < B.length:=by omega
  obtain ⟨b1,o1,cs1,rfl,aai,Mf,hr1⟩:=hg k A[k].dat (by simp [hk2]);obtain rfl:=KO hr1;obtain ⟨b2,o2,cs2,rfl,OE,hrow2,hr2⟩:=hh k B[k].dat (by simp [hk3]);obtain rfl:=KO hr2;refine kP H (Kc K8 (SQ fun _ K9=>SB (SR fun _ aW=>Rm rfl (ak aW rfl (SQ fun _ bO=>?_)))));clear H K8 aW;intro a H;refine dI hmx [[],[],[0,1],[0,1,2],[],[],[4,5],[4,5,6],(ra 0 8)] [] (by kernel_rfl) [_,_,_,.agg A[k].cells.toArray,_,_,_,.agg B[k].cells.toArray,.bool (!decide (A[k]=B[k]))] H (aF (Z0 rfl (Rm rfl)) (Z0 rfl (Rm rfl)) (Z2 0 16 1 17 rfl (Ri lU nK rfl rfl)) ?_ (aF (Z0 rfl (Rm rfl)) (Z0 rfl (Rm rfl)) (Z2 4 20 5 21 rfl (Ri lU nK rfl rfl)) ?_ (bM ?_ dz))) ?_
  ·refine eP 2 18 rfl rfl fun _ a w G1 hG HT H fin=>?_;refine bB nK (cs:=A[k].cells) H wn rfl rfl (fun j v hj=>H.hp.aI (aJ hG (aJ hgm (Mf j v hj)))) rfl ?_;clear H;intro a H;exact fin H iJ rfl
  ·refine eP 6 22 rfl rfl fun _ a w G1 hG HT H fin=>?_;refine bB nK (cs:=B[k].cells) H wn rfl rfl (fun j v hj=>H.hp.aI (aJ hG (aJ hgm (hrow2 j v hj)))) rfl ?_;clear H;intro a H;exact fin H iJ rfl
  ·refine dK 3 19 7 23 rfl rfl fun _ a w G1 hG HT H fin=>?_;refine V8 (.inr rfl) ajz H wn rfl rfl rfl rfl ?_;clear H;intro a H;exact fin H iJ (dO (aol A[k] B[k]))
  clear H;intro a w G iU H hv;have H:=H.aM (hv 8 24 rfl rfl) rfl;clear hv;refine aD ⟨rfl,?_⟩;refine bO _ _ ?_;clear bO;refine jC H rfl ?_ ?_
  ·intro fB
   exact kP H (SR fun _ bW=>ak bW rfl (LR results103 rfl fun H=>H.rt (dO (kX fun e=>absurd fB (by subst e;simp)).symm)))
  intro fB
  try have mX:=dF fB
  have hsm:A[k]=B[k]:=by simpa using fB
  refine kP H (Kc K9 (SC (Rd rfl (Rm rfl ?_))));clear H K9;intro a H;refine aD ?_;refine dM ((k+1,G)) (by exact (H).sub ⟨rfl,rfl,rfl,rfl,aC⟩) ?_
  (try dsimp only);exact ⟨by omega,by rw [iH hk2,iH hk3,hsame,hsm],fun b o h=>iU b o (hgm b o h)⟩
 intro jD a H
 try have xL:=dF jD
 refine eu ?_;refine K5 _ _ ?_;clear K5;exact kP H (SR fun _ cB=>ak cB rfl (LR results103 rfl fun H=>H.rt (dO (jB (by rw [iX (by omega),iX (by omega)] at hsame;exact hsame)).symm)))
theorem ajx (G:GH) (w0:World) (hG:Hold G w0) (A B:List cO) (v u:aj) (hv:av G (.sl 4 (A.map cO.dat)) v) (hu:av G (.sl 4 (B.map cO.dat)) u) :
  Calls prog 104 #[v,u] w0 (bH w0 G fun r G'=>r=.bool (decide (A=B))):=by
 obtain ⟨vA,vc,rfl,hc1,hc2,hg⟩:=hv.slice;obtain ⟨uA,uc,rfl,hd1,hd2,hh⟩:=hu.slice;have hml:maxLen=9223372036854775807:=rfl;(iterate 2 rw [aZ] at *);refine eN [(0,_),(1,_)] func104 rfl ntmps104 rfl rfl hG ?_;intro a H;refine kP H (SR fun _ K1=>ak K1 rfl (SQ fun _ K2=>SR fun _ K3=>Rm rfl (Rl kF rfl (Rm rfl (Rl kF rfl (Rc rfl (Kz K3 (Cd rfl ?_ ?_)))))))) <;> clear H K1 K3
 ·intro h10 a H
  try have nV:=dT h10
  exact kP H (SR fun _ K4=>ak K4 rfl (LR results104 rfl fun H=>H.rt (dO (kX fun e=>absurd (aB List.length e) (by omega)).symm)))
 intro h10 a H
 try have nV:=dF h10
 refine kP H (Kc K2 (SQ fun _ K5=>SR fun _ K6=>Rm rfl (Rl kF rfl (Rm rfl (Kz K6 (SB ?_))))));clear H K2 K6;intro a H;skip;refine fH (ι:=Nat × GH) (Tc:=[(0,_),(1,_),(12,_)]) (Lc:=[]) (fun gh=>[(13,vi gh.1)]) (fun gh=>[]) (fun gh=>gh.2) (fun gh=>gh.1≤A.length∧A.take gh.1=B.take gh.1∧(∀ b o,G b=some o→gh.2 b=some o)) (fun gh=>A.length - gh.1) ((0,G)) (by exact (H).sub ⟨rfl,rfl,rfl,rfl,aC⟩) ?_ ?_
 ·exact ⟨by omega,rfl,fun _ _ h=>h⟩
 clear H;rintro ⟨k,g⟩ a w hI H;dsimp only at hI H;obtain ⟨hk,hsame,hgm⟩:=hI;dsimp only [lca,bq] at H;refine kP H (SR fun _ K7=>Rc rfl (Kz K7 (SQ fun _ K8=>Cd rfl ?_ ?_))) <;> clear H K7
 ·intro jD a H
  try have xL:=dT jD
  have hk2:k < A.length:=by omega
  have hk3:k < B.length:=by omega
  obtain ⟨b1,o1,cs1,rfl,aai,Mf,hr1⟩:=hg k A[k].dat (by simp [hk2]);obtain rfl:=Vl hr1;obtain ⟨b2,o2,cs2,rfl,OE,hrow2,hr2⟩:=hh k B[k].dat (by simp [hk3]);obtain rfl:=Vl hr2;refine kP H (Kc K8 (SQ fun _ K9=>SB (SR fun _ aW=>Rm rfl (ak aW rfl (SQ fun _ bO=>?_)))));clear H K8 aW;intro a H;refine dI hmx [[],[],[0,1],[0,1,2],[],[],[4,5],[4,5,6],(ra 0 8)] [] (by kernel_rfl) [_,_,_,.agg A[k].cells.toArray,_,_,_,.agg B[k].cells.toArray,.bool (!decide (A[k]=B[k]))] H (aF (Z0 rfl (Rm rfl)) (Z0 rfl (Rm rfl)) (Z2 0 16 1 17 rfl (Ri kF ji rfl rfl)) ?_ (aF (Z0 rfl (Rm rfl)) (Z0 rfl (Rm rfl)) (Z2 4 20 5 21 rfl (Ri kF ji rfl rfl)) ?_ (bM ?_ dz))) ?_
  ·refine eP 2 18 rfl rfl fun _ a w G1 hG HT H fin=>?_;refine bB ji (cs:=A[k].cells) H wn rfl rfl (fun j v hj=>H.hp.aI (aJ hG (aJ hgm (Mf j v hj)))) rfl ?_;clear H;intro a H;exact fin H iJ rfl
  ·refine eP 6 22 rfl rfl fun _ a w G1 hG HT H fin=>?_;refine bB ji (cs:=B[k].cells) H wn rfl rfl (fun j v hj=>H.hp.aI (aJ hG (aJ hgm (hrow2 j v hj)))) rfl ?_;clear H;intro a H;exact fin H iJ rfl
  ·refine dK 3 19 7 23 rfl rfl fun _ a w G1 hG HT H fin=>?_;refine V8 (.inr rfl) ajA H wn rfl rfl rfl rfl ?_;clear H;intro a H;exact fin H iJ (dO (aom A[k] B[k]))
  clear H;intro a w G iU H hv;have H:=H.aM (hv 8 24 rfl rfl) rfl;clear hv;refine aD ⟨rfl,?_⟩;refine bO _ _ ?_;clear bO;refine jC H rfl ?_ ?_
  ·intro fB
   exact kP H (SR fun _ bW=>ak bW rfl (LR results104 rfl fun H=>H.rt (dO (kX fun e=>absurd fB (by subst e;simp)).symm)))
  intro fB
  try have mX:=dF fB
  have hsm:A[k]=B[k]:=by simpa using fB
  refine kP H (Kc K9 (SC (Rd rfl (Rm rfl ?_))));clear H K9;intro a H;refine aD ?_;refine dM ((k+1,G)) (by exact (H).sub ⟨rfl,rfl,rfl,rfl,aC⟩) ?_
  (try dsimp only);exact ⟨by omega,by rw [iH hk2,iH hk3,hsame,hsm],fun b o h=>iU b o (hgm b o h)⟩
 intro jD a H
 try have xL:=dF jD
 refine eu ?_;refine K5 _ _ ?_;clear K5;exact kP H (SR fun _ cB=>ak cB rfl (LR results104 rfl fun H=>H.rt (dO (jB (by rw [iX (by omega),iX (by omega)] at hsame;exact hsame)).symm)))
theorem dQ.eq_iff (a b:dQ):(((a.props=b.props∧a.marks.ins=b.marks.ins)∧a.marks.move=b.marks.move)∧a.marks.bJ=b.marks.bJ)∧a.marks.layers=b.marks.layers↔a=b:=by
 obtain ⟨p,i,m,d,l⟩:=a;obtain ⟨p2,i2,m2,d2,l2⟩:=b
 simp [and_assoc]
instance:DecidableEq dQ:=fun a b=>decidable_of_iff _ (dQ.eq_iff a b)
abbrev rz (h:dQ) (p d l:aj):aj:=.agg #[p,vi h.marks.ins,vi h.marks.move,d,l]
theorem Zp (G:GH) (w0:World) (hG:Hold G w0) (x y:dQ) (p d l p2 d2 l2:aj) (hx:jc G x p d l) (hy:jc G y p2 d2 l2) :
  Calls prog 52 #[rz x p d l,rz y p2 d2 l2] w0 (bH w0 G fun r G'=>r=.bool (decide (x=y))):=by
 obtain ⟨pA,pc,rfl,-,-,-⟩:=hx.props.slice;obtain ⟨dA,dc,rfl,-,-,-⟩:=hx.bJ.slice;obtain ⟨lA,lc,rfl,-,-,-⟩:=hx.layers.slice;obtain ⟨pA2,pc2,rfl,-,-,-⟩:=hy.props.slice;obtain ⟨dA2,dc2,rfl,-,-,-⟩:=hy.bJ.slice;obtain ⟨lA2,lc2,rfl,-,-,-⟩:=hy.layers.slice;have he:=dQ.eq_iff x y;refine eN [(0,_),(1,_)] func52 rfl ntmps52 rfl rfl hG ?_;intro a H;refine bZ (fun _ K1=>?_);refine dZ (cs:=[_,_,_,_,_]) H wn rfl rfl rfl ?_;clear H;intro b2 a w hb2 H;refine dZ (cs:=[_,_,_,_,_]) H wn rfl rfl rfl ?_;clear H;intro b3 a w hb3 H;refine kH H (ak K1 rfl (SR fun _ K2=>bG yC uO 1 rfl rfl (bG yC uO 0 rfl rfl ?_)));clear H K1;intro a H;refine s_call ahb H wn rfl (ajy _ _ H.ro x.props y.props _ _ hx.props hy.props) rfl ?_;clear H;rintro v9 G9 a w rfl yM H;refine kH H (Rm rfl (Sp 10 rfl ?_ ?_)) <;> clear H
 ·intro h10 a H
  try have nV:=dT h10
  refine kH H (YF mD h10 rfl (YF sw h10 rfl (YO aH 1 h10 rfl (YF mD h10 rfl (YF sw h10 rfl (YO aH 0 h10 rfl (YC h10 rfl (Pt h10 rfl (Rm rfl (Sp 19 rfl ?_ ?_)))))))))) <;> clear H
  ·intro h19 a H
   try have sO:=dT h19
   refine kH H (YF mD h19 rfl (YF BQ h19 rfl (YO aH 1 h19 rfl (YF mD h19 rfl (YF BQ h19 rfl (YO aH 0 h19 rfl (YC h19 rfl (Pt h19 rfl (Rm rfl (Sp 28 rfl ?_ ?_)))))))))) <;> clear H
   ·intro fQ a H
    try have p28:=dT fQ
    refine kH H (YF mD fQ rfl (YF qj fQ rfl (YO qy 1 fQ rfl (YF mD fQ rfl (YF qj fQ rfl (YO qy 0 fQ rfl ?_))))));clear H;intro a H;refine s_call ahc H (wg H rfl rfl fQ) rfl (ajw _ _ H.ro x.marks.bJ y.marks.bJ _ _ (hx.bJ.mono yM) (hy.bJ.mono yM)) rfl ?_;clear H;rintro v35 QG a w rfl Jm H;refine kH H (Pt fQ rfl (Rm rfl (Sp 37 rfl ?_ ?_))) <;> clear H
    ·intro h37 a H
     try have p37:=dT h37
     refine kH H (YF mD h37 rfl (YF Ag h37 rfl (YO Bn 1 h37 rfl (YF mD h37 rfl (YF Ag h37 rfl (YO Bn 0 h37 rfl ?_))))));clear H;intro a H;refine s_call ahd H (wg H rfl rfl h37) rfl (ajx _ _ H.ro x.marks.layers y.marks.layers _ _ ((hx.layers.mono yM).mono Jm) ((hy.layers.mono yM).mono Jm)) rfl ?_;clear H;rintro v44 G44 a w rfl auj H;exact kH H (Pt h37 rfl (ak K2 rfl (LR results52 rfl fun H=>H.rt (dO (by simp_all)))))
    intro h37 a H
    try have p37:=dF h37
    exact kH H (bD h37 rfl (aP h37 rfl (aP h37 rfl (Pf h37 rfl (ak K2 rfl (LR results52 rfl fun H=>H.rt (dO (by simp_all))))))))
   intro fQ a H
   try have p28:=dF fQ
   exact kH H (bD fQ rfl (aP fQ rfl (aP fQ rfl (Pf fQ rfl (Rm rfl (bD rfl rfl (aP rfl rfl (aP rfl rfl (Pf rfl rfl (ak K2 rfl (LR results52 rfl fun H=>H.rt (dO (by simp_all)))))))))))))
  intro h19 a H
  try have sO:=dF h19
  exact kH H (bD h19 rfl (aP h19 rfl (aP h19 rfl (Pf h19 rfl (Rm rfl (bD rfl rfl (aP rfl rfl (aP rfl rfl (Pf rfl rfl (Rm rfl (bD rfl rfl (aP rfl rfl (aP rfl rfl (Pf rfl rfl (ak K2 rfl (LR results52 rfl fun H=>H.rt (dO (by simp_all))))))))))))))))))
 intro h10 a H
 try have nV:=dF h10
 exact kH H (bD h10 rfl (aP h10 rfl (aP h10 rfl (Pf h10 rfl (Rm rfl (bD rfl rfl (aP rfl rfl (aP rfl rfl (Pf rfl rfl (Rm rfl (bD rfl rfl (aP rfl rfl (aP rfl rfl (Pf rfl rfl (Rm rfl (bD rfl rfl (aP rfl rfl (aP rfl rfl (Pf rfl rfl (ak K2 rfl (LR results52 rfl fun H=>H.rt (dO (by simp_all)))))))))))))))))))))))
def qZ:Nat→List cO→List (Int × List cO)
 | 0,_=>[]
 | _+1,[]=>[]
 | f+1,y :: r=>(y.key,y :: r.takeWhile fun z=>decide (z.key=y.key)) :: qZ f (r.dropWhile fun z=>decide (z.key=y.key))
def nP (acc:Int→Bool):List cO→Nat→Nat→Nat
 | [],_,c=>c
 | y :: r,k,c=>nP acc r (k+1) (if acc y.rev=true then k+1 else c)
def xH (rej:Int→Bool) (xQ:List (Int × Bool)):List cO→Nat→Int × Bool→List cO × (Int × Bool)
 | [],_,now=>([],now)
 | y :: r,k,now=>if rej y.rev=true then xH rej xQ r (k+1) now else
  let q:=xH rej xQ r (k+1) (xQ.getD (k+1) (0,false))
  (⟨y.rev,y.key,now.1,now.2⟩ :: q.1,q.2)
def qO (props:List aO) (key:Int) (l:List cO):List (Int × Bool):=l.map (fun y=>(y.before,y.had))++[Ai props key]
def sF (acc rej:Int→Bool) (props:List aO) (key:Int) (l:List cO):List cO × (Int × Bool) :=
 xH rej (qO props key l) (l.drop (nP acc l 0 0)) (nP acc l 0 0) ((qO props key l).getD (nP acc l 0 0) (0,false))
def zT (l:List aO) (k:Int) (s:Int × Bool):List aO:=if s.2=true then Fg l k s.1 else Ep l k
def xg (acc rej:Int→Bool) (props:List aO):List (Int × List cO)→List aO × List cO→List aO × List cO
 | [],s=>s
 | (k,l) :: r,s=>xg acc rej props r (zT s.1 k (sF acc rej props k l).2,s.2++(sF acc rej props k l).1)
def tC (acc rej:Int→Bool) (h:dQ):Prop:=(h.marks.ins≠0∧rej h.marks.ins=true)∨∃ x∈h.marks.bJ,acc x.rev=true
instance (acc rej:Int→Bool) (h:dQ):Decidable (tC acc rej h):=inferInstanceAs (Decidable (_∨_))
def vH (acc:Int→Bool) (h:dQ):Prop:=h.marks.ins≠0∧acc h.marks.ins=true
instance (acc:Int→Bool) (h:dQ):Decidable (vH acc h):=inferInstanceAs (Decidable (_∧_))
def mQ (acc rej:Int→Bool) (h:dQ):dQ :=
 let q:=xg acc rej h.props (qZ h.marks.layers.length h.marks.layers) (h.props,[])
 ⟨q.1,⟨if vH acc h then 0 else h.marks.ins,if vH acc h then 0 else h.marks.move,h.marks.bJ.filter fun x=>!rej x.rev,q.2⟩⟩
def CB:dQ:=⟨[],⟨0,0,[],[]⟩⟩
def XO (b:Bool) (h:dQ) (u:aj) (G:GH):Prop:=∃ p d l,u=.tuple #[rz h p d l,.bool b]∧jc G h p d l
theorem Qz (G:GH):jc G CB (.slice none 0 0) (.slice none 0 0) (.slice none 0 0):=⟨av.iL rfl (by decide),av.iL rfl (by decide),av.iL rfl (by decide)⟩
theorem arb (l:List aO) (k v:Int):(Fg l k v).length≤l.length+1:=by
 unfold Fg;split
 ·rw [List.length_set];omega
 have:=FN (l.map aO.key) k;rw [aZ] at this
 simp only [iN,List.length_take,kW,List.length_drop];omega
theorem agw (l:List aO) (k:Int):(Ep l k).length≤l.length:=by
 unfold Ep;split
 ·have:=FN (l.map aO.key) k;rw [aZ] at this
  simp only [iN,List.length_take,List.length_drop];omega
 exact bL _
theorem aeh (l:List aO) (k:Int) (s:Int × Bool):(zT l k s).length≤l.length+1:=by
 unfold zT;split
 ·exact arb _ _ _
 have:=agw l k;omega
theorem Vj (rej:Int→Bool) (xQ:List (Int × Bool)):∀ (l:List cO) (k:Nat) (now:Int × Bool),(xH rej xQ l k now).1.length≤l.length
 | [],_,_=>by rw [xH];exact bL _
 | y :: r,k,now=>by
  rw [xH];split
  ·have:=Vj rej xQ r (k+1) now;simp only [kW];omega
  have:=Vj rej xQ r (k+1) (xQ.getD (k+1) (0,false));simp only [kW];omega
theorem S9 (acc rej:Int→Bool) (props:List aO) (key:Int) (l:List cO):(sF acc rej props key l).1.length≤l.length:=by
 have:=Vj rej (qO props key l) (l.drop (nP acc l 0 0)) (nP acc l 0 0) ((qO props key l).getD (nP acc l 0 0) (0,false));rw [List.length_drop] at this
 unfold sF;omega
theorem Lg:∀ (f:Nat) (l:List cO),l.length≤f→(qZ f l).flatMap Prod.snd=l∧∀ q∈qZ f l,q.2≠[]
 | 0,l,h=>by
  have:l=[]:=List.eq_nil_of_length_eq_zero (by omega);subst this;exact ⟨rfl,fun q hq=>by cases hq⟩
 | f+1,[],_=>⟨rfl,fun q hq=>by cases hq⟩
 | f+1,y :: r,h=>by
  have h2:(r.dropWhile fun z=>decide (z.key=y.key)).length≤f:=by
   have:=(List.dropWhile_sublist (l:=r) fun z=>decide (z.key=y.key)).length_le
   simp only [kW] at h;omega
  obtain ⟨e1,e2⟩:=Lg f _ h2;rw [qZ];refine ⟨?_,fun q hq=>?_⟩
  ·rw [List.flatMap_cons,e1]
   show (y :: _)++_=_
   rw [lD,List.takeWhile_append_dropWhile]
  rcases kL.1 hq with rfl|hq
  ·exact List.cons_ne_nil _ _
  exact e2 q hq
theorem Wn:IB prog 172:=⟨by kernel_rfl⟩
theorem afF:prog.cellsOf 5=1:=by kernel_rfl
theorem aos (v:aj) (w:World):(callFunc 210 #[v]).run prog w=.ok (.value v) w:=aqn func210 (by kernel_rfl) (by kernel_rfl) (by kernel_rfl) (by kernel_rfl) v w
theorem MV:prog.underlying 169=some (.pointer 172):=by kernel_rfl
theorem adN:prog.underlying 280=some .unsafePointer:=by kernel_rfl
theorem KX:dN prog 172 0 0:=⟨by kernel_rfl⟩
theorem MQ:Ty prog 169 1 8 [.pointer none] false:=⟨by kernel_rfl,by kernel_rfl⟩
theorem ahD:∀ args w,(callFunc 154 args).run prog w=.ok (.enter 154 args) w:=enters func154 rfl (by kernel_rfl)
theorem Ig:prog.underlying 170=some (.slice 5):=by kernel_rfl
theorem I6:dN prog 172 1 1:=⟨by kernel_rfl⟩
theorem JV:Ty prog 170 1 24 [.slice none 0 0] false:=⟨by kernel_rfl,by kernel_rfl⟩
theorem asj:prog.underlying 231=some (.pointer 5):=by kernel_rfl
theorem iy:Ty prog 49 1 8 [.int .i64 0] false:=⟨by kernel_rfl,by kernel_rfl⟩
theorem qU:prog.underlying 203=some (.slice 49):=by kernel_rfl
theorem yw:∀ args w,(callFunc 128 args).run prog w=.ok (.enter 128 args) w:=enters func128 rfl (by kernel_rfl)
theorem yP (G:GH) (w0:World) (hG:Hold G w0) (n l h:Int):Calls prog 128 #[vi n,vi l,vi h] w0 (bH w0 G fun u G'=>u=.bool (decide (l≤n∧n≤h))∧G=G'):=by
 refine eN [(0,_),(1,_),(2,_)] func128 rfl ntmps128 rfl rfl hG ?_;intro a H;refine kP H (SR fun _ K1=>ak K1 rfl (SR fun _ K2=>Rm rfl (Rm rfl (Rc rfl (Rm rfl (Sp 10 rfl ?_ ?_)))))) <;> clear H K1
 ·intro h10 a H
  try have nV:=dT h10
  exact kH H (YM h10 rfl (YM h10 rfl (YC h10 rfl (Pt h10 rfl (ak K2 rfl (LR results128 rfl fun H=>H.rt ⟨dO (by first|(simp_all;done)|(simp_all;omega)),rfl⟩))))))
 intro h10 a H
 try have nV:=dF h10
 exact kH H (bD h10 rfl (Pf h10 rfl (ak K2 rfl (LR results128 rfl fun H=>H.rt ⟨dO (by first|(simp_all;done)|(simp_all;omega)),rfl⟩))))
def dx (b:Bool) (e:Int):Int:=if b=true then e else 0
theorem jS (G:GH) (w0:World) (hG:Hold G w0) (b:Bool) (e:Int):Calls prog 71 #[.bool b,vi e] w0 (bH w0 G fun u G'=>u=vi (dx b e)∧G=G'):=by
 refine eN [(0,_),(1,_)] func71 rfl ntmps71 rfl rfl hG ?_;intro a H;refine kP H (SR fun _ K1=>ak K1 rfl (SQ fun _ K2=>SR fun _ K3=>Rm rfl (Kz K3 (Cd rfl ?_ ?_)))) <;> clear H K1 K3
 ·intro h5 a H
  try have p5:=dT h5
  exact kP H (SR fun _ K4=>Rm rfl (ak K4 rfl (LR results71 rfl fun H=>H.rt ⟨aB vi (by simp_all [dx]),rfl⟩)))
 intro h5 a H
 try have p5:=dF h5
 exact kP H (Kc K2 (SR fun _ K5=>ak K5 rfl (LR results71 rfl fun H=>H.rt ⟨aB vi (by simp_all [dx]),rfl⟩)))
def dY:List Int→Int
 | []=>0
 | e :: r=>if e≠0 then e else dY r
theorem Ou {l:List Int} {k:Nat} (h:k < l.length):dY (l.drop k)=if l[k]≠0 then l[k] else dY (l.drop (k+1)):=by
 rw [oh h,dY]
theorem sD (G:GH) (w0:World) (hG:Hold G w0) (l:List Int) (v:aj) (hv:av G (.sl 1 (l.map fun k=>[li k])) v) :
  Calls prog 66 #[v] w0 (bH w0 G fun u G'=>u=vi (dY l)∧G=G'):=by
 obtain ⟨A,c,rfl,hc1,hc2,hg⟩:=hv.slice;have hml:maxLen=9223372036854775807:=rfl;rw [aZ] at *;refine eN [(0,_)] func66 rfl ntmps66 rfl rfl hG ?_;intro a H;refine kP H (SR fun _ K1=>ak K1 rfl (SQ fun _ K2=>SR fun _ K3=>Rm rfl (Rl qU rfl (Rm rfl (Kz K3 (SB ?_))))));clear H K1 K3;intro a H;skip;refine fH (ι:=Nat) (Tc:=[(5,_),(6,_)]) (Lc:=[]) (fun gh=>[(7,vi gh)]) (fun gh=>[]) (fun gh=>G) (fun gh=>gh≤l.length∧dY (l.drop gh)=dY l) (fun gh=>l.length - gh) (0) (by exact (H).sub ⟨rfl,rfl,rfl,aC⟩) ?_ ?_
 ·exact ⟨gY _,rfl⟩
 clear H;intro k a w hI H;obtain ⟨hk,he⟩:=hI;dsimp only [lca,bq] at H;refine kP H (SR fun _ K4=>Rc rfl (Kz K4 (SQ fun _ K5=>Cd rfl ?_ ?_))) <;> clear H K4
 ·intro h8 a H
  try have p8:=dT h8
  have hk2:k < l.length:=by omega
  obtain ⟨b,o,cs,rfl,hcl,hrow,hr⟩:=hg k [li l[k]] (by simp [hk2]);obtain ⟨v1,_,rfl,⟨rfl,-⟩,rfl⟩:∃ v vs,cs=v :: vs∧av G (li l[k]) v∧aR G [] vs:=hr
  have hcell:aI G b (o+k*1)=some (vi l[k]):=by simpa using hrow 0 _ rfl
  refine kP H (Kc K5 (SQ fun _ K6=>SB (SR fun _ K7=>Ri qU iy rfl rfl (Rg iy rfl hcell (ak K7 rfl (SR fun _ K8=>Rm rfl (Rc rfl (Kz K8 (Cd rfl ?_ ?_))))))))) <;> clear H K5 K7 K8
  ·intro h12 a H
   try have rO:=dT h12
   exact kP H (SR fun _ K9=>Rm rfl (ak K9 rfl (LR results66 rfl fun H=>H.rt ⟨aB vi (by rw [Ou hk2,au rO] at he;exact he),rfl⟩)))
  intro h12 a H
  try have rO:=dF h12
  refine kP H (Kc K6 (SC (Rd rfl (Rm rfl ?_))));clear H K6;intro a H;refine aD ?_;refine dM ((k+1)) (by exact (H).sub ⟨rfl,rfl,rfl,aC⟩) ?_
  exact ⟨by omega,by rw [Ou hk2,ah rO] at he;exact he⟩
 intro h8 a H
 try have p8:=dF h8
 refine eu ?_;refine K2 _ _ ?_;clear K2;exact kP H (SR fun _ aW=>ak aW rfl (LR results66 rfl fun H=>H.rt ⟨aB vi (by rw [jm (by omega)] at he;exact he),rfl⟩))
def uS (fv:aj) (Gi:GH) (n:Nat) (E:Nat→Int):Prop:=∀ i,i < n→∀ (G1:GH) (w1:World),(∀ b o,Gi b=some o→G1 b=some o)→Hold G1 w1→sS prog fv [vi i] w1 (bH w1 G1 fun u G'=>u=vi (E i))
theorem uS.mono {fv:aj} {G G':GH} {n:Nat} {E:Nat→Int} (h:uS fv G n E) (hm:∀ b o,G b=some o→G' b=some o):uS fv G' n E:=fun i hi G1 w1 hG1=>h i hi G1 w1 fun b o hb=>hG1 b o (hm b o hb)
def kQ (E:Nat→Int) (n:Nat):Int:=dY ((List.range n).map E)
theorem FK {E:Nat→Int} {n k:Nat} (h:k < n):dY (((List.range n).map E).drop k)=if E k≠0 then E k else dY (((List.range n).map E).drop (k+1)):=by
 rw [Ou (by simpa using h)];simp
theorem Kt (G:GH) (w0:World) (hG:Hold G w0) (n:Nat) (E:Nat→Int) (fv:aj) (hn:n≤4611686018427387904) (hf:uS fv G n E) :
  Calls prog 123 #[vi n,fv] w0 (bH w0 G fun u G'=>u=vi (kQ E n)):=by
 refine eN [(0,_),(1,_)] func123 rfl ntmps123 rfl rfl hG ?_;intro a H;refine kP H (SR fun _ K1=>ak K1 rfl (SQ fun _ K2=>SR fun _ K3=>Rm rfl (Rm rfl (Kz K3 (SB ?_)))));clear H K1 K3;intro a H;skip;refine fH (ι:=Nat × GH) (Tc:=[(1,_),(7,_)]) (Lc:=[]) (fun gh=>[(8,vi gh.1)]) (fun gh=>[]) (fun gh=>gh.2) (fun gh=>gh.1≤n∧dY (((List.range n).map E).drop gh.1)=kQ E n∧(∀ b o,G b=some o→gh.2 b=some o)) (fun gh=>n - gh.1) ((0,G)) (by exact (H).sub ⟨rfl,rfl,rfl,aC⟩) ?_ ?_
 ·exact ⟨gY _,rfl,fun _ _ h=>h⟩
 clear H;rintro ⟨k,g⟩ a w hI H;dsimp only at hI H;obtain ⟨hk,he,hgm⟩:=hI;dsimp only [lca,bq] at H;refine kP H (SR fun _ K4=>Rc rfl (Kz K4 (SQ fun _ K5=>Cd rfl ?_ ?_))) <;> clear H K4
 ·intro h9 a H
  try have p9:=dT h9
  have hk2:k < n:=by omega
  refine kP H (Kc K5 (SQ fun _ K6=>SB (SR fun _ K7=>Rm rfl (ak K7 rfl (SR fun _ K8=>Rm rfl (Rm rfl ?_))))));clear H K5 K7;intro a H;refine kD H wn rfl rfl (hf k hk2 _ _ hgm H.ro) rfl ?_;clear H;rintro v13 Ea a w rfl vE H;refine kH H (ak K8 rfl (SR fun _ K9=>Rm rfl (Rc rfl (Kz K9 (Cd rfl ?_ ?_))))) <;> clear H K8 K9
  ·intro iD a H
   try have pR:=dT iD
   exact kP H (SR fun _ aW=>Rm rfl (ak aW rfl (LR results123 rfl fun H=>H.rt (aB vi (by rw [FK hk2,au pR] at he;exact he)))))
  intro iD a H
  try have pR:=dF iD
  refine kP H (Kc K6 (SC (Rd rfl (Rm rfl ?_))));clear H K6;intro a H;refine aD ?_;refine dM ((k+1,Ea)) (by exact (H).sub ⟨rfl,rfl,rfl,aC⟩) ?_
  (try dsimp only);exact ⟨by omega,by rw [FK hk2,ah pR] at he;exact he,fun b o h=>vE b o (hgm b o h)⟩
 intro h9 a H
 try have p9:=dF h9
 refine eu ?_;refine K2 _ _ ?_;clear K2;exact kP H (SR fun _ bO=>ak bO rfl (LR results123 rfl fun H=>H.rt (aB vi (by rw [jm (by simp;omega)] at he;exact he))))
def rG (id:Nat→Int) (i:Nat):Int:=if ¬ (1≤id i∧id i≤1073741824) then 18 else if 0 < i∧id i=id (i - 1) then 7 else if 0 < i∧id i < id (i - 1) then 6 else 0
theorem Vd (G:GH) (w0:World) (hG:Hold G w0) (i:Nat) (id:Nat→Int) (fv:aj) (hn:i≤4611686018427387904) (hf:uS fv G (i+1) id) :
  Calls prog 125 #[vi i,fv] w0 (bH w0 G fun u G'=>u=vi (rG id i)):=by
 refine eN [(0,_),(1,_)] func125 rfl ntmps125 rfl rfl hG ?_;intro a H;refine kP H (SR fun _ K1=>ak K1 rfl (SQ fun _ K2=>SB (SR fun _ K3=>Rm rfl (Rm rfl ?_))));clear H K1;intro a H;refine kD H wn rfl rfl (hf i (Nat.lt_succ_self _) _ _ (fun _ _ h=>h) H.ro) rfl ?_;clear H;rintro v8 G8 a w rfl wF H;refine s_call yw H wn rfl (yP _ _ H.ro (id i) 1 1073741824) rfl ?_;clear H;rintro v9 _ a w ⟨rfl,rfl⟩ - H;refine kH H (Rn rfl (ak K3 rfl (Cd rfl ?_ ?_))) <;> clear H K3
 ·intro h5 a H
  try have p5:=dT h5
  refine kP H (SR fun _ K4=>ak K4 rfl ?_);clear H K4;intro a H;refine lr H results125 rfl ?_
  exact H.rt (aB vi (by unfold rG;(repeat' split) <;> first|rfl|(exfalso;simp_all;done)|(exfalso;simp_all;omega)))
 intro h5 a H
 try have p5:=dF h5
 refine kP H (SR fun _ K5=>Rm rfl (Rc rfl (Rm rfl (Sp 14 rfl ?_ ?_)))) <;> clear H
 ·intro jD a H
  try have xL:=dT jD
  refine kH H (YM jD rfl (YM jD rfl ?_));clear H;intro a H;refine kD H (wg H rfl rfl jD) rfl rfl (hf i (Nat.lt_succ_self _) _ _ wF H.ro) rfl ?_;clear H;rintro v17 xX a w rfl rD H;refine kH H (YM jD rfl (YM jD rfl ?_));clear H;intro a H;refine nW _ H (wg H rfl rfl jD) rfl rfl rfl (by omega) (by omega) rfl ?_;clear H;intro a H;rw [show ((i:Int) - 1)=((i - 1:Nat):Int) by omega] at H;refine kD H (wg H rfl rfl jD) rfl rfl (hf (i - 1) (by omega) _ _ (fun b o h=>rD b o (wF b o h)) H.ro) rfl ?_;clear H;rintro v21 Nk a w rfl yJ H;refine kH H (YC jD rfl (Pt jD rfl (ak K5 rfl (Cd rfl ?_ ?_)))) <;> clear H K5
  ·intro h11 a H
   try have rM:=dT h11
   refine kP H (SR fun _ K6=>ak K6 rfl ?_);clear H K6;intro a H;refine lr H results125 rfl ?_
   exact H.rt (aB vi (by unfold rG;(repeat' split) <;> first|rfl|(exfalso;simp_all;done)|(exfalso;simp_all;omega)))
  intro h11 a H
  try have rM:=dF h11
  refine kP H (SR fun _ K7=>Rm rfl (Rc rfl (Rm rfl (Sp 27 rfl ?_ ?_)))) <;> clear H
  ·intro h27 a H
   try have p27:=dT h27
   refine kH H (YM h27 rfl (YM h27 rfl ?_));clear H;intro a H;refine kD H (wg H rfl rfl h27) rfl rfl (hf i (Nat.lt_succ_self _) _ _ (fun b o h=>by first|exact yJ b o (rD b o (wF b o h))|(exfalso;omega)) H.ro) rfl ?_;clear H;rintro v30 zY a w rfl Az H;refine kH H (YM h27 rfl (YM h27 rfl ?_));clear H;intro a H;refine nW _ H (wg H rfl rfl h27) rfl rfl rfl (by omega) (by omega) rfl ?_;clear H;intro a H;rw [show ((i:Int) - 1)=((i - 1:Nat):Int) by omega] at H;refine kD H (wg H rfl rfl h27) rfl rfl (hf (i - 1) (by omega) _ _ (fun b o h=>by first|exact Az b o (yJ b o (rD b o (wF b o h)))|(exfalso;omega)) H.ro) rfl ?_;clear H;rintro v34 Nn a w rfl Jl H;refine kH H (YC h27 rfl (Pt h27 rfl (ak K7 rfl (Cd rfl ?_ ?_)))) <;> clear H K7
   ·intro fB a H
    try have mX:=dT fB
    refine kP H (SR fun _ K8=>ak K8 rfl ?_);clear H K8;intro a H;refine lr H results125 rfl ?_
    exact H.rt (aB vi (by unfold rG;(repeat' split) <;> first|rfl|(exfalso;simp_all;done)|(exfalso;simp_all;omega)))
   intro fB a H
   try have mX:=dF fB
   refine kP H (Kc K2 (SR fun _ K9=>ak K9 rfl ?_));clear H K2 K9;intro a H;refine lr H results125 rfl ?_
   exact H.rt (aB vi (by unfold rG;(repeat' split) <;> first|rfl|(exfalso;simp_all;done)|(exfalso;simp_all;omega)))
  intro h27 a H
  try have p27:=dF h27
  refine kH H (bD h27 rfl (bD h27 rfl (aP h27 rfl (Pf h27 rfl (ak K7 rfl (Cf rfl rfl (Kc K2 (SR fun _ aW=>ak aW rfl ?_))))))));clear H K7 K2 aW;intro a H;refine lr H results125 rfl ?_
  exact H.rt (aB vi (by unfold rG;(repeat' split) <;> first|rfl|(exfalso;simp_all;done)|(exfalso;simp_all;omega)))
 intro jD a H
 try have xL:=dF jD
 refine kH H (bD jD rfl (bD jD rfl (aP jD rfl (Pf jD rfl (ak K5 rfl (Cf rfl rfl (SR fun _ bO=>Rm rfl (Rc rfl (Rm rfl (Sp 27 rfl ?_ ?_)))))))))) <;> clear H K5
 ·intro h27 a H
  try have p27:=dT h27
  refine kH H (YM h27 rfl (YM h27 rfl ?_));clear H;intro a H;refine kD H (wg H rfl rfl h27) rfl rfl (hf i (Nat.lt_succ_self _) _ _ (fun b o h=>by first|exact yJ b o (rD b o (wF b o h))|(exfalso;omega)) H.ro) rfl ?_;clear H;rintro v30 zY a w rfl Az H;refine kH H (YM h27 rfl (YM h27 rfl ?_));clear H;intro a H;refine nW _ H (wg H rfl rfl h27) rfl rfl rfl (by omega) (by omega) rfl ?_;clear H;intro a H;rw [show ((i:Int) - 1)=((i - 1:Nat):Int) by omega] at H;refine kD H (wg H rfl rfl h27) rfl rfl (hf (i - 1) (by omega) _ _ (fun b o h=>by first|exact Az b o (yJ b o (rD b o (wF b o h)))|(exfalso;omega)) H.ro) rfl ?_;clear H;rintro v34 Nn a w rfl Jl H;refine kH H (YC h27 rfl (Pt h27 rfl (ak bO rfl (Cd rfl ?_ ?_)))) <;> clear H bO
  ·intro fB a H
   try have mX:=dT fB
   refine kP H (SR fun _ bW=>ak bW rfl ?_);clear H bW;intro a H;refine lr H results125 rfl ?_
   exact H.rt (aB vi (by unfold rG;(repeat' split) <;> first|rfl|(exfalso;simp_all;done)|(exfalso;simp_all;omega)))
  intro fB a H
  try have mX:=dF fB
  refine kP H (Kc K2 (SR fun _ cB=>ak cB rfl ?_));clear H K2 cB;intro a H;refine lr H results125 rfl ?_
  exact H.rt (aB vi (by unfold rG;(repeat' split) <;> first|rfl|(exfalso;simp_all;done)|(exfalso;simp_all;omega)))
 intro h27 a H
 try have p27:=dF h27
 refine kH H (bD h27 rfl (bD h27 rfl (aP h27 rfl (Pf h27 rfl (ak bO rfl (Cf rfl rfl (Kc K2 (SR fun _ dw=>ak dw rfl ?_))))))));clear H bO K2 dw;intro a H;refine lr H results125 rfl ?_
 exact H.rt (aB vi (by unfold rG;(repeat' split) <;> first|rfl|(exfalso;simp_all;done)|(exfalso;simp_all;omega)))
theorem jR:∀ args w,(callFunc 71 args).run prog w=.ok (.enter 71 args) w:=enters func71 rfl (by kernel_rfl)
theorem sj:∀ args w,(callFunc 66 args).run prog w=.ok (.enter 66 args) w:=enters func66 rfl (by kernel_rfl)
def yg (s:ByteArray):Bool:=decide (1≤s.size∧s.size≤40) && rT s
theorem XY (G:GH) (w0:World) (hG:Hold G w0) (s:ByteArray) (hs:s.size < 4611686018427387904):Calls prog 127 #[.string s] w0 (bH w0 G fun u G'=>u=.bool (yg s)∧G=G'):=by
 refine eN [(0,_)] func127 rfl ntmps127 rfl rfl hG ?_;intro a H;refine kP H (SR fun _ K1=>ak K1 rfl (SR fun _ K2=>Rm rfl (Rv iB rfl (Rc rfl (Rm rfl (Sp 6 rfl ?_ ?_)))))) <;> clear H K1
 ·intro h6 a H
  try have p6:=dT h6
  refine kH H (YM h6 rfl ?_);clear H;intro a H;refine Fa iB H (wg H rfl rfl h6) rfl rfl ?_;clear H;intro a H;refine kH H (YC h6 rfl (Pt h6 rfl (Rm rfl (Sp 11 rfl ?_ ?_)))) <;> clear H
  ·intro h11 a H
   try have rM:=dT h11
   refine kH H (YM h11 rfl ?_);clear H;intro a H;refine s_call KS H (wg H rfl rfl h11) rfl (M6 _ _ H.ro s hs) rfl ?_;clear H;rintro v13 _ a w ⟨rfl,rfl⟩ - H;exact kH H (Pt h11 rfl (ak K2 rfl (LR results127 rfl fun H=>H.rt ⟨dO (by unfold yg;first|(simp_all;done)|(simp_all;omega)),rfl⟩)))
  intro h11 a H
  try have rM:=dF h11
  exact kH H (aP h11 rfl (Pf h11 rfl (ak K2 rfl (LR results127 rfl fun H=>H.rt ⟨dO (by unfold yg;first|(simp_all;done)|(simp_all;omega)),rfl⟩))))
 intro h6 a H
 try have p6:=dF h6
 exact kH H (bD h6 rfl (Pf h6 rfl (Rm rfl (aP rfl rfl (Pf rfl rfl (ak K2 rfl (LR results127 rfl fun H=>H.rt ⟨dO (by unfold yg;first|(simp_all;done)|(simp_all;omega)),rfl⟩)))))))
def DW (s:ByteArray):Int:=dY [dx (!rT s) 12,dx (decide (1024 < (s.size:Int))) 10]
theorem zR {G:GH} {b:Nat} {x y:Int} (h:G b=some (.cells #[vi x,vi y] 49 (0,0))):av G (.sl 1 ([x,y].map fun k=>[li k])) (.slice (some ⟨b,0,none⟩) 2 2) :=
 av.fG (n:=2) (cap:=2) h rfl (bL _) (show 2≤maxLen by decide) (iX (bL _)) (fU G [x,y])
theorem Ww (G:GH) (w0:World) (hG:Hold G w0) (s:ByteArray) (hs:s.size < 4611686018427387904):Calls prog 190 #[.string s] w0 (bH w0 G fun u G'=>u=vi (DW s)):=by
 refine eN [(0,_)] func190 rfl ntmps190 rfl rfl hG ?_;intro a H;refine kP H (SR fun _ K1=>ak K1 rfl (SR fun _ K2=>Rm rfl ?_));clear H K1;intro a H;refine s_call KS H wn rfl (M6 _ _ H.ro s hs) rfl ?_;clear H;rintro v4 _ a w ⟨rfl,rfl⟩ - H;refine kH H (Rn rfl ?_);clear H;intro a H;refine s_call jR H wn rfl (jS _ _ H.ro _ 12) rfl ?_;clear H;rintro v6 _ a w ⟨rfl,rfl⟩ - H;refine kH H (Rm rfl (Rv iB rfl (Rc rfl ?_)));clear H;intro a H;refine s_call jR H wn rfl (jS _ _ H.ro _ 10) rfl ?_;clear H;rintro v10 _ a w ⟨rfl,rfl⟩ - H;refine ig qU iy [_,_] [_,_] H wn rfl rfl rfl rfl rfl (by intro i q h;match i,h with|0,h=>exact h|1,h=>exact h|n+2,h=>simp at h) rfl rfl ?_;clear H;intro b11 a w BX H;obtain ⟨tO,Dp,EC,H⟩:=H.eH;refine s_call sj H wn rfl (sD _ _ H.ro _ _ (zR EC)) rfl ?_;clear H;rintro v12 _ a w ⟨rfl,rfl⟩ - H;exact kH H (ak K2 rfl (LR results190 rfl fun H=>H.rt rfl))
def Po (c:Int):Bool:=decide (97≤wX .or .u8 c 32) && decide (wX .or .u8 c 32≤122)
def Hy (c:Int):Bool:=(decide (48≤c) && decide (c≤57)) || decide (c=45) || decide (c=95)
def Co (s:ByteArray) (k:Nat):Bool:=Po (gN s k) || (decide (k≠0) && Hy (gN s k))
def tu (s:ByteArray):Bool:=decide (1≤s.size∧s.size≤40) && (List.range s.size).all (Co s)
theorem RI (G:GH) (w0:World) (hG:Hold G w0) (s:ByteArray) (hs:s.size < 4611686018427387904):Calls prog 192 #[.string s] w0 (bH w0 G fun u G'=>u=.bool (tu s)∧G=G'):=by
 refine eN [(0,_)] func192 rfl ntmps192 rfl rfl hG ?_;intro a H;refine kP H (SR fun _ K1=>ak K1 rfl (SQ fun _ K2=>SR fun _ K3=>Rm rfl (Rv iB rfl (Rc rfl (Rm rfl (Sp 10 rfl ?_ ?_)))))) <;> clear H K1
 ·intro h10 a H
  try have nV:=dT h10
  exact kH H (bD h10 rfl (Pt h10 rfl (Kz K3 (Ct rfl rfl (SR fun _ K4=>ak K4 rfl (LR results192 rfl fun H=>H.rt ⟨dO (by unfold tu;rw [kX (by omega)];rfl),rfl⟩))))))
 intro h10 a H
 try have nV:=dF h10
 refine kH H (YM h10 rfl ?_);clear H;intro a H;refine Fa iB H (wg H rfl rfl h10) rfl rfl ?_;clear H;intro a H;refine kH H (YC h10 rfl (Pf h10 rfl (Kz K3 (Cd rfl ?_ ?_)))) <;> clear H K3
 ·intro jD a H
  try have xL:=dT jD
  exact kP H (SR fun _ K5=>ak K5 rfl (LR results192 rfl fun H=>H.rt ⟨dO (by unfold tu;rw [kX (by omega)];rfl),rfl⟩))
 intro jD a H
 try have xL:=dF jD
 refine kP H (Kc K2 (SQ fun _ K6=>SR fun _ K7=>Rm rfl (Rv iB rfl (Rm rfl (Kz K7 (SB ?_))))));clear H K2 K7;intro a H;skip;refine fH (ι:=Nat) (Tc:=[(0,_),(16,_)]) (Lc:=[]) (fun gh=>[(17,vi gh)]) (fun gh=>[]) (fun gh=>G) (fun gh=>gh≤s.size∧(List.range gh).all (Co s)=true) (fun gh=>s.size - gh) (0) (by exact (H).sub ⟨rfl,rfl,rfl,aC⟩) ?_ ?_
 ·exact ⟨gY _,rfl⟩
 clear H;intro k a w hI H;obtain ⟨hk,hall⟩:=hI;dsimp only [lca,bq] at H;refine kP H (SR fun _ K8=>Rc rfl (Kz K8 (SQ fun _ K9=>Cd rfl ?_ ?_))) <;> clear H K8
 ·intro h18 a H
  try have tL:=dT h18
  have hk2:k < s.size:=by omega
  refine kP H (Kc K9 (SQ fun _ aW=>SB (SR fun _ bO=>Rm rfl (ak bO rfl (SR fun _ bW=>Rm rfl (Rm rfl ?_))))));clear H K9 bO;intro a H;refine qx k iB H wn rfl rfl rfl (by omega) rfl ?_;clear H;intro a H;rw [← lV] at H;refine P8 rfl H wn rfl rfl rfl ?_;clear H;intro a H;refine kH H (ak bW rfl ?_);clear H bW;intro a H;refine tZ (ι:=Bool) (Tc:=[(0,_),(3,_),(16,_),(17,_)]) (Lc:=[]) (fun gh=>[(5,.bool gh)]) (fun gh=>[]) (fun gh=>G) (fun gh=>gh=Po (gN s k)) (by exact (H).sub ⟨rfl,rfl,rfl,rfl,aC⟩) ?_ ?_
  ·skip;refine kP H (SC (Rm rfl (Rc rfl (Rm rfl (Sp 26 rfl ?_ ?_))))) <;> clear H
   ·intro jE a H
    try have p26:=dT jE
    refine kH H (YM jE rfl (YC jE rfl (Pt jE rfl (Ra rfl ?_))));clear H;intro a H;refine aD ?_;refine ⟨_,by exact (H).sub ⟨rfl,rfl,rfl,rfl,rfl,aC⟩,?_⟩
    unfold Po;first|(simp_all;done)|(simp_all;omega)
   intro jE a H
   try have p26:=dF jE
   refine kH H (aP jE rfl (Pf jE rfl (Ra rfl ?_)));clear H;intro a H;refine aD ?_;refine ⟨_,by exact (H).sub ⟨rfl,rfl,rfl,rfl,rfl,aC⟩,?_⟩
   unfold Po;first|(simp_all;done)|(simp_all;omega)
  clear H;intro lt a w hI H;have hlt:=hI;dsimp only [lca,bq] at H;refine tZ (ι:=Bool) (Tc:=[(0,_),(3,_),(5,_),(16,_),(17,_)]) (Lc:=[]) (fun gh=>[(6,.bool gh)]) (fun gh=>[]) (fun gh=>G) (fun gh=>gh=Hy (gN s k)) (by exact (H).sub ⟨rfl,rfl,rfl,rfl,rfl,aC⟩) ?_ ?_
  ·skip;refine kP H (SC (Rm rfl (Rm rfl ?_)));clear H;intro a H;refine qx k iB H wn rfl rfl rfl (by omega) rfl ?_;clear H;intro a H;rw [← lV] at H;refine kH H (Rc rfl (Rm rfl (Sp 34 rfl ?_ ?_))) <;> clear H
   ·intro fE a H
    try have p34:=dT fE
    refine kH H (YM fE rfl (YM fE rfl ?_));clear H;intro a H;refine qx k iB H (wg H rfl rfl fE) rfl rfl rfl (by omega) rfl ?_;clear H;intro a H;rw [← lV] at H;refine kH H (YC fE rfl (Pt fE rfl (Rm rfl (Sp 40 rfl ?_ ?_)))) <;> clear H
    ·intro jJ a H
     try have p40:=dT jJ
     refine kH H (aP jJ rfl (aP jJ rfl (Pt jJ rfl (Rm rfl (aP rfl rfl (aP rfl rfl (Pt rfl rfl (Ra rfl ?_))))))));clear H;intro a H;refine aD ?_;refine ⟨_,by exact (H).sub ⟨rfl,rfl,rfl,rfl,rfl,rfl,aC⟩,?_⟩
     unfold Hy;first|(simp_all;done)|(simp_all;omega)
    intro jJ a H
    try have p40:=dF jJ
    refine kH H (YM jJ rfl (YM jJ rfl ?_));clear H;intro a H;refine qx k iB H (wg H rfl rfl jJ) rfl rfl rfl (by omega) rfl ?_;clear H;intro a H;rw [← lV] at H;refine kH H (YC jJ rfl (Pf jJ rfl (Rm rfl (Sp 46 rfl ?_ ?_)))) <;> clear H
    ·intro h46 a H
     try have p46:=dT h46
     refine kH H (aP h46 rfl (aP h46 rfl (Pt h46 rfl (Ra rfl ?_))));clear H;intro a H;refine aD ?_;refine ⟨_,by exact (H).sub ⟨rfl,rfl,rfl,rfl,rfl,rfl,aC⟩,?_⟩
     unfold Hy;first|(simp_all;done)|(simp_all;omega)
    intro h46 a H
    try have p46:=dF h46
    refine kH H (YM h46 rfl (YM h46 rfl ?_));clear H;intro a H;refine qx k iB H (wg H rfl rfl h46) rfl rfl rfl (by omega) rfl ?_;clear H;intro a H;rw [← lV] at H;refine kH H (YC h46 rfl (Pf h46 rfl (Ra rfl ?_)));clear H;intro a H;refine aD ?_;refine ⟨_,by exact (H).sub ⟨rfl,rfl,rfl,rfl,rfl,rfl,aC⟩,?_⟩
    unfold Hy;first|(simp_all;done)|(simp_all;omega)
   intro fE a H
   try have p34:=dF fE
   refine kH H (aP fE rfl (aP fE rfl (Pf fE rfl (Rm rfl ?_))));clear H;intro a H;(iterate 2 refine JQ H (wg H rfl rfl rfl) rfl rfl ?_;clear H;intro a H);refine qx k iB H (wg H rfl rfl rfl) rfl rfl rfl (by omega) rfl ?_;clear H;intro a H;rw [← lV] at H;refine JN H (wg H rfl rfl rfl) rfl rfl rfl rfl ?_;clear H;intro a H;refine kH H (Pf rfl rfl (Rm rfl (Sp 46 rfl ?_ ?_))) <;> clear H
   ·intro h46 a H
    try have p46:=dT h46
    refine kH H (aP h46 rfl (aP h46 rfl (Pt h46 rfl (Ra rfl ?_))));clear H;intro a H;refine aD ?_;refine ⟨_,by exact (H).sub ⟨rfl,rfl,rfl,rfl,rfl,rfl,aC⟩,?_⟩
    unfold Hy;first|(simp_all;done)|(simp_all;omega)
   intro h46 a H
   try have p46:=dF h46
   refine kH H (YM h46 rfl (YM h46 rfl ?_));clear H;intro a H;refine qx k iB H (wg H rfl rfl h46) rfl rfl rfl (by omega) rfl ?_;clear H;intro a H;rw [← lV] at H;refine kH H (YC h46 rfl (Pf h46 rfl (Ra rfl ?_)));clear H;intro a H;refine aD ?_;refine ⟨_,by exact (H).sub ⟨rfl,rfl,rfl,rfl,rfl,rfl,aC⟩,?_⟩
   unfold Hy;first|(simp_all;done)|(simp_all;omega)
  clear H;intro ot a w hI H;have hot:=hI;dsimp only [lca,bq] at H;refine kP H (SR fun _ cB=>Rm rfl (Rn rfl (Rm rfl (Sp 54 rfl ?_ ?_)))) <;> clear H
  ·intro gQ a H
   try have p54:=dT gQ
   refine kH H (YM gQ rfl (YC gQ rfl (YM gQ rfl (Sp 57 rfl ?_ ?_)))) <;> clear H
   ·intro h57 a H
    try have p57:=dT h57
    refine kH H (aP h57 rfl (PT gQ h57 rfl (Pt gQ rfl (Kz cB (Ct rfl rfl (SR fun _ dw=>ak dw rfl ?_))))));clear H cB dw;intro a H;refine lr H results192 rfl ?_
    first
     | exact H.rt ⟨dO (by
       unfold tu
       rw [show k=s.size by omega] at hall
       rw [hall,jB (by omega)];rfl),rfl⟩
     | exact H.rt ⟨dO (by
       unfold tu
       rw [show (List.range s.size).all (Co s)=false from List.all_eq_false.2 ⟨k,by simpa using hk2,by unfold Co;simp_all⟩,Bool.and_false]),rfl⟩
   intro h57 a H
   try have p57:=dF h57
   refine kH H (YM h57 rfl (YN h57 rfl (PF gQ h57 rfl (Pt gQ rfl (Kz cB (Cd rfl ?_ ?_)))))) <;> clear H cB
   ·intro F8 a H
    try have p61:=dT F8
    refine kP H (SR fun _ dR=>ak dR rfl ?_);clear H dR;intro a H;refine lr H results192 rfl ?_
    first
     | exact H.rt ⟨dO (by
       unfold tu
       rw [show k=s.size by omega] at hall
       rw [hall,jB (by omega)];rfl),rfl⟩
     | exact H.rt ⟨dO (by
       unfold tu
       rw [show (List.range s.size).all (Co s)=false from List.all_eq_false.2 ⟨k,by simpa using hk2,by unfold Co;simp_all⟩,Bool.and_false]),rfl⟩
   intro F8 a H
   try have p61:=dF F8
   refine kP H (Kc aW (SC (Rd rfl (Rm rfl ?_))));clear H aW;intro a H;refine aD ?_;refine dM ((k+1)) (by exact (H).sub ⟨rfl,rfl,rfl,aC⟩) ?_
   exact ⟨by omega,by rw [List.range_succ,List.all_append,hall];simp [Co];simp_all⟩
  intro gQ a H
  try have p54:=dF gQ
  refine kH H (bD gQ rfl (Ku rfl (Ku rfl (Ks gQ rfl (Pf gQ rfl (Kz cB (Cf rfl rfl (Kc aW (SC (Rd rfl (Rm rfl ?_)))))))))));clear H cB aW;intro a H;refine aD ?_;refine dM ((k+1)) (by exact (H).sub ⟨rfl,rfl,rfl,aC⟩) ?_
  exact ⟨by omega,by rw [List.range_succ,List.all_append,hall];simp [Co];simp_all⟩
 intro h18 a H
 try have tL:=dF h18
 refine eu ?_;refine K6 _ _ ?_;clear K6;refine kP H (SR fun _ dW=>ak dW rfl ?_);clear H dW;intro a H;refine lr H results192 rfl ?_
 first
  | exact H.rt ⟨dO (by
    unfold tu
    rw [show k=s.size by omega] at hall
    rw [hall,jB (by omega)];rfl),rfl⟩
  | exact H.rt ⟨dO (by
    unfold tu
    rw [show (List.range s.size).all (Co s)=false from List.all_eq_false.2 ⟨k,by simpa using hk2,by unfold Co;simp_all⟩,Bool.and_false]),rfl⟩
section
section
variable {N:Nat} {D:List Deferred} {w0:World} {F:Nat→Prop} {G0 G:GH} {L:OL} {T:List (Nat × aj)}
variable {r:Option Nat} {P:Program} {ops:Array Oper} {Q:Exit→Act→World→Prop} {rest:List Oper} {a:Act} {w:World}
variable {d:Nat} {ty:TypeId} {pos:String} {aL:Array Edge} {g:Option (Nat × Bool)}
end
end
section
section
variable {N:Nat} {D:List Deferred} {w0:World} {F:Nat→Prop} {G0 G:GH} {L:OL} {T T':List (Nat × aj)}
variable {r:Option Nat} {P:Program} {Q:Exit→Act→World→Prop} {l:List Oper} {a a':Act} {w w':World} {ε:Type}
def IC (l:List Oper) (pr:ε→Nat→aj→Prop) (T:List (Nat × aj)) (S:Nat→Bool) (E:ε) (T':List (Nat × aj)):Prop :=
 (∀ t v,lk T t=some v→lk T' t=some v)∧∀ i d,S i=true→eU l i=some d→∃ v,lk T' d=some v∧pr E i v
theorem IC.put {pr:ε→Nat→aj→Prop} {S:Nat→Bool} {E E':ε} {i d:Nat} {v:aj} (h:IC l pr T S E T') (hok:agT l T=true) (hi:eU l i=some d) (hv:pr E' i v) (hE:∀ j u,j≠i→pr E j u→pr E' j u):IC l pr T (fq S i) E' ((d,v) :: T'):=by
 have hil:=yu hi
 have hok1:=kM.1 hok i (uV.2 hil)
 rw [pI,hi] at hok1
 simp only [pF,Option.isNone_iff_eq_none,kM,uV] at hok1
 refine ⟨fun t u ht=>?_,fun j e hj he=>?_⟩
 ·rw [wJ (fun e=>by subst e;rw [hok1.1] at ht;cases ht)];exact h.1 t u ht
 ·by_cases hji:j=i
  ·subst hji;rw [hi] at he;cases he;exact ⟨v,xJ _ _ _,hv⟩
  ·have hSj:S j=true:=by unfold fq at hj;rwa [ah hji] at hj
   obtain ⟨u,hu1,hu2⟩:=h.2 j e hSj he
   have hne:d≠e:=by
    intro e';subst e'
    have h2:=hok1.2 j (yu he)
    have hb:Nat.beq i j=false:=yh (fun h=>hji h.symm)
    rw [hb,he] at h2
    simp at h2
   exact ⟨u,by rw [wJ hne];exact hu1,hE j u hji hu2⟩
theorem IC.add {pr:ε→Nat→aj→Prop} {S:Nat→Bool} {E:ε} (h:IC l pr T S E T') {t:Nat} {u:aj} (hu:lk T' t=some u):IC l pr T S E ((t,u) :: T'):=by
 have e:∀ s v,lk T' s=some v→lk ((t,u) :: T') s=some v:=fun s v hs=>by
  by_cases hst:t=s
  ·subst hst;rw [hu] at hs;cases hs;exact xJ _ _ _
  ·rw [wJ hst];exact hs
 exact ⟨fun s v hs=>e s v (h.1 s v hs),fun i d hi hd=>by
  obtain ⟨v,h1,h2⟩:=h.2 i d hi hd
  exact ⟨v,e d v h1,h2⟩⟩
end
end
section
section
variable {N:Nat} {D:List Deferred} {w0:World} {F:Nat→Prop} {G0 G G1 G2:GH} {L L1:OL} {T Xs:List (Nat × aj)}
variable {r:Option Nat} {P:Program} {Q:Exit→Act→World→Prop} {l:List Oper} {a a':Act} {w w':World}
theorem Ky {id:Nat} (hm:P.follows .mixedOrders=true) (bX:List (List Nat)) (B:List Nat) (hk:Af l bX=true) (hB:yX l bX B=true) (X:(Nat→Bool)→Act→World→Prop) (h0:X (fun _=>false) a w.drew)
  (hstep:∀ i o S a w,l[i]?=some o→B.contains i=false→S i=false→(∀ j∈bX.getD i [],S j=true)→(∀ j,j < l.length→i∈bX.getD j []→S j=false)→X S a w→WL r P l.toArray (fun e a' w'=>e=.normal∧X (fq S i) a' w') [o] a w)
  (hend:∀ S a w,(∀ i,i < l.length→B.contains i=false→S i=true)→(∀ i,B.contains i=true→S i=false)→X S a w→WL r P l.toArray (fun e a w=>e=.normal∧Q .normal a w) (qN l B) a w):WP r P (.region id l.toArray true) Q a w:=by
 have hB1:∀ p b,B[p]?=some b→b < l.length∧∀ i,i < l.length→(B.contains i=false∨(B.take p).contains i=true)→i∈bX.getD b []:=by
  intro p b hp
  simp only [yX,pF] at hB
  have h1:=kM.1 hB.1 p (uV.2 (jH.1 hp).1)
  rw [hp] at h1
  simp only [pF,kM,uV] at h1
  refine ⟨Eq.mp Nat.blt_eq h1.1,fun i hi hor=>?_⟩
  have h2:=h1.2 i hi
  rcases hor with h3|h3
  ·have h4:i∉B:=by simpa using h3
   simpa [h4] using h2
  ·have h4:i∈B.take p:=by simpa using h3
   simpa [h4] using h2
 have hB2:∀ i,i < l.length→B.contains i=false→∀ j∈bX.getD i [],B.contains j=false:=by
  intro i hi hb j hj
  simp only [yX,pF] at hB
  have h1:=kM.1 hB.2 i (uV.2 hi)
  rw [hb] at h1
  simp only [Bool.false_or,kM] at h1
  simpa using h1 j hj
 refine Yf hm bX hk (fun S a w=>((∀ i,B.contains i=true→S i=false)∧X S a w) ∨
   ∃ p,(∀ i,i < l.length→B.contains i=false→S i=true)∧(∀ i,(B.take p).contains i=true→S i=true)∧(∀ q b,B[q]?=some b→p≤q→S b=false)∧WL r P l.toArray (fun e a w=>e=.normal∧Q .normal a w) (qN l (B.drop p)) a w)
  (.inl ⟨fun _ _=>rfl,h0⟩) ?_ ?_
 ·intro i o S a w ho hX aQ lX hdesc
  have hil:i < l.length:=(jH.1 ho).1
  by_cases hbi:B.contains i=true
  ·-- an operation of the tail: all that stands ahead of it is done
   obtain ⟨p0,hp0⟩:=List.getElem?_of_mem (by simpa using hbi:i∈B)
   have hall:∀ j,j < l.length→B.contains j=false→S j=true:=fun j hj hb=>lX j ((hB1 p0 i hp0).2 j hj (.inl hb))
   have UK:∃ p,(∀ i,(B.take p).contains i=true→S i=true)∧(∀ q b,B[q]?=some b→p≤q→S b=false)∧WL r P l.toArray (fun e a w=>e=.normal∧Q .normal a w) (qN l (B.drop p)) a w:=by
    rcases hX with ⟨h1,hD⟩|⟨p,_,h2,h3,h4⟩
    ·exact ⟨0,by simp,fun q b hq _=>h1 b (by simpa using kV hq),hend S a w hall h1 hD⟩
    ·exact ⟨p,h2,h3,h4⟩
   obtain ⟨p,h2,h3,h4⟩:=UK
   -- i is the next one
   have hpp:p≤p0:=by
    rcases Nat.lt_or_ge p0 p with hlt|hge
    ·have:(B.take p).contains i=true:=by
      simp only [zm]
      exact kV (i:=p0) (by rw [tT,au hlt];exact hp0)
     rw [h2 i this] at aQ;cases aQ
    ·exact hge
   have GQ:p < B.length:=by have:=(jH.1 hp0).1;omega
   have hbp:B[p]?=some B[p]:=eD GQ
   have heq:B[p]=i:=by
    rcases Nat.lt_or_ge p p0 with hlt|hge
    ·exfalso
     have hin:B[p]∈bX.getD i []:=(hB1 p0 i hp0).2 _ (hB1 p _ hbp).1 (.inr (by
      simp only [zm]
      exact kV (i:=p) (by rw [tT,au hlt];exact hbp)))
     have:=lX _ hin
     rw [h3 p _ hbp (bL _)] at this;cases this
    ·have:p=p0:=by omega
     subst this
     rw [hbp] at hp0;simpa using hp0
   have hdrop:B.drop p=i :: B.drop (p+1):=by rw [oh GQ,heq]
   have hops:qN l (B.drop p)=o :: qN l (B.drop (p+1)):=by rw [hdrop];simp [qN,ho]
   rw [hops] at h4
   refine aek (fun a' w' h5=>.inr ⟨p+1,fun j hj hb=>?_,fun j hj=>?_,fun q b hq hpq=>?_,h5⟩) h4
   ·unfold fq;split
    ·rfl
    ·exact hall j hj hb
   ·unfold fq;split
    ·rfl
    ·rename_i hne
     refine h2 j ?_
     simp only [zm] at hj ⊢
     rw [iH GQ,oJ] at hj
     rcases hj with hj|hj
     ·exact hj
     ·simp only [tV] at hj;exact absurd (hj.trans heq) hne
   ·unfold fq
    rw [ah ?_]
    ·exact h3 q b hq (by omega)
    ·rintro rfl
     -- i would stand twice in B: it would come ahead of itself
     have h6:=(hB1 q b hq).2 b (hB1 q b hq).1 (.inr (by
      simp only [zm]
      exact kV (i:=p) (by rw [tT,au (by omega)];rw [hbp,heq])))
     rw [lX _ h6] at aQ;cases aQ
  ·have GA:B.contains i=false:=by cases h:B.contains i with|false=>rfl|true=>exact absurd h hbi
   rcases hX with ⟨h1,hX⟩|⟨p,h0,_,_,_⟩
   ·refine qB (fun e a' w' ⟨he,hD⟩=>⟨he,.inl ⟨fun j hj=>?_,hD⟩⟩) (hstep i o S a w ho GA aQ lX hdesc hX)
    unfold fq
    rw [ah (by rintro rfl;rw [GA] at hj;cases hj)]
    exact h1 j hj
   ·rw [h0 i hil GA] at aQ;cases aQ
 ·intro S a w hall hX
  rcases hX with ⟨h1,hD⟩|⟨p,_,_,h3,h4⟩
  ·have hnil:B=[]:=by
    cases B with
    | nil=>rfl
    | cons b B=>have h5:=h1 b (by simp);rw [hall b (hB1 0 b rfl).1] at h5;cases h5
   subst hnil
   exact (hend S a w (fun j hj _=>hall j hj) h1 hD).2
  ·have hnil:B.drop p=[]:=by
    cases hd:B.drop p with
    | nil=>rfl
    | cons b B' =>
     have hb:B[p]?=some b:=by
      have:=aB (fun x:List Nat=>x[0]?) hd
      simpa using this
     have h5:=h3 p b hb (bL _)
     rw [hall b (hB1 p b hb).1] at h5;cases h5
   rw [hnil] at h4
   exact h4.2
theorem afm {id:Nat} (hm:P.follows .mixedOrders=true) (bX:List (List Nat)) (B:List Nat) (hk:Af l bX=true) (hB:yX l bX B=true) (m:Nat) (LX:B.contains m=false) (ob:Obj) (pr:Nat→Nat→aj→GH→Prop)
  (Md:∀ b b' i v G,i≠m→pr b i v G→pr b' i v G) (H:St N D w0 F G0 G L T a w)
  (hstep:allI (fun i o=>∀ b L' S a w G1,B.contains i=false→Nat.beq i m=false→S i=false→(∀ j∈bX.getD i [],S j=true)→(∀ k o,G k=some o→G1 k=some o)→St N D w0 F G0 G1 L' T a w→(∀ i d,S i=true→eU l i=some d→∃ v,a.tmps[d]?=some v∧pr b i v G1) →
   WL r P l.toArray (fun e a' w'=>e=.normal∧DX N D w0 F G0 G L' T l (pr b) (fq S i) a' w') [o] a w) 0 l)
  (hmid:∀ o S a w G1,l[m]?=some o→S m=false→(∀ j∈bX.getD m [],S j=true)→(∀ k o,G k=some o→G1 k=some o)→St N D w0 F G0 G1 L T a w→(∀ b i d,i≠m→S i=true→eU l i=some d→∃ v,a.tmps[d]?=some v∧pr b i v G1) →
   WL r P l.toArray (fun e a' w'=>e=.normal∧∃ b,DX N D w0 F G0 G ((b,ob) :: L) T l (pr b) (fq S m) a' w') [o] a w)
  (hend:∀ b a w G1,(∀ k o,G k=some o→G1 k=some o)→St N D w0 F G0 G1 ((b,ob) :: L) T a w→(∀ i d,B.contains i=false→eU l i=some d→∃ v,a.tmps[d]?=some v∧pr b i v G1)→WL r P l.toArray (fun e a w=>e=.normal∧Q .normal a w) (qN l B) a w)
  (hml:Nat.blt m l.length=true):WP r P (.region id l.toArray true) Q a w:=by
 refine Ky hm bX B hk hB (fun S a w=>∃ b L',(S m=false→L'=L)∧(S m=true→L'=(b,ob) :: L)∧DX N D w0 F G0 G L' T l (pr b) S a w)
  ⟨0,L,fun _=>rfl,fun h=>absurd (show false=true from h) (by decide),G,fun _ _ h=>h,H.move H.hp.drew,fun _ _ h=>absurd (show false=true from h) (by decide)⟩ ?_ ?_
 ·rintro i o S a w ho hb aQ lX hdesc ⟨b,L',h1,h2,G1,hG,HS,hv⟩
  by_cases him:i=m
  ·subst him
   have e:=h1 aQ;subst e
   have h:=hmid o S a w G1 ho aQ lX hG HS fun b' j d hj hSj hd=>by
    obtain ⟨v,hv1,hv2⟩:=hv j d hSj hd
    exact ⟨v,hv1,Md b b' j v _ hj hv2⟩
   have e1:fq S i i=true:=au rfl
   exact qB (fun e a' w' ⟨he,b',hD⟩=>⟨he,b',_,fun h=>absurd (e1.symm.trans h) (by decide),fun _=>rfl,hD⟩) h
  ·have h:=CV hstep i o ho
   rw [gJ] at h
   have e:fq S i m=S m:=ah (fun h=>him h.symm)
   exact qB (fun e' a' w' ⟨he,hD⟩=>⟨he,b,L',fun h=>h1 (e ▸ h),fun h=>h2 (e ▸ h),hD⟩) (h b L' S a w G1 hb (yh him) aQ lX hG HS hv)
 ·rintro S a w hall OX ⟨b,L',h1,h2,G1,hG,HS,hv⟩
  have Jp:S m=true:=hall m (Eq.mp Nat.blt_eq hml) LX
  have e:=h2 Jp;subst e
  exact hend b a w G1 hG HS fun j d hb hd=>hv j d (hall j (yu hd) hb) hd
theorem Ob {pr:Nat→aj→GH→Prop} {S:Nat→Bool} {i d:Nat} {v:aj} (hok:pI l T i=true) (hi:eU l i=some d) 
  (HT:St N D w0 F G0 G1 L T a w) (Hb:St N D w0 F G0 G1 L (Xs++full N a) a w) (hG:∀ k o,G k=some o→G1 k=some o) (hv:∀ j d,j≠i→S j=true→eU l j=some d→∃ v,a.tmps[d]?=some v∧pr j v G1)
  (hp:pr i v G1) (H:St N D w0 F G0 G1 L1 ((d,v) :: (Xs++full N a)) a' w'):DX N D w0 F G0 G L1 T l pr (fq S i) a' w':=by
 have hil:i < l.length:=yu hi
 have hok1:=hok
 rw [pI,hi] at hok1
 simp only [pF,Option.isNone_iff_eq_none,kM,uV] at hok1
 have hsame:∀ t,t≠d→a'.tmps[t]?=a.tmps[t]?:=by
  intro t ht
  by_cases hlt:t < N
  ·have h1:∃ u,lk (Xs++full N a) t=some u:=by
    rw [Pm]
    cases lk Xs t with
    | some u=>exact ⟨u,rfl⟩
    | none=>exact ⟨_,Pn a hlt⟩
   obtain ⟨u,hu⟩:=h1
   rw [Hb.get t u hu,H.get t u (by rw [wJ (Ne.symm ht)];exact hu)]
  ·rw [Array.getElem?_eq_none (by rw [H.nO];omega),Array.getElem?_eq_none (by rw [Hb.nO];omega)]
 refine ⟨G1,hG,⟨H.nO,fun t u ht=>?_,H.ug,H.hp⟩,fun j e hj he=>?_⟩
 ·rw [hsame t (fun e=>by rw [e,hok1.1] at ht;cases ht)]
  exact HT.get t u ht
 ·by_cases hji:j=i
  ·subst hji
   rw [hi] at he
   simp only [oI] at he
   subst he
   exact ⟨v,H.get d v (xJ _ _ _),hp⟩
  ·have hSj:S j=true:=by unfold fq at hj;rwa [ah hji] at hj
   obtain ⟨u,hu1,hu2⟩:=hv j e hji hSj he
   have hne:e≠d:=by
    intro e'
    subst e'
    have h2:=hok1.2 j (yu he)
    rw [yh (fun h=>hji h.symm),he] at h2
    simp at h2
   exact ⟨u,by rw [hsame e hne];exact hu1,hu2⟩
end
end
section
section
variable {N:Nat} {D:List Deferred} {w0:World} {F:Nat→Prop} {G0 G G1 G2:GH} {L L1:OL} {T Xs:List (Nat × aj)}
variable {r:Option Nat} {P:Program} {Q:Exit→Act→World→Prop} {l:List Oper} {a a':Act} {w w':World}
theorem afn {id:Nat} (hm:P.follows .mixedOrders=true) (bX:List (List Nat)) (B:List Nat) (hk:Af l bX=true) (hB:yX l bX B=true) (m:Nat) (LX:B.contains m=false) (ob:Obj) (pr:Nat→Nat→aj→GH→Prop)
  (Md:∀ b b' i v G,i≠m→pr b i v G→pr b' i v G) (H:St N D w0 F G0 G L T a w)
  (hstep:allI (fun i o=>∀ b L' S a w G1,(∀ x,x∈L→x∈L')→B.contains i=false→Nat.beq i m=false→S i=false→(∀ j∈bX.getD i [],S j=true)→(∀ k o,G k=some o→G1 k=some o)→St N D w0 F G0 G1 L' T a w→(∀ i d,S i=true→eU l i=some d→∃ v,a.tmps[d]?=some v∧pr b i v G1) →
   WL r P l.toArray (fun e a' w'=>e=.normal∧DX N D w0 F G0 G L' T l (pr b) (fq S i) a' w') [o] a w) 0 l)
  (hmid:∀ o S a w G1,l[m]?=some o→S m=false→(∀ j∈bX.getD m [],S j=true)→(∀ k o,G k=some o→G1 k=some o)→St N D w0 F G0 G1 L T a w→(∀ b i d,i≠m→S i=true→eU l i=some d→∃ v,a.tmps[d]?=some v∧pr b i v G1) →
   WL r P l.toArray (fun e a' w'=>e=.normal∧∃ b,DX N D w0 F G0 G ((b,ob) :: L) T l (pr b) (fq S m) a' w') [o] a w)
  (hend:∀ b a w G1,(∀ k o,G k=some o→G1 k=some o)→St N D w0 F G0 G1 ((b,ob) :: L) T a w→(∀ i d,B.contains i=false→eU l i=some d→∃ v,a.tmps[d]?=some v∧pr b i v G1)→WL r P l.toArray (fun e a w=>e=.normal∧Q .normal a w) (qN l B) a w)
  (hml:Nat.blt m l.length=true):WP r P (.region id l.toArray true) Q a w:=by
 refine Ky hm bX B hk hB (fun S a w=>∃ b L',(S m=false→L'=L)∧(S m=true→L'=(b,ob) :: L)∧DX N D w0 F G0 G L' T l (pr b) S a w)
  ⟨0,L,fun _=>rfl,fun h=>absurd (show false=true from h) (by decide),G,fun _ _ h=>h,H.move H.hp.drew,fun _ _ h=>absurd (show false=true from h) (by decide)⟩ ?_ ?_
 ·rintro i o S a w ho hb aQ lX hdesc ⟨b,L',h1,h2,G1,hG,HS,hv⟩
  by_cases him:i=m
  ·subst him
   have e:=h1 aQ;subst e
   have h:=hmid o S a w G1 ho aQ lX hG HS fun b' j d hj hSj hd=>by
    obtain ⟨v,hv1,hv2⟩:=hv j d hSj hd
    exact ⟨v,hv1,Md b b' j v _ hj hv2⟩
   have e1:fq S i i=true:=au rfl
   exact qB (fun e a' w' ⟨he,b',hD⟩=>⟨he,b',_,fun h=>absurd (e1.symm.trans h) (by decide),fun _=>rfl,hD⟩) h
  ·have h:=CV hstep i o ho
   rw [gJ] at h
   have e:fq S i m=S m:=ah (fun h=>him h.symm)
   exact qB (fun e' a' w' ⟨he,hD⟩=>⟨he,b,L',fun h=>h1 (e ▸ h),fun h=>h2 (e ▸ h),hD⟩) (h b L' S a w G1 (fun x hx=>by
    cases hS:S m with
    | false=>rw [h1 hS];exact hx
    | true=>rw [h2 hS];exact iO _ hx) hb (yh him) aQ lX hG HS hv)
 ·rintro S a w hall OX ⟨b,L',h1,h2,G1,hG,HS,hv⟩
  have Jp:S m=true:=hall m (Eq.mp Nat.blt_eq hml) LX
  have e:=h2 Jp;subst e
  exact hend b a w G1 hG HS fun j d hb hd=>hv j d (hall j (yu hd) hb) hd
end
end
section
section
variable {N:Nat} {D:List Deferred} {w0:World} {F:Nat→Prop} {G0 G G1 G2:GH} {L L1 L2:OL} {T Xs:List (Nat × aj)}
variable {r:Option Nat} {P:Program} {Q:Exit→Act→World→Prop} {l:List Oper} {a a':Act} {w w':World}
theorem agS {pr:Nat→aj→GH→Prop} {S:Nat→Bool} {i:Nat} (hi:eU l i=none) (HT:St N D w0 F G0 G1 L T a w) (hG:∀ k o,G k=some o→G1 k=some o) (hv:∀ i d,S i=true→eU l i=some d→∃ v,a.tmps[d]?=some v∧pr i v G1)
  (H:St N D w0 F G0 G1 L2 (Xs++full N a) a w'):DX N D w0 F G0 G L2 T l pr (fq S i) a w' :=
 ⟨G1,hG,HT.move H.hp,fun j e hj he=>hv j e (by
  unfold fq at hj
  by_cases hji:j=i
  ·subst hji;rw [hi] at he;cases he
  ·rwa [ah hji] at hj) he⟩
theorem afq {id:Nat} (hm:P.follows .mixedOrders=true) (bX:List (List Nat)) (B:List Nat) (hk:Af l bX=true) (hB:yX l bX B=true) (m:Nat) (LX:B.contains m=false) (pr:Nat→aj→GH→Prop) (ix:Nat) (ob:Nat × Obj)
  (H:St N D w0 F G0 G L T a w)
  (hstep:allI (fun i o=>∀ S a w G1,B.contains i=false→Nat.beq i m=false→S i=false→(∀ j∈bX.getD i [],S j=true)→(∀ k o,G k=some o→G1 k=some o)→St N D w0 F G0 G1 L T a w→(∀ i d,S i=true→eU l i=some d→∃ v,a.tmps[d]?=some v∧pr i v G1) →
   WL r P l.toArray (fun e a' w'=>e=.normal∧DX N D w0 F G0 G L T l pr (fq S i) a' w') [o] a w) 0 l)
  (hmid:∀ o S a w G1,l[m]?=some o→S m=false→(∀ j∈bX.getD m [],S j=true)→(∀ k o,G k=some o→G1 k=some o)→St N D w0 F G0 G1 L T a w→(∀ i d,S i=true→eU l i=some d→∃ v,a.tmps[d]?=some v∧pr i v G1) →
   WL r P l.toArray (fun e a' w'=>e=.normal∧DX N D w0 F G0 G (L.set ix ob) T l pr (fq S m) a' w') [o] a w)
  (hstep2:allI (fun i o=>∀ S a w G1,(B.contains i || (bX.getD m []).contains i)=false→Nat.beq i m=false→S i=false→(∀ j∈bX.getD i [],S j=true)→(∀ k o,G k=some o→G1 k=some o)→St N D w0 F G0 G1 (L.set ix ob) T a w→(∀ i d,S i=true→eU l i=some d→∃ v,a.tmps[d]?=some v∧pr i v G1) →
   WL r P l.toArray (fun e a' w'=>e=.normal∧DX N D w0 F G0 G (L.set ix ob) T l pr (fq S i) a' w') [o] a w) 0 l)
  (hend:∀ a w G1,(∀ k o,G k=some o→G1 k=some o)→St N D w0 F G0 G1 (L.set ix ob) T a w→(∀ i d,B.contains i=false→eU l i=some d→∃ v,a.tmps[d]?=some v∧pr i v G1)→WL r P l.toArray (fun e a w=>e=.normal∧Q .normal a w) (qN l B) a w)
  (hml:Nat.blt m l.length=true):WP r P (.region id l.toArray true) Q a w:=by
 refine Ky hm bX B hk hB (fun S a w=>(S m=false∧DX N D w0 F G0 G L T l pr S a w)∨(S m=true∧DX N D w0 F G0 G (L.set ix ob) T l pr S a w))
  (.inl ⟨rfl,G,fun _ _ h=>h,H.move H.hp.drew,fun _ _ h=>absurd (show false=true from h) (by decide)⟩) ?_ ?_
 ·rintro i o S a w ho hb aQ lX hdesc hX
  by_cases him:i=m
  ·subst him
   rcases hX with ⟨_,G1,hG,HS,hv⟩|⟨h1,_⟩
   ·have h:=hmid o S a w G1 ho aQ lX hG HS hv
    have e1:fq S i i=true:=au rfl
    exact qB (fun e a' w' ⟨he,hD⟩=>⟨he,.inr ⟨e1,hD⟩⟩) h
   ·rw [h1] at aQ;cases aQ
  ·have e:fq S i m=S m:=ah (fun h=>him h.symm)
   rcases hX with ⟨h1,G1,hG,HS,hv⟩|⟨h1,G1,hG,HS,hv⟩
   ·have h:=CV hstep i o ho
    rw [gJ] at h
    exact qB (fun e' a' w' ⟨he,hD⟩=>⟨he,.inl ⟨e.trans h1,hD⟩⟩) (h S a w G1 hb (yh him) aQ lX hG HS hv)
   ·have h:=CV hstep2 i o ho
    rw [gJ] at h
    have hnc:(B.contains i || (bX.getD m []).contains i)=false:=by
     rw [hb,Bool.false_or]
     cases hc2:(bX.getD m []).contains i with
     | false=>rfl
     | true=>have:=hdesc m (Eq.mp Nat.blt_eq hml) (zm.1 hc2);rw [h1] at this;cases this
    exact qB (fun e' a' w' ⟨he,hD⟩=>⟨he,.inr ⟨e.trans h1,hD⟩⟩) (h S a w G1 hnc (yh him) aQ lX hG HS hv)
 ·rintro S a w hall OX hX
  have Jp:S m=true:=hall m (Eq.mp Nat.blt_eq hml) LX
  rcases hX with ⟨h1,_⟩|⟨h1,G1,hG,HS,hv⟩
  ·rw [h1] at Jp;cases Jp
  ·exact hend a w G1 hG HS fun j d hb hd=>hv j d (hall j (yu hd) hb) hd
end
end
theorem anR:liesAt prog prog.depth 340 (7 / prog.cellsOf 340) 2 172 1=true:=by kernel_rfl
theorem Qo:Ty prog 5 1 1 [.int .u8 0] false:=⟨by kernel_rfl,by kernel_rfl⟩
abbrev iq (b:Nat) (s:ByteArray) (i:Int) (p v q:aj) (pl e:Int):Nat × Obj:=(b,.cells #[.string s,vi i,p,v,q,vi pl,vi e] 340 (0,0))
theorem aqS (G:GH) (L:OL) (w0:World) (b:Nat) (s:ByteArray) (i:Int) (A:Option Addr) (n c:Nat) (B:Option Addr) (m d:Nat) (pl e:Int) (hO:gL G (iq b s i (.pointer none) (.slice A n c) (.slice B m d) pl e :: L) w0) :
  Calls prog 154 #[(aK b 2)] w0 (gy w0 G (iq b s i (.pointer none) (.slice A n c) (.slice B m d) pl e :: L) fun u G' L'=>L'=iq b s i (aK b 2) (.slice A n c) (.slice B m d) pl e :: L∧G'=G):=by
 refine iY (N:=20) (T:=[(0,_)]) func154 rfl ntmps154 rfl rfl hO ?_;intro a H;refine kP H (SR fun _ K1=>Rm rfl (Rk rfl (bG KX MQ 0 rfl rfl ?_)));clear H;intro a H;refine ada MV H wn rfl rfl ?_;clear H;intro a H;refine K1 _ _ ?_;clear K1;refine jC H rfl ?_ ?_
 ·intro h6
  refine kP H (SC (Rm rfl (Rm rfl ?_)));clear H;intro a H;refine aqP MV adN Wn H wn rfl 0 rfl rfl rfl ?_;clear H;intro a H;refine aqG (xs:=[.tmp 9]) (aos _) H wn rfl rfl ?_;clear H;intro a H;refine aqB adN MV Wn H wn rfl 0 rfl anR rfl ?_;clear H;intro a H;refine kH H (Rk rfl (Rf KX rfl ?_));clear H;intro a H;refine aY MQ 0 (vs:=[_]) _ H wn rfl rfl rfl rfl rfl rfl rfl rfl ?_;clear H;intro w H;dsimp only [List.set,setRow] at H;refine aD ?_;refine (leave0 H results154 ?_).2;exact H.hp.dJ ⟨rfl,rfl⟩
 intro h6
 exact absurd h6 (by decide)
theorem aqT (G:GH) (L:OL) (w0:World) (b:Nat) (s:ByteArray) (i:Int) (A:Option Addr) (n c:Nat) (B:Option Addr) (m d:Nat) (pl e:Int) (hO:gL G (iq b s i (aK b 2) (.slice A n c) (.slice B m d) pl e :: L) w0) :
  Calls prog 154 #[(aK b 2)] w0 (gy w0 G (iq b s i (aK b 2) (.slice A n c) (.slice B m d) pl e :: L) fun u G' L'=>L'=iq b s i (aK b 2) (.slice A n c) (.slice B m d) pl e :: L∧G'=G):=by
 refine iY (N:=20) (T:=[(0,_)]) func154 rfl ntmps154 rfl rfl hO ?_;intro a H;refine kP H (SR fun _ K1=>Rm rfl (Rk rfl (bG KX MQ 0 rfl rfl ?_)));clear H;intro a H;refine ada MV H wn rfl rfl ?_;clear H;intro a H;refine K1 _ _ ?_;clear K1;refine jC H rfl ?_ ?_
 ·intro h6
  exact absurd h6 (by simp)
 intro h6
 refine kP H (SR fun _ K2=>Rm rfl (Rk rfl (bG KX MQ 0 rfl rfl (Rm rfl ?_))));clear H;intro a H;refine aqE MV Wn H wn rfl rfl rfl ?_;clear H;intro a H;refine K2 _ _ ?_;clear K2;refine jC H rfl ?_ ?_
 ·intro h19
  exact absurd h19 (by decide)
 intro h19
 refine fZ ?_;refine (leave0 H results154 ?_).2;exact H.hp.dJ ⟨rfl,rfl⟩
theorem aqU (G:GH) (L:OL) (w0:World) (b:Nat) (s:ByteArray) (i:Int) (p:aj) (A:Option Addr) (n c:Nat) (B:Option Addr) (m d:Nat) (pl e:Int) (hp:p=.pointer none∨p=(aK b 2)) (hO:gL G (iq b s i p (.slice A n c) (.slice B m d) pl e :: L) w0) :
  Calls prog 154 #[(aK b 2)] w0 (gy w0 G (iq b s i p (.slice A n c) (.slice B m d) pl e :: L) fun u G' L'=>L'=iq b s i (aK b 2) (.slice A n c) (.slice B m d) pl e :: L∧G'=G):=by
 rcases hp with rfl|rfl
 ·exact aqS G L w0 b s i A n c B m d pl e hO
 exact aqT G L w0 b s i A n c B m d pl e hO
theorem aed (G:GH) (Lp Lo:OL) (w0:World) (b:Nat) (s:ByteArray) (i:Int) (p v:aj) (B:Option Addr) (m d:Nat) (pl e:Int) (n:Nat) (xs:List aj) (c:Int) (hp:p=.pointer none∨p=(aK b 2)) (hO:gL G (iq b s i p v (.slice B m d) pl e :: (Lp++Lo)) w0) (hrow:bY 5 1 v n xs Lo) (hn:n≤4294967296) :
  Calls prog 273 #[(aK b 2),.int .u8 c] w0 (gy w0 G (iq b s i p v (.slice B m d) pl e :: (Lp++Lo)) fun u G' L'=>∃ v' jU,L'=iq b s i (aK b 2) v' (.slice B m d) pl e :: (Lp++jU)∧bY 5 1 v' (n+1) (xs++[.int .u8 c]) jU∧G'=G):=by
 have hml:maxLen=9223372036854775807:=rfl;obtain ⟨A,c0,rfl,-,-⟩:=hrow.shape;obtain ⟨Lt,qI⟩:∃ x,x=Lp++Lo:=⟨_,rfl⟩;rw [← qI] at hO ⊢;refine iY (N:=17) (T:=[(0,_),(1,_)]) func273 rfl ntmps273 rfl rfl hO ?_;intro a H;refine kP H (SR fun _ K1=>ak K1 rfl (SR fun _ K2=>Rm rfl ?_));clear H K1;intro a H;refine gW ahD (Li:=[]) (L:=iq b s i p _ (.slice B m d) pl e :: Lt) H wn rfl (aqU _ _ _ b s i p A n c0 B m d pl e hp (Hp.owns (Li:=[]) H.hp)) rfl ?_;clear H;rintro v6 _ L6 a w ⟨rfl,rfl⟩ GK H;dsimp only [List.nil_append] at H;refine K2 _ _ ?_;clear K2;refine kP H (SR fun _ K3=>Rm rfl (Rm rfl (Rk rfl (bG I6 JV 0 rfl rfl (Rm rfl ?_)))));clear H;intro a H;refine ig Ig Qo [_] [_] H wn rfl rfl rfl rfl rfl (by intro i q h;match i,h with|0,h=>exact h|n+1,h=>simp at h) rfl rfl ?_;clear H;intro b13 a w OA H;subst qI;have H:=St.un (A:=[_,_]) (B:=Lp) (C:=Lo) H;refine nk (Li:=[_,_]++Lp) (Lo:=Lo) (news:=[.int .u8 c]) Ig Qo rfl rfl H wn rfl rfl hrow rfl (H.hp.bU 0 rfl rfl) rfl (by omega) (by omega) rfl ?_;clear H;intro v14 aeC a w Mg H;obtain ⟨QA,c14,rfl,-,-⟩:=Mg.shape;have H:=H.assoc;dsimp only [lca,bq] at H;refine kH H (Rk rfl (Rf I6 rfl ?_));clear H;intro a H;refine aY JV 1 (vs:=[_]) _ H wn rfl rfl rfl rfl rfl rfl rfl rfl ?_;clear H;intro w H;dsimp only [List.set,setRow] at H;refine K3 _ _ ?_;clear K3;exact kP H (SR fun _ K4=>ak K4 rfl (LR results273 rfl fun H=>H.hp.gB (L':=iq b s i _ _ _ pl e :: (Lp++aeC)) (BK _ _) ⟨_,_,rfl,Mg,rfl⟩))
theorem arD (G:GH) (L:OL) (w0:World) (b:Nat) (s:ByteArray) (i:Int) (p:aj) (A:Option Addr) (n c:Nat) (B:Option Addr) (m d:Nat) (pl e:Int) (hO:gL G (iq b s i p (.slice A n c) (.slice B m d) pl e :: L) w0) :
  Calls prog 279 #[(aK b 2)] w0 (gy w0 G (iq b s i p (.slice A n c) (.slice B m d) pl e :: L) fun u G' L'=>u=vi n∧L'=iq b s i p (.slice A n c) (.slice B m d) pl e :: L∧G'=G):=by
 refine iY (N:=8) (T:=[(0,_)]) func279 rfl ntmps279 rfl rfl hO ?_;intro a H;exact kP H (SR fun _ K1=>ak K1 rfl (SR fun _ K2=>Rm rfl (Rk rfl (bG I6 JV 0 rfl rfl (Rl Ig rfl (ak K2 rfl (LR results279 rfl fun H=>H.hp.dJ ⟨rfl,rfl,rfl⟩)))))))
theorem arU (G:GH) (L:OL) (w0:World) (b:Nat) (s:ByteArray) (i:Int) (p:aj) (A:Option Addr) (n c:Nat) (B:Option Addr) (m d:Nat) (pl e:Int) (hO:gL G (iq b s i p (.slice A n c) (.slice B m d) pl e :: L) w0) :
  Calls prog 280 #[(aK b 2)] w0 (gy w0 G (iq b s i p (.slice A n c) (.slice B m d) pl e :: L) fun u G' L'=>L'=iq b s i (.pointer none) (.slice none 0 0) (.slice B m d) pl e :: L∧G'=G):=by
 refine iY (N:=8) (T:=[(0,_)]) func280 rfl ntmps280 rfl rfl hO ?_;intro a H;refine kP H (SR fun _ K1=>Rm rfl (Rk rfl (Rf KX rfl ?_)));clear H;intro a H;refine aY MQ 0 (vs:=[_]) _ H wn rfl rfl rfl rfl rfl rfl rfl rfl ?_;clear H;intro w H;dsimp only [List.set,setRow] at H;refine K1 _ _ ?_;clear K1;refine kP H (SC (Rm rfl (Rk rfl (Rf I6 rfl ?_))));clear H;intro a H;refine aY JV 0 (vs:=[_]) _ H wn rfl rfl rfl rfl rfl rfl rfl rfl ?_;clear H;intro w H;dsimp only [List.set,setRow] at H;refine aD ?_;refine (leave0 H results280 ?_).2;exact H.hp.dJ ⟨rfl,rfl⟩
theorem arV (G:GH) (Lp Lo:OL) (w0:World) (b:Nat) (s:ByteArray) (i:Int) (p v:aj) (B:Option Addr) (m d:Nat) (pl e:Int) (l:List UInt8) (hO:gL G (iq b s i p v (.slice B m d) pl e :: (Lp++Lo)) w0) (hrow:bY 5 1 v l.length (Lib.byteCells l) Lo) (h0:l≠[]) :
  Calls prog 94 #[(aK b 2)] w0 (gy w0 G (iq b s i p v (.slice B m d) pl e :: (Lp++Lo)) fun u G' L'=>u=.string ⟨l.toArray⟩∧L'=iq b s i p v (.slice B m d) pl e :: Lp):=by
 rcases hrow.2 with ⟨-,h,-⟩|⟨b2,cap,cur,rfl,rfl,hc1,hc2,hc3,hc4⟩
 ·exact absurd (List.eq_nil_of_length_eq_zero h) h0
 have hl0:l.length≠0:=fun h=>h0 (List.eq_nil_of_length_eq_zero h);have hml:maxLen=9223372036854775807:=rfl;obtain ⟨Lt,qI⟩:∃ x,x=Lp++[(b2,Obj.cells cur 5 (0,0))]:=⟨_,rfl⟩;rw [← qI] at hO ⊢;refine iY (N:=14) (T:=[(0,_)]) func94 rfl ntmps94 rfl rfl hO ?_;intro a H;refine kP H (SR fun _ K1=>ak K1 rfl (SQ fun _ K2=>?_));clear H K1;intro a H;have H:=H.sub (T':=[(0,_)]) ⟨rfl,aC⟩;refine dI hmx [[],[0],[0,1],[0,1,2],(ra 0 4),[],[5],[5,6],[5,6,7],(ra 5 4),(ra 0 10),(ra 0 11)] [10,11] (by kernel_rfl) [_,_,_,.slice (some ⟨b2,0,none⟩) l.length cap,(aK b2 0),_,_,_,.slice (some ⟨b2,0,none⟩) l.length cap,_] H (aF (Z0 rfl (Rm rfl)) (Z1 0 3 rfl (Rk rfl)) (Z1 1 4 rfl (Rf I6 rfl)) (Z1 2 5 rfl (Ro JV 0 rfl)) (aF ?_ (Z0 rfl (Rm rfl)) (Z1 5 8 rfl (Rk rfl)) (Z1 6 9 rfl (Rf I6 rfl)) (aF (Z1 7 10 rfl (Ro JV 0 rfl)) (Z1 8 11 rfl (Rl Ig rfl)) (bQ rfl) (bQ rfl) dz))) ?_
 ·refine eP 3 6 rfl rfl fun _ a w G1 hG HT H fin=>?_;refine aqM H wn rfl (by omega) rfl ?_;clear H;intro a H;exact fin H iJ rfl
 clear H;intro a w G nA H hv;have H:=H.aM (hv 4 7 rfl rfl) rfl;have H:=H.aM (hv 9 12 rfl rfl) rfl;clear hv;subst qI;have H:=H.perm (List.Perm.cons _ vX);dsimp only [lca,bq] at H;refine aqQ (i:=1) l asj afF h0 (by omega) H wn rfl rfl rfl (by rw [← hc4,Nat.mul_one]) rfl ?_;clear H;intro fz a w H;dsimp only [List.set] at H;refine kH H (Ra rfl ?_);clear H;intro a H;refine aD ⟨rfl,?_⟩;refine K2 _ _ ?_;clear K2;refine lr H results94 rfl ?_;exact H.hp.gB (L':=iq b s i _ _ _ pl e :: Lp) (List.Sublist.cons_cons _ (BK _ _)) ⟨rfl,rfl⟩
section
section
variable {N:Nat} {D:List Deferred} {w0:World} {F:Nat→Prop} {G0 G G1 G2:GH} {L L1 L2:OL} {T Xs:List (Nat × aj)}
variable {r:Option Nat} {P:Program} {Q:Exit→Act→World→Prop} {l:List Oper} {a a':Act} {w w':World}
theorem DX.perm {pr:Nat→aj→GH→Prop} {S:Nat→Bool} (h:DX N D w0 F G0 G L1 T l pr S a w) (hp:L1.Perm L2):DX N D w0 F G0 G L2 T l pr S a w:=by
 obtain ⟨G1,hG,HS,hv⟩:=h
 exact ⟨G1,hG,HS.perm hp,hv⟩
end
end
section
section
variable {N:Nat} {D:List Deferred} {w0:World} {F:Nat→Prop} {G0 G G1 G2:GH} {L L1 L2:OL} {T Xs:List (Nat × aj)}
variable {r:Option Nat} {P:Program} {Q:Exit→Act→World→Prop} {l:List Oper} {a a':Act} {w w':World}
theorem FU {pr:Nat→aj→GH→Prop} {S:Nat→Bool} {i d:Nat} {v:aj} (hok:pI l T i=true) (kC:∀ i v (G G':GH),(∀ k o,G k=some o→G' k=some o)→pr i v G→pr i v G') (hi:eU l i=some d)
  (HT:St N D w0 F G0 G1 L T a w) (Hb:St N D w0 F G0 G1 L (Xs++full N a) a w) (hG:∀ k o,G k=some o→G1 k=some o) (hv:∀ j d,j≠i→S j=true→eU l j=some d→∃ v,a.tmps[d]?=some v∧pr j v G1)
  (hG2:∀ k o,G1 k=some o→G2 k=some o) (hp:pr i v G2) (H:St N D w0 F G0 G2 L1 ((d,v) :: (Xs++full N a)) a' w'):DX N D w0 F G0 G L1 T l pr (fq S i) a' w':=by
 have hok1:=hok
 rw [pI,hi] at hok1
 simp only [pF,Option.isNone_iff_eq_none,kM,uV] at hok1
 have hsame:∀ t,t≠d→a'.tmps[t]?=a.tmps[t]?:=by
  intro t ht
  by_cases hlt:t < N
  ·have h1:∃ u,lk (Xs++full N a) t=some u:=by
    rw [Pm]
    cases lk Xs t with
    | some u=>exact ⟨u,rfl⟩
    | none=>exact ⟨_,Pn a hlt⟩
   obtain ⟨u,hu⟩:=h1
   rw [Hb.get t u hu,H.get t u (by rw [wJ (Ne.symm ht)];exact hu)]
  ·rw [Array.getElem?_eq_none (by rw [H.nO];omega),Array.getElem?_eq_none (by rw [Hb.nO];omega)]
 refine ⟨G2,fun k o hk=>hG2 k o (hG k o hk),⟨H.nO,fun t u ht=>?_,H.ug,H.hp⟩,fun j e hj he=>?_⟩
 ·rw [hsame t (fun e=>by rw [e,hok1.1] at ht;cases ht)]
  exact HT.get t u ht
 ·by_cases hji:j=i
  ·subst hji
   rw [hi] at he
   simp only [oI] at he
   subst he
   exact ⟨v,H.get d v (xJ _ _ _),hp⟩
  ·have hSj:S j=true:=by unfold fq at hj;rwa [ah hji] at hj
   obtain ⟨u,hu1,hu2⟩:=hv j e hji hSj he
   have hne:e≠d:=by
    intro e'
    subst e'
    have h2:=hok1.2 j (yu he)
    rw [yh (fun h=>hji h.symm),he] at h2
    simp at h2
   exact ⟨u,by rw [hsame e hne];exact hu1,kC j u _ _ hG2 hu2⟩
theorem afo {id:Nat} {κ:Type} (k0:κ) (hm:P.follows .mixedOrders=true) (bX:List (List Nat)) (B:List Nat) (hk:Af l bX=true) (hB:yX l bX B=true) (m1 m2 m3:Nat) (aun:B.contains m1=false) (auo:B.contains m2=false) (amg:B.contains m3=false) (hne:Nat.beq m1 m2=false) (aaH:Nat.beq m2 m3=false) (hne1:Nat.beq m1 m3=false) (h12:(bX.getD m2 []).contains m1=true) (fD:(bX.getD m3 []).contains m1=true) (h23:(bX.getD m3 []).contains m2=true)
  (C L2:OL) (ob:Obj) (L3:Nat→κ→OL) (hC:∀ x,x∈C→x∈L) (hC2:∀ x,x∈C→x∈L2) (hC3:∀ b k x,x∈C→x∈L3 b k) (pr:Nat→κ→Nat→aj→GH→Prop)
  (Md:∀ b b' k i v G,Nat.beq i m2=false→(bX.getD i []).contains m2=false→pr b k i v G→pr b' k i v G)
  (amx:∀ b k k' i v G,Nat.beq i m3=false→(bX.getD i []).contains m3=false→pr b k i v G→pr b k' i v G)
  (H:St N D w0 F G0 G L T a w)
  (hstep:allI (fun i o=>∀ b k L' S a w G1,(∀ x,x∈C→x∈L')→B.contains i=false→Nat.beq i m1=false→Nat.beq i m2=false→Nat.beq i m3=false→S i=false→(∀ j∈bX.getD i [],S j=true)→(∀ k o,G k=some o→G1 k=some o)→St N D w0 F G0 G1 L' T a w→(∀ i d,S i=true→eU l i=some d→∃ v,a.tmps[d]?=some v∧pr b k i v G1) →
   WL r P l.toArray (fun e a' w'=>e=.normal∧DX N D w0 F G0 G L' T l (pr b k) (fq S i) a' w') [o] a w) 0 l)
  (amh:∀ o b k S a w G1,l[m1]?=some o→S m1=false→(∀ j∈bX.getD m1 [],S j=true)→(∀ k o,G k=some o→G1 k=some o)→St N D w0 F G0 G1 L T a w→(∀ i d,i≠m1→S i=true→eU l i=some d→∃ v,a.tmps[d]?=some v∧pr b k i v G1) →
   WL r P l.toArray (fun e a' w'=>e=.normal∧DX N D w0 F G0 G L2 T l (pr b k) (fq S m1) a' w') [o] a w)
  (ami:∀ o k S a w G1,l[m2]?=some o→S m2=false→(∀ j∈bX.getD m2 [],S j=true)→(∀ k o,G k=some o→G1 k=some o)→St N D w0 F G0 G1 L2 T a w→(∀ b i d,i≠m2→S i=true→eU l i=some d→∃ v,a.tmps[d]?=some v∧pr b k i v G1) →
   WL r P l.toArray (fun e a' w'=>e=.normal∧∃ b,DX N D w0 F G0 G ((b,ob) :: L2) T l (pr b k) (fq S m2) a' w') [o] a w)
  (amj:∀ o b S a w G1,l[m3]?=some o→S m3=false→(∀ j∈bX.getD m3 [],S j=true)→(∀ k o,G k=some o→G1 k=some o)→St N D w0 F G0 G1 ((b,ob) :: L2) T a w→(∀ k i d,i≠m3→S i=true→eU l i=some d→∃ v,a.tmps[d]?=some v∧pr b k i v G1) →
   WL r P l.toArray (fun e a' w'=>e=.normal∧∃ k,DX N D w0 F G0 G (L3 b k) T l (pr b k) (fq S m3) a' w') [o] a w)
  (hend:∀ b k a w G1,(∀ k o,G k=some o→G1 k=some o)→St N D w0 F G0 G1 (L3 b k) T a w→(∀ i d,B.contains i=false→eU l i=some d→∃ v,a.tmps[d]?=some v∧pr b k i v G1)→WL r P l.toArray (fun e a w=>e=.normal∧Q .normal a w) (qN l B) a w)
  (Uy:Nat.blt m2 l.length=true) (Uz:Nat.blt m3 l.length=true):WP r P (.region id l.toArray true) Q a w:=by
 have abQ:m1≠m2:=fun e=>by subst e;rw [Nat.beq_refl] at hne;cases hne
 have abS:m2≠m3:=fun e=>by subst e;rw [Nat.beq_refl] at aaH;cases aaH
 have abR:m1≠m3:=fun e=>by subst e;rw [Nat.beq_refl] at hne1;cases hne1
 refine Ky hm bX B hk hB (fun S a w=>(S m2=true→S m1=true)∧(S m3=true→S m2=true)∧∃ b k L',L'=(bif S m3 then L3 b k else bif S m2 then (b,ob) :: L2 else bif S m1 then L2 else L)∧DX N D w0 F G0 G L' T l (pr b k) S a w)
  ⟨fun h=>h,fun h=>h,0,k0,L,rfl,G,fun _ _ h=>h,H.move H.hp.drew,fun _ _ h=>absurd (show false=true from h) (by decide)⟩ ?_ ?_
 ·rintro i o S a w ho hb aQ lX hdesc ⟨amu,amv,b,k,L',hL,G1,hG,HS,hv⟩
  have hsub:∀ x,x∈C→x∈L':=fun x hx=>by
   rw [hL]
   cases S m3 with
   | true=>exact hC3 b k x hx
   | false=>cases S m2 with
    | true=>exact iO _ (hC2 x hx)
    | false=>cases S m1 with
     | true=>exact hC2 x hx
     | false=>exact hC x hx
  have hno:∀ j,j < l.length→S j=true→(bX.getD j []).contains i=false:=fun j hjl hj=>by
   cases hc:(bX.getD j []).contains i with
   | false=>rfl
   | true =>
    have:=hdesc j hjl (by simpa using hc)
    rw [this] at hj;cases hj
  by_cases h1:i=m1
  ·subst h1
   have hS2:S m2=false:=hdesc m2 (Eq.mp Nat.blt_eq Uy) (by simpa using h12)
   have Jg:S m3=false:=hdesc m3 (Eq.mp Nat.blt_eq Uz) (by simpa using fD)
   rw [Jg,hS2,aQ] at hL
   subst hL
   have h:=amh o b k S a w G1 ho aQ lX hG HS fun j d hj hSj hd=>hv j d hSj hd
   have e2:fq S i m2=S m2:=ah (fun e=>abQ e.symm)
   have e3:fq S i m3=S m3:=ah (fun e=>abR e.symm)
   refine qB (fun e a' w' ⟨he,hD⟩=>⟨he,fun _=>au rfl,fun h=>(by rw [e3,Jg] at h;cases h),b,k,_,?_,hD⟩) h
   rw [show fq S i i=true from au rfl,e2,e3,hS2,Jg]
   rfl
  ·by_cases h2:i=m2
   ·subst h2
    have hS1:S m1=true:=lX m1 (by simpa using h12)
    have Jg:S m3=false:=hdesc m3 (Eq.mp Nat.blt_eq Uz) (by simpa using h23)
    rw [Jg,aQ,hS1] at hL
    subst hL
    have e1:fq S i m1=S m1:=ah abQ
    have e3:fq S i m3=S m3:=ah (fun e=>abS e.symm)
    have h:=ami o k S a w G1 ho aQ lX hG HS fun b' j d hj hSj hd=>by
     obtain ⟨v,hv1,hv2⟩:=hv j d hSj hd
     exact ⟨v,hv1,Md b b' k j v _ (yh hj) (hno j (yu hd) hSj) hv2⟩
    refine qB (fun e a' w' ⟨he,b',hD⟩=>⟨he,fun _=>by rw [e1];exact hS1,fun _=>au rfl,b',k,_,?_,hD⟩) h
    rw [show fq S i i=true from au rfl,e3,Jg];rfl
   ·by_cases h3:i=m3
    ·subst h3
     have hS1:S m1=true:=lX m1 (by simpa using fD)
     have hS2:S m2=true:=lX m2 (by simpa using h23)
     rw [aQ,hS2] at hL
     subst hL
     have e1:fq S i m1=S m1:=ah abR
     have e2:fq S i m2=S m2:=ah abS
     have h:=amj o b S a w G1 ho aQ lX hG HS fun k' j d hj hSj hd=>by
      obtain ⟨v,hv1,hv2⟩:=hv j d hSj hd
      exact ⟨v,hv1,amx b k k' j v _ (yh hj) (hno j (yu hd) hSj) hv2⟩
     refine qB (fun e a' w' ⟨he,k',hD⟩=>⟨he,fun _=>by rw [e1];exact hS1,fun _=>by rw [e2];exact hS2,b,k',_,?_,hD⟩) h
     rw [show fq S i i=true from au rfl];rfl
    ·have h:=CV hstep i o ho
     rw [gJ] at h
     have e1:fq S i m1=S m1:=ah (fun e=>h1 e.symm)
     have e2:fq S i m2=S m2:=ah (fun e=>h2 e.symm)
     have e3:fq S i m3=S m3:=ah (fun e=>h3 e.symm)
     refine qB (fun e a' w' ⟨he,hD⟩=>⟨he,by rw [e1,e2];exact amu,by rw [e2,e3];exact amv,b,k,L',?_,hD⟩) (h b k L' S a w G1 hsub hb (yh h1) (yh h2) (yh h3) aQ lX hG HS hv)
     rw [e1,e2,e3];exact hL
 ·rintro S a w hall OX ⟨_,_,b,k,L',hL,G1,hG,HS,hv⟩
  have hs3:S m3=true:=hall m3 (Eq.mp Nat.blt_eq Uz) amg
  rw [hs3] at hL
  subst hL
  exact hend b k a w G1 hG HS fun j d hb hd=>hv j d (hall j (yu hd) hb) hd
end
theorem ash {z:Int} (h1:0≤z) (h2:z < 256):IntKind.u8.wrap z=z:=by
 simp only [IntKind.wrap,IntKind.bits,IntKind.signed,xZ,FJ,if_false]
 omega
section
variable {N:Nat} {D:List Deferred} {w0:World} {F:Nat→Prop} {G0 G:GH} {L:OL} {T:List (Nat × aj)}
variable {r:Option Nat} {P:Program} {ops:Array Oper} {Q:Exit→Act→World→Prop} {rest:List Oper} {a:Act} {w:World}
variable {d:Nat} {ty:TypeId} {pos:String} {aL:Array Edge} {g:Option (Nat × Bool)}
theorem aqO {x y:Operand} {t yt:TypeId} {p q:Int} (H:St N D w0 F G0 G L T a w) (hw:Region.wanted ⟨some d,.binOp .sub t x y yt,ty,pos,aL,g⟩ (yielded ops a.tmps)=true) (hx:ev T x=some (.int .u8 p)) (hy:ev T y=some (.int .u8 q)) (h1:0≤p - q) (h2:p - q < 256) (hd:Nat.blt d N=true)
  (k:∀ a',St N D w0 F G0 G L ((d,.int .u8 (p - q)) :: T) a' w→WL r P ops Q rest a' w):WL r P ops Q (⟨some d,.binOp .sub t x y yt,ty,pos,aL,g⟩ :: rest) a w :=
 fP (v:=.int .u8 (p - q)) (w':=w) hw rfl (by simp [execOp,eqGuard,binOp,Op.intArith,H.ev hx,H.ev hy,dX,ash h1 h2]) (k _ (H.put hd _ H.hp))
end
end
theorem aiY:∀ args w,(callFunc 279 args).run prog w=.ok (.enter 279 args) w:=enters func279 rfl (by kernel_rfl)
theorem MR:Ty prog 313 1 24 [.slice none 0 0] false:=⟨by kernel_rfl,by kernel_rfl⟩
theorem ajt:∀ args w,(callFunc 94 args).run prog w=.ok (.enter 94 args) w:=enters func94 rfl (by kernel_rfl)
theorem JZ:prog.underlying 313=some (.slice 318):=by kernel_rfl
theorem JW:Ty prog 318 3 32 [.string ⟨#[]⟩,.int .i64 0,.bool false] true:=⟨by kernel_rfl,by kernel_rfl⟩
theorem aiZ:∀ args w,(callFunc 280 args).run prog w=.ok (.enter 280 args) w:=enters func280 rfl (by kernel_rfl)
theorem KY:dN prog 340 2 2:=⟨by kernel_rfl⟩
theorem KZ:dN prog 340 3 4:=⟨by kernel_rfl⟩
theorem ads:qd prog 318 [(0,1),(1,1),(2,1)] [.string ⟨#[]⟩,.int .i64 0,.bool false]:=⟨by kernel_rfl,by kernel_rfl⟩
theorem Sg:∀ args w,(callFunc 274 args).run prog w=.ok (.enter 274 args) w:=enters func274 rfl (by kernel_rfl)
theorem Oq:dN prog 340 4 5:=⟨by kernel_rfl⟩
structure jG where
 lit:ByteArray
 level:Int
 plain:Bool
def jG.dat (x:jG):List Dat:=[.lf (.string x.lit),li x.level,.lf (.bool x.plain)]
abbrev jG.cells (x:jG):List aj:=[.string x.lit,vi x.level,.bool x.plain]
theorem abH (G:GH) (x:jG):aR G x.dat x.cells:=by
 simp only [jG.dat,jG.cells,aR]
 exact ⟨_,_,rfl,by simp [av,Value.oneCell'],_,_,rfl,by simp [av,Value.oneCell'],_,_,rfl,by simp [av,Value.oneCell'],rfl⟩
theorem abG {G:GH} {x:jG} {cs:List aj} (h:aR G x.dat cs):cs=x.cells:=by
 simp only [jG.dat,aR,av] at h
 obtain ⟨_,_,rfl,⟨rfl,_⟩,_,_,rfl,⟨rfl,_⟩,_,_,rfl,⟨rfl,_⟩,rfl⟩:=h
 rfl
def Hq (l:List jG):List aj:=(l.map jG.cells).flatten
theorem abF (l:List jG) (x:jG):Hq (l++[x])=Hq l++x.cells:=by simp [Hq]
structure BG (b:Nat) (lit:List UInt8) (parts:List jG) (p v q:aj) (Lp Lo:OL):Prop where
 ptr:p=.pointer none∨p=(aK b 2)
 buf:bY 5 1 v lit.length (Lib.byteCells lit) Lo
 prt:bY 318 3 q parts.length (Hq parts) Lp
def wB (lit:List UInt8) (parts:List jG):List jG:=if lit=[] then parts else parts++[⟨⟨lit.toArray⟩,0,false⟩]
set_option maxHeartbeats 1000000 in
theorem SS (G:GH) (Lp Lo:OL) (w0:World) (b:Nat) (s:ByteArray) (i:Int) (p v q:aj) (pl e:Int) (lit:List UInt8) (parts:List jG) (hR:BG b lit parts p v q Lp Lo) (hO:gL G (iq b s i p v q pl e :: (Lp++Lo)) w0) (hl:lit.length≤4294967296) (hp:parts.length≤4294967296) :
  Calls prog 274 #[(aK b 0)] w0 (gy w0 G (iq b s i p v q pl e :: (Lp++Lo)) fun u G' L'=>∃ p' v' q' rW jU,L'=iq b s i p' v' q' pl e :: (rW++jU)∧BG b [] (wB lit parts) p' v' q' rW jU):=by
 obtain ⟨aaO,hbuf,O4⟩:=hR;have hml:maxLen=9223372036854775807:=rfl;obtain ⟨A,c,rfl,abf,abg⟩:=hbuf.shape;obtain ⟨B,d,rfl,aaP,aaQ⟩:=O4.shape;obtain ⟨Lt,qI⟩:∃ x,x=Lp++Lo:=⟨_,rfl⟩;rw [← qI] at hO ⊢;refine iY (N:=25) (T:=[(0,_)]) func274 rfl ntmps274 rfl rfl hO ?_;intro a H;refine kP H (SR fun _ K1=>Rm rfl (Rk rfl (Rf KY rfl ?_)));clear H;intro a H;refine gW aiY (Li:=[]) (L:=iq b s i p (.slice A lit.length c) (.slice B parts.length d) pl e :: Lt) H wn rfl (arD _ _ _ b s i p A lit.length c B parts.length d pl e (Hp.owns (Li:=[]) H.hp)) rfl ?_;clear H;rintro v5 _ L5 a w ⟨rfl,rfl,rfl⟩ AA H;dsimp only [List.nil_append] at H;refine kH H (Rc rfl (Kz K1 (Cd rfl ?_ ?_))) <;> clear H K1
 ·intro h6 a H
  try have p6:=dT h6
  have hne:lit≠[]:=fun e=>by rw [e] at p6;simp at p6
  subst qI;refine bN (fun _ K2=>?_)
  have dS:Mo2 (fun (aN:Nat) (jK:(Option Addr × Nat) × OL) (dD:Nat) (v:aj) (G:GH)=>match dD with|0=>v=(aK b 0)|1=>v=(aK b 0)|2=>v=(aK b 0)|3=>v=(aK b 4)|4=>v=.slice B parts.length d|5=>v=(aK b 0)|6=>v=(aK b 0)|7=>v=(aK b 2)|8=>v=.string ⟨lit.toArray⟩|9=>v=.agg (jG.cells ⟨⟨lit.toArray⟩,0,false⟩).toArray|10=>v=.slice (some ⟨aN,0,none⟩) 1 1|11=>v=.slice jK.1.1 (parts.length+1) jK.1.2∧bY 318 3 v (parts.length+1) (Hq (parts++[⟨⟨lit.toArray⟩,0,false⟩])) jK.2|_=>True):=by intro aN jK dD v G G' hm h;(iterate 15 (rcases dD with _|dD;(first|exact h)));exact trivial
  refine afo (κ:=(Option Addr × Nat) × OL) (((none,0),[])) (hmx) [[],[],[1],[1,2],[1,2,3],[],[5],[5,6],[5,6,7],(ra 5 4),(ra 5 5),(ra 1 10),(ra 0 12),(ra 0 13),(ra 0 14)] [12,13,14] (by kernel_rfl) (by kernel_rfl) 8 10 11 (by decide) (by decide) (by decide) (by decide) (by decide) (by decide) (by decide) (by decide) (by decide) [iq b s i p (.slice A lit.length c) (.slice B parts.length d) pl e] (iq b s i p (.slice A lit.length c) (.slice B parts.length d) pl e :: Lp) (.cells (jG.cells ⟨⟨lit.toArray⟩,0,false⟩).toArray 318 (0,0)) (fun b_ k_=>(b_,.cells (jG.cells ⟨⟨lit.toArray⟩,0,false⟩).toArray 318 (0,0)) :: iq b s i p (.slice A lit.length c) (.slice B parts.length d) pl e :: k_.2) (fun x hx=>by rw [tV.1 hx];exact gM) (fun x hx=>by rw [tV.1 hx];exact gM) (fun _ _ x hx=>by rw [tV.1 hx];exact iO _ gM) (fun (aN:Nat) (jK:(Option Addr × Nat) × OL) (dD:Nat) (v:aj) (G:GH)=>match dD with|0=>v=(aK b 0)|1=>v=(aK b 0)|2=>v=(aK b 0)|3=>v=(aK b 4)|4=>v=.slice B parts.length d|5=>v=(aK b 0)|6=>v=(aK b 0)|7=>v=(aK b 2)|8=>v=.string ⟨lit.toArray⟩|9=>v=.agg (jG.cells ⟨⟨lit.toArray⟩,0,false⟩).toArray|10=>v=.slice (some ⟨aN,0,none⟩) 1 1|11=>v=.slice jK.1.1 (parts.length+1) jK.1.2∧bY 318 3 v (parts.length+1) (Hq (parts++[⟨⟨lit.toArray⟩,0,false⟩])) jK.2|_=>True) (fun b b' k i v G hi hc h=>by (iterate 15 (rcases i with _|i;(first|exact h|exact absurd hi (by decide)|exact absurd hc (by decide))));exact trivial) (fun b k k' i v G hi hc h=>by (iterate 15 (rcases i with _|i;(first|exact h|exact absurd hi (by decide)|exact absurd hc (by decide))));exact trivial) H ?_ ?_ ?_ ?_ ?_ (by kernel_rfl) (by kernel_rfl)
  ·clear H;refine aF ?_ ?_ ?_ ?_ (aF ?_ ?_ ?_ ?_ (aF ?_ ?_ ?_ ?_ (bM ?_ (bM ?_ (bM ?_ dz)))))
   ·intro aN jK fM bE a w G1 gF _ _ _ _ aQ hc hG HT hv;have H:=HT;clear aQ;have Hb:=H.full;have H:=Hb;clear hc;refine kH H (Rm rfl ?_);clear H;intro a H;refine aD ⟨rfl,?_⟩;exact fI (by kernel_rfl) (dS aN jK) rfl rfl HT Hb hG hv (fun _ _ h=>h) (rfl) H
   ·intro aN jK fM bE a w G1 gF _ _ _ _ aQ hc hG HT hv;have H:=HT;clear aQ;have Hb:=H.full;have H:=Hb;clear hc;refine kH H (Rm rfl ?_);clear H;intro a H;refine aD ⟨rfl,?_⟩;exact fI (by kernel_rfl) (dS aN jK) rfl rfl HT Hb hG hv (fun _ _ h=>h) (rfl) H
   ·intro aN jK fM bE a w G1 gF _ _ _ _ aQ hc hG HT hv;have H:=HT;clear aQ;have H:=H.aM (hv 1 8 (hc 1 (by decide)) rfl) rfl;have Hb:=H.full;have H:=Hb;clear hc;refine kH H (Rk rfl ?_);clear H;intro a H;refine aD ⟨rfl,?_⟩;exact fI (by kernel_rfl) (dS aN jK) rfl rfl HT Hb hG hv (fun _ _ h=>h) (rfl) H
   ·intro aN jK fM bE a w G1 gF _ _ _ _ aQ hc hG HT hv;have H:=HT;clear aQ;have H:=H.aM (hv 2 9 (hc 2 (by decide)) rfl) rfl;have Hb:=H.full;have H:=Hb;clear hc;refine kH H (Rf KZ rfl ?_);clear H;intro a H;refine aD ⟨rfl,?_⟩;exact fI (by kernel_rfl) (dS aN jK) rfl rfl HT Hb hG hv (fun _ _ h=>h) (rfl) H
   ·intro aN jK fM bE a w G1 gF _ _ _ _ aQ hc hG HT hv;have H:=HT;clear aQ;have H:=H.aM (hv 3 10 (hc 3 (by decide)) rfl) rfl;have Hb:=H.full;have H:=Hb;clear hc;refine rP MR H wn rfl (H.hp.DF (gF _ gM) rfl) rfl ?_;clear H;intro a H;refine aD ⟨rfl,?_⟩;exact fI (by kernel_rfl) (dS aN jK) rfl rfl HT Hb hG hv (fun _ _ h=>h) (rfl) H
   ·intro aN jK fM bE a w G1 gF _ _ _ _ aQ hc hG HT hv;have H:=HT;clear aQ;have Hb:=H.full;have H:=Hb;clear hc;refine kH H (Rm rfl ?_);clear H;intro a H;refine aD ⟨rfl,?_⟩;exact fI (by kernel_rfl) (dS aN jK) rfl rfl HT Hb hG hv (fun _ _ h=>h) (rfl) H
   ·intro aN jK fM bE a w G1 gF _ _ _ _ aQ hc hG HT hv;have H:=HT;clear aQ;have H:=H.aM (hv 5 12 (hc 5 (by decide)) rfl) rfl;have Hb:=H.full;have H:=Hb;clear hc;refine kH H (Rk rfl ?_);clear H;intro a H;refine aD ⟨rfl,?_⟩;exact fI (by kernel_rfl) (dS aN jK) rfl rfl HT Hb hG hv (fun _ _ h=>h) (rfl) H
   ·intro aN jK fM bE a w G1 gF _ _ _ _ aQ hc hG HT hv;have H:=HT;clear aQ;have H:=H.aM (hv 6 13 (hc 6 (by decide)) rfl) rfl;have Hb:=H.full;have H:=Hb;clear hc;refine kH H (Rf KY rfl ?_);clear H;intro a H;refine aD ⟨rfl,?_⟩;exact fI (by kernel_rfl) (dS aN jK) rfl rfl HT Hb hG hv (fun _ _ h=>h) (rfl) H
   ·intro _ _ _ _ _ _ _ _ _ hB;exact absurd hB (by decide)
   ·intro aN jK fM bE a w G1 gF _ _ _ _ aQ hc hG HT hv;have H:=HT;clear aQ;have H:=H.aM (hv 8 15 (hc 8 (by decide)) rfl) rfl;have Hb:=H.full;have H:=Hb;clear hc;refine jv ads [_,_,_] H wn rfl rfl rfl rfl ?_;clear H;intro a H;refine aD ⟨rfl,?_⟩;exact fI (by kernel_rfl) (dS aN jK) rfl rfl HT Hb hG hv (fun _ _ h=>h) (rfl) H
   ·intro _ _ _ _ _ _ _ _ _ _ hB;exact absurd hB (by decide)
   ·intro _ _ _ _ _ _ _ _ _ _ _ hB;exact absurd hB (by decide)
   ·intro _ _ _ _ _ _ _ _ hB;exact absurd hB (by decide)
   ·intro _ _ _ _ _ _ _ _ hB;exact absurd hB (by decide)
   intro _ _ _ _ _ _ _ _ hB;exact absurd hB (by decide)
  ·clear H;intro o_ aN jK bE a w G1 uy _ hc hG HT hv;obtain rfl:_=o_:=Option.some.inj uy;clear uy;have H:=HT;have H:=H.aM (hv 7 14 (by decide) (hc 7 (by decide)) rfl) rfl;have Hb:=H.full;have H:=Hb;clear hc;refine gW ajt (Li:=[]) (L:=iq b s i p (.slice A lit.length c) (.slice B parts.length d) pl e :: (Lp++Lo)) H wn rfl (arV _ _ _ _ b s i p _ B parts.length d pl e lit (Hp.owns (Li:=[]) H.hp) hbuf hne) rfl ?_;clear H;rintro v15 CO QT a w ⟨rfl,rfl⟩ Dh H;dsimp only [List.nil_append] at H;refine aD ⟨rfl,?_⟩;exact FU (by kernel_rfl) (dS aN jK) rfl HT Hb hG (fun j e h1 h2 h3=>hv j e h1 h2 h3) Dh (rfl) H
  ·clear H;intro o_ jK bE a w G1 uy _ hc hG HT hv;obtain rfl:_=o_:=Option.some.inj uy;clear uy;have H:=HT;have H:=H.aM (hv 0 9 16 (by decide) (hc 9 (by decide)) rfl) rfl;have Hb:=H.full;have H:=Hb;clear hc;refine ig JZ JW [_,_,_] [_,_,_] H wn rfl rfl rfl rfl rfl (by intro i q h;match i,h with|0,h=>exact h|n+1,h=>simp at h) rfl rfl ?_;clear H;intro b17 a w LM H;refine aD ⟨rfl,b17,?_⟩;exact Ob (by kernel_rfl) rfl HT Hb hG (fun j e h1 h2 h3=>hv _ j e h1 h2 h3) (rfl) H
  ·clear H;intro o_ aN bE a w G1 uy _ hc hG HT hv;obtain rfl:_=o_:=Option.some.inj uy;clear uy;have H:=HT;have H:=H.aM (hv (((none,0),[])) 4 11 (by decide) (hc 4 (by decide)) rfl) rfl;have H:=H.aM (hv (((none,0),[])) 10 17 (by decide) (hc 10 (by decide)) rfl) rfl;have Hb:=H.full;have H:=Hb;clear hc;refine nk (Li:=[_,_]) (Lo:=Lp) (news:=jG.cells ⟨⟨lit.toArray⟩,0,false⟩) JZ JW rfl rfl H wn rfl rfl O4 rfl (H.hp.bU 0 rfl rfl) rfl (by omega) (by omega) rfl ?_;clear H;intro v18 aeK a w Jt H;obtain ⟨WY,c18,rfl,-,-⟩:=Jt.shape;rw [← abF] at Jt;refine aD ⟨rfl,((WY,c18),aeK),?_⟩;exact Ob (by kernel_rfl) rfl HT Hb hG (fun j e h1 h2 h3=>hv _ j e h1 h2 h3) (⟨rfl,Jt⟩) H
  clear H;intro b17 jK a w G nA H hv;have H:=H.aM (hv 0 7 rfl rfl) rfl;obtain ⟨u18,UW,Dr⟩:=hv 11 18 (by decide) rfl;(try dsimp only at Dr);obtain ⟨rfl,Jt⟩:=Dr;have H:=H.jV UW;clear hv;refine kH H (Rk rfl (Rf KZ rfl ?_));clear H;intro a H;refine aY MR 1 (vs:=[_]) _ H wn rfl rfl rfl rfl rfl rfl rfl rfl ?_;clear H;intro w H;dsimp only [List.set,setRow] at H;refine aD ⟨rfl,?_⟩;refine K2 _ _ ?_;clear K2;refine kP H (SC (Rm rfl (Rk rfl (Rf KY rfl ?_))));clear H;intro a H;refine gW aiZ (Li:=[_]) (L:=iq b s i p (.slice A lit.length c) (.slice jK.1.1 (parts.length+1) jK.1.2) pl e :: jK.2) H wn rfl (arU _ _ _ b s i p A lit.length c jK.1.1 (parts.length+1) jK.1.2 pl e (Hp.owns (Li:=[_]) H.hp)) rfl ?_;clear H;rintro v24 _ L24 a w ⟨rfl,rfl⟩ yK H;dsimp only [lca,bq] at H;refine aD ?_;refine (leave0 H results274 ?_).2
  first
   | exact H.hp.gB (L':=iq b s i _ _ _ pl e :: jK.2) (BK _ _) ⟨_,_,_,jK.2,[],by rw [jd],⟨.inl rfl,bY.nil,by rw [wB,ah hne];simpa using Jt⟩⟩
   | exact H.hp.dJ ⟨_,_,_,Lp,Lo,by rw [qI],by
     have h0:lit=[]:=by
      cases lit with
      | nil=>rfl
      | cons x r=>simp at p6
     subst h0;exact ⟨aaO,hbuf,by rw [wB,au rfl];exact O4⟩⟩
 intro h6 a H
 try have p6:=dF h6
 refine fZ ?_;refine (leave0 H results274 ?_).2
 first
  | exact H.hp.gB (L':=iq b s i _ _ _ pl e :: jK.2) (BK _ _) ⟨_,_,_,jK.2,[],by rw [jd],⟨.inl rfl,bY.nil,by rw [wB,ah hne];simpa using Jt⟩⟩
  | exact H.hp.dJ ⟨_,_,_,Lp,Lo,by rw [qI],by
    have h0:lit=[]:=by
     cases lit with
     | nil=>rfl
     | cons x r=>simp at p6
    subst h0;exact ⟨aaO,hbuf,by rw [wB,au rfl];exact O4⟩⟩
theorem acv (G:GH) (Lp Lo:OL) (w0:World) (b:Nat) (s:ByteArray) (i:Int) (p v q:aj) (pl e:Int) (lit:List UInt8) (parts:List jG) (ch:Int) (plain:Bool) (hR:BG b lit parts p v q Lp Lo) (hO:gL G (iq b s i p v q pl e :: (Lp++Lo)) w0) (hl:lit.length≤4294967296) (hp:parts.length≤4294967290) (hc:49≤ch∧ch≤57) (hpl:0≤pl∧pl≤4294967296) :
  Calls prog 278 #[(aK b 0),.int .u8 ch,.bool plain] w0 (gy w0 G (iq b s i p v q pl e :: (Lp++Lo)) fun u G' L'=>∃ p' v' q' rW jU,L'=iq b s i p' v' q' (pl+1) e :: (rW++jU)∧BG b [] (wB lit parts++[⟨⟨#[]⟩,ch - 48,plain⟩]) p' v' q' rW jU):=by
 have hml:maxLen=9223372036854775807:=rfl
 have hfl:(wB lit parts).length≤parts.length+1:=by unfold wB;split <;> simp
 obtain ⟨A,c,rfl,abf,abg⟩:=hR.buf.shape;obtain ⟨B,d,rfl,aaP,aaQ⟩:=hR.prt.shape;obtain ⟨Lt,qI⟩:∃ x,x=Lp++Lo:=⟨_,rfl⟩;rw [← qI] at hO ⊢;refine iY (N:=29) (T:=[(0,_),(1,_),(2,_)]) func278 rfl ntmps278 rfl rfl hO ?_;intro a H;refine kP H (SR fun _ K1=>Rm rfl ?_);clear H;intro a H;refine gW Sg (Li:=[]) (L:=iq b s i p (.slice A lit.length c) (.slice B parts.length d) pl e :: Lt) H wn rfl (by subst qI;exact SS _ Lp Lo _ b s i p _ _ pl e lit parts hR (Hp.owns (Li:=[]) H.hp) hl (by omega)) rfl ?_;clear H;rintro v7 G7 L7 a w ⟨p',v',q',rW,jU,rfl,LD⟩ AB H;dsimp only [List.nil_append] at H;obtain ⟨A7,c7,rfl,-,-⟩:=LD.buf.shape;obtain ⟨B7,d7,rfl,-,-⟩:=LD.prt.shape;refine K1 _ _ ?_;clear K1;refine kP H (SR fun _ K2=>Rm rfl (Rm rfl (Rk rfl (bG KZ MR 0 rfl rfl (Rm rfl ?_)))));clear H;intro a H;refine aqO H wn rfl rfl (by omega) (by omega) rfl ?_;clear H;intro a H;refine Cr _ lJ MX H wn rfl rfl rfl ?_;clear H;intro a H;rw [GY (by omega) (by omega)] at H;refine kH H (Rm rfl ?_);clear H;intro a H;refine jv ads [_,_,_] H wn rfl rfl rfl rfl ?_;clear H;intro a H;refine ig JZ JW [_,_,_] [_,_,_] H wn rfl rfl rfl rfl rfl (by intro i q h;match i,h with|0,h=>exact h|n+1,h=>simp at h) rfl rfl ?_;clear H;intro b18 a w OB H;have H:=(St.cast H (show _=[_,_]++(rW++jU) from rfl)).perm (List.Perm.append_left _ vX);have H:=St.un H;refine nk (Li:=[_,_]++jU) (Lo:=rW) (news:=jG.cells ⟨⟨#[]⟩,ch - 48,plain⟩) JZ JW rfl rfl H wn rfl rfl LD.prt rfl (H.hp.bU 0 rfl rfl) rfl (by omega) (by omega) rfl ?_;clear H;intro v19 XI a w zH H;obtain ⟨Ij,c19,rfl,-,-⟩:=zH.shape;rw [← abF] at zH;have H:=H.assoc.perm (List.Perm.append_left _ vX);dsimp only [lca,bq] at H;refine kH H (Rk rfl (Rf KZ rfl ?_));clear H;intro a H;refine aY MR 1 (vs:=[_]) _ H wn rfl rfl rfl rfl rfl rfl rfl rfl ?_;clear H;intro w H;dsimp only [List.set,setRow] at H;refine K2 _ _ ?_;clear K2;refine kP H (SC (Rm rfl (Rk rfl (bG Oq aH 1 rfl rfl (Rd rfl (Rk rfl (Rf Oq rfl ?_)))))));clear H;intro a H;refine aY aH 1 (vs:=[_]) _ H wn rfl rfl rfl rfl rfl rfl rfl rfl ?_;clear H;intro w H;dsimp only [List.set,setRow] at H;refine aD ?_;refine (leave0 H results278 ?_).2;exact H.hp.gB (L':=iq b s i _ _ _ (pl+1) e :: (XI++jU)) (BK _ _) ⟨_,_,_,XI,jU,rfl,LD.ptr,LD.buf,by simpa using zH⟩
section
section
variable {N:Nat} {D:List Deferred} {w0:World} {F:Nat→Prop} {G0 G:GH} {L:OL} {T Xs:List (Nat × aj)}
variable {r:Option Nat} {P:Program} {Q:Exit→Act→World→Prop} {l:List Oper} {a a':Act} {w w':World}
abbrev Xb:Type:=Nat × aj × Nat × Bool
def Xc (ent:List Xb) (S:Nat→Bool) (a:Act):Prop:=∀ e∈ent,S e.2.2.1=e.2.2.2→a.tmps[e.1]?=some e.2.1
theorem Xc.at {ent:List Xb} {S:Nat→Bool} {a:Act} (h:Xc ent S a) (k:Nat) {t:Nat} {v:aj} {j:Nat} {b:Bool} (hk:ent[k]?=some (t,v,j,b)) (hS:S j=b):a.tmps[t]?=some v:=h _ (kV hk) hS
theorem aqN {ops:Array Oper} {rest:List Oper} {d:Nat} {ty:TypeId} {pos:String} {aL:Array Edge} {g:Option (Nat × Bool)} {t:TypeId} {x y:Operand} {s:ByteArray} {ky:IntKind} {p:Int} (hi:Nat) (ht:P.underlying t=some .string) (H:St N D w0 F G0 G L T a w) (hw:Region.wanted ⟨some d,.slice t x none (some y) none,ty,pos,aL,g⟩ (yielded ops a.tmps)=true) (hx:ev T x=some (.string s)) (hy:ev T y=some (.int ky p)) (hp:p=(hi:Int)) (h1:hi≤s.size) (hd:Nat.blt d N=true)
  (k:∀ a',St N D w0 F G0 G L ((d,.string (s.extract 0 hi)) :: T) a' w→WL r P ops Q rest a' w):WL r P ops Q (⟨some d,.slice t x none (some y) none,ty,pos,aL,g⟩ :: rest) a w:=by
 subst hp
 have hr:=run_slice_string_h (P:=P) w t s ht ky (hi:Int) (by omega) (by omega)
 rw [Int.toNat_natCast] at hr
 refine fP (v:=.string (s.extract 0 hi)) (w':=w) hw rfl ?_ (k _ (H.put hd _ H.hp))
 simp only [execOp,H.ev hx,vW,Option.map_none,H.ev hy,dX,run_sliceAt_string w t _ _ _ _ ht,hr,og,sV]
end
end
theorem aja:∀ args w,(callFunc 281 args).run prog w=.ok (.enter 281 args) w:=enters func281 rfl (by kernel_rfl)
theorem yD:dN prog 340 0 0:=⟨by kernel_rfl⟩
theorem Zg:∀ args w,(callFunc 273 args).run prog w=.ok (.enter 273 args) w:=enters func273 rfl (by kernel_rfl)
theorem Zh:∀ args w,(callFunc 277 args).run prog w=.ok (.enter 277 args) w:=enters func277 rfl (by kernel_rfl)
theorem Zi:∀ args w,(callFunc 278 args).run prog w=.ok (.enter 278 args) w:=enters func278 rfl (by kernel_rfl)
theorem qY:dN prog 340 1 1:=⟨by kernel_rfl⟩
theorem Si:∀ args w,(callFunc 276 args).run prog w=.ok (.enter 276 args) w:=enters func276 rfl (by kernel_rfl)
theorem BR:dN prog 340 5 6:=⟨by kernel_rfl⟩
def tF (s p:ByteArray):Bool:=decide (p.size≤s.size) && ((s.extract 0 p.size).toList == p.toList)
theorem alb (G:GH) (w0:World) (hG:Hold G w0) (s p:ByteArray) (hs:s.size≤4611686018427387904) (hp:p.size≤4611686018427387904):Calls prog 281 #[.string s,.string p] w0 (bH w0 G fun u G'=>u=.bool (tF s p)∧G=G'):=by
 refine eN [(0,_),(1,_)] func281 rfl ntmps281 rfl rfl hG ?_;intro a H;refine kP H (SR fun _ K1=>ak K1 rfl (SR fun _ K2=>Rm rfl (Rv iB rfl (Rm rfl (Rv iB rfl (Rc rfl (Rm rfl (Sp 10 rfl ?_ ?_)))))))) <;> clear H K1
 ·intro h10 a H
  try have nV:=dT h10
  refine kH H (YM h10 rfl (YM h10 rfl ?_));clear H;intro a H;refine Fa iB H (wg H rfl rfl h10) rfl rfl ?_;clear H;intro a H;refine aqN p.size iB H (wg H rfl rfl h10) rfl rfl rfl (by omega) rfl ?_;clear H;intro a H;refine kH H (YM h10 rfl ?_);clear H;intro a H;refine E9 H (wg H rfl rfl h10) rfl rfl rfl ?_;clear H;intro a H;exact kH H (Pt h10 rfl (ak K2 rfl (LR results281 rfl fun H=>H.rt ⟨dO (by unfold tF;first|(simp_all;done)|(simp_all;omega)),rfl⟩)))
 intro h10 a H
 try have nV:=dF h10
 exact kH H (bD h10 rfl (bD h10 rfl (Pf h10 rfl (ak K2 rfl (LR results281 rfl fun H=>H.rt ⟨dO (by unfold tF;first|(simp_all;done)|(simp_all;omega)),rfl⟩)))))
theorem TU (G:GH) (w0:World) (hG:Hold G w0) (s p:ByteArray) (hs:s.size≤4611686018427387904) (hp:p.size≤4611686018427387904):Calls prog 276 #[.string s,.string p] w0 (bH w0 G fun u G'=>u=.bool (tF s p)∧G=G'):=by
 refine eN [(0,_),(1,_)] func276 rfl ntmps276 rfl rfl hG ?_;intro a H;refine kP H (SR fun _ K1=>ak K1 rfl (SR fun _ K2=>Rm rfl (Rm rfl ?_)));clear H K1;intro a H;refine s_call aja H wn rfl (alb _ _ H.ro s p hs hp) rfl ?_;clear H;rintro v7 _ a w ⟨rfl,rfl⟩ - H;exact kH H (ak K2 rfl (LR results276 rfl fun H=>H.rt ⟨rfl,rfl⟩))
def vZ (s:ByteArray) (k:Nat):Bool:=decide (k < s.size) && decide (49≤gN s k) && decide (gN s k≤57)
theorem YU (G:GH) (L:OL) (w0:World) (b:Nat) (s:ByteArray) (i:Int) (p v q:aj) (pl e:Int) (k:Nat) (hs:s.size≤4611686018427387904) (hO:gL G (iq b s i p v q pl e :: L) w0) :
  Calls prog 277 #[(aK b 0),vi k] w0 (gy w0 G (iq b s i p v q pl e :: L) fun u G' L'=>u=.bool (vZ s k)∧L'=iq b s i p v q pl e :: L∧G'=G):=by
 refine iY (N:=30) (T:=[(0,_),(1,_)]) func277 rfl ntmps277 rfl rfl hO ?_;intro a H;refine kP H (SR fun _ K1=>ak K1 rfl (SR fun _ K2=>Rm rfl (Rm rfl (Rk rfl (bG yD iM 0 rfl rfl (Rv iB rfl (Rc rfl (Rm rfl (Sp 12 rfl ?_ ?_))))))))) <;> clear H K1
 ·intro h12 a H
  try have rO:=dT h12
  refine kH H (YM h12 rfl ?_);clear H;intro a H;refine vO H (wg H rfl rfl h12) rfl rfl ?_;clear H;intro a H;refine kH H (YF yD h12 rfl (YO iM 0 h12 rfl (YM h12 rfl ?_)));clear H;intro a H;refine qx k iB H (wg H rfl rfl h12) rfl rfl rfl (by omega) rfl ?_;clear H;intro a H;rw [← lV] at H;refine kH H (YC h12 rfl (Pt h12 rfl (Rm rfl (Sp 21 rfl ?_ ?_)))) <;> clear H
  ·intro h21 a H
   try have DK:=dT h21
   refine kH H (YM h21 rfl ?_);clear H;intro a H;refine vO H (wg H rfl rfl h21) rfl rfl ?_;clear H;intro a H;refine kH H (YF yD h21 rfl (YO iM 0 h21 rfl (YM h21 rfl ?_)));clear H;intro a H;refine qx k iB H (wg H rfl rfl h21) rfl rfl rfl (by omega) rfl ?_;clear H;intro a H;rw [← lV] at H;exact kH H (YC h21 rfl (Pt h21 rfl (ak K2 rfl (LR results277 rfl fun H=>H.hp.dJ ⟨dO (by unfold vZ;first|(simp_all;done)|(simp_all;omega)),rfl,rfl⟩))))
  intro h21 a H
  try have DK:=dF h21
  exact kH H (bD h21 rfl (aP h21 rfl (aP h21 rfl (Pf h21 rfl (ak K2 rfl (LR results277 rfl fun H=>H.hp.dJ ⟨dO (by unfold vZ;first|(simp_all;done)|(simp_all;omega)),rfl,rfl⟩))))))
 intro h12 a H
 try have rO:=dF h12
 exact kH H (bD h12 rfl (aP h12 rfl (aP h12 rfl (Pf h12 rfl (Rm rfl (bD rfl rfl (aP rfl rfl (aP rfl rfl (Pf rfl rfl (ak K2 rfl (LR results277 rfl fun H=>H.hp.dJ ⟨dO (by unfold vZ;first|(simp_all;done)|(simp_all;omega)),rfl,rfl⟩)))))))))))
structure vU where
 i:Nat
 lit:List UInt8
 parts:List jG
 pl:Nat
 e:Int
def qw (s:ByteArray) (x:vU):vU :=
 if tF (s.extract x.i s.size) ⟨#[37,37]⟩=true then ⟨x.i+2,x.lit++[37],x.parts,x.pl,x.e⟩
 else if vZ s (x.i+1)=true then ⟨x.i+2,[],wB x.lit x.parts++[⟨⟨#[]⟩,gN s (x.i+1) - 48,false⟩],x.pl+1,x.e⟩
 else if tF (s.extract x.i s.size) ⟨#[37,100]⟩=true∧vZ s (x.i+2)=true then ⟨x.i+3,[],wB x.lit x.parts++[⟨⟨#[]⟩,gN s (x.i+2) - 48,true⟩],x.pl+1,x.e⟩
 else ⟨x.i,x.lit,x.parts,x.pl,14⟩
abbrev xP (b:Nat) (s:ByteArray) (x:vU) (p v q:aj):Nat × Obj:=iq b s x.i p v q x.pl x.e
theorem YT {s:ByteArray} {k:Nat} (h:vZ s k=true):k < s.size∧49≤gN s k∧gN s k≤57:=by
 simpa [vZ,and_assoc] using h
set_option maxHeartbeats 1000000 in
theorem ape (G:GH) (Lp Lo:OL) (w0:World) (b:Nat) (s:ByteArray) (x:vU) (p v q:aj) (hR:BG b x.lit x.parts p v q Lp Lo) (hO:gL G (xP b s x p v q :: (Lp++Lo)) w0) (hs:s.size≤4294967290) (hi:x.i < s.size) (hl:x.lit.length≤4294967290) (hp:x.parts.length≤4294967290) (hpl:x.pl≤4294967290) :
    Calls prog 272 #[(aK b 0)] w0 (gy w0 G (xP b s x p v q :: (Lp++Lo)) fun u G' L'=>∃ p' v' q' rW jU,L'=xP b s (qw s x) p' v' q' :: (rW++jU)∧BG b (qw s x).lit (qw s x).parts p' v' q' rW jU):=by
  obtain ⟨i,lit,parts,pl,e⟩:=x;dsimp only [xP] at *
  have hex:(s.extract i s.size).size≤4611686018427387904:=by rw [ByteArray.size_extract];omega
  obtain ⟨A,c,rfl,abf,abg⟩:=hR.buf.shape;obtain ⟨B,d,rfl,aaP,aaQ⟩:=hR.prt.shape;obtain ⟨Lt,qI⟩:∃ x,x=Lp++Lo:=⟨_,rfl⟩;rw [← qI] at hO ⊢;refine iY (N:=93) (T:=[(0,_)]) func272 rfl ntmps272 rfl rfl hO ?_;intro a H;refine wY ?_;refine bN (fun _ K1=>?_);refine dI hmx [[],[0],[0,1],[0,1,2],[],[4],[4,5],[4,5,6],(ra 0 8),(ra 0 9),(ra 0 10)] [] (by kernel_rfl) [_,_,_,.string s,_,_,_,vi i,.string (s.extract i s.size),.bool (tF (s.extract i s.size) ⟨#[37,37]⟩),_] H (aF (Z0 rfl (Rm rfl)) (Z1 0 6 rfl (Rk rfl)) (Z1 1 7 rfl (Rf yD rfl)) (Z1 2 8 rfl (Ro iM 0 rfl)) (aF (Z0 rfl (Rm rfl)) (Z1 4 10 rfl (Rk rfl)) (Z1 5 11 rfl (Rf qY rfl)) (Z1 6 12 rfl (Ro aH 0 rfl)) (bM ?_ (bM ?_ (bM (Z1 9 15 rfl (Ra rfl)) dz))))) ?_
  · refine dK 3 9 7 13 rfl rfl fun _ a w G1 hG HT H fin=>?_;refine Wh i iB H wn rfl rfl rfl (by omega) rfl ?_;clear H;intro a H;exact fin H iJ rfl
  · refine eP 8 14 rfl rfl fun _ a w G1 hG HT H fin=>?_;refine s_call Si H wn rfl (TU _ _ H.ro _ _ hex (by decide)) rfl ?_;clear H;rintro v15 CO a w ⟨rfl,rfl⟩ Dh H;exact fin H Dh (rfl)
  clear H;intro a w G nA H hv;have H:=H.aM (hv 10 5 rfl rfl) rfl;clear hv;refine aD ⟨rfl,?_⟩;refine K1 _ _ ?_;clear K1;refine jC H rfl ?_ ?_
  · intro h5
    try have p5:=dT h5
    refine kP H (SR fun _ K2=>Rm rfl (Rk rfl (Rf KY rfl ?_)));clear H;intro a H;refine gW Zg (Li:=[]) (L:=iq b s i p (.slice A lit.length c) (.slice B parts.length d) pl e :: Lt) H wn rfl (by subst qI;exact aed _ Lp Lo _ b s i p _ B parts.length d pl e lit.length _ 37 hR.ptr (Hp.owns (Li:=[]) H.hp) hR.buf (by omega)) rfl ?_;clear H;rintro v19 _ L19 a w ⟨auN,FE,rfl,zH,rfl⟩ sJ H;dsimp only [List.nil_append] at H;obtain ⟨Ij,c19,rfl,-,-⟩:=zH.shape;refine K2 _ _ ?_;clear K2;refine kP H (SC (Rm rfl (Rk rfl (bG qY aH 0 rfl rfl (Rd rfl (Rk rfl (Rf qY rfl ?_)))))));clear H;intro a H;refine aY aH 0 (vs:=[_]) _ H wn rfl rfl rfl rfl rfl rfl rfl rfl ?_;clear H;intro w H;dsimp only [List.set,setRow] at H;refine aD ?_;refine (leave0 H results272 ?_).2;exact H.hp.dJ ⟨_,_,_,Lp,FE,by rw [qw,au h5];rfl,by rw [qw,au h5];exact ⟨.inr rfl,by simpa [Lib.byteCells] using zH,hR.prt⟩⟩
  intro h5
  try have p5:=dF h5
  refine kP H (SR fun _ K3=>Rm rfl (Rm rfl (Rk rfl (bG qY aH 0 rfl rfl (Rd rfl ?_)))));clear H;intro a H;rw [show ((i:Int)+1)=((i+1:Nat):Int) from rfl] at H;refine gW Zh (Li:=[]) (L:=iq b s i p (.slice A lit.length c) (.slice B parts.length d) pl e :: Lt) H wn rfl (YU _ Lt _ b s i p _ _ pl e (i+1) (by omega) (Hp.owns (Li:=[]) H.hp)) rfl ?_;clear H;rintro v34 _ L34 a w ⟨rfl,rfl,rfl⟩ Jl H;dsimp only [List.nil_append] at H;refine kH H (ak K3 rfl (Cd rfl ?_ ?_)) <;> clear H K3
  · intro h27 a H
    try have p27:=dT h27
    have hd1:=YT h27;refine bN (fun _ K4=>?_);refine dI hmx [[],[],[1],[1,2],[1,2,3],[],[5],[5,6],[5,6,7],(ra 5 4),(ra 1 9),(ra 0 11)] [11] (by kernel_rfl) [_,_,_,_,.string s,_,_,_,vi i,_,.int .u8 (gN s (i+1))] H (aF (Z0 rfl (Rm rfl)) (Z0 rfl (Rm rfl)) (Z1 1 36 rfl (Rk rfl)) (Z1 2 37 rfl (Rf yD rfl)) (aF (Z1 3 38 rfl (Ro iM 0 rfl)) (Z0 rfl (Rm rfl)) (Z1 5 40 rfl (Rk rfl)) (Z1 6 41 rfl (Rf qY rfl)) (aF (Z1 7 42 rfl (Ro aH 0 rfl)) (Z1 8 43 rfl (Rd rfl)) ?_ (bQ rfl) dz))) ?_
    · refine dK 4 39 9 44 rfl rfl fun _ a w G1 hG HT H fin=>?_;refine qx (i+1) iB H wn rfl rfl rfl hd1.1 rfl ?_;clear H;intro a H;rw [← lV] at H;exact fin H iJ rfl
    clear H;intro a w G mR H hv;have H:=H.aM (hv 0 35 rfl rfl) rfl;have H:=H.aM (hv 10 45 rfl rfl) rfl;clear hv;refine gW Zi (Li:=[]) (L:=iq b s i p (.slice A lit.length c) (.slice B parts.length d) pl e :: Lt) H wn rfl (by subst qI;exact acv _ Lp Lo _ b s i p _ _ pl e lit parts (gN s (i+1)) false hR (Hp.owns (Li:=[]) H.hp) (by omega) (by omega) hd1.2 (by omega)) rfl ?_;clear H;rintro v46 Ka L46 a w ⟨p46,asF,q46,Kk,Kj,rfl,Dl⟩ yL H;dsimp only [List.nil_append] at H;obtain ⟨A46,c46,rfl,-,-⟩:=Dl.buf.shape;obtain ⟨B46,d46,rfl,-,-⟩:=Dl.prt.shape;refine aD ⟨rfl,?_⟩;refine K4 _ _ ?_;clear K4;refine kP H (SC (Rm rfl (Rk rfl (bG qY aH 0 rfl rfl (Rd rfl (Rk rfl (Rf qY rfl ?_)))))));clear H;intro a H;refine aY aH 0 (vs:=[_]) _ H wn rfl rfl rfl rfl rfl rfl rfl rfl ?_;clear H;intro w H;dsimp only [List.set,setRow] at H;refine aD ?_;refine (leave0 H results272 ?_).2;exact H.hp.dJ ⟨_,_,_,Kk,Kj,by rw [qw,ah (by simp [h5]),au h27];rfl,by rw [qw,ah (by simp [h5]),au h27];exact Dl⟩
  intro h27 a H
  try have p27:=dF h27
  refine bN (fun _ K5=>?_)
  by_cases c1:tF (s.extract i s.size) ⟨#[37,100]⟩=true
  · skip;refine dI hmx [[],[0],[0,1],[0,1,2],[],[4],[4,5],[4,5,6],(ra 0 8),(ra 0 9),(ra 0 10),(ra 0 11),(ra 0 11),(ra 0 11++[12]),(ra 0 11++[12,13]),(ra 0 11++[12,13,14]),(ra 0 11++ra 12 4),(ra 0 17),(ra 0 18),(ra 0 19)] [] (by kernel_rfl) [_,_,_,.string s,_,_,_,vi i,.string (s.extract i s.size),.bool (tF (s.extract i s.size) ⟨#[37,100]⟩),.bool (decide (tF (s.extract i s.size) ⟨#[37,100]⟩=true)),_,_,(aK b 0),_,vi i,vi ((i+2:Nat):Int),.bool (vZ s (i+2)),_,_] H (aF (Z0 rfl (Rm rfl)) (Z1 0 55 rfl (Rk rfl)) (Z1 1 56 rfl (Rf yD rfl)) (Z1 2 57 rfl (Ro iM 0 rfl)) (aF (Z0 rfl (Rm rfl)) (Z1 4 59 rfl (Rk rfl)) (Z1 5 60 rfl (Rf qY rfl)) (Z1 6 61 rfl (Ro aH 0 rfl)) (aF ?_ ?_ ?_ (Z1 10 65 rfl (YM (aG c1) rfl)) (aF (Z1 10 65 rfl (YM (aG c1) rfl)) ?_ (Z2 13 68 10 65 rfl (YF qY (aG c1) rfl)) (Z2 14 69 10 65 rfl (YO aH 0 (aG c1) rfl)) (aF ?_ ?_ (Z2 10 65 17 72 rfl (Pt (aG c1) rfl)) (Z1 18 73 rfl (Ra rfl)) dz))))) ?_
    · refine dK 3 58 7 62 rfl rfl fun _ a w G1 hG HT H fin=>?_;refine Wh i iB H wn rfl rfl rfl (by omega) rfl ?_;clear H;intro a H;exact fin H iJ rfl
    · refine eP 8 63 rfl rfl fun _ a w G1 hG HT H fin=>?_;refine s_call Si H wn rfl (TU _ _ H.ro _ _ hex (by decide)) rfl ?_;clear H;rintro v64 G64 a w ⟨rfl,rfl⟩ TK H;exact fin H TK (rfl)
    · refine eP 9 64 rfl rfl fun _ a w G1 hG HT H fin=>?_;refine kH H (Rm rfl ?_);clear H;intro a H;exact fin H iJ (by show _=_;simp)
    · refine dK 12 67 10 65 rfl rfl fun _ a w G1 hG HT H fin=>?_;refine vO H (wg H rfl rfl (aG c1)) rfl rfl ?_;clear H;intro a H;exact fin H iJ rfl
    · refine dK 15 70 10 65 rfl rfl fun _ a w G1 hG HT H fin=>?_;refine MI _ H (wg H rfl rfl (aG c1)) rfl rfl rfl (by omega) (by omega) rfl ?_;clear H;intro a H;exact fin H iJ rfl
    · refine zk 11 66 16 71 10 65 rfl rfl fun _ a w G1 hG HT H fin=>?_;refine gW Zh (Li:=[]) (L:=iq b s i p (.slice A lit.length c) (.slice B parts.length d) pl e :: Lt) H (wg H rfl rfl (aG c1)) rfl (YU _ Lt _ b s i p _ _ pl e (i+2) (by omega) (Hp.owns (Li:=[]) H.hp)) rfl ?_;clear H;rintro v72 G72 L72 a w ⟨rfl,rfl,rfl⟩ akO H;dsimp only [List.nil_append] at H;exact fin H akO (rfl)
    clear H;intro a w G LB H hv;have H:=H.aM (hv 19 54 rfl rfl) rfl;clear hv;refine aD ⟨rfl,?_⟩;refine K5 _ _ ?_;clear K5;refine jC H rfl ?_ ?_
    · intro gQ
      try have p54:=dT gQ
      have hd2:=YT gQ;refine bN (fun _ K6=>?_);refine dI hmx [[],[],[1],[1,2],[1,2,3],[],[5],[5,6],[5,6,7],(ra 5 4),(ra 1 9),(ra 0 11)] [11] (by kernel_rfl) [_,_,_,_,.string s,_,_,_,vi i,_,.int .u8 (gN s (i+2))] H (aF (Z0 rfl (Rm rfl)) (Z0 rfl (Rm rfl)) (Z1 1 75 rfl (Rk rfl)) (Z1 2 76 rfl (Rf yD rfl)) (aF (Z1 3 77 rfl (Ro iM 0 rfl)) (Z0 rfl (Rm rfl)) (Z1 5 79 rfl (Rk rfl)) (Z1 6 80 rfl (Rf qY rfl)) (aF (Z1 7 81 rfl (Ro aH 0 rfl)) (Z1 8 82 rfl (Rd rfl)) ?_ (bQ rfl) dz))) ?_
      · refine dK 4 78 9 83 rfl rfl fun _ a w G1 hG HT H fin=>?_;refine qx (i+2) iB H wn rfl rfl rfl hd2.1 rfl ?_;clear H;intro a H;rw [← lV] at H;exact fin H iJ rfl
      clear H;intro a w G ql H hv;have H:=H.aM (hv 0 74 rfl rfl) rfl;have H:=H.aM (hv 10 84 rfl rfl) rfl;clear hv;refine gW Zi (Li:=[]) (L:=iq b s i p (.slice A lit.length c) (.slice B parts.length d) pl e :: Lt) H wn rfl (by subst qI;exact acv _ Lp Lo _ b s i p _ _ pl e lit parts (gN s (i+2)) true hR (Hp.owns (Li:=[]) H.hp) (by omega) (by omega) hd2.2 (by omega)) rfl ?_;clear H;rintro v85 G85 L85 a w ⟨p46,asF,q46,Kk,Kj,rfl,Dl⟩ aul H;dsimp only [List.nil_append] at H;obtain ⟨A46,c46,rfl,-,-⟩:=Dl.buf.shape;obtain ⟨B46,d46,rfl,-,-⟩:=Dl.prt.shape;refine aD ⟨rfl,?_⟩;refine K6 _ _ ?_;clear K6;refine kP H (SC (Rm rfl (Rk rfl (bG qY aH 0 rfl rfl (Rd rfl (Rk rfl (Rf qY rfl ?_)))))));clear H;intro a H;refine aY aH 0 (vs:=[_]) _ H wn rfl rfl rfl rfl rfl rfl rfl rfl ?_;clear H;intro w H;dsimp only [List.set,setRow] at H;refine aD ?_;refine (leave0 H results272 ?_).2
      have xD:¬ tF (s.extract i s.size) ⟨#[37,37]⟩=true:=by simp [h5]
      have xC:¬ vZ s (i+1)=true:=by simp [h27]
      first
        | exact H.hp.dJ ⟨_,_,_,Kk,Kj,by rw [qw,ah xD,ah xC,au ⟨c1,gQ⟩];rfl,by rw [qw,ah xD,ah xC,au ⟨c1,gQ⟩];exact Dl⟩
        | (have EK:¬ (tF (s.extract i s.size) ⟨#[37,100]⟩=true∧vZ s (i+2)=true):=by simp_all
           exact H.hp.dJ ⟨_,_,_,Lp,Lo,by rw [qw,ah xD,ah xC,ah EK,qI],by rw [qw,ah xD,ah xC,ah EK];exact hR⟩)
    intro gQ
    try have p54:=dF gQ
    refine kP H (SC (Rm rfl (Rk rfl (Rf BR rfl ?_))));clear H;intro a H;refine aY iy 0 (vs:=[_]) _ H wn rfl rfl rfl rfl rfl rfl rfl rfl ?_;clear H;intro w H;dsimp only [List.set,setRow] at H;refine aD ?_;refine (leave0 H results272 ?_).2
    have xD:¬ tF (s.extract i s.size) ⟨#[37,37]⟩=true:=by simp [h5]
    have xC:¬ vZ s (i+1)=true:=by simp [h27]
    first
      | exact H.hp.dJ ⟨_,_,_,Kk,Kj,by rw [qw,ah xD,ah xC,au ⟨c1,gQ⟩];rfl,by rw [qw,ah xD,ah xC,au ⟨c1,gQ⟩];exact Dl⟩
      | (have EK:¬ (tF (s.extract i s.size) ⟨#[37,100]⟩=true∧vZ s (i+2)=true):=by simp_all
         exact H.hp.dJ ⟨_,_,_,Lp,Lo,by rw [qw,ah xD,ah xC,ah EK,qI],by rw [qw,ah xD,ah xC,ah EK];exact hR⟩)
  skip;refine dI hmx [[],[0],[0,1],[0,1,2],[],[4],[4,5],[4,5,6],(ra 0 8),(ra 0 9),(ra 0 10),(ra 0 11),(ra 0 11),(ra 0 11++[12]),(ra 0 11++[12,13]),(ra 0 11++[12,13,14]),(ra 0 11++ra 12 4),(ra 0 17),(ra 0 18),(ra 0 19)] [] (by kernel_rfl) [_,_,_,.string s,_,_,_,vi i,.string (s.extract i s.size),.bool (tF (s.extract i s.size) ⟨#[37,100]⟩),.bool (decide (tF (s.extract i s.size) ⟨#[37,100]⟩=true)),undef,undef,undef,undef,undef,undef,undef,_,_] H (aF (Z0 rfl (Rm rfl)) (Z1 0 55 rfl (Rk rfl)) (Z1 1 56 rfl (Rf yD rfl)) (Z1 2 57 rfl (Ro iM 0 rfl)) (aF (Z0 rfl (Rm rfl)) (Z1 4 59 rfl (Rk rfl)) (Z1 5 60 rfl (Rf qY rfl)) (Z1 6 61 rfl (Ro aH 0 rfl)) (aF ?_ ?_ ?_ (aX 10 (aU c1) rfl rfl) (aF (aX 10 (aU c1) rfl rfl) (aX 10 (aU c1) rfl rfl) (aX 10 (aU c1) rfl rfl) (aX 10 (aU c1) rfl rfl) (aF (aX 10 (aU c1) rfl rfl) (aX 10 (aU c1) rfl rfl) (Z2 10 65 17 72 rfl (Pf (aU c1) rfl)) (Z1 18 73 rfl (Ra rfl)) dz))))) ?_
  · refine dK 3 58 7 62 rfl rfl fun _ a w G1 hG HT H fin=>?_;refine Wh i iB H wn rfl rfl rfl (by omega) rfl ?_;clear H;intro a H;exact fin H iJ rfl
  · refine eP 8 63 rfl rfl fun _ a w G1 hG HT H fin=>?_;refine s_call Si H wn rfl (TU _ _ H.ro _ _ hex (by decide)) rfl ?_;clear H;rintro v64 G64 a w ⟨rfl,rfl⟩ TK H;exact fin H TK (rfl)
  · refine eP 9 64 rfl rfl fun _ a w G1 hG HT H fin=>?_;refine kH H (Rm rfl ?_);clear H;intro a H;exact fin H iJ (by show _=_;simp)
  clear H;intro a w G LB H hv;have H:=H.aM (hv 19 54 rfl rfl) rfl;clear hv;refine aD ⟨rfl,?_⟩;refine K5 _ _ ?_;clear K5;refine rY H rfl rfl ?_;refine kP H (SC (Rm rfl (Rk rfl (Rf BR rfl ?_))));clear H;intro a H;refine aY iy 0 (vs:=[_]) _ H wn rfl rfl rfl rfl rfl rfl rfl rfl ?_;clear H;intro w H;dsimp only [List.set,setRow] at H;refine aD ?_;refine (leave0 H results272 ?_).2
  have xD:¬ tF (s.extract i s.size) ⟨#[37,37]⟩=true:=by simp [h5]
  have xC:¬ vZ s (i+1)=true:=by simp [h27]
  first
    | exact H.hp.dJ ⟨_,_,_,Kk,Kj,by rw [qw,ah xD,ah xC,au ⟨c1,gQ⟩];rfl,by rw [qw,ah xD,ah xC,au ⟨c1,gQ⟩];exact Dl⟩
    | (have EK:¬ (tF (s.extract i s.size) ⟨#[37,100]⟩=true∧vZ s (i+2)=true):=by simp_all
       exact H.hp.dJ ⟨_,_,_,Lp,Lo,by rw [qw,ah xD,ah xC,ah EK,qI],by rw [qw,ah xD,ah xC,ah EK];exact hR⟩)
theorem aiX:∀ args w,(callFunc 272 args).run prog w=.ok (.enter 272 args) w:=enters func272 rfl (by kernel_rfl)
def NI (s:ByteArray) (i:Nat):UInt8:=if h:i < s.size then s[i] else 0
theorem afc (s:ByteArray) (i:Nat):gN s i=((NI s i).toNat:Int):=by
 unfold gN NI;split <;> rfl
def pU (s:ByteArray) (x:vU):vU:=if gN s x.i=37 then qw s x else ⟨x.i+1,x.lit++[NI s x.i],x.parts,x.pl,x.e⟩
def DN (s:ByteArray):Nat→vU→vU
 | 0,x=>x
 | f+1,x=>if x.i < s.size∧x.e=0 then DN s f (pU s x) else x
def mS (s:ByteArray) (x:vU):Nat:=if x.e=0 then s.size - x.i else 0
theorem adi {s:ByteArray} {f:Nat} {x:vU} (h:¬ (x.i < s.size∧x.e=0)):DN s f x=x:=by
 cases f with
 | zero=>rfl
 | succ f=>rw [DN,ah h]
theorem akn (lit:List UInt8) (parts:List jG):(wB lit parts).length≤parts.length+1:=by unfold wB;split <;> simp
theorem adz (s:ByteArray) (x:vU) (h:x.i < s.size∧x.e=0) (h1:x.lit.length≤x.i) (h2:x.parts.length≤2*x.i) (h3:x.pl≤x.i) :
  (pU s x).i≤x.i+3∧(pU s x).lit.length≤(pU s x).i∧(pU s x).parts.length≤2*(pU s x).i∧(pU s x).pl≤(pU s x).i∧mS s (pU s x) < mS s x∧mS s x≤s.size:=by
 have hf:=akn x.lit x.parts;have hm:mS s x=s.size - x.i:=au h.2
 unfold pU qw
 split
 ·split
  ·refine ⟨?_,?_,?_,?_,?_,?_⟩ <;> simp only [mS,iN,kW,List.length_nil] at*<;> simp only [h.2,if_true] at*<;> omega
  split
  ·refine ⟨?_,?_,?_,?_,?_,?_⟩ <;> simp only [mS,iN,kW,List.length_nil] at*<;> simp only [h.2,if_true] at*<;> omega
  split
  ·refine ⟨?_,?_,?_,?_,?_,?_⟩ <;> simp only [mS,iN,kW,List.length_nil] at*<;> simp only [h.2,if_true] at*<;> omega
  refine ⟨?_,?_,?_,?_,?_,?_⟩ <;> simp only [mS,iN,kW,List.length_nil] at*<;> simp only [h.2,if_true] at*<;> (try omega) <;> (simp;omega)
 refine ⟨?_,?_,?_,?_,?_,?_⟩ <;> simp only [mS,iN,kW,List.length_nil] at*<;> simp only [h.2,if_true] at*<;> omega
def Cv:vU:=⟨0,[],[],0,0⟩
def lq (s:ByteArray):vU:=DN s s.size Cv
def vP (x:vU):Int:=if x.e=0∧9 < (x.pl:Int) then 9 else x.e
set_option maxHeartbeats 1000000 in
theorem aqR (G:GH) (Nv Nu:OL) (w0:World) (b:Nat) (s:ByteArray) (p0 v0 q0:aj) (hR:BG b [] [] p0 v0 q0 Nv Nu) (hO:gL G (xP b s Cv p0 v0 q0 :: (Nv++Nu)) w0) (hs:s.size≤1073741824) :
  Calls prog 266 #[(aK b 0)] w0 (gy w0 G (xP b s Cv p0 v0 q0 :: (Nv++Nu)) fun u G' L'=>∃ p' v' q' rW jU,L'=iq b s (lq s).i p' v' q' (lq s).pl (vP (lq s)) :: (rW++jU)∧BG b [] (wB (lq s).lit (lq s).parts) p' v' q' rW jU):=by
 obtain ⟨A0,c0,rfl,-,-⟩:=hR.buf.shape;obtain ⟨B0,d0,rfl,-,-⟩:=hR.prt.shape;refine iY (N:=68) (T:=[(0,_)]) func266 rfl ntmps266 rfl rfl hO ?_;intro a H;refine bN (fun _ K1=>?_);refine wY ?_;skip;refine fH (ι:=Nat × vU × aj × Option Addr × Nat × Option Addr × Nat × OL × OL × GH) (Tc:=[(0,_)]) (Lc:=[]) (fun gh=>[]) (fun gh=>[xP b s gh.2.1 gh.2.2.1 (.slice gh.2.2.2.1 gh.2.1.lit.length gh.2.2.2.2.1) (.slice gh.2.2.2.2.2.1 gh.2.1.parts.length gh.2.2.2.2.2.2.1)]++(gh.2.2.2.2.2.2.2.1++gh.2.2.2.2.2.2.2.2.1)) (fun gh=>gh.2.2.2.2.2.2.2.2.2) (fun gh=>BG b gh.2.1.lit gh.2.1.parts gh.2.2.1 (.slice gh.2.2.2.1 gh.2.1.lit.length gh.2.2.2.2.1) (.slice gh.2.2.2.2.2.1 gh.2.1.parts.length gh.2.2.2.2.2.2.1) gh.2.2.2.2.2.2.2.1 gh.2.2.2.2.2.2.2.2.1∧DN s gh.1 gh.2.1=lq s∧mS s gh.2.1≤gh.1∧gh.1≤s.size∧gh.2.1.i≤s.size+3∧gh.2.1.lit.length≤gh.2.1.i∧gh.2.1.parts.length≤2*gh.2.1.i∧gh.2.1.pl≤gh.2.1.i) (fun gh=>gh.1) ((s.size,Cv,p0,A0,c0,B0,d0,Nv,Nu,G)) (by exact (H).sub ⟨rfl,aC⟩) ?_ ?_
 ·exact ⟨hR,rfl,by simp [mS,Cv],bL _,by simp [Cv],by simp [Cv],by simp [Cv],by simp [Cv]⟩
 clear H;rintro ⟨k,x,p,vA,vc,qA,qc,Lp,Lo,g⟩ a w hI H;dsimp only at hI H;obtain ⟨hR,hsc,hmk,hks,hxi,hx1,hx2,hx3⟩:=hI;dsimp only [lca,bq] at H;refine bN (fun _ K2=>?_);refine bN (fun _ K3=>?_)
 by_cases c0:(x.i:Int) < (s.size:Int)
 ·skip
  by_cases c1:x.e=0
  ·skip;refine dI hmx [[],[0],[0,1],[0,1,2],[],[4],[4,5],[4,5,6],(ra 4 4),(ra 0 9),(ra 0 10),(ra 0 11),(ra 0 12),(ra 0 13),(ra 0 14),(ra 0 15),(ra 0 16)] [] (by kernel_rfl) [_,_,_,vi x.i,_,_,_,.string s,_,_,_,_,(aK b 0),_,vi x.e,_,_] H (aF (Z0 rfl (Rm rfl)) (Z1 0 2 rfl (Rk rfl)) (Z1 1 3 rfl (Rf qY rfl)) (Z1 2 4 rfl (Ro aH 0 rfl)) (aF (Z0 rfl (Rm rfl)) (Z1 4 6 rfl (Rk rfl)) (Z1 5 7 rfl (Rf yD rfl)) (Z1 6 8 rfl (Ro iM 0 rfl)) (aF (Z1 7 9 rfl (Rv iB rfl)) (Z2 3 5 8 10 rfl (Rc rfl)) (Z1 9 11 rfl (Rm rfl)) (Z1 10 12 rfl (YM (aG c0) rfl)) (aF ?_ (Z2 12 14 10 12 rfl (YF BR (aG c0) rfl)) (Z2 13 15 10 12 rfl (YO iy 0 (aG c0) rfl)) (Z2 14 16 10 12 rfl (YC (aG c0) rfl)) (bM (Z2 10 12 15 17 rfl (Pt (aG c0) rfl)) dz))))) ?_
   ·refine dK 11 13 10 12 rfl rfl fun _ a w G1 hG HT H fin=>?_;refine vO H (wg H rfl rfl (aG c0)) rfl rfl ?_;clear H;intro a H;exact fin H iJ rfl
   clear H;intro a w G Z5 H hv;have H:=H.aM (hv 16 18 rfl rfl) rfl;clear hv;refine aD ⟨rfl,?_⟩;refine K3 _ _ ?_;clear K3;refine BN H rfl (aG c1) ?_;refine kP H (Kc K2 (SB (SQ fun _ K4=>SQ fun _ K5=>?_)));clear H K2;intro a H;refine dI hmx [[],[0],[0,1],[0,1,2],[],[4],[4,5],[4,5,6],(ra 0 8),(ra 0 9)] [] (by kernel_rfl) [_,_,_,.string s,_,_,_,vi x.i,.int .u8 (gN s x.i),_] H (aF (Z0 rfl (Rm rfl)) (Z1 0 19 rfl (Rk rfl)) (Z1 1 20 rfl (Rf yD rfl)) (Z1 2 21 rfl (Ro iM 0 rfl)) (aF (Z0 rfl (Rm rfl)) (Z1 4 23 rfl (Rk rfl)) (Z1 5 24 rfl (Rf qY rfl)) (Z1 6 25 rfl (Ro aH 0 rfl)) (bM ?_ (bM (Z1 8 27 rfl (Rc rfl)) dz)))) ?_
   ·refine dK 3 22 7 26 rfl rfl fun _ a w G1 hG HT H fin=>?_;refine qx x.i iB H wn rfl rfl rfl (by omega) rfl ?_;clear H;intro a H;rw [← lV] at H;exact fin H iJ rfl
   clear H;intro a w G nA H hv;have H:=H.aM (hv 9 28 rfl rfl) rfl;clear hv;refine aD ⟨rfl,?_⟩;refine K5 _ _ ?_;clear K5;refine jC H rfl ?_ ?_
   ·intro fQ
    try have p28:=dT fQ
    refine kP H (SR fun _ K6=>Rm rfl ?_);clear H;intro a H;refine gW aiX (Li:=[]) (L:=xP b s x p (.slice vA x.lit.length vc) (.slice qA x.parts.length qc) :: (Lp++Lo)) H wn rfl (ape _ Lp Lo _ b s x p _ _ hR (Hp.owns (Li:=[]) H.hp) (by omega) (by omega) (by omega) (by omega) (by omega)) rfl ?_;clear H;rintro v30 zY L30 a w ⟨p',v',q',rW,jU,rfl,Oz⟩ Az H;dsimp only [List.nil_append] at H;have hst:pU s x=qw s x:=au p28;have hok:=adz s x ⟨by omega,c1⟩ hx1 hx2 hx3
    have hkk:k=(k - 1)+1:=by omega
    have UO:DN s (k - 1) (pU s x)=lq s:=by rw [hkk,DN,au ⟨by omega,c1⟩] at hsc;exact hsc
    rw [← hst] at H Oz;obtain ⟨A30,c30,rfl,-,-⟩:=Oz.buf.shape;obtain ⟨B30,d30,rfl,-,-⟩:=Oz.prt.shape;refine K6 _ _ ?_;clear K6;refine eu ?_;refine dM ((k - 1,pU s x,p',A30,c30,B30,d30,rW,jU,zY)) (by exact (H).sub ⟨rfl,aC⟩) ?_
    (try dsimp only);exact ⟨Oz,UO,by omega,by omega,by omega,by omega,by omega,by omega⟩
   intro fQ
   try have p28:=dF fQ
   refine fZ ?_;refine K4 _ _ ?_;clear K4;refine bN (fun _ K7=>?_);refine dI hmx [[],[0],[0,1],[],[3],[3,4],[3,4,5],[],[7],[7,8],[7,8,9],(ra 3 8),(ra 0 12)] [12] (by kernel_rfl) [_,_,_,_,_,_,.string s,_,_,_,vi x.i,.int .u8 (gN s x.i)] H (aF (Z0 rfl (Rm rfl)) (Z1 0 31 rfl (Rk rfl)) (Z1 1 32 rfl (Rf KY rfl)) (Z0 rfl (Rm rfl)) (aF (Z1 3 34 rfl (Rk rfl)) (Z1 4 35 rfl (Rf yD rfl)) (Z1 5 36 rfl (Ro iM 0 rfl)) (Z0 rfl (Rm rfl)) (aF (Z1 7 38 rfl (Rk rfl)) (Z1 8 39 rfl (Rf qY rfl)) (Z1 9 40 rfl (Ro aH 0 rfl)) ?_ (bM (bQ rfl) dz)))) ?_
   ·refine dK 6 37 10 41 rfl rfl fun _ a w G1 hG HT H fin=>?_;refine qx x.i iB H wn rfl rfl rfl (by omega) rfl ?_;clear H;intro a H;rw [← lV] at H;exact fin H iJ rfl
   clear H;intro a w G vD H hv;have H:=H.aM (hv 2 33 rfl rfl) rfl;have H:=H.aM (hv 11 42 rfl rfl) rfl;clear hv;refine gW Zg (Li:=[]) (L:=xP b s x p (.slice vA x.lit.length vc) (.slice qA x.parts.length qc) :: (Lp++Lo)) H wn rfl (aed _ Lp Lo _ b s x.i p _ qA x.parts.length qc x.pl x.e x.lit.length _ (gN s x.i) hR.ptr (Hp.owns (Li:=[]) H.hp) hR.buf (by omega)) rfl ?_;clear H;rintro v43 _ L43 a w ⟨auO,QV,rfl,aaY,rfl⟩ rE H;dsimp only [List.nil_append] at H;obtain ⟨QC,Rt,rfl,-,-⟩:=aaY.shape;have hst:pU s x=⟨x.i+1,x.lit++[NI s x.i],x.parts,x.pl,x.e⟩:=ah p28;have hok:=adz s x ⟨by omega,c1⟩ hx1 hx2 hx3
   have hkk:k=(k - 1)+1:=by omega
   have UO:DN s (k - 1) (pU s x)=lq s:=by rw [hkk,DN,au ⟨by omega,c1⟩] at hsc;exact hsc
   have akY:BG b (pU s x).lit (pU s x).parts (aK b 2) (.slice QC (pU s x).lit.length Rt) (.slice qA (pU s x).parts.length qc) Lp QV:=by
    rw [hst];exact ⟨.inr rfl,by simpa [Lib.byteCells,afc] using aaY,hR.prt⟩
   refine aD ⟨rfl,?_⟩;refine K7 _ _ ?_;clear K7;refine kP H (SC (Rm rfl (Rk rfl (bG qY aH 0 rfl rfl (Rd rfl (Rk rfl (Rf qY rfl ?_)))))));clear H;intro a H;refine aY aH 0 (vs:=[_]) _ H wn rfl rfl rfl rfl rfl rfl rfl rfl ?_;clear H;intro w H;dsimp only [List.set,setRow] at H;replace H:St _ _ _ _ _ _ (xP b s (pU s x) (aK b 2) (.slice QC (pU s x).lit.length Rt) (.slice qA (pU s x).parts.length qc) :: (Lp++QV)) _ _ _:=H.cast (by rw [hst];simp [xP,iq]);refine aD ?_;refine dM ((k - 1,pU s x,(aK b 2),QC,Rt,qA,qc,Lp,QV,_)) (by exact (H).sub ⟨rfl,aC⟩) ?_
   (try dsimp only);exact ⟨akY,UO,by omega,by omega,by omega,by omega,by omega,by omega⟩
  skip;refine dI hmx [[],[0],[0,1],[0,1,2],[],[4],[4,5],[4,5,6],(ra 4 4),(ra 0 9),(ra 0 10),(ra 0 11),(ra 0 12),(ra 0 13),(ra 0 14),(ra 0 15),(ra 0 16)] [] (by kernel_rfl) [_,_,_,vi x.i,_,_,_,.string s,_,_,_,_,(aK b 0),_,vi x.e,_,_] H (aF (Z0 rfl (Rm rfl)) (Z1 0 2 rfl (Rk rfl)) (Z1 1 3 rfl (Rf qY rfl)) (Z1 2 4 rfl (Ro aH 0 rfl)) (aF (Z0 rfl (Rm rfl)) (Z1 4 6 rfl (Rk rfl)) (Z1 5 7 rfl (Rf yD rfl)) (Z1 6 8 rfl (Ro iM 0 rfl)) (aF (Z1 7 9 rfl (Rv iB rfl)) (Z2 3 5 8 10 rfl (Rc rfl)) (Z1 9 11 rfl (Rm rfl)) (Z1 10 12 rfl (YM (aG c0) rfl)) (aF ?_ (Z2 12 14 10 12 rfl (YF BR (aG c0) rfl)) (Z2 13 15 10 12 rfl (YO iy 0 (aG c0) rfl)) (Z2 14 16 10 12 rfl (YC (aG c0) rfl)) (bM (Z2 10 12 15 17 rfl (Pt (aG c0) rfl)) dz))))) ?_
  ·refine dK 11 13 10 12 rfl rfl fun _ a w G1 hG HT H fin=>?_;refine vO H (wg H rfl rfl (aG c0)) rfl rfl ?_;clear H;intro a H;exact fin H iJ rfl
  clear H;intro a w G Z5 H hv;have H:=H.aM (hv 16 18 rfl rfl) rfl;clear hv;refine aD ⟨rfl,?_⟩;refine K3 _ _ ?_;clear K3;refine rY H rfl (aU c1) ?_;refine eu ?_;refine K1 _ _ ?_;clear K1;refine bN (fun _ K8=>?_)
  have U6:x=lq s:=by
   rw [adi (by first|exact fun h=>c0 (by omega)|exact fun h=>c1 h.2)] at hsc;exact hsc
  subst U6;refine kP H (SC (Rm rfl ?_));clear H;intro a H;refine gW Sg (Li:=[]) (L:=xP b s (lq s) p (.slice vA (lq s).lit.length vc) (.slice qA (lq s).parts.length qc) :: (Lp++Lo)) H wn rfl (SS _ Lp Lo _ b s (lq s).i p _ _ (lq s).pl (lq s).e (lq s).lit (lq s).parts hR (Hp.owns (Li:=[]) H.hp) (by omega) (by omega)) rfl ?_;clear H;rintro v52 Nq L52 a w ⟨p52,asG,q52,aeL,aeI,rfl,uq⟩ Ux H;dsimp only [List.nil_append] at H;obtain ⟨Ik,IU,rfl,-,-⟩:=uq.buf.shape;obtain ⟨B52,d52,rfl,-,-⟩:=uq.prt.shape;refine kH H (Kn K8 (SR fun _ K9=>Rm rfl (Rk rfl (bG BR iy 0 rfl rfl (Rc rfl (Rm rfl (Sp 58 rfl ?_ ?_))))))) <;> clear H K8
  ·intro lg a H
   try have p58:=dT lg
   refine kH H (YM lg rfl ?_);clear H;intro a H;refine vO H (wg H rfl rfl lg) rfl rfl ?_;clear H;intro a H;refine kH H (YF Oq lg rfl (YO aH 0 lg rfl (YC lg rfl (Pt lg rfl (Kz K9 (Cd rfl ?_ ?_)))))) <;> clear H K9
   ·intro h64 a H
    try have p64:=dT h64
    refine kP H (SC (Rm rfl (Rk rfl (Rf BR rfl ?_))));clear H;intro a H;refine aY iy 0 (vs:=[_]) _ H wn rfl rfl rfl rfl rfl rfl rfl rfl ?_;clear H;intro w H;dsimp only [List.set,setRow] at H;refine aD ?_;refine (leave0 H results266 ?_).2
    first
     | exact H.hp.dJ ⟨_,_,_,_,_,by rw [vP,au ⟨by assumption,by assumption⟩],uq⟩
     | exact H.hp.dJ ⟨_,_,_,_,_,by rw [vP,ah (by first|exact fun h=>p58 h.1|exact fun h=>p64 h.2)],uq⟩
   intro h64 a H
   try have p64:=dF h64
   refine fZ ?_;refine (leave0 H results266 ?_).2
   first
    | exact H.hp.dJ ⟨_,_,_,_,_,by rw [vP,au ⟨by assumption,by assumption⟩],uq⟩
    | exact H.hp.dJ ⟨_,_,_,_,_,by rw [vP,ah (by first|exact fun h=>p58 h.1|exact fun h=>p64 h.2)],uq⟩
  intro lg a H
  try have p58:=dF lg
  refine kH H (bD lg rfl (aP lg rfl (Pf lg rfl (Kz K9 (Cf rfl rfl ?_)))));clear H K9;intro a H;refine fZ ?_;refine (leave0 H results266 ?_).2
  first
   | exact H.hp.dJ ⟨_,_,_,_,_,by rw [vP,au ⟨by assumption,by assumption⟩],uq⟩
   | exact H.hp.dJ ⟨_,_,_,_,_,by rw [vP,ah (by first|exact fun h=>p58 h.1|exact fun h=>p64 h.2)],uq⟩
 skip;refine dI hmx [[],[0],[0,1],[0,1,2],[],[4],[4,5],[4,5,6],(ra 4 4),(ra 0 9),(ra 0 10),(ra 0 11),(ra 0 12),(ra 0 13),(ra 0 14),(ra 0 15),(ra 0 16)] [] (by kernel_rfl) [_,_,_,vi x.i,_,_,_,.string s,_,_,_,undef,undef,undef,undef,undef,_] H (aF (Z0 rfl (Rm rfl)) (Z1 0 2 rfl (Rk rfl)) (Z1 1 3 rfl (Rf qY rfl)) (Z1 2 4 rfl (Ro aH 0 rfl)) (aF (Z0 rfl (Rm rfl)) (Z1 4 6 rfl (Rk rfl)) (Z1 5 7 rfl (Rf yD rfl)) (Z1 6 8 rfl (Ro iM 0 rfl)) (aF (Z1 7 9 rfl (Rv iB rfl)) (Z2 3 5 8 10 rfl (Rc rfl)) (Z1 9 11 rfl (Rm rfl)) (aX 10 (aU c0) rfl rfl) (aF (aX 10 (aU c0) rfl rfl) (aX 10 (aU c0) rfl rfl) (aX 10 (aU c0) rfl rfl) (aX 10 (aU c0) rfl rfl) (bM (Z2 10 12 15 17 rfl (Pf (aU c0) rfl)) dz))))) ?_
 clear H;intro a w G Z5 H hv;have H:=H.aM (hv 16 18 rfl rfl) rfl;clear hv;refine aD ⟨rfl,?_⟩;refine K3 _ _ ?_;clear K3;refine rY H rfl rfl ?_;refine eu ?_;refine K1 _ _ ?_;clear K1;refine bN (fun _ aW=>?_)
 have U6:x=lq s:=by
  rw [adi (by first|exact fun h=>c0 (by omega)|exact fun h=>c1 h.2)] at hsc;exact hsc
 subst U6;refine kP H (SC (Rm rfl ?_));clear H;intro a H;refine gW Sg (Li:=[]) (L:=xP b s (lq s) p (.slice vA (lq s).lit.length vc) (.slice qA (lq s).parts.length qc) :: (Lp++Lo)) H wn rfl (SS _ Lp Lo _ b s (lq s).i p _ _ (lq s).pl (lq s).e (lq s).lit (lq s).parts hR (Hp.owns (Li:=[]) H.hp) (by omega) (by omega)) rfl ?_;clear H;rintro v52 Nq L52 a w ⟨p52,asG,q52,aeL,aeI,rfl,uq⟩ Ux H;dsimp only [List.nil_append] at H;obtain ⟨Ik,IU,rfl,-,-⟩:=uq.buf.shape;obtain ⟨B52,d52,rfl,-,-⟩:=uq.prt.shape;refine kH H (Kn aW (SR fun _ bO=>Rm rfl (Rk rfl (bG BR iy 0 rfl rfl (Rc rfl (Rm rfl (Sp 58 rfl ?_ ?_))))))) <;> clear H aW
 ·intro lg a H
  try have p58:=dT lg
  refine kH H (YM lg rfl ?_);clear H;intro a H;refine vO H (wg H rfl rfl lg) rfl rfl ?_;clear H;intro a H;refine kH H (YF Oq lg rfl (YO aH 0 lg rfl (YC lg rfl (Pt lg rfl (Kz bO (Cd rfl ?_ ?_)))))) <;> clear H bO
  ·intro h64 a H
   try have p64:=dT h64
   refine kP H (SC (Rm rfl (Rk rfl (Rf BR rfl ?_))));clear H;intro a H;refine aY iy 0 (vs:=[_]) _ H wn rfl rfl rfl rfl rfl rfl rfl rfl ?_;clear H;intro w H;dsimp only [List.set,setRow] at H;refine aD ?_;refine (leave0 H results266 ?_).2
   first
    | exact H.hp.dJ ⟨_,_,_,_,_,by rw [vP,au ⟨by assumption,by assumption⟩],uq⟩
    | exact H.hp.dJ ⟨_,_,_,_,_,by rw [vP,ah (by first|exact fun h=>p58 h.1|exact fun h=>p64 h.2)],uq⟩
  intro h64 a H
  try have p64:=dF h64
  refine fZ ?_;refine (leave0 H results266 ?_).2
  first
   | exact H.hp.dJ ⟨_,_,_,_,_,by rw [vP,au ⟨by assumption,by assumption⟩],uq⟩
   | exact H.hp.dJ ⟨_,_,_,_,_,by rw [vP,ah (by first|exact fun h=>p58 h.1|exact fun h=>p64 h.2)],uq⟩
 intro lg a H
 try have p58:=dF lg
 refine kH H (bD lg rfl (aP lg rfl (Pf lg rfl (Kz bO (Cf rfl rfl ?_)))));clear H bO;intro a H;refine fZ ?_;refine (leave0 H results266 ?_).2
 first
  | exact H.hp.dJ ⟨_,_,_,_,_,by rw [vP,au ⟨by assumption,by assumption⟩],uq⟩
  | exact H.hp.dJ ⟨_,_,_,_,_,by rw [vP,ah (by first|exact fun h=>p58 h.1|exact fun h=>p64 h.2)],uq⟩
section
def Br (c:Int):List Dat:=[.lf (.int .u8 c)]
theorem adK {G:GH} {c:Int} {cs:List aj} (h:aR G (Br c) cs):cs=[.int .u8 c]:=by
 simp only [Br,aR,av] at h
 obtain ⟨_,_,rfl,⟨rfl,_⟩,rfl⟩:=h
 rfl
def IQ (s:ByteArray):List Int:=s.data.toList.map fun b=>(b.toNat:Int)
theorem afl (G:GH) (l:List Int):bR G 1 (l.map Br) (l.map fun c=>Value.int .u8 c):=by
 refine ⟨l.map fun c=>[.int .u8 c],by induction l with|nil=>rfl|cons x r ih=>simp [ih],by simp,fun j r cs hr hc=>?_⟩
 rw [pE] at hr hc
 obtain ⟨x,hx,rfl⟩:=qg.1 hr
 rw [hx] at hc
 cases hc
 exact ⟨by simp only [Br,aR];exact ⟨_,_,rfl,by simp [av,Value.oneCell'],rfl⟩,rfl⟩
theorem apJ {G:GH} {sz b o n cap:Nat} {cur:Array aj} {e:TypeId} {fz:Nat × Nat} {rows:List (List Dat)} (hb:G b=some (.cells cur e fz)) (h:av (fun k=>if k=b then some (.cells cur e (0,0)) else G k) (.sl sz rows) (.slice (some ⟨b,o,none⟩) n cap)) (hr:∀ r∈rows,∃ c,r=Br c):av G (.sl sz rows) (.slice (some ⟨b,o,none⟩) n cap):=by
 simp only [av] at h ⊢
 obtain ⟨A,c,h1,h2,h3,h4⟩:=h
 refine ⟨A,c,h1,h2,h3,fun hn=>?_⟩
 obtain ⟨b',o',e',hrr⟩:=h4 hn
 injection h1 with e1
 subst e1
 injection e' with e2
 injection e2 with e3 e4
 subst e3;subst e4
 refine ⟨_,_,rfl,nu.mk fun k r hk=>?_⟩
 obtain ⟨cs,g1,g2,g3⟩:=hrr.get hk
 refine ⟨cs,g1,fun j u hj=>?_,?_⟩
 ·have:=g2 j u hj
  unfold aI at this ⊢
  simp only [if_true] at this
  rw [hb];exact this
 ·obtain ⟨c,rfl⟩:=hr r (kV hk)
  have:=adK g3
  subst this
  simp only [Br,aR];exact ⟨_,_,rfl,by simp [av,Value.oneCell'],rfl⟩
section
variable {N:Nat} {D:List Deferred} {w0:World} {F:Nat→Prop} {G0 G:GH} {L:OL} {T:List (Nat × aj)}
variable {r:Option Nat} {P:Program} {ops:Array Oper} {Q:Exit→Act→World→Prop} {rest:List Oper} {a:Act} {w:World}
variable {d:Nat} {ty:TypeId} {pos:String} {aL:Array Edge} {g:Option (Nat × Bool)}
theorem asy {w:World} {b o n:Nat} {c:Array aj} {e:TypeId} {fz:Nat × Nat} (h:w.heap[b]?=some (.cells c e fz)) (hn:n≠0):∃ F6,vV b (.cells c e F6) w (w.freeze ⟨b,o,none⟩ n):=by
 unfold World.freeze
 rw [ah hn]
 refine ⟨if fz.1 == fz.2 then (o,o+n) else (min fz.1 o,max fz.2 (o+n)),rfl,rfl,rfl,by simp,?_,fun k hk=>?_⟩
 ·simp [Array.getElem?_modify,h]
 ·simp [Array.getElem?_modify,Ne.symm hk]
theorem aqx {t u e:TypeId} {x:Operand} {s:ByteArray} (ht:P.underlying t=some .string) (hu:P.underlying u=some (.slice e)) (he:P.underlying e=some (.int .u8)) (H:St N D w0 F G0 G L T a w) (hw:Region.wanted ⟨some d,.convert t u x,ty,pos,aL,g⟩ (yielded ops a.tmps)=true) (hx:ev T x=some (.string s)) (hz:s.size≤4294967296) (hd:Nat.blt d N=true)
  (k:∀ v G' a' w',(∀ k o,G k=some o→G' k=some o)→av G' (.sl 1 ((IQ s).map Br)) v→St N D w0 F G0 G' L ((d,v) :: T) a' w'→WL r P ops Q rest a' w'):WL r P ops Q (⟨some d,.convert t u x,ty,pos,aL,g⟩ :: rest) a w:=by
 have hc:=Lib.run_convert_string_bytes (P:=P) w t u e s ht hu he
 have hge:=grownCap_ge w s.size 0 e
 have hml:s.size≤maxLen:=by
  have:maxLen=9223372036854775807:=rfl
  omega
 have hgm:=grownCap_le_maxLen w s.size 0 e hml
 have H1:=H.hp.drew.alloc (.cells (Lib.bytesCells w e s) e)
 have hw1:(w.drew.alloc (.cells (Lib.bytesCells w e s) e)).heap[w.drew.heap.size]?=some (.cells (Lib.bytesCells w e s) e (0,0)):=H1.own _ gM
 obtain ⟨fz,hu2⟩:=asy (o:=(Lib.bytesCells w e s).size) (n:=1) hw1 (by decide)
 have H2:=H1.upd (i:=0) rfl hu2
 have H3:St N D w0 F G0 G ((w.heap.size,.cells (Lib.bytesCells w e s) e fz) :: L) ((d,.slice (some ⟨w.heap.size,0,none⟩) s.size (grownCap w s.size 0 e)) :: T) (a.put (some d) (.slice (some ⟨w.heap.size,0,none⟩) s.size (grownCap w s.size 0 e))) (Lib.bytesWorld w e s):=H.put hd _ H2
 obtain ⟨G',hm,hb,H4⟩:=H3.eH
 have hlen:(IQ s).length=s.size:=by rw [IQ,aZ,uU];rfl
 have hrep:av G' (.sl 1 ((IQ s).map Br)) (.slice (some ⟨w.heap.size,0,none⟩) s.size (grownCap w s.size 0 e)):=by
  refine apJ hb ?_ (fun r hr=>by obtain ⟨c,-,rfl⟩:=List.mem_map.1 hr;exact ⟨c,rfl⟩)
  refine av.fG (cur:=Lib.bytesCells w e s) (e:=e) (n:=s.size) (cap:=grownCap w s.size 0 e) (by simp) (by rw [aZ,hlen]) hge hgm ?_ (afl _ _)
  rw [Lib.bytesCells,Array.toList_append,Nat.mul_one,List.take_left' (by rw [Array.toList_map,aZ,uU];rfl)]
  simp [IQ]
 have k2:=k _ _ _ _ hm hrep H4
 refine fP (v:=.slice (some ⟨w.heap.size,0,none⟩) s.size (grownCap w s.size 0 e)) (w':=Lib.bytesWorld w e s) hw rfl ?_ k2
 simp only [execOp,H.ev hx,dX,hc,og,sV]
theorem aqD {t yt:TypeId} {x y:Operand} {p q:ByteArray} (H:St N D w0 F G0 G L T a w) (hw:Region.wanted ⟨some d,.binOp .lss t x y yt,ty,pos,aL,g⟩ (yielded ops a.tmps)=true) (hx:ev T x=some (.string p)) (hy:ev T y=some (.string q)) (hd:Nat.blt d N=true)
  (k:∀ a',St N D w0 F G0 G L ((d,.bool (Op.bytesLess p.toList q.toList)) :: T) a' w→WL r P ops Q rest a' w):WL r P ops Q (⟨some d,.binOp .lss t x y yt,ty,pos,aL,g⟩ :: rest) a w:=by
 refine fP (v:=.bool (Op.bytesLess p.toList q.toList)) (w':=w) hw rfl ?_ (k _ (H.put hd _ H.hp))
 simp [execOp,H.ev hx,H.ev hy,dX,eqGuard,binOp,Op.stringOp]
end
end
theorem aiW:∀ args w,(callFunc 271 args).run prog w=.ok (.enter 271 args) w:=enters func271 rfl (by kernel_rfl)
theorem aiT:∀ args w,(callFunc 266 args).run prog w=.ok (.enter 266 args) w:=enters func266 rfl (by kernel_rfl)
theorem aiR:∀ args w,(callFunc 264 args).run prog w=.ok (.enter 264 args) w:=enters func264 rfl (by kernel_rfl)
theorem arR:qd prog 340 [(0,1),(1,1),(2,2),(4,1),(5,1),(6,1)] [.string ⟨#[]⟩,.int .i64 0,.pointer none,.slice none 0 0,.slice none 0 0,.int .i64 0,.int .i64 0]:=⟨by kernel_rfl,by kernel_rfl⟩
theorem aiU:∀ args w,(callFunc 267 args).run prog w=.ok (.enter 267 args) w:=enters func267 rfl (by kernel_rfl)
theorem ajV:dN prog 318 1 1:=⟨by kernel_rfl⟩
theorem aiH:∀ args w,(callFunc 246 args).run prog w=.ok (.enter 246 args) w:=enters func246 rfl (by kernel_rfl)
theorem aiI:∀ args w,(callFunc 247 args).run prog w=.ok (.enter 247 args) w:=enters func247 rfl (by kernel_rfl)
theorem aiS:∀ args w,(callFunc 265 args).run prog w=.ok (.enter 265 args) w:=enters func265 rfl (by kernel_rfl)
theorem aiJ:∀ args w,(callFunc 248 args).run prog w=.ok (.enter 248 args) w:=enters func248 rfl (by kernel_rfl)
def Q8 (fv:aj) (G:GH) (c:Int) (b:Bool):Prop:=∀ (G1:GH) (w1:World),(∀ b o,G b=some o→G1 b=some o)→Hold G1 w1→sS prog fv [.int .u8 c] w1 (bH w1 G1 fun u G'=>u=.bool b)
theorem anv (G:GH) (w0:World) (hG:Hold G w0) (l:List Int) (p:Int→Bool) (v fv:aj) (hv:av G (.sl 1 (l.map Br)) v) (hf:∀ c∈l,Q8 fv G c (p c)) :
  Calls prog 271 #[v,fv] w0 (bH w0 G fun u G'=>u=vi (nE (l.findIdx? p))):=by
 obtain ⟨A,c,rfl,hc1,hc2,hg⟩:=hv.slice;have hml:maxLen=9223372036854775807:=rfl;rw [aZ] at *;refine eN [(0,_),(1,_)] func271 rfl ntmps271 rfl rfl hG ?_;intro a H;refine kP H (SR fun _ K1=>ak K1 rfl (SQ fun _ K2=>SR fun _ K3=>Rm rfl (Rl Ig rfl (Rm rfl (Kz K3 (SB ?_))))));clear H K1 K3;intro a H;skip;refine fH (ι:=Nat × GH) (Tc:=[(0,_),(1,_),(7,_)]) (Lc:=[]) (fun gh=>[(8,vi gh.1)]) (fun gh=>[]) (fun gh=>gh.2) (fun gh=>gh.1≤l.length∧(l.take gh.1).findIdx? p=none∧(∀ b o,G b=some o→gh.2 b=some o)) (fun gh=>l.length - gh.1) ((0,G)) (by exact (H).sub ⟨rfl,rfl,rfl,rfl,aC⟩) ?_ ?_
 ·exact ⟨by omega,rfl,fun _ _ h=>h⟩
 clear H;rintro ⟨k,g⟩ a w hI H;dsimp only at hI H;obtain ⟨hk,hno,hgm⟩:=hI;dsimp only [lca,bq] at H;refine kP H (SR fun _ K4=>Rc rfl (Kz K4 (SQ fun _ K5=>Cd rfl ?_ ?_))) <;> clear H K4
 ·intro h9 a H
  try have p9:=dT h9
  have hk2:k < l.length:=by omega
  obtain ⟨b,o,cs,rfl,hcl,hrow,hr⟩:=hg k (Br l[k]) (by simp [hk2]);obtain rfl:=adK hr
  have hcell:aI G b (o+k*1)=some (.int .u8 l[k]):=by simpa using hrow 0 _ rfl
  refine kP H (Kc K5 (SQ fun _ K6=>SB (SR fun _ K7=>Rm rfl (ak K7 rfl (SR fun _ K8=>Rm rfl (Rm rfl (Rm rfl (Ri Ig Qo rfl rfl (Rg Qo rfl (aJ hgm hcell) ?_)))))))));clear H K5 K7;intro a H;refine kD H wn rfl rfl (hf _ (kN hk2) _ _ hgm H.ro) rfl ?_;clear H;rintro v16 nL a w rfl lH H;refine K8 _ _ ?_;clear K8;refine jC H rfl ?_ ?_
  ·intro h16
   try have p16:=dT h16
   refine kP H (SR fun _ K9=>Rm rfl (ak K9 rfl ?_));clear H K9;intro a H;refine lr H results271 rfl ?_
   first
    | exact H.rt (by rw [sN hk2 hno h16];rfl)
    | exact H.rt (by rw [show l.take k=l from iX (by omega)] at hno;rw [hno];rfl)
  intro h16
  try have p16:=dF h16
  refine kP H (Kc K6 (SC (Rd rfl (Rm rfl ?_))));clear H K6;intro a H;refine aD ?_;refine dM ((k+1,nL)) (by exact (H).sub ⟨rfl,rfl,rfl,rfl,aC⟩) ?_
  (try dsimp only);exact ⟨by omega,Cj hk2 hno h16,fun b o h=>lH b o (hgm b o h)⟩
 intro h9 a H
 try have p9:=dF h9
 refine eu ?_;refine K2 _ _ ?_;clear K2;refine kP H (SR fun _ aW=>ak aW rfl ?_);clear H aW;intro a H;refine lr H results271 rfl ?_
 first
  | exact H.rt (by rw [sN hk2 hno h16];rfl)
  | exact H.rt (by rw [show l.take k=l from iX (by omega)] at hno;rw [hno];rfl)
theorem Vg (o:Option Nat):decide (0≤nE o)=o.isSome:=by cases o <;> simp [nE]
theorem agG (G:GH) (w0:World) (hG:Hold G w0) (l:List Int) (p:Int→Bool) (v fv:aj) (hv:av G (.sl 1 (l.map Br)) v) (hf:∀ c∈l,Q8 fv G c (p c)) :
  Calls prog 264 #[v,fv] w0 (bH w0 G fun u G'=>u=.bool (l.findIdx? p).isSome):=by
 obtain ⟨A,c,rfl,hc1,hc2,-⟩:=hv.slice;rw [aZ] at *;refine eN [(0,_),(1,_)] func264 rfl ntmps264 rfl rfl hG ?_;intro a H;refine kP H (SR fun _ K1=>ak K1 rfl (SR fun _ K2=>Rm rfl (Rm rfl ?_)));clear H K1;intro a H;refine s_call aiW H wn rfl (anv _ _ H.ro l p _ _ hv hf) rfl ?_;clear H;rintro v7 G7 a w rfl AB H;exact kH H (Rc rfl (ak K2 rfl (LR results264 rfl fun H=>H.rt (dO (Vg _)))))
def KH (c:Int):Bool:=decide (c < 32) || decide (c=127)
theorem agI (G:GH) (c:Int):Q8 (.func (.func 265) #[] #[]) G c (KH c):=by
 intro G1 w0 hm hG;refine jI (caps:=[]) aiS ?_;refine eN [(0,_)] func265 rfl ntmps265 rfl rfl hG ?_;intro a H;refine kP H (SR fun _ K1=>ak K1 rfl (SR fun _ K2=>Rm rfl (Rc rfl (Rm rfl (Sp 5 rfl ?_ ?_))))) <;> clear H K1
 ·intro h5 a H
  try have p5:=dT h5
  exact kH H (aP h5 rfl (Pt h5 rfl (ak K2 rfl (LR results265 rfl fun H=>H.rt (dO (by unfold KH;first|(simp_all;done)|(simp_all;omega)))))))
 intro h5 a H
 try have p5:=dF h5
 exact kH H (YM h5 rfl (YC h5 rfl (Pf h5 rfl (ak K2 rfl (LR results265 rfl fun H=>H.rt (dO (by unfold KH;first|(simp_all;done)|(simp_all;omega))))))))
def yS (t:ByteArray):Int:=if 64 < t.size then 10 else if rT t=false then 12 else if ((IQ t).findIdx? KH).isSome=true then 5 else vP (lq t)
def zM (t:ByteArray):List jG:=if yS t=0 then wB (lq t).lit (lq t).parts else []
theorem anU (G:GH) (l:List jG):bR G 3 (l.map jG.dat) (Hq l):=by
 refine ⟨l.map jG.cells,rfl,by simp,fun j r cs hr hc=>?_⟩;rw [pE] at hr hc;obtain ⟨x,hx,rfl⟩:=qg.1 hr;rw [hx] at hc
 cases hc
 exact ⟨abH G x,rfl⟩
theorem apc (G:GH) (w0:World) (hG:Hold G w0) (t:ByteArray) (ht:t.size < 4611686018427387904) :
  Calls prog 246 #[.string t] w0 (bH w0 G fun u G'=>∃ x,u=.tuple #[x,vi (yS t)]∧av G' (.sl 3 ((zM t).map jG.dat)) x):=by
 refine eN [(0,_)] func246 rfl ntmps246 rfl rfl hG ?_;intro a H;refine kP H (SR fun _ K1=>Ra rfl (ak K1 rfl (SQ fun _ K2=>SB (SR fun _ K3=>Rm rfl (Rv iB rfl (Rc rfl (ak K3 rfl (Cd rfl ?_ ?_)))))))) <;> clear H K1 K3
 ·intro h5 a H
  try have p5:=dT h5
  refine bN (fun _ K4=>?_)
  have he:yS t=10:=by rw [yS,au (by omega)]
  refine kP H (SC (Ra rfl (bC K4 rfl ?_)));clear H K4;intro a H;refine bS ?_;refine (eZ H results246 (.cons (aV H rfl) (.cons (aV H rfl) .nil)) ?_).1
  first
   | exact H.rt ⟨_,by rw [he0],by rw [zM,au he0];exact hrep⟩
   | exact H.rt ⟨_,by rw [he],by rw [zM,ah (by rw [he];first|decide|assumption)];exact av.iL rfl (by decide)⟩
 intro h5 a H
 try have p5:=dF h5
 refine kP H (SR fun _ K5=>Rm rfl ?_);clear H;intro a H;refine s_call KS H wn rfl (M6 _ _ H.ro t ht) rfl ?_;clear H;rintro v11 _ a w ⟨rfl,rfl⟩ - H;refine kH H (Rn rfl (ak K5 rfl (Cd rfl ?_ ?_))) <;> clear H K5
 ·intro h9 a H
  try have p9:=dT h9
  refine bN (fun _ K6=>?_)
  have he:yS t=12:=by rw [yS,ah (by omega),au (by simpa using h9)]
  refine kP H (SC (Ra rfl (bC K6 rfl ?_)));clear H K6;intro a H;refine bS ?_;refine (eZ H results246 (.cons (aV H rfl) (.cons (aV H rfl) .nil)) ?_).1
  first
   | exact H.rt ⟨_,by rw [he0],by rw [zM,au he0];exact hrep⟩
   | exact H.rt ⟨_,by rw [he],by rw [zM,ah (by rw [he];first|decide|assumption)];exact av.iL rfl (by decide)⟩
 intro h9 a H
 try have p9:=dF h9
 refine kP H (SR fun _ K7=>Rm rfl ?_);clear H;intro a H;refine aqx iB Ig MX H wn rfl (by omega) rfl ?_;clear H;intro v15 CO a w sI abe H;obtain ⟨WX,c15,rfl,-,-,-⟩:=abe.slice;refine s_call aiR H wn rfl (agG _ _ H.ro _ KH _ _ abe (fun c _=>agI _ c)) rfl ?_;clear H;rintro v16 nL a w rfl lH H;refine kH H (ak K7 rfl (Cd rfl ?_ ?_)) <;> clear H K7
 ·intro fD a H
  try have qp:=dT fD
  refine bN (fun _ K8=>?_)
  have he:yS t=5:=by rw [yS,ah (by omega),ah (by simpa using h9),au fD]
  refine kP H (SC (Ra rfl (bC K8 rfl ?_)));clear H K8;intro a H;refine bS ?_;refine (eZ H results246 (.cons (aV H rfl) (.cons (aV H rfl) .nil)) ?_).1
  first
   | exact H.rt ⟨_,by rw [he0],by rw [zM,au he0];exact hrep⟩
   | exact H.rt ⟨_,by rw [he],by rw [zM,ah (by rw [he];first|decide|assumption)];exact av.iL rfl (by decide)⟩
 intro fD a H
 try have qp:=dF fD
 refine kP H (Kc K2 (SR fun _ K9=>Rm rfl ?_));clear H K2;intro a H;refine jv arR [_,_,_,_,_,_,_] H wn rfl rfl rfl rfl ?_;clear H;intro a H;refine dZ (cs:=[_,_,_,_,_,_,_]) H wn rfl rfl rfl ?_;clear H;intro b19 a w alf H;refine kH H (ak K9 rfl (SQ fun _ aW=>SR fun _ bO=>Rm rfl ?_));clear H K9;intro a H;refine gW aiT (Li:=[]) (L:=[xP b19 t Cv (.pointer none) (.slice none 0 0) (.slice none 0 0)]) H wn rfl (aqR _ [] [] _ b19 t _ _ _ ⟨.inl rfl,bY.nil,bY.nil⟩ (Hp.owns (Li:=[]) H.hp) (by omega)) rfl ?_;clear H;rintro v21 Nk L21 a w ⟨p',v',q',rW,jU,rfl,TT⟩ yJ H;dsimp only [List.nil_append] at H;obtain ⟨A21,c21,rfl,-,-⟩:=TT.buf.shape;obtain ⟨B21,d21,rfl,-,-⟩:=TT.prt.shape;refine bO _ _ ?_;clear bO;refine bN (fun _ bW=>?_)
 have he:yS t=vP (lq t):=by rw [yS,ah (by omega),ah (by simpa using h9),ah (by simp [fD])]
 refine kP H (SC (Rm rfl (Rk rfl (bG BR iy 0 rfl rfl (Rc rfl (Kn bW (Cd rfl ?_ ?_))))))) <;> clear H bW
 ·intro jE a H
  try have p26:=dT jE
  refine bN (fun _ cB=>?_);have H:=H.sub (T':=[(4,_)]) ⟨rfl,aC⟩;refine dI hmx [[],[0],[0,1],[0,1,2],[],(ra 0 5)] [] (by kernel_rfl) [_,_,_,vi (vP (lq t)),_,_] H (aF (Z0 rfl (Rm rfl)) (Z1 0 27 rfl (Rk rfl)) (Z1 1 28 rfl (Rf BR rfl)) (Z1 2 29 rfl (Ro iy 0 rfl)) (bM (Z0 rfl (Ra rfl)) (bM (Z1 3 30 rfl (Ra rfl)) dz))) ?_
  clear H;intro a w G ru H hv;have H:=H.aM (hv 4 2 rfl rfl) rfl;have H:=H.aM (hv 5 3 rfl rfl) rfl;clear hv;refine aD ⟨rfl,?_⟩;refine cB _ _ ?_;clear cB;refine bS ?_;refine (eZ H results246 (.cons (aV H rfl) (.cons (aV H rfl) .nil)) ?_).1
  first
   | exact H.rt ⟨_,by rw [he0],by rw [zM,au he0];exact hrep⟩
   | exact H.rt ⟨_,by rw [he],by rw [zM,ah (by rw [he];first|decide|assumption)];exact av.iL rfl (by decide)⟩
 intro jE a H
 try have p26:=dF jE
 refine fZ ?_;refine aW _ _ ?_;clear aW;refine bN (fun _ dw=>?_)
 have he0:yS t=0:=by rw [he];omega
 have H:=(St.cast H (show _=[_]++(rW++jU) from rfl)).perm (List.Perm.append_left _ vX);have H:=St.un H;obtain ⟨Gr,hmr,hrep,H⟩:=St.nQ (Li:=[_]++jU) (Lo:=rW) H TT.prt (rows:=(wB (lq t).lit (lq t).parts).map jG.dat) (by simp) (anU _ _);dsimp only [lca,bq] at H;refine kP H (SC (Rm rfl (Rk rfl (bG KZ MR 0 rfl rfl (Ra rfl (bC dw rfl ?_))))));clear H dw;intro a H;refine bS ?_;refine (eZ H results246 (.cons (aV H rfl) (.cons (aV H rfl) .nil)) ?_).1
 first
  | exact H.rt ⟨_,by rw [he0],by rw [zM,au he0];exact hrep⟩
  | exact H.rt ⟨_,by rw [he],by rw [zM,ah (by rw [he];first|decide|assumption)];exact av.iL rfl (by decide)⟩
structure pz where
 fmt:Int
 start:Int
 Bh:ByteArray
 restart:Int
def pz.dat (x:pz):List Dat:=[li x.fmt,li x.start,.lf (.string x.Bh),li x.restart]
abbrev pz.cells (x:pz):List aj:=[vi x.fmt,vi x.start,.string x.Bh,vi x.restart]
theorem anW {G:GH} {x:pz} {cs:List aj} (h:aR G x.dat cs):cs=x.cells:=by
 simp only [pz.dat,aR,av] at h
 obtain ⟨_,_,rfl,⟨rfl,_⟩,_,_,rfl,⟨rfl,_⟩,_,_,rfl,⟨rfl,_⟩,_,_,rfl,⟨rfl,_⟩,rfl⟩:=h
 rfl
theorem ant (G:GH) (w0:World) (hG:Hold G w0) (l:List jG) (p:jG→Bool) (v fv:aj) (hv:av G (.sl 3 (l.map jG.dat)) v) (hf:∀ x∈l,qV fv G x.dat (p x)) :
  Calls prog 267 #[v,fv] w0 (bH w0 G fun u G'=>u=vi (nE (l.findIdx? p))):=by
 obtain ⟨A,c,rfl,hc1,hc2,hg⟩:=hv.slice;have hml:maxLen=9223372036854775807:=rfl;rw [aZ] at *;refine eN [(0,_),(1,_)] func267 rfl ntmps267 rfl rfl hG ?_;intro a H;refine kP H (SR fun _ K1=>ak K1 rfl (SQ fun _ K2=>SR fun _ K3=>Rm rfl (Rl JZ rfl (Rm rfl (Kz K3 (SB ?_))))));clear H K1 K3;intro a H;skip;refine fH (ι:=Nat × GH) (Tc:=[(0,_),(1,_),(7,_)]) (Lc:=[]) (fun gh=>[(8,vi gh.1)]) (fun gh=>[]) (fun gh=>gh.2) (fun gh=>gh.1≤l.length∧(l.take gh.1).findIdx? p=none∧(∀ b o,G b=some o→gh.2 b=some o)) (fun gh=>l.length - gh.1) ((0,G)) (by exact (H).sub ⟨rfl,rfl,rfl,rfl,aC⟩) ?_ ?_
 ·exact ⟨by omega,rfl,fun _ _ h=>h⟩
 clear H;rintro ⟨k,g⟩ a w hI H;dsimp only at hI H;obtain ⟨hk,hno,hgm⟩:=hI;dsimp only [lca,bq] at H;refine kP H (SR fun _ K4=>Rc rfl (Kz K4 (SQ fun _ K5=>Cd rfl ?_ ?_))) <;> clear H K4
 ·intro h9 a H
  try have p9:=dT h9
  have hk2:k < l.length:=by omega
  obtain ⟨b,o,cs,rfl,hcl,hrow,hr⟩:=hg k l[k].dat (by simp [hk2]);obtain rfl:=abG hr;refine kP H (Kc K5 (SQ fun _ K6=>SB (SR fun _ K7=>Rm rfl (ak K7 rfl (SR fun _ K8=>Rm rfl (Rm rfl (Rm rfl (Ri JZ JW rfl rfl ?_))))))));clear H K5 K7;intro a H;refine bB JW (cs:=l[k].cells) H wn rfl rfl (fun j v hj=>H.hp.aI (aJ hgm (hrow j v hj))) rfl ?_;clear H;intro a H;refine kD H wn rfl rfl (hf _ (kN hk2) _ _ _ hgm H.ro (abH _ l[k])) rfl ?_;clear H;rintro v16 nL a w rfl lH H;refine K8 _ _ ?_;clear K8;refine jC H rfl ?_ ?_
  ·intro h16
   try have p16:=dT h16
   refine kP H (SR fun _ K9=>Rm rfl (ak K9 rfl ?_));clear H K9;intro a H;refine lr H results267 rfl ?_
   first
    | exact H.rt (by rw [sN hk2 hno h16];rfl)
    | exact H.rt (by rw [show l.take k=l from iX (by omega)] at hno;rw [hno];rfl)
  intro h16
  try have p16:=dF h16
  refine kP H (Kc K6 (SC (Rd rfl (Rm rfl ?_))));clear H K6;intro a H;refine aD ?_;refine dM ((k+1,nL)) (by exact (H).sub ⟨rfl,rfl,rfl,rfl,aC⟩) ?_
  (try dsimp only);exact ⟨by omega,Cj hk2 hno h16,fun b o h=>lH b o (hgm b o h)⟩
 intro h9 a H
 try have p9:=dF h9
 refine eu ?_;refine K2 _ _ ?_;clear K2;refine kP H (SR fun _ aW=>ak aW rfl ?_);clear H aW;intro a H;refine lr H results267 rfl ?_
 first
  | exact H.rt (by rw [sN hk2 hno h16];rfl)
  | exact H.rt (by rw [show l.take k=l from iX (by omega)] at hno;rw [hno];rfl)
theorem agF (G:GH) (w0:World) (hG:Hold G w0) (l:List jG) (p:jG→Bool) (v fv:aj) (hv:av G (.sl 3 (l.map jG.dat)) v) (hf:∀ x∈l,qV fv G x.dat (p x)) :
  Calls prog 247 #[v,fv] w0 (bH w0 G fun u G'=>u=.bool (l.findIdx? p).isSome):=by
 obtain ⟨A,c,rfl,hc1,hc2,-⟩:=hv.slice;rw [aZ] at *;refine eN [(0,_),(1,_)] func247 rfl ntmps247 rfl rfl hG ?_;intro a H;refine kP H (SR fun _ K1=>ak K1 rfl (SR fun _ K2=>Rm rfl (Rm rfl ?_)));clear H K1;intro a H;refine s_call aiU H wn rfl (ant _ _ H.ro l p _ _ hv hf) rfl ?_;clear H;rintro v7 G7 a w rfl AB H;exact kH H (Rc rfl (ak K2 rfl (LR results247 rfl fun H=>H.rt (dO (Vg _)))))
theorem anX {G:GH} {bl:Nat} {k:Int} (hb:aI G bl 0=some (vi k)) (x:jG):qV (.func (.func 248) #[] #[(aK bl 0)]) G x.dat (decide (k < x.level)):=by
 intro G1 w0 cs hm hG hr;refine jI (caps:=[(aK bl 0)]) aiJ ?_;obtain rfl:=abG hr;replace hb:=aJ hm hb;refine eN [(0,_),(1,_)] func248 rfl ntmps248 rfl rfl hG ?_;intro a H;refine bZ (fun _ K1=>?_);refine dZ (cs:=[_,_,_]) H wn rfl rfl rfl ?_;clear H;intro b2 a w hb2 H;refine kH H (ak K1 rfl (SR fun _ K2=>bG ajV aH 0 rfl rfl (Rg aH rfl (by assumption) ?_)));clear H K1;intro a H;exact kH H (Rc rfl (ak K2 rfl (LR results248 rfl fun H=>H.rt rfl)))
def Cm (t:ByteArray) (k:Int):Int:=if k < 1∨9 < k then 2 else if yS t=0∧((zM t).findIdx? fun x=>decide (k < x.level)).isSome=true then 6 else yS t
theorem anV (G:GH) (w0:World) (hG:Hold G w0) (t:ByteArray) (k:Int) (ht:t.size < 4611686018427387904) :
  Calls prog 223 #[.string t,vi k] w0 (bH w0 G fun u G'=>u=vi (Cm t k)):=by
 refine eN [(0,_),(1,_)] func223 rfl ntmps223 rfl rfl hG ?_;intro a H;refine bZ (fun _ K1=>?_);refine dZ (cs:=[_]) H wn rfl rfl rfl ?_;clear H;intro b3 a w hb3 H;refine kH H (ak K1 rfl (SQ fun _ K2=>SR fun _ K3=>Ro aH 0 rfl (Rc rfl (Rm rfl (Sp 9 rfl ?_ ?_))))) <;> clear H K1
 ·intro h9 a H
  try have p9:=dT h9
  refine kH H (aP h9 rfl (Pt h9 rfl (Kz K3 (Ct rfl rfl (SR fun _ K4=>ak K4 rfl ?_)))));clear H K3 K4;intro a H;refine lr H results223 rfl ?_
  exact H.rt (aB vi (by unfold Cm;(repeat' split) <;> first|rfl|(exfalso;simp_all;done)|(exfalso;simp_all;omega)|(simp_all;done)))
 intro h9 a H
 try have p9:=dF h9
 refine kH H (YO aH 0 h9 rfl (YC h9 rfl (Pf h9 rfl (Kz K3 (Cd rfl ?_ ?_))))) <;> clear H K3
 ·intro h12 a H
  try have rO:=dT h12
  refine kP H (SR fun _ K5=>ak K5 rfl ?_);clear H K5;intro a H;refine lr H results223 rfl ?_
  exact H.rt (aB vi (by unfold Cm;(repeat' split) <;> first|rfl|(exfalso;simp_all;done)|(exfalso;simp_all;omega)|(simp_all;done)))
 intro h12 a H
 try have rO:=dF h12
 refine fZ ?_;refine K2 _ _ ?_;clear K2;refine bN (fun _ K6=>?_);obtain ⟨Ga,hma,Au,H⟩:=H.eH
 have hbk:aI Ga b3 0=some (vi k):=by unfold aI;rw [Au];rfl
 refine kP H (SC (Rm rfl ?_));clear H;intro a H;refine s_call aiH H wn rfl (apc _ _ H.ro t ht) rfl ?_;clear H;rintro v15 CO a w ⟨x15,rfl,abj⟩ sI H;obtain ⟨WX,c15,rfl,-,-,-⟩:=abj.slice;replace hbk:=aJ sI hbk;refine kH H (Rm rfl ?_);clear H;intro a H;(iterate 2 refine lS H wn rfl rfl rfl ?_;clear H;intro a H);refine kH H (Ra rfl (bC K6 rfl (SQ fun _ K7=>SR fun _ K8=>Rm rfl (Rc rfl (Rm rfl (Sp 20 rfl ?_ ?_)))))) <;> clear H K6
 ·intro h20 a H
  try have Hz:=dT h20
  refine kH H (YM h20 rfl ?_);clear H;intro a H;refine oQ H (wg H rfl rfl h20) rfl rfl ?_;clear H;intro a H;refine s_call aiI H (wg H rfl rfl h20) rfl (agF _ _ H.ro _ (fun x=>decide (k < x.level)) _ _ abj (fun x _=>anX hbk x)) rfl ?_;clear H;rintro v23 Xe a w rfl EG H;refine kH H (Pt h20 rfl (Kz K8 (Cd rfl ?_ ?_))) <;> clear H K8
  ·intro fB a H
   try have mX:=dT fB
   refine kP H (SC (bC K7 rfl (SR fun _ K9=>Rm rfl (ak K9 rfl ?_))));clear H K7 K9;intro a H;refine lr H results223 rfl ?_
   exact H.rt (aB vi (by unfold Cm;(repeat' split) <;> first|rfl|(exfalso;simp_all;done)|(exfalso;simp_all;omega)|(simp_all;done)))
  intro fB a H
  try have mX:=dF fB
  refine kP H (Kc K7 (SR fun _ aW=>Rm rfl (ak aW rfl ?_)));clear H K7 aW;intro a H;refine lr H results223 rfl ?_
  exact H.rt (aB vi (by unfold Cm;(repeat' split) <;> first|rfl|(exfalso;simp_all;done)|(exfalso;simp_all;omega)|(simp_all;done)))
 intro h20 a H
 try have Hz:=dF h20
 refine kH H (bD h20 rfl (Pf h20 rfl (Kz K8 (Cf rfl rfl (Kc K7 (SR fun _ bO=>Rm rfl (ak bO rfl ?_)))))));clear H K8 K7 bO;intro a H;refine lr H results223 rfl ?_
 exact H.rt (aB vi (by unfold Cm;(repeat' split) <;> first|rfl|(exfalso;simp_all;done)|(exfalso;simp_all;omega)|(simp_all;done)))
theorem Ic:Ty prog 96 4 40 [.int .i64 0,.int .i64 0,.string ⟨#[]⟩,.int .i64 0] true:=⟨by kernel_rfl,by kernel_rfl⟩
theorem Fj:prog.underlying 91=some (.slice 96):=by kernel_rfl
theorem ZG:dN prog 96 0 0:=⟨by kernel_rfl⟩
theorem ZH:dN prog 96 1 1:=⟨by kernel_rfl⟩
theorem ajY:dN prog 96 2 2:=⟨by kernel_rfl⟩
theorem aiy:∀ args w,(callFunc 223 args).run prog w=.ok (.enter 223 args) w:=enters func223 rfl (by kernel_rfl)
theorem ZI:dN prog 96 3 3:=⟨by kernel_rfl⟩
def FT:Nat→List pz→Int
 | _,[]=>0
 | i,x :: r=>if x.fmt < 1∨7 < x.fmt then 3 else if x.start < 0∨32767 < x.start then 2 else if Cm x.Bh ((i+1:Nat):Int)≠0 then Cm x.Bh ((i+1:Nat):Int) else if x.restart < 0∨(i:Int) < x.restart then 5 else FT (i+1) r
def eT (l:List pz):Int:=if l.length=0 then 11 else if 9 < l.length then 9 else FT 0 l
theorem jo {l:List pz} {k:Nat} (h:k < l.length):FT k (l.drop k)=if l[k].fmt < 1∨7 < l[k].fmt then 3 else if l[k].start < 0∨32767 < l[k].start then 2 else if Cm l[k].Bh ((k+1:Nat):Int)≠0 then Cm l[k].Bh ((k+1:Nat):Int) else if l[k].restart < 0∨(k:Int) < l[k].restart then 5 else FT (k+1) (l.drop (k+1)):=by
 rw [oh h,FT]
theorem afO (G:GH) (w0:World) (hG:Hold G w0) (l:List pz) (v:aj) (hv:av G (.sl 4 (l.map pz.dat)) v) (ht:∀ x∈l,x.Bh.size < 4611686018427387904) :
  Calls prog 185 #[v] w0 (bH w0 G fun u G'=>u=vi (eT l)):=by
 obtain ⟨A,c,rfl,hc1,hc2,hg⟩:=hv.slice;have hml:maxLen=9223372036854775807:=rfl;rw [aZ] at *;refine eN [(0,_)] func185 rfl ntmps185 rfl rfl hG ?_;intro a H;refine kP H (SR fun _ K1=>ak K1 rfl (SQ fun _ K2=>SB (SR fun _ K3=>Rm rfl (Rl Fj rfl (Rc rfl (ak K3 rfl (Cd rfl ?_ ?_))))))) <;> clear H K1 K3
 ·intro h6 a H
  try have p6:=dT h6
  refine kP H (SR fun _ K4=>ak K4 rfl ?_);clear H K4;intro a H;refine lr H results185 rfl ?_
  first
   | exact H.rt (aB vi (by rw [eT,au (by omega)]))
   | exact H.rt (aB vi (by rw [eT,ah (by omega),au (by omega)]))
   | exact H.rt (aB vi (by rw [eT,ah (by omega),ah (by omega),← he,jo hk2,au (by omega)]))
   | exact H.rt (aB vi (by rw [eT,ah (by omega),ah (by omega),← he,jo hk2,ah (by omega),au (by omega)]))
   | exact H.rt (aB vi (by rw [eT,ah (by omega),ah (by omega),← he,jo hk2,ah (by omega),ah (by omega),au p45]))
   | exact H.rt (aB vi (by rw [eT,ah (by omega),ah (by omega),← he,jo hk2,ah (by omega),ah (by omega),ah p45,au (by omega)]))
   | exact H.rt (aB vi (by rw [eT,ah (by omega),ah (by omega),← he,jm (by omega)];rfl))
 intro h6 a H
 try have p6:=dF h6
 refine kP H (SR fun _ K5=>Rm rfl (Rl Fj rfl (Rc rfl (ak K5 rfl (Cd rfl ?_ ?_))))) <;> clear H K5
 ·intro h10 a H
  try have nV:=dT h10
  refine kP H (SR fun _ K6=>ak K6 rfl ?_);clear H K6;intro a H;refine lr H results185 rfl ?_
  first
   | exact H.rt (aB vi (by rw [eT,au (by omega)]))
   | exact H.rt (aB vi (by rw [eT,ah (by omega),au (by omega)]))
   | exact H.rt (aB vi (by rw [eT,ah (by omega),ah (by omega),← he,jo hk2,au (by omega)]))
   | exact H.rt (aB vi (by rw [eT,ah (by omega),ah (by omega),← he,jo hk2,ah (by omega),au (by omega)]))
   | exact H.rt (aB vi (by rw [eT,ah (by omega),ah (by omega),← he,jo hk2,ah (by omega),ah (by omega),au p45]))
   | exact H.rt (aB vi (by rw [eT,ah (by omega),ah (by omega),← he,jo hk2,ah (by omega),ah (by omega),ah p45,au (by omega)]))
   | exact H.rt (aB vi (by rw [eT,ah (by omega),ah (by omega),← he,jm (by omega)];rfl))
 intro h10 a H
 try have nV:=dF h10
 refine kP H (Kc K2 (SQ fun _ K7=>SR fun _ K8=>Rm rfl (Rl Fj rfl (Rm rfl (Kz K8 (SB ?_))))));clear H K2 K8;intro a H;skip;refine fH (ι:=Nat × GH) (Tc:=[(14,_),(15,_)]) (Lc:=[]) (fun gh=>[(16,vi gh.1)]) (fun gh=>[]) (fun gh=>gh.2) (fun gh=>gh.1≤l.length∧FT gh.1 (l.drop gh.1)=FT 0 l∧(∀ b o,G b=some o→gh.2 b=some o)) (fun gh=>l.length - gh.1) ((0,G)) (by exact (H).sub ⟨rfl,rfl,rfl,aC⟩) ?_ ?_
 ·exact ⟨gY _,rfl,fun _ _ h=>h⟩
 clear H;rintro ⟨k,g⟩ a w hI H;dsimp only at hI H;obtain ⟨hk,he,hgm⟩:=hI;dsimp only [lca,bq] at H;refine kP H (SR fun _ K9=>Rc rfl (Kz K9 (SQ fun _ aW=>Cd rfl ?_ ?_))) <;> clear H K9
 ·intro eY a H
  try have nH:=dT eY
  have hk2:k < l.length:=by omega
  obtain ⟨b,o,cs,rfl,hcl,hrow,hr⟩:=hg k l[k].dat (by simp [hk2]);obtain rfl:=anW hr;refine kP H (Kc aW (SQ fun _ bO=>SB (SR fun _ bW=>Rm rfl (Ri Fj Ic rfl rfl ?_))));clear H aW;intro a H;refine bB Ic (cs:=l[k].cells) H wn rfl rfl (fun j v hj=>H.hp.aI (aJ hgm (hrow j v hj))) rfl ?_;clear H;intro a H;refine dB Ic H wn rfl ?_;clear H;intro b4 a w hb4 H;refine kH H (Ra rfl ?_);clear H;intro a H;refine aY Ic 0 (vs:=[_,_,_,_]) _ H wn rfl rfl rfl rfl rfl rfl rfl rfl ?_;clear H;intro w H;dsimp only [List.set,setRow] at H;refine bW _ _ ?_;clear bW;refine kP H (SQ fun _ cB=>SB (SR fun _ dw=>bG ZG aH 0 rfl rfl (Rc rfl (Rm rfl (Sp 25 rfl ?_ ?_))))) <;> clear H
  ·intro gX a H
   try have p25:=dT gX
   refine kH H (bD gX rfl (Pt gX rfl (ak dw rfl (Ct rfl rfl (SR fun _ dR=>ak dR rfl ?_)))));clear H dw dR;intro a H;refine lr H results185 rfl ?_
   first
    | exact H.rt (aB vi (by rw [eT,au (by omega)]))
    | exact H.rt (aB vi (by rw [eT,ah (by omega),au (by omega)]))
    | exact H.rt (aB vi (by rw [eT,ah (by omega),ah (by omega),← he,jo hk2,au (by omega)]))
    | exact H.rt (aB vi (by rw [eT,ah (by omega),ah (by omega),← he,jo hk2,ah (by omega),au (by omega)]))
    | exact H.rt (aB vi (by rw [eT,ah (by omega),ah (by omega),← he,jo hk2,ah (by omega),ah (by omega),au p45]))
    | exact H.rt (aB vi (by rw [eT,ah (by omega),ah (by omega),← he,jo hk2,ah (by omega),ah (by omega),ah p45,au (by omega)]))
    | exact H.rt (aB vi (by rw [eT,ah (by omega),ah (by omega),← he,jm (by omega)];rfl))
  intro gX a H
  try have p25:=dF gX
  refine kH H (YF ZG gX rfl (YO aH 0 gX rfl (YC gX rfl (Pf gX rfl (ak dw rfl (Cd rfl ?_ ?_)))))) <;> clear H dw
  ·intro h21 a H
   try have DK:=dT h21
   refine kP H (SR fun _ dW=>ak dW rfl ?_);clear H dW;intro a H;refine lr H results185 rfl ?_
   first
    | exact H.rt (aB vi (by rw [eT,au (by omega)]))
    | exact H.rt (aB vi (by rw [eT,ah (by omega),au (by omega)]))
    | exact H.rt (aB vi (by rw [eT,ah (by omega),ah (by omega),← he,jo hk2,au (by omega)]))
    | exact H.rt (aB vi (by rw [eT,ah (by omega),ah (by omega),← he,jo hk2,ah (by omega),au (by omega)]))
    | exact H.rt (aB vi (by rw [eT,ah (by omega),ah (by omega),← he,jo hk2,ah (by omega),ah (by omega),au p45]))
    | exact H.rt (aB vi (by rw [eT,ah (by omega),ah (by omega),← he,jo hk2,ah (by omega),ah (by omega),ah p45,au (by omega)]))
    | exact H.rt (aB vi (by rw [eT,ah (by omega),ah (by omega),← he,jm (by omega)];rfl))
  intro h21 a H
  try have DK:=dF h21
  refine kP H (SR fun _ dU=>bG ZH aH 0 rfl rfl (Rc rfl (Rm rfl (Sp 34 rfl ?_ ?_)))) <;> clear H
  ·intro fE a H
   try have p34:=dT fE
   refine kH H (bD fE rfl (Pt fE rfl (ak dU rfl (Ct rfl rfl (SR fun _ eG=>ak eG rfl ?_)))));clear H dU eG;intro a H;refine lr H results185 rfl ?_
   first
    | exact H.rt (aB vi (by rw [eT,au (by omega)]))
    | exact H.rt (aB vi (by rw [eT,ah (by omega),au (by omega)]))
    | exact H.rt (aB vi (by rw [eT,ah (by omega),ah (by omega),← he,jo hk2,au (by omega)]))
    | exact H.rt (aB vi (by rw [eT,ah (by omega),ah (by omega),← he,jo hk2,ah (by omega),au (by omega)]))
    | exact H.rt (aB vi (by rw [eT,ah (by omega),ah (by omega),← he,jo hk2,ah (by omega),ah (by omega),au p45]))
    | exact H.rt (aB vi (by rw [eT,ah (by omega),ah (by omega),← he,jo hk2,ah (by omega),ah (by omega),ah p45,au (by omega)]))
    | exact H.rt (aB vi (by rw [eT,ah (by omega),ah (by omega),← he,jm (by omega)];rfl))
  intro fE a H
  try have p34:=dF fE
  refine kH H (YF ZH fE rfl (YO aH 0 fE rfl (YC fE rfl (Pf fE rfl (ak dU rfl (Cd rfl ?_ ?_)))))) <;> clear H dU
  ·intro yF a H
   try have p30:=dT yF
   refine kP H (SR fun _ gu=>ak gu rfl ?_);clear H gu;intro a H;refine lr H results185 rfl ?_
   first
    | exact H.rt (aB vi (by rw [eT,au (by omega)]))
    | exact H.rt (aB vi (by rw [eT,ah (by omega),au (by omega)]))
    | exact H.rt (aB vi (by rw [eT,ah (by omega),ah (by omega),← he,jo hk2,au (by omega)]))
    | exact H.rt (aB vi (by rw [eT,ah (by omega),ah (by omega),← he,jo hk2,ah (by omega),au (by omega)]))
    | exact H.rt (aB vi (by rw [eT,ah (by omega),ah (by omega),← he,jo hk2,ah (by omega),ah (by omega),au p45]))
    | exact H.rt (aB vi (by rw [eT,ah (by omega),ah (by omega),← he,jo hk2,ah (by omega),ah (by omega),ah p45,au (by omega)]))
    | exact H.rt (aB vi (by rw [eT,ah (by omega),ah (by omega),← he,jm (by omega)];rfl))
  intro yF a H
  try have p30:=dF yF
  refine kP H (Kc cB (SQ fun _ fC=>SR fun _ gH=>bG ajY iM 0 rfl rfl (Rm rfl (Rd rfl ?_))));clear H cB;intro a H;rw [show ((k:Int)+1)=((k+1:Nat):Int) from rfl] at H;refine s_call aiy H wn rfl (anV _ _ H.ro l[k].Bh ((k+1:Nat):Int) (ht _ (kN hk2))) rfl ?_;clear H;rintro v43 Io a w rfl rE H;refine kH H (ak gH rfl (SR fun _ iC=>Rm rfl (Rc rfl (Kz iC (Cd rfl ?_ ?_))))) <;> clear H gH iC
  ·intro h45 a H
   try have p45:=dT h45
   refine kP H (SR fun _ jT=>Rm rfl (ak jT rfl ?_));clear H jT;intro a H;refine lr H results185 rfl ?_
   first
    | exact H.rt (aB vi (by rw [eT,au (by omega)]))
    | exact H.rt (aB vi (by rw [eT,ah (by omega),au (by omega)]))
    | exact H.rt (aB vi (by rw [eT,ah (by omega),ah (by omega),← he,jo hk2,au (by omega)]))
    | exact H.rt (aB vi (by rw [eT,ah (by omega),ah (by omega),← he,jo hk2,ah (by omega),au (by omega)]))
    | exact H.rt (aB vi (by rw [eT,ah (by omega),ah (by omega),← he,jo hk2,ah (by omega),ah (by omega),au p45]))
    | exact H.rt (aB vi (by rw [eT,ah (by omega),ah (by omega),← he,jo hk2,ah (by omega),ah (by omega),ah p45,au (by omega)]))
    | exact H.rt (aB vi (by rw [eT,ah (by omega),ah (by omega),← he,jm (by omega)];rfl))
  intro h45 a H
  try have p45:=dF h45
  refine kP H (Kc fC (SR fun _ jN=>bG ZI aH 0 rfl rfl (Rc rfl (Rm rfl (Sp 50 rfl ?_ ?_))))) <;> clear H fC
  ·intro h50 a H
   try have p50:=dT h50
   refine kH H (aP h50 rfl (aP h50 rfl (Pt h50 rfl (Kz jN (Ct rfl rfl (SR fun _ jO=>ak jO rfl ?_))))));clear H jN jO;intro a H;refine lr H results185 rfl ?_
   first
    | exact H.rt (aB vi (by rw [eT,au (by omega)]))
    | exact H.rt (aB vi (by rw [eT,ah (by omega),au (by omega)]))
    | exact H.rt (aB vi (by rw [eT,ah (by omega),ah (by omega),← he,jo hk2,au (by omega)]))
    | exact H.rt (aB vi (by rw [eT,ah (by omega),ah (by omega),← he,jo hk2,ah (by omega),au (by omega)]))
    | exact H.rt (aB vi (by rw [eT,ah (by omega),ah (by omega),← he,jo hk2,ah (by omega),ah (by omega),au p45]))
    | exact H.rt (aB vi (by rw [eT,ah (by omega),ah (by omega),← he,jo hk2,ah (by omega),ah (by omega),ah p45,au (by omega)]))
    | exact H.rt (aB vi (by rw [eT,ah (by omega),ah (by omega),← he,jm (by omega)];rfl))
  intro h50 a H
  try have p50:=dF h50
  refine kH H (YF ZI h50 rfl (YO aH 0 h50 rfl (YM h50 rfl (YC h50 rfl (Pf h50 rfl (Kz jN (Cd rfl ?_ ?_))))))) <;> clear H jN
  ·intro pJ a H
   try have p55:=dT pJ
   refine kP H (SR fun _ kU=>ak kU rfl ?_);clear H kU;intro a H;refine lr H results185 rfl ?_
   first
    | exact H.rt (aB vi (by rw [eT,au (by omega)]))
    | exact H.rt (aB vi (by rw [eT,ah (by omega),au (by omega)]))
    | exact H.rt (aB vi (by rw [eT,ah (by omega),ah (by omega),← he,jo hk2,au (by omega)]))
    | exact H.rt (aB vi (by rw [eT,ah (by omega),ah (by omega),← he,jo hk2,ah (by omega),au (by omega)]))
    | exact H.rt (aB vi (by rw [eT,ah (by omega),ah (by omega),← he,jo hk2,ah (by omega),ah (by omega),au p45]))
    | exact H.rt (aB vi (by rw [eT,ah (by omega),ah (by omega),← he,jo hk2,ah (by omega),ah (by omega),ah p45,au (by omega)]))
    | exact H.rt (aB vi (by rw [eT,ah (by omega),ah (by omega),← he,jm (by omega)];rfl))
  intro pJ a H
  try have p55:=dF pJ
  refine kP H (Kc bO (SC (Rd rfl (Rm rfl ?_))));clear H bO;intro a H;refine aD ?_;refine dM ((k+1,Io)) (by exact (H.dG (Pl:=[_]) (cZ:=[]) [] (by decide) rfl).sub ⟨rfl,rfl,rfl,aC⟩) ?_
  (try dsimp only);exact ⟨by omega,by rw [jo hk2,ah (by omega),ah (by omega),ah p45,ah (by omega)] at he;exact he,fun b o h=>rE b o (hgm b o h)⟩
 intro eY a H
 try have nH:=dF eY
 refine eu ?_;refine K7 _ _ ?_;clear K7;refine kP H (SR fun _ lC=>ak lC rfl ?_);clear H lC;intro a H;refine lr H results185 rfl ?_
 first
  | exact H.rt (aB vi (by rw [eT,au (by omega)]))
  | exact H.rt (aB vi (by rw [eT,ah (by omega),au (by omega)]))
  | exact H.rt (aB vi (by rw [eT,ah (by omega),ah (by omega),← he,jo hk2,au (by omega)]))
  | exact H.rt (aB vi (by rw [eT,ah (by omega),ah (by omega),← he,jo hk2,ah (by omega),au (by omega)]))
  | exact H.rt (aB vi (by rw [eT,ah (by omega),ah (by omega),← he,jo hk2,ah (by omega),ah (by omega),au p45]))
  | exact H.rt (aB vi (by rw [eT,ah (by omega),ah (by omega),← he,jo hk2,ah (by omega),ah (by omega),ah p45,au (by omega)]))
  | exact H.rt (aB vi (by rw [eT,ah (by omega),ah (by omega),← he,jm (by omega)];rfl))
theorem Bo:Ty prog 32 1 24 [.slice none 0 0] false:=⟨by kernel_rfl,by kernel_rfl⟩
theorem xS:prog.underlying 32=some (.slice 93):=by kernel_rfl
theorem Bq:Ty prog 93 2 32 [.int .i64 0,.slice none 0 0] true:=⟨by kernel_rfl,by kernel_rfl⟩
theorem ZF:dN prog 93 0 0:=⟨by kernel_rfl⟩
theorem Wy:Ty prog 91 1 24 [.slice none 0 0] false:=⟨by kernel_rfl,by kernel_rfl⟩
theorem RX:∀ args w,(callFunc 125 args).run prog w=.ok (.enter 125 args) w:=enters func125 rfl (by kernel_rfl)
theorem SE:dN prog 93 1 1:=⟨by kernel_rfl⟩
theorem aic:∀ args w,(callFunc 185 args).run prog w=.ok (.enter 185 args) w:=enters func185 rfl (by kernel_rfl)
theorem IZ:∀ args w,(callFunc 123 args).run prog w=.ok (.enter 123 args) w:=enters func123 rfl (by kernel_rfl)
theorem aib:∀ args w,(callFunc 184 args).run prog w=.ok (.enter 184 args) w:=enters func184 rfl (by kernel_rfl)
theorem aia:∀ args w,(callFunc 183 args).run prog w=.ok (.enter 183 args) w:=enters func183 rfl (by kernel_rfl)
structure fK where
 id:Int
 levels:List pz
def fK.dat (x:fK):List Dat:=[li x.id,.sl 4 (x.levels.map pz.dat)]
structure iT where
 id:Int
 parent:Int
 author:ByteArray
 time:Int
 text:ByteArray
 done:Bool
def iT.dat (x:iT):List Dat:=[li x.id,li x.parent,.lf (.string x.author),li x.time,.lf (.string x.text),.lf (.bool x.done)]
abbrev iT.cells (x:iT):List aj:=[vi x.id,vi x.parent,.string x.author,vi x.time,.string x.text,.bool x.done]
structure mq where
 name:ByteArray
 value:ByteArray
def mq.dat (x:mq):List Dat:=[.lf (.string x.name),.lf (.string x.value)]
abbrev mq.cells (x:mq):List aj:=[.string x.name,.string x.value]
theorem Yq {G:GH} {x:iT} {cs:List aj} (h:aR G x.dat cs):cs=x.cells:=by
 simp only [iT.dat,aR,av] at h
 obtain ⟨_,_,rfl,⟨rfl,_⟩,_,_,rfl,⟨rfl,_⟩,_,_,rfl,⟨rfl,_⟩,_,_,rfl,⟨rfl,_⟩,_,_,rfl,⟨rfl,_⟩,_,_,rfl,⟨rfl,_⟩,rfl⟩:=h
 rfl
theorem asI {G:GH} {x:mq} {cs:List aj} (h:aR G x.dat cs):cs=x.cells:=by
 simp only [mq.dat,aR,av] at h
 obtain ⟨_,_,rfl,⟨rfl,_⟩,_,_,rfl,⟨rfl,_⟩,rfl⟩:=h
 rfl
theorem Vo {G:GH} {l:List fK} {A:Option Addr} {n c k:Nat} (hv:av G (.sl 2 (l.map fK.dat)) (.slice A n c)) (hk:k < l.length):∃ b o B d,A=some ⟨b,o,none⟩∧(∀ j u,[vi l[k].id,.slice B l[k].levels.length d][j]?=some u→aI G b (o+k*2+j)=some u)∧av G (.sl 4 (l[k].levels.map pz.dat)) (.slice B l[k].levels.length d):=by
 obtain ⟨A',c',he,_,_,hg⟩:=hv.slice
 injection he with e1 e2 e3
 subst e1;obtain ⟨b,o,cs,h1,h2,h3,h4⟩:=hg k l[k].dat (by simp [hk])
 simp only [fK.dat,aR] at h4
 obtain ⟨v1,_,rfl,⟨rfl,-⟩,v2,_,rfl,hl,rfl⟩:∃ v vs,cs=v :: vs∧av G (li l[k].id) v∧∃ v2 vs2,vs=v2 :: vs2∧av G (.sl 4 (l[k].levels.map pz.dat)) v2∧vs2=[]:=h4;obtain ⟨B,d,rfl,-,-,-⟩:=hl.slice;rw [aZ] at *;exact ⟨b,o,B,d,h1,h3,hl⟩
theorem anQ {G:GH} {bl:Nat} {l:List fK} {A:Option Addr} {n c:Nat} (hb:aI G bl 0=some (.slice A n c)) (hv:av G (.sl 2 (l.map fK.dat)) (.slice A n c)):uS (.func (.func 184) #[] #[(aK bl 0)]) G l.length fun k=>(l[k]?.map fK.id).getD 0:=by
 intro k hk G1 w0 hm hG;refine jI (caps:=[(aK bl 0)]) aib ?_;replace hb:=aJ hm hb
 obtain rfl:n=l.length:=by have:=hv.len;simpa using this
 obtain ⟨b,o,B,d,rfl,hrow,-⟩:=Vo (hv.mono hm) hk;have hq:=hrow 0 _ rfl;refine eN [(0,_),(1,_)] func184 rfl ntmps184 rfl rfl hG ?_;intro a H;refine kP H (SR fun _ K1=>ak K1 rfl (SR fun _ K2=>Rg Bo rfl (by assumption) ?_));clear H K1;intro a H;refine kH H (Rm rfl (Ri xS Bq rfl rfl (Rf ZF rfl (Rg aH rfl (by assumption) ?_))));clear H;intro a H;exact kH H (ak K2 rfl (LR results184 rfl fun H=>H.rt (by dsimp only;rw [eD hk];rfl)))
def Hl (l:List fK) (i:Nat):Int:=dY [rG (fun k=>(l[k]?.map fK.id).getD 0) i,eT ((l[i]?.map fK.levels).getD [])]
theorem anS {G:GH} {bl:Nat} {l:List fK} {A:Option Addr} {n c:Nat} (hb:aI G bl 0=some (.slice A n c)) (hv:av G (.sl 2 (l.map fK.dat)) (.slice A n c)) (hl:l.length≤4294967296) (ht:∀ x∈l,∀ y∈x.levels,y.Bh.size < 4611686018427387904):uS (.func (.func 183) #[] #[(aK bl 0)]) G l.length (Hl l):=by
 intro k hk G1 w0 hm hG;refine jI (caps:=[(aK bl 0)]) aia ?_;replace hb:=aJ hm hb;replace hv:=hv.mono hm;have hcb:=anQ hb hv
 obtain rfl:n=l.length:=by have:=hv.len;simpa using this
 obtain ⟨b,o,B,d,rfl,hrow,hlv⟩:=Vo hv hk;have hq:=hrow 1 _ rfl
 have he:Hl l k=dY [rG (fun k=>(l[k]?.map fK.id).getD 0) k,eT l[k].levels]:=by unfold Hl;rw [eD hk];rfl
 refine eN [(0,_),(1,_)] func183 rfl ntmps183 rfl rfl hG ?_;intro a H;refine kP H (SR fun _ K1=>ak K1 rfl (SQ fun _ K2=>?_));clear H K1;intro a H;have H:=H.sub (T':=[(0,_),(1,_)]) ⟨rfl,rfl,aC⟩;refine dI hmx [[],[],[0,1],[],[],[3,4],[3,4,5],(ra 3 4),(ra 0 8),(ra 0 9),(ra 0 10),(ra 0 11)] [9,10,11] (by kernel_rfl) [_,.func (.func 184) #[] #[(aK bl 0)],vi (rG (fun k=>(l[k]?.map fK.id).getD 0) k),_,_,_,_,_,vi (eT l[k].levels)] H (aF (Z0 rfl (Rm rfl)) ?_ ?_ (X0 rfl fun hG=>Rg Bo rfl (aJ hG hb)) (aF (Z0 rfl (Rm rfl)) (Z2 3 7 4 8 rfl (Ri xS Bq rfl rfl)) (Z1 5 9 rfl (Rf SE rfl)) (X1 6 10 rfl fun hG=>Rg Wy rfl (aJ hG hq)) (aF ?_ (bQ rfl) (bQ rfl) (bQ rfl) dz))) ?_
 ·refine CU rfl fun _ a w G1 hG HT H fin=>?_;refine oQ H wn rfl rfl ?_;clear H;intro a H;exact fin H iJ rfl
 ·refine dK 0 4 1 5 rfl rfl fun _ a w G1 hG HT H fin=>?_;refine s_call RX H wn rfl (Vd _ _ H.ro k _ _ (by omega) (fun i hi=>(hcb.mono hG) i (by omega))) rfl ?_;clear H;rintro v6 G6 a w rfl iU H;exact fin H iU (rfl)
 ·refine eP 7 11 rfl rfl fun _ a w G1 hG HT H fin=>?_;refine s_call aic H wn rfl (afO _ _ H.ro _ _ (hlv.mono hG) (ht _ (kN hk))) rfl ?_;clear H;rintro v12 D9 a w rfl oN H;exact fin H oN (rfl)
 clear H;intro a w G nA H hv;have H:=H.aM (hv 2 6 rfl rfl) rfl;have H:=H.aM (hv 8 12 rfl rfl) rfl;clear hv;refine ig qU iy [_,_] [_,_] H wn rfl rfl rfl rfl rfl (by intro i q h;match i,h with|0,h=>exact h|1,h=>exact h|n+2,h=>simp at h) rfl rfl ?_;clear H;intro b13 a w OA H;obtain ⟨Ea,vE,alc,H⟩:=H.eH;refine s_call sj H wn rfl (sD _ _ H.ro _ _ (zR alc)) rfl ?_;clear H;rintro v14 _ a w ⟨rfl,rfl⟩ - H;refine kH H (Ra rfl ?_);clear H;intro a H;refine aD ⟨rfl,?_⟩;refine K2 _ _ ?_;clear K2;refine lr H results183 rfl ?_;exact H.rt (by rw [he])
def KA (l:List fK):Int:=dY [dx (decide (64 < (l.length:Int))) 9,kQ (Hl l) (min l.length 64)]
theorem uS.le {fv:aj} {G:GH} {n m:Nat} {E:Nat→Int} (h:uS fv G n E) (hm:m≤n):uS fv G m E:=fun i hi=>h i (by omega)
theorem afP (G:GH) (w0:World) (hG:Hold G w0) (l:List fK) (v:aj) (hv:av G (.sl 2 (l.map fK.dat)) v) (hl:l.length≤4294967296) (ht:∀ x∈l,∀ y∈x.levels,y.Bh.size < 4611686018427387904) :
  Calls prog 120 #[v] w0 (bH w0 G fun u G'=>u=vi (KA l)):=by
 obtain ⟨A,c,rfl,hc1,hc2,-⟩:=hv.slice;rw [aZ] at *;refine eN [(0,_)] func120 rfl ntmps120 rfl rfl hG ?_;intro a H;refine bZ (fun _ K1=>?_);refine dZ (cs:=[_]) H wn rfl rfl rfl ?_;clear H;intro b1 a w hb1 H;refine kH H (ak K1 rfl (SQ fun _ K2=>?_));clear H K1;intro a H;have H:=H.sub (T':=[(1,_)]) ⟨rfl,aC⟩;obtain ⟨Ga,hma,hb1',H⟩:=H.eH
 have hbl:aI Ga b1 0=some (.slice A l.length c):=by unfold aI;rw [hb1'];rfl
 have hcb:=anS hbl (hv.mono hma) hl ht;refine dI hmx [[],[0],[0,1],[0,1,2],[],[4],[4,5],[],(ra 0 8),(ra 0 9),(ra 0 10),(ra 0 11)] [9,10,11] (by kernel_rfl) [_,_,_,vi (dx (decide (64 < (l.length:Int))) 9),_,_,vi ((min l.length 64:Nat):Int),.func (.func 183) #[] #[(aK b1 0)],vi (kQ (Hl l) (min l.length 64))] H (aF (X0 rfl fun hG=>Rg Bo rfl (aJ hG hbl)) (Z1 0 3 rfl (Rl xS rfl)) (Z1 1 4 rfl (Rc rfl)) ?_ (aF (X0 rfl fun hG=>Rg Bo rfl (aJ hG hbl)) (Z1 4 7 rfl (Rl xS rfl)) ?_ ?_ (aF ?_ (bQ rfl) (bQ rfl) (bQ rfl) dz))) ?_
 ·refine eP 2 5 rfl rfl fun _ a w G1 hG HT H fin=>?_;refine s_call jR H wn rfl (jS _ _ H.ro _ 9) rfl ?_;clear H;rintro v6 G6 a w ⟨rfl,-⟩ iU H;exact fin H iU (rfl)
 ·refine eP 5 8 rfl rfl fun _ a w G1 hG HT H fin=>?_;refine Qb H wn rfl rfl rfl ?_;clear H;intro a H;exact fin H iJ (aB vi (by omega))
 ·refine CU rfl fun _ a w G1 hG HT H fin=>?_;refine oQ H wn rfl rfl ?_;clear H;intro a H;exact fin H iJ rfl
 ·refine dK 6 9 7 10 rfl rfl fun _ a w G1 hG HT H fin=>?_;refine s_call IZ H wn rfl (Kt _ _ H.ro (min l.length 64) (Hl l) _ (by omega) ((hcb.mono hG).le (Nat.min_le_left _ _))) rfl ?_;clear H;rintro v11 tO a w rfl lW H;exact fin H lW (rfl)
 clear H;intro a w G nA H hv;have H:=H.aM (hv 3 6 rfl rfl) rfl;have H:=H.aM (hv 8 11 rfl rfl) rfl;clear hv;refine ig qU iy [_,_] [_,_] H wn rfl rfl rfl rfl rfl (by intro i q h;match i,h with|0,h=>exact h|1,h=>exact h|n+2,h=>simp at h) rfl rfl ?_;clear H;intro b12 a w Gw H;obtain ⟨D9,Dq,Gx,H⟩:=H.eH;refine s_call sj H wn rfl (sD _ _ H.ro _ _ (zR Gx)) rfl ?_;clear H;rintro v13 _ a w ⟨rfl,rfl⟩ - H;refine kH H (Ra rfl ?_);clear H;intro a H;refine aD ⟨rfl,?_⟩;refine K2 _ _ ?_;clear K2;refine lr H results120 rfl ?_;exact H.rt rfl
theorem mg:prog.underlying 31=some (.slice 192):=by kernel_rfl
theorem kE:Ty prog 192 6 72 [.int .i64 0,.int .i64 0,.string ⟨#[]⟩,.int .i64 0,.int .i64 0,.slice none 0 0] true:=⟨by kernel_rfl,by kernel_rfl⟩
theorem zx:dN prog 192 1 1:=⟨by kernel_rfl⟩
theorem I7:dN prog 192 2 2:=⟨by kernel_rfl⟩
theorem xu:dN prog 192 0 0:=⟨by kernel_rfl⟩
theorem Ze:∀ args w,(callFunc 243 args).run prog w=.ok (.enter 243 args) w:=enters func243 rfl (by kernel_rfl)
theorem aix:∀ args w,(callFunc 221 args).run prog w=.ok (.enter 221 args) w:=enters func221 rfl (by kernel_rfl)
theorem aiF:∀ args w,(callFunc 244 args).run prog w=.ok (.enter 244 args) w:=enters func244 rfl (by kernel_rfl)
theorem aiG:∀ args w,(callFunc 245 args).run prog w=.ok (.enter 245 args) w:=enters func245 rfl (by kernel_rfl)
structure cu where
 id:Int
 kind:Int
 name:ByteArray
 base:Int
 next:Int
 props:List aO
def cu.dat (x:cu):List Dat:=[li x.id,li x.kind,.lf (.string x.name),li x.base,li x.next,.sl 2 (x.props.map aO.dat)]
theorem Qj {G:GH} {x:cu} {cs:List aj} (h:aR G x.dat cs):∃ A c,cs=[vi x.id,vi x.kind,.string x.name,vi x.base,vi x.next,.slice A x.props.length c]∧av G (.sl 2 (x.props.map aO.dat)) (.slice A x.props.length c):=by
 simp only [cu.dat,aR] at h
 obtain ⟨v1,_,rfl,h1,v2,_,rfl,h2,v3,_,rfl,h3,v4,_,rfl,h4,v5,_,rfl,h5,v6,_,rfl,h6,rfl⟩:=h
 simp only [av] at h1 h2 h3 h4 h5
 obtain ⟨rfl,-⟩:=h1;obtain ⟨rfl,-⟩:=h2;obtain ⟨rfl,-⟩:=h3;obtain ⟨rfl,-⟩:=h4;obtain ⟨rfl,-⟩:=h5;obtain ⟨A,c,rfl,-,-,-⟩:=h6.slice;rw [aZ] at *;exact ⟨A,c,rfl,h6⟩
theorem DU {G:GH} {l:List cu} {A:Option Addr} {n c k:Nat} (hv:av G (.sl 6 (l.map cu.dat)) (.slice A n c)) (hk:k < l.length):∃ b o pA pc,A=some ⟨b,o,none⟩∧(∀ j u,[vi l[k].id,vi l[k].kind,.string l[k].name,vi l[k].base,vi l[k].next,.slice pA l[k].props.length pc][j]?=some u→aI G b (o+k*6+j)=some u)∧av G (.sl 2 (l[k].props.map aO.dat)) (.slice pA l[k].props.length pc) ∧
  aR G l[k].dat [vi l[k].id,vi l[k].kind,.string l[k].name,vi l[k].base,vi l[k].next,.slice pA l[k].props.length pc]:=by
 obtain ⟨A',c',he,_,_,hg⟩:=hv.slice
 injection he with e1 e2 e3
 subst e1;obtain ⟨b,o,cs,h1,h2,h3,h4⟩:=hg k l[k].dat (by simp [hk]);obtain ⟨pA,pc,rfl,hp⟩:=Qj h4;exact ⟨b,o,pA,pc,h1,h3,hp,h4⟩
def okB (x:Int):Bool:=decide (32≤x∧x≤126)
def Hr (s:ByteArray) (k:Nat):Bool:=(List.range k).all fun i=>okB (gN s i)
def oO (s:ByteArray):Bool:=decide (s.size≠0∧s.size≤40∧gN s 0≠32∧gN s (s.size - 1)≠32) && Hr s s.size
theorem aoi (s:ByteArray) (k:Nat):Hr s (k+1)=(Hr s k && okB (gN s k)):=by simp [Hr,List.range_succ]
theorem Ht {s:ByteArray} {k:Nat} (hk:k < s.size) (h:okB (gN s k)=false):Hr s s.size=false:=by
 rw [Hr,List.all_eq_false];exact ⟨k,by simpa using hk,by simp [h]⟩
theorem Ph (G:GH) (w0:World) (hG:Hold G w0) (s:ByteArray) (hs:s.size≤4611686018427387904):Calls prog 218 #[.string s] w0 (bH w0 G fun u G'=>u=.bool (oO s)):=by
 refine eN [(0,_)] func218 rfl ntmps218 rfl rfl hG ?_;intro a H;refine kP H (SR fun _ K1=>ak K1 rfl (SQ fun _ K2=>SR fun _ K3=>Rm rfl (Rv iB rfl (Rc rfl (Rm rfl (Sp 7 rfl ?_ ?_)))))) <;> clear H K1
 ·intro h7 a H
  try have p7:=dT h7
  refine kH H (bD h7 rfl (Pt h7 rfl (Rm rfl (bD rfl rfl (Pt rfl rfl (Rm rfl (bD rfl rfl (bD rfl rfl (Pt rfl rfl (Kz K3 (Ct rfl rfl (SR fun _ K4=>ak K4 rfl ?_))))))))))));clear H K3 K4;intro a H;refine lr H results218 rfl ?_
  first
   | exact H.rt (dO (by rw [oO,kX (by omega),xZ]))
   | exact H.rt (dO (by rw [oO,jB (by omega),show s.size=k by omega,hno];rfl))
   | exact H.rt (dO (by rw [oO,Ht (k:=k) (by omega) (kX (by omega)),Bool.and_false]))
 intro h7 a H
 try have p7:=dF h7
 refine kH H (YM h7 rfl ?_);clear H;intro a H;refine Fa iB H (wg H rfl rfl h7) rfl rfl ?_;clear H;intro a H;refine kH H (YC h7 rfl (Pf h7 rfl (Rm rfl (Sp 12 rfl ?_ ?_)))) <;> clear H
 ·intro h12 a H
  try have rO:=dT h12
  refine kH H (bD h12 rfl (Pt h12 rfl (Rm rfl (bD rfl rfl (bD rfl rfl (Pt rfl rfl (Kz K3 (Ct rfl rfl (SR fun _ K5=>ak K5 rfl ?_)))))))));clear H K3 K5;intro a H;refine lr H results218 rfl ?_
  first
   | exact H.rt (dO (by rw [oO,kX (by omega),xZ]))
   | exact H.rt (dO (by rw [oO,jB (by omega),show s.size=k by omega,hno];rfl))
   | exact H.rt (dO (by rw [oO,Ht (k:=k) (by omega) (kX (by omega)),Bool.and_false]))
 intro h12 a H
 try have rO:=dF h12
 refine kH H (YM h12 rfl ?_);clear H;intro a H;refine qx 0 iB H (wg H rfl rfl h12) rfl rfl rfl (by omega) rfl ?_;clear H;intro a H;rw [← lV] at H;refine kH H (YC h12 rfl (Pf h12 rfl (Rm rfl (Sp 17 rfl ?_ ?_)))) <;> clear H
 ·intro eY a H
  try have nH:=dT eY
  refine kH H (bD eY rfl (bD eY rfl (Pt eY rfl (Kz K3 (Ct rfl rfl (SR fun _ K6=>ak K6 rfl ?_))))));clear H K3 K6;intro a H;refine lr H results218 rfl ?_
  first
   | exact H.rt (dO (by rw [oO,kX (by omega),xZ]))
   | exact H.rt (dO (by rw [oO,jB (by omega),show s.size=k by omega,hno];rfl))
   | exact H.rt (dO (by rw [oO,Ht (k:=k) (by omega) (kX (by omega)),Bool.and_false]))
 intro eY a H
 try have nH:=dF eY
 refine kH H (YM eY rfl (YM eY rfl ?_));clear H;intro a H;refine Fa iB H (wg H rfl rfl eY) rfl rfl ?_;clear H;intro a H;refine nW _ H (wg H rfl rfl eY) rfl rfl rfl (by omega) (by omega) rfl ?_;clear H;intro a H;refine qx (s.size - 1) iB H (wg H rfl rfl eY) rfl rfl (by omega) (by omega) rfl ?_;clear H;intro a H;rw [← lV] at H;refine kH H (YC eY rfl (Pf eY rfl (Kz K3 (Cd rfl ?_ ?_)))) <;> clear H K3
 ·intro fB a H
  try have mX:=dT fB
  refine kP H (SR fun _ K7=>ak K7 rfl ?_);clear H K7;intro a H;refine lr H results218 rfl ?_
  first
   | exact H.rt (dO (by rw [oO,kX (by omega),xZ]))
   | exact H.rt (dO (by rw [oO,jB (by omega),show s.size=k by omega,hno];rfl))
   | exact H.rt (dO (by rw [oO,Ht (k:=k) (by omega) (kX (by omega)),Bool.and_false]))
 intro fB a H
 try have mX:=dF fB
 refine kP H (Kc K2 (SQ fun _ K8=>SR fun _ K9=>Rm rfl (Rv iB rfl (Rm rfl (Kz K9 (SB ?_))))));clear H K2 K9;intro a H;skip;refine fH (ι:=Nat) (Tc:=[(0,_),(26,_)]) (Lc:=[]) (fun gh=>[(27,vi gh)]) (fun gh=>[]) (fun gh=>G) (fun gh=>gh≤s.size∧Hr s gh=true) (fun gh=>s.size - gh) (0) (by exact (H).sub ⟨rfl,rfl,rfl,aC⟩) ?_ ?_
 ·exact ⟨gY _,rfl⟩
 clear H;intro k a w hI H;obtain ⟨hk,hno⟩:=hI;dsimp only [lca,bq] at H;refine kP H (SR fun _ aW=>Rc rfl (Kz aW (SQ fun _ bO=>Cd rfl ?_ ?_))) <;> clear H aW
 ·intro fQ a H
  try have p28:=dT fQ
  refine kP H (Kc bO (SQ fun _ bW=>SB (SR fun _ cB=>Rm rfl (ak cB rfl (SR fun _ dw=>Rm rfl (Rm rfl ?_))))));clear H bO cB;intro a H;refine qx k iB H wn rfl rfl rfl (by omega) rfl ?_;clear H;intro a H;rw [← lV] at H;refine kH H (Rc rfl (Rm rfl (Sp 34 rfl ?_ ?_))) <;> clear H
  ·intro fE a H
   try have p34:=dT fE
   refine kH H (aP fE rfl (aP fE rfl (Pt fE rfl (Kz dw (Ct rfl rfl (SR fun _ dR=>ak dR rfl ?_))))));clear H dw dR;intro a H;refine lr H results218 rfl ?_
   first
    | exact H.rt (dO (by rw [oO,kX (by omega),xZ]))
    | exact H.rt (dO (by rw [oO,jB (by omega),show s.size=k by omega,hno];rfl))
    | exact H.rt (dO (by rw [oO,Ht (k:=k) (by omega) (kX (by omega)),Bool.and_false]))
  intro fE a H
  try have p34:=dF fE
  refine kH H (YM fE rfl (YM fE rfl ?_));clear H;intro a H;refine qx k iB H (wg H rfl rfl fE) rfl rfl rfl (by omega) rfl ?_;clear H;intro a H;rw [← lV] at H;refine kH H (YC fE rfl (Pf fE rfl (Kz dw (Cd rfl ?_ ?_)))) <;> clear H dw
  ·intro jq a H
   try have p39:=dT jq
   refine kP H (SR fun _ dW=>ak dW rfl ?_);clear H dW;intro a H;refine lr H results218 rfl ?_
   first
    | exact H.rt (dO (by rw [oO,kX (by omega),xZ]))
    | exact H.rt (dO (by rw [oO,jB (by omega),show s.size=k by omega,hno];rfl))
    | exact H.rt (dO (by rw [oO,Ht (k:=k) (by omega) (kX (by omega)),Bool.and_false]))
  intro jq a H
  try have p39:=dF jq
  refine kP H (Kc bW (SC (Rd rfl (Rm rfl ?_))));clear H bW;intro a H;refine aD ?_;refine dM ((k+1)) (by exact (H).sub ⟨rfl,rfl,rfl,aC⟩) ?_
  exact ⟨by omega,by rw [aoi,hno];simp [okB];omega⟩
 intro fQ a H
 try have p28:=dF fQ
 refine eu ?_;refine K8 _ _ ?_;clear K8;refine kP H (SR fun _ dU=>ak dU rfl ?_);clear H dU;intro a H;refine lr H results218 rfl ?_
 first
  | exact H.rt (dO (by rw [oO,kX (by omega),xZ]))
  | exact H.rt (dO (by rw [oO,jB (by omega),show s.size=k by omega,hno];rfl))
  | exact H.rt (dO (by rw [oO,Ht (k:=k) (by omega) (kX (by omega)),Bool.and_false]))
theorem abt (G:GH) (w0:World) (hG:Hold G w0) (l:List cu) (p:cu→Bool) (v fv:aj) (hv:av G (.sl 6 (l.map cu.dat)) v) (hf:∀ x∈l,qV fv G x.dat (p x)) :
  Calls prog 243 #[v,fv] w0 (bH w0 G fun u G'=>u=vi (nE (l.findIdx? p))):=by
 obtain ⟨A,c,rfl,hc1,hc2,-⟩:=hv.slice;have hml:maxLen=9223372036854775807:=rfl;rw [aZ] at *;refine eN [(0,_),(1,_)] func243 rfl ntmps243 rfl rfl hG ?_;intro a H;refine kP H (SR fun _ K1=>ak K1 rfl (SQ fun _ K2=>SR fun _ K3=>Rm rfl (Rl mg rfl (Rm rfl (Kz K3 (SB ?_))))));clear H K1 K3;intro a H;skip;refine fH (ι:=Nat × GH) (Tc:=[(0,_),(1,_),(7,_)]) (Lc:=[]) (fun gh=>[(8,vi gh.1)]) (fun gh=>[]) (fun gh=>gh.2) (fun gh=>gh.1≤l.length∧(l.take gh.1).findIdx? p=none∧(∀ b o,G b=some o→gh.2 b=some o)) (fun gh=>l.length - gh.1) ((0,G)) (by exact (H).sub ⟨rfl,rfl,rfl,rfl,aC⟩) ?_ ?_
 ·exact ⟨by omega,rfl,fun _ _ h=>h⟩
 clear H;rintro ⟨k,g⟩ a w hI H;dsimp only at hI H;obtain ⟨hk,hno,hgm⟩:=hI;dsimp only [lca,bq] at H;refine kP H (SR fun _ K4=>Rc rfl (Kz K4 (SQ fun _ K5=>Cd rfl ?_ ?_))) <;> clear H K4
 ·intro h9 a H
  try have p9:=dT h9
  have hk2:k < l.length:=by omega
  obtain ⟨b,o,pA,pc,rfl,hrow,hp,hrep⟩:=DU (hv.mono hgm) hk2;refine kP H (Kc K5 (SQ fun _ K6=>SB (SR fun _ K7=>Rm rfl (ak K7 rfl (SR fun _ K8=>Rm rfl (Rm rfl (Rm rfl (Ri mg kE rfl rfl ?_))))))));clear H K5 K7;intro a H;refine bB kE (cs:=[_,_,_,_,_,_]) H wn rfl rfl (fun j v hj=>H.hp.aI (hrow j v hj)) rfl ?_;clear H;intro a H;refine kD H wn rfl rfl (hf _ (kN hk2) _ _ _ hgm H.ro hrep) rfl ?_;clear H;rintro v16 nL a w rfl lH H;refine K8 _ _ ?_;clear K8;refine jC H rfl ?_ ?_
  ·intro h16
   try have p16:=dT h16
   refine kP H (SR fun _ K9=>Rm rfl (ak K9 rfl ?_));clear H K9;intro a H;refine lr H results243 rfl ?_
   first
    | exact H.rt (by rw [sN hk2 hno h16];rfl)
    | exact H.rt (by rw [show l.take k=l from iX (by omega)] at hno;rw [hno];rfl)
  intro h16
  try have p16:=dF h16
  refine kP H (Kc K6 (SC (Rd rfl (Rm rfl ?_))));clear H K6;intro a H;refine aD ?_;refine dM ((k+1,nL)) (by exact (H).sub ⟨rfl,rfl,rfl,rfl,aC⟩) ?_
  (try dsimp only);exact ⟨by omega,Cj hk2 hno h16,fun b o h=>lH b o (hgm b o h)⟩
 intro h9 a H
 try have p9:=dF h9
 refine eu ?_;refine K2 _ _ ?_;clear K2;refine kP H (SR fun _ aW=>ak aW rfl ?_);clear H aW;intro a H;refine lr H results243 rfl ?_
 first
  | exact H.rt (by rw [sN hk2 hno h16];rfl)
  | exact H.rt (by rw [show l.take k=l from iX (by omega)] at hno;rw [hno];rfl)
def MC (p q:ByteArray):Bool:=p.toList == q.toList
theorem akc {G:GH} {bk bn:Nat} {kind:Int} {name:ByteArray} (hk:aI G bk 0=some (vi kind)) (hn:aI G bn 0=some (.string name)) (x:cu):qV (.func (.func 244) #[] #[(aK bk 0),(aK bn 0)]) G x.dat (decide (x.kind=kind) && MC x.name name):=by
 intro G1 w0 cs hm hG hr;refine jI (caps:=[(aK bk 0),(aK bn 0)]) aiF ?_;obtain ⟨pA,pc,rfl,-⟩:=Qj hr;replace hk:=aJ hm hk;replace hn:=aJ hm hn;refine eN [(0,_),(1,_),(2,_)] func244 rfl ntmps244 rfl rfl hG ?_;intro a H;refine bZ (fun _ K1=>?_);refine dZ (cs:=[_,_,_,_,_,_]) H wn rfl rfl rfl ?_;clear H;intro b3 a w hb3 H;refine kH H (ak K1 rfl (SR fun _ K2=>bG zx aH 0 rfl rfl (Rg aH rfl (by assumption) ?_)));clear H K1;intro a H;refine kH H (Rc rfl (Rm rfl (Sp 9 rfl ?_ ?_))) <;> clear H
 ·intro h9 a H
  try have p9:=dT h9
  refine kH H (YF I7 h9 rfl (YO iM 0 h9 rfl (YR iM h9 rfl (by assumption) ?_)));clear H;intro a H;refine E9 H (wg H rfl rfl h9) rfl rfl rfl ?_;clear H;intro a H;exact kH H (Pt h9 rfl (ak K2 rfl (LR results244 rfl fun H=>H.rt (by unfold MC;simp_all))))
 intro h9 a H
 try have p9:=dF h9
 exact kH H (aP h9 rfl (aP h9 rfl (Pf h9 rfl (ak K2 rfl (LR results244 rfl fun H=>H.rt (by unfold MC;simp_all))))))
theorem akb {G:GH} {bi:Nat} {id:Int} (hb:aI G bi 0=some (vi id)) (x:cu):qV (.func (.func 245) #[] #[(aK bi 0)]) G x.dat (decide (x.id=id)):=by
 intro G1 w0 cs hm hG hr;refine jI (caps:=[(aK bi 0)]) aiG ?_;obtain ⟨pA,pc,rfl,-⟩:=Qj hr;replace hb:=aJ hm hb;refine eN [(0,_),(1,_)] func245 rfl ntmps245 rfl rfl hG ?_;intro a H;refine bZ (fun _ K1=>?_);refine dZ (cs:=[_,_,_,_,_,_]) H wn rfl rfl rfl ?_;clear H;intro b2 a w hb2 H;refine kH H (ak K1 rfl (SR fun _ K2=>bG xu aH 0 rfl rfl (Rg aH rfl (by assumption) ?_)));clear H K1;intro a H;exact kH H (Rc rfl (ak K2 rfl (LR results245 rfl fun H=>H.rt rfl)))
def Ey (l:List cu) (kind:Int) (name:ByteArray):Option Nat:=l.findIdx? fun x=>decide (x.kind=kind) && MC x.name name
def Ot (l:List cu) (id:Int):Option Nat:=l.findIdx? fun x=>decide (x.id=id)
theorem abz (o:Option Nat):decide (0≤nE o)=o.isSome:=by cases o <;> simp [nE]
theorem akd (G:GH) (w0:World) (hG:Hold G w0) (l:List cu) (kind:Int) (name:ByteArray) (v:aj) (hv:av G (.sl 6 (l.map cu.dat)) v) :
  Calls prog 219 #[v,vi kind,.string name] w0 (bH w0 G fun u G'=>u=.tuple #[vi (max (nE (Ey l kind name)) 0),.bool (Ey l kind name).isSome]):=by
 obtain ⟨A,c,rfl,hc1,hc2,-⟩:=hv.slice;rw [aZ] at *;refine eN [(0,_),(1,_),(2,_)] func219 rfl ntmps219 rfl rfl hG ?_;intro a H;refine bZ (fun _ K1=>?_);refine dZ (cs:=[_]) H wn rfl rfl rfl ?_;clear H;intro b4 a w hb4 H;refine dZ (cs:=[_]) H wn rfl rfl rfl ?_;clear H;intro b5 a w hb5 H;refine kH H (Ra rfl (ak K1 rfl (SQ fun _ K2=>?_)));clear H K1;intro a H;obtain ⟨Ga,hma,BZ,H⟩:=H.eH;obtain ⟨Gb,hmb,Av,H⟩:=H.eH
 have q4:aI Gb b4 0=some (vi kind):=by unfold aI;rw [Av];rfl
 have q5:aI Gb b5 0=some (.string name):=by unfold aI;rw [hmb _ _ BZ];rfl
 refine kP H (SC (Rm rfl ?_));clear H;intro a H;refine oQ H wn rfl rfl ?_;clear H;intro a H;refine s_call Ze H wn rfl (abt _ _ H.ro l (fun x=>decide (x.kind=kind) && MC x.name name) _ _ ((hv.mono hma).mono hmb) (fun x _=>akc q4 q5 x)) rfl ?_;clear H;rintro v11 tO a w rfl Dp H;refine kH H (bC K2 rfl (SR fun _ K3=>Rm rfl ?_));clear H K2;intro a H;refine Qa H wn rfl rfl rfl ?_;clear H;intro a H;refine kH H (Rm rfl (Rc rfl (Ra rfl (ak K3 rfl ?_))));clear H K3;intro a H;refine bS ?_;refine (eZ H results219 (.cons (aV H rfl) (.cons (aV H rfl) .nil)) ?_).1;exact H.rt (by rw [← abz];rfl)
theorem akf (G:GH) (w0:World) (hG:Hold G w0) (l:List cu) (id:Int) (v:aj) (hv:av G (.sl 6 (l.map cu.dat)) v) :
  Calls prog 221 #[v,vi id] w0 (bH w0 G fun u G'=>u=.tuple #[vi (max (nE (Ot l id)) 0),.bool (Ot l id).isSome]):=by
 obtain ⟨A,c,rfl,hc1,hc2,-⟩:=hv.slice;rw [aZ] at *;refine eN [(0,_),(1,_)] func221 rfl ntmps221 rfl rfl hG ?_;intro a H;refine bZ (fun _ K1=>?_);refine dZ (cs:=[_]) H wn rfl rfl rfl ?_;clear H;intro b3 a w hb3 H;refine kH H (Ra rfl (ak K1 rfl (SQ fun _ K2=>?_)));clear H K1;intro a H;obtain ⟨Ga,hma,Au,H⟩:=H.eH
 have q3:aI Ga b3 0=some (vi id):=by unfold aI;rw [Au];rfl
 refine kP H (SC (Rm rfl ?_));clear H;intro a H;refine oQ H wn rfl rfl ?_;clear H;intro a H;refine s_call Ze H wn rfl (abt _ _ H.ro l (fun x=>decide (x.id=id)) _ _ (hv.mono hma) (fun x _=>akb q3 x)) rfl ?_;clear H;rintro v9 G9 a w rfl yM H;refine kH H (bC K2 rfl (SR fun _ K3=>Rm rfl ?_));clear H K2;intro a H;refine Qa H wn rfl rfl rfl ?_;clear H;intro a H;refine kH H (Rm rfl (Rc rfl (Ra rfl (ak K3 rfl ?_))));clear H K3;intro a H;refine bS ?_;refine (eZ H results221 (.cons (aV H rfl) (.cons (aV H rfl) .nil)) ?_).1;exact H.rt (by rw [← abz];rfl)
def He (l:List cu) (kind id:Int):Bool:=match Ot l id with|some i=>decide ((l[i]?.map cu.kind)=some kind)|none=>false
theorem Vf (G:GH) (w0:World) (hG:Hold G w0) (l:List cu) (kind id:Int) (v:aj) (hv:av G (.sl 6 (l.map cu.dat)) v) :
  Calls prog 181 #[v,vi kind,vi id] w0 (bH w0 G fun u G'=>u=.bool (He l kind id)):=by
 obtain ⟨A,c,rfl,hc1,hc2,-⟩:=hv.slice;rw [aZ] at *;refine eN [(0,_),(1,_),(2,_)] func181 rfl ntmps181 rfl rfl hG ?_;intro a H;refine kP H (SR fun _ K1=>ak K1 rfl (SR fun _ K2=>Rm rfl (Rm rfl ?_)));clear H K1;intro a H;refine s_call aix H wn rfl (akf _ _ H.ro l id _ hv) rfl ?_;clear H;rintro v12 D9 a w rfl Dq H;obtain ⟨o,ho⟩:∃ o,o=Ot l id:=⟨_,rfl⟩;rw [← ho] at H;refine kH H (Rm rfl ?_);clear H;intro a H;(iterate 2 refine lS H wn rfl rfl rfl ?_;clear H;intro a H);refine kH H (Ra rfl (ak K2 rfl (SR fun _ K3=>Rm rfl (Rm rfl (Sp 16 rfl ?_ ?_))))) <;> clear H K2
 ·intro h16 a H
  try have p16:=dT h16
  obtain ⟨i,rfl⟩:=Option.isSome_iff_exists.1 h16
  have hil:i < l.length:=by
   obtain ⟨hi,-⟩:=List.findIdx?_eq_some_iff_getElem.1 ho.symm;exact hi
  rw [show max (nE (some i)) 0=(i:Int) by simp [nE]] at H;obtain ⟨b,o',pA,pc,rfl,hrow,hp,hrep⟩:=DU (hv.mono Dq) hil;have r1:aI D9 b (o'+i*6+1)=some (vi l[i].kind):=hrow 1 _ rfl;refine kH H (YM h16 rfl (YM h16 rfl (YI mg kE h16 rfl rfl (YF zx h16 rfl (YR aH h16 rfl (by assumption) ?_)))));clear H;intro a H;refine kH H (YM h16 rfl (YC h16 rfl (Pt h16 rfl (ak K3 rfl ?_))));clear H K3;intro a H;refine lr H results181 rfl ?_
  first
   | exact H.rt (dO (by rw [He,← ho];dsimp only;rw [eD hil];simp))
   | exact H.rt (dO (by rw [He,← ho];cases o <;> simp_all))
 intro h16 a H
 try have p16:=dF h16
 refine kH H (bD h16 rfl (aP h16 rfl (aP h16 rfl (Pf h16 rfl (ak K3 rfl ?_)))));clear H K3;intro a H;refine lr H results181 rfl ?_
 first
  | exact H.rt (dO (by rw [He,← ho];dsimp only;rw [eD hil];simp))
  | exact H.rt (dO (by rw [He,← ho];cases o <;> simp_all))
theorem Oe:∀ args w,(callFunc 218 args).run prog w=.ok (.enter 218 args) w:=enters func218 rfl (by kernel_rfl)
theorem aiu:∀ args w,(callFunc 219 args).run prog w=.ok (.enter 219 args) w:=enters func219 rfl (by kernel_rfl)
theorem Oo:dN prog 192 5 5:=⟨by kernel_rfl⟩
theorem aiw:∀ args w,(callFunc 220 args).run prog w=.ok (.enter 220 args) w:=enters func220 rfl (by kernel_rfl)
theorem Y3:∀ args w,(callFunc 129 args).run prog w=.ok (.enter 129 args) w:=enters func129 rfl (by kernel_rfl)
theorem av.pre {G:GH} {sz:Nat} {rows:List (List Dat)} {A:Option Addr} {n c:Nat} (h:av G (.sl sz rows) (.slice A n c)) (k:Nat) (hk:k≤rows.length):av G (.sl sz (rows.take k)) (.slice A k c):=by
 have h:=h.part 0 k (gY _) hk
 have e:(if c=0 then A else A.map (·.add (0*sz)))=A:=by
  split
  ·rfl
  cases A <;> simp [Addr.add]
 rw [e] at h
 simpa using h
theorem aha (G:GH) (w0:World) (hG:Hold G w0) (kind:Int):Calls prog 220 #[vi kind] w0 (bH w0 G fun u G'=>u=vi (if kind=1 then 2 else 1)):=by
 refine eN [(0,_)] func220 rfl ntmps220 rfl rfl hG ?_;intro a H;refine kP H (SR fun _ K1=>ak K1 rfl (SQ fun _ K2=>SR fun _ K3=>Rm rfl (Rc rfl (Kz K3 (Cd rfl ?_ ?_))))) <;> clear H K1 K3
 ·intro h4 a H
  try have p4:=dT h4
  exact kP H (SR fun _ K4=>ak K4 rfl (LR results220 rfl fun H=>H.rt (by first|(rw [au (by omega)];done)|rw [ah (by omega)])))
 intro h4 a H
 try have p4:=dF h4
 exact kP H (Kc K2 (SR fun _ K5=>ak K5 rfl (LR results220 rfl fun H=>H.rt (by first|(rw [au (by omega)];done)|rw [ah (by omega)]))))
def zL (l:List cu) (k:Nat):Option Int:=if k=0 then none else l[k - 1]?.map cu.id
theorem PN {l:List cu} {k:Nat} (h:k=0):zL l k=none:=au h
def IK (k:Int):Bool:=decide (k=20) || decide (k=1)
def mW (q:Option Int) (dup:Bool) (s:cu):Int :=
 if s.id < 1∨1073741824 < s.id then 18 else if q=some s.id then 7 else if EU q s.id=true then 6 else if s.kind≠1∧s.kind≠2 then 3 else if oO s.name=false then 13 else if dup=true then 7
 else if s.props.any (fun p=>IK p.key)=true then 4 else iw (if s.kind=1 then 2 else 1) s.props
def jl (l:List cu) (k:Nat) (s:cu):Int:=mW (zL l k) (Ey (l.take k) s.kind s.name).isSome s
set_option maxHeartbeats 1000000 in
theorem aoK (G:GH) (w0:World) (hG:Hold G w0) (l:List cu) (k:Nat) (v:aj) (hv:av G (.sl 6 (l.map cu.dat)) v) (hk:k < l.length) (hs:l[k].name.size≤4611686018427387904) :
  Calls prog 180 #[v,vi k] w0 (bH w0 G fun u G'=>u=vi (jl l k l[k])):=by
 obtain ⟨A,c,rfl,hc1,hc2,-⟩:=hv.slice;have hml:maxLen=9223372036854775807:=rfl;rw [aZ] at *;obtain ⟨b,o,pA,pc,rfl,hrow,hp,hrep⟩:=DU hv hk;obtain ⟨x,hx⟩:∃ x,x=l[k]:=⟨_,rfl⟩;rw [← hx] at hs hrow hp hrep ⊢;have hdp:∀ j v,[vi x.id,vi x.kind,.string x.name,vi x.base,vi x.next,.slice pA x.props.length pc][j]?=some v→aI G b (o+k*6+j)=some v:=hrow;obtain ⟨_,_,he0,aup,auq,-⟩:=hp.slice
 injection he0 with _ he1 he2
 rw [aZ] at *;subst he2
 obtain ⟨pk,hpk⟩:∃ pk,0 < k→aI G b (o+(k - 1)*6+0)=some (vi pk)∧zL l k=some pk:=by
  by_cases h0:0 < k
  ·obtain ⟨b',o',_,_,he,hr',-,-⟩:=DU hv (show k - 1 < l.length by omega)
   injection he with he
   injection he with e1 e2 e3
   subst e1;subst e2;exact ⟨_,fun _=>⟨hr' 0 _ rfl,by rw [zL,ah (by omega),eD (by omega)];rfl⟩⟩
  exact ⟨0,fun h=>absurd h h0⟩
 refine eN [(0,_),(1,_)] func180 rfl ntmps180 rfl rfl hG ?_;intro a H;refine kP H (SR fun _ K1=>ak K1 rfl (SR fun _ K2=>Rm rfl (Rm rfl (Ri mg kE rfl rfl ?_))));clear H K1;intro a H;refine bB kE (cs:=[_,_,_,_,_,_]) H wn rfl rfl (fun j v hj=>H.hp.aI (hrow j v hj)) rfl ?_;clear H;intro a H;refine dB kE H wn rfl ?_;clear H;intro b5 a w hb5 H;refine aY kE 0 (vs:=[_,_,_,_,_,_]) _ H wn rfl rfl rfl rfl rfl rfl rfl rfl ?_;clear H;intro w H;dsimp only [List.set,setRow] at H;refine K2 _ _ ?_;clear K2;refine tZ (ι:=GH) (Tc:=[(0,_),(1,_),(5,_)]) (Lc:=[(_,_)]) (fun gh=>[]) (fun gh=>[]) (fun gh=>gh) (fun gh=>¬ (x.id < 1∨1073741824 < x.id)∧¬ zL l k=some x.id∧¬ EU (zL l k) x.id=true∧¬ (x.kind≠1∧x.kind≠2)∧¬ oO x.name=false∧(∀ b o,G b=some o→gh b=some o)) (by exact (H).sub ⟨rfl,rfl,rfl,aC⟩) ?_ ?_
 ·skip;refine kP H (SB (SR fun _ K3=>bG xu aH 0 rfl rfl (Rc rfl (Rm rfl (Sp 18 rfl ?_ ?_))))) <;> clear H
  ·intro h18 a H
   try have tL:=dT h18
   refine kH H (bD h18 rfl (Pt h18 rfl (ak K3 rfl (Ct rfl rfl (SR fun _ K4=>ak K4 rfl ?_)))));clear H K3 K4;intro a H;refine lr H results180 rfl ?_
   first
    | exact H.rt (aB vi e0.symm)
    | exact H.rt (aB vi e4.symm)
    | exact H.rt (aB vi e7.symm)
    | exact H.rt (aB vi e13.symm)
    | exact H.rt (aB vi e3.symm)
    | exact H.rt (aB vi e6.symm)
    | exact H.rt (aB vi (by rw [jl,mW,au (by omega)]))
  intro h18 a H
  try have tL:=dF h18
  refine kH H (YF xu h18 rfl (YO aH 0 h18 rfl (YC h18 rfl (Pf h18 rfl (ak K3 rfl (Cd rfl ?_ ?_)))))) <;> clear H K3
  ·intro jD a H
   try have xL:=dT jD
   refine kP H (SR fun _ K5=>ak K5 rfl ?_);clear H K5;intro a H;refine lr H results180 rfl ?_
   first
    | exact H.rt (aB vi e0.symm)
    | exact H.rt (aB vi e4.symm)
    | exact H.rt (aB vi e7.symm)
    | exact H.rt (aB vi e13.symm)
    | exact H.rt (aB vi e3.symm)
    | exact H.rt (aB vi e6.symm)
    | exact H.rt (aB vi (by rw [jl,mW,au (by omega)]))
  intro jD a H
  try have xL:=dF jD
  refine bN (fun _ K6=>?_)
  by_cases c0:0 < (k:Int)
  ·skip
   by_cases c1:x.id=pk
   ·skip;refine dI hmx [[],[0],[0,1],[0,1,2],(ra 0 4),[0,1,2],[0,1,2],[0,1,2,6],[0,1,2,5,6,7],[0,1,2,5,6,7,8],[0,1,2,5,6,7,8,9],(ra 0 11),(ra 0 12),(ra 0 13)] [13] (by kernel_rfl) [_,_,_,_,vi x.id,_,_,vi ((k - 1:Nat):Int),_,_,_,_,_] H (aF (Z0 rfl (Rm rfl)) (Z1 0 24 rfl (Rc rfl)) (Z1 1 25 rfl (Rm rfl)) (Z1 2 26 rfl (YF xu (aG c0) rfl)) (aF (Z2 3 27 2 26 rfl (YO aH 0 (aG c0) rfl)) (Z1 2 26 rfl (YM (aG c0) rfl)) (Z1 2 26 rfl (YM (aG c0) rfl)) ?_ (aF (Z3 5 29 7 31 2 26 rfl (YI mg kE (aG c0) rfl rfl)) (Z2 8 32 2 26 rfl (YF xu (aG c0) rfl)) (X2 9 33 2 26 rfl fun hG=>YR aH (aG c0) rfl (aJ hG (hpk (by omega)).1)) (Z3 4 28 10 34 2 26 rfl (YC (aG c0) rfl)) (bM (Z2 2 26 11 35 rfl (Pt (aG c0) rfl)) (bM (bQ rfl) dz))))) ?_
    ·refine dK 6 30 2 26 rfl rfl fun _ a w G1 hG HT H fin=>?_;refine nW _ H (wg H rfl rfl (aG c0)) rfl rfl rfl (by omega) (by omega) rfl ?_;clear H;intro a H;exact fin H iJ (by show _=_;first|rfl|exact aB vi (by omega))
    clear H;intro a w G Dj H hv;have H:=H.aM (hv 12 36 rfl rfl) rfl;clear hv;refine kH H (Ra rfl ?_);clear H;intro a H;refine aD ⟨rfl,?_⟩;refine K6 _ _ ?_;clear K6;refine BN H rfl (aG c1) ?_;refine bN (fun _ K7=>?_)
    have e7:jl l k x=7:=by rw [jl,mW,ah (by omega),au (by rw [(hpk (by omega)).2,c1])]
    refine kP H (SC (bC K7 rfl ?_));clear H K7;intro a H;refine lr H results180 rfl ?_
    first
     | exact H.rt (aB vi e0.symm)
     | exact H.rt (aB vi e4.symm)
     | exact H.rt (aB vi e7.symm)
     | exact H.rt (aB vi e13.symm)
     | exact H.rt (aB vi e3.symm)
     | exact H.rt (aB vi e6.symm)
     | exact H.rt (aB vi (by rw [jl,mW,au (by omega)]))
   skip;refine dI hmx [[],[0],[0,1],[0,1,2],(ra 0 4),[0,1,2],[0,1,2],[0,1,2,6],[0,1,2,5,6,7],[0,1,2,5,6,7,8],[0,1,2,5,6,7,8,9],(ra 0 11),(ra 0 12),(ra 0 13)] [13] (by kernel_rfl) [_,_,_,_,vi x.id,_,_,vi ((k - 1:Nat):Int),_,_,_,_,_] H (aF (Z0 rfl (Rm rfl)) (Z1 0 24 rfl (Rc rfl)) (Z1 1 25 rfl (Rm rfl)) (Z1 2 26 rfl (YF xu (aG c0) rfl)) (aF (Z2 3 27 2 26 rfl (YO aH 0 (aG c0) rfl)) (Z1 2 26 rfl (YM (aG c0) rfl)) (Z1 2 26 rfl (YM (aG c0) rfl)) ?_ (aF (Z3 5 29 7 31 2 26 rfl (YI mg kE (aG c0) rfl rfl)) (Z2 8 32 2 26 rfl (YF xu (aG c0) rfl)) (X2 9 33 2 26 rfl fun hG=>YR aH (aG c0) rfl (aJ hG (hpk (by omega)).1)) (Z3 4 28 10 34 2 26 rfl (YC (aG c0) rfl)) (bM (Z2 2 26 11 35 rfl (Pt (aG c0) rfl)) (bM (bQ rfl) dz))))) ?_
   ·refine dK 6 30 2 26 rfl rfl fun _ a w G1 hG HT H fin=>?_;refine nW _ H (wg H rfl rfl (aG c0)) rfl rfl rfl (by omega) (by omega) rfl ?_;clear H;intro a H;exact fin H iJ (by show _=_;first|rfl|exact aB vi (by omega))
   clear H;intro a w G Dj H hv;have H:=H.aM (hv 12 36 rfl rfl) rfl;clear hv;refine kH H (Ra rfl ?_);clear H;intro a H;refine aD ⟨rfl,?_⟩;refine K6 _ _ ?_;clear K6;refine rY H rfl (aU c1) ?_;refine bN (fun _ K8=>?_)
   have q1:¬ (0 < (k:Int)∧x.id=pk):=by first|exact fun h=>c1 h.2|exact fun h=>c0 h.1
   have q1':¬ zL l k=some x.id:=fun h=>q1 (by
    by_cases h0:0 < k
    ·rw [(hpk h0).2] at h
     injection h with h
     exact ⟨by omega,h.symm⟩
    rw [PN (by omega)] at h
    cases h)
   by_cases c3:x.id < pk
   ·skip;refine dI hmx [[],[0],[0,1],[0,1,2],(ra 0 4),[0,1,2],[0,1,2],[0,1,2,6],[0,1,2,5,6,7],[0,1,2,5,6,7,8],[0,1,2,5,6,7,8,9],(ra 0 11),(ra 0 12),(ra 0 13)] [13] (by kernel_rfl) [_,_,_,_,vi x.id,_,_,vi ((k - 1:Nat):Int),_,_,_,_,_] H (aF (Z0 rfl (Rm rfl)) (Z1 0 38 rfl (Rc rfl)) (Z1 1 39 rfl (Rm rfl)) (Z1 2 40 rfl (YF xu (aG c0) rfl)) (aF (Z2 3 41 2 40 rfl (YO aH 0 (aG c0) rfl)) (Z1 2 40 rfl (YM (aG c0) rfl)) (Z1 2 40 rfl (YM (aG c0) rfl)) ?_ (aF (Z3 5 43 7 45 2 40 rfl (YI mg kE (aG c0) rfl rfl)) (Z2 8 46 2 40 rfl (YF xu (aG c0) rfl)) (X2 9 47 2 40 rfl fun hG=>YR aH (aG c0) rfl (aJ hG (aJ Dj (hpk (by omega)).1))) (Z3 4 42 10 48 2 40 rfl (YC (aG c0) rfl)) (bM (Z2 2 40 11 49 rfl (Pt (aG c0) rfl)) (bM (bQ rfl) dz))))) ?_
    ·refine dK 6 44 2 40 rfl rfl fun _ a w G1 hG HT H fin=>?_;refine nW _ H (wg H rfl rfl (aG c0)) rfl rfl rfl (by omega) (by omega) rfl ?_;clear H;intro a H;exact fin H iJ (by show _=_;first|rfl|exact aB vi (by omega))
    clear H;intro a w G iU H hv;have H:=H.aM (hv 12 50 rfl rfl) rfl;clear hv;refine kH H (Ra rfl ?_);clear H;intro a H;refine aD ⟨rfl,?_⟩;refine K8 _ _ ?_;clear K8;refine BN H rfl (aG c3) ?_;refine bN (fun _ K9=>?_)
    have e6:jl l k x=6:=by rw [jl,mW,ah (by omega),ah q1',au (by rw [(hpk (by omega)).2];exact aG c3)]
    refine kP H (SC (bC K9 rfl ?_));clear H K9;intro a H;refine lr H results180 rfl ?_
    first
     | exact H.rt (aB vi e0.symm)
     | exact H.rt (aB vi e4.symm)
     | exact H.rt (aB vi e7.symm)
     | exact H.rt (aB vi e13.symm)
     | exact H.rt (aB vi e3.symm)
     | exact H.rt (aB vi e6.symm)
     | exact H.rt (aB vi (by rw [jl,mW,au (by omega)]))
   skip;refine dI hmx [[],[0],[0,1],[0,1,2],(ra 0 4),[0,1,2],[0,1,2],[0,1,2,6],[0,1,2,5,6,7],[0,1,2,5,6,7,8],[0,1,2,5,6,7,8,9],(ra 0 11),(ra 0 12),(ra 0 13)] [13] (by kernel_rfl) [_,_,_,_,vi x.id,_,_,vi ((k - 1:Nat):Int),_,_,_,_,_] H (aF (Z0 rfl (Rm rfl)) (Z1 0 38 rfl (Rc rfl)) (Z1 1 39 rfl (Rm rfl)) (Z1 2 40 rfl (YF xu (aG c0) rfl)) (aF (Z2 3 41 2 40 rfl (YO aH 0 (aG c0) rfl)) (Z1 2 40 rfl (YM (aG c0) rfl)) (Z1 2 40 rfl (YM (aG c0) rfl)) ?_ (aF (Z3 5 43 7 45 2 40 rfl (YI mg kE (aG c0) rfl rfl)) (Z2 8 46 2 40 rfl (YF xu (aG c0) rfl)) (X2 9 47 2 40 rfl fun hG=>YR aH (aG c0) rfl (aJ hG (aJ Dj (hpk (by omega)).1))) (Z3 4 42 10 48 2 40 rfl (YC (aG c0) rfl)) (bM (Z2 2 40 11 49 rfl (Pt (aG c0) rfl)) (bM (bQ rfl) dz))))) ?_
   ·refine dK 6 44 2 40 rfl rfl fun _ a w G1 hG HT H fin=>?_;refine nW _ H (wg H rfl rfl (aG c0)) rfl rfl rfl (by omega) (by omega) rfl ?_;clear H;intro a H;exact fin H iJ (by show _=_;first|rfl|exact aB vi (by omega))
   clear H;intro a w G iU H hv;have H:=H.aM (hv 12 50 rfl rfl) rfl;clear hv;refine kH H (Ra rfl ?_);clear H;intro a H;refine aD ⟨rfl,?_⟩;refine K8 _ _ ?_;clear K8;refine rY H rfl (aU c3) ?_;refine bN (fun _ aW=>?_)
   have q2:¬ (0 < (k:Int)∧x.id < pk):=by first|exact fun h=>c3 h.2|exact fun h=>c0 h.1
   have q2':¬ EU (zL l k) x.id=true:=fun h=>q2 (by
    by_cases h0:0 < k
    ·rw [(hpk h0).2] at h;exact ⟨by omega,mM h⟩
    rw [PN (by omega)] at h
    cases h)
   refine kP H (SC (bG zx aH 0 rfl rfl (Rc rfl (Rm rfl (Sp 55 rfl ?_ ?_))))) <;> clear H
   ·intro pJ a H
    try have p55:=dT pJ
    refine kH H (YF zx pJ rfl (YO aH 0 pJ rfl (YC pJ rfl (Pt pJ rfl (bC aW rfl (Cd rfl ?_ ?_)))))) <;> clear H aW
    ·intro kZ a H
     try have p51:=dT kZ
     refine bN (fun _ bO=>?_)
     have e3:jl l k x=3:=by rw [jl,mW,ah (by omega),ah q1',ah q2',au (by omega)]
     refine kP H (SC (bC bO rfl ?_));clear H bO;intro a H;refine lr H results180 rfl ?_
     first
      | exact H.rt (aB vi e0.symm)
      | exact H.rt (aB vi e4.symm)
      | exact H.rt (aB vi e7.symm)
      | exact H.rt (aB vi e13.symm)
      | exact H.rt (aB vi e3.symm)
      | exact H.rt (aB vi e6.symm)
      | exact H.rt (aB vi (by rw [jl,mW,au (by omega)]))
    intro kZ a H
    try have p51:=dF kZ
    refine kP H (SR fun _ bW=>bG I7 iM 0 rfl rfl ?_);clear H;intro a H;refine s_call Oe H wn rfl (Ph _ _ H.ro x.name hs) rfl ?_;clear H;rintro v63 Fz a w rfl hm63 H;refine kH H (Rn rfl (ak bW rfl (Cd rfl ?_ ?_))) <;> clear H bW
    ·intro jX a H
     try have p60:=dT jX
     refine bN (fun _ cB=>?_)
     have e13:jl l k x=13:=by rw [jl,mW,ah (by omega),ah q1',ah q2',ah (by omega),au (by simpa using jX)]
     refine kP H (SC (bC cB rfl ?_));clear H cB;intro a H;refine lr H results180 rfl ?_
     first
      | exact H.rt (aB vi e0.symm)
      | exact H.rt (aB vi e4.symm)
      | exact H.rt (aB vi e7.symm)
      | exact H.rt (aB vi e13.symm)
      | exact H.rt (aB vi e3.symm)
      | exact H.rt (aB vi e6.symm)
      | exact H.rt (aB vi (by rw [jl,mW,au (by omega)]))
    intro jX a H
    try have p60:=dF jX
    refine fZ ?_;refine ⟨Fz,by exact (H).sub ⟨rfl,rfl,rfl,aC⟩,?_⟩;exact ⟨by omega,q1',q2',by omega,by simpa using jX,fun b o h=>hm63 b o (iU b o (Dj b o h))⟩
   intro pJ a H
   try have p55:=dF pJ
   refine kH H (bD pJ rfl (Pf pJ rfl (bC aW rfl (Cf rfl rfl (SR fun _ dw=>bG I7 iM 0 rfl rfl ?_)))));clear H aW;intro a H;refine s_call Oe H wn rfl (Ph _ _ H.ro x.name hs) rfl ?_;clear H;rintro v63 Fz a w rfl hm63 H;refine kH H (Rn rfl (ak dw rfl (Cd rfl ?_ ?_))) <;> clear H dw
   ·intro jX a H
    try have p60:=dT jX
    refine bN (fun _ dR=>?_)
    have e13:jl l k x=13:=by rw [jl,mW,ah (by omega),ah q1',ah q2',ah (by omega),au (by simpa using jX)]
    refine kP H (SC (bC dR rfl ?_));clear H dR;intro a H;refine lr H results180 rfl ?_
    first
     | exact H.rt (aB vi e0.symm)
     | exact H.rt (aB vi e4.symm)
     | exact H.rt (aB vi e7.symm)
     | exact H.rt (aB vi e13.symm)
     | exact H.rt (aB vi e3.symm)
     | exact H.rt (aB vi e6.symm)
     | exact H.rt (aB vi (by rw [jl,mW,au (by omega)]))
   intro jX a H
   try have p60:=dF jX
   refine fZ ?_;refine ⟨Fz,by exact (H).sub ⟨rfl,rfl,rfl,aC⟩,?_⟩;exact ⟨by omega,q1',q2',by omega,by simpa using jX,fun b o h=>hm63 b o (iU b o (Dj b o h))⟩
  skip;refine dI hmx [[],[0],[0,1],[0,1,2],(ra 0 4),[0,1,2],[0,1,2],[0,1,2,6],[0,1,2,5,6,7],[0,1,2,5,6,7,8],[0,1,2,5,6,7,8,9],(ra 0 11),(ra 0 12),(ra 0 13)] [13] (by kernel_rfl) [_,_,_,undef,undef,undef,undef,undef,undef,undef,undef,undef,_] H (aF (Z0 rfl (Rm rfl)) (Z1 0 24 rfl (Rc rfl)) (Z1 1 25 rfl (Rm rfl)) (aX 2 (aU c0) rfl rfl) (aF (aX 2 (aU c0) rfl rfl) (aX 2 (aU c0) rfl rfl) (aX 2 (aU c0) rfl rfl) (aX 2 (aU c0) rfl rfl) (aF (aX 2 (aU c0) rfl rfl) (aX 2 (aU c0) rfl rfl) (aX 2 (aU c0) rfl rfl) (aX 2 (aU c0) rfl rfl) (bM (Z2 2 26 11 35 rfl (Pf (aU c0) rfl)) (bM (bQ rfl) dz))))) ?_
  clear H;intro a w G Dj H hv;have H:=H.aM (hv 12 36 rfl rfl) rfl;clear hv;refine kH H (Ra rfl ?_);clear H;intro a H;refine aD ⟨rfl,?_⟩;refine K6 _ _ ?_;clear K6;refine rY H rfl rfl ?_;refine bN (fun _ dW=>?_)
  have q1:¬ (0 < (k:Int)∧x.id=pk):=by first|exact fun h=>c1 h.2|exact fun h=>c0 h.1
  have q1':¬ zL l k=some x.id:=fun h=>q1 (by
   by_cases h0:0 < k
   ·rw [(hpk h0).2] at h
    injection h with h
    exact ⟨by omega,h.symm⟩
   rw [PN (by omega)] at h
   cases h)
  refine dI hmx [[],[0],[0,1],[0,1,2],(ra 0 4),[0,1,2],[0,1,2],[0,1,2,6],[0,1,2,5,6,7],[0,1,2,5,6,7,8],[0,1,2,5,6,7,8,9],(ra 0 11),(ra 0 12),(ra 0 13)] [13] (by kernel_rfl) [_,_,_,undef,undef,undef,undef,undef,undef,undef,undef,undef,_] H (aF (Z0 rfl (Rm rfl)) (Z1 0 38 rfl (Rc rfl)) (Z1 1 39 rfl (Rm rfl)) (aX 2 (aU c0) rfl rfl) (aF (aX 2 (aU c0) rfl rfl) (aX 2 (aU c0) rfl rfl) (aX 2 (aU c0) rfl rfl) (aX 2 (aU c0) rfl rfl) (aF (aX 2 (aU c0) rfl rfl) (aX 2 (aU c0) rfl rfl) (aX 2 (aU c0) rfl rfl) (aX 2 (aU c0) rfl rfl) (bM (Z2 2 40 11 49 rfl (Pf (aU c0) rfl)) (bM (bQ rfl) dz))))) ?_
  clear H;intro a w G iU H hv;have H:=H.aM (hv 12 50 rfl rfl) rfl;clear hv;refine kH H (Ra rfl ?_);clear H;intro a H;refine aD ⟨rfl,?_⟩;refine dW _ _ ?_;clear dW;refine rY H rfl rfl ?_;refine bN (fun _ dU=>?_)
  have q2:¬ (0 < (k:Int)∧x.id < pk):=by first|exact fun h=>c3 h.2|exact fun h=>c0 h.1
  have q2':¬ EU (zL l k) x.id=true:=fun h=>q2 (by
   by_cases h0:0 < k
   ·rw [(hpk h0).2] at h;exact ⟨by omega,mM h⟩
   rw [PN (by omega)] at h
   cases h)
  refine kP H (SC (bG zx aH 0 rfl rfl (Rc rfl (Rm rfl (Sp 55 rfl ?_ ?_))))) <;> clear H
  ·intro pJ a H
   try have p55:=dT pJ
   refine kH H (YF zx pJ rfl (YO aH 0 pJ rfl (YC pJ rfl (Pt pJ rfl (bC dU rfl (Cd rfl ?_ ?_)))))) <;> clear H dU
   ·intro kZ a H
    try have p51:=dT kZ
    refine bN (fun _ eG=>?_)
    have e3:jl l k x=3:=by rw [jl,mW,ah (by omega),ah q1',ah q2',au (by omega)]
    refine kP H (SC (bC eG rfl ?_));clear H eG;intro a H;refine lr H results180 rfl ?_
    first
     | exact H.rt (aB vi e0.symm)
     | exact H.rt (aB vi e4.symm)
     | exact H.rt (aB vi e7.symm)
     | exact H.rt (aB vi e13.symm)
     | exact H.rt (aB vi e3.symm)
     | exact H.rt (aB vi e6.symm)
     | exact H.rt (aB vi (by rw [jl,mW,au (by omega)]))
   intro kZ a H
   try have p51:=dF kZ
   refine kP H (SR fun _ gu=>bG I7 iM 0 rfl rfl ?_);clear H;intro a H;refine s_call Oe H wn rfl (Ph _ _ H.ro x.name hs) rfl ?_;clear H;rintro v63 Fz a w rfl hm63 H;refine kH H (Rn rfl (ak gu rfl (Cd rfl ?_ ?_))) <;> clear H gu
   ·intro jX a H
    try have p60:=dT jX
    refine bN (fun _ fC=>?_)
    have e13:jl l k x=13:=by rw [jl,mW,ah (by omega),ah q1',ah q2',ah (by omega),au (by simpa using jX)]
    refine kP H (SC (bC fC rfl ?_));clear H fC;intro a H;refine lr H results180 rfl ?_
    first
     | exact H.rt (aB vi e0.symm)
     | exact H.rt (aB vi e4.symm)
     | exact H.rt (aB vi e7.symm)
     | exact H.rt (aB vi e13.symm)
     | exact H.rt (aB vi e3.symm)
     | exact H.rt (aB vi e6.symm)
     | exact H.rt (aB vi (by rw [jl,mW,au (by omega)]))
   intro jX a H
   try have p60:=dF jX
   refine fZ ?_;refine ⟨Fz,by exact (H).sub ⟨rfl,rfl,rfl,aC⟩,?_⟩;exact ⟨by omega,q1',q2',by omega,by simpa using jX,fun b o h=>hm63 b o (iU b o (Dj b o h))⟩
  intro pJ a H
  try have p55:=dF pJ
  refine kH H (bD pJ rfl (Pf pJ rfl (bC dU rfl (Cf rfl rfl (SR fun _ gH=>bG I7 iM 0 rfl rfl ?_)))));clear H dU;intro a H;refine s_call Oe H wn rfl (Ph _ _ H.ro x.name hs) rfl ?_;clear H;rintro v63 Fz a w rfl hm63 H;refine kH H (Rn rfl (ak gH rfl (Cd rfl ?_ ?_))) <;> clear H gH
  ·intro jX a H
   try have p60:=dT jX
   refine bN (fun _ iC=>?_)
   have e13:jl l k x=13:=by rw [jl,mW,ah (by omega),ah q1',ah q2',ah (by omega),au (by simpa using jX)]
   refine kP H (SC (bC iC rfl ?_));clear H iC;intro a H;refine lr H results180 rfl ?_
   first
    | exact H.rt (aB vi e0.symm)
    | exact H.rt (aB vi e4.symm)
    | exact H.rt (aB vi e7.symm)
    | exact H.rt (aB vi e13.symm)
    | exact H.rt (aB vi e3.symm)
    | exact H.rt (aB vi e6.symm)
    | exact H.rt (aB vi (by rw [jl,mW,au (by omega)]))
  intro jX a H
  try have p60:=dF jX
  refine fZ ?_;refine ⟨Fz,by exact (H).sub ⟨rfl,rfl,rfl,aC⟩,?_⟩;exact ⟨by omega,q1',q2',by omega,by simpa using jX,fun b o h=>hm63 b o (iU b o (Dj b o h))⟩
 clear H;intro g a w hI H;obtain ⟨q0,q1',q2',q3,q4,hgm⟩:=hI;dsimp only [lca,bq] at H;refine bN (fun _ jT=>?_);refine bN (fun _ jN=>?_);have abd:=(hv.mono hgm).pre k (by rw [aZ];omega);rw [← List.map_take] at abd;have amw:=hp.mono hgm;refine dI hmx [[],[],[0,1],[],[3],[],[5],(ra 0 7),(ra 0 8),(ra 0 9),(ra 0 9),(ra 0 10),(ra 0 12)] [12] (by kernel_rfl) [_,_,.slice (some ⟨b,o,none⟩) k c,_,vi x.kind,_,.string x.name,.tuple #[vi (max (nE (Ey (l.take k) x.kind x.name)) 0),.bool (Ey (l.take k) x.kind x.name).isSome],_,vi (max (nE (Ey (l.take k) x.kind x.name)) 0),.bool (Ey (l.take k) x.kind x.name).isSome,_] H (aF (Z0 rfl (Rm rfl)) (Z0 rfl (Rm rfl)) ?_ (Z0 rfl (Rf zx rfl)) (aF (Z1 3 69 rfl (Ro aH 0 rfl)) (Z0 rfl (Rf I7 rfl)) (Z1 5 71 rfl (Ro iM 0 rfl)) ?_ (aF (Z1 7 73 rfl (Rm rfl)) ?_ ?_ (Z1 9 74 rfl (Ra rfl)) (bM (bQ rfl) dz)))) ?_
 ·refine dK 0 66 1 67 rfl rfl fun _ a w G1 hG HT H fin=>?_;refine Fb mg kE k H wn rfl rfl rfl (by omega) rfl ?_;clear H;intro a H;exact fin H iJ rfl
 ·refine zk 2 68 4 70 6 72 rfl rfl fun _ a w G1 hG HT H fin=>?_;refine s_call aiu H wn rfl (akd _ _ H.ro (l.take k) x.kind x.name _ (abd.mono hG)) rfl ?_;clear H;rintro v73 G73 a w rfl akP H;exact fin H akP (rfl)
 ·refine eP 8 65 rfl rfl fun _ a w G1 hG HT H fin=>?_;refine lS H wn rfl rfl rfl ?_;clear H;intro a H;exact fin H iJ rfl
 ·refine eP 8 65 rfl rfl fun _ a w G1 hG HT H fin=>?_;refine lS H wn rfl rfl rfl ?_;clear H;intro a H;exact fin H iJ rfl
 clear H;intro a w G oN H hv;have H:=H.aM (hv 10 75 rfl rfl) rfl;clear hv;refine kH H (Ra rfl ?_);clear H;intro a H;refine aD ⟨rfl,?_⟩;refine jN _ _ ?_;clear jN;refine kP H (SR fun _ jO=>Rm rfl (Kz jO (Cd rfl ?_ ?_))) <;> clear H jO
 ·intro Db a H
  try have VG:=dT Db
  refine bN (fun _ kU=>?_)
  have e7:jl l k x=7:=by rw [jl,mW,ah (by omega),ah q1',ah q2',ah q3,ah q4,au Db]
  refine kP H (SC (bC kU rfl ?_));clear H kU;intro a H;refine lr H results180 rfl ?_
  first
   | exact H.rt (aB vi e0.symm)
   | exact H.rt (aB vi e4.symm)
   | exact H.rt (aB vi e7.symm)
   | exact H.rt (aB vi e13.symm)
   | exact H.rt (aB vi e3.symm)
   | exact H.rt (aB vi e6.symm)
   | exact H.rt (aB vi (by rw [jl,mW,au (by omega)]))
 intro Db a H
 try have VG:=dF Db
 refine kP H (Kc jT (SQ fun _ lC=>SQ fun _ jP=>?_));clear H jT;intro a H
 have q5:¬ (Ey (l.take k) x.kind x.name).isSome=true:=by simpa using Db
 have EM:=amw.mono oN;refine kP H (SC (bG Oo uO 0 rfl rfl (Rl gG rfl (Rm rfl (Kn jP (SB ?_))))));clear H jP;intro a H;skip;refine fH (ι:=Nat) (Tc:=[(5,_),(78,_),(79,_)]) (Lc:=[(_,_)]) (fun gh=>[(80,vi gh)]) (fun gh=>[]) (fun gh=>G) (fun gh=>gh≤x.props.length∧(x.props.take gh).any (fun p=>IK p.key)=false) (fun gh=>x.props.length - gh) (0) (by exact (H).sub ⟨rfl,rfl,rfl,rfl,aC⟩) ?_ ?_
 ·exact ⟨gY _,rfl⟩
 clear H;intro n a w hI H;obtain ⟨hn,hno⟩:=hI;dsimp only [lca,bq] at H;refine kP H (SR fun _ nM=>Rc rfl (Kz nM (SQ fun _ nZ=>Cd rfl ?_ ?_))) <;> clear H nM
 ·intro Tp a H
  try have p81:=dT Tp
  have hn2:n < x.props.length:=by omega
  obtain ⟨pb,po,rfl,hrow2⟩:=HV EM hn2;have hrow:=hrow2;refine kP H (Kc nZ (SQ fun _ oF=>SB (SR fun _ oZ=>Ri gG gT rfl rfl ?_)));clear H nZ;intro a H;refine bB gT (cs:=[_,_]) H wn rfl rfl (fun j v hj=>H.hp.aI (hrow j v hj)) rfl ?_;clear H;intro a H;refine dB gT H wn rfl ?_;clear H;intro b9 a w zD H;refine aY gT 0 (vs:=[_,_]) _ H wn rfl rfl rfl rfl rfl rfl rfl rfl ?_;clear H;intro w H;dsimp only [List.set,setRow] at H;refine oZ _ _ ?_;clear oZ;refine kP H (SR fun _ oG=>bG xq aH 0 rfl rfl (Rc rfl (Rm rfl (Sp 87 rfl ?_ ?_)))) <;> clear H
  ·intro h87 a H
   try have VI:=dT h87
   refine kH H (bD h87 rfl (Pt h87 rfl (Kz oG (Ct rfl rfl (SQ fun _ pq=>?_)))));clear H oG;intro a H
   have e4:jl l k x=4:=by
    rw [jl,mW,ah (by omega),ah q1',ah q2',ah q3,ah q4,ah q5,au];rw [List.any_eq_true];exact ⟨x.props[n],kN hn2,by simp [IK];omega⟩
   refine kP H (SC (bC pq rfl ?_));clear H pq;intro a H;refine lr H results180 rfl ?_
   first
    | exact H.rt (aB vi e0.symm)
    | exact H.rt (aB vi e4.symm)
    | exact H.rt (aB vi e7.symm)
    | exact H.rt (aB vi e13.symm)
    | exact H.rt (aB vi e3.symm)
    | exact H.rt (aB vi e6.symm)
    | exact H.rt (aB vi (by rw [jl,mW,au (by omega)]))
  intro h87 a H
  try have VI:=dF h87
  refine kH H (YF xq h87 rfl (YO aH 0 h87 rfl (YC h87 rfl (Pf h87 rfl (Kz oG (Cd rfl ?_ ?_)))))) <;> clear H oG
  ·intro Tt a H
   try have p91:=dT Tt
   refine bN (fun _ rU=>?_)
   have e4:jl l k x=4:=by
    rw [jl,mW,ah (by omega),ah q1',ah q2',ah q3,ah q4,ah q5,au];rw [List.any_eq_true];exact ⟨x.props[n],kN hn2,by simp [IK];omega⟩
   refine kP H (SC (bC rU rfl ?_));clear H rU;intro a H;refine lr H results180 rfl ?_
   first
    | exact H.rt (aB vi e0.symm)
    | exact H.rt (aB vi e4.symm)
    | exact H.rt (aB vi e7.symm)
    | exact H.rt (aB vi e13.symm)
    | exact H.rt (aB vi e3.symm)
    | exact H.rt (aB vi e6.symm)
    | exact H.rt (aB vi (by rw [jl,mW,au (by omega)]))
  intro Tt a H
  try have p91:=dF Tt
  refine kP H (Kc oF (SC (Rd rfl (Rm rfl ?_))));clear H oF;intro a H;refine aD ?_;refine dM ((n+1)) (by exact (H.dG (Pl:=[_,_]) (cZ:=[_]) [1] (by decide) rfl).sub ⟨rfl,rfl,rfl,rfl,aC⟩) ?_
  exact ⟨by omega,by rw [iH hn2,List.any_append,hno];simp [IK];omega⟩
 intro Tp a H
 try have p81:=dF Tp
 refine eu ?_;refine lC _ _ ?_;clear lC;refine bN (fun _ rV=>?_)
 have q6:¬ x.props.any (fun p=>IK p.key)=true:=by
  rw [show x.props.take n=x.props from iX (by omega)] at hno;rw [hno];decide
 have e0:jl l k x=iw (if x.kind=1 then 2 else 1) x.props:=by rw [jl,mW,ah (by omega),ah q1',ah q2',ah q3,ah q4,ah q5,ah q6]
 refine dI hmx [[],[0],[0,1],[],[3],(ra 0 5),(ra 0 6)] [5,6] (by kernel_rfl) [_,vi x.kind,vi (if x.kind=1 then 2 else 1),_,.slice pA x.props.length pc] H (aF (Z0 rfl (Rf zx rfl)) (Z1 0 93 rfl (Ro aH 0 rfl)) ?_ (Z0 rfl (Rf Oo rfl)) (bM (Z1 3 96 rfl (Ro uO 0 rfl)) (bM (bQ rfl) (bM (bQ rfl) dz)))) ?_
 ·refine eP 1 94 rfl rfl fun _ a w G1 hG HT H fin=>?_;refine s_call aiw H wn rfl (aha _ _ H.ro x.kind) rfl ?_;clear H;rintro v95 G95 a w rfl akR H;exact fin H akR (rfl)
 clear H;intro a w G Jd H hv;have H:=H.aM (hv 2 95 rfl rfl) rfl;have H:=H.aM (hv 4 97 rfl rfl) rfl;clear hv;refine s_call Y3 H wn rfl (acy _ _ H.ro _ x.props _ (EM.mono Jd)) rfl ?_;clear H;rintro v98 G98 a w rfl aum H;refine kH H (Ra rfl ?_);clear H;intro a H;refine aD ⟨rfl,?_⟩;refine rV _ _ ?_;clear rV;refine lr H results180 rfl ?_
 first
  | exact H.rt (aB vi e0.symm)
  | exact H.rt (aB vi e4.symm)
  | exact H.rt (aB vi e7.symm)
  | exact H.rt (aB vi e13.symm)
  | exact H.rt (aB vi e3.symm)
  | exact H.rt (aB vi e6.symm)
  | exact H.rt (aB vi (by rw [jl,mW,au (by omega)]))
theorem Fh:Ty prog 33 1 24 [.slice none 0 0] false:=⟨by kernel_rfl,by kernel_rfl⟩
theorem zS:prog.underlying 33=some (.slice 107):=by kernel_rfl
theorem Bj:Ty prog 107 6 64 [.int .i64 0,.int .i64 0,.string ⟨#[]⟩,.int .i64 0,.string ⟨#[]⟩,.bool false] true:=⟨by kernel_rfl,by kernel_rfl⟩
theorem Zw:dN prog 107 0 0:=⟨by kernel_rfl⟩
theorem Zx:dN prog 107 1 1:=⟨by kernel_rfl⟩
theorem aiz:∀ args w,(callFunc 224 args).run prog w=.ok (.enter 224 args) w:=enters func224 rfl (by kernel_rfl)
theorem aif:∀ args w,(callFunc 187 args).run prog w=.ok (.enter 187 args) w:=enters func187 rfl (by kernel_rfl)
theorem ajM:dN prog 107 2 2:=⟨by kernel_rfl⟩
theorem Y2:∀ args w,(callFunc 127 args).run prog w=.ok (.enter 127 args) w:=enters func127 rfl (by kernel_rfl)
theorem ajN:dN prog 107 3 3:=⟨by kernel_rfl⟩
theorem ajO:dN prog 107 4 4:=⟨by kernel_rfl⟩
theorem R7:∀ args w,(callFunc 190 args).run prog w=.ok (.enter 190 args) w:=enters func190 rfl (by kernel_rfl)
theorem aij:∀ args w,(callFunc 189 args).run prog w=.ok (.enter 189 args) w:=enters func189 rfl (by kernel_rfl)
theorem aii:∀ args w,(callFunc 188 args).run prog w=.ok (.enter 188 args) w:=enters func188 rfl (by kernel_rfl)
theorem aie:∀ args w,(callFunc 186 args).run prog w=.ok (.enter 186 args) w:=enters func186 rfl (by kernel_rfl)
theorem GZ {G:GH} {b:Nat} (l:List Int) (h:G b=some (.cells (l.map vi).toArray 49 (0,0))) (hl:l.length≤maxLen):av G (.sl 1 (l.map fun k=>[li k])) (.slice (some ⟨b,0,none⟩) l.length l.length) :=
 av.fG h (by simp) (bL _) hl (iX (by simp)) (fU G l)
theorem RG {G:GH} {l:List iT} {A:Option Addr} {n c k:Nat} (hv:av G (.sl 6 (l.map iT.dat)) (.slice A n c)) (hk:k < l.length):∃ b o,A=some ⟨b,o,none⟩∧(∀ j u,l[k].cells[j]?=some u→aI G b (o+k*6+j)=some u)∧aR G l[k].dat l[k].cells:=by
 obtain ⟨A',c',he,_,_,hg⟩:=hv.slice
 injection he with e1 e2 e3
 subst e1;obtain ⟨b,o,cs,h1,h2,h3,h4⟩:=hg k l[k].dat (by simp [hk]);have:=Yq h4;subst this;exact ⟨b,o,h1,h3,h4⟩
theorem agz {G:GH} {bl:Nat} {l:List iT} {A:Option Addr} {n c:Nat} (hb:aI G bl 0=some (.slice A n c)) (hv:av G (.sl 6 (l.map iT.dat)) (.slice A n c)):uS (.func (.func 189) #[] #[(aK bl 0)]) G l.length fun k=>(l[k]?.map iT.id).getD 0:=by
 intro k hk G1 w0 hm hG;refine jI (caps:=[(aK bl 0)]) aij ?_;replace hb:=aJ hm hb
 obtain rfl:n=l.length:=by have:=hv.len;simpa using this
 obtain ⟨b,o,rfl,hrow,-⟩:=RG (hv.mono hm) hk;have hq:=hrow 0 _ rfl;refine eN [(0,_),(1,_)] func189 rfl ntmps189 rfl rfl hG ?_;intro a H;refine kP H (SR fun _ K1=>ak K1 rfl (SR fun _ K2=>Rg Fh rfl (by assumption) ?_));clear H K1;intro a H;refine kH H (Rm rfl (Ri zS Bj rfl rfl (Rf Zw rfl (Rg aH rfl (by assumption) ?_))));clear H;intro a H;exact kH H (ak K2 rfl (LR results189 rfl fun H=>H.rt (by dsimp only;rw [eD hk];rfl)))
theorem agA {G:GH} {bc:Nat} {x:iT} (hb:aI G bc 1=some (vi x.parent)) (y:iT):qV (.func (.func 188) #[] #[(aK bc 0)]) G y.dat (decide (y.id=x.parent)):=by
 intro G1 w0 cs hm hG hr;refine jI (caps:=[(aK bc 0)]) aii ?_;obtain rfl:=Yq hr;replace hb:=aJ hm hb;refine eN [(0,_),(1,_)] func188 rfl ntmps188 rfl rfl hG ?_;intro a H;refine bZ (fun _ K1=>?_);refine dZ (cs:=[_,_,_,_,_,_]) H wn rfl rfl rfl ?_;clear H;intro b2 a w hb2 H;refine kH H (ak K1 rfl (SR fun _ K2=>bG Zw aH 0 rfl rfl (Rf Zx rfl (Rg aH rfl (by assumption) ?_))));clear H K1;intro a H;exact kH H (Rc rfl (ak K2 rfl (LR results188 rfl fun H=>H.rt rfl)))
theorem anm (G:GH) (w0:World) (hG:Hold G w0) (l:List iT) (p:iT→Bool) (v fv:aj) (hv:av G (.sl 6 (l.map iT.dat)) v) (hf:∀ x∈l,qV fv G x.dat (p x)) :
  Calls prog 224 #[v,fv] w0 (bH w0 G fun u G'=>u=vi (nE (l.findIdx? p))):=by
 obtain ⟨A,c,rfl,hc1,hc2,hg⟩:=hv.slice;have hml:maxLen=9223372036854775807:=rfl;rw [aZ] at *;refine eN [(0,_),(1,_)] func224 rfl ntmps224 rfl rfl hG ?_;intro a H;refine kP H (SR fun _ K1=>ak K1 rfl (SQ fun _ K2=>SR fun _ K3=>Rm rfl (Rl zS rfl (Rm rfl (Kz K3 (SB ?_))))));clear H K1 K3;intro a H;skip;refine fH (ι:=Nat × GH) (Tc:=[(0,_),(1,_),(7,_)]) (Lc:=[]) (fun gh=>[(8,vi gh.1)]) (fun gh=>[]) (fun gh=>gh.2) (fun gh=>gh.1≤l.length∧(l.take gh.1).findIdx? p=none∧(∀ b o,G b=some o→gh.2 b=some o)) (fun gh=>l.length - gh.1) ((0,G)) (by exact (H).sub ⟨rfl,rfl,rfl,rfl,aC⟩) ?_ ?_
 ·exact ⟨by omega,rfl,fun _ _ h=>h⟩
 clear H;rintro ⟨k,g⟩ a w hI H;dsimp only at hI H;obtain ⟨hk,hno,hgm⟩:=hI;dsimp only [lca,bq] at H;refine kP H (SR fun _ K4=>Rc rfl (Kz K4 (SQ fun _ K5=>Cd rfl ?_ ?_))) <;> clear H K4
 ·intro h9 a H
  try have p9:=dT h9
  have hk2:k < l.length:=by omega
  obtain ⟨b,o,rfl,hrow,hrep⟩:=RG hv hk2;refine kP H (Kc K5 (SQ fun _ K6=>SB (SR fun _ K7=>Rm rfl (ak K7 rfl (SR fun _ K8=>Rm rfl (Rm rfl (Rm rfl (Ri zS Bj rfl rfl ?_))))))));clear H K5 K7;intro a H;refine bB Bj (cs:=l[k].cells) H wn rfl rfl (fun j v hj=>H.hp.aI (aJ hgm (hrow j v hj))) rfl ?_;clear H;intro a H;refine kD H wn rfl rfl (hf _ (kN hk2) _ _ _ hgm H.ro (hrep.mono hgm)) rfl ?_;clear H;rintro v16 nL a w rfl lH H;refine K8 _ _ ?_;clear K8;refine jC H rfl ?_ ?_
  ·intro h16
   try have p16:=dT h16
   refine kP H (SR fun _ K9=>Rm rfl (ak K9 rfl ?_));clear H K9;intro a H;refine lr H results224 rfl ?_
   first
    | exact H.rt (by rw [sN hk2 hno h16];rfl)
    | exact H.rt (by rw [show l.take k=l from iX (by omega)] at hno;rw [hno];rfl)
  intro h16
  try have p16:=dF h16
  refine kP H (Kc K6 (SC (Rd rfl (Rm rfl ?_))));clear H K6;intro a H;refine aD ?_;refine dM ((k+1,nL)) (by exact (H).sub ⟨rfl,rfl,rfl,rfl,aC⟩) ?_
  (try dsimp only);exact ⟨by omega,Cj hk2 hno h16,fun b o h=>lH b o (hgm b o h)⟩
 intro h9 a H
 try have p9:=dF h9
 refine eu ?_;refine K2 _ _ ?_;clear K2;refine kP H (SR fun _ aW=>ak aW rfl ?_);clear H aW;intro a H;refine lr H results224 rfl ?_
 first
  | exact H.rt (by rw [sN hk2 hno h16];rfl)
  | exact H.rt (by rw [show l.take k=l from iX (by omega)] at hno;rw [hno];rfl)
theorem agC (G:GH) (w0:World) (hG:Hold G w0) (l:List iT) (p:iT→Bool) (v fv:aj) (hv:av G (.sl 6 (l.map iT.dat)) v) (hf:∀ x∈l,qV fv G x.dat (p x)) :
  Calls prog 187 #[v,fv] w0 (bH w0 G fun u G'=>u=.bool (l.findIdx? p).isSome):=by
 obtain ⟨A,c,rfl,hc1,hc2,-⟩:=hv.slice;rw [aZ] at *;refine eN [(0,_),(1,_)] func187 rfl ntmps187 rfl rfl hG ?_;intro a H;refine kP H (SR fun _ K1=>ak K1 rfl (SR fun _ K2=>Rm rfl (Rm rfl ?_)));clear H K1;intro a H;refine s_call aiz H wn rfl (anm _ _ H.ro l p _ _ hv hf) rfl ?_;clear H;rintro v7 G7 a w rfl AB H;exact kH H (Rc rfl (ak K2 rfl (LR results187 rfl fun H=>H.rt (dO (Vg _)))))
def IL (l:List iT) (i:Nat) (x:iT):Bool:=decide (x.parent=0) || ((l.take i).findIdx? fun y=>decide (y.id=x.parent)).isSome
def RF (l:List iT) (i:Nat) (x:iT):Int:=dY [rG (fun k=>(l[k]?.map iT.id).getD 0) i,dx (!IL l i x) 8,dx (!yg x.author) 39,dx (!decide (0≤x.time∧x.time≤1099511627776)) 40,DW x.text]
def IX (l:List iT) (i:Nat):Int:=match l[i]? with|some x=>RF l i x|none=>0
theorem agy {G:GH} {bl:Nat} {l:List iT} {A:Option Addr} {n c:Nat} (hb:aI G bl 0=some (.slice A n c)) (hv:av G (.sl 6 (l.map iT.dat)) (.slice A n c)) (hl:l.length≤4294967296) (ht:∀ x∈l,x.author.size < 4611686018427387904∧x.text.size < 4611686018427387904):uS (.func (.func 186) #[] #[(aK bl 0)]) G l.length (IX l):=by
 intro k hk G1 w0 hm hG;refine jI (caps:=[(aK bl 0)]) aie ?_;replace hb:=aJ hm hb;replace hv:=hv.mono hm;have hcb:=agz hb hv;obtain ⟨_,_,hee,hvc,-,-⟩:=hv.slice
 injection hee with _ _ hcc
 subst hcc;rw [aZ] at hvc
 obtain rfl:n=l.length:=by have:=hv.len;simpa using this
 obtain ⟨b,o,rfl,hrow,hrep⟩:=RG hv hk;have hte:=ht _ (kN hk);obtain ⟨x,hx⟩:∃ x,x=l[k]:=⟨_,rfl⟩;rw [← hx] at hrow hte
 have he:IX l k=RF l k x:=by unfold IX;rw [eD hk,hx]
 refine eN [(0,_),(1,_)] func186 rfl ntmps186 rfl rfl hG ?_;intro a H;refine kP H (SR fun _ K1=>ak K1 rfl (SR fun _ K2=>Rg Fh rfl (by assumption) ?_));clear H K1;intro a H;refine kH H (Rm rfl (Ri zS Bj rfl rfl ?_));clear H;intro a H;refine bB Bj (cs:=x.cells) H wn rfl rfl (fun j v hj=>H.hp.aI (hrow j v hj)) rfl ?_;clear H;intro a H;refine dB Bj H wn rfl ?_;clear H;intro b4 a w hb4 H;refine aY Bj 0 (vs:=[_,_,_,_,_,_]) _ H wn rfl rfl rfl rfl rfl rfl rfl rfl ?_;clear H;intro w H;dsimp only [List.set,setRow] at H;obtain ⟨Ga,hma,Av,H⟩:=H.eH
 have hcell:∀ (j:Nat) (u:aj),x.cells[j]?=some u→aI Ga b4 j=some u:=fun j u hj=>by unfold aI;rw [Av];simpa using hj
 have q1:=hcell 1 _ rfl;have hbA:=aJ hma hb;have O8:=(hv.mono hma).pre k (by rw [aZ];omega);rw [← List.map_take] at O8;refine K2 _ _ ?_;clear K2;refine tZ (ι:=Bool × GH) (Tc:=[(0,_),(1,_),(4,_)]) (Lc:=[]) (fun gh=>[(5,.bool gh.1)]) (fun gh=>[]) (fun gh=>gh.2) (fun gh=>gh.1=IL l k x∧(∀ b o,Ga b=some o→gh.2 b=some o)) (by exact (H).sub ⟨rfl,rfl,rfl,aC⟩) ?_ ?_
 ·skip;refine kP H (SC (Rf Zx rfl (Rg aH rfl (by assumption) ?_)));clear H;intro a H;refine kH H (Rc rfl (Rm rfl (Sp 13 rfl ?_ ?_))) <;> clear H
  ·intro fD a H
   try have qp:=dT fD
   refine kH H (bD fD rfl (aP fD rfl (Pt fD rfl (Ra rfl ?_))));clear H;intro a H;refine aD ?_;refine ⟨(_,_),by exact (H).sub ⟨rfl,rfl,rfl,rfl,aC⟩,?_⟩;(try dsimp only)
   first
   | exact ⟨by unfold IL;rw [jB (by assumption)];rfl,fun _ _ h=>h⟩
   | exact ⟨by unfold IL;rw [kX (by assumption)];rfl,hm18⟩
  intro fD a H
  try have qp:=dF fD
  refine kH H (YR Fh fD rfl (by assumption) ?_);clear H;intro a H;refine kH H (YM fD rfl ?_);clear H;intro a H;refine Fb zS Bj k H (wg H rfl rfl fD) rfl rfl rfl (by omega) rfl ?_;clear H;intro a H;refine oQ H (wg H rfl rfl fD) rfl rfl ?_;clear H;intro a H;refine s_call aif H (wg H rfl rfl fD) rfl (agC _ _ H.ro (l.take k) (fun y=>decide (y.id=x.parent)) _ _ O8 (fun y _=>agA q1 y)) rfl ?_;clear H;rintro v18 QF a w rfl hm18 H;refine kH H (Pf fD rfl (Ra rfl ?_));clear H;intro a H;refine aD ?_;refine ⟨(_,_),by exact (H).sub ⟨rfl,rfl,rfl,rfl,aC⟩,?_⟩;(try dsimp only)
  first
  | exact ⟨by unfold IL;rw [jB (by assumption)];rfl,fun _ _ h=>h⟩
  | exact ⟨by unfold IL;rw [kX (by assumption)];rfl,hm18⟩
 clear H;rintro ⟨bf,g⟩ a w hI H;dsimp only at hI H;obtain ⟨hbf,hgm⟩:=hI;replace hcell:=fun j u hj=>aJ hgm (hcell j u hj);replace hcb:=(hcb.mono hma).mono hgm;dsimp only [lca,bq] at H;refine bN (fun _ K3=>?_);have H:=H.sub (T':=[(0,_),(1,_),(4,_),(5,_)]) ⟨rfl,rfl,rfl,rfl,aC⟩;refine dI hmx [[],[],[0,1],[],[3],(ra 0 5),[],[6],(ra 0 8),(ra 0 9),(ra 0 10),[],[11],(ra 0 13),(ra 0 14),(ra 0 15),[],[16],(ra 0 18),(ra 0 19),(ra 0 20),(ra 0 21)] [19,20,21] (by kernel_rfl) [_,.func (.func 189) #[] #[(aK bl 0)],vi (rG (fun k=>(l[k]?.map iT.id).getD 0) k),_,_,vi (dx (!bf) 8),_,_,.bool (yg x.author),_,vi (dx (!yg x.author) 39),_,_,.bool (decide (0≤x.time∧x.time≤1099511627776)),_,vi (dx (!decide (0≤x.time∧x.time≤1099511627776)) 40),_,_,vi (DW x.text)] H (aF (Z0 rfl (Rm rfl)) ?_ ?_ (Z0 rfl (Rm rfl)) (aF (Z1 3 23 rfl (Rn rfl)) ?_ (Z0 rfl (Rf ajM rfl)) (X1 6 26 rfl fun hG=>Rg iM rfl (aJ hG (hcell 2 _ rfl))) (aF ?_ (Z1 8 28 rfl (Rn rfl)) ?_ (Z0 rfl (Rf ajN rfl)) (aF (X1 11 31 rfl fun hG=>Rg aH rfl (aJ hG (hcell 3 _ rfl))) ?_ (Z1 13 33 rfl (Rn rfl)) ?_ (aF (Z0 rfl (Rf ajO rfl)) (X1 16 36 rfl fun hG=>Rg iM rfl (aJ hG (hcell 4 _ rfl))) ?_ (bQ rfl) (bM (bQ rfl) (bM (bQ rfl) dz))))))) ?_
 ·refine CU rfl fun _ a w G1 hG HT H fin=>?_;refine oQ H wn rfl rfl ?_;clear H;intro a H;exact fin H iJ rfl
 ·refine dK 0 20 1 21 rfl rfl fun _ a w G1 hG HT H fin=>?_;refine s_call RX H wn rfl (Vd _ _ H.ro k _ _ (by omega) (fun i hi=>(hcb.mono hG) i (by omega))) rfl ?_;clear H;rintro v22 G22 a w rfl TA H;exact fin H TA (rfl)
 ·refine eP 4 24 rfl rfl fun _ a w G1 hG HT H fin=>?_;refine s_call jR H wn rfl (jS _ _ H.ro _ 8) rfl ?_;clear H;rintro v25 Nl a w ⟨rfl,-⟩ akG H;exact fin H akG (rfl)
 ·refine eP 7 27 rfl rfl fun _ a w G1 hG HT H fin=>?_;refine s_call Y2 H wn rfl (XY _ _ H.ro x.author hte.1) rfl ?_;clear H;rintro v28 J9 a w ⟨rfl,-⟩ akH H;exact fin H akH (rfl)
 ·refine eP 9 29 rfl rfl fun _ a w G1 hG HT H fin=>?_;refine s_call jR H wn rfl (jS _ _ H.ro _ 39) rfl ?_;clear H;rintro v30 zY a w ⟨rfl,-⟩ TD H;exact fin H TD (rfl)
 ·refine eP 12 32 rfl rfl fun _ a w G1 hG HT H fin=>?_;refine s_call yw H wn rfl (yP _ _ H.ro x.time 0 1099511627776) rfl ?_;clear H;rintro v33 G33 a w ⟨rfl,-⟩ akI H;exact fin H akI (rfl)
 ·refine eP 14 34 rfl rfl fun _ a w G1 hG HT H fin=>?_;refine s_call jR H wn rfl (jS _ _ H.ro _ 40) rfl ?_;clear H;rintro v35 QG a w ⟨rfl,-⟩ TF H;exact fin H TF (rfl)
 ·refine eP 17 37 rfl rfl fun _ a w G1 hG HT H fin=>?_;refine s_call R7 H wn rfl (Ww _ _ H.ro x.text hte.2) rfl ?_;clear H;rintro v38 QI a w rfl akK H;exact fin H akK (rfl)
 clear H;intro a w G vD H hv;have H:=H.aM (hv 2 22 rfl rfl) rfl;have H:=H.aM (hv 5 25 rfl rfl) rfl;have H:=H.aM (hv 10 30 rfl rfl) rfl;have H:=H.aM (hv 15 35 rfl rfl) rfl;have H:=H.aM (hv 18 38 rfl rfl) rfl;clear hv;refine ig qU iy [_,_,_,_,_] [_,_,_,_,_] H wn rfl rfl rfl rfl rfl (by intro i q h;match i,h with|0,h=>exact h|1,h=>exact h|2,h=>exact h|3,h=>exact h|4,h=>exact h|n+5,h=>simp at h) rfl rfl ?_;clear H;intro b39 a w atJ H;obtain ⟨Xg,OT,alk,H⟩:=H.eH;refine s_call sj H wn rfl (sD _ _ H.ro _ _ (GZ [rG (fun k=>(l[k]?.map iT.id).getD 0) k,dx (!bf) 8,dx (!yg x.author) 39,dx (!decide (0≤x.time∧x.time≤1099511627776)) 40,DW x.text] alk (show 5≤maxLen by decide))) rfl ?_;clear H;rintro v40 _ a w ⟨rfl,rfl⟩ - H;refine kH H (Ra rfl ?_);clear H;intro a H;refine aD ⟨rfl,?_⟩;refine K3 _ _ ?_;clear K3;refine lr H results186 rfl ?_;exact H.rt (by rw [he,RF,← hbf])
def NP (l:List iT):Int:=dY [dx (decide (1024 < (l.length:Int))) 9,kQ (IX l) (min l.length 1024)]
theorem afN (G:GH) (w0:World) (hG:Hold G w0) (l:List iT) (v:aj) (hv:av G (.sl 6 (l.map iT.dat)) v) (hl:l.length≤4294967296) (ht:∀ x∈l,x.author.size < 4611686018427387904∧x.text.size < 4611686018427387904) :
  Calls prog 121 #[v] w0 (bH w0 G fun u G'=>u=vi (NP l)):=by
 obtain ⟨A,c,rfl,hc1,hc2,-⟩:=hv.slice;rw [aZ] at *;refine eN [(0,_)] func121 rfl ntmps121 rfl rfl hG ?_;intro a H;refine bZ (fun _ K1=>?_);refine dZ (cs:=[_]) H wn rfl rfl rfl ?_;clear H;intro b1 a w hb1 H;refine kH H (ak K1 rfl (SQ fun _ K2=>?_));clear H K1;intro a H;have H:=H.sub (T':=[(1,_)]) ⟨rfl,aC⟩;obtain ⟨Ga,hma,hb1',H⟩:=H.eH
 have hbl:aI Ga b1 0=some (.slice A l.length c):=by unfold aI;rw [hb1'];rfl
 have hcb:=agy hbl (hv.mono hma) hl ht;refine dI hmx [[],[0],[0,1],[0,1,2],[],[4],[4,5],[],(ra 0 8),(ra 0 9),(ra 0 10),(ra 0 11)] [9,10,11] (by kernel_rfl) [_,_,_,vi (dx (decide (1024 < (l.length:Int))) 9),_,_,vi ((min l.length 1024:Nat):Int),.func (.func 186) #[] #[(aK b1 0)],vi (kQ (IX l) (min l.length 1024))] H (aF (X0 rfl fun hG=>Rg Fh rfl (aJ hG hbl)) (Z1 0 3 rfl (Rl zS rfl)) (Z1 1 4 rfl (Rc rfl)) ?_ (aF (X0 rfl fun hG=>Rg Fh rfl (aJ hG hbl)) (Z1 4 7 rfl (Rl zS rfl)) ?_ ?_ (aF ?_ (bQ rfl) (bQ rfl) (bQ rfl) dz))) ?_
 ·refine eP 2 5 rfl rfl fun _ a w G1 hG HT H fin=>?_;refine s_call jR H wn rfl (jS _ _ H.ro _ 9) rfl ?_;clear H;rintro v6 G6 a w ⟨rfl,-⟩ iU H;exact fin H iU (rfl)
 ·refine eP 5 8 rfl rfl fun _ a w G1 hG HT H fin=>?_;refine Qb H wn rfl rfl rfl ?_;clear H;intro a H;exact fin H iJ (aB vi (by omega))
 ·refine CU rfl fun _ a w G1 hG HT H fin=>?_;refine oQ H wn rfl rfl ?_;clear H;intro a H;exact fin H iJ rfl
 ·refine dK 6 9 7 10 rfl rfl fun _ a w G1 hG HT H fin=>?_;refine s_call IZ H wn rfl (Kt _ _ H.ro (min l.length 1024) (IX l) _ (by omega) ((hcb.mono hG).le (Nat.min_le_left _ _))) rfl ?_;clear H;rintro v11 tO a w rfl lW H;exact fin H lW (rfl)
 clear H;intro a w G nA H hv;have H:=H.aM (hv 3 6 rfl rfl) rfl;have H:=H.aM (hv 8 11 rfl rfl) rfl;clear hv;refine ig qU iy [_,_] [_,_] H wn rfl rfl rfl rfl rfl (by intro i q h;match i,h with|0,h=>exact h|1,h=>exact h|n+2,h=>simp at h) rfl rfl ?_;clear H;intro b12 a w Gw H;obtain ⟨D9,Dq,Gx,H⟩:=H.eH;refine s_call sj H wn rfl (sD _ _ H.ro _ _ (zR Gx)) rfl ?_;clear H;rintro v13 _ a w ⟨rfl,rfl⟩ - H;refine kH H (Ra rfl ?_);clear H;intro a H;refine aD ⟨rfl,?_⟩;refine K2 _ _ ?_;clear K2;refine lr H results121 rfl ?_;exact H.rt rfl
def yQ:Nat→List Int→List MapEntry
 | _,[]=>[]
 | i,k :: r=>⟨.int .i64 k,.int .i64 (i:Int),i⟩ :: yQ (i+1) r
theorem abK (x:Int):∀ (i:Nat) (l:List Int),yQ i (l++[x])=yQ i l++[⟨.int .i64 x,.int .i64 ((i+l.length:Nat):Int),i+l.length⟩]
 | _,[]=>rfl
 | i,k :: r=>by
  rw [lD,yQ,abK x (i+1) r,yQ,lD,kW,show i+1+r.length=i+(r.length+1) by omega]
def wH (x:Int):Nat→List Int→Option Nat
 | _,[]=>none
 | i,k :: r=>if k=x then some i else wH x (i+1) r
theorem abo {x:Int}:∀ {l:List Int} {i n:Nat},wH x i l=some n→i≤n
 | [],_,_,h=>by cases h
 | k :: r,i,n,h=>by
  rw [wH] at h;split at h
  ·cases h;exact bL _
  ·have:=abo h;omega
theorem abq {x:Int}:∀ {l:List Int} {i:Nat},x∉l→wH x i l=none
 | [],_,_=>rfl
 | k :: r,i,h=>by
  rw [wH,ah (fun e=>h (by simp [e])),abq (fun hm=>h (iO _ hm))]
theorem SF (x:Int):∀ (i j:Nat) (l:List Int),Instr.findNow (.int .i64) (.int .i64 x) (yQ i l) j=some ((wH x i l).map fun n=>(j+(n - i),.int .i64 (n:Int)))
 | _,_,[]=>rfl
 | i,j,k :: r=>by
  have ih:=SF x (i+1) (j+1) r
  by_cases e:k=x
  ·subst e
   simp only [yQ,Instr.findNow,Instr.sameNow,au,wH,beq_self_eq_true]
   simp
  ·have hb:(x == k)=false:=by simp;exact fun h=>e h.symm
   simp only [yQ,Instr.findNow,Instr.sameNow,au,hb,wH,ah e,ih]
   cases h:wH x (i+1) r with
   | none=>rfl
   | some n =>
    have:=abo h
    simp only [vW,oI,iF,and_true]
    omega
abbrev afd (b:Nat) (l:List Int):Nat × Obj:=(b,.map (yQ 0 l).toArray l.length)
theorem aob (l:List Int) (x:Int):(yQ 0 l).toArray.push ⟨.int .i64 x,.int .i64 (l.length:Int),l.length⟩=(yQ 0 (l++[x])).toArray:=by
 rw [abK,List.push_toArray,gJ]
end Go.Proofs.YtdiflmikikiedaaGreat
