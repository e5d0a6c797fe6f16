/-
  What the claim stands on, part 3: Ehd Dc24 Bld Fst Nam Pn De Dj Dk Dw Lsc Dm Dl Lfl Dv Lpc Scn By Lps Lcl Dst Sty Stz Dsc Mi.
-/
import Derived.Test.YtdiflmikikiedaaGreatWdb
import Derived.Lib.ConvBytes
namespace Go.Proofs.YtdiflmikikiedaaGreat
open Go.Proofs.Tryz
open Go.RowKit
theorem aiN:Mc prog 187 [(0,false),(1,false)]:=⟨by kernel_rfl,by kernel_rfl,by kernel_rfl,by kernel_rfl,by kernel_rfl⟩
theorem aiL:Mc prog 159 [(0,false),(1,false)]:=⟨by kernel_rfl,by kernel_rfl,by kernel_rfl,by kernel_rfl,by kernel_rfl⟩
theorem aiM:Mc prog 161 [(0,false),(1,false),(2,false),(3,true)]:=⟨by kernel_rfl,by kernel_rfl,by kernel_rfl,by kernel_rfl,by kernel_rfl⟩
theorem agc:∀ args w,(callFunc 102 args).run prog w=.ok (.enter 102 args) w:=enters func102 rfl (by kernel_rfl)
theorem rR:dH prog 27 0 0:=⟨by kernel_rfl⟩
theorem Bd:dH prog 27 1 1:=⟨by kernel_rfl⟩
theorem agd:∀ args w,(callFunc 103 args).run prog w=.ok (.enter 103 args) w:=enters func103 rfl (by kernel_rfl)
theorem agf:∀ args w,(callFunc 104 args).run prog w=.ok (.enter 104 args) w:=enters func104 rfl (by kernel_rfl)
abbrev gq.cells (x:gq):List aj:=[vi x.rev,vi x.move]
abbrev cK.cells (x:cK):List aj:=[vi x.rev,vi x.key,vi x.before,.bool x.had]
theorem JV {G:GH} {x:gq} {cs:List aj} (h:aU G x.dat cs):cs=x.cells:=by
 simp only [gq.dat,aU,av] at h
 obtain ⟨_,_,rfl,⟨rfl,_⟩,_,_,rfl,⟨rfl,_⟩,rfl⟩:=h
 rfl
theorem Uf {G:GH} {x:cK} {cs:List aj} (h:aU G x.dat cs):cs=x.cells:=by
 simp only [cK.dat,aU,av] at h
 obtain ⟨_,_,rfl,⟨rfl,_⟩,_,_,rfl,⟨rfl,_⟩,_,_,rfl,⟨rfl,_⟩,_,_,rfl,⟨rfl,_⟩,rfl⟩:=h
 rfl
theorem aO.eq_iff (a b:aO):(a.key=b.key∧a.value=b.value)↔a=b:=by cases a;cases b;simp
theorem gq.eq_iff (a b:gq):(a.rev=b.rev∧a.move=b.move)↔a=b:=by cases a;cases b;simp
theorem cK.eq_iff (a b:cK):(a.rev=b.rev∧a.key=b.key∧a.before=b.before∧a.had=b.had)↔a=b:=by cases a;cases b;simp
instance:DecidableEq aO:=fun a b=>decidable_of_iff _ (aO.eq_iff a b)
instance:DecidableEq gq:=fun a b=>decidable_of_iff _ (gq.eq_iff a b)
instance:DecidableEq cK:=fun a b=>decidable_of_iff _ (cK.eq_iff a b)
theorem anE (a b:aO):(!([(0,false),(1,false)].all fun o=>lG #[vi a.key,vi a.value] o == lG #[vi b.key,vi b.value] o))=!decide (a=b):=by
 have h:=aO.eq_iff a b;rw [sG]
 simp only [wL,ni]
 rw [← h]
 simp [lG]
theorem anC (a b:gq):(!([(0,false),(1,false)].all fun o=>lG #[vi a.rev,vi a.move] o == lG #[vi b.rev,vi b.move] o))=!decide (a=b):=by
 have h:=gq.eq_iff a b;rw [sG]
 simp only [wL,ni]
 rw [← h]
 simp [lG]
theorem anD (a b:cK):(!([(0,false),(1,false),(2,false),(3,true)].all fun o=>lG #[vi a.rev,vi a.key,vi a.before,.bool a.had] o == lG #[vi b.rev,vi b.key,vi b.before,.bool b.had] o))=!decide (a=b):=by
 have h:=cK.eq_iff a b;rw [sG]
 simp only [wL,ni]
 rw [← h]
 simp [lG]
theorem aiK (G:GH) (w0:World) (hG:Hold G w0) (A B:List aO) (v u:aj) (hv:av G (.sl 2 (A.map aO.dat)) v) (hu:av G (.sl 2 (B.map aO.dat)) u) :
  Calls prog 102 #[v,u] w0 (aZ w0 G fun r G'=>r=.bool (decide (A=B))):=by
 obtain ⟨vA,vc,rfl,hc1,hc2,hg⟩:=hv.slice;obtain ⟨uA,uc,rfl,hd1,hd2,hh⟩:=hu.slice;have hml:maxLen=9223372036854775807:=rfl;(iterate 2 rw [bG] at *);refine eN [(0,_),(1,_)] func102 rfl ntmps102 rfl rfl hG ?_;intro a H;refine kP H (SR fun _ K1=>ak K1 rfl (SQ fun _ K2=>SR fun _ K3=>Rm rfl (Rl gy rfl (Rm rfl (Rl gy rfl (Rc rfl (Kz K3 (Cd rfl ?_ ?_)))))))) <;> clear H K1 K3
 ·intro h10 a H
  try have kV:=dT h10
  exact kP H (SR fun _ K4=>ak K4 rfl (LR results102 rfl fun H=>H.rt (dL (jY fun e=>absurd (aB List.length e) (by omega)).symm)))
 intro h10 a H
 try have kV:=dF h10
 refine kP H (Kc K2 (SQ fun _ K5=>SR fun _ K6=>Rm rfl (Rl gy rfl (Rm rfl (Kz K6 (SB ?_))))));clear H K2 K6;intro a H;skip;refine eU (ι:=Nat × GH) (Tc:=[(0,_),(1,_),(12,_)]) (Lc:=[]) (fun gh=>[(13,vi gh.1)]) (fun gh=>[]) (fun gh=>gh.2) (fun gh=>gh.1≤A.length∧A.take gh.1=B.take gh.1∧(∀ b o,G b=some o→gh.2 b=some o)) (fun gh=>A.length - gh.1) ((0,G)) (by exact (H).sub ⟨rfl,rfl,rfl,rfl,aC⟩) ?_ ?_
 ·exact ⟨by omega,rfl,fun _ _ h=>h⟩
 clear H;rintro ⟨k,g⟩ a w hI H;dsimp only at hI H;obtain ⟨hk,hsame,hgm⟩:=hI;dsimp only [lca,bJ] at H;refine kP H (SR fun _ K7=>Rc rfl (Kz K7 (SQ fun _ K8=>Cd rfl ?_ ?_))) <;> clear H K7
 ·intro gX a H
  try have sP:=dT gX
  have hk2:k < A.length:=by omega
  have hk3:k < B.length:=by omega
  obtain ⟨b1,o1,cs1,rfl,Zn,KP,hr1⟩:=hg k A[k].dat (by simp [hk2]);obtain rfl:=Oy hr1;obtain ⟨b2,o2,cs2,rfl,SN,hrow2,hr2⟩:=hh k B[k].dat (by simp [hk3]);obtain rfl:=Oy hr2;refine kP H (Kc K8 (SQ fun _ K9=>SB (SR fun _ aR=>Rm rfl (ak aR rfl (SQ fun _ bQ=>?_)))));clear H K8 aR;intro a H;refine dI hmx [[],[],[0,1],[0,1,2],[],[],[4,5],[4,5,6],(ra 0 8)] [] (by kernel_rfl) [_,_,_,.agg A[k].cells.toArray,_,_,_,.agg B[k].cells.toArray,.bool (!decide (A[k]=B[k]))] H (aF (Z0 rfl (Rm rfl)) (Z0 rfl (Rm rfl)) (Z2 0 16 1 17 rfl (Ri gy gM rfl rfl)) ?_ (aF (Z0 rfl (Rm rfl)) (Z0 rfl (Rm rfl)) (Z2 4 20 5 21 rfl (Ri gy gM rfl rfl)) ?_ (bR ?_ dz))) ?_
  ·refine fq 2 18 rfl rfl fun _ a w G1 hG HT H fin=>?_;refine bL gM (cs:=A[k].cells) H wn rfl rfl (fun j v hj=>H.hp.aI (aJ hG (aJ hgm (KP j v hj)))) rfl ?_;clear H;intro a H;exact fin H iJ rfl
  ·refine fq 6 22 rfl rfl fun _ a w G1 hG HT H fin=>?_;refine bL gM (cs:=B[k].cells) H wn rfl rfl (fun j v hj=>H.hp.aI (aJ hG (aJ hgm (hrow2 j v hj)))) rfl ?_;clear H;intro a H;exact fin H iJ rfl
  ·refine dJ 3 19 7 23 rfl rfl fun _ a w G1 hG HT H fin=>?_;refine U1 (.inr rfl) aiN H wn rfl rfl rfl rfl ?_;clear H;intro a H;exact fin H iJ (dL (anE A[k] B[k]))
  clear H;intro a w G iL H hv;have H:=H.aM (hv 8 24 rfl rfl) rfl;clear hv;refine aD ⟨rfl,?_⟩;refine bQ _ _ ?_;clear bQ;refine jD H rfl ?_ ?_
  ·intro fB
   exact kP H (SR fun _ bY=>ak bY rfl (LR results102 rfl fun H=>H.rt (dL (jY fun e=>absurd fB (by subst e;simp)).symm)))
  intro fB
  try have mU:=dF fB
  have hsm:A[k]=B[k]:=by simpa using fB
  refine kP H (Kc K9 (SC (Rd rfl (Rm rfl ?_))));clear H K9;intro a H;refine aD ?_;refine dD ((k+1,G)) (by exact (H).sub ⟨rfl,rfl,rfl,rfl,aC⟩) ?_
  (try dsimp only);exact ⟨by omega,by rw [iU hk2,iU hk3,hsame,hsm],fun b o h=>iL b o (hgm b o h)⟩
 intro gX a H
 try have sP:=dF gX
 refine dV ?_;refine K5 _ _ ?_;clear K5;exact kP H (SR fun _ cZ=>ak cZ rfl (LR results102 rfl fun H=>H.rt (dL (jM (by rw [iC (by omega),iC (by omega)] at hsame;exact hsame)).symm)))
theorem aiI (G:GH) (w0:World) (hG:Hold G w0) (A B:List gq) (v u:aj) (hv:av G (.sl 2 (A.map gq.dat)) v) (hu:av G (.sl 2 (B.map gq.dat)) u) :
  Calls prog 103 #[v,u] w0 (aZ w0 G fun r G'=>r=.bool (decide (A=B))):=by
 obtain ⟨vA,vc,rfl,hc1,hc2,hg⟩:=hv.slice;obtain ⟨uA,uc,rfl,hd1,hd2,hh⟩:=hu.slice;have hml:maxLen=9223372036854775807:=rfl;(iterate 2 rw [bG] at *);refine eN [(0,_),(1,_)] func103 rfl ntmps103 rfl rfl hG ?_;intro a H;refine kP H (SR fun _ K1=>ak K1 rfl (SQ fun _ K2=>SR fun _ K3=>Rm rfl (Rl lJ rfl (Rm rfl (Rl lJ rfl (Rc rfl (Kz K3 (Cd rfl ?_ ?_)))))))) <;> clear H K1 K3
 ·intro h10 a H
  try have kV:=dT h10
  exact kP H (SR fun _ K4=>ak K4 rfl (LR results103 rfl fun H=>H.rt (dL (jY fun e=>absurd (aB List.length e) (by omega)).symm)))
 intro h10 a H
 try have kV:=dF h10
 refine kP H (Kc K2 (SQ fun _ K5=>SR fun _ K6=>Rm rfl (Rl lJ rfl (Rm rfl (Kz K6 (SB ?_))))));clear H K2 K6;intro a H;skip;refine eU (ι:=Nat × GH) (Tc:=[(0,_),(1,_),(12,_)]) (Lc:=[]) (fun gh=>[(13,vi gh.1)]) (fun gh=>[]) (fun gh=>gh.2) (fun gh=>gh.1≤A.length∧A.take gh.1=B.take gh.1∧(∀ b o,G b=some o→gh.2 b=some o)) (fun gh=>A.length - gh.1) ((0,G)) (by exact (H).sub ⟨rfl,rfl,rfl,rfl,aC⟩) ?_ ?_
 ·exact ⟨by omega,rfl,fun _ _ h=>h⟩
 clear H;rintro ⟨k,g⟩ a w hI H;dsimp only at hI H;obtain ⟨hk,hsame,hgm⟩:=hI;dsimp only [lca,bJ] at H;refine kP H (SR fun _ K7=>Rc rfl (Kz K7 (SQ fun _ K8=>Cd rfl ?_ ?_))) <;> clear H K7
 ·intro gX a H
  try have sP:=dT gX
  have hk2:k < A.length:=by omega
  have hk3:k < B.length:=by omega
  obtain ⟨b1,o1,cs1,rfl,Zn,KP,hr1⟩:=hg k A[k].dat (by simp [hk2]);obtain rfl:=JV hr1;obtain ⟨b2,o2,cs2,rfl,SN,hrow2,hr2⟩:=hh k B[k].dat (by simp [hk3]);obtain rfl:=JV hr2;refine kP H (Kc K8 (SQ fun _ K9=>SB (SR fun _ aR=>Rm rfl (ak aR rfl (SQ fun _ bQ=>?_)))));clear H K8 aR;intro a H;refine dI hmx [[],[],[0,1],[0,1,2],[],[],[4,5],[4,5,6],(ra 0 8)] [] (by kernel_rfl) [_,_,_,.agg A[k].cells.toArray,_,_,_,.agg B[k].cells.toArray,.bool (!decide (A[k]=B[k]))] H (aF (Z0 rfl (Rm rfl)) (Z0 rfl (Rm rfl)) (Z2 0 16 1 17 rfl (Ri lJ nG rfl rfl)) ?_ (aF (Z0 rfl (Rm rfl)) (Z0 rfl (Rm rfl)) (Z2 4 20 5 21 rfl (Ri lJ nG rfl rfl)) ?_ (bR ?_ dz))) ?_
  ·refine fq 2 18 rfl rfl fun _ a w G1 hG HT H fin=>?_;refine bL nG (cs:=A[k].cells) H wn rfl rfl (fun j v hj=>H.hp.aI (aJ hG (aJ hgm (KP j v hj)))) rfl ?_;clear H;intro a H;exact fin H iJ rfl
  ·refine fq 6 22 rfl rfl fun _ a w G1 hG HT H fin=>?_;refine bL nG (cs:=B[k].cells) H wn rfl rfl (fun j v hj=>H.hp.aI (aJ hG (aJ hgm (hrow2 j v hj)))) rfl ?_;clear H;intro a H;exact fin H iJ rfl
  ·refine dJ 3 19 7 23 rfl rfl fun _ a w G1 hG HT H fin=>?_;refine U1 (.inr rfl) aiL H wn rfl rfl rfl rfl ?_;clear H;intro a H;exact fin H iJ (dL (anC A[k] B[k]))
  clear H;intro a w G iL H hv;have H:=H.aM (hv 8 24 rfl rfl) rfl;clear hv;refine aD ⟨rfl,?_⟩;refine bQ _ _ ?_;clear bQ;refine jD H rfl ?_ ?_
  ·intro fB
   exact kP H (SR fun _ bY=>ak bY rfl (LR results103 rfl fun H=>H.rt (dL (jY fun e=>absurd fB (by subst e;simp)).symm)))
  intro fB
  try have mU:=dF fB
  have hsm:A[k]=B[k]:=by simpa using fB
  refine kP H (Kc K9 (SC (Rd rfl (Rm rfl ?_))));clear H K9;intro a H;refine aD ?_;refine dD ((k+1,G)) (by exact (H).sub ⟨rfl,rfl,rfl,rfl,aC⟩) ?_
  (try dsimp only);exact ⟨by omega,by rw [iU hk2,iU hk3,hsame,hsm],fun b o h=>iL b o (hgm b o h)⟩
 intro gX a H
 try have sP:=dF gX
 refine dV ?_;refine K5 _ _ ?_;clear K5;exact kP H (SR fun _ cZ=>ak cZ rfl (LR results103 rfl fun H=>H.rt (dL (jM (by rw [iC (by omega),iC (by omega)] at hsame;exact hsame)).symm)))
theorem aiJ (G:GH) (w0:World) (hG:Hold G w0) (A B:List cK) (v u:aj) (hv:av G (.sl 4 (A.map cK.dat)) v) (hu:av G (.sl 4 (B.map cK.dat)) u) :
  Calls prog 104 #[v,u] w0 (aZ w0 G fun r G'=>r=.bool (decide (A=B))):=by
 obtain ⟨vA,vc,rfl,hc1,hc2,hg⟩:=hv.slice;obtain ⟨uA,uc,rfl,hd1,hd2,hh⟩:=hu.slice;have hml:maxLen=9223372036854775807:=rfl;(iterate 2 rw [bG] at *);refine eN [(0,_),(1,_)] func104 rfl ntmps104 rfl rfl hG ?_;intro a H;refine kP H (SR fun _ K1=>ak K1 rfl (SQ fun _ K2=>SR fun _ K3=>Rm rfl (Rl ku rfl (Rm rfl (Rl ku rfl (Rc rfl (Kz K3 (Cd rfl ?_ ?_)))))))) <;> clear H K1 K3
 ·intro h10 a H
  try have kV:=dT h10
  exact kP H (SR fun _ K4=>ak K4 rfl (LR results104 rfl fun H=>H.rt (dL (jY fun e=>absurd (aB List.length e) (by omega)).symm)))
 intro h10 a H
 try have kV:=dF h10
 refine kP H (Kc K2 (SQ fun _ K5=>SR fun _ K6=>Rm rfl (Rl ku rfl (Rm rfl (Kz K6 (SB ?_))))));clear H K2 K6;intro a H;skip;refine eU (ι:=Nat × GH) (Tc:=[(0,_),(1,_),(12,_)]) (Lc:=[]) (fun gh=>[(13,vi gh.1)]) (fun gh=>[]) (fun gh=>gh.2) (fun gh=>gh.1≤A.length∧A.take gh.1=B.take gh.1∧(∀ b o,G b=some o→gh.2 b=some o)) (fun gh=>A.length - gh.1) ((0,G)) (by exact (H).sub ⟨rfl,rfl,rfl,rfl,aC⟩) ?_ ?_
 ·exact ⟨by omega,rfl,fun _ _ h=>h⟩
 clear H;rintro ⟨k,g⟩ a w hI H;dsimp only at hI H;obtain ⟨hk,hsame,hgm⟩:=hI;dsimp only [lca,bJ] at H;refine kP H (SR fun _ K7=>Rc rfl (Kz K7 (SQ fun _ K8=>Cd rfl ?_ ?_))) <;> clear H K7
 ·intro gX a H
  try have sP:=dT gX
  have hk2:k < A.length:=by omega
  have hk3:k < B.length:=by omega
  obtain ⟨b1,o1,cs1,rfl,Zn,KP,hr1⟩:=hg k A[k].dat (by simp [hk2]);obtain rfl:=Uf hr1;obtain ⟨b2,o2,cs2,rfl,SN,hrow2,hr2⟩:=hh k B[k].dat (by simp [hk3]);obtain rfl:=Uf hr2;refine kP H (Kc K8 (SQ fun _ K9=>SB (SR fun _ aR=>Rm rfl (ak aR rfl (SQ fun _ bQ=>?_)))));clear H K8 aR;intro a H;refine dI hmx [[],[],[0,1],[0,1,2],[],[],[4,5],[4,5,6],(ra 0 8)] [] (by kernel_rfl) [_,_,_,.agg A[k].cells.toArray,_,_,_,.agg B[k].cells.toArray,.bool (!decide (A[k]=B[k]))] H (aF (Z0 rfl (Rm rfl)) (Z0 rfl (Rm rfl)) (Z2 0 16 1 17 rfl (Ri ku jk rfl rfl)) ?_ (aF (Z0 rfl (Rm rfl)) (Z0 rfl (Rm rfl)) (Z2 4 20 5 21 rfl (Ri ku jk rfl rfl)) ?_ (bR ?_ dz))) ?_
  ·refine fq 2 18 rfl rfl fun _ a w G1 hG HT H fin=>?_;refine bL jk (cs:=A[k].cells) H wn rfl rfl (fun j v hj=>H.hp.aI (aJ hG (aJ hgm (KP j v hj)))) rfl ?_;clear H;intro a H;exact fin H iJ rfl
  ·refine fq 6 22 rfl rfl fun _ a w G1 hG HT H fin=>?_;refine bL jk (cs:=B[k].cells) H wn rfl rfl (fun j v hj=>H.hp.aI (aJ hG (aJ hgm (hrow2 j v hj)))) rfl ?_;clear H;intro a H;exact fin H iJ rfl
  ·refine dJ 3 19 7 23 rfl rfl fun _ a w G1 hG HT H fin=>?_;refine U1 (.inr rfl) aiM H wn rfl rfl rfl rfl ?_;clear H;intro a H;exact fin H iJ (dL (anD A[k] B[k]))
  clear H;intro a w G iL H hv;have H:=H.aM (hv 8 24 rfl rfl) rfl;clear hv;refine aD ⟨rfl,?_⟩;refine bQ _ _ ?_;clear bQ;refine jD H rfl ?_ ?_
  ·intro fB
   exact kP H (SR fun _ bY=>ak bY rfl (LR results104 rfl fun H=>H.rt (dL (jY fun e=>absurd fB (by subst e;simp)).symm)))
  intro fB
  try have mU:=dF fB
  have hsm:A[k]=B[k]:=by simpa using fB
  refine kP H (Kc K9 (SC (Rd rfl (Rm rfl ?_))));clear H K9;intro a H;refine aD ?_;refine dD ((k+1,G)) (by exact (H).sub ⟨rfl,rfl,rfl,rfl,aC⟩) ?_
  (try dsimp only);exact ⟨by omega,by rw [iU hk2,iU hk3,hsame,hsm],fun b o h=>iL b o (hgm b o h)⟩
 intro gX a H
 try have sP:=dF gX
 refine dV ?_;refine K5 _ _ ?_;clear K5;exact kP H (SR fun _ cZ=>ak cZ rfl (LR results104 rfl fun H=>H.rt (dL (jM (by rw [iC (by omega),iC (by omega)] at hsame;exact hsame)).symm)))
theorem dM.eq_iff (a b:dM):(((a.props=b.props∧a.marks.ins=b.marks.ins)∧a.marks.move=b.marks.move)∧a.marks.bE=b.marks.bE)∧a.marks.layers=b.marks.layers↔a=b:=by
 obtain ⟨p,i,m,d,l⟩:=a;obtain ⟨p2,i2,m2,d2,l2⟩:=b
 simp [and_assoc]
instance:DecidableEq dM:=fun a b=>decidable_of_iff _ (dM.eq_iff a b)
abbrev qV (h:dM) (p d l:aj):aj:=.agg #[p,vi h.marks.ins,vi h.marks.move,d,l]
theorem Yt (G:GH) (w0:World) (hG:Hold G w0) (x y:dM) (p d l p2 d2 l2:aj) (hx:jd G x p d l) (hy:jd G y p2 d2 l2) :
  Calls prog 52 #[qV x p d l,qV y p2 d2 l2] w0 (aZ w0 G fun r G'=>r=.bool (decide (x=y))):=by
 obtain ⟨pA,pc,rfl,-,-,-⟩:=hx.props.slice;obtain ⟨dA,dc,rfl,-,-,-⟩:=hx.bE.slice;obtain ⟨lA,lc,rfl,-,-,-⟩:=hx.layers.slice;obtain ⟨pA2,pc2,rfl,-,-,-⟩:=hy.props.slice;obtain ⟨dA2,dc2,rfl,-,-,-⟩:=hy.bE.slice;obtain ⟨lA2,lc2,rfl,-,-,-⟩:=hy.layers.slice;have he:=dM.eq_iff x y;refine eN [(0,_),(1,_)] func52 rfl ntmps52 rfl rfl hG ?_;intro a H;refine cu (fun _ K1=>?_);refine dQ (cs:=[_,_,_,_,_]) H wn rfl rfl rfl ?_;clear H;intro b2 a w hb2 H;refine dQ (cs:=[_,_,_,_,_]) H wn rfl rfl rfl ?_;clear H;intro b3 a w hb3 H;refine kH H (ak K1 rfl (SR fun _ K2=>aY xW um 1 rfl rfl (aY xW um 0 rfl rfl ?_)));clear H K1;intro a H;refine s_call agc H wn rfl (aiK _ _ H.ro x.props y.props _ _ hx.props hy.props) rfl ?_;clear H;rintro v9 G9 a w rfl tN H;refine kH H (Rm rfl (Sp 10 rfl ?_ ?_)) <;> clear H
 ·intro h10 a H
  try have kV:=dT h10
  refine kH H (YF lZ h10 rfl (YF rR h10 rfl (YO aH 1 h10 rfl (YF lZ h10 rfl (YF rR h10 rfl (YO aH 0 h10 rfl (YC h10 rfl (Pt h10 rfl (Rm rfl (Sp 19 rfl ?_ ?_)))))))))) <;> clear H
  ·intro h19 a H
   try have uf:=dT h19
   refine kH H (YF lZ h19 rfl (YF Bd h19 rfl (YO aH 1 h19 rfl (YF lZ h19 rfl (YF Bd h19 rfl (YO aH 0 h19 rfl (YC h19 rfl (Pt h19 rfl (Rm rfl (Sp 28 rfl ?_ ?_)))))))))) <;> clear H
   ·intro fQ a H
    try have p28:=dT fQ
    refine kH H (YF lZ fQ rfl (YF pU fQ rfl (YO qj 1 fQ rfl (YF lZ fQ rfl (YF pU fQ rfl (YO qj 0 fQ rfl ?_))))));clear H;intro a H;refine s_call agd H (wg H rfl rfl fQ) rfl (aiI _ _ H.ro x.marks.bE y.marks.bE _ _ (hx.bE.mono tN) (hy.bE.mono tN)) rfl ?_;clear H;rintro v35 VU a w rfl ZF H;refine kH H (Pt fQ rfl (Rm rfl (Sp 37 rfl ?_ ?_))) <;> clear H
    ·intro h37 a H
     try have p37:=dT h37
     refine kH H (YF lZ h37 rfl (YF zJ h37 rfl (YO Ap 1 h37 rfl (YF lZ h37 rfl (YF zJ h37 rfl (YO Ap 0 h37 rfl ?_))))));clear H;intro a H;refine s_call agf H (wg H rfl rfl h37) rfl (aiJ _ _ H.ro x.marks.layers y.marks.layers _ _ ((hx.layers.mono tN).mono ZF) ((hy.layers.mono tN).mono ZF)) rfl ?_;clear H;rintro v44 G44 a w rfl att H;exact kH H (Pt h37 rfl (ak K2 rfl (LR results52 rfl fun H=>H.rt (dL (by simp_all)))))
    intro h37 a H
    try have p37:=dF h37
    exact kH H (bF h37 rfl (aQ h37 rfl (aQ h37 rfl (Pf h37 rfl (ak K2 rfl (LR results52 rfl fun H=>H.rt (dL (by simp_all))))))))
   intro fQ a H
   try have p28:=dF fQ
   exact kH H (bF fQ rfl (aQ fQ rfl (aQ fQ rfl (Pf fQ rfl (Rm rfl (bF rfl rfl (aQ rfl rfl (aQ rfl rfl (Pf rfl rfl (ak K2 rfl (LR results52 rfl fun H=>H.rt (dL (by simp_all)))))))))))))
  intro h19 a H
  try have uf:=dF h19
  exact kH H (bF h19 rfl (aQ h19 rfl (aQ h19 rfl (Pf h19 rfl (Rm rfl (bF rfl rfl (aQ rfl rfl (aQ rfl rfl (Pf rfl rfl (Rm rfl (bF rfl rfl (aQ rfl rfl (aQ rfl rfl (Pf rfl rfl (ak K2 rfl (LR results52 rfl fun H=>H.rt (dL (by simp_all))))))))))))))))))
 intro h10 a H
 try have kV:=dF h10
 exact kH H (bF h10 rfl (aQ h10 rfl (aQ h10 rfl (Pf h10 rfl (Rm rfl (bF rfl rfl (aQ rfl rfl (aQ rfl rfl (Pf rfl rfl (Rm rfl (bF rfl rfl (aQ rfl rfl (aQ rfl rfl (Pf rfl rfl (Rm rfl (bF rfl rfl (aQ rfl rfl (aQ rfl rfl (Pf rfl rfl (ak K2 rfl (LR results52 rfl fun H=>H.rt (dL (by simp_all)))))))))))))))))))))))
def qR:Nat→List cK→List (Int × List cK)
 | 0,_=>[]
 | _+1,[]=>[]
 | f+1,y :: r=>(y.key,y :: r.takeWhile fun z=>decide (z.key=y.key)) :: qR f (r.dropWhile fun z=>decide (z.key=y.key))
def nM (acc:Int→Bool):List cK→Nat→Nat→Nat
 | [],_,c=>c
 | y :: r,k,c=>nM acc r (k+1) (if acc y.rev=true then k+1 else c)
def xk (rej:Int→Bool) (xE:List (Int × Bool)):List cK→Nat→Int × Bool→List cK × (Int × Bool)
 | [],_,now=>([],now)
 | y :: r,k,now=>if rej y.rev=true then xk rej xE r (k+1) now else
  let q:=xk rej xE r (k+1) (xE.getD (k+1) (0,false))
  (⟨y.rev,y.key,now.1,now.2⟩ :: q.1,q.2)
def qG (props:List aO) (key:Int) (l:List cK):List (Int × Bool):=l.map (fun y=>(y.before,y.had))++[zL props key]
def rU (acc rej:Int→Bool) (props:List aO) (key:Int) (l:List cK):List cK × (Int × Bool) :=
 xk rej (qG props key l) (l.drop (nM acc l 0 0)) (nM acc l 0 0) ((qG props key l).getD (nM acc l 0 0) (0,false))
def zx (l:List aO) (k:Int) (s:Int × Bool):List aO:=if s.2=true then EN l k s.1 else D9 l k
def wQ (acc rej:Int→Bool) (props:List aO):List (Int × List cK)→List aO × List cK→List aO × List cK
 | [],s=>s
 | (k,l) :: r,s=>wQ acc rej props r (zx s.1 k (rU acc rej props k l).2,s.2++(rU acc rej props k l).1)
def sI (acc rej:Int→Bool) (h:dM):Prop:=(h.marks.ins≠0∧rej h.marks.ins=true)∨∃ x∈h.marks.bE,acc x.rev=true
instance (acc rej:Int→Bool) (h:dM):Decidable (sI acc rej h):=inferInstanceAs (Decidable (_∨_))
def uS (acc:Int→Bool) (h:dM):Prop:=h.marks.ins≠0∧acc h.marks.ins=true
instance (acc:Int→Bool) (h:dM):Decidable (uS acc h):=inferInstanceAs (Decidable (_∧_))
def mJ (acc rej:Int→Bool) (h:dM):dM :=
 let q:=wQ acc rej h.props (qR h.marks.layers.length h.marks.layers) (h.props,[])
 ⟨q.1,⟨if uS acc h then 0 else h.marks.ins,if uS acc h then 0 else h.marks.move,h.marks.bE.filter fun x=>!rej x.rev,q.2⟩⟩
def BZ:dM:=⟨[],⟨0,0,[],[]⟩⟩
def WJ (b:Bool) (h:dM) (u:aj) (G:GH):Prop:=∃ p d l,u=.tuple #[qV h p d l,.bool b]∧jd G h p d l
theorem Pq (G:GH):jd G BZ (.slice none 0 0) (.slice none 0 0) (.slice none 0 0):=⟨av.lg rfl (by decide),av.lg rfl (by decide),av.lg rfl (by decide)⟩
theorem aqj (l:List aO) (k v:Int):(EN l k v).length≤l.length+1:=by
 unfold EN;split
 ·rw [List.length_set];omega
 have:=Fx (l.map aO.key) k;rw [bG] at this
 simp only [iI,List.length_take,kR,List.length_drop];omega
theorem afu (l:List aO) (k:Int):(D9 l k).length≤l.length:=by
 unfold D9;split
 ·have:=Fx (l.map aO.key) k;rw [bG] at this
  simp only [iI,List.length_take,List.length_drop];omega
 exact bM _
theorem adf (l:List aO) (k:Int) (s:Int × Bool):(zx l k s).length≤l.length+1:=by
 unfold zx;split
 ·exact aqj _ _ _
 have:=afu l k;omega
theorem Ud (rej:Int→Bool) (xE:List (Int × Bool)):∀ (l:List cK) (k:Nat) (now:Int × Bool),(xk rej xE l k now).1.length≤l.length
 | [],_,_=>by rw [xk];exact bM _
 | y :: r,k,now=>by
  rw [xk];split
  ·have:=Ud rej xE r (k+1) now;simp only [kR];omega
  have:=Ud rej xE r (k+1) (xE.getD (k+1) (0,false));simp only [kR];omega
theorem RG (acc rej:Int→Bool) (props:List aO) (key:Int) (l:List cK):(rU acc rej props key l).1.length≤l.length:=by
 have:=Ud rej (qG props key l) (l.drop (nM acc l 0 0)) (nM acc l 0 0) ((qG props key l).getD (nM acc l 0 0) (0,false));rw [List.length_drop] at this
 unfold rU;omega
theorem Ke:∀ (f:Nat) (l:List cK),l.length≤f→(qR f l).flatMap Prod.snd=l∧∀ q∈qR f l,q.2≠[]
 | 0,l,h=>by
  have:l=[]:=List.eq_nil_of_length_eq_zero (by omega);subst this;exact ⟨rfl,fun q hq=>by cases hq⟩
 | f+1,[],_=>⟨rfl,fun q hq=>by cases hq⟩
 | f+1,y :: r,h=>by
  have h2:(r.dropWhile fun z=>decide (z.key=y.key)).length≤f:=by
   have:=(List.dropWhile_sublist (l:=r) fun z=>decide (z.key=y.key)).length_le
   simp only [kR] at h;omega
  obtain ⟨e1,e2⟩:=Ke f _ h2;rw [qR];refine ⟨?_,fun q hq=>?_⟩
  ·rw [List.flatMap_cons,e1]
   show (y :: _)++_=_
   rw [nJ,List.takeWhile_append_dropWhile]
  rcases jS.1 hq with rfl|hq
  ·exact List.cons_ne_nil _ _
  exact e2 q hq
theorem U9:Hw prog 172:=⟨by kernel_rfl⟩
theorem aeF:prog.cellsOf 5=1:=by kernel_rfl
theorem anJ (v:aj) (w:World):(callFunc 210 #[v]).run prog w=.ok (.value v) w:=apv func210 (by kernel_rfl) (by kernel_rfl) (by kernel_rfl) (by kernel_rfl) v w
theorem LK:prog.underlying 169=some (.pointer 172):=by kernel_rfl
theorem acH:prog.underlying 280=some .unsafePointer:=by kernel_rfl
theorem J3:dH prog 172 0 0:=⟨by kernel_rfl⟩
theorem LD:Ty prog 169 1 8 [.pointer none] false:=⟨by kernel_rfl,by kernel_rfl⟩
theorem agL:∀ args w,(callFunc 154 args).run prog w=.ok (.enter 154 args) w:=enters func154 rfl (by kernel_rfl)
theorem GY:prog.underlying 170=some (.slice 5):=by kernel_rfl
theorem Ik:dH prog 172 1 1:=⟨by kernel_rfl⟩
theorem Jk:Ty prog 170 1 24 [.slice none 0 0] false:=⟨by kernel_rfl,by kernel_rfl⟩
theorem aro:prog.underlying 231=some (.pointer 5):=by kernel_rfl
theorem iA:Ty prog 49 1 8 [.int .i64 0] false:=⟨by kernel_rfl,by kernel_rfl⟩
theorem qI:prog.underlying 203=some (.slice 49):=by kernel_rfl
theorem xS:∀ args w,(callFunc 128 args).run prog w=.ok (.enter 128 args) w:=enters func128 rfl (by kernel_rfl)
theorem yw (G:GH) (w0:World) (hG:Hold G w0) (n l h:Int):Calls prog 128 #[vi n,vi l,vi h] w0 (aZ w0 G fun u G'=>u=.bool (decide (l≤n∧n≤h))∧G=G'):=by
 refine eN [(0,_),(1,_),(2,_)] func128 rfl ntmps128 rfl rfl hG ?_;intro a H;refine kP H (SR fun _ K1=>ak K1 rfl (SR fun _ K2=>Rm rfl (Rm rfl (Rc rfl (Rm rfl (Sp 10 rfl ?_ ?_)))))) <;> clear H K1
 ·intro h10 a H
  try have kV:=dT h10
  exact kH H (YM h10 rfl (YM h10 rfl (YC h10 rfl (Pt h10 rfl (ak K2 rfl (LR results128 rfl fun H=>H.rt ⟨dL (by first|(simp_all;done)|(simp_all;omega)),rfl⟩))))))
 intro h10 a H
 try have kV:=dF h10
 exact kH H (bF h10 rfl (Pf h10 rfl (ak K2 rfl (LR results128 rfl fun H=>H.rt ⟨dL (by first|(simp_all;done)|(simp_all;omega)),rfl⟩))))
def dw (b:Bool) (e:Int):Int:=if b=true then e else 0
theorem jQ (G:GH) (w0:World) (hG:Hold G w0) (b:Bool) (e:Int):Calls prog 71 #[.bool b,vi e] w0 (aZ w0 G fun u G'=>u=vi (dw b e)∧G=G'):=by
 refine eN [(0,_),(1,_)] func71 rfl ntmps71 rfl rfl hG ?_;intro a H;refine kP H (SR fun _ K1=>ak K1 rfl (SQ fun _ K2=>SR fun _ K3=>Rm rfl (Kz K3 (Cd rfl ?_ ?_)))) <;> clear H K1 K3
 ·intro h5 a H
  try have p5:=dT h5
  exact kP H (SR fun _ K4=>Rm rfl (ak K4 rfl (LR results71 rfl fun H=>H.rt ⟨aB vi (by simp_all [dw]),rfl⟩)))
 intro h5 a H
 try have p5:=dF h5
 exact kP H (Kc K2 (SR fun _ K5=>ak K5 rfl (LR results71 rfl fun H=>H.rt ⟨aB vi (by simp_all [dw]),rfl⟩)))
def dR:List Int→Int
 | []=>0
 | e :: r=>if e≠0 then e else dR r
theorem Nf {l:List Int} {k:Nat} (h:k < l.length):dR (l.drop k)=if l[k]≠0 then l[k] else dR (l.drop (k+1)):=by
 rw [ng h,dR]
theorem rT (G:GH) (w0:World) (hG:Hold G w0) (l:List Int) (v:aj) (hv:av G (.sl 1 (l.map fun k=>[li k])) v) :
  Calls prog 66 #[v] w0 (aZ w0 G fun u G'=>u=vi (dR l)∧G=G'):=by
 obtain ⟨A,c,rfl,hc1,hc2,hg⟩:=hv.slice;have hml:maxLen=9223372036854775807:=rfl;rw [bG] at *;refine eN [(0,_)] func66 rfl ntmps66 rfl rfl hG ?_;intro a H;refine kP H (SR fun _ K1=>ak K1 rfl (SQ fun _ K2=>SR fun _ K3=>Rm rfl (Rl qI rfl (Rm rfl (Kz K3 (SB ?_))))));clear H K1 K3;intro a H;skip;refine eU (ι:=Nat) (Tc:=[(5,_),(6,_)]) (Lc:=[]) (fun gh=>[(7,vi gh)]) (fun gh=>[]) (fun gh=>G) (fun gh=>gh≤l.length∧dR (l.drop gh)=dR l) (fun gh=>l.length - gh) (0) (by exact (H).sub ⟨rfl,rfl,rfl,aC⟩) ?_ ?_
 ·exact ⟨gW _,rfl⟩
 clear H;intro k a w hI H;obtain ⟨hk,he⟩:=hI;dsimp only [lca,bJ] at H;refine kP H (SR fun _ K4=>Rc rfl (Kz K4 (SQ fun _ K5=>Cd rfl ?_ ?_))) <;> clear H K4
 ·intro h8 a H
  try have p8:=dT h8
  have hk2:k < l.length:=by omega
  obtain ⟨b,o,cs,rfl,hcl,hrow,hr⟩:=hg k [li l[k]] (by simp [hk2]);obtain ⟨v1,_,rfl,⟨rfl,-⟩,rfl⟩:∃ v vs,cs=v :: vs∧av G (li l[k]) v∧aU G [] vs:=hr
  have hcell:aI G b (o+k*1)=some (vi l[k]):=by simpa using hrow 0 _ rfl
  refine kP H (Kc K5 (SQ fun _ K6=>SB (SR fun _ K7=>Ri qI iA rfl rfl (Rg iA rfl hcell (ak K7 rfl (SR fun _ K8=>Rm rfl (Rc rfl (Kz K8 (Cd rfl ?_ ?_))))))))) <;> clear H K5 K7 K8
  ·intro h12 a H
   try have qb:=dT h12
   exact kP H (SR fun _ K9=>Rm rfl (ak K9 rfl (LR results66 rfl fun H=>H.rt ⟨aB vi (by rw [Nf hk2,au qb] at he;exact he),rfl⟩)))
  intro h12 a H
  try have qb:=dF h12
  refine kP H (Kc K6 (SC (Rd rfl (Rm rfl ?_))));clear H K6;intro a H;refine aD ?_;refine dD ((k+1)) (by exact (H).sub ⟨rfl,rfl,rfl,aC⟩) ?_
  exact ⟨by omega,by rw [Nf hk2,ah qb] at he;exact he⟩
 intro h8 a H
 try have p8:=dF h8
 refine dV ?_;refine K2 _ _ ?_;clear K2;exact kP H (SR fun _ aR=>ak aR rfl (LR results66 rfl fun H=>H.rt ⟨aB vi (by rw [jC (by omega)] at he;exact he),rfl⟩))
def uq (fv:aj) (Gi:GH) (n:Nat) (E:Nat→Int):Prop:=∀ i,i < n→∀ (G1:GH) (w1:World),(∀ b o,Gi b=some o→G1 b=some o)→Hold G1 w1→sj prog fv [vi i] w1 (aZ w1 G1 fun u G'=>u=vi (E i))
theorem uq.mono {fv:aj} {G G':GH} {n:Nat} {E:Nat→Int} (h:uq fv G n E) (hm:∀ b o,G b=some o→G' b=some o):uq fv G' n E:=fun i hi G1 w1 hG1=>h i hi G1 w1 fun b o hb=>hG1 b o (hm b o hb)
def kK (E:Nat→Int) (n:Nat):Int:=dR ((List.range n).map E)
theorem Fu {E:Nat→Int} {n k:Nat} (h:k < n):dR (((List.range n).map E).drop k)=if E k≠0 then E k else dR (((List.range n).map E).drop (k+1)):=by
 rw [Nf (by simpa using h)];simp
theorem JG (G:GH) (w0:World) (hG:Hold G w0) (n:Nat) (E:Nat→Int) (fv:aj) (hn:n≤4611686018427387904) (hf:uq fv G n E) :
  Calls prog 123 #[vi n,fv] w0 (aZ w0 G fun u G'=>u=vi (kK E n)):=by
 refine eN [(0,_),(1,_)] func123 rfl ntmps123 rfl rfl hG ?_;intro a H;refine kP H (SR fun _ K1=>ak K1 rfl (SQ fun _ K2=>SR fun _ K3=>Rm rfl (Rm rfl (Kz K3 (SB ?_)))));clear H K1 K3;intro a H;skip;refine eU (ι:=Nat × GH) (Tc:=[(1,_),(7,_)]) (Lc:=[]) (fun gh=>[(8,vi gh.1)]) (fun gh=>[]) (fun gh=>gh.2) (fun gh=>gh.1≤n∧dR (((List.range n).map E).drop gh.1)=kK E n∧(∀ b o,G b=some o→gh.2 b=some o)) (fun gh=>n - gh.1) ((0,G)) (by exact (H).sub ⟨rfl,rfl,rfl,aC⟩) ?_ ?_
 ·exact ⟨gW _,rfl,fun _ _ h=>h⟩
 clear H;rintro ⟨k,g⟩ a w hI H;dsimp only at hI H;obtain ⟨hk,he,hgm⟩:=hI;dsimp only [lca,bJ] at H;refine kP H (SR fun _ K4=>Rc rfl (Kz K4 (SQ fun _ K5=>Cd rfl ?_ ?_))) <;> clear H K4
 ·intro h9 a H
  try have p9:=dT h9
  have hk2:k < n:=by omega
  refine kP H (Kc K5 (SQ fun _ K6=>SB (SR fun _ K7=>Rm rfl (ak K7 rfl (SR fun _ K8=>Rm rfl (Rm rfl ?_))))));clear H K5 K7;intro a H;refine ko H wn rfl rfl (hf k hk2 _ _ hgm H.ro) rfl ?_;clear H;rintro v13 EX a w rfl FZ H;refine kH H (ak K8 rfl (SR fun _ K9=>Rm rfl (Rc rfl (Kz K9 (Cd rfl ?_ ?_))))) <;> clear H K8 K9
  ·intro iY a H
   try have qd:=dT iY
   exact kP H (SR fun _ aR=>Rm rfl (ak aR rfl (LR results123 rfl fun H=>H.rt (aB vi (by rw [Fu hk2,au qd] at he;exact he)))))
  intro iY a H
  try have qd:=dF iY
  refine kP H (Kc K6 (SC (Rd rfl (Rm rfl ?_))));clear H K6;intro a H;refine aD ?_;refine dD ((k+1,EX)) (by exact (H).sub ⟨rfl,rfl,rfl,aC⟩) ?_
  (try dsimp only);exact ⟨by omega,by rw [Fu hk2,ah qd] at he;exact he,fun b o h=>FZ b o (hgm b o h)⟩
 intro h9 a H
 try have p9:=dF h9
 refine dV ?_;refine K2 _ _ ?_;clear K2;exact kP H (SR fun _ bQ=>ak bQ rfl (LR results123 rfl fun H=>H.rt (aB vi (by rw [jC (by simp;omega)] at he;exact he))))
def qY (id:Nat→Int) (i:Nat):Int:=if ¬ (1≤id i∧id i≤1073741824) then 18 else if 0 < i∧id i=id (i - 1) then 7 else if 0 < i∧id i < id (i - 1) then 6 else 0
theorem TV (G:GH) (w0:World) (hG:Hold G w0) (i:Nat) (id:Nat→Int) (fv:aj) (hn:i≤4611686018427387904) (hf:uq fv G (i+1) id) :
  Calls prog 125 #[vi i,fv] w0 (aZ w0 G fun u G'=>u=vi (qY id i)):=by
 refine eN [(0,_),(1,_)] func125 rfl ntmps125 rfl rfl hG ?_;intro a H;refine kP H (SR fun _ K1=>ak K1 rfl (SQ fun _ K2=>SB (SR fun _ K3=>Rm rfl (Rm rfl ?_))));clear H K1;intro a H;refine ko H wn rfl rfl (hf i (Nat.lt_succ_self _) _ _ (fun _ _ h=>h) H.ro) rfl ?_;clear H;rintro v8 G8 a w rfl vV H;refine s_call xS H wn rfl (yw _ _ H.ro (id i) 1 1073741824) rfl ?_;clear H;rintro v9 _ a w ⟨rfl,rfl⟩ - H;refine kH H (Rn rfl (ak K3 rfl (Cd rfl ?_ ?_))) <;> clear H K3
 ·intro h5 a H
  try have p5:=dT h5
  refine kP H (SR fun _ K4=>ak K4 rfl ?_);clear H K4;intro a H;refine lr H results125 rfl ?_
  exact H.rt (aB vi (by unfold qY;(repeat' split) <;> first|rfl|(exfalso;simp_all;done)|(exfalso;simp_all;omega)))
 intro h5 a H
 try have p5:=dF h5
 refine kP H (SR fun _ K5=>Rm rfl (Rc rfl (Rm rfl (Sp 14 rfl ?_ ?_)))) <;> clear H
 ·intro gX a H
  try have sP:=dT gX
  refine kH H (YM gX rfl (YM gX rfl ?_));clear H;intro a H;refine ko H (wg H rfl rfl gX) rfl rfl (hf i (Nat.lt_succ_self _) _ _ vV H.ro) rfl ?_;clear H;rintro v17 vg a w rfl nN H;refine kH H (YM gX rfl (YM gX rfl ?_));clear H;intro a H;refine nS _ H (wg H rfl rfl gX) rfl rfl rfl (by omega) (by omega) rfl ?_;clear H;intro a H;rw [show ((i:Int) - 1)=((i - 1:Nat):Int) by omega] at H;refine ko H (wg H rfl rfl gX) rfl rfl (hf (i - 1) (by omega) _ _ (fun b o h=>nN b o (vV b o h)) H.ro) rfl ?_;clear H;rintro v21 Me a w rfl yg H;refine kH H (YC gX rfl (Pt gX rfl (ak K5 rfl (Cd rfl ?_ ?_)))) <;> clear H K5
  ·intro h11 a H
   try have oD:=dT h11
   refine kP H (SR fun _ K6=>ak K6 rfl ?_);clear H K6;intro a H;refine lr H results125 rfl ?_
   exact H.rt (aB vi (by unfold qY;(repeat' split) <;> first|rfl|(exfalso;simp_all;done)|(exfalso;simp_all;omega)))
  intro h11 a H
  try have oD:=dF h11
  refine kP H (SR fun _ K7=>Rm rfl (Rc rfl (Rm rfl (Sp 27 rfl ?_ ?_)))) <;> clear H
  ·intro h27 a H
   try have p27:=dT h27
   refine kH H (YM h27 rfl (YM h27 rfl ?_));clear H;intro a H;refine ko H (wg H rfl rfl h27) rfl rfl (hf i (Nat.lt_succ_self _) _ _ (fun b o h=>by first|exact yg b o (nN b o (vV b o h))|(exfalso;omega)) H.ro) rfl ?_;clear H;rintro v30 Ay a w rfl Bt H;refine kH H (YM h27 rfl (YM h27 rfl ?_));clear H;intro a H;refine nS _ H (wg H rfl rfl h27) rfl rfl rfl (by omega) (by omega) rfl ?_;clear H;intro a H;rw [show ((i:Int) - 1)=((i - 1:Nat):Int) by omega] at H;refine ko H (wg H rfl rfl h27) rfl rfl (hf (i - 1) (by omega) _ _ (fun b o h=>by first|exact Bt b o (yg b o (nN b o (vV b o h)))|(exfalso;omega)) H.ro) rfl ?_;clear H;rintro v34 Mh a w rfl IC H;refine kH H (YC h27 rfl (Pt h27 rfl (ak K7 rfl (Cd rfl ?_ ?_)))) <;> clear H K7
   ·intro fB a H
    try have mU:=dT fB
    refine kP H (SR fun _ K8=>ak K8 rfl ?_);clear H K8;intro a H;refine lr H results125 rfl ?_
    exact H.rt (aB vi (by unfold qY;(repeat' split) <;> first|rfl|(exfalso;simp_all;done)|(exfalso;simp_all;omega)))
   intro fB a H
   try have mU:=dF fB
   refine kP H (Kc K2 (SR fun _ K9=>ak K9 rfl ?_));clear H K2 K9;intro a H;refine lr H results125 rfl ?_
   exact H.rt (aB vi (by unfold qY;(repeat' split) <;> first|rfl|(exfalso;simp_all;done)|(exfalso;simp_all;omega)))
  intro h27 a H
  try have p27:=dF h27
  refine kH H (bF h27 rfl (bF h27 rfl (aQ h27 rfl (Pf h27 rfl (ak K7 rfl (Cf rfl rfl (Kc K2 (SR fun _ aR=>ak aR rfl ?_))))))));clear H K7 K2 aR;intro a H;refine lr H results125 rfl ?_
  exact H.rt (aB vi (by unfold qY;(repeat' split) <;> first|rfl|(exfalso;simp_all;done)|(exfalso;simp_all;omega)))
 intro gX a H
 try have sP:=dF gX
 refine kH H (bF gX rfl (bF gX rfl (aQ gX rfl (Pf gX rfl (ak K5 rfl (Cf rfl rfl (SR fun _ bQ=>Rm rfl (Rc rfl (Rm rfl (Sp 27 rfl ?_ ?_)))))))))) <;> clear H K5
 ·intro h27 a H
  try have p27:=dT h27
  refine kH H (YM h27 rfl (YM h27 rfl ?_));clear H;intro a H;refine ko H (wg H rfl rfl h27) rfl rfl (hf i (Nat.lt_succ_self _) _ _ (fun b o h=>by first|exact yg b o (nN b o (vV b o h))|(exfalso;omega)) H.ro) rfl ?_;clear H;rintro v30 Ay a w rfl Bt H;refine kH H (YM h27 rfl (YM h27 rfl ?_));clear H;intro a H;refine nS _ H (wg H rfl rfl h27) rfl rfl rfl (by omega) (by omega) rfl ?_;clear H;intro a H;rw [show ((i:Int) - 1)=((i - 1:Nat):Int) by omega] at H;refine ko H (wg H rfl rfl h27) rfl rfl (hf (i - 1) (by omega) _ _ (fun b o h=>by first|exact Bt b o (yg b o (nN b o (vV b o h)))|(exfalso;omega)) H.ro) rfl ?_;clear H;rintro v34 Mh a w rfl IC H;refine kH H (YC h27 rfl (Pt h27 rfl (ak bQ rfl (Cd rfl ?_ ?_)))) <;> clear H bQ
  ·intro fB a H
   try have mU:=dT fB
   refine kP H (SR fun _ bY=>ak bY rfl ?_);clear H bY;intro a H;refine lr H results125 rfl ?_
   exact H.rt (aB vi (by unfold qY;(repeat' split) <;> first|rfl|(exfalso;simp_all;done)|(exfalso;simp_all;omega)))
  intro fB a H
  try have mU:=dF fB
  refine kP H (Kc K2 (SR fun _ cZ=>ak cZ rfl ?_));clear H K2 cZ;intro a H;refine lr H results125 rfl ?_
  exact H.rt (aB vi (by unfold qY;(repeat' split) <;> first|rfl|(exfalso;simp_all;done)|(exfalso;simp_all;omega)))
 intro h27 a H
 try have p27:=dF h27
 refine kH H (bF h27 rfl (bF h27 rfl (aQ h27 rfl (Pf h27 rfl (ak bQ rfl (Cf rfl rfl (Kc K2 (SR fun _ dG=>ak dG rfl ?_))))))));clear H bQ K2 dG;intro a H;refine lr H results125 rfl ?_
 exact H.rt (aB vi (by unfold qY;(repeat' split) <;> first|rfl|(exfalso;simp_all;done)|(exfalso;simp_all;omega)))
theorem jO:∀ args w,(callFunc 71 args).run prog w=.ok (.enter 71 args) w:=enters func71 rfl (by kernel_rfl)
theorem rQ:∀ args w,(callFunc 66 args).run prog w=.ok (.enter 66 args) w:=enters func66 rfl (by kernel_rfl)
def xM (s:ByteArray):Bool:=decide (1≤s.size∧s.size≤40) && rG s
theorem WU (G:GH) (w0:World) (hG:Hold G w0) (s:ByteArray) (hs:s.size < 4611686018427387904):Calls prog 127 #[.string s] w0 (aZ w0 G fun u G'=>u=.bool (xM s)∧G=G'):=by
 refine eN [(0,_)] func127 rfl ntmps127 rfl rfl hG ?_;intro a H;refine kP H (SR fun _ K1=>ak K1 rfl (SR fun _ K2=>Rm rfl (Rv iB rfl (Rc rfl (Rm rfl (Sp 6 rfl ?_ ?_)))))) <;> clear H K1
 ·intro h6 a H
  try have p6:=dT h6
  refine kH H (YM h6 rfl ?_);clear H;intro a H;refine EK iB H (wg H rfl rfl h6) rfl rfl ?_;clear H;intro a H;refine kH H (YC h6 rfl (Pt h6 rfl (Rm rfl (Sp 11 rfl ?_ ?_)))) <;> clear H
  ·intro h11 a H
   try have oD:=dT h11
   refine kH H (YM h11 rfl ?_);clear H;intro a H;refine s_call JW H (wg H rfl rfl h11) rfl (LW _ _ H.ro s hs) rfl ?_;clear H;rintro v13 _ a w ⟨rfl,rfl⟩ - H;exact kH H (Pt h11 rfl (ak K2 rfl (LR results127 rfl fun H=>H.rt ⟨dL (by unfold xM;first|(simp_all;done)|(simp_all;omega)),rfl⟩)))
  intro h11 a H
  try have oD:=dF h11
  exact kH H (aQ h11 rfl (Pf h11 rfl (ak K2 rfl (LR results127 rfl fun H=>H.rt ⟨dL (by unfold xM;first|(simp_all;done)|(simp_all;omega)),rfl⟩))))
 intro h6 a H
 try have p6:=dF h6
 exact kH H (bF h6 rfl (Pf h6 rfl (Rm rfl (aQ rfl rfl (Pf rfl rfl (ak K2 rfl (LR results127 rfl fun H=>H.rt ⟨dL (by unfold xM;first|(simp_all;done)|(simp_all;omega)),rfl⟩)))))))
def Dw (s:ByteArray):Int:=dR [dw (!rG s) 12,dw (decide (1024 < (s.size:Int))) 10]
theorem zu {G:GH} {b:Nat} {x y:Int} (h:G b=some (.cells #[vi x,vi y] 49 (0,0))):av G (.sl 1 ([x,y].map fun k=>[li k])) (.slice (some ⟨b,0,none⟩) 2 2) :=
 av.fE (n:=2) (cap:=2) h rfl (bM _) (show 2≤maxLen by decide) (iC (bM _)) (fT G [x,y])
theorem Vj (G:GH) (w0:World) (hG:Hold G w0) (s:ByteArray) (hs:s.size < 4611686018427387904):Calls prog 190 #[.string s] w0 (aZ w0 G fun u G'=>u=vi (Dw s)):=by
 refine eN [(0,_)] func190 rfl ntmps190 rfl rfl hG ?_;intro a H;refine kP H (SR fun _ K1=>ak K1 rfl (SR fun _ K2=>Rm rfl ?_));clear H K1;intro a H;refine s_call JW H wn rfl (LW _ _ H.ro s hs) rfl ?_;clear H;rintro v4 _ a w ⟨rfl,rfl⟩ - H;refine kH H (Rn rfl ?_);clear H;intro a H;refine s_call jO H wn rfl (jQ _ _ H.ro _ 12) rfl ?_;clear H;rintro v6 _ a w ⟨rfl,rfl⟩ - H;refine kH H (Rm rfl (Rv iB rfl (Rc rfl ?_)));clear H;intro a H;refine s_call jO H wn rfl (jQ _ _ H.ro _ 10) rfl ?_;clear H;rintro v10 _ a w ⟨rfl,rfl⟩ - H;refine iE qI iA [_,_] [_,_] H wn rfl rfl rfl rfl rfl (by intro i q h;match i,h with|0,h=>exact h|1,h=>exact h|n+2,h=>simp at h) rfl rfl ?_;clear H;intro b11 a w Kw H;obtain ⟨sw,Br,El,H⟩:=H.eH;refine s_call rQ H wn rfl (rT _ _ H.ro _ _ (zu El)) rfl ?_;clear H;rintro v12 _ a w ⟨rfl,rfl⟩ - H;exact kH H (ak K2 rfl (LR results190 rfl fun H=>H.rt rfl))
def Od (c:Int):Bool:=decide (97≤wN .or .u8 c 32) && decide (wN .or .u8 c 32≤122)
def GJ (c:Int):Bool:=(decide (48≤c) && decide (c≤57)) || decide (c=45) || decide (c=95)
def BH (s:ByteArray) (k:Nat):Bool:=Od (gK s k) || (decide (k≠0) && GJ (gK s k))
def sH (s:ByteArray):Bool:=decide (1≤s.size∧s.size≤40) && (List.range s.size).all (BH s)
theorem Qy (G:GH) (w0:World) (hG:Hold G w0) (s:ByteArray) (hs:s.size < 4611686018427387904):Calls prog 192 #[.string s] w0 (aZ w0 G fun u G'=>u=.bool (sH s)∧G=G'):=by
 refine eN [(0,_)] func192 rfl ntmps192 rfl rfl hG ?_;intro a H;refine kP H (SR fun _ K1=>ak K1 rfl (SQ fun _ K2=>SR fun _ K3=>Rm rfl (Rv iB rfl (Rc rfl (Rm rfl (Sp 10 rfl ?_ ?_)))))) <;> clear H K1
 ·intro h10 a H
  try have kV:=dT h10
  exact kH H (bF h10 rfl (Pt h10 rfl (Kz K3 (Ct rfl rfl (SR fun _ K4=>ak K4 rfl (LR results192 rfl fun H=>H.rt ⟨dL (by unfold sH;rw [jY (by omega)];rfl),rfl⟩))))))
 intro h10 a H
 try have kV:=dF h10
 refine kH H (YM h10 rfl ?_);clear H;intro a H;refine EK iB H (wg H rfl rfl h10) rfl rfl ?_;clear H;intro a H;refine kH H (YC h10 rfl (Pf h10 rfl (Kz K3 (Cd rfl ?_ ?_)))) <;> clear H K3
 ·intro gX a H
  try have sP:=dT gX
  exact kP H (SR fun _ K5=>ak K5 rfl (LR results192 rfl fun H=>H.rt ⟨dL (by unfold sH;rw [jY (by omega)];rfl),rfl⟩))
 intro gX a H
 try have sP:=dF gX
 refine kP H (Kc K2 (SQ fun _ K6=>SR fun _ K7=>Rm rfl (Rv iB rfl (Rm rfl (Kz K7 (SB ?_))))));clear H K2 K7;intro a H;skip;refine eU (ι:=Nat) (Tc:=[(0,_),(16,_)]) (Lc:=[]) (fun gh=>[(17,vi gh)]) (fun gh=>[]) (fun gh=>G) (fun gh=>gh≤s.size∧(List.range gh).all (BH s)=true) (fun gh=>s.size - gh) (0) (by exact (H).sub ⟨rfl,rfl,rfl,aC⟩) ?_ ?_
 ·exact ⟨gW _,rfl⟩
 clear H;intro k a w hI H;obtain ⟨hk,hall⟩:=hI;dsimp only [lca,bJ] at H;refine kP H (SR fun _ K8=>Rc rfl (Kz K8 (SQ fun _ K9=>Cd rfl ?_ ?_))) <;> clear H K8
 ·intro h18 a H
  try have Dl:=dT h18
  have hk2:k < s.size:=by omega
  refine kP H (Kc K9 (SQ fun _ aR=>SB (SR fun _ bQ=>Rm rfl (ak bQ rfl (SR fun _ bY=>Rm rfl (Rm rfl ?_))))));clear H K9 bQ;intro a H;refine qh k iB H wn rfl rfl rfl (by omega) rfl ?_;clear H;intro a H;rw [← lN] at H;refine OJ rfl H wn rfl rfl rfl ?_;clear H;intro a H;refine kH H (ak bY rfl ?_);clear H bY;intro a H;refine sW (ι:=Bool) (Tc:=[(0,_),(3,_),(16,_),(17,_)]) (Lc:=[]) (fun gh=>[(5,.bool gh)]) (fun gh=>[]) (fun gh=>G) (fun gh=>gh=Od (gK s k)) (by exact (H).sub ⟨rfl,rfl,rfl,rfl,aC⟩) ?_ ?_
  ·skip;refine kP H (SC (Rm rfl (Rc rfl (Rm rfl (Sp 26 rfl ?_ ?_))))) <;> clear H
   ·intro jE a H
    try have p26:=dT jE
    refine kH H (YM jE rfl (YC jE rfl (Pt jE rfl (Ra rfl ?_))));clear H;intro a H;refine aD ?_;refine ⟨_,by exact (H).sub ⟨rfl,rfl,rfl,rfl,rfl,aC⟩,?_⟩
    unfold Od;first|(simp_all;done)|(simp_all;omega)
   intro jE a H
   try have p26:=dF jE
   refine kH H (aQ jE rfl (Pf jE rfl (Ra rfl ?_)));clear H;intro a H;refine aD ?_;refine ⟨_,by exact (H).sub ⟨rfl,rfl,rfl,rfl,rfl,aC⟩,?_⟩
   unfold Od;first|(simp_all;done)|(simp_all;omega)
  clear H;intro lt a w hI H;have hlt:=hI;dsimp only [lca,bJ] at H;refine sW (ι:=Bool) (Tc:=[(0,_),(3,_),(5,_),(16,_),(17,_)]) (Lc:=[]) (fun gh=>[(6,.bool gh)]) (fun gh=>[]) (fun gh=>G) (fun gh=>gh=GJ (gK s k)) (by exact (H).sub ⟨rfl,rfl,rfl,rfl,rfl,aC⟩) ?_ ?_
  ·skip;refine kP H (SC (Rm rfl (Rm rfl ?_)));clear H;intro a H;refine qh k iB H wn rfl rfl rfl (by omega) rfl ?_;clear H;intro a H;rw [← lN] at H;refine kH H (Rc rfl (Rm rfl (Sp 34 rfl ?_ ?_))) <;> clear H
   ·intro fZ a H
    try have p34:=dT fZ
    refine kH H (YM fZ rfl (YM fZ rfl ?_));clear H;intro a H;refine qh k iB H (wg H rfl rfl fZ) rfl rfl rfl (by omega) rfl ?_;clear H;intro a H;rw [← lN] at H;refine kH H (YC fZ rfl (Pt fZ rfl (Rm rfl (Sp 40 rfl ?_ ?_)))) <;> clear H
    ·intro kE a H
     try have p40:=dT kE
     refine kH H (aQ kE rfl (aQ kE rfl (Pt kE rfl (Rm rfl (aQ rfl rfl (aQ rfl rfl (Pt rfl rfl (Ra rfl ?_))))))));clear H;intro a H;refine aD ?_;refine ⟨_,by exact (H).sub ⟨rfl,rfl,rfl,rfl,rfl,rfl,aC⟩,?_⟩
     unfold GJ;first|(simp_all;done)|(simp_all;omega)
    intro kE a H
    try have p40:=dF kE
    refine kH H (YM kE rfl (YM kE rfl ?_));clear H;intro a H;refine qh k iB H (wg H rfl rfl kE) rfl rfl rfl (by omega) rfl ?_;clear H;intro a H;rw [← lN] at H;refine kH H (YC kE rfl (Pf kE rfl (Rm rfl (Sp 46 rfl ?_ ?_)))) <;> clear H
    ·intro h46 a H
     try have p46:=dT h46
     refine kH H (aQ h46 rfl (aQ h46 rfl (Pt h46 rfl (Ra rfl ?_))));clear H;intro a H;refine aD ?_;refine ⟨_,by exact (H).sub ⟨rfl,rfl,rfl,rfl,rfl,rfl,aC⟩,?_⟩
     unfold GJ;first|(simp_all;done)|(simp_all;omega)
    intro h46 a H
    try have p46:=dF h46
    refine kH H (YM h46 rfl (YM h46 rfl ?_));clear H;intro a H;refine qh k iB H (wg H rfl rfl h46) rfl rfl rfl (by omega) rfl ?_;clear H;intro a H;rw [← lN] at H;refine kH H (YC h46 rfl (Pf h46 rfl (Ra rfl ?_)));clear H;intro a H;refine aD ?_;refine ⟨_,by exact (H).sub ⟨rfl,rfl,rfl,rfl,rfl,rfl,aC⟩,?_⟩
    unfold GJ;first|(simp_all;done)|(simp_all;omega)
   intro fZ a H
   try have p34:=dF fZ
   refine kH H (aQ fZ rfl (aQ fZ rfl (Pf fZ rfl (Rm rfl ?_))));clear H;intro a H;(iterate 2 refine Jf H (wg H rfl rfl rfl) rfl rfl ?_;clear H;intro a H);refine qh k iB H (wg H rfl rfl rfl) rfl rfl rfl (by omega) rfl ?_;clear H;intro a H;rw [← lN] at H;refine Jd H (wg H rfl rfl rfl) rfl rfl rfl rfl ?_;clear H;intro a H;refine kH H (Pf rfl rfl (Rm rfl (Sp 46 rfl ?_ ?_))) <;> clear H
   ·intro h46 a H
    try have p46:=dT h46
    refine kH H (aQ h46 rfl (aQ h46 rfl (Pt h46 rfl (Ra rfl ?_))));clear H;intro a H;refine aD ?_;refine ⟨_,by exact (H).sub ⟨rfl,rfl,rfl,rfl,rfl,rfl,aC⟩,?_⟩
    unfold GJ;first|(simp_all;done)|(simp_all;omega)
   intro h46 a H
   try have p46:=dF h46
   refine kH H (YM h46 rfl (YM h46 rfl ?_));clear H;intro a H;refine qh k iB H (wg H rfl rfl h46) rfl rfl rfl (by omega) rfl ?_;clear H;intro a H;rw [← lN] at H;refine kH H (YC h46 rfl (Pf h46 rfl (Ra rfl ?_)));clear H;intro a H;refine aD ?_;refine ⟨_,by exact (H).sub ⟨rfl,rfl,rfl,rfl,rfl,rfl,aC⟩,?_⟩
   unfold GJ;first|(simp_all;done)|(simp_all;omega)
  clear H;intro ot a w hI H;have hot:=hI;dsimp only [lca,bJ] at H;refine kP H (SR fun _ cZ=>Rm rfl (Rn rfl (Rm rfl (Sp 54 rfl ?_ ?_)))) <;> clear H
  ·intro gL a H
   try have p54:=dT gL
   refine kH H (YM gL rfl (YC gL rfl (YM gL rfl (Sp 57 rfl ?_ ?_)))) <;> clear H
   ·intro h57 a H
    try have p57:=dT h57
    refine kH H (aQ h57 rfl (PT gL h57 rfl (Pt gL rfl (Kz cZ (Ct rfl rfl (SR fun _ dG=>ak dG rfl ?_))))));clear H cZ dG;intro a H;refine lr H results192 rfl ?_
    first
     | exact H.rt ⟨dL (by
       unfold sH
       rw [show k=s.size by omega] at hall
       rw [hall,jM (by omega)];rfl),rfl⟩
     | exact H.rt ⟨dL (by
       unfold sH
       rw [show (List.range s.size).all (BH s)=false from List.all_eq_false.2 ⟨k,by simpa using hk2,by unfold BH;simp_all⟩,Bool.and_false]),rfl⟩
   intro h57 a H
   try have p57:=dF h57
   refine kH H (YM h57 rfl (YN h57 rfl (PF gL h57 rfl (Pt gL rfl (Kz cZ (Cd rfl ?_ ?_)))))) <;> clear H cZ
   ·intro FP a H
    try have p61:=dT FP
    refine kP H (SR fun _ dZ=>ak dZ rfl ?_);clear H dZ;intro a H;refine lr H results192 rfl ?_
    first
     | exact H.rt ⟨dL (by
       unfold sH
       rw [show k=s.size by omega] at hall
       rw [hall,jM (by omega)];rfl),rfl⟩
     | exact H.rt ⟨dL (by
       unfold sH
       rw [show (List.range s.size).all (BH s)=false from List.all_eq_false.2 ⟨k,by simpa using hk2,by unfold BH;simp_all⟩,Bool.and_false]),rfl⟩
   intro FP a H
   try have p61:=dF FP
   refine kP H (Kc aR (SC (Rd rfl (Rm rfl ?_))));clear H aR;intro a H;refine aD ?_;refine dD ((k+1)) (by exact (H).sub ⟨rfl,rfl,rfl,aC⟩) ?_
   exact ⟨by omega,by rw [List.range_succ,List.all_append,hall];simp [BH];simp_all⟩
  intro gL a H
  try have p54:=dF gL
  refine kH H (bF gL rfl (Ku rfl (Ku rfl (Ks gL rfl (Pf gL rfl (Kz cZ (Cf rfl rfl (Kc aR (SC (Rd rfl (Rm rfl ?_)))))))))));clear H cZ aR;intro a H;refine aD ?_;refine dD ((k+1)) (by exact (H).sub ⟨rfl,rfl,rfl,aC⟩) ?_
  exact ⟨by omega,by rw [List.range_succ,List.all_append,hall];simp [BH];simp_all⟩
 intro h18 a H
 try have Dl:=dF h18
 refine dV ?_;refine K6 _ _ ?_;clear K6;refine kP H (SR fun _ eB=>ak eB rfl ?_);clear H eB;intro a H;refine lr H results192 rfl ?_
 first
  | exact H.rt ⟨dL (by
    unfold sH
    rw [show k=s.size by omega] at hall
    rw [hall,jM (by omega)];rfl),rfl⟩
  | exact H.rt ⟨dL (by
    unfold sH
    rw [show (List.range s.size).all (BH s)=false from List.all_eq_false.2 ⟨k,by simpa using hk2,by unfold BH;simp_all⟩,Bool.and_false]),rfl⟩
section
section
variable {N:Nat} {D:List Deferred} {w0:World} {F:Nat→Prop} {G0 G:GH} {L:OL} {T:List (Nat × aj)}
variable {r:Option Nat} {P:Program} {ops:Array Oper} {Q:Exit→Act→World→Prop} {rest:List Oper} {a:Act} {w:World}
variable {d:Nat} {ty:TypeId} {pos:String} {aL:Array Edge} {g:Option (Nat × Bool)}
end
end
section
section
variable {N:Nat} {D:List Deferred} {w0:World} {F:Nat→Prop} {G0 G:GH} {L:OL} {T T':List (Nat × aj)}
variable {r:Option Nat} {P:Program} {Q:Exit→Act→World→Prop} {l:List Oper} {a a':Act} {w w':World} {ε:Type}
def Hy (l:List Oper) (pr:ε→Nat→aj→Prop) (T:List (Nat × aj)) (S:Nat→Bool) (E:ε) (T':List (Nat × aj)):Prop :=
 (∀ t v,lk T t=some v→lk T' t=some v)∧∀ i d,S i=true→eG l i=some d→∃ v,lk T' d=some v∧pr E i v
theorem Hy.put {pr:ε→Nat→aj→Prop} {S:Nat→Bool} {E E':ε} {i d:Nat} {v:aj} (h:Hy l pr T S E T') (hok:afU l T=true) (hi:eG l i=some d) (hv:pr E' i v) (hE:∀ j u,j≠i→pr E j u→pr E' j u):Hy l pr T (eZ S i) E' ((d,v) :: T'):=by
 have hil:=xR hi
 have hok1:=kJ.1 hok i (uD.2 hil)
 rw [oP,hi] at hok1
 simp only [oN,Option.isNone_iff_eq_none,kJ,uD] at hok1
 refine ⟨fun t u ht=>?_,fun j e hj he=>?_⟩
 ·rw [wm (fun e=>by subst e;rw [hok1.1] at ht;cases ht)];exact h.1 t u ht
 ·by_cases hji:j=i
  ·subst hji;rw [hi] at he;cases he;exact ⟨v,xu _ _ _,hv⟩
  ·have hSj:S j=true:=by unfold eZ at hj;rwa [ah hji] at hj
   obtain ⟨u,hu1,hu2⟩:=h.2 j e hSj he
   have hne:d≠e:=by
    intro e';subst e'
    have h2:=hok1.2 j (xR he)
    have hb:Nat.beq i j=false:=xO (fun h=>hji h.symm)
    rw [hb,he] at h2
    simp at h2
   exact ⟨u,by rw [wm hne];exact hu1,hE j u hji hu2⟩
theorem Hy.add {pr:ε→Nat→aj→Prop} {S:Nat→Bool} {E:ε} (h:Hy l pr T S E T') {t:Nat} {u:aj} (hu:lk T' t=some u):Hy l pr T S E ((t,u) :: T'):=by
 have e:∀ s v,lk T' s=some v→lk ((t,u) :: T') s=some v:=fun s v hs=>by
  by_cases hst:t=s
  ·subst hst;rw [hu] at hs;cases hs;exact xu _ _ _
  ·rw [wm hst];exact hs
 exact ⟨fun s v hs=>e s v (h.1 s v hs),fun i d hi hd=>by
  obtain ⟨v,h1,h2⟩:=h.2 i d hi hd
  exact ⟨v,e d v h1,h2⟩⟩
end
end
section
section
variable {N:Nat} {D:List Deferred} {w0:World} {F:Nat→Prop} {G0 G G1 G2:GH} {L L1:OL} {T Xs:List (Nat × aj)}
variable {r:Option Nat} {P:Program} {Q:Exit→Act→World→Prop} {l:List Oper} {a a':Act} {w w':World}
theorem JJ {id:Nat} (hm:P.follows .mixedOrders=true) (bU:List (List Nat)) (B:List Nat) (hk:zI l bU=true) (hB:yI l bU B=true) (X:(Nat→Bool)→Act→World→Prop) (h0:X (fun _=>false) a w.drew)
  (hstep:∀ i o S a w,l[i]?=some o→B.contains i=false→S i=false→(∀ j∈bU.getD i [],S j=true)→(∀ j,j < l.length→i∈bU.getD j []→S j=false)→X S a w→WL r P l.toArray (fun e a' w'=>e=.normal∧X (eZ S i) a' w') [o] a w)
  (hend:∀ S a w,(∀ i,i < l.length→B.contains i=false→S i=true)→(∀ i,B.contains i=true→S i=false)→X S a w→WL r P l.toArray (fun e a w=>e=.normal∧Q .normal a w) (qF l B) a w):WP r P (.region id l.toArray true) Q a w:=by
 have hB1:∀ p b,B[p]?=some b→b < l.length∧∀ i,i < l.length→(B.contains i=false∨(B.take p).contains i=true)→i∈bU.getD b []:=by
  intro p b hp
  simp only [yI,oN] at hB
  have h1:=kJ.1 hB.1 p (uD.2 (jB.1 hp).1)
  rw [hp] at h1
  simp only [oN,kJ,uD] at h1
  refine ⟨Eq.mp Nat.blt_eq h1.1,fun i hi hor=>?_⟩
  have h2:=h1.2 i hi
  rcases hor with h3|h3
  ·have h4:i∉B:=by simpa using h3
   simpa [h4] using h2
  ·have h4:i∈B.take p:=by simpa using h3
   simpa [h4] using h2
 have hB2:∀ i,i < l.length→B.contains i=false→∀ j∈bU.getD i [],B.contains j=false:=by
  intro i hi hb j hj
  simp only [yI,oN] at hB
  have h1:=kJ.1 hB.2 i (uD.2 hi)
  rw [hb] at h1
  simp only [Bool.false_or,kJ] at h1
  simpa using h1 j hj
 refine Xh hm bU hk (fun S a w=>((∀ i,B.contains i=true→S i=false)∧X S a w) ∨
   ∃ p,(∀ i,i < l.length→B.contains i=false→S i=true)∧(∀ i,(B.take p).contains i=true→S i=true)∧(∀ q b,B[q]?=some b→p≤q→S b=false)∧WL r P l.toArray (fun e a w=>e=.normal∧Q .normal a w) (qF l (B.drop p)) a w)
  (.inl ⟨fun _ _=>rfl,h0⟩) ?_ ?_
 ·intro i o S a w ho hX aP lS hdesc
  have hil:i < l.length:=(jB.1 ho).1
  by_cases hbi:B.contains i=true
  ·-- an operation of the tail: all that stands ahead of it is done
   obtain ⟨p0,hp0⟩:=List.getElem?_of_mem (by simpa using hbi:i∈B)
   have hall:∀ j,j < l.length→B.contains j=false→S j=true:=fun j hj hb=>lS j ((hB1 p0 i hp0).2 j hj (.inl hb))
   have Tw:∃ p,(∀ i,(B.take p).contains i=true→S i=true)∧(∀ q b,B[q]?=some b→p≤q→S b=false)∧WL r P l.toArray (fun e a w=>e=.normal∧Q .normal a w) (qF l (B.drop p)) a w:=by
    rcases hX with ⟨h1,hD⟩|⟨p,_,h2,h3,h4⟩
    ·exact ⟨0,by simp,fun q b hq _=>h1 b (by simpa using kQ hq),hend S a w hall h1 hD⟩
    ·exact ⟨p,h2,h3,h4⟩
   obtain ⟨p,h2,h3,h4⟩:=Tw
   -- i is the next one
   have hpp:p≤p0:=by
    rcases Nat.lt_or_ge p0 p with hlt|hge
    ·have:(B.take p).contains i=true:=by
      simp only [yP]
      exact kQ (i:=p0) (by rw [sU,au hlt];exact hp0)
     rw [h2 i this] at aP;cases aP
    ·exact hge
   have F5:p < B.length:=by have:=(jB.1 hp0).1;omega
   have hbp:B[p]?=some B[p]:=eT F5
   have heq:B[p]=i:=by
    rcases Nat.lt_or_ge p p0 with hlt|hge
    ·exfalso
     have hin:B[p]∈bU.getD i []:=(hB1 p0 i hp0).2 _ (hB1 p _ hbp).1 (.inr (by
      simp only [yP]
      exact kQ (i:=p) (by rw [sU,au hlt];exact hbp)))
     have:=lS _ hin
     rw [h3 p _ hbp (bM _)] at this;cases this
    ·have:p=p0:=by omega
     subst this
     rw [hbp] at hp0;simpa using hp0
   have hdrop:B.drop p=i :: B.drop (p+1):=by rw [ng F5,heq]
   have hops:qF l (B.drop p)=o :: qF l (B.drop (p+1)):=by rw [hdrop];simp [qF,ho]
   rw [hops] at h4
   refine adh (fun a' w' h5=>.inr ⟨p+1,fun j hj hb=>?_,fun j hj=>?_,fun q b hq hpq=>?_,h5⟩) h4
   ·unfold eZ;split
    ·rfl
    ·exact hall j hj hb
   ·unfold eZ;split
    ·rfl
    ·rename_i hne
     refine h2 j ?_
     simp only [yP] at hj ⊢
     rw [iU F5,nH] at hj
     rcases hj with hj|hj
     ·exact hj
     ·simp only [uE] at hj;exact absurd (hj.trans heq) hne
   ·unfold eZ
    rw [ah ?_]
    ·exact h3 q b hq (by omega)
    ·rintro rfl
     -- i would stand twice in B: it would come ahead of itself
     have h6:=(hB1 q b hq).2 b (hB1 q b hq).1 (.inr (by
      simp only [yP]
      exact kQ (i:=p) (by rw [sU,au (by omega)];rw [hbp,heq])))
     rw [lS _ h6] at aP;cases aP
  ·have FX:B.contains i=false:=by cases h:B.contains i with|false=>rfl|true=>exact absurd h hbi
   rcases hX with ⟨h1,hX⟩|⟨p,h0,_,_,_⟩
   ·refine ql (fun e a' w' ⟨he,hD⟩=>⟨he,.inl ⟨fun j hj=>?_,hD⟩⟩) (hstep i o S a w ho FX aP lS hdesc hX)
    unfold eZ
    rw [ah (by rintro rfl;rw [FX] at hj;cases hj)]
    exact h1 j hj
   ·rw [h0 i hil FX] at aP;cases aP
 ·intro S a w hall hX
  rcases hX with ⟨h1,hD⟩|⟨p,_,_,h3,h4⟩
  ·have hnil:B=[]:=by
    cases B with
    | nil=>rfl
    | cons b B=>have h5:=h1 b (by simp);rw [hall b (hB1 0 b rfl).1] at h5;cases h5
   subst hnil
   exact (hend S a w (fun j hj _=>hall j hj) h1 hD).2
  ·have hnil:B.drop p=[]:=by
    cases hd:B.drop p with
    | nil=>rfl
    | cons b B' =>
     have hb:B[p]?=some b:=by
      have:=aB (fun x:List Nat=>x[0]?) hd
      simpa using this
     have h5:=h3 p b hb (bM _)
     rw [hall b (hB1 p b hb).1] at h5;cases h5
   rw [hnil] at h4
   exact h4.2
theorem aek {id:Nat} (hm:P.follows .mixedOrders=true) (bU:List (List Nat)) (B:List Nat) (hk:zI l bU=true) (hB:yI l bU B=true) (m:Nat) (KG:B.contains m=false) (ob:Obj) (pr:Nat→Nat→aj→GH→Prop)
  (KO:∀ b b' i v G,i≠m→pr b i v G→pr b' i v G) (H:St N D w0 F G0 G L T a w)
  (hstep:allI (fun i o=>∀ b L' S a w G1,B.contains i=false→Nat.beq i m=false→S i=false→(∀ j∈bU.getD i [],S j=true)→(∀ k o,G k=some o→G1 k=some o)→St N D w0 F G0 G1 L' T a w→(∀ i d,S i=true→eG l i=some d→∃ v,a.tmps[d]?=some v∧pr b i v G1) →
   WL r P l.toArray (fun e a' w'=>e=.normal∧DX N D w0 F G0 G L' T l (pr b) (eZ S i) a' w') [o] a w) 0 l)
  (hmid:∀ o S a w G1,l[m]?=some o→S m=false→(∀ j∈bU.getD m [],S j=true)→(∀ k o,G k=some o→G1 k=some o)→St N D w0 F G0 G1 L T a w→(∀ b i d,i≠m→S i=true→eG l i=some d→∃ v,a.tmps[d]?=some v∧pr b i v G1) →
   WL r P l.toArray (fun e a' w'=>e=.normal∧∃ b,DX N D w0 F G0 G ((b,ob) :: L) T l (pr b) (eZ S m) a' w') [o] a w)
  (hend:∀ b a w G1,(∀ k o,G k=some o→G1 k=some o)→St N D w0 F G0 G1 ((b,ob) :: L) T a w→(∀ i d,B.contains i=false→eG l i=some d→∃ v,a.tmps[d]?=some v∧pr b i v G1)→WL r P l.toArray (fun e a w=>e=.normal∧Q .normal a w) (qF l B) a w)
  (hml:Nat.blt m l.length=true):WP r P (.region id l.toArray true) Q a w:=by
 refine JJ hm bU B hk hB (fun S a w=>∃ b L',(S m=false→L'=L)∧(S m=true→L'=(b,ob) :: L)∧DX N D w0 F G0 G L' T l (pr b) S a w)
  ⟨0,L,fun _=>rfl,fun h=>absurd (show false=true from h) (by decide),G,fun _ _ h=>h,H.move H.hp.drew,fun _ _ h=>absurd (show false=true from h) (by decide)⟩ ?_ ?_
 ·rintro i o S a w ho hb aP lS hdesc ⟨b,L',h1,h2,G1,hG,HS,hv⟩
  by_cases him:i=m
  ·subst him
   have e:=h1 aP;subst e
   have h:=hmid o S a w G1 ho aP lS hG HS fun b' j d hj hSj hd=>by
    obtain ⟨v,hv1,hv2⟩:=hv j d hSj hd
    exact ⟨v,hv1,KO b b' j v _ hj hv2⟩
   have e1:eZ S i i=true:=au rfl
   exact ql (fun e a' w' ⟨he,b',hD⟩=>⟨he,b',_,fun h=>absurd (e1.symm.trans h) (by decide),fun _=>rfl,hD⟩) h
  ·have h:=Ck hstep i o ho
   rw [gI] at h
   have e:eZ S i m=S m:=ah (fun h=>him h.symm)
   exact ql (fun e' a' w' ⟨he,hD⟩=>⟨he,b,L',fun h=>h1 (e ▸ h),fun h=>h2 (e ▸ h),hD⟩) (h b L' S a w G1 hb (xO him) aP lS hG HS hv)
 ·rintro S a w hall NM ⟨b,L',h1,h2,G1,hG,HS,hv⟩
  have IG:S m=true:=hall m (Eq.mp Nat.blt_eq hml) KG
  have e:=h2 IG;subst e
  exact hend b a w G1 hG HS fun j d hb hd=>hv j d (hall j (xR hd) hb) hd
theorem MX {pr:Nat→aj→GH→Prop} {S:Nat→Bool} {i d:Nat} {v:aj} (hok:oP l T i=true) (hi:eG l i=some d) 
  (HT:St N D w0 F G0 G1 L T a w) (Hb:St N D w0 F G0 G1 L (Xs++full N a) a w) (hG:∀ k o,G k=some o→G1 k=some o) (hv:∀ j d,j≠i→S j=true→eG l j=some d→∃ v,a.tmps[d]?=some v∧pr j v G1)
  (hp:pr i v G1) (H:St N D w0 F G0 G1 L1 ((d,v) :: (Xs++full N a)) a' w'):DX N D w0 F G0 G L1 T l pr (eZ S i) a' w':=by
 have hil:i < l.length:=xR hi
 have hok1:=hok
 rw [oP,hi] at hok1
 simp only [oN,Option.isNone_iff_eq_none,kJ,uD] at hok1
 have hsame:∀ t,t≠d→a'.tmps[t]?=a.tmps[t]?:=by
  intro t ht
  by_cases hlt:t < N
  ·have h1:∃ u,lk (Xs++full N a) t=some u:=by
    rw [Ob]
    cases lk Xs t with
    | some u=>exact ⟨u,rfl⟩
    | none=>exact ⟨_,Oc a hlt⟩
   obtain ⟨u,hu⟩:=h1
   rw [Hb.get t u hu,H.get t u (by rw [wm (Ne.symm ht)];exact hu)]
  ·rw [Array.getElem?_eq_none (by rw [H.nL];omega),Array.getElem?_eq_none (by rw [Hb.nL];omega)]
 refine ⟨G1,hG,⟨H.nL,fun t u ht=>?_,H.tu,H.hp⟩,fun j e hj he=>?_⟩
 ·rw [hsame t (fun e=>by rw [e,hok1.1] at ht;cases ht)]
  exact HT.get t u ht
 ·by_cases hji:j=i
  ·subst hji
   rw [hi] at he
   simp only [oq] at he
   subst he
   exact ⟨v,H.get d v (xu _ _ _),hp⟩
  ·have hSj:S j=true:=by unfold eZ at hj;rwa [ah hji] at hj
   obtain ⟨u,hu1,hu2⟩:=hv j e hji hSj he
   have hne:e≠d:=by
    intro e'
    subst e'
    have h2:=hok1.2 j (xR he)
    rw [xO (fun h=>hji h.symm),he] at h2
    simp at h2
   exact ⟨u,by rw [hsame e hne];exact hu1,hu2⟩
end
end
section
section
variable {N:Nat} {D:List Deferred} {w0:World} {F:Nat→Prop} {G0 G G1 G2:GH} {L L1:OL} {T Xs:List (Nat × aj)}
variable {r:Option Nat} {P:Program} {Q:Exit→Act→World→Prop} {l:List Oper} {a a':Act} {w w':World}
theorem ael {id:Nat} (hm:P.follows .mixedOrders=true) (bU:List (List Nat)) (B:List Nat) (hk:zI l bU=true) (hB:yI l bU B=true) (m:Nat) (KG:B.contains m=false) (ob:Obj) (pr:Nat→Nat→aj→GH→Prop)
  (KO:∀ b b' i v G,i≠m→pr b i v G→pr b' i v G) (H:St N D w0 F G0 G L T a w)
  (hstep:allI (fun i o=>∀ b L' S a w G1,(∀ x,x∈L→x∈L')→B.contains i=false→Nat.beq i m=false→S i=false→(∀ j∈bU.getD i [],S j=true)→(∀ k o,G k=some o→G1 k=some o)→St N D w0 F G0 G1 L' T a w→(∀ i d,S i=true→eG l i=some d→∃ v,a.tmps[d]?=some v∧pr b i v G1) →
   WL r P l.toArray (fun e a' w'=>e=.normal∧DX N D w0 F G0 G L' T l (pr b) (eZ S i) a' w') [o] a w) 0 l)
  (hmid:∀ o S a w G1,l[m]?=some o→S m=false→(∀ j∈bU.getD m [],S j=true)→(∀ k o,G k=some o→G1 k=some o)→St N D w0 F G0 G1 L T a w→(∀ b i d,i≠m→S i=true→eG l i=some d→∃ v,a.tmps[d]?=some v∧pr b i v G1) →
   WL r P l.toArray (fun e a' w'=>e=.normal∧∃ b,DX N D w0 F G0 G ((b,ob) :: L) T l (pr b) (eZ S m) a' w') [o] a w)
  (hend:∀ b a w G1,(∀ k o,G k=some o→G1 k=some o)→St N D w0 F G0 G1 ((b,ob) :: L) T a w→(∀ i d,B.contains i=false→eG l i=some d→∃ v,a.tmps[d]?=some v∧pr b i v G1)→WL r P l.toArray (fun e a w=>e=.normal∧Q .normal a w) (qF l B) a w)
  (hml:Nat.blt m l.length=true):WP r P (.region id l.toArray true) Q a w:=by
 refine JJ hm bU B hk hB (fun S a w=>∃ b L',(S m=false→L'=L)∧(S m=true→L'=(b,ob) :: L)∧DX N D w0 F G0 G L' T l (pr b) S a w)
  ⟨0,L,fun _=>rfl,fun h=>absurd (show false=true from h) (by decide),G,fun _ _ h=>h,H.move H.hp.drew,fun _ _ h=>absurd (show false=true from h) (by decide)⟩ ?_ ?_
 ·rintro i o S a w ho hb aP lS hdesc ⟨b,L',h1,h2,G1,hG,HS,hv⟩
  by_cases him:i=m
  ·subst him
   have e:=h1 aP;subst e
   have h:=hmid o S a w G1 ho aP lS hG HS fun b' j d hj hSj hd=>by
    obtain ⟨v,hv1,hv2⟩:=hv j d hSj hd
    exact ⟨v,hv1,KO b b' j v _ hj hv2⟩
   have e1:eZ S i i=true:=au rfl
   exact ql (fun e a' w' ⟨he,b',hD⟩=>⟨he,b',_,fun h=>absurd (e1.symm.trans h) (by decide),fun _=>rfl,hD⟩) h
  ·have h:=Ck hstep i o ho
   rw [gI] at h
   have e:eZ S i m=S m:=ah (fun h=>him h.symm)
   exact ql (fun e' a' w' ⟨he,hD⟩=>⟨he,b,L',fun h=>h1 (e ▸ h),fun h=>h2 (e ▸ h),hD⟩) (h b L' S a w G1 (fun x hx=>by
    cases hS:S m with
    | false=>rw [h1 hS];exact hx
    | true=>rw [h2 hS];exact iQ _ hx) hb (xO him) aP lS hG HS hv)
 ·rintro S a w hall NM ⟨b,L',h1,h2,G1,hG,HS,hv⟩
  have IG:S m=true:=hall m (Eq.mp Nat.blt_eq hml) KG
  have e:=h2 IG;subst e
  exact hend b a w G1 hG HS fun j d hb hd=>hv j d (hall j (xR hd) hb) hd
end
end
section
section
variable {N:Nat} {D:List Deferred} {w0:World} {F:Nat→Prop} {G0 G G1 G2:GH} {L L1 L2:OL} {T Xs:List (Nat × aj)}
variable {r:Option Nat} {P:Program} {Q:Exit→Act→World→Prop} {l:List Oper} {a a':Act} {w w':World}
theorem afT {pr:Nat→aj→GH→Prop} {S:Nat→Bool} {i:Nat} (hi:eG l i=none) (HT:St N D w0 F G0 G1 L T a w) (hG:∀ k o,G k=some o→G1 k=some o) (hv:∀ i d,S i=true→eG l i=some d→∃ v,a.tmps[d]?=some v∧pr i v G1)
  (H:St N D w0 F G0 G1 L2 (Xs++full N a) a w'):DX N D w0 F G0 G L2 T l pr (eZ S i) a w' :=
 ⟨G1,hG,HT.move H.hp,fun j e hj he=>hv j e (by
  unfold eZ at hj
  by_cases hji:j=i
  ·subst hji;rw [hi] at he;cases he
  ·rwa [ah hji] at hj) he⟩
theorem aeo {id:Nat} (hm:P.follows .mixedOrders=true) (bU:List (List Nat)) (B:List Nat) (hk:zI l bU=true) (hB:yI l bU B=true) (m:Nat) (KG:B.contains m=false) (pr:Nat→aj→GH→Prop) (ix:Nat) (ob:Nat × Obj)
  (H:St N D w0 F G0 G L T a w)
  (hstep:allI (fun i o=>∀ S a w G1,B.contains i=false→Nat.beq i m=false→S i=false→(∀ j∈bU.getD i [],S j=true)→(∀ k o,G k=some o→G1 k=some o)→St N D w0 F G0 G1 L T a w→(∀ i d,S i=true→eG l i=some d→∃ v,a.tmps[d]?=some v∧pr i v G1) →
   WL r P l.toArray (fun e a' w'=>e=.normal∧DX N D w0 F G0 G L T l pr (eZ S i) a' w') [o] a w) 0 l)
  (hmid:∀ o S a w G1,l[m]?=some o→S m=false→(∀ j∈bU.getD m [],S j=true)→(∀ k o,G k=some o→G1 k=some o)→St N D w0 F G0 G1 L T a w→(∀ i d,S i=true→eG l i=some d→∃ v,a.tmps[d]?=some v∧pr i v G1) →
   WL r P l.toArray (fun e a' w'=>e=.normal∧DX N D w0 F G0 G (L.set ix ob) T l pr (eZ S m) a' w') [o] a w)
  (hstep2:allI (fun i o=>∀ S a w G1,(B.contains i || (bU.getD m []).contains i)=false→Nat.beq i m=false→S i=false→(∀ j∈bU.getD i [],S j=true)→(∀ k o,G k=some o→G1 k=some o)→St N D w0 F G0 G1 (L.set ix ob) T a w→(∀ i d,S i=true→eG l i=some d→∃ v,a.tmps[d]?=some v∧pr i v G1) →
   WL r P l.toArray (fun e a' w'=>e=.normal∧DX N D w0 F G0 G (L.set ix ob) T l pr (eZ S i) a' w') [o] a w) 0 l)
  (hend:∀ a w G1,(∀ k o,G k=some o→G1 k=some o)→St N D w0 F G0 G1 (L.set ix ob) T a w→(∀ i d,B.contains i=false→eG l i=some d→∃ v,a.tmps[d]?=some v∧pr i v G1)→WL r P l.toArray (fun e a w=>e=.normal∧Q .normal a w) (qF l B) a w)
  (hml:Nat.blt m l.length=true):WP r P (.region id l.toArray true) Q a w:=by
 refine JJ hm bU B hk hB (fun S a w=>(S m=false∧DX N D w0 F G0 G L T l pr S a w)∨(S m=true∧DX N D w0 F G0 G (L.set ix ob) T l pr S a w))
  (.inl ⟨rfl,G,fun _ _ h=>h,H.move H.hp.drew,fun _ _ h=>absurd (show false=true from h) (by decide)⟩) ?_ ?_
 ·rintro i o S a w ho hb aP lS hdesc hX
  by_cases him:i=m
  ·subst him
   rcases hX with ⟨_,G1,hG,HS,hv⟩|⟨h1,_⟩
   ·have h:=hmid o S a w G1 ho aP lS hG HS hv
    have e1:eZ S i i=true:=au rfl
    exact ql (fun e a' w' ⟨he,hD⟩=>⟨he,.inr ⟨e1,hD⟩⟩) h
   ·rw [h1] at aP;cases aP
  ·have e:eZ S i m=S m:=ah (fun h=>him h.symm)
   rcases hX with ⟨h1,G1,hG,HS,hv⟩|⟨h1,G1,hG,HS,hv⟩
   ·have h:=Ck hstep i o ho
    rw [gI] at h
    exact ql (fun e' a' w' ⟨he,hD⟩=>⟨he,.inl ⟨e.trans h1,hD⟩⟩) (h S a w G1 hb (xO him) aP lS hG HS hv)
   ·have h:=Ck hstep2 i o ho
    rw [gI] at h
    have hnc:(B.contains i || (bU.getD m []).contains i)=false:=by
     rw [hb,Bool.false_or]
     cases hc2:(bU.getD m []).contains i with
     | false=>rfl
     | true=>have:=hdesc m (Eq.mp Nat.blt_eq hml) (yP.1 hc2);rw [h1] at this;cases this
    exact ql (fun e' a' w' ⟨he,hD⟩=>⟨he,.inr ⟨e.trans h1,hD⟩⟩) (h S a w G1 hnc (xO him) aP lS hG HS hv)
 ·rintro S a w hall NM hX
  have IG:S m=true:=hall m (Eq.mp Nat.blt_eq hml) KG
  rcases hX with ⟨h1,_⟩|⟨h1,G1,hG,HS,hv⟩
  ·rw [h1] at IG;cases IG
  ·exact hend a w G1 hG HS fun j d hb hd=>hv j d (hall j (xR hd) hb) hd
end
end
theorem anc:liesAt prog prog.depth 340 (7 / prog.cellsOf 340) 2 172 1=true:=by kernel_rfl
theorem O4:Ty prog 5 1 1 [.int .u8 0] false:=⟨by kernel_rfl,by kernel_rfl⟩
abbrev iw (b:Nat) (s:ByteArray) (i:Int) (p v q:aj) (pl e:Int):Nat × Obj:=(b,.cells #[.string s,vi i,p,v,q,vi pl,vi e] 340 (0,0))
theorem apZ (G:GH) (L:OL) (w0:World) (b:Nat) (s:ByteArray) (i:Int) (A:Option Addr) (n c:Nat) (B:Option Addr) (m d:Nat) (pl e:Int) (hO:gD G (iw b s i (.pointer none) (.slice A n c) (.slice B m d) pl e :: L) w0) :
  Calls prog 154 #[(aK b 2)] w0 (fV w0 G (iw b s i (.pointer none) (.slice A n c) (.slice B m d) pl e :: L) fun u G' L'=>L'=iw b s i (aK b 2) (.slice A n c) (.slice B m d) pl e :: L∧G'=G):=by
 refine iX (N:=20) (T:=[(0,_)]) func154 rfl ntmps154 rfl rfl hO ?_;intro a H;refine kP H (SR fun _ K1=>Rm rfl (Rk rfl (aY J3 LD 0 rfl rfl ?_)));clear H;intro a H;refine abR LK H wn rfl rfl ?_;clear H;intro a H;refine K1 _ _ ?_;clear K1;refine jD H rfl ?_ ?_
 ·intro h6
  refine kP H (SC (Rm rfl (Rm rfl ?_)));clear H;intro a H;refine apV LK acH U9 H wn rfl 0 rfl rfl rfl ?_;clear H;intro a H;refine apN (xs:=[.tmp 9]) (anJ _) H wn rfl rfl ?_;clear H;intro a H;refine apH acH LK U9 H wn rfl 0 rfl anc rfl ?_;clear H;intro a H;refine kH H (Rk rfl (Rf J3 rfl ?_));clear H;intro a H;refine bD LD 0 (vs:=[_]) _ H wn rfl rfl rfl rfl rfl rfl rfl rfl ?_;clear H;intro w H;dsimp only [List.set,setRow] at H;refine aD ?_;refine (leave0 H results154 ?_).2;exact H.hp.dx ⟨rfl,rfl⟩
 intro h6
 exact absurd h6 (by decide)
theorem aqa (G:GH) (L:OL) (w0:World) (b:Nat) (s:ByteArray) (i:Int) (A:Option Addr) (n c:Nat) (B:Option Addr) (m d:Nat) (pl e:Int) (hO:gD G (iw b s i (aK b 2) (.slice A n c) (.slice B m d) pl e :: L) w0) :
  Calls prog 154 #[(aK b 2)] w0 (fV w0 G (iw b s i (aK b 2) (.slice A n c) (.slice B m d) pl e :: L) fun u G' L'=>L'=iw b s i (aK b 2) (.slice A n c) (.slice B m d) pl e :: L∧G'=G):=by
 refine iX (N:=20) (T:=[(0,_)]) func154 rfl ntmps154 rfl rfl hO ?_;intro a H;refine kP H (SR fun _ K1=>Rm rfl (Rk rfl (aY J3 LD 0 rfl rfl ?_)));clear H;intro a H;refine abR LK H wn rfl rfl ?_;clear H;intro a H;refine K1 _ _ ?_;clear K1;refine jD H rfl ?_ ?_
 ·intro h6
  exact absurd h6 (by simp)
 intro h6
 refine kP H (SR fun _ K2=>Rm rfl (Rk rfl (aY J3 LD 0 rfl rfl (Rm rfl ?_))));clear H;intro a H;refine apL LK U9 H wn rfl rfl rfl ?_;clear H;intro a H;refine K2 _ _ ?_;clear K2;refine jD H rfl ?_ ?_
 ·intro h19
  exact absurd h19 (by decide)
 intro h19
 refine gU ?_;refine (leave0 H results154 ?_).2;exact H.hp.dx ⟨rfl,rfl⟩
theorem aqb (G:GH) (L:OL) (w0:World) (b:Nat) (s:ByteArray) (i:Int) (p:aj) (A:Option Addr) (n c:Nat) (B:Option Addr) (m d:Nat) (pl e:Int) (hp:p=.pointer none∨p=(aK b 2)) (hO:gD G (iw b s i p (.slice A n c) (.slice B m d) pl e :: L) w0) :
  Calls prog 154 #[(aK b 2)] w0 (fV w0 G (iw b s i p (.slice A n c) (.slice B m d) pl e :: L) fun u G' L'=>L'=iw b s i (aK b 2) (.slice A n c) (.slice B m d) pl e :: L∧G'=G):=by
 rcases hp with rfl|rfl
 ·exact apZ G L w0 b s i A n c B m d pl e hO
 exact aqa G L w0 b s i A n c B m d pl e hO
theorem acZ (G:GH) (Lp Lo:OL) (w0:World) (b:Nat) (s:ByteArray) (i:Int) (p v:aj) (B:Option Addr) (m d:Nat) (pl e:Int) (n:Nat) (xs:List aj) (c:Int) (hp:p=.pointer none∨p=(aK b 2)) (hO:gD G (iw b s i p v (.slice B m d) pl e :: (Lp++Lo)) w0) (hrow:bZ 5 1 v n xs Lo) (hn:n≤4294967296) :
  Calls prog 273 #[(aK b 2),.int .u8 c] w0 (fV w0 G (iw b s i p v (.slice B m d) pl e :: (Lp++Lo)) fun u G' L'=>∃ v' kY,L'=iw b s i (aK b 2) v' (.slice B m d) pl e :: (Lp++kY)∧bZ 5 1 v' (n+1) (xs++[.int .u8 c]) kY∧G'=G):=by
 have hml:maxLen=9223372036854775807:=rfl;obtain ⟨A,c0,rfl,-,-⟩:=hrow.shape;obtain ⟨Lt,qz⟩:∃ x,x=Lp++Lo:=⟨_,rfl⟩;rw [← qz] at hO ⊢;refine iX (N:=17) (T:=[(0,_),(1,_)]) func273 rfl ntmps273 rfl rfl hO ?_;intro a H;refine kP H (SR fun _ K1=>ak K1 rfl (SR fun _ K2=>Rm rfl ?_));clear H K1;intro a H;refine gH agL (Li:=[]) (L:=iw b s i p _ (.slice B m d) pl e :: Lt) H wn rfl (aqb _ _ _ b s i p A n c0 B m d pl e hp (Hp.owns (Li:=[]) H.hp)) rfl ?_;clear H;rintro v6 _ L6 a w ⟨rfl,rfl⟩ Er H;dsimp only [List.nil_append] at H;refine K2 _ _ ?_;clear K2;refine kP H (SR fun _ K3=>Rm rfl (Rm rfl (Rk rfl (aY Ik Jk 0 rfl rfl (Rm rfl ?_)))));clear H;intro a H;refine iE GY O4 [_] [_] H wn rfl rfl rfl rfl rfl (by intro i q h;match i,h with|0,h=>exact h|n+1,h=>simp at h) rfl rfl ?_;clear H;intro b13 a w Nn H;subst qz;have H:=St.un (A:=[_,_]) (B:=Lp) (C:=Lo) H;refine nE (Li:=[_,_]++Lp) (Lo:=Lo) (news:=[.int .u8 c]) GY O4 rfl rfl H wn rfl rfl hrow rfl (H.hp.cO 0 rfl rfl) rfl (by omega) (by omega) rfl ?_;clear H;intro v14 adC a w KQ H;obtain ⟨Pw,c14,rfl,-,-⟩:=KQ.shape;have H:=H.assoc;dsimp only [lca,bJ] at H;refine kH H (Rk rfl (Rf Ik rfl ?_));clear H;intro a H;refine bD Jk 1 (vs:=[_]) _ H wn rfl rfl rfl rfl rfl rfl rfl rfl ?_;clear H;intro w H;dsimp only [List.set,setRow] at H;refine K3 _ _ ?_;clear K3;exact kP H (SR fun _ K4=>ak K4 rfl (LR results273 rfl fun H=>H.hp.iq (L':=iw b s i _ _ _ pl e :: (Lp++adC)) (AY _ _) ⟨_,_,rfl,KQ,rfl⟩))
theorem aqH (G:GH) (L:OL) (w0:World) (b:Nat) (s:ByteArray) (i:Int) (p:aj) (A:Option Addr) (n c:Nat) (B:Option Addr) (m d:Nat) (pl e:Int) (hO:gD G (iw b s i p (.slice A n c) (.slice B m d) pl e :: L) w0) :
  Calls prog 279 #[(aK b 2)] w0 (fV w0 G (iw b s i p (.slice A n c) (.slice B m d) pl e :: L) fun u G' L'=>u=vi n∧L'=iw b s i p (.slice A n c) (.slice B m d) pl e :: L∧G'=G):=by
 refine iX (N:=8) (T:=[(0,_)]) func279 rfl ntmps279 rfl rfl hO ?_;intro a H;exact kP H (SR fun _ K1=>ak K1 rfl (SR fun _ K2=>Rm rfl (Rk rfl (aY Ik Jk 0 rfl rfl (Rl GY rfl (ak K2 rfl (LR results279 rfl fun H=>H.hp.dx ⟨rfl,rfl,rfl⟩)))))))
theorem aqY (G:GH) (L:OL) (w0:World) (b:Nat) (s:ByteArray) (i:Int) (p:aj) (A:Option Addr) (n c:Nat) (B:Option Addr) (m d:Nat) (pl e:Int) (hO:gD G (iw b s i p (.slice A n c) (.slice B m d) pl e :: L) w0) :
  Calls prog 280 #[(aK b 2)] w0 (fV w0 G (iw b s i p (.slice A n c) (.slice B m d) pl e :: L) fun u G' L'=>L'=iw b s i (.pointer none) (.slice none 0 0) (.slice B m d) pl e :: L∧G'=G):=by
 refine iX (N:=8) (T:=[(0,_)]) func280 rfl ntmps280 rfl rfl hO ?_;intro a H;refine kP H (SR fun _ K1=>Rm rfl (Rk rfl (Rf J3 rfl ?_)));clear H;intro a H;refine bD LD 0 (vs:=[_]) _ H wn rfl rfl rfl rfl rfl rfl rfl rfl ?_;clear H;intro w H;dsimp only [List.set,setRow] at H;refine K1 _ _ ?_;clear K1;refine kP H (SC (Rm rfl (Rk rfl (Rf Ik rfl ?_))));clear H;intro a H;refine bD Jk 0 (vs:=[_]) _ H wn rfl rfl rfl rfl rfl rfl rfl rfl ?_;clear H;intro w H;dsimp only [List.set,setRow] at H;refine aD ?_;refine (leave0 H results280 ?_).2;exact H.hp.dx ⟨rfl,rfl⟩
theorem aqZ (G:GH) (Lp Lo:OL) (w0:World) (b:Nat) (s:ByteArray) (i:Int) (p v:aj) (B:Option Addr) (m d:Nat) (pl e:Int) (l:List UInt8) (hO:gD G (iw b s i p v (.slice B m d) pl e :: (Lp++Lo)) w0) (hrow:bZ 5 1 v l.length (Lib.byteCells l) Lo) (h0:l≠[]) :
  Calls prog 94 #[(aK b 2)] w0 (fV w0 G (iw b s i p v (.slice B m d) pl e :: (Lp++Lo)) fun u G' L'=>u=.string ⟨l.toArray⟩∧L'=iw b s i p v (.slice B m d) pl e :: Lp):=by
 rcases hrow.2 with ⟨-,h,-⟩|⟨b2,cap,cur,rfl,rfl,hc1,hc2,hc3,hc4⟩
 ·exact absurd (List.eq_nil_of_length_eq_zero h) h0
 have hl0:l.length≠0:=fun h=>h0 (List.eq_nil_of_length_eq_zero h);have hml:maxLen=9223372036854775807:=rfl;obtain ⟨Lt,qz⟩:∃ x,x=Lp++[(b2,Obj.cells cur 5 (0,0))]:=⟨_,rfl⟩;rw [← qz] at hO ⊢;refine iX (N:=14) (T:=[(0,_)]) func94 rfl ntmps94 rfl rfl hO ?_;intro a H;refine kP H (SR fun _ K1=>ak K1 rfl (SQ fun _ K2=>?_));clear H K1;intro a H;have H:=H.sub (T':=[(0,_)]) ⟨rfl,aC⟩;refine dI hmx [[],[0],[0,1],[0,1,2],(ra 0 4),[],[5],[5,6],[5,6,7],(ra 5 4),(ra 0 10),(ra 0 11)] [10,11] (by kernel_rfl) [_,_,_,.slice (some ⟨b2,0,none⟩) l.length cap,(aK b2 0),_,_,_,.slice (some ⟨b2,0,none⟩) l.length cap,_] H (aF (Z0 rfl (Rm rfl)) (Z1 0 3 rfl (Rk rfl)) (Z1 1 4 rfl (Rf Ik rfl)) (Z1 2 5 rfl (Ro Jk 0 rfl)) (aF ?_ (Z0 rfl (Rm rfl)) (Z1 5 8 rfl (Rk rfl)) (Z1 6 9 rfl (Rf Ik rfl)) (aF (Z1 7 10 rfl (Ro Jk 0 rfl)) (Z1 8 11 rfl (Rl GY rfl)) (bS rfl) (bS rfl) dz))) ?_
 ·refine fq 3 6 rfl rfl fun _ a w G1 hG HT H fin=>?_;refine apS H wn rfl (by omega) rfl ?_;clear H;intro a H;exact fin H iJ rfl
 clear H;intro a w G nu H hv;have H:=H.aM (hv 4 7 rfl rfl) rfl;have H:=H.aM (hv 9 12 rfl rfl) rfl;clear hv;subst qz;have H:=H.perm (List.Perm.cons _ vw);dsimp only [lca,bJ] at H;refine apW (i:=1) l aro aeF h0 (by omega) H wn rfl rfl rfl (by rw [← hc4,Nat.mul_one]) rfl ?_;clear H;intro fz a w H;dsimp only [List.set] at H;refine kH H (Ra rfl ?_);clear H;intro a H;refine aD ⟨rfl,?_⟩;refine K2 _ _ ?_;clear K2;refine lr H results94 rfl ?_;exact H.hp.iq (L':=iw b s i _ _ _ pl e :: Lp) (List.Sublist.cons_cons _ (AY _ _)) ⟨rfl,rfl⟩
section
section
variable {N:Nat} {D:List Deferred} {w0:World} {F:Nat→Prop} {G0 G G1 G2:GH} {L L1 L2:OL} {T Xs:List (Nat × aj)}
variable {r:Option Nat} {P:Program} {Q:Exit→Act→World→Prop} {l:List Oper} {a a':Act} {w w':World}
theorem DX.perm {pr:Nat→aj→GH→Prop} {S:Nat→Bool} (h:DX N D w0 F G0 G L1 T l pr S a w) (hp:L1.Perm L2):DX N D w0 F G0 G L2 T l pr S a w:=by
 obtain ⟨G1,hG,HS,hv⟩:=h
 exact ⟨G1,hG,HS.perm hp,hv⟩
end
end
section
section
variable {N:Nat} {D:List Deferred} {w0:World} {F:Nat→Prop} {G0 G G1 G2:GH} {L L1 L2:OL} {T Xs:List (Nat × aj)}
variable {r:Option Nat} {P:Program} {Q:Exit→Act→World→Prop} {l:List Oper} {a a':Act} {w w':World}
theorem FC {pr:Nat→aj→GH→Prop} {S:Nat→Bool} {i d:Nat} {v:aj} (hok:oP l T i=true) (kg:∀ i v (G G':GH),(∀ k o,G k=some o→G' k=some o)→pr i v G→pr i v G') (hi:eG l i=some d)
  (HT:St N D w0 F G0 G1 L T a w) (Hb:St N D w0 F G0 G1 L (Xs++full N a) a w) (hG:∀ k o,G k=some o→G1 k=some o) (hv:∀ j d,j≠i→S j=true→eG l j=some d→∃ v,a.tmps[d]?=some v∧pr j v G1)
  (hG2:∀ k o,G1 k=some o→G2 k=some o) (hp:pr i v G2) (H:St N D w0 F G0 G2 L1 ((d,v) :: (Xs++full N a)) a' w'):DX N D w0 F G0 G L1 T l pr (eZ S i) a' w':=by
 have hok1:=hok
 rw [oP,hi] at hok1
 simp only [oN,Option.isNone_iff_eq_none,kJ,uD] at hok1
 have hsame:∀ t,t≠d→a'.tmps[t]?=a.tmps[t]?:=by
  intro t ht
  by_cases hlt:t < N
  ·have h1:∃ u,lk (Xs++full N a) t=some u:=by
    rw [Ob]
    cases lk Xs t with
    | some u=>exact ⟨u,rfl⟩
    | none=>exact ⟨_,Oc a hlt⟩
   obtain ⟨u,hu⟩:=h1
   rw [Hb.get t u hu,H.get t u (by rw [wm (Ne.symm ht)];exact hu)]
  ·rw [Array.getElem?_eq_none (by rw [H.nL];omega),Array.getElem?_eq_none (by rw [Hb.nL];omega)]
 refine ⟨G2,fun k o hk=>hG2 k o (hG k o hk),⟨H.nL,fun t u ht=>?_,H.tu,H.hp⟩,fun j e hj he=>?_⟩
 ·rw [hsame t (fun e=>by rw [e,hok1.1] at ht;cases ht)]
  exact HT.get t u ht
 ·by_cases hji:j=i
  ·subst hji
   rw [hi] at he
   simp only [oq] at he
   subst he
   exact ⟨v,H.get d v (xu _ _ _),hp⟩
  ·have hSj:S j=true:=by unfold eZ at hj;rwa [ah hji] at hj
   obtain ⟨u,hu1,hu2⟩:=hv j e hji hSj he
   have hne:e≠d:=by
    intro e'
    subst e'
    have h2:=hok1.2 j (xR he)
    rw [xO (fun h=>hji h.symm),he] at h2
    simp at h2
   exact ⟨u,by rw [hsame e hne];exact hu1,kg j u _ _ hG2 hu2⟩
theorem aem {id:Nat} {κ:Type} (k0:κ) (hm:P.follows .mixedOrders=true) (bU:List (List Nat)) (B:List Nat) (hk:zI l bU=true) (hB:yI l bU B=true) (m1 m2 m3:Nat) (aty:B.contains m1=false) (atz:B.contains m2=false) (aly:B.contains m3=false) (hne:Nat.beq m1 m2=false) (ZN:Nat.beq m2 m3=false) (hne1:Nat.beq m1 m3=false) (h12:(bU.getD m2 []).contains m1=true) (gG:(bU.getD m3 []).contains m1=true) (h23:(bU.getD m3 []).contains m2=true)
  (C L2:OL) (ob:Obj) (L3:Nat→κ→OL) (hC:∀ x,x∈C→x∈L) (hC2:∀ x,x∈C→x∈L2) (hC3:∀ b k x,x∈C→x∈L3 b k) (pr:Nat→κ→Nat→aj→GH→Prop)
  (KO:∀ b b' k i v G,Nat.beq i m2=false→(bU.getD i []).contains m2=false→pr b k i v G→pr b' k i v G)
  (alO:∀ b k k' i v G,Nat.beq i m3=false→(bU.getD i []).contains m3=false→pr b k i v G→pr b k' i v G)
  (H:St N D w0 F G0 G L T a w)
  (hstep:allI (fun i o=>∀ b k L' S a w G1,(∀ x,x∈C→x∈L')→B.contains i=false→Nat.beq i m1=false→Nat.beq i m2=false→Nat.beq i m3=false→S i=false→(∀ j∈bU.getD i [],S j=true)→(∀ k o,G k=some o→G1 k=some o)→St N D w0 F G0 G1 L' T a w→(∀ i d,S i=true→eG l i=some d→∃ v,a.tmps[d]?=some v∧pr b k i v G1) →
   WL r P l.toArray (fun e a' w'=>e=.normal∧DX N D w0 F G0 G L' T l (pr b k) (eZ S i) a' w') [o] a w) 0 l)
  (alz:∀ o b k S a w G1,l[m1]?=some o→S m1=false→(∀ j∈bU.getD m1 [],S j=true)→(∀ k o,G k=some o→G1 k=some o)→St N D w0 F G0 G1 L T a w→(∀ i d,i≠m1→S i=true→eG l i=some d→∃ v,a.tmps[d]?=some v∧pr b k i v G1) →
   WL r P l.toArray (fun e a' w'=>e=.normal∧DX N D w0 F G0 G L2 T l (pr b k) (eZ S m1) a' w') [o] a w)
  (alA:∀ o k S a w G1,l[m2]?=some o→S m2=false→(∀ j∈bU.getD m2 [],S j=true)→(∀ k o,G k=some o→G1 k=some o)→St N D w0 F G0 G1 L2 T a w→(∀ b i d,i≠m2→S i=true→eG l i=some d→∃ v,a.tmps[d]?=some v∧pr b k i v G1) →
   WL r P l.toArray (fun e a' w'=>e=.normal∧∃ b,DX N D w0 F G0 G ((b,ob) :: L2) T l (pr b k) (eZ S m2) a' w') [o] a w)
  (alB:∀ o b S a w G1,l[m3]?=some o→S m3=false→(∀ j∈bU.getD m3 [],S j=true)→(∀ k o,G k=some o→G1 k=some o)→St N D w0 F G0 G1 ((b,ob) :: L2) T a w→(∀ k i d,i≠m3→S i=true→eG l i=some d→∃ v,a.tmps[d]?=some v∧pr b k i v G1) →
   WL r P l.toArray (fun e a' w'=>e=.normal∧∃ k,DX N D w0 F G0 G (L3 b k) T l (pr b k) (eZ S m3) a' w') [o] a w)
  (hend:∀ b k a w G1,(∀ k o,G k=some o→G1 k=some o)→St N D w0 F G0 G1 (L3 b k) T a w→(∀ i d,B.contains i=false→eG l i=some d→∃ v,a.tmps[d]?=some v∧pr b k i v G1)→WL r P l.toArray (fun e a w=>e=.normal∧Q .normal a w) (qF l B) a w)
  (Tj:Nat.blt m2 l.length=true) (Tk:Nat.blt m3 l.length=true):WP r P (.region id l.toArray true) Q a w:=by
 have aaS:m1≠m2:=fun e=>by subst e;rw [Nat.beq_refl] at hne;cases hne
 have aaU:m2≠m3:=fun e=>by subst e;rw [Nat.beq_refl] at ZN;cases ZN
 have aaT:m1≠m3:=fun e=>by subst e;rw [Nat.beq_refl] at hne1;cases hne1
 refine JJ hm bU B hk hB (fun S a w=>(S m2=true→S m1=true)∧(S m3=true→S m2=true)∧∃ b k L',L'=(bif S m3 then L3 b k else bif S m2 then (b,ob) :: L2 else bif S m1 then L2 else L)∧DX N D w0 F G0 G L' T l (pr b k) S a w)
  ⟨fun h=>h,fun h=>h,0,k0,L,rfl,G,fun _ _ h=>h,H.move H.hp.drew,fun _ _ h=>absurd (show false=true from h) (by decide)⟩ ?_ ?_
 ·rintro i o S a w ho hb aP lS hdesc ⟨alL,alM,b,k,L',hL,G1,hG,HS,hv⟩
  have hsub:∀ x,x∈C→x∈L':=fun x hx=>by
   rw [hL]
   cases S m3 with
   | true=>exact hC3 b k x hx
   | false=>cases S m2 with
    | true=>exact iQ _ (hC2 x hx)
    | false=>cases S m1 with
     | true=>exact hC2 x hx
     | false=>exact hC x hx
  have hno:∀ j,j < l.length→S j=true→(bU.getD j []).contains i=false:=fun j hjl hj=>by
   cases hc:(bU.getD j []).contains i with
   | false=>rfl
   | true =>
    have:=hdesc j hjl (by simpa using hc)
    rw [this] at hj;cases hj
  by_cases h1:i=m1
  ·subst h1
   have hS2:S m2=false:=hdesc m2 (Eq.mp Nat.blt_eq Tj) (by simpa using h12)
   have Ir:S m3=false:=hdesc m3 (Eq.mp Nat.blt_eq Tk) (by simpa using gG)
   rw [Ir,hS2,aP] at hL
   subst hL
   have h:=alz o b k S a w G1 ho aP lS hG HS fun j d hj hSj hd=>hv j d hSj hd
   have e2:eZ S i m2=S m2:=ah (fun e=>aaS e.symm)
   have e3:eZ S i m3=S m3:=ah (fun e=>aaT e.symm)
   refine ql (fun e a' w' ⟨he,hD⟩=>⟨he,fun _=>au rfl,fun h=>(by rw [e3,Ir] at h;cases h),b,k,_,?_,hD⟩) h
   rw [show eZ S i i=true from au rfl,e2,e3,hS2,Ir]
   rfl
  ·by_cases h2:i=m2
   ·subst h2
    have hS1:S m1=true:=lS m1 (by simpa using h12)
    have Ir:S m3=false:=hdesc m3 (Eq.mp Nat.blt_eq Tk) (by simpa using h23)
    rw [Ir,aP,hS1] at hL
    subst hL
    have e1:eZ S i m1=S m1:=ah aaS
    have e3:eZ S i m3=S m3:=ah (fun e=>aaU e.symm)
    have h:=alA o k S a w G1 ho aP lS hG HS fun b' j d hj hSj hd=>by
     obtain ⟨v,hv1,hv2⟩:=hv j d hSj hd
     exact ⟨v,hv1,KO b b' k j v _ (xO hj) (hno j (xR hd) hSj) hv2⟩
    refine ql (fun e a' w' ⟨he,b',hD⟩=>⟨he,fun _=>by rw [e1];exact hS1,fun _=>au rfl,b',k,_,?_,hD⟩) h
    rw [show eZ S i i=true from au rfl,e3,Ir];rfl
   ·by_cases h3:i=m3
    ·subst h3
     have hS1:S m1=true:=lS m1 (by simpa using gG)
     have hS2:S m2=true:=lS m2 (by simpa using h23)
     rw [aP,hS2] at hL
     subst hL
     have e1:eZ S i m1=S m1:=ah aaT
     have e2:eZ S i m2=S m2:=ah aaU
     have h:=alB o b S a w G1 ho aP lS hG HS fun k' j d hj hSj hd=>by
      obtain ⟨v,hv1,hv2⟩:=hv j d hSj hd
      exact ⟨v,hv1,alO b k k' j v _ (xO hj) (hno j (xR hd) hSj) hv2⟩
     refine ql (fun e a' w' ⟨he,k',hD⟩=>⟨he,fun _=>by rw [e1];exact hS1,fun _=>by rw [e2];exact hS2,b,k',_,?_,hD⟩) h
     rw [show eZ S i i=true from au rfl];rfl
    ·have h:=Ck hstep i o ho
     rw [gI] at h
     have e1:eZ S i m1=S m1:=ah (fun e=>h1 e.symm)
     have e2:eZ S i m2=S m2:=ah (fun e=>h2 e.symm)
     have e3:eZ S i m3=S m3:=ah (fun e=>h3 e.symm)
     refine ql (fun e a' w' ⟨he,hD⟩=>⟨he,by rw [e1,e2];exact alL,by rw [e2,e3];exact alM,b,k,L',?_,hD⟩) (h b k L' S a w G1 hsub hb (xO h1) (xO h2) (xO h3) aP lS hG HS hv)
     rw [e1,e2,e3];exact hL
 ·rintro S a w hall NM ⟨_,_,b,k,L',hL,G1,hG,HS,hv⟩
  have hs3:S m3=true:=hall m3 (Eq.mp Nat.blt_eq Tk) aly
  rw [hs3] at hL
  subst hL
  exact hend b k a w G1 hG HS fun j d hb hd=>hv j d (hall j (xR hd) hb) hd
end
theorem arl {z:Int} (h1:0≤z) (h2:z < 256):IntKind.u8.wrap z=z:=by
 simp only [IntKind.wrap,IntKind.bits,IntKind.signed,uG,Fq,if_false]
 omega
section
variable {N:Nat} {D:List Deferred} {w0:World} {F:Nat→Prop} {G0 G:GH} {L:OL} {T:List (Nat × aj)}
variable {r:Option Nat} {P:Program} {ops:Array Oper} {Q:Exit→Act→World→Prop} {rest:List Oper} {a:Act} {w:World}
variable {d:Nat} {ty:TypeId} {pos:String} {aL:Array Edge} {g:Option (Nat × Bool)}
theorem apU {x y:Operand} {t yt:TypeId} {p q:Int} (H:St N D w0 F G0 G L T a w) (hw:Region.wanted ⟨some d,.binOp .sub t x y yt,ty,pos,aL,g⟩ (yielded ops a.tmps)=true) (hx:ev T x=some (.int .u8 p)) (hy:ev T y=some (.int .u8 q)) (h1:0≤p - q) (h2:p - q < 256) (hd:Nat.blt d N=true)
  (k:∀ a',St N D w0 F G0 G L ((d,.int .u8 (p - q)) :: T) a' w→WL r P ops Q rest a' w):WL r P ops Q (⟨some d,.binOp .sub t x y yt,ty,pos,aL,g⟩ :: rest) a w :=
 fO (v:=.int .u8 (p - q)) (w':=w) hw rfl (by simp [execOp,eqGuard,binOp,Op.intArith,H.ev hx,H.ev hy,dO,arl h1 h2]) (k _ (H.put hd _ H.hp))
end
end
theorem aic:∀ args w,(callFunc 279 args).run prog w=.ok (.enter 279 args) w:=enters func279 rfl (by kernel_rfl)
theorem LG:Ty prog 313 1 24 [.slice none 0 0] false:=⟨by kernel_rfl,by kernel_rfl⟩
theorem aiF:∀ args w,(callFunc 94 args).run prog w=.ok (.enter 94 args) w:=enters func94 rfl (by kernel_rfl)
theorem Jp:prog.underlying 313=some (.slice 318):=by kernel_rfl
theorem Jl:Ty prog 318 3 32 [.string ⟨#[]⟩,.int .i64 0,.bool false] true:=⟨by kernel_rfl,by kernel_rfl⟩
theorem aif:∀ args w,(callFunc 280 args).run prog w=.ok (.enter 280 args) w:=enters func280 rfl (by kernel_rfl)
theorem J4:dH prog 340 2 2:=⟨by kernel_rfl⟩
theorem J5:dH prog 340 3 4:=⟨by kernel_rfl⟩
theorem aci:pK prog 318 [(0,1),(1,1),(2,1)] [.string ⟨#[]⟩,.int .i64 0,.bool false]:=⟨by kernel_rfl,by kernel_rfl⟩
theorem QV:∀ args w,(callFunc 274 args).run prog w=.ok (.enter 274 args) w:=enters func274 rfl (by kernel_rfl)
theorem Nb:dH prog 340 4 5:=⟨by kernel_rfl⟩
structure jH where
 lit:ByteArray
 level:Int
 plain:Bool
def jH.dat (x:jH):List Dat:=[.lf (.string x.lit),li x.level,.lf (.bool x.plain)]
abbrev jH.cells (x:jH):List aj:=[.string x.lit,vi x.level,.bool x.plain]
theorem aaJ (G:GH) (x:jH):aU G x.dat x.cells:=by
 simp only [jH.dat,jH.cells,aU]
 exact ⟨_,_,rfl,by simp [av,Value.oneCell'],_,_,rfl,by simp [av,Value.oneCell'],_,_,rfl,by simp [av,Value.oneCell'],rfl⟩
theorem aaI {G:GH} {x:jH} {cs:List aj} (h:aU G x.dat cs):cs=x.cells:=by
 simp only [jH.dat,aU,av] at h
 obtain ⟨_,_,rfl,⟨rfl,_⟩,_,_,rfl,⟨rfl,_⟩,_,_,rfl,⟨rfl,_⟩,rfl⟩:=h
 rfl
def Gw (l:List jH):List aj:=(l.map jH.cells).flatten
theorem aaH (l:List jH) (x:jH):Gw (l++[x])=Gw l++x.cells:=by simp [Gw]
structure AQ (b:Nat) (lit:List UInt8) (parts:List jH) (p v q:aj) (Lp Lo:OL):Prop where
 ptr:p=.pointer none∨p=(aK b 2)
 buf:bZ 5 1 v lit.length (Lib.byteCells lit) Lo
 prt:bZ 318 3 q parts.length (Gw parts) Lp
def vM (lit:List UInt8) (parts:List jH):List jH:=if lit=[] then parts else parts++[⟨⟨lit.toArray⟩,0,false⟩]
set_option maxHeartbeats 1000000 in
theorem RA (G:GH) (Lp Lo:OL) (w0:World) (b:Nat) (s:ByteArray) (i:Int) (p v q:aj) (pl e:Int) (lit:List UInt8) (parts:List jH) (hR:AQ b lit parts p v q Lp Lo) (hO:gD G (iw b s i p v q pl e :: (Lp++Lo)) w0) (hl:lit.length≤4294967296) (hp:parts.length≤4294967296) :
  Calls prog 274 #[(aK b 0)] w0 (fV w0 G (iw b s i p v q pl e :: (Lp++Lo)) fun u G' L'=>∃ p' v' q' rJ kY,L'=iw b s i p' v' q' pl e :: (rJ++kY)∧AQ b [] (vM lit parts) p' v' q' rJ kY):=by
 obtain ⟨ZX,hbuf,NR⟩:=hR;have hml:maxLen=9223372036854775807:=rfl;obtain ⟨A,c,rfl,aaj,aak⟩:=hbuf.shape;obtain ⟨B,d,rfl,ZY,Z4⟩:=NR.shape;obtain ⟨Lt,qz⟩:∃ x,x=Lp++Lo:=⟨_,rfl⟩;rw [← qz] at hO ⊢;refine iX (N:=25) (T:=[(0,_)]) func274 rfl ntmps274 rfl rfl hO ?_;intro a H;refine kP H (SR fun _ K1=>Rm rfl (Rk rfl (Rf J4 rfl ?_)));clear H;intro a H;refine gH aic (Li:=[]) (L:=iw b s i p (.slice A lit.length c) (.slice B parts.length d) pl e :: Lt) H wn rfl (aqH _ _ _ b s i p A lit.length c B parts.length d pl e (Hp.owns (Li:=[]) H.hp)) rfl ?_;clear H;rintro v5 _ L5 a w ⟨rfl,rfl,rfl⟩ yh H;dsimp only [List.nil_append] at H;refine kH H (Rc rfl (Kz K1 (Cd rfl ?_ ?_))) <;> clear H K1
 ·intro h6 a H
  try have p6:=dT h6
  have hne:lit≠[]:=fun e=>by rw [e] at p6;simp at p6
  subst qz;refine bN (fun _ K2=>?_)
  have dN:Mo2 (fun (aN:Nat) (jJ:(Option Addr × Nat) × OL) (dB:Nat) (v:aj) (G:GH)=>match dB with|0=>v=(aK b 0)|1=>v=(aK b 0)|2=>v=(aK b 0)|3=>v=(aK b 4)|4=>v=.slice B parts.length d|5=>v=(aK b 0)|6=>v=(aK b 0)|7=>v=(aK b 2)|8=>v=.string ⟨lit.toArray⟩|9=>v=.agg (jH.cells ⟨⟨lit.toArray⟩,0,false⟩).toArray|10=>v=.slice (some ⟨aN,0,none⟩) 1 1|11=>v=.slice jJ.1.1 (parts.length+1) jJ.1.2∧bZ 318 3 v (parts.length+1) (Gw (parts++[⟨⟨lit.toArray⟩,0,false⟩])) jJ.2|_=>True):=by intro aN jJ dB v G G' hm h;(iterate 15 (rcases dB with _|dB;(first|exact h)));exact trivial
  refine aem (κ:=(Option Addr × Nat) × OL) (((none,0),[])) (hmx) [[],[],[1],[1,2],[1,2,3],[],[5],[5,6],[5,6,7],(ra 5 4),(ra 5 5),(ra 1 10),(ra 0 12),(ra 0 13),(ra 0 14)] [12,13,14] (by kernel_rfl) (by kernel_rfl) 8 10 11 (by decide) (by decide) (by decide) (by decide) (by decide) (by decide) (by decide) (by decide) (by decide) [iw b s i p (.slice A lit.length c) (.slice B parts.length d) pl e] (iw b s i p (.slice A lit.length c) (.slice B parts.length d) pl e :: Lp) (.cells (jH.cells ⟨⟨lit.toArray⟩,0,false⟩).toArray 318 (0,0)) (fun b_ k_=>(b_,.cells (jH.cells ⟨⟨lit.toArray⟩,0,false⟩).toArray 318 (0,0)) :: iw b s i p (.slice A lit.length c) (.slice B parts.length d) pl e :: k_.2) (fun x hx=>by rw [uE.1 hx];exact gJ) (fun x hx=>by rw [uE.1 hx];exact gJ) (fun _ _ x hx=>by rw [uE.1 hx];exact iQ _ gJ) (fun (aN:Nat) (jJ:(Option Addr × Nat) × OL) (dB:Nat) (v:aj) (G:GH)=>match dB with|0=>v=(aK b 0)|1=>v=(aK b 0)|2=>v=(aK b 0)|3=>v=(aK b 4)|4=>v=.slice B parts.length d|5=>v=(aK b 0)|6=>v=(aK b 0)|7=>v=(aK b 2)|8=>v=.string ⟨lit.toArray⟩|9=>v=.agg (jH.cells ⟨⟨lit.toArray⟩,0,false⟩).toArray|10=>v=.slice (some ⟨aN,0,none⟩) 1 1|11=>v=.slice jJ.1.1 (parts.length+1) jJ.1.2∧bZ 318 3 v (parts.length+1) (Gw (parts++[⟨⟨lit.toArray⟩,0,false⟩])) jJ.2|_=>True) (fun b b' k i v G hi hc h=>by (iterate 15 (rcases i with _|i;(first|exact h|exact absurd hi (by decide)|exact absurd hc (by decide))));exact trivial) (fun b k k' i v G hi hc h=>by (iterate 15 (rcases i with _|i;(first|exact h|exact absurd hi (by decide)|exact absurd hc (by decide))));exact trivial) H ?_ ?_ ?_ ?_ ?_ (by kernel_rfl) (by kernel_rfl)
  ·clear H;refine aF ?_ ?_ ?_ ?_ (aF ?_ ?_ ?_ ?_ (aF ?_ ?_ ?_ ?_ (bR ?_ (bR ?_ (bR ?_ dz)))))
   ·intro aN jJ fJ bB a w G1 gu _ _ _ _ aP hc hG HT hv;have H:=HT;clear aP;have Hb:=H.full;have H:=Hb;clear hc;refine kH H (Rm rfl ?_);clear H;intro a H;refine aD ⟨rfl,?_⟩;exact fF (by kernel_rfl) (dN aN jJ) rfl rfl HT Hb hG hv (fun _ _ h=>h) (rfl) H
   ·intro aN jJ fJ bB a w G1 gu _ _ _ _ aP hc hG HT hv;have H:=HT;clear aP;have Hb:=H.full;have H:=Hb;clear hc;refine kH H (Rm rfl ?_);clear H;intro a H;refine aD ⟨rfl,?_⟩;exact fF (by kernel_rfl) (dN aN jJ) rfl rfl HT Hb hG hv (fun _ _ h=>h) (rfl) H
   ·intro aN jJ fJ bB a w G1 gu _ _ _ _ aP hc hG HT hv;have H:=HT;clear aP;have H:=H.aM (hv 1 8 (hc 1 (by decide)) rfl) rfl;have Hb:=H.full;have H:=Hb;clear hc;refine kH H (Rk rfl ?_);clear H;intro a H;refine aD ⟨rfl,?_⟩;exact fF (by kernel_rfl) (dN aN jJ) rfl rfl HT Hb hG hv (fun _ _ h=>h) (rfl) H
   ·intro aN jJ fJ bB a w G1 gu _ _ _ _ aP hc hG HT hv;have H:=HT;clear aP;have H:=H.aM (hv 2 9 (hc 2 (by decide)) rfl) rfl;have Hb:=H.full;have H:=Hb;clear hc;refine kH H (Rf J5 rfl ?_);clear H;intro a H;refine aD ⟨rfl,?_⟩;exact fF (by kernel_rfl) (dN aN jJ) rfl rfl HT Hb hG hv (fun _ _ h=>h) (rfl) H
   ·intro aN jJ fJ bB a w G1 gu _ _ _ _ aP hc hG HT hv;have H:=HT;clear aP;have H:=H.aM (hv 3 10 (hc 3 (by decide)) rfl) rfl;have Hb:=H.full;have H:=Hb;clear hc;refine rC LG H wn rfl (H.hp.Dh (gu _ gJ) rfl) rfl ?_;clear H;intro a H;refine aD ⟨rfl,?_⟩;exact fF (by kernel_rfl) (dN aN jJ) rfl rfl HT Hb hG hv (fun _ _ h=>h) (rfl) H
   ·intro aN jJ fJ bB a w G1 gu _ _ _ _ aP hc hG HT hv;have H:=HT;clear aP;have Hb:=H.full;have H:=Hb;clear hc;refine kH H (Rm rfl ?_);clear H;intro a H;refine aD ⟨rfl,?_⟩;exact fF (by kernel_rfl) (dN aN jJ) rfl rfl HT Hb hG hv (fun _ _ h=>h) (rfl) H
   ·intro aN jJ fJ bB a w G1 gu _ _ _ _ aP hc hG HT hv;have H:=HT;clear aP;have H:=H.aM (hv 5 12 (hc 5 (by decide)) rfl) rfl;have Hb:=H.full;have H:=Hb;clear hc;refine kH H (Rk rfl ?_);clear H;intro a H;refine aD ⟨rfl,?_⟩;exact fF (by kernel_rfl) (dN aN jJ) rfl rfl HT Hb hG hv (fun _ _ h=>h) (rfl) H
   ·intro aN jJ fJ bB a w G1 gu _ _ _ _ aP hc hG HT hv;have H:=HT;clear aP;have H:=H.aM (hv 6 13 (hc 6 (by decide)) rfl) rfl;have Hb:=H.full;have H:=Hb;clear hc;refine kH H (Rf J4 rfl ?_);clear H;intro a H;refine aD ⟨rfl,?_⟩;exact fF (by kernel_rfl) (dN aN jJ) rfl rfl HT Hb hG hv (fun _ _ h=>h) (rfl) H
   ·intro _ _ _ _ _ _ _ _ _ hB;exact absurd hB (by decide)
   ·intro aN jJ fJ bB a w G1 gu _ _ _ _ aP hc hG HT hv;have H:=HT;clear aP;have H:=H.aM (hv 8 15 (hc 8 (by decide)) rfl) rfl;have Hb:=H.full;have H:=Hb;clear hc;refine jm aci [_,_,_] H wn rfl rfl rfl rfl ?_;clear H;intro a H;refine aD ⟨rfl,?_⟩;exact fF (by kernel_rfl) (dN aN jJ) rfl rfl HT Hb hG hv (fun _ _ h=>h) (rfl) H
   ·intro _ _ _ _ _ _ _ _ _ _ hB;exact absurd hB (by decide)
   ·intro _ _ _ _ _ _ _ _ _ _ _ hB;exact absurd hB (by decide)
   ·intro _ _ _ _ _ _ _ _ hB;exact absurd hB (by decide)
   ·intro _ _ _ _ _ _ _ _ hB;exact absurd hB (by decide)
   intro _ _ _ _ _ _ _ _ hB;exact absurd hB (by decide)
  ·clear H;intro o_ aN jJ bB a w G1 tO _ hc hG HT hv;obtain rfl:_=o_:=Option.some.inj tO;clear tO;have H:=HT;have H:=H.aM (hv 7 14 (by decide) (hc 7 (by decide)) rfl) rfl;have Hb:=H.full;have H:=Hb;clear hc;refine gH aiF (Li:=[]) (L:=iw b s i p (.slice A lit.length c) (.slice B parts.length d) pl e :: (Lp++Lo)) H wn rfl (aqZ _ _ _ _ b s i p _ B parts.length d pl e lit (Hp.owns (Li:=[]) H.hp) hbuf hne) rfl ?_;clear H;rintro v15 EY PU a w ⟨rfl,rfl⟩ CF H;dsimp only [List.nil_append] at H;refine aD ⟨rfl,?_⟩;exact FC (by kernel_rfl) (dN aN jJ) rfl HT Hb hG (fun j e h1 h2 h3=>hv j e h1 h2 h3) CF (rfl) H
  ·clear H;intro o_ jJ bB a w G1 tO _ hc hG HT hv;obtain rfl:_=o_:=Option.some.inj tO;clear tO;have H:=HT;have H:=H.aM (hv 0 9 16 (by decide) (hc 9 (by decide)) rfl) rfl;have Hb:=H.full;have H:=Hb;clear hc;refine iE Jp Jl [_,_,_] [_,_,_] H wn rfl rfl rfl rfl rfl (by intro i q h;match i,h with|0,h=>exact h|n+1,h=>simp at h) rfl rfl ?_;clear H;intro b17 a w Nq H;refine aD ⟨rfl,b17,?_⟩;exact MX (by kernel_rfl) rfl HT Hb hG (fun j e h1 h2 h3=>hv _ j e h1 h2 h3) (rfl) H
  ·clear H;intro o_ aN bB a w G1 tO _ hc hG HT hv;obtain rfl:_=o_:=Option.some.inj tO;clear tO;have H:=HT;have H:=H.aM (hv (((none,0),[])) 4 11 (by decide) (hc 4 (by decide)) rfl) rfl;have H:=H.aM (hv (((none,0),[])) 10 17 (by decide) (hc 10 (by decide)) rfl) rfl;have Hb:=H.full;have H:=Hb;clear hc;refine nE (Li:=[_,_]) (Lo:=Lp) (news:=jH.cells ⟨⟨lit.toArray⟩,0,false⟩) Jp Jl rfl rfl H wn rfl rfl NR rfl (H.hp.cO 0 rfl rfl) rfl (by omega) (by omega) rfl ?_;clear H;intro v18 adJ a w IL H;obtain ⟨VG,c18,rfl,-,-⟩:=IL.shape;rw [← aaH] at IL;refine aD ⟨rfl,((VG,c18),adJ),?_⟩;exact MX (by kernel_rfl) rfl HT Hb hG (fun j e h1 h2 h3=>hv _ j e h1 h2 h3) (⟨rfl,IL⟩) H
  clear H;intro b17 jJ a w G nu H hv;have H:=H.aM (hv 0 7 rfl rfl) rfl;obtain ⟨u18,TF,CY⟩:=hv 11 18 (by decide) rfl;(try dsimp only at CY);obtain ⟨rfl,IL⟩:=CY;have H:=H.jR TF;clear hv;refine kH H (Rk rfl (Rf J5 rfl ?_));clear H;intro a H;refine bD LG 1 (vs:=[_]) _ H wn rfl rfl rfl rfl rfl rfl rfl rfl ?_;clear H;intro w H;dsimp only [List.set,setRow] at H;refine aD ⟨rfl,?_⟩;refine K2 _ _ ?_;clear K2;refine kP H (SC (Rm rfl (Rk rfl (Rf J4 rfl ?_))));clear H;intro a H;refine gH aif (Li:=[_]) (L:=iw b s i p (.slice A lit.length c) (.slice jJ.1.1 (parts.length+1) jJ.1.2) pl e :: jJ.2) H wn rfl (aqY _ _ _ b s i p A lit.length c jJ.1.1 (parts.length+1) jJ.1.2 pl e (Hp.owns (Li:=[_]) H.hp)) rfl ?_;clear H;rintro v24 _ L24 a w ⟨rfl,rfl⟩ F3 H;dsimp only [lca,bJ] at H;refine aD ?_;refine (leave0 H results274 ?_).2
  first
   | exact H.hp.iq (L':=iw b s i _ _ _ pl e :: jJ.2) (AY _ _) ⟨_,_,_,jJ.2,[],by rw [jf],⟨.inl rfl,bZ.nil,by rw [vM,ah hne];simpa using IL⟩⟩
   | exact H.hp.dx ⟨_,_,_,Lp,Lo,by rw [qz],by
     have h0:lit=[]:=by
      cases lit with
      | nil=>rfl
      | cons x r=>simp at p6
     subst h0;exact ⟨ZX,hbuf,by rw [vM,au rfl];exact NR⟩⟩
 intro h6 a H
 try have p6:=dF h6
 refine gU ?_;refine (leave0 H results274 ?_).2
 first
  | exact H.hp.iq (L':=iw b s i _ _ _ pl e :: jJ.2) (AY _ _) ⟨_,_,_,jJ.2,[],by rw [jf],⟨.inl rfl,bZ.nil,by rw [vM,ah hne];simpa using IL⟩⟩
  | exact H.hp.dx ⟨_,_,_,Lp,Lo,by rw [qz],by
    have h0:lit=[]:=by
     cases lit with
     | nil=>rfl
     | cons x r=>simp at p6
    subst h0;exact ⟨ZX,hbuf,by rw [vM,au rfl];exact NR⟩⟩
theorem abp (G:GH) (Lp Lo:OL) (w0:World) (b:Nat) (s:ByteArray) (i:Int) (p v q:aj) (pl e:Int) (lit:List UInt8) (parts:List jH) (ch:Int) (plain:Bool) (hR:AQ b lit parts p v q Lp Lo) (hO:gD G (iw b s i p v q pl e :: (Lp++Lo)) w0) (hl:lit.length≤4294967296) (hp:parts.length≤4294967290) (hc:49≤ch∧ch≤57) (hpl:0≤pl∧pl≤4294967296) :
  Calls prog 278 #[(aK b 0),.int .u8 ch,.bool plain] w0 (fV w0 G (iw b s i p v q pl e :: (Lp++Lo)) fun u G' L'=>∃ p' v' q' rJ kY,L'=iw b s i p' v' q' (pl+1) e :: (rJ++kY)∧AQ b [] (vM lit parts++[⟨⟨#[]⟩,ch - 48,plain⟩]) p' v' q' rJ kY):=by
 have hml:maxLen=9223372036854775807:=rfl
 have hfl:(vM lit parts).length≤parts.length+1:=by unfold vM;split <;> simp
 obtain ⟨A,c,rfl,aaj,aak⟩:=hR.buf.shape;obtain ⟨B,d,rfl,ZY,Z4⟩:=hR.prt.shape;obtain ⟨Lt,qz⟩:∃ x,x=Lp++Lo:=⟨_,rfl⟩;rw [← qz] at hO ⊢;refine iX (N:=29) (T:=[(0,_),(1,_),(2,_)]) func278 rfl ntmps278 rfl rfl hO ?_;intro a H;refine kP H (SR fun _ K1=>Rm rfl ?_);clear H;intro a H;refine gH QV (Li:=[]) (L:=iw b s i p (.slice A lit.length c) (.slice B parts.length d) pl e :: Lt) H wn rfl (by subst qz;exact RA _ Lp Lo _ b s i p _ _ pl e lit parts hR (Hp.owns (Li:=[]) H.hp) hl (by omega)) rfl ?_;clear H;rintro v7 G7 L7 a w ⟨p',v',q',rJ,kY,rfl,Ko⟩ CX H;dsimp only [List.nil_append] at H;obtain ⟨A7,c7,rfl,-,-⟩:=Ko.buf.shape;obtain ⟨B7,d7,rfl,-,-⟩:=Ko.prt.shape;refine K1 _ _ ?_;clear K1;refine kP H (SR fun _ K2=>Rm rfl (Rm rfl (Rk rfl (aY J5 LG 0 rfl rfl (Rm rfl ?_)))));clear H;intro a H;refine apU H wn rfl rfl (by omega) (by omega) rfl ?_;clear H;intro a H;refine BL _ lu LP H wn rfl rfl rfl ?_;clear H;intro a H;rw [Gg (by omega) (by omega)] at H;refine kH H (Rm rfl ?_);clear H;intro a H;refine jm aci [_,_,_] H wn rfl rfl rfl rfl ?_;clear H;intro a H;refine iE Jp Jl [_,_,_] [_,_,_] H wn rfl rfl rfl rfl rfl (by intro i q h;match i,h with|0,h=>exact h|n+1,h=>simp at h) rfl rfl ?_;clear H;intro b18 a w Nr H;have H:=(St.cast H (show _=[_,_]++(rJ++kY) from rfl)).perm (List.Perm.append_left _ vw);have H:=St.un H;refine nE (Li:=[_,_]++kY) (Lo:=rJ) (news:=jH.cells ⟨⟨#[]⟩,ch - 48,plain⟩) Jp Jl rfl rfl H wn rfl rfl Ko.prt rfl (H.hp.cO 0 rfl rfl) rfl (by omega) (by omega) rfl ?_;clear H;intro v19 WE a w yZ H;obtain ⟨He,c19,rfl,-,-⟩:=yZ.shape;rw [← aaH] at yZ;have H:=H.assoc.perm (List.Perm.append_left _ vw);dsimp only [lca,bJ] at H;refine kH H (Rk rfl (Rf J5 rfl ?_));clear H;intro a H;refine bD LG 1 (vs:=[_]) _ H wn rfl rfl rfl rfl rfl rfl rfl rfl ?_;clear H;intro w H;dsimp only [List.set,setRow] at H;refine K2 _ _ ?_;clear K2;refine kP H (SC (Rm rfl (Rk rfl (aY Nb aH 1 rfl rfl (Rd rfl (Rk rfl (Rf Nb rfl ?_)))))));clear H;intro a H;refine bD aH 1 (vs:=[_]) _ H wn rfl rfl rfl rfl rfl rfl rfl rfl ?_;clear H;intro w H;dsimp only [List.set,setRow] at H;refine aD ?_;refine (leave0 H results278 ?_).2;exact H.hp.iq (L':=iw b s i _ _ _ (pl+1) e :: (WE++kY)) (AY _ _) ⟨_,_,_,WE,kY,rfl,Ko.ptr,Ko.buf,by simpa using yZ⟩
section
section
variable {N:Nat} {D:List Deferred} {w0:World} {F:Nat→Prop} {G0 G:GH} {L:OL} {T Xs:List (Nat × aj)}
variable {r:Option Nat} {P:Program} {Q:Exit→Act→World→Prop} {l:List Oper} {a a':Act} {w w':World}
abbrev VL:Type:=Nat × aj × Nat × Bool
def VN (ent:List VL) (S:Nat→Bool) (a:Act):Prop:=∀ e∈ent,S e.2.2.1=e.2.2.2→a.tmps[e.1]?=some e.2.1
theorem VN.at {ent:List VL} {S:Nat→Bool} {a:Act} (h:VN ent S a) (k:Nat) {t:Nat} {v:aj} {j:Nat} {b:Bool} (hk:ent[k]?=some (t,v,j,b)) (hS:S j=b):a.tmps[t]?=some v:=h _ (kQ hk) hS
theorem apT {ops:Array Oper} {rest:List Oper} {d:Nat} {ty:TypeId} {pos:String} {aL:Array Edge} {g:Option (Nat × Bool)} {t:TypeId} {x y:Operand} {s:ByteArray} {ky:IntKind} {p:Int} (hi:Nat) (ht:P.underlying t=some .string) (H:St N D w0 F G0 G L T a w) (hw:Region.wanted ⟨some d,.slice t x none (some y) none,ty,pos,aL,g⟩ (yielded ops a.tmps)=true) (hx:ev T x=some (.string s)) (hy:ev T y=some (.int ky p)) (hp:p=(hi:Int)) (h1:hi≤s.size) (hd:Nat.blt d N=true)
  (k:∀ a',St N D w0 F G0 G L ((d,.string (s.extract 0 hi)) :: T) a' w→WL r P ops Q rest a' w):WL r P ops Q (⟨some d,.slice t x none (some y) none,ty,pos,aL,g⟩ :: rest) a w:=by
 subst hp
 have hr:=run_slice_string_h (P:=P) w t s ht ky (hi:Int) (by omega) (by omega)
 rw [Int.toNat_natCast] at hr
 refine fO (v:=.string (s.extract 0 hi)) (w':=w) hw rfl ?_ (k _ (H.put hd _ H.hp))
 simp only [execOp,H.ev hx,rO,Option.map_none,H.ev hy,dO,run_sliceAt_string w t _ _ _ _ ht,hr,nU,sF]
end
end
theorem aii:∀ args w,(callFunc 281 args).run prog w=.ok (.enter 281 args) w:=enters func281 rfl (by kernel_rfl)
theorem xX:dH prog 340 0 0:=⟨by kernel_rfl⟩
theorem Yh:∀ args w,(callFunc 273 args).run prog w=.ok (.enter 273 args) w:=enters func273 rfl (by kernel_rfl)
theorem Yi:∀ args w,(callFunc 277 args).run prog w=.ok (.enter 277 args) w:=enters func277 rfl (by kernel_rfl)
theorem Yj:∀ args w,(callFunc 278 args).run prog w=.ok (.enter 278 args) w:=enters func278 rfl (by kernel_rfl)
theorem qO:dH prog 340 1 1:=⟨by kernel_rfl⟩
theorem QW:∀ args w,(callFunc 276 args).run prog w=.ok (.enter 276 args) w:=enters func276 rfl (by kernel_rfl)
theorem Bf:dH prog 340 5 6:=⟨by kernel_rfl⟩
def sJ (s p:ByteArray):Bool:=decide (p.size≤s.size) && ((s.extract 0 p.size).toList == p.toList)
theorem ako (G:GH) (w0:World) (hG:Hold G w0) (s p:ByteArray) (hs:s.size≤4611686018427387904) (hp:p.size≤4611686018427387904):Calls prog 281 #[.string s,.string p] w0 (aZ w0 G fun u G'=>u=.bool (sJ s p)∧G=G'):=by
 refine eN [(0,_),(1,_)] func281 rfl ntmps281 rfl rfl hG ?_;intro a H;refine kP H (SR fun _ K1=>ak K1 rfl (SR fun _ K2=>Rm rfl (Rv iB rfl (Rm rfl (Rv iB rfl (Rc rfl (Rm rfl (Sp 10 rfl ?_ ?_)))))))) <;> clear H K1
 ·intro h10 a H
  try have kV:=dT h10
  refine kH H (YM h10 rfl (YM h10 rfl ?_));clear H;intro a H;refine EK iB H (wg H rfl rfl h10) rfl rfl ?_;clear H;intro a H;refine apT p.size iB H (wg H rfl rfl h10) rfl rfl rfl (by omega) rfl ?_;clear H;intro a H;refine kH H (YM h10 rfl ?_);clear H;intro a H;refine EJ H (wg H rfl rfl h10) rfl rfl rfl ?_;clear H;intro a H;exact kH H (Pt h10 rfl (ak K2 rfl (LR results281 rfl fun H=>H.rt ⟨dL (by unfold sJ;first|(simp_all;done)|(simp_all;omega)),rfl⟩)))
 intro h10 a H
 try have kV:=dF h10
 exact kH H (bF h10 rfl (bF h10 rfl (Pf h10 rfl (ak K2 rfl (LR results281 rfl fun H=>H.rt ⟨dL (by unfold sJ;first|(simp_all;done)|(simp_all;omega)),rfl⟩)))))
theorem Sy (G:GH) (w0:World) (hG:Hold G w0) (s p:ByteArray) (hs:s.size≤4611686018427387904) (hp:p.size≤4611686018427387904):Calls prog 276 #[.string s,.string p] w0 (aZ w0 G fun u G'=>u=.bool (sJ s p)∧G=G'):=by
 refine eN [(0,_),(1,_)] func276 rfl ntmps276 rfl rfl hG ?_;intro a H;refine kP H (SR fun _ K1=>ak K1 rfl (SR fun _ K2=>Rm rfl (Rm rfl ?_)));clear H K1;intro a H;refine s_call aii H wn rfl (ako _ _ H.ro s p hs hp) rfl ?_;clear H;rintro v7 _ a w ⟨rfl,rfl⟩ - H;exact kH H (ak K2 rfl (LR results276 rfl fun H=>H.rt ⟨rfl,rfl⟩))
def vC (s:ByteArray) (k:Nat):Bool:=decide (k < s.size) && decide (49≤gK s k) && decide (gK s k≤57)
theorem XP (G:GH) (L:OL) (w0:World) (b:Nat) (s:ByteArray) (i:Int) (p v q:aj) (pl e:Int) (k:Nat) (hs:s.size≤4611686018427387904) (hO:gD G (iw b s i p v q pl e :: L) w0) :
  Calls prog 277 #[(aK b 0),vi k] w0 (fV w0 G (iw b s i p v q pl e :: L) fun u G' L'=>u=.bool (vC s k)∧L'=iw b s i p v q pl e :: L∧G'=G):=by
 refine iX (N:=30) (T:=[(0,_),(1,_)]) func277 rfl ntmps277 rfl rfl hO ?_;intro a H;refine kP H (SR fun _ K1=>ak K1 rfl (SR fun _ K2=>Rm rfl (Rm rfl (Rk rfl (aY xX iN 0 rfl rfl (Rv iB rfl (Rc rfl (Rm rfl (Sp 12 rfl ?_ ?_))))))))) <;> clear H K1
 ·intro h12 a H
  try have qb:=dT h12
  refine kH H (YM h12 rfl ?_);clear H;intro a H;refine uV H (wg H rfl rfl h12) rfl rfl ?_;clear H;intro a H;refine kH H (YF xX h12 rfl (YO iN 0 h12 rfl (YM h12 rfl ?_)));clear H;intro a H;refine qh k iB H (wg H rfl rfl h12) rfl rfl rfl (by omega) rfl ?_;clear H;intro a H;rw [← lN] at H;refine kH H (YC h12 rfl (Pt h12 rfl (Rm rfl (Sp 21 rfl ?_ ?_)))) <;> clear H
  ·intro h21 a H
   try have wB:=dT h21
   refine kH H (YM h21 rfl ?_);clear H;intro a H;refine uV H (wg H rfl rfl h21) rfl rfl ?_;clear H;intro a H;refine kH H (YF xX h21 rfl (YO iN 0 h21 rfl (YM h21 rfl ?_)));clear H;intro a H;refine qh k iB H (wg H rfl rfl h21) rfl rfl rfl (by omega) rfl ?_;clear H;intro a H;rw [← lN] at H;exact kH H (YC h21 rfl (Pt h21 rfl (ak K2 rfl (LR results277 rfl fun H=>H.hp.dx ⟨dL (by unfold vC;first|(simp_all;done)|(simp_all;omega)),rfl,rfl⟩))))
  intro h21 a H
  try have wB:=dF h21
  exact kH H (bF h21 rfl (aQ h21 rfl (aQ h21 rfl (Pf h21 rfl (ak K2 rfl (LR results277 rfl fun H=>H.hp.dx ⟨dL (by unfold vC;first|(simp_all;done)|(simp_all;omega)),rfl,rfl⟩))))))
 intro h12 a H
 try have qb:=dF h12
 exact kH H (bF h12 rfl (aQ h12 rfl (aQ h12 rfl (Pf h12 rfl (Rm rfl (bF rfl rfl (aQ rfl rfl (aQ rfl rfl (Pf rfl rfl (ak K2 rfl (LR results277 rfl fun H=>H.hp.dx ⟨dL (by unfold vC;first|(simp_all;done)|(simp_all;omega)),rfl,rfl⟩)))))))))))
structure vk where
 i:Nat
 lit:List UInt8
 parts:List jH
 pl:Nat
 e:Int
def qg (s:ByteArray) (x:vk):vk :=
 if sJ (s.extract x.i s.size) ⟨#[37,37]⟩=true then ⟨x.i+2,x.lit++[37],x.parts,x.pl,x.e⟩
 else if vC s (x.i+1)=true then ⟨x.i+2,[],vM x.lit x.parts++[⟨⟨#[]⟩,gK s (x.i+1) - 48,false⟩],x.pl+1,x.e⟩
 else if sJ (s.extract x.i s.size) ⟨#[37,100]⟩=true∧vC s (x.i+2)=true then ⟨x.i+3,[],vM x.lit x.parts++[⟨⟨#[]⟩,gK s (x.i+2) - 48,true⟩],x.pl+1,x.e⟩
 else ⟨x.i,x.lit,x.parts,x.pl,14⟩
abbrev xD (b:Nat) (s:ByteArray) (x:vk) (p v q:aj):Nat × Obj:=iw b s x.i p v q x.pl x.e
theorem XO {s:ByteArray} {k:Nat} (h:vC s k=true):k < s.size∧49≤gK s k∧gK s k≤57:=by
 simpa [vC,and_assoc] using h
set_option maxHeartbeats 1000000 in
theorem aot (G:GH) (Lp Lo:OL) (w0:World) (b:Nat) (s:ByteArray) (x:vk) (p v q:aj) (hR:AQ b x.lit x.parts p v q Lp Lo) (hO:gD G (xD b s x p v q :: (Lp++Lo)) w0) (hs:s.size≤4294967290) (hi:x.i < s.size) (hl:x.lit.length≤4294967290) (hp:x.parts.length≤4294967290) (hpl:x.pl≤4294967290) :
    Calls prog 272 #[(aK b 0)] w0 (fV w0 G (xD b s x p v q :: (Lp++Lo)) fun u G' L'=>∃ p' v' q' rJ kY,L'=xD b s (qg s x) p' v' q' :: (rJ++kY)∧AQ b (qg s x).lit (qg s x).parts p' v' q' rJ kY):=by
  obtain ⟨i,lit,parts,pl,e⟩:=x;dsimp only [xD] at *
  have hex:(s.extract i s.size).size≤4611686018427387904:=by rw [ByteArray.size_extract];omega
  obtain ⟨A,c,rfl,aaj,aak⟩:=hR.buf.shape;obtain ⟨B,d,rfl,ZY,Z4⟩:=hR.prt.shape;obtain ⟨Lt,qz⟩:∃ x,x=Lp++Lo:=⟨_,rfl⟩;rw [← qz] at hO ⊢;refine iX (N:=93) (T:=[(0,_)]) func272 rfl ntmps272 rfl rfl hO ?_;intro a H;refine Cn ?_;refine bN (fun _ K1=>?_);refine dI hmx [[],[0],[0,1],[0,1,2],[],[4],[4,5],[4,5,6],(ra 0 8),(ra 0 9),(ra 0 10)] [] (by kernel_rfl) [_,_,_,.string s,_,_,_,vi i,.string (s.extract i s.size),.bool (sJ (s.extract i s.size) ⟨#[37,37]⟩),_] H (aF (Z0 rfl (Rm rfl)) (Z1 0 6 rfl (Rk rfl)) (Z1 1 7 rfl (Rf xX rfl)) (Z1 2 8 rfl (Ro iN 0 rfl)) (aF (Z0 rfl (Rm rfl)) (Z1 4 10 rfl (Rk rfl)) (Z1 5 11 rfl (Rf qO rfl)) (Z1 6 12 rfl (Ro aH 0 rfl)) (bR ?_ (bR ?_ (bR (Z1 9 15 rfl (Ra rfl)) dz))))) ?_
  · refine dJ 3 9 7 13 rfl rfl fun _ a w G1 hG HT H fin=>?_;refine U5 i iB H wn rfl rfl rfl (by omega) rfl ?_;clear H;intro a H;exact fin H iJ rfl
  · refine fq 8 14 rfl rfl fun _ a w G1 hG HT H fin=>?_;refine s_call QW H wn rfl (Sy _ _ H.ro _ _ hex (by decide)) rfl ?_;clear H;rintro v15 EY a w ⟨rfl,rfl⟩ CF H;exact fin H CF (rfl)
  clear H;intro a w G nu H hv;have H:=H.aM (hv 10 5 rfl rfl) rfl;clear hv;refine aD ⟨rfl,?_⟩;refine K1 _ _ ?_;clear K1;refine jD H rfl ?_ ?_
  · intro h5
    try have p5:=dT h5
    refine kP H (SR fun _ K2=>Rm rfl (Rk rfl (Rf J4 rfl ?_)));clear H;intro a H;refine gH Yh (Li:=[]) (L:=iw b s i p (.slice A lit.length c) (.slice B parts.length d) pl e :: Lt) H wn rfl (by subst qz;exact acZ _ Lp Lo _ b s i p _ B parts.length d pl e lit.length _ 37 hR.ptr (Hp.owns (Li:=[]) H.hp) hR.buf (by omega)) rfl ?_;clear H;rintro v19 _ L19 a w ⟨atX,Fg,rfl,yZ,rfl⟩ rW H;dsimp only [List.nil_append] at H;obtain ⟨He,c19,rfl,-,-⟩:=yZ.shape;refine K2 _ _ ?_;clear K2;refine kP H (SC (Rm rfl (Rk rfl (aY qO aH 0 rfl rfl (Rd rfl (Rk rfl (Rf qO rfl ?_)))))));clear H;intro a H;refine bD aH 0 (vs:=[_]) _ H wn rfl rfl rfl rfl rfl rfl rfl rfl ?_;clear H;intro w H;dsimp only [List.set,setRow] at H;refine aD ?_;refine (leave0 H results272 ?_).2;exact H.hp.dx ⟨_,_,_,Lp,Fg,by rw [qg,au h5];rfl,by rw [qg,au h5];exact ⟨.inr rfl,by simpa [Lib.byteCells] using yZ,hR.prt⟩⟩
  intro h5
  try have p5:=dF h5
  refine kP H (SR fun _ K3=>Rm rfl (Rm rfl (Rk rfl (aY qO aH 0 rfl rfl (Rd rfl ?_)))));clear H;intro a H;rw [show ((i:Int)+1)=((i+1:Nat):Int) from rfl] at H;refine gH Yi (Li:=[]) (L:=iw b s i p (.slice A lit.length c) (.slice B parts.length d) pl e :: Lt) H wn rfl (XP _ Lt _ b s i p _ _ pl e (i+1) (by omega) (Hp.owns (Li:=[]) H.hp)) rfl ?_;clear H;rintro v34 _ L34 a w ⟨rfl,rfl,rfl⟩ IC H;dsimp only [List.nil_append] at H;refine kH H (ak K3 rfl (Cd rfl ?_ ?_)) <;> clear H K3
  · intro h27 a H
    try have p27:=dT h27
    have hd1:=XO h27;refine bN (fun _ K4=>?_);refine dI hmx [[],[],[1],[1,2],[1,2,3],[],[5],[5,6],[5,6,7],(ra 5 4),(ra 1 9),(ra 0 11)] [11] (by kernel_rfl) [_,_,_,_,.string s,_,_,_,vi i,_,.int .u8 (gK s (i+1))] H (aF (Z0 rfl (Rm rfl)) (Z0 rfl (Rm rfl)) (Z1 1 36 rfl (Rk rfl)) (Z1 2 37 rfl (Rf xX rfl)) (aF (Z1 3 38 rfl (Ro iN 0 rfl)) (Z0 rfl (Rm rfl)) (Z1 5 40 rfl (Rk rfl)) (Z1 6 41 rfl (Rf qO rfl)) (aF (Z1 7 42 rfl (Ro aH 0 rfl)) (Z1 8 43 rfl (Rd rfl)) ?_ (bS rfl) dz))) ?_
    · refine dJ 4 39 9 44 rfl rfl fun _ a w G1 hG HT H fin=>?_;refine qh (i+1) iB H wn rfl rfl rfl hd1.1 rfl ?_;clear H;intro a H;rw [← lN] at H;exact fin H iJ rfl
    clear H;intro a w G mK H hv;have H:=H.aM (hv 0 35 rfl rfl) rfl;have H:=H.aM (hv 10 45 rfl rfl) rfl;clear hv;refine gH Yj (Li:=[]) (L:=iw b s i p (.slice A lit.length c) (.slice B parts.length d) pl e :: Lt) H wn rfl (by subst qz;exact abp _ Lp Lo _ b s i p _ _ pl e lit parts (gK s (i+1)) false hR (Hp.owns (Li:=[]) H.hp) (by omega) (by omega) hd1.2 (by omega)) rfl ?_;clear H;rintro v46 VX L46 a w ⟨p46,arL,q46,JC,JB,rfl,CK⟩ ZG H;dsimp only [List.nil_append] at H;obtain ⟨A46,c46,rfl,-,-⟩:=CK.buf.shape;obtain ⟨B46,d46,rfl,-,-⟩:=CK.prt.shape;refine aD ⟨rfl,?_⟩;refine K4 _ _ ?_;clear K4;refine kP H (SC (Rm rfl (Rk rfl (aY qO aH 0 rfl rfl (Rd rfl (Rk rfl (Rf qO rfl ?_)))))));clear H;intro a H;refine bD aH 0 (vs:=[_]) _ H wn rfl rfl rfl rfl rfl rfl rfl rfl ?_;clear H;intro w H;dsimp only [List.set,setRow] at H;refine aD ?_;refine (leave0 H results272 ?_).2;exact H.hp.dx ⟨_,_,_,JC,JB,by rw [qg,ah (by simp [h5]),au h27];rfl,by rw [qg,ah (by simp [h5]),au h27];exact CK⟩
  intro h27 a H
  try have p27:=dF h27
  refine bN (fun _ K5=>?_)
  by_cases c1:sJ (s.extract i s.size) ⟨#[37,100]⟩=true
  · skip;refine dI hmx [[],[0],[0,1],[0,1,2],[],[4],[4,5],[4,5,6],(ra 0 8),(ra 0 9),(ra 0 10),(ra 0 11),(ra 0 11),(ra 0 11++[12]),(ra 0 11++[12,13]),(ra 0 11++[12,13,14]),(ra 0 11++ra 12 4),(ra 0 17),(ra 0 18),(ra 0 19)] [] (by kernel_rfl) [_,_,_,.string s,_,_,_,vi i,.string (s.extract i s.size),.bool (sJ (s.extract i s.size) ⟨#[37,100]⟩),.bool (decide (sJ (s.extract i s.size) ⟨#[37,100]⟩=true)),_,_,(aK b 0),_,vi i,vi ((i+2:Nat):Int),.bool (vC s (i+2)),_,_] H (aF (Z0 rfl (Rm rfl)) (Z1 0 55 rfl (Rk rfl)) (Z1 1 56 rfl (Rf xX rfl)) (Z1 2 57 rfl (Ro iN 0 rfl)) (aF (Z0 rfl (Rm rfl)) (Z1 4 59 rfl (Rk rfl)) (Z1 5 60 rfl (Rf qO rfl)) (Z1 6 61 rfl (Ro aH 0 rfl)) (aF ?_ ?_ ?_ (Z1 10 65 rfl (YM (aG c1) rfl)) (aF (Z1 10 65 rfl (YM (aG c1) rfl)) ?_ (Z2 13 68 10 65 rfl (YF qO (aG c1) rfl)) (Z2 14 69 10 65 rfl (YO aH 0 (aG c1) rfl)) (aF ?_ ?_ (Z2 10 65 17 72 rfl (Pt (aG c1) rfl)) (Z1 18 73 rfl (Ra rfl)) dz))))) ?_
    · refine dJ 3 58 7 62 rfl rfl fun _ a w G1 hG HT H fin=>?_;refine U5 i iB H wn rfl rfl rfl (by omega) rfl ?_;clear H;intro a H;exact fin H iJ rfl
    · refine fq 8 63 rfl rfl fun _ a w G1 hG HT H fin=>?_;refine s_call QW H wn rfl (Sy _ _ H.ro _ _ hex (by decide)) rfl ?_;clear H;rintro v64 G64 a w ⟨rfl,rfl⟩ Sj H;exact fin H Sj (rfl)
    · refine fq 9 64 rfl rfl fun _ a w G1 hG HT H fin=>?_;refine kH H (Rm rfl ?_);clear H;intro a H;exact fin H iJ (by show _=_;simp)
    · refine dJ 12 67 10 65 rfl rfl fun _ a w G1 hG HT H fin=>?_;refine uV H (wg H rfl rfl (aG c1)) rfl rfl ?_;clear H;intro a H;exact fin H iJ rfl
    · refine dJ 15 70 10 65 rfl rfl fun _ a w G1 hG HT H fin=>?_;refine Lj _ H (wg H rfl rfl (aG c1)) rfl rfl rfl (by omega) (by omega) rfl ?_;clear H;intro a H;exact fin H iJ rfl
    · refine yN 11 66 16 71 10 65 rfl rfl fun _ a w G1 hG HT H fin=>?_;refine gH Yi (Li:=[]) (L:=iw b s i p (.slice A lit.length c) (.slice B parts.length d) pl e :: Lt) H (wg H rfl rfl (aG c1)) rfl (XP _ Lt _ b s i p _ _ pl e (i+2) (by omega) (Hp.owns (Li:=[]) H.hp)) rfl ?_;clear H;rintro v72 G72 L72 a w ⟨rfl,rfl,rfl⟩ akc H;dsimp only [List.nil_append] at H;exact fin H akc (rfl)
    clear H;intro a w G Kl H hv;have H:=H.aM (hv 19 54 rfl rfl) rfl;clear hv;refine aD ⟨rfl,?_⟩;refine K5 _ _ ?_;clear K5;refine jD H rfl ?_ ?_
    · intro gL
      try have p54:=dT gL
      have hd2:=XO gL;refine bN (fun _ K6=>?_);refine dI hmx [[],[],[1],[1,2],[1,2,3],[],[5],[5,6],[5,6,7],(ra 5 4),(ra 1 9),(ra 0 11)] [11] (by kernel_rfl) [_,_,_,_,.string s,_,_,_,vi i,_,.int .u8 (gK s (i+2))] H (aF (Z0 rfl (Rm rfl)) (Z0 rfl (Rm rfl)) (Z1 1 75 rfl (Rk rfl)) (Z1 2 76 rfl (Rf xX rfl)) (aF (Z1 3 77 rfl (Ro iN 0 rfl)) (Z0 rfl (Rm rfl)) (Z1 5 79 rfl (Rk rfl)) (Z1 6 80 rfl (Rf qO rfl)) (aF (Z1 7 81 rfl (Ro aH 0 rfl)) (Z1 8 82 rfl (Rd rfl)) ?_ (bS rfl) dz))) ?_
      · refine dJ 4 78 9 83 rfl rfl fun _ a w G1 hG HT H fin=>?_;refine qh (i+2) iB H wn rfl rfl rfl hd2.1 rfl ?_;clear H;intro a H;rw [← lN] at H;exact fin H iJ rfl
      clear H;intro a w G pV H hv;have H:=H.aM (hv 0 74 rfl rfl) rfl;have H:=H.aM (hv 10 84 rfl rfl) rfl;clear hv;refine gH Yj (Li:=[]) (L:=iw b s i p (.slice A lit.length c) (.slice B parts.length d) pl e :: Lt) H wn rfl (by subst qz;exact abp _ Lp Lo _ b s i p _ _ pl e lit parts (gK s (i+2)) true hR (Hp.owns (Li:=[]) H.hp) (by omega) (by omega) hd2.2 (by omega)) rfl ?_;clear H;rintro v85 G85 L85 a w ⟨p46,arL,q46,JC,JB,rfl,CK⟩ atw H;dsimp only [List.nil_append] at H;obtain ⟨A46,c46,rfl,-,-⟩:=CK.buf.shape;obtain ⟨B46,d46,rfl,-,-⟩:=CK.prt.shape;refine aD ⟨rfl,?_⟩;refine K6 _ _ ?_;clear K6;refine kP H (SC (Rm rfl (Rk rfl (aY qO aH 0 rfl rfl (Rd rfl (Rk rfl (Rf qO rfl ?_)))))));clear H;intro a H;refine bD aH 0 (vs:=[_]) _ H wn rfl rfl rfl rfl rfl rfl rfl rfl ?_;clear H;intro w H;dsimp only [List.set,setRow] at H;refine aD ?_;refine (leave0 H results272 ?_).2
      have wY:¬ sJ (s.extract i s.size) ⟨#[37,37]⟩=true:=by simp [h5]
      have wX:¬ vC s (i+1)=true:=by simp [h27]
      first
        | exact H.hp.dx ⟨_,_,_,JC,JB,by rw [qg,ah wY,ah wX,au ⟨c1,gL⟩];rfl,by rw [qg,ah wY,ah wX,au ⟨c1,gL⟩];exact CK⟩
        | (have Eu:¬ (sJ (s.extract i s.size) ⟨#[37,100]⟩=true∧vC s (i+2)=true):=by simp_all
           exact H.hp.dx ⟨_,_,_,Lp,Lo,by rw [qg,ah wY,ah wX,ah Eu,qz],by rw [qg,ah wY,ah wX,ah Eu];exact hR⟩)
    intro gL
    try have p54:=dF gL
    refine kP H (SC (Rm rfl (Rk rfl (Rf Bf rfl ?_))));clear H;intro a H;refine bD iA 0 (vs:=[_]) _ H wn rfl rfl rfl rfl rfl rfl rfl rfl ?_;clear H;intro w H;dsimp only [List.set,setRow] at H;refine aD ?_;refine (leave0 H results272 ?_).2
    have wY:¬ sJ (s.extract i s.size) ⟨#[37,37]⟩=true:=by simp [h5]
    have wX:¬ vC s (i+1)=true:=by simp [h27]
    first
      | exact H.hp.dx ⟨_,_,_,JC,JB,by rw [qg,ah wY,ah wX,au ⟨c1,gL⟩];rfl,by rw [qg,ah wY,ah wX,au ⟨c1,gL⟩];exact CK⟩
      | (have Eu:¬ (sJ (s.extract i s.size) ⟨#[37,100]⟩=true∧vC s (i+2)=true):=by simp_all
         exact H.hp.dx ⟨_,_,_,Lp,Lo,by rw [qg,ah wY,ah wX,ah Eu,qz],by rw [qg,ah wY,ah wX,ah Eu];exact hR⟩)
  skip;refine dI hmx [[],[0],[0,1],[0,1,2],[],[4],[4,5],[4,5,6],(ra 0 8),(ra 0 9),(ra 0 10),(ra 0 11),(ra 0 11),(ra 0 11++[12]),(ra 0 11++[12,13]),(ra 0 11++[12,13,14]),(ra 0 11++ra 12 4),(ra 0 17),(ra 0 18),(ra 0 19)] [] (by kernel_rfl) [_,_,_,.string s,_,_,_,vi i,.string (s.extract i s.size),.bool (sJ (s.extract i s.size) ⟨#[37,100]⟩),.bool (decide (sJ (s.extract i s.size) ⟨#[37,100]⟩=true)),undef,undef,undef,undef,undef,undef,undef,_,_] H (aF (Z0 rfl (Rm rfl)) (Z1 0 55 rfl (Rk rfl)) (Z1 1 56 rfl (Rf xX rfl)) (Z1 2 57 rfl (Ro iN 0 rfl)) (aF (Z0 rfl (Rm rfl)) (Z1 4 59 rfl (Rk rfl)) (Z1 5 60 rfl (Rf qO rfl)) (Z1 6 61 rfl (Ro aH 0 rfl)) (aF ?_ ?_ ?_ (aV 10 (aS c1) rfl rfl) (aF (aV 10 (aS c1) rfl rfl) (aV 10 (aS c1) rfl rfl) (aV 10 (aS c1) rfl rfl) (aV 10 (aS c1) rfl rfl) (aF (aV 10 (aS c1) rfl rfl) (aV 10 (aS c1) rfl rfl) (Z2 10 65 17 72 rfl (Pf (aS c1) rfl)) (Z1 18 73 rfl (Ra rfl)) dz))))) ?_
  · refine dJ 3 58 7 62 rfl rfl fun _ a w G1 hG HT H fin=>?_;refine U5 i iB H wn rfl rfl rfl (by omega) rfl ?_;clear H;intro a H;exact fin H iJ rfl
  · refine fq 8 63 rfl rfl fun _ a w G1 hG HT H fin=>?_;refine s_call QW H wn rfl (Sy _ _ H.ro _ _ hex (by decide)) rfl ?_;clear H;rintro v64 G64 a w ⟨rfl,rfl⟩ Sj H;exact fin H Sj (rfl)
  · refine fq 9 64 rfl rfl fun _ a w G1 hG HT H fin=>?_;refine kH H (Rm rfl ?_);clear H;intro a H;exact fin H iJ (by show _=_;simp)
  clear H;intro a w G Kl H hv;have H:=H.aM (hv 19 54 rfl rfl) rfl;clear hv;refine aD ⟨rfl,?_⟩;refine K5 _ _ ?_;clear K5;refine rP H rfl rfl ?_;refine kP H (SC (Rm rfl (Rk rfl (Rf Bf rfl ?_))));clear H;intro a H;refine bD iA 0 (vs:=[_]) _ H wn rfl rfl rfl rfl rfl rfl rfl rfl ?_;clear H;intro w H;dsimp only [List.set,setRow] at H;refine aD ?_;refine (leave0 H results272 ?_).2
  have wY:¬ sJ (s.extract i s.size) ⟨#[37,37]⟩=true:=by simp [h5]
  have wX:¬ vC s (i+1)=true:=by simp [h27]
  first
    | exact H.hp.dx ⟨_,_,_,JC,JB,by rw [qg,ah wY,ah wX,au ⟨c1,gL⟩];rfl,by rw [qg,ah wY,ah wX,au ⟨c1,gL⟩];exact CK⟩
    | (have Eu:¬ (sJ (s.extract i s.size) ⟨#[37,100]⟩=true∧vC s (i+2)=true):=by simp_all
       exact H.hp.dx ⟨_,_,_,Lp,Lo,by rw [qg,ah wY,ah wX,ah Eu,qz],by rw [qg,ah wY,ah wX,ah Eu];exact hR⟩)
theorem aib:∀ args w,(callFunc 272 args).run prog w=.ok (.enter 272 args) w:=enters func272 rfl (by kernel_rfl)
def MF (s:ByteArray) (i:Nat):UInt8:=if h:i < s.size then s[i] else 0
theorem aea (s:ByteArray) (i:Nat):gK s i=((MF s i).toNat:Int):=by
 unfold gK MF;split <;> rfl
def pq (s:ByteArray) (x:vk):vk:=if gK s x.i=37 then qg s x else ⟨x.i+1,x.lit++[MF s x.i],x.parts,x.pl,x.e⟩
def Dp (s:ByteArray):Nat→vk→vk
 | 0,x=>x
 | f+1,x=>if x.i < s.size∧x.e=0 then Dp s f (pq s x) else x
def mS (s:ByteArray) (x:vk):Nat:=if x.e=0 then s.size - x.i else 0
theorem abW {s:ByteArray} {f:Nat} {x:vk} (h:¬ (x.i < s.size∧x.e=0)):Dp s f x=x:=by
 cases f with
 | zero=>rfl
 | succ f=>rw [Dp,ah h]
theorem ajx (lit:List UInt8) (parts:List jH):(vM lit parts).length≤parts.length+1:=by unfold vM;split <;> simp
theorem acs (s:ByteArray) (x:vk) (h:x.i < s.size∧x.e=0) (h1:x.lit.length≤x.i) (h2:x.parts.length≤2*x.i) (h3:x.pl≤x.i) :
  (pq s x).i≤x.i+3∧(pq s x).lit.length≤(pq s x).i∧(pq s x).parts.length≤2*(pq s x).i∧(pq s x).pl≤(pq s x).i∧mS s (pq s x) < mS s x∧mS s x≤s.size:=by
 have hf:=ajx x.lit x.parts;have hm:mS s x=s.size - x.i:=au h.2
 unfold pq qg
 split
 ·split
  ·refine ⟨?_,?_,?_,?_,?_,?_⟩ <;> simp only [mS,iI,kR,List.length_nil] at*<;> simp only [h.2,if_true] at*<;> omega
  split
  ·refine ⟨?_,?_,?_,?_,?_,?_⟩ <;> simp only [mS,iI,kR,List.length_nil] at*<;> simp only [h.2,if_true] at*<;> omega
  split
  ·refine ⟨?_,?_,?_,?_,?_,?_⟩ <;> simp only [mS,iI,kR,List.length_nil] at*<;> simp only [h.2,if_true] at*<;> omega
  refine ⟨?_,?_,?_,?_,?_,?_⟩ <;> simp only [mS,iI,kR,List.length_nil] at*<;> simp only [h.2,if_true] at*<;> (try omega) <;> (simp;omega)
 refine ⟨?_,?_,?_,?_,?_,?_⟩ <;> simp only [mS,iI,kR,List.length_nil] at*<;> simp only [h.2,if_true] at*<;> omega
def BN:vk:=⟨0,[],[],0,0⟩
def kW (s:ByteArray):vk:=Dp s s.size BN
def uW (x:vk):Int:=if x.e=0∧9 < (x.pl:Int) then 9 else x.e
set_option maxHeartbeats 1000000 in
theorem apY (G:GH) (Ms Mr:OL) (w0:World) (b:Nat) (s:ByteArray) (p0 v0 q0:aj) (hR:AQ b [] [] p0 v0 q0 Ms Mr) (hO:gD G (xD b s BN p0 v0 q0 :: (Ms++Mr)) w0) (hs:s.size≤1073741824) :
  Calls prog 266 #[(aK b 0)] w0 (fV w0 G (xD b s BN p0 v0 q0 :: (Ms++Mr)) fun u G' L'=>∃ p' v' q' rJ kY,L'=iw b s (kW s).i p' v' q' (kW s).pl (uW (kW s)) :: (rJ++kY)∧AQ b [] (vM (kW s).lit (kW s).parts) p' v' q' rJ kY):=by
 obtain ⟨A0,c0,rfl,-,-⟩:=hR.buf.shape;obtain ⟨B0,d0,rfl,-,-⟩:=hR.prt.shape;refine iX (N:=68) (T:=[(0,_)]) func266 rfl ntmps266 rfl rfl hO ?_;intro a H;refine bN (fun _ K1=>?_);refine Cn ?_;skip;refine eU (ι:=Nat × vk × aj × Option Addr × Nat × Option Addr × Nat × OL × OL × GH) (Tc:=[(0,_)]) (Lc:=[]) (fun gh=>[]) (fun gh=>[xD b s gh.2.1 gh.2.2.1 (.slice gh.2.2.2.1 gh.2.1.lit.length gh.2.2.2.2.1) (.slice gh.2.2.2.2.2.1 gh.2.1.parts.length gh.2.2.2.2.2.2.1)]++(gh.2.2.2.2.2.2.2.1++gh.2.2.2.2.2.2.2.2.1)) (fun gh=>gh.2.2.2.2.2.2.2.2.2) (fun gh=>AQ b gh.2.1.lit gh.2.1.parts gh.2.2.1 (.slice gh.2.2.2.1 gh.2.1.lit.length gh.2.2.2.2.1) (.slice gh.2.2.2.2.2.1 gh.2.1.parts.length gh.2.2.2.2.2.2.1) gh.2.2.2.2.2.2.2.1 gh.2.2.2.2.2.2.2.2.1∧Dp s gh.1 gh.2.1=kW s∧mS s gh.2.1≤gh.1∧gh.1≤s.size∧gh.2.1.i≤s.size+3∧gh.2.1.lit.length≤gh.2.1.i∧gh.2.1.parts.length≤2*gh.2.1.i∧gh.2.1.pl≤gh.2.1.i) (fun gh=>gh.1) ((s.size,BN,p0,A0,c0,B0,d0,Ms,Mr,G)) (by exact (H).sub ⟨rfl,aC⟩) ?_ ?_
 ·exact ⟨hR,rfl,by simp [mS,BN],bM _,by simp [BN],by simp [BN],by simp [BN],by simp [BN]⟩
 clear H;rintro ⟨k,x,p,vA,vc,qA,qc,Lp,Lo,g⟩ a w hI H;dsimp only at hI H;obtain ⟨hR,hsc,hmk,hks,hxi,hx1,hx2,hx3⟩:=hI;dsimp only [lca,bJ] at H;refine bN (fun _ K2=>?_);refine bN (fun _ K3=>?_)
 by_cases c0:(x.i:Int) < (s.size:Int)
 ·skip
  by_cases c1:x.e=0
  ·skip;refine dI hmx [[],[0],[0,1],[0,1,2],[],[4],[4,5],[4,5,6],(ra 4 4),(ra 0 9),(ra 0 10),(ra 0 11),(ra 0 12),(ra 0 13),(ra 0 14),(ra 0 15),(ra 0 16)] [] (by kernel_rfl) [_,_,_,vi x.i,_,_,_,.string s,_,_,_,_,(aK b 0),_,vi x.e,_,_] H (aF (Z0 rfl (Rm rfl)) (Z1 0 2 rfl (Rk rfl)) (Z1 1 3 rfl (Rf qO rfl)) (Z1 2 4 rfl (Ro aH 0 rfl)) (aF (Z0 rfl (Rm rfl)) (Z1 4 6 rfl (Rk rfl)) (Z1 5 7 rfl (Rf xX rfl)) (Z1 6 8 rfl (Ro iN 0 rfl)) (aF (Z1 7 9 rfl (Rv iB rfl)) (Z2 3 5 8 10 rfl (Rc rfl)) (Z1 9 11 rfl (Rm rfl)) (Z1 10 12 rfl (YM (aG c0) rfl)) (aF ?_ (Z2 12 14 10 12 rfl (YF Bf (aG c0) rfl)) (Z2 13 15 10 12 rfl (YO iA 0 (aG c0) rfl)) (Z2 14 16 10 12 rfl (YC (aG c0) rfl)) (bR (Z2 10 12 15 17 rfl (Pt (aG c0) rfl)) dz))))) ?_
   ·refine dJ 11 13 10 12 rfl rfl fun _ a w G1 hG HT H fin=>?_;refine uV H (wg H rfl rfl (aG c0)) rfl rfl ?_;clear H;intro a H;exact fin H iJ rfl
   clear H;intro a w G Zb H hv;have H:=H.aM (hv 16 18 rfl rfl) rfl;clear hv;refine aD ⟨rfl,?_⟩;refine K3 _ _ ?_;clear K3;refine Ba H rfl (aG c1) ?_;refine kP H (Kc K2 (SB (SQ fun _ K4=>SQ fun _ K5=>?_)));clear H K2;intro a H;refine dI hmx [[],[0],[0,1],[0,1,2],[],[4],[4,5],[4,5,6],(ra 0 8),(ra 0 9)] [] (by kernel_rfl) [_,_,_,.string s,_,_,_,vi x.i,.int .u8 (gK s x.i),_] H (aF (Z0 rfl (Rm rfl)) (Z1 0 19 rfl (Rk rfl)) (Z1 1 20 rfl (Rf xX rfl)) (Z1 2 21 rfl (Ro iN 0 rfl)) (aF (Z0 rfl (Rm rfl)) (Z1 4 23 rfl (Rk rfl)) (Z1 5 24 rfl (Rf qO rfl)) (Z1 6 25 rfl (Ro aH 0 rfl)) (bR ?_ (bR (Z1 8 27 rfl (Rc rfl)) dz)))) ?_
   ·refine dJ 3 22 7 26 rfl rfl fun _ a w G1 hG HT H fin=>?_;refine qh x.i iB H wn rfl rfl rfl (by omega) rfl ?_;clear H;intro a H;rw [← lN] at H;exact fin H iJ rfl
   clear H;intro a w G nu H hv;have H:=H.aM (hv 9 28 rfl rfl) rfl;clear hv;refine aD ⟨rfl,?_⟩;refine K5 _ _ ?_;clear K5;refine jD H rfl ?_ ?_
   ·intro fQ
    try have p28:=dT fQ
    refine kP H (SR fun _ K6=>Rm rfl ?_);clear H;intro a H;refine gH aib (Li:=[]) (L:=xD b s x p (.slice vA x.lit.length vc) (.slice qA x.parts.length qc) :: (Lp++Lo)) H wn rfl (aot _ Lp Lo _ b s x p _ _ hR (Hp.owns (Li:=[]) H.hp) (by omega) (by omega) (by omega) (by omega) (by omega)) rfl ?_;clear H;rintro v30 Ay L30 a w ⟨p',v',q',rJ,kY,rfl,Nl⟩ Bt H;dsimp only [List.nil_append] at H;have hst:pq s x=qg s x:=au p28;have hok:=acs s x ⟨by omega,c1⟩ hx1 hx2 hx3
    have hkk:k=(k - 1)+1:=by omega
    have TD:Dp s (k - 1) (pq s x)=kW s:=by rw [hkk,Dp,au ⟨by omega,c1⟩] at hsc;exact hsc
    rw [← hst] at H Nl;obtain ⟨A30,c30,rfl,-,-⟩:=Nl.buf.shape;obtain ⟨B30,d30,rfl,-,-⟩:=Nl.prt.shape;refine K6 _ _ ?_;clear K6;refine dV ?_;refine dD ((k - 1,pq s x,p',A30,c30,B30,d30,rJ,kY,Ay)) (by exact (H).sub ⟨rfl,aC⟩) ?_
    (try dsimp only);exact ⟨Nl,TD,by omega,by omega,by omega,by omega,by omega,by omega⟩
   intro fQ
   try have p28:=dF fQ
   refine gU ?_;refine K4 _ _ ?_;clear K4;refine bN (fun _ K7=>?_);refine dI hmx [[],[0],[0,1],[],[3],[3,4],[3,4,5],[],[7],[7,8],[7,8,9],(ra 3 8),(ra 0 12)] [12] (by kernel_rfl) [_,_,_,_,_,_,.string s,_,_,_,vi x.i,.int .u8 (gK s x.i)] H (aF (Z0 rfl (Rm rfl)) (Z1 0 31 rfl (Rk rfl)) (Z1 1 32 rfl (Rf J4 rfl)) (Z0 rfl (Rm rfl)) (aF (Z1 3 34 rfl (Rk rfl)) (Z1 4 35 rfl (Rf xX rfl)) (Z1 5 36 rfl (Ro iN 0 rfl)) (Z0 rfl (Rm rfl)) (aF (Z1 7 38 rfl (Rk rfl)) (Z1 8 39 rfl (Rf qO rfl)) (Z1 9 40 rfl (Ro aH 0 rfl)) ?_ (bR (bS rfl) dz)))) ?_
   ·refine dJ 6 37 10 41 rfl rfl fun _ a w G1 hG HT H fin=>?_;refine qh x.i iB H wn rfl rfl rfl (by omega) rfl ?_;clear H;intro a H;rw [← lN] at H;exact fin H iJ rfl
   clear H;intro a w G uP H hv;have H:=H.aM (hv 2 33 rfl rfl) rfl;have H:=H.aM (hv 11 42 rfl rfl) rfl;clear hv;refine gH Yh (Li:=[]) (L:=xD b s x p (.slice vA x.lit.length vc) (.slice qA x.parts.length qc) :: (Lp++Lo)) H wn rfl (acZ _ Lp Lo _ b s x.i p _ qA x.parts.length qc x.pl x.e x.lit.length _ (gK s x.i) hR.ptr (Hp.owns (Li:=[]) H.hp) hR.buf (by omega)) rfl ?_;clear H;rintro v43 _ L43 a w ⟨atY,PX,rfl,aae,rfl⟩ Ep H;dsimp only [List.nil_append] at H;obtain ⟨Pz,Ql,rfl,-,-⟩:=aae.shape;have hst:pq s x=⟨x.i+1,x.lit++[MF s x.i],x.parts,x.pl,x.e⟩:=ah p28;have hok:=acs s x ⟨by omega,c1⟩ hx1 hx2 hx3
   have hkk:k=(k - 1)+1:=by omega
   have TD:Dp s (k - 1) (pq s x)=kW s:=by rw [hkk,Dp,au ⟨by omega,c1⟩] at hsc;exact hsc
   have akl:AQ b (pq s x).lit (pq s x).parts (aK b 2) (.slice Pz (pq s x).lit.length Ql) (.slice qA (pq s x).parts.length qc) Lp PX:=by
    rw [hst];exact ⟨.inr rfl,by simpa [Lib.byteCells,aea] using aae,hR.prt⟩
   refine aD ⟨rfl,?_⟩;refine K7 _ _ ?_;clear K7;refine kP H (SC (Rm rfl (Rk rfl (aY qO aH 0 rfl rfl (Rd rfl (Rk rfl (Rf qO rfl ?_)))))));clear H;intro a H;refine bD aH 0 (vs:=[_]) _ H wn rfl rfl rfl rfl rfl rfl rfl rfl ?_;clear H;intro w H;dsimp only [List.set,setRow] at H;replace H:St _ _ _ _ _ _ (xD b s (pq s x) (aK b 2) (.slice Pz (pq s x).lit.length Ql) (.slice qA (pq s x).parts.length qc) :: (Lp++PX)) _ _ _:=H.cast (by rw [hst];simp [xD,iw]);refine aD ?_;refine dD ((k - 1,pq s x,(aK b 2),Pz,Ql,qA,qc,Lp,PX,_)) (by exact (H).sub ⟨rfl,aC⟩) ?_
   (try dsimp only);exact ⟨akl,TD,by omega,by omega,by omega,by omega,by omega,by omega⟩
  skip;refine dI hmx [[],[0],[0,1],[0,1,2],[],[4],[4,5],[4,5,6],(ra 4 4),(ra 0 9),(ra 0 10),(ra 0 11),(ra 0 12),(ra 0 13),(ra 0 14),(ra 0 15),(ra 0 16)] [] (by kernel_rfl) [_,_,_,vi x.i,_,_,_,.string s,_,_,_,_,(aK b 0),_,vi x.e,_,_] H (aF (Z0 rfl (Rm rfl)) (Z1 0 2 rfl (Rk rfl)) (Z1 1 3 rfl (Rf qO rfl)) (Z1 2 4 rfl (Ro aH 0 rfl)) (aF (Z0 rfl (Rm rfl)) (Z1 4 6 rfl (Rk rfl)) (Z1 5 7 rfl (Rf xX rfl)) (Z1 6 8 rfl (Ro iN 0 rfl)) (aF (Z1 7 9 rfl (Rv iB rfl)) (Z2 3 5 8 10 rfl (Rc rfl)) (Z1 9 11 rfl (Rm rfl)) (Z1 10 12 rfl (YM (aG c0) rfl)) (aF ?_ (Z2 12 14 10 12 rfl (YF Bf (aG c0) rfl)) (Z2 13 15 10 12 rfl (YO iA 0 (aG c0) rfl)) (Z2 14 16 10 12 rfl (YC (aG c0) rfl)) (bR (Z2 10 12 15 17 rfl (Pt (aG c0) rfl)) dz))))) ?_
  ·refine dJ 11 13 10 12 rfl rfl fun _ a w G1 hG HT H fin=>?_;refine uV H (wg H rfl rfl (aG c0)) rfl rfl ?_;clear H;intro a H;exact fin H iJ rfl
  clear H;intro a w G Zb H hv;have H:=H.aM (hv 16 18 rfl rfl) rfl;clear hv;refine aD ⟨rfl,?_⟩;refine K3 _ _ ?_;clear K3;refine rP H rfl (aS c1) ?_;refine dV ?_;refine K1 _ _ ?_;clear K1;refine bN (fun _ K8=>?_)
  have TP:x=kW s:=by
   rw [abW (by first|exact fun h=>c0 (by omega)|exact fun h=>c1 h.2)] at hsc;exact hsc
  subst TP;refine kP H (SC (Rm rfl ?_));clear H;intro a H;refine gH QV (Li:=[]) (L:=xD b s (kW s) p (.slice vA (kW s).lit.length vc) (.slice qA (kW s).parts.length qc) :: (Lp++Lo)) H wn rfl (RA _ Lp Lo _ b s (kW s).i p _ _ (kW s).pl (kW s).e (kW s).lit (kW s).parts hR (Hp.owns (Li:=[]) H.hp) (by omega) (by omega)) rfl ?_;clear H;rintro v52 VZ L52 a w ⟨p52,arM,q52,adK,adH,rfl,tK⟩ alr H;dsimp only [List.nil_append] at H;obtain ⟨Hf,H9,rfl,-,-⟩:=tK.buf.shape;obtain ⟨B52,d52,rfl,-,-⟩:=tK.prt.shape;refine kH H (Kn K8 (SR fun _ K9=>Rm rfl (Rk rfl (aY Bf iA 0 rfl rfl (Rc rfl (Rm rfl (Sp 58 rfl ?_ ?_))))))) <;> clear H K8
  ·intro kU a H
   try have p58:=dT kU
   refine kH H (YM kU rfl ?_);clear H;intro a H;refine uV H (wg H rfl rfl kU) rfl rfl ?_;clear H;intro a H;refine kH H (YF Nb kU rfl (YO aH 0 kU rfl (YC kU rfl (Pt kU rfl (Kz K9 (Cd rfl ?_ ?_)))))) <;> clear H K9
   ·intro h64 a H
    try have p64:=dT h64
    refine kP H (SC (Rm rfl (Rk rfl (Rf Bf rfl ?_))));clear H;intro a H;refine bD iA 0 (vs:=[_]) _ H wn rfl rfl rfl rfl rfl rfl rfl rfl ?_;clear H;intro w H;dsimp only [List.set,setRow] at H;refine aD ?_;refine (leave0 H results266 ?_).2
    first
     | exact H.hp.dx ⟨_,_,_,_,_,by rw [uW,au ⟨by assumption,by assumption⟩],tK⟩
     | exact H.hp.dx ⟨_,_,_,_,_,by rw [uW,ah (by first|exact fun h=>p58 h.1|exact fun h=>p64 h.2)],tK⟩
   intro h64 a H
   try have p64:=dF h64
   refine gU ?_;refine (leave0 H results266 ?_).2
   first
    | exact H.hp.dx ⟨_,_,_,_,_,by rw [uW,au ⟨by assumption,by assumption⟩],tK⟩
    | exact H.hp.dx ⟨_,_,_,_,_,by rw [uW,ah (by first|exact fun h=>p58 h.1|exact fun h=>p64 h.2)],tK⟩
  intro kU a H
  try have p58:=dF kU
  refine kH H (bF kU rfl (aQ kU rfl (Pf kU rfl (Kz K9 (Cf rfl rfl ?_)))));clear H K9;intro a H;refine gU ?_;refine (leave0 H results266 ?_).2
  first
   | exact H.hp.dx ⟨_,_,_,_,_,by rw [uW,au ⟨by assumption,by assumption⟩],tK⟩
   | exact H.hp.dx ⟨_,_,_,_,_,by rw [uW,ah (by first|exact fun h=>p58 h.1|exact fun h=>p64 h.2)],tK⟩
 skip;refine dI hmx [[],[0],[0,1],[0,1,2],[],[4],[4,5],[4,5,6],(ra 4 4),(ra 0 9),(ra 0 10),(ra 0 11),(ra 0 12),(ra 0 13),(ra 0 14),(ra 0 15),(ra 0 16)] [] (by kernel_rfl) [_,_,_,vi x.i,_,_,_,.string s,_,_,_,undef,undef,undef,undef,undef,_] H (aF (Z0 rfl (Rm rfl)) (Z1 0 2 rfl (Rk rfl)) (Z1 1 3 rfl (Rf qO rfl)) (Z1 2 4 rfl (Ro aH 0 rfl)) (aF (Z0 rfl (Rm rfl)) (Z1 4 6 rfl (Rk rfl)) (Z1 5 7 rfl (Rf xX rfl)) (Z1 6 8 rfl (Ro iN 0 rfl)) (aF (Z1 7 9 rfl (Rv iB rfl)) (Z2 3 5 8 10 rfl (Rc rfl)) (Z1 9 11 rfl (Rm rfl)) (aV 10 (aS c0) rfl rfl) (aF (aV 10 (aS c0) rfl rfl) (aV 10 (aS c0) rfl rfl) (aV 10 (aS c0) rfl rfl) (aV 10 (aS c0) rfl rfl) (bR (Z2 10 12 15 17 rfl (Pf (aS c0) rfl)) dz))))) ?_
 clear H;intro a w G Zb H hv;have H:=H.aM (hv 16 18 rfl rfl) rfl;clear hv;refine aD ⟨rfl,?_⟩;refine K3 _ _ ?_;clear K3;refine rP H rfl rfl ?_;refine dV ?_;refine K1 _ _ ?_;clear K1;refine bN (fun _ aR=>?_)
 have TP:x=kW s:=by
  rw [abW (by first|exact fun h=>c0 (by omega)|exact fun h=>c1 h.2)] at hsc;exact hsc
 subst TP;refine kP H (SC (Rm rfl ?_));clear H;intro a H;refine gH QV (Li:=[]) (L:=xD b s (kW s) p (.slice vA (kW s).lit.length vc) (.slice qA (kW s).parts.length qc) :: (Lp++Lo)) H wn rfl (RA _ Lp Lo _ b s (kW s).i p _ _ (kW s).pl (kW s).e (kW s).lit (kW s).parts hR (Hp.owns (Li:=[]) H.hp) (by omega) (by omega)) rfl ?_;clear H;rintro v52 VZ L52 a w ⟨p52,arM,q52,adK,adH,rfl,tK⟩ alr H;dsimp only [List.nil_append] at H;obtain ⟨Hf,H9,rfl,-,-⟩:=tK.buf.shape;obtain ⟨B52,d52,rfl,-,-⟩:=tK.prt.shape;refine kH H (Kn aR (SR fun _ bQ=>Rm rfl (Rk rfl (aY Bf iA 0 rfl rfl (Rc rfl (Rm rfl (Sp 58 rfl ?_ ?_))))))) <;> clear H aR
 ·intro kU a H
  try have p58:=dT kU
  refine kH H (YM kU rfl ?_);clear H;intro a H;refine uV H (wg H rfl rfl kU) rfl rfl ?_;clear H;intro a H;refine kH H (YF Nb kU rfl (YO aH 0 kU rfl (YC kU rfl (Pt kU rfl (Kz bQ (Cd rfl ?_ ?_)))))) <;> clear H bQ
  ·intro h64 a H
   try have p64:=dT h64
   refine kP H (SC (Rm rfl (Rk rfl (Rf Bf rfl ?_))));clear H;intro a H;refine bD iA 0 (vs:=[_]) _ H wn rfl rfl rfl rfl rfl rfl rfl rfl ?_;clear H;intro w H;dsimp only [List.set,setRow] at H;refine aD ?_;refine (leave0 H results266 ?_).2
   first
    | exact H.hp.dx ⟨_,_,_,_,_,by rw [uW,au ⟨by assumption,by assumption⟩],tK⟩
    | exact H.hp.dx ⟨_,_,_,_,_,by rw [uW,ah (by first|exact fun h=>p58 h.1|exact fun h=>p64 h.2)],tK⟩
  intro h64 a H
  try have p64:=dF h64
  refine gU ?_;refine (leave0 H results266 ?_).2
  first
   | exact H.hp.dx ⟨_,_,_,_,_,by rw [uW,au ⟨by assumption,by assumption⟩],tK⟩
   | exact H.hp.dx ⟨_,_,_,_,_,by rw [uW,ah (by first|exact fun h=>p58 h.1|exact fun h=>p64 h.2)],tK⟩
 intro kU a H
 try have p58:=dF kU
 refine kH H (bF kU rfl (aQ kU rfl (Pf kU rfl (Kz bQ (Cf rfl rfl ?_)))));clear H bQ;intro a H;refine gU ?_;refine (leave0 H results266 ?_).2
 first
  | exact H.hp.dx ⟨_,_,_,_,_,by rw [uW,au ⟨by assumption,by assumption⟩],tK⟩
  | exact H.hp.dx ⟨_,_,_,_,_,by rw [uW,ah (by first|exact fun h=>p58 h.1|exact fun h=>p64 h.2)],tK⟩
section
def Av (c:Int):List Dat:=[.lf (.int .u8 c)]
theorem acE {G:GH} {c:Int} {cs:List aj} (h:aU G (Av c) cs):cs=[.int .u8 c]:=by
 simp only [Av,aU,av] at h
 obtain ⟨_,_,rfl,⟨rfl,_⟩,rfl⟩:=h
 rfl
def H8 (s:ByteArray):List Int:=s.data.toList.map fun b=>(b.toNat:Int)
theorem aej (G:GH) (l:List Int):bT G 1 (l.map Av) (l.map fun c=>Value.int .u8 c):=by
 refine ⟨l.map fun c=>[.int .u8 c],by induction l with|nil=>rfl|cons x r ih=>simp [ih],by simp,fun j r cs hr hc=>?_⟩
 rw [pQ] at hr hc
 obtain ⟨x,hx,rfl⟩:=ou.1 hr
 rw [hx] at hc
 cases hc
 exact ⟨by simp only [Av,aU];exact ⟨_,_,rfl,by simp [av,Value.oneCell'],rfl⟩,rfl⟩
theorem aoR {G:GH} {sz b o n cap:Nat} {cur:Array aj} {e:TypeId} {fz:Nat × Nat} {rows:List (List Dat)} (hb:G b=some (.cells cur e fz)) (h:av (fun k=>if k=b then some (.cells cur e (0,0)) else G k) (.sl sz rows) (.slice (some ⟨b,o,none⟩) n cap)) (hr:∀ r∈rows,∃ c,r=Av c):av G (.sl sz rows) (.slice (some ⟨b,o,none⟩) n cap):=by
 simp only [av] at h ⊢
 obtain ⟨A,c,h1,h2,h3,h4⟩:=h
 refine ⟨A,c,h1,h2,h3,fun hn=>?_⟩
 obtain ⟨b',o',e',hrr⟩:=h4 hn
 injection h1 with e1
 subst e1
 injection e' with e2
 injection e2 with e3 e4
 subst e3;subst e4
 refine ⟨_,_,rfl,mY.mk fun k r hk=>?_⟩
 obtain ⟨cs,g1,g2,g3⟩:=hrr.get hk
 refine ⟨cs,g1,fun j u hj=>?_,?_⟩
 ·have:=g2 j u hj
  unfold aI at this ⊢
  simp only [if_true] at this
  rw [hb];exact this
 ·obtain ⟨c,rfl⟩:=hr r (kQ hk)
  have:=acE g3
  subst this
  simp only [Av,aU];exact ⟨_,_,rfl,by simp [av,Value.oneCell'],rfl⟩
section
variable {N:Nat} {D:List Deferred} {w0:World} {F:Nat→Prop} {G0 G:GH} {L:OL} {T:List (Nat × aj)}
variable {r:Option Nat} {P:Program} {ops:Array Oper} {Q:Exit→Act→World→Prop} {rest:List Oper} {a:Act} {w:World}
variable {d:Nat} {ty:TypeId} {pos:String} {aL:Array Edge} {g:Option (Nat × Bool)}
theorem arF {w:World} {b o n:Nat} {c:Array aj} {e:TypeId} {fz:Nat × Nat} (h:w.heap[b]?=some (.cells c e fz)) (hn:n≠0):∃ FN,vo b (.cells c e FN) w (w.freeze ⟨b,o,none⟩ n):=by
 unfold World.freeze
 rw [ah hn]
 refine ⟨if fz.1 == fz.2 then (o,o+n) else (min fz.1 o,max fz.2 (o+n)),rfl,rfl,rfl,by simp,?_,fun k hk=>?_⟩
 ·simp [Array.getElem?_modify,h]
 ·simp [Array.getElem?_modify,Ne.symm hk]
theorem apD {t u e:TypeId} {x:Operand} {s:ByteArray} (ht:P.underlying t=some .string) (hu:P.underlying u=some (.slice e)) (he:P.underlying e=some (.int .u8)) (H:St N D w0 F G0 G L T a w) (hw:Region.wanted ⟨some d,.convert t u x,ty,pos,aL,g⟩ (yielded ops a.tmps)=true) (hx:ev T x=some (.string s)) (hz:s.size≤4294967296) (hd:Nat.blt d N=true)
  (k:∀ v G' a' w',(∀ k o,G k=some o→G' k=some o)→av G' (.sl 1 ((H8 s).map Av)) v→St N D w0 F G0 G' L ((d,v) :: T) a' w'→WL r P ops Q rest a' w'):WL r P ops Q (⟨some d,.convert t u x,ty,pos,aL,g⟩ :: rest) a w:=by
 have hc:=Lib.run_convert_string_bytes (P:=P) w t u e s ht hu he
 have hge:=grownCap_ge w s.size 0 e
 have hml:s.size≤maxLen:=by
  have:maxLen=9223372036854775807:=rfl
  omega
 have hgm:=grownCap_le_maxLen w s.size 0 e hml
 have H1:=H.hp.drew.alloc (.cells (Lib.bytesCells w e s) e)
 have hw1:(w.drew.alloc (.cells (Lib.bytesCells w e s) e)).heap[w.drew.heap.size]?=some (.cells (Lib.bytesCells w e s) e (0,0)):=H1.own _ gJ
 obtain ⟨fz,hu2⟩:=arF (o:=(Lib.bytesCells w e s).size) (n:=1) hw1 (by decide)
 have H2:=H1.upd (i:=0) rfl hu2
 have H3:St N D w0 F G0 G ((w.heap.size,.cells (Lib.bytesCells w e s) e fz) :: L) ((d,.slice (some ⟨w.heap.size,0,none⟩) s.size (grownCap w s.size 0 e)) :: T) (a.put (some d) (.slice (some ⟨w.heap.size,0,none⟩) s.size (grownCap w s.size 0 e))) (Lib.bytesWorld w e s):=H.put hd _ H2
 obtain ⟨G',hm,hb,H4⟩:=H3.eH
 have hlen:(H8 s).length=s.size:=by rw [H8,bG,uz];rfl
 have hrep:av G' (.sl 1 ((H8 s).map Av)) (.slice (some ⟨w.heap.size,0,none⟩) s.size (grownCap w s.size 0 e)):=by
  refine aoR hb ?_ (fun r hr=>by obtain ⟨c,-,rfl⟩:=List.mem_map.1 hr;exact ⟨c,rfl⟩)
  refine av.fE (cur:=Lib.bytesCells w e s) (e:=e) (n:=s.size) (cap:=grownCap w s.size 0 e) (by simp) (by rw [bG,hlen]) hge hgm ?_ (aej _ _)
  rw [Lib.bytesCells,Array.toList_append,Nat.mul_one,List.take_left' (by rw [Array.toList_map,bG,uz];rfl)]
  simp [H8]
 have k2:=k _ _ _ _ hm hrep H4
 refine fO (v:=.slice (some ⟨w.heap.size,0,none⟩) s.size (grownCap w s.size 0 e)) (w':=Lib.bytesWorld w e s) hw rfl ?_ k2
 simp only [execOp,H.ev hx,dO,hc,nU,sF]
theorem apJ {t yt:TypeId} {x y:Operand} {p q:ByteArray} (H:St N D w0 F G0 G L T a w) (hw:Region.wanted ⟨some d,.binOp .lss t x y yt,ty,pos,aL,g⟩ (yielded ops a.tmps)=true) (hx:ev T x=some (.string p)) (hy:ev T y=some (.string q)) (hd:Nat.blt d N=true)
  (k:∀ a',St N D w0 F G0 G L ((d,.bool (Op.bytesLess p.toList q.toList)) :: T) a' w→WL r P ops Q rest a' w):WL r P ops Q (⟨some d,.binOp .lss t x y yt,ty,pos,aL,g⟩ :: rest) a w:=by
 refine fO (v:=.bool (Op.bytesLess p.toList q.toList)) (w':=w) hw rfl ?_ (k _ (H.put hd _ H.hp))
 simp [execOp,H.ev hx,H.ev hy,dO,eqGuard,binOp,Op.stringOp]
end
end
theorem aia:∀ args w,(callFunc 271 args).run prog w=.ok (.enter 271 args) w:=enters func271 rfl (by kernel_rfl)
theorem ahX:∀ args w,(callFunc 266 args).run prog w=.ok (.enter 266 args) w:=enters func266 rfl (by kernel_rfl)
theorem ahV:∀ args w,(callFunc 264 args).run prog w=.ok (.enter 264 args) w:=enters func264 rfl (by kernel_rfl)
theorem aqV:pK prog 340 [(0,1),(1,1),(2,2),(4,1),(5,1),(6,1)] [.string ⟨#[]⟩,.int .i64 0,.pointer none,.slice none 0 0,.slice none 0 0,.int .i64 0,.int .i64 0]:=⟨by kernel_rfl,by kernel_rfl⟩
theorem ahY:∀ args w,(callFunc 267 args).run prog w=.ok (.enter 267 args) w:=enters func267 rfl (by kernel_rfl)
theorem aji:dH prog 318 1 1:=⟨by kernel_rfl⟩
theorem ahL:∀ args w,(callFunc 246 args).run prog w=.ok (.enter 246 args) w:=enters func246 rfl (by kernel_rfl)
theorem ahM:∀ args w,(callFunc 247 args).run prog w=.ok (.enter 247 args) w:=enters func247 rfl (by kernel_rfl)
theorem ahW:∀ args w,(callFunc 265 args).run prog w=.ok (.enter 265 args) w:=enters func265 rfl (by kernel_rfl)
theorem ahN:∀ args w,(callFunc 248 args).run prog w=.ok (.enter 248 args) w:=enters func248 rfl (by kernel_rfl)
def Qc (fv:aj) (G:GH) (c:Int) (b:Bool):Prop:=∀ (G1:GH) (w1:World),(∀ b o,G b=some o→G1 b=some o)→Hold G1 w1→sj prog fv [.int .u8 c] w1 (aZ w1 G1 fun u G'=>u=.bool b)
theorem amF (G:GH) (w0:World) (hG:Hold G w0) (l:List Int) (p:Int→Bool) (v fv:aj) (hv:av G (.sl 1 (l.map Av)) v) (hf:∀ c∈l,Qc fv G c (p c)) :
  Calls prog 271 #[v,fv] w0 (aZ w0 G fun u G'=>u=vi (mQ (l.findIdx? p))):=by
 obtain ⟨A,c,rfl,hc1,hc2,hg⟩:=hv.slice;have hml:maxLen=9223372036854775807:=rfl;rw [bG] at *;refine eN [(0,_),(1,_)] func271 rfl ntmps271 rfl rfl hG ?_;intro a H;refine kP H (SR fun _ K1=>ak K1 rfl (SQ fun _ K2=>SR fun _ K3=>Rm rfl (Rl GY rfl (Rm rfl (Kz K3 (SB ?_))))));clear H K1 K3;intro a H;skip;refine eU (ι:=Nat × GH) (Tc:=[(0,_),(1,_),(7,_)]) (Lc:=[]) (fun gh=>[(8,vi gh.1)]) (fun gh=>[]) (fun gh=>gh.2) (fun gh=>gh.1≤l.length∧(l.take gh.1).findIdx? p=none∧(∀ b o,G b=some o→gh.2 b=some o)) (fun gh=>l.length - gh.1) ((0,G)) (by exact (H).sub ⟨rfl,rfl,rfl,rfl,aC⟩) ?_ ?_
 ·exact ⟨by omega,rfl,fun _ _ h=>h⟩
 clear H;rintro ⟨k,g⟩ a w hI H;dsimp only at hI H;obtain ⟨hk,hno,hgm⟩:=hI;dsimp only [lca,bJ] at H;refine kP H (SR fun _ K4=>Rc rfl (Kz K4 (SQ fun _ K5=>Cd rfl ?_ ?_))) <;> clear H K4
 ·intro h9 a H
  try have p9:=dT h9
  have hk2:k < l.length:=by omega
  obtain ⟨b,o,cs,rfl,hcl,hrow,hr⟩:=hg k (Av l[k]) (by simp [hk2]);obtain rfl:=acE hr
  have hcell:aI G b (o+k*1)=some (.int .u8 l[k]):=by simpa using hrow 0 _ rfl
  refine kP H (Kc K5 (SQ fun _ K6=>SB (SR fun _ K7=>Rm rfl (ak K7 rfl (SR fun _ K8=>Rm rfl (Rm rfl (Rm rfl (Ri GY O4 rfl rfl (Rg O4 rfl (aJ hgm hcell) ?_)))))))));clear H K5 K7;intro a H;refine ko H wn rfl rfl (hf _ (kS hk2) _ _ hgm H.ro) rfl ?_;clear H;rintro v16 pF a w rfl mM H;refine K8 _ _ ?_;clear K8;refine jD H rfl ?_ ?_
  ·intro h16
   try have p16:=dT h16
   refine kP H (SR fun _ K9=>Rm rfl (ak K9 rfl ?_));clear H K9;intro a H;refine lr H results271 rfl ?_
   first
    | exact H.rt (by rw [pY hk2 hno h16];rfl)
    | exact H.rt (by rw [show l.take k=l from iC (by omega)] at hno;rw [hno];rfl)
  intro h16
  try have p16:=dF h16
  refine kP H (Kc K6 (SC (Rd rfl (Rm rfl ?_))));clear H K6;intro a H;refine aD ?_;refine dD ((k+1,pF)) (by exact (H).sub ⟨rfl,rfl,rfl,rfl,aC⟩) ?_
  (try dsimp only);exact ⟨by omega,Ac hk2 hno h16,fun b o h=>mM b o (hgm b o h)⟩
 intro h9 a H
 try have p9:=dF h9
 refine dV ?_;refine K2 _ _ ?_;clear K2;refine kP H (SR fun _ aR=>ak aR rfl ?_);clear H aR;intro a H;refine lr H results271 rfl ?_
 first
  | exact H.rt (by rw [pY hk2 hno h16];rfl)
  | exact H.rt (by rw [show l.take k=l from iC (by omega)] at hno;rw [hno];rfl)
theorem T9 (o:Option Nat):decide (0≤mQ o)=o.isSome:=by cases o <;> simp [mQ]
theorem afG (G:GH) (w0:World) (hG:Hold G w0) (l:List Int) (p:Int→Bool) (v fv:aj) (hv:av G (.sl 1 (l.map Av)) v) (hf:∀ c∈l,Qc fv G c (p c)) :
  Calls prog 264 #[v,fv] w0 (aZ w0 G fun u G'=>u=.bool (l.findIdx? p).isSome):=by
 obtain ⟨A,c,rfl,hc1,hc2,-⟩:=hv.slice;rw [bG] at *;refine eN [(0,_),(1,_)] func264 rfl ntmps264 rfl rfl hG ?_;intro a H;refine kP H (SR fun _ K1=>ak K1 rfl (SR fun _ K2=>Rm rfl (Rm rfl ?_)));clear H K1;intro a H;refine s_call aia H wn rfl (amF _ _ H.ro l p _ _ hv hf) rfl ?_;clear H;rintro v7 G7 a w rfl CX H;exact kH H (Rc rfl (ak K2 rfl (LR results264 rfl fun H=>H.rt (dL (T9 _)))))
def JO (c:Int):Bool:=decide (c < 32) || decide (c=127)
theorem afH (G:GH) (c:Int):Qc (.func (.func 265) #[] #[]) G c (JO c):=by
 intro G1 w0 hm hG;refine jI (caps:=[]) ahW ?_;refine eN [(0,_)] func265 rfl ntmps265 rfl rfl hG ?_;intro a H;refine kP H (SR fun _ K1=>ak K1 rfl (SR fun _ K2=>Rm rfl (Rc rfl (Rm rfl (Sp 5 rfl ?_ ?_))))) <;> clear H K1
 ·intro h5 a H
  try have p5:=dT h5
  exact kH H (aQ h5 rfl (Pt h5 rfl (ak K2 rfl (LR results265 rfl fun H=>H.rt (dL (by unfold JO;first|(simp_all;done)|(simp_all;omega)))))))
 intro h5 a H
 try have p5:=dF h5
 exact kH H (YM h5 rfl (YC h5 rfl (Pf h5 rfl (ak K2 rfl (LR results265 rfl fun H=>H.rt (dL (by unfold JO;first|(simp_all;done)|(simp_all;omega))))))))
def yD (t:ByteArray):Int:=if 64 < t.size then 10 else if rG t=false then 12 else if ((H8 t).findIdx? JO).isSome=true then 5 else uW (kW t)
def zi (t:ByteArray):List jH:=if yD t=0 then vM (kW t).lit (kW t).parts else []
theorem anh (G:GH) (l:List jH):bT G 3 (l.map jH.dat) (Gw l):=by
 refine ⟨l.map jH.cells,rfl,by simp,fun j r cs hr hc=>?_⟩;rw [pQ] at hr hc;obtain ⟨x,hx,rfl⟩:=ou.1 hr;rw [hx] at hc
 cases hc
 exact ⟨aaJ G x,rfl⟩
theorem aor (G:GH) (w0:World) (hG:Hold G w0) (t:ByteArray) (ht:t.size < 4611686018427387904) :
  Calls prog 246 #[.string t] w0 (aZ w0 G fun u G'=>∃ x,u=.tuple #[x,vi (yD t)]∧av G' (.sl 3 ((zi t).map jH.dat)) x):=by
 refine eN [(0,_)] func246 rfl ntmps246 rfl rfl hG ?_;intro a H;refine kP H (SR fun _ K1=>Ra rfl (ak K1 rfl (SQ fun _ K2=>SB (SR fun _ K3=>Rm rfl (Rv iB rfl (Rc rfl (ak K3 rfl (Cd rfl ?_ ?_)))))))) <;> clear H K1 K3
 ·intro h5 a H
  try have p5:=dT h5
  refine bN (fun _ K4=>?_)
  have he:yD t=10:=by rw [yD,au (by omega)]
  refine kP H (SC (Ra rfl (bq K4 rfl ?_)));clear H K4;intro a H;refine bW ?_;refine (eY H results246 (.cons (aT H rfl) (.cons (aT H rfl) .nil)) ?_).1
  first
   | exact H.rt ⟨_,by rw [he0],by rw [zi,au he0];exact hrep⟩
   | exact H.rt ⟨_,by rw [he],by rw [zi,ah (by rw [he];first|decide|assumption)];exact av.lg rfl (by decide)⟩
 intro h5 a H
 try have p5:=dF h5
 refine kP H (SR fun _ K5=>Rm rfl ?_);clear H;intro a H;refine s_call JW H wn rfl (LW _ _ H.ro t ht) rfl ?_;clear H;rintro v11 _ a w ⟨rfl,rfl⟩ - H;refine kH H (Rn rfl (ak K5 rfl (Cd rfl ?_ ?_))) <;> clear H K5
 ·intro h9 a H
  try have p9:=dT h9
  refine bN (fun _ K6=>?_)
  have he:yD t=12:=by rw [yD,ah (by omega),au (by simpa using h9)]
  refine kP H (SC (Ra rfl (bq K6 rfl ?_)));clear H K6;intro a H;refine bW ?_;refine (eY H results246 (.cons (aT H rfl) (.cons (aT H rfl) .nil)) ?_).1
  first
   | exact H.rt ⟨_,by rw [he0],by rw [zi,au he0];exact hrep⟩
   | exact H.rt ⟨_,by rw [he],by rw [zi,ah (by rw [he];first|decide|assumption)];exact av.lg rfl (by decide)⟩
 intro h9 a H
 try have p9:=dF h9
 refine kP H (SR fun _ K7=>Rm rfl ?_);clear H;intro a H;refine apD iB GY LP H wn rfl (by omega) rfl ?_;clear H;intro v15 EY a w CV aai H;obtain ⟨VF,c15,rfl,-,-,-⟩:=aai.slice;refine s_call ahV H wn rfl (afG _ _ H.ro _ JO _ _ aai (fun c _=>afH _ c)) rfl ?_;clear H;rintro v16 pF a w rfl mM H;refine kH H (ak K7 rfl (Cd rfl ?_ ?_)) <;> clear H K7
 ·intro gG a H
  try have rz:=dT gG
  refine bN (fun _ K8=>?_)
  have he:yD t=5:=by rw [yD,ah (by omega),ah (by simpa using h9),au gG]
  refine kP H (SC (Ra rfl (bq K8 rfl ?_)));clear H K8;intro a H;refine bW ?_;refine (eY H results246 (.cons (aT H rfl) (.cons (aT H rfl) .nil)) ?_).1
  first
   | exact H.rt ⟨_,by rw [he0],by rw [zi,au he0];exact hrep⟩
   | exact H.rt ⟨_,by rw [he],by rw [zi,ah (by rw [he];first|decide|assumption)];exact av.lg rfl (by decide)⟩
 intro gG a H
 try have rz:=dF gG
 refine kP H (Kc K2 (SR fun _ K9=>Rm rfl ?_));clear H K2;intro a H;refine jm aqV [_,_,_,_,_,_,_] H wn rfl rfl rfl rfl ?_;clear H;intro a H;refine dQ (cs:=[_,_,_,_,_,_,_]) H wn rfl rfl rfl ?_;clear H;intro b19 a w akt H;refine kH H (ak K9 rfl (SQ fun _ aR=>SR fun _ bQ=>Rm rfl ?_));clear H K9;intro a H;refine gH ahX (Li:=[]) (L:=[xD b19 t BN (.pointer none) (.slice none 0 0) (.slice none 0 0)]) H wn rfl (apY _ [] [] _ b19 t _ _ _ ⟨.inl rfl,bZ.nil,bZ.nil⟩ (Hp.owns (Li:=[]) H.hp) (by omega)) rfl ?_;clear H;rintro v21 Me L21 a w ⟨p',v',q',rJ,kY,rfl,Sw⟩ yg H;dsimp only [List.nil_append] at H;obtain ⟨A21,c21,rfl,-,-⟩:=Sw.buf.shape;obtain ⟨B21,d21,rfl,-,-⟩:=Sw.prt.shape;refine bQ _ _ ?_;clear bQ;refine bN (fun _ bY=>?_)
 have he:yD t=uW (kW t):=by rw [yD,ah (by omega),ah (by simpa using h9),ah (by simp [gG])]
 refine kP H (SC (Rm rfl (Rk rfl (aY Bf iA 0 rfl rfl (Rc rfl (Kn bY (Cd rfl ?_ ?_))))))) <;> clear H bY
 ·intro jE a H
  try have p26:=dT jE
  refine bN (fun _ cZ=>?_);have H:=H.sub (T':=[(4,_)]) ⟨rfl,aC⟩;refine dI hmx [[],[0],[0,1],[0,1,2],[],(ra 0 5)] [] (by kernel_rfl) [_,_,_,vi (uW (kW t)),_,_] H (aF (Z0 rfl (Rm rfl)) (Z1 0 27 rfl (Rk rfl)) (Z1 1 28 rfl (Rf Bf rfl)) (Z1 2 29 rfl (Ro iA 0 rfl)) (bR (Z0 rfl (Ra rfl)) (bR (Z1 3 30 rfl (Ra rfl)) dz))) ?_
  clear H;intro a w G qU H hv;have H:=H.aM (hv 4 2 rfl rfl) rfl;have H:=H.aM (hv 5 3 rfl rfl) rfl;clear hv;refine aD ⟨rfl,?_⟩;refine cZ _ _ ?_;clear cZ;refine bW ?_;refine (eY H results246 (.cons (aT H rfl) (.cons (aT H rfl) .nil)) ?_).1
  first
   | exact H.rt ⟨_,by rw [he0],by rw [zi,au he0];exact hrep⟩
   | exact H.rt ⟨_,by rw [he],by rw [zi,ah (by rw [he];first|decide|assumption)];exact av.lg rfl (by decide)⟩
 intro jE a H
 try have p26:=dF jE
 refine gU ?_;refine aR _ _ ?_;clear aR;refine bN (fun _ dG=>?_)
 have he0:yD t=0:=by rw [he];omega
 have H:=(St.cast H (show _=[_]++(rJ++kY) from rfl)).perm (List.Perm.append_left _ vw);have H:=St.un H;obtain ⟨Gr,hmr,hrep,H⟩:=St.nW (Li:=[_]++kY) (Lo:=rJ) H Sw.prt (rows:=(vM (kW t).lit (kW t).parts).map jH.dat) (by simp) (anh _ _);dsimp only [lca,bJ] at H;refine kP H (SC (Rm rfl (Rk rfl (aY J5 LG 0 rfl rfl (Ra rfl (bq dG rfl ?_))))));clear H dG;intro a H;refine bW ?_;refine (eY H results246 (.cons (aT H rfl) (.cons (aT H rfl) .nil)) ?_).1
 first
  | exact H.rt ⟨_,by rw [he0],by rw [zi,au he0];exact hrep⟩
  | exact H.rt ⟨_,by rw [he],by rw [zi,ah (by rw [he];first|decide|assumption)];exact av.lg rfl (by decide)⟩
structure oM where
 fmt:Int
 start:Int
 Al:ByteArray
 restart:Int
def oM.dat (x:oM):List Dat:=[li x.fmt,li x.start,.lf (.string x.Al),li x.restart]
abbrev oM.cells (x:oM):List aj:=[vi x.fmt,vi x.start,.string x.Al,vi x.restart]
theorem anj {G:GH} {x:oM} {cs:List aj} (h:aU G x.dat cs):cs=x.cells:=by
 simp only [oM.dat,aU,av] at h
 obtain ⟨_,_,rfl,⟨rfl,_⟩,_,_,rfl,⟨rfl,_⟩,_,_,rfl,⟨rfl,_⟩,_,_,rfl,⟨rfl,_⟩,rfl⟩:=h
 rfl
theorem amD (G:GH) (w0:World) (hG:Hold G w0) (l:List jH) (p:jH→Bool) (v fv:aj) (hv:av G (.sl 3 (l.map jH.dat)) v) (hf:∀ x∈l,pO fv G x.dat (p x)) :
  Calls prog 267 #[v,fv] w0 (aZ w0 G fun u G'=>u=vi (mQ (l.findIdx? p))):=by
 obtain ⟨A,c,rfl,hc1,hc2,hg⟩:=hv.slice;have hml:maxLen=9223372036854775807:=rfl;rw [bG] at *;refine eN [(0,_),(1,_)] func267 rfl ntmps267 rfl rfl hG ?_;intro a H;refine kP H (SR fun _ K1=>ak K1 rfl (SQ fun _ K2=>SR fun _ K3=>Rm rfl (Rl Jp rfl (Rm rfl (Kz K3 (SB ?_))))));clear H K1 K3;intro a H;skip;refine eU (ι:=Nat × GH) (Tc:=[(0,_),(1,_),(7,_)]) (Lc:=[]) (fun gh=>[(8,vi gh.1)]) (fun gh=>[]) (fun gh=>gh.2) (fun gh=>gh.1≤l.length∧(l.take gh.1).findIdx? p=none∧(∀ b o,G b=some o→gh.2 b=some o)) (fun gh=>l.length - gh.1) ((0,G)) (by exact (H).sub ⟨rfl,rfl,rfl,rfl,aC⟩) ?_ ?_
 ·exact ⟨by omega,rfl,fun _ _ h=>h⟩
 clear H;rintro ⟨k,g⟩ a w hI H;dsimp only at hI H;obtain ⟨hk,hno,hgm⟩:=hI;dsimp only [lca,bJ] at H;refine kP H (SR fun _ K4=>Rc rfl (Kz K4 (SQ fun _ K5=>Cd rfl ?_ ?_))) <;> clear H K4
 ·intro h9 a H
  try have p9:=dT h9
  have hk2:k < l.length:=by omega
  obtain ⟨b,o,cs,rfl,hcl,hrow,hr⟩:=hg k l[k].dat (by simp [hk2]);obtain rfl:=aaI hr;refine kP H (Kc K5 (SQ fun _ K6=>SB (SR fun _ K7=>Rm rfl (ak K7 rfl (SR fun _ K8=>Rm rfl (Rm rfl (Rm rfl (Ri Jp Jl rfl rfl ?_))))))));clear H K5 K7;intro a H;refine bL Jl (cs:=l[k].cells) H wn rfl rfl (fun j v hj=>H.hp.aI (aJ hgm (hrow j v hj))) rfl ?_;clear H;intro a H;refine ko H wn rfl rfl (hf _ (kS hk2) _ _ _ hgm H.ro (aaJ _ l[k])) rfl ?_;clear H;rintro v16 pF a w rfl mM H;refine K8 _ _ ?_;clear K8;refine jD H rfl ?_ ?_
  ·intro h16
   try have p16:=dT h16
   refine kP H (SR fun _ K9=>Rm rfl (ak K9 rfl ?_));clear H K9;intro a H;refine lr H results267 rfl ?_
   first
    | exact H.rt (by rw [pY hk2 hno h16];rfl)
    | exact H.rt (by rw [show l.take k=l from iC (by omega)] at hno;rw [hno];rfl)
  intro h16
  try have p16:=dF h16
  refine kP H (Kc K6 (SC (Rd rfl (Rm rfl ?_))));clear H K6;intro a H;refine aD ?_;refine dD ((k+1,pF)) (by exact (H).sub ⟨rfl,rfl,rfl,rfl,aC⟩) ?_
  (try dsimp only);exact ⟨by omega,Ac hk2 hno h16,fun b o h=>mM b o (hgm b o h)⟩
 intro h9 a H
 try have p9:=dF h9
 refine dV ?_;refine K2 _ _ ?_;clear K2;refine kP H (SR fun _ aR=>ak aR rfl ?_);clear H aR;intro a H;refine lr H results267 rfl ?_
 first
  | exact H.rt (by rw [pY hk2 hno h16];rfl)
  | exact H.rt (by rw [show l.take k=l from iC (by omega)] at hno;rw [hno];rfl)
theorem afF (G:GH) (w0:World) (hG:Hold G w0) (l:List jH) (p:jH→Bool) (v fv:aj) (hv:av G (.sl 3 (l.map jH.dat)) v) (hf:∀ x∈l,pO fv G x.dat (p x)) :
  Calls prog 247 #[v,fv] w0 (aZ w0 G fun u G'=>u=.bool (l.findIdx? p).isSome):=by
 obtain ⟨A,c,rfl,hc1,hc2,-⟩:=hv.slice;rw [bG] at *;refine eN [(0,_),(1,_)] func247 rfl ntmps247 rfl rfl hG ?_;intro a H;refine kP H (SR fun _ K1=>ak K1 rfl (SR fun _ K2=>Rm rfl (Rm rfl ?_)));clear H K1;intro a H;refine s_call ahY H wn rfl (amD _ _ H.ro l p _ _ hv hf) rfl ?_;clear H;rintro v7 G7 a w rfl CX H;exact kH H (Rc rfl (ak K2 rfl (LR results247 rfl fun H=>H.rt (dL (T9 _)))))
theorem ank {G:GH} {bl:Nat} {k:Int} (hb:aI G bl 0=some (vi k)) (x:jH):pO (.func (.func 248) #[] #[(aK bl 0)]) G x.dat (decide (k < x.level)):=by
 intro G1 w0 cs hm hG hr;refine jI (caps:=[(aK bl 0)]) ahN ?_;obtain rfl:=aaI hr;replace hb:=aJ hm hb;refine eN [(0,_),(1,_)] func248 rfl ntmps248 rfl rfl hG ?_;intro a H;refine cu (fun _ K1=>?_);refine dQ (cs:=[_,_,_]) H wn rfl rfl rfl ?_;clear H;intro b2 a w hb2 H;refine kH H (ak K1 rfl (SR fun _ K2=>aY aji aH 0 rfl rfl (Rg aH rfl (by assumption) ?_)));clear H K1;intro a H;exact kH H (Rc rfl (ak K2 rfl (LR results248 rfl fun H=>H.rt rfl)))
def BF (t:ByteArray) (k:Int):Int:=if k < 1∨9 < k then 2 else if yD t=0∧((zi t).findIdx? fun x=>decide (k < x.level)).isSome=true then 6 else yD t
theorem ani (G:GH) (w0:World) (hG:Hold G w0) (t:ByteArray) (k:Int) (ht:t.size < 4611686018427387904) :
  Calls prog 223 #[.string t,vi k] w0 (aZ w0 G fun u G'=>u=vi (BF t k)):=by
 refine eN [(0,_),(1,_)] func223 rfl ntmps223 rfl rfl hG ?_;intro a H;refine cu (fun _ K1=>?_);refine dQ (cs:=[_]) H wn rfl rfl rfl ?_;clear H;intro b3 a w hb3 H;refine kH H (ak K1 rfl (SQ fun _ K2=>SR fun _ K3=>Ro aH 0 rfl (Rc rfl (Rm rfl (Sp 9 rfl ?_ ?_))))) <;> clear H K1
 ·intro h9 a H
  try have p9:=dT h9
  refine kH H (aQ h9 rfl (Pt h9 rfl (Kz K3 (Ct rfl rfl (SR fun _ K4=>ak K4 rfl ?_)))));clear H K3 K4;intro a H;refine lr H results223 rfl ?_
  exact H.rt (aB vi (by unfold BF;(repeat' split) <;> first|rfl|(exfalso;simp_all;done)|(exfalso;simp_all;omega)|(simp_all;done)))
 intro h9 a H
 try have p9:=dF h9
 refine kH H (YO aH 0 h9 rfl (YC h9 rfl (Pf h9 rfl (Kz K3 (Cd rfl ?_ ?_))))) <;> clear H K3
 ·intro h12 a H
  try have qb:=dT h12
  refine kP H (SR fun _ K5=>ak K5 rfl ?_);clear H K5;intro a H;refine lr H results223 rfl ?_
  exact H.rt (aB vi (by unfold BF;(repeat' split) <;> first|rfl|(exfalso;simp_all;done)|(exfalso;simp_all;omega)|(simp_all;done)))
 intro h12 a H
 try have qb:=dF h12
 refine gU ?_;refine K2 _ _ ?_;clear K2;refine bN (fun _ K6=>?_);obtain ⟨Ga,hma,zT,H⟩:=H.eH
 have hbk:aI Ga b3 0=some (vi k):=by unfold aI;rw [zT];rfl
 refine kP H (SC (Rm rfl ?_));clear H;intro a H;refine s_call ahL H wn rfl (aor _ _ H.ro t ht) rfl ?_;clear H;rintro v15 EY a w ⟨x15,rfl,aal⟩ CV H;obtain ⟨VF,c15,rfl,-,-,-⟩:=aal.slice;replace hbk:=aJ CV hbk;refine kH H (Rm rfl ?_);clear H;intro a H;(iterate 2 refine lq H wn rfl rfl rfl ?_;clear H;intro a H);refine kH H (Ra rfl (bq K6 rfl (SQ fun _ K7=>SR fun _ K8=>Rm rfl (Rc rfl (Rm rfl (Sp 20 rfl ?_ ?_)))))) <;> clear H K6
 ·intro h20 a H
  try have GK:=dT h20
  refine kH H (YM h20 rfl ?_);clear H;intro a H;refine oZ H (wg H rfl rfl h20) rfl rfl ?_;clear H;intro a H;refine s_call ahM H (wg H rfl rfl h20) rfl (afF _ _ H.ro _ (fun x=>decide (k < x.level)) _ _ aal (fun x _=>ank hbk x)) rfl ?_;clear H;rintro v23 VQ a w rfl Eo H;refine kH H (Pt h20 rfl (Kz K8 (Cd rfl ?_ ?_))) <;> clear H K8
  ·intro fB a H
   try have mU:=dT fB
   refine kP H (SC (bq K7 rfl (SR fun _ K9=>Rm rfl (ak K9 rfl ?_))));clear H K7 K9;intro a H;refine lr H results223 rfl ?_
   exact H.rt (aB vi (by unfold BF;(repeat' split) <;> first|rfl|(exfalso;simp_all;done)|(exfalso;simp_all;omega)|(simp_all;done)))
  intro fB a H
  try have mU:=dF fB
  refine kP H (Kc K7 (SR fun _ aR=>Rm rfl (ak aR rfl ?_)));clear H K7 aR;intro a H;refine lr H results223 rfl ?_
  exact H.rt (aB vi (by unfold BF;(repeat' split) <;> first|rfl|(exfalso;simp_all;done)|(exfalso;simp_all;omega)|(simp_all;done)))
 intro h20 a H
 try have GK:=dF h20
 refine kH H (bF h20 rfl (Pf h20 rfl (Kz K8 (Cf rfl rfl (Kc K7 (SR fun _ bQ=>Rm rfl (ak bQ rfl ?_)))))));clear H K8 K7 bQ;intro a H;refine lr H results223 rfl ?_
 exact H.rt (aB vi (by unfold BF;(repeat' split) <;> first|rfl|(exfalso;simp_all;done)|(exfalso;simp_all;omega)|(simp_all;done)))
theorem GV:Ty prog 96 4 40 [.int .i64 0,.int .i64 0,.string ⟨#[]⟩,.int .i64 0] true:=⟨by kernel_rfl,by kernel_rfl⟩
theorem ER:prog.underlying 91=some (.slice 96):=by kernel_rfl
theorem YK:dH prog 96 0 0:=⟨by kernel_rfl⟩
theorem YP:dH prog 96 1 1:=⟨by kernel_rfl⟩
theorem ajl:dH prog 96 2 2:=⟨by kernel_rfl⟩
theorem ahC:∀ args w,(callFunc 223 args).run prog w=.ok (.enter 223 args) w:=enters func223 rfl (by kernel_rfl)
theorem YQ:dH prog 96 3 3:=⟨by kernel_rfl⟩
def FB:Nat→List oM→Int
 | _,[]=>0
 | i,x :: r=>if x.fmt < 1∨7 < x.fmt then 3 else if x.start < 0∨32767 < x.start then 2 else if BF x.Al ((i+1:Nat):Int)≠0 then BF x.Al ((i+1:Nat):Int) else if x.restart < 0∨(i:Int) < x.restart then 5 else FB (i+1) r
def eD (l:List oM):Int:=if l.length=0 then 11 else if 9 < l.length then 9 else FB 0 l
theorem jq {l:List oM} {k:Nat} (h:k < l.length):FB k (l.drop k)=if l[k].fmt < 1∨7 < l[k].fmt then 3 else if l[k].start < 0∨32767 < l[k].start then 2 else if BF l[k].Al ((k+1:Nat):Int)≠0 then BF l[k].Al ((k+1:Nat):Int) else if l[k].restart < 0∨(k:Int) < l[k].restart then 5 else FB (k+1) (l.drop (k+1)):=by
 rw [ng h,FB]
theorem aeO (G:GH) (w0:World) (hG:Hold G w0) (l:List oM) (v:aj) (hv:av G (.sl 4 (l.map oM.dat)) v) (ht:∀ x∈l,x.Al.size < 4611686018427387904) :
  Calls prog 185 #[v] w0 (aZ w0 G fun u G'=>u=vi (eD l)):=by
 obtain ⟨A,c,rfl,hc1,hc2,hg⟩:=hv.slice;have hml:maxLen=9223372036854775807:=rfl;rw [bG] at *;refine eN [(0,_)] func185 rfl ntmps185 rfl rfl hG ?_;intro a H;refine kP H (SR fun _ K1=>ak K1 rfl (SQ fun _ K2=>SB (SR fun _ K3=>Rm rfl (Rl ER rfl (Rc rfl (ak K3 rfl (Cd rfl ?_ ?_))))))) <;> clear H K1 K3
 ·intro h6 a H
  try have p6:=dT h6
  refine kP H (SR fun _ K4=>ak K4 rfl ?_);clear H K4;intro a H;refine lr H results185 rfl ?_
  first
   | exact H.rt (aB vi (by rw [eD,au (by omega)]))
   | exact H.rt (aB vi (by rw [eD,ah (by omega),au (by omega)]))
   | exact H.rt (aB vi (by rw [eD,ah (by omega),ah (by omega),← he,jq hk2,au (by omega)]))
   | exact H.rt (aB vi (by rw [eD,ah (by omega),ah (by omega),← he,jq hk2,ah (by omega),au (by omega)]))
   | exact H.rt (aB vi (by rw [eD,ah (by omega),ah (by omega),← he,jq hk2,ah (by omega),ah (by omega),au p45]))
   | exact H.rt (aB vi (by rw [eD,ah (by omega),ah (by omega),← he,jq hk2,ah (by omega),ah (by omega),ah p45,au (by omega)]))
   | exact H.rt (aB vi (by rw [eD,ah (by omega),ah (by omega),← he,jC (by omega)];rfl))
 intro h6 a H
 try have p6:=dF h6
 refine kP H (SR fun _ K5=>Rm rfl (Rl ER rfl (Rc rfl (ak K5 rfl (Cd rfl ?_ ?_))))) <;> clear H K5
 ·intro h10 a H
  try have kV:=dT h10
  refine kP H (SR fun _ K6=>ak K6 rfl ?_);clear H K6;intro a H;refine lr H results185 rfl ?_
  first
   | exact H.rt (aB vi (by rw [eD,au (by omega)]))
   | exact H.rt (aB vi (by rw [eD,ah (by omega),au (by omega)]))
   | exact H.rt (aB vi (by rw [eD,ah (by omega),ah (by omega),← he,jq hk2,au (by omega)]))
   | exact H.rt (aB vi (by rw [eD,ah (by omega),ah (by omega),← he,jq hk2,ah (by omega),au (by omega)]))
   | exact H.rt (aB vi (by rw [eD,ah (by omega),ah (by omega),← he,jq hk2,ah (by omega),ah (by omega),au p45]))
   | exact H.rt (aB vi (by rw [eD,ah (by omega),ah (by omega),← he,jq hk2,ah (by omega),ah (by omega),ah p45,au (by omega)]))
   | exact H.rt (aB vi (by rw [eD,ah (by omega),ah (by omega),← he,jC (by omega)];rfl))
 intro h10 a H
 try have kV:=dF h10
 refine kP H (Kc K2 (SQ fun _ K7=>SR fun _ K8=>Rm rfl (Rl ER rfl (Rm rfl (Kz K8 (SB ?_))))));clear H K2 K8;intro a H;skip;refine eU (ι:=Nat × GH) (Tc:=[(14,_),(15,_)]) (Lc:=[]) (fun gh=>[(16,vi gh.1)]) (fun gh=>[]) (fun gh=>gh.2) (fun gh=>gh.1≤l.length∧FB gh.1 (l.drop gh.1)=FB 0 l∧(∀ b o,G b=some o→gh.2 b=some o)) (fun gh=>l.length - gh.1) ((0,G)) (by exact (H).sub ⟨rfl,rfl,rfl,aC⟩) ?_ ?_
 ·exact ⟨gW _,rfl,fun _ _ h=>h⟩
 clear H;rintro ⟨k,g⟩ a w hI H;dsimp only at hI H;obtain ⟨hk,he,hgm⟩:=hI;dsimp only [lca,bJ] at H;refine kP H (SR fun _ K9=>Rc rfl (Kz K9 (SQ fun _ aR=>Cd rfl ?_ ?_))) <;> clear H K9
 ·intro eX a H
  try have nA:=dT eX
  have hk2:k < l.length:=by omega
  obtain ⟨b,o,cs,rfl,hcl,hrow,hr⟩:=hg k l[k].dat (by simp [hk2]);obtain rfl:=anj hr;refine kP H (Kc aR (SQ fun _ bQ=>SB (SR fun _ bY=>Rm rfl (Ri ER GV rfl rfl ?_))));clear H aR;intro a H;refine bL GV (cs:=l[k].cells) H wn rfl rfl (fun j v hj=>H.hp.aI (aJ hgm (hrow j v hj))) rfl ?_;clear H;intro a H;refine dS GV H wn rfl ?_;clear H;intro b4 a w hb4 H;refine kH H (Ra rfl ?_);clear H;intro a H;refine bD GV 0 (vs:=[_,_,_,_]) _ H wn rfl rfl rfl rfl rfl rfl rfl rfl ?_;clear H;intro w H;dsimp only [List.set,setRow] at H;refine bY _ _ ?_;clear bY;refine kP H (SQ fun _ cZ=>SB (SR fun _ dG=>aY YK aH 0 rfl rfl (Rc rfl (Rm rfl (Sp 25 rfl ?_ ?_))))) <;> clear H
  ·intro gY a H
   try have p25:=dT gY
   refine kH H (bF gY rfl (Pt gY rfl (ak dG rfl (Ct rfl rfl (SR fun _ dZ=>ak dZ rfl ?_)))));clear H dG dZ;intro a H;refine lr H results185 rfl ?_
   first
    | exact H.rt (aB vi (by rw [eD,au (by omega)]))
    | exact H.rt (aB vi (by rw [eD,ah (by omega),au (by omega)]))
    | exact H.rt (aB vi (by rw [eD,ah (by omega),ah (by omega),← he,jq hk2,au (by omega)]))
    | exact H.rt (aB vi (by rw [eD,ah (by omega),ah (by omega),← he,jq hk2,ah (by omega),au (by omega)]))
    | exact H.rt (aB vi (by rw [eD,ah (by omega),ah (by omega),← he,jq hk2,ah (by omega),ah (by omega),au p45]))
    | exact H.rt (aB vi (by rw [eD,ah (by omega),ah (by omega),← he,jq hk2,ah (by omega),ah (by omega),ah p45,au (by omega)]))
    | exact H.rt (aB vi (by rw [eD,ah (by omega),ah (by omega),← he,jC (by omega)];rfl))
  intro gY a H
  try have p25:=dF gY
  refine kH H (YF YK gY rfl (YO aH 0 gY rfl (YC gY rfl (Pf gY rfl (ak dG rfl (Cd rfl ?_ ?_)))))) <;> clear H dG
  ·intro h21 a H
   try have wB:=dT h21
   refine kP H (SR fun _ eB=>ak eB rfl ?_);clear H eB;intro a H;refine lr H results185 rfl ?_
   first
    | exact H.rt (aB vi (by rw [eD,au (by omega)]))
    | exact H.rt (aB vi (by rw [eD,ah (by omega),au (by omega)]))
    | exact H.rt (aB vi (by rw [eD,ah (by omega),ah (by omega),← he,jq hk2,au (by omega)]))
    | exact H.rt (aB vi (by rw [eD,ah (by omega),ah (by omega),← he,jq hk2,ah (by omega),au (by omega)]))
    | exact H.rt (aB vi (by rw [eD,ah (by omega),ah (by omega),← he,jq hk2,ah (by omega),ah (by omega),au p45]))
    | exact H.rt (aB vi (by rw [eD,ah (by omega),ah (by omega),← he,jq hk2,ah (by omega),ah (by omega),ah p45,au (by omega)]))
    | exact H.rt (aB vi (by rw [eD,ah (by omega),ah (by omega),← he,jC (by omega)];rfl))
  intro h21 a H
  try have wB:=dF h21
  refine kP H (SR fun _ dW=>aY YP aH 0 rfl rfl (Rc rfl (Rm rfl (Sp 34 rfl ?_ ?_)))) <;> clear H
  ·intro fZ a H
   try have p34:=dT fZ
   refine kH H (bF fZ rfl (Pt fZ rfl (ak dW rfl (Ct rfl rfl (SR fun _ fC=>ak fC rfl ?_)))));clear H dW fC;intro a H;refine lr H results185 rfl ?_
   first
    | exact H.rt (aB vi (by rw [eD,au (by omega)]))
    | exact H.rt (aB vi (by rw [eD,ah (by omega),au (by omega)]))
    | exact H.rt (aB vi (by rw [eD,ah (by omega),ah (by omega),← he,jq hk2,au (by omega)]))
    | exact H.rt (aB vi (by rw [eD,ah (by omega),ah (by omega),← he,jq hk2,ah (by omega),au (by omega)]))
    | exact H.rt (aB vi (by rw [eD,ah (by omega),ah (by omega),← he,jq hk2,ah (by omega),ah (by omega),au p45]))
    | exact H.rt (aB vi (by rw [eD,ah (by omega),ah (by omega),← he,jq hk2,ah (by omega),ah (by omega),ah p45,au (by omega)]))
    | exact H.rt (aB vi (by rw [eD,ah (by omega),ah (by omega),← he,jC (by omega)];rfl))
  intro fZ a H
  try have p34:=dF fZ
  refine kH H (YF YP fZ rfl (YO aH 0 fZ rfl (YC fZ rfl (Pf fZ rfl (ak dW rfl (Cd rfl ?_ ?_)))))) <;> clear H dW
  ·intro ow a H
   try have p30:=dT ow
   refine kP H (SR fun _ gQ=>ak gQ rfl ?_);clear H gQ;intro a H;refine lr H results185 rfl ?_
   first
    | exact H.rt (aB vi (by rw [eD,au (by omega)]))
    | exact H.rt (aB vi (by rw [eD,ah (by omega),au (by omega)]))
    | exact H.rt (aB vi (by rw [eD,ah (by omega),ah (by omega),← he,jq hk2,au (by omega)]))
    | exact H.rt (aB vi (by rw [eD,ah (by omega),ah (by omega),← he,jq hk2,ah (by omega),au (by omega)]))
    | exact H.rt (aB vi (by rw [eD,ah (by omega),ah (by omega),← he,jq hk2,ah (by omega),ah (by omega),au p45]))
    | exact H.rt (aB vi (by rw [eD,ah (by omega),ah (by omega),← he,jq hk2,ah (by omega),ah (by omega),ah p45,au (by omega)]))
    | exact H.rt (aB vi (by rw [eD,ah (by omega),ah (by omega),← he,jC (by omega)];rfl))
  intro ow a H
  try have p30:=dF ow
  refine kP H (Kc cZ (SQ fun _ fM=>SR fun _ gV=>aY ajl iN 0 rfl rfl (Rm rfl (Rd rfl ?_))));clear H cZ;intro a H;rw [show ((k:Int)+1)=((k+1:Nat):Int) from rfl] at H;refine s_call ahC H wn rfl (ani _ _ H.ro l[k].Al ((k+1:Nat):Int) (ht _ (kS hk2))) rfl ?_;clear H;rintro v43 Mj a w rfl Ep H;refine kH H (ak gV rfl (SR fun _ jo=>Rm rfl (Rc rfl (Kz jo (Cd rfl ?_ ?_))))) <;> clear H gV jo
  ·intro h45 a H
   try have p45:=dT h45
   refine kP H (SR fun _ lD=>Rm rfl (ak lD rfl ?_));clear H lD;intro a H;refine lr H results185 rfl ?_
   first
    | exact H.rt (aB vi (by rw [eD,au (by omega)]))
    | exact H.rt (aB vi (by rw [eD,ah (by omega),au (by omega)]))
    | exact H.rt (aB vi (by rw [eD,ah (by omega),ah (by omega),← he,jq hk2,au (by omega)]))
    | exact H.rt (aB vi (by rw [eD,ah (by omega),ah (by omega),← he,jq hk2,ah (by omega),au (by omega)]))
    | exact H.rt (aB vi (by rw [eD,ah (by omega),ah (by omega),← he,jq hk2,ah (by omega),ah (by omega),au p45]))
    | exact H.rt (aB vi (by rw [eD,ah (by omega),ah (by omega),← he,jq hk2,ah (by omega),ah (by omega),ah p45,au (by omega)]))
    | exact H.rt (aB vi (by rw [eD,ah (by omega),ah (by omega),← he,jC (by omega)];rfl))
  intro h45 a H
  try have p45:=dF h45
  refine kP H (Kc fM (SR fun _ kX=>aY YQ aH 0 rfl rfl (Rc rfl (Rm rfl (Sp 50 rfl ?_ ?_))))) <;> clear H fM
  ·intro h50 a H
   try have p50:=dT h50
   refine kH H (aQ h50 rfl (aQ h50 rfl (Pt h50 rfl (Kz kX (Ct rfl rfl (SR fun _ kC=>ak kC rfl ?_))))));clear H kX kC;intro a H;refine lr H results185 rfl ?_
   first
    | exact H.rt (aB vi (by rw [eD,au (by omega)]))
    | exact H.rt (aB vi (by rw [eD,ah (by omega),au (by omega)]))
    | exact H.rt (aB vi (by rw [eD,ah (by omega),ah (by omega),← he,jq hk2,au (by omega)]))
    | exact H.rt (aB vi (by rw [eD,ah (by omega),ah (by omega),← he,jq hk2,ah (by omega),au (by omega)]))
    | exact H.rt (aB vi (by rw [eD,ah (by omega),ah (by omega),← he,jq hk2,ah (by omega),ah (by omega),au p45]))
    | exact H.rt (aB vi (by rw [eD,ah (by omega),ah (by omega),← he,jq hk2,ah (by omega),ah (by omega),ah p45,au (by omega)]))
    | exact H.rt (aB vi (by rw [eD,ah (by omega),ah (by omega),← he,jC (by omega)];rfl))
  intro h50 a H
  try have p50:=dF h50
  refine kH H (YF YQ h50 rfl (YO aH 0 h50 rfl (YM h50 rfl (YC h50 rfl (Pf h50 rfl (Kz kX (Cd rfl ?_ ?_))))))) <;> clear H kX
  ·intro nk a H
   try have p55:=dT nk
   refine kP H (SR fun _ lK=>ak lK rfl ?_);clear H lK;intro a H;refine lr H results185 rfl ?_
   first
    | exact H.rt (aB vi (by rw [eD,au (by omega)]))
    | exact H.rt (aB vi (by rw [eD,ah (by omega),au (by omega)]))
    | exact H.rt (aB vi (by rw [eD,ah (by omega),ah (by omega),← he,jq hk2,au (by omega)]))
    | exact H.rt (aB vi (by rw [eD,ah (by omega),ah (by omega),← he,jq hk2,ah (by omega),au (by omega)]))
    | exact H.rt (aB vi (by rw [eD,ah (by omega),ah (by omega),← he,jq hk2,ah (by omega),ah (by omega),au p45]))
    | exact H.rt (aB vi (by rw [eD,ah (by omega),ah (by omega),← he,jq hk2,ah (by omega),ah (by omega),ah p45,au (by omega)]))
    | exact H.rt (aB vi (by rw [eD,ah (by omega),ah (by omega),← he,jC (by omega)];rfl))
  intro nk a H
  try have p55:=dF nk
  refine kP H (Kc bQ (SC (Rd rfl (Rm rfl ?_))));clear H bQ;intro a H;refine aD ?_;refine dD ((k+1,Mj)) (by exact (H.dY (Pl:=[_]) (dK:=[]) [] (by decide) rfl).sub ⟨rfl,rfl,rfl,aC⟩) ?_
  (try dsimp only);exact ⟨by omega,by rw [jq hk2,ah (by omega),ah (by omega),ah p45,ah (by omega)] at he;exact he,fun b o h=>Ep b o (hgm b o h)⟩
 intro eX a H
 try have nA:=dF eX
 refine dV ?_;refine K7 _ _ ?_;clear K7;refine kP H (SR fun _ lM=>ak lM rfl ?_);clear H lM;intro a H;refine lr H results185 rfl ?_
 first
  | exact H.rt (aB vi (by rw [eD,au (by omega)]))
  | exact H.rt (aB vi (by rw [eD,ah (by omega),au (by omega)]))
  | exact H.rt (aB vi (by rw [eD,ah (by omega),ah (by omega),← he,jq hk2,au (by omega)]))
  | exact H.rt (aB vi (by rw [eD,ah (by omega),ah (by omega),← he,jq hk2,ah (by omega),au (by omega)]))
  | exact H.rt (aB vi (by rw [eD,ah (by omega),ah (by omega),← he,jq hk2,ah (by omega),ah (by omega),au p45]))
  | exact H.rt (aB vi (by rw [eD,ah (by omega),ah (by omega),← he,jq hk2,ah (by omega),ah (by omega),ah p45,au (by omega)]))
  | exact H.rt (aB vi (by rw [eD,ah (by omega),ah (by omega),← he,jC (by omega)];rfl))
theorem Aq:Ty prog 32 1 24 [.slice none 0 0] false:=⟨by kernel_rfl,by kernel_rfl⟩
theorem xH:prog.underlying 32=some (.slice 93):=by kernel_rfl
theorem Au:Ty prog 93 2 32 [.int .i64 0,.slice none 0 0] true:=⟨by kernel_rfl,by kernel_rfl⟩
theorem YJ:dH prog 93 0 0:=⟨by kernel_rfl⟩
theorem Vo:Ty prog 91 1 24 [.slice none 0 0] false:=⟨by kernel_rfl,by kernel_rfl⟩
theorem QG:∀ args w,(callFunc 125 args).run prog w=.ok (.enter 125 args) w:=enters func125 rfl (by kernel_rfl)
theorem Rj:dH prog 93 1 1:=⟨by kernel_rfl⟩
theorem ahj:∀ args w,(callFunc 185 args).run prog w=.ok (.enter 185 args) w:=enters func185 rfl (by kernel_rfl)
theorem Ih:∀ args w,(callFunc 123 args).run prog w=.ok (.enter 123 args) w:=enters func123 rfl (by kernel_rfl)
theorem ahi:∀ args w,(callFunc 184 args).run prog w=.ok (.enter 184 args) w:=enters func184 rfl (by kernel_rfl)
theorem ahh:∀ args w,(callFunc 183 args).run prog w=.ok (.enter 183 args) w:=enters func183 rfl (by kernel_rfl)
structure fI where
 id:Int
 levels:List oM
def fI.dat (x:fI):List Dat:=[li x.id,.sl 4 (x.levels.map oM.dat)]
structure iT where
 id:Int
 parent:Int
 author:ByteArray
 time:Int
 text:ByteArray
 done:Bool
def iT.dat (x:iT):List Dat:=[li x.id,li x.parent,.lf (.string x.author),li x.time,.lf (.string x.text),.lf (.bool x.done)]
abbrev iT.cells (x:iT):List aj:=[vi x.id,vi x.parent,.string x.author,vi x.time,.string x.text,.bool x.done]
structure lX where
 name:ByteArray
 value:ByteArray
def lX.dat (x:lX):List Dat:=[.lf (.string x.name),.lf (.string x.value)]
abbrev lX.cells (x:lX):List aj:=[.string x.name,.string x.value]
theorem Xt {G:GH} {x:iT} {cs:List aj} (h:aU G x.dat cs):cs=x.cells:=by
 simp only [iT.dat,aU,av] at h
 obtain ⟨_,_,rfl,⟨rfl,_⟩,_,_,rfl,⟨rfl,_⟩,_,_,rfl,⟨rfl,_⟩,_,_,rfl,⟨rfl,_⟩,_,_,rfl,⟨rfl,_⟩,_,_,rfl,⟨rfl,_⟩,rfl⟩:=h
 rfl
theorem arO {G:GH} {x:lX} {cs:List aj} (h:aU G x.dat cs):cs=x.cells:=by
 simp only [lX.dat,aU,av] at h
 obtain ⟨_,_,rfl,⟨rfl,_⟩,_,_,rfl,⟨rfl,_⟩,rfl⟩:=h
 rfl
theorem Uj {G:GH} {l:List fI} {A:Option Addr} {n c k:Nat} (hv:av G (.sl 2 (l.map fI.dat)) (.slice A n c)) (hk:k < l.length):∃ b o B d,A=some ⟨b,o,none⟩∧(∀ j u,[vi l[k].id,.slice B l[k].levels.length d][j]?=some u→aI G b (o+k*2+j)=some u)∧av G (.sl 4 (l[k].levels.map oM.dat)) (.slice B l[k].levels.length d):=by
 obtain ⟨A',c',he,_,_,hg⟩:=hv.slice
 injection he with e1 e2 e3
 subst e1;obtain ⟨b,o,cs,h1,h2,h3,h4⟩:=hg k l[k].dat (by simp [hk])
 simp only [fI.dat,aU] at h4
 obtain ⟨v1,_,rfl,⟨rfl,-⟩,v2,_,rfl,hl,rfl⟩:∃ v vs,cs=v :: vs∧av G (li l[k].id) v∧∃ v2 vs2,vs=v2 :: vs2∧av G (.sl 4 (l[k].levels.map oM.dat)) v2∧vs2=[]:=h4;obtain ⟨B,d,rfl,-,-,-⟩:=hl.slice;rw [bG] at *;exact ⟨b,o,B,d,h1,h3,hl⟩
theorem anb {G:GH} {bl:Nat} {l:List fI} {A:Option Addr} {n c:Nat} (hb:aI G bl 0=some (.slice A n c)) (hv:av G (.sl 2 (l.map fI.dat)) (.slice A n c)):uq (.func (.func 184) #[] #[(aK bl 0)]) G l.length fun k=>(l[k]?.map fI.id).getD 0:=by
 intro k hk G1 w0 hm hG;refine jI (caps:=[(aK bl 0)]) ahi ?_;replace hb:=aJ hm hb
 obtain rfl:n=l.length:=by have:=hv.len;simpa using this
 obtain ⟨b,o,B,d,rfl,hrow,-⟩:=Uj (hv.mono hm) hk;have hq:=hrow 0 _ rfl;refine eN [(0,_),(1,_)] func184 rfl ntmps184 rfl rfl hG ?_;intro a H;refine kP H (SR fun _ K1=>ak K1 rfl (SR fun _ K2=>Rg Aq rfl (by assumption) ?_));clear H K1;intro a H;refine kH H (Rm rfl (Ri xH Au rfl rfl (Rf YJ rfl (Rg aH rfl (by assumption) ?_))));clear H;intro a H;exact kH H (ak K2 rfl (LR results184 rfl fun H=>H.rt (by dsimp only;rw [eT hk];rfl)))
def Gq (l:List fI) (i:Nat):Int:=dR [qY (fun k=>(l[k]?.map fI.id).getD 0) i,eD ((l[i]?.map fI.levels).getD [])]
theorem ane {G:GH} {bl:Nat} {l:List fI} {A:Option Addr} {n c:Nat} (hb:aI G bl 0=some (.slice A n c)) (hv:av G (.sl 2 (l.map fI.dat)) (.slice A n c)) (hl:l.length≤4294967296) (ht:∀ x∈l,∀ y∈x.levels,y.Al.size < 4611686018427387904):uq (.func (.func 183) #[] #[(aK bl 0)]) G l.length (Gq l):=by
 intro k hk G1 w0 hm hG;refine jI (caps:=[(aK bl 0)]) ahh ?_;replace hb:=aJ hm hb;replace hv:=hv.mono hm;have hcb:=anb hb hv
 obtain rfl:n=l.length:=by have:=hv.len;simpa using this
 obtain ⟨b,o,B,d,rfl,hrow,hlv⟩:=Uj hv hk;have hq:=hrow 1 _ rfl
 have he:Gq l k=dR [qY (fun k=>(l[k]?.map fI.id).getD 0) k,eD l[k].levels]:=by unfold Gq;rw [eT hk];rfl
 refine eN [(0,_),(1,_)] func183 rfl ntmps183 rfl rfl hG ?_;intro a H;refine kP H (SR fun _ K1=>ak K1 rfl (SQ fun _ K2=>?_));clear H K1;intro a H;have H:=H.sub (T':=[(0,_),(1,_)]) ⟨rfl,rfl,aC⟩;refine dI hmx [[],[],[0,1],[],[],[3,4],[3,4,5],(ra 3 4),(ra 0 8),(ra 0 9),(ra 0 10),(ra 0 11)] [9,10,11] (by kernel_rfl) [_,.func (.func 184) #[] #[(aK bl 0)],vi (qY (fun k=>(l[k]?.map fI.id).getD 0) k),_,_,_,_,_,vi (eD l[k].levels)] H (aF (Z0 rfl (Rm rfl)) ?_ ?_ (X0 rfl fun hG=>Rg Aq rfl (aJ hG hb)) (aF (Z0 rfl (Rm rfl)) (Z2 3 7 4 8 rfl (Ri xH Au rfl rfl)) (Z1 5 9 rfl (Rf Rj rfl)) (X1 6 10 rfl fun hG=>Rg Vo rfl (aJ hG hq)) (aF ?_ (bS rfl) (bS rfl) (bS rfl) dz))) ?_
 ·refine Ci rfl fun _ a w G1 hG HT H fin=>?_;refine oZ H wn rfl rfl ?_;clear H;intro a H;exact fin H iJ rfl
 ·refine dJ 0 4 1 5 rfl rfl fun _ a w G1 hG HT H fin=>?_;refine s_call QG H wn rfl (TV _ _ H.ro k _ _ (by omega) (fun i hi=>(hcb.mono hG) i (by omega))) rfl ?_;clear H;rintro v6 G6 a w rfl iL H;exact fin H iL (rfl)
 ·refine fq 7 11 rfl rfl fun _ a w G1 hG HT H fin=>?_;refine s_call ahj H wn rfl (aeO _ _ H.ro _ _ (hlv.mono hG) (ht _ (kS hk))) rfl ?_;clear H;rintro v12 DL a w rfl oz H;exact fin H oz (rfl)
 clear H;intro a w G nu H hv;have H:=H.aM (hv 2 6 rfl rfl) rfl;have H:=H.aM (hv 8 12 rfl rfl) rfl;clear hv;refine iE qI iA [_,_] [_,_] H wn rfl rfl rfl rfl rfl (by intro i q h;match i,h with|0,h=>exact h|1,h=>exact h|n+2,h=>simp at h) rfl rfl ?_;clear H;intro b13 a w Nn H;obtain ⟨EX,FZ,akp,H⟩:=H.eH;refine s_call rQ H wn rfl (rT _ _ H.ro _ _ (zu akp)) rfl ?_;clear H;rintro v14 _ a w ⟨rfl,rfl⟩ - H;refine kH H (Ra rfl ?_);clear H;intro a H;refine aD ⟨rfl,?_⟩;refine K2 _ _ ?_;clear K2;refine lr H results183 rfl ?_;exact H.rt (by rw [he])
def JK (l:List fI):Int:=dR [dw (decide (64 < (l.length:Int))) 9,kK (Gq l) (min l.length 64)]
theorem uq.le {fv:aj} {G:GH} {n m:Nat} {E:Nat→Int} (h:uq fv G n E) (hm:m≤n):uq fv G m E:=fun i hi=>h i (by omega)
theorem aeP (G:GH) (w0:World) (hG:Hold G w0) (l:List fI) (v:aj) (hv:av G (.sl 2 (l.map fI.dat)) v) (hl:l.length≤4294967296) (ht:∀ x∈l,∀ y∈x.levels,y.Al.size < 4611686018427387904) :
  Calls prog 120 #[v] w0 (aZ w0 G fun u G'=>u=vi (JK l)):=by
 obtain ⟨A,c,rfl,hc1,hc2,-⟩:=hv.slice;rw [bG] at *;refine eN [(0,_)] func120 rfl ntmps120 rfl rfl hG ?_;intro a H;refine cu (fun _ K1=>?_);refine dQ (cs:=[_]) H wn rfl rfl rfl ?_;clear H;intro b1 a w hb1 H;refine kH H (ak K1 rfl (SQ fun _ K2=>?_));clear H K1;intro a H;have H:=H.sub (T':=[(1,_)]) ⟨rfl,aC⟩;obtain ⟨Ga,hma,hb1',H⟩:=H.eH
 have hbl:aI Ga b1 0=some (.slice A l.length c):=by unfold aI;rw [hb1'];rfl
 have hcb:=ane hbl (hv.mono hma) hl ht;refine dI hmx [[],[0],[0,1],[0,1,2],[],[4],[4,5],[],(ra 0 8),(ra 0 9),(ra 0 10),(ra 0 11)] [9,10,11] (by kernel_rfl) [_,_,_,vi (dw (decide (64 < (l.length:Int))) 9),_,_,vi ((min l.length 64:Nat):Int),.func (.func 183) #[] #[(aK b1 0)],vi (kK (Gq l) (min l.length 64))] H (aF (X0 rfl fun hG=>Rg Aq rfl (aJ hG hbl)) (Z1 0 3 rfl (Rl xH rfl)) (Z1 1 4 rfl (Rc rfl)) ?_ (aF (X0 rfl fun hG=>Rg Aq rfl (aJ hG hbl)) (Z1 4 7 rfl (Rl xH rfl)) ?_ ?_ (aF ?_ (bS rfl) (bS rfl) (bS rfl) dz))) ?_
 ·refine fq 2 5 rfl rfl fun _ a w G1 hG HT H fin=>?_;refine s_call jO H wn rfl (jQ _ _ H.ro _ 9) rfl ?_;clear H;rintro v6 G6 a w ⟨rfl,-⟩ iL H;exact fin H iL (rfl)
 ·refine fq 5 8 rfl rfl fun _ a w G1 hG HT H fin=>?_;refine OP H wn rfl rfl rfl ?_;clear H;intro a H;exact fin H iJ (aB vi (by omega))
 ·refine Ci rfl fun _ a w G1 hG HT H fin=>?_;refine oZ H wn rfl rfl ?_;clear H;intro a H;exact fin H iJ rfl
 ·refine dJ 6 9 7 10 rfl rfl fun _ a w G1 hG HT H fin=>?_;refine s_call Ih H wn rfl (JG _ _ H.ro (min l.length 64) (Gq l) _ (by omega) ((hcb.mono hG).le (Nat.min_le_left _ _))) rfl ?_;clear H;rintro v11 sw a w rfl lQ H;exact fin H lQ (rfl)
 clear H;intro a w G nu H hv;have H:=H.aM (hv 3 6 rfl rfl) rfl;have H:=H.aM (hv 8 11 rfl rfl) rfl;clear hv;refine iE qI iA [_,_] [_,_] H wn rfl rfl rfl rfl rfl (by intro i q h;match i,h with|0,h=>exact h|1,h=>exact h|n+2,h=>simp at h) rfl rfl ?_;clear H;intro b12 a w FU H;obtain ⟨DL,CU,FV,H⟩:=H.eH;refine s_call rQ H wn rfl (rT _ _ H.ro _ _ (zu FV)) rfl ?_;clear H;rintro v13 _ a w ⟨rfl,rfl⟩ - H;refine kH H (Ra rfl ?_);clear H;intro a H;refine aD ⟨rfl,?_⟩;refine K2 _ _ ?_;clear K2;refine lr H results120 rfl ?_;exact H.rt rfl
theorem lV:prog.underlying 31=some (.slice 192):=by kernel_rfl
theorem kr:Ty prog 192 6 72 [.int .i64 0,.int .i64 0,.string ⟨#[]⟩,.int .i64 0,.int .i64 0,.slice none 0 0] true:=⟨by kernel_rfl,by kernel_rfl⟩
theorem yV:dH prog 192 1 1:=⟨by kernel_rfl⟩
theorem Il:dH prog 192 2 2:=⟨by kernel_rfl⟩
theorem wT:dH prog 192 0 0:=⟨by kernel_rfl⟩
theorem Yf:∀ args w,(callFunc 243 args).run prog w=.ok (.enter 243 args) w:=enters func243 rfl (by kernel_rfl)
theorem ahB:∀ args w,(callFunc 221 args).run prog w=.ok (.enter 221 args) w:=enters func221 rfl (by kernel_rfl)
theorem ahJ:∀ args w,(callFunc 244 args).run prog w=.ok (.enter 244 args) w:=enters func244 rfl (by kernel_rfl)
theorem ahK:∀ args w,(callFunc 245 args).run prog w=.ok (.enter 245 args) w:=enters func245 rfl (by kernel_rfl)
structure bV where
 id:Int
 kind:Int
 name:ByteArray
 base:Int
 next:Int
 props:List aO
def bV.dat (x:bV):List Dat:=[li x.id,li x.kind,.lf (.string x.name),li x.base,li x.next,.sl 2 (x.props.map aO.dat)]
theorem OX {G:GH} {x:bV} {cs:List aj} (h:aU G x.dat cs):∃ A c,cs=[vi x.id,vi x.kind,.string x.name,vi x.base,vi x.next,.slice A x.props.length c]∧av G (.sl 2 (x.props.map aO.dat)) (.slice A x.props.length c):=by
 simp only [bV.dat,aU] at h
 obtain ⟨v1,_,rfl,h1,v2,_,rfl,h2,v3,_,rfl,h3,v4,_,rfl,h4,v5,_,rfl,h5,v6,_,rfl,h6,rfl⟩:=h
 simp only [av] at h1 h2 h3 h4 h5
 obtain ⟨rfl,-⟩:=h1;obtain ⟨rfl,-⟩:=h2;obtain ⟨rfl,-⟩:=h3;obtain ⟨rfl,-⟩:=h4;obtain ⟨rfl,-⟩:=h5;obtain ⟨A,c,rfl,-,-,-⟩:=h6.slice;rw [bG] at *;exact ⟨A,c,rfl,h6⟩
theorem Dt {G:GH} {l:List bV} {A:Option Addr} {n c k:Nat} (hv:av G (.sl 6 (l.map bV.dat)) (.slice A n c)) (hk:k < l.length):∃ b o pA pc,A=some ⟨b,o,none⟩∧(∀ j u,[vi l[k].id,vi l[k].kind,.string l[k].name,vi l[k].base,vi l[k].next,.slice pA l[k].props.length pc][j]?=some u→aI G b (o+k*6+j)=some u)∧av G (.sl 2 (l[k].props.map aO.dat)) (.slice pA l[k].props.length pc) ∧
  aU G l[k].dat [vi l[k].id,vi l[k].kind,.string l[k].name,vi l[k].base,vi l[k].next,.slice pA l[k].props.length pc]:=by
 obtain ⟨A',c',he,_,_,hg⟩:=hv.slice
 injection he with e1 e2 e3
 subst e1;obtain ⟨b,o,cs,h1,h2,h3,h4⟩:=hg k l[k].dat (by simp [hk]);obtain ⟨pA,pc,rfl,hp⟩:=OX h4;exact ⟨b,o,pA,pc,h1,h3,hp,h4⟩
def okB (x:Int):Bool:=decide (32≤x∧x≤126)
def Gy (s:ByteArray) (k:Nat):Bool:=(List.range k).all fun i=>okB (gK s i)
def oC (s:ByteArray):Bool:=decide (s.size≠0∧s.size≤40∧gK s 0≠32∧gK s (s.size - 1)≠32) && Gy s s.size
theorem anz (s:ByteArray) (k:Nat):Gy s (k+1)=(Gy s k && okB (gK s k)):=by simp [Gy,List.range_succ]
theorem GA {s:ByteArray} {k:Nat} (hk:k < s.size) (h:okB (gK s k)=false):Gy s s.size=false:=by
 rw [Gy,List.all_eq_false];exact ⟨k,by simpa using hk,by simp [h]⟩
theorem N7 (G:GH) (w0:World) (hG:Hold G w0) (s:ByteArray) (hs:s.size≤4611686018427387904):Calls prog 218 #[.string s] w0 (aZ w0 G fun u G'=>u=.bool (oC s)):=by
 refine eN [(0,_)] func218 rfl ntmps218 rfl rfl hG ?_;intro a H;refine kP H (SR fun _ K1=>ak K1 rfl (SQ fun _ K2=>SR fun _ K3=>Rm rfl (Rv iB rfl (Rc rfl (Rm rfl (Sp 7 rfl ?_ ?_)))))) <;> clear H K1
 ·intro h7 a H
  try have p7:=dT h7
  refine kH H (bF h7 rfl (Pt h7 rfl (Rm rfl (bF rfl rfl (Pt rfl rfl (Rm rfl (bF rfl rfl (bF rfl rfl (Pt rfl rfl (Kz K3 (Ct rfl rfl (SR fun _ K4=>ak K4 rfl ?_))))))))))));clear H K3 K4;intro a H;refine lr H results218 rfl ?_
  first
   | exact H.rt (dL (by rw [oC,jY (by omega),uG]))
   | exact H.rt (dL (by rw [oC,jM (by omega),show s.size=k by omega,hno];rfl))
   | exact H.rt (dL (by rw [oC,GA (k:=k) (by omega) (jY (by omega)),Bool.and_false]))
 intro h7 a H
 try have p7:=dF h7
 refine kH H (YM h7 rfl ?_);clear H;intro a H;refine EK iB H (wg H rfl rfl h7) rfl rfl ?_;clear H;intro a H;refine kH H (YC h7 rfl (Pf h7 rfl (Rm rfl (Sp 12 rfl ?_ ?_)))) <;> clear H
 ·intro h12 a H
  try have qb:=dT h12
  refine kH H (bF h12 rfl (Pt h12 rfl (Rm rfl (bF rfl rfl (bF rfl rfl (Pt rfl rfl (Kz K3 (Ct rfl rfl (SR fun _ K5=>ak K5 rfl ?_)))))))));clear H K3 K5;intro a H;refine lr H results218 rfl ?_
  first
   | exact H.rt (dL (by rw [oC,jY (by omega),uG]))
   | exact H.rt (dL (by rw [oC,jM (by omega),show s.size=k by omega,hno];rfl))
   | exact H.rt (dL (by rw [oC,GA (k:=k) (by omega) (jY (by omega)),Bool.and_false]))
 intro h12 a H
 try have qb:=dF h12
 refine kH H (YM h12 rfl ?_);clear H;intro a H;refine qh 0 iB H (wg H rfl rfl h12) rfl rfl rfl (by omega) rfl ?_;clear H;intro a H;rw [← lN] at H;refine kH H (YC h12 rfl (Pf h12 rfl (Rm rfl (Sp 17 rfl ?_ ?_)))) <;> clear H
 ·intro eX a H
  try have nA:=dT eX
  refine kH H (bF eX rfl (bF eX rfl (Pt eX rfl (Kz K3 (Ct rfl rfl (SR fun _ K6=>ak K6 rfl ?_))))));clear H K3 K6;intro a H;refine lr H results218 rfl ?_
  first
   | exact H.rt (dL (by rw [oC,jY (by omega),uG]))
   | exact H.rt (dL (by rw [oC,jM (by omega),show s.size=k by omega,hno];rfl))
   | exact H.rt (dL (by rw [oC,GA (k:=k) (by omega) (jY (by omega)),Bool.and_false]))
 intro eX a H
 try have nA:=dF eX
 refine kH H (YM eX rfl (YM eX rfl ?_));clear H;intro a H;refine EK iB H (wg H rfl rfl eX) rfl rfl ?_;clear H;intro a H;refine nS _ H (wg H rfl rfl eX) rfl rfl rfl (by omega) (by omega) rfl ?_;clear H;intro a H;refine qh (s.size - 1) iB H (wg H rfl rfl eX) rfl rfl (by omega) (by omega) rfl ?_;clear H;intro a H;rw [← lN] at H;refine kH H (YC eX rfl (Pf eX rfl (Kz K3 (Cd rfl ?_ ?_)))) <;> clear H K3
 ·intro fB a H
  try have mU:=dT fB
  refine kP H (SR fun _ K7=>ak K7 rfl ?_);clear H K7;intro a H;refine lr H results218 rfl ?_
  first
   | exact H.rt (dL (by rw [oC,jY (by omega),uG]))
   | exact H.rt (dL (by rw [oC,jM (by omega),show s.size=k by omega,hno];rfl))
   | exact H.rt (dL (by rw [oC,GA (k:=k) (by omega) (jY (by omega)),Bool.and_false]))
 intro fB a H
 try have mU:=dF fB
 refine kP H (Kc K2 (SQ fun _ K8=>SR fun _ K9=>Rm rfl (Rv iB rfl (Rm rfl (Kz K9 (SB ?_))))));clear H K2 K9;intro a H;skip;refine eU (ι:=Nat) (Tc:=[(0,_),(26,_)]) (Lc:=[]) (fun gh=>[(27,vi gh)]) (fun gh=>[]) (fun gh=>G) (fun gh=>gh≤s.size∧Gy s gh=true) (fun gh=>s.size - gh) (0) (by exact (H).sub ⟨rfl,rfl,rfl,aC⟩) ?_ ?_
 ·exact ⟨gW _,rfl⟩
 clear H;intro k a w hI H;obtain ⟨hk,hno⟩:=hI;dsimp only [lca,bJ] at H;refine kP H (SR fun _ aR=>Rc rfl (Kz aR (SQ fun _ bQ=>Cd rfl ?_ ?_))) <;> clear H aR
 ·intro fQ a H
  try have p28:=dT fQ
  refine kP H (Kc bQ (SQ fun _ bY=>SB (SR fun _ cZ=>Rm rfl (ak cZ rfl (SR fun _ dG=>Rm rfl (Rm rfl ?_))))));clear H bQ cZ;intro a H;refine qh k iB H wn rfl rfl rfl (by omega) rfl ?_;clear H;intro a H;rw [← lN] at H;refine kH H (Rc rfl (Rm rfl (Sp 34 rfl ?_ ?_))) <;> clear H
  ·intro fZ a H
   try have p34:=dT fZ
   refine kH H (aQ fZ rfl (aQ fZ rfl (Pt fZ rfl (Kz dG (Ct rfl rfl (SR fun _ dZ=>ak dZ rfl ?_))))));clear H dG dZ;intro a H;refine lr H results218 rfl ?_
   first
    | exact H.rt (dL (by rw [oC,jY (by omega),uG]))
    | exact H.rt (dL (by rw [oC,jM (by omega),show s.size=k by omega,hno];rfl))
    | exact H.rt (dL (by rw [oC,GA (k:=k) (by omega) (jY (by omega)),Bool.and_false]))
  intro fZ a H
  try have p34:=dF fZ
  refine kH H (YM fZ rfl (YM fZ rfl ?_));clear H;intro a H;refine qh k iB H (wg H rfl rfl fZ) rfl rfl rfl (by omega) rfl ?_;clear H;intro a H;rw [← lN] at H;refine kH H (YC fZ rfl (Pf fZ rfl (Kz dG (Cd rfl ?_ ?_)))) <;> clear H dG
  ·intro jv a H
   try have p39:=dT jv
   refine kP H (SR fun _ eB=>ak eB rfl ?_);clear H eB;intro a H;refine lr H results218 rfl ?_
   first
    | exact H.rt (dL (by rw [oC,jY (by omega),uG]))
    | exact H.rt (dL (by rw [oC,jM (by omega),show s.size=k by omega,hno];rfl))
    | exact H.rt (dL (by rw [oC,GA (k:=k) (by omega) (jY (by omega)),Bool.and_false]))
  intro jv a H
  try have p39:=dF jv
  refine kP H (Kc bY (SC (Rd rfl (Rm rfl ?_))));clear H bY;intro a H;refine aD ?_;refine dD ((k+1)) (by exact (H).sub ⟨rfl,rfl,rfl,aC⟩) ?_
  exact ⟨by omega,by rw [anz,hno];simp [okB];omega⟩
 intro fQ a H
 try have p28:=dF fQ
 refine dV ?_;refine K8 _ _ ?_;clear K8;refine kP H (SR fun _ dW=>ak dW rfl ?_);clear H dW;intro a H;refine lr H results218 rfl ?_
 first
  | exact H.rt (dL (by rw [oC,jY (by omega),uG]))
  | exact H.rt (dL (by rw [oC,jM (by omega),show s.size=k by omega,hno];rfl))
  | exact H.rt (dL (by rw [oC,GA (k:=k) (by omega) (jY (by omega)),Bool.and_false]))
theorem aau (G:GH) (w0:World) (hG:Hold G w0) (l:List bV) (p:bV→Bool) (v fv:aj) (hv:av G (.sl 6 (l.map bV.dat)) v) (hf:∀ x∈l,pO fv G x.dat (p x)) :
  Calls prog 243 #[v,fv] w0 (aZ w0 G fun u G'=>u=vi (mQ (l.findIdx? p))):=by
 obtain ⟨A,c,rfl,hc1,hc2,-⟩:=hv.slice;have hml:maxLen=9223372036854775807:=rfl;rw [bG] at *;refine eN [(0,_),(1,_)] func243 rfl ntmps243 rfl rfl hG ?_;intro a H;refine kP H (SR fun _ K1=>ak K1 rfl (SQ fun _ K2=>SR fun _ K3=>Rm rfl (Rl lV rfl (Rm rfl (Kz K3 (SB ?_))))));clear H K1 K3;intro a H;skip;refine eU (ι:=Nat × GH) (Tc:=[(0,_),(1,_),(7,_)]) (Lc:=[]) (fun gh=>[(8,vi gh.1)]) (fun gh=>[]) (fun gh=>gh.2) (fun gh=>gh.1≤l.length∧(l.take gh.1).findIdx? p=none∧(∀ b o,G b=some o→gh.2 b=some o)) (fun gh=>l.length - gh.1) ((0,G)) (by exact (H).sub ⟨rfl,rfl,rfl,rfl,aC⟩) ?_ ?_
 ·exact ⟨by omega,rfl,fun _ _ h=>h⟩
 clear H;rintro ⟨k,g⟩ a w hI H;dsimp only at hI H;obtain ⟨hk,hno,hgm⟩:=hI;dsimp only [lca,bJ] at H;refine kP H (SR fun _ K4=>Rc rfl (Kz K4 (SQ fun _ K5=>Cd rfl ?_ ?_))) <;> clear H K4
 ·intro h9 a H
  try have p9:=dT h9
  have hk2:k < l.length:=by omega
  obtain ⟨b,o,pA,pc,rfl,hrow,hp,hrep⟩:=Dt (hv.mono hgm) hk2;refine kP H (Kc K5 (SQ fun _ K6=>SB (SR fun _ K7=>Rm rfl (ak K7 rfl (SR fun _ K8=>Rm rfl (Rm rfl (Rm rfl (Ri lV kr rfl rfl ?_))))))));clear H K5 K7;intro a H;refine bL kr (cs:=[_,_,_,_,_,_]) H wn rfl rfl (fun j v hj=>H.hp.aI (hrow j v hj)) rfl ?_;clear H;intro a H;refine ko H wn rfl rfl (hf _ (kS hk2) _ _ _ hgm H.ro hrep) rfl ?_;clear H;rintro v16 pF a w rfl mM H;refine K8 _ _ ?_;clear K8;refine jD H rfl ?_ ?_
  ·intro h16
   try have p16:=dT h16
   refine kP H (SR fun _ K9=>Rm rfl (ak K9 rfl ?_));clear H K9;intro a H;refine lr H results243 rfl ?_
   first
    | exact H.rt (by rw [pY hk2 hno h16];rfl)
    | exact H.rt (by rw [show l.take k=l from iC (by omega)] at hno;rw [hno];rfl)
  intro h16
  try have p16:=dF h16
  refine kP H (Kc K6 (SC (Rd rfl (Rm rfl ?_))));clear H K6;intro a H;refine aD ?_;refine dD ((k+1,pF)) (by exact (H).sub ⟨rfl,rfl,rfl,rfl,aC⟩) ?_
  (try dsimp only);exact ⟨by omega,Ac hk2 hno h16,fun b o h=>mM b o (hgm b o h)⟩
 intro h9 a H
 try have p9:=dF h9
 refine dV ?_;refine K2 _ _ ?_;clear K2;refine kP H (SR fun _ aR=>ak aR rfl ?_);clear H aR;intro a H;refine lr H results243 rfl ?_
 first
  | exact H.rt (by rw [pY hk2 hno h16];rfl)
  | exact H.rt (by rw [show l.take k=l from iC (by omega)] at hno;rw [hno];rfl)
def La (p q:ByteArray):Bool:=p.toList == q.toList
theorem ajn {G:GH} {bk bn:Nat} {kind:Int} {name:ByteArray} (hk:aI G bk 0=some (vi kind)) (hn:aI G bn 0=some (.string name)) (x:bV):pO (.func (.func 244) #[] #[(aK bk 0),(aK bn 0)]) G x.dat (decide (x.kind=kind) && La x.name name):=by
 intro G1 w0 cs hm hG hr;refine jI (caps:=[(aK bk 0),(aK bn 0)]) ahJ ?_;obtain ⟨pA,pc,rfl,-⟩:=OX hr;replace hk:=aJ hm hk;replace hn:=aJ hm hn;refine eN [(0,_),(1,_),(2,_)] func244 rfl ntmps244 rfl rfl hG ?_;intro a H;refine cu (fun _ K1=>?_);refine dQ (cs:=[_,_,_,_,_,_]) H wn rfl rfl rfl ?_;clear H;intro b3 a w hb3 H;refine kH H (ak K1 rfl (SR fun _ K2=>aY yV aH 0 rfl rfl (Rg aH rfl (by assumption) ?_)));clear H K1;intro a H;refine kH H (Rc rfl (Rm rfl (Sp 9 rfl ?_ ?_))) <;> clear H
 ·intro h9 a H
  try have p9:=dT h9
  refine kH H (YF Il h9 rfl (YO iN 0 h9 rfl (YR iN h9 rfl (by assumption) ?_)));clear H;intro a H;refine EJ H (wg H rfl rfl h9) rfl rfl rfl ?_;clear H;intro a H;exact kH H (Pt h9 rfl (ak K2 rfl (LR results244 rfl fun H=>H.rt (by unfold La;simp_all))))
 intro h9 a H
 try have p9:=dF h9
 exact kH H (aQ h9 rfl (aQ h9 rfl (Pf h9 rfl (ak K2 rfl (LR results244 rfl fun H=>H.rt (by unfold La;simp_all))))))
theorem ajm {G:GH} {bi:Nat} {id:Int} (hb:aI G bi 0=some (vi id)) (x:bV):pO (.func (.func 245) #[] #[(aK bi 0)]) G x.dat (decide (x.id=id)):=by
 intro G1 w0 cs hm hG hr;refine jI (caps:=[(aK bi 0)]) ahK ?_;obtain ⟨pA,pc,rfl,-⟩:=OX hr;replace hb:=aJ hm hb;refine eN [(0,_),(1,_)] func245 rfl ntmps245 rfl rfl hG ?_;intro a H;refine cu (fun _ K1=>?_);refine dQ (cs:=[_,_,_,_,_,_]) H wn rfl rfl rfl ?_;clear H;intro b2 a w hb2 H;refine kH H (ak K1 rfl (SR fun _ K2=>aY wT aH 0 rfl rfl (Rg aH rfl (by assumption) ?_)));clear H K1;intro a H;exact kH H (Rc rfl (ak K2 rfl (LR results245 rfl fun H=>H.rt rfl)))
def Ef (l:List bV) (kind:Int) (name:ByteArray):Option Nat:=l.findIdx? fun x=>decide (x.kind=kind) && La x.name name
def Nc (l:List bV) (id:Int):Option Nat:=l.findIdx? fun x=>decide (x.id=id)
theorem aaz (o:Option Nat):decide (0≤mQ o)=o.isSome:=by cases o <;> simp [mQ]
theorem ajo (G:GH) (w0:World) (hG:Hold G w0) (l:List bV) (kind:Int) (name:ByteArray) (v:aj) (hv:av G (.sl 6 (l.map bV.dat)) v) :
  Calls prog 219 #[v,vi kind,.string name] w0 (aZ w0 G fun u G'=>u=.tuple #[vi (max (mQ (Ef l kind name)) 0),.bool (Ef l kind name).isSome]):=by
 obtain ⟨A,c,rfl,hc1,hc2,-⟩:=hv.slice;rw [bG] at *;refine eN [(0,_),(1,_),(2,_)] func219 rfl ntmps219 rfl rfl hG ?_;intro a H;refine cu (fun _ K1=>?_);refine dQ (cs:=[_]) H wn rfl rfl rfl ?_;clear H;intro b4 a w hb4 H;refine dQ (cs:=[_]) H wn rfl rfl rfl ?_;clear H;intro b5 a w hb5 H;refine kH H (Ra rfl (ak K1 rfl (SQ fun _ K2=>?_)));clear H K1;intro a H;obtain ⟨Ga,hma,Bn,H⟩:=H.eH;obtain ⟨Gb,hmb,zU,H⟩:=H.eH
 have q4:aI Gb b4 0=some (vi kind):=by unfold aI;rw [zU];rfl
 have q5:aI Gb b5 0=some (.string name):=by unfold aI;rw [hmb _ _ Bn];rfl
 refine kP H (SC (Rm rfl ?_));clear H;intro a H;refine oZ H wn rfl rfl ?_;clear H;intro a H;refine s_call Yf H wn rfl (aau _ _ H.ro l (fun x=>decide (x.kind=kind) && La x.name name) _ _ ((hv.mono hma).mono hmb) (fun x _=>ajn q4 q5 x)) rfl ?_;clear H;rintro v11 sw a w rfl Br H;refine kH H (bq K2 rfl (SR fun _ K3=>Rm rfl ?_));clear H K2;intro a H;refine OO H wn rfl rfl rfl ?_;clear H;intro a H;refine kH H (Rm rfl (Rc rfl (Ra rfl (ak K3 rfl ?_))));clear H K3;intro a H;refine bW ?_;refine (eY H results219 (.cons (aT H rfl) (.cons (aT H rfl) .nil)) ?_).1;exact H.rt (by rw [← aaz];rfl)
theorem ajp (G:GH) (w0:World) (hG:Hold G w0) (l:List bV) (id:Int) (v:aj) (hv:av G (.sl 6 (l.map bV.dat)) v) :
  Calls prog 221 #[v,vi id] w0 (aZ w0 G fun u G'=>u=.tuple #[vi (max (mQ (Nc l id)) 0),.bool (Nc l id).isSome]):=by
 obtain ⟨A,c,rfl,hc1,hc2,-⟩:=hv.slice;rw [bG] at *;refine eN [(0,_),(1,_)] func221 rfl ntmps221 rfl rfl hG ?_;intro a H;refine cu (fun _ K1=>?_);refine dQ (cs:=[_]) H wn rfl rfl rfl ?_;clear H;intro b3 a w hb3 H;refine kH H (Ra rfl (ak K1 rfl (SQ fun _ K2=>?_)));clear H K1;intro a H;obtain ⟨Ga,hma,zT,H⟩:=H.eH
 have q3:aI Ga b3 0=some (vi id):=by unfold aI;rw [zT];rfl
 refine kP H (SC (Rm rfl ?_));clear H;intro a H;refine oZ H wn rfl rfl ?_;clear H;intro a H;refine s_call Yf H wn rfl (aau _ _ H.ro l (fun x=>decide (x.id=id)) _ _ (hv.mono hma) (fun x _=>ajm q3 x)) rfl ?_;clear H;rintro v9 G9 a w rfl tN H;refine kH H (bq K2 rfl (SR fun _ K3=>Rm rfl ?_));clear H K2;intro a H;refine OO H wn rfl rfl rfl ?_;clear H;intro a H;refine kH H (Rm rfl (Rc rfl (Ra rfl (ak K3 rfl ?_))));clear H K3;intro a H;refine bW ?_;refine (eY H results221 (.cons (aT H rfl) (.cons (aT H rfl) .nil)) ?_).1;exact H.rt (by rw [← aaz];rfl)
def Gm (l:List bV) (kind id:Int):Bool:=match Nc l id with|some i=>decide ((l[i]?.map bV.kind)=some kind)|none=>false
theorem TY (G:GH) (w0:World) (hG:Hold G w0) (l:List bV) (kind id:Int) (v:aj) (hv:av G (.sl 6 (l.map bV.dat)) v) :
  Calls prog 181 #[v,vi kind,vi id] w0 (aZ w0 G fun u G'=>u=.bool (Gm l kind id)):=by
 obtain ⟨A,c,rfl,hc1,hc2,-⟩:=hv.slice;rw [bG] at *;refine eN [(0,_),(1,_),(2,_)] func181 rfl ntmps181 rfl rfl hG ?_;intro a H;refine kP H (SR fun _ K1=>ak K1 rfl (SR fun _ K2=>Rm rfl (Rm rfl ?_)));clear H K1;intro a H;refine s_call ahB H wn rfl (ajp _ _ H.ro l id _ hv) rfl ?_;clear H;rintro v12 DL a w rfl CU H;obtain ⟨o,ho⟩:∃ o,o=Nc l id:=⟨_,rfl⟩;rw [← ho] at H;refine kH H (Rm rfl ?_);clear H;intro a H;(iterate 2 refine lq H wn rfl rfl rfl ?_;clear H;intro a H);refine kH H (Ra rfl (ak K2 rfl (SR fun _ K3=>Rm rfl (Rm rfl (Sp 16 rfl ?_ ?_))))) <;> clear H K2
 ·intro h16 a H
  try have p16:=dT h16
  obtain ⟨i,rfl⟩:=Option.isSome_iff_exists.1 h16
  have hil:i < l.length:=by
   obtain ⟨hi,-⟩:=List.findIdx?_eq_some_iff_getElem.1 ho.symm;exact hi
  rw [show max (mQ (some i)) 0=(i:Int) by simp [mQ]] at H;obtain ⟨b,o',pA,pc,rfl,hrow,hp,hrep⟩:=Dt (hv.mono CU) hil;have r1:aI DL b (o'+i*6+1)=some (vi l[i].kind):=hrow 1 _ rfl;refine kH H (YM h16 rfl (YM h16 rfl (YI lV kr h16 rfl rfl (YF yV h16 rfl (YR aH h16 rfl (by assumption) ?_)))));clear H;intro a H;refine kH H (YM h16 rfl (YC h16 rfl (Pt h16 rfl (ak K3 rfl ?_))));clear H K3;intro a H;refine lr H results181 rfl ?_
  first
   | exact H.rt (dL (by rw [Gm,← ho];dsimp only;rw [eT hil];simp))
   | exact H.rt (dL (by rw [Gm,← ho];cases o <;> simp_all))
 intro h16 a H
 try have p16:=dF h16
 refine kH H (bF h16 rfl (aQ h16 rfl (aQ h16 rfl (Pf h16 rfl (ak K3 rfl ?_)))));clear H K3;intro a H;refine lr H results181 rfl ?_
 first
  | exact H.rt (dL (by rw [Gm,← ho];dsimp only;rw [eT hil];simp))
  | exact H.rt (dL (by rw [Gm,← ho];cases o <;> simp_all))
theorem M0:∀ args w,(callFunc 218 args).run prog w=.ok (.enter 218 args) w:=enters func218 rfl (by kernel_rfl)
theorem ahy:∀ args w,(callFunc 219 args).run prog w=.ok (.enter 219 args) w:=enters func219 rfl (by kernel_rfl)
theorem Na:dH prog 192 5 5:=⟨by kernel_rfl⟩
theorem ahA:∀ args w,(callFunc 220 args).run prog w=.ok (.enter 220 args) w:=enters func220 rfl (by kernel_rfl)
theorem XZ:∀ args w,(callFunc 129 args).run prog w=.ok (.enter 129 args) w:=enters func129 rfl (by kernel_rfl)
theorem av.pre {G:GH} {sz:Nat} {rows:List (List Dat)} {A:Option Addr} {n c:Nat} (h:av G (.sl sz rows) (.slice A n c)) (k:Nat) (hk:k≤rows.length):av G (.sl sz (rows.take k)) (.slice A k c):=by
 have h:=h.part 0 k (gW _) hk
 have e:(if c=0 then A else A.map (·.add (0*sz)))=A:=by
  split
  ·rfl
  cases A <;> simp [Addr.add]
 rw [e] at h
 simpa using h
theorem agb (G:GH) (w0:World) (hG:Hold G w0) (kind:Int):Calls prog 220 #[vi kind] w0 (aZ w0 G fun u G'=>u=vi (if kind=1 then 2 else 1)):=by
 refine eN [(0,_)] func220 rfl ntmps220 rfl rfl hG ?_;intro a H;refine kP H (SR fun _ K1=>ak K1 rfl (SQ fun _ K2=>SR fun _ K3=>Rm rfl (Rc rfl (Kz K3 (Cd rfl ?_ ?_))))) <;> clear H K1 K3
 ·intro h4 a H
  try have p4:=dT h4
  exact kP H (SR fun _ K4=>ak K4 rfl (LR results220 rfl fun H=>H.rt (by first|(rw [au (by omega)];done)|rw [ah (by omega)])))
 intro h4 a H
 try have p4:=dF h4
 exact kP H (Kc K2 (SR fun _ K5=>ak K5 rfl (LR results220 rfl fun H=>H.rt (by first|(rw [au (by omega)];done)|rw [ah (by omega)]))))
def ze (l:List bV) (k:Nat):Option Int:=if k=0 then none else l[k - 1]?.map bV.id
theorem Ox {l:List bV} {k:Nat} (h:k=0):ze l k=none:=au h
def H6 (k:Int):Bool:=decide (k=20) || decide (k=1)
def mR (q:Option Int) (dup:Bool) (s:bV):Int :=
 if s.id < 1∨1073741824 < s.id then 18 else if q=some s.id then 7 else if EC q s.id=true then 6 else if s.kind≠1∧s.kind≠2 then 3 else if oC s.name=false then 13 else if dup=true then 7
 else if s.props.any (fun p=>H6 p.key)=true then 4 else iy (if s.kind=1 then 2 else 1) s.props
def jl (l:List bV) (k:Nat) (s:bV):Int:=mR (ze l k) (Ef (l.take k) s.kind s.name).isSome s
set_option maxHeartbeats 1000000 in
theorem aoc (G:GH) (w0:World) (hG:Hold G w0) (l:List bV) (k:Nat) (v:aj) (hv:av G (.sl 6 (l.map bV.dat)) v) (hk:k < l.length) (hs:l[k].name.size≤4611686018427387904) :
  Calls prog 180 #[v,vi k] w0 (aZ w0 G fun u G'=>u=vi (jl l k l[k])):=by
 obtain ⟨A,c,rfl,hc1,hc2,-⟩:=hv.slice;have hml:maxLen=9223372036854775807:=rfl;rw [bG] at *;obtain ⟨b,o,pA,pc,rfl,hrow,hp,hrep⟩:=Dt hv hk;obtain ⟨x,hx⟩:∃ x,x=l[k]:=⟨_,rfl⟩;rw [← hx] at hs hrow hp hrep ⊢;have hdp:∀ j v,[vi x.id,vi x.kind,.string x.name,vi x.base,vi x.next,.slice pA x.props.length pc][j]?=some v→aI G b (o+k*6+j)=some v:=hrow;obtain ⟨_,_,he0,atA,atB,-⟩:=hp.slice
 injection he0 with _ he1 he2
 rw [bG] at *;subst he2
 obtain ⟨pk,hpk⟩:∃ pk,0 < k→aI G b (o+(k - 1)*6+0)=some (vi pk)∧ze l k=some pk:=by
  by_cases h0:0 < k
  ·obtain ⟨b',o',_,_,he,hr',-,-⟩:=Dt hv (show k - 1 < l.length by omega)
   injection he with he
   injection he with e1 e2 e3
   subst e1;subst e2;exact ⟨_,fun _=>⟨hr' 0 _ rfl,by rw [ze,ah (by omega),eT (by omega)];rfl⟩⟩
  exact ⟨0,fun h=>absurd h h0⟩
 refine eN [(0,_),(1,_)] func180 rfl ntmps180 rfl rfl hG ?_;intro a H;refine kP H (SR fun _ K1=>ak K1 rfl (SR fun _ K2=>Rm rfl (Rm rfl (Ri lV kr rfl rfl ?_))));clear H K1;intro a H;refine bL kr (cs:=[_,_,_,_,_,_]) H wn rfl rfl (fun j v hj=>H.hp.aI (hrow j v hj)) rfl ?_;clear H;intro a H;refine dS kr H wn rfl ?_;clear H;intro b5 a w hb5 H;refine bD kr 0 (vs:=[_,_,_,_,_,_]) _ H wn rfl rfl rfl rfl rfl rfl rfl rfl ?_;clear H;intro w H;dsimp only [List.set,setRow] at H;refine K2 _ _ ?_;clear K2;refine sW (ι:=GH) (Tc:=[(0,_),(1,_),(5,_)]) (Lc:=[(_,_)]) (fun gh=>[]) (fun gh=>[]) (fun gh=>gh) (fun gh=>¬ (x.id < 1∨1073741824 < x.id)∧¬ ze l k=some x.id∧¬ EC (ze l k) x.id=true∧¬ (x.kind≠1∧x.kind≠2)∧¬ oC x.name=false∧(∀ b o,G b=some o→gh b=some o)) (by exact (H).sub ⟨rfl,rfl,rfl,aC⟩) ?_ ?_
 ·skip;refine kP H (SB (SR fun _ K3=>aY wT aH 0 rfl rfl (Rc rfl (Rm rfl (Sp 18 rfl ?_ ?_))))) <;> clear H
  ·intro h18 a H
   try have Dl:=dT h18
   refine kH H (bF h18 rfl (Pt h18 rfl (ak K3 rfl (Ct rfl rfl (SR fun _ K4=>ak K4 rfl ?_)))));clear H K3 K4;intro a H;refine lr H results180 rfl ?_
   first
    | exact H.rt (aB vi e0.symm)
    | exact H.rt (aB vi e4.symm)
    | exact H.rt (aB vi e7.symm)
    | exact H.rt (aB vi e13.symm)
    | exact H.rt (aB vi e3.symm)
    | exact H.rt (aB vi e6.symm)
    | exact H.rt (aB vi (by rw [jl,mR,au (by omega)]))
  intro h18 a H
  try have Dl:=dF h18
  refine kH H (YF wT h18 rfl (YO aH 0 h18 rfl (YC h18 rfl (Pf h18 rfl (ak K3 rfl (Cd rfl ?_ ?_)))))) <;> clear H K3
  ·intro gX a H
   try have sP:=dT gX
   refine kP H (SR fun _ K5=>ak K5 rfl ?_);clear H K5;intro a H;refine lr H results180 rfl ?_
   first
    | exact H.rt (aB vi e0.symm)
    | exact H.rt (aB vi e4.symm)
    | exact H.rt (aB vi e7.symm)
    | exact H.rt (aB vi e13.symm)
    | exact H.rt (aB vi e3.symm)
    | exact H.rt (aB vi e6.symm)
    | exact H.rt (aB vi (by rw [jl,mR,au (by omega)]))
  intro gX a H
  try have sP:=dF gX
  refine bN (fun _ K6=>?_)
  by_cases c0:0 < (k:Int)
  ·skip
   by_cases c1:x.id=pk
   ·skip;refine dI hmx [[],[0],[0,1],[0,1,2],(ra 0 4),[0,1,2],[0,1,2],[0,1,2,6],[0,1,2,5,6,7],[0,1,2,5,6,7,8],[0,1,2,5,6,7,8,9],(ra 0 11),(ra 0 12),(ra 0 13)] [13] (by kernel_rfl) [_,_,_,_,vi x.id,_,_,vi ((k - 1:Nat):Int),_,_,_,_,_] H (aF (Z0 rfl (Rm rfl)) (Z1 0 24 rfl (Rc rfl)) (Z1 1 25 rfl (Rm rfl)) (Z1 2 26 rfl (YF wT (aG c0) rfl)) (aF (Z2 3 27 2 26 rfl (YO aH 0 (aG c0) rfl)) (Z1 2 26 rfl (YM (aG c0) rfl)) (Z1 2 26 rfl (YM (aG c0) rfl)) ?_ (aF (Z3 5 29 7 31 2 26 rfl (YI lV kr (aG c0) rfl rfl)) (Z2 8 32 2 26 rfl (YF wT (aG c0) rfl)) (X2 9 33 2 26 rfl fun hG=>YR aH (aG c0) rfl (aJ hG (hpk (by omega)).1)) (Z3 4 28 10 34 2 26 rfl (YC (aG c0) rfl)) (bR (Z2 2 26 11 35 rfl (Pt (aG c0) rfl)) (bR (bS rfl) dz))))) ?_
    ·refine dJ 6 30 2 26 rfl rfl fun _ a w G1 hG HT H fin=>?_;refine nS _ H (wg H rfl rfl (aG c0)) rfl rfl rfl (by omega) (by omega) rfl ?_;clear H;intro a H;exact fin H iJ (by show _=_;first|rfl|exact aB vi (by omega))
    clear H;intro a w G CJ H hv;have H:=H.aM (hv 12 36 rfl rfl) rfl;clear hv;refine kH H (Ra rfl ?_);clear H;intro a H;refine aD ⟨rfl,?_⟩;refine K6 _ _ ?_;clear K6;refine Ba H rfl (aG c1) ?_;refine bN (fun _ K7=>?_)
    have e7:jl l k x=7:=by rw [jl,mR,ah (by omega),au (by rw [(hpk (by omega)).2,c1])]
    refine kP H (SC (bq K7 rfl ?_));clear H K7;intro a H;refine lr H results180 rfl ?_
    first
     | exact H.rt (aB vi e0.symm)
     | exact H.rt (aB vi e4.symm)
     | exact H.rt (aB vi e7.symm)
     | exact H.rt (aB vi e13.symm)
     | exact H.rt (aB vi e3.symm)
     | exact H.rt (aB vi e6.symm)
     | exact H.rt (aB vi (by rw [jl,mR,au (by omega)]))
   skip;refine dI hmx [[],[0],[0,1],[0,1,2],(ra 0 4),[0,1,2],[0,1,2],[0,1,2,6],[0,1,2,5,6,7],[0,1,2,5,6,7,8],[0,1,2,5,6,7,8,9],(ra 0 11),(ra 0 12),(ra 0 13)] [13] (by kernel_rfl) [_,_,_,_,vi x.id,_,_,vi ((k - 1:Nat):Int),_,_,_,_,_] H (aF (Z0 rfl (Rm rfl)) (Z1 0 24 rfl (Rc rfl)) (Z1 1 25 rfl (Rm rfl)) (Z1 2 26 rfl (YF wT (aG c0) rfl)) (aF (Z2 3 27 2 26 rfl (YO aH 0 (aG c0) rfl)) (Z1 2 26 rfl (YM (aG c0) rfl)) (Z1 2 26 rfl (YM (aG c0) rfl)) ?_ (aF (Z3 5 29 7 31 2 26 rfl (YI lV kr (aG c0) rfl rfl)) (Z2 8 32 2 26 rfl (YF wT (aG c0) rfl)) (X2 9 33 2 26 rfl fun hG=>YR aH (aG c0) rfl (aJ hG (hpk (by omega)).1)) (Z3 4 28 10 34 2 26 rfl (YC (aG c0) rfl)) (bR (Z2 2 26 11 35 rfl (Pt (aG c0) rfl)) (bR (bS rfl) dz))))) ?_
   ·refine dJ 6 30 2 26 rfl rfl fun _ a w G1 hG HT H fin=>?_;refine nS _ H (wg H rfl rfl (aG c0)) rfl rfl rfl (by omega) (by omega) rfl ?_;clear H;intro a H;exact fin H iJ (by show _=_;first|rfl|exact aB vi (by omega))
   clear H;intro a w G CJ H hv;have H:=H.aM (hv 12 36 rfl rfl) rfl;clear hv;refine kH H (Ra rfl ?_);clear H;intro a H;refine aD ⟨rfl,?_⟩;refine K6 _ _ ?_;clear K6;refine rP H rfl (aS c1) ?_;refine bN (fun _ K8=>?_)
   have q1:¬ (0 < (k:Int)∧x.id=pk):=by first|exact fun h=>c1 h.2|exact fun h=>c0 h.1
   have q1':¬ ze l k=some x.id:=fun h=>q1 (by
    by_cases h0:0 < k
    ·rw [(hpk h0).2] at h
     injection h with h
     exact ⟨by omega,h.symm⟩
    rw [Ox (by omega)] at h
    cases h)
   by_cases c3:x.id < pk
   ·skip;refine dI hmx [[],[0],[0,1],[0,1,2],(ra 0 4),[0,1,2],[0,1,2],[0,1,2,6],[0,1,2,5,6,7],[0,1,2,5,6,7,8],[0,1,2,5,6,7,8,9],(ra 0 11),(ra 0 12),(ra 0 13)] [13] (by kernel_rfl) [_,_,_,_,vi x.id,_,_,vi ((k - 1:Nat):Int),_,_,_,_,_] H (aF (Z0 rfl (Rm rfl)) (Z1 0 38 rfl (Rc rfl)) (Z1 1 39 rfl (Rm rfl)) (Z1 2 40 rfl (YF wT (aG c0) rfl)) (aF (Z2 3 41 2 40 rfl (YO aH 0 (aG c0) rfl)) (Z1 2 40 rfl (YM (aG c0) rfl)) (Z1 2 40 rfl (YM (aG c0) rfl)) ?_ (aF (Z3 5 43 7 45 2 40 rfl (YI lV kr (aG c0) rfl rfl)) (Z2 8 46 2 40 rfl (YF wT (aG c0) rfl)) (X2 9 47 2 40 rfl fun hG=>YR aH (aG c0) rfl (aJ hG (aJ CJ (hpk (by omega)).1))) (Z3 4 42 10 48 2 40 rfl (YC (aG c0) rfl)) (bR (Z2 2 40 11 49 rfl (Pt (aG c0) rfl)) (bR (bS rfl) dz))))) ?_
    ·refine dJ 6 44 2 40 rfl rfl fun _ a w G1 hG HT H fin=>?_;refine nS _ H (wg H rfl rfl (aG c0)) rfl rfl rfl (by omega) (by omega) rfl ?_;clear H;intro a H;exact fin H iJ (by show _=_;first|rfl|exact aB vi (by omega))
    clear H;intro a w G iL H hv;have H:=H.aM (hv 12 50 rfl rfl) rfl;clear hv;refine kH H (Ra rfl ?_);clear H;intro a H;refine aD ⟨rfl,?_⟩;refine K8 _ _ ?_;clear K8;refine Ba H rfl (aG c3) ?_;refine bN (fun _ K9=>?_)
    have e6:jl l k x=6:=by rw [jl,mR,ah (by omega),ah q1',au (by rw [(hpk (by omega)).2];exact aG c3)]
    refine kP H (SC (bq K9 rfl ?_));clear H K9;intro a H;refine lr H results180 rfl ?_
    first
     | exact H.rt (aB vi e0.symm)
     | exact H.rt (aB vi e4.symm)
     | exact H.rt (aB vi e7.symm)
     | exact H.rt (aB vi e13.symm)
     | exact H.rt (aB vi e3.symm)
     | exact H.rt (aB vi e6.symm)
     | exact H.rt (aB vi (by rw [jl,mR,au (by omega)]))
   skip;refine dI hmx [[],[0],[0,1],[0,1,2],(ra 0 4),[0,1,2],[0,1,2],[0,1,2,6],[0,1,2,5,6,7],[0,1,2,5,6,7,8],[0,1,2,5,6,7,8,9],(ra 0 11),(ra 0 12),(ra 0 13)] [13] (by kernel_rfl) [_,_,_,_,vi x.id,_,_,vi ((k - 1:Nat):Int),_,_,_,_,_] H (aF (Z0 rfl (Rm rfl)) (Z1 0 38 rfl (Rc rfl)) (Z1 1 39 rfl (Rm rfl)) (Z1 2 40 rfl (YF wT (aG c0) rfl)) (aF (Z2 3 41 2 40 rfl (YO aH 0 (aG c0) rfl)) (Z1 2 40 rfl (YM (aG c0) rfl)) (Z1 2 40 rfl (YM (aG c0) rfl)) ?_ (aF (Z3 5 43 7 45 2 40 rfl (YI lV kr (aG c0) rfl rfl)) (Z2 8 46 2 40 rfl (YF wT (aG c0) rfl)) (X2 9 47 2 40 rfl fun hG=>YR aH (aG c0) rfl (aJ hG (aJ CJ (hpk (by omega)).1))) (Z3 4 42 10 48 2 40 rfl (YC (aG c0) rfl)) (bR (Z2 2 40 11 49 rfl (Pt (aG c0) rfl)) (bR (bS rfl) dz))))) ?_
   ·refine dJ 6 44 2 40 rfl rfl fun _ a w G1 hG HT H fin=>?_;refine nS _ H (wg H rfl rfl (aG c0)) rfl rfl rfl (by omega) (by omega) rfl ?_;clear H;intro a H;exact fin H iJ (by show _=_;first|rfl|exact aB vi (by omega))
   clear H;intro a w G iL H hv;have H:=H.aM (hv 12 50 rfl rfl) rfl;clear hv;refine kH H (Ra rfl ?_);clear H;intro a H;refine aD ⟨rfl,?_⟩;refine K8 _ _ ?_;clear K8;refine rP H rfl (aS c3) ?_;refine bN (fun _ aR=>?_)
   have q2:¬ (0 < (k:Int)∧x.id < pk):=by first|exact fun h=>c3 h.2|exact fun h=>c0 h.1
   have q2':¬ EC (ze l k) x.id=true:=fun h=>q2 (by
    by_cases h0:0 < k
    ·rw [(hpk h0).2] at h;exact ⟨by omega,nK h⟩
    rw [Ox (by omega)] at h
    cases h)
   refine kP H (SC (aY yV aH 0 rfl rfl (Rc rfl (Rm rfl (Sp 55 rfl ?_ ?_))))) <;> clear H
   ·intro nk a H
    try have p55:=dT nk
    refine kH H (YF yV nk rfl (YO aH 0 nk rfl (YC nk rfl (Pt nk rfl (bq aR rfl (Cd rfl ?_ ?_)))))) <;> clear H aR
    ·intro kT a H
     try have p51:=dT kT
     refine bN (fun _ bQ=>?_)
     have e3:jl l k x=3:=by rw [jl,mR,ah (by omega),ah q1',ah q2',au (by omega)]
     refine kP H (SC (bq bQ rfl ?_));clear H bQ;intro a H;refine lr H results180 rfl ?_
     first
      | exact H.rt (aB vi e0.symm)
      | exact H.rt (aB vi e4.symm)
      | exact H.rt (aB vi e7.symm)
      | exact H.rt (aB vi e13.symm)
      | exact H.rt (aB vi e3.symm)
      | exact H.rt (aB vi e6.symm)
      | exact H.rt (aB vi (by rw [jl,mR,au (by omega)]))
    intro kT a H
    try have p51:=dF kT
    refine kP H (SR fun _ bY=>aY Il iN 0 rfl rfl ?_);clear H;intro a H;refine s_call M0 H wn rfl (N7 _ _ H.ro x.name hs) rfl ?_;clear H;rintro v63 E8 a w rfl hm63 H;refine kH H (Rn rfl (ak bY rfl (Cd rfl ?_ ?_))) <;> clear H bY
    ·intro jT a H
     try have p60:=dT jT
     refine bN (fun _ cZ=>?_)
     have e13:jl l k x=13:=by rw [jl,mR,ah (by omega),ah q1',ah q2',ah (by omega),au (by simpa using jT)]
     refine kP H (SC (bq cZ rfl ?_));clear H cZ;intro a H;refine lr H results180 rfl ?_
     first
      | exact H.rt (aB vi e0.symm)
      | exact H.rt (aB vi e4.symm)
      | exact H.rt (aB vi e7.symm)
      | exact H.rt (aB vi e13.symm)
      | exact H.rt (aB vi e3.symm)
      | exact H.rt (aB vi e6.symm)
      | exact H.rt (aB vi (by rw [jl,mR,au (by omega)]))
    intro jT a H
    try have p60:=dF jT
    refine gU ?_;refine ⟨E8,by exact (H).sub ⟨rfl,rfl,rfl,aC⟩,?_⟩;exact ⟨by omega,q1',q2',by omega,by simpa using jT,fun b o h=>hm63 b o (iL b o (CJ b o h))⟩
   intro nk a H
   try have p55:=dF nk
   refine kH H (bF nk rfl (Pf nk rfl (bq aR rfl (Cf rfl rfl (SR fun _ dG=>aY Il iN 0 rfl rfl ?_)))));clear H aR;intro a H;refine s_call M0 H wn rfl (N7 _ _ H.ro x.name hs) rfl ?_;clear H;rintro v63 E8 a w rfl hm63 H;refine kH H (Rn rfl (ak dG rfl (Cd rfl ?_ ?_))) <;> clear H dG
   ·intro jT a H
    try have p60:=dT jT
    refine bN (fun _ dZ=>?_)
    have e13:jl l k x=13:=by rw [jl,mR,ah (by omega),ah q1',ah q2',ah (by omega),au (by simpa using jT)]
    refine kP H (SC (bq dZ rfl ?_));clear H dZ;intro a H;refine lr H results180 rfl ?_
    first
     | exact H.rt (aB vi e0.symm)
     | exact H.rt (aB vi e4.symm)
     | exact H.rt (aB vi e7.symm)
     | exact H.rt (aB vi e13.symm)
     | exact H.rt (aB vi e3.symm)
     | exact H.rt (aB vi e6.symm)
     | exact H.rt (aB vi (by rw [jl,mR,au (by omega)]))
   intro jT a H
   try have p60:=dF jT
   refine gU ?_;refine ⟨E8,by exact (H).sub ⟨rfl,rfl,rfl,aC⟩,?_⟩;exact ⟨by omega,q1',q2',by omega,by simpa using jT,fun b o h=>hm63 b o (iL b o (CJ b o h))⟩
  skip;refine dI hmx [[],[0],[0,1],[0,1,2],(ra 0 4),[0,1,2],[0,1,2],[0,1,2,6],[0,1,2,5,6,7],[0,1,2,5,6,7,8],[0,1,2,5,6,7,8,9],(ra 0 11),(ra 0 12),(ra 0 13)] [13] (by kernel_rfl) [_,_,_,undef,undef,undef,undef,undef,undef,undef,undef,undef,_] H (aF (Z0 rfl (Rm rfl)) (Z1 0 24 rfl (Rc rfl)) (Z1 1 25 rfl (Rm rfl)) (aV 2 (aS c0) rfl rfl) (aF (aV 2 (aS c0) rfl rfl) (aV 2 (aS c0) rfl rfl) (aV 2 (aS c0) rfl rfl) (aV 2 (aS c0) rfl rfl) (aF (aV 2 (aS c0) rfl rfl) (aV 2 (aS c0) rfl rfl) (aV 2 (aS c0) rfl rfl) (aV 2 (aS c0) rfl rfl) (bR (Z2 2 26 11 35 rfl (Pf (aS c0) rfl)) (bR (bS rfl) dz))))) ?_
  clear H;intro a w G CJ H hv;have H:=H.aM (hv 12 36 rfl rfl) rfl;clear hv;refine kH H (Ra rfl ?_);clear H;intro a H;refine aD ⟨rfl,?_⟩;refine K6 _ _ ?_;clear K6;refine rP H rfl rfl ?_;refine bN (fun _ eB=>?_)
  have q1:¬ (0 < (k:Int)∧x.id=pk):=by first|exact fun h=>c1 h.2|exact fun h=>c0 h.1
  have q1':¬ ze l k=some x.id:=fun h=>q1 (by
   by_cases h0:0 < k
   ·rw [(hpk h0).2] at h
    injection h with h
    exact ⟨by omega,h.symm⟩
   rw [Ox (by omega)] at h
   cases h)
  refine dI hmx [[],[0],[0,1],[0,1,2],(ra 0 4),[0,1,2],[0,1,2],[0,1,2,6],[0,1,2,5,6,7],[0,1,2,5,6,7,8],[0,1,2,5,6,7,8,9],(ra 0 11),(ra 0 12),(ra 0 13)] [13] (by kernel_rfl) [_,_,_,undef,undef,undef,undef,undef,undef,undef,undef,undef,_] H (aF (Z0 rfl (Rm rfl)) (Z1 0 38 rfl (Rc rfl)) (Z1 1 39 rfl (Rm rfl)) (aV 2 (aS c0) rfl rfl) (aF (aV 2 (aS c0) rfl rfl) (aV 2 (aS c0) rfl rfl) (aV 2 (aS c0) rfl rfl) (aV 2 (aS c0) rfl rfl) (aF (aV 2 (aS c0) rfl rfl) (aV 2 (aS c0) rfl rfl) (aV 2 (aS c0) rfl rfl) (aV 2 (aS c0) rfl rfl) (bR (Z2 2 40 11 49 rfl (Pf (aS c0) rfl)) (bR (bS rfl) dz))))) ?_
  clear H;intro a w G iL H hv;have H:=H.aM (hv 12 50 rfl rfl) rfl;clear hv;refine kH H (Ra rfl ?_);clear H;intro a H;refine aD ⟨rfl,?_⟩;refine eB _ _ ?_;clear eB;refine rP H rfl rfl ?_;refine bN (fun _ dW=>?_)
  have q2:¬ (0 < (k:Int)∧x.id < pk):=by first|exact fun h=>c3 h.2|exact fun h=>c0 h.1
  have q2':¬ EC (ze l k) x.id=true:=fun h=>q2 (by
   by_cases h0:0 < k
   ·rw [(hpk h0).2] at h;exact ⟨by omega,nK h⟩
   rw [Ox (by omega)] at h
   cases h)
  refine kP H (SC (aY yV aH 0 rfl rfl (Rc rfl (Rm rfl (Sp 55 rfl ?_ ?_))))) <;> clear H
  ·intro nk a H
   try have p55:=dT nk
   refine kH H (YF yV nk rfl (YO aH 0 nk rfl (YC nk rfl (Pt nk rfl (bq dW rfl (Cd rfl ?_ ?_)))))) <;> clear H dW
   ·intro kT a H
    try have p51:=dT kT
    refine bN (fun _ fC=>?_)
    have e3:jl l k x=3:=by rw [jl,mR,ah (by omega),ah q1',ah q2',au (by omega)]
    refine kP H (SC (bq fC rfl ?_));clear H fC;intro a H;refine lr H results180 rfl ?_
    first
     | exact H.rt (aB vi e0.symm)
     | exact H.rt (aB vi e4.symm)
     | exact H.rt (aB vi e7.symm)
     | exact H.rt (aB vi e13.symm)
     | exact H.rt (aB vi e3.symm)
     | exact H.rt (aB vi e6.symm)
     | exact H.rt (aB vi (by rw [jl,mR,au (by omega)]))
   intro kT a H
   try have p51:=dF kT
   refine kP H (SR fun _ gQ=>aY Il iN 0 rfl rfl ?_);clear H;intro a H;refine s_call M0 H wn rfl (N7 _ _ H.ro x.name hs) rfl ?_;clear H;rintro v63 E8 a w rfl hm63 H;refine kH H (Rn rfl (ak gQ rfl (Cd rfl ?_ ?_))) <;> clear H gQ
   ·intro jT a H
    try have p60:=dT jT
    refine bN (fun _ fM=>?_)
    have e13:jl l k x=13:=by rw [jl,mR,ah (by omega),ah q1',ah q2',ah (by omega),au (by simpa using jT)]
    refine kP H (SC (bq fM rfl ?_));clear H fM;intro a H;refine lr H results180 rfl ?_
    first
     | exact H.rt (aB vi e0.symm)
     | exact H.rt (aB vi e4.symm)
     | exact H.rt (aB vi e7.symm)
     | exact H.rt (aB vi e13.symm)
     | exact H.rt (aB vi e3.symm)
     | exact H.rt (aB vi e6.symm)
     | exact H.rt (aB vi (by rw [jl,mR,au (by omega)]))
   intro jT a H
   try have p60:=dF jT
   refine gU ?_;refine ⟨E8,by exact (H).sub ⟨rfl,rfl,rfl,aC⟩,?_⟩;exact ⟨by omega,q1',q2',by omega,by simpa using jT,fun b o h=>hm63 b o (iL b o (CJ b o h))⟩
  intro nk a H
  try have p55:=dF nk
  refine kH H (bF nk rfl (Pf nk rfl (bq dW rfl (Cf rfl rfl (SR fun _ gV=>aY Il iN 0 rfl rfl ?_)))));clear H dW;intro a H;refine s_call M0 H wn rfl (N7 _ _ H.ro x.name hs) rfl ?_;clear H;rintro v63 E8 a w rfl hm63 H;refine kH H (Rn rfl (ak gV rfl (Cd rfl ?_ ?_))) <;> clear H gV
  ·intro jT a H
   try have p60:=dT jT
   refine bN (fun _ jo=>?_)
   have e13:jl l k x=13:=by rw [jl,mR,ah (by omega),ah q1',ah q2',ah (by omega),au (by simpa using jT)]
   refine kP H (SC (bq jo rfl ?_));clear H jo;intro a H;refine lr H results180 rfl ?_
   first
    | exact H.rt (aB vi e0.symm)
    | exact H.rt (aB vi e4.symm)
    | exact H.rt (aB vi e7.symm)
    | exact H.rt (aB vi e13.symm)
    | exact H.rt (aB vi e3.symm)
    | exact H.rt (aB vi e6.symm)
    | exact H.rt (aB vi (by rw [jl,mR,au (by omega)]))
  intro jT a H
  try have p60:=dF jT
  refine gU ?_;refine ⟨E8,by exact (H).sub ⟨rfl,rfl,rfl,aC⟩,?_⟩;exact ⟨by omega,q1',q2',by omega,by simpa using jT,fun b o h=>hm63 b o (iL b o (CJ b o h))⟩
 clear H;intro g a w hI H;obtain ⟨q0,q1',q2',q3,q4,hgm⟩:=hI;dsimp only [lca,bJ] at H;refine bN (fun _ lD=>?_);refine bN (fun _ kX=>?_);have aah:=(hv.mono hgm).pre k (by rw [bG];omega);rw [← List.map_take] at aah;have alN:=hp.mono hgm;refine dI hmx [[],[],[0,1],[],[3],[],[5],(ra 0 7),(ra 0 8),(ra 0 9),(ra 0 9),(ra 0 10),(ra 0 12)] [12] (by kernel_rfl) [_,_,.slice (some ⟨b,o,none⟩) k c,_,vi x.kind,_,.string x.name,.tuple #[vi (max (mQ (Ef (l.take k) x.kind x.name)) 0),.bool (Ef (l.take k) x.kind x.name).isSome],_,vi (max (mQ (Ef (l.take k) x.kind x.name)) 0),.bool (Ef (l.take k) x.kind x.name).isSome,_] H (aF (Z0 rfl (Rm rfl)) (Z0 rfl (Rm rfl)) ?_ (Z0 rfl (Rf yV rfl)) (aF (Z1 3 69 rfl (Ro aH 0 rfl)) (Z0 rfl (Rf Il rfl)) (Z1 5 71 rfl (Ro iN 0 rfl)) ?_ (aF (Z1 7 73 rfl (Rm rfl)) ?_ ?_ (Z1 9 74 rfl (Ra rfl)) (bR (bS rfl) dz)))) ?_
 ·refine dJ 0 66 1 67 rfl rfl fun _ a w G1 hG HT H fin=>?_;refine EL lV kr k H wn rfl rfl rfl (by omega) rfl ?_;clear H;intro a H;exact fin H iJ rfl
 ·refine yN 2 68 4 70 6 72 rfl rfl fun _ a w G1 hG HT H fin=>?_;refine s_call ahy H wn rfl (ajo _ _ H.ro (l.take k) x.kind x.name _ (aah.mono hG)) rfl ?_;clear H;rintro v73 G73 a w rfl akd H;exact fin H akd (rfl)
 ·refine fq 8 65 rfl rfl fun _ a w G1 hG HT H fin=>?_;refine lq H wn rfl rfl rfl ?_;clear H;intro a H;exact fin H iJ rfl
 ·refine fq 8 65 rfl rfl fun _ a w G1 hG HT H fin=>?_;refine lq H wn rfl rfl rfl ?_;clear H;intro a H;exact fin H iJ rfl
 clear H;intro a w G oz H hv;have H:=H.aM (hv 10 75 rfl rfl) rfl;clear hv;refine kH H (Ra rfl ?_);clear H;intro a H;refine aD ⟨rfl,?_⟩;refine kX _ _ ?_;clear kX;refine kP H (SR fun _ kC=>Rm rfl (Kz kC (Cd rfl ?_ ?_))) <;> clear H kC
 ·intro Cw a H
  try have UC:=dT Cw
  refine bN (fun _ lK=>?_)
  have e7:jl l k x=7:=by rw [jl,mR,ah (by omega),ah q1',ah q2',ah q3,ah q4,au Cw]
  refine kP H (SC (bq lK rfl ?_));clear H lK;intro a H;refine lr H results180 rfl ?_
  first
   | exact H.rt (aB vi e0.symm)
   | exact H.rt (aB vi e4.symm)
   | exact H.rt (aB vi e7.symm)
   | exact H.rt (aB vi e13.symm)
   | exact H.rt (aB vi e3.symm)
   | exact H.rt (aB vi e6.symm)
   | exact H.rt (aB vi (by rw [jl,mR,au (by omega)]))
 intro Cw a H
 try have UC:=dF Cw
 refine kP H (Kc lD (SQ fun _ lM=>SQ fun _ jL=>?_));clear H lD;intro a H
 have q5:¬ (Ef (l.take k) x.kind x.name).isSome=true:=by simpa using Cw
 have Ev:=alN.mono oz;refine kP H (SC (aY Na um 0 rfl rfl (Rl gy rfl (Rm rfl (Kn jL (SB ?_))))));clear H jL;intro a H;skip;refine eU (ι:=Nat) (Tc:=[(5,_),(78,_),(79,_)]) (Lc:=[(_,_)]) (fun gh=>[(80,vi gh)]) (fun gh=>[]) (fun gh=>G) (fun gh=>gh≤x.props.length∧(x.props.take gh).any (fun p=>H6 p.key)=false) (fun gh=>x.props.length - gh) (0) (by exact (H).sub ⟨rfl,rfl,rfl,rfl,aC⟩) ?_ ?_
 ·exact ⟨gW _,rfl⟩
 clear H;intro n a w hI H;obtain ⟨hn,hno⟩:=hI;dsimp only [lca,bJ] at H;refine kP H (SR fun _ oL=>Rc rfl (Kz oL (SQ fun _ pI=>Cd rfl ?_ ?_))) <;> clear H oL
 ·intro RZ a H
  try have p81:=dT RZ
  have hn2:n < x.props.length:=by omega
  obtain ⟨pb,po,rfl,hrow2⟩:=GL Ev hn2;have hrow:=hrow2;refine kP H (Kc pI (SQ fun _ qm=>SB (SR fun _ qJ=>Ri gy gM rfl rfl ?_)));clear H pI;intro a H;refine bL gM (cs:=[_,_]) H wn rfl rfl (fun j v hj=>H.hp.aI (hrow j v hj)) rfl ?_;clear H;intro a H;refine dS gM H wn rfl ?_;clear H;intro b9 a w Bo H;refine bD gM 0 (vs:=[_,_]) _ H wn rfl rfl rfl rfl rfl rfl rfl rfl ?_;clear H;intro w H;dsimp only [List.set,setRow] at H;refine qJ _ _ ?_;clear qJ;refine kP H (SR fun _ qo=>aY wS aH 0 rfl rfl (Rc rfl (Rm rfl (Sp 87 rfl ?_ ?_)))) <;> clear H
  ·intro h87 a H
   try have UE:=dT h87
   refine kH H (bF h87 rfl (Pt h87 rfl (Kz qo (Ct rfl rfl (SQ fun _ qK=>?_)))));clear H qo;intro a H
   have e4:jl l k x=4:=by
    rw [jl,mR,ah (by omega),ah q1',ah q2',ah q3,ah q4,ah q5,au];rw [List.any_eq_true];exact ⟨x.props[n],kS hn2,by simp [H6];omega⟩
   refine kP H (SC (bq qK rfl ?_));clear H qK;intro a H;refine lr H results180 rfl ?_
   first
    | exact H.rt (aB vi e0.symm)
    | exact H.rt (aB vi e4.symm)
    | exact H.rt (aB vi e7.symm)
    | exact H.rt (aB vi e13.symm)
    | exact H.rt (aB vi e3.symm)
    | exact H.rt (aB vi e6.symm)
    | exact H.rt (aB vi (by rw [jl,mR,au (by omega)]))
  intro h87 a H
  try have UE:=dF h87
  refine kH H (YF wS h87 rfl (YO aH 0 h87 rfl (YC h87 rfl (Pf h87 rfl (Kz qo (Cd rfl ?_ ?_)))))) <;> clear H qo
  ·intro R4 a H
   try have p91:=dT R4
   refine bN (fun _ uw=>?_)
   have e4:jl l k x=4:=by
    rw [jl,mR,ah (by omega),ah q1',ah q2',ah q3,ah q4,ah q5,au];rw [List.any_eq_true];exact ⟨x.props[n],kS hn2,by simp [H6];omega⟩
   refine kP H (SC (bq uw rfl ?_));clear H uw;intro a H;refine lr H results180 rfl ?_
   first
    | exact H.rt (aB vi e0.symm)
    | exact H.rt (aB vi e4.symm)
    | exact H.rt (aB vi e7.symm)
    | exact H.rt (aB vi e13.symm)
    | exact H.rt (aB vi e3.symm)
    | exact H.rt (aB vi e6.symm)
    | exact H.rt (aB vi (by rw [jl,mR,au (by omega)]))
  intro R4 a H
  try have p91:=dF R4
  refine kP H (Kc qm (SC (Rd rfl (Rm rfl ?_))));clear H qm;intro a H;refine aD ?_;refine dD ((n+1)) (by exact (H.dY (Pl:=[_,_]) (dK:=[_]) [1] (by decide) rfl).sub ⟨rfl,rfl,rfl,rfl,aC⟩) ?_
  exact ⟨by omega,by rw [iU hn2,List.any_append,hno];simp [H6];omega⟩
 intro RZ a H
 try have p81:=dF RZ
 refine dV ?_;refine lM _ _ ?_;clear lM;refine bN (fun _ rH=>?_)
 have q6:¬ x.props.any (fun p=>H6 p.key)=true:=by
  rw [show x.props.take n=x.props from iC (by omega)] at hno;rw [hno];decide
 have e0:jl l k x=iy (if x.kind=1 then 2 else 1) x.props:=by rw [jl,mR,ah (by omega),ah q1',ah q2',ah q3,ah q4,ah q5,ah q6]
 refine dI hmx [[],[0],[0,1],[],[3],(ra 0 5),(ra 0 6)] [5,6] (by kernel_rfl) [_,vi x.kind,vi (if x.kind=1 then 2 else 1),_,.slice pA x.props.length pc] H (aF (Z0 rfl (Rf yV rfl)) (Z1 0 93 rfl (Ro aH 0 rfl)) ?_ (Z0 rfl (Rf Na rfl)) (bR (Z1 3 96 rfl (Ro um 0 rfl)) (bR (bS rfl) (bR (bS rfl) dz)))) ?_
 ·refine fq 1 94 rfl rfl fun _ a w G1 hG HT H fin=>?_;refine s_call ahA H wn rfl (agb _ _ H.ro x.kind) rfl ?_;clear H;rintro v95 G95 a w rfl ake H;exact fin H ake (rfl)
 clear H;intro a w G Ip H hv;have H:=H.aM (hv 2 95 rfl rfl) rfl;have H:=H.aM (hv 4 97 rfl rfl) rfl;clear hv;refine s_call XZ H wn rfl (abq _ _ H.ro _ x.props _ (Ev.mono Ip)) rfl ?_;clear H;rintro v98 G98 a w rfl atx H;refine kH H (Ra rfl ?_);clear H;intro a H;refine aD ⟨rfl,?_⟩;refine rH _ _ ?_;clear rH;refine lr H results180 rfl ?_
 first
  | exact H.rt (aB vi e0.symm)
  | exact H.rt (aB vi e4.symm)
  | exact H.rt (aB vi e7.symm)
  | exact H.rt (aB vi e13.symm)
  | exact H.rt (aB vi e3.symm)
  | exact H.rt (aB vi e6.symm)
  | exact H.rt (aB vi (by rw [jl,mR,au (by omega)]))
theorem EP:Ty prog 33 1 24 [.slice none 0 0] false:=⟨by kernel_rfl,by kernel_rfl⟩
theorem zw:prog.underlying 33=some (.slice 107):=by kernel_rfl
theorem Am:Ty prog 107 6 64 [.int .i64 0,.int .i64 0,.string ⟨#[]⟩,.int .i64 0,.string ⟨#[]⟩,.bool false] true:=⟨by kernel_rfl,by kernel_rfl⟩
theorem Yz:dH prog 107 0 0:=⟨by kernel_rfl⟩
theorem YA:dH prog 107 1 1:=⟨by kernel_rfl⟩
theorem ahD:∀ args w,(callFunc 224 args).run prog w=.ok (.enter 224 args) w:=enters func224 rfl (by kernel_rfl)
theorem ahl:∀ args w,(callFunc 187 args).run prog w=.ok (.enter 187 args) w:=enters func187 rfl (by kernel_rfl)
theorem aiY:dH prog 107 2 2:=⟨by kernel_rfl⟩
theorem XY:∀ args w,(callFunc 127 args).run prog w=.ok (.enter 127 args) w:=enters func127 rfl (by kernel_rfl)
theorem aiZ:dH prog 107 3 3:=⟨by kernel_rfl⟩
theorem aja:dH prog 107 4 4:=⟨by kernel_rfl⟩
theorem QM:∀ args w,(callFunc 190 args).run prog w=.ok (.enter 190 args) w:=enters func190 rfl (by kernel_rfl)
theorem ahn:∀ args w,(callFunc 189 args).run prog w=.ok (.enter 189 args) w:=enters func189 rfl (by kernel_rfl)
theorem ahm:∀ args w,(callFunc 188 args).run prog w=.ok (.enter 188 args) w:=enters func188 rfl (by kernel_rfl)
theorem ahk:∀ args w,(callFunc 186 args).run prog w=.ok (.enter 186 args) w:=enters func186 rfl (by kernel_rfl)
theorem Gj {G:GH} {b:Nat} (l:List Int) (h:G b=some (.cells (l.map vi).toArray 49 (0,0))) (hl:l.length≤maxLen):av G (.sl 1 (l.map fun k=>[li k])) (.slice (some ⟨b,0,none⟩) l.length l.length) :=
 av.fE h (by simp) (bM _) hl (iC (by simp)) (fT G l)
theorem Qw {G:GH} {l:List iT} {A:Option Addr} {n c k:Nat} (hv:av G (.sl 6 (l.map iT.dat)) (.slice A n c)) (hk:k < l.length):∃ b o,A=some ⟨b,o,none⟩∧(∀ j u,l[k].cells[j]?=some u→aI G b (o+k*6+j)=some u)∧aU G l[k].dat l[k].cells:=by
 obtain ⟨A',c',he,_,_,hg⟩:=hv.slice
 injection he with e1 e2 e3
 subst e1;obtain ⟨b,o,cs,h1,h2,h3,h4⟩:=hg k l[k].dat (by simp [hk]);have:=Xt h4;subst this;exact ⟨b,o,h1,h3,h4⟩
theorem afx {G:GH} {bl:Nat} {l:List iT} {A:Option Addr} {n c:Nat} (hb:aI G bl 0=some (.slice A n c)) (hv:av G (.sl 6 (l.map iT.dat)) (.slice A n c)):uq (.func (.func 189) #[] #[(aK bl 0)]) G l.length fun k=>(l[k]?.map iT.id).getD 0:=by
 intro k hk G1 w0 hm hG;refine jI (caps:=[(aK bl 0)]) ahn ?_;replace hb:=aJ hm hb
 obtain rfl:n=l.length:=by have:=hv.len;simpa using this
 obtain ⟨b,o,rfl,hrow,-⟩:=Qw (hv.mono hm) hk;have hq:=hrow 0 _ rfl;refine eN [(0,_),(1,_)] func189 rfl ntmps189 rfl rfl hG ?_;intro a H;refine kP H (SR fun _ K1=>ak K1 rfl (SR fun _ K2=>Rg EP rfl (by assumption) ?_));clear H K1;intro a H;refine kH H (Rm rfl (Ri zw Am rfl rfl (Rf Yz rfl (Rg aH rfl (by assumption) ?_))));clear H;intro a H;exact kH H (ak K2 rfl (LR results189 rfl fun H=>H.rt (by dsimp only;rw [eT hk];rfl)))
theorem afy {G:GH} {bc:Nat} {x:iT} (hb:aI G bc 1=some (vi x.parent)) (y:iT):pO (.func (.func 188) #[] #[(aK bc 0)]) G y.dat (decide (y.id=x.parent)):=by
 intro G1 w0 cs hm hG hr;refine jI (caps:=[(aK bc 0)]) ahm ?_;obtain rfl:=Xt hr;replace hb:=aJ hm hb;refine eN [(0,_),(1,_)] func188 rfl ntmps188 rfl rfl hG ?_;intro a H;refine cu (fun _ K1=>?_);refine dQ (cs:=[_,_,_,_,_,_]) H wn rfl rfl rfl ?_;clear H;intro b2 a w hb2 H;refine kH H (ak K1 rfl (SR fun _ K2=>aY Yz aH 0 rfl rfl (Rf YA rfl (Rg aH rfl (by assumption) ?_))));clear H K1;intro a H;exact kH H (Rc rfl (ak K2 rfl (LR results188 rfl fun H=>H.rt rfl)))
theorem amy (G:GH) (w0:World) (hG:Hold G w0) (l:List iT) (p:iT→Bool) (v fv:aj) (hv:av G (.sl 6 (l.map iT.dat)) v) (hf:∀ x∈l,pO fv G x.dat (p x)) :
  Calls prog 224 #[v,fv] w0 (aZ w0 G fun u G'=>u=vi (mQ (l.findIdx? p))):=by
 obtain ⟨A,c,rfl,hc1,hc2,hg⟩:=hv.slice;have hml:maxLen=9223372036854775807:=rfl;rw [bG] at *;refine eN [(0,_),(1,_)] func224 rfl ntmps224 rfl rfl hG ?_;intro a H;refine kP H (SR fun _ K1=>ak K1 rfl (SQ fun _ K2=>SR fun _ K3=>Rm rfl (Rl zw rfl (Rm rfl (Kz K3 (SB ?_))))));clear H K1 K3;intro a H;skip;refine eU (ι:=Nat × GH) (Tc:=[(0,_),(1,_),(7,_)]) (Lc:=[]) (fun gh=>[(8,vi gh.1)]) (fun gh=>[]) (fun gh=>gh.2) (fun gh=>gh.1≤l.length∧(l.take gh.1).findIdx? p=none∧(∀ b o,G b=some o→gh.2 b=some o)) (fun gh=>l.length - gh.1) ((0,G)) (by exact (H).sub ⟨rfl,rfl,rfl,rfl,aC⟩) ?_ ?_
 ·exact ⟨by omega,rfl,fun _ _ h=>h⟩
 clear H;rintro ⟨k,g⟩ a w hI H;dsimp only at hI H;obtain ⟨hk,hno,hgm⟩:=hI;dsimp only [lca,bJ] at H;refine kP H (SR fun _ K4=>Rc rfl (Kz K4 (SQ fun _ K5=>Cd rfl ?_ ?_))) <;> clear H K4
 ·intro h9 a H
  try have p9:=dT h9
  have hk2:k < l.length:=by omega
  obtain ⟨b,o,rfl,hrow,hrep⟩:=Qw hv hk2;refine kP H (Kc K5 (SQ fun _ K6=>SB (SR fun _ K7=>Rm rfl (ak K7 rfl (SR fun _ K8=>Rm rfl (Rm rfl (Rm rfl (Ri zw Am rfl rfl ?_))))))));clear H K5 K7;intro a H;refine bL Am (cs:=l[k].cells) H wn rfl rfl (fun j v hj=>H.hp.aI (aJ hgm (hrow j v hj))) rfl ?_;clear H;intro a H;refine ko H wn rfl rfl (hf _ (kS hk2) _ _ _ hgm H.ro (hrep.mono hgm)) rfl ?_;clear H;rintro v16 pF a w rfl mM H;refine K8 _ _ ?_;clear K8;refine jD H rfl ?_ ?_
  ·intro h16
   try have p16:=dT h16
   refine kP H (SR fun _ K9=>Rm rfl (ak K9 rfl ?_));clear H K9;intro a H;refine lr H results224 rfl ?_
   first
    | exact H.rt (by rw [pY hk2 hno h16];rfl)
    | exact H.rt (by rw [show l.take k=l from iC (by omega)] at hno;rw [hno];rfl)
  intro h16
  try have p16:=dF h16
  refine kP H (Kc K6 (SC (Rd rfl (Rm rfl ?_))));clear H K6;intro a H;refine aD ?_;refine dD ((k+1,pF)) (by exact (H).sub ⟨rfl,rfl,rfl,rfl,aC⟩) ?_
  (try dsimp only);exact ⟨by omega,Ac hk2 hno h16,fun b o h=>mM b o (hgm b o h)⟩
 intro h9 a H
 try have p9:=dF h9
 refine dV ?_;refine K2 _ _ ?_;clear K2;refine kP H (SR fun _ aR=>ak aR rfl ?_);clear H aR;intro a H;refine lr H results224 rfl ?_
 first
  | exact H.rt (by rw [pY hk2 hno h16];rfl)
  | exact H.rt (by rw [show l.take k=l from iC (by omega)] at hno;rw [hno];rfl)
theorem afB (G:GH) (w0:World) (hG:Hold G w0) (l:List iT) (p:iT→Bool) (v fv:aj) (hv:av G (.sl 6 (l.map iT.dat)) v) (hf:∀ x∈l,pO fv G x.dat (p x)) :
  Calls prog 187 #[v,fv] w0 (aZ w0 G fun u G'=>u=.bool (l.findIdx? p).isSome):=by
 obtain ⟨A,c,rfl,hc1,hc2,-⟩:=hv.slice;rw [bG] at *;refine eN [(0,_),(1,_)] func187 rfl ntmps187 rfl rfl hG ?_;intro a H;refine kP H (SR fun _ K1=>ak K1 rfl (SR fun _ K2=>Rm rfl (Rm rfl ?_)));clear H K1;intro a H;refine s_call ahD H wn rfl (amy _ _ H.ro l p _ _ hv hf) rfl ?_;clear H;rintro v7 G7 a w rfl CX H;exact kH H (Rc rfl (ak K2 rfl (LR results187 rfl fun H=>H.rt (dL (T9 _)))))
def H7 (l:List iT) (i:Nat) (x:iT):Bool:=decide (x.parent=0) || ((l.take i).findIdx? fun y=>decide (y.id=x.parent)).isSome
def Qv (l:List iT) (i:Nat) (x:iT):Int:=dR [qY (fun k=>(l[k]?.map iT.id).getD 0) i,dw (!H7 l i x) 8,dw (!xM x.author) 39,dw (!decide (0≤x.time∧x.time≤1099511627776)) 40,Dw x.text]
def Ie (l:List iT) (i:Nat):Int:=match l[i]? with|some x=>Qv l i x|none=>0
theorem afw {G:GH} {bl:Nat} {l:List iT} {A:Option Addr} {n c:Nat} (hb:aI G bl 0=some (.slice A n c)) (hv:av G (.sl 6 (l.map iT.dat)) (.slice A n c)) (hl:l.length≤4294967296) (ht:∀ x∈l,x.author.size < 4611686018427387904∧x.text.size < 4611686018427387904):uq (.func (.func 186) #[] #[(aK bl 0)]) G l.length (Ie l):=by
 intro k hk G1 w0 hm hG;refine jI (caps:=[(aK bl 0)]) ahk ?_;replace hb:=aJ hm hb;replace hv:=hv.mono hm;have hcb:=afx hb hv;obtain ⟨_,_,hee,hvc,-,-⟩:=hv.slice
 injection hee with _ _ hcc
 subst hcc;rw [bG] at hvc
 obtain rfl:n=l.length:=by have:=hv.len;simpa using this
 obtain ⟨b,o,rfl,hrow,hrep⟩:=Qw hv hk;have hte:=ht _ (kS hk);obtain ⟨x,hx⟩:∃ x,x=l[k]:=⟨_,rfl⟩;rw [← hx] at hrow hte
 have he:Ie l k=Qv l k x:=by unfold Ie;rw [eT hk,hx]
 refine eN [(0,_),(1,_)] func186 rfl ntmps186 rfl rfl hG ?_;intro a H;refine kP H (SR fun _ K1=>ak K1 rfl (SR fun _ K2=>Rg EP rfl (by assumption) ?_));clear H K1;intro a H;refine kH H (Rm rfl (Ri zw Am rfl rfl ?_));clear H;intro a H;refine bL Am (cs:=x.cells) H wn rfl rfl (fun j v hj=>H.hp.aI (hrow j v hj)) rfl ?_;clear H;intro a H;refine dS Am H wn rfl ?_;clear H;intro b4 a w hb4 H;refine bD Am 0 (vs:=[_,_,_,_,_,_]) _ H wn rfl rfl rfl rfl rfl rfl rfl rfl ?_;clear H;intro w H;dsimp only [List.set,setRow] at H;obtain ⟨Ga,hma,zU,H⟩:=H.eH
 have hcell:∀ (j:Nat) (u:aj),x.cells[j]?=some u→aI Ga b4 j=some u:=fun j u hj=>by unfold aI;rw [zU];simpa using hj
 have q1:=hcell 1 _ rfl;have hbA:=aJ hma hb;have NV:=(hv.mono hma).pre k (by rw [bG];omega);rw [← List.map_take] at NV;refine K2 _ _ ?_;clear K2;refine sW (ι:=Bool × GH) (Tc:=[(0,_),(1,_),(4,_)]) (Lc:=[]) (fun gh=>[(5,.bool gh.1)]) (fun gh=>[]) (fun gh=>gh.2) (fun gh=>gh.1=H7 l k x∧(∀ b o,Ga b=some o→gh.2 b=some o)) (by exact (H).sub ⟨rfl,rfl,rfl,aC⟩) ?_ ?_
 ·skip;refine kP H (SC (Rf YA rfl (Rg aH rfl (by assumption) ?_)));clear H;intro a H;refine kH H (Rc rfl (Rm rfl (Sp 13 rfl ?_ ?_))) <;> clear H
  ·intro gG a H
   try have rz:=dT gG
   refine kH H (bF gG rfl (aQ gG rfl (Pt gG rfl (Ra rfl ?_))));clear H;intro a H;refine aD ?_;refine ⟨(_,_),by exact (H).sub ⟨rfl,rfl,rfl,rfl,aC⟩,?_⟩;(try dsimp only)
   first
   | exact ⟨by unfold H7;rw [jM (by assumption)];rfl,fun _ _ h=>h⟩
   | exact ⟨by unfold H7;rw [jY (by assumption)];rfl,hm18⟩
  intro gG a H
  try have rz:=dF gG
  refine kH H (YR EP gG rfl (by assumption) ?_);clear H;intro a H;refine kH H (YM gG rfl ?_);clear H;intro a H;refine EL zw Am k H (wg H rfl rfl gG) rfl rfl rfl (by omega) rfl ?_;clear H;intro a H;refine oZ H (wg H rfl rfl gG) rfl rfl ?_;clear H;intro a H;refine s_call ahl H (wg H rfl rfl gG) rfl (afB _ _ H.ro (l.take k) (fun y=>decide (y.id=x.parent)) _ _ NV (fun y _=>afy q1 y)) rfl ?_;clear H;rintro v18 PE a w rfl hm18 H;refine kH H (Pf gG rfl (Ra rfl ?_));clear H;intro a H;refine aD ?_;refine ⟨(_,_),by exact (H).sub ⟨rfl,rfl,rfl,rfl,aC⟩,?_⟩;(try dsimp only)
  first
  | exact ⟨by unfold H7;rw [jM (by assumption)];rfl,fun _ _ h=>h⟩
  | exact ⟨by unfold H7;rw [jY (by assumption)];rfl,hm18⟩
 clear H;rintro ⟨bf,g⟩ a w hI H;dsimp only at hI H;obtain ⟨hbf,hgm⟩:=hI;replace hcell:=fun j u hj=>aJ hgm (hcell j u hj);replace hcb:=(hcb.mono hma).mono hgm;dsimp only [lca,bJ] at H;refine bN (fun _ K3=>?_);have H:=H.sub (T':=[(0,_),(1,_),(4,_),(5,_)]) ⟨rfl,rfl,rfl,rfl,aC⟩;refine dI hmx [[],[],[0,1],[],[3],(ra 0 5),[],[6],(ra 0 8),(ra 0 9),(ra 0 10),[],[11],(ra 0 13),(ra 0 14),(ra 0 15),[],[16],(ra 0 18),(ra 0 19),(ra 0 20),(ra 0 21)] [19,20,21] (by kernel_rfl) [_,.func (.func 189) #[] #[(aK bl 0)],vi (qY (fun k=>(l[k]?.map iT.id).getD 0) k),_,_,vi (dw (!bf) 8),_,_,.bool (xM x.author),_,vi (dw (!xM x.author) 39),_,_,.bool (decide (0≤x.time∧x.time≤1099511627776)),_,vi (dw (!decide (0≤x.time∧x.time≤1099511627776)) 40),_,_,vi (Dw x.text)] H (aF (Z0 rfl (Rm rfl)) ?_ ?_ (Z0 rfl (Rm rfl)) (aF (Z1 3 23 rfl (Rn rfl)) ?_ (Z0 rfl (Rf aiY rfl)) (X1 6 26 rfl fun hG=>Rg iN rfl (aJ hG (hcell 2 _ rfl))) (aF ?_ (Z1 8 28 rfl (Rn rfl)) ?_ (Z0 rfl (Rf aiZ rfl)) (aF (X1 11 31 rfl fun hG=>Rg aH rfl (aJ hG (hcell 3 _ rfl))) ?_ (Z1 13 33 rfl (Rn rfl)) ?_ (aF (Z0 rfl (Rf aja rfl)) (X1 16 36 rfl fun hG=>Rg iN rfl (aJ hG (hcell 4 _ rfl))) ?_ (bS rfl) (bR (bS rfl) (bR (bS rfl) dz))))))) ?_
 ·refine Ci rfl fun _ a w G1 hG HT H fin=>?_;refine oZ H wn rfl rfl ?_;clear H;intro a H;exact fin H iJ rfl
 ·refine dJ 0 20 1 21 rfl rfl fun _ a w G1 hG HT H fin=>?_;refine s_call QG H wn rfl (TV _ _ H.ro k _ _ (by omega) (fun i hi=>(hcb.mono hG) i (by omega))) rfl ?_;clear H;rintro v22 VP a w rfl R7 H;exact fin H R7 (rfl)
 ·refine fq 4 24 rfl rfl fun _ a w G1 hG HT H fin=>?_;refine s_call jO H wn rfl (jQ _ _ H.ro _ 8) rfl ?_;clear H;rintro v25 Mf a w ⟨rfl,-⟩ ajT H;exact fin H ajT (rfl)
 ·refine fq 7 27 rfl rfl fun _ a w G1 hG HT H fin=>?_;refine s_call XY H wn rfl (WU _ _ H.ro x.author hte.1) rfl ?_;clear H;rintro v28 Mg a w ⟨rfl,-⟩ ajU H;exact fin H ajU (rfl)
 ·refine fq 9 29 rfl rfl fun _ a w G1 hG HT H fin=>?_;refine s_call jO H wn rfl (jQ _ _ H.ro _ 39) rfl ?_;clear H;rintro v30 Ay a w ⟨rfl,-⟩ R9 H;exact fin H R9 (rfl)
 ·refine fq 12 32 rfl rfl fun _ a w G1 hG HT H fin=>?_;refine s_call xS H wn rfl (yw _ _ H.ro x.time 0 1099511627776) rfl ?_;clear H;rintro v33 VT a w ⟨rfl,-⟩ ajV H;exact fin H ajV (rfl)
 ·refine fq 14 34 rfl rfl fun _ a w G1 hG HT H fin=>?_;refine s_call jO H wn rfl (jQ _ _ H.ro _ 40) rfl ?_;clear H;rintro v35 VU a w ⟨rfl,-⟩ Sb H;exact fin H Sb (rfl)
 ·refine fq 17 37 rfl rfl fun _ a w G1 hG HT H fin=>?_;refine s_call QM H wn rfl (Vj _ _ H.ro x.text hte.2) rfl ?_;clear H;rintro v38 PK a w rfl ajX H;exact fin H ajX (rfl)
 clear H;intro a w G uP H hv;have H:=H.aM (hv 2 22 rfl rfl) rfl;have H:=H.aM (hv 5 25 rfl rfl) rfl;have H:=H.aM (hv 10 30 rfl rfl) rfl;have H:=H.aM (hv 15 35 rfl rfl) rfl;have H:=H.aM (hv 18 38 rfl rfl) rfl;clear hv;refine iE qI iA [_,_,_,_,_] [_,_,_,_,_] H wn rfl rfl rfl rfl rfl (by intro i q h;match i,h with|0,h=>exact h|1,h=>exact h|2,h=>exact h|3,h=>exact h|4,h=>exact h|n+5,h=>simp at h) rfl rfl ?_;clear H;intro b39 a w asW H;obtain ⟨VW,NH,akx,H⟩:=H.eH;refine s_call rQ H wn rfl (rT _ _ H.ro _ _ (Gj [qY (fun k=>(l[k]?.map iT.id).getD 0) k,dw (!bf) 8,dw (!xM x.author) 39,dw (!decide (0≤x.time∧x.time≤1099511627776)) 40,Dw x.text] akx (show 5≤maxLen by decide))) rfl ?_;clear H;rintro v40 _ a w ⟨rfl,rfl⟩ - H;refine kH H (Ra rfl ?_);clear H;intro a H;refine aD ⟨rfl,?_⟩;refine K3 _ _ ?_;clear K3;refine lr H results186 rfl ?_;exact H.rt (by rw [he,Qv,← hbf])
def MI (l:List iT):Int:=dR [dw (decide (1024 < (l.length:Int))) 9,kK (Ie l) (min l.length 1024)]
theorem aeN (G:GH) (w0:World) (hG:Hold G w0) (l:List iT) (v:aj) (hv:av G (.sl 6 (l.map iT.dat)) v) (hl:l.length≤4294967296) (ht:∀ x∈l,x.author.size < 4611686018427387904∧x.text.size < 4611686018427387904) :
  Calls prog 121 #[v] w0 (aZ w0 G fun u G'=>u=vi (MI l)):=by
 obtain ⟨A,c,rfl,hc1,hc2,-⟩:=hv.slice;rw [bG] at *;refine eN [(0,_)] func121 rfl ntmps121 rfl rfl hG ?_;intro a H;refine cu (fun _ K1=>?_);refine dQ (cs:=[_]) H wn rfl rfl rfl ?_;clear H;intro b1 a w hb1 H;refine kH H (ak K1 rfl (SQ fun _ K2=>?_));clear H K1;intro a H;have H:=H.sub (T':=[(1,_)]) ⟨rfl,aC⟩;obtain ⟨Ga,hma,hb1',H⟩:=H.eH
 have hbl:aI Ga b1 0=some (.slice A l.length c):=by unfold aI;rw [hb1'];rfl
 have hcb:=afw hbl (hv.mono hma) hl ht;refine dI hmx [[],[0],[0,1],[0,1,2],[],[4],[4,5],[],(ra 0 8),(ra 0 9),(ra 0 10),(ra 0 11)] [9,10,11] (by kernel_rfl) [_,_,_,vi (dw (decide (1024 < (l.length:Int))) 9),_,_,vi ((min l.length 1024:Nat):Int),.func (.func 186) #[] #[(aK b1 0)],vi (kK (Ie l) (min l.length 1024))] H (aF (X0 rfl fun hG=>Rg EP rfl (aJ hG hbl)) (Z1 0 3 rfl (Rl zw rfl)) (Z1 1 4 rfl (Rc rfl)) ?_ (aF (X0 rfl fun hG=>Rg EP rfl (aJ hG hbl)) (Z1 4 7 rfl (Rl zw rfl)) ?_ ?_ (aF ?_ (bS rfl) (bS rfl) (bS rfl) dz))) ?_
 ·refine fq 2 5 rfl rfl fun _ a w G1 hG HT H fin=>?_;refine s_call jO H wn rfl (jQ _ _ H.ro _ 9) rfl ?_;clear H;rintro v6 G6 a w ⟨rfl,-⟩ iL H;exact fin H iL (rfl)
 ·refine fq 5 8 rfl rfl fun _ a w G1 hG HT H fin=>?_;refine OP H wn rfl rfl rfl ?_;clear H;intro a H;exact fin H iJ (aB vi (by omega))
 ·refine Ci rfl fun _ a w G1 hG HT H fin=>?_;refine oZ H wn rfl rfl ?_;clear H;intro a H;exact fin H iJ rfl
 ·refine dJ 6 9 7 10 rfl rfl fun _ a w G1 hG HT H fin=>?_;refine s_call Ih H wn rfl (JG _ _ H.ro (min l.length 1024) (Ie l) _ (by omega) ((hcb.mono hG).le (Nat.min_le_left _ _))) rfl ?_;clear H;rintro v11 sw a w rfl lQ H;exact fin H lQ (rfl)
 clear H;intro a w G nu H hv;have H:=H.aM (hv 3 6 rfl rfl) rfl;have H:=H.aM (hv 8 11 rfl rfl) rfl;clear hv;refine iE qI iA [_,_] [_,_] H wn rfl rfl rfl rfl rfl (by intro i q h;match i,h with|0,h=>exact h|1,h=>exact h|n+2,h=>simp at h) rfl rfl ?_;clear H;intro b12 a w FU H;obtain ⟨DL,CU,FV,H⟩:=H.eH;refine s_call rQ H wn rfl (rT _ _ H.ro _ _ (zu FV)) rfl ?_;clear H;rintro v13 _ a w ⟨rfl,rfl⟩ - H;refine kH H (Ra rfl ?_);clear H;intro a H;refine aD ⟨rfl,?_⟩;refine K2 _ _ ?_;clear K2;refine lr H results121 rfl ?_;exact H.rt rfl
def yB:Nat→List Int→List MapEntry
 | _,[]=>[]
 | i,k :: r=>⟨.int .i64 k,.int .i64 (i:Int),i⟩ :: yB (i+1) r
theorem aaM (x:Int):∀ (i:Nat) (l:List Int),yB i (l++[x])=yB i l++[⟨.int .i64 x,.int .i64 ((i+l.length:Nat):Int),i+l.length⟩]
 | _,[]=>rfl
 | i,k :: r=>by
  rw [nJ,yB,aaM x (i+1) r,yB,nJ,kR,show i+1+r.length=i+(r.length+1) by omega]
def vZ (x:Int):Nat→List Int→Option Nat
 | _,[]=>none
 | i,k :: r=>if k=x then some i else vZ x (i+1) r
theorem aap {x:Int}:∀ {l:List Int} {i n:Nat},vZ x i l=some n→i≤n
 | [],_,_,h=>by cases h
 | k :: r,i,n,h=>by
  rw [vZ] at h;split at h
  ·cases h;exact bM _
  ·have:=aap h;omega
theorem aar {x:Int}:∀ {l:List Int} {i:Nat},x∉l→vZ x i l=none
 | [],_,_=>rfl
 | k :: r,i,h=>by
  rw [vZ,ah (fun e=>h (by simp [e])),aar (fun hm=>h (iQ _ hm))]
theorem Rp (x:Int):∀ (i j:Nat) (l:List Int),Instr.findNow (.int .i64) (.int .i64 x) (yB i l) j=some ((vZ x i l).map fun n=>(j+(n - i),.int .i64 (n:Int)))
 | _,_,[]=>rfl
 | i,j,k :: r=>by
  have ih:=Rp x (i+1) (j+1) r
  by_cases e:k=x
  ·subst e
   simp only [yB,Instr.findNow,Instr.sameNow,au,vZ,beq_self_eq_true]
   simp
  ·have hb:(x == k)=false:=by simp;exact fun h=>e h.symm
   simp only [yB,Instr.findNow,Instr.sameNow,au,hb,vZ,ah e,ih]
   cases h:vZ x (i+1) r with
   | none=>rfl
   | some n =>
    have:=aap h
    simp only [rO,oq,iG,and_true]
    omega
abbrev aeb (b:Nat) (l:List Int):Nat × Obj:=(b,.map (yB 0 l).toArray l.length)
theorem anp (l:List Int) (x:Int):(yB 0 l).toArray.push ⟨.int .i64 x,.int .i64 (l.length:Int),l.length⟩=(yB 0 (l++[x])).toArray:=by
 rw [aaM,List.push_toArray,gI]
end Go.Proofs.YtdiflmikikiedaaGreat
