/-
  What the claim stands on, part 4: Ehd Hdr Hea Frm Itc Vis Okd Rws Itm Its Rvs Chd Ck13 Cl Rc Ct Nf Vc Ubf Av16 Frs Hds Np13 Nq13 Ni13 Blw Tbs.
-/
import Derived.Test.YthmanofbmnfemaaGreatWec
namespace Go.Proofs.YthmanofbmnfemaaGreat
set_option linter.all false
open Go.Proofs.Tryz
set_option maxRecDepth 20000
set_option maxHeartbeats 4000000
section
open Go.RowKit
theorem agM:JU prog 171 [(0,false),(1,false)]:=⟨by kernel_rfl,by kernel_rfl,by kernel_rfl,by kernel_rfl,by kernel_rfl⟩
theorem agK:JU prog 115 [(0,false),(1,false)]:=⟨by kernel_rfl,by kernel_rfl,by kernel_rfl,by kernel_rfl,by kernel_rfl⟩
theorem agL:JU prog 117 [(0,false),(1,false),(2,false),(3,true)]:=⟨by kernel_rfl,by kernel_rfl,by kernel_rfl,by kernel_rfl,by kernel_rfl⟩
theorem aeO:∀ args w,(callFunc 123 args).run prog w=.ok (.enter 123 args) w:=enters func123 rfl (by kernel_rfl)
instance Ck:dB prog 27 0 0:=⟨by kernel_rfl⟩
instance Xk:dB prog 27 1 1:=⟨by kernel_rfl⟩
theorem aeP:∀ args w,(callFunc 124 args).run prog w=.ok (.enter 124 args) w:=enters func124 rfl (by kernel_rfl)
theorem aeQ:∀ args w,(callFunc 125 args).run prog w=.ok (.enter 125 args) w:=enters func125 rfl (by kernel_rfl)
abbrev iB.cells (x:iB):List aj:=[vi x.rev,vi x.move]
abbrev gU.cells (x:gU):List aj:=[vi x.rev,vi x.key,vi x.before,.bool x.had]
theorem Pm {G:GH} {x:iB} {cs:List aj} (h:aN G x.dat cs):cs=x.cells:=by
 simp only [iB.dat,aN,av] at h
 obtain ⟨_,_,rfl,⟨rfl,_⟩,_,_,rfl,⟨rfl,_⟩,rfl⟩:=h
 rfl
theorem SA {G:GH} {x:gU} {cs:List aj} (h:aN G x.dat cs):cs=x.cells:=by
 simp only [gU.dat,aN,av] at h
 obtain ⟨_,_,rfl,⟨rfl,_⟩,_,_,rfl,⟨rfl,_⟩,_,_,rfl,⟨rfl,_⟩,_,_,rfl,⟨rfl,_⟩,rfl⟩:=h
 rfl
theorem fK.eq_iff (a b:fK):(a.key=b.key∧a.value=b.value)↔a=b:=by cases a;cases b;simp
theorem iB.eq_iff (a b:iB):(a.rev=b.rev∧a.move=b.move)↔a=b:=by cases a;cases b;simp
theorem gU.eq_iff (a b:gU):(a.rev=b.rev∧a.key=b.key∧a.before=b.before∧a.had=b.had)↔a=b:=by cases a;cases b;simp
instance:DecidableEq fK:=fun a b=>decidable_of_iff _ (fK.eq_iff a b)
instance:DecidableEq iB:=fun a b=>decidable_of_iff _ (iB.eq_iff a b)
instance:DecidableEq gU:=fun a b=>decidable_of_iff _ (gU.eq_iff a b)
theorem aly (a b:fK):(!([(0,false),(1,false)].all fun o=>jN #[vi a.key,vi a.value] o == jN #[vi b.key,vi b.value] o))=!decide (a=b):=by
 have h:=fK.eq_iff a b;rw [qG]
 simp only [uJ,nX]
 rw [← h]
 simp [jN]
theorem alv (a b:iB):(!([(0,false),(1,false)].all fun o=>jN #[vi a.rev,vi a.move] o == jN #[vi b.rev,vi b.move] o))=!decide (a=b):=by
 have h:=iB.eq_iff a b;rw [qG]
 simp only [uJ,nX]
 rw [← h]
 simp [jN]
theorem alx (a b:gU):(!([(0,false),(1,false),(2,false),(3,true)].all fun o=>jN #[vi a.rev,vi a.key,vi a.before,.bool a.had] o == jN #[vi b.rev,vi b.key,vi b.before,.bool b.had] o))=!decide (a=b):=by
 have h:=gU.eq_iff a b;rw [qG]
 simp only [uJ,nX]
 rw [← h]
 simp [jN]
theorem agI (G:GH) (w0:World) (hG:Hold G w0) (A B:List fK) (v u:aj) (hv:av G (.sl 2 (A.map fK.dat)) v) (hu:av G (.sl 2 (B.map fK.dat)) u) :
  Calls prog 123 #[v,u] w0 (bD w0 G fun r G'=>r=.bool (decide (A=B))):=by
 obtain ⟨vA,vc,rfl,hc1,hc2,hg⟩:=hv.slice;obtain ⟨uA,uc,rfl,hd1,hd2,hh⟩:=hu.slice;have hml:maxLen=9223372036854775807:=rfl;(iterate 2 rw [bO] at *);refine eN [(0,_),(1,_)] func123 rfl ntmps123 rfl rfl hG ?_;refine goB 11 ?_ ?_
 ·intro nk
  refine aP 3 ?_;exact (dD (jA fun e=>absurd (aB List.length e) (by omega)).symm)
 intro nk
 refine ak 8 ?_;intro a H;refine eO (ι:=Nat × GH) (Tc:=[(0,_),(1,_),(12,_)]) (Lc:=[]) (fun gh=>[(13,vi gh.1)]) (fun gh=>[]) (fun gh=>gh.2) (fun gh=>gh.1≤A.length∧A.take gh.1=B.take gh.1∧(∀ b o,G b=some o→gh.2 b=some o)) (fun gh=>A.length - gh.1) ((0,G)) sB ?_ ?_
 ·exact ⟨by omega,rfl,fun _ _ h=>h⟩
 clear H;rintro ⟨k,g⟩ a w hI H;dsimp only at hI H;obtain ⟨hk,hsame,hgm⟩:=hI;dsimp only [lca,aR] at H;refine dN 4 H ?_ ?_ <;> clear H
 ·intro qg
  have hk2:k < A.length:=by omega
  have hk3:k < B.length:=by omega
  obtain ⟨b1,o1,cs1,rfl,XQ,Eh,hr1⟩:=hg k A[k].dat (by simp [hk2]);obtain rfl:=Tz hr1;obtain ⟨b2,o2,cs2,rfl,XR,hrow2,hr2⟩:=hh k B[k].dat (by simp [hk3]);obtain rfl:=Tz hr2;refine ak 8 ?_;intro a H;refine dI hmx [[],[],[0,1],[0,1,2],[],[],[4,5],[4,5,6],(ra 0 8)] [] (by kernel_rfl) [_,_,_,.agg A[k].cells.toArray,_,_,_,.agg B[k].cells.toArray,.bool (!decide (A[k]=B[k]))] H (aC (Z0 rfl (Rm rfl)) (Z0 rfl (Rm rfl)) (Z2 0 16 1 17 rfl (Ri vJ pF rfl rfl)) ?_ (aC (Z0 rfl (Rm rfl)) (Z0 rfl (Rm rfl)) (Z2 4 20 5 21 rfl (Ri vJ pF rfl rfl)) ?_ (bL ?_ dw))) ?_
  ·refine dJ 2 18 rfl rfl fun _ a w G1 hG HT H fin=>?_;refine bg pF (cs:=A[k].cells) H wn rfl rfl (fun j v hj=>H.hp.aF (aJ hG (aJ hgm (Eh j v hj)))) rfl ?_;clear H;intro a H;exact fin H iJ rfl
  ·refine dJ 6 22 rfl rfl fun _ a w G1 hG HT H fin=>?_;refine bg pF (cs:=B[k].cells) H wn rfl rfl (fun j v hj=>H.hp.aF (aJ hG (aJ hgm (hrow2 j v hj)))) rfl ?_;clear H;intro a H;exact fin H iJ rfl
  ·refine dL 3 19 7 23 rfl rfl fun _ a w G1 hG HT H fin=>?_;refine TN (.inr rfl) agM H wn rfl rfl rfl rfl ?_;clear H;intro a H;exact fin H iJ (dD (aly A[k] B[k]))
  clear H;intro a w G iZ H hv;have H:=H.aO (hv 8 24 rfl rfl) rfl;clear hv;refine t0 1 H ?_;clear H;refine goC 0 ?_ ?_
  ·intro nK
   refine aP 3 ?_;exact (dD (jA fun e=>absurd nK (by subst e;simp)).symm)
  intro nK
  try have kQ:=dF nK
  have hsm:A[k]=B[k]:=by simpa using nK
  refine ak 4 ?_;intro a H;refine aG ?_;refine dH ((k+1,G)) sB ?_ ?_
  ·(try dsimp only);exact ⟨by omega,by rw [gN hk2,gN hk3,hsame,hsm],fun b o h=>iZ b o (hgm b o h)⟩
  first|omega|(dsimp only;omega)
 intro qg
 refine aP 4 ?_;exact (dD (iE (by rw [jh (by omega),jh (by omega)] at hsame;exact hsame)).symm)
theorem agG (G:GH) (w0:World) (hG:Hold G w0) (A B:List iB) (v u:aj) (hv:av G (.sl 2 (A.map iB.dat)) v) (hu:av G (.sl 2 (B.map iB.dat)) u) :
  Calls prog 124 #[v,u] w0 (bD w0 G fun r G'=>r=.bool (decide (A=B))):=by
 obtain ⟨vA,vc,rfl,hc1,hc2,hg⟩:=hv.slice;obtain ⟨uA,uc,rfl,hd1,hd2,hh⟩:=hu.slice;have hml:maxLen=9223372036854775807:=rfl;(iterate 2 rw [bO] at *);refine eN [(0,_),(1,_)] func124 rfl ntmps124 rfl rfl hG ?_;refine goB 11 ?_ ?_
 ·intro nk
  refine aP 3 ?_;exact (dD (jA fun e=>absurd (aB List.length e) (by omega)).symm)
 intro nk
 refine ak 8 ?_;intro a H;refine eO (ι:=Nat × GH) (Tc:=[(0,_),(1,_),(12,_)]) (Lc:=[]) (fun gh=>[(13,vi gh.1)]) (fun gh=>[]) (fun gh=>gh.2) (fun gh=>gh.1≤A.length∧A.take gh.1=B.take gh.1∧(∀ b o,G b=some o→gh.2 b=some o)) (fun gh=>A.length - gh.1) ((0,G)) sB ?_ ?_
 ·exact ⟨by omega,rfl,fun _ _ h=>h⟩
 clear H;rintro ⟨k,g⟩ a w hI H;dsimp only at hI H;obtain ⟨hk,hsame,hgm⟩:=hI;dsimp only [lca,aR] at H;refine dN 4 H ?_ ?_ <;> clear H
 ·intro qg
  have hk2:k < A.length:=by omega
  have hk3:k < B.length:=by omega
  obtain ⟨b1,o1,cs1,rfl,XQ,Eh,hr1⟩:=hg k A[k].dat (by simp [hk2]);obtain rfl:=Pm hr1;obtain ⟨b2,o2,cs2,rfl,XR,hrow2,hr2⟩:=hh k B[k].dat (by simp [hk3]);obtain rfl:=Pm hr2;refine ak 8 ?_;intro a H;refine dI hmx [[],[],[0,1],[0,1,2],[],[],[4,5],[4,5,6],(ra 0 8)] [] (by kernel_rfl) [_,_,_,.agg A[k].cells.toArray,_,_,_,.agg B[k].cells.toArray,.bool (!decide (A[k]=B[k]))] H (aC (Z0 rfl (Rm rfl)) (Z0 rfl (Rm rfl)) (Z2 0 16 1 17 rfl (Ri xP tX rfl rfl)) ?_ (aC (Z0 rfl (Rm rfl)) (Z0 rfl (Rm rfl)) (Z2 4 20 5 21 rfl (Ri xP tX rfl rfl)) ?_ (bL ?_ dw))) ?_
  ·refine dJ 2 18 rfl rfl fun _ a w G1 hG HT H fin=>?_;refine bg tX (cs:=A[k].cells) H wn rfl rfl (fun j v hj=>H.hp.aF (aJ hG (aJ hgm (Eh j v hj)))) rfl ?_;clear H;intro a H;exact fin H iJ rfl
  ·refine dJ 6 22 rfl rfl fun _ a w G1 hG HT H fin=>?_;refine bg tX (cs:=B[k].cells) H wn rfl rfl (fun j v hj=>H.hp.aF (aJ hG (aJ hgm (hrow2 j v hj)))) rfl ?_;clear H;intro a H;exact fin H iJ rfl
  ·refine dL 3 19 7 23 rfl rfl fun _ a w G1 hG HT H fin=>?_;refine TN (.inr rfl) agK H wn rfl rfl rfl rfl ?_;clear H;intro a H;exact fin H iJ (dD (alv A[k] B[k]))
  clear H;intro a w G iZ H hv;have H:=H.aO (hv 8 24 rfl rfl) rfl;clear hv;refine t0 1 H ?_;clear H;refine goC 0 ?_ ?_
  ·intro nK
   refine aP 3 ?_;exact (dD (jA fun e=>absurd nK (by subst e;simp)).symm)
  intro nK
  try have kQ:=dF nK
  have hsm:A[k]=B[k]:=by simpa using nK
  refine ak 4 ?_;intro a H;refine aG ?_;refine dH ((k+1,G)) sB ?_ ?_
  ·(try dsimp only);exact ⟨by omega,by rw [gN hk2,gN hk3,hsame,hsm],fun b o h=>iZ b o (hgm b o h)⟩
  first|omega|(dsimp only;omega)
 intro qg
 refine aP 4 ?_;exact (dD (iE (by rw [jh (by omega),jh (by omega)] at hsame;exact hsame)).symm)
theorem agH (G:GH) (w0:World) (hG:Hold G w0) (A B:List gU) (v u:aj) (hv:av G (.sl 4 (A.map gU.dat)) v) (hu:av G (.sl 4 (B.map gU.dat)) u) :
  Calls prog 125 #[v,u] w0 (bD w0 G fun r G'=>r=.bool (decide (A=B))):=by
 obtain ⟨vA,vc,rfl,hc1,hc2,hg⟩:=hv.slice;obtain ⟨uA,uc,rfl,hd1,hd2,hh⟩:=hu.slice;have hml:maxLen=9223372036854775807:=rfl;(iterate 2 rw [bO] at *);refine eN [(0,_),(1,_)] func125 rfl ntmps125 rfl rfl hG ?_;refine goB 11 ?_ ?_
 ·intro nk
  refine aP 3 ?_;exact (dD (jA fun e=>absurd (aB List.length e) (by omega)).symm)
 intro nk
 refine ak 8 ?_;intro a H;refine eO (ι:=Nat × GH) (Tc:=[(0,_),(1,_),(12,_)]) (Lc:=[]) (fun gh=>[(13,vi gh.1)]) (fun gh=>[]) (fun gh=>gh.2) (fun gh=>gh.1≤A.length∧A.take gh.1=B.take gh.1∧(∀ b o,G b=some o→gh.2 b=some o)) (fun gh=>A.length - gh.1) ((0,G)) sB ?_ ?_
 ·exact ⟨by omega,rfl,fun _ _ h=>h⟩
 clear H;rintro ⟨k,g⟩ a w hI H;dsimp only at hI H;obtain ⟨hk,hsame,hgm⟩:=hI;dsimp only [lca,aR] at H;refine dN 4 H ?_ ?_ <;> clear H
 ·intro qg
  have hk2:k < A.length:=by omega
  have hk3:k < B.length:=by omega
  obtain ⟨b1,o1,cs1,rfl,XQ,Eh,hr1⟩:=hg k A[k].dat (by simp [hk2]);obtain rfl:=SA hr1;obtain ⟨b2,o2,cs2,rfl,XR,hrow2,hr2⟩:=hh k B[k].dat (by simp [hk3]);obtain rfl:=SA hr2;refine ak 8 ?_;intro a H;refine dI hmx [[],[],[0,1],[0,1,2],[],[],[4,5],[4,5,6],(ra 0 8)] [] (by kernel_rfl) [_,_,_,.agg A[k].cells.toArray,_,_,_,.agg B[k].cells.toArray,.bool (!decide (A[k]=B[k]))] H (aC (Z0 rfl (Rm rfl)) (Z0 rfl (Rm rfl)) (Z2 0 16 1 17 rfl (Ri xQ tY rfl rfl)) ?_ (aC (Z0 rfl (Rm rfl)) (Z0 rfl (Rm rfl)) (Z2 4 20 5 21 rfl (Ri xQ tY rfl rfl)) ?_ (bL ?_ dw))) ?_
  ·refine dJ 2 18 rfl rfl fun _ a w G1 hG HT H fin=>?_;refine bg tY (cs:=A[k].cells) H wn rfl rfl (fun j v hj=>H.hp.aF (aJ hG (aJ hgm (Eh j v hj)))) rfl ?_;clear H;intro a H;exact fin H iJ rfl
  ·refine dJ 6 22 rfl rfl fun _ a w G1 hG HT H fin=>?_;refine bg tY (cs:=B[k].cells) H wn rfl rfl (fun j v hj=>H.hp.aF (aJ hG (aJ hgm (hrow2 j v hj)))) rfl ?_;clear H;intro a H;exact fin H iJ rfl
  ·refine dL 3 19 7 23 rfl rfl fun _ a w G1 hG HT H fin=>?_;refine TN (.inr rfl) agL H wn rfl rfl rfl rfl ?_;clear H;intro a H;exact fin H iJ (dD (alx A[k] B[k]))
  clear H;intro a w G iZ H hv;have H:=H.aO (hv 8 24 rfl rfl) rfl;clear hv;refine t0 1 H ?_;clear H;refine goC 0 ?_ ?_
  ·intro nK
   refine aP 3 ?_;exact (dD (jA fun e=>absurd nK (by subst e;simp)).symm)
  intro nK
  try have kQ:=dF nK
  have hsm:A[k]=B[k]:=by simpa using nK
  refine ak 4 ?_;intro a H;refine aG ?_;refine dH ((k+1,G)) sB ?_ ?_
  ·(try dsimp only);exact ⟨by omega,by rw [gN hk2,gN hk3,hsame,hsm],fun b o h=>iZ b o (hgm b o h)⟩
  first|omega|(dsimp only;omega)
 intro qg
 refine aP 4 ?_;exact (dD (iE (by rw [jh (by omega),jh (by omega)] at hsame;exact hsame)).symm)
theorem dh.eq_iff (a b:dh):(((a.props=b.props∧a.marks.ins=b.marks.ins)∧a.marks.move=b.marks.move)∧a.marks.bU=b.marks.bU)∧a.marks.layers=b.marks.layers↔a=b:=by
 obtain ⟨p,i,m,d,l⟩:=a;obtain ⟨p2,i2,m2,d2,l2⟩:=b
 simp [and_assoc]
instance:DecidableEq dh:=fun a b=>decidable_of_iff _ (dh.eq_iff a b)
abbrev sZ (h:dh) (p d l:aj):aj:=.agg #[p,vi h.marks.ins,vi h.marks.move,d,l]
theorem Xd (G:GH) (w0:World) (hG:Hold G w0) (x y:dh) (p d l p2 d2 l2:aj) (hx:gG G x p d l) (hy:gG G y p2 d2 l2) :
  Calls prog 69 #[sZ x p d l,sZ y p2 d2 l2] w0 (bD w0 G fun r G'=>r=.bool (decide (x=y))):=by
 obtain ⟨pA,pc,rfl,-,-,-⟩:=hx.props.slice;obtain ⟨dA,dc,rfl,-,-,-⟩:=hx.bU.slice;obtain ⟨lA,lc,rfl,-,-,-⟩:=hx.layers.slice;obtain ⟨pA2,pc2,rfl,-,-,-⟩:=hy.props.slice;obtain ⟨dA2,dc2,rfl,-,-,-⟩:=hy.bU.slice;obtain ⟨lA2,lc2,rfl,-,-,-⟩:=hy.layers.slice;have he:=dh.eq_iff x y;refine eN [(0,_),(1,_)] func69 rfl ntmps69 rfl rfl hG ?_;refine ak 1 ?_;intro a H;refine dU (cs:=[_,_,_,_,_]) H wn rfl rfl rfl ?_;clear H;intro b2 a w hb2 H;refine dU (cs:=[_,_,_,_,_]) H wn rfl rfl rfl ?_;clear H;intro b3 a w hb3 H;refine aH 7 H ?_;clear H;intro a H;refine s_call aeO H wn rfl (agI _ _ H.ro x.props y.props _ _ hx.props hy.props) rfl ?_;clear H;rintro v9 G9 a w rfl wB H;refine rJ 1 10 H ?_ ?_ <;> clear H
 ·intro nk
  refine kT 9 19 ?_ ?_
  ·intro tL
   refine jE 9 28 ?_ ?_
   ·intro Cr
    try have p28:=dT Cr
    refine ak 6 ?_;intro a H;refine s_call aeP H (wg H rfl rfl Cr) rfl (agG _ _ H.ro x.marks.bU y.marks.bU _ _ (hx.bU.mono wB) (hy.bU.mono wB)) rfl ?_;clear H;rintro v35 U9 a w rfl X9 H;refine nJ 2 37 H ?_ ?_ <;> clear H
    ·intro h37
     try have p37:=dT h37
     refine ak 6 ?_;intro a H;refine s_call aeQ H (wg H rfl rfl h37) rfl (agH _ _ H.ro x.marks.layers y.marks.layers _ _ ((hx.layers.mono wB).mono X9) ((hy.layers.mono wB).mono X9)) rfl ?_;clear H;rintro v44 JY a w rfl RB H;refine gH 3 H ?_;exact (dD (by simp_all))
    intro h37
    try have p37:=dF h37
    refine aP 10 ?_;exact (dD (by simp_all))
   intro Cr
   try have p28:=dF Cr
   refine aP 19 ?_;exact (dD (by simp_all))
  intro tL
  refine aP 28 ?_;exact (dD (by simp_all))
 intro nk
 refine aP 37 ?_;exact (dD (by simp_all))
end
section
open Go.RowKit
instance agU:dB prog 117 0 0:=⟨by kernel_rfl⟩
instance Ci:dB prog 117 1 1:=⟨by kernel_rfl⟩
instance:dB prog 117 3 3:=⟨by kernel_rfl⟩
instance KN:dB prog 117 2 2:=⟨by kernel_rfl⟩
theorem Pv:∀ args w,(callFunc 135 args).run prog w=.ok (.enter 135 args) w:=enters func135 rfl (by kernel_rfl)
variable {us:List Int}
structure bK where
 st:List bM
 kC:List Int
 jX:List Int
 us:List Int
abbrev aU (us:List Int) (st:List bM) (li:List dW) (rv:List bQ):bK:=⟨st,li.map dW.id,rv.map bQ.id,us⟩
theorem Sz {G:GH} {l:List gU} {A:Option Addr} {n c k:Nat} (hv:av G (.sl 4 (l.map gU.dat)) (.slice A n c)) (hk:k < l.length):∃ b o,A=some ⟨b,o,none⟩∧(∀ j u,l[k].cells[j]?=some u→aF G b (o+k*4+j)=some u):=by
 obtain ⟨A',c',he,_,_,hg⟩:=hv.slice
 injection he with e1 e2 e3
 subst e1;obtain ⟨b,o,cs,h1,h2,h3,h4⟩:=hg k l[k].dat (by simp [hk]);have:=SA h4;subst this;exact ⟨b,o,h1,h3⟩
theorem Pk {G:GH} {l:List iB} {A:Option Addr} {n c k:Nat} (hv:av G (.sl 2 (l.map iB.dat)) (.slice A n c)) (hk:k < l.length):∃ b o,A=some ⟨b,o,none⟩∧(∀ j u,l[k].cells[j]?=some u→aF G b (o+k*2+j)=some u):=by
 obtain ⟨A',c',he,_,_,hg⟩:=hv.slice
 injection he with e1 e2 e3
 subst e1;obtain ⟨b,o,cs,h1,h2,h3,h4⟩:=hg k l[k].dat (by simp [hk]);have:=Pm h4;subst this;exact ⟨b,o,h1,h3⟩
def yM (C:bK) (e:Int) (k:Nat) (x:gU) (pk:Int):Int :=
 if x.rev∉C.jX then 22 else if zw e x.key=false then 4 else if 0 < k∧x.key < pk then 6 else if x.had=false then bW (decide (x.before≠0)) 21 else dz [uP x.key x.before,nT C.st C.kC x.key x.before]
def yL (C:bK) (e:Int) (l:List gU) (k:Nat):Int:=match l[k]? with|some x=>yM C e k x ((l[k - 1]?.map gU.key).getD 0)|none=>0
theorem akR (G:GH) (w0:World) (hG:Hold G w0) (st:List bM) (li:List dW) (rv:List bQ) (b ms ml mr mb mu:Nat) (n:Int) (hck:uw us G st li rv ms ml mr mu) (hb:G b=some (fF b ms ml mr mb mu n).2)
  (e:Int) (l:List gU) (v:aj) (hv:av G (.sl 4 (l.map gU.dat)) v) (k:Nat) (hk:k < l.length) :
  Calls prog 137 #[(aD b 0),vi e,v,vi k] w0 (bD w0 G fun u G'=>u=vi (yL (aU us st li rv) e l k)):=by
 have hc2:aF G b 2=some (.map (some mr)):=by unfold aF;rw [hb];rfl
 obtain ⟨A,c,rfl,hl1,hl2,-⟩:=hv.slice;have hml:maxLen=9223372036854775807:=rfl;rw [bO] at *;obtain ⟨xb,xo,rfl,hrow⟩:=Sz hv hk
 have hk1:k - 1 < l.length:=by omega
 obtain ⟨b',o',he',hrow'⟩:=Sz hv hk1
 injection he' with he'
 injection he' with e1 e2
 subst e1;subst e2
 have he:yL (aU us st li rv) e l k=yM (aU us st li rv) e k l[k] l[k - 1].key:=by unfold yL;rw [dY hk,dY hk1];rfl
 obtain ⟨x,hx⟩:∃ x,x=l[k]:=⟨_,rfl⟩;obtain ⟨y,hy⟩:∃ y,y=l[k - 1]:=⟨_,rfl⟩;rw [← hx] at hrow he;rw [← hy] at hrow' he;have hq:=hrow' 1 _ rfl;refine eN [(0,_),(1,_),(2,_),(3,_)] func137 rfl ntmps137 rfl rfl hG ?_;refine ak 7 ?_;intro a H;refine bg tY (cs:=x.cells) H wn rfl rfl (fun j v hj=>H.hp.aF (hrow j v hj)) rfl ?_;clear H;intro a H;refine dx tY H wn rfl ?_;clear H;intro b9 a w sW H;refine aV tY 0 (vs:=[_,_,_,_]) _ H wn rfl rfl rfl rfl rfl rfl rfl rfl ?_;clear H;intro w H;dsimp only [List.set,setRow] at H;refine aH 4 H ?_;clear H;intro a H;refine dI hmx [[],[0],[0,1],[0,1,2],[],[4],(ra 0 6),(ra 0 7),(ra 0 8)] [8] (by kernel_rfl) [_,_,_,_,_,vi x.rev,.bool (decide (x.rev∈rv.map bQ.id)),_] H (aC (Z0 rfl (Rm rfl)) (Z1 0 15 rfl (Rk rfl)) (Z1 1 16 rfl (Rf Iw rfl)) (X1 2 17 rfl fun hG=>Rg Dg rfl (aJ hG hc2)) (aC (Z0 rfl (Rf agU rfl)) (Z1 4 19 rfl (Ro bH 0 rfl)) ?_ (Z1 6 21 rfl (Rn rfl)) (bL (bP rfl) dw))) ?_
 ·refine dL 3 18 5 20 rfl rfl fun _ a w G1 hG HT H fin=>?_;refine yR (zv:=.bool false) uf jJ (by kernel_rfl) H wn rfl rfl (H.ro _ _ (hG _ _ hck.rev)) rfl ?_;clear H;intro a H;rw [CP] at H;exact fin H iJ rfl
 clear H;intro a w G AQ H hv;have H:=H.aO (hv 7 22 rfl rfl) rfl;clear hv;refine t1 2 H ?_;clear H;refine goB 0 ?_ ?_
 ·intro qg
  refine aP 3 ?_;rw [he];refine aB vi ?_;clear he hrow hrow' hq hx hy;unfold yM;(repeat' split) <;> first|rfl|(simp_all;done)|(exfalso;simp_all;done)
 intro qg
 refine ak 4 ?_;intro a H;refine s_call Xc H wn rfl (VJ (Xr _ _ H.ro e x.key)) rfl ?_;clear H;rintro v27 _ a w ⟨⟨_,rfl⟩,rfl⟩ - H;refine gW 3 H ?_ ?_ <;> clear H
 ·intro wJ
  refine aP 3 ?_;rw [he];refine aB vi ?_;clear he hrow hrow' hq hx hy;unfold yM;(repeat' split) <;> first|rfl|(simp_all;done)|(exfalso;simp_all;done)
 intro wJ
 refine ak 1 ?_;replace hq:=aJ AQ hq
 intro a H;by_cases c0:0 < (k:Int)
 ·skip
  by_cases c1:x.key < y.key
  ·refine dI hmx [[],[0],[0,1],[0,1,2],(ra 0 4),[0,1,2],[0,1,2],[0,1,2,6],[0,1,2,5,6,7],[0,1,2,5,6,7,8],[0,1,2,5,6,7,8,9],(ra 0 11),(ra 0 12),(ra 0 13)] [13] (by kernel_rfl) [_,_,_,_,vi x.key,_,_,vi ((k - 1:Nat):Int),_,_,_,_,_] H (aC (Z0 rfl (Rm rfl)) (Z1 0 30 rfl (Rc rfl)) (Z1 1 31 rfl (Rm rfl)) (Z1 2 32 rfl (YF Ci (aI c0) rfl)) (aC (Z2 3 33 2 32 rfl (YO bH 0 (aI c0) rfl)) (Z1 2 32 rfl (YM (aI c0) rfl)) (Z1 2 32 rfl (YM (aI c0) rfl)) ?_ (aC (Z3 5 35 7 37 2 32 rfl (YI xQ tY (aI c0) rfl rfl)) (Z2 8 38 2 32 rfl (YF Ci (aI c0) rfl)) (X2 9 39 2 32 rfl fun hG=>YR bH (aI c0) rfl (aJ hG hq)) (Z3 4 34 10 40 2 32 rfl (YC (aI c0) rfl)) (bL (Z2 2 32 11 41 rfl (Pt (aI c0) rfl)) (bL (bP rfl) dw))))) ?_
   ·refine dL 6 36 2 32 rfl rfl fun _ a w G1 hG HT H fin=>?_;refine lJ _ H (wg H rfl rfl (aI c0)) rfl rfl rfl (by omega) (by omega) rfl ?_;clear H;intro a H;exact fin H iJ (by show _=_;first|rfl|exact aB vi (by omega))
   clear H;intro a w G iZ H hv;have H:=H.aO (hv 12 42 rfl rfl) rfl;clear hv;refine t1 3 H ?_;clear H;have hz:0 < k∧x.key < y.key:=⟨by omega,c1⟩;refine aP 3 ?_;rw [he];refine aB vi ?_;clear he hrow hrow' hq hx hy;unfold yM;(repeat' split) <;> first|rfl|(simp_all;done)|(exfalso;simp_all;done)
  refine dI hmx [[],[0],[0,1],[0,1,2],(ra 0 4),[0,1,2],[0,1,2],[0,1,2,6],[0,1,2,5,6,7],[0,1,2,5,6,7,8],[0,1,2,5,6,7,8,9],(ra 0 11),(ra 0 12),(ra 0 13)] [13] (by kernel_rfl) [_,_,_,_,vi x.key,_,_,vi ((k - 1:Nat):Int),_,_,_,_,_] H (aC (Z0 rfl (Rm rfl)) (Z1 0 30 rfl (Rc rfl)) (Z1 1 31 rfl (Rm rfl)) (Z1 2 32 rfl (YF Ci (aI c0) rfl)) (aC (Z2 3 33 2 32 rfl (YO bH 0 (aI c0) rfl)) (Z1 2 32 rfl (YM (aI c0) rfl)) (Z1 2 32 rfl (YM (aI c0) rfl)) ?_ (aC (Z3 5 35 7 37 2 32 rfl (YI xQ tY (aI c0) rfl rfl)) (Z2 8 38 2 32 rfl (YF Ci (aI c0) rfl)) (X2 9 39 2 32 rfl fun hG=>YR bH (aI c0) rfl (aJ hG hq)) (Z3 4 34 10 40 2 32 rfl (YC (aI c0) rfl)) (bL (Z2 2 32 11 41 rfl (Pt (aI c0) rfl)) (bL (bP rfl) dw))))) ?_
  ·refine dL 6 36 2 32 rfl rfl fun _ a w G1 hG HT H fin=>?_;refine lJ _ H (wg H rfl rfl (aI c0)) rfl rfl rfl (by omega) (by omega) rfl ?_;clear H;intro a H;exact fin H iJ (by show _=_;first|rfl|exact aB vi (by omega))
  clear H;intro a w G iZ H hv;have H:=H.aO (hv 12 42 rfl rfl) rfl;clear hv;refine t1 3 H ?_;clear H
  have hz:¬ (0 < k∧x.key < y.key):=by first|exact fun h=>c1 h.2|exact fun h=>c0 (by omega)
  refine goB 6 ?_ ?_
  ·intro p43
   refine ak 4 ?_;intro a H;refine s_call iR H wn rfl (iW _ _ H.ro _ 21) rfl ?_;clear H;rintro v50 _ a w ⟨rfl,rfl⟩ - H;refine gH 2 H ?_;rw [he];refine aB vi ?_;clear he hrow hrow' hq hx hy;unfold yM;(repeat' split) <;> first|rfl|(simp_all;done)|(exfalso;simp_all;done)
  intro p43
  refine ak 2 ?_;replace hck:=(hck.mono AQ).mono iZ;replace hb:=iZ _ _ (AQ _ _ hb);intro a H;refine dI hmx [[],[0],[],[2],(ra 0 4),[],[],[6],[],[8],(ra 0 10),(ra 0 11),(ra 0 12),(ra 0 13)] [11,12,13] (by kernel_rfl) [_,vi x.key,_,vi x.before,vi (uP x.key x.before),_,_,vi x.key,_,vi x.before,vi (nT st (li.map dW.id) x.key x.before)] H (aC (Z0 rfl (Rf Ci rfl)) (Z1 0 51 rfl (Ro bH 0 rfl)) (Z0 rfl (Rf KN rfl)) (Z1 2 53 rfl (Ro bH 0 rfl)) (aC ?_ (Z0 rfl (Rm rfl)) (Z0 rfl (Rf Ci rfl)) (Z1 6 57 rfl (Ro bH 0 rfl)) (aC (Z0 rfl (Rf KN rfl)) (Z1 8 59 rfl (Ro bH 0 rfl)) ?_ (bP rfl) (bL (bP rfl) (bL (bP rfl) dw))))) ?_
  ·refine dL 1 52 3 54 rfl rfl fun _ a w G1 hG HT H fin=>?_;refine s_call P6 H wn rfl (OX _ _ H.ro x.key x.before) rfl ?_;clear H;rintro v55 He a w rfl QD H;exact fin H QD (rfl)
  ·refine wU 5 56 7 58 9 60 rfl rfl fun _ a w G1 hG HT H fin=>?_;refine s_call Pv H wn rfl (O1 _ _ H.ro st li rv b ms ml mr mb mu n x.key x.before (hck.mono hG) (hG _ _ hb)) rfl ?_;clear H;rintro v61 G61 a w ⟨rfl,-⟩ QE H;exact fin H QE (rfl)
  clear H;intro a w G oI H hv;have H:=H.aO (hv 4 55 rfl rfl) rfl;have H:=H.aO (hv 10 61 rfl rfl) rfl;clear hv;refine gK pI gF [_,_] [_,_] H wn rfl rfl rfl rfl rfl (by intro i q h;match i,h with|0,h=>exact h|1,h=>exact h|n+2,h=>simp at h) rfl rfl ?_;clear H;intro VI a w aiz H;obtain ⟨Vf,I5,QW,H⟩:=H.dP;refine s_call pV H wn rfl (pW _ _ H.ro _ _ (xM QW)) rfl ?_;clear H;rintro v63 _ a w ⟨rfl,rfl⟩ - H;refine kH H (Ra rfl ?_);clear H;intro a H;refine aG ⟨rfl,?_⟩;refine dG ?_;refine uU 0 H ?_;rw [he];refine aB vi ?_;clear he hrow hrow' hq hx hy;unfold yM;(repeat' split) <;> first|rfl|(simp_all;done)|(exfalso;simp_all;done)
 refine dI hmx [[],[0],[0,1],[0,1,2],(ra 0 4),[0,1,2],[0,1,2],[0,1,2,6],[0,1,2,5,6,7],[0,1,2,5,6,7,8],[0,1,2,5,6,7,8,9],(ra 0 11),(ra 0 12),(ra 0 13)] [13] (by kernel_rfl) [_,_,_,undef,undef,undef,undef,undef,undef,undef,undef,undef,_] H (aC (Z0 rfl (Rm rfl)) (Z1 0 30 rfl (Rc rfl)) (Z1 1 31 rfl (Rm rfl)) (aQ 2 (aY c0) rfl rfl) (aC (aQ 2 (aY c0) rfl rfl) (aQ 2 (aY c0) rfl rfl) (aQ 2 (aY c0) rfl rfl) (aQ 2 (aY c0) rfl rfl) (aC (aQ 2 (aY c0) rfl rfl) (aQ 2 (aY c0) rfl rfl) (aQ 2 (aY c0) rfl rfl) (aQ 2 (aY c0) rfl rfl) (bL (Z2 2 32 11 41 rfl (Pf (aY c0) rfl)) (bL (bP rfl) dw))))) ?_
 clear H;intro a w G iZ H hv;have H:=H.aO (hv 12 42 rfl rfl) rfl;clear hv;refine t1 3 H ?_;clear H
 have hz:¬ (0 < k∧x.key < y.key):=by first|exact fun h=>c1 h.2|exact fun h=>c0 (by omega)
 refine goB 6 ?_ ?_
 ·intro p43
  refine ak 4 ?_;intro a H;refine s_call iR H wn rfl (iW _ _ H.ro _ 21) rfl ?_;clear H;rintro v50 _ a w ⟨rfl,rfl⟩ - H;refine gH 2 H ?_;rw [he];refine aB vi ?_;clear he hrow hrow' hq hx hy;unfold yM;(repeat' split) <;> first|rfl|(simp_all;done)|(exfalso;simp_all;done)
 intro p43
 refine ak 2 ?_;replace hck:=(hck.mono AQ).mono iZ;replace hb:=iZ _ _ (AQ _ _ hb);intro a H;refine dI hmx [[],[0],[],[2],(ra 0 4),[],[],[6],[],[8],(ra 0 10),(ra 0 11),(ra 0 12),(ra 0 13)] [11,12,13] (by kernel_rfl) [_,vi x.key,_,vi x.before,vi (uP x.key x.before),_,_,vi x.key,_,vi x.before,vi (nT st (li.map dW.id) x.key x.before)] H (aC (Z0 rfl (Rf Ci rfl)) (Z1 0 51 rfl (Ro bH 0 rfl)) (Z0 rfl (Rf KN rfl)) (Z1 2 53 rfl (Ro bH 0 rfl)) (aC ?_ (Z0 rfl (Rm rfl)) (Z0 rfl (Rf Ci rfl)) (Z1 6 57 rfl (Ro bH 0 rfl)) (aC (Z0 rfl (Rf KN rfl)) (Z1 8 59 rfl (Ro bH 0 rfl)) ?_ (bP rfl) (bL (bP rfl) (bL (bP rfl) dw))))) ?_
 ·refine dL 1 52 3 54 rfl rfl fun _ a w G1 hG HT H fin=>?_;refine s_call P6 H wn rfl (OX _ _ H.ro x.key x.before) rfl ?_;clear H;rintro v55 He a w rfl QD H;exact fin H QD (rfl)
 ·refine wU 5 56 7 58 9 60 rfl rfl fun _ a w G1 hG HT H fin=>?_;refine s_call Pv H wn rfl (O1 _ _ H.ro st li rv b ms ml mr mb mu n x.key x.before (hck.mono hG) (hG _ _ hb)) rfl ?_;clear H;rintro v61 G61 a w ⟨rfl,-⟩ QE H;exact fin H QE (rfl)
 clear H;intro a w G oI H hv;have H:=H.aO (hv 4 55 rfl rfl) rfl;have H:=H.aO (hv 10 61 rfl rfl) rfl;clear hv;refine gK pI gF [_,_] [_,_] H wn rfl rfl rfl rfl rfl (by intro i q h;match i,h with|0,h=>exact h|1,h=>exact h|n+2,h=>simp at h) rfl rfl ?_;clear H;intro VI a w aiz H;obtain ⟨Vf,I5,QW,H⟩:=H.dP;refine s_call pV H wn rfl (pW _ _ H.ro _ _ (xM QW)) rfl ?_;clear H;rintro v63 _ a w ⟨rfl,rfl⟩ - H;refine kH H (Ra rfl ?_);clear H;intro a H;refine aG ⟨rfl,?_⟩;refine dG ?_;refine uU 0 H ?_;rw [he];refine aB vi ?_;clear he hrow hrow' hq hx hy;unfold yM;(repeat' split) <;> first|rfl|(simp_all;done)|(exfalso;simp_all;done)
end
section
open Go.RowKit
instance NI:Ty prog 93 1 8 [.pointer none] false:=⟨by kernel_rfl,by kernel_rfl⟩
theorem aeX:∀ args w,(callFunc 137 args).run prog w=.ok (.enter 137 args) w:=enters func137 rfl (by kernel_rfl)
instance GA:Ty prog 27 4 64 [.int .i64 0,.int .i64 0,.slice none 0 0,.slice none 0 0] true:=⟨by kernel_rfl,by kernel_rfl⟩
instance Iq:dB prog 115 0 0:=⟨by kernel_rfl⟩
instance:dB prog 115 1 1:=⟨by kernel_rfl⟩
theorem aeW:∀ args w,(callFunc 136 args).run prog w=.ok (.enter 136 args) w:=enters func136 rfl (by kernel_rfl)
variable {us:List Int}
theorem akQ {G:GH} {st:List bM} {li:List dW} {rv:List bQ} {b ms ml mr mb mu:Nat} {n:Int} (hck:uw us G st li rv ms ml mr mu) (hb:G b=some (fF b ms ml mr mb mu n).2)
  {x3 x4 UH:Nat} {e:Int} {l:List gU} {v:aj} (h3:aF G x3 0=some (aD b 0)) (h4:aF G x4 0=some (vi e)) (h11:aF G UH 3=some v) (hv:av G (.sl 4 (l.map gU.dat)) v) :
  qZ (.func (.func 136) #[] #[(aD x3 0),(aD x4 0),(aD UH 0)]) G l.length (yL (aU us st li rv) e l):=by
 intro k hk G1 w0 hm hG;refine jq (caps:=[(aD x3 0),(aD x4 0),(aD UH 0)]) aeW ?_;replace h3:=aJ hm h3;replace h4:=aJ hm h4;replace h11:=aJ hm h11;replace hv:=hv.mono hm;obtain ⟨vA,vn,vc,rfl⟩:=hv.form;refine eN [(0,_),(1,_),(2,_),(3,_)] func136 rfl ntmps136 rfl rfl hG ?_;refine ak 9 ?_;intro a H;refine s_call aeX H wn rfl (akR _ _ H.ro st li rv b ms ml mr mb mu n (hck.mono hm) (hm _ _ hb) e l _ hv k hk) rfl ?_;clear H;rintro v11 qY a w rfl Eb H;refine gH 2 H ?_;exact rfl
def wL (C:bK) (l:List fK):Int:=dz (l.map fun p=>nT C.st C.kC p.key p.value)
def jc (C:bK) (m:wT):Int:=if m.ins≠0∧m.ins∉C.jX then 22 else if ¬ (0≤m.move∧m.move≤1073741824)∨(m.move≠0∧m.ins=0) then 21 else if 16 < (m.bU.length:Int) then 9 else 0
def vU (C:bK) (k:Nat) (x:iB) (pr:Int):Int:=if x.rev∉C.jX then 22 else if 0 < k∧x.rev≤pr then 6 else if ¬ (0≤x.move∧x.move≤1073741824) then 21 else 0
def sI (C:bK) (l:List iB) (k:Nat):Int:=match l[k]? with|some x=>vU C k x ((l[k - 1]?.map iB.rev).getD 0)|none=>0
def fI (C:bK) (e:Int) (h:dh):Int:=dz [fV e h.props,wL C h.props,jc C h.marks,iY (sI C h.marks.bU) h.marks.bU.length,bW (decide (64 < (h.marks.layers.length:Int))) 9,iY (yL C e h.marks.layers) h.marks.layers.length]
theorem aiN {C:bK} {e:Int} {h:dh} (h1:fV e h.props≠0):fI C e h=fV e h.props:=by simp [fI,dz,h1]
theorem aiO {C:bK} {e:Int} {h:dh} (h1:fV e h.props=0) (h2:wL C h.props≠0):fI C e h=wL C h.props:=by simp [fI,dz,h1,h2]
theorem AZ {C:bK} {e:Int} {h:dh} (h1:fV e h.props=0) (h2:wL C h.props=0) (h3:jc C h.marks≠0):fI C e h=jc C h.marks:=by simp [fI,dz,h1,h2,h3]
theorem aiP {C:bK} {e:Int} {h:dh} (h1:fV e h.props=0) (h2:wL C h.props=0) (h3:jc C h.marks=0) (h4:iY (sI C h.marks.bU) h.marks.bU.length≠0):fI C e h=iY (sI C h.marks.bU) h.marks.bU.length:=by simp [fI,dz,h1,h2,h3,h4]
theorem aiQ {C:bK} {e:Int} {h:dh} (h1:fV e h.props=0) (h2:wL C h.props=0) (h3:jc C h.marks=0) (h4:iY (sI C h.marks.bU) h.marks.bU.length=0) (h5:64 < (h.marks.layers.length:Int)):fI C e h=9:=by simp [fI,dz,h1,h2,h3,h4,bW,h5]
theorem aiR {C:bK} {e:Int} {h:dh} (h1:fV e h.props=0) (h2:wL C h.props=0) (h3:jc C h.marks=0) (h4:iY (sI C h.marks.bU) h.marks.bU.length=0) (h5:¬ 64 < (h.marks.layers.length:Int)):fI C e h=iY (yL C e h.marks.layers) h.marks.layers.length:=by simp [fI,dz,h1,h2,h3,h4,bW,h5];exact Eq.symm
theorem aag {C:bK} {l:List fK} {k:Nat} (h:k < l.length):dz ((l.map fun p=>nT C.st C.kC p.key p.value).drop k)=if nT C.st C.kC l[k].key l[k].value≠0 then nT C.st C.kC l[k].key l[k].value else dz ((l.map fun p=>nT C.st C.kC p.key p.value).drop (k+1)):=by
 rw [KR (by simpa using h)];simp
theorem aiT (G:GH) (w0:World) (hG:Hold G w0) (st:List bM) (li:List dW) (rv:List bQ) (b ms ml mr mb mu:Nat) (n:Int) (hck:uw us G st li rv ms ml mr mu) (hb:G b=some (fF b ms ml mr mb mu n).2)
  (e:Int) (h:dh) (p d l:aj) (hh:gG G h p d l) (hz:kZ h≤4294967296) :
  Calls prog 75 #[(aD b 0),vi e,sZ h p d l] w0 (bD w0 G fun u G'=>u=vi (fI (aU us st li rv) e h)):=by
 obtain ⟨pA,pc,rfl,-,-,-⟩:=hh.props.slice;obtain ⟨dA,dc,rfl,-,-,-⟩:=hh.bU.slice;obtain ⟨lA,lc,rfl,-,-,-⟩:=hh.layers.slice;have hml:maxLen=9223372036854775807:=rfl;have hzz:=BI h;have hz1:=kY (h.props.map fK.dat);have hz2:=kY (h.marks.bU.map iB.dat);have hz3:=kY (h.marks.layers.map gU.dat)
 simp only [bO] at hh hz1 hz2 hz3 ⊢
 generalize kZ h=zz at hz hzz
 refine eN [(0,_),(1,_),(2,_)] func75 rfl ntmps75 rfl rfl hG ?_;refine ak 1 ?_;intro a H;refine dU (cs:=[_]) H wn rfl rfl rfl ?_;clear H;intro b3 a w hb3 H;refine dU (cs:=[_]) H wn rfl rfl rfl ?_;clear H;intro b4 a w hb4 H;refine dU (cs:=[_,_,_,_,_]) H wn rfl rfl rfl ?_;clear H;intro b5 a w hb5 H;refine aH 3 H ?_;clear H;intro a H;obtain ⟨Ga5,Mc,xg,H⟩:=H.dP;obtain ⟨Ga4,FQ,wu,H⟩:=H.dP;obtain ⟨Ga,Cz,AY,H⟩:=H.dP;replace xg:=Cz _ _ (FQ _ _ xg);replace wu:=Cz _ _ wu;have hma:∀ b o,G b=some o→Ga b=some o:=fun b o h=>Cz _ _ (FQ _ _ (Mc _ _ h));clear Cz FQ Mc;replace hck:=hck.mono hma;replace hb:=hma _ _ hb;replace hh:=hh.mono hma
 have g3:aF Ga b3 0=some (aD b 0):=by unfold aF;rw [AY];rfl
 have g4:aF Ga b4 0=some (vi e):=by unfold aF;rw [wu];rfl
 have g50:aF Ga b5 0=some (.slice pA h.props.length pc):=by unfold aF;rw [xg];rfl
 have g51:∀ (j:Nat) (u:aj),[vi h.marks.ins,vi h.marks.move,.slice dA h.marks.bU.length dc,.slice lA h.marks.layers.length lc][j]?=some u→aF Ga b5 (1+j)=some u:=by
  intro j u hj
  unfold aF;rw [xg]
  match j,hj with
  | 0,hj=>exact hj
  | 1,hj=>exact hj
  | 2,hj=>exact hj
  | 3,hj=>exact hj
  | n+4,hj=>simp at hj
 have hc2:aF Ga b 2=some (.map (some mr)):=by unfold aF;rw [hb];rfl
 refine eB 4 H ?_;clear H;intro a H;refine s_call Xb H wn rfl (VJ (aac _ _ H.ro e h.props _ hh.props)) rfl ?_;clear H;rintro v17 _ a w ⟨⟨_,rfl⟩,rfl⟩ - H;refine gW 6 H ?_ ?_ <;> clear H
 ·intro tL
  have hE:=aiN (C:=aU us st li rv) (e:=e) (h:=h) tL;refine aP 4 ?_;rw [hE]
 intro tL
 have e1:fV e h.props=0:=by simpa using tL
 refine ak 9 ?_;intro a H;refine eO (ι:=Nat) (Tc:=[(3,_),(4,_),(5,_),(22,_),(23,_)]) (Lc:=[]) (fun gh=>[(24,vi gh)]) (fun gh=>[]) (fun gh=>Ga) (fun gh=>gh≤h.props.length∧dz ((h.props.map fun p=>nT st (li.map dW.id) p.key p.value).drop gh)=wL (aU us st li rv) h.props) (fun gh=>h.props.length - gh) (0) sB ?_ ?_
 ·exact ⟨gV _,rfl⟩
 clear H;intro k a w hI H;obtain ⟨hk,heq⟩:=hI;dsimp only [lca,aR] at H;refine dN 4 H ?_ ?_ <;> clear H
 ·intro p25
  have hk2:k < h.props.length:=by omega
  obtain ⟨xb,xo,rfl,hrow⟩:=Na hh.props hk2;refine ak 5 ?_;intro a H;refine bg pF (cs:=[_,_]) H wn rfl rfl (fun j v hj=>H.hp.aF (hrow j v hj)) rfl ?_;clear H;intro a H;refine dx pF H wn rfl ?_;clear H;intro b9 a w sW H;refine aV pF 0 (vs:=[_,_]) _ H wn rfl rfl rfl rfl rfl rfl rfl rfl ?_;clear H;intro w H;dsimp only [List.set,setRow] at H;refine aH 7 H ?_;clear H;intro a H;refine s_call Pv H wn rfl (O1 _ _ H.ro st li rv b ms ml mr mb mu n h.props[k].key h.props[k].value hck hb) rfl ?_;clear H;rintro v33 _ a w ⟨rfl,rfl⟩ - H;refine gW 6 H ?_ ?_ <;> clear H
  ·intro p35
   have hr:wL (aU us st li rv) h.props=nT st (li.map dW.id) h.props[k].key h.props[k].value:=by rw [← heq];exact (aag (C:=aU us st li rv) hk2).trans (ay p35)
   have hE:=(aiO (C:=aU us st li rv) (e:=e) (h:=h) e1 (by rw [hr];exact p35)).trans hr;refine aP 4 ?_;rw [hE]
  intro p35
  refine ak 4 ?_;intro a H;refine aG ?_;refine dH ((k+1)) (by exact (H.cu (Pl:=[_]) (bS:=[]) [] (by decide) rfl).sub ⟨rfl,rfl,rfl,rfl,rfl,rfl,bB⟩) ?_ ?_
  ·exact ⟨by omega,by rw [aag (C:=aU us st li rv) hk2,ah (by simpa using p35)] at heq;exact heq⟩
  first|omega|(dsimp only;omega)
 intro p25
 refine ak 1 ?_
 have e2:wL (aU us st li rv) h.props=0:=by rw [← heq,fM (by rw [bO];omega)];rfl
 refine ak 2 ?_;intro a H;refine bg GA (cs:=[vi h.marks.ins,vi h.marks.move,.slice dA h.marks.bU.length dc,.slice lA h.marks.layers.length lc]) H wn rfl rfl (fun j v hj=>H.hp.aF (g51 j v hj)) rfl ?_;clear H;intro a H;refine dx GA H wn rfl ?_;clear H;intro b11 a w DZ H;refine aV GA 0 (vs:=[_,_,_,_]) _ H wn rfl rfl rfl rfl rfl rfl rfl rfl ?_;clear H;intro w H;dsimp only [List.set,setRow] at H;obtain ⟨Gb,hmb,FI,H⟩:=H.dP;replace hck:=hck.mono hmb;replace hb:=hmb _ _ hb;replace hh:=hh.mono hmb;replace g3:=aJ hmb g3;replace g4:=aJ hmb g4;replace hc2:=aJ hmb hc2
 have q0:aF Gb b11 0=some (vi h.marks.ins):=by unfold aF;rw [FI];rfl
 have q1:aF Gb b11 1=some (vi h.marks.move):=by unfold aF;rw [FI];rfl
 have q2:aF Gb b11 2=some (.slice dA h.marks.bU.length dc):=by unfold aF;rw [FI];rfl
 have q3:aF Gb b11 3=some (.slice lA h.marks.layers.length lc):=by unfold aF;rw [FI];rfl
 have hcb:=akQ hck hb g3 g4 q3 hh.layers;refine aG ?_;refine dG ?_;refine sH (ι:=GH) (Tc:=[(3,_),(4,_),(11,_)]) (Lc:=[]) (fun gh=>[]) (fun gh=>[]) (fun gh=>gh) (fun gh=>jc (aU us st li rv) h.marks=0∧(∀ b o,Gb b=some o→gh b=some o)) sB ?_ ?_
 ·refine Km ?_;refine FC ?_
  by_cases c0:h.marks.ins≠0
  ·skip
   by_cases c1:h.marks.ins∉rv.map bQ.id
   ·refine dI hmx [[],[0],[0,1],[0,1,2],(ra 0 4),(ra 0 5),(ra 0 6),(ra 0 7),(ra 0 4),[0,1,2,3,8],(ra 0 10),(ra 0 11),(ra 0 12),(ra 0 13)] [13] (by kernel_rfl) [_,_,_,_,_,(aD b 0),_,_,_,_,.bool (decide (h.marks.ins∈rv.map bQ.id)),.bool (decide (h.marks.ins∉rv.map bQ.id)),_] H (aC (Z0 rfl (Rf Ck rfl)) (X1 0 41 rfl fun hG=>Rg bH rfl (aJ hG q0)) (Z1 1 42 rfl (Rc rfl)) (Z1 2 43 rfl (Rm rfl)) (aC (X1 3 44 rfl fun hG=>YR NI (aI c0) rfl (aJ hG g3)) ?_ (Z2 5 46 3 44 rfl (YF Iw (aI c0) rfl)) (X2 6 47 3 44 rfl fun hG=>YR Dg (aI c0) rfl (aJ hG hc2)) (aC (Z1 3 44 rfl (YF Ck (aI c0) rfl)) (X2 8 49 3 44 rfl fun hG=>YR bH (aI c0) rfl (aJ hG q0)) ?_ ?_ (bL (Z2 3 44 11 52 rfl (Pt (aI c0) rfl)) (bL (bP rfl) dw))))) ?_
    ·refine dL 4 45 3 44 rfl rfl fun _ a w G1 hG HT H fin=>?_;refine rT H (wg H rfl rfl (aI c0)) rfl rfl ?_;clear H;intro a H;exact fin H iJ rfl
    ·refine wU 7 48 9 50 3 44 rfl rfl fun _ a w G1 hG HT H fin=>?_;refine yR (zv:=.bool false) uf jJ (by kernel_rfl) H (wg H rfl rfl (aI c0)) rfl rfl (H.ro _ _ (hG _ _ hck.rev)) rfl ?_;clear H;intro a H;rw [CP] at H;exact fin H iJ rfl
    ·refine dL 10 51 3 44 rfl rfl fun _ a w G1 hG HT H fin=>?_;refine aH 1 H ?_;clear H;intro a H;exact fin H iJ (by show _=_;first|rfl|exact dD decide_not.symm)
    clear H;intro a w G mM H hv;have H:=H.aO (hv 12 53 rfl rfl) rfl;clear hv;refine t1 3 H ?_;clear H;have e3:jc (aU us st li rv) h.marks=22:=ay ⟨c0,c1⟩;have hE:=(AZ (C:=aU us st li rv) (e:=e) (h:=h) e1 e2 (by rw [e3];decide)).trans e3;refine aP 3 ?_;rw [hE]
   refine dI hmx [[],[0],[0,1],[0,1,2],(ra 0 4),(ra 0 5),(ra 0 6),(ra 0 7),(ra 0 4),[0,1,2,3,8],(ra 0 10),(ra 0 11),(ra 0 12),(ra 0 13)] [13] (by kernel_rfl) [_,_,_,_,_,(aD b 0),_,_,_,_,.bool (decide (h.marks.ins∈rv.map bQ.id)),.bool (decide (h.marks.ins∉rv.map bQ.id)),_] H (aC (Z0 rfl (Rf Ck rfl)) (X1 0 41 rfl fun hG=>Rg bH rfl (aJ hG q0)) (Z1 1 42 rfl (Rc rfl)) (Z1 2 43 rfl (Rm rfl)) (aC (X1 3 44 rfl fun hG=>YR NI (aI c0) rfl (aJ hG g3)) ?_ (Z2 5 46 3 44 rfl (YF Iw (aI c0) rfl)) (X2 6 47 3 44 rfl fun hG=>YR Dg (aI c0) rfl (aJ hG hc2)) (aC (Z1 3 44 rfl (YF Ck (aI c0) rfl)) (X2 8 49 3 44 rfl fun hG=>YR bH (aI c0) rfl (aJ hG q0)) ?_ ?_ (bL (Z2 3 44 11 52 rfl (Pt (aI c0) rfl)) (bL (bP rfl) dw))))) ?_
   ·refine dL 4 45 3 44 rfl rfl fun _ a w G1 hG HT H fin=>?_;refine rT H (wg H rfl rfl (aI c0)) rfl rfl ?_;clear H;intro a H;exact fin H iJ rfl
   ·refine wU 7 48 9 50 3 44 rfl rfl fun _ a w G1 hG HT H fin=>?_;refine yR (zv:=.bool false) uf jJ (by kernel_rfl) H (wg H rfl rfl (aI c0)) rfl rfl (H.ro _ _ (hG _ _ hck.rev)) rfl ?_;clear H;intro a H;rw [CP] at H;exact fin H iJ rfl
   ·refine dL 10 51 3 44 rfl rfl fun _ a w G1 hG HT H fin=>?_;refine aH 1 H ?_;clear H;intro a H;exact fin H iJ (by show _=_;first|rfl|exact dD decide_not.symm)
   clear H;intro a w G mM H hv;have H:=H.aO (hv 12 53 rfl rfl) rfl;clear hv;refine t1 3 H ?_;clear H
   have hno:¬ (h.marks.ins≠0∧h.marks.ins∉(aU us st li rv).jX):=by first|exact fun h=>c1 h.2|exact fun h=>c0 h.1
   replace q0:=aJ mM q0;replace q1:=aJ mM q1;replace q2:=aJ mM q2;refine ak 3 ?_;intro a H;refine s_call vW H wn rfl (wE _ _ H.ro h.marks.move 0 1073741824) rfl ?_;clear H;rintro v57 _ a w ⟨rfl,rfl⟩ - H;refine rJ 2 59 H ?_ ?_ <;> clear H
   ·intro p59
    refine ak 12 ?_
    have e3:jc (aU us st li rv) h.marks=21:=by unfold jc;rw [ah hno,ay (by first|(simp_all;done)|(simp_all;omega))]
    have hE:=(AZ (C:=aU us st li rv) (e:=e) (h:=h) e1 e2 (by rw [e3];decide)).trans e3;refine aP 3 ?_;rw [hE]
   intro p59
   refine kT 4 63 ?_ ?_
   ·intro p63
    refine goB 7 ?_ ?_
    ·intro p54
     have e3:jc (aU us st li rv) h.marks=21:=by unfold jc;rw [ah hno,ay (by first|(simp_all;done)|(simp_all;omega))]
     have hE:=(AZ (C:=aU us st li rv) (e:=e) (h:=h) e1 e2 (by rw [e3];decide)).trans e3;refine aP 3 ?_;rw [hE]
    intro p54
    have hn2:¬ (¬ (0≤h.marks.move∧h.marks.move≤1073741824)∨(h.marks.move≠0∧h.marks.ins=0)):=by first|(simp_all;done)|(simp_all;omega)
    refine goC 7 ?_ ?_
    ·intro sQ
     have e3:jc (aU us st li rv) h.marks=9:=by unfold jc;rw [ah hno,ah hn2,ay (by simpa using sQ)]
     have hE:=(AZ (C:=aU us st li rv) (e:=e) (h:=h) e1 e2 (by rw [e3];decide)).trans e3;refine aP 3 ?_;rw [hE]
    intro sQ
    have e3:jc (aU us st li rv) h.marks=0:=by unfold jc;rw [ah hno,ah hn2,ah (by simpa using sQ)]
    intro a H;refine ji ?_;refine ⟨_,sB,?_⟩;exact ⟨e3,mM⟩
   intro p63
   refine ak 8 ?_
   have hn2:¬ (¬ (0≤h.marks.move∧h.marks.move≤1073741824)∨(h.marks.move≠0∧h.marks.ins=0)):=by first|(simp_all;done)|(simp_all;omega)
   refine goC 7 ?_ ?_
   ·intro sQ
    have e3:jc (aU us st li rv) h.marks=9:=by unfold jc;rw [ah hno,ah hn2,ay (by simpa using sQ)]
    have hE:=(AZ (C:=aU us st li rv) (e:=e) (h:=h) e1 e2 (by rw [e3];decide)).trans e3;refine aP 3 ?_;rw [hE]
   intro sQ
   have e3:jc (aU us st li rv) h.marks=0:=by unfold jc;rw [ah hno,ah hn2,ah (by simpa using sQ)]
   intro a H;refine ji ?_;refine ⟨_,sB,?_⟩;exact ⟨e3,mM⟩
  refine dI hmx [[],[0],[0,1],[0,1,2],(ra 0 4),(ra 0 5),(ra 0 6),(ra 0 7),(ra 0 4),[0,1,2,3,8],(ra 0 10),(ra 0 11),(ra 0 12),(ra 0 13)] [13] (by kernel_rfl) [_,_,_,_,undef,undef,undef,undef,undef,undef,undef,undef,_] H (aC (Z0 rfl (Rf Ck rfl)) (X1 0 41 rfl fun hG=>Rg bH rfl (aJ hG q0)) (Z1 1 42 rfl (Rc rfl)) (Z1 2 43 rfl (Rm rfl)) (aC (aQ 3 (aY c0) rfl rfl) (aQ 3 (aY c0) rfl rfl) (aQ 3 (aY c0) rfl rfl) (aQ 3 (aY c0) rfl rfl) (aC (aQ 3 (aY c0) rfl rfl) (aQ 3 (aY c0) rfl rfl) (aQ 3 (aY c0) rfl rfl) (aQ 3 (aY c0) rfl rfl) (bL (Z2 3 44 11 52 rfl (Pf (aY c0) rfl)) (bL (bP rfl) dw))))) ?_
  clear H;intro a w G mM H hv;have H:=H.aO (hv 12 53 rfl rfl) rfl;clear hv;refine t1 3 H ?_;clear H
  have hno:¬ (h.marks.ins≠0∧h.marks.ins∉(aU us st li rv).jX):=by first|exact fun h=>c1 h.2|exact fun h=>c0 h.1
  replace q0:=aJ mM q0;replace q1:=aJ mM q1;replace q2:=aJ mM q2;refine ak 3 ?_;intro a H;refine s_call vW H wn rfl (wE _ _ H.ro h.marks.move 0 1073741824) rfl ?_;clear H;rintro v57 _ a w ⟨rfl,rfl⟩ - H;refine rJ 2 59 H ?_ ?_ <;> clear H
  ·intro p59
   refine ak 12 ?_
   have e3:jc (aU us st li rv) h.marks=21:=by unfold jc;rw [ah hno,ay (by first|(simp_all;done)|(simp_all;omega))]
   have hE:=(AZ (C:=aU us st li rv) (e:=e) (h:=h) e1 e2 (by rw [e3];decide)).trans e3;refine aP 3 ?_;rw [hE]
  intro p59
  refine kT 4 63 ?_ ?_
  ·intro p63
   refine goB 7 ?_ ?_
   ·intro p54
    have e3:jc (aU us st li rv) h.marks=21:=by unfold jc;rw [ah hno,ay (by first|(simp_all;done)|(simp_all;omega))]
    have hE:=(AZ (C:=aU us st li rv) (e:=e) (h:=h) e1 e2 (by rw [e3];decide)).trans e3;refine aP 3 ?_;rw [hE]
   intro p54
   have hn2:¬ (¬ (0≤h.marks.move∧h.marks.move≤1073741824)∨(h.marks.move≠0∧h.marks.ins=0)):=by first|(simp_all;done)|(simp_all;omega)
   refine goC 7 ?_ ?_
   ·intro sQ
    have e3:jc (aU us st li rv) h.marks=9:=by unfold jc;rw [ah hno,ah hn2,ay (by simpa using sQ)]
    have hE:=(AZ (C:=aU us st li rv) (e:=e) (h:=h) e1 e2 (by rw [e3];decide)).trans e3;refine aP 3 ?_;rw [hE]
   intro sQ
   have e3:jc (aU us st li rv) h.marks=0:=by unfold jc;rw [ah hno,ah hn2,ah (by simpa using sQ)]
   intro a H;refine ji ?_;refine ⟨_,sB,?_⟩;exact ⟨e3,mM⟩
  intro p63
  refine ak 8 ?_
  have hn2:¬ (¬ (0≤h.marks.move∧h.marks.move≤1073741824)∨(h.marks.move≠0∧h.marks.ins=0)):=by first|(simp_all;done)|(simp_all;omega)
  refine goC 7 ?_ ?_
  ·intro sQ
   have e3:jc (aU us st li rv) h.marks=9:=by unfold jc;rw [ah hno,ah hn2,ay (by simpa using sQ)]
   have hE:=(AZ (C:=aU us st li rv) (e:=e) (h:=h) e1 e2 (by rw [e3];decide)).trans e3;refine aP 3 ?_;rw [hE]
  intro sQ
  have e3:jc (aU us st li rv) h.marks=0:=by unfold jc;rw [ah hno,ah hn2,ah (by simpa using sQ)]
  intro a H;refine ji ?_;refine ⟨_,sB,?_⟩;exact ⟨e3,mM⟩
 clear H;intro g a w hI H;obtain ⟨e3,wC⟩:=hI;replace hck:=hck.mono wC;replace hb:=wC _ _ hb;replace hh:=hh.mono wC;replace g3:=aJ wC g3;replace q2:=aJ wC q2;replace q3:=aJ wC q3;replace hc2:=aJ wC hc2;replace hcb:=hcb.mono wC;dsimp only [lca,aR] at H;refine eB 8 H ?_;clear H;intro a H;refine eO (ι:=Nat × GH) (Tc:=[(3,_),(4,_),(11,_),(75,_),(76,_)]) (Lc:=[]) (fun gh=>[(77,vi gh.1)]) (fun gh=>[]) (fun gh=>gh.2) (fun gh=>gh.1≤h.marks.bU.length∧dz (((List.range h.marks.bU.length).map (sI (aU us st li rv) h.marks.bU)).drop gh.1)=iY (sI (aU us st li rv) h.marks.bU) h.marks.bU.length∧(∀ b o,g b=some o→gh.2 b=some o)) (fun gh=>h.marks.bU.length - gh.1) ((0,g)) sB ?_ ?_
 ·exact ⟨gV _,rfl,fun _ _ h=>h⟩
 clear H;rintro ⟨k,g2⟩ a w hI H;dsimp only at hI H;obtain ⟨hk,heq,hgm⟩:=hI;dsimp only [lca,aR] at H;refine dN 4 H ?_ ?_ <;> clear H
 ·intro Tm
  have hk2:k < h.marks.bU.length:=by omega
  have hd2:=hh.bU.mono hgm;obtain ⟨xb,xo,rfl,hrow⟩:=Pk hd2 hk2
  have hk1:k - 1 < h.marks.bU.length:=by omega
  obtain ⟨b',o',he',hrow'⟩:=Pk hd2 hk1
  intro a H;injection he' with he'
  injection he' with e1 e2
  subst e1;subst e2
  have hde:sI (aU us st li rv) h.marks.bU k=vU (aU us st li rv) k h.marks.bU[k] h.marks.bU[k - 1].rev:=by unfold sI;rw [dY hk2,dY hk1];rfl
  have hX:∀ v,vU (aU us st li rv) k h.marks.bU[k] h.marks.bU[k - 1].rev=v→v≠0→fI (aU us st li rv) e h=v:=fun v h1 h2=>by
   have h4:iY (sI (aU us st li rv) h.marks.bU) h.marks.bU.length=v:=by rw [← heq,DJ hk2,hde,h1,ay h2]
   exact (aiP e1 e2 e3 (by rw [h4];exact h2)).trans h4
  have hp:=hrow' 0 _ rfl;have g3':=aJ hgm g3;have hc2':=aJ hgm hc2;have q2':=aJ hgm q2;refine eB 6 H ?_;clear H;intro a H;refine bg tX (cs:=h.marks.bU[k].cells) H wn rfl rfl (fun j v hj=>H.hp.aF (hrow j v hj)) rfl ?_;clear H;intro a H;refine dx tX H wn rfl ?_;clear H;intro b13 a w LK H;refine aH 1 H ?_;clear H;intro a H;refine aV tX 0 (vs:=[_,_]) _ H wn rfl rfl rfl rfl rfl rfl rfl rfl ?_;clear H;intro w H;dsimp only [List.set,setRow] at H;refine aH 3 H ?_;clear H;intro a H;refine dI hmx [[],[0],[0,1],[0,1,2],[],[4],(ra 0 6),(ra 0 7),(ra 0 8)] [8] (by kernel_rfl) [_,_,_,_,_,vi h.marks.bU[k].rev,.bool (decide (h.marks.bU[k].rev∈rv.map bQ.id)),_] H (aC (X0 rfl fun hG=>Rg NI rfl (aJ hG g3')) (Z1 0 83 rfl (Rk rfl)) (Z1 1 84 rfl (Rf Iw rfl)) (X1 2 85 rfl fun hG=>Rg Dg rfl (aJ hG hc2')) (aC (Z0 rfl (Rf Iq rfl)) (Z1 4 87 rfl (Ro bH 0 rfl)) ?_ (Z1 6 89 rfl (Rn rfl)) (bL (bP rfl) dw))) ?_
  ·refine dL 3 86 5 88 rfl rfl fun _ a w G1 hG HT H fin=>?_;refine yR (zv:=.bool false) uf jJ (by kernel_rfl) H wn rfl rfl (H.ro _ _ (hG _ _ (hgm _ _ hck.rev))) rfl ?_;clear H;intro a H;rw [CP] at H;exact fin H iJ rfl
  clear H;intro a w G FD H hv;have H:=H.aO (hv 7 90 rfl rfl) rfl;clear hv;refine t1 2 H ?_;clear H;refine goC 0 ?_ ?_
  ·intro Ls
   have hE:=hX 22 (by unfold vU;rw [ay (by simpa using Ls)]) (by decide);refine aP 3 ?_;rw [hE]
  intro Ls
  try have ZY:=dF Ls
  have I6:¬ (h.marks.bU[k].rev∉(aU us st li rv).jX):=by simpa using Ls
  refine ak 1 ?_;replace hp:=aJ FD hp;replace q2':=aJ FD q2'
  intro a H;by_cases c3:0 < (k:Int)
  ·skip
   by_cases c4:h.marks.bU[k].rev≤h.marks.bU[k - 1].rev
   ·refine dI hmx [[],[0],[0,1],[0,1,2],(ra 0 4),[0,1,2],[0,1,2,5],[0,1,2],[0,1,2,7],[0,1,2,5,6,7,8],[0,1,2,5,6,7,8,9],([0,1,2]++ra 5 6),(ra 0 12),(ra 0 13),(ra 0 14)] [14] (by kernel_rfl) [_,_,_,_,vi h.marks.bU[k].rev,_,_,_,vi ((k - 1:Nat):Int),_,_,_,_,_] H (aC (Z0 rfl (Rm rfl)) (Z1 0 92 rfl (Rc rfl)) (Z1 1 93 rfl (Rm rfl)) (Z1 2 94 rfl (YF Iq (aI c3) rfl)) (aC (Z2 3 95 2 94 rfl (YO bH 0 (aI c3) rfl)) (Z1 2 94 rfl (YF Cm (aI c3) rfl)) (X2 5 97 2 94 rfl fun hG=>YR Df (aI c3) rfl (aJ hG q2')) (Z1 2 94 rfl (YM (aI c3) rfl)) (aC ?_ (Z3 6 98 8 100 2 94 rfl (YI xP tX (aI c3) rfl rfl)) (Z2 9 101 2 94 rfl (YF Iq (aI c3) rfl)) (X2 10 102 2 94 rfl fun hG=>YR bH (aI c3) rfl (aJ hG hp)) (bL (Z3 4 96 11 103 2 94 rfl (YC (aI c3) rfl)) (bL (Z2 2 94 12 104 rfl (Pt (aI c3) rfl)) (bL (bP rfl) dw)))))) ?_
    ·refine dL 7 99 2 94 rfl rfl fun _ a w G1 hG HT H fin=>?_;refine lJ _ H (wg H rfl rfl (aI c3)) rfl rfl rfl (by omega) (by omega) rfl ?_;clear H;intro a H;exact fin H iJ (by show _=_;first|rfl|exact aB vi (by omega))
    clear H;intro a w G LC H hv;have H:=H.aO (hv 13 105 rfl rfl) rfl;clear hv;refine t1 3 H ?_;clear H;have hz:0 < k∧h.marks.bU[k].rev≤h.marks.bU[k - 1].rev:=⟨by omega,c4⟩;have hE:=hX 6 (by unfold vU;rw [ah I6,ay hz]) (by decide);refine aP 3 ?_;rw [hE]
   refine dI hmx [[],[0],[0,1],[0,1,2],(ra 0 4),[0,1,2],[0,1,2,5],[0,1,2],[0,1,2,7],[0,1,2,5,6,7,8],[0,1,2,5,6,7,8,9],([0,1,2]++ra 5 6),(ra 0 12),(ra 0 13),(ra 0 14)] [14] (by kernel_rfl) [_,_,_,_,vi h.marks.bU[k].rev,_,_,_,vi ((k - 1:Nat):Int),_,_,_,_,_] H (aC (Z0 rfl (Rm rfl)) (Z1 0 92 rfl (Rc rfl)) (Z1 1 93 rfl (Rm rfl)) (Z1 2 94 rfl (YF Iq (aI c3) rfl)) (aC (Z2 3 95 2 94 rfl (YO bH 0 (aI c3) rfl)) (Z1 2 94 rfl (YF Cm (aI c3) rfl)) (X2 5 97 2 94 rfl fun hG=>YR Df (aI c3) rfl (aJ hG q2')) (Z1 2 94 rfl (YM (aI c3) rfl)) (aC ?_ (Z3 6 98 8 100 2 94 rfl (YI xP tX (aI c3) rfl rfl)) (Z2 9 101 2 94 rfl (YF Iq (aI c3) rfl)) (X2 10 102 2 94 rfl fun hG=>YR bH (aI c3) rfl (aJ hG hp)) (bL (Z3 4 96 11 103 2 94 rfl (YC (aI c3) rfl)) (bL (Z2 2 94 12 104 rfl (Pt (aI c3) rfl)) (bL (bP rfl) dw)))))) ?_
   ·refine dL 7 99 2 94 rfl rfl fun _ a w G1 hG HT H fin=>?_;refine lJ _ H (wg H rfl rfl (aI c3)) rfl rfl rfl (by omega) (by omega) rfl ?_;clear H;intro a H;exact fin H iJ (by show _=_;first|rfl|exact aB vi (by omega))
   clear H;intro a w G LC H hv;have H:=H.aO (hv 13 105 rfl rfl) rfl;clear hv;refine t1 3 H ?_;clear H
   have hz:¬ (0 < k∧h.marks.bU[k].rev≤h.marks.bU[k - 1].rev):=by first|exact fun h=>c4 h.2|exact fun h=>c3 (by omega)
   refine ak 3 ?_;intro a H;refine s_call vW H wn rfl (wE _ _ H.ro h.marks.bU[k].move 0 1073741824) rfl ?_;clear H;rintro v109 _ a w ⟨rfl,rfl⟩ - H;refine gX 3 H ?_ ?_ <;> clear H
   ·intro yB
    try have Tg:=dT yB
    have hE:=hX 21 (by unfold vU;rw [ah I6,ah hz,ay (by have h0:=yB;simp at h0;omega)]) (by decide);refine aP 3 ?_;rw [hE]
   intro yB
   try have Tg:=dF yB
   have Q9:vU (aU us st li rv) k h.marks.bU[k] h.marks.bU[k - 1].rev=0:=by unfold vU;rw [ah I6,ah hz,ah (by have h0:=yB;simp at h0;omega)]
   have Qw:=fun b o h=>LC b o (FD b o (hgm b o h));refine ak 4 ?_;intro a H;refine aG ?_;refine dH ((k+1,G)) (by exact (H.cu (Pl:=[_]) (bS:=[]) [] (by decide) rfl).sub ⟨rfl,rfl,rfl,rfl,rfl,rfl,bB⟩) ?_ ?_
   ·(try dsimp only);exact ⟨by omega,by rw [DJ hk2,ah (by rw [hde];simpa using Q9)] at heq;exact heq,Qw⟩
   first|omega|(dsimp only;omega)
  refine dI hmx [[],[0],[0,1],[0,1,2],(ra 0 4),[0,1,2],[0,1,2,5],[0,1,2],[0,1,2,7],[0,1,2,5,6,7,8],[0,1,2,5,6,7,8,9],([0,1,2]++ra 5 6),(ra 0 12),(ra 0 13),(ra 0 14)] [14] (by kernel_rfl) [_,_,_,undef,undef,undef,undef,undef,undef,undef,undef,undef,undef,_] H (aC (Z0 rfl (Rm rfl)) (Z1 0 92 rfl (Rc rfl)) (Z1 1 93 rfl (Rm rfl)) (aQ 2 (aY c3) rfl rfl) (aC (aQ 2 (aY c3) rfl rfl) (aQ 2 (aY c3) rfl rfl) (aQ 2 (aY c3) rfl rfl) (aQ 2 (aY c3) rfl rfl) (aC (aQ 2 (aY c3) rfl rfl) (aQ 2 (aY c3) rfl rfl) (aQ 2 (aY c3) rfl rfl) (aQ 2 (aY c3) rfl rfl) (bL (aQ 2 (aY c3) rfl rfl) (bL (Z2 2 94 12 104 rfl (Pf (aY c3) rfl)) (bL (bP rfl) dw)))))) ?_
  clear H;intro a w G LC H hv;have H:=H.aO (hv 13 105 rfl rfl) rfl;clear hv;refine t1 3 H ?_;clear H
  have hz:¬ (0 < k∧h.marks.bU[k].rev≤h.marks.bU[k - 1].rev):=by first|exact fun h=>c4 h.2|exact fun h=>c3 (by omega)
  refine ak 3 ?_;intro a H;refine s_call vW H wn rfl (wE _ _ H.ro h.marks.bU[k].move 0 1073741824) rfl ?_;clear H;rintro v109 _ a w ⟨rfl,rfl⟩ - H;refine gX 3 H ?_ ?_ <;> clear H
  ·intro yB
   try have Tg:=dT yB
   have hE:=hX 21 (by unfold vU;rw [ah I6,ah hz,ay (by have h0:=yB;simp at h0;omega)]) (by decide);refine aP 3 ?_;rw [hE]
  intro yB
  try have Tg:=dF yB
  have Q9:vU (aU us st li rv) k h.marks.bU[k] h.marks.bU[k - 1].rev=0:=by unfold vU;rw [ah I6,ah hz,ah (by have h0:=yB;simp at h0;omega)]
  have Qw:=fun b o h=>LC b o (FD b o (hgm b o h));refine ak 4 ?_;intro a H;refine aG ?_;refine dH ((k+1,G)) (by exact (H.cu (Pl:=[_]) (bS:=[]) [] (by decide) rfl).sub ⟨rfl,rfl,rfl,rfl,rfl,rfl,bB⟩) ?_ ?_
  ·(try dsimp only);exact ⟨by omega,by rw [DJ hk2,ah (by rw [hde];simpa using Q9)] at heq;exact heq,Qw⟩
  first|omega|(dsimp only;omega)
 intro Tm
 refine ak 2 ?_
 have e4:iY (sI (aU us st li rv) h.marks.bU) h.marks.bU.length=0:=by rw [← heq,fM (by simp;omega)];rfl
 replace q3:=aJ hgm q3;refine goB 6 ?_ ?_
 ·intro Ti
  have hE:=aiQ (C:=aU us st li rv) (e:=e) (h:=h) e1 e2 e3 e4 Ti;refine aP 3 ?_;rw [hE]
 intro Ti
 refine ak 1 ?_;have hE:=aiR (C:=aU us st li rv) (e:=e) (h:=h) e1 e2 e3 e4 Ti;refine ak 4 ?_;intro a H;refine mP H wn rfl rfl ?_;clear H;intro a H;refine s_call Fw H wn rfl (H7 _ _ H.ro h.marks.layers.length (yL (aU us st li rv) e h.marks.layers) _ (by omega) (hcb.mono hgm)) rfl ?_;clear H;rintro ari apY a w rfl aqf H;refine gH 2 H ?_;rw [hE]
end
section
open Go.RowKit
instance:dB prog 68 1 1:=⟨by kernel_rfl⟩
def codeOk (x:au):Bool:=if x.kind=4 then decide (1≤x.code∧x.code≤3) else if x.kind=6 then decide (1≤x.code∧x.code≤2) else if x.kind=8 then decide (1≤x.code∧x.code≤4) else true
def xL (x:au):Bool:=decide (x.kind=8∧x.code=1)
def xU (x:au):Bool:=decide (x.kind=1∨x.kind=5) || xL x
def vE (x:au):Bool:=decide (x.kind=6∨x.kind=7∨x.kind=8)
def uQ (x:au):Bool:=decide (x.kind=4∨x.kind=6∨x.kind=8)
def oG (s:ByteArray):Bool:=s.toList == (⟨#[]⟩:ByteArray).toList
def sN (x:au):Bool:=!uQ x && decide (x.code≠0) || !vE x && decide (x.id≠0) || !xU x && !oG x.text || decide (x.kind≠6) && decide (0 < (x.flow.length:Int)) || decide (x.kind≠7) && decide (0 < (x.rows.length:Int))
def jk (x:au):Int :=
 if (!decide (1≤x.kind∧x.kind≤8) || !codeOk x)=true then 3 else if sN x=true then 15 else if mR x.text=false then 12 else if (decide (x.kind=1∨x.kind=5) && oG x.text)=true then 11
 else if (decide (x.kind=5) && decide (1024 < (x.text.size:Int)))=true then 10 else if (xL x && !qo x.text)=true then 13 else 0
theorem ahD (G:GH) (w0:World) (hG:Hold G w0) (x:au) (p d l:aj) (fA rA:Option Addr) (fc rc:Nat) (hs:x.text.size < 4611686018427387904) :
  Calls prog 162 #[.agg #[vi x.kind,vi x.code,vi x.id,.string x.text,p,vi x.head.marks.ins,vi x.head.marks.move,d,l,.slice fA x.flow.length fc,.slice rA x.rows.length rc]] w0 (bD w0 G fun u G'=>u=vi (jk x)∧G=G'):=by
 refine eN [(0,_)] func162 rfl ntmps162 rfl rfl hG ?_;refine ak 1 ?_;intro a H;refine dU (cs:=[_,_,_,_,_,_,_,_,_,_,_]) H wn rfl rfl rfl ?_;clear H;intro b1 a w hb1 H;refine aH 2 H ?_;clear H;intro a H;refine sH (ι:=Bool) (Tc:=[(1,_)]) (Lc:=[(_,_)]) (fun gh=>[(3,.bool gh)]) (fun gh=>[]) (fun gh=>G) (fun gh=>gh=xL x) sB ?_ ?_
 ·refine vZ 5 11 H ?_ ?_ <;> clear H
  ·intro oz
   refine ak 5 ?_;intro a H;refine aG ?_;refine ⟨_,sB,?_⟩
   unfold xL;first|(simp_all;done)
  intro oz
  refine ak 5 ?_;intro a H;refine aG ?_;refine ⟨_,sB,?_⟩
  unfold xL;first|(simp_all;done)
 clear H;intro st a w hI H;have hst:=hI;dsimp only [lca,aR] at H;refine sH (ι:=Bool) (Tc:=[(1,_),(3,_)]) (Lc:=[(_,_)]) (fun gh=>[(4,.bool gh)]) (fun gh=>[]) (fun gh=>G) (fun gh=>gh=xU x) sB ?_ ?_
 ·refine vZ 5 19 H ?_ ?_ <;> clear H
  ·intro tL
   refine ak 8 ?_;intro a H;refine aG ?_;refine ⟨_,sB,?_⟩
   unfold xU;first|(simp_all;done)
  intro tL
  refine kT 5 24 ?_ ?_
  ·intro kQ
   refine ak 3 ?_;intro a H;refine aG ?_;refine ⟨_,sB,?_⟩
   unfold xU;first|(simp_all;done)
  intro kQ
  refine ak 3 ?_;intro a H;refine aG ?_;refine ⟨_,sB,?_⟩
  unfold xU;first|(simp_all;done)
 clear H;intro wd a w hI H;have hwd:=hI;dsimp only [lca,aR] at H;refine sH (ι:=Bool) (Tc:=[(1,_),(3,_),(4,_)]) (Lc:=[(_,_)]) (fun gh=>[(5,.bool gh)]) (fun gh=>[]) (fun gh=>G) (fun gh=>gh=vE x) sB ?_ ?_
 ·refine vZ 5 30 H ?_ ?_ <;> clear H
  ·intro p30
   refine ak 10 ?_;intro a H;refine aG ?_;refine ⟨_,sB,?_⟩
   unfold vE;first|(simp_all;done)
  intro p30
  refine kT 5 35 ?_ ?_
  ·intro p35
   refine ak 5 ?_;intro a H;refine aG ?_;refine ⟨_,sB,?_⟩
   unfold vE;first|(simp_all;done)
  intro p35
  refine ak 5 ?_;intro a H;refine aG ?_;refine ⟨_,sB,?_⟩
  unfold vE;first|(simp_all;done)
 clear H;intro nm a w hI H;have hnm:=hI;dsimp only [lca,aR] at H;refine eB 3 H ?_;clear H;intro a H;refine sH (ι:=Bool) (Tc:=[(1,_),(3,_),(4,_),(5,_)]) (Lc:=[(_,_)]) (fun gh=>[(6,.bool gh)]) (fun gh=>[]) (fun gh=>G) (fun gh=>gh=codeOk x) sB ?_ ?_
 ·refine dN 9 H ?_ ?_ <;> clear H
  ·intro p42
   refine ak 3 ?_;intro a H;refine s_call vW H wn rfl (wE _ _ H.ro x.code 1 3) rfl ?_;clear H;rintro v46 _ a w ⟨rfl,rfl⟩ - H;refine aH 1 H ?_;clear H;intro a H;refine aG ?_;refine ⟨_,sB,?_⟩
   unfold codeOk;first|(simp_all;done)
  intro p42
  refine goB 4 ?_ ?_
  ·intro p47
   refine ak 3 ?_;intro a H;refine s_call vW H wn rfl (wE _ _ H.ro x.code 1 2) rfl ?_;clear H;rintro v51 _ a w ⟨rfl,rfl⟩ - H;refine aH 1 H ?_;clear H;intro a H;refine aG ?_;refine ⟨_,sB,?_⟩
   unfold codeOk;first|(simp_all;done)
  intro p47
  refine goB 4 ?_ ?_
  ·intro p52
   refine ak 3 ?_;intro a H;refine s_call vW H wn rfl (wE _ _ H.ro x.code 1 4) rfl ?_;clear H;rintro v56 _ a w ⟨rfl,rfl⟩ - H;refine aH 1 H ?_;clear H;intro a H;refine aG ?_;refine ⟨_,sB,?_⟩
   unfold codeOk;first|(simp_all;done)
  intro p52
  intro a H;refine ji ?_;refine ⟨_,sB,?_⟩
  unfold codeOk;first|(simp_all;done)
 clear H;intro ck a w hI H;have hck:=hI;dsimp only [lca,aR] at H;refine sH (ι:=Bool) (Tc:=[(1,_),(3,_),(4,_),(5,_),(6,_)]) (Lc:=[(_,_)]) (fun gh=>[(7,.bool gh)]) (fun gh=>[]) (fun gh=>G) (fun gh=>gh=uQ x) sB ?_ ?_
 ·refine vZ 5 60 H ?_ ?_ <;> clear H
  ·intro p60
   refine ak 10 ?_;intro a H;refine aG ?_;refine ⟨_,sB,?_⟩
   unfold uQ;first|(simp_all;done)
  intro p60
  refine kT 5 65 ?_ ?_
  ·intro p65
   refine ak 5 ?_;intro a H;refine aG ?_;refine ⟨_,sB,?_⟩
   unfold uQ;first|(simp_all;done)
  intro p65
  refine ak 5 ?_;intro a H;refine aG ?_;refine ⟨_,sB,?_⟩
  unfold uQ;first|(simp_all;done)
 clear H;intro cd a w hI H;have hcd:=hI;dsimp only [lca,aR] at H;refine eB 3 H ?_;clear H;intro a H;refine BG (ι:=Bool) (Tc:=[(1,_),(3,_),(4,_),(5,_),(7,_)]) 8 (fun (q0:Bool)=>[(78,.bool q0)]) (fun (q0:Bool)=>q0=(!decide (1≤x.kind∧x.kind≤8) || !codeOk x)) sB ?_ ?_
 ·intro XH;refine aH 2 H ?_;clear H;intro a H;refine s_call vW H wn rfl (wE _ _ H.ro x.kind 1 8) rfl ?_;clear H;rintro v73 _ a w ⟨rfl,rfl⟩ - H;refine rJ 2 75 H ?_ ?_ <;> clear H
  ·intro p75
   refine ak 3 ?_;intro a H;refine XH (_) _ _ ?_ sB;rw [← hck];clear hst hwd hnm hck hcd;(try clear hq1);(try clear hq2);(try clear hq3);(try clear hq0);(try clear hq4);(try clear mh);(try clear kU);(try clear mo);simp_all
  intro p75
  refine ak 3 ?_;intro a H;refine XH (_) _ _ ?_ sB;rw [← hck];clear hst hwd hnm hck hcd;(try clear hq1);(try clear hq2);(try clear hq3);(try clear hq0);(try clear hq4);(try clear mh);(try clear kU);(try clear mo);simp_all
 clear H;intro q0 a w hI H;dsimp only [lca,aR] at H;(repeat with_reducible refine dK ?_);refine d0 ?_;have hq0:=hI;refine gX 2 H ?_ ?_ <;> clear H
 ·intro mK
  have e:jk x=3:=by unfold jk;rw [ay (by rw [← hq0];exact mK)]
  refine aP 3 ?_;exact ⟨by rw [e],rfl⟩
 intro mK
 try have p70:=dF mK
 have f0:¬ (!decide (1≤x.kind∧x.kind≤8) || !codeOk x)=true:=by rw [← hq0,mK];decide
 refine ak 1 ?_;intro a H;refine BG (ι:=Bool) (Tc:=[(1,_),(3,_),(4,_),(5,_)]) 7 (fun (q1:Bool)=>[(86,.bool q1)]) (fun (q1:Bool)=>q1=(!uQ x && decide (x.code≠0))) sB ?_ ?_
 ·intro XI;refine rJ 3 82 H ?_ ?_ <;> clear H
  ·intro ZY
   refine ak 4 ?_;intro a H;refine XI (_) _ _ ?_ sB;rw [← hcd];clear hst hwd hnm hck hcd;(try clear hq1);(try clear hq2);(try clear hq3);(try clear hq0);(try clear hq4);(try clear mh);(try clear kU);(try clear mo);simp_all
  intro ZY
  refine ak 4 ?_;intro a H;refine XI (_) _ _ ?_ sB;rw [← hcd];clear hst hwd hnm hck hcd;(try clear hq1);(try clear hq2);(try clear hq3);(try clear hq0);(try clear hq4);(try clear mh);(try clear kU);(try clear mo);simp_all
 clear H;intro q1 a w hI H;dsimp only [lca,aR] at H;(repeat with_reducible refine dK ?_);refine d0 ?_;have hq1:=hI;refine BG (ι:=Bool) (Tc:=[(1,_),(3,_),(4,_)]) 9 (fun (q2:Bool)=>[(95,.bool q2)]) (fun (q2:Bool)=>q2=(q1 || !vE x && decide (x.id≠0))) sB ?_ ?_
 ·intro QK;refine rJ 1 87 H ?_ ?_ <;> clear H
  ·intro Tp
   refine ak 8 ?_;intro a H;refine QK (_) _ _ ?_ sB;rw [← hnm];clear hst hwd hnm hck hcd;(try clear hq1);(try clear hq2);(try clear hq3);(try clear hq0);(try clear hq4);(try clear mh);(try clear kU);(try clear mo);simp_all
  intro Tp
  refine kT 3 90 ?_ ?_
  ·intro p90
   refine ak 5 ?_;intro a H;refine QK (_) _ _ ?_ sB;rw [← hnm];clear hst hwd hnm hck hcd;(try clear hq1);(try clear hq2);(try clear hq3);(try clear hq0);(try clear hq4);(try clear mh);(try clear kU);(try clear mo);simp_all
  intro p90
  refine ak 5 ?_;intro a H;refine QK (_) _ _ ?_ sB;rw [← hnm];clear hst hwd hnm hck hcd;(try clear hq1);(try clear hq2);(try clear hq3);(try clear hq0);(try clear hq4);(try clear mh);(try clear kU);(try clear mo);simp_all
 clear H;intro q2 a w hI H;dsimp only [lca,aR] at H;(repeat with_reducible refine dK ?_);refine d0 ?_;have hq2:=hI;refine BG (ι:=Bool) (Tc:=[(1,_),(3,_)]) 9 (fun (q3:Bool)=>[(104,.bool q3)]) (fun (q3:Bool)=>q3=(q2 || !xU x && !oG x.text)) sB ?_ ?_
 ·intro QH;refine rJ 1 96 H ?_ ?_ <;> clear H
  ·intro Jo
   refine ak 8 ?_;intro a H;refine QH (_) _ _ ?_ sB;rw [← hwd];clear hst hwd hnm hck hcd;(try clear hq1);(try clear hq2);(try clear hq3);(try clear hq0);(try clear hq4);(try clear mh);(try clear kU);(try clear mo);simp_all [oG]
  intro Jo
  refine jE 3 99 ?_ ?_
  ·intro LA
   try have p99:=dT LA
   refine ak 2 ?_;intro a H;refine ant H (wg H rfl rfl LA) rfl rfl rfl ?_;clear H;refine ak 2 ?_;intro a H;refine QH (_) _ _ ?_ sB;rw [← hwd];clear hst hwd hnm hck hcd;(try clear hq1);(try clear hq2);(try clear hq3);(try clear hq0);(try clear hq4);(try clear mh);(try clear kU);(try clear mo);simp_all [oG]
  intro LA
  try have p99:=dF LA
  refine ak 5 ?_;intro a H;refine QH (_) _ _ ?_ sB;rw [← hwd];clear hst hwd hnm hck hcd;(try clear hq1);(try clear hq2);(try clear hq3);(try clear hq0);(try clear hq4);(try clear mh);(try clear kU);(try clear mo);simp_all [oG]
 clear H;intro q3 a w hI H;dsimp only [lca,aR] at H;(repeat with_reducible refine dK ?_);refine d0 ?_;have hq3:=hI;refine BG (ι:=Bool) (Tc:=[(1,_),(3,_)]) 11 (fun (q4:Bool)=>[(115,.bool q4)]) (fun (q4:Bool)=>q4=(q3 || decide (x.kind≠6) && decide (0 < (x.flow.length:Int)))) sB ?_ ?_
 ·intro QI;refine rJ 1 105 H ?_ ?_ <;> clear H
  ·intro Gd
   refine ak 10 ?_;intro a H;refine QI (_) _ _ ?_ sB;clear hst hwd hnm hck hcd;(try clear hq1);(try clear hq2);(try clear hq3);(try clear hq0);(try clear hq4);(try clear mh);(try clear kU);(try clear mo);simp_all
  intro Gd
  refine kT 4 109 ?_ ?_
  ·intro ame
   refine ak 6 ?_;intro a H;refine QI (_) _ _ ?_ sB;clear hst hwd hnm hck hcd;(try clear hq1);(try clear hq2);(try clear hq3);(try clear hq0);(try clear hq4);(try clear mh);(try clear kU);(try clear mo);simp_all
  intro ame
  refine ak 6 ?_;intro a H;refine QI (_) _ _ ?_ sB;clear hst hwd hnm hck hcd;(try clear hq1);(try clear hq2);(try clear hq3);(try clear hq0);(try clear hq4);(try clear mh);(try clear kU);(try clear mo);simp_all
 clear H;intro q4 a w hI H;dsimp only [lca,aR] at H;(repeat with_reducible refine dK ?_);refine d0 ?_;have hq4:=hI;refine BG (ι:=Bool) (Tc:=[(1,_),(3,_)]) 11 (fun (q5:Bool)=>[(126,.bool q5)]) (fun (q5:Bool)=>q5=sN x) sB ?_ ?_
 ·intro QJ;refine rJ 1 116 H ?_ ?_ <;> clear H
  ·intro Tj
   refine ak 10 ?_;intro a H;refine QJ (_) _ _ ?_ sB;rw [show sN x=(q4 || decide (x.kind≠7) && decide (0 < (x.rows.length:Int))) by rw [hq4,hq3,hq2,hq1];rfl];clear hq4;clear hst hwd hnm hck hcd;(try clear hq1);(try clear hq2);(try clear hq3);(try clear hq0);(try clear hq4);(try clear mh);(try clear kU);(try clear mo);simp_all
  intro Tj
  refine kT 4 120 ?_ ?_
  ·intro Tk
   refine ak 6 ?_;intro a H;refine QJ (_) _ _ ?_ sB;rw [show sN x=(q4 || decide (x.kind≠7) && decide (0 < (x.rows.length:Int))) by rw [hq4,hq3,hq2,hq1];rfl];clear hq4;clear hst hwd hnm hck hcd;(try clear hq1);(try clear hq2);(try clear hq3);(try clear hq0);(try clear hq4);(try clear mh);(try clear kU);(try clear mo);simp_all
  intro Tk
  refine ak 6 ?_;intro a H;refine QJ (_) _ _ ?_ sB;rw [show sN x=(q4 || decide (x.kind≠7) && decide (0 < (x.rows.length:Int))) by rw [hq4,hq3,hq2,hq1];rfl];clear hq4;clear hst hwd hnm hck hcd;(try clear hq1);(try clear hq2);(try clear hq3);(try clear hq0);(try clear hq4);(try clear mh);(try clear kU);(try clear mo);simp_all
 clear H;intro q5 a w hI H;dsimp only [lca,aR] at H;(repeat with_reducible refine dK ?_);refine d0 ?_;have mh:=hI;refine gX 2 H ?_ ?_ <;> clear H
 ·intro Lm
  have e:jk x=15:=by unfold jk;rw [ah f0,ay (by rw [← mh];exact Lm)]
  refine aP 3 ?_;exact ⟨by rw [e],rfl⟩
 intro Lm
 try have Tn:=dF Lm
 have f1:¬ sN x=true:=by rw [← mh,Lm];decide
 refine ak 3 ?_;intro a H;refine s_call Ip H wn rfl (JG _ _ H.ro x.text hs) rfl ?_;clear H;rintro v130 _ a w ⟨rfl,rfl⟩ - H;refine gX 3 H ?_ ?_ <;> clear H
 ·intro h127
  have e:jk x=12:=by unfold jk;rw [ah f0,ah f1,ay (by simpa using h127)]
  refine aP 3 ?_;exact ⟨by rw [e],rfl⟩
 intro h127
 try have aqZ:=dF h127
 have f2:¬ mR x.text=false:=by simpa using h127
 refine ak 1 ?_;intro a H;refine BG (ι:=Bool) (Tc:=[(1,_),(3,_)]) 13 (fun (q6:Bool)=>[(145,.bool q6)]) (fun (q6:Bool)=>q6=(decide (x.kind=1∨x.kind=5) && oG x.text)) sB ?_ ?_
 ·intro QL;refine rJ 4 136 H ?_ ?_ <;> clear H
  ·intro amf
   refine ak 5 ?_;intro a H;refine Gq KP H (wg H rfl rfl rfl) rfl rfl ?_;clear H;intro a H;refine kX lN H (wg H rfl rfl rfl) rfl (H.hp.nQ 0 rfl rfl) rfl ?_;clear H;intro a H;refine Gp H (wg H rfl rfl rfl) rfl rfl rfl ?_;clear H;refine ak 1 ?_;intro a H;refine QL (_) _ _ ?_ sB;clear hst hwd hnm hck hcd;(try clear hq1);(try clear hq2);(try clear hq3);(try clear hq0);(try clear hq4);(try clear mh);(try clear kU);(try clear mo);simp_all [oG]
  intro amf
  refine jE 5 141 ?_ ?_
  ·intro KW
   try have amg:=dT KW
   refine ak 2 ?_;intro a H;refine Gp H (wg H rfl rfl KW) rfl rfl rfl ?_;clear H;refine ak 1 ?_;intro a H;refine QL (_) _ _ ?_ sB;clear hst hwd hnm hck hcd;(try clear hq1);(try clear hq2);(try clear hq3);(try clear hq0);(try clear hq4);(try clear mh);(try clear kU);(try clear mo);simp_all [oG]
  intro KW
  try have amg:=dF KW
  refine ak 4 ?_;intro a H;refine QL (_) _ _ ?_ sB;clear hst hwd hnm hck hcd;(try clear hq1);(try clear hq2);(try clear hq3);(try clear hq0);(try clear hq4);(try clear mh);(try clear kU);(try clear mo);simp_all [oG]
 clear H;intro q6 a w hI H;dsimp only [lca,aR] at H;(repeat with_reducible refine dK ?_);refine d0 ?_;have kU:=hI;refine gX 2 H ?_ ?_ <;> clear H
 ·intro KV
  have e:jk x=11:=by unfold jk;rw [ah f0,ah f1,ah f2,ay (by rw [← kU];exact KV)]
  refine aP 3 ?_;exact ⟨by rw [e],rfl⟩
 intro KV
 try have ara:=dF KV
 have f3:¬ (decide (x.kind=1∨x.kind=5) && oG x.text)=true:=by rw [← kU,KV];decide
 refine ak 1 ?_;intro a H;refine BG (ι:=Bool) (Tc:=[(1,_),(3,_)]) 9 (fun (q7:Bool)=>[(155,.bool q7)]) (fun (q7:Bool)=>q7=(decide (x.kind=5) && decide (1024 < (x.text.size:Int)))) sB ?_ ?_
 ·intro XJ;refine nJ 4 150 H ?_ ?_ <;> clear H
  ·intro KZ
   try have amh:=dT KZ
   refine ak 2 ?_;intro a H;refine CZ iV H (wg H rfl rfl KZ) rfl rfl ?_;clear H;refine ak 2 ?_;intro a H;refine XJ (_) _ _ ?_ sB;clear hst hwd hnm hck hcd;(try clear hq1);(try clear hq2);(try clear hq3);(try clear hq0);(try clear hq4);(try clear mh);(try clear kU);(try clear mo);simp_all
  intro KZ
  try have amh:=dF KZ
  refine ak 5 ?_;intro a H;refine XJ (_) _ _ ?_ sB;clear hst hwd hnm hck hcd;(try clear hq1);(try clear hq2);(try clear hq3);(try clear hq0);(try clear hq4);(try clear mh);(try clear kU);(try clear mo);simp_all
 clear H;intro q7 a w hI H;dsimp only [lca,aR] at H;(repeat with_reducible refine dK ?_);refine d0 ?_;have mo:=hI;refine gX 2 H ?_ ?_ <;> clear H
 ·intro KX
  have e:jk x=10:=by unfold jk;rw [ah f0,ah f1,ah f2,ah f3,ay (by rw [← mo];exact KX)]
  refine aP 3 ?_;exact ⟨by rw [e],rfl⟩
 intro KX
 try have arb:=dF KX
 have f4:¬ (decide (x.kind=5) && decide (1024 < (x.text.size:Int)))=true:=by rw [← mo,KX];decide
 refine ak 1 ?_;intro a H;refine BG (ι:=Bool) (Tc:=[]) 7 (fun (q8:Bool)=>[(163,.bool q8)]) (fun (q8:Bool)=>q8=(xL x && !qo x.text)) (by exact H.sub trivial) ?_ ?_
 ·intro XK;refine nJ 2 158 H ?_ ?_ <;> clear H
  ·intro Ld
   try have ami:=dT Ld
   refine ak 2 ?_;intro a H;refine s_call P5 H (wg H rfl rfl Ld) rfl (O9 _ _ H.ro x.text hs) rfl ?_;clear H;rintro arj _ a w ⟨rfl,rfl⟩ - H;refine aH 2 H ?_;clear H;intro a H;refine XK (_) _ _ ?_ sB;rw [← hst];clear hst hwd hnm hck hcd;(try clear hq1);(try clear hq2);(try clear hq3);(try clear hq0);(try clear hq4);(try clear mh);(try clear kU);(try clear mo);simp_all
  intro Ld
  try have ami:=dF Ld
  refine ak 5 ?_;intro a H;refine XK (_) _ _ ?_ sB;rw [← hst];clear hst hwd hnm hck hcd;(try clear hq1);(try clear hq2);(try clear hq3);(try clear hq0);(try clear hq4);(try clear mh);(try clear kU);(try clear mo);simp_all
 clear H;intro q8 a w hI H;dsimp only [lca,aR] at H;(repeat with_reducible refine dK ?_);refine d0 ?_;have hq8:=hI;refine gX 2 H ?_ ?_ <;> clear H
 ·intro Qq
  have e:jk x=13:=by unfold jk;rw [ah f0,ah f1,ah f2,ah f3,ah f4,ay (by rw [← hq8];exact Qq)]
  refine aP 3 ?_;exact ⟨by rw [e],rfl⟩
 intro Qq
 refine ak 1 ?_
 have e:jk x=0:=by unfold jk;rw [ah f0,ah f1,ah f2,ah f3,ah f4,ah (by rw [← hq8,Qq];decide)]
 refine aP 3 ?_;exact ⟨by rw [e],rfl⟩
end
section
open Go.RowKit
structure CS where
 n:Int
 aX:List Int
abbrev CR:=Int × CS
def fD (r:CR) (f:CS→CR):CR:=if r.1≠0 then r else f r.2
theorem Fb {r:CR} {f:CS→CR} (h:r.1=0):fD r f=f r.2:=by rw [fD,ah (fun h'=>h' h)]
theorem Kh {r:CR} {f:CS→CR} (h:r.1≠0):fD r f=r:=by rw [fD,ay h]
def iN (C:bK) (s:CS) (x:Int):CR:=(ow C.us s.aX x,⟨s.n,jC C.us s.aX x⟩)
def jP (C:bK) (body note:Bool) (t k i:Int) (s:CS):CR :=
 if k=3 then (bW (!body) 19,s) else if k=6 then fD (bW note 19,s) fun s=>iN C s i else if k=7 then fD (bW (decide (4≤t)) 17,s) fun s=>iN C s i else if k=8 then (bW (!decide (1≤i∧i≤1073741824)) 18,s) else (0,s)
def Bn (C:bK) (h:dh) (n:Nat):Int:=dz [fI C 9 h,bW (decide ((n:Int)=0)) 11,bW (decide (32 < (n:Int))) 9]
def jW (n:Nat) (f:CS→CR) (s:CS):CR:=if n=0 then (11,s) else if 256 < n then (9,s) else f s
mutual
def eG (C:bK) (body note:Bool) (t:Int):au→CS→CR
 | .mk k c i tx h f r,s =>
  fD (jk (.mk k c i tx h f r),s) fun s=>fD (jP C body note t k i ⟨s.n+(if k=1 then oD tx else 1:Nat),s.aX⟩) fun s=>fD (fI C k h,s) fun s =>
   if k=6 then gI C false true t f s else if k=7 then jW r.length (fun s=>gD C note (t+1) r s) s else (0,s)
def xK (C:bK) (note:Bool) (t:Int):aM→CS→CR
 | .mk h cs,s=>fD (Bn C h cs.length,s) fun s=>nH C note t cs s
def cellC (C:bK) (note:Bool) (t:Int):aL→CS→CR
 | .mk i h f,s=>fD (iN C s i) fun s=>fD (fI C 10 h,s) fun s=>gI C false note t f s
def gI (C:bK) (body note:Bool) (t:Int):List au→CS→CR
 | [],s=>(0,s)
 | x :: r,s=>fD (eG C body note t x s) fun s=>gI C body note t r s
def gD (C:bK) (note:Bool) (t:Int):List aM→CS→CR
 | [],s=>(0,s)
 | x :: r,s=>fD (xK C note t x s) fun s=>gD C note t r s
def nH (C:bK) (note:Bool) (t:Int):List aL→CS→CR
 | [],s=>(0,s)
 | x :: r,s=>fD (cellC C note t x s) fun s=>nH C note t r s
end
theorem MI (C:bK) (body note:Bool) (t:Int) (x:au) (s:CS):eG C body note t x s=fD (jk x,s) fun s=>fD (jP C body note t x.kind x.id ⟨s.n+(fU x:Nat),s.aX⟩) fun s=>fD (fI C x.kind x.head,s) fun s =>
  if x.kind=6 then gI C false true t x.flow s else if x.kind=7 then jW x.rows.length (fun s=>gD C note (t+1) x.rows s) s else (0,s):=by cases x;rw [eG];rfl
theorem Jq (C:bK) (note:Bool) (t:Int) (x:aM) (s:CS):xK C note t x s=fD (Bn C x.head x.cells.length,s) fun s=>nH C note t x.cells s:=by cases x;rw [xK];rfl
theorem Ic (C:bK) (note:Bool) (t:Int) (x:aL) (s:CS):cellC C note t x s=fD (iN C s x.id) fun s=>fD (fI C 10 x.head,s) fun s=>gI C false note t x.flow s:=by cases x;rw [cellC];rfl
def Up (s:CS) (z:Nat) (r:CR):Prop:=s.n≤r.2.n∧r.2.n≤s.n+z
theorem Up.and {s:CS} {z y q:Nat} {r:CR} {f:CS→CR} (h:Up s z r) (hq:z+y≤q) (hf:∀ s,Up s y (f s)):Up s q (fD r f):=by
 obtain ⟨h1,h2⟩:=h
 unfold fD
 split
 ·exact ⟨h1,by omega⟩
 obtain ⟨h3,h4⟩:=hf r.2;exact ⟨by omega,by omega⟩
theorem Up.zero (s:CS) (e:Int) (q:Nat):Up s q (e,s):=⟨Int.le_refl _,by dsimp only;omega⟩
theorem Up.le {s:CS} {z y:Nat} {r:CR} (h:Up s z r) (hq:z≤y):Up s y r:=⟨h.1,by have:=h.2;omega⟩
theorem abg (C:bK) (s:CS) (x:Int) (q:Nat):Up s q (iN C s x):=⟨Int.le_refl _,by dsimp only [iN];omega⟩
theorem ape (C:bK) (body note:Bool) (t k i:Int) (s:CS) (q:Nat):Up s q (jP C body note t k i s):=by
 unfold jP
 (repeat' split) <;> first|exact Up.zero _ _ _|exact (Up.zero _ _ 0).and (y:=0) (by omega) fun s=>abg _ _ _ _
mutual
theorem abh (C:bK) (body note:Bool) (t:Int):∀ (x:au) (s:CS),Up s (bJ x.dat) (eG C body note t x s)
 | .mk k c i tx h f r,s=>by
  have hz:=qC (.mk k c i tx h f r);have hf:=NR C false true t f;have hr:=abj C note (t+1) r;rw [eG];obtain ⟨u,hu'⟩:∃ u,u=(if k=1 then oD tx else 1:Nat):=⟨_,rfl⟩
  have hu:u≤tx.size+1:=by
   have:=Ij tx
   rw [hu'];split <;> omega
  rw [← hu'];dsimp only [au.text,au.flow,au.rows,au.head] at hz;refine (Up.zero s _ 0).and (Nat.le_of_eq (fQ _)) fun s=>?_
  have h2:Up s (u) (jP C body note t k i ⟨s.n+(u:Nat),s.aX⟩):=by
   obtain ⟨h3,h4⟩:=ape C body note t k i ⟨s.n+(u:Nat),s.aX⟩ 0;dsimp only at h3 h4;exact ⟨by omega,by omega⟩
  refine h2.and (y:=aZ f+fE r) (by omega) fun s=>(Up.zero s _ 0).and (Nat.le_of_eq (fQ _)) fun s=>?_
  by_cases h6:k=6
  ·rw [ay h6];exact (hf s).le (by omega)
  rw [ah h6]
  by_cases h7:k=7
  ·rw [ay h7]
   unfold jW
   by_cases c1:r.length=0
   ·rw [ay c1];exact Up.zero _ _ _
   rw [ah c1]
   by_cases c2:256 < r.length
   ·rw [ay c2];exact Up.zero _ _ _
   rw [ah c2];exact (hr s).le (by omega)
  rw [ah h7];exact Up.zero _ _ _
theorem apf (C:bK) (note:Bool) (t:Int):∀ (x:aM) (s:CS),Up s (bJ x.dat) (xK C note t x s)
 | .mk h cs,s=>by
  have hz:=vP (.mk h cs);have hc:=abf C note t cs;rw [Jq];dsimp only [aM.cells,aM.head] at hz ⊢;exact (Up.zero s _ 0).and (y:=gZ cs) (by omega) fun s=>hc s
theorem apd (C:bK) (note:Bool) (t:Int):∀ (x:aL) (s:CS),Up s (bJ x.dat) (cellC C note t x s)
 | .mk i h f,s=>by
  have hz:=vO (.mk i h f);have hf:=NR C false note t f;rw [Ic];dsimp only [aL.flow,aL.head,aL.id] at hz ⊢;exact (abg C s _ 0).and (y:=aZ f) (by omega) fun s=>(Up.zero s _ 0).and (Nat.le_of_eq (fQ _)) fun s=>hf s
theorem NR (C:bK) (body note:Bool) (t:Int):∀ (l:List au) (s:CS),Up s (aZ l) (gI C body note t l s)
 | [],s=>by rw [gI];exact Up.zero _ _ _
 | x :: r,s=>by
  rw [gI];exact (abh C body note t x s).and (y:=aZ r) (by simp only [aZ,eu,dX];omega) fun s=>NR C body note t r s
theorem abj (C:bK) (note:Bool) (t:Int):∀ (l:List aM) (s:CS),Up s (fE l) (gD C note t l s)
 | [],s=>by rw [gD];exact Up.zero _ _ _
 | x :: r,s=>by
  rw [gD];exact (apf C note t x s).and (y:=fE r) (by simp only [fE,eu,dX];omega) fun s=>abj C note t r s
theorem abf (C:bK) (note:Bool) (t:Int):∀ (l:List aL) (s:CS),Up s (gZ l) (nH C note t l s)
 | [],s=>by rw [nH];exact Up.zero _ _ _
 | x :: r,s=>by
  rw [nH];exact (apd C note t x s).and (y:=gZ r) (by simp only [gZ,eu,dX];omega) fun s=>abf C note t r s
end
def pz {α:Type} (f:α→CS→CR) (l:List α) (s:CS):Nat→CS
 | 0=>s
 | i+1=>match l[i]? with|some x=>(f x (pz f l s i)).2|none=>pz f l s i
def Ay {α:Type} (f:α→CS→CR) (l:List α) (s:CS) (i:Nat):Int:=match l[i]? with|some x=>(f x (pz f l s i)).1|none=>0
theorem Ug {α:Type} (f:α→CS→CR) (x:α) (l:List α) (s:CS):∀ i,pz f (x :: l) s (i+1)=pz f l (f x s).2 i
 | 0=>rfl
 | i+1=>by
  have ih:=Ug f x l s i
  simp only [pz,List.getElem?_cons_succ] at ih ⊢
  rw [ih]
theorem agN {α:Type} (f:α→CS→CR) (x:α) (l:List α) (s:CS) (i:Nat):Ay f (x :: l) s (i+1)=Ay f l (f x s).2 i:=by
 unfold Ay
 simp only [List.getElem?_cons_succ,Ug]
theorem acC (E:Nat→Int) (n:Nat):iY E (n+1)=if E 0≠0 then E 0 else iY (fun i=>E (i+1)) n:=by
 unfold iY
 rw [List.range_succ_eq_map,eu,dz,List.map_map]
 rfl
theorem Zd (C:bK) (body note:Bool) (t:Int):∀ (l:List au) (s:CS),(gI C body note t l s).1=iY (Ay (eG C body note t) l s) l.length∧((gI C body note t l s).1=0→(gI C body note t l s).2=pz (eG C body note t) l s l.length)
 | [],s=>by rw [gI];exact ⟨rfl,fun _=>rfl⟩
 | x :: r,s=>by
  obtain ⟨h1,h2⟩:=Zd C body note t r (eG C body note t x s).2;have e0:Ay (eG C body note t) (x :: r) s 0=(eG C body note t x s).1:=rfl;rw [gI,kG,acC,e0,Ug]
  simp only [agN]
  unfold fD
  split
  ·next h=>exact ⟨rfl,fun h0=>absurd h0 h⟩
  exact ⟨h1,h2⟩
theorem abk (C:bK) (body note:Bool) (t:Int) (l:List au) (s:CS):∀ i,i≤l.length→s.n≤(pz (eG C body note t) l s i).n∧(pz (eG C body note t) l s i).n+(aZ (l.drop i):Nat)≤s.n+(aZ l:Nat)
 | 0,_=>⟨Int.le_refl _,Int.le_refl _⟩
 | i+1,hi=>by
  have hi':i < l.length:=hi;obtain ⟨h1,h2⟩:=abk C body note t l s i (by omega)
  have hs:pz (eG C body note t) l s (i+1)=(eG C body note t l[i] (pz (eG C body note t) l s i)).2:=by rw [pz,dY hi']
  have hd:aZ (l.drop i)=1+bJ l[i].dat+aZ (l.drop (i+1)):=by
   simp only [aZ];rw [lW hi',eu,dX]
  obtain ⟨h3,h4⟩:=abh C body note t l[i] (pz (eG C body note t) l s i);rw [hs];exact ⟨by omega,by omega⟩
end
section
open Go.RowKit
theorem Pp:∀ args w,(callFunc 107 args).run prog w=.ok (.enter 107 args) w:=enters func107 rfl (by kernel_rfl)
mutual
/-- The ids in items, in document order. -/
def nO:au→List Int
 | .mk k _ i _ _ f r=>(if k=6∨k=7 then [i] else [])++((if k=6 then dQ f else [])++(if k=7 then lF r else []))
def dQ:List au→List Int
 | []=>[]
 | x :: r=>nO x++dQ r
def oO:aM→List Int
 | .mk _ c=>mq c
def lF:List aM→List Int
 | []=>[]
 | x :: r=>oO x++lF r
def oN:aL→List Int
 | .mk i _ f=>i :: dQ f
def mq:List aL→List Int
 | []=>[]
 | x :: r=>oN x++mq r
end
theorem Y0 (x:au):nO x=(if x.kind=6∨x.kind=7 then [x.id] else [])++((if x.kind=6 then dQ x.flow else [])++(if x.kind=7 then lF x.rows else [])):=by cases x;rw [nO];rfl
theorem Y3 (x:aM):oO x=mq x.cells:=by cases x;rw [oO];rfl
theorem YZ (x:aL):oN x=x.id :: dQ x.flow:=by cases x;rw [oN];rfl
def zL (i:Int):AP:=fun args _=>args=[vi i]
def Oz (n:Nat):Prop:=∀ (fv:aj) (Gi:GH) (xs:List AP) (J:Nat→GH→OL→Prop) (Jx:GH→OL→Prop) (G:GH) (L:OL) (w0:World) (j:Nat) (l:List au) (v:aj),
 (∀ b o,Gi b=some o→G b=some o)→BK prog fv Gi xs J Jx→BO J→DF Jx→J j G L→fC G L w0→av G (.sl 11 (l.map au.dat)) v→aZ l < n→(∀ i a,(dQ l)[i]?=some a→xs[j+i]?=some (zL a)) →
 Calls prog 107 #[v,fv] w0 (eP w0 G L fun u G' L'=>∃ b,u=.bool b∧(b=true→J (j+(dQ l).length) G' L')∧(b=false→Jx G' L'))
theorem apt {n:Nat} (ih:Oz n) (hn:n≤4294967296):Oz (n+1):=by
 intro fv Gi xs J Jx G L w0 j0 l v hGi hcb jT hJx hJ0 hO hv hz hx0;obtain ⟨A,c,rfl,hc1,hc2,hg⟩:=hv.slice;rw [bO] at *;have hll:=wR l;refine gB (N:=74) (T:=[(0,_),(1,_)]) func107 rfl ntmps107 rfl rfl hO ?_;refine ak 10 ?_;intro a H;refine eO (ι:=Nat × Nat × OL × GH) (Tc:=[(1,_),(11,_),(12,_)]) (Lc:=[]) (fun gh=>[(13,vi gh.1)]) (fun gh=>[]++gh.2.2.1) (fun gh=>gh.2.2.2) (fun gh=>gh.1≤l.length∧(∀ b o,G b=some o→gh.2.2.2 b=some o)∧Now xs zL J (j0+(dQ l).length) gh.2.1 (dQ (l.drop gh.1)) gh.2.2.2 gh.2.2.1) (fun gh=>l.length - gh.1) ((0,j0,L,G)) sB ?_ ?_
 ·exact ⟨by omega,fun _ _ h=>h,⟨hJ0,hx0,rfl⟩⟩
 clear H;rintro ⟨k,j,Lt,g⟩ a w hI H;dsimp only at hI H;obtain ⟨hk,hgm,bG⟩:=hI;dsimp only [lca,aR] at H;refine dN 4 H ?_ ?_ <;> clear H
 ·intro qg
  have hk2:k < l.length:=by omega
  obtain ⟨b,o,pA,pn,pc,dA,dn,dc,yA,yn,yc,fA,fn,fc,rA,rn,rc,rfl,hrow,hhd,hfl,hrw⟩:=zx hk2 hg;replace hrow:=fun j u hj=>aJ hgm (hrow j u hj);have hrn:=hrw.len;rw [bO] at hrn;subst hrn;have hrs:=BJ l[k].rows;have hsz1:=JL hk2;rw [lW hk2] at bG
  simp only [dQ,Y0,gy] at bG
  refine ak 5 ?_;intro a H;refine bg dR (cs:=[_,_,_,_,_,_,_,_,_,_,_]) H wn rfl rfl (fun j v hj=>H.hp.aF (hrow j v hj)) rfl ?_;clear H;intro a H;refine dx dR H wn rfl ?_;clear H;intro b6 a w hb6 H;refine aV dR 0 (vs:=[_,_,_,_,_,_,_,_,_,_,_]) _ H wn rfl rfl rfl rfl rfl rfl rfl rfl ?_;clear H;intro w H;dsimp only [List.set,setRow] at H;refine nJ 7 20 H ?_ ?_ <;> clear H
  ·intro h20
   try have wI:=dT h20
   rw [ay (Or.inl wI),ay wI,ah (by omega)] at bG
   simp only [jg,iD] at bG
   refine ak 5 ?_;intro a H;refine C8 H (wg H rfl rfl rfl) rfl rfl ?_;clear H;intro a H;refine Gq ahj H (wg H rfl rfl rfl) rfl rfl ?_;clear H;intro a H;refine kX bH H (wg H rfl rfl rfl) rfl (H.hp.nQ 0 rfl rfl) rfl ?_;clear H;intro a H;refine pq (Li:=[_]) (L:=Lt) H (wg H rfl rfl rfl) rfl rfl (hcb _ _ _ _ _ ⟨_,bG.head,rfl⟩ (fun b o h=>hgm b o (hGi b o h)) bG.now (Hp.owns (Li:=[_]) H.hp)) rfl ?_;clear H;rintro v29 Ah Aj a w ⟨b29,rfl,hb1,hb2⟩ Ed H;refine TP H (wg H rfl rfl rfl) rfl rfl ?_;clear H;refine goC 2 ?_ ?_
   ·intro h31
    try have p31:=dT h31
    refine ak 3 ?_;intro a H;refine lr H results107 rfl ?_
    first
     | exact H.hp.bZ (L':=Aj) (by repeat (first|exact bX _|apply List.Sublist.cons)) ⟨_,rfl,fun e=>(by cases e),fun _=>hb2 (by simpa using h31)⟩
     | exact H.hp.bZ (L':=Du) (by repeat (first|exact bX _|apply List.Sublist.cons)) ⟨_,rfl,fun e=>(by cases e),fun _=>hb4 (by simpa using mJ)⟩
     | exact H.hp.bZ (L':=Dx) (by repeat (first|exact bX _|apply List.Sublist.cons)) ⟨_,rfl,fun e=>(by cases e),fun _=>hb6 (by simpa using h64)⟩
     | exact H.hp.bZ (L':=Dy) (by repeat (first|exact bX _|apply List.Sublist.cons)) ⟨_,rfl,fun e=>(by cases e),fun _=>yE (by simpa using mK)⟩
     | exact H.hp.bZ (L':=Lt) (by repeat (first|exact bX _|apply List.Sublist.cons)) ⟨_,rfl,fun _=>(by rw [fM (by omega),dQ] at bG;have:=bG.len;simp only [List.length_nil,kI] at this;rw [← this];exact bG.now),fun e=>(by cases e)⟩
   intro h31
   try have p31:=dF h31
   have mZ:=bG.step (hb1 (by simpa using h31));have iM:∀ b o,G b=some o→Ah b=some o:=fun b o h=>Ed b o (hgm b o h);refine ak 10 ?_;intro a H;refine fB Pp (Li:=[_]) (L:=Aj) H (wg H rfl rfl h20) rfl (ih fv Gi xs J Jx _ _ _ (j+1) l[k].flow _ (fun b o h=>iM b o (hGi b o h)) hcb jT hJx mZ.now (Hp.owns (Li:=[_]) H.hp) (hfl.mono iM) (by omega) mZ.part) rfl ?_;clear H;rintro v39 Vb Du a w ⟨b39,rfl,hb3,hb4⟩ Ya H;refine gX 3 H ?_ ?_ <;> clear H
   ·intro mJ
    try have p41:=dT mJ
    refine ak 3 ?_;intro a H;refine lr H results107 rfl ?_
    first
     | exact H.hp.bZ (L':=Aj) (by repeat (first|exact bX _|apply List.Sublist.cons)) ⟨_,rfl,fun e=>(by cases e),fun _=>hb2 (by simpa using h31)⟩
     | exact H.hp.bZ (L':=Du) (by repeat (first|exact bX _|apply List.Sublist.cons)) ⟨_,rfl,fun e=>(by cases e),fun _=>hb4 (by simpa using mJ)⟩
     | exact H.hp.bZ (L':=Dx) (by repeat (first|exact bX _|apply List.Sublist.cons)) ⟨_,rfl,fun e=>(by cases e),fun _=>hb6 (by simpa using h64)⟩
     | exact H.hp.bZ (L':=Dy) (by repeat (first|exact bX _|apply List.Sublist.cons)) ⟨_,rfl,fun e=>(by cases e),fun _=>yE (by simpa using mK)⟩
     | exact H.hp.bZ (L':=Lt) (by repeat (first|exact bX _|apply List.Sublist.cons)) ⟨_,rfl,fun _=>(by rw [fM (by omega),dQ] at bG;have:=bG.len;simp only [List.length_nil,kI] at this;rw [← this];exact bG.now),fun e=>(by cases e)⟩
   intro mJ
   try have p41:=dF mJ
   refine goB 7 ?_ ?_
   ·intro p44
    refine ak 4 ?_;intro a H;refine aG ?_;refine dH ((k+1,j+1+(dQ l[k].flow).length,Du,Vb)) (by exact (H.cu (Pl:=[_]) (bS:=[]) [] (by decide) rfl).sub ⟨rfl,rfl,rfl,rfl,bB⟩) ?_ ?_
    ·(try dsimp only);exact ⟨by omega,fun b o h=>Ya b o (iM b o h),mZ.jump (hb3 (by simpa using mJ))⟩
    first|omega|(dsimp only;omega)
   intro p44
   intro a H;exact absurd (show l[k].kind=7 by omega) (by omega)
  intro h20
  try have wI:=dF h20
  refine jE 5 25 ?_ ?_
  ·intro Le
   try have p25:=dT Le
   rw [ay (Or.inr p25),ah wI,ay p25] at bG
   simp only [jg,iD] at bG
   refine ak 3 ?_;intro a H;refine pq (Li:=[_]) (L:=Lt) H (wg H rfl rfl Le) rfl rfl (hcb _ _ _ _ _ ⟨_,bG.head,rfl⟩ (fun b o h=>hgm b o (hGi b o h)) bG.now (Hp.owns (Li:=[_]) H.hp)) rfl ?_;clear H;rintro v29 Ah Aj a w ⟨b29,rfl,hb1,hb2⟩ Ed H;refine gX 3 H ?_ ?_ <;> clear H
   ·intro h31
    try have p31:=dT h31
    refine ak 3 ?_;intro a H;refine lr H results107 rfl ?_
    first
     | exact H.hp.bZ (L':=Aj) (by repeat (first|exact bX _|apply List.Sublist.cons)) ⟨_,rfl,fun e=>(by cases e),fun _=>hb2 (by simpa using h31)⟩
     | exact H.hp.bZ (L':=Du) (by repeat (first|exact bX _|apply List.Sublist.cons)) ⟨_,rfl,fun e=>(by cases e),fun _=>hb4 (by simpa using mJ)⟩
     | exact H.hp.bZ (L':=Dx) (by repeat (first|exact bX _|apply List.Sublist.cons)) ⟨_,rfl,fun e=>(by cases e),fun _=>hb6 (by simpa using h64)⟩
     | exact H.hp.bZ (L':=Dy) (by repeat (first|exact bX _|apply List.Sublist.cons)) ⟨_,rfl,fun e=>(by cases e),fun _=>yE (by simpa using mK)⟩
     | exact H.hp.bZ (L':=Lt) (by repeat (first|exact bX _|apply List.Sublist.cons)) ⟨_,rfl,fun _=>(by rw [fM (by omega),dQ] at bG;have:=bG.len;simp only [List.length_nil,kI] at this;rw [← this];exact bG.now),fun e=>(by cases e)⟩
   intro h31
   try have p31:=dF h31
   have mZ:=bG.step (hb1 (by simpa using h31));have iM:∀ b o,G b=some o→Ah b=some o:=fun b o h=>Ed b o (hgm b o h);refine goB 22 ?_ ?_
   ·intro p44
    intro a H;exact absurd p25 p44
   intro p44
   refine ak 8 ?_;intro a H;refine eO (ι:=Nat × Nat × OL × GH) (Tc:=[(1,_),(11,_),(12,_),(13,_),(46,_),(47,_)]) (Lc:=[(_,_)]) (fun gh=>[(48,vi gh.1)]) (fun gh=>[]++gh.2.2.1) (fun gh=>gh.2.2.2) (fun gh=>gh.1≤l[k].rows.length∧(∀ b o,G b=some o→gh.2.2.2 b=some o)∧Now xs zL J (j0+(dQ l).length) gh.2.1 (lF (l[k].rows.drop gh.1)++dQ (l.drop (k+1))) gh.2.2.2 gh.2.2.1) (fun gh=>l[k].rows.length - gh.1) ((0,j+1,Aj,Ah)) sB ?_ ?_
   ·exact ⟨by omega,iM,mZ⟩
   clear H;rintro ⟨rk,j3,Lt3,g3⟩ a w hI H;dsimp only at hI H;obtain ⟨RX,vg,oL⟩:=hI;dsimp only [lca,aR] at H;refine dN 4 H ?_ ?_ <;> clear H
   ·intro p49
    have hk3:rk < l[k].rows.length:=by omega
    obtain ⟨b2,o2,qA,qn,qc,eA,en,ec,zA,zn,zc,cA,cn,cc,rfl,hrow,Bf,hcl⟩:=EC hk3 hrw.at_;replace hrow:=fun j u hj=>aJ vg (hrow j u hj);have hcn:=hcl.len;rw [bO] at hcn;subst hcn;have hsz2:=JM hk3;have hcs:=BH l[k].rows[rk].cells;rw [lW hk3] at oL
    simp only [lF,Y3,gy] at oL
    refine ak 5 ?_;intro a H;refine bg iU (cs:=[_,_,_,_,_,_]) H wn rfl rfl (fun j v hj=>H.hp.aF (hrow j v hj)) rfl ?_;clear H;intro a H;refine dx iU H wn rfl ?_;clear H;intro b8 a w yE H;refine aV iU 0 (vs:=[_,_,_,_,_,_]) _ H wn rfl rfl rfl rfl rfl rfl rfl rfl ?_;clear H;intro w H;dsimp only [List.set,setRow] at H;refine aH 8 H ?_;clear H;intro a H;refine eO (ι:=Nat × Nat × OL × GH) (Tc:=[(1,_),(11,_),(12,_),(13,_),(46,_),(47,_),(48,_),(53,_),(54,_)]) (Lc:=[(_,_),(_,_)]) (fun gh=>[(55,vi gh.1)]) (fun gh=>[]++gh.2.2.1) (fun gh=>gh.2.2.2) (fun gh=>gh.1≤l[k].rows[rk].cells.length∧(∀ b o,G b=some o→gh.2.2.2 b=some o)∧Now xs zL J (j0+(dQ l).length) gh.2.1 (mq (l[k].rows[rk].cells.drop gh.1)++(lF (l[k].rows.drop (rk+1))++dQ (l.drop (k+1)))) gh.2.2.2 gh.2.2.1) (fun gh=>l[k].rows[rk].cells.length - gh.1) ((0,j3,Lt3,g3)) sB ?_ ?_
    ·exact ⟨by omega,vg,oL⟩
    clear H;rintro ⟨ck,j4,Lt4,g4⟩ a w hI H;dsimp only at hI H;obtain ⟨hck,xk,ng⟩:=hI;dsimp only [lca,aR] at H;refine dN 4 H ?_ ?_ <;> clear H
    ·intro p56
     have hk4:ck < l[k].rows[rk].cells.length:=by omega
     obtain ⟨b3,o3,sA,sn,sc,tA,tn,tc,uA,un,uc,gA,gn,gc,rfl,hrow,hch,hcf⟩:=DL hk4 hcl.at_;replace hrow:=fun j u hj=>aJ xk (hrow j u hj);have Ml:=JK hk4;rw [lW hk4] at ng
     simp only [mq,YZ,gy,jg] at ng
     refine ak 5 ?_;intro a H;refine bg iw (cs:=[_,_,_,_,_,_,_]) H wn rfl rfl (fun j v hj=>H.hp.aF (hrow j v hj)) rfl ?_;clear H;intro a H;refine dx iw H wn rfl ?_;clear H;intro b10 a w LJ H;refine aV iw 0 (vs:=[_,_,_,_,_,_,_]) _ H wn rfl rfl rfl rfl rfl rfl rfl rfl ?_;clear H;intro w H;dsimp only [List.set,setRow] at H;refine aH 5 H ?_;clear H;intro a H;refine pq (Li:=[_,_,_]) (L:=Lt4) H wn rfl rfl (hcb _ _ _ _ _ ⟨_,ng.head,rfl⟩ (fun b o h=>xk b o (hGi b o h)) ng.now (Hp.owns (Li:=[_,_,_]) H.hp)) rfl ?_;clear H;rintro v62 Vf Dx a w ⟨VI,rfl,hb5,hb6⟩ I5 H;refine nJ 2 64 H ?_ ?_ <;> clear H
     ·intro h64
      try have p64:=dT h64
      refine ak 11 ?_;intro a H;refine lr H results107 rfl ?_
      first
       | exact H.hp.bZ (L':=Aj) (by repeat (first|exact bX _|apply List.Sublist.cons)) ⟨_,rfl,fun e=>(by cases e),fun _=>hb2 (by simpa using h31)⟩
       | exact H.hp.bZ (L':=Du) (by repeat (first|exact bX _|apply List.Sublist.cons)) ⟨_,rfl,fun e=>(by cases e),fun _=>hb4 (by simpa using mJ)⟩
       | exact H.hp.bZ (L':=Dx) (by repeat (first|exact bX _|apply List.Sublist.cons)) ⟨_,rfl,fun e=>(by cases e),fun _=>hb6 (by simpa using h64)⟩
       | exact H.hp.bZ (L':=Dy) (by repeat (first|exact bX _|apply List.Sublist.cons)) ⟨_,rfl,fun e=>(by cases e),fun _=>yE (by simpa using mK)⟩
       | exact H.hp.bZ (L':=Lt) (by repeat (first|exact bX _|apply List.Sublist.cons)) ⟨_,rfl,fun _=>(by rw [fM (by omega),dQ] at bG;have:=bG.len;simp only [List.length_nil,kI] at this;rw [← this];exact bG.now),fun e=>(by cases e)⟩
     intro h64
     try have p64:=dF h64
     have Ee:=ng.step (hb5 (by simpa using h64));refine ak 3 ?_;intro a H;refine fB Pp (Li:=[_,_,_]) (L:=Dx) H (wg H rfl rfl h64) rfl (ih fv Gi xs J Jx _ _ _ (j4+1) l[k].rows[rk].cells[ck].flow _ (fun b o h=>I5 b o (xk b o (hGi b o h))) hcb jT hJx Ee.now (Hp.owns (Li:=[_,_,_]) H.hp) ((hcf.mono xk).mono I5) (by omega) Ee.part) rfl ?_;clear H;rintro v68 Vg Dy a w ⟨b68,rfl,sV,yE⟩ ajh H;refine gX 3 H ?_ ?_ <;> clear H
     ·intro mK
      try have p70:=dT mK
      refine ak 3 ?_;intro a H;refine lr H results107 rfl ?_
      first
       | exact H.hp.bZ (L':=Aj) (by repeat (first|exact bX _|apply List.Sublist.cons)) ⟨_,rfl,fun e=>(by cases e),fun _=>hb2 (by simpa using h31)⟩
       | exact H.hp.bZ (L':=Du) (by repeat (first|exact bX _|apply List.Sublist.cons)) ⟨_,rfl,fun e=>(by cases e),fun _=>hb4 (by simpa using mJ)⟩
       | exact H.hp.bZ (L':=Dx) (by repeat (first|exact bX _|apply List.Sublist.cons)) ⟨_,rfl,fun e=>(by cases e),fun _=>hb6 (by simpa using h64)⟩
       | exact H.hp.bZ (L':=Dy) (by repeat (first|exact bX _|apply List.Sublist.cons)) ⟨_,rfl,fun e=>(by cases e),fun _=>yE (by simpa using mK)⟩
       | exact H.hp.bZ (L':=Lt) (by repeat (first|exact bX _|apply List.Sublist.cons)) ⟨_,rfl,fun _=>(by rw [fM (by omega),dQ] at bG;have:=bG.len;simp only [List.length_nil,kI] at this;rw [← this];exact bG.now),fun e=>(by cases e)⟩
     intro mK
     try have p70:=dF mK
     refine ak 4 ?_;intro a H;refine aG ?_;refine dH ((ck+1,j4+1+(dQ l[k].rows[rk].cells[ck].flow).length,Dy,Vg)) (by exact (H.cu (Pl:=[_,_,_]) (bS:=[_,_]) [1,2] (by decide) rfl).sub ⟨rfl,rfl,rfl,rfl,rfl,rfl,rfl,rfl,rfl,rfl,bB⟩) ?_ ?_
     ·(try dsimp only);exact ⟨by omega,fun b o h=>ajh b o (I5 b o (xk b o h)),Ee.jump (sV (by simpa using mK))⟩
     first|omega|(dsimp only;omega)
    intro p56
    refine ak 4 ?_;intro a H;refine aG ?_;refine dH ((rk+1,j4,Lt4,g4)) (by exact (H.cu (Pl:=[_,_]) (bS:=[_]) [1] (by decide) rfl).sub ⟨rfl,rfl,rfl,rfl,rfl,rfl,rfl,bB⟩) ?_ ?_
    ·(try dsimp only);exact ⟨by omega,xk,by rw [fM (by omega),mq,iD] at ng;exact ng⟩
    first|omega|(dsimp only;omega)
   intro p49
   refine ak 4 ?_;intro a H;refine aG ?_;refine dH ((k+1,j3,Lt3,g3)) (by exact (H.cu (Pl:=[_]) (bS:=[]) [] (by decide) rfl).sub ⟨rfl,rfl,rfl,rfl,bB⟩) ?_ ?_
   ·(try dsimp only);exact ⟨by omega,vg,by rw [fM (by omega),lF,iD] at oL;exact oL⟩
   first|omega|(dsimp only;omega)
  intro Le
  try have p25:=dF Le
  rw [ah (by omega),ah wI,ah p25] at bG
  simp only [iD] at bG
  refine goB 30 ?_ ?_
  ·intro p44
   refine ak 4 ?_;intro a H;refine aG ?_;refine dH ((k+1,j,Lt,g)) (by exact (H.cu (Pl:=[_]) (bS:=[]) [] (by decide) rfl).sub ⟨rfl,rfl,rfl,rfl,bB⟩) ?_ ?_
   ·(try dsimp only);exact ⟨by omega,hgm,bG⟩
   first|omega|(dsimp only;omega)
  intro p44
  intro a H;exact absurd p25 p44
 intro qg
 refine ak 4 ?_;intro a H;refine lr H results107 rfl ?_
 first
  | exact H.hp.bZ (L':=Aj) (by repeat (first|exact bX _|apply List.Sublist.cons)) ⟨_,rfl,fun e=>(by cases e),fun _=>hb2 (by simpa using h31)⟩
  | exact H.hp.bZ (L':=Du) (by repeat (first|exact bX _|apply List.Sublist.cons)) ⟨_,rfl,fun e=>(by cases e),fun _=>hb4 (by simpa using mJ)⟩
  | exact H.hp.bZ (L':=Dx) (by repeat (first|exact bX _|apply List.Sublist.cons)) ⟨_,rfl,fun e=>(by cases e),fun _=>hb6 (by simpa using h64)⟩
  | exact H.hp.bZ (L':=Dy) (by repeat (first|exact bX _|apply List.Sublist.cons)) ⟨_,rfl,fun e=>(by cases e),fun _=>yE (by simpa using mK)⟩
  | exact H.hp.bZ (L':=Lt) (by repeat (first|exact bX _|apply List.Sublist.cons)) ⟨_,rfl,fun _=>(by rw [fM (by omega),dQ] at bG;have:=bG.len;simp only [List.length_nil,kI] at this;rw [← this];exact bG.now),fun e=>(by cases e)⟩
theorem abp:∀ n:Nat,n≤4294967297→Oz n
 | 0,_=>fun _ _ _ _ _ _ _ _ _ _ _ _ _ _ _ _ _ _ _ h=>absurd h (by omega)
 | n+1,hn=>apt (abp n (by omega)) (by omega)
end
section
open Go.RowKit
theorem kJ {r:CR} {f:CS→CR} {s':CS} (h:fD r f=(0,s')):r.1=0∧f r.2=(0,s'):=by
 unfold fD at h
 split at h
 ·rename_i h1;rw [h] at h1;exact absurd rfl h1
 rename_i h1;exact ⟨lu.1 h1,h⟩
theorem Kv {r:CR} (h:r.1=0):r=(0,r.2):=Prod.ext h rfl
structure kF (a b c:List Int):Prop where
 eq:c=a++b
 nd:a.Nodup→c.Nodup
 pos:∀ i∈b,1≤i∧i≤1073741824
theorem kF.nil (a:List Int):kF a [] a:=⟨by simp,fun h=>h,fun i h=>by cases h⟩
theorem kF.trans {a b c d e:List Int} (h:kF a b c) (g:kF c d e):kF a (b++d) e:=⟨by rw [g.eq,h.eq,gy],fun h1=>g.nd (h.nd h1),fun i hi=>(lT.1 hi).elim (h.pos i) (g.pos i)⟩
theorem kF.id {us a:List Int} {x:Int} (h:ow us a x=0):kF a [x] (jC us a x):=by
 unfold jC
 rw [ay h]
 unfold ow at h
 by_cases h0:¬ (1≤x∧x≤1073741824)∨x∈us
 ·rw [ay h0] at h;cases h
 rw [ah h0] at h;have h1:1≤x∧x≤1073741824:=lu.1 fun h'=>h0 (.inl h')
 by_cases h2:x∈a
 ·rw [ay h2] at h;cases h
 exact ⟨rfl,fun h3=>List.nodup_append.2 ⟨h3,by simp,fun u hu v hv=>by rw [rC.1 hv];exact fun e=>h2 (e ▸ hu)⟩,fun i hi=>by rw [rC.1 hi];exact h1⟩
theorem kF.iN {C:bK} {s s':CS} {x:Int} (h:iN C s x=(0,s')):kF s.aX [x] s'.aX:=by
 unfold Go.Proofs.YthmanofbmnfemaaGreat.iN at h
 injection h with h1 h2
 rw [← h2];exact kF.id h1
theorem amt {C:bK} {body note:Bool} {t k i:Int} {s s':CS} (h:jP C body note t k i s=(0,s')):kF s.aX (if k=6∨k=7 then [i] else []) s'.aX:=by
 unfold jP at h
 by_cases h3:k=3
 ·rw [ay h3] at h;injection h with _ h2;rw [ah (by omega),← h2];exact kF.nil _
 rw [ah h3] at h
 by_cases h6:k=6
 ·rw [ay h6] at h;rw [ay (.inl h6)];exact kF.iN (kJ h).2
 rw [ah h6] at h
 by_cases h7:k=7
 ·rw [ay h7] at h;rw [ay (.inr h7)];exact kF.iN (kJ h).2
 rw [ah h7] at h;rw [ah (by omega)]
 by_cases h8:k=8
 ·rw [ay h8] at h;injection h with _ h2;rw [← h2];exact kF.nil _
 rw [ah h8] at h;injection h with _ h2;rw [← h2];exact kF.nil _
theorem TD {n:Nat} {f:CS→CR} {s s':CS} (h:jW n f s=(0,s')):n≠0∧f s=(0,s'):=by
 unfold jW at h
 split at h
 ·cases h
 rename_i h1
 split at h
 ·cases h
 exact ⟨h1,h⟩
mutual
theorem agS (C:bK) (body note:Bool) (t:Int):∀ (x:au) (s s':CS),eG C body note t x s=(0,s')→kF s.aX (nO x) s'.aX
 | .mk k c i tx h f r,s,s',e=>by
  have hf:=KM C false true t f;have hr:=Xh C note (t+1) r;rw [eG] at e;obtain ⟨-,e⟩:=kJ e;obtain ⟨e1,e⟩:=kJ e;obtain ⟨-,e⟩:=kJ e;have h1:=amt (Kv e1);rw [nO];refine h1.trans ?_
  by_cases h6:k=6
  ·rw [ay h6] at e ⊢;rw [ah (show ¬ k=7 by omega),lY];exact hf _ _ e
  rw [ah h6] at e ⊢;rw [iD]
  by_cases h7:k=7
  ·rw [ay h7] at e ⊢;exact hr _ _ (TD e).2
  rw [ah h7] at e ⊢
  injection e with _ e
  rw [← e];exact kF.nil _
theorem agT (C:bK) (note:Bool) (t:Int):∀ (x:aM) (s s':CS),xK C note t x s=(0,s')→kF s.aX (oO x) s'.aX
 | .mk h cs,s,s',e=>by
  have hc:=Xg C note t cs;rw [Jq] at e;rw [oO];exact hc _ _ (kJ e).2
theorem agR (C:bK) (note:Bool) (t:Int):∀ (x:aL) (s s':CS),cellC C note t x s=(0,s')→kF s.aX (oN x) s'.aX
 | .mk i h f,s,s',e=>by
  have hf:=KM C false note t f;rw [Ic] at e;dsimp only [aL.id,aL.head,aL.flow] at e;obtain ⟨e1,e⟩:=kJ e;have h1:=kF.iN (s':=(iN C s i).2) (Prod.ext e1 rfl);rw [oN];exact h1.trans (hf _ _ (kJ e).2)
theorem KM (C:bK) (body note:Bool) (t:Int):∀ (l:List au) (s s':CS),gI C body note t l s=(0,s')→kF s.aX (dQ l) s'.aX
 | [],s,s',e=>by rw [gI] at e;injection e with _ e;rw [← e];exact kF.nil _
 | x :: r,s,s',e=>by
  rw [gI] at e;obtain ⟨e1,e⟩:=kJ e;rw [dQ];exact (agS C body note t x s _ (Prod.ext e1 rfl)).trans (KM C body note t r _ _ e)
theorem Xh (C:bK) (note:Bool) (t:Int):∀ (l:List aM) (s s':CS),gD C note t l s=(0,s')→kF s.aX (lF l) s'.aX
 | [],s,s',e=>by rw [gD] at e;injection e with _ e;rw [← e];exact kF.nil _
 | x :: r,s,s',e=>by
  rw [gD] at e;obtain ⟨e1,e⟩:=kJ e;rw [lF];exact (agT C note t x s _ (Prod.ext e1 rfl)).trans (Xh C note t r _ _ e)
theorem Xg (C:bK) (note:Bool) (t:Int):∀ (l:List aL) (s s':CS),nH C note t l s=(0,s')→kF s.aX (mq l) s'.aX
 | [],s,s',e=>by rw [nH] at e;injection e with _ e;rw [← e];exact kF.nil _
 | x :: r,s,s',e=>by
  rw [nH] at e;obtain ⟨e1,e⟩:=kJ e;rw [mq];exact (agR C note t x s _ (Prod.ext e1 rfl)).trans (Xg C note t r _ _ e)
end
def pK (l:List au):Prop:=∃ (C:bK) (body note:Bool) (t:Int) (s s':CS),gI C body note t l s=(0,s')
structure ET (x:au):Prop where
 txt:mR x.text=true
 kd:1≤x.kind∧x.kind≤8
 rw0:x.kind≠7→x.rows=[]
 fl0:x.kind≠6→x.flow=[]
 fl:pK x.flow
 rw:∀ r∈x.rows,∀ c∈r.cells,pK c.flow
theorem alU:pK []:=⟨⟨[],[],[],[]⟩,false,false,0,⟨0,[]⟩,⟨0,[]⟩,by rw [gI]⟩
theorem DV {x:au} (h:jk x=0):mR x.text=true∧(1≤x.kind∧x.kind≤8)∧(x.kind≠7→x.rows=[])∧(x.kind≠6→x.flow=[]):=by
 unfold jk at h
 split at h
 ·cases h
 rename_i h1
 split at h
 ·cases h
 rename_i h2
 split at h
 ·cases h
 rename_i h3
 have hk:decide (1≤x.kind∧x.kind≤8)=true:=by
  cases hd:decide (1≤x.kind∧x.kind≤8)
  ·rw [hd] at h1;exact absurd rfl h1
  rfl
 refine ⟨by simpa using h3,lX hk,fun h7=>?_,fun h6=>?_⟩
 ·rw [Bool.not_eq_true] at h2
  unfold sN at h2
  simp only [Bool.or_eq_false_iff] at h2
  have h4:=h2.2;rw [iE h7,Ca,nX] at h4;exact List.length_eq_zero_iff.1 (by omega)
 rw [Bool.not_eq_true] at h2
 unfold sN at h2
 simp only [Bool.or_eq_false_iff] at h2
 have h4:=h2.1.2;rw [iE h6,Ca,nX] at h4;exact List.length_eq_zero_iff.1 (by omega)
theorem cells_ok {C:bK} {note:Bool} {t:Int}:∀ {l:List aL} {s s':CS},nH C note t l s=(0,s')→∀ c∈l,pK c.flow
 | [],_,_,_,_,h=>by cases h
 | x :: r,s,s',e,c,h=>by
  rw [nH] at e;obtain ⟨e1,e⟩:=kJ e
  rcases iQ.1 h with rfl|h
  ·have e2:cellC C note t c s=(0,(cellC C note t c s).2):=Prod.ext e1 rfl
   generalize (cellC C note t c s).2=s2 at e2
   rw [Ic] at e2;exact ⟨C,false,note,t,_,_,(kJ (kJ e2).2).2⟩
  exact cells_ok e c h
theorem aai {C:bK} {note:Bool} {t:Int}:∀ {l:List aM} {s s':CS},gD C note t l s=(0,s')→∀ r∈l,∀ c∈r.cells,pK c.flow
 | [],_,_,_,_,h=>by cases h
 | x :: r,s,s',e,q,h=>by
  rw [gD] at e;obtain ⟨e1,e⟩:=kJ e
  rcases iQ.1 h with rfl|h
  ·have e2:xK C note t q s=(0,(xK C note t q s).2):=Prod.ext e1 rfl
   generalize (xK C note t q s).2=s2 at e2
   rw [Jq] at e2;exact cells_ok (kJ e2).2
  exact aai e q h
theorem pK.head {x:au} {l:List au} (h:pK (x :: l)):ET x∧pK l:=by
 obtain ⟨C,body,note,t,s,s',e⟩:=h;rw [gI] at e;obtain ⟨e1,e⟩:=kJ e;have e2:eG C body note t x s=(0,(eG C body note t x s).2):=Prod.ext e1 rfl
 generalize (eG C body note t x s).2=s2 at e2
 refine ⟨?_,⟨C,body,note,t,_,_,e⟩⟩;rw [MI] at e2;obtain ⟨f1,e2⟩:=kJ e2;(iterate 2 obtain ⟨-,e2⟩:=kJ e2);obtain ⟨h1,h2,h3,h4⟩:=DV f1;refine ⟨h1,h2,h3,h4,?_,?_⟩
 ·by_cases h6:x.kind=6
  ·rw [ay h6] at e2;exact ⟨_,_,_,_,_,_,e2⟩
  rw [h4 h6];exact alU
 by_cases h7:x.kind=7
 ·rw [ah (by omega),ay h7] at e2;exact aai (TD e2).2
 rw [h3 h7];exact fun _ h=>by cases h
theorem pK.tail {x:au} {l:List au} (h:pK (x :: l)):pK l:=h.head.2
theorem pK.mem:∀ {l:List au} {x:au},pK l→x∈l→ET x
 | y :: l,x,h,hx=>by
  rcases iQ.1 hx with rfl|hx
  ·exact h.head.1
  exact pK.mem h.head.2 hx
theorem ET.e {x:au} (h:ET x):wP x=0:=by unfold wP EL;rw [ay h.txt];split <;> rfl
theorem ET.n1 {x:au} (h:ET x):n1 x=fU x:=by unfold Go.Proofs.YthmanofbmnfemaaGreat.n1;rw [ay h.e]
theorem pK.div {l:List au} (h:pK l):uS l=true:=by
 unfold uS
 rw [lq];exact fun x hx=>iE (h.mem hx).e
theorem pK.len {l:List au} (h:pK l):oQ l=pE l:=by unfold oQ;rw [ay h.div]
mutual
theorem apC (note:Bool) (t:Int):∀ x:au,((uh note t x).map fJ.id).Sublist (nO x)
 | .mk k c i tx h f r=>by
  have hf:=JI true t f;have hr:=abB note t r;rw [uh,nO]
  by_cases h6:k=6
  ·rw [ay h6,ay (.inl h6),ay h6,ah (by omega),lY];exact List.Sublist.cons_cons _ hf
  rw [ah h6,ah h6,iD]
  by_cases h7:k=7
  ·rw [ay h7,ay h7,ay (.inr h7)];exact List.Sublist.cons _ hr
  rw [ah h7];exact List.nil_sublist _
theorem JI (note:Bool) (t:Int):∀ l:List au,((gQ note t l).map fJ.id).Sublist (dQ l)
 | []=>by rw [gQ];exact List.nil_sublist _
 | x :: l=>by
  rw [gQ,dQ,nG];exact (apC note t x).append (JI note t l)
theorem apD (note:Bool) (t:Int):∀ x:aM,((uj note t x).map fJ.id).Sublist (oO x)
 | .mk h cs=>by rw [uj,oO];exact abA note t cs
theorem abB (note:Bool) (t:Int):∀ l:List aM,((mI note t l).map fJ.id).Sublist (lF l)
 | []=>by rw [mI];exact List.nil_sublist _
 | x :: l=>by
  rw [mI,lF,nG];exact (apD note t x).append (abB note t l)
theorem apB (note:Bool) (t:Int):∀ x:aL,((ug note t x).map fJ.id).Sublist (oN x)
 | .mk i h f=>by rw [ug,oN];exact List.Sublist.cons_cons _ (JI note (t+1) f)
theorem abA (note:Bool) (t:Int):∀ l:List aL,((mU note t l).map fJ.id).Sublist (mq l)
 | []=>by rw [mU];exact List.nil_sublist _
 | x :: l=>by
  rw [mU,mq,nG];exact (apB note t x).append (abA note t l)
end
structure Ak (l:List au):Prop where
 ok:pK l
 nd:(dQ l).Nodup
 pos:∀ i∈dQ l,1≤i∧i≤1073741824
theorem Ak.of {C:bK} {body note:Bool} {t n:Int} {l:List au} {s':CS} (h:gI C body note t l ⟨n,[]⟩=(0,s')):Ak l:=by
 have he:=KM C body note t l _ _ h;have hn:=he.nd List.nodup_nil;rw [he.eq] at hn;exact ⟨⟨C,body,note,t,_,_,h⟩,by simpa using hn,he.pos⟩
theorem Ak.ids {l:List au} (h:Ak l):((eY l).map fJ.id).Nodup:=by
 have hs:=JI false 0 l;rw [eY,eu,List.nodup_cons];exact ⟨fun hm=>by have:=h.pos _ (hs.subset hm);dsimp only at this;omega,hs.nodup h.nd⟩
theorem Iy {L:List fJ} (hn:(L.map fJ.id).Nodup) {F:fJ} (hF:F∈L):L.find? (fun f=>decide (f.id=F.id))=some F:=by
 induction L with
 | nil=>cases hF
 | cons E L ih =>
  rw [eu,List.nodup_cons] at hn;rw [List.find?_cons]
  rcases iQ.1 hF with rfl|hF
  ·simp
  have:E.id≠F.id:=fun e=>hn.1 (e ▸ List.mem_map_of_mem hF);rw [jA this];exact ih hn.2 hF
end
section
open Go.RowKit
theorem Fx:∀ args w,(callFunc 75 args).run prog w=.ok (.enter 75 args) w:=enters func75 rfl (by kernel_rfl)
theorem Py:∀ args w,(callFunc 163 args).run prog w=.ok (.enter 163 args) w:=enters func163 rfl (by kernel_rfl)
theorem Io:∀ args w,(callFunc 46 args).run prog w=.ok (.enter 46 args) w:=enters func46 rfl (by kernel_rfl)
variable {us:List Int}
theorem FM (G:GH) (L:OL) (w0:World) (st:List bM) (li:List dW) (rv:List bQ) (b ms ml mr mb mu:Nat) (n:Int) (hck:uw us G st li rv ms ml mr mu) (hO:fC G (fF b ms ml mr mb mu n :: L) w0)
  (e:Int) (h:dh) (p d l:aj) (hh:gG G h p d l) (hz:kZ h≤4294967296) :
  Calls prog 75 #[(aD b 0),vi e,sZ h p d l] w0 (eP w0 G (fF b ms ml mr mb mu n :: L) fun v G' L'=>G=G'∧L'=fF b ms ml mr mb mu n :: L∧v=vi (fI (aU us st li rv) e h)):=by
 have hm:=GH.EY G (o:=(fF b ms ml mr mb mu n).2) (hO.sep _ fH);exact (aiT (G.add b (fF b ms ml mr mb mu n).2) w0 hO.add st li rv b ms ml mr mb mu n (hck.mono hm) (GH.EZ _ _ _) e h p d l (hh.mono hm) hz).mono fun _ _=>amO (b:=b) (o:=(fF b ms ml mr mb mu n).2) (R':=fun v=>v=vi (fI (aU us st li rv) e h)) hO fun _ _ h=>h
abbrev JR (b ms ml mr mb mu:Nat) (L:OL) (r:CR):aj→OL→Prop:=fun u L'=>∃ s:CS,u=vi r.1∧L'=fF b ms ml mr mb mu s.n :: (mb,dV (eX s.aX)) :: L∧(r.1=0→s=r.2)
def ER (us:List Int) (m:Nat):Prop:=∀ (G:GH) (L:OL) (w0:World) (st:List bM) (li:List dW) (rv:List bQ) (b ms ml mr mb mu:Nat) (s:CS) (l:List au) (v:aj) (body note:Bool) (t:Int),
 uw us G st li rv ms ml mr mu→fC G (fF b ms ml mr mb mu s.n :: (mb,dV (eX s.aX)) :: L) w0→av G (.sl 11 (l.map au.dat)) v→aZ l < m→0≤t→t≤4→0≤s.n→s.n+(aZ l:Nat)≤1099511627776 →
 Calls prog 46 #[(aD b 0),v,.agg #[.bool body,.bool note,vi t]] w0 (eP w0 G (fF b ms ml mr mb mu s.n :: (mb,dV (eX s.aX)) :: L) fun u G' L'=>G=G'∧JR b ms ml mr mb mu L (gI (aU us st li rv) body note t l s) u L')
theorem rows_ok {m:Nat} (ih:ER us m) (hm:m≤4294967296) (Gt:GH) (L:OL) (w0:World) (st:List bM) (li:List dW) (rv:List bQ) (b ms ml mr mb mu:Nat) (s:CS) (l:List aM) (v:aj) (note:Bool) (t:Int)
  (hck:uw us Gt st li rv ms ml mr mu) (hO:fC Gt (fF b ms ml mr mb mu s.n :: (mb,dV (eX s.aX)) :: L) w0) (hv:av Gt (.sl 6 (l.map aM.dat)) v) (hz:fE l < m) (ht0:0≤t) (Ei:t≤4) (hs0:0≤s.n) (hs1:s.n+(fE l:Nat)≤1099511627776) :
  Calls prog 164 #[(aD b 0),v,.agg #[.bool false,.bool note,vi t]] w0 (eP w0 Gt (fF b ms ml mr mb mu s.n :: (mb,dV (eX s.aX)) :: L) fun u G' L'=>JR b ms ml mr mb mu L (jW l.length (fun s=>gD (aU us st li rv) note t l s) s) u L'):=by
 obtain ⟨A,c,rfl,hc1,hc2,hg⟩:=hv.slice;rw [bO] at *;have hll:=BJ l;refine gB (N:=77) (T:=[(0,_),(1,_),(2,_)]) func164 rfl ntmps164 rfl rfl hO ?_;refine ak 1 ?_;intro a H;refine dU (cs:=[_,_,_]) H wn rfl rfl rfl ?_;clear H;intro b5 a w hb5 H;refine gW 8 H ?_ ?_ <;> clear H
 ·intro kW
  have hE:jW l.length (fun s=>gD (aU us st li rv) note t l s) s=(11,s):=ay (by omega);refine ak 3 ?_;intro a H;refine lr H results164 rfl ?_;exact H.hp.bZ (L':=fF b ms ml mr mb mu s.n :: (mb,dV (eX s.aX)) :: L) (by repeat (first|exact bX _|apply List.Sublist.cons)) ⟨s,by rw [hE],rfl,fun h=>by rw [hE]⟩
 intro kW
 refine goB 7 ?_ ?_
 ·intro wI
  have hE:jW l.length (fun s=>gD (aU us st li rv) note t l s) s=(9,s):=by rw [jW,ah (by omega),ay (by omega)]
  refine ak 3 ?_;intro a H;refine lr H results164 rfl ?_;exact H.hp.bZ (L':=fF b ms ml mr mb mu s.n :: (mb,dV (eX s.aX)) :: L) (by repeat (first|exact bX _|apply List.Sublist.cons)) ⟨s,by rw [hE],rfl,fun h=>by rw [hE]⟩
 intro wI
 refine ak 2 ?_
 have hE:jW l.length (fun s=>gD (aU us st li rv) note t l s) s=gD (aU us st li rv) note t l s:=by rw [jW,ah (by omega),ah (by omega)]
 refine ak 6 ?_;intro a H;refine eO (ι:=Nat × CS × GH) (Tc:=[(0,_),(5,_),(21,_),(22,_)]) (Lc:=[(_,_)]) (fun gh=>[(23,vi gh.1)]) (fun gh=>[fF b ms ml mr mb mu gh.2.1.n,(mb,dV (eX gh.2.1.aX))]++L) (fun gh=>gh.2.2) (fun gh=>gh.1≤l.length∧(∀ b o,Gt b=some o→gh.2.2 b=some o)∧gD (aU us st li rv) note t l s=gD (aU us st li rv) note t (l.drop gh.1) gh.2.1∧0≤gh.2.1.n∧gh.2.1.n+(fE (l.drop gh.1):Nat)≤1099511627776) (fun gh=>l.length - gh.1) ((0,s,Gt)) sB ?_ ?_
 ·exact ⟨gV _,fun _ _ h=>h,rfl,hs0,hs1⟩
 clear H;rintro ⟨k,s1,g⟩ a w hI H;dsimp only at hI H;obtain ⟨hk,hgm,hR,hn0,hn1⟩:=hI;dsimp only [lca,aR] at H;refine dN 4 H ?_ ?_ <;> clear H
 ·intro kQ
  have hk2:k < l.length:=by omega
  have hsz:=JM hk2;have hcs:=BH l[k].cells
  have hdz:fE (l.drop k)=1+bJ l[k].dat+fE (l.drop (k+1)):=by simp only [fE];rw [lW hk2,eu,dX]
  have hrz:=vP l[k];obtain ⟨xb,xo,qA,qn,qc,eA,en,ec,zA,zn,zc,cA,cn,cc,rfl,hrow,Bf,hcl⟩:=EC hk2 hg;replace hrow:=fun j u hj=>aJ hgm (hrow j u hj);replace Bf:=Bf.mono hgm;replace hcl:=hcl.mono hgm;have hcn:=hcl.len;rw [bO] at hcn;subst hcn;have aiH:=hck.mono hgm;rw [lW hk2,gD,Jq] at hR;refine ak 5 ?_;intro a H;refine bg iU (cs:=[_,_,_,_,_,_]) H wn rfl rfl (fun j v hj=>H.hp.aF (hrow j v hj)) rfl ?_;clear H;intro a H;refine dx iU H wn rfl ?_;clear H;intro b8 a w yE H;refine aV iU 0 (vs:=[_,_,_,_,_,_]) _ H wn rfl rfl rfl rfl rfl rfl rfl rfl ?_;clear H;intro w H;dsimp only [List.set,setRow] at H;refine aH 3 H ?_;clear H;intro a H;refine dI hmx [[],[],[1],[0,1,2],[],[4],[4,5],[4,5,6],(ra 0 8),[],[9],[9,10],[9,10,11],(ra 0 13),(ra 0 14),(ra 0 15),(ra 0 16)] [14,15,16] (by kernel_rfl) [_,_,sZ l[k].head (.slice qA qn qc) (.slice eA en ec) (.slice zA zn zc),vi (fI (aU us st li rv) 9 l[k].head),_,.slice cA l[k].cells.length cc,_,_,vi (bW (decide ((l[k].cells.length:Int)=0)) 11),_,.slice cA l[k].cells.length cc,_,_,vi (bW (decide (32 < (l[k].cells.length:Int))) 9)] H (aC (Z0 rfl (Rm rfl)) (Z0 rfl (Rf Fy rfl)) ?_ ?_ (aC (Z0 rfl (Rf Ir rfl)) (Z1 4 31 rfl (Ro Gx 0 rfl)) (Z1 5 32 rfl (Rl wO rfl)) (Z1 6 33 rfl (Rc rfl)) (aC ?_ (Z0 rfl (Rf Ir rfl)) (Z1 9 36 rfl (Ro Gx 0 rfl)) (Z1 10 37 rfl (Rl wO rfl)) (aC (Z1 11 38 rfl (Rc rfl)) ?_ (bP rfl) (bP rfl) (bL (bP rfl) dw))))) ?_
  ·refine dJ 1 28 rfl rfl fun _ a w G1 hG HT H fin=>?_;refine bg jG (cs:=[_,_,_,_,_]) H wn rfl rfl (H.hp.cK 0 rfl rfl) rfl ?_;clear H;intro a H;exact fin H iJ rfl
  ·refine dL 0 27 2 29 rfl rfl fun _ a w G1 hG HT H fin=>?_;refine fB Fx (Li:=[_,_]) (L:=fF b ms ml mr mb mu s1.n :: (mb,dV (eX s1.aX)) :: L) H wn rfl (FM _ _ _ st li rv b ms ml mr mb mu _ (aiH.mono hG) (Hp.owns (Li:=[_,_]) H.hp) 9 l[k].head _ _ _ (Bf.mono hG) (by omega)) rfl ?_;clear H;rintro v30 _ _ a w ⟨rfl,rfl,rfl⟩ QA H;dsimp only [lca,aR] at H;exact fin H QA (rfl)
  ·refine dJ 7 34 rfl rfl fun _ a w G1 hG HT H fin=>?_;refine s_call iR H wn rfl (iW _ _ H.ro _ 11) rfl ?_;clear H;rintro v35 U9 a w ⟨rfl,-⟩ QB H;exact fin H QB (rfl)
  ·refine dJ 12 39 rfl rfl fun _ a w G1 hG HT H fin=>?_;refine s_call iR H wn rfl (iW _ _ H.ro _ 9) rfl ?_;clear H;rintro v40 GY a w ⟨rfl,-⟩ ahR H;exact fin H ahR (rfl)
  clear H;intro a w G nL H hv;have H:=H.aO (hv 3 30 rfl rfl) rfl;have H:=H.aO (hv 8 35 rfl rfl) rfl;have H:=H.aO (hv 13 40 rfl rfl) rfl;clear hv;refine gK pI gF [_,_,_] [_,_,_] H wn rfl rfl rfl rfl rfl (by intro i q h;match i,h with|0,h=>exact h|1,h=>exact h|2,h=>exact h|n+3,h=>simp at h) rfl rfl ?_;clear H;intro b41 a w aqr H;obtain ⟨GZ,zI,aiw,H⟩:=H.dP;have IZ:∀ b o,Gt b=some o→GZ b=some o:=fun b o h=>zI _ _ (nL _ _ (hgm _ _ h));refine s_call pV H wn rfl (pW _ _ H.ro _ _ (Em [fI (aU us st li rv) 9 l[k].head,bW (decide ((l[k].cells.length:Int)=0)) 11,bW (decide (32 < (l[k].cells.length:Int))) 9] aiw (show 3≤maxLen by decide))) rfl ?_;clear H;rintro v42 _ a w ⟨rfl,rfl⟩ - H;refine kH H (Ra rfl ?_);clear H;intro a H;refine aG ⟨rfl,?_⟩;refine dG ?_;refine dN 4 H ?_ ?_ <;> clear H
  ·intro p44
   have e44:Bn (aU us st li rv) l[k].head l[k].cells.length≠0:=p44
   have hF1:(jW l.length (fun s=>gD (aU us st li rv) note t l s) s).1=Bn (aU us st li rv) l[k].head l[k].cells.length:=by rw [hE,hR,Kh (r:=(Bn (aU us st li rv) l[k].head l[k].cells.length,s1)) e44,Kh e44]
   have hF2:(jW l.length (fun s=>gD (aU us st li rv) note t l s) s).1=0→s1=(jW l.length (fun s=>gD (aU us st li rv) note t l s) s).2:=fun h=>absurd (hF1.symm.trans h) e44;refine ak 4 ?_;intro a H;refine lr H results164 rfl ?_;exact H.hp.bZ (L':=fF b ms ml mr mb mu s1.n :: (mb,dV (eX s1.aX)) :: L) (by repeat (first|exact bX _|apply List.Sublist.cons)) ⟨s1,aB vi hF1.symm,rfl,hF2⟩
  intro p44
  have e44:Bn (aU us st li rv) l[k].head l[k].cells.length=0:=lu.1 p44;rw [Fb (r:=(Bn (aU us st li rv) l[k].head l[k].cells.length,s1)) e44] at hR;intro a H;dsimp only at hR;have aiI:=hck.mono IZ;replace hcl:=hcl.mono (fun b o h=>zI _ _ (nL b o h));refine eB 8 H ?_;clear H;intro a H;refine eO (ι:=Nat × CS × GH) (Tc:=[(0,_),(5,_),(21,_),(22,_),(23,_),(47,_),(48,_)]) (Lc:=[(_,_),(_,_)]) (fun gh=>[(49,vi gh.1)]) (fun gh=>[fF b ms ml mr mb mu gh.2.1.n,(mb,dV (eX gh.2.1.aX))]++L) (fun gh=>gh.2.2) (fun gh=>gh.1≤l[k].cells.length∧(∀ b o,GZ b=some o→gh.2.2 b=some o)∧gD (aU us st li rv) note t l s=fD (nH (aU us st li rv) note t (l[k].cells.drop gh.1) gh.2.1) (fun s=>gD (aU us st li rv) note t (l.drop (k+1)) s)∧0≤gh.2.1.n∧gh.2.1.n+(gZ (l[k].cells.drop gh.1):Nat)+(fE (l.drop (k+1)):Nat)≤1099511627776) (fun gh=>l[k].cells.length - gh.1) ((0,s1,GZ)) sB ?_ ?_
  ·exact ⟨gV _,fun _ _ h=>h,hR,hn0,by dsimp only;rw [List.drop_zero];omega⟩
  clear H;rintro ⟨c,s2,g2⟩ a w hI H;dsimp only at hI H;obtain ⟨hc,LX,hR2,hm0,hm1⟩:=hI;have iM:=fun b o h=>LX b o (IZ b o h);dsimp only [lca,aR] at H;refine dN 4 H ?_ ?_ <;> clear H
  ·intro p50
   have hk4:c < l[k].cells.length:=by omega
   have akf:=JK hk4
   have aiM:gZ (l[k].cells.drop c)=1+bJ l[k].cells[c].dat+gZ (l[k].cells.drop (c+1)):=by simp only [gZ];rw [lW hk4,eu,dX]
   have hcz:=vO l[k].cells[c];obtain ⟨b3',o3,sA,sn,sc,tA,tn,tc,uA,un,uc,gA,gn,gc,rfl,hrow,hch,hcf⟩:=DL hk4 (hcl.mono LX).at_;have Q8:=aiI.mono LX;rw [lW hk4,nH,Ic] at hR2;obtain ⟨y,hy⟩:∃ y,y=l[k].cells[c]:=⟨_,rfl⟩;rw [← hy] at hR2 hrow hch hcf hcz akf aiM;refine ak 5 ?_;intro a H;refine bg iw (cs:=[_,_,_,_,_,_,_]) H wn rfl rfl (fun j v hj=>H.hp.aF (hrow j v hj)) rfl ?_;clear H;intro a H;refine dx iw H wn rfl ?_;clear H;intro b11 a w DZ H;refine aV iw 0 (vs:=[_,_,_,_,_,_,_]) _ H wn rfl rfl rfl rfl rfl rfl rfl rfl ?_;clear H;intro w H;dsimp only [List.set,setRow] at H;refine aH 6 H ?_;clear H;intro a H;refine fB Py (Li:=[_,_,_]) (L:=fF b ms ml mr mb mu s2.n :: (mb,dV (eX s2.aX)) :: L) H wn rfl (OZ _ _ _ st li rv b ms ml mr mb mu _ s2.aX y.id Q8 (Hp.owns (Li:=[_,_,_]) H.hp)) rfl ?_;clear H;rintro v56 _ _ a w ⟨rfl,rfl,rfl⟩ - H;dsimp only [lca,aR] at H;refine gW 6 H ?_ ?_ <;> clear H
   ·intro p58
    have hF1:(jW l.length (fun s=>gD (aU us st li rv) note t l s) s).1=ow us s2.aX y.id:=by rw [hE,hR2];simp [fD,iN,p58]
    have hF2:(jW l.length (fun s=>gD (aU us st li rv) note t l s) s).1=0→(⟨s2.n,jC us s2.aX y.id⟩:CS)=(jW l.length (fun s=>gD (aU us st li rv) note t l s) s).2:=fun h=>absurd (hF1.symm.trans h) p58;refine ak 4 ?_;intro a H;refine lr H results164 rfl ?_;exact H.hp.bZ (L':=fF b ms ml mr mb mu s2.n :: (mb,dV (eX (jC us s2.aX y.id))) :: L) (by repeat (first|exact bX _|apply List.Sublist.cons)) ⟨⟨s2.n,jC us s2.aX y.id⟩,aB vi hF1.symm,rfl,hF2⟩
   intro p58
   have e58:ow us s2.aX y.id=0:=lu.1 p58;refine ak 5 ?_;intro a H;refine bg jG (cs:=[_,_,_,_,_]) H wn rfl rfl (H.hp.cK 0 rfl rfl) rfl ?_;clear H;intro a H;refine fB Fx (Li:=[_,_,_]) (L:=fF b ms ml mr mb mu s2.n :: (mb,dV (eX (jC us s2.aX y.id))) :: L) H wn rfl (FM _ _ _ st li rv b ms ml mr mb mu _ Q8 (Hp.owns (Li:=[_,_,_]) H.hp) 10 y.head _ _ _ hch (by omega)) rfl ?_;clear H;rintro v63 _ _ a w ⟨rfl,rfl,rfl⟩ - H;dsimp only [lca,aR] at H;refine gW 6 H ?_ ?_ <;> clear H
   ·intro p65
    have hF1:(jW l.length (fun s=>gD (aU us st li rv) note t l s) s).1=fI (aU us st li rv) 10 y.head:=by rw [hE,hR2];simp [fD,iN,e58,p65]
    have hF2:(jW l.length (fun s=>gD (aU us st li rv) note t l s) s).1=0→(⟨s2.n,jC us s2.aX y.id⟩:CS)=(jW l.length (fun s=>gD (aU us st li rv) note t l s) s).2:=fun h=>absurd (hF1.symm.trans h) p65;refine ak 4 ?_;intro a H;refine lr H results164 rfl ?_;exact H.hp.bZ (L':=fF b ms ml mr mb mu s2.n :: (mb,dV (eX (jC us s2.aX y.id))) :: L) (by repeat (first|exact bX _|apply List.Sublist.cons)) ⟨⟨s2.n,jC us s2.aX y.id⟩,aB vi hF1.symm,rfl,hF2⟩
   intro p65
   have e65:fI (aU us st li rv) 10 y.head=0:=lu.1 p65;refine ak 5 ?_;intro a H;refine bg NG (cs:=[_,_,_]) H wn rfl rfl (H.hp.cK 2 rfl rfl) rfl ?_;clear H;intro a H;refine fB Io (Li:=[_,_,_]) (L:=fF b ms ml mr mb mu s2.n :: (mb,dV (eX (jC us s2.aX y.id))) :: L) H wn rfl (ih _ _ _ st li rv b ms ml mr mb mu ⟨s2.n,jC us s2.aX y.id⟩ y.flow _ false note t Q8 (Hp.owns (Li:=[_,_,_]) H.hp) hcf (by omega) ht0 Ei hm0 (by dsimp only;omega)) rfl ?_;clear H;rintro v71 _ _ a w ⟨rfl,s3,rfl,rfl,h3⟩ - H;dsimp only [lca,aR] at H;refine gW 6 H ?_ ?_ <;> clear H
   ·intro p73
    have hF1:(jW l.length (fun s=>gD (aU us st li rv) note t l s) s).1=(gI (aU us st li rv) false note t y.flow ⟨s2.n,jC us s2.aX y.id⟩).1:=by rw [hE,hR2];simp [fD,iN,e58,e65,p73]
    have hF2:(jW l.length (fun s=>gD (aU us st li rv) note t l s) s).1=0→s3=(jW l.length (fun s=>gD (aU us st li rv) note t l s) s).2:=fun h=>absurd (hF1.symm.trans h) p73;refine ak 4 ?_;intro a H;refine lr H results164 rfl ?_;exact H.hp.bZ (L':=fF b ms ml mr mb mu s3.n :: (mb,dV (eX s3.aX)) :: L) (by repeat (first|exact bX _|apply List.Sublist.cons)) ⟨s3,aB vi hF1.symm,rfl,hF2⟩
   intro p73
   have Po:(gI (aU us st li rv) false note t y.flow ⟨s2.n,jC us s2.aX y.id⟩).1=0:=lu.1 p73;obtain ⟨hu1,hu2⟩:=NR (aU us st li rv) false note t y.flow ⟨s2.n,jC us s2.aX y.id⟩;rw [← h3 Po] at hu1 hu2;intro a H;dsimp only at hu1 hu2
   have hS:fD (fD (fD (iN (aU us st li rv) s2 y.id) fun s=>fD (fI (aU us st li rv) 10 y.head,s) fun s=>gI (aU us st li rv) false note t y.flow s) fun s=>nH (aU us st li rv) note t (l[k].cells.drop (c+1)) s) (fun s=>gD (aU us st li rv) note t (l.drop (k+1)) s)=fD (nH (aU us st li rv) note t (l[k].cells.drop (c+1)) s3) (fun s=>gD (aU us st li rv) note t (l.drop (k+1)) s):=by
    rw [h3 Po];simp [fD,iN,e58,e65,Po]
   refine eB 4 H ?_;clear H;intro a H;refine aG ?_;refine dH ((c+1,s3,g2)) (by exact (H.cu (Pl:=[_,_,_,_,_]) (bS:=[_,_,_,_]) [1,2,3,4] (by decide) rfl).sub ⟨rfl,rfl,rfl,rfl,rfl,rfl,rfl,rfl,bB⟩) ?_ ?_
   ·(try dsimp only);exact ⟨by omega,LX,hR2.trans hS,by omega,by omega⟩
   first|omega|(dsimp only;omega)
  intro p50
  refine ak 4 ?_;intro a H;refine aG ?_;refine dH ((k+1,s2,g2)) (by exact (H.cu (Pl:=[_,_,_,_]) (bS:=[_,_,_]) [1,2,3] (by decide) rfl).sub ⟨rfl,rfl,rfl,rfl,rfl,bB⟩) ?_ ?_
  ·(try dsimp only);exact ⟨by omega,iM,by rw [hR2,fM (by omega),nH,Fb rfl],hm0,by omega⟩
  first|omega|(dsimp only;omega)
 intro kQ
 refine ak 1 ?_
 have hF1:(jW l.length (fun s=>gD (aU us st li rv) note t l s) s).1=0:=by rw [hE,hR,fM (by omega),gD]
 have hF2:(jW l.length (fun s=>gD (aU us st li rv) note t l s) s).1=0→s1=(jW l.length (fun s=>gD (aU us st li rv) note t l s) s).2:=fun h=>by rw [hE,hR,fM (by omega),gD]
 refine ak 3 ?_;intro a H;refine lr H results164 rfl ?_;exact H.hp.bZ (L':=fF b ms ml mr mb mu s1.n :: (mb,dV (eX s1.aX)) :: L) (by repeat (first|exact bX _|apply List.Sublist.cons)) ⟨s1,aB vi hF1.symm,rfl,hF2⟩
end
section
open Go.RowKit
theorem afj:∀ args w,(callFunc 164 args).run prog w=.ok (.enter 164 args) w:=enters func164 rfl (by kernel_rfl)
theorem afi:∀ args w,(callFunc 162 args).run prog w=.ok (.enter 162 args) w:=enters func162 rfl (by kernel_rfl)
instance:dB prog 98 5 5:=⟨by kernel_rfl⟩
instance:dB prog 90 0 0:=⟨by kernel_rfl⟩
variable {us:List Int}
theorem alY {G:GH} {b:Nat} {x:Int} (h:G b=some (.cells #[vi x] 42 (0,0))):av G (.sl 1 ([x].map fun k=>[li k])) (.slice (some ⟨b,0,none⟩) 1 1):=Em [x] h (show 1≤maxLen by decide)
theorem akG {m:Nat} (ih:ER us m) (hm:m≤4294967296) (Gt:GH) (L:OL) (w0:World) (st:List bM) (li:List dW) (rv:List bQ) (b ms ml mr mb mu:Nat) (s:CS) (x:au) (p d y f r:aj) (body note:Bool) (t:Int)
  (hck:uw us Gt st li rv ms ml mr mu) (hO:fC Gt (fF b ms ml mr mb mu s.n :: (mb,dV (eX s.aX)) :: L) w0) (hh:gG Gt x.head p d y) (hf:av Gt (.sl 11 (x.flow.map au.dat)) f) (hr:av Gt (.sl 6 (x.rows.map aM.dat)) r) (hz:bJ x.dat≤m) (ht0:0≤t) (Ei:t≤4) (hs0:0≤s.n) (hs1:s.n+(bJ x.dat:Nat)≤1099511627776) :
  Calls prog 103 #[(aD b 0),.agg #[vi x.kind,vi x.code,vi x.id,.string x.text,p,vi x.head.marks.ins,vi x.head.marks.move,d,y,f,r],.agg #[.bool body,.bool note,vi t]] w0 (eP w0 Gt (fF b ms ml mr mb mu s.n :: (mb,dV (eX s.aX)) :: L) fun u G' L'=>JR b ms ml mr mb mu L (eG (aU us st li rv) body note t x s) u L'):=by
 obtain ⟨pA,pn,pc,rfl⟩:=hh.props.form;obtain ⟨dA,dn,dc,rfl⟩:=hh.bU.form;obtain ⟨lA,ln,lc,rfl⟩:=hh.layers.form;obtain ⟨fA,fc,rfl,-⟩:=hf.slice;obtain ⟨rA,rc,rfl,-⟩:=hr.slice;(iterate 2 rw [bO] at *);have hxz:=qC x;have hcl:=Ij x.text
 have R9:fU x≤x.text.size+1:=by unfold fU;split <;> omega
 have hE:=MI (aU us st li rv) body note t x s;refine gB (N:=117) (T:=[(0,_),(1,_),(2,_)]) func103 rfl ntmps103 rfl rfl hO ?_;refine ak 1 ?_;intro a H;refine dU (cs:=[_,_,_,_,_,_,_,_,_,_,_]) H wn rfl rfl rfl ?_;clear H;intro b4 a w hb4 H;refine dU (cs:=[_,_,_]) H wn rfl rfl rfl ?_;clear H;intro b5 a w hb5 H;refine aH 4 H ?_;clear H;intro a H;refine bg dR (cs:=[_,_,_,_,_,_,_,_,_,_,_]) H wn rfl rfl (H.hp.cK 1 rfl rfl) rfl ?_;clear H;intro a H;refine s_call afi H wn rfl (ahD _ _ H.ro x _ _ _ _ _ _ _ (by omega)) rfl ?_;clear H;rintro v15 _ a w ⟨rfl,rfl⟩ - H;refine gW 6 H ?_ ?_ <;> clear H
 ·intro kW
  rw [Kh (r:=(jk x,s)) kW] at hE;refine ak 4 ?_;intro a H;refine lr H results103 rfl ?_;exact H.hp.bZ (L':=fF b ms ml mr mb mu s.n :: (mb,dV (eX s.aX)) :: L) (by repeat (first|exact bX _|apply List.Sublist.cons)) ⟨s,by rw [hE],rfl,fun h=>by rw [hE]⟩
 intro kW
 rw [Fb (r:=(jk x,s)) (lu.1 kW)] at hE;intro a H;dsimp only at hE;refine eB 9 H ?_;clear H;intro a H;refine aV bH 2 (vs:=[_]) _ H wn rfl rfl rfl rfl rfl rfl rfl rfl ?_;clear H;intro w H;dsimp only [List.set,setRow] at H;refine aG ?_;refine dG ?_;refine sH (ι:=CS × GH) (Tc:=[(0,_),(4,_),(5,_)]) (Lc:=[(_,_),(_,_)]) (fun gh=>[]) (fun gh=>[fF b ms ml mr mb mu gh.1.n,(mb,dV (eX gh.1.aX))]++L) (fun gh=>gh.2) (fun gh=>jP (aU us st li rv) body note t x.kind x.id ⟨s.n+(fU x:Nat),s.aX⟩=(0,gh.1)∧(∀ b o,Gt b=some o→gh.2 b=some o)∧gh.1.n=s.n+(fU x:Nat)∧(x.kind=7→t < 4)) sB ?_ ?_
 ·refine dN 9 H ?_ ?_ <;> clear H
  ·intro p28
   have hu:((fU x:Nat):Int)=oD x.text:=by rw [fU,ay p28]
   refine ak 3 ?_;intro a H;refine s_call PU H wn rfl (O8 _ _ H.ro x.text (by omega)) rfl ?_;clear H;rintro v33 _ a w ⟨rfl,rfl⟩ - H;refine aH 1 H ?_;clear H;intro a H;(iterate 2 refine qh H wn rfl rfl rfl ?_;clear H;intro a H);refine aH 11 H ?_;clear H;intro a H;rw [show s.n+1+((oD x.text:Int) - 1)=s.n+(fU x:Nat) by omega] at H;refine aH 2 H ?_;clear H;intro a H;refine aV bH 2 (vs:=[_]) _ H wn rfl rfl rfl rfl rfl rfl rfl rfl ?_;clear H;intro w H;dsimp only [List.set,setRow] at H;refine aG ?_;refine ⟨(⟨s.n+(fU x:Nat),s.aX⟩,Gt),sB,?_⟩;(try dsimp only)
   first
   | exact ⟨by simp_all [jP,bW,fD,iN],fun _ _ h=>h,rfl,fun h7=>by first|omega|(exfalso;simp_all)⟩
   | exact ⟨by simp_all [jP,bW,fD,iN],tq,rfl,fun h7=>by first|omega|(exfalso;simp_all)⟩
  intro p28
  have hu:((fU x:Nat):Int)=1:=by rw [fU,ah p28];rfl
  intro a H;rw [show s.n+1=s.n+((fU x:Nat):Int) by omega] at H;refine dN 4 H ?_ ?_ <;> clear H
  ·intro p45
   refine goC 5 ?_ ?_
   ·intro Lj
    try have p49:=dT Lj
    have hF1:(eG (aU us st li rv) body note t x s).1=19:=by rw [hE];simp [fD,jP,p45,bW,Lj]
    have hF2:(eG (aU us st li rv) body note t x s).1=0→(⟨s.n+(fU x:Nat),s.aX⟩:CS)=(eG (aU us st li rv) body note t x s).2:=fun h=>absurd (hF1.symm.trans h) (by decide);refine ak 3 ?_;intro a H;refine lr H results103 rfl ?_;exact H.hp.bZ (L':=fF b ms ml mr mb mu (s.n+(fU x:Nat)) :: (mb,dV (eX (s.aX))) :: L) (by repeat (first|exact bX _|apply List.Sublist.cons)) ⟨⟨s.n+(fU x:Nat),s.aX⟩,aB vi hF1.symm,rfl,hF2⟩
   intro Lj
   try have p49:=dF Lj
   intro a H;refine ji ?_;refine ⟨(⟨s.n+(fU x:Nat),s.aX⟩,Gt),sB,?_⟩;(try dsimp only)
   first
   | exact ⟨by simp_all [jP,bW,fD,iN],fun _ _ h=>h,rfl,fun h7=>by first|omega|(exfalso;simp_all)⟩
   | exact ⟨by simp_all [jP,bW,fD,iN],tq,rfl,fun h7=>by first|omega|(exfalso;simp_all)⟩
  intro p45
  refine goB 4 ?_ ?_
  ·intro p50
   refine ak 4 ?_;intro a H;refine s_call iR H wn rfl (iW _ _ H.ro _ 19) rfl ?_;clear H;rintro v54 _ a w ⟨rfl,rfl⟩ - H;refine gK pI gF [_] [_] H wn rfl rfl rfl rfl rfl (by intro i q h;match i,h with|0,h=>exact h|n+1,h=>simp at h) rfl rfl ?_;clear H;intro b55 a w aqt H;obtain ⟨He,tq,aiy,H⟩:=H.dP;refine s_call pV H wn rfl (pW _ _ H.ro _ _ (alY aiy)) rfl ?_;clear H;rintro v56 _ a w ⟨rfl,rfl⟩ - H;refine gW 6 H ?_ ?_ <;> clear H
   ·intro p58
    have e58:bW note 19≠0:=fun h=>p58 (by rw [h];rfl)
    have akm:dz [bW note 19]=bW note 19:=by simp [dz,e58]
    intro a H;rw [akm] at H
    have hF1:(eG (aU us st li rv) body note t x s).1=bW note 19:=by rw [hE];simp [fD,jP,p50,e58]
    have hF2:(eG (aU us st li rv) body note t x s).1=0→(⟨s.n+(fU x:Nat),s.aX⟩:CS)=(eG (aU us st li rv) body note t x s).2:=fun h=>absurd (hF1.symm.trans h) (e58);refine eB 4 H ?_;clear H;intro a H;refine lr H results103 rfl ?_;exact H.hp.bZ (L':=fF b ms ml mr mb mu (s.n+(fU x:Nat)) :: (mb,dV (eX (s.aX))) :: L) (by repeat (first|exact bX _|apply List.Sublist.cons)) ⟨⟨s.n+(fU x:Nat),s.aX⟩,aB vi hF1.symm,rfl,hF2⟩
   intro p58
   have e58:bW note 19=0:=Decidable.byContradiction fun h=>p58 (by simp [dz,h]);refine ak 5 ?_;intro a H;refine fB Py (Li:=[_,_]) (L:=fF b ms ml mr mb mu _ :: (mb,dV (eX s.aX)) :: L) H wn rfl (OZ _ _ _ st li rv b ms ml mr mb mu _ s.aX x.id (hck.mono tq) (Hp.owns (Li:=[_,_]) H.hp)) rfl ?_;clear H;rintro v63 _ _ a w ⟨rfl,rfl,rfl⟩ - H;dsimp only [lca,aR] at H;refine gW 6 H ?_ ?_ <;> clear H
   ·intro p65
    have hF1:(eG (aU us st li rv) body note t x s).1=ow us s.aX x.id:=by rw [hE];simp [fD,jP,p50,e58,iN,p65]
    have hF2:(eG (aU us st li rv) body note t x s).1=0→(⟨s.n+(fU x:Nat),jC us s.aX x.id⟩:CS)=(eG (aU us st li rv) body note t x s).2:=fun h=>absurd (hF1.symm.trans h) (p65);refine ak 4 ?_;intro a H;refine lr H results103 rfl ?_;exact H.hp.bZ (L':=fF b ms ml mr mb mu (s.n+(fU x:Nat)) :: (mb,dV (eX (jC us s.aX x.id))) :: L) (by repeat (first|exact bX _|apply List.Sublist.cons)) ⟨⟨s.n+(fU x:Nat),jC us s.aX x.id⟩,aB vi hF1.symm,rfl,hF2⟩
   intro p65
   have e65:ow us s.aX x.id=0:=lu.1 p65;intro a H;refine ji ?_;refine ⟨(⟨s.n+(fU x:Nat),jC us s.aX x.id⟩,He),sB,?_⟩;(try dsimp only)
   first
   | exact ⟨by simp_all [jP,bW,fD,iN],fun _ _ h=>h,rfl,fun h7=>by first|omega|(exfalso;simp_all)⟩
   | exact ⟨by simp_all [jP,bW,fD,iN],tq,rfl,fun h7=>by first|omega|(exfalso;simp_all)⟩
  intro p50
  refine goB 4 ?_ ?_
  ·intro p67
   refine goB 6 ?_ ?_
   ·intro p71
    have hF1:(eG (aU us st li rv) body note t x s).1=17:=by rw [hE];simp [fD,jP,p67,bW,p71]
    have hF2:(eG (aU us st li rv) body note t x s).1=0→(⟨s.n+(fU x:Nat),s.aX⟩:CS)=(eG (aU us st li rv) body note t x s).2:=fun h=>absurd (hF1.symm.trans h) (by decide);refine ak 3 ?_;intro a H;refine lr H results103 rfl ?_;exact H.hp.bZ (L':=fF b ms ml mr mb mu (s.n+(fU x:Nat)) :: (mb,dV (eX (s.aX))) :: L) (by repeat (first|exact bX _|apply List.Sublist.cons)) ⟨⟨s.n+(fU x:Nat),s.aX⟩,aB vi hF1.symm,rfl,hF2⟩
   intro p71
   have e71:¬ 4≤t:=by omega
   refine ak 5 ?_;intro a H;refine fB Py (Li:=[_,_]) (L:=fF b ms ml mr mb mu _ :: (mb,dV (eX s.aX)) :: L) H wn rfl (OZ _ _ _ st li rv b ms ml mr mb mu _ s.aX x.id hck (Hp.owns (Li:=[_,_]) H.hp)) rfl ?_;clear H;rintro v75 _ _ a w ⟨rfl,rfl,rfl⟩ - H;dsimp only [lca,aR] at H;refine gW 6 H ?_ ?_ <;> clear H
   ·intro Gf
    have hF1:(eG (aU us st li rv) body note t x s).1=ow us s.aX x.id:=by rw [hE];simp [fD,jP,p67,bW,e71,iN,Gf]
    have hF2:(eG (aU us st li rv) body note t x s).1=0→(⟨s.n+(fU x:Nat),jC us s.aX x.id⟩:CS)=(eG (aU us st li rv) body note t x s).2:=fun h=>absurd (hF1.symm.trans h) (Gf);refine ak 4 ?_;intro a H;refine lr H results103 rfl ?_;exact H.hp.bZ (L':=fF b ms ml mr mb mu (s.n+(fU x:Nat)) :: (mb,dV (eX (jC us s.aX x.id))) :: L) (by repeat (first|exact bX _|apply List.Sublist.cons)) ⟨⟨s.n+(fU x:Nat),jC us s.aX x.id⟩,aB vi hF1.symm,rfl,hF2⟩
   intro Gf
   have e77:ow us s.aX x.id=0:=lu.1 Gf;intro a H;refine ji ?_;refine ⟨(⟨s.n+(fU x:Nat),jC us s.aX x.id⟩,Gt),sB,?_⟩;(try dsimp only)
   first
   | exact ⟨by simp_all [jP,bW,fD,iN],fun _ _ h=>h,rfl,fun h7=>by first|omega|(exfalso;simp_all)⟩
   | exact ⟨by simp_all [jP,bW,fD,iN],tq,rfl,fun h7=>by first|omega|(exfalso;simp_all)⟩
  intro p67
  refine goB 4 ?_ ?_
  ·intro Tn
   refine ak 3 ?_;intro a H;refine s_call vW H wn rfl (wE _ _ H.ro x.id 1 1073741824) rfl ?_;clear H;rintro v83 _ a w ⟨rfl,rfl⟩ - H;refine gX 2 H ?_ ?_ <;> clear H
   ·intro h84
    try have p84:=dT h84
    have e84:¬ (1≤x.id∧x.id≤1073741824):=by have h0:=h84;simp at h0;omega
    have hF1:(eG (aU us st li rv) body note t x s).1=18:=by rw [hE];simp [fD,jP,Tn,bW,e84]
    have hF2:(eG (aU us st li rv) body note t x s).1=0→(⟨s.n+(fU x:Nat),s.aX⟩:CS)=(eG (aU us st li rv) body note t x s).2:=fun h=>absurd (hF1.symm.trans h) (by decide);refine ak 3 ?_;intro a H;refine lr H results103 rfl ?_;exact H.hp.bZ (L':=fF b ms ml mr mb mu (s.n+(fU x:Nat)) :: (mb,dV (eX (s.aX))) :: L) (by repeat (first|exact bX _|apply List.Sublist.cons)) ⟨⟨s.n+(fU x:Nat),s.aX⟩,aB vi hF1.symm,rfl,hF2⟩
   intro h84
   try have p84:=dF h84
   intro a H;refine ji ?_;refine ⟨(⟨s.n+(fU x:Nat),s.aX⟩,Gt),sB,?_⟩;(try dsimp only)
   first
   | exact ⟨by simp_all [jP,bW,fD,iN],fun _ _ h=>h,rfl,fun h7=>by first|omega|(exfalso;simp_all)⟩
   | exact ⟨by simp_all [jP,bW,fD,iN],tq,rfl,fun h7=>by first|omega|(exfalso;simp_all)⟩
  intro Tn
  intro a H;refine ji ?_;refine ⟨(⟨s.n+(fU x:Nat),s.aX⟩,Gt),sB,?_⟩;(try dsimp only)
  first
  | exact ⟨by simp_all [jP,bW,fD,iN],fun _ _ h=>h,rfl,fun h7=>by first|omega|(exfalso;simp_all)⟩
  | exact ⟨by simp_all [jP,bW,fD,iN],tq,rfl,fun h7=>by first|omega|(exfalso;simp_all)⟩
 clear H;rintro ⟨s1,g⟩ a w hI H;dsimp only at hI H;obtain ⟨hP,wC,aqR,ht7⟩:=hI;rw [hP,Fb rfl] at hE;dsimp only at hE;replace hck:=hck.mono wC;replace hh:=hh.mono wC;replace hf:=hf.mono wC;replace hr:=hr.mono wC;dsimp only [lca,aR] at H;refine eB 6 H ?_;clear H;intro a H;refine bg jG (cs:=[_,_,_,_,_]) H wn rfl rfl (H.hp.cK 1 rfl rfl) rfl ?_;clear H;intro a H;refine fB Fx (Li:=[_,_]) (L:=fF b ms ml mr mb mu s1.n :: (mb,dV (eX s1.aX)) :: L) H wn rfl (FM _ _ _ st li rv b ms ml mr mb mu _ hck (Hp.owns (Li:=[_,_]) H.hp) x.kind x.head _ _ _ hh (by omega)) rfl ?_;clear H;rintro v90 _ _ a w ⟨rfl,rfl,rfl⟩ - H;dsimp only [lca,aR] at H;refine gW 6 H ?_ ?_ <;> clear H
 ·intro M4
  have hF1:(eG (aU us st li rv) body note t x s).1=fI (aU us st li rv) x.kind x.head:=by rw [hE,Kh (r:=(fI (aU us st li rv) x.kind x.head,s1)) M4]
  have hF2:(eG (aU us st li rv) body note t x s).1=0→s1=(eG (aU us st li rv) body note t x s).2:=fun h=>absurd (hF1.symm.trans h) M4;refine ak 4 ?_;intro a H;refine lr H results103 rfl ?_;exact H.hp.bZ (L':=fF b ms ml mr mb mu (s1.n) :: (mb,dV (eX (s1.aX))) :: L) (by repeat (first|exact bX _|apply List.Sublist.cons)) ⟨s1,aB vi hF1.symm,rfl,hF2⟩
 intro M4
 rw [Fb (r:=(fI (aU us st li rv) x.kind x.head,s1)) (lu.1 M4)] at hE;intro a H;dsimp only at hE;refine dN 11 H ?_ ?_ <;> clear H
 ·intro Jo
  rw [ay Jo] at hE;refine ak 6 ?_;intro a H;refine jY Db [_,_,_] H wn rfl rfl rfl rfl ?_;clear H;intro a H;refine fB Io (Li:=[_,_]) (L:=fF b ms ml mr mb mu s1.n :: (mb,dV (eX s1.aX)) :: L) H wn rfl (ih _ _ _ st li rv b ms ml mr mb mu s1 x.flow _ false true t hck (Hp.owns (Li:=[_,_]) H.hp) hf (by omega) ht0 Ei (by omega) (by omega)) rfl ?_;clear H;rintro ard _ _ a w ⟨rfl,s3,rfl,rfl,h3⟩ - H;dsimp only [lca,aR] at H
  have hF1:(eG (aU us st li rv) body note t x s).1=(gI (aU us st li rv) false true t x.flow s1).1:=by rw [hE]
  have hF2:(eG (aU us st li rv) body note t x s).1=0→s3=(eG (aU us st li rv) body note t x s).2:=by rw [hE];exact h3
  refine aH 2 H ?_;clear H;intro a H;refine lr H results103 rfl ?_;exact H.hp.bZ (L':=fF b ms ml mr mb mu (s3.n) :: (mb,dV (eX (s3.aX))) :: L) (by repeat (first|exact bX _|apply List.Sublist.cons)) ⟨s3,aB vi hF1.symm,rfl,hF2⟩
 intro Jo
 rw [ah Jo] at hE;refine goB 4 ?_ ?_
 ·intro Gd
  rw [ay Gd] at hE;refine ak 9 ?_;intro a H;refine jY Db [_,_,_] H wn rfl rfl rfl rfl ?_;clear H;intro a H;refine fB afj (Li:=[_,_]) (L:=fF b ms ml mr mb mu s1.n :: (mb,dV (eX s1.aX)) :: L) H wn rfl (rows_ok ih hm _ _ _ st li rv b ms ml mr mb mu s1 x.rows _ note (t+1) hck (Hp.owns (Li:=[_,_]) H.hp) hr (by omega) (by omega) (by have:=ht7 Gd;omega) (by omega) (by omega)) rfl ?_;clear H;rintro arh _ _ a w ⟨s3,rfl,rfl,h3⟩ - H;dsimp only [lca,aR] at H
  have hF1:(eG (aU us st li rv) body note t x s).1=(jW x.rows.length (fun s=>gD (aU us st li rv) note (t+1) x.rows s) s1).1:=by rw [hE]
  have hF2:(eG (aU us st li rv) body note t x s).1=0→s3=(eG (aU us st li rv) body note t x s).2:=by rw [hE];exact h3
  refine aH 2 H ?_;clear H;intro a H;refine lr H results103 rfl ?_;exact H.hp.bZ (L':=fF b ms ml mr mb mu (s3.n) :: (mb,dV (eX (s3.aX))) :: L) (by repeat (first|exact bX _|apply List.Sublist.cons)) ⟨s3,aB vi hF1.symm,rfl,hF2⟩
 intro Gd
 rw [ah Gd] at hE
 have hF1:(eG (aU us st li rv) body note t x s).1=0:=by rw [hE]
 have hF2:(eG (aU us st li rv) body note t x s).1=0→s1=(eG (aU us st li rv) body note t x s).2:=fun h=>by rw [hE]
 refine ak 4 ?_;intro a H;refine lr H results103 rfl ?_;exact H.hp.bZ (L':=fF b ms ml mr mb mu (s1.n) :: (mb,dV (eX (s1.aX))) :: L) (by repeat (first|exact bX _|apply List.Sublist.cons)) ⟨s1,aB vi hF1.symm,rfl,hF2⟩
end
section
open Go.RowKit
theorem aeB:∀ args w,(callFunc 103 args).run prog w=.ok (.enter 103 args) w:=enters func103 rfl (by kernel_rfl)
theorem aeA:∀ args w,(callFunc 102 args).run prog w=.ok (.enter 102 args) w:=enters func102 rfl (by kernel_rfl)
variable {us:List Int}
def Vk (fv:aj) (Gi:GH) (n:Nat) (E:Nat→Int) {σ:Type} (B:σ→OL) (S:Nat→σ):Prop:=∀ i,i < n→∀ (G1:GH) (w1:World),(∀ b o,Gi b=some o→G1 b=some o)→fC G1 (B (S i)) w1 →
 qX prog fv [vi i] w1 (eP w1 G1 (B (S i)) fun u G' L'=>∃ s,u=vi (E i)∧L'=B s∧(E i=0→s=S (i+1)))
theorem acD (G:GH) (w0:World) {σ:Type} (B:σ→OL) (S:Nat→σ) (n:Nat) (E:Nat→Int) (fv:aj) (hO:fC G (B (S 0)) w0) (hn:n≤4611686018427387904) (hf:Vk fv G n E B S) :
  Calls prog 101 #[vi n,fv] w0 (eP w0 G (B (S 0)) fun u G' L'=>∃ s,u=vi (iY E n)∧L'=B s∧(iY E n=0→s=S n)):=by
 refine gB (N:=18) (T:=[(0,_),(1,_)]) func101 rfl ntmps101 rfl rfl hO ?_;refine ak 9 ?_;intro a H;refine eO (ι:=Nat × GH) (Tc:=[(1,_),(7,_)]) (Lc:=[]) (fun gh=>[(8,vi gh.1)]) (fun gh=>[]++B (S gh.1)) (fun gh=>gh.2) (fun gh=>gh.1≤n∧dz (((List.range n).map E).drop gh.1)=iY E n∧(∀ b o,G b=some o→gh.2 b=some o)) (fun gh=>n - gh.1) ((0,G)) sB ?_ ?_
 ·exact ⟨gV _,rfl,fun _ _ h=>h⟩
 clear H;rintro ⟨k,g⟩ a w hI H;dsimp only at hI H;obtain ⟨hk,he,hgm⟩:=hI;dsimp only [lca,aR] at H;refine dN 4 H ?_ ?_ <;> clear H
 ·intro p9
  have hk2:k < n:=by omega
  refine ak 10 ?_;intro a H;refine pq (Li:=[]) (L:=B (S k)) H wn rfl rfl (hf k hk2 _ _ hgm (Hp.owns (Li:=[]) H.hp)) rfl ?_;clear H;rintro v13 BL L13 a w ⟨s3,rfl,rfl,h3⟩ vo H;refine gW 6 H ?_ ?_ <;> clear H
  ·intro oZ
   have hE:iY E n=E k:=by rw [DJ hk2,ay oZ] at he;exact he.symm
   refine ak 4 ?_;intro a H;refine lr H results101 rfl ?_;exact H.hp.cZ ⟨s3,by rw [hE],rfl,fun h=>absurd (hE.symm.trans h) oZ⟩
  intro oZ
  have hS:=h3 (lu.1 oZ);subst hS;refine ak 4 ?_;intro a H;refine aG ?_;refine dH ((k+1,BL)) sB ?_ ?_
  ·(try dsimp only);exact ⟨by omega,by rw [DJ hk2,ah oZ] at he;exact he,fun b o h=>vo b o (hgm b o h)⟩
  first|omega|(dsimp only;omega)
 intro p9
 refine ak 4 ?_;intro a H;refine lr H results101 rfl ?_;exact H.hp.cZ ⟨S n,aB vi (by rw [fM (by simp;omega)] at he;exact he),by rw [show k=n by omega],fun _=>rfl⟩
abbrev Kq (b ms ml mr mb mu:Nat) (L:OL) (s:CS):OL:=fF b ms ml mr mb mu s.n :: (mb,dV (eX s.aX)) :: L
theorem akF {m:Nat} (ih:ER us m) (hm:m≤4294967296) {G:GH} {L:OL} {st:List bM} {li:List dW} {rv:List bQ} {b ms ml mr mb mu:Nat} {s:CS} {l:List au} {v:aj} {body note:Bool} {t:Int} {x3 x4 x5:Nat}
  (hck:uw us G st li rv ms ml mr mu) (h3:aF G x3 0=some (aD b 0)) (h4:aF G x4 0=some v) (h5:∀ (j:Nat) (u:aj),[.bool body,.bool note,vi t][j]?=some u→aF G x5 (0+j)=some u)
  (hv:av G (.sl 11 (l.map au.dat)) v) (hz:aZ l≤m) (ht0:0≤t) (Ei:t≤4) (hs0:0≤s.n) (hs1:s.n+(aZ l:Nat)≤1099511627776) :
  Vk (.func (.func 102) #[] #[(aD x3 0),(aD x4 0),(aD x5 0)]) G l.length (Ay (eG (aU us st li rv) body note t) l s) (Kq b ms ml mr mb mu L) (pz (eG (aU us st li rv) body note t) l s):=by
 intro k hk G1 w0 I7 hO;refine jq (caps:=[(aD x3 0),(aD x4 0),(aD x5 0)]) aeA ?_;replace h3:=aJ I7 h3;replace h4:=aJ I7 h4;replace h5:=fun j u hj=>aJ I7 (h5 j u hj);replace hck:=hck.mono I7;replace hv:=hv.mono I7;obtain ⟨A,c,rfl,hc1,hc2,hg⟩:=hv.slice;rw [bO] at *;obtain ⟨o,xo,pA,pn,pc,dA,dn,dc,yA,yn,yc,fA,fn,fc,rA,rn,rc,rfl,hrow,hhd,hfl,hrw⟩:=zx hk hg;obtain ⟨hn0,hn1⟩:=abk (aU us st li rv) body note t l s k (by omega)
 have hdz:aZ (l.drop k)=1+bJ l[k].dat+aZ (l.drop (k+1)):=by
  simp only [aZ];rw [lW hk,eu,dX]
 have hzm:=NV (iF hk)
 have hE:Ay (eG (aU us st li rv) body note t) l s k=(eG (aU us st li rv) body note t l[k] (pz (eG (aU us st li rv) body note t) l s k)).1:=by unfold Ay;rw [dY hk]
 have hS:pz (eG (aU us st li rv) body note t) l s (k+1)=(eG (aU us st li rv) body note t l[k] (pz (eG (aU us st li rv) body note t) l s k)).2:=by rw [pz,dY hk]
 rw [hE,hS]
 generalize pz (eG (aU us st li rv) body note t) l s k=s1 at *
 refine gB (N:=13) (T:=[(0,_),(1,_),(2,_),(3,_)]) func102 rfl ntmps102 rfl rfl hO ?_;refine ak 4 ?_;intro a H;refine dI hmx [[],[],[],[1,2],[1,2,3],[],(ra 0 6),(ra 0 7)] [6,7] (by kernel_rfl) [_,_,_,_,.agg #[vi l[k].kind,vi l[k].code,vi l[k].id,.string l[k].text,.slice pA pn pc,vi l[k].head.marks.ins,vi l[k].head.marks.move,.slice dA dn dc,.slice yA yn yc,.slice fA fn fc,.slice rA rn rc],.agg #[.bool body,.bool note,vi t]] H (aC (X0 rfl fun hG=>Rg NI rfl (aJ hG h3)) (X0 rfl fun hG=>Rg pG rfl (aJ hG h4)) (Z0 rfl (Rm rfl)) (Z2 1 7 2 8 rfl (Ri mQ dR rfl rfl)) (aC ?_ ?_ (bP rfl) (bP rfl) dw)) ?_
 ·refine dJ 3 9 rfl rfl fun _ a w G1 hG HT H fin=>?_;refine bg dR (cs:=[_,_,_,_,_,_,_,_,_,_,_]) H wn rfl rfl (fun j v hj=>H.hp.aF (aJ hG (hrow j v hj))) rfl ?_;clear H;intro a H;exact fin H iJ rfl
 ·refine Al rfl fun _ a w G1 hG HT H fin=>?_;refine bg NG (cs:=[.bool body,.bool note,vi t]) H wn rfl rfl (fun j v hj=>H.hp.aF (aJ hG (h5 j v hj))) rfl ?_;clear H;intro a H;exact fin H iJ rfl
 clear H;intro a w G iH H hv;have H:=H.aO (hv 0 6 rfl rfl) rfl;have H:=H.aO (hv 4 10 rfl rfl) rfl;have H:=H.aO (hv 5 11 rfl rfl) rfl;clear hv;refine fB aeB (Li:=[]) (L:=Kq b ms ml mr mb mu L s1) H wn rfl (akG ih hm _ _ _ st li rv b ms ml mr mb mu s1 l[k] _ _ _ _ _ body note t (hck.mono iH) (Hp.owns (Li:=[]) H.hp) (hhd.mono iH) (hfl.mono iH) (hrw.mono iH) (by omega) ht0 Ei (by omega) (by omega)) rfl ?_;clear H;rintro v12 _ _ a w ⟨s3,rfl,rfl,h12⟩ - H;dsimp only [List.nil_append] at H;refine kH H (Ra rfl ?_);clear H;intro a H;refine aG ⟨rfl,?_⟩;refine dG ?_;refine lr H results102 rfl ?_;exact H.hp.cZ ⟨s3,rfl,rfl,h12⟩
theorem akH {m:Nat} (ih:ER us m) (hm:m≤4294967296):ER us (m+1):=by
 intro G L w0 st li rv b ms ml mr mb mu s l v body note t hck hO hv hz ht0 Ei hs0 hs1;obtain ⟨hA1,hA2⟩:=Zd (aU us st li rv) body note t l s;refine Calls.acH (R:=fun u G' L'=>JR b ms ml mr mb mu L (gI (aU us st li rv) body note t l s) u L') ?_ fun _ _ _ h=>h;obtain ⟨A,c,rfl,hc1,hc2,-⟩:=hv.slice;rw [bO] at *;have hll:=wR l;refine gB (N:=11) (T:=[(0,_),(1,_),(2,_)]) func46 rfl ntmps46 rfl rfl hO ?_;refine ak 1 ?_;intro a H;refine dU (cs:=[_]) H wn rfl rfl rfl ?_;clear H;intro b3 a w hb3 H;refine dU (cs:=[_]) H wn rfl rfl rfl ?_;clear H;intro b4 a w hb4 H;refine dU (cs:=[_,_,_]) H wn rfl rfl rfl ?_;clear H;intro b5 a w hb5 H;refine aH 2 H ?_;clear H;intro a H;obtain ⟨Ga5,Mc,xg,H⟩:=H.dP;obtain ⟨Ga4,FQ,wu,H⟩:=H.dP;obtain ⟨Ga,Cz,AY,H⟩:=H.dP;replace xg:=Cz _ _ (FQ _ _ xg);replace wu:=Cz _ _ wu;have hma:∀ b o,G b=some o→Ga b=some o:=fun b o h=>Cz _ _ (FQ _ _ (Mc _ _ h))
 have g3:aF Ga b3 0=some (aD b 0):=by unfold aF;rw [AY];rfl
 have g4:aF Ga b4 0=some (.slice A l.length c):=by unfold aF;rw [wu];rfl
 have g5:∀ (j:Nat) (u:aj),[.bool body,.bool note,vi t][j]?=some u→aF Ga b5 (0+j)=some u:=by
  intro j u hj;unfold aF;rw [xg];simpa using hj
 have hcb:=akF (mb:=mb) (L:=L) (s:=s) ih hm (hck.mono hma) g3 g4 g5 (hv.mono hma) (by omega) ht0 Ei hs0 hs1;refine eB 3 H ?_;clear H;intro a H;refine mP H wn rfl rfl ?_;clear H;intro a H;refine fB Fw (Li:=[]) (L:=Kq b ms ml mr mb mu L s) H wn rfl (acD _ _ (Kq b ms ml mr mb mu L) (pz (eG (aU us st li rv) body note t) l s) l.length (Ay (eG (aU us st li rv) body note t) l s) _ (Hp.owns (Li:=[]) H.hp) (by omega) hcb) rfl ?_;clear H;rintro v10 _ _ a w ⟨s3,rfl,rfl,h10⟩ - H;dsimp only [List.nil_append] at H;refine aH 2 H ?_;clear H;intro a H;refine lr H results46 rfl ?_;exact H.hp.cZ ⟨s3,by rw [hA1],rfl,fun h=>by rw [hA1] at h;exact (h10 h).trans (hA2 (hA1.trans h)).symm⟩
theorem MJ:∀ m:Nat,m≤4294967297→ER us m
 | 0,_=>fun _ _ _ _ _ _ _ _ _ _ _ _ _ _ _ _ _ _ _ _ _ h=>absurd h (by omega)
 | m+1,hm=>akH (MJ m (by omega)) (by omega)
end
section
open Go.RowKit
instance ahl:dB prog 82 1 1:=⟨by kernel_rfl⟩
instance ahm:dB prog 82 2 2:=⟨by kernel_rfl⟩
theorem aeV:∀ args w,(callFunc 132 args).run prog w=.ok (.enter 132 args) w:=enters func132 rfl (by kernel_rfl)
theorem aeU:∀ args w,(callFunc 130 args).run prog w=.ok (.enter 130 args) w:=enters func130 rfl (by kernel_rfl)
theorem amZ {G:GH} {bl:Nat} {l:List bQ} {A:Option Addr} {n c:Nat} (hb:aF G bl 0=some (.slice A n c)) (hv:av G (.sl 3 (l.map bQ.dat)) (.slice A n c)):qZ (.func (.func 132) #[] #[(aD bl 0)]) G l.length fun k=>(l[k]?.map bQ.id).getD 0:=by
 intro k hk G1 w0 hm hG;refine jq (caps:=[(aD bl 0)]) aeV ?_;replace hb:=aJ hm hb
 obtain rfl:n=l.length:=by have:=hv.len;simpa using this
 obtain ⟨b,o,rfl,hrow⟩:=TJ (hv.mono hm) hk;have hq:=hrow 0 _ rfl;refine eN [(0,_),(1,_)] func132 rfl ntmps132 rfl rfl hG ?_;refine aP 11 ?_;dsimp only;rw [dY hk];rfl
def Nf (l:List bQ) (i:Nat) (x:bQ):Int:=dz [nP (fun k=>(l[k]?.map bQ.id).getD 0) i,bW (!uM x.author) 39,bW (!decide (0≤x.time∧x.time≤1099511627776)) 40]
def zS (l:List bQ) (i:Nat):Int:=match l[i]? with|some x=>Nf l i x|none=>0
theorem amP {G:GH} {bl:Nat} {l:List bQ} {A:Option Addr} {n c:Nat} (hb:aF G bl 0=some (.slice A n c)) (hv:av G (.sl 3 (l.map bQ.dat)) (.slice A n c)) (hl:l.length≤4294967296) (ht:∀ x∈l,x.author.size < 4611686018427387904):qZ (.func (.func 130) #[] #[(aD bl 0)]) G l.length (zS l):=by
 intro k hk G1 w0 hm hG;refine jq (caps:=[(aD bl 0)]) aeU ?_;replace hb:=aJ hm hb;replace hv:=hv.mono hm;have hcb:=amZ hb hv
 obtain rfl:n=l.length:=by have:=hv.len;simpa using this
 obtain ⟨b,o,rfl,hrow⟩:=TJ hv hk;have hte:=ht _ (iF hk)
 have he:zS l k=Nf l k l[k]:=by unfold zS;rw [dY hk]
 obtain ⟨x,hx⟩:∃ x,x=l[k]:=⟨_,rfl⟩;rw [← hx] at hrow hte he;refine eN [(0,_),(1,_)] func130 rfl ntmps130 rfl rfl hG ?_;refine ak 4 ?_;intro a H;have H:=H.sub (T':=[(0,_),(1,_)]) ⟨rfl,rfl,bB⟩;refine dI hmx [[],[],[0,1],[],[],[3,4],[3,4,5],(ra 3 4),(ra 0 8),(ra 0 9),(ra 0 10),[],[],[11,12],[11,12,13],(ra 11 4),(ra 0 16),(ra 0 17),(ra 0 18),(ra 0 19),(ra 0 20),(ra 0 21)] [19,20,21] (by kernel_rfl) [_,.func (.func 132) #[] #[(aD bl 0)],vi (nP (fun k=>(l[k]?.map bQ.id).getD 0) k),_,_,_,_,_,.bool (uM x.author),_,vi (bW (!uM x.author) 39),_,_,_,_,_,.bool (decide (0≤x.time∧x.time≤1099511627776)),_,vi (bW (!decide (0≤x.time∧x.time≤1099511627776)) 40)] H (aC (Z0 rfl (Rm rfl)) ?_ ?_ (X0 rfl fun hG=>Rg EH rfl (aJ hG hb)) (aC (Z0 rfl (Rm rfl)) (Z2 3 7 4 8 rfl (Ri xR qz rfl rfl)) (Z1 5 9 rfl (Rf ahl rfl)) (X1 6 10 rfl fun hG=>Rg lN rfl (aJ hG (hrow 1 _ rfl))) (aC ?_ (Z1 8 12 rfl (Rn rfl)) ?_ (X0 rfl fun hG=>Rg EH rfl (aJ hG hb)) (aC (Z0 rfl (Rm rfl)) (Z2 11 15 12 16 rfl (Ri xR qz rfl rfl)) (Z1 13 17 rfl (Rf ahm rfl)) (X1 14 18 rfl fun hG=>Rg bH rfl (aJ hG (hrow 2 _ rfl))) (aC ?_ (Z1 16 20 rfl (Rn rfl)) ?_ (bP rfl) (bL (bP rfl) (bL (bP rfl) dw))))))) ?_
 ·refine Al rfl fun _ a w G1 hG HT H fin=>?_;refine mP H wn rfl rfl ?_;clear H;intro a H;exact fin H iJ rfl
 ·refine dL 0 4 1 5 rfl rfl fun _ a w G1 hG HT H fin=>?_;refine s_call Pq H wn rfl (Sm _ _ H.ro k _ _ (by omega) (fun i hi=>(hcb.mono hG) i (by omega))) rfl ?_;clear H;rintro v6 G6 a w rfl iZ H;exact fin H iZ (rfl)
 ·refine dJ 7 11 rfl rfl fun _ a w G1 hG HT H fin=>?_;refine s_call WI H wn rfl (VG _ _ H.ro x.author hte) rfl ?_;clear H;rintro v12 Ae a w ⟨rfl,-⟩ mM H;exact fin H mM (rfl)
 ·refine dJ 9 13 rfl rfl fun _ a w G1 hG HT H fin=>?_;refine s_call iR H wn rfl (iW _ _ H.ro _ 39) rfl ?_;clear H;rintro v14 BM a w ⟨rfl,-⟩ AO H;exact fin H AO (rfl)
 ·refine dJ 15 19 rfl rfl fun _ a w G1 hG HT H fin=>?_;refine s_call vW H wn rfl (wE _ _ H.ro x.time 0 1099511627776) rfl ?_;clear H;rintro v20 GX a w ⟨rfl,-⟩ ahK H;exact fin H ahK (rfl)
 ·refine dJ 17 21 rfl rfl fun _ a w G1 hG HT H fin=>?_;refine s_call iR H wn rfl (iW _ _ H.ro _ 40) rfl ?_;clear H;rintro v22 G22 a w ⟨rfl,-⟩ Qy H;exact fin H Qy (rfl)
 clear H;intro a w G iH H hv;have H:=H.aO (hv 2 6 rfl rfl) rfl;have H:=H.aO (hv 10 14 rfl rfl) rfl;have H:=H.aO (hv 18 22 rfl rfl) rfl;clear hv;refine gK pI gF [_,_,_] [_,_,_] H wn rfl rfl rfl rfl rfl (by intro i q h;match i,h with|0,h=>exact h|1,h=>exact h|2,h=>exact h|n+3,h=>simp at h) rfl rfl ?_;clear H;intro b23 a w aqm H;obtain ⟨U6,Cy,aiu,H⟩:=H.dP;refine s_call pV H wn rfl (pW _ _ H.ro _ _ (Em [nP (fun k=>(l[k]?.map bQ.id).getD 0) k,bW (!uM x.author) 39,bW (!decide (0≤x.time∧x.time≤1099511627776)) 40] aiu (show 3≤maxLen by decide))) rfl ?_;clear H;rintro v24 _ a w ⟨rfl,rfl⟩ - H;refine kH H (Ra rfl ?_);clear H;intro a H;refine aG ⟨rfl,?_⟩;refine dG ?_;refine uU 0 H ?_;rw [he,Nf]
def wZ (l:List bQ):Int:=dz [bW (decide (256 < (l.length:Int))) 9,iY (zS l) (min l.length 256)]
theorem adu (G:GH) (w0:World) (hG:Hold G w0) (l:List bQ) (v:aj) (hv:av G (.sl 3 (l.map bQ.dat)) v) (hl:l.length≤4294967296) (ht:∀ x∈l,x.author.size < 4611686018427387904) :
  Calls prog 74 #[v] w0 (bD w0 G fun u G'=>u=vi (wZ l)):=by
 obtain ⟨A,c,rfl,hc1,hc2,-⟩:=hv.slice;rw [bO] at *;refine eN [(0,_)] func74 rfl ntmps74 rfl rfl hG ?_;refine ak 1 ?_;intro a H;refine dU (cs:=[_]) H wn rfl rfl rfl ?_;clear H;intro b1 a w hb1 H;refine aH 3 H ?_;clear H;intro a H;have H:=H.sub (T':=[(1,_)]) ⟨rfl,bB⟩;obtain ⟨Ga,hma,hb1',H⟩:=H.dP
 have hbl:aF Ga b1 0=some (.slice A l.length c):=by unfold aF;rw [hb1'];rfl
 have hcb:=amP hbl (hv.mono hma) hl ht;refine dI hmx [[],[0],[0,1],[0,1,2],[],[4],[4,5],[],(ra 0 8),(ra 0 9),(ra 0 10),(ra 0 11)] [9,10,11] (by kernel_rfl) [_,_,_,vi (bW (decide (256 < (l.length:Int))) 9),_,_,vi ((min l.length 256:Nat):Int),.func (.func 130) #[] #[(aD b1 0)],vi (iY (zS l) (min l.length 256))] H (aC (X0 rfl fun hG=>Rg EH rfl (aJ hG hbl)) (Z1 0 3 rfl (Rl xR rfl)) (Z1 1 4 rfl (Rc rfl)) ?_ (aC (X0 rfl fun hG=>Rg EH rfl (aJ hG hbl)) (Z1 4 7 rfl (Rl xR rfl)) ?_ ?_ (aC ?_ (bP rfl) (bP rfl) (bP rfl) dw))) ?_
 ·refine dJ 2 5 rfl rfl fun _ a w G1 hG HT H fin=>?_;refine s_call iR H wn rfl (iW _ _ H.ro _ 9) rfl ?_;clear H;rintro v6 G6 a w ⟨rfl,-⟩ iZ H;exact fin H iZ (rfl)
 ·refine dJ 5 8 rfl rfl fun _ a w G1 hG HT H fin=>?_;refine Nk H wn rfl rfl rfl ?_;clear H;intro a H;exact fin H iJ (aB vi (by omega))
 ·refine Al rfl fun _ a w G1 hG HT H fin=>?_;refine mP H wn rfl rfl ?_;clear H;intro a H;exact fin H iJ rfl
 ·refine dL 6 9 7 10 rfl rfl fun _ a w G1 hG HT H fin=>?_;refine s_call Fw H wn rfl (H7 _ _ H.ro (min l.length 256) (zS l) _ (by omega) ((hcb.mono hG).le (Nat.min_le_left _ _))) rfl ?_;clear H;rintro v11 qY a w rfl jO H;exact fin H jO (rfl)
 clear H;intro a w G iH H hv;have H:=H.aO (hv 3 6 rfl rfl) rfl;have H:=H.aO (hv 8 11 rfl rfl) rfl;clear hv;refine gK pI gF [_,_] [_,_] H wn rfl rfl rfl rfl rfl (by intro i q h;match i,h with|0,h=>exact h|1,h=>exact h|n+2,h=>simp at h) rfl rfl ?_;clear H;intro b12 a w D5 H;obtain ⟨Ae,yF,D6,H⟩:=H.dP;refine s_call pV H wn rfl (pW _ _ H.ro _ _ (xM D6)) rfl ?_;clear H;rintro v13 _ a w ⟨rfl,rfl⟩ - H;refine kH H (Ra rfl ?_);clear H;intro a H;refine aG ⟨rfl,?_⟩;refine dG ?_;refine uU 0 H ?_;exact rfl
theorem jM:∀ {l:List Int},dz l=0→∀ x∈l,x=0
 | [],_,_,h=>by cases h
 | e :: r,h,x,hx=>by
  unfold dz at h
  by_cases he:e=0
  ·rw [ah (fun h'=>h' he)] at h
   rcases iQ.1 hx with rfl|hx
   ·exact he
   exact jM h x hx
  rw [ay he] at h;exact absurd h he
theorem Cb {E:Nat→Int} {n:Nat} (h:iY E n=0) (i:Nat) (hi:i < n):E i=0:=jM h _ (by simp;exact ⟨i,hi,rfl⟩)
theorem Ji {id:Nat→Int} {i:Nat} (h:nP id i=0):1≤id i∧id i≤1073741824∧(0 < i→id (i - 1) < id i):=by
 unfold nP at h
 by_cases h1:1≤id i∧id i≤1073741824
 ·rw [ah (fun h'=>h' h1)] at h
  by_cases h2:0 < i∧id i=id (i - 1)
  ·rw [ay h2] at h;cases h
  rw [ah h2] at h
  by_cases h3:0 < i∧id i < id (i - 1)
  ·rw [ay h3] at h;cases h
  exact ⟨h1.1,h1.2,fun h0=>by omega⟩
 rw [ay h1] at h;cases h
theorem Y9 {l:List Int} (h:∀ i (h:i+1 < l.length),l[i] < l[i+1]):Ad l:=by
 have hlt:∀ (j i:Nat) (hj:j < l.length) (hi:i < j),l[i] < l[j]:=by
  intro j
  induction j with
  | zero=>intro i _ hi;omega
  | succ j ih =>
   intro i hj hi;have h1:=h j hj
   by_cases e:i=j
   ·subst e;exact h1
   have:=ih i (by omega) (by omega);omega
 intro k hk hm;obtain ⟨i,hi,he⟩:=List.getElem_of_mem hm;rw [List.length_take] at hi;have:=hlt k i hk (by omega);rw [List.getElem_take] at he
 omega
theorem amQ {l:List bQ} (h:wZ l=0):Ad (l.map bQ.id):=by
 have h1:=jM h _ (fH);have h2:=jM h _ (gL _ fH)
 have hl:l.length≤256:=by
  unfold bW at h1
  by_cases hd:256 < (l.length:Int)
  ·rw [ay (aI hd)] at h1;cases h1
  omega
 refine Y9 fun i hi=>?_;rw [bO] at hi;have h3:=Cb h2 (i+1) (by omega)
 unfold zS at h3
 rw [dY hi] at h3;have h4:=(Ji (jM h3 _ fH)).2.2 (by omega);rw [Nat.add_sub_cancel,dY hi,dY (show i < l.length by omega)] at h4
 simpa using h4
theorem akZ {l:List dW} (h:Fq l=0):Ad (l.map dW.id):=by
 have h1:=jM h _ (fH);have h2:=jM h _ (gL _ fH)
 have hl:l.length≤64:=by
  unfold bW at h1
  by_cases hd:64 < (l.length:Int)
  ·rw [ay (aI hd)] at h1;cases h1
  omega
 refine Y9 fun i hi=>?_;rw [bO] at hi;have h3:=Cb h2 (i+1) (by omega)
 unfold Er at h3
 have h4:=(Ji (jM h3 _ fH)).2.2 (by omega);rw [Nat.add_sub_cancel,dY hi,dY (show i < l.length by omega)] at h4
 simpa using h4
theorem aoL {l:List bM} (h:fO l=0):Ad (l.map bM.id):=by
 unfold fO at h
 by_cases h1:128 < l.length
 ·rw [ay h1] at h;cases h
 rw [ah h1] at h
 by_cases h2:qJ (yO l) 0 l.length≠0
 ·rw [ay h2] at h;exact absurd h h2
 intro k hk;rw [bO] at hk;have:=ZX (lu.1 h2) k hk;rw [← List.map_take,List.getElem_map];exact this
end
section
open Go.RowKit
theorem agk:∀ args w,(callFunc 45 args).run prog w=.ok (.enter 45 args) w:=enters func45 rfl (by kernel_rfl)
instance BD:Ty prog 36 4 96 [.slice none 0 0,.slice none 0 0,.slice none 0 0,.slice none 0 0] true:=⟨by kernel_rfl,by kernel_rfl⟩
theorem agu:∀ args w,(callFunc 73 args).run prog w=.ok (.enter 73 args) w:=enters func73 rfl (by kernel_rfl)
theorem agv:∀ args w,(callFunc 74 args).run prog w=.ok (.enter 74 args) w:=enters func74 rfl (by kernel_rfl)
instance Qe:dB prog 38 1 1:=⟨by kernel_rfl⟩
theorem Ql (e:Int):dz [e]=e:=by
 by_cases h:e=0 <;> simp [dz,h]
structure iO where
 flow:List au
 fin:dh
 revs:List bQ
 jD:xX
structure qj (G:GH) (D:jy) (d:iO):Prop where
 fl:av G (.sl 11 (d.flow.map au.dat)) (aS D.f)
 hd:gG G d.fin (aS D.p) (aS D.d) (aS D.y)
 ins:D.ins=d.fin.marks.ins
 mv:D.move=d.fin.marks.move
 rv:av G (.sl 3 (d.revs.map bQ.dat)) (aS D.r)
 st:uD G d.jD (aS D.s1) (aS D.s2) (aS D.s3) (aS D.s4)
theorem uD.mono {G G':GH} (hm:∀ b o,G b=some o→G' b=some o) {s:xX} {a b c d:aj} (h:uD G s a b c d):uD G' s a b c d:=⟨h.st.mono hm,h.li.mono hm,h.cm.mono hm,h.va.mono hm⟩
theorem qj.mono {G G':GH} (hm:∀ b o,G b=some o→G' b=some o) {D:jy} {d:iO} (h:qj G D d):qj G' D d:=⟨h.fl.mono hm,h.hd.mono hm,h.ins,h.mv,h.rv.mono hm,h.st.mono hm⟩
structure vQ (d:iO):Prop where
 fl:aZ d.flow≤1073741824
 hd:kZ d.fin≤4294967296
 rn:d.revs.length≤4294967296
 rt:∀ x∈d.revs,x.author.size < 4611686018427387904
 sn:d.jD.styles.length≤4294967296
 st:J9 d.jD
abbrev iO.jI (d:iO):bK:=aU [] d.jD.styles d.jD.lists d.revs
def rP (m:wT):Bool:=decide ((m.ins≠0∨m.move≠0)∨0 < (m.bU.length:Int))
def iG (d:iO):Int:=dz [dz [Cg d.jD,wZ d.revs],dz [fI d.jI 3 d.fin,bW (rP d.fin.marks) 21],(gI d.jI true false 0 d.flow ⟨0,[]⟩).1,bW (decide (16384 < (gI d.jI true false 0 d.flow ⟨0,[]⟩).2.n)) 9]
theorem OY (G:GH) (w0:World) (hG:Hold G w0) (D:jy) (d:iO) (hR:qj G D d) (hz:vQ d) :
  Calls prog 27 #[D.val] w0 (bD w0 G fun u G'=>u=vi (iG d)):=by
 obtain ⟨df,dp,dd,dy,dr,d1,d2,d3,d4,ins,mv⟩:=D;obtain ⟨hfl,hhd,hin,hmv,qN,hst⟩:=hR;dsimp only at hfl hhd hin hmv qN hst;subst hin;subst hmv;obtain ⟨zf,zh,zr,zt,zs,zg⟩:=hz;have hdl:=hhd.bU.len;rw [bO] at hdl
 have hdn:d.fin.marks.bU.length≤4294967296:=by
  have h1:=BI d.fin;have h2:=kY (d.fin.marks.bU.map iB.dat);rw [bO] at h2;omega
 refine eN [(0,_)] func27 rfl ntmps27 rfl rfl hG ?_;refine ak 1 ?_;intro a H;refine dU (cs:=[_,_,_,_,_,_,_,_,_,_,_]) H wn rfl rfl rfl ?_;clear H;intro b1 a w hb1 H;refine aH 4 H ?_;clear H;intro a H;refine dI hmx [[],[0],[0,1],[],[3],(ra 0 5),(ra 0 6),(ra 0 7),(ra 0 8)] [6,7,8] (by kernel_rfl) [_,.agg #[aS d1,aS d2,aS d3,aS d4],vi (Cg d.jD),_,aS dr,vi (wZ d.revs)] H (aC (Z0 rfl (Rf ahi rfl)) ?_ ?_ (Z0 rfl (Rf ahh rfl)) (aC (Z1 3 11 rfl (Ro EH 0 rfl)) ?_ (bP rfl) (bP rfl) (bL (bP rfl) dw))) ?_
 ·refine dJ 0 8 rfl rfl fun _ a w G1 hG HT H fin=>?_;refine bg BD (cs:=[_,_,_,_]) H wn rfl rfl (H.hp.cK 0 rfl rfl) rfl ?_;clear H;intro a H;exact fin H iJ rfl
 ·refine dJ 1 9 rfl rfl fun _ a w G1 hG HT H fin=>?_;refine s_call agu H wn rfl (adw _ _ H.ro d.jD _ _ _ _ (hst.mono hG) zg) rfl ?_;clear H;rintro v10 yX a w rfl oI H;exact fin H oI (rfl)
 ·refine dJ 4 12 rfl rfl fun _ a w G1 hG HT H fin=>?_;refine s_call agv H wn rfl (adu _ _ H.ro d.revs _ (qN.mono hG) zr zt) rfl ?_;clear H;rintro v13 BL a w rfl Qx H;exact fin H Qx (rfl)
 clear H;intro a w G iH H hv;have H:=H.aO (hv 2 10 rfl rfl) rfl;have H:=H.aO (hv 5 13 rfl rfl) rfl;clear hv;refine gK pI gF [_,_] [_,_] H wn rfl rfl rfl rfl rfl (by intro i q h;match i,h with|0,h=>exact h|1,h=>exact h|n+2,h=>simp at h) rfl rfl ?_;clear H;intro b14 a w QU H;obtain ⟨BM,Cx,air,H⟩:=H.dP;have hg1:=fun b o h=>Cx b o (iH b o h);replace hfl:=hfl.mono hg1;replace hhd:=hhd.mono hg1;replace qN:=qN.mono hg1;replace hst:=hst.mono hg1;refine s_call pV H wn rfl (pW _ _ H.ro _ _ (xM air)) rfl ?_;clear H;rintro v15 _ a w ⟨rfl,rfl⟩ - H;refine kH H (Ra rfl ?_);clear H;intro a H;refine aG ⟨rfl,?_⟩;refine dG ?_;refine dN 4 H ?_ ?_ <;> clear H
 ·intro kW
  have hE:iG d=dz [Cg d.jD,wZ d.revs]:=by rw [iG,dz,ay kW]
  refine aP 4 ?_;rw [hE]
 intro kW
 have e1:=lu.1 kW;have s1:=jM e1 _ fH;have s2:=jM e1 _ (gL _ fH);have t1:=jM s1 _ fH;have t2:=jM s1 _ (gL _ fH);refine ak 2 ?_;intro a H;refine bg iy (cs:=[_,_,_,_,_,_,_,_,_,_,_]) H wn rfl rfl (H.hp.cK 0 rfl rfl) rfl ?_;clear H;intro a H;refine fB agk (Li:=[_]) (L:=[]) H wn rfl (alD _ _ (Hp.owns (Li:=[_]) H.hp) ⟨df,dp,dd,dy,dr,d1,d2,d3,d4,d.fin.marks.ins,d.fin.marks.move⟩ d.jD.styles d.jD.lists d.revs hst.st hst.li qN (aoL t1) (akZ t2) (amQ s2) zs zg.ln zr) rfl ?_;clear H;rintro v20 GX _ a w ⟨b,ms,ml,mr,mb,mu,rfl,rfl,hck⟩ FP H;dsimp only [lca,aR] at H;have H:=H.cu (Pl:=[_,_,_,_]) (bS:=[_,_,_,_]) [3,0,1,2] (by decide) rfl;obtain ⟨Gu,hmu,hu,H⟩:=H.dP;replace hck:=hck.with (us:=[]) hmu hu;replace hfl:=(hfl.mono FP).mono hmu;replace hhd:=(hhd.mono FP).mono hmu;refine aH 5 H ?_;clear H;intro a H;refine bg GA (cs:=[_,_,_,_]) H wn rfl rfl (H.hp.cK 0 rfl rfl) rfl ?_;clear H;intro a H;refine dx GA H wn rfl ?_;clear H;intro b5 a w hb5 H;refine aV GA 0 (vs:=[_,_,_,_]) _ H wn rfl rfl rfl rfl rfl rfl rfl rfl ?_;clear H;intro w H;dsimp only [List.set,setRow] at H;refine aH 3 H ?_;clear H
 intro a H;by_cases c0:d.fin.marks.ins≠0
 ·have c1:d.fin.marks.ins≠0∨d.fin.marks.move≠0:=Or.inl c0;refine dI hmx [[],[],[1],[0,1,2],[],[4],[4,5],(ra 0 7),(ra 0 8),(ra 0 9),(ra 0 10),(ra 0 11),(ra 0 12),(ra 0 13),(ra 0 14),(ra 0 15),(ra 0 16),(ra 0 17),(ra 0 18),(ra 0 19),(ra 0 20),(ra 0 21)] [19,20,21] (by kernel_rfl) [_,_,sZ d.fin (aS dp) (aS dd) (aS dy),vi (fI d.jI 3 d.fin),_,vi d.fin.marks.ins,_,_,undef,undef,undef,.bool (decide (d.fin.marks.ins≠0∨d.fin.marks.move≠0)),_,undef,undef,undef,undef,.bool (rP d.fin.marks),vi (bW (rP d.fin.marks) 21)] H (aC (Z0 rfl (Rm rfl)) (Z0 rfl (Rf Qe rfl)) ?_ ?_ (aC (Z0 rfl (Rf Ck rfl)) (Z1 4 28 rfl (Ro bH 0 rfl)) (Z1 5 29 rfl (Rc rfl)) (Z1 6 30 rfl (Rm rfl)) (aC (aQ 7 (aI c0) rfl rfl) (aQ 7 (aI c0) rfl rfl) (aQ 7 (aI c0) rfl rfl) ?_ (aC (Z1 11 35 rfl (Rm rfl)) (aQ 12 (aI c1) rfl rfl) (aQ 12 (aI c1) rfl rfl) (aQ 12 (aI c1) rfl rfl) (aC (aQ 12 (aI c1) rfl rfl) ?_ ?_ (bP rfl) (bL (bP rfl) (bL (bP rfl) dw))))))) ?_
  ·refine dJ 1 25 rfl rfl fun _ a w G1 hG HT H fin=>?_;refine bg jG (cs:=[_,_,_,_,_]) H wn rfl rfl (H.hp.cK 1 rfl rfl) rfl ?_;clear H;intro a H;exact fin H iJ rfl
  ·refine dL 0 24 2 26 rfl rfl fun _ a w G1 hG HT H fin=>?_;refine fB Fx (Li:=[_,_]) (L:=fF b ms ml mr mb mu 0 :: (mb,dV []) :: []) H wn rfl (FM _ _ _ d.jD.styles d.jD.lists d.revs b ms ml mr mb mu _ (hck.mono hG) (Hp.owns (Li:=[_,_]) H.hp) 3 d.fin _ _ _ (hhd.mono hG) zh) rfl ?_;clear H;rintro v27 _ _ a w ⟨rfl,rfl,rfl⟩ IK H;dsimp only [lca,aR] at H;exact fin H IK (rfl)
  ·refine dL 7 31 10 34 rfl rfl fun _ a w G1 hG HT H fin=>?_;refine aH 1 H ?_;clear H;intro a H;exact fin H iJ (by show _=_;first|exact dD (aI c1).symm|exact dD (by simp [c0]))
  ·refine dL 12 36 16 40 rfl rfl fun _ a w G1 hG HT H fin=>?_;refine aH 1 H ?_;clear H;intro a H;exact fin H iJ (by show _=_;first|exact dD (iE (Or.inl c1)).symm|exact dD (by simp [rP,c1]))
  ·refine dJ 17 41 rfl rfl fun _ a w G1 hG HT H fin=>?_;refine s_call iR H wn rfl (iW _ _ H.ro _ 21) rfl ?_;clear H;rintro v42 JX a w ⟨rfl,-⟩ IL H;exact fin H IL (rfl)
  clear H;intro a w G iZ H hv;have H:=H.aO (hv 3 27 rfl rfl) rfl;have H:=H.aO (hv 18 42 rfl rfl) rfl;clear hv;refine gK pI gF [_,_] [_,_] H wn rfl rfl rfl rfl rfl (by intro i q h;match i,h with|0,h=>exact h|1,h=>exact h|n+2,h=>simp at h) rfl rfl ?_;clear H;intro Ki a w XP H;obtain ⟨Dn,nN,IW,H⟩:=H.dP;have Cw:=fun b o h=>nN b o (iZ b o h);replace hfl:=hfl.mono Cw;replace hck:=hck.mono Cw;refine s_call pV H wn rfl (pW _ _ H.ro _ _ (xM IW)) rfl ?_;clear H;rintro v44 _ a w ⟨rfl,rfl⟩ - H;refine kH H (Ra rfl ?_);clear H;intro a H;refine aG ⟨rfl,?_⟩;refine dG ?_;refine dN 4 H ?_ ?_ <;> clear H
  ·intro p46
   have hE:iG d=dz [fI d.jI 3 d.fin,bW (rP d.fin.marks) 21]:=by rw [iG,dz,ah (by simpa using e1),dz,ay p46]
   refine aP 4 ?_;rw [hE]
  intro p46
  have e2:=lu.1 p46;refine ak 6 ?_;intro a H;refine jY Db [_,_,_] H wn rfl rfl rfl rfl ?_;clear H;intro a H;refine fB Io (Li:=[_,_]) (L:=fF b ms ml mr mb mu 0 :: (mb,dV []) :: []) H wn rfl (MJ 4294967297 (by omega) _ _ _ d.jD.styles d.jD.lists d.revs b ms ml mr mb mu ⟨0,[]⟩ d.flow _ true false 0 hck (Hp.owns (Li:=[_,_]) H.hp) hfl (by omega) (by omega) (by omega) (by decide) (by dsimp only;omega)) rfl ?_;clear H;rintro v52 _ _ a w ⟨rfl,s3,rfl,rfl,h3⟩ - H;dsimp only [lca,aR] at H;refine gW 6 H ?_ ?_ <;> clear H
  ·intro p54
   have hE:iG d=(gI d.jI true false 0 d.flow ⟨0,[]⟩).1:=by rw [iG,dz,ah (by simpa using e1),dz,ah (by simpa using e2),dz,ay p54]
   refine aP 4 ?_;rw [hE]
  intro p54
  have e3:=lu.1 p54;have hs3:=h3 e3;subst hs3;refine ak 7 ?_;intro a H;refine s_call iR H wn rfl (iW _ _ H.ro _ 9) rfl ?_;clear H;rintro v61 _ a w ⟨rfl,rfl⟩ - H
  have hE:iG d=bW (decide (16384 < (gI d.jI true false 0 d.flow ⟨0,[]⟩).2.n)) 9:=by rw [iG,dz,ah (by simpa using e1),dz,ah (by simpa using e2),dz,ah (by simpa using e3)];exact Ql _
  refine gH 2 H ?_;rw [hE]
 by_cases c1:d.fin.marks.ins≠0∨d.fin.marks.move≠0
 ·refine dI hmx [[],[],[1],[0,1,2],[],[4],[4,5],(ra 0 7),(ra 0 8),(ra 0 9),(ra 0 10),(ra 0 11),(ra 0 12),(ra 0 13),(ra 0 14),(ra 0 15),(ra 0 16),(ra 0 17),(ra 0 18),(ra 0 19),(ra 0 20),(ra 0 21)] [19,20,21] (by kernel_rfl) [_,_,sZ d.fin (aS dp) (aS dd) (aS dy),vi (fI d.jI 3 d.fin),_,vi d.fin.marks.ins,_,_,_,vi d.fin.marks.move,_,.bool (decide (d.fin.marks.ins≠0∨d.fin.marks.move≠0)),_,undef,undef,undef,undef,.bool (rP d.fin.marks),vi (bW (rP d.fin.marks) 21)] H (aC (Z0 rfl (Rm rfl)) (Z0 rfl (Rf Qe rfl)) ?_ ?_ (aC (Z0 rfl (Rf Ck rfl)) (Z1 4 28 rfl (Ro bH 0 rfl)) (Z1 5 29 rfl (Rc rfl)) (Z1 6 30 rfl (Rm rfl)) (aC (Z1 7 31 rfl (YF Xk (aY c0) rfl)) (Z2 8 32 7 31 rfl (YO bH 0 (aY c0) rfl)) (Z2 9 33 7 31 rfl (YC (aY c0) rfl)) ?_ (aC (Z1 11 35 rfl (Rm rfl)) (aQ 12 (aI c1) rfl rfl) (aQ 12 (aI c1) rfl rfl) (aQ 12 (aI c1) rfl rfl) (aC (aQ 12 (aI c1) rfl rfl) ?_ ?_ (bP rfl) (bL (bP rfl) (bL (bP rfl) dw))))))) ?_
  ·refine dJ 1 25 rfl rfl fun _ a w G1 hG HT H fin=>?_;refine bg jG (cs:=[_,_,_,_,_]) H wn rfl rfl (H.hp.cK 1 rfl rfl) rfl ?_;clear H;intro a H;exact fin H iJ rfl
  ·refine dL 0 24 2 26 rfl rfl fun _ a w G1 hG HT H fin=>?_;refine fB Fx (Li:=[_,_]) (L:=fF b ms ml mr mb mu 0 :: (mb,dV []) :: []) H wn rfl (FM _ _ _ d.jD.styles d.jD.lists d.revs b ms ml mr mb mu _ (hck.mono hG) (Hp.owns (Li:=[_,_]) H.hp) 3 d.fin _ _ _ (hhd.mono hG) zh) rfl ?_;clear H;rintro v27 _ _ a w ⟨rfl,rfl,rfl⟩ IK H;dsimp only [lca,aR] at H;exact fin H IK (rfl)
  ·refine dL 7 31 10 34 rfl rfl fun _ a w G1 hG HT H fin=>?_;refine aH 1 H ?_;clear H;intro a H;exact fin H iJ (by show _=_;first|exact dD (aI c1).symm|exact dD (by simp [c0]))
  ·refine dL 12 36 16 40 rfl rfl fun _ a w G1 hG HT H fin=>?_;refine aH 1 H ?_;clear H;intro a H;exact fin H iJ (by show _=_;first|exact dD (iE (Or.inl c1)).symm|exact dD (by simp [rP,c1]))
  ·refine dJ 17 41 rfl rfl fun _ a w G1 hG HT H fin=>?_;refine s_call iR H wn rfl (iW _ _ H.ro _ 21) rfl ?_;clear H;rintro v42 JX a w ⟨rfl,-⟩ IL H;exact fin H IL (rfl)
  clear H;intro a w G iZ H hv;have H:=H.aO (hv 3 27 rfl rfl) rfl;have H:=H.aO (hv 18 42 rfl rfl) rfl;clear hv;refine gK pI gF [_,_] [_,_] H wn rfl rfl rfl rfl rfl (by intro i q h;match i,h with|0,h=>exact h|1,h=>exact h|n+2,h=>simp at h) rfl rfl ?_;clear H;intro Ki a w XP H;obtain ⟨Dn,nN,IW,H⟩:=H.dP;have Cw:=fun b o h=>nN b o (iZ b o h);replace hfl:=hfl.mono Cw;replace hck:=hck.mono Cw;refine s_call pV H wn rfl (pW _ _ H.ro _ _ (xM IW)) rfl ?_;clear H;rintro v44 _ a w ⟨rfl,rfl⟩ - H;refine kH H (Ra rfl ?_);clear H;intro a H;refine aG ⟨rfl,?_⟩;refine dG ?_;refine dN 4 H ?_ ?_ <;> clear H
  ·intro p46
   have hE:iG d=dz [fI d.jI 3 d.fin,bW (rP d.fin.marks) 21]:=by rw [iG,dz,ah (by simpa using e1),dz,ay p46]
   refine aP 4 ?_;rw [hE]
  intro p46
  have e2:=lu.1 p46;refine ak 6 ?_;intro a H;refine jY Db [_,_,_] H wn rfl rfl rfl rfl ?_;clear H;intro a H;refine fB Io (Li:=[_,_]) (L:=fF b ms ml mr mb mu 0 :: (mb,dV []) :: []) H wn rfl (MJ 4294967297 (by omega) _ _ _ d.jD.styles d.jD.lists d.revs b ms ml mr mb mu ⟨0,[]⟩ d.flow _ true false 0 hck (Hp.owns (Li:=[_,_]) H.hp) hfl (by omega) (by omega) (by omega) (by decide) (by dsimp only;omega)) rfl ?_;clear H;rintro v52 _ _ a w ⟨rfl,s3,rfl,rfl,h3⟩ - H;dsimp only [lca,aR] at H;refine gW 6 H ?_ ?_ <;> clear H
  ·intro p54
   have hE:iG d=(gI d.jI true false 0 d.flow ⟨0,[]⟩).1:=by rw [iG,dz,ah (by simpa using e1),dz,ah (by simpa using e2),dz,ay p54]
   refine aP 4 ?_;rw [hE]
  intro p54
  have e3:=lu.1 p54;have hs3:=h3 e3;subst hs3;refine ak 7 ?_;intro a H;refine s_call iR H wn rfl (iW _ _ H.ro _ 9) rfl ?_;clear H;rintro v61 _ a w ⟨rfl,rfl⟩ - H
  have hE:iG d=bW (decide (16384 < (gI d.jI true false 0 d.flow ⟨0,[]⟩).2.n)) 9:=by rw [iG,dz,ah (by simpa using e1),dz,ah (by simpa using e2),dz,ah (by simpa using e3)];exact Ql _
  refine gH 2 H ?_;rw [hE]
 refine dI hmx [[],[],[1],[0,1,2],[],[4],[4,5],(ra 0 7),(ra 0 8),(ra 0 9),(ra 0 10),(ra 0 11),(ra 0 12),(ra 0 13),(ra 0 14),(ra 0 15),(ra 0 16),(ra 0 17),(ra 0 18),(ra 0 19),(ra 0 20),(ra 0 21)] [19,20,21] (by kernel_rfl) [_,_,sZ d.fin (aS dp) (aS dd) (aS dy),vi (fI d.jI 3 d.fin),_,vi d.fin.marks.ins,_,_,_,vi d.fin.marks.move,_,.bool (decide (d.fin.marks.ins≠0∨d.fin.marks.move≠0)),_,_,aS dd,vi d.fin.marks.bU.length,_,.bool (rP d.fin.marks),vi (bW (rP d.fin.marks) 21)] H (aC (Z0 rfl (Rm rfl)) (Z0 rfl (Rf Qe rfl)) ?_ ?_ (aC (Z0 rfl (Rf Ck rfl)) (Z1 4 28 rfl (Ro bH 0 rfl)) (Z1 5 29 rfl (Rc rfl)) (Z1 6 30 rfl (Rm rfl)) (aC (Z1 7 31 rfl (YF Xk (aY c0) rfl)) (Z2 8 32 7 31 rfl (YO bH 0 (aY c0) rfl)) (Z2 9 33 7 31 rfl (YC (aY c0) rfl)) ?_ (aC (Z1 11 35 rfl (Rm rfl)) (Z1 12 36 rfl (YF Cm (aY c1) rfl)) (Z2 13 37 12 36 rfl (YO Df 0 (aY c1) rfl)) ?_ (aC (Z2 15 39 12 36 rfl (YC (aY c1) rfl)) ?_ ?_ (bP rfl) (bL (bP rfl) (bL (bP rfl) dw))))))) ?_
 ·refine dJ 1 25 rfl rfl fun _ a w G1 hG HT H fin=>?_;refine bg jG (cs:=[_,_,_,_,_]) H wn rfl rfl (H.hp.cK 1 rfl rfl) rfl ?_;clear H;intro a H;exact fin H iJ rfl
 ·refine dL 0 24 2 26 rfl rfl fun _ a w G1 hG HT H fin=>?_;refine fB Fx (Li:=[_,_]) (L:=fF b ms ml mr mb mu 0 :: (mb,dV []) :: []) H wn rfl (FM _ _ _ d.jD.styles d.jD.lists d.revs b ms ml mr mb mu _ (hck.mono hG) (Hp.owns (Li:=[_,_]) H.hp) 3 d.fin _ _ _ (hhd.mono hG) zh) rfl ?_;clear H;rintro v27 _ _ a w ⟨rfl,rfl,rfl⟩ IK H;dsimp only [lca,aR] at H;exact fin H IK (rfl)
 ·refine dL 7 31 10 34 rfl rfl fun _ a w G1 hG HT H fin=>?_;refine aH 1 H ?_;clear H;intro a H;exact fin H iJ (by show _=_;first|exact dD (aI c1).symm|exact dD (by simp [c0]))
 ·refine dL 14 38 12 36 rfl rfl fun _ a w G1 hG HT H fin=>?_;refine aH 1 H ?_;clear H;intro a H;exact fin H iJ (by show _=_;first|rfl|exact aB (fun n:Nat=>vi n) hdl)
 ·refine dL 12 36 16 40 rfl rfl fun _ a w G1 hG HT H fin=>?_;refine aH 1 H ?_;clear H;intro a H;exact fin H iJ (by show _=_;first|exact dD (iE (Or.inl c1)).symm|exact dD (by simp [rP,c1]))
 ·refine dJ 17 41 rfl rfl fun _ a w G1 hG HT H fin=>?_;refine s_call iR H wn rfl (iW _ _ H.ro _ 21) rfl ?_;clear H;rintro v42 JX a w ⟨rfl,-⟩ IL H;exact fin H IL (rfl)
 clear H;intro a w G iZ H hv;have H:=H.aO (hv 3 27 rfl rfl) rfl;have H:=H.aO (hv 18 42 rfl rfl) rfl;clear hv;refine gK pI gF [_,_] [_,_] H wn rfl rfl rfl rfl rfl (by intro i q h;match i,h with|0,h=>exact h|1,h=>exact h|n+2,h=>simp at h) rfl rfl ?_;clear H;intro Ki a w XP H;obtain ⟨Dn,nN,IW,H⟩:=H.dP;have Cw:=fun b o h=>nN b o (iZ b o h);replace hfl:=hfl.mono Cw;replace hck:=hck.mono Cw;refine s_call pV H wn rfl (pW _ _ H.ro _ _ (xM IW)) rfl ?_;clear H;rintro v44 _ a w ⟨rfl,rfl⟩ - H;refine kH H (Ra rfl ?_);clear H;intro a H;refine aG ⟨rfl,?_⟩;refine dG ?_;refine dN 4 H ?_ ?_ <;> clear H
 ·intro p46
  have hE:iG d=dz [fI d.jI 3 d.fin,bW (rP d.fin.marks) 21]:=by rw [iG,dz,ah (by simpa using e1),dz,ay p46]
  refine aP 4 ?_;rw [hE]
 intro p46
 have e2:=lu.1 p46;refine ak 6 ?_;intro a H;refine jY Db [_,_,_] H wn rfl rfl rfl rfl ?_;clear H;intro a H;refine fB Io (Li:=[_,_]) (L:=fF b ms ml mr mb mu 0 :: (mb,dV []) :: []) H wn rfl (MJ 4294967297 (by omega) _ _ _ d.jD.styles d.jD.lists d.revs b ms ml mr mb mu ⟨0,[]⟩ d.flow _ true false 0 hck (Hp.owns (Li:=[_,_]) H.hp) hfl (by omega) (by omega) (by omega) (by decide) (by dsimp only;omega)) rfl ?_;clear H;rintro v52 _ _ a w ⟨rfl,s3,rfl,rfl,h3⟩ - H;dsimp only [lca,aR] at H;refine gW 6 H ?_ ?_ <;> clear H
 ·intro p54
  have hE:iG d=(gI d.jI true false 0 d.flow ⟨0,[]⟩).1:=by rw [iG,dz,ah (by simpa using e1),dz,ah (by simpa using e2),dz,ay p54]
  refine aP 4 ?_;rw [hE]
 intro p54
 have e3:=lu.1 p54;have hs3:=h3 e3;subst hs3;refine ak 7 ?_;intro a H;refine s_call iR H wn rfl (iW _ _ H.ro _ 9) rfl ?_;clear H;rintro v61 _ a w ⟨rfl,rfl⟩ - H
 have hE:iG d=bW (decide (16384 < (gI d.jI true false 0 d.flow ⟨0,[]⟩).2.n)) 9:=by rw [iG,dz,ah (by simpa using e1),dz,ah (by simpa using e2),dz,ah (by simpa using e3)];exact Ql _
 refine gH 2 H ?_;rw [hE]
end
section
open Go.RowKit
def M7 (body note:Bool) (t k i:Int):Prop:=(k=3→body=true)∧(k=6→note=false)∧(k=7→t < 4)∧(k=8→1≤i∧i≤1073741824)
mutual
def lH (C:bK) (body note:Bool) (t:Int):au→Prop
 | .mk k c i tx h f r=>jk (.mk k c i tx h f r)=0∧M7 body note t k i∧fI C k h=0∧(k=6→iI C false true t f)∧(k=7→(r.length≠0∧r.length≤256)∧lI C note (t+1) r)
def qb (C:bK) (note:Bool) (t:Int):aM→Prop
 | .mk h cs=>Bn C h cs.length=0∧mD C note t cs
def pY (C:bK) (note:Bool) (t:Int):aL→Prop
 | .mk _ h f=>fI C 10 h=0∧iI C false note t f
def iI (C:bK) (body note:Bool) (t:Int):List au→Prop
 | []=>True
 | x :: l=>lH C body note t x∧iI C body note t l
def lI (C:bK) (note:Bool) (t:Int):List aM→Prop
 | []=>True
 | x :: l=>qb C note t x∧lI C note t l
def mD (C:bK) (note:Bool) (t:Int):List aL→Prop
 | []=>True
 | x :: l=>pY C note t x∧mD C note t l
end
theorem F9 {C:bK} {body note:Bool} {t:Int}:∀ {l:List au},iI C body note t l↔∀ x∈l,lH C body note t x
 | []=>by simp [iI]
 | x :: l=>by rw [iI,F9 (l:=l)];simp
mutual
/-- The units that a check counts. -/
def uI:au→Nat
 | .mk k _ _ tx _ f r=>(if k=1 then oD tx else 1)+(if k=6 then iK f else if k=7 then qV r else 0)
def uR:aM→Nat
 | .mk _ cs=>rX cs
def uC:aL→Nat
 | .mk _ _ f=>iK f
def iK:List au→Nat
 | []=>0
 | x :: l=>uI x+iK l
def qV:List aM→Nat
 | []=>0
 | x :: l=>uR x+qV l
def rX:List aL→Nat
 | []=>0
 | x :: l=>uC x+rX l
end
def jd (us aX ids:List Int):Prop:=(∀ i∈ids,(1≤i∧i≤1073741824)∧i∉us∧i∉aX)∧ids.Nodup
theorem jd.nil (us aX:List Int):jd us aX []:=⟨fun _ h=>(by cases h),List.nodup_nil⟩
theorem jd.app {us aX a b:List Int}:jd us aX (a++b)↔jd us aX a∧jd us (aX++a) b:=by
 unfold jd
 rw [List.nodup_append]
 constructor
 ·rintro ⟨h,h1,h2,h3⟩;exact ⟨⟨fun i hi=>h i (List.mem_append_left _ hi),h1⟩,fun i hi=>⟨(h i (List.mem_append_right _ hi)).1,(h i (List.mem_append_right _ hi)).2.1,fun hm=>(lT.1 hm).elim (h i (List.mem_append_right _ hi)).2.2 fun ha=>h3 i ha i hi rfl⟩,h2⟩
 rintro ⟨⟨h,h1⟩,h2,h3⟩;exact ⟨fun i hi=>(lT.1 hi).elim (h i) fun hb=>⟨(h2 i hb).1,(h2 i hb).2.1,fun hm=>(h2 i hb).2.2 (List.mem_append_left _ hm)⟩,h1,h3,fun i hi j hj e=>(h2 j hj).2.2 (List.mem_append_right _ (e ▸ hi))⟩
theorem jd.sub {us aX a b:List Int} (h:jd us aX a) (hs:b.Sublist a):jd us aX b:=⟨fun i hi=>h.1 i (hs.subset hi),hs.nodup h.2⟩
theorem Cc {r:CR} {f:CS→CR} {s':CS}:fD r f=(0,s')↔∃ m,r=(0,m)∧f m=(0,s'):=by
 constructor
 ·intro h;obtain ⟨h1,h2⟩:=kJ h;exact ⟨r.2,Prod.ext h1 rfl,h2⟩
 rintro ⟨m,rfl,h⟩;rw [Fb rfl];exact h
theorem vX {e:Int} {s m:CS}:((e,s):CR)=(0,m)↔e=0∧m=s:=by rw [fZ,@eq_comm _ s m]
theorem Sj {C:bK} {s m:CS} {x:Int}:iN C s x=(0,m)↔jd C.us s.aX [x]∧m=⟨s.n,s.aX++[x]⟩:=by
 unfold iN
 rw [vX]
 have he:ow C.us s.aX x=0↔jd C.us s.aX [x]:=by
  unfold ow jd
  by_cases h0:¬ (1≤x∧x≤1073741824)∨x∈C.us
  ·rw [ay h0];refine ⟨fun h=>(by cases h),fun h=>?_⟩;have:=h.1 x (List.mem_singleton_self _);exact absurd h0 (by rintro (h1|h1);exact h1 this.1;exact this.2.1 h1)
  rw [ah h0]
  by_cases h1:x∈s.aX
  ·rw [ay h1];exact ⟨fun h=>(by cases h),fun h=>absurd h1 (h.1 x (List.mem_singleton_self _)).2.2⟩
  rw [ah h1];refine ⟨fun _=>⟨fun i hi=>?_,by simp⟩,fun _=>rfl⟩;rw [rC.1 hi];exact ⟨lu.1 fun h=>h0 (.inl h),fun h=>h0 (.inr h),h1⟩
 rw [he]
 constructor
 ·rintro ⟨h,rfl⟩;exact ⟨h,by rw [jC,ay (he.2 h)]⟩
 rintro ⟨h,rfl⟩;exact ⟨h,by rw [jC,ay (he.2 h)]⟩
theorem xS {b:Bool} {e:Int} (he:e≠0):bW b e=0↔b=false:=by cases b <;> simp [bW,he]
theorem amu {C:bK} {body note:Bool} {t k i:Int} {s m:CS}:jP C body note t k i s=(0,m)↔M7 body note t k i∧jd C.us s.aX (if k=6∨k=7 then [i] else [])∧m=⟨s.n,s.aX++(if k=6∨k=7 then [i] else [])⟩:=by
 unfold jP M7
 by_cases h3:k=3
 ·subst h3;rw [ay rfl,vX,xS (by decide)];cases body <;> simp [jd.nil]
 rw [ah h3]
 by_cases h6:k=6
 ·subst h6;rw [ay rfl,Cc]
  simp only [vX,xS (show (19:Int)≠0 by decide),Sj]
  constructor
  ·rintro ⟨_,⟨h1,rfl⟩,h2,h4⟩;exact ⟨⟨fun h=>absurd h (by decide),fun _=>h1,fun h=>absurd h (by decide),fun h=>absurd h (by decide)⟩,by simpa using h2,by simpa using h4⟩
  rintro ⟨⟨-,h1,-,-⟩,h2,h4⟩;exact ⟨s,⟨h1 trivial,rfl⟩,by simpa using h2,by simpa using h4⟩
 rw [ah h6]
 by_cases h7:k=7
 ·subst h7;rw [ay rfl,Cc]
  simp only [vX,xS (show (17:Int)≠0 by decide),Sj,nX,Int.not_le]
  constructor
  ·rintro ⟨_,⟨h1,rfl⟩,h2,h4⟩;exact ⟨⟨fun h=>absurd h (by decide),fun h=>absurd h (by decide),fun _=>h1,fun h=>absurd h (by decide)⟩,by simpa using h2,by simpa using h4⟩
  rintro ⟨⟨-,-,h1,-⟩,h2,h4⟩;exact ⟨s,⟨h1 trivial,rfl⟩,by simpa using h2,by simpa using h4⟩
 rw [ah h7,ah (show ¬ (k=6∨k=7) by omega),lY]
 by_cases h8:k=8
 ·rw [ay h8,vX,xS (by decide)]
  simp [h3,h6,h7,h8,jd.nil]
 rw [ah h8,vX];simp [h3,h6,h7,h8,jd.nil]
theorem amT {n:Nat} {f:CS→CR} {s s':CS}:jW n f s=(0,s')↔(n≠0∧n≤256)∧f s=(0,s'):=by
 unfold jW
 split
 ·rename_i h;simp [h]
 rename_i h
 split
 ·rename_i h2;simp [show ¬ n≤256 by omega]
 rename_i h2;simp [h,show n≤256 by omega]
mutual
theorem adB (C:bK) (body note:Bool) (t:Int):∀ (x:au) (s s':CS),eG C body note t x s=(0,s')↔lH C body note t x∧jd C.us s.aX (nO x)∧s'=⟨s.n+(uI x:Nat),s.aX++nO x⟩
 | .mk k c i tx h f r,s,s'=>by
  have hf:=Ih C false true t f;have hr:=V4 C note (t+1) r;rw [eG,lH,nO,uI]
  simp only [Cc,vX,amu]
  by_cases h6:k=6
  ·subst h6
   simp only [if_true,hf,jd.app,true_or,ah (show ¬ (6:Int)=7 by decide),ah (show ¬ (6:Int)=1 by decide),lY]
   constructor
   ·rintro ⟨_,⟨h1,rfl⟩,_,⟨h2,h3,rfl⟩,_,⟨h4,rfl⟩,h5,h7,rfl⟩;exact ⟨⟨h1,h2,h4,fun _=>h5,fun h=>absurd h (by decide)⟩,⟨h3,h7⟩,by rw [gy];congr 1;push_cast;omega⟩
   rintro ⟨⟨h1,h2,h4,h5,-⟩,⟨h3,h7⟩,rfl⟩;exact ⟨s,⟨h1,rfl⟩,_,⟨h2,h3,rfl⟩,_,⟨h4,rfl⟩,h5 trivial,h7,by rw [gy];congr 1;push_cast;omega⟩
  by_cases h7:k=7
  ·subst h7
   simp only [if_true,amT,hr,jd.app,or_true,ah (show ¬ (7:Int)=6 by decide),ah (show ¬ (7:Int)=1 by decide),iD]
   constructor
   ·rintro ⟨_,⟨h1,rfl⟩,_,⟨h2,h3,rfl⟩,_,⟨h4,rfl⟩,h0,h5,h8,rfl⟩;exact ⟨⟨h1,h2,h4,fun h=>absurd h (by decide),fun _=>⟨h0,h5⟩⟩,⟨h3,h8⟩,by rw [gy];congr 1;push_cast;omega⟩
   rintro ⟨⟨h1,h2,h4,-,h5⟩,⟨h3,h8⟩,rfl⟩;exact ⟨s,⟨h1,rfl⟩,_,⟨h2,h3,rfl⟩,_,⟨h4,rfl⟩,(h5 trivial).1,(h5 trivial).2,h8,by rw [gy];congr 1;push_cast;omega⟩
  simp only [ah h6,ah h7,ah (show ¬ (k=6∨k=7) by omega),lY,vX]
  constructor
  ·rintro ⟨_,⟨h1,rfl⟩,_,⟨h2,h3,rfl⟩,_,⟨h4,rfl⟩,-,rfl⟩;exact ⟨⟨h1,h2,h4,fun h=>absurd h h6,fun h=>absurd h h7⟩,jd.nil _ _,by simp⟩
  rintro ⟨⟨h1,h2,h4,-,-⟩,h3,rfl⟩;exact ⟨s,⟨h1,rfl⟩,_,⟨h2,jd.nil _ _,rfl⟩,_,⟨h4,rfl⟩,bB,by simp⟩
theorem adC (C:bK) (note:Bool) (t:Int):∀ (x:aM) (s s':CS),xK C note t x s=(0,s')↔qb C note t x∧jd C.us s.aX (oO x)∧s'=⟨s.n+(uR x:Nat),s.aX++oO x⟩
 | .mk h cs,s,s'=>by
  have hc:=V3 C note t cs;rw [xK,qb,oO,uR]
  simp only [Cc,vX,hc]
  constructor
  ·rintro ⟨_,⟨h1,rfl⟩,h2,h3⟩;exact ⟨⟨h1,h2⟩,h3⟩
  rintro ⟨⟨h1,h2⟩,h3⟩;exact ⟨s,⟨h1,rfl⟩,h2,h3⟩
theorem adA (C:bK) (note:Bool) (t:Int):∀ (x:aL) (s s':CS),cellC C note t x s=(0,s')↔pY C note t x∧jd C.us s.aX (oN x)∧s'=⟨s.n+(uC x:Nat),s.aX++oN x⟩
 | .mk i h f,s,s'=>by
  have hf:=Ih C false note t f;rw [cellC,pY,oN,uC,show i :: dQ f=[i]++dQ f from rfl]
  simp only [Cc,vX,hf,Sj,jd.app]
  constructor
  ·rintro ⟨_,⟨h1,rfl⟩,_,⟨h2,rfl⟩,h3,h4,rfl⟩;exact ⟨⟨h2,h3⟩,⟨h1,h4⟩,by rw [gy]⟩
  rintro ⟨⟨h2,h3⟩,⟨h1,h4⟩,rfl⟩;exact ⟨_,⟨h1,rfl⟩,_,⟨h2,rfl⟩,h3,h4,by rw [gy]⟩
theorem Ih (C:bK) (body note:Bool) (t:Int):∀ (l:List au) (s s':CS),gI C body note t l s=(0,s')↔iI C body note t l∧jd C.us s.aX (dQ l)∧s'=⟨s.n+(iK l:Nat),s.aX++dQ l⟩
 | [],s,s'=>by rw [gI,iI,dQ,iK,vX];simp [jd.nil]
 | x :: r,s,s'=>by
  have h1:=adB C body note t x;have h2:=Ih C body note t r;rw [gI,iI,dQ,iK]
  simp only [Cc,h1,h2,jd.app]
  constructor
  ·rintro ⟨_,⟨q1,q2,rfl⟩,q3,q4,rfl⟩;exact ⟨⟨q1,q3⟩,⟨q2,q4⟩,by rw [gy];congr 1;push_cast;omega⟩
  rintro ⟨⟨q1,q3⟩,⟨q2,q4⟩,rfl⟩;exact ⟨_,⟨q1,q2,rfl⟩,q3,q4,by rw [gy];congr 1;push_cast;omega⟩
theorem V4 (C:bK) (note:Bool) (t:Int):∀ (l:List aM) (s s':CS),gD C note t l s=(0,s')↔lI C note t l∧jd C.us s.aX (lF l)∧s'=⟨s.n+(qV l:Nat),s.aX++lF l⟩
 | [],s,s'=>by rw [gD,lI,lF,qV,vX];simp [jd.nil]
 | x :: r,s,s'=>by
  have h1:=adC C note t x;have h2:=V4 C note t r;rw [gD,lI,lF,qV]
  simp only [Cc,h1,h2,jd.app]
  constructor
  ·rintro ⟨_,⟨q1,q2,rfl⟩,q3,q4,rfl⟩;exact ⟨⟨q1,q3⟩,⟨q2,q4⟩,by rw [gy];congr 1;push_cast;omega⟩
  rintro ⟨⟨q1,q3⟩,⟨q2,q4⟩,rfl⟩;exact ⟨_,⟨q1,q2,rfl⟩,q3,q4,by rw [gy];congr 1;push_cast;omega⟩
theorem V3 (C:bK) (note:Bool) (t:Int):∀ (l:List aL) (s s':CS),nH C note t l s=(0,s')↔mD C note t l∧jd C.us s.aX (mq l)∧s'=⟨s.n+(rX l:Nat),s.aX++mq l⟩
 | [],s,s'=>by rw [nH,mD,mq,rX,vX];simp [jd.nil]
 | x :: r,s,s'=>by
  have h1:=adA C note t x;have h2:=V3 C note t r;rw [nH,mD,mq,rX]
  simp only [Cc,h1,h2,jd.app]
  constructor
  ·rintro ⟨_,⟨q1,q2,rfl⟩,q3,q4,rfl⟩;exact ⟨⟨q1,q3⟩,⟨q2,q4⟩,by rw [gy];congr 1;push_cast;omega⟩
  rintro ⟨⟨q1,q3⟩,⟨q2,q4⟩,rfl⟩;exact ⟨_,⟨q1,q2,rfl⟩,q3,q4,by rw [gy];congr 1;push_cast;omega⟩
end
theorem aht {a b c d:Int}:dz [a,b,c,d]=0↔a=0∧b=0∧c=0∧d=0:=by
 constructor
 ·intro h;have z:=jM h;exact ⟨z _ (by simp),z _ (by simp),z _ (by simp),z _ (by simp)⟩
 rintro ⟨rfl,rfl,rfl,rfl⟩;rfl
theorem Qk {a b:Int}:dz [a,b]=0↔a=0∧b=0:=by
 constructor
 ·intro h;have z:=jM h;exact ⟨z _ (by simp),z _ (by simp)⟩
 rintro ⟨rfl,rfl⟩;rfl
theorem Au (d:iO):iG d=0↔(Cg d.jD=0∧wZ d.revs=0)∧(fI d.jI 3 d.fin=0∧rP d.fin.marks=false)∧iI d.jI true false 0 d.flow∧jd [] [] (dQ d.flow)∧iK d.flow≤16384:=by
 unfold iG
 rw [aht,Qk,Qk,xS (by decide),xS (by decide),nX]
 constructor
 ·rintro ⟨h1,h2,h3,h4⟩;obtain ⟨q1,q2,q3⟩:=(Ih d.jI true false 0 d.flow ⟨0,[]⟩ _).1 (Kv h3);rw [q3] at h4;dsimp only at h4;exact ⟨h1,h2,q1,q2,by omega⟩
 rintro ⟨h1,h2,q1,q2,q3⟩;have h:=(Ih d.jI true false 0 d.flow ⟨0,[]⟩ _).2 ⟨q1,q2,rfl⟩;rw [h];exact ⟨h1,h2,rfl,by dsimp only;omega⟩
end
section
open Go.RowKit
section
variable {N:Nat} {D:List Deferred} {w0:World} {F:Nat→Prop} {G0 G:GH} {L Lo:OL} {T:List (Nat × aj)}
variable {r:Option Nat} {P:Program} {ops:Array Oper} {Q:Exit→Act→World→Prop} {rest:List Oper} {a:Act} {w:World}
variable {d:Nat} {ty:TypeId} {pos:String} {aK:Array Edge} {g:Option (Nat × Bool)}
theorem apV (z:Array aj) (n:Nat):(Builtin.zeroCells z n).toList.length=n*z.size:=by simp [Builtin.zeroCells]
theorem apW {z:Array aj} {n:Nat} (h:z.toList.all Value.oneCell'=true):∀ u∈(Builtin.zeroCells z n).toList,u.oneCell'=true:=by
 intro u hu
 simp only [Builtin.zeroCells,Array.toList_map,List.mem_map] at hu
 obtain ⟨i,hi,rfl⟩:=hu
 have hi2:i < n*z.size:=by simpa using hi
 have hz:0 < z.size:=by
  rcases Nat.eq_zero_or_pos z.size with e|e
  ·rw [e,Nat.mul_zero] at hi2;omega
  ·exact e
 have hlt:i % z.size < z.size:=Nat.mod_lt _ hz
 rw [getElem!_pos z (i % z.size) hlt]
 exact lq.1 h _ (by simp)
theorem ank {t e:TypeId} {sz bytes:Nat} {zero:List aj} {agg:Bool} (hs:P.underlying t=some (.slice e)) (ht:Ty P e sz bytes zero agg) (hz:Nat.beq zero.length sz=true) (hz1:zero.all Value.oneCell'=true) {x:Operand} (i:Nat) {b o n cp:Nat} {c:List aj} (H:St N D w0 F G0 G L T a w)
  (hw:Region.wanted ⟨none,.call { callee:=.builtin .clear,args:=#[x],argTypes:=#[t] },ty,pos,aK,g⟩ (yielded ops a.tmps)=true) (hx:ev T x=some (.slice (some ⟨b,o,none⟩) n cp)) (hi:L[i]?=some (b,.cells c.toArray e (0,0))) (hn:0 < n) (hle:o+n*sz≤c.length)
  (k:∀ (c':List aj) w',c'.length=c.length→c'.take o=c.take o→St N D w0 F G0 G (L.set i (b,.cells c'.toArray e (0,0))) T a w'→WL r P ops Q rest a w') :
  WL r P ops Q (⟨none,.call { callee:=.builtin .clear,args:=#[x],argTypes:=#[t] },ty,pos,aK,g⟩ :: rest) a w:=by
 obtain ⟨inf,z,hi0,hi1,hi2,hi3,hi4⟩:=ht.parts
 have hb:=H.hp.own _ (kr hi)
 have hzs:z.cells.size=sz:=by rw [hi4];simpa using Am hz
 have hlen:(Builtin.zeroCells z.cells n).toList.length=n*sz:=by rw [apV,hzs]
 obtain ⟨w2,h2,u2⟩:=TG (P:=P) b e o (Builtin.zeroCells z.cells n).toList 0 c w hb (by rw [hlen];omega) (apW (by rw [hi4];simpa using hz1))
 simp only [kI] at u2
 refine fq (v:=.tuple #[]) (w':=w2) hw rfl ?_ (k _ w2 ?_ ?_ (H.move (H.hp.upd hi u2)))
 ·obtain ⟨m,rfl⟩:∃ m,n=m+1:=⟨n - 1,by omega⟩
  simp [execOp,resolve,invoke,builtin,Builtin.clear_,dM,H.ev hx,mE hs,zeroValue,CX hi0,hi3,h2]
 ·rw [Ub]
 ·rw [Nr _ _ _ (by rw [hlen];exact hle),gy,List.take_append_of_le_length (by rw [List.length_take];omega),jh (by rw [List.length_take];omega)]
end
end
section
open Go.RowKit
theorem bR.ptr {e sz n c:Nat} {A:Option Addr} {xs:List aj} {Lo:OL} (h:bR e sz (.slice A n c) n xs Lo) (hn:0 < n):∃ b,A=some ⟨b,0,none⟩:=by
 rcases h.2 with ⟨_,h0,_⟩|⟨b,cap,cur,he,_⟩
 ·omega
 ·injection he with e1;exact ⟨b,e1⟩
theorem bR.at {w0 w:World} {F:Nat→Prop} {G0 G:GH} {L Lo:OL} {e sz n c b o:Nat} {xs:List aj} (h:bR e sz (.slice (some ⟨b,o,none⟩) n c) n xs Lo) (H:Hp w0 F G0 G L w) (hsub:∀ x∈Lo,x∈L) {i:Nat} {u:aj} (hi:xs[i]?=some u):w.cell? ⟨b,i,none⟩=some u:=by
 rcases h.2 with ⟨h1,_⟩|⟨b2,cap,cur,he,hl,h1,h2,h3,h4⟩
 ·cases h1
 ·injection he with e1
  injection e1 with e1
  injection e1 with e1
  subst e1
  refine H.MR (c:=cur) (e:=e) (fz:=(0,0)) (hsub _ (by rw [hl];exact List.mem_singleton_self _)) ?_
  have hx:i < xs.length:=(iL.1 hi).1
  rw [h.1] at hx
  rw [← h4,uG,ay hx,Array.getElem?_toList] at hi
  exact hi
theorem flat_get {sz:Nat}:∀ {css:List (List aj)} {k:Nat} (hk:k < css.length) (h:∀ cs∈css,cs.length=sz) (j:Nat),j < sz→css.flatten[k*sz+j]?=css[k][j]?
 | c :: css,0,_,h,j,hj=>by
  rw [List.flatten_cons,Nat.zero_mul,fQ,List.getElem_cons_zero,wV (by rw [h c fH];exact hj)]
 | c :: css,k+1,hk,h,j,hj=>by
  have ih:=flat_get (css:=css) (k:=k) (by simpa using hk) (fun cs hc=>h cs (gL _ hc)) j hj
  rw [List.flatten_cons,List.getElem_cons_succ,qF (by rw [h c fH,Nat.succ_mul];omega),h c fH,show (k+1)*sz+j - sz=k*sz+j by rw [Nat.succ_mul];omega]
  exact ih
theorem bE.at {G:GH} {sz:Nat} {rows:List (List Dat)} {xs:List aj} (h:bE G sz rows xs) {k:Nat} {r:List Dat} (hk:rows[k]?=some r):∃ cs,cs.length=sz∧(∀ j u,cs[j]?=some u→xs[k*sz+j]?=some u)∧aN G r cs:=by
 obtain ⟨css,rfl,h2,h3⟩:=h
 have hkl:k < css.length:=by rw [h2];exact (iL.1 hk).1
 obtain ⟨hr,hl⟩:=h3 k r css[k] hk (dY hkl)
 refine ⟨css[k],hl,fun j u hj=>?_,hr⟩
 rw [flat_get hkl (fun cs hc=>?_) j (by rw [← hl];exact (iL.1 hj).1)]
 ·exact hj
 ·obtain ⟨i,hi,rfl⟩:=List.getElem_of_mem hc
  exact (h3 i rows[i] css[i] (dY (by omega)) (dY hi)).2
end
section
open Go.RowKit
section
variable {N:Nat} {D:List Deferred} {w0:World} {F:Nat→Prop} {G0 G:GH} {L:OL} {T:List (Nat × aj)}
variable {r:Option Nat} {P:Program} {ops:Array Oper} {Q:Exit→Act→World→Prop} {rest:List Oper} {a:Act} {w:World}
variable {d:Nat} {ty:TypeId} {pos:String} {aK:Array Edge} {g:Option (Nat × Bool)}
theorem anj {t yt:TypeId} {x y:Operand} {p q:ByteArray} (H:St N D w0 F G0 G L T a w) (hw:Region.wanted ⟨some d,.binOp .add t x y yt,ty,pos,aK,g⟩ (yielded ops a.tmps)=true) (hx:ev T x=some (.string p)) (hy:ev T y=some (.string q)) (hs:p.size+q.size≤4611686018427387904) (hd:Nat.blt d N=true)
  (k:∀ a',St N D w0 F G0 G L ((d,.string (p++q)) :: T) a' w→WL r P ops Q rest a' w):WL r P ops Q (⟨some d,.binOp .add t x y yt,ty,pos,aK,g⟩ :: rest) a w:=by
 refine fq (v:=.string (p++q)) (w':=w) hw rfl ?_ (k _ (H.put hd _ H.hp))
 have h:¬ ((p.size+q.size:Nat):Int) > IntKind.i64.max:=by
  rw [show IntKind.i64.max=9223372036854775807 by decide];omega
 simp only [execOp,H.ev hx,H.ev hy,dM,eqGuard,binOp,Op.stringOp,ah h]
 rfl
end
theorem bR.set1 {e sz n cap b o:Nat} {xs:List aj} {Lo:OL} (h:bR e sz (.slice (some ⟨b,o,none⟩) n cap) n xs Lo) :
  ∃ cur:List aj,o=0∧Lo=[(b,.cells cur.toArray e (0,0))]∧n*sz≤cur.length∧∀ j v,bR e sz (.slice (some ⟨b,0,none⟩) n cap) n (xs.set j v) [(b,.cells (cur.set j v).toArray e (0,0))]:=by
 rcases h.2 with ⟨h1,_⟩|⟨b',cap',cur',h1,h2,h3,h4,h5,h6⟩
 ·cases h1
 ·cases h1
  refine ⟨cur'.toList,rfl,h2,?_,fun j v=>⟨by rw [List.length_set];exact h.1,.inr ⟨b,cap,_,rfl,rfl,h3,h4,by simpa using h5,?_⟩⟩⟩
  ·rw [sG,h5];exact Nat.mul_le_mul_right _ h3
  ·rw [List.toList_toArray,← h6,List.take_set]
theorem bE.aox {G:GH} {sz:Nat} {rows:List (List Dat)} {q:List Dat} {xs:List aj} (h:bE G sz (rows++[q]) xs):∃ x0 cs,xs=x0++cs∧bE G sz rows x0∧aN G q cs∧cs.length=sz∧x0.length=rows.length*sz:=by
 obtain ⟨css,rfl,h2,h3⟩:=h
 rw [jH,List.length_singleton] at h2
 have hne:css≠[]:=fun e=>by rw [e] at h2;simp at h2
 have e:css=css.dropLast++[css.getLast hne]:=(List.dropLast_concat_getLast hne).symm
 have hdl:css.dropLast.length=rows.length:=by rw [List.length_dropLast];omega
 generalize css.dropLast=c0 at e hdl
 generalize css.getLast hne=cl at e
 subst e
 have h4:∀ (j:Nat) (r:List Dat) (cs:List aj),rows[j]?=some r→c0[j]?=some cs→aN G r cs∧cs.length=sz:=fun j r cs hr hc=>h3 j r cs (by rw [wV (iL.1 hr).1];exact hr) (by rw [wV (iL.1 hc).1];exact hc)
 have h5:=h3 rows.length q cl (by rw [qF (bN _),Nat.sub_self];rfl) (by rw [qF (by omega),hdl,Nat.sub_self];rfl)
 refine ⟨c0.flatten,cl,by simp,⟨c0,rfl,hdl,h4⟩,h5.1,h5.2,?_⟩
 have h6:∀ (c:List (List aj)) (rs:List (List Dat)),c.length=rs.length→(∀ (j:Nat) (r:List Dat) (cs:List aj),rs[j]?=some r→c[j]?=some cs→aN G r cs∧cs.length=sz)→c.flatten.length=rs.length*sz:=by
  intro c
  induction c with
  | nil=>intro rs h _;cases rs with
   | nil=>simp
   | cons r rs=>simp at h
  | cons x c ih =>
   intro rs h hh
   cases rs with
   | nil=>simp at h
   | cons r rs =>
    have e1:=(hh 0 r x rfl rfl).2
    have e2:=ih rs (by simpa using h) fun j r' cs hr hc=>hh (j+1) r' cs (by simpa using hr) (by simpa using hc)
    rw [List.flatten_cons,jH,e1,e2,kG,Nat.succ_mul,Nat.add_comm]
 exact h6 c0 rows hdl h4
theorem Y8 (A B:OL) (x:Nat × Obj):(A++(B++[x]))[A.length+B.length]?=some x:=by
 rw [qF (by omega),HZ,qF (bN _),Nat.sub_self];rfl
theorem aaF (A B:OL) (x y:Nat × Obj):(A++(B++[x])).set (A.length+B.length) y=A++(B++[y]):=by
 rw [List.set_append_right _ _ (by omega),HZ,List.set_append_right _ _ (bN _),Nat.sub_self];rfl
end
section
open Go.RowKit
def oP (z y:au):au:=.mk z.kind z.code z.id (z.text++y.text) z.head z.flow z.rows
def sK (y:au):Prop:=(y.kind=7∧y.rows.length=0)∨(y.kind=1∧y.text.size=0)
def qO (z y:au):Prop:=y.kind=1∧z.kind=1∧z.head=y.head
instance (y:au):Decidable (sK y):=inferInstanceAs (Decidable (_∨_))
instance (z y:au):Decidable (qO z y):=inferInstanceAs (Decidable (_∧_∧_))
def addN (out:List au) (y:au):List au :=
 if sK y then out else match out.getLast? with
  | none=>out++[y]
  | some z=>if qO z y then out.dropLast++[oP z y] else out++[y]
theorem OC {out:List au} {y:au} (h:sK y):addN out y=out:=ay h
theorem BU {out:List au} {y:au} (h:¬ sK y) (hj:∀ o z,out=o++[z]→¬ qO z y):addN out y=out++[y]:=by
 unfold addN
 rw [ah h]
 split
 ·rfl
 rename_i z hz
 obtain ⟨o,rfl⟩:=List.getLast?_eq_some_iff.1 hz;rw [ah (hj o z rfl)]
theorem Ke {o:List au} {z y:au} (h:¬ sK y) (hj:qO z y):addN (o++[z]) y=o++[oP z y]:=by
 unfold addN
 rw [ah h,List.getLast?_concat];dsimp only;rw [ay hj,List.dropLast_concat]
theorem Vy (out:List au) (y:au):addN out y=out∨addN out y=out++[y]∨∃ o z,out=o++[z]∧z.kind=1∧y.kind=1∧addN out y=o++[oP z y]:=by
 by_cases h:sK y
 ·exact .inl (OC h)
 by_cases hj:∃ o z,out=o++[z]∧qO z y
 ·obtain ⟨o,z,rfl,hj⟩:=hj;exact .inr (.inr ⟨o,z,rfl,hj.2.1,hj.1,Ke h hj⟩)
 exact .inr (.inl (BU h fun o z e hz=>hj ⟨o,z,e,hz⟩))
mutual
/-- What becomes of an item in a normal form, of rows, of cells. -/
def nI:au→au
 | .mk k c i t h f r=>.mk k c i t h ((oV f).foldl addN []) (tJ r)
def oV:List au→List au
 | []=>[]
 | x :: l=>nI x :: oV l
def nR:aM→aM
 | .mk h c=>.mk h (tH c)
def tJ:List aM→List aM
 | []=>[]
 | x :: l=>nR x :: tJ l
def nC:aL→aL
 | .mk i h f=>.mk i h ((oV f).foldl addN [])
def tH:List aL→List aL
 | []=>[]
 | x :: l=>nC x :: tH l
end
theorem MU:∀ l:List au,oV l=l.map nI
 | []=>by simp [oV]
 | x :: l=>by simp [oV,MU l]
theorem MV:∀ l:List aM,tJ l=l.map nR
 | []=>by simp [tJ]
 | x :: l=>by simp [tJ,MV l]
theorem SN:∀ l:List aL,tH l=l.map nC
 | []=>by simp [tH]
 | x :: l=>by simp [tH,SN l]
def qQ (l:List au) (k:Nat):List au:=((l.take k).map nI).foldl addN []
def kV (l:List au):List au:=qQ l l.length
theorem Zy (x:au):nI x=.mk x.kind x.code x.id x.text x.head (kV x.flow) (x.rows.map nR):=by
 cases x;rw [nI,MU,MV];simp [kV,qQ,au.kind,au.code,au.id,au.text,au.head,au.flow,au.rows]
theorem Zz (x:aM):nR x=.mk x.head (x.cells.map nC):=by cases x;rw [nR,SN];rfl
theorem alo (x:aL):nC x=.mk x.id x.head (kV x.flow):=by cases x;rw [nC,MU];simp [kV,qQ,aL.id,aL.head,aL.flow]
theorem ZU {l:List au} {k:Nat} (h:k < l.length):qQ l (k+1)=addN (qQ l k) (nI l[k]):=by
 unfold qQ;rw [gN h,nG,List.foldl_append];rfl
theorem aoS (out:List au) (y:au):kg (addN out y)≤kg out+(y.text.size+1):=by
 rcases Vy out y with e|e|⟨o,z,rfl,-,-,e⟩ <;> rw [e]
 ·omega
 ·rw [EF];simp [kg]
 rw [EF,EF];have:(oP z y).text.size=z.text.size+y.text.size:=ByteArray.size_append
 simp only [kg,this];omega
theorem Te {l:List au}:∀ {k:Nat},k≤l.length→kg (qQ l k)≤kg (l.take k)
 | 0,_=>by simp [qQ,kg]
 | k+1,h=>by
  have ih:=Te (l:=l) (k:=k) (by omega);have h1:=aoS (qQ l k) (nI l[k])
  have h2:(nI l[k]).text=l[k].text:=by rw [Zy];rfl
  rw [h2] at h1;rw [ZU (by omega),gN (by omega),EF]
  simp only [kg];omega
theorem alZ {l:List au} {k:Nat} (h:k≤l.length):(qQ l k).length≤kg l:=by
 have h1:=ML (qQ l k);have h2:=Te h;have h3:=Um l k
 omega
mutual
/-- Tables whose rows all have cells. -/
def F7:au→Prop
 | .mk _ _ _ _ _ f r=>tK f∧Bl r
def tK:List au→Prop
 | []=>True
 | x :: l=>F7 x∧tK l
def CW:aM→Prop
 | .mk _ c=>c≠[]∧CV c
def Bl:List aM→Prop
 | []=>True
 | x :: l=>CW x∧Bl l
def CU:aL→Prop
 | .mk _ _ f=>tK f
def CV:List aL→Prop
 | []=>True
 | x :: l=>CU x∧CV l
end
theorem ZF:∀ {l:List au},tK l→∀ x∈l,F7 x
 | [],_,_,h=>by cases h
 | y :: l,h,x,hx=>by
  rw [tK] at h
  rcases iQ.1 hx with rfl|hx
  ·exact h.1
  exact ZF h.2 x hx
theorem SV:∀ {l:List aM},Bl l→∀ x∈l,CW x
 | [],_,_,h=>by cases h
 | y :: l,h,x,hx=>by
  rw [Bl] at h
  rcases iQ.1 hx with rfl|hx
  ·exact h.1
  exact SV h.2 x hx
theorem ZE:∀ {l:List aL},CV l→∀ x∈l,CU x
 | [],_,_,h=>by cases h
 | y :: l,h,x,hx=>by
  rw [CV] at h
  rcases iQ.1 hx with rfl|hx
  ·exact h.1
  exact ZE h.2 x hx
theorem alu (x:au):F7 x=(tK x.flow∧Bl x.rows):=by cases x;rw [F7];rfl
theorem ZG (x:aM):CW x=(x.cells≠[]∧CV x.cells):=by cases x;rw [CW];rfl
theorem als (x:aL):CU x=tK x.flow:=by cases x;rw [CU];rfl
end
section
open Go.RowKit
theorem OM {a b:ByteArray} {i:Nat} (h:i < a.size):fG (a++b) i=fG a i:=by
 rw [jQ h,jQ (by rw [ByteArray.size_append];omega),ByteArray.getElem_append_left h]
theorem OO (a b:ByteArray) (j:Nat):fG (a++b) (a.size+j)=fG b j:=by
 by_cases h:j < b.size
 ·rw [jQ h,jQ (by rw [ByteArray.size_append];omega),ByteArray.getElem_append_right (by omega)]
  congr 2
  simp
 unfold fG
 rw [dif_neg (by rw [ByteArray.size_append];omega),dif_neg h]
theorem Wq {a b:ByteArray} {t n:Nat}:∀ (f k:Nat) (low high p:Int),(nY a t n f k low high p).2.2=true→nY (a++b) t n f k low high p=nY a t n f k low high p
 | 0,_,_,_,_,_=>rfl
 | f+1,k,low,high,p,h=>by
  unfold nY at h ⊢
  by_cases h1:n≤k
  ·rw [ay h1,ay h1]
  rw [ah h1] at h;rw [ah h1,ah h1]
  by_cases h2:a.size≤t+k∨fG a (t+k) < low∨high < fG a (t+k)
  ·rw [ay h2] at h;cases h
  rw [ah h2] at h
  have h3:t+k < a.size:=by omega
  rw [OM h3,ah h2,ah (by rw [ByteArray.size_append];omega)];exact Wq f (k+1) _ _ _ h
theorem Ws (a b:ByteArray) (j n:Nat):∀ (f k:Nat) (low high p:Int),nY (a++b) (a.size+j) n f k low high p=nY b j n f k low high p
 | 0,_,_,_,_=>rfl
 | f+1,k,low,high,p=>by
  unfold nY
  have e:fG (a++b) (a.size+j+k)=fG b (j+k):=by rw [Nat.add_assoc];exact OO a b (j+k)
  have e2:((a++b).size≤a.size+j+k)↔(b.size≤j+k):=by rw [ByteArray.size_append];omega
  rw [e,Ws a b j n f]
  simp only [e2]
theorem Wu {a b:ByteArray} {i:Nat} (hi:i < a.size) (h:(jB a i).2.2=true):jB (a++b) i=jB a i:=by
 unfold jB at h ⊢
 simp only [OM hi] at h ⊢
 split
 ·rfl
 rename_i h1
 rw [ah h1] at h
 split
 ·rfl
 rename_i h2
 rw [ah h2] at h;exact Wq _ _ _ _ _ h
theorem Wv (a b:ByteArray) (j:Nat):jB (a++b) (a.size+j)=jB b j:=by
 unfold jB
 simp only [OO,Ws]
theorem ahv (a b:ByteArray):∀ (n j:Nat),b.size - j=n→lZ b j < 0→lZ (a++b) (a.size+j) < 0:=by
 intro n
 induction n using Nat.strongRecOn with
 | _ n ih =>
  intro j hn h;rw [lZ]
  by_cases hj:j < b.size
  ·rw [lZ,dif_pos hj] at h;rw [dif_pos (by rw [ByteArray.size_append];omega)]
   by_cases hd:(jB b j).2.2=true
   ·rw [dif_pos hd] at h;have hs:=(KC b j hj).2 hd;rw [dif_pos (by rw [Wv];exact hd),Wv,Nat.add_assoc];exact ih _ (by omega) (j+(jB b j).2.1) rfl h
   rw [dif_neg hd] at h;omega
  rw [dif_neg (by rw [ByteArray.size_append];omega)];decide
theorem ahu (a b:ByteArray) (hb:lZ b 0 < 0):∀ (n i:Nat),a.size - i=n→i≤a.size→lZ a i < 0→lZ (a++b) i < 0:=by
 intro n
 induction n using Nat.strongRecOn with
 | _ n ih =>
  intro i hn hi h
  by_cases hj:i < a.size
  ·rw [lZ,dif_pos hj] at h;rw [lZ,dif_pos (by rw [ByteArray.size_append];omega)]
   by_cases hd:(jB a i).2.2=true
   ·rw [dif_pos hd] at h;have hs:=(KC a i hj).2 hd;rw [dif_pos (by rw [Wu hj hd];exact hd),Wu hj hd];exact ih _ (by omega) (i+(jB a i).2.1) rfl hs.2 h
   rw [dif_neg hd] at h;omega
  obtain rfl:i=a.size:=by omega
  exact ahv a b b.size 0 rfl hb
theorem abo {a b:ByteArray} (ha:mR a=true) (hb:mR b=true):mR (a++b)=true:=by
 unfold mR at *
 exact iE (ahu a b (lX hb) a.size 0 rfl (gV _) (lX ha))
theorem Wj (a b:ByteArray):∀ (n j:Nat),b.size - j=n→kK (a++b) (a.size+j)=kK b j
 | 0,j,h=>by
  rw [kK.eq_def (a++b),kK.eq_def b,ah (show ¬ a.size+j < (a++b).size by rw [ByteArray.size_append];omega),ah (show ¬ j < b.size by omega)]
 | n+1,j,h=>by
  have ih:=Wj a b n (j+1) (by omega);rw [kK.eq_def (a++b),kK.eq_def b,ay (show a.size+j < (a++b).size by rw [ByteArray.size_append];omega),ay (show j < b.size by omega),OO,Nat.add_assoc,ih]
theorem Wi (a b:ByteArray):∀ (n i:Nat),a.size - i=n→i≤a.size→kK (a++b) i=kK a i+kK b 0
 | 0,i,h,hi=>by
  obtain rfl:i=a.size:=by omega
  rw [kK.eq_def a a.size,ah (Nat.lt_irrefl _),fQ];exact Wj a b b.size 0 rfl
 | n+1,i,h,hi=>by
  have ih:=Wi a b n (i+1) (by omega) (by omega);rw [kK.eq_def (a++b),kK.eq_def a i,ay (show i < (a++b).size by rw [ByteArray.size_append];omega),ay (show i < a.size by omega),OM (show i < a.size by omega),ih,Nat.add_assoc]
theorem aea {a b:ByteArray} (ha:mR a=true) (hb:mR b=true):oD (a++b)=oD a+oD b:=by
 unfold oD
 rw [ay ha,ay hb,ay (abo ha hb)];exact Wi a b a.size 0 rfl (gV _)
end
section
open Go.RowKit
def BS (s:CS) (z:Nat) (r:CR):Prop:=r.2.aX.length≤s.aX.length+z
theorem BS.and {s:CS} {z y q:Nat} {r:CR} {f:CS→CR} (h:BS s z r) (hq:z+y≤q) (hf:∀ s,BS s y (f s)):BS s q (fD r f):=by
 unfold BS at *
 unfold fD
 split
 ·omega
 have:=hf r.2
 omega
theorem BS.zero (s:CS) (e:Int) (q:Nat):BS s q (e,s):=by unfold BS;dsimp only;omega
end
section
open Go.RowKit
structure JQ where
 code:Int
 id:Int
 name:ByteArray
 flow:Int
 at_:Int
def JQ.dat (x:JQ):List Dat:=[li x.code,li x.id,.lf (.string x.name),li x.flow,li x.at_]
abbrev JQ.cells (x:JQ):List aj:=[vi x.code,vi x.id,.string x.name,vi x.flow,vi x.at_]
def UZ (P:Program) (fv:aj) (Gi:GH) (xs:List AP) (J:Nat→GH→OL→Prop):Prop :=
 ∀ k args G L w,uq xs k args G→(∀ b o,Gi b=some o→G b=some o)→J k G L→fC G L w→qX P fv args w (eP w G L fun _ G' L'=>J (k+1) G' L')
end
section
open Go.RowKit
instance:Ty prog 172 1 8 [.nilFunc] false:=⟨by kernel_rfl,by kernel_rfl⟩
theorem agm:∀ args w,(callFunc 57 args).run prog w=.ok (.enter 57 args) w:=enters func57 rfl (by kernel_rfl)
theorem WG:∀ args w,(callFunc 106 args).run prog w=.ok (.enter 106 args) w:=enters func106 rfl (by kernel_rfl)
theorem agl:∀ args w,(callFunc 51 args).run prog w=.ok (.enter 51 args) w:=enters func51 rfl (by kernel_rfl)
instance NC:Ty prog 52 1 24 [.slice none 0 0] false:=⟨by kernel_rfl,by kernel_rfl⟩
theorem aeD:∀ args w,(callFunc 108 args).run prog w=.ok (.enter 108 args) w:=enters func108 rfl (by kernel_rfl)
theorem Sk {A:List Int} {k:Nat} {args:List aj} {g:GH} (h:uq (A.map zL) k args g):∃ hk:k < A.length,args=[vi A[k]]:=by
 obtain ⟨p,hp,hargs⟩:=h;rw [nE] at hp;obtain ⟨q,hq,rfl⟩:=mV.1 hp;obtain ⟨hk,rfl⟩:=iL.1 hq;exact ⟨hk,hargs⟩
theorem akr {G G0:GH} {A:List Int} {b2:Nat} {fv:aj} {J:Nat→GH→OL→Prop} {Jx:GH→OL→Prop} (hcb:BK prog fv G0 (A.map zL) J Jx) (hG0:∀ b o,G0 b=some o→G b=some o) (A9:fv.cells=#[fv]) (hb:aF G b2 0=some fv) :
  BK prog (.func (.func 108) #[] #[(aD b2 0)]) G (A.map zL) J Jx:=by
 intro k args G1 L w0 hk hm hJ hO;obtain ⟨hk2,rfl⟩:=Sk hk;refine jq (caps:=[(aD b2 0)]) aeD ?_;replace hb:=aJ hm hb;refine gB (N:=7) (T:=[(0,_),(1,_)]) func108 rfl ntmps108 rfl rfl hO ?_;refine ak 6 ?_;intro a H;refine pq (Li:=[]) (L:=L) H wn rfl rfl (hcb _ _ _ _ _ hk (fun b o h=>hm b o (hG0 b o h)) hJ (Hp.owns (Li:=[]) H.hp)) rfl ?_;clear H;rintro v6 G6 L6 a w ⟨b6,rfl,h1,h2⟩ zJ H;refine aH 2 H ?_;clear H;intro a H;refine lr H results108 rfl ?_;exact H.hp.cZ ⟨b6,rfl,h1,h2⟩
theorem aks {G:GH} {bd:Nat} {D:jy} {l:List au} (hb:G bd=some (.cells D.cells.toArray 38 (0,0))) (hv:av G (.sl 11 (l.map au.dat)) (aS D.f)) (hz:aZ l≤4294967296) :
  Iter prog G (.func (.func 106) #[] #[(aD bd 0)]) ((dQ l).map zL):=by
 intro J Jx fv G1 L w0 A9 hGi jT hJx hJ hO hcb;refine jq (caps:=[(aD bd 0)]) WG ?_;have hfl:aF G1 bd 0=some (aS D.f):=aJ hGi (by unfold aF;rw [hb];rfl);refine gB (N:=7) (T:=[(0,_),(1,_)]) func106 rfl ntmps106 rfl rfl hO ?_;refine ak 1 ?_;intro a H;refine dU (cs:=[fv]) H wn rfl A9 rfl ?_;clear H;intro b2 a w hb2 H;refine aG ?_;refine dG ?_;obtain ⟨G2,hm2,hb2,H⟩:=H.dP;replace hfl:=aJ hm2 hfl;refine eB 3 H ?_;clear H;intro a H;refine mP H wn rfl rfl ?_;clear H;intro a H;refine fB Pp (Li:=[]) (L:=L) H wn rfl (abp 4294967297 (by omega) _ G2 ((dQ l).map zL) J Jx G2 _ _ 0 l _ (fun _ _ h=>h) (akr (b2:=b2) hcb hm2 A9 (by unfold aF;rw [hb2];rfl)) jT hJx (jT _ _ _ _ hm2 hJ) (Hp.owns (Li:=[]) H.hp) ((hv.mono hGi).mono hm2) (by omega) (fun i a h=>by rw [fQ,nE,h];rfl)) rfl ?_;clear H;rintro v6 G6 L6 a w ⟨b6,rfl,h1,h2⟩ zJ H;refine aG ?_;refine (leave0 H results106 ?_).2
 cases b6
 ·exact H.hp.cZ (.inr (h2 rfl))
 exact H.hp.cZ (.inl (by simpa using h1 rfl))
theorem aku (G:GH) (w0:World) (hG:Hold G w0) (D:jy) (l:List au) (hv:av G (.sl 11 (l.map au.dat)) (aS D.f)) (hz:aZ l≤4294967296) :
  Calls prog 57 #[D.val] w0 (bD w0 G fun v G'=>∃ bd,v=.func (.func 106) #[] #[(aD bd 0)]∧Iter prog G' v ((dQ l).map zL)):=by
 refine eN [(0,_)] func57 rfl ntmps57 rfl rfl hG ?_;refine ak 1 ?_;intro a H;refine dU (cs:=[_,_,_,_,_,_,_,_,_,_,_]) H wn rfl rfl rfl ?_;clear H;intro b1 a w hb1 H;refine aH 3 H ?_;clear H;intro a H;refine mP H wn rfl rfl ?_;clear H;refine ak 2 ?_;intro a H;refine bV ?_;obtain ⟨G2,hm2,hb2,H⟩:=H.dP;refine lv H results57 rfl ?_;exact H.rt ⟨b1,rfl,aks hb2 (hv.mono hm2) hz⟩
def Eu (l:List Int):Int:=l.foldl max 0
theorem aln {l:List Int} {k:Nat} (h:k < l.length):Eu (l.take (k+1))=max (Eu (l.take k)) l[k]:=by
 rw [Eu,gN h,List.foldl_append];rfl
theorem ahE (G:GH) (w0:World) (hG:Hold G w0) (D:jy) (l:List au) (hv:av G (.sl 11 (l.map au.dat)) (aS D.f)) (hz:aZ l≤4294967296) (hm:Eu (dQ l)≤4611686018427387904) (h0:0≤Eu (dQ l)) :
  Calls prog 20 #[D.val] w0 (bD w0 G fun v G'=>v=vi (Eu (dQ l)+1)):=by
 refine eN [(0,_)] func20 rfl ntmps20 rfl rfl hG ?_;refine ak 1 ?_;intro a H;refine dU (cs:=[_,_,_,_,_,_,_,_,_,_,_]) H wn rfl rfl rfl ?_;clear H;intro b1 a w hb1 H;refine aH 3 H ?_;clear H;intro a H;refine dx bH H wn rfl ?_;clear H;intro b3 a w hb3 H;refine aV bH 0 (vs:=[_]) _ H wn rfl rfl rfl rfl rfl rfl rfl rfl ?_;clear H;intro w H;dsimp only [List.set,setRow] at H;refine aH 3 H ?_;clear H;intro a H;refine bg iy (cs:=[_,_,_,_,_,_,_,_,_,_,_]) H wn rfl rfl (H.hp.cK 1 rfl rfl) rfl ?_;clear H;intro a H;refine s_call agm H wn rfl (aku _ _ H.ro D l hv hz) rfl ?_;clear H;rintro v6 G6 a w ⟨bd,rfl,hit⟩ zJ H;refine aH 2 H ?_;clear H;intro a H;refine Aq (ι:=Unit) (κ:=Empty) (Lc:=[(_,_)]) (fun (k:Nat) (gh:Unit)=>[(b3,.cells #[vi (Eu ((dQ l).take k))] 3 (0,0))]) (fun (k:Nat) (gh:Unit)=>[]) (fun (k:Nat) (gh:Unit) (g:GH)=>True) (fun x=>x.elim) (fun x=>x.elim) (fun x=>x.elim) (fun x=>x.elim) (()) (by exact H.cu (Pl:=[_,_]) (bS:=[_,_]) [1,0] (by decide) rfl) rfl WG (hit) (fun _ _ h=>h) rfl (fun k args g h=>by obtain ⟨_,rfl⟩:=Sk h;rfl) (fun _ _ _ _ _ h=>h) (fun x=>x.elim) (trivial) ?_ ?_ ?_
 ·clear H;intro l3 tQ qH bk k args gh G3 w3 F3 B3 a hk3 qx hI IX I8 YD H;obtain ⟨hk,rfl⟩:=Sk hk3;dsimp only [qm,List.cons_append,List.nil_append] at H;refine eB 2 H ?_;clear H;intro a H;refine aG ?_;refine IX _ _ _ _ _ _ (by exact H) ?_;clear H;intro w H;refine eB 4 H ?_;clear H;intro a H;refine Ju H wn rfl rfl rfl ?_;clear H;intro a H;rw [← aln hk] at H;refine aV bH 2 (vs:=[_]) _ H wn rfl rfl rfl rfl rfl rfl rfl rfl ?_;clear H;intro w H;dsimp only [List.set,setRow] at H;refine aG ?_;refine I8 (()) _ _ _ _ _ (by exact H) ?_
  trivial
 ·clear H;intro U1 gh Vi a w qx hI H;dsimp only [lca,aR] at H;refine dG ?_;rw [jh (by simp)] at H;refine eB 5 H ?_;clear H;intro a H;refine bV ?_;refine (wF H 0 rfl ?_).1;clear H;intro a w H;dsimp only [List.eraseIdx_cons_succ,List.eraseIdx_cons_zero] at H;refine lv H results20 rfl ?_;exact H.rt rfl
 intro Dk x;exact x.elim
theorem akD (G:GH) (n:Int):aN G [li n] [vi n]:=by simp [aN,av,Value.oneCell']
def mG (A:List fJ):Int:=A.foldl (fun n f=>n+oQ f.items) 0
theorem Uy {A:List fJ} {k:Nat} (h:k < A.length):mG (A.take (k+1))=mG (A.take k)+oQ A[k].items:=by
 rw [mG,gN h,List.foldl_append];rfl
theorem Uz (G:GH) (w0:World) (hG:Hold G w0) (D:jy) (l:List au) (hv:av G (.sl 11 (l.map au.dat)) (aS D.f)) (hz:aZ l≤4294967296) (hm:∀ k,k≤(eY l).length→0≤mG ((eY l).take k)∧mG ((eY l).take k)≤4611686018427387904) :
  Calls prog 21 #[D.val] w0 (bD w0 G fun v G'=>v=vi (mG (eY l))):=by
 refine eN [(0,_)] func21 rfl ntmps21 rfl rfl hG ?_;refine ak 1 ?_;intro a H;refine dU (cs:=[_,_,_,_,_,_,_,_,_,_,_]) H wn rfl rfl rfl ?_;clear H;intro b1 a w hb1 H;refine aH 3 H ?_;clear H;intro a H;refine dx bH H wn rfl ?_;clear H;intro b3 a w hb3 H;refine aV bH 0 (vs:=[_]) _ H wn rfl rfl rfl rfl rfl rfl rfl rfl ?_;clear H;intro w H;dsimp only [List.set,setRow] at H;refine aH 3 H ?_;clear H;intro a H;refine bg iy (cs:=[_,_,_,_,_,_,_,_,_,_,_]) H wn rfl rfl (H.hp.cK 1 rfl rfl) rfl ?_;clear H;intro a H;refine s_call PS H wn rfl (S9 _ _ H.ro D l hv hz) rfl ?_;clear H;rintro v9 G9 a w ⟨ba,bl,bp,rfl,hit⟩ wB H;refine aH 2 H ?_;clear H;intro a H;refine Aq (ι:=Unit) (κ:=Empty) (Lc:=[(_,_)]) (fun (k:Nat) (gh:Unit)=>[(b3,.cells #[vi (mG ((eY l).take k))] 3 (0,0))]) (fun (k:Nat) (gh:Unit)=>[]) (fun (k:Nat) (gh:Unit) (g:GH)=>True) (fun x=>x.elim) (fun x=>x.elim) (fun x=>x.elim) (fun x=>x.elim) (()) (by exact H.cu (Pl:=[_,_]) (bS:=[_,_]) [1,0] (by decide) rfl) rfl KH (hit) (fun _ _ h=>h) rfl (fun k args g h=>by obtain ⟨_,_,_,_,rfl,_⟩:=FB h;rfl) (fun _ _ _ _ _ h=>h) (fun x=>x.elim) (trivial) ?_ ?_ ?_
 ·clear H;intro l3 tQ qH bk k args gh G3 w3 F3 B3 a hk3 qx hI IX I8 YD H;obtain ⟨hk,vA,vn,vc,rfl,hfr⟩:=FB hk3;dsimp only [qm,List.cons_append,List.nil_append] at H;refine zl ?_;refine dx NH H wn rfl ?_;clear H;intro b5 a w hb5 H;refine aV NH 0 (vs:=[_,_,_,_]) _ H wn rfl rfl rfl rfl rfl rfl rfl rfl ?_;clear H;intro w H;dsimp only [List.set,setRow] at H;refine aG ?_;refine IX _ _ _ _ _ _ (by exact H.cu (Pl:=[_,_,_,_]) (bS:=[_,_,_,_]) [1,0,2,3] (by decide) rfl) ?_;clear H;intro w H;refine eB 4 H ?_;clear H;intro a H;refine s_call agl H wn rfl (akS _ _ H.ro (eY l)[k].items _ hfr (Nat.le_trans (KT (iF hk)) hz)) rfl ?_;clear H;rintro v15 _ a w ⟨rfl,rfl⟩ - H;refine aH 1 H ?_;clear H;intro a H;(iterate 2 refine qh H wn rfl rfl rfl ?_;clear H;intro a H);refine aH 3 H ?_;clear H;have ait:=hm (k+1) hk;rw [Uy hk] at ait;refine ak 4 ?_;intro a H;rw [← Uy hk] at H;refine aV bH 3 (vs:=[_]) _ H wn rfl rfl rfl rfl rfl rfl rfl rfl ?_;clear H;intro w H;dsimp only [List.set,setRow] at H;refine aG ?_;refine I8 (()) _ _ _ _ _ (by exact H.cu (Pl:=[_,_,_,_]) (bS:=[_,_,_]) [0,2,3] (by decide) rfl) ?_
  trivial
 ·clear H;intro U1 gh Vi a w qx hI H;dsimp only [lca,aR] at H;refine dG ?_;rw [jh (by simp)] at H;refine eB 4 H ?_;clear H;intro a H;refine bV ?_;refine (wF H 0 rfl ?_).1;clear H;intro a w H;dsimp only [List.eraseIdx_cons_succ,List.eraseIdx_cons_zero] at H;refine lv H results21 rfl ?_;exact H.rt rfl
 intro Dk x;exact x.elim
mutual
theorem apw (note:Bool) (t:Int):∀ x:au,(uh note t x).length < bJ x.dat
 | .mk k c i tx h f r=>by
  have h4:=qC (.mk k c i tx h f r);have hf:=JH true t f;have hr:=abw note t r;dsimp only [au.text,au.head,au.flow,au.rows] at h4;rw [uh]
  split
  ·rw [kG];omega
  split <;> first|omega|(simp only [List.length_nil];omega)
theorem JH (note:Bool) (t:Int):∀ l:List au,(gQ note t l).length≤aZ l
 | []=>by simp [gQ]
 | x :: l=>by
  have h1:=apw note t x;have h2:=JH note t l;rw [gQ,jH]
  simp only [aZ,eu,dX] at *;omega
theorem apy (note:Bool) (t:Int):∀ x:aM,(uj note t x).length≤bJ x.dat
 | .mk h cs=>by
  have h4:=vP (.mk h cs);have hc:=abr note t cs;dsimp only [aM.head,aM.cells] at h4;rw [uj];omega
theorem abw (note:Bool) (t:Int):∀ l:List aM,(mI note t l).length≤fE l
 | []=>by simp [mI]
 | x :: l=>by
  have h1:=apy note t x;have h2:=abw note t l;rw [mI,jH]
  simp only [fE,eu,dX] at *;omega
theorem apu (note:Bool) (t:Int):∀ x:aL,(ug note t x).length≤bJ x.dat
 | .mk i h f=>by
  have h4:=vO (.mk i h f);have hf:=JH note (t+1) f;dsimp only [aL.head,aL.flow] at h4;rw [ug,kG];omega
theorem abr (note:Bool) (t:Int):∀ l:List aL,(mU note t l).length≤gZ l
 | []=>by simp [mU]
 | x :: l=>by
  have h1:=apu note t x;have h2:=abr note t l;rw [mU,jH]
  simp only [gZ,eu,dX] at *;omega
end
theorem Pn (G:GH) (w0:World) (hG:Hold G w0) (D:jy) (l:List au) (hv:av G (.sl 11 (l.map au.dat)) (aS D.f)) (hz:aZ l≤4294967296) :
  Calls prog 28 #[D.val] w0 (bD w0 G fun u G'=>av G' (.sl 1 ((eY l).map fun f:fJ=>[li f.id])) u):=by
 have hml:4294967299≤maxLen:=by decide
 have hn:(eY l).length≤4294967297:=by
  have:=JH false 0 l;rw [eY,kG];omega
 refine eN [(0,_)] func28 rfl ntmps28 rfl rfl hG ?_;refine ak 1 ?_;intro a H;refine dU (cs:=[_,_,_,_,_,_,_,_,_,_,_]) H wn rfl rfl rfl ?_;clear H;intro b1 a w hb1 H;refine aH 3 H ?_;clear H;intro a H;refine dx NC H wn rfl ?_;clear H;intro b3 a w hb3 H;refine aH 2 H ?_;clear H;intro a H;have H:=H.cu (Pl:=[_,_]) (bS:=[_,_]) [1,0] (by decide) rfl;refine wo ?_;refine bg iy (cs:=[_,_,_,_,_,_,_,_,_,_,_]) H wn rfl rfl (H.hp.cK 0 rfl rfl) rfl ?_;clear H;intro a H;refine s_call PS H wn rfl (S9 _ _ H.ro D l hv hz) rfl ?_;clear H;rintro v6 G6 a w ⟨ba,bl,bp,rfl,hit⟩ zJ H;refine aH 2 H ?_;clear H;intro a H;refine Aq (ι:=aj × List aj × OL) (κ:=Empty) (Lc:=[(_,_)]) (fun (k:Nat) (gh:aj × List aj × OL)=>[(b3,.cells #[gh.1] 52 (0,0))]) (fun (k:Nat) (gh:aj × List aj × OL)=>gh.2.2) (fun (k:Nat) (gh:aj × List aj × OL) (g:GH)=>bR 3 1 gh.1 k gh.2.1 gh.2.2∧bE g 1 (((eY l).take k).map fun f:fJ=>[li f.id]) gh.2.1) (fun x=>x.elim) (fun x=>x.elim) (fun x=>x.elim) (fun x=>x.elim) ((.slice none 0 0,[],[])) (by exact H.F8 (A:=[_,_])) rfl KH (hit) (fun _ _ h=>h) rfl (fun k args g h=>by obtain ⟨_,_,_,_,rfl,_⟩:=FB h;rfl) (fun k i G G' hm h=>⟨h.1,h.2.mono hm⟩) (fun x=>x.elim) (⟨bR.nil,bE.nil⟩) ?_ ?_ ?_
 ·clear H;intro l3 tQ qH bk k args gh G3 w3 F3 B3 a hk3 qx hI IX I8 YD H;obtain ⟨v,xs,Lo⟩:=gh;dsimp only at hI H;obtain ⟨hk,vA,vn,vc,rfl,hfr⟩:=FB hk3;dsimp only [qm,List.cons_append,List.nil_append] at H;obtain ⟨hrw,eD⟩:=hI;refine eB 2 H ?_;clear H;intro a H;refine aG ?_;refine IX _ _ _ _ _ _ (by exact H) ?_;clear H;intro w H;refine eB 4 H ?_;clear H;intro a H;refine gK qW bH [_] [_] H wn rfl rfl rfl rfl rfl (by intro i q h;match i,h with|0,h=>exact h|n+1,h=>simp at h) rfl rfl ?_;clear H;intro b11 a w DZ H;refine nU (Li:=[_,_,_,_]++bk) (Lo:=Lo) (news:=[vi (eY l)[k].id]) qW bH rfl rfl (St.un (A:=[_,_,_,_]) H) wn rfl rfl hrw rfl (H.hp.cK 0 rfl rfl) rfl (by omega) (by omega) rfl ?_;clear H;intro v12 abS a w FT H;obtain ⟨A12,c12,rfl,-,-⟩:=FT.shape
  simp only [gy,jg,iD] at H
  refine aV NC 3 (vs:=[_]) _ H wn rfl rfl rfl rfl rfl rfl rfl rfl ?_;clear H;intro w H;dsimp only [List.set,setRow] at H;refine aG ?_;refine I8 ((.slice A12 (k+1) c12,xs++[vi (eY l)[k].id],abS)) _ _ _ _ _ (by exact H.cu (Pl:=[_,_,_,_]) (bS:=[_,_,_]) [1,2,3] (by decide) rfl) ?_;exact ⟨FT,by rw [gN hk,nG];exact eD.snoc (akD _ _) rfl⟩
 ·clear H;intro U1 gh Vi a w qx hI H;obtain ⟨v,xs,Lo⟩:=gh;dsimp only at hI H;dsimp only [lca,aR] at H;obtain ⟨hrw,eD⟩:=hI;rw [bO] at hrw eD;rw [wW] at eD;refine dG ?_;refine eB 4 H ?_;clear H;intro a H;refine bV ?_;refine (wF H 0 rfl ?_).1;clear H;intro a w H;dsimp only [List.eraseIdx_cons_succ,List.eraseIdx_cons_zero] at H;refine lv H results28 rfl ?_;obtain ⟨Gr,hmr,hrep,H⟩:=St.rG (Li:=[_,_]) H hrw (rows:=(eY l).map fun f:fJ=>[li f.id]) (by simp) eD;exact H.rt hrep
 intro Dk x;exact x.elim
theorem aaZ (l:List au) (hz:aZ l≤1073741824) (k:Nat) (hk:k≤(eY l).length):0≤mG ((eY l).take k)∧mG ((eY l).take k)≤4611686018427387904:=by
 have hn:=JH false 0 l
 have hl:(eY l).length≤1073741825:=by rw [eY,kG];omega
 have h:∀ k,k≤(eY l).length→0≤mG ((eY l).take k)∧mG ((eY l).take k)≤k*1073741824:=by
  intro k
  induction k with
  | zero=>intro _;exact ⟨by simp [mG],by simp [mG]⟩
  | succ k ih =>
   intro hk;obtain ⟨h1,h2⟩:=ih (by omega);have h3:=KT (iF (show k < (eY l).length by omega))
   have h4:0≤oQ (eY l)[k].items∧oQ (eY l)[k].items≤aZ (eY l)[k].items:=by
    unfold oQ
    have h5:=Ui (eY l)[k].items;have h6:=Ny (eY l)[k].items
    split <;> omega
   rw [Uy (by omega)]
   push_cast
   omega
 obtain ⟨h1,h2⟩:=h k hk;exact ⟨h1,by omega⟩
end
section
open Go.RowKit
theorem PV:∀ args w,(callFunc 61 args).run prog w=.ok (.enter 61 args) w:=enters func61 rfl (by kernel_rfl)
mutual
/-- The heads of items, rows and cells, in document order. -/
def AU:au→List dh
 | .mk k _ _ _ h f r=>h :: ((if k=6 then jS f else [])++(if k=7 then sU r else []))
def jS:List au→List dh
 | []=>[]
 | x :: r=>AU x++jS r
def AX:aM→List dh
 | .mk h c=>h :: uX c
def sU:List aM→List dh
 | []=>[]
 | x :: r=>AX x++sU r
def AL:aL→List dh
 | .mk _ h f=>h :: jS f
def uX:List aL→List dh
 | []=>[]
 | x :: r=>AL x++uX r
end
theorem aia (x:au):AU x=x.head :: ((if x.kind=6 then jS x.flow else [])++(if x.kind=7 then sU x.rows else [])):=by cases x;rw [AU];rfl
theorem aik (x:aM):AX x=x.head :: uX x.cells:=by cases x;rw [AX];rfl
theorem ahI (x:aL):AL x=x.head :: jS x.flow:=by cases x;rw [AL];rfl
def D8 (h:dh):AP:=fun args G=>∃ p d y:Option Addr × Nat × Nat,args=[.agg #[aS p,vi h.marks.ins,vi h.marks.move,aS d,aS y]]∧gG G h (aS p) (aS d) (aS y)
theorem Rh {G:GH} {h:dh} {pA dA yA:Option Addr} {pn pc dn dc yn yc:Nat} (hr:gG G h (.slice pA pn pc) (.slice dA dn dc) (.slice yA yn yc)):D8 h [.agg #[.slice pA pn pc,vi h.marks.ins,vi h.marks.move,.slice dA dn dc,.slice yA yn yc]] G:=⟨(pA,pn,pc),(dA,dn,dc),(yA,yn,yc),rfl,hr⟩
def Oh (n:Nat):Prop:=∀ (fv:aj) (Gi:GH) (xs:List AP) (J:Nat→GH→OL→Prop) (G:GH) (L:OL) (w0:World) (j:Nat) (l:List au) (v:aj),
 (∀ b o,Gi b=some o→G b=some o)→UZ prog fv Gi xs J→BO J→J j G L→fC G L w0→av G (.sl 11 (l.map au.dat)) v→aZ l < n→(∀ i a,(jS l)[i]?=some a→xs[j+i]?=some (D8 a)) →
 Calls prog 61 #[v,fv] w0 (eP w0 G L fun _ G' L'=>J (j+(jS l).length) G' L')
theorem aiL {n:Nat} (ih:Oh n) (hn:n≤4294967296):Oh (n+1):=by
 intro fv Gi xs J G L w0 j0 l v hGi hcb jT hJ0 hO hv hz hx0;obtain ⟨A,c,rfl,hc1,hc2,hg⟩:=hv.slice;rw [bO] at *;have hll:=wR l;refine gB (N:=59) (T:=[(0,_),(1,_)]) func61 rfl ntmps61 rfl rfl hO ?_;refine ak 6 ?_;intro a H;refine eO (ι:=Nat × Nat × OL × GH) (Tc:=[(1,_),(10,_),(11,_)]) (Lc:=[]) (fun gh=>[(12,vi gh.1)]) (fun gh=>[]++gh.2.2.1) (fun gh=>gh.2.2.2) (fun gh=>gh.1≤l.length∧(∀ b o,G b=some o→gh.2.2.2 b=some o)∧Now xs D8 J (j0+(jS l).length) gh.2.1 (jS (l.drop gh.1)) gh.2.2.2 gh.2.2.1) (fun gh=>l.length - gh.1) ((0,j0,L,G)) sB ?_ ?_
 ·exact ⟨by omega,fun _ _ h=>h,⟨hJ0,hx0,rfl⟩⟩
 clear H;rintro ⟨k,j,Lt,g1⟩ a w hI H;dsimp only at hI H;obtain ⟨hk,hgm,bG⟩:=hI;dsimp only [lca,aR] at H;refine dN 4 H ?_ ?_ <;> clear H
 ·intro oW
  have hk2:k < l.length:=by omega
  obtain ⟨b,o,pA,pn,pc,dA,dn,dc,yA,yn,yc,fA,fn,fc,rA,rn,rc,rfl,hrow,hhd,hfl,hrw⟩:=zx hk2 hg;replace hrow:=fun j u hj=>aJ hgm (hrow j u hj);replace hhd:=hhd.mono hgm;replace hfl:=hfl.mono hgm;replace hrw:=hrw.mono hgm;have hrn:=hrw.len;rw [bO] at hrn;subst hrn;have hsz1:=JL hk2;rw [lW hk2] at bG
  simp only [jS,aia,gy,jg] at bG
  obtain ⟨x,hx⟩:∃ x,x=l[k]:=⟨_,rfl⟩;rw [← hx] at bG hrow hhd hfl hrw hsz1;have hrl:=BJ x.rows;refine ak 5 ?_;intro a H;refine bg dR (cs:=[_,_,_,_,_,_,_,_,_,_,_]) H wn rfl rfl (fun j v hj=>H.hp.aF (hrow j v hj)) rfl ?_;clear H;intro a H;refine dx dR H wn rfl ?_;clear H;intro b5 a w hb5 H;refine aV dR 0 (vs:=[_,_,_,_,_,_,_,_,_,_,_]) _ H wn rfl rfl rfl rfl rfl rfl rfl rfl ?_;clear H;intro w H;dsimp only [List.set,setRow] at H;refine aH 4 H ?_;clear H;intro a H;refine bg jG (cs:=[_,_,_,_,_]) H wn rfl rfl (H.hp.cK 0 rfl rfl) rfl ?_;clear H;intro a H;refine pq (Li:=[_]) (L:=Lt) H wn rfl rfl (hcb _ _ _ _ _ ⟨_,bG.head,Rh hhd⟩ (fun b o h=>hgm b o (hGi b o h)) bG.now (Hp.owns (Li:=[_]) H.hp)) rfl ?_;clear H;intro v19 GV Om a w aib oK H;have mZ:=bG.step aib;refine gW 10 H ?_ ?_ <;> clear H
  ·intro gM
   rw [ay gM,ah (by omega),iD] at mZ;refine ak 4 ?_;intro a H;refine fB PV (Li:=[_]) (L:=Om) H wn rfl (ih fv Gi xs J _ _ _ (j+1) x.flow _ (fun b o h=>oK b o (hgm b o (hGi b o h))) hcb jT mZ.now (Hp.owns (Li:=[_]) H.hp) (hfl.mono oK) (by omega) mZ.part) rfl ?_;clear H;intro v27 JW acf a w aic LY H;refine aH 4 H ?_;clear H;intro a H;refine aG ?_;refine dH ((k+1,j+1+(jS x.flow).length,acf,JW)) (by exact (H.cu (Pl:=[_]) (bS:=[]) [] (by decide) rfl).sub ⟨rfl,rfl,rfl,rfl,bB⟩) ?_ ?_
   ·(try dsimp only);exact ⟨by omega,fun b o h=>LY b o (oK b o (hgm b o h)),mZ.jump aic⟩
   first|omega|(dsimp only;omega)
  intro gM
  rw [ah gM,iD] at mZ;refine goB 4 ?_ ?_
  ·intro p28
   rw [ay p28] at mZ;refine ak 7 ?_;intro a H;refine eO (ι:=Nat × Nat × OL × GH) (Tc:=[(1,_),(10,_),(11,_),(12,_),(31,_),(32,_)]) (Lc:=[(_,_)]) (fun gh=>[(33,vi gh.1)]) (fun gh=>[]++gh.2.2.1) (fun gh=>gh.2.2.2) (fun gh=>gh.1≤x.rows.length∧(∀ b o,GV b=some o→gh.2.2.2 b=some o)∧Now xs D8 J (j0+(jS l).length) gh.2.1 (sU (x.rows.drop gh.1)++jS (l.drop (k+1))) gh.2.2.2 gh.2.2.1) (fun gh=>x.rows.length - gh.1) ((0,j+1,Om,GV)) sB ?_ ?_
   ·exact ⟨by omega,fun _ _ h=>h,mZ⟩
   clear H;rintro ⟨rk,j3,Lt3,g3⟩ a w hI H;dsimp only at hI H;obtain ⟨RX,hg3,oL⟩:=hI;dsimp only [lca,aR] at H;refine dN 4 H ?_ ?_ <;> clear H
   ·intro p34
    have hk3:rk < x.rows.length:=by omega
    obtain ⟨b2,o2,qA,qn,qc,eA,en,ec,zA,zn,zc,cA,cn,cc,rfl,hrow,Bf,hcl⟩:=EC hk3 ((hrw.mono oK).mono hg3).at_;have hcn:=hcl.len;rw [bO] at hcn;subst hcn;have hsz2:=JM hk3;have hcs:=BH x.rows[rk].cells;rw [lW hk3] at oL
    simp only [sU,aik,gy,jg] at oL
    obtain ⟨y,hy⟩:∃ y,y=x.rows[rk]:=⟨_,rfl⟩;rw [← hy] at oL hrow Bf hcl hsz2 hcs;refine ak 5 ?_;intro a H;refine bg iU (cs:=[_,_,_,_,_,_]) H wn rfl rfl (fun j v hj=>H.hp.aF (hrow j v hj)) rfl ?_;clear H;intro a H;refine dx iU H wn rfl ?_;clear H;intro b7 a w sV H;refine aV iU 0 (vs:=[_,_,_,_,_,_]) _ H wn rfl rfl rfl rfl rfl rfl rfl rfl ?_;clear H;intro w H;dsimp only [List.set,setRow] at H;refine aH 4 H ?_;clear H;intro a H;refine bg jG (cs:=[_,_,_,_,_]) H wn rfl rfl (H.hp.cK 0 rfl rfl) rfl ?_;clear H;intro a H;refine pq (Li:=[_,_]) (L:=Lt3) H wn rfl rfl (hcb _ _ _ _ _ ⟨_,oL.head,Rh Bf⟩ (fun b o h=>hg3 b o (oK b o (hgm b o (hGi b o h)))) oL.now (Hp.owns (Li:=[_,_]) H.hp)) rfl ?_;clear H;intro v40 GY Dw a w aie Bb H;have ajr:=oL.step aie;refine aH 8 H ?_;clear H;intro a H;refine eO (ι:=Nat × Nat × OL × GH) (Tc:=[(1,_),(10,_),(11,_),(12,_),(31,_),(32,_),(33,_),(42,_),(43,_)]) (Lc:=[(_,_),(_,_)]) (fun gh=>[(44,vi gh.1)]) (fun gh=>[]++gh.2.2.1) (fun gh=>gh.2.2.2) (fun gh=>gh.1≤y.cells.length∧(∀ b o,GY b=some o→gh.2.2.2 b=some o)∧Now xs D8 J (j0+(jS l).length) gh.2.1 (uX (y.cells.drop gh.1)++(sU (x.rows.drop (rk+1))++jS (l.drop (k+1)))) gh.2.2.2 gh.2.2.1) (fun gh=>y.cells.length - gh.1) ((0,j3+1,Dw,GY)) sB ?_ ?_
    ·exact ⟨by omega,fun _ _ h=>h,ajr⟩
    clear H;rintro ⟨ck,j4,Lt4,g4⟩ a w hI H;dsimp only at hI H;obtain ⟨hck,hg4,ng⟩:=hI;dsimp only [lca,aR] at H;refine dN 4 H ?_ ?_ <;> clear H
    ·intro p45
     have hk4:ck < y.cells.length:=by omega
     obtain ⟨b3,o3,sA,sn,sc,tA,tn,tc,uA,un,uc,gA,gn,gc,rfl,hrow,hch,hcf⟩:=DL hk4 ((hcl.mono Bb).mono hg4).at_;have Ml:=JK hk4;rw [lW hk4] at ng
     simp only [uX,ahI,gy,jg] at ng
     refine ak 5 ?_;intro a H;refine bg iw (cs:=[_,_,_,_,_,_,_]) H wn rfl rfl (fun j v hj=>H.hp.aF (hrow j v hj)) rfl ?_;clear H;intro a H;refine dx iw H wn rfl ?_;clear H;intro b9 a w sW H;refine aV iw 0 (vs:=[_,_,_,_,_,_,_]) _ H wn rfl rfl rfl rfl rfl rfl rfl rfl ?_;clear H;intro w H;dsimp only [List.set,setRow] at H;refine aH 4 H ?_;clear H;intro a H;refine bg jG (cs:=[_,_,_,_,_]) H wn rfl rfl (H.hp.cK 0 rfl rfl) rfl ?_;clear H;intro a H;refine pq (Li:=[_,_,_]) (L:=Lt4) H wn rfl rfl (hcb _ _ _ _ _ ⟨_,ng.head,Rh hch⟩ (fun b o h=>hg4 b o (Bb b o (hg3 b o (oK b o (hgm b o (hGi b o h)))))) ng.now (Hp.owns (Li:=[_,_,_]) H.hp)) rfl ?_;clear H;intro v51 G51 acg a w aif RD H;have Ee:=ng.step aif;refine aH 5 H ?_;clear H;intro a H;refine fB PV (Li:=[_,_,_]) (L:=acg) H wn rfl (ih fv Gi xs J _ _ _ (j4+1) y.cells[ck].flow _ (fun b o h=>RD b o (hg4 b o (Bb b o (hg3 b o (oK b o (hgm b o (hGi b o h))))))) hcb jT Ee.now (Hp.owns (Li:=[_,_,_]) H.hp) (hcf.mono RD) (by omega) Ee.part) rfl ?_;clear H;intro v55 He ach a w aii tq H;refine aH 4 H ?_;clear H;intro a H;refine aG ?_;refine dH ((ck+1,j4+1+(jS y.cells[ck].flow).length,ach,He)) (by exact (H.cu (Pl:=[_,_,_]) (bS:=[_,_]) [1,2] (by decide) rfl).sub ⟨rfl,rfl,rfl,rfl,rfl,rfl,rfl,rfl,rfl,rfl,bB⟩) ?_ ?_
     ·(try dsimp only);exact ⟨by omega,fun b o h=>tq b o (RD b o (hg4 b o h)),Ee.jump aii⟩
     first|omega|(dsimp only;omega)
    intro p45
    refine ak 4 ?_;intro a H;refine aG ?_;refine dH ((rk+1,j4,Lt4,g4)) (by exact (H.cu (Pl:=[_,_]) (bS:=[_]) [1] (by decide) rfl).sub ⟨rfl,rfl,rfl,rfl,rfl,rfl,rfl,bB⟩) ?_ ?_
    ·(try dsimp only);exact ⟨by omega,fun b o h=>hg4 b o (Bb b o (hg3 b o h)),by rw [fM (by omega),uX,iD] at ng;exact ng⟩
    first|omega|(dsimp only;omega)
   intro p34
   refine ak 4 ?_;intro a H;refine aG ?_;refine dH ((k+1,j3,Lt3,g3)) (by exact (H.cu (Pl:=[_]) (bS:=[]) [] (by decide) rfl).sub ⟨rfl,rfl,rfl,rfl,bB⟩) ?_ ?_
   ·(try dsimp only);exact ⟨by omega,fun b o h=>hg3 b o (oK b o (hgm b o h)),by rw [fM (by omega),sU,iD] at oL;exact oL⟩
   first|omega|(dsimp only;omega)
  intro p28
  rw [ah p28,iD] at mZ;refine ak 4 ?_;intro a H;refine aG ?_;refine dH ((k+1,j+1,Om,GV)) (by exact (H.cu (Pl:=[_]) (bS:=[]) [] (by decide) rfl).sub ⟨rfl,rfl,rfl,rfl,bB⟩) ?_ ?_
  ·(try dsimp only);exact ⟨by omega,fun b o h=>oK b o (hgm b o h),mZ⟩
  first|omega|(dsimp only;omega)
 intro oW
 intro a H;refine wX ?_;refine (leave0 H results61 ?_).2
 exact H.hp.bZ (L':=Lt) (by repeat (first|exact bX _|apply List.Sublist.cons)) (by
   rw [fM (by omega),jS] at bG;have:=bG.len
   simp only [List.length_nil,kI] at this
   rw [← this];exact bG.now)
theorem XW:∀ n:Nat,n≤4294967297→Oh n
 | 0,_=>fun _ _ _ _ _ _ _ _ _ _ _ _ _ _ _ _ h=>absurd h (by omega)
 | n+1,hn=>aiL (XW n (by omega)) (by omega)
end
section
open Go.RowKit
theorem Vx {Q:au→Prop} (hj:∀ z y,Q z→Q y→qO z y→Q (oP z y)) {out:List au} {y:au} (hy:Q y) (ho:∀ z∈out,Q z):∀ z∈addN out y,Q z:=by
 by_cases hd:sK y
 ·rw [OC hd];exact ho
 by_cases h:∃ o z,out=o++[z]∧qO z y
 ·obtain ⟨o,z,rfl,hz⟩:=h;rw [Ke hd hz];intro x hx
  rcases lT.1 hx with h|h
  ·exact ho x (List.mem_append_left _ h)
  rw [rC.1 h];exact hj z y (ho z (by simp)) hy hz
 rw [BU hd fun o z e hz=>h ⟨o,z,e,hz⟩];intro x hx
 rcases lT.1 hx with h|h
 ·exact ho x h
 rw [rC.1 h];exact hy
theorem Xw {Q:au→Prop} (hj:∀ z y,Q z→Q y→qO z y→Q (oP z y)):∀ (A out:List au),(∀ y∈A,Q y)→(∀ z∈out,Q z)→∀ z∈A.foldl addN out,Q z
 | [],_,_,ho=>ho
 | y :: A,out,hA,ho=>Xw hj A (addN out y) (fun x hx=>hA x (gL _ hx)) (Vx hj (hA y fH) ho)
theorem fold_add {γ:Type} {F:List au→γ} {op:γ→γ→γ} {Q:au→Prop} (hF:∀ a b,F (a++b)=op (F a) (F b)) (hj:∀ z y,Q z→Q y→qO z y→Q (oP z y)) (hd:∀ y,Q y→¬ sK y)
  (hg:∀ o z y,Q z→Q y→qO z y→F (o++[oP z y])=op (F (o++[z])) (F [y])):∀ (A out:List au),(∀ y∈A,Q y)→(∀ z∈out,Q z)→F (A.foldl addN out)=F (out++A)
 | [],out,_,_=>by rw [lY];rfl
 | y :: A,out,hA,ho=>by
  have hy:=hA y fH;rw [List.foldl_cons,fold_add hF hj hd hg A (addN out y) (fun x hx=>hA x (gL _ hx)) (Vx hj hy ho),show out++y :: A=(out++[y])++A by simp,hF,hF (out++[y])]
  congr 1
  by_cases h:∃ o z,out=o++[z]∧qO z y
  ·obtain ⟨o,z,rfl,hz⟩:=h;rw [Ke (hd y hy) hz,hg o z y (ho z (by simp)) hy hz,← hF]
  rw [BU (hd y hy) fun o z e hz=>h ⟨o,z,e,hz⟩]
theorem Qp {x:au} (h:jk x=0) (hk:x.kind=1):x.code=0∧x.id=0∧mR x.text=true∧oG x.text=false∧x.flow=[]∧x.rows=[]:=by
 have h0:=DV h
 unfold jk at h
 have hc:uQ x=false:=by simp [uQ,hk]
 have hn:vE x=false:=by simp [vE,hk]
 split at h
 ·cases h
 split at h
 ·cases h
 rename_i h2
 split at h
 ·cases h
 split at h
 ·cases h
 rename_i h4
 rw [hk] at h4
 simp only [sN,hc,hn,Bool.not_false,Ca,Bool.or_eq_true,not_or,Bool.not_eq_true,nX,lu] at h2
 refine ⟨h2.1.1.1.1,h2.1.1.1.2,h0.1,?_,h0.2.2.2 (by omega),h0.2.2.1 (by omega)⟩
 cases he:oG x.text
 ·rfl
 rw [he] at h4;simp at h4
theorem WE (s:ByteArray):oG s=decide (s.size=0):=by
 unfold oG
 rw [ByteArray.toList_eq,ByteArray.toList_eq,qG,lV,beq_iff_eq]
 constructor
 ·intro h;have:=aB List.length h
  simpa using this
 intro h;exact List.eq_nil_of_length_eq_zero (by rw [sG];exact h)
theorem ahC {z y:au} (hz:jk z=0) (hy:jk y=0) (kz:z.kind=1) (ky:y.kind=1):jk (oP z y)=0:=by
 obtain ⟨a1,a2,a3,a4,a5,a6⟩:=Qp hz kz;obtain ⟨b1,b2,b3,b4,b5,b6⟩:=Qp hy ky;have hv:=abo a3 b3
 have he:oG (z.text++y.text)=false:=by
  rw [WE,nX] at a4 ⊢;rw [ByteArray.size_append];omega
 unfold jk oP codeOk sN xL xU uQ vE
 simp only [au.kind,au.code,au.id,au.text,au.flow,au.rows] at *
 simp [kz,a1,a2,a5,a6,hv,he,xL,uQ,vE,xU,au.kind,au.code]
theorem Xy {k c i:Int} {tx:ByteArray} {h:dh} {f f':List au} {r r':List aM} (hx:jk (.mk k c i tx h f r)=0) (hf:k≠6→f=[]→f'=[]) (hr:r'.length=r.length):jk (.mk k c i tx h f' r')=0:=by
 have h0:=(DV hx).2.2.2
 have e:sN (.mk k c i tx h f' r')=sN (.mk k c i tx h f r):=by
  have hfl:k≠6→f'.length=f.length:=fun h6=>by rw [hf h6 (h0 h6),show f=[] from h0 h6]
  rw [qG]
  simp only [sN,Bool.or_eq_true,lU,lV]
  have c1:uQ (.mk k c i tx h f' r')=uQ (.mk k c i tx h f r):=rfl;have c2:vE (.mk k c i tx h f' r')=vE (.mk k c i tx h f r):=rfl;have c3:xU (.mk k c i tx h f' r')=xU (.mk k c i tx h f r):=rfl;rw [c1,c2,c3]
  show (((((_∧c≠0)∨(_∧i≠0))∨(_∧(!oG tx)=true))∨(k≠6∧0 < (f'.length:Int)))∨(k≠7∧0 < (r'.length:Int)))↔(((((_∧c≠0)∨(_∧i≠0))∨(_∧(!oG tx)=true))∨(k≠6∧0 < (f.length:Int)))∨(k≠7∧0 < (r.length:Int)))
  rw [hr]
  by_cases h6:k=6
  ·simp [h6]
  rw [hfl h6]
 have e2:codeOk (.mk k c i tx h f' r')=codeOk (.mk k c i tx h f r):=rfl;have e3:xL (.mk k c i tx h f' r')=xL (.mk k c i tx h f r):=rfl
 unfold jk at hx ⊢
 rw [e,e2,e3];exact hx
theorem M0 {C:bK} {body note:Bool} {t:Int} (x:au):lH C body note t x↔jk x=0∧M7 body note t x.kind x.id∧fI C x.kind x.head=0∧(x.kind=6→iI C false true t x.flow)∧(x.kind=7→(x.rows.length≠0∧x.rows.length≤256)∧lI C note (t+1) x.rows):=by
 cases x;rw [lH];rfl
theorem Ta {C:bK} {body note:Bool} {t:Int} (z y:au) (hz:lH C body note t z) (hy:lH C body note t y) (hj:qO z y):lH C body note t (oP z y):=by
 rw [M0] at *;refine ⟨ahC hz.1 hy.1 hj.2.1 hj.1,hz.2.1,hz.2.2.1,hz.2.2.2.1,hz.2.2.2.2⟩
theorem ZP {C:bK} {body note:Bool} {t:Int} (y:au) (hy:lH C body note t y):¬ sK y:=by
 rw [M0] at hy;rintro (⟨h1,h2⟩|⟨h1,h2⟩)
 ·exact (hy.2.2.2.2 h1).1.1 h2
 have:=(Qp hy.1 h1).2.2.2.1;rw [WE] at this
 simp [h2] at this
theorem Td {C:bK} {body note:Bool} {t:Int} {A:List au} (h:iI C body note t A):iI C body note t (A.foldl addN []):=F9.2 (Xw Ta A [] (F9.1 h) (fun _ h=>by cases h))
mutual
theorem alW (C:bK) (body note:Bool) (t:Int):∀ x:au,lH C body note t x→lH C body note t (nI x)
 | .mk k c i tx h f r,hx=>by
  have hf:=Ez C false true t f;have hr:=ZR C note (t+1) r;rw [lH] at hx;rw [nI,lH];exact ⟨Xy hx.1 (fun _ e=>by rw [e];rfl) (by rw [MV,bO]),hx.2.1,hx.2.2.1,fun e=>Td (hf (hx.2.2.2.1 e)),fun e=>⟨by rw [MV,bO];exact (hx.2.2.2.2 e).1,hr (hx.2.2.2.2 e).2⟩⟩
theorem alX (C:bK) (note:Bool) (t:Int):∀ x:aM,qb C note t x→qb C note t (nR x)
 | .mk h cs,hx=>by
  have hc:=ZQ C note t cs;rw [qb] at hx;rw [nR,qb];exact ⟨by rw [SN,bO];exact hx.1,hc hx.2⟩
theorem alV (C:bK) (note:Bool) (t:Int):∀ x:aL,pY C note t x→pY C note t (nC x)
 | .mk i h f,hx=>by
  have hf:=Ez C false note t f;rw [pY] at hx;rw [nC,pY];exact ⟨hx.1,Td (hf hx.2)⟩
theorem Ez (C:bK) (body note:Bool) (t:Int):∀ l:List au,iI C body note t l→iI C body note t (oV l)
 | [],_=>by rw [oV,iI];trivial
 | x :: l,h=>by
  rw [iI] at h;rw [oV,iI];exact ⟨alW C body note t x h.1,Ez C body note t l h.2⟩
theorem ZR (C:bK) (note:Bool) (t:Int):∀ l:List aM,lI C note t l→lI C note t (tJ l)
 | [],_=>by rw [tJ,lI];trivial
 | x :: l,h=>by
  rw [lI] at h;rw [tJ,lI];exact ⟨alX C note t x h.1,ZR C note t l h.2⟩
theorem ZQ (C:bK) (note:Bool) (t:Int):∀ l:List aL,mD C note t l→mD C note t (tH l)
 | [],_=>by rw [tH,mD];trivial
 | x :: l,h=>by
  rw [mD] at h;rw [tH,mD];exact ⟨alV C note t x h.1,ZQ C note t l h.2⟩
end
theorem SX (l:List au):kV l=(oV l).foldl addN []:=by simp [kV,qQ,MU]
theorem ZT {C:bK} {body note:Bool} {t:Int} {l:List au} (h:iI C body note t l):iI C body note t (kV l):=by rw [SX];exact Td (Ez C body note t l h)
end
section
open Go.RowKit
theorem ME:∀ a b:List au,dQ (a++b)=dQ a++dQ b
 | [],b=>by rw [dQ];rfl
 | x :: a,b=>by rw [jg,dQ,dQ,ME a b,gy]
theorem NM:∀ a b:List au,iK (a++b)=iK a+iK b
 | [],b=>by rw [iK,fQ];rfl
 | x :: a,b=>by rw [jg,iK,iK,NM a b,Nat.add_assoc]
theorem Si {x:au} (h:x.kind=1):nO x=[]:=by
 cases x;dsimp only [au.kind] at h;subst h;simp [nO]
theorem Uv {x:au} (h:x.kind=1):uI x=oD x.text:=by
 cases x;dsimp only [au.kind] at h;subst h;simp [uI,au.text]
theorem Sl {C:bK} {body note:Bool} {t:Int} {A:List au} (h:iI C body note t A):dQ (A.foldl addN [])=dQ A :=
 (fold_add (F:=dQ) ME (Ta (C:=C) (body:=body) (note:=note) (t:=t)) ZP (fun o z y _ _ hj=>by
  rw [ME,ME];simp only [dQ];rw [Si hj.2.1,Si hj.1,Si (x:=oP z y) hj.2.1];simp) A [] (F9.1 h) (fun _ h=>by cases h))
theorem Uw {C:bK} {body note:Bool} {t:Int} {A:List au} (h:iI C body note t A):iK (A.foldl addN [])=iK A :=
 (fold_add (F:=iK) NM (Ta (C:=C) (body:=body) (note:=note) (t:=t)) ZP (fun o z y hz hy hj=>by
  rw [M0] at hz hy
  rw [NM,NM];simp only [iK];rw [Uv hj.2.1,Uv hj.1,Uv (x:=oP z y) hj.2.1,show (oP z y).text=z.text++y.text from rfl,aea (DV hz.1).1 (DV hy.1).1];omega) A [] (F9.1 h) (fun _ h=>by cases h))
mutual
theorem akJ (C:bK) (body note:Bool) (t:Int):∀ x:au,lH C body note t x→nO (nI x)=nO x∧uI (nI x)=uI x
 | .mk k c i tx h f r,hx=>by
  have hf:=MK C false true t f;have hr:=Zf C note (t+1) r;rw [lH] at hx;rw [nI,nO,nO,uI,uI]
  by_cases h6:k=6
  ·subst h6;have ho:=hx.2.2.2.1 rfl;have hn:=Ez C false true t f ho
   simp only [if_true,ah (show ¬ (6:Int)=7 by decide)]
   rw [Sl hn,Uw hn,(hf ho).1,(hf ho).2];exact ⟨rfl,rfl⟩
  by_cases h7:k=7
  ·subst h7;have ho:=(hx.2.2.2.2 rfl).2
   simp only [if_true,ah (show ¬ (7:Int)=6 by decide)]
   rw [(hr ho).1,(hr ho).2];exact ⟨rfl,rfl⟩
  simp only [ah h6,ah h7]
  exact ⟨bB,bB⟩
theorem akK (C:bK) (note:Bool) (t:Int):∀ x:aM,qb C note t x→oO (nR x)=oO x∧uR (nR x)=uR x
 | .mk h cs,hx=>by
  have hc:=Ze C note t cs;rw [qb] at hx;rw [nR,oO,oO,uR,uR];exact hc hx.2
theorem akI (C:bK) (note:Bool) (t:Int):∀ x:aL,pY C note t x→oN (nC x)=oN x∧uC (nC x)=uC x
 | .mk i h f,hx=>by
  have hf:=MK C false note t f;rw [pY] at hx;have hn:=Ez C false note t f hx.2;rw [nC,oN,oN,uC,uC,Sl hn,Uw hn,(hf hx.2).1,(hf hx.2).2];exact ⟨rfl,rfl⟩
theorem MK (C:bK) (body note:Bool) (t:Int):∀ l:List au,iI C body note t l→dQ (oV l)=dQ l∧iK (oV l)=iK l
 | [],_=>by rw [oV];exact ⟨rfl,rfl⟩
 | x :: l,h=>by
  rw [iI] at h;have h1:=akJ C body note t x h.1;have h2:=MK C body note t l h.2;rw [oV,dQ,dQ,iK,iK,h1.1,h1.2,h2.1,h2.2];exact ⟨rfl,rfl⟩
theorem Zf (C:bK) (note:Bool) (t:Int):∀ l:List aM,lI C note t l→lF (tJ l)=lF l∧qV (tJ l)=qV l
 | [],_=>by rw [tJ];exact ⟨rfl,rfl⟩
 | x :: l,h=>by
  rw [lI] at h;have h1:=akK C note t x h.1;have h2:=Zf C note t l h.2;rw [tJ,lF,lF,qV,qV,h1.1,h1.2,h2.1,h2.2];exact ⟨rfl,rfl⟩
theorem Ze (C:bK) (note:Bool) (t:Int):∀ l:List aL,mD C note t l→mq (tH l)=mq l∧rX (tH l)=rX l
 | [],_=>by rw [tH];exact ⟨rfl,rfl⟩
 | x :: l,h=>by
  rw [mD] at h;have h1:=akI C note t x h.1;have h2:=Ze C note t l h.2;rw [tH,mq,mq,rX,rX,h1.1,h1.2,h2.1,h2.2];exact ⟨rfl,rfl⟩
end
theorem akt {C:bK} {body note:Bool} {t:Int} {l:List au} (h:iI C body note t l):dQ (kV l)=dQ l∧iK (kV l)=iK l:=by
 have hn:=Ez C body note t l h;rw [SX,Sl hn,Uw hn];exact MK C body note t l h
theorem aoP (z y:au):bJ (oP z y).dat≤bJ z.dat+bJ y.dat:=by
 rw [au.oF,au.oF,au.oF]
 simp only [oP,au.kind,au.code,au.id,au.text,au.head,au.flow,au.rows,bJ,lM,ByteArray.size_append]
 omega
theorem JN (a b:List au):aZ (a++b)=aZ a+aZ b:=by rw [aZ,nG,Jz]
theorem UO (y:au):aZ [y]=1+bJ y.dat:=by simp [aZ,dX]
theorem apR (out:List au) (y:au):aZ (addN out y)≤aZ out+aZ [y]:=by
 rcases Vy out y with e|e|⟨o,z,rfl,-,-,e⟩ <;> rw [e]
 ·omega
 ·rw [JN];exact bN _
 have:=aoP z y;rw [JN,JN,UO,UO,UO];omega
theorem NW:∀ (A out:List au),aZ (A.foldl addN out)≤aZ out+aZ A
 | [],out=>Nat.le_add_right _ _
 | y :: A,out=>by
  have h1:=NW A (addN out y);have h2:=apR out y;have h3:=JN [y] A;rw [List.singleton_append] at h3;rw [List.foldl_cons,h3];omega
mutual
theorem apT:∀ x:au,bJ (nI x).dat≤bJ x.dat
 | .mk k c i tx h f r=>by
  have hf:=NY f;have hr:=abN r;have hd:=NW (oV f) [];have h0:aZ []=0:=rfl
  have JA:∀ (a b:List Dat),bJ (a++b)=bJ a+bJ b:=fun a b=>by
   induction a with
   | nil=>simp [bJ]
   | cons x a ih=>simp only [jg,bJ,ih];omega
  rw [nI,au.oF,au.oF]
  simp only [au.kind,au.code,au.id,au.text,au.head,au.flow,au.rows,bJ,lM,JA]
  unfold aZ at *
  unfold fE at hr
  omega
theorem apU:∀ x:aM,bJ (nR x).dat≤bJ x.dat
 | .mk h cs=>by
  have hc:=abM cs
  have JA:∀ (a b:List Dat),bJ (a++b)=bJ a+bJ b:=fun a b=>by
   induction a with
   | nil=>simp [bJ]
   | cons x a ih=>simp only [jg,bJ,ih];omega
  rw [nR,aM.oF,aM.oF]
  simp only [aM.head,aM.cells,bJ,lM,JA]
  unfold gZ at hc
  omega
theorem apS:∀ x:aL,bJ (nC x).dat≤bJ x.dat
 | .mk i h f=>by
  have hf:=NY f;have hd:=NW (oV f) [];have h0:aZ []=0:=rfl
  have JA:∀ (a b:List Dat),bJ (a++b)=bJ a+bJ b:=fun a b=>by
   induction a with
   | nil=>simp [bJ]
   | cons x a ih=>simp only [jg,bJ,ih];omega
  rw [nC,aL.oF,aL.oF]
  simp only [aL.id,aL.head,aL.flow,bJ,lM,JA]
  unfold aZ at *
  omega
theorem NY:∀ l:List au,aZ (oV l)≤aZ l
 | []=>by rw [oV];exact bN _
 | x :: l=>by
  have h1:=apT x;have h2:=NY l;rw [oV]
  simp only [aZ,eu,dX] at *
  omega
theorem abN:∀ l:List aM,fE (tJ l)≤fE l
 | []=>by rw [tJ];exact bN _
 | x :: l=>by
  have h1:=apU x;have h2:=abN l;rw [tJ]
  simp only [fE,eu,dX] at *
  omega
theorem abM:∀ l:List aL,gZ (tH l)≤gZ l
 | []=>by rw [tH];exact bN _
 | x :: l=>by
  have h1:=apS x;have h2:=abM l;rw [tH]
  simp only [gZ,eu,dX] at *
  omega
end
theorem abO (l:List au):aZ (kV l)≤aZ l:=by
 have h1:=NW (oV l) [];have h2:=NY l;have h0:aZ []=0:=rfl;rw [SX];omega
end
section
open Go.RowKit
end
section
open Go.RowKit
structure oC where
 id:Int
 items:List au
 flow:Int
 at_:Int
 note:Bool
 depth:Int
def oC.dat (p:oC):List Dat:=[li p.id,.sl 11 (p.items.map au.dat),li p.flow,li p.at_,.lf (.bool p.note),li p.depth]
abbrev oC.cells (p:oC) (v:aj):List aj:=[vi p.id,v,vi p.flow,vi p.at_,.bool p.note,vi p.depth]
theorem oC.of {G:GH} {p:oC} {cs:List aj} (h:aN G p.dat cs):∃ v,cs=p.cells v∧av G (.sl 11 (p.items.map au.dat)) v:=by
 simp only [oC.dat,aN] at h
 obtain ⟨_,_,rfl,⟨rfl,-⟩,v,_,rfl,hv,_,_,rfl,⟨rfl,-⟩,_,_,rfl,⟨rfl,-⟩,_,_,rfl,⟨rfl,-⟩,_,_,rfl,⟨rfl,-⟩,rfl⟩:=h;exact ⟨v,rfl,hv⟩
mutual
def OI (f:Int) (at_:Nat) (note:Bool) (t:Int):au→List oC
 | .mk k _ i _ _ fl r=>if k=6 then ⟨i,fl,f,at_,true,t⟩ :: Ao i true t 0 fl else if k=7 then Ia f at_ note (t+1) r else []
/-- The flows that are contained in a flow, with where they stand. -/
def Ao (f:Int) (note:Bool) (t:Int):Nat→List au→List oC
 | _,[]=>[]
 | at_,x :: l=>OI f at_ note t x++Ao f note t (at_+n1 x) l
def Ia (f:Int) (at_:Nat) (note:Bool) (t:Int):List aM→List oC
 | []=>[]
 | x :: l=>OJ f at_ note t x++Ia f at_ note t l
def OJ (f:Int) (at_:Nat) (note:Bool) (t:Int):aM→List oC
 | .mk _ cs=>H9 f at_ note t cs
def H9 (f:Int) (at_:Nat) (note:Bool) (t:Int):List aL→List oC
 | []=>[]
 | x :: l=>Kk f at_ note t x++H9 f at_ note t l
def Kk (f:Int) (at_:Nat) (note:Bool) (t:Int):aL→List oC
 | .mk i _ fl=>⟨i,fl,f,at_,note,t⟩ :: Ao i note t 0 fl
end
theorem acF (f:Int) (at_:Nat) (note:Bool) (t:Int) (x:aL):Kk f at_ note t x=⟨x.id,x.flow,f,at_,note,t⟩ :: Ao x.id note t 0 x.flow:=by cases x;rw [Kk];rfl
def acJ (p:oC):List oC:=p :: Ao p.id p.note p.depth 0 p.items
structure Oq (g:GH) (v:aj) (R:List oC) (xs:List aj) (Lo:OL):Prop where
 row:bR 50 6 v R.length xs Lo
 cat:bE g 6 (R.map oC.dat) xs
theorem Oq.mono {g g':GH} {v:aj} {R:List oC} {xs:List aj} {Lo:OL} (h:Oq g v R xs Lo) (hm:∀ b o,g b=some o→g' b=some o):Oq g' v R xs Lo:=⟨h.row,h.cat.mono hm⟩
end
section
open Go.RowKit
end
end Go.Proofs.YthmanofbmnfemaaGreat
