/-
  What the claim stands on, part 7: Stq Dms Deq Meq Mdq Dn13 Brs.
-/
import Derived.Test.YthmanofbmnfemaaGreatWdf
namespace Go.Proofs.YthmanofbmnfemaaGreat
open Go.Proofs.Tryz
set_option maxRecDepth 20000
set_option maxHeartbeats 4000000
section
open Go.RowKit
theorem ake:∀ args w,(callFunc 183 args).run prog w=.ok (.enter 183 args) w:=enters func183 rfl (by kernel_rfl)
theorem akc:∀ args w,(callFunc 181 args).run prog w=.ok (.enter 181 args) w:=enters func181 rfl (by kernel_rfl)
theorem akd:∀ args w,(callFunc 182 args).run prog w=.ok (.enter 182 args) w:=enters func182 rfl (by kernel_rfl)
theorem Oy (p q:ByteArray):p.toList=q.toList↔p=q:=by
 rw [← bytes_beq,beq_iff_eq]
theorem bD.eq_iff (a b:bD):(a.id=b.id∧a.author=b.author∧a.time=b.time)↔a=b:=by cases a;cases b;simp
theorem iZ.eq_iff (a b:iZ):(a.fmt=b.fmt∧a.start=b.start∧a.zx=b.zx∧a.restart=b.restart)↔a=b:=by cases a;cases b;simp
theorem eY.eq_iff (a b:eY):(a.id=b.id∧a.parent=b.parent∧a.author=b.author∧a.time=b.time∧a.text=b.text∧a.done=b.done)↔a=b:=by cases a;cases b;simp
theorem iP.eq_iff (a b:iP):(a.name=b.name∧a.value=b.value)↔a=b:=by cases a;cases b;simp
theorem dz.eq_iff (a b:dz):(a.id=b.id∧a.levels=b.levels)↔a=b:=by cases a;cases b;simp
theorem bH.eq_iff (a b:bH):(((((a.id=b.id∧a.kind=b.kind)∧a.name=b.name)∧a.base=b.base)∧a.next=b.next)∧a.props=b.props)↔a=b:=by cases a;cases b;simp [and_assoc]
instance:DecidableEq bD:=fun a b=>decidable_of_iff _ (bD.eq_iff a b)
instance:DecidableEq iZ:=fun a b=>decidable_of_iff _ (iZ.eq_iff a b)
instance:DecidableEq eY:=fun a b=>decidable_of_iff _ (eY.eq_iff a b)
instance:DecidableEq iP:=fun a b=>decidable_of_iff _ (iP.eq_iff a b)
theorem alN:KI prog 82 [(0,0),(1,1),(2,0)]:=⟨by kernel_rfl,by kernel_rfl,by kernel_rfl,by kernel_rfl,by kernel_rfl⟩
theorem alM:KI prog 194 [(0,0),(1,0),(2,1),(3,0)]:=⟨by kernel_rfl,by kernel_rfl,by kernel_rfl,by kernel_rfl,by kernel_rfl⟩
theorem alL:KI prog 164 [(0,0),(1,0),(2,1),(3,0),(4,1),(5,3)]:=⟨by kernel_rfl,by kernel_rfl,by kernel_rfl,by kernel_rfl,by kernel_rfl⟩
theorem alO:KI prog 167 [(0,1),(1,1)]:=⟨by kernel_rfl,by kernel_rfl,by kernel_rfl,by kernel_rfl,by kernel_rfl⟩
theorem atQ (a b:bD):([(0,0),(1,1),(2,0)].all fun o=>jH (bD.cells a).toArray o == jH (bD.cells b).toArray o)=decide (a=b):=by
 rw [lq,decide_eq_true_iff,← bD.eq_iff]
 simp [jH,jG,Oy]
theorem atP (a b:iZ):([(0,0),(1,0),(2,1),(3,0)].all fun o=>jH (iZ.cells a).toArray o == jH (iZ.cells b).toArray o)=decide (a=b):=by
 rw [lq,decide_eq_true_iff,← iZ.eq_iff]
 simp [jH,jG,Oy]
theorem atO (a b:eY):([(0,0),(1,0),(2,1),(3,0),(4,1),(5,3)].all fun o=>jH (eY.cells a).toArray o == jH (eY.cells b).toArray o)=decide (a=b):=by
 rw [lq,decide_eq_true_iff,← eY.eq_iff]
 cases ha:a.done <;> cases hb:b.done <;> simp [jH,jG,Oy,ha,hb]
theorem atS (a b:iP):([(0,1),(1,1)].all fun o=>jH (iP.cells a).toArray o == jH (iP.cells b).toArray o)=decide (a=b):=by
 rw [lq,decide_eq_true_iff,← iP.eq_iff]
 simp [jH,jG,Oy]
instance:DecidableEq bH:=fun a b=>decidable_of_iff _ (bH.eq_iff a b)
theorem aqD {G:GH} {x:dz} {cs:List ak} (h:aZ G x.dat cs):∃ A n c,cs=[vi x.id,.slice A n c]∧ay G (.sl 4 (x.levels.map iZ.dat)) (.slice A n c):=by
 obtain ⟨v1,vs,rfl,⟨rfl,-⟩,v2,vs2,rfl,h2,rfl⟩:=h;obtain ⟨A,n,c,rfl⟩:=ay.form h2;exact ⟨A,n,c,rfl,h2⟩
theorem RJ {G:GH} {x:bH} {cs:List ak} (h:aZ G x.dat cs):∃ A n c,cs=[vi x.id,vi x.kind,.string x.name,vi x.base,vi x.next,.slice A n c]∧ay G (.sl 2 (x.props.map gB.dat)) (.slice A n c):=by
 obtain ⟨A,c,h1,h2⟩:=NG h;exact ⟨A,_,c,h1,h2⟩
theorem alJ (G:GH) (w0:World) (hG:Hold G w0) (A B:List bH) (v u fv:ak) (hv:ay G (.sl 6 (A.map bH.dat)) v) (hu:ay G (.sl 6 (B.map bH.dat)) u) (hf:∀ (i:Nat) (h1:i < A.length) (h2:i < B.length),Ew fv G A[i].dat B[i].dat (A[i]=B[i])) :
  Calls prog 181 #[v,u,fv] w0 (bB w0 G fun r G'=>∃ b,r=.bool b∧(b=true↔A=B)):=by
 obtain ⟨vA,vc,rfl,hc1,hc2,hg⟩:=hv.slice;obtain ⟨uA,uc,rfl,hd1,hd2,hh⟩:=hu.slice;have hml:maxLen=9223372036854775807:=rfl;(iterate 2 rw [bE] at *);refine eN [(0,_),(1,_),(2,_)] func181 rfl ntmps181 rfl rfl hG ?_;refine goB 11 ?_ ?_
 ·intro kM
  refine aJ 3 ?_;exact ⟨false,rfl,by simp only [lM,false_iff];exact fun e=>absurd (aB List.length e) (by omega)⟩
 intro kM
 refine aj 8 ?_;intro a H;refine dD (ι:=Nat × GH) (Tc:=[(1,_),(2,_),(15,_),(16,_)]) (Lc:=[]) (fun gh=>[(17,vi gh.1)]) (fun gh=>[]) (fun gh=>gh.2) (fun gh=>gh.1≤A.length∧A.take gh.1=B.take gh.1∧(∀ b o,G b=some o→gh.2 b=some o)) (fun gh=>A.length - gh.1) ((0,G)) sB ?_ ?_
 ·exact ⟨by omega,rfl,fun _ _ h=>h⟩
 clear H;rintro ⟨k,g⟩ a w hI H;dsimp only at hI H;obtain ⟨hk,hsame,hgm⟩:=hI;dsimp only [lca,aQ] at H;refine cK 4 H ?_ ?_ <;> clear H
 ·intro nM
  have hk2:k < A.length:=by omega
  have hk3:k < B.length:=by omega
  obtain ⟨b1,o1,cs1,rfl,JH,wZ,hr1⟩:=hg k A[k].dat (by simp [hk2]);obtain ⟨pA,pn,pc,rfl,-⟩:=RJ hr1;obtain ⟨b2,o2,cs2,rfl,JI,hrow2,hr2⟩:=hh k B[k].dat (by simp [hk3]);obtain ⟨qA,qn,qc,rfl,-⟩:=RJ hr2;refine aj 6 ?_;intro a H;refine aT jk (cs:=_) H wn rfl rfl (fun j v hj=>H.hp.aC (aD hgm (wZ j v hj))) rfl ?_;clear H;intro a H;refine dx jk H wn rfl ?_;clear H;intro b8 a w wV H;refine aH 1 H ?_;clear H;intro a H;refine bq jk 0 (vs:=[_,_,_,_,_,_]) _ H wn rfl rfl rfl rfl rfl rfl rfl rfl ?_;clear H;intro w H;dsimp only [List.set,setRow] at H;refine aH 5 H ?_;clear H;intro a H;refine aT jk (cs:=_) H wn rfl rfl (fun j v hj=>H.hp.aC (aD hgm (hrow2 j v hj))) rfl ?_;clear H;intro a H;refine dx jk H wn rfl ?_;clear H;intro b9 a w qE H;refine bq jk 0 (vs:=[_,_,_,_,_,_]) _ H wn rfl rfl rfl rfl rfl rfl rfl rfl ?_;clear H;intro w H;dsimp only [List.set,setRow] at H;refine aH 3 H ?_;clear H;intro a H;refine aT jk (cs:=[_,_,_,_,_,_]) H wn rfl rfl (H.hp.cO 1 rfl rfl) rfl ?_;clear H;intro a H;refine aT jk (cs:=[_,_,_,_,_,_]) H wn rfl rfl (H.hp.cO 0 rfl rfl) rfl ?_;clear H;intro a H;refine nZ H wn rfl rfl (hf k hk2 hk3 _ _ _ _ hgm H.ro (hr1.mono hgm) (hr2.mono hgm)) rfl ?_;clear H;rintro v29 xM a w ⟨LD,rfl,AY⟩ Bb H;refine fE 2 H ?_ ?_ <;> clear H
  ·intro sF
   refine aJ 3 ?_;exact ⟨false,rfl,by simp only [lM,false_iff];rintro rfl;exact absurd (AY.2 rfl) (by simpa using sF)⟩
  intro sF
  try have p30:=dF sF
  refine aj 4 ?_;intro a H;refine aI ?_;refine bR ((k+1,xM)) (by exact (H.bY (Pl:=[_,_]) (bT:=[]) [] (by decide) rfl).sub ⟨rfl,rfl,rfl,rfl,rfl,aY⟩) ?_ ?_
  ·(try dsimp only);exact ⟨by omega,by rw [gI hk2,gI hk3,hsame,AY.1 (by simpa using sF)],fun b o h=>Bb b o (hgm b o h)⟩
  first|omega|(dsimp only;omega)
 intro nM
 refine aJ 4 ?_;exact ⟨true,rfl,by rw [iL (by omega),iL (by omega)] at hsame;simpa using hsame⟩
theorem alD (G:GH) (w0:World) (hG:Hold G w0) (A B:List gB) (v u:ak) (hv:ay G (.sl 2 (A.map gB.dat)) v) (hu:ay G (.sl 2 (B.map gB.dat)) u) :
  Calls prog 183 #[v,u] w0 (bB w0 G fun r G'=>r=.bool (decide (A=B))):=by
 refine eN [(0,_),(1,_)] func183 rfl ntmps183 rfl rfl hG ?_;refine aj 6 ?_;intro a H;refine s_call aao H wn rfl (aaO _ _ H.ro A B _ _ hv hu) rfl ?_;clear H;rintro v7 G7 a w rfl vO H;refine gK 2 H ?_;exact rfl
theorem alH (G:GH) (x y:bH):Ew (.func (.func 182) #[] #[]) G x.dat y.dat (x=y):=by
 intro G1 w0 cs cs' hm hG h1 h2;refine jM (caps:=[]) akd ?_;obtain ⟨pA,pn,pc,rfl,hp1⟩:=RJ h1;obtain ⟨qA,qn,qc,rfl,hp2⟩:=RJ h2;have he:=bH.eq_iff x y;refine eN [(0,_),(1,_)] func182 rfl ntmps182 rfl rfl hG ?_;refine aj 1 ?_;intro a H;refine dN (cs:=[_,_,_,_,_,_]) H wn rfl rfl rfl ?_;clear H;intro b2 a w hb2 H;refine dN (cs:=[_,_,_,_,_,_]) H wn rfl rfl rfl ?_;clear H;intro b3 a w hb3 H;refine ku 9 10 H ?_ ?_ <;> clear H
 ·intro kE
  refine iV 7 17 ?_ ?_
  ·intro jd
   try have kF:=dT jd
   refine aj 4 ?_;intro a H;refine CQ H (wg H rfl rfl jd) rfl rfl rfl ?_;clear H;intro a H;rw [show (x.name.toList == y.name.toList)=decide (x.name=y.name) by rw [lq,bytes_beq,decide_eq_true_iff]] at H;refine ku 2 24 H ?_ ?_ <;> clear H
   ·intro kN
    refine gV 7 31 ?_ ?_
    ·intro p31
     refine iV 7 38 ?_ ?_
     ·intro DJ
      try have p38:=dT DJ
      refine aj 4 ?_;intro a H;refine s_call ake H (wg H rfl rfl DJ) rfl (alD _ _ H.ro x.props y.props _ _ hp1 hp2) rfl ?_;clear H;rintro v43 Am a w rfl nK H;refine gK 3 H ?_;exact ⟨_,rfl,by rw [← he];simp_all⟩
     intro DJ
     try have p38:=dF DJ
     refine aJ 8 ?_;exact ⟨_,rfl,by rw [← he];simp_all⟩
    intro p31
    refine aJ 15 ?_;exact ⟨_,rfl,by rw [← he];simp_all⟩
   intro kN
   refine aJ 22 ?_;exact ⟨_,rfl,by rw [← he];simp_all⟩
  intro jd
  try have kF:=dF jd
  refine aJ 29 ?_;exact ⟨_,rfl,by rw [← he];simp_all⟩
 intro kE
 refine aJ 36 ?_;exact ⟨_,rfl,by rw [← he];simp_all⟩
theorem alF (G:GH) (w0:World) (hG:Hold G w0) (A B:List bH) (v u:ak) (hv:ay G (.sl 6 (A.map bH.dat)) v) (hu:ay G (.sl 6 (B.map bH.dat)) u) :
  Calls prog 126 #[v,u] w0 (bB w0 G fun r G'=>∃ b,r=.bool b∧(b=true↔A=B)):=by
 refine eN [(0,_),(1,_)] func126 rfl ntmps126 rfl rfl hG ?_;refine aj 6 ?_;intro a H;refine s_call akc H wn rfl (alJ _ _ H.ro A B _ _ _ hv hu (fun i h1 h2=>alH _ _ _)) rfl ?_;clear H;rintro v7 G7 a w ⟨b7,rfl,qD⟩ vO H;refine gK 2 H ?_;exact ⟨_,rfl,qD⟩
end
section
open Go.RowKit
section
variable {N:Nat} {D:List Deferred} {w0:World} {F:Nat→Prop} {G0 G G1 G2:GH} {L L1 L2:OL} {T Xs:List (Nat × ak)}
variable {r:Option Nat} {P:Program} {Q:Exit→Act→World→Prop} {l:List Oper} {a a':Act} {w w':World}
end
end
section
open Go.RowKit
theorem ajw:∀ args w,(callFunc 126 args).run prog w=.ok (.enter 126 args) w:=enters func126 rfl (by kernel_rfl)
theorem qN.eq_iff (a b:qN):(((a.styles=b.styles∧a.lists=b.lists)∧a.comments=b.comments)∧a.vars=b.vars)↔a=b:=by cases a;cases b;simp [and_assoc]
end
section
open Go.RowKit
theorem adI {G:GH} {l:List dz} {A:Option Addr} {n c k:Nat} (h:ay G (.sl 2 (l.map dz.dat)) (.slice A n c)) (hk:k < l.length):∃ b o B d,A=some ⟨b,o,none⟩∧aC G b (o+k*2+0)=some (vi l[k].id)∧aC G b (o+k*2+1)=some (.slice B l[k].levels.length d)∧ay G (.sl 4 (l[k].levels.map iZ.dat)) (.slice B l[k].levels.length d):=by
 obtain ⟨b,o,cs,rfl,hcl,hrow,hr⟩:=h.at_ k l[k].dat (by simp [hk]);obtain ⟨B,m,d,rfl,h2⟩:=aqD hr;have hm:=ay.len h2;rw [bE] at hm;subst hm;exact ⟨b,o,B,d,rfl,hrow 0 _ rfl,hrow 1 _ rfl,h2⟩
theorem adP {G:GH} {l:List iZ} {A:Option Addr} {n c k:Nat} (h:ay G (.sl 4 (l.map iZ.dat)) (.slice A n c)) (hk:k < l.length):∃ b o,A=some ⟨b,o,none⟩∧∀ j u,(iZ.cells l[k])[j]?=some u→aC G b (o+k*4+j)=some u:=by
 obtain ⟨b,o,cs,rfl,hcl,hrow,hr⟩:=h.at_ k l[k].dat (by simp [hk]);obtain rfl:=adQ hr;exact ⟨b,o,rfl,hrow⟩
theorem ZT {G:GH} {l:List eY} {A:Option Addr} {n c k:Nat} (h:ay G (.sl 6 (l.map eY.dat)) (.slice A n c)) (hk:k < l.length):∃ b o,A=some ⟨b,o,none⟩∧∀ j u,(eY.cells l[k])[j]?=some u→aC G b (o+k*6+j)=some u:=by
 obtain ⟨b,o,cs,rfl,hcl,hrow,hr⟩:=h.at_ k l[k].dat (by simp [hk]);obtain rfl:=Tz hr;exact ⟨b,o,rfl,hrow⟩
theorem afX {G:GH} {l:List iP} {A:Option Addr} {n c k:Nat} (h:ay G (.sl 2 (l.map iP.dat)) (.slice A n c)) (hk:k < l.length):∃ b o,A=some ⟨b,o,none⟩∧∀ j u,(iP.cells l[k])[j]?=some u→aC G b (o+k*2+j)=some u:=by
 obtain ⟨b,o,cs,rfl,hcl,hrow,hr⟩:=h.at_ k l[k].dat (by simp [hk]);obtain rfl:=afY hr;exact ⟨b,o,rfl,hrow⟩
theorem aeW {G:GH} {l:List bD} {A:Option Addr} {n c k:Nat} (h:ay G (.sl 3 (l.map bD.dat)) (.slice A n c)) (hk:k < l.length):∃ b o,A=some ⟨b,o,none⟩∧∀ j u,(bD.cells l[k])[j]?=some u→aC G b (o+k*3+j)=some u:=by
 obtain ⟨b,o,cs,rfl,hcl,hrow,hr⟩:=h.at_ k l[k].dat (by simp [hk]);obtain rfl:=Rx hr;exact ⟨b,o,rfl,hrow⟩
theorem NK {α:Type} {A B:List α} {k:Nat} (h1:k < A.length) (h2:k < B.length) (h:A.take k=B.take k) (e:A[k]=B[k]):A.take (k+1)=B.take (k+1):=by
 rw [gI h1,gI h2,h,e]
theorem NJ {α:Type} {A B:List α} (hl:A.length=B.length) (h:A.take A.length=B.take A.length):A=B:=by
 rw [wL,iL (by omega)] at h;exact h
theorem alG (G:GH) (w0:World) (hG:Hold G w0) (x y:qN) (a1 LC c1 d1 a2 Zh c2 d2:ak) (hx:tV G x a1 LC c1 d1) (hy:tV G y a2 Zh c2 d2) :
  Calls prog 70 #[.agg #[a1,LC,c1,d1],.agg #[a2,Zh,c2,d2]] w0 (bB w0 G fun u G'=>∃ b,u=.bool b∧(b=true↔x=y)):=by
 have hml:maxLen=9223372036854775807:=rfl;have he:=qN.eq_iff x y;obtain ⟨hx1,hx2,hx3,hx4⟩:=hx;obtain ⟨hy1,hy2,hy3,hy4⟩:=hy;obtain ⟨aA,ac,rfl,-,-,-⟩:=hx1.slice;obtain ⟨bA,bc,rfl,-,awz,-⟩:=hx2.slice;obtain ⟨cA,cc,rfl,-,hcm1,-⟩:=hx3.slice;obtain ⟨dA,dc,rfl,-,awI,-⟩:=hx4.slice;obtain ⟨eA,ec,rfl,-,-,-⟩:=hy1.slice;obtain ⟨fA,fc,rfl,-,awC,-⟩:=hy2.slice;obtain ⟨gA,gc,rfl,-,hcm2,-⟩:=hy3.slice;obtain ⟨iA,ic,rfl,-,awJ,-⟩:=hy4.slice;have hxl:=hx2.cells;have hxc:=hx3.cells;have hxd:=hx4.cells
 simp only [bE] at *
 refine eN [(0,_),(1,_)] func70 rfl ntmps70 rfl rfl hG ?_;refine aj 1 ?_;intro a H;refine dN (cs:=[_,_,_,_]) H wn rfl rfl rfl ?_;clear H;intro b2 a w hb2 H;refine dN (cs:=[_,_,_,_]) H wn rfl rfl rfl ?_;clear H;intro b3 a w hb3 H;refine aH 3 H ?_;clear H;intro a H;obtain ⟨Ga0,uM,uJ,HQ⟩:=H.dS;clear H;obtain ⟨Ga,qF,hb2',H⟩:=HQ.dS;clear HQ;have hga:=fun j v hj=>nE hb2' 0 [.slice aA x.styles.length ac,.slice bA x.lists.length bc,.slice cA x.comments.length cc,.slice dA x.vars.length dc] rfl j v hj;have hge:∀ j v,[.slice eA y.styles.length ec,.slice fA y.lists.length fc,.slice gA y.comments.length gc,.slice iA y.vars.length ic][j]?=some v→aC Ga b3 (0+j)=some v:=fun j v hj=>aD qF (nE uJ 0 [.slice eA y.styles.length ec,.slice fA y.lists.length fc,.slice gA y.comments.length gc,.slice iA y.vars.length ic] rfl j v hj);replace hx1:=(hx1.mono uM).mono qF;replace hx2:=(hx2.mono uM).mono qF;replace hx3:=(hx3.mono uM).mono qF;replace hx4:=(hx4.mono uM).mono qF;replace hy1:=(hy1.mono uM).mono qF;replace hy2:=(hy2.mono uM).mono qF;replace hy3:=(hy3.mono uM).mono qF;replace hy4:=(hy4.mono uM).mono qF;refine dG 2 H ?_;clear H;intro a H;refine iH Eu H wn rfl (H.hp.aC (hga 0 _ rfl)) rfl ?_;clear H;refine aj 1 ?_;intro a H;refine iH Eu H wn rfl (H.hp.aC (hge 0 _ rfl)) rfl ?_;clear H;intro a H;refine s_call ajw H wn rfl (alF _ _ H.ro x.styles y.styles _ _ hx1 hy1) rfl ?_;clear H;rintro v13 oh a w ⟨b13,rfl,JE⟩ kV H;replace hx2:=hx2.mono kV;replace hx3:=hx3.mono kV;replace hx4:=hx4.mono kV;replace hy2:=hy2.mono kV;replace hy3:=hy3.mono kV;replace hy4:=hy4.mono kV;replace hga:=fun j v hj=>aD kV (hga j v hj);replace hge:=fun j v hj=>aD kV (hge j v hj);refine jA 2 15 H ?_ ?_ <;> clear H
 ·intro Ci
  try have mE:=dT Ci
  refine aJ 31 ?_
  first
  | exact ⟨true,rfl,by rw [← he];exact ⟨fun _=>⟨⟨⟨hst,hls⟩,hcs⟩,hvs⟩,fun _=>rfl⟩⟩
  | exact ⟨false,rfl,by
    simp only [lM,false_iff]
    rintro rfl
    first
     | exact c0 rfl
     | exact c1 rfl
     | (simp at xV;done)
     | (simp at xW;done)
     | (simp at sD;done)
     | omega
     | (simp_all;done)
     | fail⟩
 intro Ci
 try have mE:=dF Ci
 refine aj 1 ?_;intro a H;refine iH oL H (wg H rfl rfl Ci) rfl (H.hp.aC (hga 1 _ rfl)) rfl ?_;clear H;refine aj 2 ?_;intro a H;refine iH oL H (wg H rfl rfl Ci) rfl (H.hp.aC (hge 1 _ rfl)) rfl ?_;clear H;refine iV 4 24 ?_ ?_
 ·intro kT
  try have kN:=dT kT
  refine aJ 22 ?_
  first
  | exact ⟨true,rfl,by rw [← he];exact ⟨fun _=>⟨⟨⟨hst,hls⟩,hcs⟩,hvs⟩,fun _=>rfl⟩⟩
  | exact ⟨false,rfl,by
    simp only [lM,false_iff]
    rintro rfl
    first
     | exact c0 rfl
     | exact c1 rfl
     | (simp at xV;done)
     | (simp at xW;done)
     | (simp at sD;done)
     | omega
     | (simp_all;done)
     | fail⟩
 intro kT
 try have kN:=dF kT
 refine aj 1 ?_;intro a H;refine iH Bw H (wg H rfl rfl kT) rfl (H.hp.aC (hga 2 _ rfl)) rfl ?_;clear H;refine aj 2 ?_;intro a H;refine iH Bw H (wg H rfl rfl kT) rfl (H.hp.aC (hge 2 _ rfl)) rfl ?_;clear H;refine iV 4 33 ?_ ?_
 ·intro E5
  try have p33:=dT E5
  refine aJ 13 ?_
  first
  | exact ⟨true,rfl,by rw [← he];exact ⟨fun _=>⟨⟨⟨hst,hls⟩,hcs⟩,hvs⟩,fun _=>rfl⟩⟩
  | exact ⟨false,rfl,by
    simp only [lM,false_iff]
    rintro rfl
    first
     | exact c0 rfl
     | exact c1 rfl
     | (simp at xV;done)
     | (simp at xW;done)
     | (simp at sD;done)
     | omega
     | (simp_all;done)
     | fail⟩
 intro E5
 try have p33:=dF E5
 refine aj 1 ?_;intro a H;refine iH sS H (wg H rfl rfl E5) rfl (H.hp.aC (hga 3 _ rfl)) rfl ?_;clear H;refine aj 2 ?_;intro a H;refine iH sS H (wg H rfl rfl E5) rfl (H.hp.aC (hge 3 _ rfl)) rfl ?_;clear H;refine goB 4 ?_ ?_
 ·intro p41
  refine aJ 3 ?_
  first
  | exact ⟨true,rfl,by rw [← he];exact ⟨fun _=>⟨⟨⟨hst,hls⟩,hcs⟩,hvs⟩,fun _=>rfl⟩⟩
  | exact ⟨false,rfl,by
    simp only [lM,false_iff]
    rintro rfl
    first
     | exact c0 rfl
     | exact c1 rfl
     | (simp at xV;done)
     | (simp at xW;done)
     | (simp at sD;done)
     | omega
     | (simp_all;done)
     | fail⟩
 intro p41
 refine aj 2 ?_
 have hl1:x.lists.length=y.lists.length:=by omega
 have hl2:x.comments.length=y.comments.length:=by omega
 have hl3:x.vars.length=y.vars.length:=by omega
 have hst:x.styles=y.styles:=JE.1 (by simp_all);refine aj 4 ?_;intro a H;refine dD (ι:=Nat × GH) (Tc:=[(2,_),(3,_)]) (Lc:=[]) (fun gh=>[(5,vi gh.1)]) (fun gh=>[]) (fun gh=>gh.2) (fun gh=>gh.1≤x.lists.length∧x.lists.take gh.1=y.lists.take gh.1∧(∀ b o,oh b=some o→gh.2 b=some o)) (fun gh=>x.lists.length - gh.1) ((0,oh)) sB ?_ ?_
 ·exact ⟨eG _,rfl,fun _ _ h=>h⟩
 clear H;rintro ⟨k,g⟩ a w hI H;dsimp only at hI H;obtain ⟨hk,hsame,hgm⟩:=hI;dsimp only [lca,aQ] at H;refine dG 4 H ?_;clear H;intro a H;refine iH oL H wn rfl (H.hp.aC (aD hgm (hga 1 _ rfl))) rfl ?_;clear H;refine goB 3 ?_ ?_
 ·intro p46
  have hk2:k < x.lists.length:=by omega
  have hk3:k < y.lists.length:=by omega
  obtain ⟨q1,o1,B1,e1,rfl,hi1,hv1,hlv1⟩:=adI (hx2.mono hgm) hk2;obtain ⟨q2,o2,B2,e2,rfl,hi2,hv2,hlv2⟩:=adI (hy2.mono hgm) hk3;obtain ⟨_,u1,-,ace,aoH,-⟩:=hlv1.slice;obtain ⟨_,u2,-,acf,aoI,-⟩:=hlv2.slice
  simp only [bE] at ace acf
  refine aj 5 ?_
  intro a H;by_cases c0:¬ x.lists[k].id=y.lists[k].id
  ·refine dI hmx [[],[0],[],[0,1,2],(ra 0 4),(ra 0 5),[],[6],[],[6,7,8],(ra 6 4),(ra 6 5),(ra 0 12),(ra 0 13),(ra 0 14),(ra 0 15),(ra 0 14),(ra 0 17),(ra 0 18),(ra 0 19),(ra 0 20),(ra 0 14),(ra 0 14++[21]),(ra 0 14),(ra 0 14++[21,22,23]),(ra 0 14++ra 21 4),(ra 0 14++ra 21 5),(ra 0 14++ra 21 6),(ra 0 28),(ra 0 29)] [] (by kernel_rfl) [_,_,_,_,_,_,_,_,_,_,_,_,_,_,undef,undef,undef,undef,undef,undef,undef,undef,undef,undef,undef,undef,undef,undef,undef,_] H (aF (Z0 rfl (Rf vG rfl)) (X1 0 49 rfl fun hG=>Rg oL rfl (aD hG (aD hgm (hga 1 _ rfl)))) (Z0 rfl (Rm rfl)) (Z2 1 50 2 51 rfl (Ri pQ og rfl rfl)) (aF (Z1 3 52 rfl (Rf Dx rfl)) (X1 4 53 rfl fun hG=>Rg bC rfl (aD hG hi1)) (Z0 rfl (Rf vG rfl)) (X1 6 55 rfl fun hG=>Rg oL rfl (aD hG (aD hgm (hge 1 _ rfl)))) (aF (Z0 rfl (Rm rfl)) (Z2 7 56 8 57 rfl (Ri pQ og rfl rfl)) (Z1 9 58 rfl (Rf Dx rfl)) (X1 10 59 rfl fun hG=>Rg bC rfl (aD hG hi2)) (aF (Z2 5 54 11 60 rfl (Rc rfl)) (Z1 12 61 rfl (Rm rfl)) (aO 13 (aG c0) rfl rfl) (aO 13 (aG c0) rfl rfl) (aF (aO 13 (aG c0) rfl rfl) (aO 13 (aG c0) rfl rfl) (aO 13 (aG c0) rfl rfl) (aO 13 (aG c0) rfl rfl) (aF (aO 13 (aG c0) rfl rfl) (aO 13 (aG c0) rfl rfl) (aO 13 (aG c0) rfl rfl) (aO 13 (aG c0) rfl rfl) (aF (aO 13 (aG c0) rfl rfl) (aO 13 (aG c0) rfl rfl) (aO 13 (aG c0) rfl rfl) (aO 13 (aG c0) rfl rfl) (aW (aO 13 (aG c0) rfl rfl) (aW (Z2 13 62 28 77 rfl (Pt (aG c0) rfl)) cZ))))))))) ?_
   clear H;intro a w G iw H hv;have H:=H.aV (hv 29 78 rfl rfl) rfl;clear hv;refine t0 5 H ?_;clear H;refine aJ 0 ?_
   first
   | exact ⟨true,rfl,by rw [← he];exact ⟨fun _=>⟨⟨⟨hst,hls⟩,hcs⟩,hvs⟩,fun _=>rfl⟩⟩
   | exact ⟨false,rfl,by
     simp only [lM,false_iff]
     rintro rfl
     first
      | exact c0 rfl
      | exact c1 rfl
      | (simp at xV;done)
      | (simp at xW;done)
      | (simp at sD;done)
      | omega
      | (simp_all;done)
      | fail⟩
  by_cases c1:¬ (x.lists[k].levels.length:Int)=(y.lists[k].levels.length:Int)
  ·refine dI hmx [[],[0],[],[0,1,2],(ra 0 4),(ra 0 5),[],[6],[],[6,7,8],(ra 6 4),(ra 6 5),(ra 0 12),(ra 0 13),(ra 0 14),(ra 0 15),(ra 0 14),(ra 0 17),(ra 0 18),(ra 0 19),(ra 0 20),(ra 0 14),(ra 0 14++[21]),(ra 0 14),(ra 0 14++[21,22,23]),(ra 0 14++ra 21 4),(ra 0 14++ra 21 5),(ra 0 14++ra 21 6),(ra 0 28),(ra 0 29)] [] (by kernel_rfl) [_,_,_,_,_,_,_,_,_,_,_,_,_,_,_,_,_,_,_,_,_,_,_,_,_,_,_,_,_,_] H (aF (Z0 rfl (Rf vG rfl)) (X1 0 49 rfl fun hG=>Rg oL rfl (aD hG (aD hgm (hga 1 _ rfl)))) (Z0 rfl (Rm rfl)) (Z2 1 50 2 51 rfl (Ri pQ og rfl rfl)) (aF (Z1 3 52 rfl (Rf Dx rfl)) (X1 4 53 rfl fun hG=>Rg bC rfl (aD hG hi1)) (Z0 rfl (Rf vG rfl)) (X1 6 55 rfl fun hG=>Rg oL rfl (aD hG (aD hgm (hge 1 _ rfl)))) (aF (Z0 rfl (Rm rfl)) (Z2 7 56 8 57 rfl (Ri pQ og rfl rfl)) (Z1 9 58 rfl (Rf Dx rfl)) (X1 10 59 rfl fun hG=>Rg bC rfl (aD hG hi2)) (aF (Z2 5 54 11 60 rfl (Rc rfl)) (Z1 12 61 rfl (Rm rfl)) (Z1 13 62 rfl (YF vG (aN c0) rfl)) (X2 14 63 13 62 rfl fun hG=>YR oL (aN c0) rfl (aD hG (aD hgm (hga 1 _ rfl)))) (aF (Z1 13 62 rfl (YM (aN c0) rfl)) (Z3 15 64 16 65 13 62 rfl (YI pQ og (aN c0) rfl rfl)) (Z2 17 66 13 62 rfl (YF Dy (aN c0) rfl)) (X2 18 67 13 62 rfl fun hG=>YR CY (aN c0) rfl (aD hG hv1)) (aF (Z2 19 68 13 62 rfl (YL BA (aN c0) rfl)) (Z1 13 62 rfl (YF vG (aN c0) rfl)) (X2 21 70 13 62 rfl fun hG=>YR oL (aN c0) rfl (aD hG (aD hgm (hge 1 _ rfl)))) (Z1 13 62 rfl (YM (aN c0) rfl)) (aF (Z3 22 71 23 72 13 62 rfl (YI pQ og (aN c0) rfl rfl)) (Z2 24 73 13 62 rfl (YF Dy (aN c0) rfl)) (X2 25 74 13 62 rfl fun hG=>YR CY (aN c0) rfl (aD hG hv2)) (Z2 26 75 13 62 rfl (YL BA (aN c0) rfl)) (aW (Z3 20 69 27 76 13 62 rfl (YC (aN c0) rfl)) (aW (Z2 13 62 28 77 rfl (Pf (aN c0) rfl)) cZ))))))))) ?_
   clear H;intro a w G iw H hv;have H:=H.aV (hv 29 78 rfl rfl) rfl;clear hv;refine t0 5 H ?_;clear H;refine aJ 0 ?_
   first
   | exact ⟨true,rfl,by rw [← he];exact ⟨fun _=>⟨⟨⟨hst,hls⟩,hcs⟩,hvs⟩,fun _=>rfl⟩⟩
   | exact ⟨false,rfl,by
     simp only [lM,false_iff]
     rintro rfl
     first
      | exact c0 rfl
      | exact c1 rfl
      | (simp at xV;done)
      | (simp at xW;done)
      | (simp at sD;done)
      | omega
      | (simp_all;done)
      | fail⟩
  refine dI hmx [[],[0],[],[0,1,2],(ra 0 4),(ra 0 5),[],[6],[],[6,7,8],(ra 6 4),(ra 6 5),(ra 0 12),(ra 0 13),(ra 0 14),(ra 0 15),(ra 0 14),(ra 0 17),(ra 0 18),(ra 0 19),(ra 0 20),(ra 0 14),(ra 0 14++[21]),(ra 0 14),(ra 0 14++[21,22,23]),(ra 0 14++ra 21 4),(ra 0 14++ra 21 5),(ra 0 14++ra 21 6),(ra 0 28),(ra 0 29)] [] (by kernel_rfl) [_,_,_,_,_,_,_,_,_,_,_,_,_,_,_,_,_,_,_,_,_,_,_,_,_,_,_,_,_,_] H (aF (Z0 rfl (Rf vG rfl)) (X1 0 49 rfl fun hG=>Rg oL rfl (aD hG (aD hgm (hga 1 _ rfl)))) (Z0 rfl (Rm rfl)) (Z2 1 50 2 51 rfl (Ri pQ og rfl rfl)) (aF (Z1 3 52 rfl (Rf Dx rfl)) (X1 4 53 rfl fun hG=>Rg bC rfl (aD hG hi1)) (Z0 rfl (Rf vG rfl)) (X1 6 55 rfl fun hG=>Rg oL rfl (aD hG (aD hgm (hge 1 _ rfl)))) (aF (Z0 rfl (Rm rfl)) (Z2 7 56 8 57 rfl (Ri pQ og rfl rfl)) (Z1 9 58 rfl (Rf Dx rfl)) (X1 10 59 rfl fun hG=>Rg bC rfl (aD hG hi2)) (aF (Z2 5 54 11 60 rfl (Rc rfl)) (Z1 12 61 rfl (Rm rfl)) (Z1 13 62 rfl (YF vG (aN c0) rfl)) (X2 14 63 13 62 rfl fun hG=>YR oL (aN c0) rfl (aD hG (aD hgm (hga 1 _ rfl)))) (aF (Z1 13 62 rfl (YM (aN c0) rfl)) (Z3 15 64 16 65 13 62 rfl (YI pQ og (aN c0) rfl rfl)) (Z2 17 66 13 62 rfl (YF Dy (aN c0) rfl)) (X2 18 67 13 62 rfl fun hG=>YR CY (aN c0) rfl (aD hG hv1)) (aF (Z2 19 68 13 62 rfl (YL BA (aN c0) rfl)) (Z1 13 62 rfl (YF vG (aN c0) rfl)) (X2 21 70 13 62 rfl fun hG=>YR oL (aN c0) rfl (aD hG (aD hgm (hge 1 _ rfl)))) (Z1 13 62 rfl (YM (aN c0) rfl)) (aF (Z3 22 71 23 72 13 62 rfl (YI pQ og (aN c0) rfl rfl)) (Z2 24 73 13 62 rfl (YF Dy (aN c0) rfl)) (X2 25 74 13 62 rfl fun hG=>YR CY (aN c0) rfl (aD hG hv2)) (Z2 26 75 13 62 rfl (YL BA (aN c0) rfl)) (aW (Z3 20 69 27 76 13 62 rfl (YC (aN c0) rfl)) (aW (Z2 13 62 28 77 rfl (Pf (aN c0) rfl)) cZ))))))))) ?_
  clear H;intro a w G iw H hv;have H:=H.aV (hv 29 78 rfl rfl) rfl;clear hv;refine t0 7 H ?_;clear H;intro a H;refine dD (ι:=Nat × GH) (Tc:=[(2,_),(3,_),(5,_)]) (Lc:=[]) (fun gh=>[(6,vi gh.1)]) (fun gh=>[]) (fun gh=>gh.2) (fun gh=>gh.1≤x.lists[k].levels.length∧x.lists[k].levels.take gh.1=y.lists[k].levels.take gh.1∧(∀ b o,G b=some o→gh.2 b=some o)) (fun gh=>x.lists[k].levels.length - gh.1) ((0,G)) sB ?_ ?_
  ·exact ⟨eG _,rfl,fun _ _ h=>h⟩
  clear H;rintro ⟨j,g2⟩ a w hI H;dsimp only at hI H;obtain ⟨hj,hsl,uL⟩:=hI;dsimp only [lca,aQ] at H;refine dG 4 H ?_;clear H;intro a H;refine iH oL H wn rfl (H.hp.aC (aD uL (aD iw (aD hgm (hga 1 _ rfl))))) rfl ?_;clear H;refine aj 3 ?_;intro a H;refine iH CY H wn rfl (H.hp.aC (aD uL (aD iw hv1))) rfl ?_;clear H;refine goB 3 ?_ ?_
  ·intro Nt
   have hj2:j < x.lists[k].levels.length:=by omega
   have hj3:j < y.lists[k].levels.length:=by omega
   obtain ⟨s1,t1,rfl,hw1⟩:=adP ((hlv1.mono iw).mono uL) hj2;obtain ⟨s2,t2,rfl,hw2⟩:=adP ((hlv2.mono iw).mono uL) hj3;have hmm:=fun b o h=>uL b o (iw b o (hgm b o h));have apO:=aD uL (aD iw hv1);have apP:=aD uL (aD iw hv2);refine aj 4 ?_;intro a H;refine dI hmx [[],[0],[],[0,1,2],(ra 0 4),(ra 0 5),[],(ra 0 7),(ra 0 8),[],[9],[],[9,10,11],(ra 9 4),(ra 9 5),[],(ra 9 7),(ra 9 8),(ra 0 18)] [] (by kernel_rfl) [_,_,_,_,_,_,_,_,.agg (iZ.cells x.lists[k].levels[j]).toArray,_,_,_,_,_,_,_,_,.agg (iZ.cells y.lists[k].levels[j]).toArray,.bool (!decide (x.lists[k].levels[j]=y.lists[k].levels[j]))] H (aF (Z0 rfl (Rf vG rfl)) (X1 0 90 rfl fun hG=>Rg oL rfl (aD hG (aD hmm (hga 1 _ rfl)))) (Z0 rfl (Rm rfl)) (Z2 1 91 2 92 rfl (Ri pQ og rfl rfl)) (aF (Z1 3 93 rfl (Rf Dy rfl)) (X1 4 94 rfl fun hG=>Rg CY rfl (aD hG apO)) (Z0 rfl (Rm rfl)) (Z2 5 95 6 96 rfl (Ri BA CZ rfl rfl)) (aF ?_ (Z0 rfl (Rf vG rfl)) (X1 9 99 rfl fun hG=>Rg oL rfl (aD hG (aD hmm (hge 1 _ rfl)))) (Z0 rfl (Rm rfl)) (aF (Z2 10 100 11 101 rfl (Ri pQ og rfl rfl)) (Z1 12 102 rfl (Rf Dy rfl)) (X1 13 103 rfl fun hG=>Rg CY rfl (aD hG apP)) (Z0 rfl (Rm rfl)) (aW (Z2 14 104 15 105 rfl (Ri BA CZ rfl rfl)) (aW ?_ (aW ?_ cZ))))))) ?_
   ·refine dM 7 97 rfl rfl fun _ a w G1 hG HT H fin=>?_;refine aT CZ (cs:=iZ.cells x.lists[k].levels[j]) H wn rfl rfl (fun i v hi=>H.hp.aC (aD hG (hw1 i v hi))) rfl ?_;clear H;intro a H;exact fin H iJ rfl
   ·refine dM 16 106 rfl rfl fun _ a w G1 hG HT H fin=>?_;refine aT CZ (cs:=iZ.cells y.lists[k].levels[j]) H wn rfl rfl (fun i v hi=>H.hp.aC (aD hG (hw2 i v hi))) rfl ?_;clear H;intro a H;exact fin H iJ rfl
   ·refine dP 8 98 17 107 rfl rfl fun _ a w G1 hG HT H fin=>?_;refine RG alM H wn rfl rfl rfl rfl ?_;clear H;intro a H;exact fin H iJ (aB (fun b=>Value.bool !b) (atP _ _))
   clear H;intro a w G lH H hv;have H:=H.aV (hv 18 108 rfl rfl) rfl;clear hv;refine t0 1 H ?_;clear H;refine goC 0 ?_ ?_
   ·intro xV
    try have arZ:=dT xV
    refine aJ 3 ?_
    first
    | exact ⟨true,rfl,by rw [← he];exact ⟨fun _=>⟨⟨⟨hst,hls⟩,hcs⟩,hvs⟩,fun _=>rfl⟩⟩
    | exact ⟨false,rfl,by
      simp only [lM,false_iff]
      rintro rfl
      first
       | exact c0 rfl
       | exact c1 rfl
       | (simp at xV;done)
       | (simp at xW;done)
       | (simp at sD;done)
       | omega
       | (simp_all;done)
       | fail⟩
   intro xV
   try have arZ:=dF xV
   refine aj 5 ?_;intro a H;refine aI ?_;refine bR ((j+1,_)) sB ?_ ?_
   ·(try dsimp only);exact ⟨by omega,NK hj2 hj3 hsl (by simpa using xV),fun b o h=>lH b o (uL b o h)⟩
   first|omega|(dsimp only;omega)
  intro Nt
  obtain rfl:j=x.lists[k].levels.length:=by omega
  refine aj 5 ?_;intro a H;refine aI ?_;refine bR ((k+1,_)) sB ?_ ?_
  ·(try dsimp only);exact ⟨by omega,NK hk2 hk3 hsame (by rw [← dz.eq_iff];exact ⟨fD.1 c0,NJ (by omega) hsl⟩),fun b o h=>uL b o (iw b o (hgm b o h))⟩
  first|omega|(dsimp only;omega)
 intro p46
 obtain rfl:k=x.lists.length:=by omega
 have hls:=NJ hl1 hsame;replace hga:=fun j v hj=>aD hgm (hga j v hj);replace hge:=fun j v hj=>aD hgm (hge j v hj);replace hx3:=hx3.mono hgm;replace hx4:=hx4.mono hgm;replace hy3:=hy3.mono hgm;replace hy4:=hy4.mono hgm;refine aj 6 ?_;intro a H;refine dD (ι:=Nat × GH) (Tc:=[(2,_),(3,_)]) (Lc:=[]) (fun gh=>[(7,vi gh.1)]) (fun gh=>[]) (fun gh=>gh.2) (fun gh=>gh.1≤x.comments.length∧x.comments.take gh.1=y.comments.take gh.1∧(∀ b o,g b=some o→gh.2 b=some o)) (fun gh=>x.comments.length - gh.1) ((0,g)) sB ?_ ?_
 ·exact ⟨eG _,rfl,fun _ _ h=>h⟩
 clear H;rintro ⟨k3,g3⟩ a w hI H;dsimp only at hI H;obtain ⟨awP,acU,Co⟩:=hI;dsimp only [lca,aQ] at H;refine dG 4 H ?_;clear H;intro a H;refine iH Bw H wn rfl (H.hp.aC (aD Co (hga 2 _ rfl))) rfl ?_;clear H;refine goB 3 ?_ ?_
 ·intro CG
  have hk2:k3 < x.comments.length:=by omega
  have hk3:k3 < y.comments.length:=by omega
  obtain ⟨s1,t1,rfl,hw1⟩:=ZT (hx3.mono Co) hk2;obtain ⟨s2,t2,rfl,hw2⟩:=ZT (hy3.mono Co) hk3;refine aj 4 ?_;intro a H;refine dI hmx [[],[0],[],[0,1,2],(ra 0 4),[],[5],[],[5,6,7],(ra 5 4),(ra 0 10)] [] (by kernel_rfl) [_,_,_,_,.agg (eY.cells x.comments[k3]).toArray,_,_,_,_,.agg (eY.cells y.comments[k3]).toArray,.bool (!decide (x.comments[k3]=y.comments[k3]))] H (aF (Z0 rfl (Rf Mc rfl)) (X1 0 116 rfl fun hG=>Rg Bw rfl (aD hG (aD Co (hga 2 _ rfl)))) (Z0 rfl (Rm rfl)) (Z2 1 117 2 118 rfl (Ri Ai uV rfl rfl)) (aF ?_ (Z0 rfl (Rf Mc rfl)) (X1 5 121 rfl fun hG=>Rg Bw rfl (aD hG (aD Co (hge 2 _ rfl)))) (Z0 rfl (Rm rfl)) (aW (Z2 6 122 7 123 rfl (Ri Ai uV rfl rfl)) (aW ?_ (aW ?_ cZ))))) ?_
  ·refine dM 3 119 rfl rfl fun _ a w G1 hG HT H fin=>?_;refine aT uV (cs:=eY.cells x.comments[k3]) H wn rfl rfl (fun i v hi=>H.hp.aC (aD hG (hw1 i v hi))) rfl ?_;clear H;intro a H;exact fin H iJ rfl
  ·refine dM 8 124 rfl rfl fun _ a w G1 hG HT H fin=>?_;refine aT uV (cs:=eY.cells y.comments[k3]) H wn rfl rfl (fun i v hi=>H.hp.aC (aD hG (hw2 i v hi))) rfl ?_;clear H;intro a H;exact fin H iJ rfl
  ·refine dP 4 120 9 125 rfl rfl fun _ a w G1 hG HT H fin=>?_;refine RG alL H wn rfl rfl rfl rfl ?_;clear H;intro a H;exact fin H iJ (aB (fun b=>Value.bool !b) (atO _ _))
  clear H;intro a w G amX H hv;have H:=H.aV (hv 10 126 rfl rfl) rfl;clear hv;refine t0 1 H ?_;clear H;refine goC 0 ?_ ?_
  ·intro xW
   try have asb:=dT xW
   refine aJ 3 ?_
   first
   | exact ⟨true,rfl,by rw [← he];exact ⟨fun _=>⟨⟨⟨hst,hls⟩,hcs⟩,hvs⟩,fun _=>rfl⟩⟩
   | exact ⟨false,rfl,by
     simp only [lM,false_iff]
     rintro rfl
     first
      | exact c0 rfl
      | exact c1 rfl
      | (simp at xV;done)
      | (simp at xW;done)
      | (simp at sD;done)
      | omega
      | (simp_all;done)
      | fail⟩
  intro xW
  try have asb:=dF xW
  refine aj 5 ?_;intro a H;refine aI ?_;refine bR ((k3+1,_)) sB ?_ ?_
  ·(try dsimp only);exact ⟨by omega,NK hk2 hk3 acU (by simpa using xW),fun b o h=>amX b o (Co b o h)⟩
  first|omega|(dsimp only;omega)
 intro CG
 obtain rfl:k3=x.comments.length:=by omega
 have hcs:=NJ hl2 acU;replace hga:=fun j v hj=>aD Co (hga j v hj);replace hge:=fun j v hj=>aD Co (hge j v hj);replace hx4:=hx4.mono Co;replace hy4:=hy4.mono Co;refine aj 6 ?_;intro a H;refine dD (ι:=Nat × GH) (Tc:=[(2,_),(3,_)]) (Lc:=[]) (fun gh=>[(8,vi gh.1)]) (fun gh=>[]) (fun gh=>gh.2) (fun gh=>gh.1≤x.vars.length∧x.vars.take gh.1=y.vars.take gh.1∧(∀ b o,g3 b=some o→gh.2 b=some o)) (fun gh=>x.vars.length - gh.1) ((0,g3)) sB ?_ ?_
 ·exact ⟨eG _,rfl,fun _ _ h=>h⟩
 clear H;rintro ⟨k4,g4⟩ a w hI H;dsimp only at hI H;obtain ⟨awQ,acV,Cq⟩:=hI;dsimp only [lca,aQ] at H;refine dG 4 H ?_;clear H;intro a H;refine iH sS H wn rfl (H.hp.aC (aD Cq (hga 3 _ rfl))) rfl ?_;clear H;refine goB 3 ?_ ?_
 ·intro asc
  have hk2:k4 < x.vars.length:=by omega
  have hk3:k4 < y.vars.length:=by omega
  obtain ⟨s1,t1,rfl,hw1⟩:=afX (hx4.mono Cq) hk2;obtain ⟨s2,t2,rfl,hw2⟩:=afX (hy4.mono Cq) hk3;refine aj 4 ?_;intro a H;refine dI hmx [[],[0],[],[0,1,2],(ra 0 4),[],[5],[],[5,6,7],(ra 5 4),(ra 0 10)] [] (by kernel_rfl) [_,_,_,_,.agg (iP.cells x.vars[k4]).toArray,_,_,_,_,.agg (iP.cells y.vars[k4]).toArray,.bool (!decide (x.vars[k4]=y.vars[k4]))] H (aF (Z0 rfl (Rf Md rfl)) (X1 0 134 rfl fun hG=>Rg sS rfl (aD hG (aD Cq (hga 3 _ rfl)))) (Z0 rfl (Rm rfl)) (Z2 1 135 2 136 rfl (Ri sU rP rfl rfl)) (aF ?_ (Z0 rfl (Rf Md rfl)) (X1 5 139 rfl fun hG=>Rg sS rfl (aD hG (aD Cq (hge 3 _ rfl)))) (Z0 rfl (Rm rfl)) (aW (Z2 6 140 7 141 rfl (Ri sU rP rfl rfl)) (aW ?_ (aW ?_ cZ))))) ?_
  ·refine dM 3 137 rfl rfl fun _ a w G1 hG HT H fin=>?_;refine aT rP (cs:=iP.cells x.vars[k4]) H wn rfl rfl (fun i v hi=>H.hp.aC (aD hG (hw1 i v hi))) rfl ?_;clear H;intro a H;exact fin H iJ rfl
  ·refine dM 8 142 rfl rfl fun _ a w G1 hG HT H fin=>?_;refine aT rP (cs:=iP.cells y.vars[k4]) H wn rfl rfl (fun i v hi=>H.hp.aC (aD hG (hw2 i v hi))) rfl ?_;clear H;intro a H;exact fin H iJ rfl
  ·refine dP 4 138 9 143 rfl rfl fun _ a w G1 hG HT H fin=>?_;refine RG alO H wn rfl rfl rfl rfl ?_;clear H;intro a H;exact fin H iJ (aB (fun b=>Value.bool !b) (atS _ _))
  clear H;intro a w G Ck H hv;have H:=H.aV (hv 10 144 rfl rfl) rfl;clear hv;refine t0 1 H ?_;clear H;refine goC 0 ?_ ?_
  ·intro sD
   try have Nr:=dT sD
   refine aJ 3 ?_
   first
   | exact ⟨true,rfl,by rw [← he];exact ⟨fun _=>⟨⟨⟨hst,hls⟩,hcs⟩,hvs⟩,fun _=>rfl⟩⟩
   | exact ⟨false,rfl,by
     simp only [lM,false_iff]
     rintro rfl
     first
      | exact c0 rfl
      | exact c1 rfl
      | (simp at xV;done)
      | (simp at xW;done)
      | (simp at sD;done)
      | omega
      | (simp_all;done)
      | fail⟩
  intro sD
  try have Nr:=dF sD
  refine aj 5 ?_;intro a H;refine aI ?_;refine bR ((k4+1,_)) sB ?_ ?_
  ·(try dsimp only);exact ⟨by omega,NK hk2 hk3 acV (by simpa using sD),fun b o h=>Ck b o (Cq b o h)⟩
  first|omega|(dsimp only;omega)
 intro asc
 obtain rfl:k4=x.vars.length:=by omega
 have hvs:=NJ hl3 acV;replace hga:=fun j v hj=>aD Cq (hga j v hj);replace hge:=fun j v hj=>aD Cq (hge j v hj);replace hx4:=hx4.mono Cq;replace hy4:=hy4.mono Cq;refine aJ 4 ?_
 first
 | exact ⟨true,rfl,by rw [← he];exact ⟨fun _=>⟨⟨⟨hst,hls⟩,hcs⟩,hvs⟩,fun _=>rfl⟩⟩
 | exact ⟨false,rfl,by
   simp only [lM,false_iff]
   rintro rfl
   first
    | exact c0 rfl
    | exact c1 rfl
    | (simp at xV;done)
    | (simp at xW;done)
    | (simp at sD;done)
    | omega
    | (simp_all;done)
    | fail⟩
end
section
open Go.RowKit
theorem ali:∀ args w,(callFunc 70 args).run prog w=.ok (.enter 70 args) w:=enters func70 rfl (by kernel_rfl)
theorem adR (G:GH) (w0:World) (hG:Hold G w0) (D E:gM) (x y:iW) (hD:mJ G D x) (hE:mJ G E y) (hz:aX x.flow≤4294967296) :
  Calls prog 25 #[D.val,E.val] w0 (bB w0 G fun u G'=>∃ b,u=.bool b∧(b=true↔x=y)):=by
 have hml:maxLen=9223372036854775807:=rfl
 have he:(((x.flow=y.flow∧x.fin=y.fin)∧x.revs=y.revs)∧x.iD=y.iD)↔x=y:=by cases x;cases y;simp [and_assoc]
 obtain ⟨⟨rA,rn,rc⟩,hr1⟩:∃ q,D.r=q:=⟨_,rfl⟩;obtain ⟨⟨sA,sn,sc⟩,hr2⟩:∃ q,E.r=q:=⟨_,rfl⟩;have hv1:=hD.rv;have hv2:=hE.rv;rw [hr1] at hv1;rw [hr2] at hv2;obtain rfl:=hv1.len;obtain rfl:=hv2.len;obtain ⟨_,u1,hu1,ace,aoH,-⟩:=hv1.slice;obtain ⟨_,u2,hu2,acf,aoI,-⟩:=hv2.slice
 simp only [bE] at *
 refine eN [(0,_),(1,_)] func25 rfl ntmps25 rfl rfl hG ?_;refine aj 1 ?_;intro a H;refine dN (cs:=[_,_,_,_,_,_,_,_,_,_,_]) H wn rfl rfl rfl ?_;clear H;intro b2 a w hb2 H;refine dN (cs:=[_,_,_,_,_,_,_,_,_,_,_]) H wn rfl rfl rfl ?_;clear H;intro b3 a w hb3 H;refine aH 3 H ?_;clear H;intro a H;obtain ⟨Ga0,uM,uJ,HQ⟩:=H.dS;clear H;obtain ⟨Ga,qF,hb2',H⟩:=HQ.dS;clear HQ;have hga:=fun j v hj=>nE hb2' 0 D.cells rfl j v hj;have hge:∀ j v,E.cells[j]?=some v→aC Ga b3 (0+j)=some v:=fun j v hj=>aD qF (nE uJ 0 E.cells rfl j v hj)
 have hgd:∀ j v,[aM D.p,vi x.fin.marks.ins,vi x.fin.marks.move,aM D.d,aM D.y][j]?=some v→aC Ga b2 (1+j)=some v:=fun j v hj=>by rw [← hD.ins,← hD.mv] at hj;exact nE hb2' 1 [aM D.p,vi D.ins,vi D.move,aM D.d,aM D.y] rfl j v hj
 have hgf:∀ j v,[aM E.p,vi y.fin.marks.ins,vi y.fin.marks.move,aM E.d,aM E.y][j]?=some v→aC Ga b3 (1+j)=some v:=fun j v hj=>by rw [← hE.ins,← hE.mv] at hj;exact aD qF (nE uJ 1 [aM E.p,vi E.ins,vi E.move,aM E.d,aM E.y] rfl j v hj)
 have hgs:∀ j v,[aM D.s1,aM D.s2,aM D.s3,aM D.s4][j]?=some v→aC Ga b2 (7+j)=some v:=fun j v hj=>nE hb2' 7 [aM D.s1,aM D.s2,aM D.s3,aM D.s4] rfl j v hj;have hgt:∀ j v,[aM E.s1,aM E.s2,aM E.s3,aM E.s4][j]?=some v→aC Ga b3 (7+j)=some v:=fun j v hj=>aD qF (nE uJ 7 [aM E.s1,aM E.s2,aM E.s3,aM E.s4] rfl j v hj);have hx1:=(hD.fl.mono uM).mono qF;have hy1:=(hE.fl.mono uM).mono qF;have hx2:=(hD.hd.mono uM).mono qF;have hy2:=(hE.hd.mono uM).mono qF;have hx3:=(hv1.mono uM).mono qF;have hy3:=(hv2.mono uM).mono qF;have hx4:=(hD.st.mono uM).mono qF;have hy4:=(hE.st.mono uM).mono qF
 have hgr:aC Ga b2 6=some (.slice rA x.revs.length rc):=by have:=hga 6 _ rfl;rw [hr1] at this;exact this
 have Qd:aC Ga b3 6=some (.slice sA y.revs.length sc):=by have:=hge 6 _ rfl;rw [hr2] at this;exact this
 clear hD hE hv1 hv2;refine dG 2 H ?_;clear H;intro a H;refine iH zB H wn rfl (H.hp.aC (hga 0 _ rfl)) rfl ?_;clear H;refine aj 1 ?_;intro a H;refine iH zB H wn rfl (H.hp.aC (hge 0 _ rfl)) rfl ?_;clear H;intro a H;refine s_call Ud H wn rfl (alS _ _ H.ro x.flow y.flow _ _ hx1 hy1 (by omega)) rfl ?_;clear H;rintro v10 Ak a w ⟨b10,rfl,E9⟩ oF H;refine jA 2 12 H ?_ ?_ <;> clear H
 ·intro h12
  try have lu:=dT h12
  refine aJ 29 ?_
  first
  | exact ⟨true,rfl,by rw [← he];exact ⟨fun _=>⟨⟨⟨JL,JN⟩,hls⟩,hss⟩,fun _=>rfl⟩⟩
  | exact ⟨false,rfl,by
    simp only [lM,false_iff]
    rintro rfl
    first
     | (simp at qz;done)
     | (simp_all;done)
     | fail⟩
 intro h12
 try have lu:=dF h12
 refine aj 1 ?_;intro a H;refine aT gG (cs:=[aM D.p,vi x.fin.marks.ins,vi x.fin.marks.move,aM D.d,aM D.y]) H (wg H rfl rfl h12) rfl rfl (fun j v hj=>H.hp.aC (aD oF (hgd j v hj))) rfl ?_;clear H;refine aj 1 ?_;intro a H;refine aT gG (cs:=[aM E.p,vi y.fin.marks.ins,vi y.fin.marks.move,aM E.d,aM E.y]) H (wg H rfl rfl h12) rfl rfl (fun j v hj=>H.hp.aC (aD oF (hgf j v hj))) rfl ?_;clear H;intro a H;refine s_call Jt H (wg H rfl rfl h12) rfl (Jv _ _ H.ro x.fin y.fin _ _ _ _ _ _ (hx2.mono oF) (hy2.mono oF)) rfl ?_;clear H;rintro v17 Al a w rfl nJ H;refine jA 3 20 H ?_ ?_ <;> clear H
 ·intro h20
  try have pJ:=dT h20
  refine aJ 21 ?_
  first
  | exact ⟨true,rfl,by rw [← he];exact ⟨fun _=>⟨⟨⟨JL,JN⟩,hls⟩,hss⟩,fun _=>rfl⟩⟩
  | exact ⟨false,rfl,by
    simp only [lM,false_iff]
    rintro rfl
    first
     | (simp at qz;done)
     | (simp_all;done)
     | fail⟩
 intro h20
 try have pJ:=dF h20
 refine aj 1 ?_;intro a H;refine iH uW H (wg H rfl rfl h20) rfl (H.hp.aC (aD nJ (aD oF hgr))) rfl ?_;clear H;refine aj 2 ?_;intro a H;refine iH uW H (wg H rfl rfl h20) rfl (H.hp.aC (aD nJ (aD oF Qd))) rfl ?_;clear H;refine iV 4 29 ?_ ?_
 ·intro zT
  try have p29:=dT zT
  refine aJ 12 ?_
  first
  | exact ⟨true,rfl,by rw [← he];exact ⟨fun _=>⟨⟨⟨JL,JN⟩,hls⟩,hss⟩,fun _=>rfl⟩⟩
  | exact ⟨false,rfl,by
    simp only [lM,false_iff]
    rintro rfl
    first
     | (simp at qz;done)
     | (simp_all;done)
     | fail⟩
 intro zT
 try have p29:=dF zT
 refine aj 1 ?_;intro a H;refine aT Ag (cs:=[aM D.s1,aM D.s2,aM D.s3,aM D.s4]) H (wg H rfl rfl zT) rfl rfl (fun j v hj=>H.hp.aC (aD nJ (aD oF (hgs j v hj)))) rfl ?_;clear H;refine aj 1 ?_;intro a H;refine aT Ag (cs:=[aM E.s1,aM E.s2,aM E.s3,aM E.s4]) H (wg H rfl rfl zT) rfl rfl (fun j v hj=>H.hp.aC (aD nJ (aD oF (hgt j v hj)))) rfl ?_;clear H;intro a H;refine s_call ali H (wg H rfl rfl zT) rfl (alG _ _ H.ro x.iD y.iD _ _ _ _ _ _ _ _ ((hx4.mono oF).mono nJ) ((hy4.mono oF).mono nJ)) rfl ?_;clear H;rintro v34 KL a w ⟨b34,rfl,anQ⟩ Qg H;refine eO 3 H ?_ ?_ <;> clear H
 ·intro p36
  refine aJ 3 ?_
  first
  | exact ⟨true,rfl,by rw [← he];exact ⟨fun _=>⟨⟨⟨JL,JN⟩,hls⟩,hss⟩,fun _=>rfl⟩⟩
  | exact ⟨false,rfl,by
    simp only [lM,false_iff]
    rintro rfl
    first
     | (simp at qz;done)
     | (simp_all;done)
     | fail⟩
 intro p36
 refine aj 2 ?_
 have hl1:x.revs.length=y.revs.length:=by omega
 have hss:x.iD=y.iD:=anQ.1 (by simp_all);have JL:x.flow=y.flow:=E9.1 (by simp_all)
 have JN:x.fin=y.fin:=by simp_all
 have hmm:=fun b o h=>Qg b o (nJ b o (oF b o h));replace hgr:=aD hmm hgr;replace Qd:=aD hmm Qd;replace hx3:=hx3.mono hmm;replace hy3:=hy3.mono hmm;refine aj 4 ?_;intro a H;refine dD (ι:=Nat × GH) (Tc:=[(2,_),(3,_)]) (Lc:=[]) (fun gh=>[(5,vi gh.1)]) (fun gh=>[]) (fun gh=>gh.2) (fun gh=>gh.1≤x.revs.length∧x.revs.take gh.1=y.revs.take gh.1∧(∀ b o,KL b=some o→gh.2 b=some o)) (fun gh=>x.revs.length - gh.1) ((0,KL)) sB ?_ ?_
 ·exact ⟨eG _,rfl,fun _ _ h=>h⟩
 clear H;rintro ⟨k,g⟩ a w hI H;dsimp only at hI H;obtain ⟨hk,hs,zU⟩:=hI;dsimp only [lca,aQ] at H;refine dG 4 H ?_;clear H;intro a H;refine iH uW H wn rfl (H.hp.aC (aD zU hgr)) rfl ?_;clear H;refine goB 3 ?_ ?_
 ·intro p41
  have hk2:k < x.revs.length:=by omega
  have hk3:k < y.revs.length:=by omega
  obtain ⟨s1,t1,rfl,hw1⟩:=aeW (hx3.mono zU) hk2;obtain ⟨s2,t2,rfl,hw2⟩:=aeW (hy3.mono zU) hk3;refine aj 4 ?_;intro a H;refine dI hmx [[],[0],[],[0,1,2],(ra 0 4),[],[5],[],[5,6,7],(ra 5 4),(ra 0 10)] [] (by kernel_rfl) [_,_,_,_,.agg (bD.cells x.revs[k]).toArray,_,_,_,_,.agg (bD.cells y.revs[k]).toArray,.bool (!decide (x.revs[k]=y.revs[k]))] H (aF (Z0 rfl (Rf O6 rfl)) (X1 0 44 rfl fun hG=>Rg uW rfl (aD hG (aD zU hgr))) (Z0 rfl (Rm rfl)) (Z2 1 45 2 46 rfl (Ri uX mF rfl rfl)) (aF ?_ (Z0 rfl (Rf O6 rfl)) (X1 5 49 rfl fun hG=>Rg uW rfl (aD hG (aD zU Qd))) (Z0 rfl (Rm rfl)) (aW (Z2 6 50 7 51 rfl (Ri uX mF rfl rfl)) (aW ?_ (aW ?_ cZ))))) ?_
  ·refine dM 3 47 rfl rfl fun _ a w G1 hG HT H fin=>?_;refine aT mF (cs:=bD.cells x.revs[k]) H wn rfl rfl (fun i v hi=>H.hp.aC (aD hG (hw1 i v hi))) rfl ?_;clear H;intro a H;exact fin H iJ rfl
  ·refine dM 8 52 rfl rfl fun _ a w G1 hG HT H fin=>?_;refine aT mF (cs:=bD.cells y.revs[k]) H wn rfl rfl (fun i v hi=>H.hp.aC (aD hG (hw2 i v hi))) rfl ?_;clear H;intro a H;exact fin H iJ rfl
  ·refine dP 4 48 9 53 rfl rfl fun _ a w G1 hG HT H fin=>?_;refine RG alN H wn rfl rfl rfl rfl ?_;clear H;intro a H;exact fin H iJ (aB (fun b=>Value.bool !b) (atQ _ _))
  clear H;intro a w G iw H hv;have H:=H.aV (hv 10 54 rfl rfl) rfl;clear hv;refine t0 1 H ?_;clear H;refine goC 0 ?_ ?_
  ·intro qz
   try have p54:=dT qz
   refine aJ 3 ?_
   first
   | exact ⟨true,rfl,by rw [← he];exact ⟨fun _=>⟨⟨⟨JL,JN⟩,hls⟩,hss⟩,fun _=>rfl⟩⟩
   | exact ⟨false,rfl,by
     simp only [lM,false_iff]
     rintro rfl
     first
      | (simp at qz;done)
      | (simp_all;done)
      | fail⟩
  intro qz
  try have p54:=dF qz
  refine aj 5 ?_;intro a H;refine aI ?_;refine bR ((k+1,_)) sB ?_ ?_
  ·(try dsimp only);exact ⟨by omega,NK hk2 hk3 hs (by simpa using qz),fun b o h=>iw b o (zU b o h)⟩
  first|omega|(dsimp only;omega)
 intro p41
 obtain rfl:k=x.revs.length:=by omega
 have hls:=NJ hl1 hs;refine aJ 4 ?_
 first
 | exact ⟨true,rfl,by rw [← he];exact ⟨fun _=>⟨⟨⟨JL,JN⟩,hls⟩,hss⟩,fun _=>rfl⟩⟩
 | exact ⟨false,rfl,by
   simp only [lM,false_iff]
   rintro rfl
   first
    | (simp at qz;done)
    | (simp_all;done)
    | fail⟩
end
section
open Go.RowKit
theorem Uh:∀ args w,(callFunc 8 args).run prog w=.ok (.enter 8 args) w:=enters func8 rfl (by kernel_rfl)
theorem als:∀ args w,(callFunc 9 args).run prog w=.ok (.enter 9 args) w:=enters func9 rfl (by kernel_rfl)
theorem ajq:∀ args w,(callFunc 11 args).run prog w=.ok (.enter 11 args) w:=enters func11 rfl (by kernel_rfl)
theorem aaD:∀ args w,(callFunc 24 args).run prog w=.ok (.enter 24 args) w:=enters func24 rfl (by kernel_rfl)
theorem akR:∀ args w,(callFunc 26 args).run prog w=.ok (.enter 26 args) w:=enters func26 rfl (by kernel_rfl)
theorem aaE:∀ args w,(callFunc 25 args).run prog w=.ok (.enter 25 args) w:=enters func25 rfl (by kernel_rfl)
theorem ajN:∀ args w,(callFunc 15 args).run prog w=.ok (.enter 15 args) w:=enters func15 rfl (by kernel_rfl)
mutual
theorem arC (C:bL) (body note:Bool) (t:Int):∀ x:av,pI C body note t x→Kh x
 | .mk k c i tx h f r,hx=>by
  have hf:=QX C false true t f;have hr:=aen C note (t+1) r;rw [pI] at hx;obtain ⟨-,-,acM,abV⟩:=GY hx.1;dsimp only [av.kind,av.rows,av.flow] at acM abV;rw [Kh];refine ⟨?_,?_⟩
  ·by_cases h6:k=6
   ·exact hf (hx.2.2.2.1 h6)
   rw [abV h6,vU];trivial
  by_cases h7:k=7
  ·exact hr (hx.2.2.2.2 h7).2
  rw [acM h7,Eb];trivial
theorem arD (C:bL) (note:Bool) (t:Int):∀ x:aS,vX C note t x→Fy x
 | .mk h cs,hx=>by
  have hc:=aem C note t cs;rw [vX] at hx;rw [Fy];refine ⟨fun e=>?_,hc hx.2⟩;have z:=lF hx.1 (bK (decide ((cs.length:Int)=0)) 11) (by simp);rw [Aj (by decide),e] at z
  simp at z
theorem arB (C:bL) (note:Bool) (t:Int):∀ x:aR,vV C note t x→Fw x
 | .mk i h f,hx=>by
  have hf:=QX C false note t f;rw [vV] at hx;rw [Fw];exact hf hx.2
theorem QX (C:bL) (body note:Bool) (t:Int):∀ l:List av,kD C body note t l→vU l
 | [],_=>by rw [vU];trivial
 | x :: l,h=>by
  rw [kD] at h;rw [vU];exact ⟨arC C body note t x h.1,QX C body note t l h.2⟩
theorem aen (C:bL) (note:Bool) (t:Int):∀ l:List aS,qJ C note t l→Eb l
 | [],_=>by rw [Eb];trivial
 | x :: l,h=>by
  rw [qJ] at h;rw [Eb];exact ⟨arD C note t x h.1,aen C note t l h.2⟩
theorem aem (C:bL) (note:Bool) (t:Int):∀ l:List aR,rF C note t l→Fx l
 | [],_=>by rw [Fx];trivial
 | x :: l,h=>by
  rw [rF] at h;rw [Fx];exact ⟨arB C note t x h.1,aem C note t l h.2⟩
end
theorem arp {d:iW} (hz:zJ d):zJ (nD d):=⟨Nat.le_trans (agD _) hz.fl,hz.hd,Nat.le_trans (List.length_filter_le _ _) hz.rn,fun x hx=>hz.rt x (List.mem_filter.1 hx).1,hz.sn,hz.st⟩
theorem aec {d:iW} (hz:zJ d) (h:gJ d=0):vU d.flow∧aX (jC d.flow)≤1073741824∧(∀ k∈oM (mq d),-9223372036854775808≤k∧k < 9223372036854775808)∧(oM (mq d)).length≤4294967296:=by
 have h0:=(Ni h).1;refine ⟨QX _ _ _ _ _ ((LJ d).1 h).2.2.1,Nat.le_trans (agD _) hz.fl,fun q hq=>by have:=avn h0 hq;omega,?_⟩;have h1:=avm h0;have h2:(wC (mq d).revs (xA (mq d).flow (mq d).fin)).length≤d.revs.length:=Nat.le_trans (List.length_filter_le _ _) (by rw [bE];exact bX _);have:=hz.rn
 omega
theorem arN (G:GH) (w0:World) (hG:Hold G w0) (D:gM) (d:iW) (hR:mJ G D d) (hz:zJ d) :
  Calls prog 5 #[D.val] w0 (bB w0 G fun u G'=>u=.bool true):=by
 have J5:=hz.fl;have hzn:=arp hz;refine eN [(0,_)] func5 rfl ntmps5 rfl rfl hG ?_;refine aj 1 ?_;intro a H;refine dN (cs:=[_,_,_,_,_,_,_,_,_,_,_]) H wn rfl rfl rfl ?_;clear H;intro b1 a w hb1 H;refine aH 3 H ?_;clear H;intro a H;obtain ⟨Ga,hma,hb',H⟩:=H.dS;have hga:=fun j v hj=>nE hb' 0 D.cells rfl j v hj;replace hR:=hR.mono hma;refine tq ?_;refine s_call Uh H wn rfl (Wx _ _ H.ro) rfl ?_;clear H;rintro v4 G4 a w rfl H9 H;replace hR:=hR.mono H9;replace hga:=fun j v hj=>aD H9 (hga j v hj);refine jA 2 6 H ?_ ?_ <;> clear H
 ·intro h6
  intro a H;exact absurd h6 (by decide)
 intro h6
 try have p6:=dF h6
 intro a H;refine aT iY (cs:=D.cells) H (wg H rfl rfl h6) rfl rfl (fun j v hj=>H.hp.aC (hga j v hj)) rfl ?_;clear H;intro a H;refine s_call als H (wg H rfl rfl h6) rfl (auq _ _ H.ro D d hR hz) rfl ?_;clear H;rintro v8 G8 a w ⟨b8,rfl⟩ sK H;replace hR:=hR.mono sK;replace hga:=fun j v hj=>aD sK (hga j v hj);refine jA 3 11 H ?_ ?_ <;> clear H
 ·intro h11
  try have qg:=dT h11
  refine aj 7 ?_;intro a H;refine s_call Uh H wn rfl (Wx _ _ H.ro) rfl ?_;clear H;rintro v16 vg a w rfl vN H;refine gK 2 H ?_;first|rfl|(simp_all;done)
 intro h11
 try have qg:=dF h11
 intro a H;refine aT iY (cs:=D.cells) H (wg H rfl rfl h11) rfl rfl (fun j v hj=>H.hp.aC (hga j v hj)) rfl ?_;clear H;intro a H;refine s_call ajq H (wg H rfl rfl h11) rfl (aqL _ _ H.ro D d hR hz) rfl ?_;clear H;rintro v13 oh a w rfl kV H;replace hR:=hR.mono kV;replace hga:=fun j v hj=>aD kV (hga j v hj);refine eO 3 H ?_ ?_ <;> clear H
 ·intro mE
  refine aj 1 ?_;intro a H;refine s_call Uh H wn rfl (Wx _ _ H.ro) rfl ?_;clear H;rintro v16 vg a w rfl vN H;refine gK 2 H ?_;first|rfl|(simp_all;done)
 intro mE
 refine aj 1 ?_
 have hc:gJ d=0:=by first|omega|simp_all
 obtain ⟨q1,q2,q3,q4⟩:=aec hz hc;have hcn:=aro hc;obtain ⟨n1,n2,n3,n4⟩:=aec hzn hcn;have hnu:kY (fC (nD d).flow)=kY (fC d.flow):=(Ni hc).2;refine aj 1 ?_;intro a H;refine aT iY (cs:=D.cells) H wn rfl rfl (fun j v hj=>H.hp.aC (hga j v hj)) rfl ?_;clear H;intro a H;refine s_call aaD H wn rfl (aaf _ _ H.ro D d hR hz q1 q2 q3 q4) rfl ?_;clear H;rintro v18 Sw a w ⟨E,rfl,hE⟩ hm18 H;replace hR:=hR.mono hm18;replace hga:=fun j v hj=>aD hm18 (hga j v hj);refine dx iY H wn rfl ?_;clear H;intro b3 a w hb3 H;refine bq iY 0 (vs:=E.cells) _ H wn rfl rfl rfl rfl rfl rfl rfl rfl ?_;clear H;intro w H;dsimp only [List.set,setRow] at H;refine aH 2 H ?_;clear H;intro a H;obtain ⟨Gb,hmb,uJ,H⟩:=H.dS;have hge:=fun j v hj=>nE uJ 0 E.cells rfl j v hj;replace hR:=hR.mono hmb;replace hE:=hE.mono hmb;replace hga:=fun j v hj=>aD hmb (hga j v hj)
 have pG:∀ (bJ:Nat) (v:ak) (G G':GH),(∀ k o,G k=some o→G' k=some o)→(fun (bJ:Nat) (v:ak) (G:GH)=>match bJ with|0=>v=.agg E.cells.toArray|1=>v=.agg D.cells.toArray|2=>∃ F:gM,v=F.val∧mJ G F (mD d)|3=>v=.bool true|4=>v=.bool true|5=>v=.agg E.cells.toArray|6=>v=vi 0|7=>v=.bool true|8=>v=.bool true|9=>v=.bool true|10=>v=.agg E.cells.toArray|11=>v=vi (kY (fC d.flow))|12=>v=.agg D.cells.toArray|13=>v=vi (kY (fC d.flow))|14=>v=.bool true|15=>v=.bool true|16=>v=.bool true|17=>v=.agg E.cells.toArray|18=>∃ F:gM,v=F.val∧mJ G F (nD d)|19=>v=.agg E.cells.toArray|20=>v=.bool true|21=>v=.bool true|_=>True) bJ v G→(fun (bJ:Nat) (v:ak) (G:GH)=>match bJ with|0=>v=.agg E.cells.toArray|1=>v=.agg D.cells.toArray|2=>∃ F:gM,v=F.val∧mJ G F (mD d)|3=>v=.bool true|4=>v=.bool true|5=>v=.agg E.cells.toArray|6=>v=vi 0|7=>v=.bool true|8=>v=.bool true|9=>v=.bool true|10=>v=.agg E.cells.toArray|11=>v=vi (kY (fC d.flow))|12=>v=.agg D.cells.toArray|13=>v=vi (kY (fC d.flow))|14=>v=.bool true|15=>v=.bool true|16=>v=.bool true|17=>v=.agg E.cells.toArray|18=>∃ F:gM,v=F.val∧mJ G F (nD d)|19=>v=.agg E.cells.toArray|20=>v=.bool true|21=>v=.bool true|_=>True) bJ v G':=by
  intro bJ v G G' hm h
  match bJ,h with
  | 0,h=>exact h
  | 1,h=>exact h
  | 2,h=>exact let ⟨F,h1,h2⟩:=h;⟨F,h1,h2.mono hm⟩
  | 3,h=>exact h
  | 4,h=>exact h
  | 5,h=>exact h
  | 6,h=>exact h
  | 7,h=>exact h
  | 8,h=>exact h
  | 9,h=>exact h
  | 10,h=>exact h
  | 11,h=>exact h
  | 12,h=>exact h
  | 13,h=>exact h
  | 14,h=>exact h
  | 15,h=>exact h
  | 16,h=>exact h
  | 17,h=>exact h
  | 18,h=>exact let ⟨F,h1,h2⟩:=h;⟨F,h1,h2.mono hm⟩
  | 19,h=>exact h
  | 20,h=>exact h
  | 21,h=>exact h
  | 22,h=>exact trivial
  | _+23,h=>exact trivial
 refine Ar (hmx) [[],[],[1],[0,1,2],(ra 0 4),(ra 0 5),(ra 0 6),(ra 0 7),(ra 0 8),(ra 0 9),(ra 0 10),(ra 0 11),(ra 0 10),(ra 0 13),(ra 0 14),(ra 0 15),(ra 0 16),(ra 0 17),(ra 0 18),(ra 0 17),(ra 0 20),(ra 0 21),(ra 0 22)] [22] (by kernel_rfl) (by kernel_rfl) (fun (bJ:Nat) (v:ak) (G:GH)=>match bJ with|0=>v=.agg E.cells.toArray|1=>v=.agg D.cells.toArray|2=>∃ F:gM,v=F.val∧mJ G F (mD d)|3=>v=.bool true|4=>v=.bool true|5=>v=.agg E.cells.toArray|6=>v=vi 0|7=>v=.bool true|8=>v=.bool true|9=>v=.bool true|10=>v=.agg E.cells.toArray|11=>v=vi (kY (fC d.flow))|12=>v=.agg D.cells.toArray|13=>v=vi (kY (fC d.flow))|14=>v=.bool true|15=>v=.bool true|16=>v=.bool true|17=>v=.agg E.cells.toArray|18=>∃ F:gM,v=F.val∧mJ G F (nD d)|19=>v=.agg E.cells.toArray|20=>v=.bool true|21=>v=.bool true|_=>True) pG H ?_ ?_
 ·clear H;refine aF ?_ ?_ ?_ ?_ (aF ?_ ?_ ?_ ?_ (aF ?_ ?_ ?_ ?_ (aF ?_ ?_ ?_ ?_ (aF ?_ ?_ ?_ ?_ (aW ?_ (aW ?_ (aW (bS rfl) cZ)))))))
  ·refine dB [] rfl trivial (by kernel_rfl) pG rfl rfl ?_;intro bN a w G1 hG HT H fin;refine aT iY (cs:=E.cells) H wn rfl rfl (fun j v hj=>H.hp.aC (aD hG (hge j v hj))) rfl ?_;clear H;intro a H;exact fin H iJ rfl
  ·refine dB [] rfl trivial (by kernel_rfl) pG rfl rfl ?_;intro bN a w G1 hG HT H fin;refine aT iY (cs:=D.cells) H wn rfl rfl (fun j v hj=>H.hp.aC (aD hG (hga j v hj))) rfl ?_;clear H;intro a H;exact fin H iJ rfl
  ·refine dB [(1,20,_)] rfl ⟨fun _ _ h=>h,aY⟩ (by kernel_rfl) pG rfl rfl ?_;intro bN a w G1 hG HT H fin;refine s_call akR H wn rfl (aqS _ _ H.ro D d (hR.mono hG) hz q1 q2) rfl ?_;clear H;rintro v21 Sy a w ⟨YD,rfl,amU⟩ Ck H;exact fin H Ck (⟨YD,rfl,amU⟩)
  ·intro bN a w G1 _ dh hc hG HT hv;have H:=HT;clear dh;have H:=H.aV (hv 0 19 (hc 0 (by decide)) rfl) rfl;obtain ⟨u21,hu21,acz⟩:=hv 2 21 (hc 2 (by decide)) rfl;(try dsimp only at acz);obtain ⟨F,rfl,hF⟩:=acz;have H:=H.kI hu21;have Hb:=H.full;have H:=Hb;clear hc;refine s_call aaE H wn rfl (adR _ _ H.ro E F (nD d) (mD d) (hE.mono hG) hF (by have:=hzn.fl;omega)) rfl ?_;clear H;rintro v22 YE a w ⟨b22,rfl,anN⟩ vJ H;obtain rfl:b22=true:=anN.2 (aqM hc).symm;refine aI ⟨rfl,?_⟩;exact jV (by kernel_rfl) pG rfl rfl HT Hb hG hv vJ (rfl) H
  ·refine dB [(3,22,_)] rfl ⟨fun _ _ h=>h,aY⟩ (by kernel_rfl) pG rfl rfl ?_;intro bN a w G1 hG HT H fin;exact kH H (Rm rfl fun _ H=>fin H iJ rfl)
  ·refine dB [(4,23,_)] rfl ⟨fun _ _ h=>h,aY⟩ (by kernel_rfl) pG rfl rfl ?_;intro bN a w G1 hG HT H fin;refine aT iY (cs:=E.cells) H (wg H rfl rfl rfl) rfl rfl (fun j v hj=>H.hp.aC (aD hG (hge j v hj))) rfl ?_;clear H;intro a H;exact fin H iJ rfl
  ·refine dB [(5,24,_),(4,23,_)] rfl ⟨fun _ _ h=>h,fun _ _ h=>h,aY⟩ (by kernel_rfl) pG rfl rfl ?_;intro bN a w G1 hG HT H fin;refine s_call aaF H (wg H rfl rfl rfl) rfl (ZK _ _ H.ro E (nD d) (hE.mono hG) hzn) rfl ?_;clear H;rintro v25 YH a w rfl UK H;rw [hcn] at H;exact fin H UK (rfl)
  ·refine dB [(6,25,_),(4,23,_)] rfl ⟨fun _ _ h=>h,fun _ _ h=>h,aY⟩ (by kernel_rfl) pG rfl rfl ?_;intro bN a w G1 hG HT H fin;refine Ej H (wg H rfl rfl rfl) rfl rfl rfl rfl ?_;clear H;intro a H;exact fin H iJ rfl
  ·refine dB [(4,23,_),(7,26,_)] rfl ⟨fun _ _ h=>h,fun _ _ h=>h,aY⟩ (by kernel_rfl) pG rfl rfl ?_;intro bN a w G1 hG HT H fin;exact kH H (Pt rfl rfl fun _ H=>fin H iJ rfl)
  ·refine dB [(8,27,_)] rfl ⟨fun _ _ h=>h,aY⟩ (by kernel_rfl) pG rfl rfl ?_;intro bN a w G1 hG HT H fin;exact kH H (Rm rfl fun _ H=>fin H iJ rfl)
  ·refine dB [(9,28,_)] rfl ⟨fun _ _ h=>h,aY⟩ (by kernel_rfl) pG rfl rfl ?_;intro bN a w G1 hG HT H fin;refine aT iY (cs:=E.cells) H (wg H rfl rfl rfl) rfl rfl (fun j v hj=>H.hp.aC (aD hG (hge j v hj))) rfl ?_;clear H;intro a H;exact fin H iJ rfl
  ·refine dB [(10,29,_),(9,28,_)] rfl ⟨fun _ _ h=>h,fun _ _ h=>h,aY⟩ (by kernel_rfl) pG rfl rfl ?_;intro bN a w G1 hG HT H fin;refine s_call aay H (wg H rfl rfl rfl) rfl (afP _ _ H.ro E (nD d).flow (hE.mono hG).fl (by have:=hzn.fl;omega) (afL (nD d).flow hzn.fl)) rfl ?_;clear H;rintro v30 Da a w rfl Mv H;rw [hnu] at H;exact fin H Mv (rfl)
  ·refine dB [(9,28,_)] rfl ⟨fun _ _ h=>h,aY⟩ (by kernel_rfl) pG rfl rfl ?_;intro bN a w G1 hG HT H fin;refine aT iY (cs:=D.cells) H (wg H rfl rfl rfl) rfl rfl (fun j v hj=>H.hp.aC (aD hG (hga j v hj))) rfl ?_;clear H;intro a H;exact fin H iJ rfl
  ·refine dB [(12,31,_),(9,28,_)] rfl ⟨fun _ _ h=>h,fun _ _ h=>h,aY⟩ (by kernel_rfl) pG rfl rfl ?_;intro bN a w G1 hG HT H fin;refine s_call ajN H (wg H rfl rfl rfl) rfl (aqY _ _ H.ro D d.flow (hR.mono hG).fl J5) rfl ?_;clear H;rintro v32 G32 a w rfl ane H;exact fin H ane (rfl)
  ·refine dB [(11,30,_),(13,32,_),(9,28,_)] rfl ⟨fun _ _ h=>h,fun _ _ h=>h,fun _ _ h=>h,aY⟩ (by kernel_rfl) pG rfl rfl ?_;intro bN a w G1 hG HT H fin;refine Ej H (wg H rfl rfl rfl) rfl rfl rfl rfl ?_;clear H;intro a H;exact fin H iJ (dJ (by simp))
  ·refine dB [(9,28,_),(14,33,_)] rfl ⟨fun _ _ h=>h,fun _ _ h=>h,aY⟩ (by kernel_rfl) pG rfl rfl ?_;intro bN a w G1 hG HT H fin;exact kH H (Pt rfl rfl fun _ H=>fin H iJ rfl)
  ·refine dB [(15,34,_)] rfl ⟨fun _ _ h=>h,aY⟩ (by kernel_rfl) pG rfl rfl ?_;intro bN a w G1 hG HT H fin;exact kH H (Rm rfl fun _ H=>fin H iJ rfl)
  ·refine dB [(16,35,_)] rfl ⟨fun _ _ h=>h,aY⟩ (by kernel_rfl) pG rfl rfl ?_;intro bN a w G1 hG HT H fin;refine aT iY (cs:=E.cells) H (wg H rfl rfl rfl) rfl rfl (fun j v hj=>H.hp.aC (aD hG (hge j v hj))) rfl ?_;clear H;intro a H;exact fin H iJ rfl
  ·refine dB [(17,36,_),(16,35,_)] rfl ⟨fun _ _ h=>h,fun _ _ h=>h,aY⟩ (by kernel_rfl) pG rfl rfl ?_;intro bN a w G1 hG HT H fin;refine s_call aaD H (wg H rfl rfl rfl) rfl (aaf _ _ H.ro E (nD d) (hE.mono hG) hzn n1 n2 n3 n4) rfl ?_;clear H;rintro v37 G37 a w ⟨F37,rfl,abt⟩ anh H;rw [arn] at abt;exact fin H anh (⟨F37,rfl,abt⟩)
  ·refine dB [(16,35,_)] rfl ⟨fun _ _ h=>h,aY⟩ (by kernel_rfl) pG rfl rfl ?_;intro bN a w G1 hG HT H fin;refine aT iY (cs:=E.cells) H (wg H rfl rfl rfl) rfl rfl (fun j v hj=>H.hp.aC (aD hG (hge j v hj))) rfl ?_;clear H;intro a H;exact fin H iJ rfl
  ·intro bN a w G1 _ dh hc hG HT hv;have H:=HT;clear dh;obtain ⟨u37,apM,acA⟩:=hv 18 37 (hc 18 (by decide)) rfl;(try dsimp only at acA);obtain ⟨F2,rfl,hF2⟩:=acA;have H:=H.kI apM;have H:=H.aV (hv 19 38 (hc 19 (by decide)) rfl) rfl;have H:=H.aV (hv 16 35 (hc 16 (by decide)) rfl) rfl;have Hb:=H.full;have H:=Hb;clear hc;refine s_call aaE H (wg H rfl rfl rfl) rfl (adR _ _ H.ro F2 E (nD d) (nD d) hF2 (hE.mono hG) (by have:=hzn.fl;omega)) rfl ?_;clear H;rintro v39 SA a w ⟨Ti,rfl,abE⟩ anj H;obtain rfl:Ti=true:=abE.2 rfl;refine aI ⟨rfl,?_⟩;exact jV (by kernel_rfl) pG rfl rfl HT Hb hG hv anj (rfl) H
  refine dB [(16,35,_),(20,39,_)] rfl ⟨fun _ _ h=>h,fun _ _ h=>h,aY⟩ (by kernel_rfl) pG rfl rfl ?_;intro bN a w G1 hG HT H fin;exact kH H (Pt rfl rfl fun _ H=>fin H iJ rfl)
 clear H;intro a w G sI H hv;have H:=H.aV (hv 21 40 rfl rfl) rfl;clear hv;refine t1 2 H ?_;clear H;refine aJ 0 ?_;first|rfl|(simp_all;done)
end
section
open Go.ChangeShapes Go.RowKit Go.Deep
theorem Er {ρ:Type} {dat:ρ→List Dat}:∀ {l:List ρ} {x:ρ},x∈l→bM (dat x)+1≤dY (l.map dat)
 | y :: l,x,h=>by
  rw [dR,dY]
  rcases kZ.1 h with rfl|h
  ·omega
  have:=Er (dat:=dat) h;omega
section
variable {H:Type} {enc:TypeId × ak→H} {W:World} {base:Nat} {spare:Nat→Bool} {held:Bool}
theorem aum:tT prog 156 6 [(3,0,1),(3,1,1),(9,2,1),(3,3,1),(3,4,1),(23,5,1)]:=⟨by kernel_rfl,by kernel_rfl,by kernel_rfl⟩
theorem ahL:prog.cellsOf 156=6:=by kernel_rfl
theorem asP {n:Nat} {cs:List ak} {D:DataW H} {Pl:List MemPlace} (h:DataW.trod enc prog W base spare held n 156 cs=some (D,Pl)):∃ r:bH,aZ (qZ W) r.dat cs∧bM r.dat+1≤8*Rows.uptoBulk D:=by
 obtain ⟨xs,m,hx,hl,hxl,hf⟩:=vY aum h
 match cs,hl,xs,hxl with
 | [c0,c1,c2,c3,c4,c5],_,[y0,y1,y2,y3,y4,y5],_ =>
  have h0:=hf 0 _ _ _ rfl;have h1:=hf 1 _ _ _ rfl;have h2:=hf 2 _ _ _ rfl;have h3:=hf 3 _ _ _ rfl;have h4:=hf 4 _ _ _ rfl;have h5:=hf 5 _ _ _ rfl
  simp only at hx
  have hD:Rows.uptoBulk D=Rows.uptoBulk y0.1+(Rows.uptoBulk y1.1+(Rows.uptoBulk y2.1+(Rows.uptoBulk y3.1+(Rows.uptoBulk y4.1+(Rows.uptoBulk y5.1+0)))))+1:=by rw [hx];simp only [dR,vB,Rows.uptoBulk,Rows.uptoBulkAll]
  obtain ⟨k0,e0,d0,-⟩:=DataW.trod_int underlying3 h0;obtain ⟨k1,e1,d1,-⟩:=DataW.trod_int underlying3 h1;obtain ⟨k2,e2,d2,-⟩:=DataW.trod_string underlying9 h2;obtain ⟨k3,e3,d3,-⟩:=DataW.trod_int underlying3 h3;obtain ⟨k4,e4,d4,-⟩:=DataW.trod_int underlying3 h4;obtain ⟨k5,q5,e5,r5,d5⟩:=xC (dat:=gB.dat) (sz:=2) (by omega) underlying23 ZG h5 (fun n cs' D Pl hh _=>aeO hh)
  simp at e0 e1 e2 e3 e4 e5
  subst e0 e1 e2 e3 e4 e5
  have b0:Rows.uptoBulk y0.1=1:=by rw [d0];rfl
  have b1:Rows.uptoBulk y1.1=1:=by rw [d1];rfl
  have b2:Rows.uptoBulk y2.1=k2.size+1:=by rw [d2];show k2.data.toList.length+1=k2.data.size+1;rw [wJ]
  have b3:Rows.uptoBulk y3.1=1:=by rw [d3];rfl
  have b4:Rows.uptoBulk y4.1=1:=by rw [d4];rfl
  refine ⟨⟨k0,k1,k2,k3,k4,k5⟩,?_,?_⟩
  ·exact ⟨_,_,rfl,(by simp [ay,Value.oneCell']),⟨_,_,rfl,(by simp [ay,Value.oneCell']),⟨_,_,rfl,(by simp [ay,Value.oneCell']),⟨_,_,rfl,(by simp [ay,Value.oneCell']),⟨_,_,rfl,(by simp [ay,Value.oneCell']),⟨_,_,rfl,r5,rfl⟩⟩⟩⟩⟩⟩
  simp only [bH.dat,bM,nP];omega
theorem aug:tT prog 194 4 [(3,0,1),(3,1,1),(9,2,1),(3,3,1)]:=⟨by kernel_rfl,by kernel_rfl,by kernel_rfl⟩
theorem ahI:prog.cellsOf 194=4:=by kernel_rfl
theorem asL {n:Nat} {cs:List ak} {D:DataW H} {Pl:List MemPlace} (h:DataW.trod enc prog W base spare held n 194 cs=some (D,Pl)):∃ r:iZ,aZ (qZ W) r.dat cs∧bM r.dat+1≤8*Rows.uptoBulk D:=by
 obtain ⟨xs,m,hx,hl,hxl,hf⟩:=vY aug h
 match cs,hl,xs,hxl with
 | [c0,c1,c2,c3],_,[y0,y1,y2,y3],_ =>
  have h0:=hf 0 _ _ _ rfl;have h1:=hf 1 _ _ _ rfl;have h2:=hf 2 _ _ _ rfl;have h3:=hf 3 _ _ _ rfl
  simp only at hx
  have hD:Rows.uptoBulk D=Rows.uptoBulk y0.1+(Rows.uptoBulk y1.1+(Rows.uptoBulk y2.1+(Rows.uptoBulk y3.1+0)))+1:=by rw [hx];simp only [dR,vB,Rows.uptoBulk,Rows.uptoBulkAll]
  obtain ⟨k0,e0,d0,-⟩:=DataW.trod_int underlying3 h0;obtain ⟨k1,e1,d1,-⟩:=DataW.trod_int underlying3 h1;obtain ⟨k2,e2,d2,-⟩:=DataW.trod_string underlying9 h2;obtain ⟨k3,e3,d3,-⟩:=DataW.trod_int underlying3 h3
  simp at e0 e1 e2 e3
  subst e0 e1 e2 e3
  have b0:Rows.uptoBulk y0.1=1:=by rw [d0];rfl
  have b1:Rows.uptoBulk y1.1=1:=by rw [d1];rfl
  have b2:Rows.uptoBulk y2.1=k2.size+1:=by rw [d2];show k2.data.toList.length+1=k2.data.size+1;rw [wJ]
  have b3:Rows.uptoBulk y3.1=1:=by rw [d3];rfl
  refine ⟨⟨k0,k1,k2,k3⟩,?_,?_⟩
  ·exact ⟨_,_,rfl,(by simp [ay,Value.oneCell']),⟨_,_,rfl,(by simp [ay,Value.oneCell']),⟨_,_,rfl,(by simp [ay,Value.oneCell']),⟨_,_,rfl,(by simp [ay,Value.oneCell']),rfl⟩⟩⟩⟩
  simp only [iZ.dat,bM,nP];omega
theorem auf:tT prog 159 2 [(3,0,1),(157,1,1)]:=⟨by kernel_rfl,by kernel_rfl,by kernel_rfl⟩
theorem ahH:prog.cellsOf 159=2:=by kernel_rfl
theorem asM {n:Nat} {cs:List ak} {D:DataW H} {Pl:List MemPlace} (h:DataW.trod enc prog W base spare held n 159 cs=some (D,Pl)):∃ r:dz,aZ (qZ W) r.dat cs∧bM r.dat+1≤8*Rows.uptoBulk D:=by
 obtain ⟨xs,m,hx,hl,hxl,hf⟩:=vY auf h
 match cs,hl,xs,hxl with
 | [c0,c1],_,[y0,y1],_ =>
  have h0:=hf 0 _ _ _ rfl;have h1:=hf 1 _ _ _ rfl
  simp only at hx
  have hD:Rows.uptoBulk D=Rows.uptoBulk y0.1+(Rows.uptoBulk y1.1+0)+1:=by rw [hx];simp only [dR,vB,Rows.uptoBulk,Rows.uptoBulkAll]
  obtain ⟨k0,e0,d0,-⟩:=DataW.trod_int underlying3 h0;obtain ⟨k1,q1,e1,r1,d1⟩:=xC (dat:=iZ.dat) (sz:=4) (by omega) underlying157 ahI h1 (fun n cs' D Pl hh _=>asL hh)
  simp at e0 e1
  subst e0 e1
  have b0:Rows.uptoBulk y0.1=1:=by rw [d0];rfl
  refine ⟨⟨k0,k1⟩,?_,?_⟩
  ·exact ⟨_,_,rfl,(by simp [ay,Value.oneCell']),⟨_,_,rfl,r1,rfl⟩⟩
  simp only [dz.dat,bM,nP];omega
theorem aua:tT prog 164 6 [(3,0,1),(3,1,1),(9,2,1),(3,3,1),(9,4,1),(4,5,1)]:=⟨by kernel_rfl,by kernel_rfl,by kernel_rfl⟩
theorem ahE:prog.cellsOf 164=6:=by kernel_rfl
theorem asG {n:Nat} {cs:List ak} {D:DataW H} {Pl:List MemPlace} (h:DataW.trod enc prog W base spare held n 164 cs=some (D,Pl)):∃ r:eY,aZ (qZ W) r.dat cs∧bM r.dat+1≤8*Rows.uptoBulk D:=by
 obtain ⟨xs,m,hx,hl,hxl,hf⟩:=vY aua h
 match cs,hl,xs,hxl with
 | [c0,c1,c2,c3,c4,c5],_,[y0,y1,y2,y3,y4,y5],_ =>
  have h0:=hf 0 _ _ _ rfl;have h1:=hf 1 _ _ _ rfl;have h2:=hf 2 _ _ _ rfl;have h3:=hf 3 _ _ _ rfl;have h4:=hf 4 _ _ _ rfl;have h5:=hf 5 _ _ _ rfl
  simp only at hx
  have hD:Rows.uptoBulk D=Rows.uptoBulk y0.1+(Rows.uptoBulk y1.1+(Rows.uptoBulk y2.1+(Rows.uptoBulk y3.1+(Rows.uptoBulk y4.1+(Rows.uptoBulk y5.1+0)))))+1:=by rw [hx];simp only [dR,vB,Rows.uptoBulk,Rows.uptoBulkAll]
  obtain ⟨k0,e0,d0,-⟩:=DataW.trod_int underlying3 h0;obtain ⟨k1,e1,d1,-⟩:=DataW.trod_int underlying3 h1;obtain ⟨k2,e2,d2,-⟩:=DataW.trod_string underlying9 h2;obtain ⟨k3,e3,d3,-⟩:=DataW.trod_int underlying3 h3;obtain ⟨k4,e4,d4,-⟩:=DataW.trod_string underlying9 h4;obtain ⟨k5,e5,d5⟩:=DataW.trod_bool underlying4 h5
  simp at e0 e1 e2 e3 e4 e5
  subst e0 e1 e2 e3 e4 e5
  have b0:Rows.uptoBulk y0.1=1:=by rw [d0];rfl
  have b1:Rows.uptoBulk y1.1=1:=by rw [d1];rfl
  have b2:Rows.uptoBulk y2.1=k2.size+1:=by rw [d2];show k2.data.toList.length+1=k2.data.size+1;rw [wJ]
  have b3:Rows.uptoBulk y3.1=1:=by rw [d3];rfl
  have b4:Rows.uptoBulk y4.1=k4.size+1:=by rw [d4];show k4.data.toList.length+1=k4.data.size+1;rw [wJ]
  have b5:Rows.uptoBulk y5.1=1:=by rw [d5];rfl
  refine ⟨⟨k0,k1,k2,k3,k4,k5⟩,?_,?_⟩
  ·exact ⟨_,_,rfl,(by simp [ay,Value.oneCell']),⟨_,_,rfl,(by simp [ay,Value.oneCell']),⟨_,_,rfl,(by simp [ay,Value.oneCell']),⟨_,_,rfl,(by simp [ay,Value.oneCell']),⟨_,_,rfl,(by simp [ay,Value.oneCell']),⟨_,_,rfl,(by simp [ay,Value.oneCell']),rfl⟩⟩⟩⟩⟩⟩
  simp only [eY.dat,bM,nP];omega
theorem aun:tT prog 167 2 [(9,0,1),(9,1,1)]:=⟨by kernel_rfl,by kernel_rfl,by kernel_rfl⟩
theorem ahN:prog.cellsOf 167=2:=by kernel_rfl
theorem asQ {n:Nat} {cs:List ak} {D:DataW H} {Pl:List MemPlace} (h:DataW.trod enc prog W base spare held n 167 cs=some (D,Pl)):∃ r:iP,aZ (qZ W) r.dat cs∧bM r.dat+1≤8*Rows.uptoBulk D:=by
 obtain ⟨xs,m,hx,hl,hxl,hf⟩:=vY aun h
 match cs,hl,xs,hxl with
 | [c0,c1],_,[y0,y1],_ =>
  have h0:=hf 0 _ _ _ rfl;have h1:=hf 1 _ _ _ rfl
  simp only at hx
  have hD:Rows.uptoBulk D=Rows.uptoBulk y0.1+(Rows.uptoBulk y1.1+0)+1:=by rw [hx];simp only [dR,vB,Rows.uptoBulk,Rows.uptoBulkAll]
  obtain ⟨k0,e0,d0,-⟩:=DataW.trod_string underlying9 h0;obtain ⟨k1,e1,d1,-⟩:=DataW.trod_string underlying9 h1
  simp at e0 e1
  subst e0 e1
  have b0:Rows.uptoBulk y0.1=k0.size+1:=by rw [d0];show k0.data.toList.length+1=k0.data.size+1;rw [wJ]
  have b1:Rows.uptoBulk y1.1=k1.size+1:=by rw [d1];show k1.data.toList.length+1=k1.data.size+1;rw [wJ]
  refine ⟨⟨k0,k1⟩,?_,?_⟩
  ·exact ⟨_,_,rfl,(by simp [ay,Value.oneCell']),⟨_,_,rfl,(by simp [ay,Value.oneCell']),rfl⟩⟩
  simp only [iP.dat,bM,nP];omega
theorem auk:tT prog 82 3 [(3,0,1),(9,1,1),(3,2,1)]:=⟨by kernel_rfl,by kernel_rfl,by kernel_rfl⟩
theorem ahK:prog.cellsOf 82=3:=by kernel_rfl
theorem asN {n:Nat} {cs:List ak} {D:DataW H} {Pl:List MemPlace} (h:DataW.trod enc prog W base spare held n 82 cs=some (D,Pl)):∃ r:bD,aZ (qZ W) r.dat cs∧bM r.dat+1≤8*Rows.uptoBulk D:=by
 obtain ⟨xs,m,hx,hl,hxl,hf⟩:=vY auk h
 match cs,hl,xs,hxl with
 | [c0,c1,c2],_,[y0,y1,y2],_ =>
  have h0:=hf 0 _ _ _ rfl;have h1:=hf 1 _ _ _ rfl;have h2:=hf 2 _ _ _ rfl
  simp only at hx
  have hD:Rows.uptoBulk D=Rows.uptoBulk y0.1+(Rows.uptoBulk y1.1+(Rows.uptoBulk y2.1+0))+1:=by rw [hx];simp only [dR,vB,Rows.uptoBulk,Rows.uptoBulkAll]
  obtain ⟨k0,e0,d0,-⟩:=DataW.trod_int underlying3 h0;obtain ⟨k1,e1,d1,-⟩:=DataW.trod_string underlying9 h1;obtain ⟨k2,e2,d2,-⟩:=DataW.trod_int underlying3 h2
  simp at e0 e1 e2
  subst e0 e1 e2
  have b0:Rows.uptoBulk y0.1=1:=by rw [d0];rfl
  have b1:Rows.uptoBulk y1.1=k1.size+1:=by rw [d1];show k1.data.toList.length+1=k1.data.size+1;rw [wJ]
  have b2:Rows.uptoBulk y2.1=1:=by rw [d2];rfl
  refine ⟨⟨k0,k1,k2⟩,?_,?_⟩
  ·exact ⟨_,_,rfl,(by simp [ay,Value.oneCell']),⟨_,_,rfl,(by simp [ay,Value.oneCell']),⟨_,_,rfl,(by simp [ay,Value.oneCell']),rfl⟩⟩⟩
  simp only [bD.dat,bM,nP];omega
theorem aul:tT prog 36 4 [(31,0,1),(32,1,1),(33,2,1),(34,3,1)]:=⟨by kernel_rfl,by kernel_rfl,by kernel_rfl⟩
structure SS (s:qN) (n:Nat):Prop where
 st:dY (s.styles.map bH.dat)≤n
 li:dY (s.lists.map dz.dat)≤n
 cm:dY (s.comments.map eY.dat)≤n
 va:dY (s.vars.map iP.dat)≤n
theorem SS.zn {s:qN} {n:Nat} (h:SS s n) (hn:n≤4294967296):Ll s∧s.styles.length≤4294967296:=by
 obtain ⟨h1,h2,h3,h4⟩:=h;have l1:=lK (s.styles.map bH.dat);have l2:=lK (s.lists.map dz.dat);have l3:=lK (s.comments.map eY.dat);have l4:=lK (s.vars.map iP.dat);rw [bE] at l1 l2 l3 l4;refine ⟨⟨fun x hx=>?_,by omega,fun x hx y hy=>?_,by omega,fun x hx=>?_,by omega,fun x hx=>?_,fun x hx=>?_,fun x hx=>?_⟩,by omega⟩
 ·have:=Er (dat:=bH.dat) hx
  simp only [bH.dat,bM,nP] at this;omega
 ·have:=Er (dat:=dz.dat) hx
  simp only [dz.dat,bM,nP] at this
  have h5:=Er (dat:=iZ.dat) hy
  simp only [iZ.dat,bM,nP] at h5;omega
 ·have:=Er (dat:=eY.dat) hx
  simp only [eY.dat,bM,nP] at this;omega
 ·have:=Er (dat:=iP.dat) hx
  simp only [iP.dat,bM,nP] at this;omega
 ·have:=Er (dat:=bH.dat) hx;have h5:=lK (x.props.map gB.dat);rw [bE] at h5
  simp only [bH.dat,bM,nP] at this;omega
 have:=Er (dat:=dz.dat) hx;have h5:=lK (x.levels.map iZ.dat);rw [bE] at h5
 simp only [dz.dat,bM,nP] at this;omega
theorem asO {n:Nat} {cs:List ak} {x:DataW H × List MemPlace} (h:DataW.trod enc prog W base spare held n 36 cs=some x):∃ (s:qN) (a b c d:ak),cs=[a,b,c,d]∧tV (qZ W) s a b c d∧SS s (8*Rows.uptoBulk x.1):=by
 obtain ⟨xs,m,hx,hl,hxl,hf⟩:=vY aul h
 match cs,hl,xs,hxl with
 | [c0,c1,c2,c3],_,[y0,y1,y2,y3],_ =>
  have h0:=hf 0 _ _ _ rfl;have h1:=hf 1 _ _ _ rfl;have h2:=hf 2 _ _ _ rfl;have h3:=hf 3 _ _ _ rfl;obtain ⟨k0,q0,e0,r0,d0⟩:=xC (dat:=bH.dat) (sz:=6) (by omega) underlying31 ahL h0 (fun n cs' D Pl hh _=>asP hh);obtain ⟨k1,q1,e1,r1,d1⟩:=xC (dat:=dz.dat) (sz:=2) (by omega) underlying32 ahH h1 (fun n cs' D Pl hh _=>asM hh);obtain ⟨k2,q2,e2,r2,d2⟩:=xC (dat:=eY.dat) (sz:=6) (by omega) underlying33 ahE h2 (fun n cs' D Pl hh _=>asG hh);obtain ⟨k3,q3,e3,r3,d3⟩:=xC (dat:=iP.dat) (sz:=2) (by omega) underlying34 ahN h3 (fun n cs' D Pl hh _=>asQ hh)
  simp at e0 e1 e2 e3
  subst e0 e1 e2 e3
  have hD:Rows.uptoBulk x.1=Rows.uptoBulk y0.1+(Rows.uptoBulk y1.1+(Rows.uptoBulk y2.1+(Rows.uptoBulk y3.1+0)))+1:=by rw [hx];simp only [dR,vB,Rows.uptoBulk,Rows.uptoBulkAll]
  exact ⟨⟨k0,k1,k2,k3⟩,_,_,_,_,rfl,⟨r0,r1,r2,r3⟩,⟨by show dY (k0.map _)≤_;omega,by show dY (k1.map _)≤_;omega,by show dY (k2.map _)≤_;omega,by show dY (k3.map _)≤_;omega⟩⟩
theorem afi:tT prog 38 11 [(22,0,1),(29,1,5),(30,6,1),(36,7,4)]:=⟨by kernel_rfl,by kernel_rfl,by kernel_rfl⟩
theorem Eo {G:GH} {sz:Nat} {rs:List (List Dat)} {v:ak} (h:ay G (.sl sz rs) v):∃ x,v=aM x:=by
 obtain ⟨a,n,c,rfl⟩:=h.form;exact ⟨(a,n,c),rfl⟩
theorem asI {n:Nat} {cs:List ak} {x:DataW H × List MemPlace} (h:DataW.trod enc prog W base spare held n 38 cs=some x) (hb:Rows.uptoBulk x.1≤1048576):∃ (D:gM) (d:iW),cs=D.cells∧mJ (qZ W) D d∧zJ d:=by
 obtain ⟨xs,m,hx,hl,hxl,hf⟩:=vY afi h
 match cs,hl,xs,hxl with
 | [c0,c1,c2,c3,c4,c5,c6,c7,c8,c9,c10],_,[y0,y1,y2,y3],_ =>
  have h0:=hf 0 _ _ _ rfl;have h1:=hf 1 _ _ _ rfl;have h2:=hf 2 _ _ _ rfl;have h3:=hf 3 _ _ _ rfl;obtain ⟨l,q0,e0,r0,d0⟩:=asJ h0;obtain ⟨hd,p,dd,ll,e1,r1,d1⟩:=Rq h1;obtain ⟨rv,q2,e2,r2,d2⟩:=xC (dat:=bD.dat) (sz:=3) (by omega) underlying30 ahK h2 (fun n cs' D Pl hh _=>asN hh);obtain ⟨s,a,b,c,d,e3,r3,d3⟩:=asO h3
  simp at e0 e1 e2 e3
  obtain ⟨rfl,rfl,rfl,rfl,rfl⟩:=e1;obtain ⟨rfl,rfl,rfl,rfl⟩:=e3;subst e0 e2
  have hD:Rows.uptoBulk x.1=Rows.uptoBulk y0.1+(Rows.uptoBulk y1.1+(Rows.uptoBulk y2.1+(Rows.uptoBulk y3.1+0)))+1:=by rw [hx];simp only [dR,vB,Rows.uptoBulk,Rows.uptoBulkAll]
  obtain ⟨x0,rfl⟩:=Eo r0;obtain ⟨x1,rfl⟩:=Eo r1.props;obtain ⟨x2,rfl⟩:=Eo r1.bg;obtain ⟨x3,rfl⟩:=Eo r1.layers;obtain ⟨x4,rfl⟩:=Eo r2;obtain ⟨x5,rfl⟩:=Eo r3.st;obtain ⟨x6,rfl⟩:=Eo r3.li;obtain ⟨x7,rfl⟩:=Eo r3.cm;obtain ⟨x8,rfl⟩:=Eo r3.va;obtain ⟨hz1,hz2⟩:=d3.zn (by omega);have l2:=lK (rv.map bD.dat);rw [bE] at l2;refine ⟨⟨x0,x1,x2,x3,x4,x5,x6,x7,x8,hd.marks.ins,hd.marks.move⟩,⟨l,hd,rv,s⟩,rfl,⟨r0,r1,rfl,rfl,r2,r3⟩,⟨by show aX l≤_;omega,by show oN hd≤_;omega,by show rv.length≤_;omega,fun x hx=>?_,hz2,hz1⟩⟩;have:=Er (dat:=bD.dat) hx
  simp only [bD.dat,bM,nP] at this
  omega
end
end
end Go.Proofs.YthmanofbmnfemaaGreat
