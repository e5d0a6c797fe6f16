/-
  What the claim stands on, part 4: Mt Hdr Hea Frm Itc Vis Okd Rws Itm Its Rvs Chd Ck13 Nf Vc Ubf Av16 Frs Hds Np13 Nq13 Rs24 Iat Bi13.
-/
import Derived.Test.YtdiflmikikiedaaGreatWjc
namespace Go.Proofs.YtdiflmikikiedaaGreat
set_option linter.all false
open Go.Proofs.Tryz
open Go.RowKit
section
section
variable {N:Nat} {D:List Deferred} {w0:World} {F:Nat->Prop} {G0 G G':GH} {L L':OL} {T:List (Nat × ah)}
variable {r:Option Nat} {P:Program} {ops:Array Oper} {Q:Exit->Act->World->Prop} {rest:List Oper} {a:Act} {w w':World}
theorem Er {ι:Type} {Tc:List (Nat × ah)} {l:List Oper} (k:Nat) (Tv:ι->List (Nat × ah)) (Pr:ι->Prop) (_:St N D w0 F G0 G L Tc a w)
  (h1:(∀ i a w,Pr i->St N D w0 F G0 G L (Tv i++Tc) a w->WL r P ops Q (l.drop k) a w)->WL r P ops Q l a w)
  (h2:∀ i a w,Pr i->St N D w0 F G0 G L (Tv i++Tc) a w->WL r P ops Q (l.drop k) a w):WL r P ops Q l a w:=h1 h2
theorem Change.back (h:Change w w' G G' L L'):Change w w' G G L L' :=
 ⟨h.os,h.tape,h.output,h.size,h.fr,fun _ _ h=>h,fun _ _ h=>.inl h,⟨fun k o hk=>h.owns.ro k o (h.gm k o hk),h.owns.own,fun p hp=>(by
  have hs:=h.owns.sep p hp
  cases hg:G p.1 with
  | none=>rfl
  | some o=>have:=h.gm _ _ hg;rw [hs] at this;cases this),h.owns.nd⟩,h.lx⟩
theorem fU.back {R:ah->GH->OL->Prop} {R':ah->OL->Prop} (hR:∀ v G' L',R v G' L'->R' v L') {e:Ending} (h:fU w G L R e w'):fU w G L (fun v G' L'=>G=G'∧R' v L') e w':=by
 obtain ⟨v,G',L',rfl,hc,hr⟩:=h
 exact ⟨v,G,L',rfl,hc.back,rfl,hR _ _ _ hr⟩
theorem Calls.alC {f:FuncId} {args:Array ah} {R:ah->GH->OL->Prop} {R':ah->OL->Prop} (h:Calls P f args w (fU w G L R)) (hR:∀ v G' L',R v G' L'->R' v L'):Calls P f args w (fU w G L fun v G' L'=>G=G'∧R' v L') :=
 h.mono fun _ _=>fU.back hR
theorem bK.back {R:ah->GH->Prop} {e:Ending} (h:bK w G R e w'):bK w G (fun v G'=>(∃ g,R v g)∧G=G') e w':=by
 obtain ⟨v,G',rfl,hb,hX,hr⟩:=h
 exact ⟨v,G,rfl,hb,⟨fun _ _ h=>h,fun _ _ h=>.inl h,fun k o hk=>hX.2.2 k o (hX.1 k o hk)⟩,⟨G',hr⟩,rfl⟩
theorem aav {f:FuncId} {args:Array ah} {R:ah->GH->Prop} (h:Calls P f args w (bK w G R)):Calls P f args w (bK w G fun v G'=>(∃ g,R v g)∧G=G'):=h.mono fun _ _=>bK.back
theorem gH.add {b:Nat} {o:Obj} (h:gH G ((b,o) :: L) w):Hold (G.add b o) w:=fun k o' hk=>by
 unfold GH.add at hk
 split at hk
 ·next e=>cases hk;subst e;exact h.own _ eT
 ·exact h.ro k o' hk
theorem ayn {b:Nat} {o:Obj} {R:ah->GH->Prop} {R':ah->Prop} (hO:gH G ((b,o) :: L) w) (hR:∀ v G',R v G'->R' v) {e:Ending} (h:bK w (G.add b o) R e w'):fU w G ((b,o) :: L) (fun v G' L'=>G=G'∧L'=(b,o) :: L∧R' v) e w':=by
 obtain ⟨v,G',rfl,hb,hX,hr⟩:=h
 exact ⟨v,G,_,rfl,(hO.hp.below hb).ajS,rfl,rfl,hR _ _ hr⟩
end
end
section
theorem P7:dH prog 161 0 0:=⟨by kernel_rfl⟩
theorem yK:dH prog 161 1 1:=⟨by kernel_rfl⟩
theorem P8:dH prog 161 3 3:=⟨by kernel_rfl⟩
theorem EK:dH prog 161 2 2:=⟨by kernel_rfl⟩
theorem aey:aQ 130:=aR func130 rfl
variable {us:List Int}
structure aZ where
 st:List bX
 nk:List Int
 kM:List Int
 us:List Int
abbrev bG (us:List Int) (st:List bX) (li:List fO) (rv:List bW):aZ:=⟨st,li.map fO.id,rv.map bW.id,us⟩
theorem Fj {G:GH} {l:List bS} {A:Option Addr} {n c k:Nat} (hv:au G (.sl 4 (l.map bS.dat)) (.slice A n c)) (hk:k < l.length):∃ b o,A=some ⟨b,o,none⟩∧(∀ j u,l[k].cells[j]?=some u->aH G b (o+k*4+j)=some u):=by
 obtain ⟨A',c',he,_,_,hg⟩:=hv.slice
 injection he with e1 e2 e3
 subst e1;obtain ⟨b,o,cs,h1,h2,h3,h4⟩:=hg k l[k].dat (by simp [hk]);have:=XV h4;subst this;exact Gp
theorem PV {G:GH} {l:List gF} {A:Option Addr} {n c k:Nat} (hv:au G (.sl 2 (l.map gF.dat)) (.slice A n c)) (hk:k < l.length):∃ b o,A=some ⟨b,o,none⟩∧(∀ j u,l[k].cells[j]?=some u->aH G b (o+k*2+j)=some u):=by
 obtain ⟨A',c',he,_,_,hg⟩:=hv.slice
 injection he with e1 e2 e3
 subst e1;obtain ⟨b,o,cs,h1,h2,h3,h4⟩:=hg k l[k].dat (by simp [hk]);have:=MI h4;subst this;exact Gp
def Bl (C:aZ) (e:Int) (k:Nat) (x:bS) (pk:Int):Int :=
 if x.rev∉C.kM then 22 else if wE e x.key=false then 4 else if 0 < k∧x.key < pk then 6 else if x.had=false then dz (decide (x.before≠0)) 21 else dL [uL x.key x.before,xX C.st C.nk x.key x.before]
def xR (C:aZ) (e:Int) (l:List bS) (k:Nat):Int:=match l[k]? with|some x=>Bl C e k x ((l[k - 1]?.map bS.key).getD 0)|none=>0
theorem Po {p:Prop} (h:p:=by
 refine lr H results132 rfl ?_
 exact H.rt (by rw [he];refine dh vi ?_;clear he hrow hrow' hq hx hy;unfold Bl;(repeat' split) <;> first|rfl|(simp_all;done)|(exfalso;simp_all;done))):p:=h
theorem abG {p:Prop} (h:p:=by
 intro a H;refine lr H results132 rfl ?_
 exact H.rt (by rw [he];refine dh vi ?_;clear he hrow hrow' hq hx hy;unfold Bl;(repeat' split) <;> first|rfl|(simp_all;done)|(exfalso;simp_all;done))):p:=h
theorem acs {p:Prop} (h:p:=by
 refine vZ 5 56 7 58 9 60 rfl rfl fun _ a w G1 hG HT H fin=>?_;refine s_call aey H wn rfl (adA _ _ H.ro st li rv b ms ml mr mb mu n x.key x.before (hck.mono hG) (hG _ _ hb)) rfl ?_;clear H;rintro v61 G61 a w ⟨rfl,-⟩ asy H;exact fin H asy (rfl)):p:=h
theorem acC {p:Prop} (h:p:=by
 refine dY 1 52 3 54 rfl rfl fun _ a w G1 hG HT H fin=>?_;refine s_call aeG H wn rfl (ady _ _ H.ro x.key x.before) rfl ?_;clear H;rintro v55 OE a w rfl asv H;exact fin H asv (rfl)):p:=h
theorem avT (G:GH) (w0:World) (hG:Hold G w0) (st:List bX) (li:List fO) (rv:List bW) (b ms ml mr mb mu:Nat) (n:Int) (hck:xg us G st li rv ms ml mr mu) (hb:G b=some (gV b ms ml mr mb mu n).2)
  (e:Int) (l:List bS) (v:ah) (hv:au G (.sl 4 (l.map bS.dat)) v) (k:Nat) (hk:k < l.length) :
  Calls prog 132 #[(aJ b 0),vi e,v,vi k] w0 (bK w0 G fun u G'=>u=vi (xR (bG us st li rv) e l k)):=by
 have hc2:aH G b 2=some (.map (some mr)):=by unfold aH;rw [hb];rfl
 obtain ⟨A,c,rfl,hl1,hl2,-⟩:=hv.slice;have hml:maxLen=9223372036854775807:=rfl;rw [bQ] at *;obtain ⟨xb,xo,rfl,hrow⟩:=Fj hv hk
 have hk1:k - 1 < l.length:=by omega
 obtain ⟨b',o',he',hrow'⟩:=Fj hv hk1
 injection he' with he'
 injection he' with e1 e2
 subst e1;subst e2
 have he:xR (bG us st li rv) e l k=Bl (bG us st li rv) e k l[k] l[k - 1].key:=by unfold xR;rw [dV hk,dV hk1];rfl
 obtain ⟨x,hx⟩:∃ x,x=l[k]:=⟨_,rfl⟩;obtain ⟨y,hy⟩:∃ y,y=l[k - 1]:=⟨_,rfl⟩;rw [<- hx] at hrow he;rw [<- hy] at hrow' he;have hq:=hrow' 1 _ rfl;refine eN [(0,_),(1,_),(2,_),(3,_)] func132 rfl ntmps132 rfl rfl hG ?_;intro a H;refine kP H (SR fun _ K1=>aj K1 rfl (SR fun _ K2=>Rm rfl (Rm rfl (Ri lK jN rfl rfl ?_))));clear H K1;intro a H;refine bP jN (cs:=x.cells) H wn rfl rfl (fun j v hj=>H.hp.aH (hrow j v hj)) rfl ?_;clear H;intro a H;refine dO jN H wn rfl ?_;clear H;intro b9 a w Cu H;refine bC jN 0 (vs:=[_,_,_,_]) H wn rfl ?_;clear H;intro w H;refine K2 _ _ ?_;clear K2;refine kP H (SQ fun _ K3=>SB (SQ fun _ K4=>?_));clear H;intro a H;refine dI hmx [[],[0],[0,1],[0,1,2],[],[4],ra 0 6,ra 0 7,ra 0 8] [8] (by kernel_rfl) [_,_,_,_,_,vi x.rev,.bool (decide (x.rev∈rv.map bW.id)),_] H (ay (Z0 rfl (Rm rfl)) (Z1 0 15 rfl (Rk rfl)) (Z1 1 16 rfl (Rf MO rfl)) (X1 2 17 rfl fun hG=>Rg rO rfl (aF hG hc2)) (ay (Z0 rfl (Rf P7 rfl)) (Z1 4 19 rfl (Ro aC 0 rfl)) ?_ (Z1 6 21 rfl (Rn rfl)) (bF (bR rfl) cK))) ?_
 ·refine dY 3 18 5 20 rfl rfl fun _ a w G1 hG HT H fin=>?_;refine CX (zv:=.bool false) yj mh (by kernel_rfl) H wn rfl rfl (H.ro _ _ (hG _ _ hck.rev)) rfl ?_;clear H;intro a H;rw [Iu] at H;exact Jy
 clear H;intro a w G DT H hv;have H:=H.aM (hv 7 22 rfl rfl) rfl;clear hv;refine kH H (Ra rfl ?_);clear H;intro a H;refine aD ⟨rfl,?_⟩;refine K4 _ _ ?_;clear K4;refine jS H rfl ?_ ?_
 ·intro iV
  try have uo:=dT iV
  refine kP H (SR fun _ K5=>aj K5 rfl ?_);clear H K5;intro a H;exact Po
 intro iV
 try have uo:=dF iV
 refine kP H (SR fun _ K6=>Rm rfl (bq yK aC 0 rfl rfl ?_));clear H;intro a H;refine s_call aeF H wn rfl (aav (afx _ _ H.ro e x.key)) rfl ?_;clear H;rintro v27 _ a w ⟨⟨_,rfl⟩,rfl⟩ - H;refine kH H (Rn rfl (aj K6 rfl (Cd rfl ?_ ?_))) <;> clear H K6
 ·intro h23 a H
  try have Bq:=dT h23
  refine kP H (SR fun _ K7=>aj K7 rfl ?_);clear H K7;intro a H;exact Po
 intro h23 a H
 try have Bq:=dF h23
 refine bD (fun _ K8=>?_);replace hq:=aF DT hq
 by_cases c0:0 < (k:Int)
 ·skip
  by_cases c1:x.key < y.key
  ·skip;refine dI hmx [[],[0],[0,1],[0,1,2],ra 0 4,[0,1,2],[0,1,2],[0,1,2,6],[0,1,2,5,6,7],[0,1,2,5,6,7,8],[0,1,2,5,6,7,8,9],ra 0 11,ra 0 12,ra 0 13] [13] (by kernel_rfl) [_,_,_,_,vi x.key,_,_,vi ((k - 1:Nat):Int),_,_,_,_,_] H (ay (Z0 rfl (Rm rfl)) (Z1 0 30 rfl (Rc rfl)) (Z1 1 31 rfl (Rm rfl)) (Z1 2 32 rfl (YF yK (aI c0) rfl)) (ay (Z2 3 33 2 32 rfl (YO aC 0 (aI c0) rfl)) (Z1 2 32 rfl (YM (aI c0) rfl)) (Z1 2 32 rfl (YM (aI c0) rfl)) ?_ (ay (Z3 5 35 7 37 2 32 rfl (YI lK jN (aI c0) rfl rfl)) (Z2 8 38 2 32 rfl (YF yK (aI c0) rfl)) (X2 9 39 2 32 rfl fun hG=>YR aC (aI c0) rfl (aF hG hq)) (Z3 4 34 10 40 2 32 rfl (YC (aI c0) rfl)) (bF (Z2 2 32 11 41 rfl (Pt (aI c0) rfl)) (bF (bR rfl) cK))))) ?_
   ·refine dY 6 36 2 32 rfl rfl fun _ a w G1 hG HT H fin=>?_;exact zG
   clear H;intro a w G kV H hv;have H:=H.aM (hv 12 42 rfl rfl) rfl;clear hv;refine kH H (Ra rfl ?_);clear H;intro a H;refine aD ⟨rfl,?_⟩;refine K8 _ _ ?_;clear K8;refine Ck H rfl (aI c1) ?_;refine bD (fun _ K9=>?_);have hz:0 < k∧x.key < y.key:=⟨by omega,c1⟩;refine kP H (SC (aX K9 rfl ?_));clear H K9;exact abG
  skip;refine dI hmx [[],[0],[0,1],[0,1,2],ra 0 4,[0,1,2],[0,1,2],[0,1,2,6],[0,1,2,5,6,7],[0,1,2,5,6,7,8],[0,1,2,5,6,7,8,9],ra 0 11,ra 0 12,ra 0 13] [13] (by kernel_rfl) [_,_,_,_,vi x.key,_,_,vi ((k - 1:Nat):Int),_,_,_,_,_] H (ay (Z0 rfl (Rm rfl)) (Z1 0 30 rfl (Rc rfl)) (Z1 1 31 rfl (Rm rfl)) (Z1 2 32 rfl (YF yK (aI c0) rfl)) (ay (Z2 3 33 2 32 rfl (YO aC 0 (aI c0) rfl)) (Z1 2 32 rfl (YM (aI c0) rfl)) (Z1 2 32 rfl (YM (aI c0) rfl)) ?_ (ay (Z3 5 35 7 37 2 32 rfl (YI lK jN (aI c0) rfl rfl)) (Z2 8 38 2 32 rfl (YF yK (aI c0) rfl)) (X2 9 39 2 32 rfl fun hG=>YR aC (aI c0) rfl (aF hG hq)) (Z3 4 34 10 40 2 32 rfl (YC (aI c0) rfl)) (bF (Z2 2 32 11 41 rfl (Pt (aI c0) rfl)) (bF (bR rfl) cK))))) ?_
  ·refine dY 6 36 2 32 rfl rfl fun _ a w G1 hG HT H fin=>?_;exact zG
  clear H;intro a w G kV H hv;have H:=H.aM (hv 12 42 rfl rfl) rfl;clear hv;refine kH H (Ra rfl ?_);clear H;intro a H;refine aD ⟨rfl,?_⟩;refine K8 _ _ ?_;clear K8;refine pO H rfl (aT c1) ?_;refine bD (fun _ aW=>?_)
  have hz:¬ (0 < k∧x.key < y.key):=by first|exact fun h=>c1 h.2|exact fun h=>c0 (by omega)
  refine kP H (SC (bq P8 Db 0 rfl rfl (Rn rfl (aX aW rfl (Cd rfl ?_ ?_))))) <;> clear H aW
  ·intro h43 a H
   try have p43:=dT h43
   refine kP H (SR fun _ bM=>bq EK aC 0 rfl rfl (Rc rfl ?_));clear H;intro a H;refine s_call mO H wn rfl (mY _ _ H.ro _ 21) rfl ?_;clear H;rintro v50 _ a w ⟨rfl,rfl⟩ - H;refine kH H (aj bM rfl ?_);clear H bM;exact abG
  intro h43 a H
  try have p43:=dF h43
  refine iB ?_;refine K3 _ _ ?_;clear K3;refine bD (fun _ bU=>?_);replace hck:=(hck.mono DT).mono kV;replace hb:=kV _ _ (DT _ _ hb);refine dI hmx [[],[0],[],[2],ra 0 4,[],[],[6],[],[8],ra 0 10,ra 0 11,ra 0 12,ra 0 13] [11,12,13] (by kernel_rfl) [_,vi x.key,_,vi x.before,vi (uL x.key x.before),_,_,vi x.key,_,vi x.before,vi (xX st (li.map fO.id) x.key x.before)] H (ay (Z0 rfl (Rf yK rfl)) (Z1 0 51 rfl (Ro aC 0 rfl)) (Z0 rfl (Rf EK rfl)) (Z1 2 53 rfl (Ro aC 0 rfl)) (ay ?_ (Z0 rfl (Rm rfl)) (Z0 rfl (Rf yK rfl)) (Z1 6 57 rfl (Ro aC 0 rfl)) (ay (Z0 rfl (Rf EK rfl)) (Z1 8 59 rfl (Ro aC 0 rfl)) ?_ (bR rfl) (bF (bR rfl) (bF (bR rfl) cK))))) ?_
  ·exact acC
  ·exact acs
  clear H;intro a w G wK H hv;have H:=H.aM (hv 4 55 rfl rfl) rfl;have H:=H.aM (hv 10 61 rfl rfl) rfl;clear hv;refine iT rP jv [_,_] [_,_] H wn rfl rfl rfl rfl rfl (by intro i q h;match i,h with|0,h=>exact h|1,h=>exact h|n+2,h=>simp at h) rfl rfl ?_;clear H;intro b62 a w atb H;obtain ⟨ZV,Nf,WM,H⟩:=H.fB;refine s_call sO H wn rfl (sQ _ _ H.ro _ _ (Ac WM)) rfl ?_;clear H;rintro v63 _ a w ⟨rfl,rfl⟩ - H;refine kH H (Ra rfl ?_);clear H;intro a H;refine aD ⟨rfl,?_⟩;refine bU _ _ ?_;clear bU;exact Po
 skip;refine dI hmx [[],[0],[0,1],[0,1,2],ra 0 4,[0,1,2],[0,1,2],[0,1,2,6],[0,1,2,5,6,7],[0,1,2,5,6,7,8],[0,1,2,5,6,7,8,9],ra 0 11,ra 0 12,ra 0 13] [13] (by kernel_rfl) [_,_,_,undef,undef,undef,undef,undef,undef,undef,undef,undef,_] H (ay (Z0 rfl (Rm rfl)) (Z1 0 30 rfl (Rc rfl)) (Z1 1 31 rfl (Rm rfl)) (aU 2 (aT c0) rfl rfl) (ay (aU 2 (aT c0) rfl rfl) (aU 2 (aT c0) rfl rfl) (aU 2 (aT c0) rfl rfl) (aU 2 (aT c0) rfl rfl) (ay (aU 2 (aT c0) rfl rfl) (aU 2 (aT c0) rfl rfl) (aU 2 (aT c0) rfl rfl) (aU 2 (aT c0) rfl rfl) (bF (Z2 2 32 11 41 rfl (Pf (aT c0) rfl)) (bF (bR rfl) cK))))) ?_
 clear H;intro a w G kV H hv;have H:=H.aM (hv 12 42 rfl rfl) rfl;clear hv;refine kH H (Ra rfl ?_);clear H;intro a H;refine aD ⟨rfl,?_⟩;refine K8 _ _ ?_;clear K8;refine pO H rfl rfl ?_;refine bD (fun _ bY=>?_)
 have hz:¬ (0 < k∧x.key < y.key):=by first|exact fun h=>c1 h.2|exact fun h=>c0 (by omega)
 refine kP H (SC (bq P8 Db 0 rfl rfl (Rn rfl (aX bY rfl (Cd rfl ?_ ?_))))) <;> clear H bY
 ·intro h43 a H
  try have p43:=dT h43
  refine kP H (SR fun _ cZ=>bq EK aC 0 rfl rfl (Rc rfl ?_));clear H;intro a H;refine s_call mO H wn rfl (mY _ _ H.ro _ 21) rfl ?_;clear H;rintro v50 _ a w ⟨rfl,rfl⟩ - H;refine kH H (aj cZ rfl ?_);clear H cZ;intro a H;exact Po
 intro h43 a H
 try have p43:=dF h43
 refine iB ?_;refine K3 _ _ ?_;clear K3;refine bD (fun _ dQ=>?_);replace hck:=(hck.mono DT).mono kV;replace hb:=kV _ _ (DT _ _ hb);refine dI hmx [[],[0],[],[2],ra 0 4,[],[],[6],[],[8],ra 0 10,ra 0 11,ra 0 12,ra 0 13] [11,12,13] (by kernel_rfl) [_,vi x.key,_,vi x.before,vi (uL x.key x.before),_,_,vi x.key,_,vi x.before,vi (xX st (li.map fO.id) x.key x.before)] H (ay (Z0 rfl (Rf yK rfl)) (Z1 0 51 rfl (Ro aC 0 rfl)) (Z0 rfl (Rf EK rfl)) (Z1 2 53 rfl (Ro aC 0 rfl)) (ay ?_ (Z0 rfl (Rm rfl)) (Z0 rfl (Rf yK rfl)) (Z1 6 57 rfl (Ro aC 0 rfl)) (ay (Z0 rfl (Rf EK rfl)) (Z1 8 59 rfl (Ro aC 0 rfl)) ?_ (bR rfl) (bF (bR rfl) (bF (bR rfl) cK))))) ?_
 ·exact acC
 ·exact acs
 clear H;intro a w G wK H hv;have H:=H.aM (hv 4 55 rfl rfl) rfl;have H:=H.aM (hv 10 61 rfl rfl) rfl;clear hv;refine iT rP jv [_,_] [_,_] H wn rfl rfl rfl rfl rfl (by intro i q h;match i,h with|0,h=>exact h|1,h=>exact h|n+2,h=>simp at h) rfl rfl ?_;clear H;intro b62 a w atb H;obtain ⟨ZV,Nf,WM,H⟩:=H.fB;refine s_call sO H wn rfl (sQ _ _ H.ro _ _ (Ac WM)) rfl ?_;clear H;rintro v63 _ a w ⟨rfl,rfl⟩ - H;refine kH H (Ra rfl ?_);clear H;intro a H;refine aD ⟨rfl,?_⟩;refine dQ _ _ ?_;clear dQ;refine lr H results132 rfl ?_
 exact H.rt (by rw [he];refine dh vi ?_;clear he hrow hrow' hq hx hy;unfold Bl;(repeat' split) <;> first|rfl|(simp_all;done)|(exfalso;simp_all;done))
end
section
theorem La:Ty prog 123 1 8 [.pointer none] false:=⟨by kernel_rfl,by kernel_rfl⟩
theorem aoD:aQ 132:=aR func132 rfl
theorem Ep:Ty prog 27 4 64 [.int .i64 0,.int .i64 0,.slice none 0 0,.slice none 0 0] true:=⟨by kernel_rfl,by kernel_rfl⟩
theorem EJ:dH prog 159 0 0:=⟨by kernel_rfl⟩
theorem afm:dH prog 159 1 1:=⟨by kernel_rfl⟩
theorem aoC:aQ 131:=aR func131 rfl
variable {us:List Int}
theorem avR {G:GH} {st:List bX} {li:List fO} {rv:List bW} {b ms ml mr mb mu:Nat} {n:Int} (hck:xg us G st li rv ms ml mr mu) (hb:G b=some (gV b ms ml mr mb mu n).2)
  {x3 x4 Zz:Nat} {e:Int} {l:List bS} {v:ah} (h3:aH G x3 0=some (aJ b 0)) (h4:aH G x4 0=some (vi e)) (h11:aH G Zz 3=some v) (hv:au G (.sl 4 (l.map bS.dat)) v) :
  vB (.func (.func 131) #[] #[(aJ x3 0),(aJ x4 0),(aJ Zz 0)]) G l.length (xR (bG us st li rv) e l):=by
 intro k hk G1 w0 hm hG;refine jJ (caps:=[(aJ x3 0),(aJ x4 0),(aJ Zz 0)]) aoC ?_;replace h3:=aF hm h3;replace h4:=aF hm h4;replace h11:=aF hm h11;replace hv:=hv.mono hm;obtain ⟨vA,vn,vc,rfl⟩:=hv.form;refine eN [(0,_),(1,_),(2,_),(3,_)] func131 rfl ntmps131 rfl rfl hG ?_;intro a H;refine kP H (SR fun _ K1=>aj K1 rfl (SR fun _ K2=>Rg La rfl (by assumption) ?_));clear H K1;intro a H;refine kH H (Rg aC rfl (by assumption) ?_);clear H;intro a H;refine kH H (Rf Az rfl (Rg BD rfl (by assumption) ?_));clear H;intro a H;refine kH H (Rm rfl ?_);clear H;intro a H;refine s_call aoD H wn rfl (avT _ _ H.ro st li rv b ms ml mr mb mu n (hck.mono hm) (hm _ _ hb) e l _ hv k hk) rfl ?_;clear H;rintro v11 zq a w rfl DW H;exact kH H (aj K2 rfl (LR results131 rfl fun H=>H.rt rfl))
def zi (C:aZ) (l:List aL):Int:=dL (l.map fun p=>xX C.st C.nk p.key p.value)
def jX (C:aZ) (m:zw):Int:=if m.ins≠0∧m.ins∉C.kM then 22 else if ¬ (0<=m.move∧m.move<=1073741824)∨(m.move≠0∧m.ins=0) then 21 else if 16 < (m.bE.length:Int) then 9 else 0
def uN (C:aZ) (k:Nat) (x:gF) (pr:Int):Int:=if x.rev∉C.kM then 22 else if 0 < k∧x.rev<=pr then 6 else if ¬ (0<=x.move∧x.move<=1073741824) then 21 else 0
def tX (C:aZ) (l:List gF) (k:Nat):Int:=match l[k]? with|some x=>uN C k x ((l[k - 1]?.map gF.rev).getD 0)|none=>0
def iD (C:aZ) (e:Int) (h:dJ):Int:=dL [ru e h.props,zi C h.props,jX C h.marks,iU (tX C h.marks.bE) h.marks.bE.length,dz (decide (64 < (h.marks.layers.length:Int))) 9,iU (xR C e h.marks.layers) h.marks.layers.length]
theorem aty {C:aZ} {e:Int} {h:dJ} (h1:ru e h.props≠0):iD C e h=ru e h.props:=by simp [iD,dL,h1]
theorem atz {C:aZ} {e:Int} {h:dJ} (h1:ru e h.props=0) (h2:zi C h.props≠0):iD C e h=zi C h.props:=by simp [iD,dL,h1,h2]
theorem DU {C:aZ} {e:Int} {h:dJ} (h1:ru e h.props=0) (h2:zi C h.props=0) (h3:jX C h.marks≠0):iD C e h=jX C h.marks:=by simp [iD,dL,h1,h2,h3]
theorem atA {C:aZ} {e:Int} {h:dJ} (h1:ru e h.props=0) (h2:zi C h.props=0) (h3:jX C h.marks=0) (h4:iU (tX C h.marks.bE) h.marks.bE.length≠0):iD C e h=iU (tX C h.marks.bE) h.marks.bE.length:=by simp [iD,dL,h1,h2,h3,h4]
theorem atB {C:aZ} {e:Int} {h:dJ} (h1:ru e h.props=0) (h2:zi C h.props=0) (h3:jX C h.marks=0) (h4:iU (tX C h.marks.bE) h.marks.bE.length=0) (h5:64 < (h.marks.layers.length:Int)):iD C e h=9:=by simp [iD,dL,h1,h2,h3,h4,dz,h5]
theorem atC {C:aZ} {e:Int} {h:dJ} (h1:ru e h.props=0) (h2:zi C h.props=0) (h3:jX C h.marks=0) (h4:iU (tX C h.marks.bE) h.marks.bE.length=0) (h5:¬ 64 < (h.marks.layers.length:Int)):iD C e h=iU (xR C e h.marks.layers) h.marks.layers.length:=by simp [iD,dL,h1,h2,h3,h4,dz,h5];exact Eq.symm
theorem aiV {C:aZ} {l:List aL} {k:Nat} (h:k < l.length):dL ((l.map fun p=>xX C.st C.nk p.key p.value).drop k)=if xX C.st C.nk l[k].key l[k].value≠0 then xX C.st C.nk l[k].key l[k].value else dL ((l.map fun p=>xX C.st C.nk p.key p.value).drop (k+1)):=by
 rw [Qh (by simpa using h)];simp
theorem alR {p:Prop} (h:p:=by
 exact fin H iJ (by show _=_;first|rfl|exact iK decide_not.symm)):p:=h
theorem aaR {p:Prop} (h:p:=by
 exact ⟨by omega,by rw [Gm hk2,av (by rw [hde];simpa using ags)] at heq;exact heq,hGk⟩):p:=h
theorem acu {p:Prop} (h:p:=by
 refine vZ 7 48 9 50 3 44 rfl rfl fun _ a w G1 hG HT H fin=>?_;refine CX (zv:=.bool false) yj mh (by kernel_rfl) H (wg H rfl rfl (aI c0)) rfl rfl (H.ro _ _ (hG _ _ hck.rev)) rfl ?_;clear H;intro a H;rw [Iu] at H;exact Jy):p:=h
theorem acY {p:Prop} (h:p:=by
 refine dY 10 51 3 44 rfl rfl fun _ a w G1 hG HT H fin=>?_;refine kH H (YN (aI c0) rfl ?_);clear H;intro a H;exact alR):p:=h
theorem Pg {p:Prop} (h:p:=by
 refine zl _ H (wg H rfl rfl (aI c3)) rfl rfl rfl (by omega) (by omega) rfl ?_;exact Mh):p:=h
theorem atD (G:GH) (w0:World) (hG:Hold G w0) (st:List bX) (li:List fO) (rv:List bW) (b ms ml mr mb mu:Nat) (n:Int) (hck:xg us G st li rv ms ml mr mu) (hb:G b=some (gV b ms ml mr mb mu n).2)
  (e:Int) (h:dJ) (p d l:ah) (hh:jy G h p d l) (hz:mK h<=4294967296) :
  Calls prog 70 #[(aJ b 0),vi e,rX h p d l] w0 (bK w0 G fun u G'=>u=vi (iD (bG us st li rv) e h)):=by
 obtain ⟨pA,pc,rfl,-,-,-⟩:=hh.props.slice;obtain ⟨dA,dc,rfl,-,-,-⟩:=hh.bE.slice;obtain ⟨lA,lc,rfl,-,-,-⟩:=hh.layers.slice;have hml:maxLen=9223372036854775807:=rfl;have hzz:=FM h;have hz1:=pq (h.props.map aL.dat);have hz2:=pq (h.marks.bE.map gF.dat);have hz3:=pq (h.marks.layers.map bS.dat)
 simp only [bQ] at hh hz1 hz2 hz3 |-
 generalize mK h=zz at hz hzz
 refine eN [(0,_),(1,_),(2,_)] func70 rfl ntmps70 rfl rfl hG ?_;intro a H;refine cO (fun _ K1=>?_);refine dW (cs:=[_]) H wn rfl rfl rfl ?_;clear H;intro b3 a w hb3 H;refine dW (cs:=[_]) H wn rfl rfl rfl ?_;clear H;intro b4 a w hb4 H;refine dW (cs:=[_,_,_,_,_]) H wn rfl rfl rfl ?_;clear H;intro b5 a w hb5 H;refine kH H (aj K1 rfl (SQ fun _ K2=>SQ fun _ K3=>?_));clear H K1;intro a H;obtain ⟨Ga5,QC,zQ,H⟩:=H.fB;obtain ⟨Ga4,Kj,AY,H⟩:=H.fB;obtain ⟨Ga,E9,yR,H⟩:=H.fB;replace zQ:=E9 _ _ (Kj _ _ zQ);replace AY:=E9 _ _ AY;have hma:∀ b o,G b=some o->Ga b=some o:=fun b o h=>E9 _ _ (Kj _ _ (QC _ _ h));clear E9 Kj QC;replace hck:=hck.mono hma;replace hb:=hma _ _ hb;replace hh:=hh.mono hma
 have g3:aH Ga b3 0=some (aJ b 0):=by unfold aH;rw [yR];rfl
 have g4:aH Ga b4 0=some (vi e):=by unfold aH;rw [AY];rfl
 have g50:aH Ga b5 0=some (.slice pA h.props.length pc):=by unfold aH;rw [zQ];rfl
 have g51:∀ (j:Nat) (u:ah),[vi h.marks.ins,vi h.marks.move,.slice dA h.marks.bE.length dc,.slice lA h.marks.layers.length lc][j]?=some u->aH Ga b5 (1+j)=some u:=by
  intro j u hj
  unfold aH;rw [zQ]
  match j,hj with
  | 0,hj=>exact hj
  | 1,hj=>exact hj
  | 2,hj=>exact hj
  | 3,hj=>exact hj
  | n+4,hj=>simp at hj
 have hc2:aH Ga b 2=some (.map (some mr)):=by unfold aH;rw [hb];rfl
 refine kP H (SC (Rg aC rfl (by assumption) ?_));clear H;intro a H;refine kH H (Rf yL rfl (Rg vk rfl (by assumption) ?_));clear H;intro a H;refine s_call aex H wn rfl (aav (aiL _ _ H.ro e h.props _ hh.props)) rfl ?_;clear H;rintro v17 _ a w ⟨⟨_,rfl⟩,rfl⟩ - H;refine kH H (aX K3 rfl (SR fun _ K4=>Rm rfl (Rc rfl (Kz K4 (Cd rfl ?_ ?_))))) <;> clear H K3 K4
 ·intro h19 a H
  try have tC:=dT h19
  refine bD (fun _ K5=>?_);have hE:=aty (C:=bG us st li rv) (e:=e) (h:=h) tC;exact kP H (SC (Rm rfl (aX K5 rfl (LR results70 rfl fun H=>H.rt (by rw [hE])))))
 intro h19 a H
 try have tC:=dF h19
 have e1:ru e h.props=0:=by simpa using tC
 refine kP H (Kc K2 (SQ fun _ K6=>SR fun _ K7=>Rf yL rfl (Rg vk rfl (by assumption) ?_)));clear H K2;intro a H;refine kH H (Rl gT rfl (Rm rfl (Kz K7 (SB ?_))));clear H K7;intro a H;skip;refine eX (ι:=Nat) (Tc:=[(3,_),(4,_),(5,_),(22,_),(23,_)]) (Lc:=[]) (fun gh=>[(24,vi gh)]) (fun gh=>[]) (fun gh=>Ga) (fun gh=>gh<=h.props.length∧dL ((h.props.map fun p=>xX st (li.map fO.id) p.key p.value).drop gh)=zi (bG us st li rv) h.props) (fun gh=>h.props.length - gh) (0) (by exact H.sub ⟨rfl,rfl,rfl,rfl,rfl,rfl,aB⟩) ?_ ?_
 ·exact Ju
 clear H;intro k a w hI H;obtain ⟨hk,heq⟩:=hI;dsimp only [lca,bJ] at H;refine kP H (SR fun _ K8=>Rc rfl (Kz K8 (SQ fun _ K9=>Cd rfl ?_ ?_))) <;> clear H K8
 ·intro iy a H
  try have p25:=dT iy
  have hk2:k < h.props.length:=by omega
  obtain ⟨xb,xo,rfl,hrow⟩:=IG hh.props hk2;refine kP H (Kc K9 (SQ fun _ aW=>SB (SR fun _ bM=>Ri gT iq rfl rfl ?_)));clear H K9;intro a H;refine bP iq (cs:=[_,_]) H wn rfl rfl (fun j v hj=>H.hp.aH (hrow j v hj)) rfl ?_;clear H;intro a H;refine dO iq H wn rfl ?_;clear H;intro b9 a w Cu H;refine bC iq 0 (vs:=[_,_]) H wn rfl ?_;clear H;intro w H;refine bM _ _ ?_;clear bM;refine kP H (SR fun _ bU=>Rg La rfl (by assumption) ?_);clear H;intro a H;refine kH H (bq xL aC 0 rfl rfl (bq P9 aC 0 rfl rfl ?_));clear H;intro a H;refine s_call aey H wn rfl (adA _ _ H.ro st li rv b ms ml mr mb mu n h.props[k].key h.props[k].value hck hb) rfl ?_;clear H;rintro v33 _ a w ⟨rfl,rfl⟩ - H;refine kH H (aj bU rfl (SR fun _ bY=>Rm rfl (Rc rfl (Kz bY (Cd rfl ?_ ?_))))) <;> clear H bU bY
  ·intro gX a H
   try have p35:=dT gX
   refine bD (fun _ cZ=>?_)
   have hr:zi (bG us st li rv) h.props=xX st (li.map fO.id) h.props[k].key h.props[k].value:=by rw [<- heq];exact (aiV (C:=bG us st li rv) hk2).trans (aG p35)
   have hE:=(atz (C:=bG us st li rv) (e:=e) (h:=h) e1 (by rw [hr];exact p35)).trans hr;exact kP H (SC (Rm rfl (aX cZ rfl (LR results70 rfl fun H=>H.rt (by rw [hE])))))
  intro gX a H
  try have p35:=dF gX
  refine kP H (Kc aW (SC (Rd rfl (Rm rfl ?_))));clear H aW;intro a H;refine aD ?_;refine dG ((k+1)) (by exact (H.eD (Pl:=[_]) (dN:=[]) [] (by decide) rfl).sub ⟨rfl,rfl,rfl,rfl,rfl,rfl,aB⟩) ?_
  exact ⟨by omega,by rw [aiV (C:=bG us st li rv) hk2,av (by simpa using p35)] at heq;exact heq⟩
 intro iy a H
 try have p25:=dF iy
 refine dP ?_;refine K6 _ _ ?_;clear K6;refine bD (fun _ dQ=>?_)
 have e2:zi (bG us st li rv) h.props=0:=by rw [<- heq,pJ (by rw [bQ];omega)];rfl
 refine kP H (SC (Rf qo rfl ?_));clear H;intro a H;refine bP Ep (cs:=[vi h.marks.ins,vi h.marks.move,.slice dA h.marks.bE.length dc,.slice lA h.marks.layers.length lc]) H wn rfl rfl (fun j v hj=>H.hp.aH (g51 j v hj)) rfl ?_;clear H;intro a H;refine dO Ep H wn rfl ?_;clear H;intro b11 a w J6 H;refine bC Ep 0 (vs:=[_,_,_,_]) H wn rfl ?_;clear H;intro w H;obtain ⟨Gb,hmb,Cr,H⟩:=H.fB;replace hck:=hck.mono hmb;replace hb:=hmb _ _ hb;replace hh:=hh.mono hmb;replace g3:=aF hmb g3;replace g4:=aF hmb g4;replace hc2:=aF hmb hc2
 have q0:aH Gb b11 0=some (vi h.marks.ins):=by unfold aH;rw [Cr];rfl
 have q1:aH Gb b11 1=some (vi h.marks.move):=by unfold aH;rw [Cr];rfl
 have q2:aH Gb b11 2=some (.slice dA h.marks.bE.length dc):=by unfold aH;rw [Cr];rfl
 have q3:aH Gb b11 3=some (.slice lA h.marks.layers.length lc):=by unfold aH;rw [Cr];rfl
 have hcb:=avR hck hb g3 g4 q3 hh.layers;refine aD ?_;refine dQ _ _ ?_;clear dQ;refine tT (ι:=GH) (Tc:=[(3,_),(4,_),(11,_)]) (Lc:=[]) (fun gh=>[]) (fun gh=>[]) (fun gh=>gh) (fun gh=>jX (bG us st li rv) h.marks=0∧(∀ b o,Gb b=some o->gh b=some o)) (by exact H.sub ⟨rfl,rfl,rfl,aB⟩) ?_ ?_
 ·skip;refine Cj ?_;refine bD (fun _ dR=>?_)
  by_cases c0:h.marks.ins≠0
  ·skip
   by_cases c1:h.marks.ins∉rv.map bW.id
   ·skip;refine dI hmx [[],[0],[0,1],[0,1,2],ra 0 4,ra 0 5,ra 0 6,ra 0 7,ra 0 4,[0,1,2,3,8],ra 0 10,ra 0 11,ra 0 12,ra 0 13] [13] (by kernel_rfl) [_,_,_,_,_,(aJ b 0),_,_,_,_,.bool (decide (h.marks.ins∈rv.map bW.id)),.bool (decide (h.marks.ins∉rv.map bW.id)),_] H (ay (Z0 rfl (Rf sP rfl)) (X1 0 41 rfl fun hG=>Rg aC rfl (aF hG q0)) (Z1 1 42 rfl (Rc rfl)) (Z1 2 43 rfl (Rm rfl)) (ay (X1 3 44 rfl fun hG=>YR La (aI c0) rfl (aF hG g3)) ?_ (Z2 5 46 3 44 rfl (YF MO (aI c0) rfl)) (X2 6 47 3 44 rfl fun hG=>YR rO (aI c0) rfl (aF hG hc2)) (ay (Z1 3 44 rfl (YF sP (aI c0) rfl)) (X2 8 49 3 44 rfl fun hG=>YR aC (aI c0) rfl (aF hG q0)) ?_ ?_ (bF (Z2 3 44 11 52 rfl (Pt (aI c0) rfl)) (bF (bR rfl) cK))))) ?_
    ·refine dY 4 45 3 44 rfl rfl fun _ a w G1 hG HT H fin=>?_;exact Ph
    ·exact acu
    ·exact acY
    clear H;intro a w G oH H hv;have H:=H.aM (hv 12 53 rfl rfl) rfl;clear hv;refine kH H (Ra rfl ?_);clear H;intro a H;refine aD ⟨rfl,?_⟩;refine dR _ _ ?_;clear dR;refine Ck H rfl (aI c1) ?_;refine bD (fun _ dK=>?_);have e3:jX (bG us st li rv) h.marks=22:=aG ⟨c0,c1⟩;have hE:=(DU (C:=bG us st li rv) (e:=e) (h:=h) e1 e2 (by rw [e3];decide)).trans e3;exact kP H (SC (aX dK rfl (LR results70 rfl fun H=>H.rt (by rw [hE]))))
   skip;refine dI hmx [[],[0],[0,1],[0,1,2],ra 0 4,ra 0 5,ra 0 6,ra 0 7,ra 0 4,[0,1,2,3,8],ra 0 10,ra 0 11,ra 0 12,ra 0 13] [13] (by kernel_rfl) [_,_,_,_,_,(aJ b 0),_,_,_,_,.bool (decide (h.marks.ins∈rv.map bW.id)),.bool (decide (h.marks.ins∉rv.map bW.id)),_] H (ay (Z0 rfl (Rf sP rfl)) (X1 0 41 rfl fun hG=>Rg aC rfl (aF hG q0)) (Z1 1 42 rfl (Rc rfl)) (Z1 2 43 rfl (Rm rfl)) (ay (X1 3 44 rfl fun hG=>YR La (aI c0) rfl (aF hG g3)) ?_ (Z2 5 46 3 44 rfl (YF MO (aI c0) rfl)) (X2 6 47 3 44 rfl fun hG=>YR rO (aI c0) rfl (aF hG hc2)) (ay (Z1 3 44 rfl (YF sP (aI c0) rfl)) (X2 8 49 3 44 rfl fun hG=>YR aC (aI c0) rfl (aF hG q0)) ?_ ?_ (bF (Z2 3 44 11 52 rfl (Pt (aI c0) rfl)) (bF (bR rfl) cK))))) ?_
   ·refine dY 4 45 3 44 rfl rfl fun _ a w G1 hG HT H fin=>?_;exact Ph
   ·exact acu
   ·exact acY
   clear H;intro a w G oH H hv;have H:=H.aM (hv 12 53 rfl rfl) rfl;clear hv;refine kH H (Ra rfl ?_);clear H;intro a H;refine aD ⟨rfl,?_⟩;refine dR _ _ ?_;clear dR;refine pO H rfl (aT c1) ?_;refine bD (fun _ dX=>?_)
   have hno:¬ (h.marks.ins≠0∧h.marks.ins∉(bG us st li rv).kM):=by first|exact fun h=>c1 h.2|exact fun h=>c0 h.1
   replace q0:=aF oH q0;replace q1:=aF oH q1;replace q2:=aF oH q2;refine kP H (SC (Rf Cn rfl (Rg aC rfl (by assumption) ?_)));clear H;intro a H;refine s_call yI H wn rfl (yY _ _ H.ro h.marks.move 0 1073741824) rfl ?_;clear H;rintro v57 _ a w ⟨rfl,rfl⟩ - H;refine kH H (Rn rfl (Rm rfl (Sp 59 rfl ?_ ?_))) <;> clear H
   ·intro iQ a H
    try have p59:=dT iQ
    refine kH H (aP iQ rfl (aP iQ rfl (Ku rfl (Ku rfl (Ku rfl (Ks iQ rfl (Pt iQ rfl (aX dX rfl (Ct rfl rfl (SQ fun _ fM=>?_))))))))));clear H dX;intro a H
    have e3:jX (bG us st li rv) h.marks=21:=by unfold jX;rw [av hno,aG (by first|(simp_all;done)|(simp_all;omega))]
    have hE:=(DU (C:=bG us st li rv) (e:=e) (h:=h) e1 e2 (by rw [e3];decide)).trans e3;exact kP H (SC (aX fM rfl (LR results70 rfl fun H=>H.rt (by rw [hE]))))
   intro iQ a H
   try have p59:=dF iQ
   refine kH H (YF Cn iQ rfl (YR aC iQ rfl (by assumption) ?_));clear H;intro a H;refine kH H (YC iQ rfl (YM iQ rfl (Sp 63 rfl ?_ ?_))) <;> clear H
   ·intro h63 a H
    try have p63:=dT h63
    refine kH H (YF sP h63 rfl (YR aC h63 rfl (by assumption) ?_));clear H;intro a H;refine kH H (YC h63 rfl (PT iQ h63 rfl (Pf iQ rfl (aX dX rfl (Cd rfl ?_ ?_))))) <;> clear H dX
    ·intro iC a H
     try have p54:=dT iC
     refine bD (fun _ eP=>?_)
     have e3:jX (bG us st li rv) h.marks=21:=by unfold jX;rw [av hno,aG (by first|(simp_all;done)|(simp_all;omega))]
     have hE:=(DU (C:=bG us st li rv) (e:=e) (h:=h) e1 e2 (by rw [e3];decide)).trans e3;exact kP H (SC (aX eP rfl (LR results70 rfl fun H=>H.rt (by rw [hE]))))
    intro iC a H
    try have p54:=dF iC
    refine bD (fun _ gB=>?_)
    have hn2:¬ (¬ (0<=h.marks.move∧h.marks.move<=1073741824)∨(h.marks.move≠0∧h.marks.ins=0)):=by first|(simp_all;done)|(simp_all;omega)
    refine kP H (SC (Rf tY rfl (Rg uw rfl (by assumption) ?_)));clear H;intro a H;refine kH H (Rl oz rfl (Rc rfl (aX gB rfl (Cd rfl ?_ ?_)))) <;> clear H gB
    ·intro sS a H
     refine bD (fun _ iH=>?_)
     have e3:jX (bG us st li rv) h.marks=9:=by unfold jX;rw [av hno,av hn2,aG (by simpa using sS)]
     have hE:=(DU (C:=bG us st li rv) (e:=e) (h:=h) e1 e2 (by rw [e3];decide)).trans e3;exact kP H (SC (aX iH rfl (LR results70 rfl fun H=>H.rt (by rw [hE]))))
    intro sS a H
    have e3:jX (bG us st li rv) h.marks=0:=by unfold jX;rw [av hno,av hn2,av (by simpa using sS)]
    refine iB ?_;refine ⟨_,by exact H.sub ⟨rfl,rfl,rfl,aB⟩,?_⟩;exact ⟨e3,oH⟩
   intro h63 a H
   try have p63:=dF h63
   refine kH H (bB h63 rfl (PF iQ h63 rfl (Pf iQ rfl (aX dX rfl (Cf rfl rfl (SQ fun _ jP=>?_))))));clear H dX;intro a H
   have hn2:¬ (¬ (0<=h.marks.move∧h.marks.move<=1073741824)∨(h.marks.move≠0∧h.marks.ins=0)):=by first|(simp_all;done)|(simp_all;omega)
   refine kP H (SC (Rf tY rfl (Rg uw rfl (by assumption) ?_)));clear H;intro a H;refine kH H (Rl oz rfl (Rc rfl (aX jP rfl (Cd rfl ?_ ?_)))) <;> clear H jP
   ·intro sS a H
    refine bD (fun _ jH=>?_)
    have e3:jX (bG us st li rv) h.marks=9:=by unfold jX;rw [av hno,av hn2,aG (by simpa using sS)]
    have hE:=(DU (C:=bG us st li rv) (e:=e) (h:=h) e1 e2 (by rw [e3];decide)).trans e3;exact kP H (SC (aX jH rfl (LR results70 rfl fun H=>H.rt (by rw [hE]))))
   intro sS a H
   have e3:jX (bG us st li rv) h.marks=0:=by unfold jX;rw [av hno,av hn2,av (by simpa using sS)]
   refine iB ?_;refine ⟨_,by exact H.sub ⟨rfl,rfl,rfl,aB⟩,?_⟩;exact ⟨e3,oH⟩
  skip;refine dI hmx [[],[0],[0,1],[0,1,2],ra 0 4,ra 0 5,ra 0 6,ra 0 7,ra 0 4,[0,1,2,3,8],ra 0 10,ra 0 11,ra 0 12,ra 0 13] [13] (by kernel_rfl) [_,_,_,_,undef,undef,undef,undef,undef,undef,undef,undef,_] H (ay (Z0 rfl (Rf sP rfl)) (X1 0 41 rfl fun hG=>Rg aC rfl (aF hG q0)) (Z1 1 42 rfl (Rc rfl)) (Z1 2 43 rfl (Rm rfl)) (ay (aU 3 (aT c0) rfl rfl) (aU 3 (aT c0) rfl rfl) (aU 3 (aT c0) rfl rfl) (aU 3 (aT c0) rfl rfl) (ay (aU 3 (aT c0) rfl rfl) (aU 3 (aT c0) rfl rfl) (aU 3 (aT c0) rfl rfl) (aU 3 (aT c0) rfl rfl) (bF (Z2 3 44 11 52 rfl (Pf (aT c0) rfl)) (bF (bR rfl) cK))))) ?_
  clear H;intro a w G oH H hv;have H:=H.aM (hv 12 53 rfl rfl) rfl;clear hv;refine kH H (Ra rfl ?_);clear H;intro a H;refine aD ⟨rfl,?_⟩;refine dR _ _ ?_;clear dR;refine pO H rfl rfl ?_;refine bD (fun _ jr=>?_)
  have hno:¬ (h.marks.ins≠0∧h.marks.ins∉(bG us st li rv).kM):=by first|exact fun h=>c1 h.2|exact fun h=>c0 h.1
  replace q0:=aF oH q0;replace q1:=aF oH q1;replace q2:=aF oH q2;refine kP H (SC (Rf Cn rfl (Rg aC rfl (by assumption) ?_)));clear H;intro a H;refine s_call yI H wn rfl (yY _ _ H.ro h.marks.move 0 1073741824) rfl ?_;clear H;rintro v57 _ a w ⟨rfl,rfl⟩ - H;refine kH H (Rn rfl (Rm rfl (Sp 59 rfl ?_ ?_))) <;> clear H
  ·intro iQ a H
   try have p59:=dT iQ
   refine kH H (aP iQ rfl (aP iQ rfl (Ku rfl (Ku rfl (Ku rfl (Ks iQ rfl (Pt iQ rfl (aX jr rfl (Ct rfl rfl (SQ fun _ kN=>?_))))))))));clear H jr;intro a H
   have e3:jX (bG us st li rv) h.marks=21:=by unfold jX;rw [av hno,aG (by first|(simp_all;done)|(simp_all;omega))]
   have hE:=(DU (C:=bG us st li rv) (e:=e) (h:=h) e1 e2 (by rw [e3];decide)).trans e3;exact kP H (SC (aX kN rfl (LR results70 rfl fun H=>H.rt (by rw [hE]))))
  intro iQ a H
  try have p59:=dF iQ
  refine kH H (YF Cn iQ rfl (YR aC iQ rfl (by assumption) ?_));clear H;intro a H;refine kH H (YC iQ rfl (YM iQ rfl (Sp 63 rfl ?_ ?_))) <;> clear H
  ·intro h63 a H
   try have p63:=dT h63
   refine kH H (YF sP h63 rfl (YR aC h63 rfl (by assumption) ?_));clear H;intro a H;refine kH H (YC h63 rfl (PT iQ h63 rfl (Pf iQ rfl (aX jr rfl (Cd rfl ?_ ?_))))) <;> clear H jr
   ·intro iC a H
    try have p54:=dT iC
    refine bD (fun _ kQ=>?_)
    have e3:jX (bG us st li rv) h.marks=21:=by unfold jX;rw [av hno,aG (by first|(simp_all;done)|(simp_all;omega))]
    have hE:=(DU (C:=bG us st li rv) (e:=e) (h:=h) e1 e2 (by rw [e3];decide)).trans e3;exact kP H (SC (aX kQ rfl (LR results70 rfl fun H=>H.rt (by rw [hE]))))
   intro iC a H
   try have p54:=dF iC
   refine bD (fun _ jh=>?_)
   have hn2:¬ (¬ (0<=h.marks.move∧h.marks.move<=1073741824)∨(h.marks.move≠0∧h.marks.ins=0)):=by first|(simp_all;done)|(simp_all;omega)
   refine kP H (SC (Rf tY rfl (Rg uw rfl (by assumption) ?_)));clear H;intro a H;refine kH H (Rl oz rfl (Rc rfl (aX jh rfl (Cd rfl ?_ ?_)))) <;> clear H jh
   ·intro sS a H
    refine bD (fun _ mD=>?_)
    have e3:jX (bG us st li rv) h.marks=9:=by unfold jX;rw [av hno,av hn2,aG (by simpa using sS)]
    have hE:=(DU (C:=bG us st li rv) (e:=e) (h:=h) e1 e2 (by rw [e3];decide)).trans e3;exact kP H (SC (aX mD rfl (LR results70 rfl fun H=>H.rt (by rw [hE]))))
   intro sS a H
   have e3:jX (bG us st li rv) h.marks=0:=by unfold jX;rw [av hno,av hn2,av (by simpa using sS)]
   refine iB ?_;refine ⟨_,by exact H.sub ⟨rfl,rfl,rfl,aB⟩,?_⟩;exact ⟨e3,oH⟩
  intro h63 a H
  try have p63:=dF h63
  refine kH H (bB h63 rfl (PF iQ h63 rfl (Pf iQ rfl (aX jr rfl (Cf rfl rfl (SQ fun _ nE=>?_))))));clear H jr;intro a H
  have hn2:¬ (¬ (0<=h.marks.move∧h.marks.move<=1073741824)∨(h.marks.move≠0∧h.marks.ins=0)):=by first|(simp_all;done)|(simp_all;omega)
  refine kP H (SC (Rf tY rfl (Rg uw rfl (by assumption) ?_)));clear H;intro a H;refine kH H (Rl oz rfl (Rc rfl (aX nE rfl (Cd rfl ?_ ?_)))) <;> clear H nE
  ·intro sS a H
   refine bD (fun _ mE=>?_)
   have e3:jX (bG us st li rv) h.marks=9:=by unfold jX;rw [av hno,av hn2,aG (by simpa using sS)]
   have hE:=(DU (C:=bG us st li rv) (e:=e) (h:=h) e1 e2 (by rw [e3];decide)).trans e3;exact kP H (SC (aX mE rfl (LR results70 rfl fun H=>H.rt (by rw [hE]))))
  intro sS a H
  have e3:jX (bG us st li rv) h.marks=0:=by unfold jX;rw [av hno,av hn2,av (by simpa using sS)]
  refine iB ?_;refine ⟨_,by exact H.sub ⟨rfl,rfl,rfl,aB⟩,?_⟩;exact ⟨e3,oH⟩
 clear H;intro g a w hI H;obtain ⟨e3,yT⟩:=hI;replace hck:=hck.mono yT;replace hb:=yT _ _ hb;replace hh:=hh.mono yT;replace g3:=aF yT g3;replace q2:=aF yT q2;replace q3:=aF yT q3;replace hc2:=aF yT hc2;replace hcb:=hcb.mono yT;dsimp only [lca,bJ] at H;refine kP H (SQ fun _ oC=>SR fun _ nQ=>Rf tY rfl (Rg uw rfl (by assumption) ?_));clear H;intro a H;refine kH H (Rl oz rfl (Rm rfl (Kz nQ (SB ?_))));clear H nQ;intro a H;skip;refine eX (ι:=Nat × GH) (Tc:=[(3,_),(4,_),(11,_),(75,_),(76,_)]) (Lc:=[]) (fun gh=>[(77,vi gh.1)]) (fun gh=>[]) (fun gh=>gh.2) (fun gh=>gh.1<=h.marks.bE.length∧dL (((List.range h.marks.bE.length).map (tX (bG us st li rv) h.marks.bE)).drop gh.1)=iU (tX (bG us st li rv) h.marks.bE) h.marks.bE.length∧(∀ b o,g b=some o->gh.2 b=some o)) (fun gh=>h.marks.bE.length - gh.1) ((0,g)) (by exact H.sub ⟨rfl,rfl,rfl,rfl,rfl,rfl,aB⟩) ?_ ?_
 ·exact EG
 clear H;rintro ⟨k,g2⟩ a w hI H;dsimp only at hI H;obtain ⟨hk,heq,hgm⟩:=hI;dsimp only [lca,bJ] at H;refine kP H (SR fun _ oO=>Rc rfl (Kz oO (SQ fun _ sI=>Cd rfl ?_ ?_))) <;> clear H oO
 ·intro Ws a H
  try have p78:=dT Ws
  have hk2:k < h.marks.bE.length:=by omega
  have hd2:=hh.bE.mono hgm;obtain ⟨xb,xo,rfl,hrow⟩:=PV hd2 hk2
  have hk1:k - 1 < h.marks.bE.length:=by omega
  obtain ⟨b',o',he',hrow'⟩:=PV hd2 hk1
  injection he' with he'
  injection he' with e1 e2
  subst e1;subst e2
  have hde:tX (bG us st li rv) h.marks.bE k=uN (bG us st li rv) k h.marks.bE[k] h.marks.bE[k - 1].rev:=by unfold tX;rw [dV hk2,dV hk1];rfl
  have hX:∀ v,uN (bG us st li rv) k h.marks.bE[k] h.marks.bE[k - 1].rev=v->v≠0->iD (bG us st li rv) e h=v:=fun v h1 h2=>by
   have h4:iU (tX (bG us st li rv) h.marks.bE) h.marks.bE.length=v:=by rw [<- heq,Gm hk2,hde,h1,aG h2]
   exact (atA e1 e2 e3 (by rw [h4];exact h2)).trans h4
  have hp:=hrow' 0 _ rfl;have g3':=aF hgm g3;have hc2':=aF hgm hc2;have q2':=aF hgm q2;refine kP H (Kc sI (SQ fun _ rQ=>SB (SR fun _ uE=>Rm rfl (Ri oz om rfl rfl ?_))));clear H sI;intro a H;refine bP om (cs:=h.marks.bE[k].cells) H wn rfl rfl (fun j v hj=>H.hp.aH (hrow j v hj)) rfl ?_;clear H;intro a H;refine dO om H wn rfl ?_;clear H;intro b13 a w Qo H;refine kH H (Ra rfl ?_);clear H;intro a H;refine bC om 0 (vs:=[_,_]) H wn rfl ?_;clear H;intro w H;refine uE _ _ ?_;clear uE;refine Cj ?_;refine bD (fun _ yx=>?_);refine dI hmx [[],[0],[0,1],[0,1,2],[],[4],ra 0 6,ra 0 7,ra 0 8] [8] (by kernel_rfl) [_,_,_,_,_,vi h.marks.bE[k].rev,.bool (decide (h.marks.bE[k].rev∈rv.map bW.id)),_] H (ay (X0 rfl fun hG=>Rg La rfl (aF hG g3')) (Z1 0 83 rfl (Rk rfl)) (Z1 1 84 rfl (Rf MO rfl)) (X1 2 85 rfl fun hG=>Rg rO rfl (aF hG hc2')) (ay (Z0 rfl (Rf EJ rfl)) (Z1 4 87 rfl (Ro aC 0 rfl)) ?_ (Z1 6 89 rfl (Rn rfl)) (bF (bR rfl) cK))) ?_
  ·refine dY 3 86 5 88 rfl rfl fun _ a w G1 hG HT H fin=>?_;refine CX (zv:=.bool false) yj mh (by kernel_rfl) H wn rfl rfl (H.ro _ _ (hG _ _ (hgm _ _ hck.rev))) rfl ?_;clear H;intro a H;rw [Iu] at H;exact Jy
  clear H;intro a w G EW H hv;have H:=H.aM (hv 7 90 rfl rfl) rfl;clear hv;refine kH H (Ra rfl ?_);clear H;intro a H;refine aD ⟨rfl,?_⟩;refine yx _ _ ?_;clear yx;refine jS H rfl ?_ ?_
  ·intro xO
   refine bD (fun _ BO=>?_);have hE:=hX 22 (by unfold uN;rw [aG (by simpa using xO)]) (by decide);exact kP H (SC (aX BO rfl (LR results70 rfl fun H=>H.rt (by rw [hE]))))
  intro xO
  try have p82:=dF xO
  have Ng:¬ (h.marks.bE[k].rev∉(bG us st li rv).kM):=by simpa using xO
  refine bD (fun _ qJ=>?_);replace hp:=aF EW hp;replace q2':=aF EW q2'
  by_cases c3:0 < (k:Int)
  ·skip
   by_cases c4:h.marks.bE[k].rev<=h.marks.bE[k - 1].rev
   ·skip;refine dI hmx [[],[0],[0,1],[0,1,2],ra 0 4,[0,1,2],[0,1,2,5],[0,1,2],[0,1,2,7],[0,1,2,5,6,7,8],[0,1,2,5,6,7,8,9],([0,1,2]++ra 5 6),ra 0 12,ra 0 13,ra 0 14] [14] (by kernel_rfl) [_,_,_,_,vi h.marks.bE[k].rev,_,_,_,vi ((k - 1:Nat):Int),_,_,_,_,_] H (ay (Z0 rfl (Rm rfl)) (Z1 0 92 rfl (Rc rfl)) (Z1 1 93 rfl (Rm rfl)) (Z1 2 94 rfl (YF EJ (aI c3) rfl)) (ay (Z2 3 95 2 94 rfl (YO aC 0 (aI c3) rfl)) (Z1 2 94 rfl (YF tY (aI c3) rfl)) (X2 5 97 2 94 rfl fun hG=>YR uw (aI c3) rfl (aF hG q2')) (Z1 2 94 rfl (YM (aI c3) rfl)) (ay ?_ (Z3 6 98 8 100 2 94 rfl (YI oz om (aI c3) rfl rfl)) (Z2 9 101 2 94 rfl (YF EJ (aI c3) rfl)) (X2 10 102 2 94 rfl fun hG=>YR aC (aI c3) rfl (aF hG hp)) (bF (Z3 4 96 11 103 2 94 rfl (YC (aI c3) rfl)) (bF (Z2 2 94 12 104 rfl (Pt (aI c3) rfl)) (bF (bR rfl) cK)))))) ?_
    ·refine dY 7 99 2 94 rfl rfl fun _ a w G1 hG HT H fin=>?_;exact Pg
    clear H;intro a w G Ql H hv;have H:=H.aM (hv 13 105 rfl rfl) rfl;clear hv;refine kH H (Ra rfl ?_);clear H;intro a H;refine aD ⟨rfl,?_⟩;refine qJ _ _ ?_;clear qJ;refine Ck H rfl (aI c4) ?_;refine bD (fun _ Di=>?_);have hz:0 < k∧h.marks.bE[k].rev<=h.marks.bE[k - 1].rev:=⟨by omega,c4⟩;have hE:=hX 6 (by unfold uN;rw [av Ng,aG hz]) (by decide);exact kP H (SC (aX Di rfl (LR results70 rfl fun H=>H.rt (by rw [hE]))))
   skip;refine dI hmx [[],[0],[0,1],[0,1,2],ra 0 4,[0,1,2],[0,1,2,5],[0,1,2],[0,1,2,7],[0,1,2,5,6,7,8],[0,1,2,5,6,7,8,9],([0,1,2]++ra 5 6),ra 0 12,ra 0 13,ra 0 14] [14] (by kernel_rfl) [_,_,_,_,vi h.marks.bE[k].rev,_,_,_,vi ((k - 1:Nat):Int),_,_,_,_,_] H (ay (Z0 rfl (Rm rfl)) (Z1 0 92 rfl (Rc rfl)) (Z1 1 93 rfl (Rm rfl)) (Z1 2 94 rfl (YF EJ (aI c3) rfl)) (ay (Z2 3 95 2 94 rfl (YO aC 0 (aI c3) rfl)) (Z1 2 94 rfl (YF tY (aI c3) rfl)) (X2 5 97 2 94 rfl fun hG=>YR uw (aI c3) rfl (aF hG q2')) (Z1 2 94 rfl (YM (aI c3) rfl)) (ay ?_ (Z3 6 98 8 100 2 94 rfl (YI oz om (aI c3) rfl rfl)) (Z2 9 101 2 94 rfl (YF EJ (aI c3) rfl)) (X2 10 102 2 94 rfl fun hG=>YR aC (aI c3) rfl (aF hG hp)) (bF (Z3 4 96 11 103 2 94 rfl (YC (aI c3) rfl)) (bF (Z2 2 94 12 104 rfl (Pt (aI c3) rfl)) (bF (bR rfl) cK)))))) ?_
   ·refine dY 7 99 2 94 rfl rfl fun _ a w G1 hG HT H fin=>?_;exact Pg
   clear H;intro a w G Ql H hv;have H:=H.aM (hv 13 105 rfl rfl) rfl;clear hv;refine kH H (Ra rfl ?_);clear H;intro a H;refine aD ⟨rfl,?_⟩;refine qJ _ _ ?_;clear qJ;refine pO H rfl (aT c4) ?_;refine bD (fun _ BP=>?_)
   have hz:¬ (0 < k∧h.marks.bE[k].rev<=h.marks.bE[k - 1].rev):=by first|exact fun h=>c4 h.2|exact fun h=>c3 (by omega)
   refine kP H (SC (bq afm aC 0 rfl rfl ?_));clear H;intro a H;refine s_call yI H wn rfl (yY _ _ H.ro h.marks.bE[k].move 0 1073741824) rfl ?_;clear H;rintro v109 _ a w ⟨rfl,rfl⟩ - H;refine kH H (Rn rfl (aX BP rfl (Cd rfl ?_ ?_))) <;> clear H BP
   ·intro AJ a H
    try have Yo:=dT AJ
    refine bD (fun _ F4=>?_);have hE:=hX 21 (by unfold uN;rw [av Ng,av hz,aG (by have h0:=AJ;simp at h0;omega)]) (by decide);exact kP H (SC (aX F4 rfl (LR results70 rfl fun H=>H.rt (by rw [hE]))))
   intro AJ a H
   try have Yo:=dF AJ
   have ags:uN (bG us st li rv) k h.marks.bE[k] h.marks.bE[k - 1].rev=0:=by unfold uN;rw [av Ng,av hz,av (by have h0:=AJ;simp at h0;omega)]
   have hGk:=fun b o h=>Ql b o (EW b o (hgm b o h));refine kP H (Kc rQ (SC (Rd rfl (Rm rfl ?_))));clear H rQ;intro a H;refine aD ?_;refine dG ((k+1,G)) (by exact (H.eD (Pl:=[_]) (dN:=[]) [] (by decide) rfl).sub ⟨rfl,rfl,rfl,rfl,rfl,rfl,aB⟩) ?_
   (try dsimp only);exact aaR
  skip;refine dI hmx [[],[0],[0,1],[0,1,2],ra 0 4,[0,1,2],[0,1,2,5],[0,1,2],[0,1,2,7],[0,1,2,5,6,7,8],[0,1,2,5,6,7,8,9],([0,1,2]++ra 5 6),ra 0 12,ra 0 13,ra 0 14] [14] (by kernel_rfl) [_,_,_,undef,undef,undef,undef,undef,undef,undef,undef,undef,undef,_] H (ay (Z0 rfl (Rm rfl)) (Z1 0 92 rfl (Rc rfl)) (Z1 1 93 rfl (Rm rfl)) (aU 2 (aT c3) rfl rfl) (ay (aU 2 (aT c3) rfl rfl) (aU 2 (aT c3) rfl rfl) (aU 2 (aT c3) rfl rfl) (aU 2 (aT c3) rfl rfl) (ay (aU 2 (aT c3) rfl rfl) (aU 2 (aT c3) rfl rfl) (aU 2 (aT c3) rfl rfl) (aU 2 (aT c3) rfl rfl) (bF (aU 2 (aT c3) rfl rfl) (bF (Z2 2 94 12 104 rfl (Pf (aT c3) rfl)) (bF (bR rfl) cK)))))) ?_
  clear H;intro a w G Ql H hv;have H:=H.aM (hv 13 105 rfl rfl) rfl;clear hv;refine kH H (Ra rfl ?_);clear H;intro a H;refine aD ⟨rfl,?_⟩;refine qJ _ _ ?_;clear qJ;refine pO H rfl rfl ?_;refine bD (fun _ EB=>?_)
  have hz:¬ (0 < k∧h.marks.bE[k].rev<=h.marks.bE[k - 1].rev):=by first|exact fun h=>c4 h.2|exact fun h=>c3 (by omega)
  refine kP H (SC (bq afm aC 0 rfl rfl ?_));clear H;intro a H;refine s_call yI H wn rfl (yY _ _ H.ro h.marks.bE[k].move 0 1073741824) rfl ?_;clear H;rintro v109 _ a w ⟨rfl,rfl⟩ - H;refine kH H (Rn rfl (aX EB rfl (Cd rfl ?_ ?_))) <;> clear H EB
  ·intro AJ a H
   try have Yo:=dT AJ
   refine bD (fun _ F5=>?_);have hE:=hX 21 (by unfold uN;rw [av Ng,av hz,aG (by have h0:=AJ;simp at h0;omega)]) (by decide);exact kP H (SC (aX F5 rfl (LR results70 rfl fun H=>H.rt (by rw [hE]))))
  intro AJ a H
  try have Yo:=dF AJ
  have ags:uN (bG us st li rv) k h.marks.bE[k] h.marks.bE[k - 1].rev=0:=by unfold uN;rw [av Ng,av hz,av (by have h0:=AJ;simp at h0;omega)]
  have hGk:=fun b o h=>Ql b o (EW b o (hgm b o h));refine kP H (Kc rQ (SC (Rd rfl (Rm rfl ?_))));clear H rQ;intro a H;refine aD ?_;refine dG ((k+1,G)) (by exact (H.eD (Pl:=[_]) (dN:=[]) [] (by decide) rfl).sub ⟨rfl,rfl,rfl,rfl,rfl,rfl,aB⟩) ?_
  (try dsimp only);exact aaR
 intro Ws a H
 try have p78:=dF Ws
 refine dP ?_;refine oC _ _ ?_;clear oC;refine bD (fun _ EC=>?_);refine bD (fun _ LJ=>?_)
 have e4:iU (tX (bG us st li rv) h.marks.bE) h.marks.bE.length=0:=by rw [<- heq,pJ (by simp;omega)];rfl
 replace q3:=aF hgm q3;refine kP H (SC (Rf Az rfl (Rg BD rfl (by assumption) ?_)));clear H;intro a H;refine kH H (Rl lK rfl (Rc rfl (Kn LJ (Cd rfl ?_ ?_)))) <;> clear H LJ
 ·intro Wh a H
  try have Yp:=dT Wh
  refine bD (fun _ OI=>?_);have hE:=atB (C:=bG us st li rv) (e:=e) (h:=h) e1 e2 e3 e4 Yp;exact kP H (SC (aX OI rfl (LR results70 rfl fun H=>H.rt (by rw [hE]))))
 intro Wh a H
 try have Yp:=dF Wh
 refine iB ?_;refine EC _ _ ?_;clear EC;refine bD (fun _ OJ=>?_);have hE:=atC (C:=bG us st li rv) (e:=e) (h:=h) e1 e2 e3 e4 Yp;refine kP H (SC (Rf Az rfl (Rg BD rfl (by assumption) ?_)));clear H;intro a H;refine kH H (Rl lK rfl ?_);clear H;intro a H;refine rM H wn rfl rfl ?_;clear H;intro a H;refine s_call JO H wn rfl (LY _ _ H.ro h.marks.layers.length (xR (bG us st li rv) e h.marks.layers) _ (by omega) (hcb.mono hgm)) rfl ?_;clear H;rintro aCP aBB a w rfl aBQ H;exact kH H (aX OJ rfl (LR results70 rfl fun H=>H.rt (by rw [hE])))
end
theorem MU:dH prog 68 1 1:=⟨by kernel_rfl⟩
def codeOk (x:ak):Bool:=if x.kind=4 then decide (1<=x.code∧x.code<=3) else if x.kind=6 then decide (1<=x.code∧x.code<=2) else if x.kind=8 then decide (1<=x.code∧x.code<=4) else true
def Ab (x:ak):Bool:=decide (x.kind=8∧x.code=1)
def Af (x:ak):Bool:=decide (x.kind=1∨x.kind=5) || Ab x
def xU (x:ak):Bool:=decide (x.kind=6∨x.kind=7∨x.kind=8)
def xH (x:ak):Bool:=decide (x.kind=4∨x.kind=6∨x.kind=8)
def vH (s:ByteArray):Bool:=s.toList == (⟨#[]⟩:ByteArray).toList
def wG (x:ak):Bool:=!xH x && decide (x.code≠0) || !xU x && decide (x.id≠0) || !Af x && !vH x.text || decide (x.kind≠6) && decide (0 < (x.flow.length:Int)) || decide (x.kind≠7) && decide (0 < (x.rows.length:Int))
def lC (x:ak):Int :=
 if (!decide (1<=x.kind∧x.kind<=8) || !codeOk x)=true then 3 else if wG x=true then 15 else if sG x.text=false then 12 else if (decide (x.kind=1∨x.kind=5) && vH x.text)=true then 11
 else if (decide (x.kind=5) && decide (1024 < (x.text.size:Int)))=true then 10 else if (Ab x && !xI x.text)=true then 13 else 0
theorem yD {p:Prop} (h:p:=by
 first|(simp_all;done)):p:=h
theorem GA {p:Prop} (h:p:=by
 clear hst hwd hnm hck hcd;(try clear hq1);(try clear hq2);(try clear hq3);(try clear hq0);(try clear hq4);(try clear Kt);(try clear Kv);(try clear Kw);simp_all):p:=h
theorem amg {p:Prop} (h:p:=by
 (try clear hq1);(try clear hq2);(try clear hq3);(try clear hq0);(try clear hq4);(try clear Kt);(try clear Kv);(try clear Kw);simp_all):p:=h
theorem abh {p:Prop} (h:p:=by
 clear hst hwd hnm hck hcd;(try clear hq1);(try clear hq2);(try clear hq3);(try clear hq0);(try clear hq4);(try clear Kt);(try clear Kv);(try clear Kw);simp_all [vH]):p:=h
theorem abU {p:Prop} (h:p:=by
 (try clear hq1);(try clear hq2);(try clear hq3);(try clear hq0);(try clear hq4);(try clear Kt);(try clear Kv);(try clear Kw);simp_all [vH]):p:=h
theorem UJ {p:Prop} (h:p:=by
 refine kH H (Ra rfl ?_);clear H;intro a H;refine aD ?_;refine ⟨_,by exact H.sub ⟨rfl,rfl,rfl,rfl,rfl,aB⟩,?_⟩
 unfold codeOk;exact yD):p:=h
theorem Gy {p:Prop} (h:p:=by
 clear hst hwd hnm hck hcd;exact amg):p:=h
theorem abR {p:Prop} (h:p:=by
 clear H;intro a H;refine afU (_) _ _ ?_ (by exact H.sub ⟨rfl,rfl,rfl,aB⟩);rw [<- hwd];clear hst hwd hnm hck hcd;exact abU):p:=h
theorem abW {p:Prop} (h:p:=by
 clear H;intro a H;refine afY (_) _ _ ?_ (by exact H.sub ⟨rfl,rfl,rfl,aB⟩);clear hst hwd hnm hck hcd;exact abU):p:=h
theorem acd {p:Prop} (h:p:=by
 clear H;intro a H;refine afW (_) _ _ ?_ (by exact H.sub ⟨rfl,rfl,rfl,aB⟩);rw [show wG x=(q4 || decide (x.kind≠7) && decide (0 < (x.rows.length:Int))) by rw [hq4,hq3,hq2,hq1];rfl];clear hq4;exact Gy):p:=h
theorem acg {p:Prop} (h:p:=by
 clear H;intro a H;refine afX (_) _ _ ?_ (by exact H.sub ⟨rfl,rfl,rfl,rfl,aB⟩);rw [<- hnm];exact Gy):p:=h
theorem ach {p:Prop} (h:p:=by
 clear H;intro a H;refine afV (_) _ _ ?_ (by exact H.sub ⟨rfl,rfl,rfl,aB⟩);exact Gy):p:=h
theorem arL (G:GH) (w0:World) (hG:Hold G w0) (x:ak) (p d l:ah) (fA rA:Option Addr) (fc rc:Nat) (hs:x.text.size < 4611686018427387904) :
  Calls prog 196 #[.agg #[vi x.kind,vi x.code,vi x.id,.string x.text,p,vi x.head.marks.ins,vi x.head.marks.move,d,l,.slice fA x.flow.length fc,.slice rA x.rows.length rc]] w0 (bK w0 G fun u G'=>u=vi (lC x)∧G=G'):=by
 refine eN [(0,_)] func196 rfl ntmps196 rfl rfl hG ?_;intro a H;refine cO (fun _ K1=>?_);refine dW (cs:=[_,_,_,_,_,_,_,_,_,_,_]) H wn rfl rfl rfl ?_;clear H;intro b1 a w hb1 H;refine kH H (aj K1 rfl ?_);clear H K1;intro a H;refine tT (ι:=Bool) (Tc:=[(1,_)]) (Lc:=[(_,_)]) (fun gh=>[(3,.bool gh)]) (fun gh=>[]) (fun gh=>G) (fun gh=>gh=Ab x) (by exact H.sub ⟨rfl,aB⟩) ?_ ?_
 ·skip;refine kP H (SC (bq jF aC 0 rfl rfl (Rc rfl (Rm rfl (Sp 11 rfl ?_ ?_))))) <;> clear H
  ·intro h11 a H
   try have sj:=dT h11
   refine kH H (YF MU h11 rfl (YO aC 0 h11 rfl (YC h11 rfl (Pt h11 rfl (Ra rfl ?_)))));clear H;intro a H;refine aD ?_;refine ⟨_,by exact H.sub ⟨rfl,rfl,aB⟩,?_⟩
   unfold Ab;exact yD
  intro h11 a H
  try have sj:=dF h11
  refine kH H (bB h11 rfl (Pf h11 rfl (Ra rfl ?_)));clear H;intro a H;refine aD ?_;refine ⟨_,by exact H.sub ⟨rfl,rfl,aB⟩,?_⟩
  unfold Ab;exact yD
 clear H;intro st a w hI H;have hst:=hI;dsimp only [lca,bJ] at H;refine tT (ι:=Bool) (Tc:=[(1,_),(3,_)]) (Lc:=[(_,_)]) (fun gh=>[(4,.bool gh)]) (fun gh=>[]) (fun gh=>G) (fun gh=>gh=Af x) (by exact H.sub ⟨rfl,rfl,aB⟩) ?_ ?_
 ·skip;refine kP H (SC (bq jF aC 0 rfl rfl (Rc rfl (Rm rfl (Sp 19 rfl ?_ ?_))))) <;> clear H
  ·intro h19 a H
   try have tC:=dT h19
   refine kH H (bB h19 rfl (Pt h19 rfl (Rm rfl (Ks rfl rfl (Pt rfl rfl (Ra rfl ?_))))));clear H;intro a H;refine aD ?_;refine ⟨_,by exact H.sub ⟨rfl,rfl,rfl,aB⟩,?_⟩
   unfold Af;exact yD
  intro h19 a H
  try have tC:=dF h19
  refine kH H (YF jF h19 rfl (YO aC 0 h19 rfl (YC h19 rfl (Pf h19 rfl (Rm rfl (Sp 24 rfl ?_ ?_)))))) <;> clear H
  ·intro fC a H
   try have mR:=dT fC
   refine kH H (Ks fC rfl (Pt fC rfl (Ra rfl ?_)));clear H;intro a H;refine aD ?_;refine ⟨_,by exact H.sub ⟨rfl,rfl,rfl,aB⟩,?_⟩
   unfold Af;exact yD
  intro fC a H
  try have mR:=dF fC
  refine kH H (YM fC rfl (Pf fC rfl (Ra rfl ?_)));clear H;intro a H;refine aD ?_;refine ⟨_,by exact H.sub ⟨rfl,rfl,rfl,aB⟩,?_⟩
  unfold Af;exact yD
 clear H;intro wd a w hI H;have hwd:=hI;dsimp only [lca,bJ] at H;refine tT (ι:=Bool) (Tc:=[(1,_),(3,_),(4,_)]) (Lc:=[(_,_)]) (fun gh=>[(5,.bool gh)]) (fun gh=>[]) (fun gh=>G) (fun gh=>gh=xU x) (by exact H.sub ⟨rfl,rfl,rfl,aB⟩) ?_ ?_
 ·skip;refine kP H (SC (bq jF aC 0 rfl rfl (Rc rfl (Rm rfl (Sp 30 rfl ?_ ?_))))) <;> clear H
  ·intro mG a H
   try have p30:=dT mG
   refine kH H (bB mG rfl (Pt mG rfl (Rm rfl (bB rfl rfl (Pt rfl rfl (Ra rfl ?_))))));clear H;intro a H;refine aD ?_;refine ⟨_,by exact H.sub ⟨rfl,rfl,rfl,rfl,aB⟩,?_⟩
   unfold xU;exact yD
  intro mG a H
  try have p30:=dF mG
  refine kH H (YF jF mG rfl (YO aC 0 mG rfl (YC mG rfl (Pf mG rfl (Rm rfl (Sp 35 rfl ?_ ?_)))))) <;> clear H
  ·intro gX a H
   try have p35:=dT gX
   refine kH H (bB gX rfl (Pt gX rfl (Ra rfl ?_)));clear H;intro a H;refine aD ?_;refine ⟨_,by exact H.sub ⟨rfl,rfl,rfl,rfl,aB⟩,?_⟩
   unfold xU;exact yD
  intro gX a H
  try have p35:=dF gX
  refine kH H (YF jF gX rfl (YO aC 0 gX rfl (YC gX rfl (Pf gX rfl (Ra rfl ?_)))));clear H;intro a H;refine aD ?_;refine ⟨_,by exact H.sub ⟨rfl,rfl,rfl,rfl,aB⟩,?_⟩
  unfold xU;exact yD
 clear H;intro nm a w hI H;have hnm:=hI;dsimp only [lca,bJ] at H;refine kP H (SR fun _ K2=>aj K2 rfl ?_);clear H K2;intro a H;refine tT (ι:=Bool) (Tc:=[(1,_),(3,_),(4,_),(5,_)]) (Lc:=[(_,_)]) (fun gh=>[(6,.bool gh)]) (fun gh=>[]) (fun gh=>G) (fun gh=>gh=codeOk x) (by exact H.sub ⟨rfl,rfl,rfl,rfl,aB⟩) ?_ ?_
 ·skip;refine kP H (SR fun _ K3=>bq jF aC 0 rfl rfl (Kz K3 (SB (SR fun _ K4=>Rc rfl (aj K4 rfl (Cd rfl ?_ ?_)))))) <;> clear H K3 K4
  ·intro jM a H
   try have p42:=dT jM
   refine kP H (SC (bq MU aC 0 rfl rfl ?_));clear H;intro a H;refine s_call yI H wn rfl (yY _ _ H.ro x.code 1 3) rfl ?_;clear H;rintro v46 _ a w ⟨rfl,rfl⟩ - H;exact UJ
  intro jM a H
  try have p42:=dF jM
  refine kP H (SR fun _ K5=>Rc rfl (aj K5 rfl (Cd rfl ?_ ?_))) <;> clear H K5
  ·intro h47 a H
   try have p47:=dT h47
   refine kP H (SC (bq MU aC 0 rfl rfl ?_));clear H;intro a H;refine s_call yI H wn rfl (yY _ _ H.ro x.code 1 2) rfl ?_;clear H;rintro v51 _ a w ⟨rfl,rfl⟩ - H;exact UJ
  intro h47 a H
  try have p47:=dF h47
  refine kP H (SR fun _ K6=>Rc rfl (aj K6 rfl (Cd rfl ?_ ?_))) <;> clear H K6
  ·intro qx a H
   try have p52:=dT qx
   refine kP H (SC (bq MU aC 0 rfl rfl ?_));clear H;intro a H;refine s_call yI H wn rfl (yY _ _ H.ro x.code 1 4) rfl ?_;clear H;rintro v56 _ a w ⟨rfl,rfl⟩ - H;exact UJ
  intro qx a H
  try have p52:=dF qx
  refine iB ?_;refine ⟨_,by exact H.sub ⟨rfl,rfl,rfl,rfl,rfl,aB⟩,?_⟩
  unfold codeOk;exact yD
 clear H;intro ck a w hI H;have hck:=hI;dsimp only [lca,bJ] at H;refine tT (ι:=Bool) (Tc:=[(1,_),(3,_),(4,_),(5,_),(6,_)]) (Lc:=[(_,_)]) (fun gh=>[(7,.bool gh)]) (fun gh=>[]) (fun gh=>G) (fun gh=>gh=xH x) (by exact H.sub ⟨rfl,rfl,rfl,rfl,rfl,aB⟩) ?_ ?_
 ·skip;refine kP H (SC (bq jF aC 0 rfl rfl (Rc rfl (Rm rfl (Sp 60 rfl ?_ ?_))))) <;> clear H
  ·intro kG a H
   try have p60:=dT kG
   refine kH H (bB kG rfl (Pt kG rfl (Rm rfl (bB rfl rfl (Pt rfl rfl (Ra rfl ?_))))));clear H;intro a H;refine aD ?_;refine ⟨_,by exact H.sub ⟨rfl,rfl,rfl,rfl,rfl,rfl,aB⟩,?_⟩
   unfold xH;exact yD
  intro kG a H
  try have p60:=dF kG
  refine kH H (YF jF kG rfl (YO aC 0 kG rfl (YC kG rfl (Pf kG rfl (Rm rfl (Sp 65 rfl ?_ ?_)))))) <;> clear H
  ·intro uS a H
   try have p65:=dT uS
   refine kH H (bB uS rfl (Pt uS rfl (Ra rfl ?_)));clear H;intro a H;refine aD ?_;refine ⟨_,by exact H.sub ⟨rfl,rfl,rfl,rfl,rfl,rfl,aB⟩,?_⟩
   unfold xH;exact yD
  intro uS a H
  try have p65:=dF uS
  refine kH H (YF jF uS rfl (YO aC 0 uS rfl (YC uS rfl (Pf uS rfl (Ra rfl ?_)))));clear H;intro a H;refine aD ?_;refine ⟨_,by exact H.sub ⟨rfl,rfl,rfl,rfl,rfl,rfl,aB⟩,?_⟩
  unfold xH;exact yD
 clear H;intro cd a w hI H;have hcd:=hI;dsimp only [lca,bJ] at H;refine kP H (SQ fun _ K7=>SB (SR fun _ K8=>?_));clear H;intro a H;refine Er (ι:=Bool) (Tc:=[(1,_),(3,_),(4,_),(5,_),(7,_)]) 8 (fun (q0:Bool)=>[(78,.bool q0)]) (fun (q0:Bool)=>q0=(!decide (1<=x.kind∧x.kind<=8) || !codeOk x)) (by exact H.sub ⟨rfl,rfl,rfl,rfl,rfl,aB⟩) ?_ ?_
 ·intro afS;refine kH H (bq jF aC 0 rfl rfl ?_);clear H;intro a H;refine s_call yI H wn rfl (yY _ _ H.ro x.kind 1 8) rfl ?_;clear H;rintro v73 _ a w ⟨rfl,rfl⟩ - H;refine kH H (Rn rfl (Rm rfl (Sp 75 rfl ?_ ?_))) <;> clear H
  ·intro zO a H
   try have p75:=dT zO
   refine kH H (aP zO rfl (Pt zO rfl ?_));clear H;intro a H;refine afS (_) _ _ ?_ (by exact H.sub ⟨rfl,rfl,rfl,rfl,rfl,rfl,aB⟩);rw [<- hck];exact Gy
  intro zO a H
  try have p75:=dF zO
  refine kH H (YM zO rfl (YN zO rfl (Pf zO rfl ?_)));clear H;intro a H;refine afS (_) _ _ ?_ (by exact H.sub ⟨rfl,rfl,rfl,rfl,rfl,rfl,aB⟩);rw [<- hck];exact GA
 clear H;intro q0 a w hI H;dsimp only [lca,bJ] at H;simp only [xB,wu];have hq0:=hI;refine kH H (aj K8 rfl (Cd rfl ?_ ?_)) <;> clear H K8
 ·intro vN a H
  refine bD (fun _ K9=>?_)
  have e:lC x=3:=by unfold lC;rw [aG (by rw [<- hq0];exact vN)]
  exact kP H (SC (aX K9 rfl (LR results196 rfl fun H=>H.rt ⟨by rw [e],rfl⟩)))
 intro vN a H
 try have p70:=dF vN
 have f0:¬ (!decide (1<=x.kind∧x.kind<=8) || !codeOk x)=true:=by rw [<- hq0,vN];decide
 refine cO (fun _ aW=>?_);refine Er (ι:=Bool) (Tc:=[(1,_),(3,_),(4,_),(5,_)]) 7 (fun (q1:Bool)=>[(86,.bool q1)]) (fun (q1:Bool)=>q1=(!xH x && decide (x.code≠0))) (by exact H.sub ⟨rfl,rfl,rfl,rfl,aB⟩) ?_ ?_
 ·intro afT;refine kH H (Rm rfl (Rn rfl (Rm rfl (Sp 82 rfl ?_ ?_)))) <;> clear H
  ·intro xO a H
   try have p82:=dT xO
   refine kH H (YF MU xO rfl (YO aC 0 xO rfl (YC xO rfl (Pt xO rfl ?_))));clear H;intro a H;refine afT (_) _ _ ?_ (by exact H.sub ⟨rfl,rfl,rfl,rfl,rfl,aB⟩);rw [<- hcd];exact Gy
  intro xO a H
  try have p82:=dF xO
  refine kH H (bB xO rfl (Pf xO rfl ?_));clear H;intro a H;refine afT (_) _ _ ?_ (by exact H.sub ⟨rfl,rfl,rfl,rfl,rfl,aB⟩);rw [<- hcd];exact GA
 clear H;intro q1 a w hI H;dsimp only [lca,bJ] at H;simp only [xB,wu];have hq1:=hI;refine Er (ι:=Bool) (Tc:=[(1,_),(3,_),(4,_)]) 9 (fun (q2:Bool)=>[(95,.bool q2)]) (fun (q2:Bool)=>q2=(q1 || !xU x && decide (x.id≠0))) (by exact H.sub ⟨rfl,rfl,rfl,aB⟩) ?_ ?_
 ·intro afX;refine kH H (Rm rfl (Sp 87 rfl ?_ ?_)) <;> clear H
  ·intro h87 a H
   try have Yt:=dT h87
   refine kH H (bB h87 rfl (Ku rfl (Ku rfl (Ku rfl (Ks h87 rfl (Pt h87 rfl ?_))))));exact acg
  intro h87 a H
  try have Yt:=dF h87
  refine kH H (YM h87 rfl (YN h87 rfl (YM h87 rfl (Sp 90 rfl ?_ ?_)))) <;> clear H
  ·intro DN a H
   try have p90:=dT DN
   refine kH H (YF GY DN rfl (YO aC 0 DN rfl (YC DN rfl (PT h87 DN rfl (Pf h87 rfl ?_)))));exact acg
  intro DN a H
  try have p90:=dF DN
  refine kH H (bB DN rfl (PF h87 DN rfl (Pf h87 rfl ?_)));clear H;intro a H;refine afX (_) _ _ ?_ (by exact H.sub ⟨rfl,rfl,rfl,rfl,aB⟩);rw [<- hnm];exact GA
 clear H;intro q2 a w hI H;dsimp only [lca,bJ] at H;simp only [xB,wu];have hq2:=hI;refine Er (ι:=Bool) (Tc:=[(1,_),(3,_)]) 9 (fun (q3:Bool)=>[(104,.bool q3)]) (fun (q3:Bool)=>q3=(q2 || !Af x && !vH x.text)) (by exact H.sub ⟨rfl,rfl,aB⟩) ?_ ?_
 ·intro afU;refine kH H (Rm rfl (Sp 96 rfl ?_ ?_)) <;> clear H
  ·intro uT a H
   try have NT:=dT uT
   refine kH H (bB uT rfl (Ku rfl (Ku rfl (Ku rfl (Ks uT rfl (Pt uT rfl ?_))))));exact abR
  intro uT a H
  try have NT:=dF uT
  refine kH H (YM uT rfl (YN uT rfl (YM uT rfl (Sp 99 rfl ?_ ?_)))) <;> clear H
  ·intro DR a H
   try have p99:=dT DR
   refine kH H (YF wD DR rfl (YO jg 0 DR rfl ?_));clear H;intro a H;refine azm H (wg H rfl rfl DR) rfl rfl rfl ?_;clear H;intro a H;refine kH H (PT uT DR rfl (Pf uT rfl ?_));exact abR
  intro DR a H
  try have p99:=dF DR
  refine kH H (bB DR rfl (PF uT DR rfl (Pf uT rfl ?_)));clear H;intro a H;refine afU (_) _ _ ?_ (by exact H.sub ⟨rfl,rfl,rfl,aB⟩);rw [<- hwd];exact abh
 clear H;intro q3 a w hI H;dsimp only [lca,bJ] at H;simp only [xB,wu];have hq3:=hI;refine Er (ι:=Bool) (Tc:=[(1,_),(3,_)]) 11 (fun (q4:Bool)=>[(115,.bool q4)]) (fun (q4:Bool)=>q4=(q3 || decide (x.kind≠6) && decide (0 < (x.flow.length:Int)))) (by exact H.sub ⟨rfl,rfl,aB⟩) ?_ ?_
 ·intro afV;refine kH H (Rm rfl (Sp 105 rfl ?_ ?_)) <;> clear H
  ·intro qw a H
   try have Fx:=dT qw
   refine kH H (aP qw rfl (aP qw rfl (Ku rfl (Ku rfl (Ku rfl (Ku rfl (Ks qw rfl (Pt qw rfl ?_))))))));exact ach
  intro qw a H
  try have Fx:=dF qw
  refine kH H (YF jF qw rfl (YO aC 0 qw rfl (YC qw rfl (YM qw rfl (Sp 109 rfl ?_ ?_))))) <;> clear H
  ·intro AL a H
   try have axo:=dT AL
   refine kH H (YF zM AL rfl (YO kC 0 AL rfl (YL jq AL rfl (YC AL rfl (PT qw AL rfl (Pf qw rfl ?_))))));exact ach
  intro AL a H
  try have axo:=dF AL
  refine kH H (aP AL rfl (aP AL rfl (PF qw AL rfl (Pf qw rfl ?_))));clear H;intro a H;refine afV (_) _ _ ?_ (by exact H.sub ⟨rfl,rfl,rfl,aB⟩);exact GA
 clear H;intro q4 a w hI H;dsimp only [lca,bJ] at H;simp only [xB,wu];have hq4:=hI;refine Er (ι:=Bool) (Tc:=[(1,_),(3,_)]) 11 (fun (q5:Bool)=>[(126,.bool q5)]) (fun (q5:Bool)=>q5=wG x) (by exact H.sub ⟨rfl,rfl,aB⟩) ?_ ?_
 ·intro afW;refine kH H (Rm rfl (Sp 116 rfl ?_ ?_)) <;> clear H
  ·intro h116 a H
   try have axr:=dT h116
   refine kH H (aP h116 rfl (aP h116 rfl (Ku rfl (Ku rfl (Ku rfl (Ku rfl (Ks h116 rfl (Pt h116 rfl ?_))))))));exact acd
  intro h116 a H
  try have axr:=dF h116
  refine kH H (YF jF h116 rfl (YO aC 0 h116 rfl (YC h116 rfl (YM h116 rfl (Sp 120 rfl ?_ ?_))))) <;> clear H
  ·intro AO a H
   try have axu:=dT AO
   refine kH H (YF tZ AO rfl (YO uy 0 AO rfl (YL nP AO rfl (YC AO rfl (PT h116 AO rfl (Pf h116 rfl ?_))))));exact acd
  intro AO a H
  try have axu:=dF AO
  refine kH H (aP AO rfl (aP AO rfl (PF h116 AO rfl (Pf h116 rfl ?_))));clear H;intro a H;refine afW (_) _ _ ?_ (by exact H.sub ⟨rfl,rfl,rfl,aB⟩);rw [show wG x=(q4 || decide (x.kind≠7) && decide (0 < (x.rows.length:Int))) by rw [hq4,hq3,hq2,hq1];rfl];clear hq4;exact GA
 clear H;intro q5 a w hI H;dsimp only [lca,bJ] at H;simp only [xB,wu];have Kt:=hI;refine kH H (aj aW rfl (Cd rfl ?_ ?_)) <;> clear H aW
 ·intro ET a H
  refine bD (fun _ bM=>?_)
  have e:lC x=15:=by unfold lC;rw [av f0,aG (by rw [<- Kt];exact ET)]
  exact kP H (SC (aX bM rfl (LR results196 rfl fun H=>H.rt ⟨by rw [e],rfl⟩)))
 intro ET a H
 try have Yr:=dF ET
 have f1:¬ wG x=true:=by rw [<- Kt,ET];decide
 refine kP H (SR fun _ bU=>bq wD jg 0 rfl rfl ?_);clear H;intro a H;refine s_call MJ H wn rfl (Om _ _ H.ro x.text hs) rfl ?_;clear H;rintro v130 _ a w ⟨rfl,rfl⟩ - H;refine kH H (Rn rfl (aj bU rfl (Cd rfl ?_ ?_))) <;> clear H bU
 ·intro h127 a H
  refine bD (fun _ bY=>?_)
  have e:lC x=12:=by unfold lC;rw [av f0,av f1,aG (by simpa using h127)]
  exact kP H (SC (aX bY rfl (LR results196 rfl fun H=>H.rt ⟨by rw [e],rfl⟩)))
 intro h127 a H
 try have aCJ:=dF h127
 have f2:¬ sG x.text=false:=by simpa using h127
 refine cO (fun _ cZ=>?_);refine Er (ι:=Bool) (Tc:=[(1,_),(3,_)]) 13 (fun (q6:Bool)=>[(145,.bool q6)]) (fun (q6:Bool)=>q6=(decide (x.kind=1∨x.kind=5) && vH x.text)) (by exact H.sub ⟨rfl,rfl,aB⟩) ?_ ?_
 ·intro afY;refine kH H (bq jF aC 0 rfl rfl (Rc rfl (Rm rfl (Sp 136 rfl ?_ ?_)))) <;> clear H
  ·intro DI a H
   try have axw:=dT DI
   refine kH H (bB DI rfl (Pt DI rfl (Rm rfl ?_)));clear H;intro a H;refine IK wD H (wg H rfl rfl rfl) rfl rfl ?_;clear H;intro a H;refine qE jg H (wg H rfl rfl rfl) rfl (H.hp.wS 0 rfl rfl) rfl ?_;clear H;intro a H;refine FB H (wg H rfl rfl rfl) rfl rfl rfl ?_;clear H;intro a H;refine kH H (Pt rfl rfl ?_);exact abW
  intro DI a H
  try have axw:=dF DI
  refine kH H (YF jF DI rfl (YO aC 0 DI rfl (YC DI rfl (Pf DI rfl (Rm rfl (Sp 141 rfl ?_ ?_)))))) <;> clear H
  ·intro DJ a H
   try have axy:=dT DJ
   refine kH H (YF wD DJ rfl (YO jg 0 DJ rfl ?_));clear H;intro a H;refine FB H (wg H rfl rfl DJ) rfl rfl rfl ?_;clear H;intro a H;refine kH H (Pt DJ rfl ?_);exact abW
  intro DJ a H
  try have axy:=dF DJ
  refine kH H (bB DJ rfl (Pf DJ rfl ?_));clear H;intro a H;refine afY (_) _ _ ?_ (by exact H.sub ⟨rfl,rfl,rfl,aB⟩);exact abh
 clear H;intro q6 a w hI H;dsimp only [lca,bJ] at H;simp only [xB,wu];have Kv:=hI;refine kH H (aj cZ rfl (Cd rfl ?_ ?_)) <;> clear H cZ
 ·intro ER a H
  refine bD (fun _ dQ=>?_)
  have e:lC x=11:=by unfold lC;rw [av f0,av f1,av f2,aG (by rw [<- Kv];exact ER)]
  exact kP H (SC (aX dQ rfl (LR results196 rfl fun H=>H.rt ⟨by rw [e],rfl⟩)))
 intro ER a H
 try have aiI:=dF ER
 have f3:¬ (decide (x.kind=1∨x.kind=5) && vH x.text)=true:=by rw [<- Kv,ER];decide
 refine cO (fun _ dR=>?_);refine Er (ι:=Bool) (Tc:=[(1,_),(3,_)]) 9 (fun (q7:Bool)=>[(155,.bool q7)]) (fun (q7:Bool)=>q7=(decide (x.kind=5) && decide (1024 < (x.text.size:Int)))) (by exact H.sub ⟨rfl,rfl,aB⟩) ?_ ?_
 ·intro afZ;refine kH H (bq jF aC 0 rfl rfl (Rc rfl (Rm rfl (Sp 150 rfl ?_ ?_)))) <;> clear H
  ·intro AQ a H
   try have axz:=dT AQ
   refine kH H (YF wD AQ rfl (YO jg 0 AQ rfl ?_));clear H;intro a H;refine FC iY H (wg H rfl rfl AQ) rfl rfl ?_;clear H;intro a H;refine kH H (YC AQ rfl (Pt AQ rfl ?_));clear H;intro a H;refine afZ (_) _ _ ?_ (by exact H.sub ⟨rfl,rfl,rfl,aB⟩);exact Gy
  intro AQ a H
  try have axz:=dF AQ
  refine kH H (aP AQ rfl (aP AQ rfl (Pf AQ rfl ?_)));clear H;intro a H;refine afZ (_) _ _ ?_ (by exact H.sub ⟨rfl,rfl,rfl,aB⟩);exact GA
 clear H;intro q7 a w hI H;dsimp only [lca,bJ] at H;simp only [xB,wu];have Kw:=hI;refine kH H (aj dR rfl (Cd rfl ?_ ?_)) <;> clear H dR
 ·intro Qj a H
  refine bD (fun _ dK=>?_)
  have e:lC x=10:=by unfold lC;rw [av f0,av f1,av f2,av f3,aG (by rw [<- Kw];exact Qj)]
  exact kP H (SC (aX dK rfl (LR results196 rfl fun H=>H.rt ⟨by rw [e],rfl⟩)))
 intro Qj a H
 try have aCK:=dF Qj
 have f4:¬ (decide (x.kind=5) && decide (1024 < (x.text.size:Int)))=true:=by rw [<- Kw,Qj];decide
 refine cO (fun _ dX=>?_);refine Er (ι:=Bool) (Tc:=[]) 7 (fun (q8:Bool)=>[(163,.bool q8)]) (fun (q8:Bool)=>q8=(Ab x && !xI x.text)) (by exact H.sub trivial) ?_ ?_
 ·intro aga;refine kH H (Rm rfl (Rm rfl (Sp 158 rfl ?_ ?_))) <;> clear H
  ·intro AU a H
   try have axA:=dT AU
   refine kH H (YF wD AU rfl (YO jg 0 AU rfl ?_));clear H;intro a H;refine s_call aeE H (wg H rfl rfl AU) rfl (adR _ _ H.ro x.text hs) rfl ?_;clear H;rintro aCS _ a w ⟨rfl,rfl⟩ - H;refine kH H (YN AU rfl (Pt AU rfl ?_));clear H;intro a H;refine aga (_) _ _ ?_ (by exact H.sub ⟨rfl,aB⟩);rw [<- hst];exact Gy
  intro AU a H
  try have axA:=dF AU
  refine kH H (aP AU rfl (aP AU rfl (Pf AU rfl ?_)));clear H;intro a H;refine aga (_) _ _ ?_ (by exact H.sub ⟨rfl,aB⟩);rw [<- hst];exact GA
 clear H;intro q8 a w hI H;dsimp only [lca,bJ] at H;simp only [xB,wu];have hq8:=hI;refine kH H (aj dX rfl (Cd rfl ?_ ?_)) <;> clear H dX
 ·intro Wn a H
  refine bD (fun _ fM=>?_)
  have e:lC x=13:=by unfold lC;rw [av f0,av f1,av f2,av f3,av f4,aG (by rw [<- hq8];exact Wn)]
  exact kP H (SC (aX fM rfl (LR results196 rfl fun H=>H.rt ⟨by rw [e],rfl⟩)))
 intro Wn a H
 refine iB ?_;refine K7 _ _ ?_;clear K7;refine bD (fun _ eP=>?_)
 have e:lC x=0:=by unfold lC;rw [av f0,av f1,av f2,av f3,av f4,av (by rw [<- hq8,Wn];decide)]
 exact kP H (SC (aX eP rfl (LR results196 rfl fun H=>H.rt ⟨by rw [e],rfl⟩)))
structure CS where
 n:Int
 bN:List Int
abbrev CR:=Int × CS
def iP (r:CR) (f:CS->CR):CR:=if r.1≠0 then r else f r.2
theorem Jp {r:CR} {f:CS->CR} (h:r.1=0):iP r f=f r.2:=by rw [iP,av (fun h'=>h' h)]
theorem O1 {r:CR} {f:CS->CR} (h:r.1≠0):iP r f=r:=by rw [iP,aG h]
def oJ (C:aZ) (s:CS) (x:Int):CR:=(rJ C.us s.bN x,⟨s.n,nK C.us s.bN x⟩)
def sD (C:aZ) (body note:Bool) (t k i:Int) (s:CS):CR :=
 if k=3 then (dz (!body) 19,s) else if k=6 then iP (dz note 19,s) fun s=>oJ C s i else if k=7 then iP (dz (decide (4<=t)) 17,s) fun s=>oJ C s i else if k=8 then (dz (!decide (1<=i∧i<=1073741824)) 18,s) else (0,s)
def Ei (C:aZ) (h:dJ) (n:Nat):Int:=dL [iD C 9 h,dz (decide ((n:Int)=0)) 11,dz (decide (32 < (n:Int))) 9]
def nu (n:Nat) (f:CS->CR) (s:CS):CR:=if n=0 then (11,s) else if 256 < n then (9,s) else f s
mutual
def fJ (C:aZ) (body note:Bool) (t:Int):ak->CS->CR
 | .mk k c i tx h f r,s =>
  iP (lC (.mk k c i tx h f r),s) fun s=>iP (sD C body note t k i ⟨s.n+(if k=1 then uM tx else 1:Nat),s.bN⟩) fun s=>iP (iD C k h,s) fun s =>
   if k=6 then jT C false true t f s else if k=7 then nu r.length (fun s=>jm C note (t+1) r s) s else (0,s)
def zY (C:aZ) (note:Bool) (t:Int):aS->CS->CR
 | .mk h cs,s=>iP (Ei C h cs.length,s) fun s=>qZ C note t cs s
def cellC (C:aZ) (note:Bool) (t:Int):aV->CS->CR
 | .mk i h f,s=>iP (oJ C s i) fun s=>iP (iD C 10 h,s) fun s=>jT C false note t f s
def jT (C:aZ) (body note:Bool) (t:Int):List ak->CS->CR
 | [],s=>(0,s)
 | x :: r,s=>iP (fJ C body note t x s) fun s=>jT C body note t r s
def jm (C:aZ) (note:Bool) (t:Int):List aS->CS->CR
 | [],s=>(0,s)
 | x :: r,s=>iP (zY C note t x s) fun s=>jm C note t r s
def qZ (C:aZ) (note:Bool) (t:Int):List aV->CS->CR
 | [],s=>(0,s)
 | x :: r,s=>iP (cellC C note t x s) fun s=>qZ C note t r s
end
theorem ahH (C:aZ) (body note:Bool) (t:Int) (x:ak) (s:CS):fJ C body note t x s=iP (lC x,s) fun s=>iP (sD C body note t x.kind x.id ⟨s.n+(jw x:Nat),s.bN⟩) fun s=>iP (iD C x.kind x.head,s) fun s =>
  if x.kind=6 then jT C false true t x.flow s else if x.kind=7 then nu x.rows.length (fun s=>jm C note (t+1) x.rows s) s else (0,s):=by cases x;rw [fJ];rfl
theorem R4 (C:aZ) (note:Bool) (t:Int) (x:aS) (s:CS):zY C note t x s=iP (Ei C x.head x.cells.length,s) fun s=>qZ C note t x.cells s:=by cases x;rw [zY];rfl
theorem Py (C:aZ) (note:Bool) (t:Int) (x:aV) (s:CS):cellC C note t x s=iP (oJ C s x.id) fun s=>iP (iD C 10 x.head,s) fun s=>jT C false note t x.flow s:=by cases x;rw [cellC];rfl
def Up (s:CS) (z:Nat) (r:CR):Prop:=s.n<=r.2.n∧r.2.n<=s.n+z
theorem Up.and {s:CS} {z y q:Nat} {r:CR} {f:CS->CR} (h:Up s z r) (hq:z+y<=q) (hf:∀ s,Up s y (f s)):Up s q (iP r f):=by
 obtain ⟨h1,h2⟩:=h
 unfold iP
 split
 ·exact ⟨h1,by omega⟩
 obtain ⟨h3,h4⟩:=hf r.2;exact ⟨by omega,by omega⟩
theorem Up.zero (s:CS) (e:Int) (q:Nat):Up s q (e,s):=⟨Int.le_refl _,by dsimp only;omega⟩
theorem Up.le {s:CS} {z y:Nat} {r:CR} (h:Up s z r) (hq:z<=y):Up s y r:=⟨h.1,by have:=h.2;omega⟩
theorem aki (C:aZ) (s:CS) (x:Int) (q:Nat):Up s q (oJ C s x):=⟨Int.le_refl _,by dsimp only [oJ];omega⟩
theorem aAO (C:aZ) (body note:Bool) (t k i:Int) (s:CS) (q:Nat):Up s q (sD C body note t k i s):=by
 unfold sD
 (repeat' split) <;> first|exact Up.zero _ _ _|exact (Up.zero _ _ 0).and (y:=0) (by omega) fun s=>aki _ _ _ _
mutual
theorem akj (C:aZ) (body note:Bool) (t:Int):∀ (x:ak) (s:CS),Up s (bV x.dat) (fJ C body note t x s)
 | .mk k c i tx h f r,s=>by
  have hz:=wY (.mk k c i tx h f r);have hf:=SL C false true t f;have hr:=akk C note (t+1) r;rw [fJ];obtain ⟨u,hu'⟩:∃ u,u=(if k=1 then uM tx else 1:Nat):=⟨_,rfl⟩
  have hu:u<=tx.size+1:=by
   have:=Vg tx
   rw [hu'];split <;> omega
  rw [<- hu'];dsimp only [ak.text,ak.flow,ak.rows,ak.head] at hz;refine (Up.zero s _ 0).and (Nat.le_of_eq (gI _)) fun s=>?_
  have h2:Up s (u) (sD C body note t k i ⟨s.n+(u:Nat),s.bN⟩):=by
   obtain ⟨h3,h4⟩:=aAO C body note t k i ⟨s.n+(u:Nat),s.bN⟩ 0;dsimp only at h3 h4;exact ⟨by omega,by omega⟩
  refine h2.and (y:=bO f+gJ r) (by omega) fun s=>(Up.zero s _ 0).and (Nat.le_of_eq (gI _)) fun s=>?_
  by_cases h6:k=6
  ·rw [aG h6];exact (hf s).le (by omega)
  rw [av h6]
  by_cases h7:k=7
  ·rw [aG h7]
   unfold nu
   by_cases c1:r.length=0
   ·rw [aG c1];exact Up.zero _ _ _
   rw [av c1]
   by_cases c2:256 < r.length
   ·rw [aG c2];exact Up.zero _ _ _
   rw [av c2];exact (hr s).le (by omega)
  rw [av h7];exact Up.zero _ _ _
theorem aAP (C:aZ) (note:Bool) (t:Int):∀ (x:aS) (s:CS),Up s (bV x.dat) (zY C note t x s)
 | .mk h cs,s=>by
  have hz:=Ai (.mk h cs);have hc:=akh C note t cs;rw [R4];dsimp only [aS.cells,aS.head] at hz |-;exact (Up.zero s _ 0).and (y:=iA cs) (by omega) fun s=>hc s
theorem aAN (C:aZ) (note:Bool) (t:Int):∀ (x:aV) (s:CS),Up s (bV x.dat) (cellC C note t x s)
 | .mk i h f,s=>by
  have hz:=Ah (.mk i h f);have hf:=SL C false note t f;rw [Py];dsimp only [aV.flow,aV.head,aV.id] at hz |-;exact (aki C s _ 0).and (y:=bO f) (by omega) fun s=>(Up.zero s _ 0).and (Nat.le_of_eq (gI _)) fun s=>hf s
theorem SL (C:aZ) (body note:Bool) (t:Int):∀ (l:List ak) (s:CS),Up s (bO l) (jT C body note t l s)
 | [],s=>by rw [jT];exact Up.zero _ _ _
 | x :: r,s=>by
  rw [jT];exact (akj C body note t x s).and (y:=bO r) (by simp only [bO,eZ,dU];omega) fun s=>SL C body note t r s
theorem akk (C:aZ) (note:Bool) (t:Int):∀ (l:List aS) (s:CS),Up s (gJ l) (jm C note t l s)
 | [],s=>by rw [jm];exact Up.zero _ _ _
 | x :: r,s=>by
  rw [jm];exact (aAP C note t x s).and (y:=gJ r) (by simp only [gJ,eZ,dU];omega) fun s=>akk C note t r s
theorem akh (C:aZ) (note:Bool) (t:Int):∀ (l:List aV) (s:CS),Up s (iA l) (qZ C note t l s)
 | [],s=>by rw [qZ];exact Up.zero _ _ _
 | x :: r,s=>by
  rw [qZ];exact (aAN C note t x s).and (y:=iA r) (by simp only [iA,eZ,dU];omega) fun s=>akh C note t r s
end
def sF {α:Type} (f:α->CS->CR) (l:List α) (s:CS):Nat->CS
 | 0=>s
 | i+1=>match l[i]? with|some x=>(f x (sF f l s i)).2|none=>sF f l s i
def Dy {α:Type} (f:α->CS->CR) (l:List α) (s:CS) (i:Nat):Int:=match l[i]? with|some x=>(f x (sF f l s i)).1|none=>0
theorem Y9 {α:Type} (f:α->CS->CR) (x:α) (l:List α) (s:CS):∀ i,sF f (x :: l) s (i+1)=sF f l (f x s).2 i
 | 0=>rfl
 | i+1=>by
  have ih:=Y9 f x l s i
  simp only [sF,List.getElem?_cons_succ] at ih |-
  rw [ih]
theorem aqP {α:Type} (f:α->CS->CR) (x:α) (l:List α) (s:CS) (i:Nat):Dy f (x :: l) s (i+1)=Dy f l (f x s).2 i:=by
 unfold Dy
 simp only [List.getElem?_cons_succ,Y9]
theorem aly (E:Nat->Int) (n:Nat):iU E (n+1)=if E 0≠0 then E 0 else iU (fun i=>E (i+1)) n:=by
 unfold iU
 rw [List.range_succ_eq_map,eZ,dL,List.map_map]
 rfl
theorem ahI (C:aZ) (body note:Bool) (t:Int):∀ (l:List ak) (s:CS),(jT C body note t l s).1=iU (Dy (fJ C body note t) l s) l.length∧((jT C body note t l s).1=0->(jT C body note t l s).2=sF (fJ C body note t) l s l.length)
 | [],s=>by rw [jT];exact ⟨rfl,fun _=>rfl⟩
 | x :: r,s=>by
  obtain ⟨h1,h2⟩:=ahI C body note t r (fJ C body note t x s).2;have e0:Dy (fJ C body note t) (x :: r) s 0=(fJ C body note t x s).1:=rfl;rw [jT,kS,aly,e0,Y9]
  simp only [aqP]
  unfold iP
  split
  ·next h=>exact ⟨rfl,fun h0=>absurd h0 h⟩
  exact ⟨h1,h2⟩
theorem akl (C:aZ) (body note:Bool) (t:Int) (l:List ak) (s:CS):∀ i,i<=l.length->s.n<=(sF (fJ C body note t) l s i).n∧(sF (fJ C body note t) l s i).n+(bO (l.drop i):Nat)<=s.n+(bO l:Nat)
 | 0,_=>⟨Int.le_refl _,Int.le_refl _⟩
 | i+1,hi=>by
  have hi':i < l.length:=hi;obtain ⟨h1,h2⟩:=akl C body note t l s i (by omega)
  have hs:sF (fJ C body note t) l s (i+1)=(fJ C body note t l[i] (sF (fJ C body note t) l s i)).2:=by rw [sF,dV hi']
  have hd:bO (l.drop i)=1+bV l[i].dat+bO (l.drop (i+1)):=by
   simp only [bO];rw [oF hi',eZ,dU]
  obtain ⟨h3,h4⟩:=akj C body note t l[i] (sF (fJ C body note t) l s i);rw [hs];exact ⟨by omega,by omega⟩
theorem Vq:aQ 152:=aR func152 rfl
mutual
/-- The ids in items, in document order. -/
def pX:ak->List Int
 | .mk k _ i _ _ f r=>(if k=6∨k=7 then [i] else [])++((if k=6 then eH f else [])++(if k=7 then kJ r else []))
def eH:List ak->List Int
 | []=>[]
 | x :: r=>pX x++eH r
def rZ:aS->List Int
 | .mk _ c=>lV c
def kJ:List aS->List Int
 | []=>[]
 | x :: r=>rZ x++kJ r
def tq:aV->List Int
 | .mk i _ f=>i :: eH f
def lV:List aV->List Int
 | []=>[]
 | x :: r=>tq x++lV r
end
theorem avl (x:ak):pX x=(if x.kind=6∨x.kind=7 then [x.id] else [])++((if x.kind=6 then eH x.flow else [])++(if x.kind=7 then kJ x.rows else [])):=by cases x;rw [pX];rfl
theorem avm (x:aS):rZ x=lV x.cells:=by cases x;rw [rZ];rfl
theorem avk (x:aV):tq x=x.id :: eH x.flow:=by cases x;rw [tq];rfl
def CK (i:Int):AP:=fun args _=>args=[vi i]
def TT (n:Nat):Prop:=∀ (fv:ah) (Gi:GH) (xs:List AP) (J:Nat->GH->OL->Prop) (Jx:GH->OL->Prop) (G:GH) (L:OL) (w0:World) (j:Nat) (l:List ak) (v:ah),
 (∀ b o,Gi b=some o->G b=some o)->Et prog fv Gi xs J Jx->Dh J->Gg Jx->J j G L->gH G L w0->au G (.sl 11 (l.map ak.dat)) v->bO l < n->(∀ i a,(eH l)[i]?=some a->xs[j+i]?=some (CK a)) ->
 Calls prog 152 #[v,fv] w0 (fU w0 G L fun u G' L'=>∃ b,u=.bool b∧(b=true->J (j+(eH l).length) G' L')∧(b=false->Jx G' L'))
theorem Jw {p:Prop} (h:p:=by
 first
  | exact H.hp.jY (L':=OQ) (by repeat (first|exact jE _|apply List.Sublist.cons)) ⟨_,rfl,fun e=>(by cases e),fun _=>hb2 (by simpa using h31)⟩
  | exact H.hp.jY (L':=aaf) (by repeat (first|exact jE _|apply List.Sublist.cons)) ⟨_,rfl,fun e=>(by cases e),fun _=>hb4 (by simpa using wJ)⟩
  | exact H.hp.jY (L':=aag) (by repeat (first|exact jE _|apply List.Sublist.cons)) ⟨_,rfl,fun e=>(by cases e),fun _=>hb6 (by simpa using h64)⟩
  | exact H.hp.jY (L':=aah) (by repeat (first|exact jE _|apply List.Sublist.cons)) ⟨_,rfl,fun e=>(by cases e),fun _=>HV (by simpa using vN)⟩
  | exact H.hp.jY (L':=Lt) (by repeat (first|exact jE _|apply List.Sublist.cons)) ⟨_,rfl,fun _=>(by rw [pJ (by omega),eH] at fI;have:=fI.len;simp only [List.length_nil,zy] at this;rw [<- this];exact fI.now),fun e=>(by cases e)⟩):p:=h
set_option maxHeartbeats 1000000 in
theorem aA4 {n:Nat} (ih:TT n) (hn:n<=4294967296):TT (n+1):=by
 intro fv Gi xs J Jx G L w0 j0 l v hGi hcb qy hJx hJ0 hO hv hz hx0;obtain ⟨A,c,rfl,hc1,hc2,hg⟩:=hv.slice;rw [bQ] at *;have hll:=FN l;refine jc (N:=74) (T:=[(0,_),(1,_)]) func152 rfl ntmps152 rfl rfl hO ?_;intro a H;refine kP H (SR fun _ K1=>aj K1 rfl (SQ fun _ K2=>SR fun _ K3=>Rm rfl (Rl jq rfl (Rm rfl (Kz K3 (SB ?_))))));clear H K1 K3;intro a H;skip;refine eX (ι:=Nat × Nat × OL × GH) (Tc:=[(1,_),(11,_),(12,_)]) (Lc:=[]) (fun gh=>[(13,vi gh.1)]) (fun gh=>[]++gh.2.2.1) (fun gh=>gh.2.2.2) (fun gh=>gh.1<=l.length∧(∀ b o,G b=some o->gh.2.2.2 b=some o)∧Now xs CK J (j0+(eH l).length) gh.2.1 (eH (l.drop gh.1)) gh.2.2.2 gh.2.2.1) (fun gh=>l.length - gh.1) ((0,j0,L,G)) (by exact H.sub ⟨rfl,rfl,rfl,rfl,aB⟩) ?_ ?_
 ·exact ⟨by omega,fun _ _ h=>h,⟨hJ0,hx0,rfl⟩⟩
 clear H;rintro ⟨k,j,Lt,g⟩ a w hI H;dsimp only at hI H;obtain ⟨hk,hgm,fI⟩:=hI;dsimp only [lca,bJ] at H;refine kP H (SR fun _ K4=>Rc rfl (Kz K4 (SQ fun _ K5=>Cd rfl ?_ ?_))) <;> clear H K4
 ·intro iV a H
  try have uo:=dT iV
  have hk2:k < l.length:=by omega
  obtain ⟨b,o,pA,pn,pc,dA,dn,dc,yA,yn,yc,fA,fn,fc,rA,rn,rc,rfl,hrow,hhd,hfl,hrw⟩:=DF hk2 hg;replace hrow:=fun j u hj=>aF hgm (hrow j u hj);have hrn:=hrw.len;rw [bQ] at hrn;subst hrn;have hrs:=IZ l[k].rows;have hsz1:=Ot hk2;rw [oF hk2] at fI
  simp only [eH,avl,iZ] at fI
  refine kP H (Kc K5 (SQ fun _ K6=>SB (SR fun _ K7=>Ri jq gq rfl rfl ?_)));clear H K5;intro a H;refine bP gq (cs:=[_,_,_,_,_,_,_,_,_,_,_]) H wn rfl rfl (fun j v hj=>H.hp.aH (hrow j v hj)) rfl ?_;clear H;intro a H;refine dO gq H wn rfl ?_;clear H;intro b6 a w hb6 H;refine bC gq 0 (vs:=[_,_,_,_,_,_,_,_,_,_,_]) H wn rfl ?_;clear H;intro w H;refine K7 _ _ ?_;clear K7;refine kP H (SQ fun _ K8=>SR fun _ K9=>bq jF aC 0 rfl rfl (Rc rfl (Rm rfl (Sp 20 rfl ?_ ?_)))) <;> clear H
  ·intro h20 a H
   try have za:=dT h20
   rw [aG (Or.inl za),aG za,dw] at fI
   simp only [oD,jR] at fI
   refine kH H (bB h20 rfl (Pt h20 rfl (Rm rfl ?_)));clear H;intro a H;refine FE H (wg H rfl rfl rfl) rfl rfl ?_;clear H;intro a H;refine IK GY H (wg H rfl rfl rfl) rfl rfl ?_;clear H;intro a H;refine qE aC H (wg H rfl rfl rfl) rfl (H.hp.wS 0 rfl rfl) rfl ?_;clear H;intro a H;refine xY (Li:=[_]) (L:=Lt) H (wg H rfl rfl rfl) rfl rfl (hcb _ _ _ _ _ ⟨_,fI.head,rfl⟩ (fun b o h=>hgm b o (hGi b o h)) fI.now (Hp.owns (Li:=[_]) H.hp)) rfl ?_;clear H;rintro v29 LD OQ a w ⟨b29,rfl,hb1,hb2⟩ Xe H;refine YT H (wg H rfl rfl rfl) rfl rfl ?_;clear H;intro a H;refine kH H (Pt rfl rfl (Kz K9 (Cd rfl ?_ ?_))) <;> clear H K9
   ·intro h31 a H
    try have p31:=dT h31
    refine kP H (SR fun _ aW=>aj aW rfl ?_);clear H aW;intro a H;refine lr H results152 rfl ?_
    exact Jw
   intro h31 a H
   try have p31:=dF h31
   have wM:=fI.step (hb1 (by simpa using h31));have iF:∀ b o,G b=some o->LD b=some o:=fun b o h=>Xe b o (hgm b o h);refine kP H (Kc K8 (SQ fun _ bM=>SR fun _ bU=>bq jF aC 0 rfl rfl (Rc rfl (Rm rfl (YF zM h20 rfl (YO kC 0 h20 rfl (YM h20 rfl ?_)))))));clear H K8;intro a H;refine gy Vq (Li:=[_]) (L:=OQ) H (wg H rfl rfl h20) rfl (ih fv Gi xs J Jx _ _ _ (j+1) l[k].flow _ (fun b o h=>iF b o (hGi b o h)) hcb qy hJx wM.now (Hp.owns (Li:=[_]) H.hp) (hfl.mono iF) (by omega) wM.part) rfl ?_;clear H;rintro v39 OC aaf a w ⟨b39,rfl,hb3,hb4⟩ Nc H;refine kH H (YN h20 rfl (Pt h20 rfl (Kz bU (Cd rfl ?_ ?_)))) <;> clear H bU
   ·intro wJ a H
    try have p41:=dT wJ
    refine kP H (SR fun _ bY=>aj bY rfl ?_);clear H bY;intro a H;refine lr H results152 rfl ?_
    exact Jw
   intro wJ a H
   try have p41:=dF wJ
   refine kP H (Kc bM (SQ fun _ cZ=>SR fun _ dQ=>bq jF aC 0 rfl rfl (Rc rfl (Kz dQ (Cd rfl ?_ ?_))))) <;> clear H bM dQ
   ·intro rF a H
    try have p44:=dT rF
    refine dP ?_;refine K6 _ _ ?_;clear K6;refine kP H (SC (Rd rfl (Rm rfl ?_)));clear H;intro a H;refine aD ?_;refine dG ((k+1,j+1+(eH l[k].flow).length,aaf,OC)) (by exact (H.eD (Pl:=[_]) (dN:=[]) [] (by decide) rfl).sub ⟨rfl,rfl,rfl,rfl,aB⟩) ?_
    (try dsimp only);exact ⟨by omega,fun b o h=>Nc b o (iF b o h),wM.jump (hb3 (by simpa using wJ))⟩
   intro rF a H
   try have p44:=dF rF
   exact absurd (show l[k].kind=7 by omega) (by omega)
  intro h20 a H
  try have za:=dF h20
  refine kH H (YF jF h20 rfl (YO aC 0 h20 rfl (YC h20 rfl (Pf h20 rfl (Rm rfl (Sp 25 rfl ?_ ?_)))))) <;> clear H
  ·intro iy a H
   try have p25:=dT iy
   rw [aG (Or.inr p25),av za,aG p25] at fI
   simp only [oD,jR] at fI
   refine kH H (YM iy rfl (YF GY iy rfl (YO aC 0 iy rfl ?_)));clear H;intro a H;refine xY (Li:=[_]) (L:=Lt) H (wg H rfl rfl iy) rfl rfl (hcb _ _ _ _ _ ⟨_,fI.head,rfl⟩ (fun b o h=>hgm b o (hGi b o h)) fI.now (Hp.owns (Li:=[_]) H.hp)) rfl ?_;clear H;rintro v29 LD OQ a w ⟨b29,rfl,hb1,hb2⟩ Xe H;refine kH H (YN iy rfl (Pt iy rfl (Kz K9 (Cd rfl ?_ ?_)))) <;> clear H K9
   ·intro h31 a H
    try have p31:=dT h31
    refine kP H (SR fun _ dR=>aj dR rfl ?_);clear H dR;intro a H;refine lr H results152 rfl ?_
    exact Jw
   intro h31 a H
   try have p31:=dF h31
   have wM:=fI.step (hb1 (by simpa using h31));have iF:∀ b o,G b=some o->LD b=some o:=fun b o h=>Xe b o (hgm b o h);refine kP H (Kc K8 (SQ fun _ dK=>SR fun _ dX=>bq jF aC 0 rfl rfl (Rc rfl (Rm rfl (bB h20 rfl (aP h20 rfl (Pf h20 rfl (Kz dX (Cf rfl rfl (Kc dK (SQ fun _ fM=>SR fun _ eP=>bq jF aC 0 rfl rfl (Rc rfl (Kz eP (Cd rfl ?_ ?_)))))))))))))) <;> clear H K8 dX dK eP
   ·intro rF a H
    try have p44:=dT rF
    exact absurd p25 p44
   intro rF a H
   try have p44:=dF rF
   refine kP H (Kc fM (SR fun _ gB=>bq tZ uy 0 rfl rfl (Rl nP rfl (Rm rfl (Kz gB (SB ?_))))));clear H fM gB;intro a H;skip;refine eX (ι:=Nat × Nat × OL × GH) (Tc:=[(1,_),(11,_),(12,_),(13,_),(46,_),(47,_)]) (Lc:=[(_,_)]) (fun gh=>[(48,vi gh.1)]) (fun gh=>[]++gh.2.2.1) (fun gh=>gh.2.2.2) (fun gh=>gh.1<=l[k].rows.length∧(∀ b o,G b=some o->gh.2.2.2 b=some o)∧Now xs CK J (j0+(eH l).length) gh.2.1 (kJ (l[k].rows.drop gh.1)++eH (l.drop (k+1))) gh.2.2.2 gh.2.2.1) (fun gh=>l[k].rows.length - gh.1) ((0,j+1,OQ,LD)) (by exact H.sub ⟨rfl,rfl,rfl,rfl,rfl,rfl,rfl,aB⟩) ?_ ?_
   ·exact ⟨by omega,iF,wM⟩
   clear H;rintro ⟨rk,j3,Lt3,g3⟩ a w hI H;dsimp only at hI H;obtain ⟨hrk,qR,rY⟩:=hI;dsimp only [lca,bJ] at H;refine kP H (SR fun _ iH=>Rc rfl (Kz iH (SQ fun _ jP=>Cd rfl ?_ ?_))) <;> clear H iH
   ·intro ES a H
    try have p49:=dT ES
    have hk3:rk < l[k].rows.length:=by omega
    obtain ⟨b2,o2,qA,qn,qc,eA,en,ec,zA,zn,zc,cA,cn,cc,rfl,hrow,D7,hcl⟩:=KS hk3 hrw.at_;replace hrow:=fun j u hj=>aF qR (hrow j u hj);have hcn:=hcl.len;rw [bQ] at hcn;subst hcn;have hsz2:=Ou hk3;have hcs:=IY l[k].rows[rk].cells;rw [oF hk3] at rY
    simp only [kJ,avm,iZ] at rY
    refine kP H (Kc jP (SQ fun _ jH=>SB (SR fun _ jr=>Ri nP jV rfl rfl ?_)));clear H jP;intro a H;refine bP jV (cs:=[_,_,_,_,_,_]) H wn rfl rfl (fun j v hj=>H.hp.aH (hrow j v hj)) rfl ?_;clear H;intro a H;refine dO jV H wn rfl ?_;clear H;intro b8 a w HV H;refine bC jV 0 (vs:=[_,_,_,_,_,_]) H wn rfl ?_;clear H;intro w H;refine jr _ _ ?_;clear jr;refine kP H (SR fun _ kN=>bq zN Ad 0 rfl rfl (Rl qH rfl (Rm rfl (Kz kN (SB ?_)))));clear H kN;intro a H;skip;refine eX (ι:=Nat × Nat × OL × GH) (Tc:=[(1,_),(11,_),(12,_),(13,_),(46,_),(47,_),(48,_),(53,_),(54,_)]) (Lc:=[(_,_),(_,_)]) (fun gh=>[(55,vi gh.1)]) (fun gh=>[]++gh.2.2.1) (fun gh=>gh.2.2.2) (fun gh=>gh.1<=l[k].rows[rk].cells.length∧(∀ b o,G b=some o->gh.2.2.2 b=some o)∧Now xs CK J (j0+(eH l).length) gh.2.1 (lV (l[k].rows[rk].cells.drop gh.1)++(kJ (l[k].rows.drop (rk+1))++eH (l.drop (k+1)))) gh.2.2.2 gh.2.2.1) (fun gh=>l[k].rows[rk].cells.length - gh.1) ((0,j3,Lt3,g3)) (by exact H.sub ⟨rfl,rfl,rfl,rfl,rfl,rfl,rfl,rfl,rfl,rfl,aB⟩) ?_ ?_
    ·exact ⟨by omega,qR,rY⟩
    clear H;rintro ⟨ck,j4,Lt4,g4⟩ a w hI H;dsimp only at hI H;obtain ⟨hck,uU,qz⟩:=hI;dsimp only [lca,bJ] at H;refine kP H (SR fun _ kQ=>Rc rfl (Kz kQ (SQ fun _ jh=>Cd rfl ?_ ?_))) <;> clear H kQ
    ·intro Qk a H
     try have p56:=dT Qk
     have hk4:ck < l[k].rows[rk].cells.length:=by omega
     obtain ⟨b3,o3,sA,sn,sc,tA,tn,tc,uA,un,uc,gA,gn,gc,rfl,hrow,hch,hcf⟩:=JJ hk4 hcl.at_;replace hrow:=fun j u hj=>aF uU (hrow j u hj);have ahl:=Oq hk4;rw [oF hk4] at qz
     simp only [lV,avk,iZ,oD] at qz
     refine kP H (Kc jh (SQ fun _ mD=>SB (SR fun _ nE=>Ri qH lg rfl rfl ?_)));clear H jh;intro a H;refine bP lg (cs:=[_,_,_,_,_,_,_]) H wn rfl rfl (fun j v hj=>H.hp.aH (hrow j v hj)) rfl ?_;clear H;intro a H;refine dO lg H wn rfl ?_;clear H;intro b10 a w agh H;refine bC lg 0 (vs:=[_,_,_,_,_,_,_]) H wn rfl ?_;clear H;intro w H;refine nE _ _ ?_;clear nE;refine kP H (SR fun _ mE=>Rm rfl (bq MV aC 0 rfl rfl ?_));clear H;intro a H;refine xY (Li:=[_,_,_]) (L:=Lt4) H wn rfl rfl (hcb _ _ _ _ _ ⟨_,qz.head,rfl⟩ (fun b o h=>uU b o (hGi b o h)) qz.now (Hp.owns (Li:=[_,_,_]) H.hp)) rfl ?_;clear H;rintro v62 ZV aag a w ⟨b62,rfl,hb5,hb6⟩ Nf H;refine kH H (Rn rfl (Rm rfl (Sp 64 rfl ?_ ?_))) <;> clear H
     ·intro h64 a H
      try have p64:=dT h64
      refine kH H (bB h64 rfl (aP h64 rfl (Pt h64 rfl (Kz mE (Ct rfl rfl (SR fun _ oC=>aj oC rfl ?_))))));clear H mE oC;intro a H;refine lr H results152 rfl ?_
      exact Jw
     intro h64 a H
     try have p64:=dF h64
     have Ia:=qz.step (hb5 (by simpa using h64));refine kH H (YF GZ h64 rfl (YO kC 0 h64 rfl (YM h64 rfl ?_)));clear H;intro a H;refine gy Vq (Li:=[_,_,_]) (L:=aag) H (wg H rfl rfl h64) rfl (ih fv Gi xs J Jx _ _ _ (j4+1) l[k].rows[rk].cells[ck].flow _ (fun b o h=>Nf b o (uU b o (hGi b o h))) hcb qy hJx Ia.now (Hp.owns (Li:=[_,_,_]) H.hp) ((hcf.mono uU).mono Nf) (by omega) Ia.part) rfl ?_;clear H;rintro v68 G68 aah a w ⟨b68,rfl,AZ,HV⟩ atX H;refine kH H (YN h64 rfl (Pf h64 rfl (Kz mE (Cd rfl ?_ ?_)))) <;> clear H mE
     ·intro vN a H
      try have p70:=dT vN
      refine kP H (SR fun _ nQ=>aj nQ rfl ?_);clear H nQ;intro a H;refine lr H results152 rfl ?_
      exact Jw
     intro vN a H
     try have p70:=dF vN
     refine kP H (Kc mD (SC (Rd rfl (Rm rfl ?_))));clear H mD;intro a H;refine aD ?_;refine dG ((ck+1,j4+1+(eH l[k].rows[rk].cells[ck].flow).length,aah,G68)) (by exact (H.eD (Pl:=[_,_,_]) (dN:=[_,_]) [1,2] (by decide) rfl).sub ⟨rfl,rfl,rfl,rfl,rfl,rfl,rfl,rfl,rfl,rfl,aB⟩) ?_
     (try dsimp only);exact ⟨by omega,fun b o h=>atX b o (Nf b o (uU b o h)),Ia.jump (AZ (by simpa using vN))⟩
    intro Qk a H
    try have p56:=dF Qk
    refine dP ?_;refine jH _ _ ?_;clear jH;refine kP H (SC (Rd rfl (Rm rfl ?_)));clear H;intro a H;refine aD ?_;refine dG ((rk+1,j4,Lt4,g4)) (by exact (H.eD (Pl:=[_,_]) (dN:=[_]) [1] (by decide) rfl).sub ⟨rfl,rfl,rfl,rfl,rfl,rfl,rfl,aB⟩) ?_
    (try dsimp only);exact ⟨by omega,uU,by rw [pJ (by omega),lV,jR] at qz;exact qz⟩
   intro ES a H
   try have p49:=dF ES
   refine dP ?_;refine K6 _ _ ?_;clear K6;refine kP H (SC (Rd rfl (Rm rfl ?_)));clear H;intro a H;refine aD ?_;refine dG ((k+1,j3,Lt3,g3)) (by exact (H.eD (Pl:=[_]) (dN:=[]) [] (by decide) rfl).sub ⟨rfl,rfl,rfl,rfl,aB⟩) ?_
   (try dsimp only);exact ⟨by omega,qR,by rw [pJ (by omega),kJ,jR] at rY;exact rY⟩
  intro iy a H
  try have p25:=dF iy
  rw [dw,av za,av p25] at fI
  simp only [jR] at fI
  refine kH H (bB iy rfl (aP iy rfl (Pf iy rfl (Kz K9 (Cf rfl rfl (Kc K8 (SQ fun _ oO=>SR fun _ sI=>bq jF aC 0 rfl rfl (Rc rfl (Rm rfl (bB h20 rfl (aP h20 rfl (Pf h20 rfl (Kz sI (Cf rfl rfl (Kc oO (SQ fun _ rQ=>SR fun _ uE=>bq jF aC 0 rfl rfl (Rc rfl (Kz uE (Cd rfl ?_ ?_))))))))))))))))))) <;> clear H K9 K8 sI oO uE
  ·intro rF a H
   try have p44:=dT rF
   refine dP ?_;refine K6 _ _ ?_;clear K6;refine kP H (SC (Rd rfl (Rm rfl ?_)));clear H;intro a H;refine aD ?_;refine dG ((k+1,j,Lt,g)) (by exact (H.eD (Pl:=[_]) (dN:=[]) [] (by decide) rfl).sub ⟨rfl,rfl,rfl,rfl,aB⟩) ?_
   (try dsimp only);exact ⟨by omega,hgm,fI⟩
  intro rF a H
  try have p44:=dF rF
  exact absurd p25 p44
 intro iV a H
 try have uo:=dF iV
 refine dP ?_;refine K2 _ _ ?_;clear K2;refine kP H (SR fun _ yx=>aj yx rfl ?_);clear H yx;intro a H;refine lr H results152 rfl ?_
 exact Jw
theorem aku:∀ n:Nat,n<=4294967297->TT n
 | 0,_=>fun _ _ _ _ _ _ _ _ _ _ _ _ _ _ _ _ _ _ _ h=>absurd h (by omega)
 | n+1,hn=>aA4 (aku n (by omega)) (by omega)
theorem nG {r:CR} {f:CS->CR} {s':CS} (h:iP r f=(0,s')):r.1=0∧f r.2=(0,s'):=by
 unfold iP at h
 split at h
 ·rename_i h1;rw [h] at h1;exact absurd rfl h1
 rename_i h1;exact ⟨nV.1 h1,h⟩
theorem PI {r:CR} (h:r.1=0):r=(0,r.2):=Prod.ext h rfl
structure nA (a b c:List Int):Prop where
 eq:c=a++b
 nd:a.Nodup->c.Nodup
 pos:∀ i∈b,1<=i∧i<=1073741824
theorem nA.nil (a:List Int):nA a [] a:=⟨by simp,fun h=>h,fun i h=>by cases h⟩
theorem nA.trans {a b c d e:List Int} (h:nA a b c) (g:nA c d e):nA a (b++d) e:=⟨by rw [g.eq,h.eq,iZ],fun h1=>g.nd (h.nd h1),fun i hi=>(jA.1 hi).elim (h.pos i) (g.pos i)⟩
theorem nA.id {us a:List Int} {x:Int} (h:rJ us a x=0):nA a [x] (nK us a x):=by
 unfold nK
 rw [aG h]
 unfold rJ at h
 by_cases h0:¬ (1<=x∧x<=1073741824)∨x∈us
 ·rw [aG h0] at h;cases h
 rw [av h0] at h;have h1:1<=x∧x<=1073741824:=nV.1 fun h'=>h0 (.inl h')
 by_cases h2:x∈a
 ·rw [aG h2] at h;cases h
 exact ⟨rfl,fun h3=>List.nodup_append.2 ⟨h3,by simp,fun u hu v hv=>by rw [pG.1 hv];exact fun e=>h2 (e ▸ hu)⟩,fun i hi=>by rw [pG.1 hi];exact h1⟩
theorem nA.oJ {C:aZ} {s s':CS} {x:Int} (h:oJ C s x=(0,s')):nA s.bN [x] s'.bN:=by
 unfold Go.Proofs.YtdiflmikikiedaaGreat.oJ at h
 injection h with h1 h2
 rw [<- h2];exact nA.id h1
theorem axF {C:aZ} {body note:Bool} {t k i:Int} {s s':CS} (h:sD C body note t k i s=(0,s')):nA s.bN (if k=6∨k=7 then [i] else []) s'.bN:=by
 unfold sD at h
 by_cases h3:k=3
 ·rw [aG h3] at h;injection h with _ h2;rw [dw,<- h2];exact nA.nil _
 rw [av h3] at h
 by_cases h6:k=6
 ·rw [aG h6] at h;rw [aG (.inl h6)];exact nA.oJ (nG h).2
 rw [av h6] at h
 by_cases h7:k=7
 ·rw [aG h7] at h;rw [aG (.inr h7)];exact nA.oJ (nG h).2
 rw [av h7] at h;rw [dw]
 by_cases h8:k=8
 ·rw [aG h8] at h;injection h with _ h2;rw [<- h2];exact nA.nil _
 rw [av h8] at h;injection h with _ h2;rw [<- h2];exact nA.nil _
theorem Yy {n:Nat} {f:CS->CR} {s s':CS} (h:nu n f s=(0,s')):n≠0∧f s=(0,s'):=by
 unfold nu at h
 split at h
 ·cases h
 rename_i h1
 split at h
 ·cases h
 exact ⟨h1,h⟩
theorem aby {p:Prop} (h:p:=by
 rw [aG h6] at e |-;rw [av (show ¬ k=7 by omega),ig];exact hf _ _ e):p:=h
mutual
theorem aqT (C:aZ) (body note:Bool) (t:Int):∀ (x:ak) (s s':CS),fJ C body note t x s=(0,s')->nA s.bN (pX x) s'.bN
 | .mk k c i tx h f r,s,s',e=>by
  have hf:=P6 C false true t f;have hr:=afg C note (t+1) r;rw [fJ] at e;obtain ⟨-,e⟩:=nG e;obtain ⟨e1,e⟩:=nG e;obtain ⟨-,e⟩:=nG e;have h1:=axF (PI e1);rw [pX];refine h1.trans ?_
  by_cases h6:k=6
  ·exact aby
  rw [av h6] at e |-;rw [jR]
  by_cases h7:k=7
  ·rw [aG h7] at e |-;exact hr _ _ (Yy e).2
  rw [av h7] at e |-
  injection e with _ e
  rw [<- e];exact nA.nil _
theorem aqU (C:aZ) (note:Bool) (t:Int):∀ (x:aS) (s s':CS),zY C note t x s=(0,s')->nA s.bN (rZ x) s'.bN
 | .mk h cs,s,s',e=>by
  have hc:=aff C note t cs;rw [R4] at e;rw [rZ];exact hc _ _ (nG e).2
theorem aqS (C:aZ) (note:Bool) (t:Int):∀ (x:aV) (s s':CS),cellC C note t x s=(0,s')->nA s.bN (tq x) s'.bN
 | .mk i h f,s,s',e=>by
  have hf:=P6 C false note t f;rw [Py] at e;dsimp only [aV.id,aV.head,aV.flow] at e;obtain ⟨e1,e⟩:=nG e;have h1:=nA.oJ (s':=(oJ C s i).2) (Prod.ext e1 rfl);rw [tq];exact h1.trans (hf _ _ (nG e).2)
theorem P6 (C:aZ) (body note:Bool) (t:Int):∀ (l:List ak) (s s':CS),jT C body note t l s=(0,s')->nA s.bN (eH l) s'.bN
 | [],s,s',e=>by rw [jT] at e;injection e with _ e;rw [<- e];exact nA.nil _
 | x :: r,s,s',e=>by
  rw [jT] at e;obtain ⟨e1,e⟩:=nG e;rw [eH];exact (aqT C body note t x s _ (Prod.ext e1 rfl)).trans (P6 C body note t r _ _ e)
theorem afg (C:aZ) (note:Bool) (t:Int):∀ (l:List aS) (s s':CS),jm C note t l s=(0,s')->nA s.bN (kJ l) s'.bN
 | [],s,s',e=>by rw [jm] at e;injection e with _ e;rw [<- e];exact nA.nil _
 | x :: r,s,s',e=>by
  rw [jm] at e;obtain ⟨e1,e⟩:=nG e;rw [kJ];exact (aqU C note t x s _ (Prod.ext e1 rfl)).trans (afg C note t r _ _ e)
theorem aff (C:aZ) (note:Bool) (t:Int):∀ (l:List aV) (s s':CS),qZ C note t l s=(0,s')->nA s.bN (lV l) s'.bN
 | [],s,s',e=>by rw [qZ] at e;injection e with _ e;rw [<- e];exact nA.nil _
 | x :: r,s,s',e=>by
  rw [qZ] at e;obtain ⟨e1,e⟩:=nG e;rw [lV];exact (aqS C note t x s _ (Prod.ext e1 rfl)).trans (aff C note t r _ _ e)
end
def sK (l:List ak):Prop:=∃ (C:aZ) (body note:Bool) (t:Int) (s s':CS),jT C body note t l s=(0,s')
structure Jf (x:ak):Prop where
 txt:sG x.text=true
 kd:1<=x.kind∧x.kind<=8
 rw0:x.kind≠7->x.rows=[]
 fl0:x.kind≠6->x.flow=[]
 fl:sK x.flow
 rw:∀ r∈x.rows,∀ c∈r.cells,sK c.flow
theorem axd:sK []:=⟨⟨[],[],[],[]⟩,false,false,0,⟨0,[]⟩,⟨0,[]⟩,by rw [jT]⟩
theorem He {x:ak} (h:lC x=0):sG x.text=true∧(1<=x.kind∧x.kind<=8)∧(x.kind≠7->x.rows=[])∧(x.kind≠6->x.flow=[]):=by
 unfold lC at h
 split at h
 ·cases h
 rename_i h1
 split at h
 ·cases h
 rename_i h2
 split at h
 ·cases h
 rename_i h3
 have hk:decide (1<=x.kind∧x.kind<=8)=true:=by
  cases hd:decide (1<=x.kind∧x.kind<=8)
  ·rw [hd] at h1;exact absurd rfl h1
  rfl
 refine ⟨by simpa using h3,pI hk,fun h7=>?_,fun h6=>?_⟩
 ·rw [Bool.not_eq_true] at h2
  unfold wG at h2
  simp only [Bool.or_eq_false_iff] at h2
  have h4:=h2.2;rw [nT h7,LV,vE] at h4;exact List.length_eq_zero_iff.1 (by omega)
 rw [Bool.not_eq_true] at h2
 unfold wG at h2
 simp only [Bool.or_eq_false_iff] at h2
 have h4:=h2.1.2;rw [nT h6,LV,vE] at h4;exact List.length_eq_zero_iff.1 (by omega)
theorem cells_ok {C:aZ} {note:Bool} {t:Int}:∀ {l:List aV} {s s':CS},qZ C note t l s=(0,s')->∀ c∈l,sK c.flow
 | [],_,_,_,_,h=>by cases h
 | x :: r,s,s',e,c,h=>by
  rw [qZ] at e;obtain ⟨e1,e⟩:=nG e
  rcases fV.1 h with rfl|h
  ·have e2:cellC C note t c s=(0,(cellC C note t c s).2):=Prod.ext e1 rfl
   generalize (cellC C note t c s).2=s2 at e2
   rw [Py] at e2;exact ⟨C,false,note,t,_,_,(nG (nG e2).2).2⟩
  exact cells_ok e c h
theorem ajd {C:aZ} {note:Bool} {t:Int}:∀ {l:List aS} {s s':CS},jm C note t l s=(0,s')->∀ r∈l,∀ c∈r.cells,sK c.flow
 | [],_,_,_,_,h=>by cases h
 | x :: r,s,s',e,q,h=>by
  rw [jm] at e;obtain ⟨e1,e⟩:=nG e
  rcases fV.1 h with rfl|h
  ·have e2:zY C note t q s=(0,(zY C note t q s).2):=Prod.ext e1 rfl
   generalize (zY C note t q s).2=s2 at e2
   rw [R4] at e2;exact cells_ok (nG e2).2
  exact ajd e q h
theorem sK.head {x:ak} {l:List ak} (h:sK (x :: l)):Jf x∧sK l:=by
 obtain ⟨C,body,note,t,s,s',e⟩:=h;rw [jT] at e;obtain ⟨e1,e⟩:=nG e;have e2:fJ C body note t x s=(0,(fJ C body note t x s).2):=Prod.ext e1 rfl
 generalize (fJ C body note t x s).2=s2 at e2
 refine ⟨?_,⟨C,body,note,t,_,_,e⟩⟩;rw [ahH] at e2;obtain ⟨f1,e2⟩:=nG e2;(iterate 2 obtain ⟨-,e2⟩:=nG e2);obtain ⟨h1,h2,h3,h4⟩:=He f1;refine ⟨h1,h2,h3,h4,?_,?_⟩
 ·by_cases h6:x.kind=6
  ·rw [aG h6] at e2;exact ⟨_,_,_,_,_,_,e2⟩
  rw [h4 h6];exact axd
 by_cases h7:x.kind=7
 ·rw [dw,aG h7] at e2;exact ajd (Yy e2).2
 rw [h3 h7];exact fun _ h=>by cases h
theorem sK.tail {x:ak} {l:List ak} (h:sK (x :: l)):sK l:=h.head.2
theorem sK.mem:∀ {l:List ak} {x:ak},sK l->x∈l->Jf x
 | y :: l,x,h,hx=>by
  rcases fV.1 hx with rfl|hx
  ·exact h.head.1
  exact sK.mem h.head.2 hx
theorem Jf.e {x:ak} (h:Jf x):Dc x=0:=by unfold Dc Lm;rw [aG h.txt];split <;> rfl
theorem Jf.n1 {x:ak} (h:Jf x):n1 x=jw x:=by unfold Go.Proofs.YtdiflmikikiedaaGreat.n1;rw [aG h.e]
theorem sK.div {l:List ak} (h:sK l):zK l=true:=by
 unfold zK
 rw [jI];exact fun x hx=>nT (h.mem hx).e
theorem sK.len {l:List ak} (h:sK l):wP l=uq l:=by unfold wP;rw [aG h.div]
mutual
theorem aBj (note:Bool) (t:Int):∀ x:ak,((BJ note t x).map mq.id).Sublist (pX x)
 | .mk k c i tx h f r=>by
  have hf:=Ta true t f;have hr:=akE note t r;rw [BJ,pX]
  by_cases h6:k=6
  ·rw [aG h6,aG (.inl h6),aG h6,dw,ig];exact List.Sublist.cons_cons _ hf
  rw [av h6,av h6,jR]
  by_cases h7:k=7
  ·rw [aG h7,aG h7,aG (.inr h7)];exact List.Sublist.cons _ hr
  rw [av h7];exact List.nil_sublist _
theorem Ta (note:Bool) (t:Int):∀ l:List ak,((lN note t l).map mq.id).Sublist (eH l)
 | []=>by rw [lN];exact List.nil_sublist _
 | x :: l=>by
  rw [lN,eH,kF];exact (aBj note t x).append (Ta note t l)
theorem aBk (note:Bool) (t:Int):∀ x:aS,((BK note t x).map mq.id).Sublist (rZ x)
 | .mk h cs=>by rw [BK,rZ];exact akD note t cs
theorem akE (note:Bool) (t:Int):∀ l:List aS,((tJ note t l).map mq.id).Sublist (kJ l)
 | []=>by rw [tJ];exact List.nil_sublist _
 | x :: l=>by
  rw [tJ,kJ,kF];exact (aBk note t x).append (akE note t l)
theorem aBi (note:Bool) (t:Int):∀ x:aV,((BI note t x).map mq.id).Sublist (tq x)
 | .mk i h f=>by rw [BI,tq];exact List.Sublist.cons_cons _ (Ta note (t+1) f)
theorem akD (note:Bool) (t:Int):∀ l:List aV,((uz note t l).map mq.id).Sublist (lV l)
 | []=>by rw [uz];exact List.nil_sublist _
 | x :: l=>by
  rw [uz,lV,kF];exact (aBi note t x).append (akD note t l)
end
structure Je (l:List ak):Prop where
 ok:sK l
 nd:(eH l).Nodup
 pos:∀ i∈eH l,1<=i∧i<=1073741824
theorem Je.of {C:aZ} {body note:Bool} {t n:Int} {l:List ak} {s':CS} (h:jT C body note t l ⟨n,[]⟩=(0,s')):Je l:=by
 have he:=P6 C body note t l _ _ h;have hn:=he.nd List.nodup_nil;rw [he.eq] at hn;exact ⟨⟨C,body,note,t,_,_,h⟩,by simpa using hn,he.pos⟩
theorem Je.ids {l:List ak} (h:Je l):((lY l).map mq.id).Nodup:=by
 have hs:=Ta false 0 l;rw [lY,eZ,List.nodup_cons];exact ⟨fun hm=>by have:=h.pos _ (hs.subset hm);dsimp only at this;omega,hs.nodup h.nd⟩
section
theorem P5:aQ 70:=aR func70 rfl
theorem Vu:aQ 198:=aR func198 rfl
theorem MK:aQ 72:=aR func72 rfl
variable {us:List Int}
theorem Qw (G:GH) (L:OL) (w0:World) (st:List bX) (li:List fO) (rv:List bW) (b ms ml mr mb mu:Nat) (n:Int) (hck:xg us G st li rv ms ml mr mu) (hO:gH G (gV b ms ml mr mb mu n :: L) w0)
  (e:Int) (h:dJ) (p d l:ah) (hh:jy G h p d l) (hz:mK h<=4294967296) :
  Calls prog 70 #[(aJ b 0),vi e,rX h p d l] w0 (fU w0 G (gV b ms ml mr mb mu n :: L) fun v G' L'=>G=G'∧L'=gV b ms ml mr mb mu n :: L∧v=vi (iD (bG us st li rv) e h)):=by
 have hm:=GH.Jk G (o:=(gV b ms ml mr mb mu n).2) (hO.sep _ eT);exact (atD (G.add b (gV b ms ml mr mb mu n).2) w0 hO.add st li rv b ms ml mr mb mu n (hck.mono hm) (GH.Jl _ _ _) e h p d l (hh.mono hm) hz).mono fun _ _=>ayn (b:=b) (o:=(gV b ms ml mr mb mu n).2) (R':=fun v=>v=vi (iD (bG us st li rv) e h)) hO fun _ _ h=>h
abbrev Oy (b ms ml mr mb mu:Nat) (L:OL) (r:CR):ah->OL->Prop:=fun u L'=>∃ s:CS,u=vi r.1∧L'=gV b ms ml mr mb mu s.n :: (mb,fD (gu s.bN)) :: L∧(r.1=0->s=r.2)
def Jb (us:List Int) (m:Nat):Prop:=∀ (G:GH) (L:OL) (w0:World) (st:List bX) (li:List fO) (rv:List bW) (b ms ml mr mb mu:Nat) (s:CS) (l:List ak) (v:ah) (body note:Bool) (t:Int),
 xg us G st li rv ms ml mr mu->gH G (gV b ms ml mr mb mu s.n :: (mb,fD (gu s.bN)) :: L) w0->au G (.sl 11 (l.map ak.dat)) v->bO l < m->0<=t->t<=4->0<=s.n->s.n+(bO l:Nat)<=1099511627776 ->
 Calls prog 72 #[(aJ b 0),v,.agg #[.bool body,.bool note,vi t]] w0 (fU w0 G (gV b ms ml mr mb mu s.n :: (mb,fD (gu s.bN)) :: L) fun u G' L'=>G=G'∧Oy b ms ml mr mb mu L (jT (bG us st li rv) body note t l s) u L')
theorem rows_ok {m:Nat} (ih:Jb us m) (hm:m<=4294967296) (Gt:GH) (L:OL) (w0:World) (st:List bX) (li:List fO) (rv:List bW) (b ms ml mr mb mu:Nat) (s:CS) (l:List aS) (v:ah) (note:Bool) (t:Int)
  (hck:xg us Gt st li rv ms ml mr mu) (hO:gH Gt (gV b ms ml mr mb mu s.n :: (mb,fD (gu s.bN)) :: L) w0) (hv:au Gt (.sl 6 (l.map aS.dat)) v) (hz:gJ l < m) (ht0:0<=t) (Bf:t<=4) (hs0:0<=s.n) (hs1:s.n+(gJ l:Nat)<=1099511627776) :
  Calls prog 199 #[(aJ b 0),v,.agg #[.bool false,.bool note,vi t]] w0 (fU w0 Gt (gV b ms ml mr mb mu s.n :: (mb,fD (gu s.bN)) :: L) fun u G' L'=>Oy b ms ml mr mb mu L (nu l.length (fun s=>jm (bG us st li rv) note t l s) s) u L'):=by
 obtain ⟨A,c,rfl,hc1,hc2,hg⟩:=hv.slice;rw [bQ] at *;have hll:=IZ l;refine jc (N:=77) (T:=[(0,_),(1,_),(2,_)]) func199 rfl ntmps199 rfl rfl hO ?_;intro a H;refine cO (fun _ K1=>?_);refine dW (cs:=[_,_,_]) H wn rfl rfl rfl ?_;clear H;intro b5 a w hb5 H;refine kH H (aj K1 rfl (SQ fun _ K2=>SR fun _ K3=>Rm rfl (Rl nP rfl (Rc rfl (Kz K3 (Cd rfl ?_ ?_)))))) <;> clear H K1 K3
 ·intro fE a H
  try have og:=dT fE
  refine bD (fun _ K4=>?_);have hE:nu l.length (fun s=>jm (bG us st li rv) note t l s) s=(11,s):=mQ;exact kP H (SC (aX K4 rfl (LR results199 rfl fun H=>H.hp.jY (L':=gV b ms ml mr mb mu s.n :: (mb,fD (gu s.bN)) :: L) (by repeat (first|exact jE _|apply List.Sublist.cons)) ⟨s,by rw [hE],rfl,fun h=>by rw [hE]⟩)))
 intro fE a H
 try have og:=dF fE
 refine kP H (Kc K2 (SQ fun _ K5=>SR fun _ K6=>Rm rfl (Rl nP rfl (Rc rfl (Kz K6 (Cd rfl ?_ ?_)))))) <;> clear H K2 K6
 ·intro h20 a H
  try have za:=dT h20
  refine bD (fun _ K7=>?_)
  have hE:nu l.length (fun s=>jm (bG us st li rv) note t l s) s=(9,s):=by rw [nu,dw,mQ]
  exact kP H (SC (aX K7 rfl (LR results199 rfl fun H=>H.hp.jY (L':=gV b ms ml mr mb mu s.n :: (mb,fD (gu s.bN)) :: L) (by repeat (first|exact jE _|apply List.Sublist.cons)) ⟨s,by rw [hE],rfl,fun h=>by rw [hE]⟩)))
 intro h20 a H
 try have za:=dF h20
 refine kP H (Kc K5 (SQ fun _ K8=>SQ fun _ K9=>?_));clear H K5;intro a H
 have hE:nu l.length (fun s=>jm (bG us st li rv) note t l s) s=jm (bG us st li rv) note t l s:=by rw [nu,dw,dw]
 refine kP H (SC (Rm rfl (Rl nP rfl (Rm rfl (Kn K9 (SB ?_))))));clear H K9;intro a H;skip;refine eX (ι:=Nat × CS × GH) (Tc:=[(0,_),(5,_),(21,_),(22,_)]) (Lc:=[(_,_)]) (fun gh=>[(23,vi gh.1)]) (fun gh=>[gV b ms ml mr mb mu gh.2.1.n,(mb,fD (gu gh.2.1.bN))]++L) (fun gh=>gh.2.2) (fun gh=>gh.1<=l.length∧(∀ b o,Gt b=some o->gh.2.2 b=some o)∧jm (bG us st li rv) note t l s=jm (bG us st li rv) note t (l.drop gh.1) gh.2.1∧0<=gh.2.1.n∧gh.2.1.n+(gJ (l.drop gh.1):Nat)<=1099511627776) (fun gh=>l.length - gh.1) ((0,s,Gt)) (by exact H.sub ⟨rfl,rfl,rfl,rfl,rfl,aB⟩) ?_ ?_
 ·exact ⟨kE _,fun _ _ h=>h,rfl,hs0,hs1⟩
 clear H;rintro ⟨k,s1,g⟩ a w hI H;dsimp only at hI H;obtain ⟨hk,hgm,hR,hn0,hn1⟩:=hI;dsimp only [lca,bJ] at H;refine kP H (SR fun _ aW=>Rc rfl (Kz aW (SQ fun _ bM=>Cd rfl ?_ ?_))) <;> clear H aW
 ·intro fC a H
  try have mR:=dT fC
  have hk2:k < l.length:=by omega
  have hsz:=Ou hk2;have hcs:=IY l[k].cells
  have hdz:gJ (l.drop k)=1+bV l[k].dat+gJ (l.drop (k+1)):=by simp only [gJ];rw [oF hk2,eZ,dU]
  have hrz:=Ai l[k];obtain ⟨xb,xo,qA,qn,qc,eA,en,ec,zA,zn,zc,cA,cn,cc,rfl,hrow,D7,hcl⟩:=KS hk2 hg;replace hrow:=fun j u hj=>aF hgm (hrow j u hj);replace D7:=D7.mono hgm;replace hcl:=hcl.mono hgm;have hcn:=hcl.len;rw [bQ] at hcn;subst hcn;have atn:=hck.mono hgm;rw [oF hk2,jm,R4] at hR;refine kP H (Kc bM (SQ fun _ bU=>SB (SR fun _ bY=>Ri nP jV rfl rfl ?_)));clear H bM;intro a H;refine bP jV (cs:=[_,_,_,_,_,_]) H wn rfl rfl (fun j v hj=>H.hp.aH (hrow j v hj)) rfl ?_;clear H;intro a H;refine dO jV H wn rfl ?_;clear H;intro b8 a w HV H;refine bC jV 0 (vs:=[_,_,_,_,_,_]) H wn rfl ?_;clear H;intro w H;refine bY _ _ ?_;clear bY;refine bD (fun _ cZ=>?_);refine bD (fun _ dQ=>?_);refine dI hmx [[],[],[1],[0,1,2],[],[4],[4,5],[4,5,6],ra 0 8,[],[9],[9,10],[9,10,11],ra 0 13,ra 0 14,ra 0 15,ra 0 16] [14,15,16] (by kernel_rfl) [_,_,rX l[k].head (.slice qA qn qc) (.slice eA en ec) (.slice zA zn zc),vi (iD (bG us st li rv) 9 l[k].head),_,.slice cA l[k].cells.length cc,_,_,vi (dz (decide ((l[k].cells.length:Int)=0)) 11),_,.slice cA l[k].cells.length cc,_,_,vi (dz (decide (32 < (l[k].cells.length:Int))) 9)] H (ay (Z0 rfl (Rm rfl)) (Z0 rfl (Rf Qd rfl)) ?_ ?_ (ay (Z0 rfl (Rf zN rfl)) (Z1 4 31 rfl (Ro Ad 0 rfl)) (Z1 5 32 rfl (Rl qH rfl)) (Z1 6 33 rfl (Rc rfl)) (ay ?_ (Z0 rfl (Rf zN rfl)) (Z1 9 36 rfl (Ro Ad 0 rfl)) (Z1 10 37 rfl (Rl qH rfl)) (ay (Z1 11 38 rfl (Rc rfl)) ?_ (bR rfl) (bR rfl) (bF (bR rfl) cK))))) ?_
  ·refine gZ 1 28 rfl rfl fun _ a w G1 hG HT H fin=>?_;refine bP fH (cs:=[_,_,_,_,_]) H wn rfl rfl (H.hp.dx 0 rfl rfl) rfl ?_;exact jk
  ·refine dY 0 27 2 29 rfl rfl fun _ a w G1 hG HT H fin=>?_;refine gy P5 (Li:=[_,_]) (L:=gV b ms ml mr mb mu s1.n :: (mb,fD (gu s1.bN)) :: L) H wn rfl (Qw _ _ _ st li rv b ms ml mr mb mu _ (atn.mono hG) (Hp.owns (Li:=[_,_]) H.hp) 9 l[k].head _ _ _ (D7.mono hG) (by omega)) rfl ?_;clear H;rintro v30 _ _ a w ⟨rfl,rfl,rfl⟩ WA H;dsimp only [lca,bJ] at H;exact fin H WA (rfl)
  ·refine gZ 7 34 rfl rfl fun _ a w G1 hG HT H fin=>?_;refine s_call mO H wn rfl (mY _ _ H.ro _ 11) rfl ?_;clear H;rintro v35 ZU a w ⟨rfl,-⟩ WB H;exact fin H WB (rfl)
  ·refine gZ 12 39 rfl rfl fun _ a w G1 hG HT H fin=>?_;refine s_call mO H wn rfl (mY _ _ H.ro _ 9) rfl ?_;clear H;rintro v40 LH a w ⟨rfl,-⟩ asi H;exact fin H asi (rfl)
  clear H;intro a w G rW H hv;have H:=H.aM (hv 3 30 rfl rfl) rfl;have H:=H.aM (hv 8 35 rfl rfl) rfl;have H:=H.aM (hv 13 40 rfl rfl) rfl;clear hv;refine iT rP jv [_,_,_] [_,_,_] H wn rfl rfl rfl rfl rfl (by intro i q h;match i,h with|0,h=>exact h|1,h=>exact h|2,h=>exact h|n+3,h=>simp at h) rfl rfl ?_;clear H;intro b41 a w aBY H;obtain ⟨FY,wL,asZ,H⟩:=H.fB;have agw:∀ b o,Gt b=some o->FY b=some o:=fun b o h=>wL _ _ (rW _ _ (hgm _ _ h));refine s_call sO H wn rfl (sQ _ _ H.ro _ _ (Io [iD (bG us st li rv) 9 l[k].head,dz (decide ((l[k].cells.length:Int)=0)) 11,dz (decide (32 < (l[k].cells.length:Int))) 9] asZ (show 3<=maxLen by decide))) rfl ?_;clear H;rintro v42 _ a w ⟨rfl,rfl⟩ - H;refine kH H (Ra rfl ?_);clear H;intro a H;refine aD ⟨rfl,?_⟩;refine dQ _ _ ?_;clear dQ;refine kP H (SR fun _ dR=>Rm rfl (Rc rfl (Kz dR (Cd rfl ?_ ?_)))) <;> clear H dR
  ·intro rF a H
   try have p44:=dT rF
   have e44:Ei (bG us st li rv) l[k].head l[k].cells.length≠0:=p44
   have hF1:(nu l.length (fun s=>jm (bG us st li rv) note t l s) s).1=Ei (bG us st li rv) l[k].head l[k].cells.length:=by rw [hE,hR,O1 (r:=(Ei (bG us st li rv) l[k].head l[k].cells.length,s1)) e44,O1 e44]
   have hF2:(nu l.length (fun s=>jm (bG us st li rv) note t l s) s).1=0->s1=(nu l.length (fun s=>jm (bG us st li rv) note t l s) s).2:=fun h=>absurd (hF1.symm.trans h) e44;exact kP H (SR fun _ dK=>Rm rfl (aj dK rfl (LR results199 rfl fun H=>H.hp.jY (L':=gV b ms ml mr mb mu s1.n :: (mb,fD (gu s1.bN)) :: L) (by repeat (first|exact jE _|apply List.Sublist.cons)) ⟨s1,dh vi hF1.symm,rfl,hF2⟩)))
  intro rF a H
  try have p44:=dF rF
  have e44:Ei (bG us st li rv) l[k].head l[k].cells.length=0:=nV.1 p44;rw [Jp (r:=(Ei (bG us st li rv) l[k].head l[k].cells.length,s1)) e44] at hR;dsimp only at hR;have ato:=hck.mono agw;replace hcl:=hcl.mono (fun b o h=>wL _ _ (rW b o h));refine kP H (Kc cZ (SR fun _ dX=>bq zN Ad 0 rfl rfl (Rl qH rfl (Rm rfl (Kz dX (SB ?_))))));clear H cZ dX;intro a H;skip;refine eX (ι:=Nat × CS × GH) (Tc:=[(0,_),(5,_),(21,_),(22,_),(23,_),(47,_),(48,_)]) (Lc:=[(_,_),(_,_)]) (fun gh=>[(49,vi gh.1)]) (fun gh=>[gV b ms ml mr mb mu gh.2.1.n,(mb,fD (gu gh.2.1.bN))]++L) (fun gh=>gh.2.2) (fun gh=>gh.1<=l[k].cells.length∧(∀ b o,FY b=some o->gh.2.2 b=some o)∧jm (bG us st li rv) note t l s=iP (qZ (bG us st li rv) note t (l[k].cells.drop gh.1) gh.2.1) (fun s=>jm (bG us st li rv) note t (l.drop (k+1)) s)∧0<=gh.2.1.n∧gh.2.1.n+(iA (l[k].cells.drop gh.1):Nat)+(gJ (l.drop (k+1)):Nat)<=1099511627776) (fun gh=>l[k].cells.length - gh.1) ((0,s1,FY)) (by exact H.sub ⟨rfl,rfl,rfl,rfl,rfl,rfl,rfl,rfl,aB⟩) ?_ ?_
  ·exact ⟨kE _,fun _ _ h=>h,hR,hn0,by dsimp only;rw [wu];omega⟩
  clear H;rintro ⟨c,s2,g2⟩ a w hI H;dsimp only at hI H;obtain ⟨hc,Qy,hR2,hm0,hm1⟩:=hI;have iF:=fun b o h=>Qy b o (agw b o h);dsimp only [lca,bJ] at H;refine kP H (SR fun _ fM=>Rc rfl (Kz fM (SQ fun _ eP=>Cd rfl ?_ ?_))) <;> clear H fM
  ·intro h50 a H
   try have p50:=dT h50
   have hk4:c < l[k].cells.length:=by omega
   have auS:=Oq hk4
   have atx:iA (l[k].cells.drop c)=1+bV l[k].cells[c].dat+iA (l[k].cells.drop (c+1)):=by simp only [iA];rw [oF hk4,eZ,dU]
   have hcz:=Ah l[k].cells[c];obtain ⟨b3',o3,sA,sn,sc,tA,tn,tc,uA,un,uc,gA,gn,gc,rfl,hrow,hch,hcf⟩:=JJ hk4 (hcl.mono Qy).at_;have WY:=ato.mono Qy;rw [oF hk4,qZ,Py] at hR2;obtain ⟨y,hy⟩:∃ y,y=l[k].cells[c]:=⟨_,rfl⟩;rw [<- hy] at hR2 hrow hch hcf hcz auS atx;refine kP H (Kc eP (SQ fun _ gB=>SB (SR fun _ iH=>Ri qH lg rfl rfl ?_)));clear H eP;intro a H;refine bP lg (cs:=[_,_,_,_,_,_,_]) H wn rfl rfl (fun j v hj=>H.hp.aH (hrow j v hj)) rfl ?_;clear H;intro a H;refine dO lg H wn rfl ?_;clear H;intro b11 a w J6 H;refine bC lg 0 (vs:=[_,_,_,_,_,_,_]) H wn rfl ?_;clear H;intro w H;refine iH _ _ ?_;clear iH;refine kP H (SQ fun _ jP=>SR fun _ jH=>Rm rfl (bq MV aC 0 rfl rfl ?_));clear H;intro a H;refine gy Vu (Li:=[_,_,_]) (L:=gV b ms ml mr mb mu s2.n :: (mb,fD (gu s2.bN)) :: L) H wn rfl (U9 _ _ _ st li rv b ms ml mr mb mu _ s2.bN y.id WY (Hp.owns (Li:=[_,_,_]) H.hp)) rfl ?_;clear H;rintro v56 _ _ a w ⟨rfl,rfl,rfl⟩ - H;dsimp only [lca,bJ] at H;refine kH H (aj jH rfl (SR fun _ jr=>Rm rfl (Rc rfl (Kz jr (Cd rfl ?_ ?_))))) <;> clear H jH jr
   ·intro lU a H
    try have p58:=dT lU
    have hF1:(nu l.length (fun s=>jm (bG us st li rv) note t l s) s).1=rJ us s2.bN y.id:=by rw [hE,hR2];simp [iP,oJ,p58]
    have hF2:(nu l.length (fun s=>jm (bG us st li rv) note t l s) s).1=0->(⟨s2.n,nK us s2.bN y.id⟩:CS)=(nu l.length (fun s=>jm (bG us st li rv) note t l s) s).2:=fun h=>absurd (hF1.symm.trans h) p58;exact kP H (SR fun _ kN=>Rm rfl (aj kN rfl (LR results199 rfl fun H=>H.hp.jY (L':=gV b ms ml mr mb mu s2.n :: (mb,fD (gu (nK us s2.bN y.id))) :: L) (by repeat (first|exact jE _|apply List.Sublist.cons)) ⟨⟨s2.n,nK us s2.bN y.id⟩,dh vi hF1.symm,rfl,hF2⟩)))
   intro lU a H
   try have p58:=dF lU
   have e58:rJ us s2.bN y.id=0:=nV.1 p58;refine kP H (Kc jP (SQ fun _ kQ=>SR fun _ jh=>Rm rfl (Rf Qe rfl ?_)));clear H jP;intro a H;refine bP fH (cs:=[_,_,_,_,_]) H wn rfl rfl (H.hp.dx 0 rfl rfl) rfl ?_;clear H;intro a H;refine gy P5 (Li:=[_,_,_]) (L:=gV b ms ml mr mb mu s2.n :: (mb,fD (gu (nK us s2.bN y.id))) :: L) H wn rfl (Qw _ _ _ st li rv b ms ml mr mb mu _ WY (Hp.owns (Li:=[_,_,_]) H.hp) 10 y.head _ _ _ hch (by omega)) rfl ?_;clear H;rintro v63 _ _ a w ⟨rfl,rfl,rfl⟩ - H;dsimp only [lca,bJ] at H;refine kH H (aj jh rfl (SR fun _ mD=>Rm rfl (Rc rfl (Kz mD (Cd rfl ?_ ?_))))) <;> clear H jh mD
   ·intro uS a H
    try have p65:=dT uS
    have hF1:(nu l.length (fun s=>jm (bG us st li rv) note t l s) s).1=iD (bG us st li rv) 10 y.head:=by rw [hE,hR2];simp [iP,oJ,e58,p65]
    have hF2:(nu l.length (fun s=>jm (bG us st li rv) note t l s) s).1=0->(⟨s2.n,nK us s2.bN y.id⟩:CS)=(nu l.length (fun s=>jm (bG us st li rv) note t l s) s).2:=fun h=>absurd (hF1.symm.trans h) p65;exact kP H (SR fun _ nE=>Rm rfl (aj nE rfl (LR results199 rfl fun H=>H.hp.jY (L':=gV b ms ml mr mb mu s2.n :: (mb,fD (gu (nK us s2.bN y.id))) :: L) (by repeat (first|exact jE _|apply List.Sublist.cons)) ⟨⟨s2.n,nK us s2.bN y.id⟩,dh vi hF1.symm,rfl,hF2⟩)))
   intro uS a H
   try have p65:=dF uS
   have e65:iD (bG us st li rv) 10 y.head=0:=nV.1 p65;refine kP H (Kc kQ (SR fun _ mE=>Rm rfl (bq GZ kC 0 rfl rfl ?_)));clear H kQ;intro a H;refine bP SF (cs:=[_,_,_]) H wn rfl rfl (H.hp.dx 2 rfl rfl) rfl ?_;clear H;intro a H;refine gy MK (Li:=[_,_,_]) (L:=gV b ms ml mr mb mu s2.n :: (mb,fD (gu (nK us s2.bN y.id))) :: L) H wn rfl (ih _ _ _ st li rv b ms ml mr mb mu ⟨s2.n,nK us s2.bN y.id⟩ y.flow _ false note t WY (Hp.owns (Li:=[_,_,_]) H.hp) hcf (by omega) ht0 Bf hm0 (by dsimp only;omega)) rfl ?_;clear H;rintro v71 _ _ a w ⟨rfl,s3,rfl,rfl,h3⟩ - H;dsimp only [lca,bJ] at H;refine kH H (aj mE rfl (SR fun _ oC=>Rm rfl (Rc rfl (Kz oC (Cd rfl ?_ ?_))))) <;> clear H mE oC
   ·intro Wq a H
    try have p73:=dT Wq
    have hF1:(nu l.length (fun s=>jm (bG us st li rv) note t l s) s).1=(jT (bG us st li rv) false note t y.flow ⟨s2.n,nK us s2.bN y.id⟩).1:=by rw [hE,hR2];simp [iP,oJ,e58,e65,p73]
    have hF2:(nu l.length (fun s=>jm (bG us st li rv) note t l s) s).1=0->s3=(nu l.length (fun s=>jm (bG us st li rv) note t l s) s).2:=fun h=>absurd (hF1.symm.trans h) p73;exact kP H (SR fun _ nQ=>Rm rfl (aj nQ rfl (LR results199 rfl fun H=>H.hp.jY (L':=gV b ms ml mr mb mu s3.n :: (mb,fD (gu s3.bN)) :: L) (by repeat (first|exact jE _|apply List.Sublist.cons)) ⟨s3,dh vi hF1.symm,rfl,hF2⟩)))
   intro Wq a H
   try have p73:=dF Wq
   have Vo:(jT (bG us st li rv) false note t y.flow ⟨s2.n,nK us s2.bN y.id⟩).1=0:=nV.1 p73;obtain ⟨hu1,hu2⟩:=SL (bG us st li rv) false note t y.flow ⟨s2.n,nK us s2.bN y.id⟩;rw [<- h3 Vo] at hu1 hu2;dsimp only at hu1 hu2
   have hS:iP (iP (iP (oJ (bG us st li rv) s2 y.id) fun s=>iP (iD (bG us st li rv) 10 y.head,s) fun s=>jT (bG us st li rv) false note t y.flow s) fun s=>qZ (bG us st li rv) note t (l[k].cells.drop (c+1)) s) (fun s=>jm (bG us st li rv) note t (l.drop (k+1)) s)=iP (qZ (bG us st li rv) note t (l[k].cells.drop (c+1)) s3) (fun s=>jm (bG us st li rv) note t (l.drop (k+1)) s):=by
    rw [h3 Vo];simp [iP,oJ,e58,e65,Vo]
   refine kP H (Kc gB (SC (Rd rfl (Rm rfl ?_))));clear H gB;intro a H;refine aD ?_;refine dG ((c+1,s3,g2)) (by exact (H.eD (Pl:=[_,_,_,_,_]) (dN:=[_,_,_,_]) [1,2,3,4] (by decide) rfl).sub ⟨rfl,rfl,rfl,rfl,rfl,rfl,rfl,rfl,aB⟩) ?_
   (try dsimp only);exact ⟨by omega,Qy,hR2.trans hS,by omega,by omega⟩
  intro h50 a H
  try have p50:=dF h50
  refine dP ?_;refine bU _ _ ?_;clear bU;refine kP H (SC (Rd rfl (Rm rfl ?_)));clear H;intro a H;refine aD ?_;refine dG ((k+1,s2,g2)) (by exact (H.eD (Pl:=[_,_,_,_]) (dN:=[_,_,_]) [1,2,3] (by decide) rfl).sub ⟨rfl,rfl,rfl,rfl,rfl,aB⟩) ?_
  (try dsimp only);exact ⟨by omega,iF,by rw [hR2,pJ (by omega),qZ,Jp rfl],hm0,by omega⟩
 intro fC a H
 try have mR:=dF fC
 refine dP ?_;refine K8 _ _ ?_;clear K8;refine bD (fun _ oO=>?_)
 have hF1:(nu l.length (fun s=>jm (bG us st li rv) note t l s) s).1=0:=by rw [hE,hR,pJ (by omega),jm]
 have hF2:(nu l.length (fun s=>jm (bG us st li rv) note t l s) s).1=0->s1=(nu l.length (fun s=>jm (bG us st li rv) note t l s) s).2:=fun h=>by rw [hE,hR,pJ (by omega),jm]
 exact kP H (SC (aX oO rfl (LR results199 rfl fun H=>H.hp.jY (L':=gV b ms ml mr mb mu s1.n :: (mb,fD (gu s1.bN)) :: L) (by repeat (first|exact jE _|apply List.Sublist.cons)) ⟨s1,dh vi hF1.symm,rfl,hF2⟩)))
end
section
theorem apy:aQ 199:=aR func199 rfl
theorem apx:aQ 196:=aR func196 rfl
theorem GX:dH prog 133 5 5:=⟨by kernel_rfl⟩
theorem ard:dH prog 129 0 0:=⟨by kernel_rfl⟩
variable {us:List Int}
theorem axh {G:GH} {b:Nat} {x:Int} (h:G b=some (.cells #[vi x] 49 (0,0))):au G (.sl 1 ([x].map fun k=>[li k])) (.slice (some ⟨b,0,none⟩) 1 1):=Io [x] h (show 1<=maxLen by decide)
theorem UW {p:Prop} (h:p:=by
 (try dsimp only)
 first
 | exact ⟨by simp_all [sD,dz,iP,oJ],fun _ _ h=>h,rfl,fun h7=>by first|omega|(exfalso;simp_all)⟩
 | exact ⟨by simp_all [sD,dz,iP,oJ],Bc,rfl,fun h7=>by first|omega|(exfalso;simp_all)⟩):p:=h
theorem Uy {p:Prop} (h:p:=by
 refine ⟨(⟨s.n+(jw x:Nat),s.bN⟩,Gt),by exact H.sub ⟨rfl,rfl,rfl,aB⟩,?_⟩;exact UW):p:=h
theorem avI {m:Nat} (ih:Jb us m) (hm:m<=4294967296) (Gt:GH) (L:OL) (w0:World) (st:List bX) (li:List fO) (rv:List bW) (b ms ml mr mb mu:Nat) (s:CS) (x:ak) (p d y f r:ah) (body note:Bool) (t:Int)
  (hck:xg us Gt st li rv ms ml mr mu) (hO:gH Gt (gV b ms ml mr mb mu s.n :: (mb,fD (gu s.bN)) :: L) w0) (hh:jy Gt x.head p d y) (hf:au Gt (.sl 11 (x.flow.map ak.dat)) f) (hr:au Gt (.sl 6 (x.rows.map aS.dat)) r) (hz:bV x.dat<=m) (ht0:0<=t) (Bf:t<=4) (hs0:0<=s.n) (hs1:s.n+(bV x.dat:Nat)<=1099511627776) :
  Calls prog 134 #[(aJ b 0),.agg #[vi x.kind,vi x.code,vi x.id,.string x.text,p,vi x.head.marks.ins,vi x.head.marks.move,d,y,f,r],.agg #[.bool body,.bool note,vi t]] w0 (fU w0 Gt (gV b ms ml mr mb mu s.n :: (mb,fD (gu s.bN)) :: L) fun u G' L'=>Oy b ms ml mr mb mu L (fJ (bG us st li rv) body note t x s) u L'):=by
 obtain ⟨pA,pn,pc,rfl⟩:=hh.props.form;obtain ⟨dA,dn,dc,rfl⟩:=hh.bE.form;obtain ⟨lA,ln,lc,rfl⟩:=hh.layers.form;obtain ⟨fA,fc,rfl,-⟩:=hf.slice;obtain ⟨rA,rc,rfl,-⟩:=hr.slice;(iterate 2 rw [bQ] at *);have hxz:=wY x;have hcl:=Vg x.text
 have QO:jw x<=x.text.size+1:=by unfold jw;split <;> omega
 have hE:=ahH (bG us st li rv) body note t x s;refine jc (N:=117) (T:=[(0,_),(1,_),(2,_)]) func134 rfl ntmps134 rfl rfl hO ?_;intro a H;refine cO (fun _ K1=>?_);refine dW (cs:=[_,_,_,_,_,_,_,_,_,_,_]) H wn rfl rfl rfl ?_;clear H;intro b4 a w hb4 H;refine dW (cs:=[_,_,_]) H wn rfl rfl rfl ?_;clear H;intro b5 a w hb5 H;refine kH H (aj K1 rfl (SQ fun _ K2=>SR fun _ K3=>?_));clear H K1;intro a H;refine bP gq (cs:=[_,_,_,_,_,_,_,_,_,_,_]) H wn rfl rfl (H.hp.dx 1 rfl rfl) rfl ?_;clear H;intro a H;refine s_call apx H wn rfl (arL _ _ H.ro x _ _ _ _ _ _ _ (by omega)) rfl ?_;clear H;rintro v15 _ a w ⟨rfl,rfl⟩ - H;refine kH H (aj K3 rfl (SR fun _ K4=>Rm rfl (Rc rfl (Kz K4 (Cd rfl ?_ ?_))))) <;> clear H K3 K4
 ·intro fE a H
  try have og:=dT fE
  rw [O1 (r:=(lC x,s)) og] at hE;exact kP H (SR fun _ K5=>Rm rfl (aj K5 rfl (LR results134 rfl fun H=>H.hp.jY (L':=gV b ms ml mr mb mu s.n :: (mb,fD (gu s.bN)) :: L) (by repeat (first|exact jE _|apply List.Sublist.cons)) ⟨s,by rw [hE],rfl,fun h=>by rw [hE]⟩)))
 intro fE a H
 try have og:=dF fE
 rw [Jp (r:=(lC x,s)) (nV.1 og)] at hE;dsimp only at hE;refine kP H (Kc K2 (SR fun _ K6=>Rm rfl (Rk rfl (bq GX aC 2 rfl rfl (Rd rfl (Rk rfl (Rf GX rfl ?_)))))));clear H K2;intro a H;refine bC aC 2 (vs:=[_]) H wn rfl ?_;clear H;intro w H;refine K6 _ _ ?_;clear K6;refine tT (ι:=CS × GH) (Tc:=[(0,_),(4,_),(5,_)]) (Lc:=[(_,_),(_,_)]) (fun gh=>[]) (fun gh=>[gV b ms ml mr mb mu gh.1.n,(mb,fD (gu gh.1.bN))]++L) (fun gh=>gh.2) (fun gh=>sD (bG us st li rv) body note t x.kind x.id ⟨s.n+(jw x:Nat),s.bN⟩=(0,gh.1)∧(∀ b o,Gt b=some o->gh.2 b=some o)∧gh.1.n=s.n+(jw x:Nat)∧(x.kind=7->t < 4)) (by exact H.sub ⟨rfl,rfl,rfl,aB⟩) ?_ ?_
 ·skip;refine kP H (SR fun _ K7=>bq jF aC 1 rfl rfl (Kz K7 (SB (SR fun _ K8=>Rc rfl (aj K8 rfl (Cd rfl ?_ ?_)))))) <;> clear H K7 K8
  ·intro fZ a H
   try have p28:=dT fZ
   have hu:((jw x:Nat):Int)=uM x.text:=by rw [jw,aG p28]
   refine kP H (SR fun _ K9=>bq wD jg 1 rfl rfl ?_);clear H;intro a H;refine s_call aeH H wn rfl (adQ _ _ H.ro x.text (by omega)) rfl ?_;clear H;rintro v33 _ a w ⟨rfl,rfl⟩ - H;refine kH H (Rm rfl ?_);clear H;intro a H;(iterate 2 refine mg H wn rfl rfl rfl ?_;clear H;intro a H);refine kH H (Ra rfl (aj K9 rfl (SC (Rm rfl (Rk rfl (bq GX aC 2 rfl rfl (Rm rfl (Rs rfl (Rd rfl ?_)))))))));clear H K9;intro a H;rw [show s.n+1+((uM x.text:Int) - 1)=s.n+(jw x:Nat) by omega] at H;refine kH H (Rk rfl (Rf GX rfl ?_));clear H;intro a H;refine bC aC 2 (vs:=[_]) H wn rfl ?_;clear H;intro w H;refine aD ?_;exact Uy
  intro fZ a H
  try have p28:=dF fZ
  have hu:((jw x:Nat):Int)=1:=by rw [jw,av p28];rfl
  rw [show s.n+1=s.n+((jw x:Nat):Int) by omega] at H;refine kP H (SR fun _ aW=>Rc rfl (aj aW rfl (Cd rfl ?_ ?_))) <;> clear H aW
  ·intro h45 a H
   try have p45:=dT h45
   refine kP H (SR fun _ bM=>bq ard Db 0 rfl rfl (Rn rfl (Kz bM (Cd rfl ?_ ?_)))) <;> clear H bM
   ·intro ES a H
    try have p49:=dT ES
    refine bD (fun _ bU=>?_)
    have hF1:(fJ (bG us st li rv) body note t x s).1=19:=by rw [hE];simp [iP,sD,p45,dz,ES]
    have hF2:(fJ (bG us st li rv) body note t x s).1=0->(⟨s.n+(jw x:Nat),s.bN⟩:CS)=(fJ (bG us st li rv) body note t x s).2:=fun h=>absurd (hF1.symm.trans h) (by decide);exact kP H (SC (aX bU rfl (LR results134 rfl fun H=>H.hp.jY (L':=gV b ms ml mr mb mu (s.n+(jw x:Nat)) :: (mb,fD (gu (s.bN))) :: L) (by repeat (first|exact jE _|apply List.Sublist.cons)) ⟨⟨s.n+(jw x:Nat),s.bN⟩,dh vi hF1.symm,rfl,hF2⟩)))
   intro ES a H
   try have p49:=dF ES
   refine iB ?_;exact Uy
  intro h45 a H
  try have p45:=dF h45
  refine kP H (SR fun _ bY=>Rc rfl (aj bY rfl (Cd rfl ?_ ?_))) <;> clear H bY
  ·intro h50 a H
   try have p50:=dT h50
   refine kP H (SQ fun _ cZ=>SR fun _ dQ=>bq VI Db 0 rfl rfl ?_);clear H;intro a H;refine s_call mO H wn rfl (mY _ _ H.ro _ 19) rfl ?_;clear H;rintro v54 _ a w ⟨rfl,rfl⟩ - H;refine iT rP jv [_] [_] H wn rfl rfl rfl rfl rfl (by intro i q h;match i,h with|0,h=>exact h|n+1,h=>simp at h) rfl rfl ?_;clear H;intro b55 a w aB2 H;obtain ⟨OE,Bc,ata,H⟩:=H.fB;refine s_call sO H wn rfl (sQ _ _ H.ro _ _ (axh ata)) rfl ?_;clear H;rintro v56 _ a w ⟨rfl,rfl⟩ - H;refine kH H (aj dQ rfl (SR fun _ dR=>Rm rfl (Rc rfl (Kz dR (Cd rfl ?_ ?_))))) <;> clear H dQ dR
   ·intro lU a H
    try have p58:=dT lU
    have e58:dz note 19≠0:=fun h=>p58 (by rw [h];rfl)
    have avh:dL [dz note 19]=dz note 19:=by simp [dL,e58]
    rw [avh] at H
    have hF1:(fJ (bG us st li rv) body note t x s).1=dz note 19:=by rw [hE];simp [iP,sD,p50,e58]
    have hF2:(fJ (bG us st li rv) body note t x s).1=0->(⟨s.n+(jw x:Nat),s.bN⟩:CS)=(fJ (bG us st li rv) body note t x s).2:=fun h=>absurd (hF1.symm.trans h) (e58);exact kP H (SR fun _ dK=>Rm rfl (aj dK rfl (LR results134 rfl fun H=>H.hp.jY (L':=gV b ms ml mr mb mu (s.n+(jw x:Nat)) :: (mb,fD (gu (s.bN))) :: L) (by repeat (first|exact jE _|apply List.Sublist.cons)) ⟨⟨s.n+(jw x:Nat),s.bN⟩,dh vi hF1.symm,rfl,hF2⟩)))
   intro lU a H
   try have p58:=dF lU
   have e58:dz note 19=0:=Decidable.byContradiction fun h=>p58 (by simp [dL,h]);refine kP H (Kc cZ (SR fun _ dX=>Rm rfl (bq GY aC 1 rfl rfl ?_)));clear H cZ;intro a H;refine gy Vu (Li:=[_,_]) (L:=gV b ms ml mr mb mu _ :: (mb,fD (gu s.bN)) :: L) H wn rfl (U9 _ _ _ st li rv b ms ml mr mb mu _ s.bN x.id (hck.mono Bc) (Hp.owns (Li:=[_,_]) H.hp)) rfl ?_;clear H;rintro v63 _ _ a w ⟨rfl,rfl,rfl⟩ - H;dsimp only [lca,bJ] at H;refine kH H (aj dX rfl (SR fun _ fM=>Rm rfl (Rc rfl (Kz fM (Cd rfl ?_ ?_))))) <;> clear H dX fM
   ·intro uS a H
    try have p65:=dT uS
    have hF1:(fJ (bG us st li rv) body note t x s).1=rJ us s.bN x.id:=by rw [hE];simp [iP,sD,p50,e58,oJ,p65]
    have hF2:(fJ (bG us st li rv) body note t x s).1=0->(⟨s.n+(jw x:Nat),nK us s.bN x.id⟩:CS)=(fJ (bG us st li rv) body note t x s).2:=fun h=>absurd (hF1.symm.trans h) (p65);exact kP H (SR fun _ eP=>Rm rfl (aj eP rfl (LR results134 rfl fun H=>H.hp.jY (L':=gV b ms ml mr mb mu (s.n+(jw x:Nat)) :: (mb,fD (gu (nK us s.bN x.id))) :: L) (by repeat (first|exact jE _|apply List.Sublist.cons)) ⟨⟨s.n+(jw x:Nat),nK us s.bN x.id⟩,dh vi hF1.symm,rfl,hF2⟩)))
   intro uS a H
   try have p65:=dF uS
   have e65:rJ us s.bN x.id=0:=nV.1 p65;refine iB ?_;refine ⟨(⟨s.n+(jw x:Nat),nK us s.bN x.id⟩,OE),by exact H.sub ⟨rfl,rfl,rfl,aB⟩,?_⟩;exact UW
  intro h50 a H
  try have p50:=dF h50
  refine kP H (SR fun _ gB=>Rc rfl (aj gB rfl (Cd rfl ?_ ?_))) <;> clear H gB
  ·intro Wo a H
   try have p67:=dT Wo
   refine kP H (SQ fun _ iH=>SR fun _ jP=>bq ML aC 0 rfl rfl (Rc rfl (Kz jP (Cd rfl ?_ ?_)))) <;> clear H jP
   ·intro Wp a H
    try have p71:=dT Wp
    refine bD (fun _ jH=>?_)
    have hF1:(fJ (bG us st li rv) body note t x s).1=17:=by rw [hE];simp [iP,sD,p67,dz,p71]
    have hF2:(fJ (bG us st li rv) body note t x s).1=0->(⟨s.n+(jw x:Nat),s.bN⟩:CS)=(fJ (bG us st li rv) body note t x s).2:=fun h=>absurd (hF1.symm.trans h) (by decide);exact kP H (SC (aX jH rfl (LR results134 rfl fun H=>H.hp.jY (L':=gV b ms ml mr mb mu (s.n+(jw x:Nat)) :: (mb,fD (gu (s.bN))) :: L) (by repeat (first|exact jE _|apply List.Sublist.cons)) ⟨⟨s.n+(jw x:Nat),s.bN⟩,dh vi hF1.symm,rfl,hF2⟩)))
   intro Wp a H
   try have p71:=dF Wp
   have e71:¬ 4<=t:=by omega
   refine kP H (Kc iH (SR fun _ jr=>Rm rfl (bq GY aC 1 rfl rfl ?_)));clear H iH;intro a H;refine gy Vu (Li:=[_,_]) (L:=gV b ms ml mr mb mu _ :: (mb,fD (gu s.bN)) :: L) H wn rfl (U9 _ _ _ st li rv b ms ml mr mb mu _ s.bN x.id hck (Hp.owns (Li:=[_,_]) H.hp)) rfl ?_;clear H;rintro v75 _ _ a w ⟨rfl,rfl,rfl⟩ - H;dsimp only [lca,bJ] at H;refine kH H (aj jr rfl (SR fun _ kN=>Rm rfl (Rc rfl (Kz kN (Cd rfl ?_ ?_))))) <;> clear H jr kN
   ·intro Ho a H
    try have KN:=dT Ho
    have hF1:(fJ (bG us st li rv) body note t x s).1=rJ us s.bN x.id:=by rw [hE];simp [iP,sD,p67,dz,e71,oJ,KN]
    have hF2:(fJ (bG us st li rv) body note t x s).1=0->(⟨s.n+(jw x:Nat),nK us s.bN x.id⟩:CS)=(fJ (bG us st li rv) body note t x s).2:=fun h=>absurd (hF1.symm.trans h) (KN);exact kP H (SR fun _ kQ=>Rm rfl (aj kQ rfl (LR results134 rfl fun H=>H.hp.jY (L':=gV b ms ml mr mb mu (s.n+(jw x:Nat)) :: (mb,fD (gu (nK us s.bN x.id))) :: L) (by repeat (first|exact jE _|apply List.Sublist.cons)) ⟨⟨s.n+(jw x:Nat),nK us s.bN x.id⟩,dh vi hF1.symm,rfl,hF2⟩)))
   intro Ho a H
   try have KN:=dF Ho
   have e77:rJ us s.bN x.id=0:=nV.1 KN;refine iB ?_;refine ⟨(⟨s.n+(jw x:Nat),nK us s.bN x.id⟩,Gt),by exact H.sub ⟨rfl,rfl,rfl,aB⟩,?_⟩;exact UW
  intro Wo a H
  try have p67:=dF Wo
  refine kP H (SR fun _ jh=>Rc rfl (aj jh rfl (Cd rfl ?_ ?_))) <;> clear H jh
  ·intro ET a H
   try have Yr:=dT ET
   refine kP H (SR fun _ mD=>bq GY aC 1 rfl rfl ?_);clear H;intro a H;refine s_call yI H wn rfl (yY _ _ H.ro x.id 1 1073741824) rfl ?_;clear H;rintro v83 _ a w ⟨rfl,rfl⟩ - H;refine kH H (Rn rfl (Kz mD (Cd rfl ?_ ?_))) <;> clear H mD
   ·intro h84 a H
    try have p84:=dT h84
    refine bD (fun _ nE=>?_)
    have e84:¬ (1<=x.id∧x.id<=1073741824):=by have h0:=h84;simp at h0;omega
    have hF1:(fJ (bG us st li rv) body note t x s).1=18:=by rw [hE];simp [iP,sD,Yr,dz,e84]
    have hF2:(fJ (bG us st li rv) body note t x s).1=0->(⟨s.n+(jw x:Nat),s.bN⟩:CS)=(fJ (bG us st li rv) body note t x s).2:=fun h=>absurd (hF1.symm.trans h) (by decide);exact kP H (SC (aX nE rfl (LR results134 rfl fun H=>H.hp.jY (L':=gV b ms ml mr mb mu (s.n+(jw x:Nat)) :: (mb,fD (gu (s.bN))) :: L) (by repeat (first|exact jE _|apply List.Sublist.cons)) ⟨⟨s.n+(jw x:Nat),s.bN⟩,dh vi hF1.symm,rfl,hF2⟩)))
   intro h84 a H
   try have p84:=dF h84
   refine iB ?_;exact Uy
  intro ET a H
  try have Yr:=dF ET
  refine iB ?_;refine ⟨(⟨s.n+(jw x:Nat),s.bN⟩,Gt),by exact H.sub ⟨rfl,rfl,rfl,aB⟩,?_⟩;(try dsimp only)
  first
  | exact ⟨by simp_all [sD,dz,iP,oJ],fun _ _ h=>h,rfl,fun h7=>by first|omega|(exfalso;simp_all)⟩
  | exact ⟨by simp_all [sD,dz,iP,oJ],Bc,rfl,fun h7=>by first|omega|(exfalso;simp_all)⟩
 clear H;rintro ⟨s1,g⟩ a w hI H;dsimp only at hI H;obtain ⟨hP,yT,aCz,ht7⟩:=hI;rw [hP,Jp rfl] at hE;dsimp only at hE;replace hck:=hck.mono yT;replace hh:=hh.mono yT;replace hf:=hf.mono yT;replace hr:=hr.mono yT;dsimp only [lca,bJ] at H;refine kP H (SQ fun _ mE=>SR fun _ oC=>Rm rfl (bq jF aC 1 rfl rfl (Rf yN rfl ?_)));clear H;intro a H;refine bP fH (cs:=[_,_,_,_,_]) H wn rfl rfl (H.hp.dx 1 rfl rfl) rfl ?_;clear H;intro a H;refine gy P5 (Li:=[_,_]) (L:=gV b ms ml mr mb mu s1.n :: (mb,fD (gu s1.bN)) :: L) H wn rfl (Qw _ _ _ st li rv b ms ml mr mb mu _ hck (Hp.owns (Li:=[_,_]) H.hp) x.kind x.head _ _ _ hh (by omega)) rfl ?_;clear H;rintro v90 _ _ a w ⟨rfl,rfl,rfl⟩ - H;dsimp only [lca,bJ] at H;refine kH H (aj oC rfl (SR fun _ nQ=>Rm rfl (Rc rfl (Kz nQ (Cd rfl ?_ ?_))))) <;> clear H oC nQ
 ·intro Hq a H
  try have KO:=dT Hq
  have hF1:(fJ (bG us st li rv) body note t x s).1=iD (bG us st li rv) x.kind x.head:=by rw [hE,O1 (r:=(iD (bG us st li rv) x.kind x.head,s1)) KO]
  have hF2:(fJ (bG us st li rv) body note t x s).1=0->s1=(fJ (bG us st li rv) body note t x s).2:=fun h=>absurd (hF1.symm.trans h) KO;exact kP H (SR fun _ oO=>Rm rfl (aj oO rfl (LR results134 rfl fun H=>H.hp.jY (L':=gV b ms ml mr mb mu (s1.n) :: (mb,fD (gu (s1.bN))) :: L) (by repeat (first|exact jE _|apply List.Sublist.cons)) ⟨s1,dh vi hF1.symm,rfl,hF2⟩)))
 intro Hq a H
 try have KO:=dF Hq
 rw [Jp (r:=(iD (bG us st li rv) x.kind x.head,s1)) (nV.1 KO)] at hE;dsimp only at hE;refine kP H (Kc mE (SQ fun _ sI=>SR fun _ rQ=>bq jF aC 1 rfl rfl (Kz rQ (SB (SR fun _ uE=>Rc rfl (aj uE rfl (Cd rfl ?_ ?_))))))) <;> clear H mE rQ uE
 ·intro uT a H
  try have NT:=dT uT
  rw [aG NT] at hE;refine kP H (SR fun _ yx=>Rm rfl (bq zM kC 1 rfl rfl (bq ML aC 0 rfl rfl ?_)));clear H;intro a H;refine jD FI [_,_,_] H wn rfl rfl rfl rfl ?_;clear H;intro a H;refine gy MK (Li:=[_,_]) (L:=gV b ms ml mr mb mu s1.n :: (mb,fD (gu s1.bN)) :: L) H wn rfl (ih _ _ _ st li rv b ms ml mr mb mu s1 x.flow _ false true t hck (Hp.owns (Li:=[_,_]) H.hp) hf (by omega) ht0 Bf (by omega) (by omega)) rfl ?_;clear H;rintro aAV _ _ a w ⟨rfl,s3,rfl,rfl,h3⟩ - H;dsimp only [lca,bJ] at H
  have hF1:(fJ (bG us st li rv) body note t x s).1=(jT (bG us st li rv) false true t x.flow s1).1:=by rw [hE]
  have hF2:(fJ (bG us st li rv) body note t x s).1=0->s3=(fJ (bG us st li rv) body note t x s).2:=by rw [hE];exact h3
  exact kH H (aj yx rfl (LR results134 rfl fun H=>H.hp.jY (L':=gV b ms ml mr mb mu (s3.n) :: (mb,fD (gu (s3.bN))) :: L) (by repeat (first|exact jE _|apply List.Sublist.cons)) ⟨s3,dh vi hF1.symm,rfl,hF2⟩))
 intro uT a H
 try have NT:=dF uT
 rw [av NT] at hE;refine kP H (SR fun _ BO=>Rc rfl (aj BO rfl (Cd rfl ?_ ?_))) <;> clear H BO
 ·intro qw a H
  try have Fx:=dT qw
  rw [aG Fx] at hE;refine kP H (SR fun _ qJ=>Rm rfl (bq tZ uy 1 rfl rfl (bq VI Db 0 rfl rfl (bq ML aC 0 rfl rfl (Rd rfl ?_)))));clear H;intro a H;refine jD FI [_,_,_] H wn rfl rfl rfl rfl ?_;clear H;intro a H;refine gy apy (Li:=[_,_]) (L:=gV b ms ml mr mb mu s1.n :: (mb,fD (gu s1.bN)) :: L) H wn rfl (rows_ok ih hm _ _ _ st li rv b ms ml mr mb mu s1 x.rows _ note (t+1) hck (Hp.owns (Li:=[_,_]) H.hp) hr (by omega) (by omega) (by have:=ht7 Fx;omega) (by omega) (by omega)) rfl ?_;clear H;rintro aCO _ _ a w ⟨s3,rfl,rfl,h3⟩ - H;dsimp only [lca,bJ] at H
  have hF1:(fJ (bG us st li rv) body note t x s).1=(nu x.rows.length (fun s=>jm (bG us st li rv) note (t+1) x.rows s) s1).1:=by rw [hE]
  have hF2:(fJ (bG us st li rv) body note t x s).1=0->s3=(fJ (bG us st li rv) body note t x s).2:=by rw [hE];exact h3
  exact kH H (aj qJ rfl (LR results134 rfl fun H=>H.hp.jY (L':=gV b ms ml mr mb mu (s3.n) :: (mb,fD (gu (s3.bN))) :: L) (by repeat (first|exact jE _|apply List.Sublist.cons)) ⟨s3,dh vi hF1.symm,rfl,hF2⟩))
 intro qw a H
 try have Fx:=dF qw
 rw [av Fx] at hE
 have hF1:(fJ (bG us st li rv) body note t x s).1=0:=by rw [hE]
 have hF2:(fJ (bG us st li rv) body note t x s).1=0->s1=(fJ (bG us st li rv) body note t x s).2:=fun h=>by rw [hE]
 exact kP H (Kc sI (SR fun _ Di=>aj Di rfl (LR results134 rfl fun H=>H.hp.jY (L':=gV b ms ml mr mb mu (s1.n) :: (mb,fD (gu (s1.bN))) :: L) (by repeat (first|exact jE _|apply List.Sublist.cons)) ⟨s1,dh vi hF1.symm,rfl,hF2⟩)))
end
section
theorem aoF:aQ 134:=aR func134 rfl
theorem aoE:aQ 133:=aR func133 rfl
variable {us:List Int}
def ZY (fv:ah) (Gi:GH) (n:Nat) (E:Nat->Int) {σ:Type} (B:σ->OL) (S:Nat->σ):Prop:=∀ i,i < n->∀ (G1:GH) (w1:World),(∀ b o,Gi b=some o->G1 b=some o)->gH G1 (B (S i)) w1 ->
 tL prog fv [vi i] w1 (fU w1 G1 (B (S i)) fun u G' L'=>∃ s,u=vi (E i)∧L'=B s∧(E i=0->s=S (i+1)))
theorem alz (G:GH) (w0:World) {σ:Type} (B:σ->OL) (S:Nat->σ) (n:Nat) (E:Nat->Int) (fv:ah) (hO:gH G (B (S 0)) w0) (hn:n<=4611686018427387904) (hf:ZY fv G n E B S) :
  Calls prog 123 #[vi n,fv] w0 (fU w0 G (B (S 0)) fun u G' L'=>∃ s,u=vi (iU E n)∧L'=B s∧(iU E n=0->s=S n)):=by
 refine jc (N:=18) (T:=[(0,_),(1,_)]) func123 rfl ntmps123 rfl rfl hO ?_;intro a H;refine kP H (SR fun _ K1=>aj K1 rfl (SQ fun _ K2=>SR fun _ K3=>Rm rfl (Rm rfl (Kz K3 (SB ?_)))));clear H K1 K3;intro a H;skip;refine eX (ι:=Nat × GH) (Tc:=[(1,_),(7,_)]) (Lc:=[]) (fun gh=>[(8,vi gh.1)]) (fun gh=>[]++B (S gh.1)) (fun gh=>gh.2) (fun gh=>gh.1<=n∧dL (((List.range n).map E).drop gh.1)=iU E n∧(∀ b o,G b=some o->gh.2 b=some o)) (fun gh=>n - gh.1) ((0,G)) (by exact H.sub ⟨rfl,rfl,rfl,aB⟩) ?_ ?_
 ·exact EG
 clear H;rintro ⟨k,g⟩ a w hI H;dsimp only at hI H;obtain ⟨hk,he,hgm⟩:=hI;dsimp only [lca,bJ] at H;refine kP H (SR fun _ K4=>Rc rfl (Kz K4 (SQ fun _ K5=>Cd rfl ?_ ?_))) <;> clear H K4
 ·intro h9 a H
  try have p9:=dT h9
  have hk2:k < n:=by omega
  refine kP H (Kc K5 (SQ fun _ K6=>SB (SR fun _ K7=>Rm rfl (aj K7 rfl (SR fun _ K8=>Rm rfl (Rm rfl ?_))))));clear H K5 K7;intro a H;refine xY (Li:=[]) (L:=B (S k)) H wn rfl rfl (hf k hk2 _ _ hgm (Hp.owns (Li:=[]) H.hp)) rfl ?_;clear H;rintro v13 FT L13 a w ⟨s3,rfl,rfl,h3⟩ Ba H;refine kH H (aj K8 rfl (SR fun _ K9=>Rm rfl (Rc rfl (Kz K9 (Cd rfl ?_ ?_))))) <;> clear H K8 K9
  ·intro jK a H
   try have tu:=dT jK
   have hE:iU E n=E k:=by rw [Gm hk2,aG tu] at he;exact he.symm
   exact kP H (SR fun _ aW=>Rm rfl (aj aW rfl (LR results123 rfl fun H=>H.hp.fQ ⟨s3,by rw [hE],rfl,fun h=>absurd (hE.symm.trans h) tu⟩)))
  intro jK a H
  try have tu:=dF jK
  have hS:=h3 (nV.1 tu);subst hS;exact acJ
 intro h9 a H
 try have p9:=dF h9
 refine dP ?_;refine K2 _ _ ?_;clear K2;exact kP H (SR fun _ bM=>aj bM rfl (LR results123 rfl fun H=>H.hp.fQ ⟨S n,dh vi (by rw [pJ (by simp;omega)] at he;exact he),by rw [show k=n by omega],fun _=>rfl⟩))
abbrev PE (b ms ml mr mb mu:Nat) (L:OL) (s:CS):OL:=gV b ms ml mr mb mu s.n :: (mb,fD (gu s.bN)) :: L
theorem avH {m:Nat} (ih:Jb us m) (hm:m<=4294967296) {G:GH} {L:OL} {st:List bX} {li:List fO} {rv:List bW} {b ms ml mr mb mu:Nat} {s:CS} {l:List ak} {v:ah} {body note:Bool} {t:Int} {x3 x4 x5:Nat}
  (hck:xg us G st li rv ms ml mr mu) (h3:aH G x3 0=some (aJ b 0)) (h4:aH G x4 0=some v) (h5:∀ (j:Nat) (u:ah),[.bool body,.bool note,vi t][j]?=some u->aH G x5 (0+j)=some u)
  (hv:au G (.sl 11 (l.map ak.dat)) v) (hz:bO l<=m) (ht0:0<=t) (Bf:t<=4) (hs0:0<=s.n) (hs1:s.n+(bO l:Nat)<=1099511627776) :
  ZY (.func (.func 133) #[] #[(aJ x3 0),(aJ x4 0),(aJ x5 0)]) G l.length (Dy (fJ (bG us st li rv) body note t) l s) (PE b ms ml mr mb mu L) (sF (fJ (bG us st li rv) body note t) l s):=by
 intro k hk G1 w0 Ni hO;refine jJ (caps:=[(aJ x3 0),(aJ x4 0),(aJ x5 0)]) aoE ?_;replace h3:=aF Ni h3;replace h4:=aF Ni h4;replace h5:=fun j u hj=>aF Ni (h5 j u hj);replace hck:=hck.mono Ni;replace hv:=hv.mono Ni;obtain ⟨A,c,rfl,hc1,hc2,hg⟩:=hv.slice;rw [bQ] at *;obtain ⟨o,xo,pA,pn,pc,dA,dn,dc,yA,yn,yc,fA,fn,fc,rA,rn,rc,rfl,hrow,hhd,hfl,hrw⟩:=DF hk hg;obtain ⟨hn0,hn1⟩:=akl (bG us st li rv) body note t l s k (by omega)
 have hdz:bO (l.drop k)=1+bV l[k].dat+bO (l.drop (k+1)):=by
  simp only [bO];rw [oF hk,eZ,dU]
 have hzm:=ZB (jB hk)
 have hE:Dy (fJ (bG us st li rv) body note t) l s k=(fJ (bG us st li rv) body note t l[k] (sF (fJ (bG us st li rv) body note t) l s k)).1:=by unfold Dy;rw [dV hk]
 have hS:sF (fJ (bG us st li rv) body note t) l s (k+1)=(fJ (bG us st li rv) body note t l[k] (sF (fJ (bG us st li rv) body note t) l s k)).2:=by rw [sF,dV hk]
 rw [hE,hS]
 generalize sF (fJ (bG us st li rv) body note t) l s k=s1 at *
 refine jc (N:=13) (T:=[(0,_),(1,_),(2,_),(3,_)]) func133 rfl ntmps133 rfl rfl hO ?_;intro a H;refine kP H (SR fun _ K1=>aj K1 rfl (SQ fun _ K2=>?_));clear H K1;intro a H;refine dI hmx [[],[],[],[1,2],[1,2,3],[],ra 0 6,ra 0 7] [6,7] (by kernel_rfl) [_,_,_,_,.agg #[vi l[k].kind,vi l[k].code,vi l[k].id,.string l[k].text,.slice pA pn pc,vi l[k].head.marks.ins,vi l[k].head.marks.move,.slice dA dn dc,.slice yA yn yc,.slice fA fn fc,.slice rA rn rc],.agg #[.bool body,.bool note,vi t]] H (ay (X0 rfl fun hG=>Rg La rfl (aF hG h3)) (X0 rfl fun hG=>Rg kC rfl (aF hG h4)) (Z0 rfl (Rm rfl)) (Z2 1 7 2 8 rfl (Ri jq gq rfl rfl)) (ay ?_ ?_ (bR rfl) (bR rfl) cK)) ?_
 ·refine gZ 3 9 rfl rfl fun _ a w G1 hG HT H fin=>?_;refine bP gq (cs:=[_,_,_,_,_,_,_,_,_,_,_]) H wn rfl rfl (fun j v hj=>H.hp.aH (aF hG (hrow j v hj))) rfl ?_;exact jk
 ·refine TM rfl fun _ a w G1 hG HT H fin=>?_;refine bP SF (cs:=[.bool body,.bool note,vi t]) H wn rfl rfl (fun j v hj=>H.hp.aH (aF hG (h5 j v hj))) rfl ?_;exact jk
 clear H;intro a w G nJ H hv;have H:=H.aM (hv 0 6 rfl rfl) rfl;have H:=H.aM (hv 4 10 rfl rfl) rfl;have H:=H.aM (hv 5 11 rfl rfl) rfl;clear hv;refine gy aoF (Li:=[]) (L:=PE b ms ml mr mb mu L s1) H wn rfl (avI ih hm _ _ _ st li rv b ms ml mr mb mu s1 l[k] _ _ _ _ _ body note t (hck.mono nJ) (Hp.owns (Li:=[]) H.hp) (hhd.mono nJ) (hfl.mono nJ) (hrw.mono nJ) (by omega) ht0 Bf (by omega) (by omega)) rfl ?_;clear H;rintro v12 _ _ a w ⟨s3,rfl,rfl,h12⟩ - H;dsimp only [List.nil_append] at H;refine kH H (Ra rfl ?_);clear H;intro a H;refine aD ⟨rfl,?_⟩;refine K2 _ _ ?_;clear K2;refine lr H results133 rfl ?_;exact H.hp.fQ ⟨s3,rfl,rfl,h12⟩
theorem avJ {m:Nat} (ih:Jb us m) (hm:m<=4294967296):Jb us (m+1):=by
 intro G L w0 st li rv b ms ml mr mb mu s l v body note t hck hO hv hz ht0 Bf hs0 hs1;obtain ⟨hA1,hA2⟩:=ahI (bG us st li rv) body note t l s;refine Calls.alC (R:=fun u G' L'=>Oy b ms ml mr mb mu L (jT (bG us st li rv) body note t l s) u L') ?_ fun _ _ _ h=>h;obtain ⟨A,c,rfl,hc1,hc2,-⟩:=hv.slice;rw [bQ] at *;have hll:=FN l;refine jc (N:=11) (T:=[(0,_),(1,_),(2,_)]) func72 rfl ntmps72 rfl rfl hO ?_;intro a H;refine cO (fun _ K1=>?_);refine dW (cs:=[_]) H wn rfl rfl rfl ?_;clear H;intro b3 a w hb3 H;refine dW (cs:=[_]) H wn rfl rfl rfl ?_;clear H;intro b4 a w hb4 H;refine dW (cs:=[_,_,_]) H wn rfl rfl rfl ?_;clear H;intro b5 a w hb5 H;refine kH H (aj K1 rfl (SQ fun _ K2=>?_));clear H K1;intro a H;obtain ⟨Ga5,QC,zQ,H⟩:=H.fB;obtain ⟨Ga4,Kj,AY,H⟩:=H.fB;obtain ⟨Ga,E9,yR,H⟩:=H.fB;replace zQ:=E9 _ _ (Kj _ _ zQ);replace AY:=E9 _ _ AY;have hma:∀ b o,G b=some o->Ga b=some o:=fun b o h=>E9 _ _ (Kj _ _ (QC _ _ h))
 have g3:aH Ga b3 0=some (aJ b 0):=by unfold aH;rw [yR];rfl
 have g4:aH Ga b4 0=some (.slice A l.length c):=by unfold aH;rw [AY];rfl
 have g5:∀ (j:Nat) (u:ah),[.bool body,.bool note,vi t][j]?=some u->aH Ga b5 (0+j)=some u:=by
  intro j u hj;unfold aH;rw [zQ];simpa using hj
 have hcb:=avH (mb:=mb) (L:=L) (s:=s) ih hm (hck.mono hma) g3 g4 g5 (hv.mono hma) (by omega) ht0 Bf hs0 hs1;refine kP H (SC (Rg kC rfl (by assumption) ?_));clear H;intro a H;refine kH H (Rl jq rfl ?_);clear H;intro a H;refine rM H wn rfl rfl ?_;clear H;intro a H;refine gy JO (Li:=[]) (L:=PE b ms ml mr mb mu L s) H wn rfl (alz _ _ (PE b ms ml mr mb mu L) (sF (fJ (bG us st li rv) body note t) l s) l.length (Dy (fJ (bG us st li rv) body note t) l s) _ (Hp.owns (Li:=[]) H.hp) (by omega) hcb) rfl ?_;clear H;rintro v10 _ _ a w ⟨s3,rfl,rfl,h10⟩ - H;dsimp only [List.nil_append] at H;exact kH H (aX K2 rfl (LR results72 rfl fun H=>H.hp.fQ ⟨s3,by rw [hA1],rfl,fun h=>by rw [hA1] at h;exact (h10 h).trans (hA2 (hA1.trans h)).symm⟩))
theorem QZ:∀ m:Nat,m<=4294967297->Jb us m
 | 0,_=>fun _ _ _ _ _ _ _ _ _ _ _ _ _ _ _ _ _ _ _ _ _ h=>absurd h (by omega)
 | m+1,hm=>avJ (QZ m (by omega)) (by omega)
end
theorem aqX:dH prog 102 1 1:=⟨by kernel_rfl⟩
theorem aqY:dH prog 102 2 2:=⟨by kernel_rfl⟩
theorem aoB:aQ 126:=aR func126 rfl
theorem aoA:aQ 124:=aR func124 rfl
theorem ayV {G:GH} {bl:Nat} {l:List bW} {A:Option Addr} {n c:Nat} (hb:aH G bl 0=some (.slice A n c)) (hv:au G (.sl 3 (l.map bW.dat)) (.slice A n c)):vB (.func (.func 126) #[] #[(aJ bl 0)]) G l.length fun k=>(l[k]?.map bW.id).getD 0:=by
 intro k hk G1 w0 hm hG;refine jJ (caps:=[(aJ bl 0)]) aoB ?_;replace hb:=aF hm hb
 obtain rfl:n=l.length:=by have:=hv.len;simpa using this
 obtain ⟨b,o,rfl,hrow⟩:=YK (hv.mono hm) hk;have hq:=hrow 0 _ rfl;refine eN [(0,_),(1,_)] func126 rfl ntmps126 rfl rfl hG ?_;intro a H;refine kP H (SR fun _ K1=>aj K1 rfl (SR fun _ K2=>Rg zm rfl (by assumption) ?_));clear H K1;intro a H;refine kH H (Rm rfl (Ri qG qh rfl rfl (Rf VH rfl (Rg aC rfl (by assumption) ?_))));clear H;intro a H;exact kH H (aj K2 rfl (LR results126 rfl fun H=>H.rt (by dsimp only;rw [dV hk];rfl)))
def RY (l:List bW) (i:Nat) (x:bW):Int:=dL [wO (fun k=>(l[k]?.map bW.id).getD 0) i,dz (!xC x.author) 39,dz (!decide (0<=x.time∧x.time<=1099511627776)) 40]
def CU (l:List bW) (i:Nat):Int:=match l[i]? with|some x=>RY l i x|none=>0
theorem ayo {G:GH} {bl:Nat} {l:List bW} {A:Option Addr} {n c:Nat} (hb:aH G bl 0=some (.slice A n c)) (hv:au G (.sl 3 (l.map bW.dat)) (.slice A n c)) (hl:l.length<=4294967296) (ht:∀ x∈l,x.author.size < 4611686018427387904):vB (.func (.func 124) #[] #[(aJ bl 0)]) G l.length (CU l):=by
 intro k hk G1 w0 hm hG;refine jJ (caps:=[(aJ bl 0)]) aoA ?_;replace hb:=aF hm hb;replace hv:=hv.mono hm;have hcb:=ayV hb hv
 obtain rfl:n=l.length:=by have:=hv.len;simpa using this
 obtain ⟨b,o,rfl,hrow⟩:=YK hv hk;have hte:=ht _ (jB hk)
 have he:CU l k=RY l k l[k]:=by unfold CU;rw [dV hk]
 obtain ⟨x,hx⟩:∃ x,x=l[k]:=⟨_,rfl⟩;rw [<- hx] at hrow hte he;refine eN [(0,_),(1,_)] func124 rfl ntmps124 rfl rfl hG ?_;intro a H;refine kP H (SR fun _ K1=>aj K1 rfl (SQ fun _ K2=>?_));clear H K1;intro a H;have H:=H.sub (T':=[(0,_),(1,_)]) ⟨rfl,rfl,aB⟩;refine dI hmx [[],[],[0,1],[],[],[3,4],[3,4,5],ra 3 4,ra 0 8,ra 0 9,ra 0 10,[],[],[11,12],[11,12,13],ra 11 4,ra 0 16,ra 0 17,ra 0 18,ra 0 19,ra 0 20,ra 0 21] [19,20,21] (by kernel_rfl) [_,.func (.func 126) #[] #[(aJ bl 0)],vi (wO (fun k=>(l[k]?.map bW.id).getD 0) k),_,_,_,_,_,.bool (xC x.author),_,vi (dz (!xC x.author) 39),_,_,_,_,_,.bool (decide (0<=x.time∧x.time<=1099511627776)),_,vi (dz (!decide (0<=x.time∧x.time<=1099511627776)) 40)] H (ay (Z0 rfl (Rm rfl)) ?_ ?_ (X0 rfl fun hG=>Rg zm rfl (aF hG hb)) (ay (Z0 rfl (Rm rfl)) (Z2 3 7 4 8 rfl (Ri qG qh rfl rfl)) (Z1 5 9 rfl (Rf aqX rfl)) (X1 6 10 rfl fun hG=>Rg jg rfl (aF hG (hrow 1 _ rfl))) (ay ?_ (Z1 8 12 rfl (Rn rfl)) ?_ (X0 rfl fun hG=>Rg zm rfl (aF hG hb)) (ay (Z0 rfl (Rm rfl)) (Z2 11 15 12 16 rfl (Ri qG qh rfl rfl)) (Z1 13 17 rfl (Rf aqY rfl)) (X1 14 18 rfl fun hG=>Rg aC rfl (aF hG (hrow 2 _ rfl))) (ay ?_ (Z1 16 20 rfl (Rn rfl)) ?_ (bR rfl) (bF (bR rfl) (bF (bR rfl) cK))))))) ?_
 ·exact Gx
 ·exact acy
 ·refine gZ 7 11 rfl rfl fun _ a w G1 hG HT H fin=>?_;refine s_call aew H wn rfl (aat _ _ H.ro x.author hte) rfl ?_;clear H;rintro v12 BM a w ⟨rfl,-⟩ oH H;exact fin H oH (rfl)
 ·refine gZ 9 13 rfl rfl fun _ a w G1 hG HT H fin=>?_;refine s_call mO H wn rfl (mY _ _ H.ro _ 39) rfl ?_;clear H;rintro v14 Ew a w ⟨rfl,-⟩ Hr H;exact fin H Hr (rfl)
 ·refine gZ 15 19 rfl rfl fun _ a w G1 hG HT H fin=>?_;refine s_call yI H wn rfl (yY _ _ H.ro x.time 0 1099511627776) rfl ?_;clear H;rintro v20 FU a w ⟨rfl,-⟩ arX H;exact fin H arX (rfl)
 ·refine gZ 17 21 rfl rfl fun _ a w G1 hG HT H fin=>?_;refine s_call mO H wn rfl (mY _ _ H.ro _ 40) rfl ?_;clear H;rintro v22 ZP a w ⟨rfl,-⟩ zP H;exact fin H zP (rfl)
 clear H;intro a w G nJ H hv;have H:=H.aM (hv 2 6 rfl rfl) rfl;have H:=H.aM (hv 10 14 rfl rfl) rfl;have H:=H.aM (hv 18 22 rfl rfl) rfl;clear hv;refine iT rP jv [_,_,_] [_,_,_] H wn rfl rfl rfl rfl rfl (by intro i q h;match i,h with|0,h=>exact h|1,h=>exact h|2,h=>exact h|n+3,h=>simp at h) rfl rfl ?_;clear H;intro b23 a w aBV H;obtain ⟨ZQ,H7,asV,H⟩:=H.fB;refine s_call sO H wn rfl (sQ _ _ H.ro _ _ (Io [wO (fun k=>(l[k]?.map bW.id).getD 0) k,dz (!xC x.author) 39,dz (!decide (0<=x.time∧x.time<=1099511627776)) 40] asV (show 3<=maxLen by decide))) rfl ?_;clear H;rintro v24 _ a w ⟨rfl,rfl⟩ - H;refine kH H (Ra rfl ?_);clear H;intro a H;refine aD ⟨rfl,?_⟩;refine K2 _ _ ?_;clear K2;refine lr H results124 rfl ?_;exact H.rt (by rw [he,RY])
def Du (l:List bW):Int:=dL [dz (decide (256 < (l.length:Int))) 9,iU (CU l) (min l.length 256)]
theorem amY (G:GH) (w0:World) (hG:Hold G w0) (l:List bW) (v:ah) (hv:au G (.sl 3 (l.map bW.dat)) v) (hl:l.length<=4294967296) (ht:∀ x∈l,x.author.size < 4611686018427387904) :
  Calls prog 68 #[v] w0 (bK w0 G fun u G'=>u=vi (Du l)):=by
 obtain ⟨A,c,rfl,hc1,hc2,-⟩:=hv.slice;rw [bQ] at *;refine eN [(0,_)] func68 rfl ntmps68 rfl rfl hG ?_;intro a H;refine cO (fun _ K1=>?_);refine dW (cs:=[_]) H wn rfl rfl rfl ?_;clear H;intro b1 a w hb1 H;refine kH H (aj K1 rfl (SQ fun _ K2=>?_));clear H K1;intro a H;have H:=H.sub (T':=[(1,_)]) ⟨rfl,aB⟩;obtain ⟨Ga,hma,hb1',H⟩:=H.fB
 have hbl:aH Ga b1 0=some (.slice A l.length c):=by unfold aH;rw [hb1'];rfl
 have hcb:=ayo hbl (hv.mono hma) hl ht;refine dI hmx [[],[0],[0,1],[0,1,2],[],[4],[4,5],[],ra 0 8,ra 0 9,ra 0 10,ra 0 11] [9,10,11] (by kernel_rfl) [_,_,_,vi (dz (decide (256 < (l.length:Int))) 9),_,_,vi ((min l.length 256:Nat):Int),.func (.func 124) #[] #[(aJ b1 0)],vi (iU (CU l) (min l.length 256))] H (ay (X0 rfl fun hG=>Rg zm rfl (aF hG hbl)) (Z1 0 3 rfl (Rl qG rfl)) (Z1 1 4 rfl (Rc rfl)) ?_ (ay (X0 rfl fun hG=>Rg zm rfl (aF hG hbl)) (Z1 4 7 rfl (Rl qG rfl)) ?_ ?_ (ay ?_ (bR rfl) (bR rfl) (bR rfl) cK))) ?_
 ·exact Pj
 ·exact Pn
 ·exact Gx
 ·refine dY 6 9 7 10 rfl rfl fun _ a w G1 hG HT H fin=>?_;refine s_call JO H wn rfl (LY _ _ H.ro (min l.length 256) (CU l) _ (by omega) ((hcb.mono hG).le (Nat.min_le_left _ _))) rfl ?_;exact Mk
 clear H;intro a w G nJ H hv;have H:=H.aM (hv 3 6 rfl rfl) rfl;have H:=H.aM (hv 8 11 rfl rfl) rfl;clear hv;refine iT rP jv [_,_] [_,_] H wn rfl rfl rfl rfl rfl (by intro i q h;match i,h with|0,h=>exact h|1,h=>exact h|n+2,h=>simp at h) rfl rfl ?_;clear H;intro b12 a w Hy H;obtain ⟨BM,Cw,Hz,H⟩:=H.fB;refine s_call sO H wn rfl (sQ _ _ H.ro _ _ (Ac Hz)) rfl ?_;clear H;rintro v13 _ a w ⟨rfl,rfl⟩ - H;refine kH H (Ra rfl ?_);clear H;intro a H;refine aD ⟨rfl,?_⟩;refine K2 _ _ ?_;clear K2;refine lr H results68 rfl ?_;exact wz
theorem lu:∀ {l:List Int},dL l=0->∀ x∈l,x=0
 | [],_,_,h=>by cases h
 | e :: r,h,x,hx=>by
  unfold dL at h
  by_cases he:e=0
  ·rw [av (fun h'=>h' he)] at h
   rcases fV.1 hx with rfl|hx
   ·exact he
   exact lu h x hx
  rw [aG he] at h;exact absurd h he
theorem Cg {E:Nat->Int} {n:Nat} (h:iU E n=0) (i:Nat) (hi:i < n):E i=0:=lu h _ (by simp;exact ⟨i,hi,rfl⟩)
theorem QX {id:Nat->Int} {i:Nat} (h:wO id i=0):1<=id i∧id i<=1073741824∧(0 < i->id (i - 1) < id i):=by
 unfold wO at h
 by_cases h1:1<=id i∧id i<=1073741824
 ·rw [av (fun h'=>h' h1)] at h
  by_cases h2:0 < i∧id i=id (i - 1)
  ·rw [aG h2] at h;cases h
  rw [av h2] at h
  by_cases h3:0 < i∧id i < id (i - 1)
  ·rw [aG h3] at h;cases h
  exact ⟨h1.1,h1.2,fun h0=>by omega⟩
 rw [aG h1] at h;cases h
theorem ahD {l:List Int} (h:∀ i (h:i+1 < l.length),l[i] < l[i+1]):Dg l:=by
 have hlt:∀ (j i:Nat) (hj:j < l.length) (hi:i < j),l[i] < l[j]:=by
  intro j
  induction j with
  | zero=>intro i _ hi;omega
  | succ j ih =>
   intro i hj hi;have h1:=h j hj
   by_cases e:i=j
   ·subst e;exact h1
   have:=ih i (by omega) (by omega);omega
 intro k hk hm;obtain ⟨i,hi,he⟩:=List.getElem_of_mem hm;rw [List.length_take] at hi;have:=hlt k i hk (by omega);rw [List.getElem_take] at he
 omega
theorem acE {p:Prop} (h:p:=by
 have h4:=(QX (lu h3 _ eT)).2.2 (by omega);rw [Nat.add_sub_cancel,dV hi,dV (show i < l.length by omega)] at h4
 simpa using h4):p:=h
theorem ayp {l:List bW} (h:Du l=0):Dg (l.map bW.id):=by
 have h1:=lu h _ (eT);have h2:=lu h _ (gK _ eT)
 have hl:l.length<=256:=by
  unfold dz at h1
  by_cases hd:256 < (l.length:Int)
  ·rw [aG (aI hd)] at h1;cases h1
  omega
 refine ahD fun i hi=>?_;rw [bQ] at hi;have h3:=Cg h2 (i+1) (by omega)
 unfold CU at h3
 rw [dV hi] at h3;exact acE
theorem awd {l:List fO} (h:Mr l=0):Dg (l.map fO.id):=by
 have h1:=lu h _ (eT);have h2:=lu h _ (gK _ eT)
 have hl:l.length<=64:=by
  unfold dz at h1
  by_cases hd:64 < (l.length:Int)
  ·rw [aG (aI hd)] at h1;cases h1
  omega
 refine ahD fun i hi=>?_;rw [bQ] at hi;have h3:=Cg h2 (i+1) (by omega)
 unfold Ir at h3
 exact acE
theorem aAy {l:List bX} (h:Av l=0):Dg (l.map bX.id):=by
 unfold Av at h
 by_cases h1:128 < l.length
 ·rw [aG h1] at h;cases h
 rw [av h1] at h
 by_cases h2:vI (Bp l) 0 l.length≠0
 ·rw [aG h2] at h;exact absurd h h2
 intro k hk;rw [bQ] at hk;have:=aiH (nV.1 h2) k hk;rw [<- List.map_take,List.getElem_map];exact this
theorem aqy:aQ 69:=aR func69 rfl
theorem BF:Ty prog 36 4 96 [.slice none 0 0,.slice none 0 0,.slice none 0 0,.slice none 0 0] true:=⟨by kernel_rfl,by kernel_rfl⟩
theorem aqw:aQ 67:=aR func67 rfl
theorem aqx:aQ 68:=aR func68 rfl
theorem EL:dH prog 38 1 1:=⟨by kernel_rfl⟩
theorem VR (e:Int):dL [e]=e:=by
 by_cases h:e=0 <;> simp [dL,h]
structure gG where
 flow:List ak
 fin:dJ
 revs:List bW
 kY:BZ
structure pz (G:GH) (D:jO) (d:gG):Prop where
 fl:au G (.sl 11 (d.flow.map ak.dat)) (cB D.f)
 hd:jy G d.fin (cB D.p) (cB D.d) (cB D.y)
 ins:D.ins=d.fin.marks.ins
 mv:D.move=d.fin.marks.move
 rv:au G (.sl 3 (d.revs.map bW.dat)) (cB D.r)
 st:Ap G d.kY (cB D.s1) (cB D.s2) (cB D.s3) (cB D.s4)
theorem Ap.mono {G G':GH} (hm:∀ b o,G b=some o->G' b=some o) {s:BZ} {a b c d:ah} (h:Ap G s a b c d):Ap G' s a b c d:=⟨h.st.mono hm,h.li.mono hm,h.cm.mono hm,h.va.mono hm⟩
theorem pz.mono {G G':GH} (hm:∀ b o,G b=some o->G' b=some o) {D:jO} {d:gG} (h:pz G D d):pz G' D d:=⟨h.fl.mono hm,h.hd.mono hm,h.ins,h.mv,h.rv.mono hm,h.st.mono hm⟩
structure Al (d:gG):Prop where
 fl:bO d.flow<=1073741824
 hd:mK d.fin<=4294967296
 rn:d.revs.length<=4294967296
 rt:∀ x∈d.revs,x.author.size < 4611686018427387904
 sn:d.kY.styles.length<=4294967296
 st:TR d.kY
abbrev gG.kT (d:gG):aZ:=bG [] d.kY.styles d.kY.lists d.revs
def uW (m:zw):Bool:=decide ((m.ins≠0∨m.move≠0)∨0 < (m.bE.length:Int))
def iL (d:gG):Int:=dL [dL [Ms d.kY,Du d.revs],dL [iD d.kT 3 d.fin,dz (uW d.fin.marks) 21],(jT d.kT true false 0 d.flow ⟨0,[]⟩).1,dz (decide (16384 < (jT d.kT true false 0 d.flow ⟨0,[]⟩).2.n)) 9]
theorem aaS {p:Prop} (h:p:=by
 exact fin H iJ (by show _=_;first|exact iK (aI c1).symm|exact iK (by simp [c0]))):p:=h
theorem aaT {p:Prop} (h:p:=by
 exact fin H iJ (by show _=_;first|exact iK (nT (Or.inl c1)).symm|exact iK (by simp [uW,c1]))):p:=h
theorem Ut {p:Prop} (h:p:=by
 refine dY 0 24 2 26 rfl rfl fun _ a w G1 hG HT H fin=>?_;refine gy P5 (Li:=[_,_]) (L:=gV b ms ml mr mb mu 0 :: (mb,fD []) :: []) H wn rfl (Qw _ _ _ d.kY.styles d.kY.lists d.revs b ms ml mr mb mu _ (hck.mono hG) (Hp.owns (Li:=[_,_]) H.hp) 3 d.fin _ _ _ (hhd.mono hG) zh) rfl ?_;clear H;rintro v27 _ _ a w ⟨rfl,rfl,rfl⟩ arZ H;dsimp only [lca,bJ] at H;exact fin H arZ (rfl)):p:=h
theorem UG {p:Prop} (h:p:=by
 refine gZ 17 41 rfl rfl fun _ a w G1 hG HT H fin=>?_;refine s_call mO H wn rfl (mY _ _ H.ro _ 21) rfl ?_;clear H;rintro v42 G42 a w ⟨rfl,-⟩ asl H;exact fin H asl (rfl)):p:=h
theorem acX {p:Prop} (h:p:=by
 refine dY 12 36 16 40 rfl rfl fun _ a w G1 hG HT H fin=>?_;refine kH H (Pt (aI c1) rfl ?_);clear H;intro a H;exact aaT):p:=h
theorem acZ {p:Prop} (h:p:=by
 refine dY 7 31 10 34 rfl rfl fun _ a w G1 hG HT H fin=>?_;refine kH H (Pf (aT c0) rfl ?_);clear H;intro a H;exact aaS):p:=h
theorem UC {p:Prop} (h:p:=by
 refine gZ 1 25 rfl rfl fun _ a w G1 hG HT H fin=>?_;exact Uu):p:=h
theorem adz (G:GH) (w0:World) (hG:Hold G w0) (D:jO) (d:gG) (hR:pz G D d) (hz:Al d) :
  Calls prog 21 #[D.val] w0 (bK w0 G fun u G'=>u=vi (iL d)):=by
 obtain ⟨df,dp,dd,dy,dr,d1,d2,d3,d4,ins,mv⟩:=D;obtain ⟨hfl,hhd,hin,hmv,qU,hst⟩:=hR;dsimp only at hfl hhd hin hmv qU hst;subst hin;subst hmv;obtain ⟨zf,zh,zr,zt,zs,zg⟩:=hz;have hdl:=hhd.bE.len;rw [bQ] at hdl
 have hdn:d.fin.marks.bE.length<=4294967296:=by
  have h1:=FM d.fin;have h2:=pq (d.fin.marks.bE.map gF.dat);rw [bQ] at h2;omega
 refine eN [(0,_)] func21 rfl ntmps21 rfl rfl hG ?_;intro a H;refine cO (fun _ K1=>?_);refine dW (cs:=[_,_,_,_,_,_,_,_,_,_,_]) H wn rfl rfl rfl ?_;clear H;intro b1 a w hb1 H;refine kH H (aj K1 rfl (SQ fun _ K2=>SQ fun _ K3=>?_));clear H K1;intro a H;refine dI hmx [[],[0],[0,1],[],[3],ra 0 5,ra 0 6,ra 0 7,ra 0 8] [6,7,8] (by kernel_rfl) [_,.agg #[cB d1,cB d2,cB d3,cB d4],vi (Ms d.kY),_,cB dr,vi (Du d.revs)] H (ay (Z0 rfl (Rf MS rfl)) ?_ ?_ (Z0 rfl (Rf EM rfl)) (ay (Z1 3 11 rfl (Ro zm 0 rfl)) ?_ (bR rfl) (bR rfl) (bF (bR rfl) cK))) ?_
 ·refine gZ 0 8 rfl rfl fun _ a w G1 hG HT H fin=>?_;refine bP BF (cs:=[_,_,_,_]) H wn rfl rfl (H.hp.dx 0 rfl rfl) rfl ?_;exact jk
 ·refine gZ 1 9 rfl rfl fun _ a w G1 hG HT H fin=>?_;refine s_call aqw H wn rfl (amZ _ _ H.ro d.kY _ _ _ _ (hst.mono hG) zg) rfl ?_;clear H;rintro v10 Ev a w rfl wK H;exact fin H wK (rfl)
 ·refine gZ 4 12 rfl rfl fun _ a w G1 hG HT H fin=>?_;refine s_call aqx H wn rfl (amY _ _ H.ro d.revs _ (qU.mono hG) zr zt) rfl ?_;clear H;rintro v13 FT a w rfl M0 H;exact fin H M0 (rfl)
 clear H;intro a w G nJ H hv;have H:=H.aM (hv 2 10 rfl rfl) rfl;have H:=H.aM (hv 5 13 rfl rfl) rfl;clear hv;refine iT rP jv [_,_] [_,_] H wn rfl rfl rfl rfl rfl (by intro i q h;match i,h with|0,h=>exact h|1,h=>exact h|n+2,h=>simp at h) rfl rfl ?_;clear H;intro b14 a w WI H;obtain ⟨Ew,DY,WJ,H⟩:=H.fB;have hg1:=fun b o h=>DY b o (nJ b o h);replace hfl:=hfl.mono hg1;replace hhd:=hhd.mono hg1;replace qU:=qU.mono hg1;replace hst:=hst.mono hg1;refine s_call sO H wn rfl (sQ _ _ H.ro _ _ (Ac WJ)) rfl ?_;clear H;rintro v15 _ a w ⟨rfl,rfl⟩ - H;refine kH H (Ra rfl ?_);clear H;intro a H;refine aD ⟨rfl,?_⟩;refine K3 _ _ ?_;clear K3;refine kP H (SR fun _ K4=>Rm rfl (Rc rfl (Kz K4 (Cd rfl ?_ ?_)))) <;> clear H K4
 ·intro fE a H
  try have og:=dT fE
  have hE:iL d=dL [Ms d.kY,Du d.revs]:=by rw [iL,dL,aG og]
  exact kP H (SR fun _ K5=>Rm rfl (aj K5 rfl (LR results21 rfl fun H=>H.rt (by rw [hE]))))
 intro fE a H
 try have og:=dF fE
 have e1:=nV.1 og;have s1:=lu e1 _ eT;have s2:=lu e1 _ (gK _ eT);have t1:=lu s1 _ eT;have t2:=lu s1 _ (gK _ eT);refine iB ?_;refine K2 _ _ ?_;clear K2;refine cO (fun _ K6=>?_);refine bP jf (cs:=[_,_,_,_,_,_,_,_,_,_,_]) H wn rfl rfl (H.hp.dx 0 rfl rfl) rfl ?_;clear H;intro a H;refine gy aqy (Li:=[_]) (L:=[]) H wn rfl (awN _ _ (Hp.owns (Li:=[_]) H.hp) ⟨df,dp,dd,dy,dr,d1,d2,d3,d4,d.fin.marks.ins,d.fin.marks.move⟩ d.kY.styles d.kY.lists d.revs hst.st hst.li qU (aAy t1) (awd t2) (ayp s2) zs zg.ln zr) rfl ?_;clear H;rintro v20 FU _ a w ⟨b,ms,ml,mr,mb,mu,rfl,rfl,hck⟩ rG H;dsimp only [lca,bJ] at H;have H:=H.eD (Pl:=[_,_,_,_]) (dN:=[_,_,_,_]) [3,0,1,2] (by decide) rfl;obtain ⟨Gu,hmu,hu,H⟩:=H.fB;replace hck:=hck.with (us:=[]) hmu hu;replace hfl:=(hfl.mono rG).mono hmu;replace hhd:=(hhd.mono rG).mono hmu;refine kH H (aj K6 rfl (SR fun _ K7=>Rf EL rfl (Rf qo rfl ?_)));clear H K6;intro a H;refine bP Ep (cs:=[_,_,_,_]) H wn rfl rfl (H.hp.dx 0 rfl rfl) rfl ?_;clear H;intro a H;refine dO Ep H wn rfl ?_;clear H;intro b5 a w hb5 H;refine bC Ep 0 (vs:=[_,_,_,_]) H wn rfl ?_;clear H;intro w H;refine K7 _ _ ?_;clear K7;refine bD (fun _ K8=>?_);refine bD (fun _ K9=>?_)
 by_cases c0:d.fin.marks.ins≠0
 ·skip;have c1:d.fin.marks.ins≠0∨d.fin.marks.move≠0:=Or.inl c0;refine dI hmx [[],[],[1],[0,1,2],[],[4],[4,5],ra 0 7,ra 0 8,ra 0 9,ra 0 10,ra 0 11,ra 0 12,ra 0 13,ra 0 14,ra 0 15,ra 0 16,ra 0 17,ra 0 18,ra 0 19,ra 0 20,ra 0 21] [19,20,21] (by kernel_rfl) [_,_,rX d.fin (cB dp) (cB dd) (cB dy),vi (iD d.kT 3 d.fin),_,vi d.fin.marks.ins,_,_,undef,undef,undef,.bool (decide (d.fin.marks.ins≠0∨d.fin.marks.move≠0)),_,undef,undef,undef,undef,.bool (uW d.fin.marks),vi (dz (uW d.fin.marks) 21)] H (ay (Z0 rfl (Rm rfl)) (Z0 rfl (Rf EL rfl)) ?_ ?_ (ay (Z0 rfl (Rf sP rfl)) (Z1 4 28 rfl (Ro aC 0 rfl)) (Z1 5 29 rfl (Rc rfl)) (Z1 6 30 rfl (Rm rfl)) (ay (aU 7 (aI c0) rfl rfl) (aU 7 (aI c0) rfl rfl) (aU 7 (aI c0) rfl rfl) ?_ (ay (Z1 11 35 rfl (Rm rfl)) (aU 12 (aI c1) rfl rfl) (aU 12 (aI c1) rfl rfl) (aU 12 (aI c1) rfl rfl) (ay (aU 12 (aI c1) rfl rfl) ?_ ?_ (bR rfl) (bF (bR rfl) (bF (bR rfl) cK))))))) ?_
  ·exact UC
  ·exact Ut
  ·refine dY 7 31 10 34 rfl rfl fun _ a w G1 hG HT H fin=>?_;refine kH H (Pt (aI c0) rfl ?_);clear H;intro a H;exact aaS
  ·exact acX
  ·exact UG
  clear H;intro a w G kV H hv;have H:=H.aM (hv 3 27 rfl rfl) rfl;have H:=H.aM (hv 18 42 rfl rfl) rfl;clear hv;refine iT rP jv [_,_] [_,_] H wn rfl rfl rfl rfl rfl (by intro i q h;match i,h with|0,h=>exact h|1,h=>exact h|n+2,h=>simp at h) rfl rfl ?_;clear H;intro b43 a w agl H;obtain ⟨OD,EZ,M5,H⟩:=H.fB;have EY:=fun b o h=>EZ b o (kV b o h);replace hfl:=hfl.mono EY;replace hck:=hck.mono EY;refine s_call sO H wn rfl (sQ _ _ H.ro _ _ (Ac M5)) rfl ?_;clear H;rintro v44 _ a w ⟨rfl,rfl⟩ - H;refine kH H (Ra rfl ?_);clear H;intro a H;refine aD ⟨rfl,?_⟩;refine K9 _ _ ?_;clear K9;refine kP H (SR fun _ aW=>Rm rfl (Rc rfl (Kz aW (Cd rfl ?_ ?_)))) <;> clear H aW
  ·intro h46 a H
   try have p46:=dT h46
   have hE:iL d=dL [iD d.kT 3 d.fin,dz (uW d.fin.marks) 21]:=by rw [iL,dL,av (by simpa using e1),dL,aG p46]
   exact kP H (SR fun _ bM=>Rm rfl (aj bM rfl (LR results21 rfl fun H=>H.rt (by rw [hE]))))
  intro h46 a H
  try have p46:=dF h46
  have e2:=nV.1 p46;refine kP H (Kc K8 (SQ fun _ bU=>SR fun _ bY=>Rm rfl (bq vJ kC 1 rfl rfl ?_)));clear H K8;intro a H;refine jD FI [_,_,_] H wn rfl rfl rfl rfl ?_;clear H;intro a H;refine gy MK (Li:=[_,_]) (L:=gV b ms ml mr mb mu 0 :: (mb,fD []) :: []) H wn rfl (QZ 4294967297 (by omega) _ _ _ d.kY.styles d.kY.lists d.revs b ms ml mr mb mu ⟨0,[]⟩ d.flow _ true false 0 hck (Hp.owns (Li:=[_,_]) H.hp) hfl (by omega) (by omega) (by omega) (by decide) (by dsimp only;omega)) rfl ?_;clear H;rintro v52 _ _ a w ⟨rfl,s3,rfl,rfl,h3⟩ - H;dsimp only [lca,bJ] at H;refine kH H (aj bY rfl (SR fun _ cZ=>Rm rfl (Rc rfl (Kz cZ (Cd rfl ?_ ?_))))) <;> clear H bY cZ
  ·intro iC a H
   try have p54:=dT iC
   have hE:iL d=(jT d.kT true false 0 d.flow ⟨0,[]⟩).1:=by rw [iL,dL,av (by simpa using e1),dL,av (by simpa using e2),dL,aG p54]
   exact kP H (SR fun _ dQ=>Rm rfl (aj dQ rfl (LR results21 rfl fun H=>H.rt (by rw [hE]))))
  intro iC a H
  try have p54:=dF iC
  have e3:=nV.1 p54;have hs3:=h3 e3;subst hs3;refine kP H (Kc bU (SR fun _ dR=>Rm rfl (Rk rfl (bq GX aC 2 rfl rfl (Rc rfl ?_)))));clear H bU;intro a H;refine s_call mO H wn rfl (mY _ _ H.ro _ 9) rfl ?_;clear H;rintro v61 _ a w ⟨rfl,rfl⟩ - H
  have hE:iL d=dz (decide (16384 < (jT d.kT true false 0 d.flow ⟨0,[]⟩).2.n)) 9:=by rw [iL,dL,av (by simpa using e1),dL,av (by simpa using e2),dL,av (by simpa using e3)];exact VR _
  exact kH H (aj dR rfl (LR results21 rfl fun H=>H.rt (by rw [hE])))
 skip
 by_cases c1:d.fin.marks.ins≠0∨d.fin.marks.move≠0
 ·skip;refine dI hmx [[],[],[1],[0,1,2],[],[4],[4,5],ra 0 7,ra 0 8,ra 0 9,ra 0 10,ra 0 11,ra 0 12,ra 0 13,ra 0 14,ra 0 15,ra 0 16,ra 0 17,ra 0 18,ra 0 19,ra 0 20,ra 0 21] [19,20,21] (by kernel_rfl) [_,_,rX d.fin (cB dp) (cB dd) (cB dy),vi (iD d.kT 3 d.fin),_,vi d.fin.marks.ins,_,_,_,vi d.fin.marks.move,_,.bool (decide (d.fin.marks.ins≠0∨d.fin.marks.move≠0)),_,undef,undef,undef,undef,.bool (uW d.fin.marks),vi (dz (uW d.fin.marks) 21)] H (ay (Z0 rfl (Rm rfl)) (Z0 rfl (Rf EL rfl)) ?_ ?_ (ay (Z0 rfl (Rf sP rfl)) (Z1 4 28 rfl (Ro aC 0 rfl)) (Z1 5 29 rfl (Rc rfl)) (Z1 6 30 rfl (Rm rfl)) (ay (Z1 7 31 rfl (YF Cn (aT c0) rfl)) (Z2 8 32 7 31 rfl (YO aC 0 (aT c0) rfl)) (Z2 9 33 7 31 rfl (YC (aT c0) rfl)) ?_ (ay (Z1 11 35 rfl (Rm rfl)) (aU 12 (aI c1) rfl rfl) (aU 12 (aI c1) rfl rfl) (aU 12 (aI c1) rfl rfl) (ay (aU 12 (aI c1) rfl rfl) ?_ ?_ (bR rfl) (bF (bR rfl) (bF (bR rfl) cK))))))) ?_
  ·exact UC
  ·exact Ut
  ·exact acZ
  ·exact acX
  ·exact UG
  clear H;intro a w G kV H hv;have H:=H.aM (hv 3 27 rfl rfl) rfl;have H:=H.aM (hv 18 42 rfl rfl) rfl;clear hv;refine iT rP jv [_,_] [_,_] H wn rfl rfl rfl rfl rfl (by intro i q h;match i,h with|0,h=>exact h|1,h=>exact h|n+2,h=>simp at h) rfl rfl ?_;clear H;intro b43 a w agl H;obtain ⟨OD,EZ,M5,H⟩:=H.fB;have EY:=fun b o h=>EZ b o (kV b o h);replace hfl:=hfl.mono EY;replace hck:=hck.mono EY;refine s_call sO H wn rfl (sQ _ _ H.ro _ _ (Ac M5)) rfl ?_;clear H;rintro v44 _ a w ⟨rfl,rfl⟩ - H;refine kH H (Ra rfl ?_);clear H;intro a H;refine aD ⟨rfl,?_⟩;refine K9 _ _ ?_;clear K9;refine kP H (SR fun _ dK=>Rm rfl (Rc rfl (Kz dK (Cd rfl ?_ ?_)))) <;> clear H dK
  ·intro h46 a H
   try have p46:=dT h46
   have hE:iL d=dL [iD d.kT 3 d.fin,dz (uW d.fin.marks) 21]:=by rw [iL,dL,av (by simpa using e1),dL,aG p46]
   exact kP H (SR fun _ dX=>Rm rfl (aj dX rfl (LR results21 rfl fun H=>H.rt (by rw [hE]))))
  intro h46 a H
  try have p46:=dF h46
  have e2:=nV.1 p46;refine kP H (Kc K8 (SQ fun _ fM=>SR fun _ eP=>Rm rfl (bq vJ kC 1 rfl rfl ?_)));clear H K8;intro a H;refine jD FI [_,_,_] H wn rfl rfl rfl rfl ?_;clear H;intro a H;refine gy MK (Li:=[_,_]) (L:=gV b ms ml mr mb mu 0 :: (mb,fD []) :: []) H wn rfl (QZ 4294967297 (by omega) _ _ _ d.kY.styles d.kY.lists d.revs b ms ml mr mb mu ⟨0,[]⟩ d.flow _ true false 0 hck (Hp.owns (Li:=[_,_]) H.hp) hfl (by omega) (by omega) (by omega) (by decide) (by dsimp only;omega)) rfl ?_;clear H;rintro v52 _ _ a w ⟨rfl,s3,rfl,rfl,h3⟩ - H;dsimp only [lca,bJ] at H;refine kH H (aj eP rfl (SR fun _ gB=>Rm rfl (Rc rfl (Kz gB (Cd rfl ?_ ?_))))) <;> clear H eP gB
  ·intro iC a H
   try have p54:=dT iC
   have hE:iL d=(jT d.kT true false 0 d.flow ⟨0,[]⟩).1:=by rw [iL,dL,av (by simpa using e1),dL,av (by simpa using e2),dL,aG p54]
   exact kP H (SR fun _ iH=>Rm rfl (aj iH rfl (LR results21 rfl fun H=>H.rt (by rw [hE]))))
  intro iC a H
  try have p54:=dF iC
  have e3:=nV.1 p54;have hs3:=h3 e3;subst hs3;refine kP H (Kc fM (SR fun _ jP=>Rm rfl (Rk rfl (bq GX aC 2 rfl rfl (Rc rfl ?_)))));clear H fM;intro a H;refine s_call mO H wn rfl (mY _ _ H.ro _ 9) rfl ?_;clear H;rintro v61 _ a w ⟨rfl,rfl⟩ - H
  have hE:iL d=dz (decide (16384 < (jT d.kT true false 0 d.flow ⟨0,[]⟩).2.n)) 9:=by rw [iL,dL,av (by simpa using e1),dL,av (by simpa using e2),dL,av (by simpa using e3)];exact VR _
  exact kH H (aj jP rfl (LR results21 rfl fun H=>H.rt (by rw [hE])))
 skip;refine dI hmx [[],[],[1],[0,1,2],[],[4],[4,5],ra 0 7,ra 0 8,ra 0 9,ra 0 10,ra 0 11,ra 0 12,ra 0 13,ra 0 14,ra 0 15,ra 0 16,ra 0 17,ra 0 18,ra 0 19,ra 0 20,ra 0 21] [19,20,21] (by kernel_rfl) [_,_,rX d.fin (cB dp) (cB dd) (cB dy),vi (iD d.kT 3 d.fin),_,vi d.fin.marks.ins,_,_,_,vi d.fin.marks.move,_,.bool (decide (d.fin.marks.ins≠0∨d.fin.marks.move≠0)),_,_,cB dd,vi d.fin.marks.bE.length,_,.bool (uW d.fin.marks),vi (dz (uW d.fin.marks) 21)] H (ay (Z0 rfl (Rm rfl)) (Z0 rfl (Rf EL rfl)) ?_ ?_ (ay (Z0 rfl (Rf sP rfl)) (Z1 4 28 rfl (Ro aC 0 rfl)) (Z1 5 29 rfl (Rc rfl)) (Z1 6 30 rfl (Rm rfl)) (ay (Z1 7 31 rfl (YF Cn (aT c0) rfl)) (Z2 8 32 7 31 rfl (YO aC 0 (aT c0) rfl)) (Z2 9 33 7 31 rfl (YC (aT c0) rfl)) ?_ (ay (Z1 11 35 rfl (Rm rfl)) (Z1 12 36 rfl (YF tY (aT c1) rfl)) (Z2 13 37 12 36 rfl (YO uw 0 (aT c1) rfl)) ?_ (ay (Z2 15 39 12 36 rfl (YC (aT c1) rfl)) ?_ ?_ (bR rfl) (bF (bR rfl) (bF (bR rfl) cK))))))) ?_
 ·exact UC
 ·exact Ut
 ·exact acZ
 ·refine dY 14 38 12 36 rfl rfl fun _ a w G1 hG HT H fin=>?_;refine kH H (YL oz (aT c1) rfl ?_);clear H;intro a H;exact fin H iJ (by show _=_;first|rfl|exact dh (fun n:Nat=>vi n) hdl)
 ·refine dY 12 36 16 40 rfl rfl fun _ a w G1 hG HT H fin=>?_;refine kH H (Pf (aT c1) rfl ?_);clear H;intro a H;exact aaT
 ·exact UG
 clear H;intro a w G kV H hv;have H:=H.aM (hv 3 27 rfl rfl) rfl;have H:=H.aM (hv 18 42 rfl rfl) rfl;clear hv;refine iT rP jv [_,_] [_,_] H wn rfl rfl rfl rfl rfl (by intro i q h;match i,h with|0,h=>exact h|1,h=>exact h|n+2,h=>simp at h) rfl rfl ?_;clear H;intro b43 a w agl H;obtain ⟨OD,EZ,M5,H⟩:=H.fB;have EY:=fun b o h=>EZ b o (kV b o h);replace hfl:=hfl.mono EY;replace hck:=hck.mono EY;refine s_call sO H wn rfl (sQ _ _ H.ro _ _ (Ac M5)) rfl ?_;clear H;rintro v44 _ a w ⟨rfl,rfl⟩ - H;refine kH H (Ra rfl ?_);clear H;intro a H;refine aD ⟨rfl,?_⟩;refine K9 _ _ ?_;clear K9;refine kP H (SR fun _ jH=>Rm rfl (Rc rfl (Kz jH (Cd rfl ?_ ?_)))) <;> clear H jH
 ·intro h46 a H
  try have p46:=dT h46
  have hE:iL d=dL [iD d.kT 3 d.fin,dz (uW d.fin.marks) 21]:=by rw [iL,dL,av (by simpa using e1),dL,aG p46]
  exact kP H (SR fun _ jr=>Rm rfl (aj jr rfl (LR results21 rfl fun H=>H.rt (by rw [hE]))))
 intro h46 a H
 try have p46:=dF h46
 have e2:=nV.1 p46;refine kP H (Kc K8 (SQ fun _ kN=>SR fun _ kQ=>Rm rfl (bq vJ kC 1 rfl rfl ?_)));clear H K8;intro a H;refine jD FI [_,_,_] H wn rfl rfl rfl rfl ?_;clear H;intro a H;refine gy MK (Li:=[_,_]) (L:=gV b ms ml mr mb mu 0 :: (mb,fD []) :: []) H wn rfl (QZ 4294967297 (by omega) _ _ _ d.kY.styles d.kY.lists d.revs b ms ml mr mb mu ⟨0,[]⟩ d.flow _ true false 0 hck (Hp.owns (Li:=[_,_]) H.hp) hfl (by omega) (by omega) (by omega) (by decide) (by dsimp only;omega)) rfl ?_;clear H;rintro v52 _ _ a w ⟨rfl,s3,rfl,rfl,h3⟩ - H;dsimp only [lca,bJ] at H;refine kH H (aj kQ rfl (SR fun _ jh=>Rm rfl (Rc rfl (Kz jh (Cd rfl ?_ ?_))))) <;> clear H kQ jh
 ·intro iC a H
  try have p54:=dT iC
  have hE:iL d=(jT d.kT true false 0 d.flow ⟨0,[]⟩).1:=by rw [iL,dL,av (by simpa using e1),dL,av (by simpa using e2),dL,aG p54]
  exact kP H (SR fun _ mD=>Rm rfl (aj mD rfl (LR results21 rfl fun H=>H.rt (by rw [hE]))))
 intro iC a H
 try have p54:=dF iC
 have e3:=nV.1 p54;have hs3:=h3 e3;subst hs3;refine kP H (Kc kN (SR fun _ nE=>Rm rfl (Rk rfl (bq GX aC 2 rfl rfl (Rc rfl ?_)))));clear H kN;intro a H;refine s_call mO H wn rfl (mY _ _ H.ro _ 9) rfl ?_;clear H;rintro v61 _ a w ⟨rfl,rfl⟩ - H
 have hE:iL d=dz (decide (16384 < (jT d.kT true false 0 d.flow ⟨0,[]⟩).2.n)) 9:=by rw [iL,dL,av (by simpa using e1),dL,av (by simpa using e2),dL,av (by simpa using e3)];exact VR _
 exact kH H (aj nE rfl (LR results21 rfl fun H=>H.rt (by rw [hE])))
def RG (body note:Bool) (t k i:Int):Prop:=(k=3->body=true)∧(k=6->note=false)∧(k=7->t < 4)∧(k=8->1<=i∧i<=1073741824)
mutual
def lW (C:aZ) (body note:Bool) (t:Int):ak->Prop
 | .mk k c i tx h f r=>lC (.mk k c i tx h f r)=0∧RG body note t k i∧iD C k h=0∧(k=6->iR C false true t f)∧(k=7->(r.length≠0∧r.length<=256)∧kK C note (t+1) r)
def qd (C:aZ) (note:Bool) (t:Int):aS->Prop
 | .mk h cs=>Ei C h cs.length=0∧lI C note t cs
def qb (C:aZ) (note:Bool) (t:Int):aV->Prop
 | .mk _ h f=>iD C 10 h=0∧iR C false note t f
def iR (C:aZ) (body note:Bool) (t:Int):List ak->Prop
 | []=>True
 | x :: l=>lW C body note t x∧iR C body note t l
def kK (C:aZ) (note:Bool) (t:Int):List aS->Prop
 | []=>True
 | x :: l=>qd C note t x∧kK C note t l
def lI (C:aZ) (note:Bool) (t:Int):List aV->Prop
 | []=>True
 | x :: l=>qb C note t x∧lI C note t l
end
theorem Ee {C:aZ} {body note:Bool} {t:Int}:∀ {l:List ak},iR C body note t l↔∀ x∈l,lW C body note t x
 | []=>by simp [iR]
 | x :: l=>by rw [iR,Ee (l:=l)];simp
theorem RD {C:aZ} {note:Bool} {t:Int}:∀ {l:List aS},kK C note t l↔∀ x∈l,qd C note t x
 | []=>by simp [kK]
 | x :: l=>by rw [kK,RD (l:=l)];simp
theorem RA {C:aZ} {note:Bool} {t:Int}:∀ {l:List aV},lI C note t l↔∀ x∈l,qb C note t x
 | []=>by simp [lI]
 | x :: l=>by rw [lI,RA (l:=l)];simp
mutual
/-- The units that a check counts. -/
def uI:ak->Nat
 | .mk k _ _ tx _ f r=>(if k=1 then uM tx else 1)+(if k=6 then jZ f else if k=7 then oM r else 0)
def uR:aS->Nat
 | .mk _ cs=>qj cs
def uC:aV->Nat
 | .mk _ _ f=>jZ f
def jZ:List ak->Nat
 | []=>0
 | x :: l=>uI x+jZ l
def oM:List aS->Nat
 | []=>0
 | x :: l=>uR x+oM l
def qj:List aV->Nat
 | []=>0
 | x :: l=>uC x+qj l
end
def lJ (us bN ids:List Int):Prop:=(∀ i∈ids,(1<=i∧i<=1073741824)∧i∉us∧i∉bN)∧ids.Nodup
theorem lJ.nil (us bN:List Int):lJ us bN []:=⟨fun _ h=>(by cases h),List.nodup_nil⟩
theorem lJ.app {us bN a b:List Int}:lJ us bN (a++b)↔lJ us bN a∧lJ us (bN++a) b:=by
 unfold lJ
 rw [List.nodup_append]
 constructor
 ·rintro ⟨h,h1,h2,h3⟩;exact ⟨⟨fun i hi=>h i (List.mem_append_left _ hi),h1⟩,fun i hi=>⟨(h i (List.mem_append_right _ hi)).1,(h i (List.mem_append_right _ hi)).2.1,fun hm=>(jA.1 hm).elim (h i (List.mem_append_right _ hi)).2.2 fun ha=>h3 i ha i hi rfl⟩,h2⟩
 rintro ⟨⟨h,h1⟩,h2,h3⟩;exact ⟨fun i hi=>(jA.1 hi).elim (h i) fun hb=>⟨(h2 i hb).1,(h2 i hb).2.1,fun hm=>(h2 i hb).2.2 (List.mem_append_left _ hm)⟩,h1,h3,fun i hi j hj e=>(h2 j hj).2.2 (List.mem_append_right _ (e ▸ hi))⟩
theorem lJ.sub {us bN a b:List Int} (h:lJ us bN a) (hs:b.Sublist a):lJ us bN b:=⟨fun i hi=>h.1 i (hs.subset hi),hs.nodup h.2⟩
theorem Jo {r:CR} {f:CS->CR} {s':CS}:iP r f=(0,s')↔∃ m,r=(0,m)∧f m=(0,s'):=by
 constructor
 ·intro h;obtain ⟨h1,h2⟩:=nG h;exact ⟨r.2,Prod.ext h1 rfl,h2⟩
 rintro ⟨m,rfl,h⟩;rw [Jp rfl];exact h
theorem yJ {e:Int} {s m:CS}:((e,s):CR)=(0,m)↔e=0∧m=s:=by rw [iO,@eq_comm _ s m]
theorem XI {C:aZ} {s m:CS} {x:Int}:oJ C s x=(0,m)↔lJ C.us s.bN [x]∧m=⟨s.n,s.bN++[x]⟩:=by
 unfold oJ
 rw [yJ]
 have he:rJ C.us s.bN x=0↔lJ C.us s.bN [x]:=by
  unfold rJ lJ
  by_cases h0:¬ (1<=x∧x<=1073741824)∨x∈C.us
  ·rw [aG h0];refine ⟨fun h=>(by cases h),fun h=>?_⟩;have:=h.1 x (List.mem_singleton_self _);exact absurd h0 (by rintro (h1|h1);exact h1 this.1;exact this.2.1 h1)
  rw [av h0]
  by_cases h1:x∈s.bN
  ·rw [aG h1];exact ⟨fun h=>(by cases h),fun h=>absurd h1 (h.1 x (List.mem_singleton_self _)).2.2⟩
  rw [av h1];refine ⟨fun _=>⟨fun i hi=>?_,by simp⟩,fun _=>rfl⟩;rw [pG.1 hi];exact ⟨nV.1 fun h=>h0 (.inl h),fun h=>h0 (.inr h),h1⟩
 rw [he]
 constructor
 ·rintro ⟨h,rfl⟩;exact ⟨h,by rw [nK,aG (he.2 h)]⟩
 rintro ⟨h,rfl⟩;exact ⟨h,by rw [nK,aG (he.2 h)]⟩
theorem tK {b:Bool} {e:Int} (he:e≠0):dz b e=0↔b=false:=by cases b <;> simp [dz,he]
theorem aaU {p:Prop} (h:p:=by
 exact ⟨s,⟨h1 trivial,rfl⟩,by simpa using h2,by simpa using h4⟩):p:=h
theorem axG {C:aZ} {body note:Bool} {t k i:Int} {s m:CS}:sD C body note t k i s=(0,m)↔RG body note t k i∧lJ C.us s.bN (if k=6∨k=7 then [i] else [])∧m=⟨s.n,s.bN++(if k=6∨k=7 then [i] else [])⟩:=by
 unfold sD RG
 by_cases h3:k=3
 ·subst h3;rw [aG rfl,yJ,tK (by decide)];cases body <;> simp [lJ.nil]
 rw [av h3]
 by_cases h6:k=6
 ·subst h6;rw [aG rfl,Jo]
  simp only [yJ,tK (show (19:Int)≠0 by decide),XI]
  constructor
  ·rintro ⟨_,⟨h1,rfl⟩,h2,h4⟩;exact ⟨⟨fun h=>absurd h (by decide),fun _=>h1,fun h=>absurd h (by decide),fun h=>absurd h (by decide)⟩,by simpa using h2,by simpa using h4⟩
  rintro ⟨⟨-,h1,-,-⟩,h2,h4⟩;exact aaU
 rw [av h6]
 by_cases h7:k=7
 ·subst h7;rw [aG rfl,Jo]
  simp only [yJ,tK (show (17:Int)≠0 by decide),XI,vE,Int.not_le]
  constructor
  ·rintro ⟨_,⟨h1,rfl⟩,h2,h4⟩;exact ⟨⟨fun h=>absurd h (by decide),fun h=>absurd h (by decide),fun _=>h1,fun h=>absurd h (by decide)⟩,by simpa using h2,by simpa using h4⟩
  rintro ⟨⟨-,-,h1,-⟩,h2,h4⟩;exact aaU
 rw [av h7,av (show ¬ (k=6∨k=7) by omega),ig]
 by_cases h8:k=8
 ·rw [aG h8,yJ,tK (by decide)]
  simp [h3,h6,h7,h8,lJ.nil]
 rw [av h8,yJ];simp [h3,h6,h7,h8,lJ.nil]
theorem ayB {n:Nat} {f:CS->CR} {s s':CS}:nu n f s=(0,s')↔(n≠0∧n<=256)∧f s=(0,s'):=by
 unfold nu
 split
 ·rename_i h;simp [h]
 rename_i h
 split
 ·rename_i h2;simp [show ¬ n<=256 by omega]
 rename_i h2;simp [h,show n<=256 by omega]
theorem alS {p:Prop} (h:p:=by
 exact ⟨⟨q1,q3⟩,⟨q2,q4⟩,by rw [iZ];congr 1;push_cast;omega⟩):p:=h
theorem alT {p:Prop} (h:p:=by
 exact ⟨_,⟨q1,q2,rfl⟩,q3,q4,by rw [iZ];congr 1;push_cast;omega⟩):p:=h
theorem UH {p:Prop} (h:p:=by
 simp only [Jo,h1,h2,lJ.app]
 constructor
 ·rintro ⟨_,⟨q1,q2,rfl⟩,q3,q4,rfl⟩;exact alS
 rintro ⟨⟨q1,q3⟩,⟨q2,q4⟩,rfl⟩;exact alT):p:=h
mutual
theorem anh (C:aZ) (body note:Bool) (t:Int):∀ (x:ak) (s s':CS),fJ C body note t x s=(0,s')↔lW C body note t x∧lJ C.us s.bN (pX x)∧s'=⟨s.n+(uI x:Nat),s.bN++pX x⟩
 | .mk k c i tx h f r,s,s'=>by
  have hf:=Mt C false true t f;have hr:=adC C note (t+1) r;rw [fJ,lW,pX,uI]
  simp only [Jo,yJ,axG]
  by_cases h6:k=6
  ·subst h6
   simp only [if_true,hf,lJ.app,true_or,av (show ¬ (6:Int)=7 by decide),av (show ¬ (6:Int)=1 by decide),ig]
   constructor
   ·rintro ⟨_,⟨h1,rfl⟩,_,⟨h2,h3,rfl⟩,_,⟨h4,rfl⟩,h5,h7,rfl⟩;exact ⟨⟨h1,h2,h4,fun _=>h5,fun h=>absurd h (by decide)⟩,⟨h3,h7⟩,by rw [iZ];congr 1;push_cast;omega⟩
   rintro ⟨⟨h1,h2,h4,h5,-⟩,⟨h3,h7⟩,rfl⟩;exact ⟨s,⟨h1,rfl⟩,_,⟨h2,h3,rfl⟩,_,⟨h4,rfl⟩,h5 trivial,h7,by rw [iZ];congr 1;push_cast;omega⟩
  by_cases h7:k=7
  ·subst h7
   simp only [if_true,ayB,hr,lJ.app,or_true,av (show ¬ (7:Int)=6 by decide),av (show ¬ (7:Int)=1 by decide),jR]
   constructor
   ·rintro ⟨_,⟨h1,rfl⟩,_,⟨h2,h3,rfl⟩,_,⟨h4,rfl⟩,h0,h5,h8,rfl⟩;exact ⟨⟨h1,h2,h4,fun h=>absurd h (by decide),fun _=>⟨h0,h5⟩⟩,⟨h3,h8⟩,by rw [iZ];congr 1;push_cast;omega⟩
   rintro ⟨⟨h1,h2,h4,-,h5⟩,⟨h3,h8⟩,rfl⟩;exact ⟨s,⟨h1,rfl⟩,_,⟨h2,h3,rfl⟩,_,⟨h4,rfl⟩,(h5 trivial).1,(h5 trivial).2,h8,by rw [iZ];congr 1;push_cast;omega⟩
  simp only [av h6,av h7,av (show ¬ (k=6∨k=7) by omega),ig,yJ]
  constructor
  ·rintro ⟨_,⟨h1,rfl⟩,_,⟨h2,h3,rfl⟩,_,⟨h4,rfl⟩,-,rfl⟩;exact ⟨⟨h1,h2,h4,fun h=>absurd h h6,fun h=>absurd h h7⟩,lJ.nil _ _,by simp⟩
  rintro ⟨⟨h1,h2,h4,-,-⟩,h3,rfl⟩;exact ⟨s,⟨h1,rfl⟩,_,⟨h2,lJ.nil _ _,rfl⟩,_,⟨h4,rfl⟩,aB,by simp⟩
theorem ani (C:aZ) (note:Bool) (t:Int):∀ (x:aS) (s s':CS),zY C note t x s=(0,s')↔qd C note t x∧lJ C.us s.bN (rZ x)∧s'=⟨s.n+(uR x:Nat),s.bN++rZ x⟩
 | .mk h cs,s,s'=>by
  have hc:=adB C note t cs;rw [zY,qd,rZ,uR]
  simp only [Jo,yJ,hc]
  constructor
  ·rintro ⟨_,⟨h1,rfl⟩,h2,h3⟩;exact ⟨⟨h1,h2⟩,h3⟩
  rintro ⟨⟨h1,h2⟩,h3⟩;exact ⟨s,⟨h1,rfl⟩,h2,h3⟩
theorem ang (C:aZ) (note:Bool) (t:Int):∀ (x:aV) (s s':CS),cellC C note t x s=(0,s')↔qb C note t x∧lJ C.us s.bN (tq x)∧s'=⟨s.n+(uC x:Nat),s.bN++tq x⟩
 | .mk i h f,s,s'=>by
  have hf:=Mt C false note t f;rw [cellC,qb,tq,uC,show i :: eH f=[i]++eH f from rfl]
  simp only [Jo,yJ,hf,XI,lJ.app]
  constructor
  ·rintro ⟨_,⟨h1,rfl⟩,_,⟨h2,rfl⟩,h3,h4,rfl⟩;exact ⟨⟨h2,h3⟩,⟨h1,h4⟩,by rw [iZ]⟩
  rintro ⟨⟨h2,h3⟩,⟨h1,h4⟩,rfl⟩;exact ⟨_,⟨h1,rfl⟩,_,⟨h2,rfl⟩,h3,h4,by rw [iZ]⟩
theorem Mt (C:aZ) (body note:Bool) (t:Int):∀ (l:List ak) (s s':CS),jT C body note t l s=(0,s')↔iR C body note t l∧lJ C.us s.bN (eH l)∧s'=⟨s.n+(jZ l:Nat),s.bN++eH l⟩
 | [],s,s'=>by rw [jT,iR,eH,jZ,yJ];simp [lJ.nil]
 | x :: r,s,s'=>by
  have h1:=anh C body note t x;have h2:=Mt C body note t r;rw [jT,iR,eH,jZ]
  exact UH
theorem adC (C:aZ) (note:Bool) (t:Int):∀ (l:List aS) (s s':CS),jm C note t l s=(0,s')↔kK C note t l∧lJ C.us s.bN (kJ l)∧s'=⟨s.n+(oM l:Nat),s.bN++kJ l⟩
 | [],s,s'=>by rw [jm,kK,kJ,oM,yJ];simp [lJ.nil]
 | x :: r,s,s'=>by
  have h1:=ani C note t x;have h2:=adC C note t r;rw [jm,kK,kJ,oM]
  exact UH
theorem adB (C:aZ) (note:Bool) (t:Int):∀ (l:List aV) (s s':CS),qZ C note t l s=(0,s')↔lI C note t l∧lJ C.us s.bN (lV l)∧s'=⟨s.n+(qj l:Nat),s.bN++lV l⟩
 | [],s,s'=>by rw [qZ,lI,lV,qj,yJ];simp [lJ.nil]
 | x :: r,s,s'=>by
  have h1:=ang C note t x;have h2:=adB C note t r;rw [qZ,lI,lV,qj]
  exact UH
end
theorem arB {a b c d:Int}:dL [a,b,c,d]=0↔a=0∧b=0∧c=0∧d=0:=by
 constructor
 ·intro h;have z:=lu h;exact ⟨z _ (by simp),z _ (by simp),z _ (by simp),z _ (by simp)⟩
 rintro ⟨rfl,rfl,rfl,rfl⟩;rfl
theorem Qg {a b:Int}:dL [a,b]=0↔a=0∧b=0:=by
 constructor
 ·intro h;have z:=lu h;exact ⟨z _ (by simp),z _ (by simp)⟩
 rintro ⟨rfl,rfl⟩;rfl
theorem zJ (d:gG):iL d=0↔(Ms d.kY=0∧Du d.revs=0)∧(iD d.kT 3 d.fin=0∧uW d.fin.marks=false)∧iR d.kT true false 0 d.flow∧lJ [] [] (eH d.flow)∧jZ d.flow<=16384:=by
 unfold iL
 rw [arB,Qg,Qg,tK (by decide),tK (by decide),vE]
 constructor
 ·rintro ⟨h1,h2,h3,h4⟩;obtain ⟨q1,q2,q3⟩:=(Mt d.kT true false 0 d.flow ⟨0,[]⟩ _).1 (PI h3);rw [q3] at h4;dsimp only at h4;exact ⟨h1,h2,q1,q2,by omega⟩
 rintro ⟨h1,h2,q1,q2,q3⟩;have h:=(Mt d.kT true false 0 d.flow ⟨0,[]⟩ _).2 ⟨q1,q2,rfl⟩;rw [h];exact ⟨h1,h2,rfl,by dsimp only;omega⟩
def mH (z y:ak):ak:=.mk z.kind z.code z.id (z.text++y.text) z.head z.flow z.rows
def rD (y:ak):Prop:=(y.kind=7∧y.rows.length=0)∨(y.kind=1∧y.text.size=0)
def pY (z y:ak):Prop:=y.kind=1∧z.kind=1∧z.head=y.head
instance (y:ak):Decidable (rD y):=inferInstanceAs (Decidable (_∨_))
instance (z y:ak):Decidable (pY z y):=inferInstanceAs (Decidable (_∧_∧_))
def addN (out:List ak) (y:ak):List ak :=
 if rD y then out else match out.getLast? with
  | none=>out++[y]
  | some z=>if pY z y then out.dropLast++[mH z y] else out++[y]
theorem Jj {out:List ak} {y:ak} (h:rD y):addN out y=out:=aG h
theorem Dm {out:List ak} {y:ak} (h:¬ rD y) (hj:∀ o z,out=o++[z]->¬ pY z y):addN out y=out++[y]:=by
 unfold addN
 rw [av h]
 split
 ·rfl
 rename_i z hz
 obtain ⟨o,rfl⟩:=List.getLast?_eq_some_iff.1 hz;rw [av (hj o z rfl)]
theorem Ca {o:List ak} {z y:ak} (h:¬ rD y) (hj:pY z y):addN (o++[z]) y=o++[mH z y]:=by
 unfold addN
 rw [av h,List.getLast?_concat];dsimp only;rw [aG hj,List.dropLast_concat]
theorem aap (out:List ak) (y:ak):addN out y=out∨addN out y=out++[y]∨∃ o z,out=o++[z]∧z.kind=1∧y.kind=1∧addN out y=o++[mH z y]:=by
 by_cases h:rD y
 ·exact .inl (Jj h)
 by_cases hj:∃ o z,out=o++[z]∧pY z y
 ·obtain ⟨o,z,rfl,hj⟩:=hj;exact .inr (.inr ⟨o,z,rfl,hj.2.1,hj.1,Ca h hj⟩)
 exact .inr (.inl (Dm h fun o z e hz=>hj ⟨o,z,e,hz⟩))
mutual
/-- What becomes of an item in a normal form, of rows, of cells. -/
def nI:ak->ak
 | .mk k c i t h f r=>.mk k c i t h ((mI f).foldl addN []) (lH r)
def mI:List ak->List ak
 | []=>[]
 | x :: l=>nI x :: mI l
def nR:aS->aS
 | .mk h c=>.mk h (lG c)
def lH:List aS->List aS
 | []=>[]
 | x :: l=>nR x :: lH l
def nC:aV->aV
 | .mk i h f=>.mk i h ((mI f).foldl addN [])
def lG:List aV->List aV
 | []=>[]
 | x :: l=>nC x :: lG l
end
theorem KI:∀ l:List ak,mI l=l.map nI
 | []=>by simp [mI]
 | x :: l=>by simp [mI,KI l]
theorem Fq:∀ l:List aS,lH l=l.map nR
 | []=>by simp [lH]
 | x :: l=>by simp [lH,Fq l]
theorem Iz:∀ l:List aV,lG l=l.map nC
 | []=>by simp [lG]
 | x :: l=>by simp [lG,Iz l]
def uX (l:List ak) (k:Nat):List ak:=((l.take k).map nI).foldl addN []
def ku (l:List ak):List ak:=uX l l.length
theorem ail (x:ak):nI x=.mk x.kind x.code x.id x.text x.head (ku x.flow) (x.rows.map nR):=by
 cases x;rw [nI,KI,Fq];simp [ku,uX,ak.kind,ak.code,ak.id,ak.text,ak.head,ak.flow,ak.rows]
theorem ain (x:aS):nR x=.mk x.head (x.cells.map nC):=by cases x;rw [nR,Iz];rfl
theorem awt (x:aV):nC x=.mk x.id x.head (ku x.flow):=by cases x;rw [nC,KI];simp [ku,uX,aV.id,aV.head,aV.flow]
theorem aiE {l:List ak} {k:Nat} (h:k < l.length):uX l (k+1)=addN (uX l k) (nI l[k]):=by
 unfold uX;rw [kg h,kF,List.foldl_append];rfl
theorem aAD (out:List ak) (y:ak):mW (addN out y)<=mW out+(y.text.size+1):=by
 rcases aap out y with e|e|⟨o,z,rfl,-,-,e⟩ <;> rw [e]
 ·omega
 ·rw [IU];simp [mW]
 rw [IU,IU];have:(mH z y).text.size=z.text.size+y.text.size:=ByteArray.size_append
 simp only [mW,this];omega
theorem Ym {l:List ak}:∀ {k:Nat},k<=l.length->mW (uX l k)<=mW (l.take k)
 | 0,_=>by simp [uX,mW]
 | k+1,h=>by
  have ih:=Ym (l:=l) (k:=k) (by omega);have h1:=aAD (uX l k) (nI l[k])
  have h2:(nI l[k]).text=l[k].text:=by rw [ail];rfl
  rw [h2] at h1;rw [aiE (by omega),kg (by omega),IU]
  simp only [mW];omega
theorem axi {l:List ak} {k:Nat} (h:k<=l.length):(uX l k).length<=mW l:=by
 have h1:=Q5 (uX l k);have h2:=Ym h;have h3:=Zg l k
 omega
mutual
/-- Tables whose rows all have cells. -/
def KJ:ak->Prop
 | .mk _ _ _ _ _ f r=>wR f∧Ec r
def wR:List ak->Prop
 | []=>True
 | x :: l=>KJ x∧wR l
def Fw:aS->Prop
 | .mk _ c=>c≠[]∧Fv c
def Ec:List aS->Prop
 | []=>True
 | x :: l=>Fw x∧Ec l
def Fu:aV->Prop
 | .mk _ _ f=>wR f
def Fv:List aV->Prop
 | []=>True
 | x :: l=>Fu x∧Fv l
end
theorem ait:∀ {l:List ak},wR l->∀ x∈l,KJ x
 | [],_,_,h=>by cases h
 | y :: l,h,x,hx=>by
  rw [wR] at h
  rcases fV.1 hx with rfl|hx
  ·exact h.1
  exact ait h.2 x hx
theorem Yg:∀ {l:List aS},Ec l->∀ x∈l,Fw x
 | [],_,_,h=>by cases h
 | y :: l,h,x,hx=>by
  rw [Ec] at h
  rcases fV.1 hx with rfl|hx
  ·exact h.1
  exact Yg h.2 x hx
theorem ais:∀ {l:List aV},Fv l->∀ x∈l,Fu x
 | [],_,_,h=>by cases h
 | y :: l,h,x,hx=>by
  rw [Fv] at h
  rcases fV.1 hx with rfl|hx
  ·exact h.1
  exact ais h.2 x hx
theorem awG (x:ak):KJ x=(wR x.flow∧Ec x.rows):=by cases x;rw [KJ];rfl
theorem aiu (x:aS):Fw x=(x.cells≠[]∧Fv x.cells):=by cases x;rw [Fw];rfl
theorem awF (x:aV):Fu x=wR x.flow:=by cases x;rw [Fu];rfl
theorem U1 {a b:ByteArray} {i:Nat} (h:i < a.size):gU (a++b) i=gU a i:=by
 rw [oQ h,oQ (by rw [ByteArray.size_append];omega),ByteArray.getElem_append_left h]
theorem U2 (a b:ByteArray) (j:Nat):gU (a++b) (a.size+j)=gU b j:=by
 by_cases h:j < b.size
 ·rw [oQ h,oQ (by rw [ByteArray.size_append];omega),ByteArray.getElem_append_right (by omega)]
  congr 2
  simp
 unfold gU
 rw [dif_neg (by rw [ByteArray.size_append];omega),dif_neg h]
theorem adZ {a b:ByteArray} {t n:Nat}:∀ (f k:Nat) (low high p:Int),(sN a t n f k low high p).2.2=true->sN (a++b) t n f k low high p=sN a t n f k low high p
 | 0,_,_,_,_,_=>rfl
 | f+1,k,low,high,p,h=>by
  unfold sN at h |-
  by_cases h1:n<=k
  ·rw [aG h1,aG h1]
  rw [av h1] at h;rw [av h1,av h1]
  by_cases h2:a.size<=t+k∨gU a (t+k) < low∨high < gU a (t+k)
  ·rw [aG h2] at h;cases h
  rw [av h2] at h
  have h3:t+k < a.size:=by omega
  rw [U1 h3,av h2,av (by rw [ByteArray.size_append];omega)];exact adZ f (k+1) _ _ _ h
theorem aea (a b:ByteArray) (j n:Nat):∀ (f k:Nat) (low high p:Int),sN (a++b) (a.size+j) n f k low high p=sN b j n f k low high p
 | 0,_,_,_,_=>rfl
 | f+1,k,low,high,p=>by
  unfold sN
  have e:gU (a++b) (a.size+j+k)=gU b (j+k):=by rw [Nat.add_assoc];exact U2 a b (j+k)
  have e2:((a++b).size<=a.size+j+k)↔(b.size<=j+k):=by rw [ByteArray.size_append];omega
  rw [e,aea a b j n f]
  simp only [e2]
theorem aec {a b:ByteArray} {i:Nat} (hi:i < a.size) (h:(mM a i).2.2=true):mM (a++b) i=mM a i:=by
 unfold mM at h |-
 simp only [U1 hi] at h |-
 split
 ·rfl
 rename_i h1
 rw [av h1] at h
 split
 ·rfl
 rename_i h2
 rw [av h2] at h;exact adZ _ _ _ _ _ h
theorem aed (a b:ByteArray) (j:Nat):mM (a++b) (a.size+j)=mM b j:=by
 unfold mM
 simp only [U2,aea]
theorem arD (a b:ByteArray):∀ (n j:Nat),b.size - j=n->uQ b j < 0->uQ (a++b) (a.size+j) < 0:=by
 intro n
 induction n using Nat.strongRecOn with
 | _ n ih =>
  intro j hn h;rw [uQ]
  by_cases hj:j < b.size
  ·rw [uQ,dif_pos hj] at h;rw [dif_pos (by rw [ByteArray.size_append];omega)]
   by_cases hd:(mM b j).2.2=true
   ·rw [dif_pos hd] at h;have hs:=(PU b j hj).2 hd;rw [dif_pos (by rw [aed];exact hd),aed,Nat.add_assoc];exact ih _ (by omega) (j+(mM b j).2.1) rfl h
   rw [dif_neg hd] at h;omega
  rw [dif_neg (by rw [ByteArray.size_append];omega)];decide
theorem arC (a b:ByteArray) (hb:uQ b 0 < 0):∀ (n i:Nat),a.size - i=n->i<=a.size->uQ a i < 0->uQ (a++b) i < 0:=by
 intro n
 induction n using Nat.strongRecOn with
 | _ n ih =>
  intro i hn hi h
  by_cases hj:i < a.size
  ·rw [uQ,dif_pos hj] at h;rw [uQ,dif_pos (by rw [ByteArray.size_append];omega)]
   by_cases hd:(mM a i).2.2=true
   ·rw [dif_pos hd] at h;have hs:=(PU a i hj).2 hd;rw [dif_pos (by rw [aec hj hd];exact hd),aec hj hd];exact ih _ (by omega) (i+(mM a i).2.1) rfl hs.2 h
   rw [dif_neg hd] at h;omega
  obtain rfl:i=a.size:=by omega
  exact arD a b b.size 0 rfl hb
theorem akt {a b:ByteArray} (ha:sG a=true) (hb:sG b=true):sG (a++b)=true:=by
 unfold sG at *
 exact nT (arC a b (pI hb) a.size 0 rfl (kE _) (pI ha))
theorem adN (a b:ByteArray):∀ (n j:Nat),b.size - j=n->rz (a++b) (a.size+j)=rz b j
 | 0,j,h=>by
  rw [rz.eq_def (a++b),rz.eq_def b,av (show ¬ a.size+j < (a++b).size by rw [ByteArray.size_append];omega),av (show ¬ j < b.size by omega)]
 | n+1,j,h=>by
  have ih:=adN a b n (j+1) (by omega);rw [rz.eq_def (a++b),rz.eq_def b,aG (show a.size+j < (a++b).size by rw [ByteArray.size_append];omega),aG (show j < b.size by omega),U2,Nat.add_assoc,ih]
theorem adM (a b:ByteArray):∀ (n i:Nat),a.size - i=n->i<=a.size->rz (a++b) i=rz a i+rz b 0
 | 0,i,h,hi=>by
  obtain rfl:i=a.size:=by omega
  rw [rz.eq_def a a.size,av (Nat.lt_irrefl _),gI];exact adN a b b.size 0 rfl
 | n+1,i,h,hi=>by
  have ih:=adM a b n (i+1) (by omega) (by omega);rw [rz.eq_def (a++b),rz.eq_def a i,aG (show i < (a++b).size by rw [ByteArray.size_append];omega),aG (show i < a.size by omega),U1 (show i < a.size by omega),ih,Nat.add_assoc]
theorem anK {a b:ByteArray} (ha:sG a=true) (hb:sG b=true):uM (a++b)=uM a+uM b:=by
 unfold uM
 rw [aG ha,aG hb,aG (akt ha hb)];exact adM a b a.size 0 rfl (kE _)
def zx (s:CS) (z:Nat) (r:CR):Prop:=r.2.bN.length<=s.bN.length+z
theorem zx.and {s:CS} {z y q:Nat} {r:CR} {f:CS->CR} (h:zx s z r) (hq:z+y<=q) (hf:∀ s,zx s y (f s)):zx s q (iP r f):=by
 unfold zx at *
 unfold iP
 split
 ·omega
 have:=hf r.2
 omega
theorem zx.zero (s:CS) (e:Int) (q:Nat):zx s q (e,s):=by unfold zx;dsimp only;omega
theorem zx.le {s:CS} {z y:Nat} {r:CR} (h:zx s z r) (hq:z<=y):zx s y r:=by unfold zx at *;omega
structure Ox where
 code:Int
 id:Int
 name:ByteArray
 flow:Int
 at_:Int
def Ox.dat (x:Ox):List Dat:=[li x.code,li x.id,.lf (.string x.name),li x.flow,li x.at_]
abbrev Ox.cells (x:Ox):List ah:=[vi x.code,vi x.id,.string x.name,vi x.flow,vi x.at_]
def ZJ (P:Program) (fv:ah) (Gi:GH) (xs:List AP) (J:Nat->GH->OL->Prop):Prop :=
 ∀ k args G L w,wZ xs k args G->(∀ b o,Gi b=some o->G b=some o)->J k G L->gH G L w->tL P fv args w (fU w G L fun _ G' L'=>J (k+1) G' L')
theorem BA:Ty prog 137 1 8 [.nilFunc] false:=⟨by kernel_rfl,by kernel_rfl⟩
theorem aqD:aQ 81:=aR func81 rfl
theorem oq:Ty prog 41 1 24 [.slice none 0 0] false:=⟨by kernel_rfl,by kernel_rfl⟩
theorem aoP:aQ 153:=aR func153 rfl
theorem aeA:aQ 151:=aR func151 rfl
theorem XJ {A:List Int} {k:Nat} {args:List ah} {g:GH} (h:wZ (A.map CK) k args g):∃ hk:k < A.length,args=[vi A[k]]:=by
 obtain ⟨p,hp,hargs⟩:=h;rw [qL] at hp;obtain ⟨q,hq,rfl⟩:=pF.1 hp;obtain ⟨hk,rfl⟩:=jQ.1 hq;exact ⟨hk,hargs⟩
theorem avn {G G0:GH} {A:List Int} {b2:Nat} {fv:ah} {J:Nat->GH->OL->Prop} {Jx:GH->OL->Prop} (hcb:Et prog fv G0 (A.map CK) J Jx) (hG0:∀ b o,G0 b=some o->G b=some o) (J9:fv.cells=#[fv]) (hb:aH G b2 0=some fv) :
  Et prog (.func (.func 153) #[] #[(aJ b2 0)]) G (A.map CK) J Jx:=by
 intro k args G1 L w0 hk hm hJ hO;obtain ⟨hk2,rfl⟩:=XJ hk;refine jJ (caps:=[(aJ b2 0)]) aoP ?_;replace hb:=aF hm hb;refine jc (N:=7) (T:=[(0,_),(1,_)]) func153 rfl ntmps153 rfl rfl hO ?_;intro a H;refine kP H (SR fun _ K1=>aj K1 rfl (SR fun _ K2=>Rg BA rfl (by assumption) ?_));clear H K1;intro a H;refine kH H (Rm rfl ?_);clear H;intro a H;refine xY (Li:=[]) (L:=L) H wn rfl rfl (hcb _ _ _ _ _ hk (fun b o h=>hm b o (hG0 b o h)) hJ (Hp.owns (Li:=[]) H.hp)) rfl ?_;clear H;rintro v6 G6 L6 a w ⟨b6,rfl,h1,h2⟩ Cz H;exact kH H (aj K2 rfl (LR results153 rfl fun H=>H.hp.fQ ⟨b6,rfl,h1,h2⟩))
theorem avo {G:GH} {bd:Nat} {D:jO} {l:List ak} (hb:G bd=some (.cells D.cells.toArray 38 (0,0))) (hv:au G (.sl 11 (l.map ak.dat)) (cB D.f)) (hz:bO l<=4294967296) :
  Iter prog G (.func (.func 151) #[] #[(aJ bd 0)]) ((eH l).map CK):=by
 intro J Jx fv G1 L w0 J9 hGi qy hJx hJ hO hcb;refine jJ (caps:=[(aJ bd 0)]) aeA ?_;have hfl:aH G1 bd 0=some (cB D.f):=aF hGi (by unfold aH;rw [hb];rfl);refine jc (N:=7) (T:=[(0,_),(1,_)]) func151 rfl ntmps151 rfl rfl hO ?_;intro a H;refine cO (fun _ K1=>?_);refine dW (cs:=[fv]) H wn rfl J9 rfl ?_;clear H;intro b2 a w hb2 H;refine K1 _ _ ?_;clear K1;obtain ⟨G2,hm2,hb2,H⟩:=H.fB;replace hfl:=aF hm2 hfl;refine kP H (SC (Rf vJ rfl (Rg kC rfl (by assumption) ?_)));clear H;intro a H;refine rM H wn rfl rfl ?_;clear H;intro a H;refine gy Vq (Li:=[]) (L:=L) H wn rfl (aku 4294967297 (by omega) _ G2 ((eH l).map CK) J Jx G2 _ _ 0 l _ (fun _ _ h=>h) (avn (b2:=b2) hcb hm2 J9 (by unfold aH;rw [hb2];rfl)) qy hJx (qy _ _ _ _ hm2 hJ) (Hp.owns (Li:=[]) H.hp) ((hv.mono hGi).mono hm2) (by omega) (fun i a h=>by rw [gI,qL,h];rfl)) rfl ?_;clear H;rintro v6 G6 L6 a w ⟨b6,rfl,h1,h2⟩ Cz H;refine aD ?_;refine (leave0 H results151 ?_).2
 cases b6
 ·exact H.hp.fQ (.inr (h2 rfl))
 exact H.hp.fQ (.inl (by simpa using h1 rfl))
theorem avp (G:GH) (w0:World) (hG:Hold G w0) (D:jO) (l:List ak) (hv:au G (.sl 11 (l.map ak.dat)) (cB D.f)) (hz:bO l<=4294967296) :
  Calls prog 91 #[D.val] w0 (bK w0 G fun v G'=>∃ bd,v=.func (.func 151) #[] #[(aJ bd 0)]∧Iter prog G' v ((eH l).map CK)):=by
 refine eN [(0,_)] func91 rfl ntmps91 rfl rfl hG ?_;intro a H;refine cO (fun _ K1=>?_);refine dW (cs:=[_,_,_,_,_,_,_,_,_,_,_]) H wn rfl rfl rfl ?_;clear H;intro b1 a w hb1 H;refine kH H (aj K1 rfl (SR fun _ K2=>?_));clear H K1;intro a H;refine rM H wn rfl rfl ?_;clear H;intro a H;refine kH H (aj K2 rfl ?_);clear H K2;intro a H;refine eO ?_;obtain ⟨G2,hm2,hb2,H⟩:=H.fB;refine lv H results91 rfl ?_;exact H.rt ⟨b1,rfl,avo hb2 (hv.mono hm2) hz⟩
def qX (A:List mq):Int:=A.foldl (fun n f=>n+wP f.items) 0
theorem Zp {A:List mq} {k:Nat} (h:k < A.length):qX (A.take (k+1))=qX (A.take k)+wP A[k].items:=by
 rw [qX,kg h,List.foldl_append];rfl
theorem akg (G:GH) (w0:World) (hG:Hold G w0) (D:jO) (l:List ak) (hv:au G (.sl 11 (l.map ak.dat)) (cB D.f)) (hz:bO l<=4294967296) (hm:∀ k,k<=(lY l).length->0<=qX ((lY l).take k)∧qX ((lY l).take k)<=4611686018427387904) :
  Calls prog 37 #[D.val] w0 (bK w0 G fun v G'=>v=vi (qX (lY l))):=by
 refine eN [(0,_)] func37 rfl ntmps37 rfl rfl hG ?_;intro a H;refine cO (fun _ K1=>?_);refine dW (cs:=[_,_,_,_,_,_,_,_,_,_,_]) H wn rfl rfl rfl ?_;clear H;intro b1 a w hb1 H;refine kH H (aj K1 rfl (SR fun _ K2=>?_));clear H K1;intro a H;refine dO aC H wn rfl ?_;clear H;intro b3 a w hb3 H;refine bC aC 0 (vs:=[_]) H wn rfl ?_;clear H;intro w H;refine K2 _ _ ?_;clear K2;refine bD (fun _ K3=>?_);refine cO (fun _ K4=>?_);refine bP jf (cs:=[_,_,_,_,_,_,_,_,_,_,_]) H wn rfl rfl (H.hp.dx 1 rfl rfl) rfl ?_;clear H;intro a H;refine s_call aqC H wn rfl (axc _ _ H.ro D l hv hz) rfl ?_;clear H;rintro v9 G9 a w ⟨ba,bl,bp,rfl,hit⟩ yS H;refine K4 _ _ ?_;clear K4;refine Cj ?_;skip;refine U5 (ι:=Unit) (κ:=Empty) (Lc:=[(_,_)]) (fun (k:Nat) (gh:Unit)=>[(b3,.cells #[vi (qX ((lY l).take k))] 3 (0,0))]) (fun (k:Nat) (gh:Unit)=>[]) (fun (k:Nat) (gh:Unit) (g:GH)=>True) (fun x=>x.elim) (fun x=>x.elim) (fun x=>x.elim) (fun x=>x.elim) (()) (by exact H.eD (Pl:=[_,_]) (dN:=[_,_]) [1,0] (by decide) rfl) rfl aeI (hit) (fun _ _ h=>h) rfl (fun k args g h=>by obtain ⟨_,_,_,_,rfl,_⟩:=afA h;rfl) (fun _ _ _ _ _ h=>h) (fun x=>x.elim) (trivial) ?_ ?_ ?_
 ·clear H;intro l3 Eh Ar bk k args gh G3 w3 F3 B3 a hk3 vP hI WQ Xj auR H;obtain ⟨hk,vA,vn,vc,rfl,hfr⟩:=afA hk3;dsimp only [zF,List.cons_append,List.nil_append] at H;refine nH ?_;refine dO ajW H wn rfl ?_;clear H;intro b5 a w hb5 H;refine bC ajW 0 (vs:=[_,_,_,_]) H wn rfl ?_;clear H;intro w H;refine aD ?_;refine WQ _ _ _ _ _ _ (by exact H.eD (Pl:=[_,_,_,_]) (dN:=[_,_,_,_]) [1,0,2,3] (by decide) rfl) ?_;clear H;intro w H;refine kP H (SB (SR fun _ K5=>bq arh kC 1 rfl rfl ?_));clear H;intro a H;refine s_call aqD H wn rfl (avU _ _ H.ro (lY l)[k].items _ hfr (Nat.le_trans (afD (jB hk)) hz)) rfl ?_;clear H;rintro v15 _ a w ⟨rfl,rfl⟩ - H;refine kH H (Rm rfl ?_);clear H;intro a H;(iterate 2 refine mg H wn rfl rfl rfl ?_;clear H;intro a H);refine kH H (Ra rfl (aj K5 rfl ?_));clear H K5;intro a H;have agk:=hm (k+1) hk;rw [Zp hk] at agk;refine kP H (SC (Ro aC 3 rfl (Rm rfl (Rd rfl ?_))));clear H;intro a H;rw [<- Zp hk] at H;refine bC aC 3 (vs:=[_]) H wn rfl ?_;clear H;intro w H;refine aD ?_;refine Xj (()) _ _ _ _ _ (by exact H.eD (Pl:=[_,_,_,_]) (dN:=[_,_,_]) [0,2,3] (by decide) rfl) ?_
  trivial
 ·clear H;intro Dk3 gh Gd3 a w vP hI H;dsimp only [lca,bJ] at H;refine K3 _ _ ?_;clear K3;refine bD (fun _ K6=>?_);rw [nU (by simp)] at H;refine kP H (SC (Ro aC 2 rfl (aX K6 rfl ?_)));clear H K6;intro a H;refine eO ?_;refine (NM H 0 rfl ?_).1;clear H;intro a w H;dsimp only [List.eraseIdx_cons_succ,List.eraseIdx_cons_zero] at H;refine lv H results37 rfl ?_;exact wz
 intro Dk x;exact x.elim
mutual
theorem aBb (note:Bool) (t:Int):∀ x:ak,(BJ note t x).length < bV x.dat
 | .mk k c i tx h f r=>by
  have h4:=wY (.mk k c i tx h f r);have hf:=SX true t f;have hr:=akz note t r;dsimp only [ak.text,ak.head,ak.flow,ak.rows] at h4;rw [BJ]
  split
  ·rw [kS];omega
  split <;> first|omega|(simp only [List.length_nil];omega)
theorem SX (note:Bool) (t:Int):∀ l:List ak,(lN note t l).length<=bO l
 | []=>by simp [lN]
 | x :: l=>by
  have h1:=aBb note t x;have h2:=SX note t l;rw [lN,iw]
  simp only [bO,eZ,dU] at *;omega
theorem aBf (note:Bool) (t:Int):∀ x:aS,(BK note t x).length<=bV x.dat
 | .mk h cs=>by
  have h4:=Ai (.mk h cs);have hc:=akv note t cs;dsimp only [aS.head,aS.cells] at h4;rw [BK];omega
theorem akz (note:Bool) (t:Int):∀ l:List aS,(tJ note t l).length<=gJ l
 | []=>by simp [tJ]
 | x :: l=>by
  have h1:=aBf note t x;have h2:=akz note t l;rw [tJ,iw]
  simp only [gJ,eZ,dU] at *;omega
theorem aA6 (note:Bool) (t:Int):∀ x:aV,(BI note t x).length<=bV x.dat
 | .mk i h f=>by
  have h4:=Ah (.mk i h f);have hf:=SX note (t+1) f;dsimp only [aV.head,aV.flow] at h4;rw [BI,kS];omega
theorem akv (note:Bool) (t:Int):∀ l:List aV,(uz note t l).length<=iA l
 | []=>by simp [uz]
 | x :: l=>by
  have h1:=aA6 note t x;have h2:=akv note t l;rw [uz,iw]
  simp only [iA,eZ,dU] at *;omega
end
theorem akd (l:List ak) (hz:bO l<=1073741824) (k:Nat) (hk:k<=(lY l).length):0<=qX ((lY l).take k)∧qX ((lY l).take k)<=4611686018427387904:=by
 have hn:=SX false 0 l
 have hl:(lY l).length<=1073741825:=by rw [lY,kS];omega
 have h:∀ k,k<=(lY l).length->0<=qX ((lY l).take k)∧qX ((lY l).take k)<=k*1073741824:=by
  intro k
  induction k with
  | zero=>intro _;exact ⟨by simp [qX],by simp [qX]⟩
  | succ k ih =>
   intro hk;obtain ⟨h1,h2⟩:=ih (by omega);have h3:=afD (jB (show k < (lY l).length by omega))
   have h4:0<=wP (lY l)[k].items∧wP (lY l)[k].items<=bO (lY l)[k].items:=by
    unfold wP
    have h5:=Zc (lY l)[k].items;have h6:=SE (lY l)[k].items
    split <;> omega
   rw [Zp (by omega)]
   push_cast
   omega
 obtain ⟨h1,h2⟩:=h k hk;exact ⟨h1,by omega⟩
theorem VD:aQ 88:=aR func88 rfl
mutual
/-- The heads of items, rows and cells, in document order. -/
def AX:ak->List dJ
 | .mk k _ _ _ h f r=>h :: ((if k=6 then ko f else [])++(if k=7 then pV r else []))
def ko:List ak->List dJ
 | []=>[]
 | x :: r=>AX x++ko r
def EX:aS->List dJ
 | .mk h c=>h :: qO c
def pV:List aS->List dJ
 | []=>[]
 | x :: r=>EX x++pV r
def EU:aV->List dJ
 | .mk _ h f=>h :: ko f
def qO:List aV->List dJ
 | []=>[]
 | x :: r=>EU x++qO r
end
theorem asI (x:ak):AX x=x.head :: ((if x.kind=6 then ko x.flow else [])++(if x.kind=7 then pV x.rows else [])):=by cases x;rw [AX];rfl
theorem asP (x:aS):EX x=x.head :: qO x.cells:=by cases x;rw [EX];rfl
theorem arV (x:aV):EU x=x.head :: ko x.flow:=by cases x;rw [EU];rfl
def HZ (h:dJ):AP:=fun args G=>∃ p d y:Option Addr × Nat × Nat,args=[.agg #[cB p,vi h.marks.ins,vi h.marks.move,cB d,cB y]]∧jy G h (cB p) (cB d) (cB y)
theorem W9 {G:GH} {h:dJ} {pA dA yA:Option Addr} {pn pc dn dc yn yc:Nat} (hr:jy G h (.slice pA pn pc) (.slice dA dn dc) (.slice yA yn yc)):HZ h [.agg #[.slice pA pn pc,vi h.marks.ins,vi h.marks.move,.slice dA dn dc,.slice yA yn yc]] G:=⟨(pA,pn,pc),(dA,dn,dc),(yA,yn,yc),rfl,hr⟩
def Tx (n:Nat):Prop:=∀ (fv:ah) (Gi:GH) (xs:List AP) (J:Nat->GH->OL->Prop) (G:GH) (L:OL) (w0:World) (j:Nat) (l:List ak) (v:ah),
 (∀ b o,Gi b=some o->G b=some o)->ZJ prog fv Gi xs J->Dh J->J j G L->gH G L w0->au G (.sl 11 (l.map ak.dat)) v->bO l < n->(∀ i a,(ko l)[i]?=some a->xs[j+i]?=some (HZ a)) ->
 Calls prog 88 #[v,fv] w0 (fU w0 G L fun _ G' L'=>J (j+(ko l).length) G' L')
set_option maxHeartbeats 4000000 in
theorem atw {n:Nat} (ih:Tx n) (hn:n<=4294967296):Tx (n+1):=by
 intro fv Gi xs J G L w0 j0 l v hGi hcb qy hJ0 hO hv hz hx0;obtain ⟨A,c,rfl,hc1,hc2,hg⟩:=hv.slice;rw [bQ] at *;have hll:=FN l;refine jc (N:=59) (T:=[(0,_),(1,_)]) func88 rfl ntmps88 rfl rfl hO ?_;intro a H;refine kP H (SR fun _ K1=>Rm rfl (Rl jq rfl (Rm rfl (Kz K1 (SB ?_)))));clear H K1;intro a H;skip;refine eX (ι:=Nat × Nat × OL × GH) (Tc:=[(1,_),(10,_),(11,_)]) (Lc:=[]) (fun gh=>[(12,vi gh.1)]) (fun gh=>[]++gh.2.2.1) (fun gh=>gh.2.2.2) (fun gh=>gh.1<=l.length∧(∀ b o,G b=some o->gh.2.2.2 b=some o)∧Now xs HZ J (j0+(ko l).length) gh.2.1 (ko (l.drop gh.1)) gh.2.2.2 gh.2.2.1) (fun gh=>l.length - gh.1) ((0,j0,L,G)) (by exact H.sub ⟨rfl,rfl,rfl,rfl,aB⟩) ?_ ?_
 ·exact ⟨by omega,fun _ _ h=>h,⟨hJ0,hx0,rfl⟩⟩
 clear H;rintro ⟨k,j,Lt,g1⟩ a w hI H;dsimp only at hI H;obtain ⟨hk,hgm,fI⟩:=hI;dsimp only [lca,bJ] at H;refine kP H (SR fun _ K2=>Rc rfl (Kz K2 (SQ fun _ K3=>Cd rfl ?_ ?_))) <;> clear H K2
 ·intro gQ a H
  try have sw:=dT gQ
  have hk2:k < l.length:=by omega
  obtain ⟨b,o,pA,pn,pc,dA,dn,dc,yA,yn,yc,fA,fn,fc,rA,rn,rc,rfl,hrow,hhd,hfl,hrw⟩:=DF hk2 hg;replace hrow:=fun j u hj=>aF hgm (hrow j u hj);replace hhd:=hhd.mono hgm;replace hfl:=hfl.mono hgm;replace hrw:=hrw.mono hgm;have hrn:=hrw.len;rw [bQ] at hrn;subst hrn;have hsz1:=Ot hk2;rw [oF hk2] at fI
  simp only [ko,asI,iZ,oD] at fI
  obtain ⟨x,hx⟩:∃ x,x=l[k]:=⟨_,rfl⟩;rw [<- hx] at fI hrow hhd hfl hrw hsz1;have hrl:=IZ x.rows;refine kP H (Kc K3 (SQ fun _ K4=>SB (SR fun _ K5=>Ri jq gq rfl rfl ?_)));clear H K3;intro a H;refine bP gq (cs:=[_,_,_,_,_,_,_,_,_,_,_]) H wn rfl rfl (fun j v hj=>H.hp.aH (hrow j v hj)) rfl ?_;clear H;intro a H;refine dO gq H wn rfl ?_;clear H;intro b5 a w hb5 H;refine bC gq 0 (vs:=[_,_,_,_,_,_,_,_,_,_,_]) H wn rfl ?_;clear H;intro w H;refine K5 _ _ ?_;clear K5;refine kP H (SR fun _ K6=>Rm rfl (Rf yN rfl ?_));clear H;intro a H;refine bP fH (cs:=[_,_,_,_,_]) H wn rfl rfl (H.hp.dx 0 rfl rfl) rfl ?_;clear H;intro a H;refine xY (Li:=[_]) (L:=Lt) H wn rfl rfl (hcb _ _ _ _ _ ⟨_,fI.head,W9 hhd⟩ (fun b o h=>hgm b o (hGi b o h)) fI.now (Hp.owns (Li:=[_]) H.hp)) rfl ?_;clear H;intro v19 I8 TK a w asJ uj H;have wM:=fI.step asJ;refine K6 _ _ ?_;clear K6;refine kP H (SR fun _ K7=>bq jF aC 0 rfl rfl (Kz K7 (SB (SR fun _ K8=>Rc rfl (aj K8 rfl (Cd rfl ?_ ?_)))))) <;> clear H K7 K8
  ·intro h22 a H
   try have oK:=dT h22
   rw [aG oK,dw,jR] at wM;refine kP H (SC (bq zM kC 0 rfl rfl (Rm rfl ?_)));clear H;intro a H;refine gy VD (Li:=[_]) (L:=TK) H wn rfl (ih fv Gi xs J _ _ _ (j+1) x.flow _ (fun b o h=>uj b o (hgm b o (hGi b o h))) hcb qy wM.now (Hp.owns (Li:=[_]) H.hp) (hfl.mono uj) (by omega) wM.part) rfl ?_;clear H;intro v27 ZR alk a w asK agE H;refine kH H (Kn K4 (SC (Rd rfl (Rm rfl ?_))));clear H K4;intro a H;refine aD ?_;refine dG ((k+1,j+1+(ko x.flow).length,alk,ZR)) (by exact (H.eD (Pl:=[_]) (dN:=[]) [] (by decide) rfl).sub ⟨rfl,rfl,rfl,rfl,aB⟩) ?_
   (try dsimp only);exact ⟨by omega,fun b o h=>agE b o (uj b o (hgm b o h)),wM.jump asK⟩
  intro h22 a H
  try have oK:=dF h22
  rw [av oK,jR] at wM;refine kP H (SR fun _ K9=>Rc rfl (aj K9 rfl (Cd rfl ?_ ?_))) <;> clear H K9
  ·intro fZ a H
   try have p28:=dT fZ
   rw [aG p28] at wM;refine kP H (SR fun _ aW=>bq tZ uy 0 rfl rfl (Rl nP rfl (Rm rfl (Kz aW (SB ?_)))));clear H aW;intro a H;skip;refine eX (ι:=Nat × Nat × OL × GH) (Tc:=[(1,_),(10,_),(11,_),(12,_),(31,_),(32,_)]) (Lc:=[(_,_)]) (fun gh=>[(33,vi gh.1)]) (fun gh=>[]++gh.2.2.1) (fun gh=>gh.2.2.2) (fun gh=>gh.1<=x.rows.length∧(∀ b o,I8 b=some o->gh.2.2.2 b=some o)∧Now xs HZ J (j0+(ko l).length) gh.2.1 (pV (x.rows.drop gh.1)++ko (l.drop (k+1))) gh.2.2.2 gh.2.2.1) (fun gh=>x.rows.length - gh.1) ((0,j+1,TK,I8)) (by exact H.sub ⟨rfl,rfl,rfl,rfl,rfl,rfl,rfl,aB⟩) ?_ ?_
   ·exact ⟨by omega,fun _ _ h=>h,wM⟩
   clear H;rintro ⟨rk,j3,Lt3,g3⟩ a w hI H;dsimp only at hI H;obtain ⟨hrk,hg3,rY⟩:=hI;dsimp only [lca,bJ] at H;refine kP H (SR fun _ bM=>Rc rfl (Kz bM (SQ fun _ bU=>Cd rfl ?_ ?_))) <;> clear H bM
   ·intro fq a H
    try have p34:=dT fq
    have hk3:rk < x.rows.length:=by omega
    obtain ⟨b2,o2,qA,qn,qc,eA,en,ec,zA,zn,zc,cA,cn,cc,rfl,hrow,D7,hcl⟩:=KS hk3 ((hrw.mono uj).mono hg3).at_;have hcn:=hcl.len;rw [bQ] at hcn;subst hcn;have hsz2:=Ou hk3;have hcs:=IY x.rows[rk].cells;rw [oF hk3] at rY
    simp only [pV,asP,iZ,oD] at rY
    obtain ⟨y,hy⟩:∃ y,y=x.rows[rk]:=⟨_,rfl⟩;rw [<- hy] at rY hrow D7 hcl hsz2 hcs;refine kP H (Kc bU (SQ fun _ bY=>SB (SR fun _ cZ=>Ri nP jV rfl rfl ?_)));clear H bU;intro a H;refine bP jV (cs:=[_,_,_,_,_,_]) H wn rfl rfl (fun j v hj=>H.hp.aH (hrow j v hj)) rfl ?_;clear H;intro a H;refine dO jV H wn rfl ?_;clear H;intro b7 a w AZ H;refine bC jV 0 (vs:=[_,_,_,_,_,_]) H wn rfl ?_;clear H;intro w H;refine cZ _ _ ?_;clear cZ;refine kP H (SR fun _ dQ=>Rm rfl (Rf Qd rfl ?_));clear H;intro a H;refine bP fH (cs:=[_,_,_,_,_]) H wn rfl rfl (H.hp.dx 0 rfl rfl) rfl ?_;clear H;intro a H;refine xY (Li:=[_,_]) (L:=Lt3) H wn rfl rfl (hcb _ _ _ _ _ ⟨_,rY.head,W9 D7⟩ (fun b o h=>hg3 b o (uj b o (hgm b o (hGi b o h)))) rY.now (Hp.owns (Li:=[_,_]) H.hp)) rfl ?_;clear H;intro v40 LH OU a w asL DZ H;have auh:=rY.step asL;refine dQ _ _ ?_;clear dQ;refine kP H (SR fun _ dR=>bq zN Ad 0 rfl rfl (Rl qH rfl (Rm rfl (Kz dR (SB ?_)))));clear H dR;intro a H;skip;refine eX (ι:=Nat × Nat × OL × GH) (Tc:=[(1,_),(10,_),(11,_),(12,_),(31,_),(32,_),(33,_),(42,_),(43,_)]) (Lc:=[(_,_),(_,_)]) (fun gh=>[(44,vi gh.1)]) (fun gh=>[]++gh.2.2.1) (fun gh=>gh.2.2.2) (fun gh=>gh.1<=y.cells.length∧(∀ b o,LH b=some o->gh.2.2.2 b=some o)∧Now xs HZ J (j0+(ko l).length) gh.2.1 (qO (y.cells.drop gh.1)++(pV (x.rows.drop (rk+1))++ko (l.drop (k+1)))) gh.2.2.2 gh.2.2.1) (fun gh=>y.cells.length - gh.1) ((0,j3+1,OU,LH)) (by exact H.sub ⟨rfl,rfl,rfl,rfl,rfl,rfl,rfl,rfl,rfl,rfl,aB⟩) ?_ ?_
    ·exact ⟨by omega,fun _ _ h=>h,auh⟩
    clear H;rintro ⟨ck,j4,Lt4,g4⟩ a w hI H;dsimp only at hI H;obtain ⟨hck,hg4,qz⟩:=hI;dsimp only [lca,bJ] at H;refine kP H (SR fun _ dK=>Rc rfl (Kz dK (SQ fun _ dX=>Cd rfl ?_ ?_))) <;> clear H dK
    ·intro h45 a H
     try have p45:=dT h45
     have hk4:ck < y.cells.length:=by omega
     obtain ⟨b3,o3,sA,sn,sc,tA,tn,tc,uA,un,uc,gA,gn,gc,rfl,hrow,hch,hcf⟩:=JJ hk4 ((hcl.mono DZ).mono hg4).at_;have ahl:=Oq hk4;rw [oF hk4] at qz
     simp only [qO,arV,iZ,oD] at qz
     refine kP H (Kc dX (SQ fun _ fM=>SB (SR fun _ eP=>Ri qH lg rfl rfl ?_)));clear H dX;intro a H;refine bP lg (cs:=[_,_,_,_,_,_,_]) H wn rfl rfl (fun j v hj=>H.hp.aH (hrow j v hj)) rfl ?_;clear H;intro a H;refine dO lg H wn rfl ?_;clear H;intro b9 a w Cu H;refine bC lg 0 (vs:=[_,_,_,_,_,_,_]) H wn rfl ?_;clear H;intro w H;refine eP _ _ ?_;clear eP;refine kP H (SR fun _ gB=>Rm rfl (Rf Qe rfl ?_));clear H;intro a H;refine bP fH (cs:=[_,_,_,_,_]) H wn rfl rfl (H.hp.dx 0 rfl rfl) rfl ?_;clear H;intro a H;refine xY (Li:=[_,_,_]) (L:=Lt4) H wn rfl rfl (hcb _ _ _ _ _ ⟨_,qz.head,W9 hch⟩ (fun b o h=>hg4 b o (DZ b o (hg3 b o (uj b o (hgm b o (hGi b o h)))))) qz.now (Hp.owns (Li:=[_,_,_]) H.hp)) rfl ?_;clear H;intro v51 G51 alm a w asM Xg H;have Ia:=qz.step asM;refine gB _ _ ?_;clear gB;refine kP H (SC (bq GZ kC 0 rfl rfl (Rm rfl ?_)));clear H;intro a H;refine gy VD (Li:=[_,_,_]) (L:=alm) H wn rfl (ih fv Gi xs J _ _ _ (j4+1) y.cells[ck].flow _ (fun b o h=>Xg b o (hg4 b o (DZ b o (hg3 b o (uj b o (hgm b o (hGi b o h))))))) hcb qy Ia.now (Hp.owns (Li:=[_,_,_]) H.hp) (hcf.mono Xg) (by omega) Ia.part) rfl ?_;clear H;intro v55 OE aln a w asN Bc H;refine kH H (Kn fM (SC (Rd rfl (Rm rfl ?_))));clear H fM;intro a H;refine aD ?_;refine dG ((ck+1,j4+1+(ko y.cells[ck].flow).length,aln,OE)) (by exact (H.eD (Pl:=[_,_,_]) (dN:=[_,_]) [1,2] (by decide) rfl).sub ⟨rfl,rfl,rfl,rfl,rfl,rfl,rfl,rfl,rfl,rfl,aB⟩) ?_
     (try dsimp only);exact ⟨by omega,fun b o h=>Bc b o (Xg b o (hg4 b o h)),Ia.jump asN⟩
    intro h45 a H
    try have p45:=dF h45
    refine dP ?_;refine bY _ _ ?_;clear bY;refine kP H (SC (Rd rfl (Rm rfl ?_)));clear H;intro a H;refine aD ?_;refine dG ((rk+1,j4,Lt4,g4)) (by exact (H.eD (Pl:=[_,_]) (dN:=[_]) [1] (by decide) rfl).sub ⟨rfl,rfl,rfl,rfl,rfl,rfl,rfl,aB⟩) ?_
    (try dsimp only);exact ⟨by omega,fun b o h=>hg4 b o (DZ b o (hg3 b o h)),by rw [pJ (by omega),qO,jR] at qz;exact qz⟩
   intro fq a H
   try have p34:=dF fq
   refine dP ?_;refine K4 _ _ ?_;clear K4;refine kP H (SC (Rd rfl (Rm rfl ?_)));clear H;intro a H;refine aD ?_;refine dG ((k+1,j3,Lt3,g3)) (by exact (H.eD (Pl:=[_]) (dN:=[]) [] (by decide) rfl).sub ⟨rfl,rfl,rfl,rfl,aB⟩) ?_
   (try dsimp only);exact ⟨by omega,fun b o h=>hg3 b o (uj b o (hgm b o h)),by rw [pJ (by omega),pV,jR] at rY;exact rY⟩
  intro fZ a H
  try have p28:=dF fZ
  rw [av p28,jR] at wM;refine kP H (Kc K4 (SC (Rd rfl (Rm rfl ?_))));clear H K4;intro a H;refine aD ?_;refine dG ((k+1,j+1,TK,I8)) (by exact (H.eD (Pl:=[_]) (dN:=[]) [] (by decide) rfl).sub ⟨rfl,rfl,rfl,rfl,aB⟩) ?_
  (try dsimp only);exact ⟨by omega,fun b o h=>uj b o (hgm b o h),wM⟩
 intro gQ a H
 try have sw:=dF gQ
 refine dP ?_;refine (leave0 H results88 ?_).2
 exact H.hp.jY (L':=Lt) (by repeat (first|exact jE _|apply List.Sublist.cons)) (by
   rw [pJ (by omega),ko] at fI;have:=fI.len
   simp only [List.length_nil,zy] at this
   rw [<- this];exact fI.now)
theorem agu:∀ n:Nat,n<=4294967297->Tx n
 | 0,_=>fun _ _ _ _ _ _ _ _ _ _ _ _ _ _ _ _ h=>absurd h (by omega)
 | n+1,hn=>atw (agu n (by omega)) (by omega)
theorem aao {Q:ak->Prop} (hj:∀ z y,Q z->Q y->pY z y->Q (mH z y)) {out:List ak} {y:ak} (hy:Q y) (ho:∀ z∈out,Q z):∀ z∈addN out y,Q z:=by
 by_cases hd:rD y
 ·rw [Jj hd];exact ho
 by_cases h:∃ o z,out=o++[z]∧pY z y
 ·obtain ⟨o,z,rfl,hz⟩:=h;rw [Ca hd hz];intro x hx
  rcases jA.1 hx with h|h
  ·exact ho x (List.mem_append_left _ h)
  rw [pG.1 h];exact hj z y (ho z (by simp)) hy hz
 rw [Dm hd fun o z e hz=>h ⟨o,z,e,hz⟩];intro x hx
 rcases jA.1 hx with h|h
 ·exact ho x h
 rw [pG.1 h];exact hy
theorem VX {Q:ak->Prop} (hj:∀ z y,Q z->Q y->pY z y->Q (mH z y)):∀ (A out:List ak),(∀ y∈A,Q y)->(∀ z∈out,Q z)->∀ z∈A.foldl addN out,Q z
 | [],_,_,ho=>ho
 | y :: A,out,hA,ho=>VX hj A (addN out y) (fun x hx=>hA x (gK _ hx)) (aao hj (hA y eT) ho)
theorem fold_add {γ:Type} {F:List ak->γ} {op:γ->γ->γ} {Q:ak->Prop} (hF:∀ a b,F (a++b)=op (F a) (F b)) (hj:∀ z y,Q z->Q y->pY z y->Q (mH z y)) (hd:∀ y,Q y->¬ rD y)
  (hg:∀ o z y,Q z->Q y->pY z y->F (o++[mH z y])=op (F (o++[z])) (F [y])):∀ (A out:List ak),(∀ y∈A,Q y)->(∀ z∈out,Q z)->F (A.foldl addN out)=F (out++A)
 | [],out,_,_=>by rw [ig];rfl
 | y :: A,out,hA,ho=>by
  have hy:=hA y eT;rw [List.foldl_cons,fold_add hF hj hd hg A (addN out y) (fun x hx=>hA x (gK _ hx)) (aao hj hy ho),show out++y :: A=(out++[y])++A by simp,hF,hF (out++[y])]
  congr 1
  by_cases h:∃ o z,out=o++[z]∧pY z y
  ·obtain ⟨o,z,rfl,hz⟩:=h;rw [Ca (hd y hy) hz,hg o z y (ho z (by simp)) hy hz,<- hF]
  rw [Dm (hd y hy) fun o z e hz=>h ⟨o,z,e,hz⟩]
theorem VZ {x:ak} (h:lC x=0) (hk:x.kind=1):x.code=0∧x.id=0∧sG x.text=true∧vH x.text=false∧x.flow=[]∧x.rows=[]:=by
 have h0:=He h
 unfold lC at h
 have hc:xH x=false:=by simp [xH,hk]
 have hn:xU x=false:=by simp [xU,hk]
 split at h
 ·cases h
 split at h
 ·cases h
 rename_i h2
 split at h
 ·cases h
 split at h
 ·cases h
 rename_i h4
 rw [hk] at h4
 simp only [wG,hc,hn,Bool.not_false,LV,Bool.or_eq_true,not_or,Bool.not_eq_true,vE,nV] at h2
 refine ⟨h2.1.1.1.1,h2.1.1.1.2,h0.1,?_,h0.2.2.2 (by omega),h0.2.2.1 (by omega)⟩
 cases he:vH x.text
 ·rfl
 rw [he] at h4;simp at h4
theorem aes (s:ByteArray):vH s=decide (s.size=0):=by
 unfold vH
 rw [ByteArray.toList_eq,ByteArray.toList_eq,Ce,qY,beq_iff_eq]
 constructor
 ·intro h;have:=dh List.length h
  simpa using this
 intro h;exact List.eq_nil_of_length_eq_zero (by rw [vC];exact h)
theorem arJ {z y:ak} (hz:lC z=0) (hy:lC y=0) (kz:z.kind=1) (ky:y.kind=1):lC (mH z y)=0:=by
 obtain ⟨a1,a2,a3,a4,a5,a6⟩:=VZ hz kz;obtain ⟨b1,b2,b3,b4,b5,b6⟩:=VZ hy ky;have hv:=akt a3 b3
 have he:vH (z.text++y.text)=false:=by
  rw [aes,vE] at a4 |-;rw [ByteArray.size_append];omega
 unfold lC mH codeOk wG Ab Af xH xU
 simp only [ak.kind,ak.code,ak.id,ak.text,ak.flow,ak.rows] at *
 simp [kz,a1,a2,a5,a6,hv,he,Ab,xH,xU,Af,ak.kind,ak.code]
theorem arK {k c i:Int} {tx:ByteArray} {h:dJ} {f f':List ak} {r r':List aS} (hx:lC (.mk k c i tx h f r)=0) (hf:k≠6->f=[]->f'=[]) (hr:r'.length=r.length):lC (.mk k c i tx h f' r')=0:=by
 have h0:=(He hx).2.2.2
 have e:wG (.mk k c i tx h f' r')=wG (.mk k c i tx h f r):=by
  have hfl:k≠6->f'.length=f.length:=fun h6=>by rw [hf h6 (h0 h6),show f=[] from h0 h6]
  rw [Ce]
  simp only [wG,Bool.or_eq_true,ji,qY]
  have c1:xH (.mk k c i tx h f' r')=xH (.mk k c i tx h f r):=rfl;have c2:xU (.mk k c i tx h f' r')=xU (.mk k c i tx h f r):=rfl;have c3:Af (.mk k c i tx h f' r')=Af (.mk k c i tx h f r):=rfl;rw [c1,c2,c3]
  show (((((_∧c≠0)∨(_∧i≠0))∨(_∧(!vH tx)=true))∨(k≠6∧0 < (f'.length:Int)))∨(k≠7∧0 < (r'.length:Int)))↔(((((_∧c≠0)∨(_∧i≠0))∨(_∧(!vH tx)=true))∨(k≠6∧0 < (f.length:Int)))∨(k≠7∧0 < (r.length:Int)))
  rw [hr]
  by_cases h6:k=6
  ·simp [h6]
  rw [hfl h6]
 have e2:codeOk (.mk k c i tx h f' r')=codeOk (.mk k c i tx h f r):=rfl;have e3:Ab (.mk k c i tx h f' r')=Ab (.mk k c i tx h f r):=rfl
 unfold lC at hx |-
 rw [e,e2,e3];exact hx
theorem RB {C:aZ} {body note:Bool} {t:Int} (x:ak):lW C body note t x↔lC x=0∧RG body note t x.kind x.id∧iD C x.kind x.head=0∧(x.kind=6->iR C false true t x.flow)∧(x.kind=7->(x.rows.length≠0∧x.rows.length<=256)∧kK C note (t+1) x.rows):=by
 cases x;rw [lW];rfl
theorem Yh {C:aZ} {body note:Bool} {t:Int} (z y:ak) (hz:lW C body note t z) (hy:lW C body note t y) (hj:pY z y):lW C body note t (mH z y):=by
 rw [RB] at *;refine ⟨arJ hz.1 hy.1 hj.2.1 hj.1,hz.2.1,hz.2.2.1,hz.2.2.2.1,hz.2.2.2.2⟩
theorem aiB {C:aZ} {body note:Bool} {t:Int} (y:ak) (hy:lW C body note t y):¬ rD y:=by
 rw [RB] at hy;rintro (⟨h1,h2⟩|⟨h1,h2⟩)
 ·exact (hy.2.2.2.2 h1).1.1 h2
 have:=(VZ hy.1 h1).2.2.2.1;rw [aes] at this
 simp [h2] at this
theorem Yi {C:aZ} {body note:Bool} {t:Int} {A:List ak} (h:iR C body note t A):iR C body note t (A.foldl addN []):=Ee.2 (VX Yh A [] (Ee.1 h) (fun _ h=>by cases h))
mutual
theorem axf (C:aZ) (body note:Bool) (t:Int):∀ x:ak,lW C body note t x->lW C body note t (nI x)
 | .mk k c i tx h f r,hx=>by
  have hf:=IE C false true t f;have hr:=aiD C note (t+1) r;rw [lW] at hx;rw [nI,lW];exact ⟨arK hx.1 (fun _ e=>by rw [e];rfl) (by rw [Fq,bQ]),hx.2.1,hx.2.2.1,fun e=>Yi (hf (hx.2.2.2.1 e)),fun e=>⟨by rw [Fq,bQ];exact (hx.2.2.2.2 e).1,hr (hx.2.2.2.2 e).2⟩⟩
theorem axg (C:aZ) (note:Bool) (t:Int):∀ x:aS,qd C note t x->qd C note t (nR x)
 | .mk h cs,hx=>by
  have hc:=aiC C note t cs;rw [qd] at hx;rw [nR,qd];exact ⟨by rw [Iz,bQ];exact hx.1,hc hx.2⟩
theorem axe (C:aZ) (note:Bool) (t:Int):∀ x:aV,qb C note t x->qb C note t (nC x)
 | .mk i h f,hx=>by
  have hf:=IE C false note t f;rw [qb] at hx;rw [nC,qb];exact ⟨hx.1,Yi (hf hx.2)⟩
theorem IE (C:aZ) (body note:Bool) (t:Int):∀ l:List ak,iR C body note t l->iR C body note t (mI l)
 | [],_=>by rw [mI,iR];trivial
 | x :: l,h=>by
  rw [iR] at h;rw [mI,iR];exact ⟨axf C body note t x h.1,IE C body note t l h.2⟩
theorem aiD (C:aZ) (note:Bool) (t:Int):∀ l:List aS,kK C note t l->kK C note t (lH l)
 | [],_=>by rw [lH,kK];trivial
 | x :: l,h=>by
  rw [kK] at h;rw [lH,kK];exact ⟨axg C note t x h.1,aiD C note t l h.2⟩
theorem aiC (C:aZ) (note:Bool) (t:Int):∀ l:List aV,lI C note t l->lI C note t (lG l)
 | [],_=>by rw [lG,lI];trivial
 | x :: l,h=>by
  rw [lI] at h;rw [lG,lI];exact ⟨axe C note t x h.1,aiC C note t l h.2⟩
end
theorem Bo (l:List ak):ku l=(mI l).foldl addN []:=by simp [ku,uX,KI]
theorem Yj {C:aZ} {body note:Bool} {t:Int} {l:List ak} (h:iR C body note t l):iR C body note t (ku l):=by rw [Bo];exact Yi (IE C body note t l h)
theorem NI:∀ a b:List ak,eH (a++b)=eH a++eH b
 | [],b=>by rw [eH];rfl
 | x :: a,b=>by rw [oD,eH,eH,NI a b,iZ]
theorem Od:∀ a b:List ak,jZ (a++b)=jZ a+jZ b
 | [],b=>by rw [jZ,gI];rfl
 | x :: a,b=>by rw [oD,jZ,jZ,Od a b,Nat.add_assoc]
theorem XH {x:ak} (h:x.kind=1):pX x=[]:=by
 cases x;dsimp only [ak.kind] at h;subst h;simp [pX]
theorem Zm {x:ak} (h:x.kind=1):uI x=uM x.text:=by
 cases x;dsimp only [ak.kind] at h;subst h;simp [uI,ak.text]
theorem XK {C:aZ} {body note:Bool} {t:Int} {A:List ak} (h:iR C body note t A):eH (A.foldl addN [])=eH A :=
 (fold_add (F:=eH) NI (Yh (C:=C) (body:=body) (note:=note) (t:=t)) aiB (fun o z y _ _ hj=>by
  rw [NI,NI];simp only [eH];rw [XH hj.2.1,XH hj.1,XH (x:=mH z y) hj.2.1];simp) A [] (Ee.1 h) (fun _ h=>by cases h))
theorem Zn {C:aZ} {body note:Bool} {t:Int} {A:List ak} (h:iR C body note t A):jZ (A.foldl addN [])=jZ A :=
 (fold_add (F:=jZ) Od (Yh (C:=C) (body:=body) (note:=note) (t:=t)) aiB (fun o z y hz hy hj=>by
  rw [RB] at hz hy
  rw [Od,Od];simp only [jZ];rw [Zm hj.2.1,Zm hj.1,Zm (x:=mH z y) hj.2.1,show (mH z y).text=z.text++y.text from rfl,anK (He hz.1).1 (He hy.1).1];omega) A [] (Ee.1 h) (fun _ h=>by cases h))
theorem Gw {p:Prop} (h:p:=by
 exact ⟨rfl,rfl⟩):p:=h
mutual
theorem avL (C:aZ) (body note:Bool) (t:Int):∀ x:ak,lW C body note t x->pX (nI x)=pX x∧uI (nI x)=uI x
 | .mk k c i tx h f r,hx=>by
  have hf:=Q0 C false true t f;have hr:=ahK C note (t+1) r;rw [lW] at hx;rw [nI,pX,pX,uI,uI]
  by_cases h6:k=6
  ·subst h6;have ho:=hx.2.2.2.1 rfl;have hn:=IE C false true t f ho
   simp only [if_true,av (show ¬ (6:Int)=7 by decide)]
   rw [XK hn,Zn hn,(hf ho).1,(hf ho).2];exact Gw
  by_cases h7:k=7
  ·subst h7;have ho:=(hx.2.2.2.2 rfl).2
   simp only [if_true,av (show ¬ (7:Int)=6 by decide)]
   rw [(hr ho).1,(hr ho).2];exact Gw
  simp only [av h6,av h7]
  exact ⟨aB,aB⟩
theorem avM (C:aZ) (note:Bool) (t:Int):∀ x:aS,qd C note t x->rZ (nR x)=rZ x∧uR (nR x)=uR x
 | .mk h cs,hx=>by
  have hc:=ahJ C note t cs;rw [qd] at hx;rw [nR,rZ,rZ,uR,uR];exact hc hx.2
theorem avK (C:aZ) (note:Bool) (t:Int):∀ x:aV,qb C note t x->tq (nC x)=tq x∧uC (nC x)=uC x
 | .mk i h f,hx=>by
  have hf:=Q0 C false note t f;rw [qb] at hx;have hn:=IE C false note t f hx.2;rw [nC,tq,tq,uC,uC,XK hn,Zn hn,(hf hx.2).1,(hf hx.2).2];exact Gw
theorem Q0 (C:aZ) (body note:Bool) (t:Int):∀ l:List ak,iR C body note t l->eH (mI l)=eH l∧jZ (mI l)=jZ l
 | [],_=>by rw [mI];exact ⟨rfl,rfl⟩
 | x :: l,h=>by
  rw [iR] at h;have h1:=avL C body note t x h.1;have h2:=Q0 C body note t l h.2;rw [mI,eH,eH,jZ,jZ,h1.1,h1.2,h2.1,h2.2];exact Gw
theorem ahK (C:aZ) (note:Bool) (t:Int):∀ l:List aS,kK C note t l->kJ (lH l)=kJ l∧oM (lH l)=oM l
 | [],_=>by rw [lH];exact ⟨rfl,rfl⟩
 | x :: l,h=>by
  rw [kK] at h;have h1:=avM C note t x h.1;have h2:=ahK C note t l h.2;rw [lH,kJ,kJ,oM,oM,h1.1,h1.2,h2.1,h2.2];exact Gw
theorem ahJ (C:aZ) (note:Bool) (t:Int):∀ l:List aV,lI C note t l->lV (lG l)=lV l∧qj (lG l)=qj l
 | [],_=>by rw [lG];exact ⟨rfl,rfl⟩
 | x :: l,h=>by
  rw [lI] at h;have h1:=avK C note t x h.1;have h2:=ahJ C note t l h.2;rw [lG,lV,lV,qj,qj,h1.1,h1.2,h2.1,h2.2];exact Gw
end
theorem ahv {C:aZ} {body note:Bool} {t:Int} {l:List ak} (h:iR C body note t l):eH (ku l)=eH l∧jZ (ku l)=jZ l:=by
 have hn:=IE C body note t l h;rw [Bo,XK hn,Zn hn];exact Q0 C body note t l h
theorem aAB (z y:ak):bV (mH z y).dat<=bV z.dat+bV y.dat:=by
 rw [ak.rT,ak.rT,ak.rT]
 simp only [mH,ak.kind,ak.code,ak.id,ak.text,ak.head,ak.flow,ak.rows,bV,mV,ByteArray.size_append]
 omega
theorem Ov (a b:List ak):bO (a++b)=bO a+bO b:=by rw [bO,kF,KZ]
theorem ZF (y:ak):bO [y]=1+bV y.dat:=by simp [bO,dU]
theorem aBr (out:List ak) (y:ak):bO (addN out y)<=bO out+bO [y]:=by
 rcases aap out y with e|e|⟨o,z,rfl,-,-,e⟩ <;> rw [e]
 ·omega
 ·rw [Ov];exact eu _
 have:=aAB z y;rw [Ov,Ov,ZF,ZF,ZF];omega
theorem Te:∀ (A out:List ak),bO (A.foldl addN out)<=bO out+bO A
 | [],out=>Nat.le_add_right _ _
 | y :: A,out=>by
  have h1:=Te A (addN out y);have h2:=aBr out y;have h3:=Ov [y] A;rw [List.singleton_append] at h3;rw [List.foldl_cons,h3];omega
theorem UU {p:Prop} (h:p:=by
 induction a with
 | nil=>simp [bV]
 | cons x a ih=>simp only [oD,bV,ih];omega):p:=h
mutual
theorem aBt:∀ x:ak,bV (nI x).dat<=bV x.dat
 | .mk k c i tx h f r=>by
  have hf:=Tf f;have hr:=akS r;have hd:=Te (mI f) [];have h0:bO []=0:=rfl
  have N9:∀ (a b:List Dat),bV (a++b)=bV a+bV b:=fun a b=>by
   exact UU
  rw [nI,ak.rT,ak.rT]
  simp only [ak.kind,ak.code,ak.id,ak.text,ak.head,ak.flow,ak.rows,bV,mV,N9]
  unfold bO at *
  unfold gJ at hr
  omega
theorem aBu:∀ x:aS,bV (nR x).dat<=bV x.dat
 | .mk h cs=>by
  have hc:=akR cs
  have N9:∀ (a b:List Dat),bV (a++b)=bV a+bV b:=fun a b=>by
   exact UU
  rw [nR,aS.rT,aS.rT]
  simp only [aS.head,aS.cells,bV,mV,N9]
  unfold iA at hc
  omega
theorem aBs:∀ x:aV,bV (nC x).dat<=bV x.dat
 | .mk i h f=>by
  have hf:=Tf f;have hd:=Te (mI f) [];have h0:bO []=0:=rfl
  have N9:∀ (a b:List Dat),bV (a++b)=bV a+bV b:=fun a b=>by
   exact UU
  rw [nC,aV.rT,aV.rT]
  simp only [aV.id,aV.head,aV.flow,bV,mV,N9]
  unfold bO at *
  omega
theorem Tf:∀ l:List ak,bO (mI l)<=bO l
 | []=>by rw [mI];exact eu _
 | x :: l=>by
  have h1:=aBt x;have h2:=Tf l;rw [mI]
  simp only [bO,eZ,dU] at *
  omega
theorem akS:∀ l:List aS,gJ (lH l)<=gJ l
 | []=>by rw [lH];exact eu _
 | x :: l=>by
  have h1:=aBu x;have h2:=akS l;rw [lH]
  simp only [gJ,eZ,dU] at *
  omega
theorem akR:∀ l:List aV,iA (lG l)<=iA l
 | []=>by rw [lG];exact eu _
 | x :: l=>by
  have h1:=aBs x;have h2:=akR l;rw [lG]
  simp only [iA,eZ,dU] at *
  omega
end
theorem ZE (l:List ak):bO (ku l)<=bO l:=by
 have h1:=Te (mI l) [];have h2:=Tf l;have h0:bO []=0:=rfl;rw [Bo];omega
section
mutual
def mU (acc rej:Int->Bool):ak->List ak
 | .mk k c i tx h f r=>if lS acc rej h then [] else if k=6 then [.mk k c i tx (iE acc rej h) (dS acc rej f) r] else if k=7 then (if (gN acc rej r).length=0 then [] else [.mk k c i tx (iE acc rej h) f (gN acc rej r)]) else [.mk k c i tx (iE acc rej h) f r]
def oL (acc rej:Int->Bool):aS->List aS
 | .mk h cs=>if lS acc rej h then [] else if (gD acc rej cs).length=0 then [] else [.mk (iE acc rej h) (gD acc rej cs)]
def oV (acc rej:Int->Bool):aV->List aV
 | .mk i h f=>if lS acc rej h then [] else [.mk i (iE acc rej h) (dS acc rej f)]
def dS (acc rej:Int->Bool):List ak->List ak
 | []=>[]
 | x :: l=>mU acc rej x++dS acc rej l
def gN (acc rej:Int->Bool):List aS->List aS
 | []=>[]
 | x :: l=>oL acc rej x++gN acc rej l
def gD (acc rej:Int->Bool):List aV->List aV
 | []=>[]
 | x :: l=>oV acc rej x++gD acc rej l
end
variable {acc rej:Int->Bool}
theorem R8 (x:ak):mU acc rej x=if lS acc rej x.head then [] else if x.kind=6 then [.mk x.kind x.code x.id x.text (iE acc rej x.head) (dS acc rej x.flow) x.rows] else if x.kind=7 then (if (gN acc rej x.rows).length=0 then [] else [.mk x.kind x.code x.id x.text (iE acc rej x.head) x.flow (gN acc rej x.rows)]) else [.mk x.kind x.code x.id x.text (iE acc rej x.head) x.flow x.rows]:=by cases x;rw [mU];rfl
theorem aji (x:aS):oL acc rej x=if lS acc rej x.head then [] else if (gD acc rej x.cells).length=0 then [] else [.mk (iE acc rej x.head) (gD acc rej x.cells)]:=by cases x;rw [oL];rfl
theorem aje (x:aV):oV acc rej x=if lS acc rej x.head then [] else [.mk x.id (iE acc rej x.head) (dS acc rej x.flow)]:=by cases x;rw [oV];rfl
theorem R9:∀ a b:List ak,dS acc rej (a++b)=dS acc rej a++dS acc rej b
 | [],b=>by simp [dS]
 | x :: a,b=>by simp [dS,R9 a b]
theorem YB:∀ a b:List aS,gN acc rej (a++b)=gN acc rej a++gN acc rej b
 | [],b=>by simp [gN]
 | x :: a,b=>by simp [gN,YB a b]
theorem Yz:∀ a b:List aV,gD acc rej (a++b)=gD acc rej a++gD acc rej b
 | [],b=>by simp [gD]
 | x :: a,b=>by simp [gD,Yz a b]
theorem KT {l:List ak} {k:Nat} (h:k < l.length):dS acc rej (l.take (k+1))=dS acc rej (l.take k)++mU acc rej l[k]:=by rw [kg h,R9];simp [dS]
theorem Sb {l:List aS} {k:Nat} (h:k < l.length):gN acc rej (l.take (k+1))=gN acc rej (l.take k)++oL acc rej l[k]:=by rw [kg h,YB];simp [gN]
theorem R6 {l:List aV} {k:Nat} (h:k < l.length):gD acc rej (l.take (k+1))=gD acc rej (l.take k)++oV acc rej l[k]:=by rw [kg h,Yz];simp [gD]
theorem ayG (x:ak):(mU acc rej x).length<=1:=by rw [R8];(repeat' split) <;> simp
theorem ayI (x:aS):(oL acc rej x).length<=1:=by rw [aji];(repeat' split) <;> simp
theorem ayD (x:aV):(oV acc rej x).length<=1:=by rw [aje];split <;> simp
theorem ajh:∀ l:List ak,(dS acc rej l).length<=l.length
 | []=>by simp [dS]
 | x :: l=>by rw [dS,iw];have:=ayG (acc:=acc) (rej:=rej) x;have:=ajh l;simp only [kS];omega
theorem YD:∀ l:List aS,(gN acc rej l).length<=l.length
 | []=>by simp [gN]
 | x :: l=>by rw [gN,iw];have:=ayI (acc:=acc) (rej:=rej) x;have:=YD l;simp only [kS];omega
theorem YA:∀ l:List aV,(gD acc rej l).length<=l.length
 | []=>by simp [gD]
 | x :: l=>by rw [gD,iw];have:=ayD (acc:=acc) (rej:=rej) x;have:=YA l;simp only [kS];omega
theorem Yv:∀ l:List aL,dU (l.map aL.dat)=3*l.length
 | []=>by simp [dU]
 | p :: l=>by rw [eZ,dU,Yv l];simp [aL.dat,bV,mV];omega
theorem Vn:∀ l:List gF,dU (l.map gF.dat)=3*l.length
 | []=>by simp [dU]
 | p :: l=>by rw [eZ,dU,Vn l];simp [gF.dat,bV,mV];omega
theorem X8:∀ l:List bS,dU (l.map bS.dat)=5*l.length
 | []=>by simp [dU]
 | p :: l=>by rw [eZ,dU,X8 l];simp [bS.dat,bV,mV];omega
theorem adX (props:List aL):∀ (L:List (Int × List bS)) (s:List aL × List bS),(tV acc rej props L s).1.length<=s.1.length+L.length∧(tV acc rej props L s).2.length<=s.2.length+(L.flatMap Prod.snd).length
 | [],s=>by simp [tV]
 | (k,l) :: r,s=>by
  rw [tV];obtain ⟨h1,h2⟩:=adX props r (vw s.1 k (lZ acc rej props k l).2,s.2++(lZ acc rej props k l).1);have h3:=akF s.1 k (lZ acc rej props k l).2;have h4:=V6 acc rej props k l;dsimp only at h1 h2;rw [iw] at h2
  simp only [kS,List.flatMap_cons,iw]
  omega
theorem arR {f:Nat} {l:List bS} (h:l.length<=f):(rE f l).length<=l.length:=by
 obtain ⟨h1,h2⟩:=Hg f l h
 have key:∀ (L:List (Int × List bS)),(∀ q∈L,q.2≠[])->L.length<=(L.flatMap Prod.snd).length:=by
  intro L
  induction L with
  | nil=>intro _;exact kE _
  | cons q L ih =>
   intro hq;have:=ih fun x hx=>hq x (gK _ hx);have h3:=List.length_pos_iff.2 (hq q eT)
   simp only [kS,List.flatMap_cons,iw];omega
 have:=key _ h2
 rwa [h1] at this
theorem PS (h:dJ):mK (iE acc rej h)<=2*mK h:=by
 rw [FM,FM,Yv,Vn,X8,Yv,Vn,X8];obtain ⟨h1,h2⟩:=adX (acc:=acc) (rej:=rej) h.props (rE h.marks.layers.length h.marks.layers) (h.props,[]);have h3:=arR (eu h.marks.layers.length);rw [(Hg _ _ (eu _)).1] at h2;have h4:=List.length_filter_le (fun x:gF=>!rej x.rev) h.marks.bE
 simp only [iE,List.length_nil] at h1 h2 |-
 omega
mutual
theorem ayM:∀ x:ak,bO (mU acc rej x)<=2*(1+bV x.dat)
 | .mk k c i tx h f r=>by
  have hf:=Sd f;have hr:=ajk r;have hh:=PS (acc:=acc) (rej:=rej) h;have e:=wY (.mk k c i tx h f r)
  simp only [ak.text,ak.head,ak.flow,ak.rows] at e
  have one:∀ y:ak,bO [y]=1+bV y.dat:=fun y=>by simp [bO,dU]
  rw [mU]
  split
  ·simp [bO,dU]
  split
  ·rw [one,wY];simp only [ak.text,ak.head,ak.flow,ak.rows];omega
  split
  ·split
   ·simp [bO,dU]
   rw [one,wY];simp only [ak.text,ak.head,ak.flow,ak.rows];omega
  rw [one,wY];simp only [ak.text,ak.head,ak.flow,ak.rows];omega
theorem ayN:∀ x:aS,gJ (oL acc rej x)<=2*(1+bV x.dat)
 | .mk h cs=>by
  have hc:=ajj cs;have hh:=PS (acc:=acc) (rej:=rej) h;have e:=Ai (.mk h cs)
  simp only [aS.head,aS.cells] at e
  rw [oL]
  split
  ·simp [gJ,dU]
  split
  ·simp [gJ,dU]
  simp only [gJ,eZ,sM,dU];rw [Ai];simp only [aS.head,aS.cells];omega
theorem ayL:∀ x:aV,iA (oV acc rej x)<=2*(1+bV x.dat)
 | .mk i h f=>by
  have hf:=Sd f;have hh:=PS (acc:=acc) (rej:=rej) h;have e:=Ah (.mk i h f)
  simp only [aV.head,aV.flow] at e
  rw [oV]
  split
  ·simp [iA,dU]
  simp only [iA,eZ,sM,dU];rw [Ah];simp only [aV.head,aV.flow];omega
theorem Sd:∀ l:List ak,bO (dS acc rej l)<=2*bO l
 | []=>by simp [dS,bO,dU]
 | x :: l=>by
  have h1:=ayM x;have h2:=Sd l;rw [dS,Ov,show bO (x :: l)=1+bV x.dat+bO l by simp [bO,dU]];omega
theorem ajk:∀ l:List aS,gJ (gN acc rej l)<=2*gJ l
 | []=>by simp [gN,gJ,dU]
 | x :: l=>by
  have h1:=ayN x;have h2:=ajk l;rw [gN,show ∀ a b:List aS,gJ (a++b)=gJ a+gJ b from fun a b=>by rw [gJ,kF,KZ],show gJ (x :: l)=1+bV x.dat+gJ l by simp [gJ,dU]];omega
theorem ajj:∀ l:List aV,iA (gD acc rej l)<=2*iA l
 | []=>by simp [gD,iA,dU]
 | x :: l=>by
  have h1:=ayL x;have h2:=ajj l;rw [gD,show ∀ a b:List aV,iA (a++b)=iA a+iA b from fun a b=>by rw [iA,kF,KZ],show iA (x :: l)=1+bV x.dat+iA l by simp [iA,dU]];omega
end
end
theorem zV {G:GH} {α:Type} {f:α->Int} {A:List α} {B:Option Addr} {n c k:Nat} (hv:au G (.sl 1 (A.map fun q=>[li (f q)])) (.slice B n c)) (hk:k < A.length):∃ b o,B=some ⟨b,o,none⟩∧aH G b (o+k)=some (vi (f A[k])):=by
 obtain ⟨b,o,cs,h1,h2,h3,h4⟩:=hv.at_ k [li (f A[k])] (by simp [hk])
 simp only [aY] at h4
 obtain ⟨_,_,rfl,⟨rfl,-⟩,rfl⟩:=h4;exact ⟨b,o,h1,by simpa using h3 0 _ rfl⟩
theorem aos:aQ 114:=aR func114 rfl
theorem aot:aQ 115:=aR func115 rfl
theorem XC {p:Nat->Bool} (hp:∀ h,p h=true->p (h+1)=true):∀ (f i j:Nat),i<=j->j - i<=f->(∀ h,i<=h->h < mP p f i j->p h=false)∧(mP p f i j < j->p (mP p f i j)=true)
 | 0,i,j,h1,h2=>⟨fun h a b=>by simp only [mP] at b;omega,fun h=>by simp only [mP] at h;omega⟩
 | f+1,i,j,h1,h2=>by
  have up:∀ a b,a<=b->p a=true->p b=true:=fun a b hab=>by
   induction hab with
   | refl=>exact fun h=>h
   | step _ ih=>exact fun h=>hp _ (ih h)
  rw [mP]
  by_cases h:i < j
  ·rw [aG h]
   cases hm:p ((i+j) / 2)
   ·rw [av (by simp)];obtain ⟨r1,r2⟩:=XC hp f ((i+j) / 2+1) j (by omega) (by omega);refine ⟨fun q a b=>?_,r2⟩
    by_cases hq:(i+j) / 2+1<=q
    ·exact r1 q hq b
    cases hpq:p q
    ·rfl
    rw [up q _ (by omega) hpq] at hm;cases hm
   rw [aG rfl];obtain ⟨r1,r2⟩:=XC hp f i ((i+j) / 2) (by omega) (by omega);refine ⟨r1,fun _=>?_⟩
   by_cases hq:mP p f i ((i+j) / 2) < (i+j) / 2
   ·exact r2 hq
   have:=QU (p:=p) f i ((i+j) / 2) (by omega);rw [show mP p f i ((i+j) / 2)=(i+j) / 2 by omega];exact hm
  rw [av h];exact ⟨fun q a b=>by omega,fun q=>absurd q h⟩
theorem adf {l:List Int} (hs:l.Pairwise (·<=·)) (t:Int):(∀ h (hh:h < l.length),h < gM l t->l[h] < t)∧∀ hh:gM l t < l.length,t<=l[gM l t]:=by
 -- the test,as if the list went on with its last number
 let p:Nat->Bool:=fun h=>decide (¬ l.getD h 0 < t)
 let p':Nat->Bool:=fun h=>decide (l.length<=h∨¬ l.getD h 0 < t)
 have hpp:∀ (f i j:Nat),j<=l.length->i<=j->mP p f i j=mP p' f i j:=by
  intro f
  induction f with
  | zero=>intro i j _ _;rfl
  | succ f ih =>
   intro i j hj hij;rw [mP,mP]
   by_cases h:i < j
   ·rw [aG h,aG h]
    have e:p ((i+j) / 2)=p' ((i+j) / 2):=by
     show decide _=decide _
     exact decide_eq_decide.2 ⟨.inr,fun h=>h.resolve_left (by omega)⟩
    rw [e,ih _ _ (by omega) (by omega),ih _ _ hj (by omega)]
   rw [av h,av h]
 have hmono:∀ h,p' h=true->p' (h+1)=true:=fun h e=>by
  have e:=pI e;refine nT ?_
  by_cases h1:l.length<=h+1
  ·exact .inl h1
  refine .inr ?_;have e2:=e.resolve_left (by omega);have h3:=List.pairwise_iff_getElem.1 hs h (h+1) (by omega) (by omega) (Nat.lt_succ_self _);rw [List.getD_eq_getElem?_getD,dV (show h < l.length by omega)] at e2;rw [List.getD_eq_getElem?_getD,dV (show h+1 < l.length by omega)]
  simp only [Option.getD_some] at e2 |-
  omega
 obtain ⟨r1,r2⟩:=XC hmono l.length 0 l.length (kE _) (by omega);have hn:gM l t=mP p' l.length 0 l.length:=hpp _ _ _ (eu _) (kE _);rw [<- hn] at r1 r2;refine ⟨fun h hh h1=>?_,fun hh=>?_⟩
 ·have h2:=of_decide_eq_false (r1 h (kE _) h1);rw [List.getD_eq_getElem?_getD,dV hh] at h2
  simp only [Option.getD_some] at h2
  omega
 have h2:=(pI (r2 hh)).resolve_left (by omega);rw [List.getD_eq_getElem?_getD,dV hh] at h2
 simp only [Option.getD_some] at h2
 omega
theorem J4 {l:List Int} (hs:l.Pairwise (·<=·)) (t:Int):oI l t=decide (t∈l):=by
 rw [Ce,qY]
 constructor
 ·intro h;exact lQ (pI h)
 intro h;obtain ⟨k,hk,rfl⟩:=List.getElem_of_mem h;obtain ⟨r1,r2⟩:=adf hs l[k]
 have hkn:gM l l[k]<=k:=by
  by_cases h:gM l l[k]<=k
  ·exact h
  have:=r1 k hk (by omega);omega
 have h2:=r2 (by omega)
 have h3:l[gM l l[k]]<=l[k]:=by
  rcases Nat.lt_or_eq_of_le hkn with h|h
  ·exact List.pairwise_iff_getElem.1 hs _ _ (by omega) hk h
  exact Int.le_of_eq (getElem_congr_idx h)
 exact nT (by rw [dV (by omega:gM l l[k] < l.length)];exact dh some (by omega))
theorem avV (G:GH) (w0:World) (hG:Hold G w0) (x y:Int):Calls prog 114 #[vi x,vi y] w0 (bK w0 G fun u G'=>u=.bool (decide (x < y))∧G=G'):=by
 refine eN [(0,_),(1,_)] func114 rfl ntmps114 rfl rfl hG ?_;intro a H;refine kP H (SR fun _ K1=>aj K1 rfl (SR fun _ K2=>Rm rfl ?_));clear H K1;intro a H;refine s_call Vs H wn rfl (XM _ _ H.ro x) rfl ?_;clear H;rintro v6 G6 a w ⟨rfl,rfl⟩ Cz H;refine kH H (Rm rfl (Sp 7 rfl ?_ ?_)) <;> clear H
 ·intro h7 a H
  cases h7
 intro h7 a H
 refine kH H (bB h7 rfl (Pf h7 rfl (Rm rfl ?_)));clear H;intro a H;(iterate 2 refine FE H (wg H rfl rfl rfl) rfl rfl ?_;clear H;intro a H);refine Fz H (wg H rfl rfl rfl) rfl rfl rfl rfl ?_;clear H;intro a H;exact kH H (Pf rfl rfl (aj K2 rfl (LR results114 rfl fun H=>H.rt ⟨rfl,rfl⟩)))
theorem avG (G:GH) (w0:World) (hG:Hold G w0) (x:Int):Calls prog 115 #[vi x] w0 (bK w0 G fun u G'=>u=.bool false∧G=G'):=by
 refine eN [(0,_)] func115 rfl ntmps115 rfl rfl hG ?_;intro a H;exact kP H (SR fun _ K1=>aj K1 rfl (SR fun _ K2=>Rm rfl (Rm rfl (Rc rfl (aj K2 rfl (LR results115 rfl fun H=>H.rt ⟨by simp,rfl⟩))))))
theorem Uj {p:Prop} (h:p:=by
 first
  | exact H.rt ⟨by rw [agc heq.symm (by omega),<- heq];simp_all [adJ],rfl⟩
  | exact H.rt ⟨by rw [agd heq.symm (by omega),<- heq],rfl⟩):p:=h
theorem ade (G:GH) (w0:World) (hG:Hold G w0) (l:List Int) (t:Int) (v:ah) (hv:au G (.sl 1 (l.map fun k=>[li k])) v) (hl:l.length<=4294967296) :
  Calls prog 62 #[v,vi t] w0 (bK w0 G fun u G'=>u=.tuple #[vi (gM l t),.bool (oI l t)]∧G=G'):=by
 obtain ⟨A,c,rfl,hc1,hc2,-⟩:=hv.slice;rw [bQ] at *;obtain ⟨p,hp⟩:∃ p:Nat->Bool,p=fun h=>decide (¬ l.getD h 0 < t):=⟨_,rfl⟩
 have hbs:gM l t=mP p l.length 0 l.length:=by rw [hp,gM]
 refine eN [(0,_),(1,_)] func62 rfl ntmps62 rfl rfl hG ?_;intro a H;refine kP H (SR fun _ K1=>Ra rfl (aj K1 rfl (SR fun _ K2=>Rm rfl (Rl iG rfl (aj K2 rfl (SR fun _ K3=>Rm rfl (Ra rfl (aj K3 rfl (SQ fun _ K4=>SB ?_)))))))));clear H K1 K2 K3;intro a H;skip;refine eX (ι:=Nat × Nat × Nat) (Tc:=[(0,_),(1,_),(6,_)]) (Lc:=[]) (fun gh=>[(7,vi gh.1),(8,vi gh.2.1)]) (fun gh=>[]) (fun gh=>G) (fun gh=>gh.1<=gh.2.1∧gh.2.1<=l.length∧gh.2.1 - gh.1<=gh.2.2∧mP p gh.2.2 gh.1 gh.2.1=gM l t) (fun gh=>gh.2.1 - gh.1) ((0,l.length,l.length)) (by exact H.sub ⟨rfl,rfl,rfl,rfl,rfl,aB⟩) ?_ ?_
 ·exact ⟨kE _,eu _,Nat.sub_le _ _,hbs.symm⟩
 clear H;rintro ⟨i,j,f⟩ a w hI H;dsimp only at hI H;obtain ⟨hij,hj,hf1,heq⟩:=hI;dsimp only [lca,bJ] at H;refine kP H (SQ fun _ K5=>SR fun _ K6=>Rm rfl (Rm rfl (Rc rfl (Kz K6 (Cd rfl ?_ ?_))))) <;> clear H K6
 ·intro jK a H
  try have tu:=dT jK
  have hlt:i < j:=by omega
  rw [XD hf1 hlt] at heq;obtain ⟨m,hm⟩:∃ m,m=(i+j) / 2:=⟨_,rfl⟩;rw [<- hm] at heq
  have hml:m < l.length:=by omega
  obtain ⟨b,o,rfl,hrow⟩:=zV (f:=fun q=>q) hv hml
  replace hrow:aH G b (o+m*1)=some (vi l[m]):=by rw [Nat.mul_one];exact hrow
  have hpm:p m=decide (¬ l[m] < t):=by rw [hp];simp [List.getD,hml]
  rw [hpm] at heq;refine kP H (Kc K5 (SB (SR fun _ K7=>Rm rfl (Rm rfl (Rd rfl ?_)))));clear H K5;intro a H;rw [show ((i:Int)+(j:Int))=((i+j:Nat):Int) by push_cast;rfl] at H;refine CV ((i+j:Nat):Int) Lg mh H wn rfl (XE (by omega) (by omega)) rfl ?_;clear H;intro a H;refine Sq _ H wn rfl rfl rfl (by decide) rfl ?_;clear H;intro a H;rw [XB,<- hm] at H;refine CV (m:Int) mh Lg H wn rfl (Il (by omega) (by omega)) rfl ?_;clear H;intro a H;refine kH H (aj K7 rfl (SR fun _ K8=>Rm rfl (Rm rfl (Ri iG aC rfl rfl (Rg aC rfl (by assumption) ?_)))));clear H K7;intro a H;refine kH H (Rm rfl ?_);clear H;intro a H;refine s_call aos H wn rfl (avV _ _ H.ro l[m] t) rfl ?_;clear H;rintro v27 ZR a w ⟨rfl,rfl⟩ agE H;refine K8 _ _ ?_;clear K8;refine jS H rfl ?_ ?_
  ·intro h27
   try have p27:=dT h27
   rw [av (by simpa using p27)] at heq;refine kP H (SC (Rm rfl (Rd rfl (Ra rfl ?_))));clear H;intro a H;refine aD ?_;refine dG ((m+1,j,f - 1)) (by exact H.sub ⟨rfl,rfl,rfl,rfl,rfl,aB⟩) ?_
   (try dsimp only);exact ⟨by omega,hj,by omega,heq⟩
  intro h27
  try have p27:=dF h27
  rw [aG (by simpa using p27)] at heq;refine kP H (SC (Rm rfl (Ra rfl ?_)));clear H;intro a H;refine aD ?_;refine dG ((i,m,f - 1)) (by exact H.sub ⟨rfl,rfl,rfl,rfl,rfl,aB⟩) ?_
  (try dsimp only);exact ⟨by omega,by omega,by omega,heq⟩
 intro jK a H
 try have tu:=dF jK
 refine dP ?_;refine K4 _ _ ?_;clear K4;refine bD (fun _ K9=>?_);rw [XA (by omega)] at heq;refine kP H (SC (Rm rfl (Rm rfl (Rm rfl (Rc rfl (Rm rfl (Sp 35 rfl ?_ ?_))))))) <;> clear H
 ·intro gX a H
  try have p35:=dT gX
  have hil:i < l.length:=by omega
  obtain ⟨b,o,rfl,hrow⟩:=zV (f:=fun q=>q) hv hil
  replace hrow:aH G b (o+i*1)=some (vi l[i]):=by rw [Nat.mul_one];exact hrow
  refine kH H (YM gX rfl (YM gX rfl (YI iG aC gX rfl rfl (YR aC gX rfl (by assumption) ?_))));clear H;intro a H;refine kH H (YM gX rfl (YC gX rfl (YM gX rfl (Sp 42 rfl ?_ ?_)))) <;> clear H
  ·intro jM a H
   try have p42:=dT jM
   refine kH H (bB jM rfl (bB jM rfl (Ku rfl (Ku rfl (Ks jM rfl (PT gX jM rfl (Pt gX rfl (Ra rfl (aX K9 rfl ?_)))))))));clear H K9;intro a H;refine eO ?_;refine (jU H results62 (.cons (fu H rfl) (.cons (fu H rfl) .nil)) ?_).1
   exact Uj
  intro jM a H
  try have p42:=dF jM
  refine kH H (YM jM rfl (YM jM rfl (YI iG aC jM rfl rfl (YR aC jM rfl (by assumption) ?_))));clear H;intro a H;refine s_call aot H (wg H rfl rfl jM) rfl (avG _ _ H.ro l[i]) rfl ?_;clear H;rintro v47 G47 a w ⟨rfl,rfl⟩ aCp H;refine kH H (YM jM rfl (Sp 48 rfl ?_ ?_)) <;> clear H
  ·intro h48 a H
   cases h48
  intro h48 a H
  try have p48:=dF h48
  refine kH H (aP h48 rfl (PF jM h48 rfl (PF gX jM rfl (Pt gX rfl (Ra rfl (aX K9 rfl ?_))))));clear H K9;intro a H;refine eO ?_;refine (jU H results62 (.cons (fu H rfl) (.cons (fu H rfl) .nil)) ?_).1
  exact Uj
 intro gX a H
 try have p35:=dF gX
 refine kH H (bB gX rfl (aP gX rfl (aP gX rfl (Ku rfl (Ku rfl (Ku rfl (Ku rfl (Ku rfl (Ku rfl (Ku rfl (Ku rfl (Ku rfl (Ks gX rfl (Pf gX rfl (Ra rfl (aX K9 rfl ?_))))))))))))))));clear H K9;intro a H;refine eO ?_;refine (jU H results62 (.cons (fu H rfl) (.cons (fu H rfl) .nil)) ?_).1
 exact Uj
end Go.Proofs.YtdiflmikikiedaaGreat
