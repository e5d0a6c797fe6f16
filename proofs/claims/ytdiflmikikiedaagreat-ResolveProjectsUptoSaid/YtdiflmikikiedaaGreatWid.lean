/-
  What the claim stands on, part 4: Hdr Hea Frm Itc Vis Okd Rws Itm Its Rvs Chd Ck13 Nf Vc Ubf Av16 Frs Hds Np13 Nq13 Rs24 Iat Bi13 Mk24.
-/
import Derived.Test.YtdiflmikikiedaaGreatWic
namespace Go.Proofs.YtdiflmikikiedaaGreat
set_option linter.all false
open Go.Proofs.Tryz
open Go.RowKit
section
theorem P9:dX prog 161 0 0:=⟨by kernel_rfl⟩
theorem yK:dX prog 161 1 1:=⟨by kernel_rfl⟩
theorem Qa:dX prog 161 3 3:=⟨by kernel_rfl⟩
theorem EM:dX prog 161 2 2:=⟨by kernel_rfl⟩
theorem UQ:aQ 130:=aR func130 rfl
variable {us:List Int}
structure bC where
 st:List bY
 nH:List Int
 kM:List Int
 us:List Int
abbrev bL (us:List Int) (st:List bY) (li:List fD) (rv:List bV):bC:=⟨st,li.map fD.id,rv.map bV.id,us⟩
theorem Fv {G:GH} {l:List bZ} {A:Option Addr} {n c k:Nat} (hv:ak G (.sl 4 (l.map bZ.dat)) (.slice A n c)) (hk:k < l.length):∃ b o,A=some ⟨b,o,none⟩∧(∀ j u,l[k].cells[j]?=some u->aI G b (o+k*4+j)=some u):=by
 obtain ⟨A',c',he,_,_,hg⟩:=hv.slice
 injection he with e1 e2 e3
 subst e1;obtain ⟨b,o,cs,h1,h2,h3,h4⟩:=hg k l[k].dat (by simp [hk]);have:=XA h4;subst this;exact Gm
theorem PZ {G:GH} {l:List gJ} {A:Option Addr} {n c k:Nat} (hv:ak G (.sl 2 (l.map gJ.dat)) (.slice A n c)) (hk:k < l.length):∃ b o,A=some ⟨b,o,none⟩∧(∀ j u,l[k].cells[j]?=some u->aI G b (o+k*2+j)=some u):=by
 obtain ⟨A',c',he,_,_,hg⟩:=hv.slice
 injection he with e1 e2 e3
 subst e1;obtain ⟨b,o,cs,h1,h2,h3,h4⟩:=hg k l[k].dat (by simp [hk]);have:=Ms h4;subst this;exact Gm
def wX (C:bC) (e:Int) (k:Nat) (x:bZ) (pk:Int):Int :=
 if x.rev∉C.kM then 22 else if wL e x.key=false then 4 else if 0 < k∧x.key < pk then 6 else if x.had=false then dG (decide (x.before≠0)) 21 else dS [uN x.key x.before,yh C.st C.nH x.key x.before]
def xW (C:bC) (e:Int) (l:List bZ) (k:Nat):Int:=match l[k]? with|some x=>wX C e k x ((l[k - 1]?.map bZ.key).getD 0)|none=>0
theorem asE (G:GH) (w0:World) (hG:Hold G w0) (st:List bY) (li:List fD) (rv:List bV) (b ms ml mr mb mu:Nat) (n:Int) (hck:xA us G st li rv ms ml mr mu) (hb:G b=some (gW b ms ml mr mb mu n).2)
  (e:Int) (l:List bZ) (v:ah) (hv:ak G (.sl 4 (l.map bZ.dat)) v) (k:Nat) (hk:k < l.length) :
  Calls prog 132 #[(aK b 0),vi e,v,vi k] w0 (bE w0 G fun u G'=>u=vi (xW (bL us st li rv) e l k)):=by
 have hc2:aI G b 2=some (.map (some mr)):=by unfold aI;rw [hb];rfl
 obtain ⟨A,c,rfl,hl1,hl2,-⟩:=hv.slice;have hml:maxLen=9223372036854775807:=rfl;rw [bQ] at *;obtain ⟨xb,xo,rfl,hrow⟩:=Fv hv hk
 have hk1:k - 1 < l.length:=by omega
 obtain ⟨b',o',he',hrow'⟩:=Fv hv hk1
 injection he' with he'
 injection he' with e1 e2
 subst e1;subst e2
 have he:xW (bL us st li rv) e l k=wX (bL us st li rv) e k l[k] l[k - 1].key:=by unfold xW;rw [eD hk,eD hk1];rfl
 obtain ⟨x,hx⟩:∃ x,x=l[k]:=⟨_,rfl⟩;obtain ⟨y,hy⟩:∃ y,y=l[k - 1]:=⟨_,rfl⟩;rw [<- hx] at hrow he;rw [<- hy] at hrow' he;have hq:=hrow' 1 _ rfl;refine eN [(0,_),(1,_),(2,_),(3,_)] func132 rfl ntmps132 rfl rfl hG ?_;intro a H;refine kP H (SR fun _ K1=>aj K1 rfl (SR fun _ K2=>Rm rfl (Rm rfl (Ri kW jB rfl rfl ?_))));clear H K1;intro a H;refine aV jB (cs:=x.cells) H wn rfl rfl (fun j v hj=>H.hp.aI (hrow j v hj)) rfl ?_;clear H;intro a H;refine dP jB H wn rfl ?_;clear H;intro b9 a w wR H;refine bK jB 0 (vs:=[_,_,_,_]) H wn rfl ?_;clear H;intro w H;refine K2 _ _ ?_;clear K2;refine kP H (SQ fun _ K3=>SB (SQ fun _ K4=>?_));clear H;intro a H;refine dI hmx [[],[0],[0,1],[0,1,2],[],[4],ra 0 6,ra 0 7,ra 0 8] [8] (by kernel_rfl) [_,_,_,_,_,vi x.rev,.bool (decide (x.rev∈rv.map bV.id)),_] H (aC (Z0 rfl (Rm rfl)) (Z1 0 15 rfl (Rk rfl)) (Z1 1 16 rfl (Rf MB rfl)) (X1 2 17 rfl fun hG=>Rg vk rfl (aF hG hc2)) (aC (Z0 rfl (Rf P9 rfl)) (Z1 4 19 rfl (Ro aG 0 rfl)) ?_ (Z1 6 21 rfl (Rn rfl)) (bP (bU rfl) dH))) ?_
 ·refine dO 3 18 5 20 rfl rfl fun _ a w G1 hG HT H fin=>?_;refine Br (zv:=.bool false) yC mJ (by kernel_rfl) H wn rfl rfl (H.ro _ _ (hG _ _ hck.rev)) rfl ?_;clear H;intro a H;rw [Fx] at H;exact dZ
 clear H;intro a w G DN H hv;have H:=H.aN (hv 7 22 rfl rfl) rfl;clear hv;refine kH H (Ra rfl ?_);clear H;intro a H;refine aB ⟨rfl,?_⟩;refine K4 _ _ ?_;clear K4;refine jr H rfl ?_ ?_
 ·intro dU
  try have kU:=dT dU
  refine kP H (SR fun _ K5=>aj K5 rfl ?_);clear H K5;intro a H;refine lr H results132 rfl ?_
  exact H.rt (by rw [he];refine cO vi ?_;clear he hrow hrow' hq hx hy;unfold wX;(repeat' split) <;> first|rfl|(simp_all;done)|(exfalso;simp_all;done))
 intro dU
 try have kU:=dF dU
 refine kP H (SR fun _ K6=>Rm rfl (bO yK aG 0 rfl rfl ?_));clear H;intro a H;refine s_call acf H wn rfl (aan (acU _ _ H.ro e x.key)) rfl ?_;clear H;rintro v27 _ a w ⟨⟨_,rfl⟩,rfl⟩ - H;refine kH H (Rn rfl (aj K6 rfl (Cd rfl ?_ ?_))) <;> clear H K6
 ·intro h23 a H
  try have Bp:=dT h23
  refine kP H (SR fun _ K7=>aj K7 rfl ?_);clear H K7;intro a H;refine lr H results132 rfl ?_
  exact H.rt (by rw [he];refine cO vi ?_;clear he hrow hrow' hq hx hy;unfold wX;(repeat' split) <;> first|rfl|(simp_all;done)|(exfalso;simp_all;done))
 intro h23 a H
 try have Bp:=dF h23
 refine bR (fun _ K8=>?_);replace hq:=aF DN hq
 by_cases c0:0 < (k:Int)
 ·skip
  by_cases c1:x.key < y.key
  ·skip;refine dI hmx [[],[0],[0,1],[0,1,2],ra 0 4,[0,1,2],[0,1,2],[0,1,2,6],[0,1,2,5,6,7],[0,1,2,5,6,7,8],[0,1,2,5,6,7,8,9],ra 0 11,ra 0 12,ra 0 13] [13] (by kernel_rfl) [_,_,_,_,vi x.key,_,_,vi ((k - 1:Nat):Int),_,_,_,_,_] H (aC (Z0 rfl (Rm rfl)) (Z1 0 30 rfl (Rc rfl)) (Z1 1 31 rfl (Rm rfl)) (Z1 2 32 rfl (YF yK (aH c0) rfl)) (aC (Z2 3 33 2 32 rfl (YO aG 0 (aH c0) rfl)) (Z1 2 32 rfl (YM (aH c0) rfl)) (Z1 2 32 rfl (YM (aH c0) rfl)) ?_ (aC (Z3 5 35 7 37 2 32 rfl (YI kW jB (aH c0) rfl rfl)) (Z2 8 38 2 32 rfl (YF yK (aH c0) rfl)) (X2 9 39 2 32 rfl fun hG=>YR aG (aH c0) rfl (aF hG hq)) (Z3 4 34 10 40 2 32 rfl (YC (aH c0) rfl)) (bP (Z2 2 32 11 41 rfl (Pt (aH c0) rfl)) (bP (bU rfl) dH))))) ?_
   ·refine dO 6 36 2 32 rfl rfl fun _ a w G1 hG HT H fin=>?_;refine nL _ H (wg H rfl rfl (aH c0)) rfl rfl rfl (by omega) (by omega) rfl ?_;clear H;intro a H;exact qF
   clear H;intro a w G jU H hv;have H:=H.aN (hv 12 42 rfl rfl) rfl;clear hv;refine kH H (Ra rfl ?_);clear H;intro a H;refine aB ⟨rfl,?_⟩;refine K8 _ _ ?_;clear K8;refine Ce H rfl (aH c1) ?_;refine bR (fun _ K9=>?_);have hz:0 < k∧x.key < y.key:=⟨by omega,c1⟩;refine kP H (SC (bG K9 rfl ?_));clear H K9;intro a H;refine lr H results132 rfl ?_
   exact H.rt (by rw [he];refine cO vi ?_;clear he hrow hrow' hq hx hy;unfold wX;(repeat' split) <;> first|rfl|(simp_all;done)|(exfalso;simp_all;done))
  skip;refine dI hmx [[],[0],[0,1],[0,1,2],ra 0 4,[0,1,2],[0,1,2],[0,1,2,6],[0,1,2,5,6,7],[0,1,2,5,6,7,8],[0,1,2,5,6,7,8,9],ra 0 11,ra 0 12,ra 0 13] [13] (by kernel_rfl) [_,_,_,_,vi x.key,_,_,vi ((k - 1:Nat):Int),_,_,_,_,_] H (aC (Z0 rfl (Rm rfl)) (Z1 0 30 rfl (Rc rfl)) (Z1 1 31 rfl (Rm rfl)) (Z1 2 32 rfl (YF yK (aH c0) rfl)) (aC (Z2 3 33 2 32 rfl (YO aG 0 (aH c0) rfl)) (Z1 2 32 rfl (YM (aH c0) rfl)) (Z1 2 32 rfl (YM (aH c0) rfl)) ?_ (aC (Z3 5 35 7 37 2 32 rfl (YI kW jB (aH c0) rfl rfl)) (Z2 8 38 2 32 rfl (YF yK (aH c0) rfl)) (X2 9 39 2 32 rfl fun hG=>YR aG (aH c0) rfl (aF hG hq)) (Z3 4 34 10 40 2 32 rfl (YC (aH c0) rfl)) (bP (Z2 2 32 11 41 rfl (Pt (aH c0) rfl)) (bP (bU rfl) dH))))) ?_
  ·refine dO 6 36 2 32 rfl rfl fun _ a w G1 hG HT H fin=>?_;refine nL _ H (wg H rfl rfl (aH c0)) rfl rfl rfl (by omega) (by omega) rfl ?_;clear H;intro a H;exact qF
  clear H;intro a w G jU H hv;have H:=H.aN (hv 12 42 rfl rfl) rfl;clear hv;refine kH H (Ra rfl ?_);clear H;intro a H;refine aB ⟨rfl,?_⟩;refine K8 _ _ ?_;clear K8;refine sS H rfl (aY c1) ?_;refine bR (fun _ aS=>?_)
  have hz:¬ (0 < k∧x.key < y.key):=by first|exact fun h=>c1 h.2|exact fun h=>c0 (by omega)
  refine kP H (SC (bO Qa C8 0 rfl rfl (Rn rfl (bG aS rfl (Cd rfl ?_ ?_))))) <;> clear H aS
  ·intro h43 a H
   try have p43:=dT h43
   refine kP H (SR fun _ bH=>bO EM aG 0 rfl rfl (Rc rfl ?_));clear H;intro a H;refine s_call kr H wn rfl (kF _ _ H.ro _ 21) rfl ?_;clear H;rintro v50 _ a w ⟨rfl,rfl⟩ - H;refine kH H (aj bH rfl ?_);clear H bH;intro a H;refine lr H results132 rfl ?_
   exact H.rt (by rw [he];refine cO vi ?_;clear he hrow hrow' hq hx hy;unfold wX;(repeat' split) <;> first|rfl|(simp_all;done)|(exfalso;simp_all;done))
  intro h43 a H
  try have p43:=dF h43
  refine iG ?_;refine K3 _ _ ?_;clear K3;refine bR (fun _ bT=>?_);replace hck:=(hck.mono DN).mono jU;replace hb:=jU _ _ (DN _ _ hb);refine dI hmx [[],[0],[],[2],ra 0 4,[],[],[6],[],[8],ra 0 10,ra 0 11,ra 0 12,ra 0 13] [11,12,13] (by kernel_rfl) [_,vi x.key,_,vi x.before,vi (uN x.key x.before),_,_,vi x.key,_,vi x.before,vi (yh st (li.map fD.id) x.key x.before)] H (aC (Z0 rfl (Rf yK rfl)) (Z1 0 51 rfl (Ro aG 0 rfl)) (Z0 rfl (Rf EM rfl)) (Z1 2 53 rfl (Ro aG 0 rfl)) (aC ?_ (Z0 rfl (Rm rfl)) (Z0 rfl (Rf yK rfl)) (Z1 6 57 rfl (Ro aG 0 rfl)) (aC (Z0 rfl (Rf EM rfl)) (Z1 8 59 rfl (Ro aG 0 rfl)) ?_ (bU rfl) (bP (bU rfl) (bP (bU rfl) dH))))) ?_
  ·refine dO 1 52 3 54 rfl rfl fun _ a w G1 hG HT H fin=>?_;refine s_call U3 H wn rfl (Uq _ _ H.ro x.key x.before) rfl ?_;clear H;rintro v55 Ja a w rfl MQ H;exact fin H MQ (rfl)
  ·refine zy 5 56 7 58 9 60 rfl rfl fun _ a w G1 hG HT H fin=>?_;refine s_call UQ H wn rfl (Uu _ _ H.ro st li rv b ms ml mr mb mu n x.key x.before (hck.mono hG) (hG _ _ hb)) rfl ?_;clear H;rintro v61 G61 a w ⟨rfl,-⟩ V4 H;exact fin H V4 (rfl)
  clear H;intro a w G tq H hv;have H:=H.aN (hv 4 55 rfl rfl) rfl;have H:=H.aN (hv 10 61 rfl rfl) rfl;clear hv;refine iV rQ iQ [_,_] [_,_] H wn rfl rfl rfl rfl rfl (by intro i q h;match i,h with|0,h=>exact h|1,h=>exact h|n+2,h=>simp at h) rfl rfl ?_;clear H;intro b62 a w apX H;obtain ⟨ZA,aqR,Wq,H⟩:=H.fO;refine s_call sU H wn rfl (sW _ _ H.ro _ _ (zZ Wq)) rfl ?_;clear H;rintro v63 _ a w ⟨rfl,rfl⟩ - H;refine kH H (Ra rfl ?_);clear H;intro a H;refine aB ⟨rfl,?_⟩;refine bT _ _ ?_;clear bT;refine lr H results132 rfl ?_
  exact H.rt (by rw [he];refine cO vi ?_;clear he hrow hrow' hq hx hy;unfold wX;(repeat' split) <;> first|rfl|(simp_all;done)|(exfalso;simp_all;done))
 skip;refine dI hmx [[],[0],[0,1],[0,1,2],ra 0 4,[0,1,2],[0,1,2],[0,1,2,6],[0,1,2,5,6,7],[0,1,2,5,6,7,8],[0,1,2,5,6,7,8,9],ra 0 11,ra 0 12,ra 0 13] [13] (by kernel_rfl) [_,_,_,undef,undef,undef,undef,undef,undef,undef,undef,undef,_] H (aC (Z0 rfl (Rm rfl)) (Z1 0 30 rfl (Rc rfl)) (Z1 1 31 rfl (Rm rfl)) (aZ 2 (aY c0) rfl rfl) (aC (aZ 2 (aY c0) rfl rfl) (aZ 2 (aY c0) rfl rfl) (aZ 2 (aY c0) rfl rfl) (aZ 2 (aY c0) rfl rfl) (aC (aZ 2 (aY c0) rfl rfl) (aZ 2 (aY c0) rfl rfl) (aZ 2 (aY c0) rfl rfl) (aZ 2 (aY c0) rfl rfl) (bP (Z2 2 32 11 41 rfl (Pf (aY c0) rfl)) (bP (bU rfl) dH))))) ?_
 clear H;intro a w G jU H hv;have H:=H.aN (hv 12 42 rfl rfl) rfl;clear hv;refine kH H (Ra rfl ?_);clear H;intro a H;refine aB ⟨rfl,?_⟩;refine K8 _ _ ?_;clear K8;refine sS H rfl rfl ?_;refine bR (fun _ cK=>?_)
 have hz:¬ (0 < k∧x.key < y.key):=by first|exact fun h=>c1 h.2|exact fun h=>c0 (by omega)
 refine kP H (SC (bO Qa C8 0 rfl rfl (Rn rfl (bG cK rfl (Cd rfl ?_ ?_))))) <;> clear H cK
 ·intro h43 a H
  try have p43:=dT h43
  refine kP H (SR fun _ dB=>bO EM aG 0 rfl rfl (Rc rfl ?_));clear H;intro a H;refine s_call kr H wn rfl (kF _ _ H.ro _ 21) rfl ?_;clear H;rintro v50 _ a w ⟨rfl,rfl⟩ - H;refine kH H (aj dB rfl ?_);clear H dB;intro a H;refine lr H results132 rfl ?_
  exact H.rt (by rw [he];refine cO vi ?_;clear he hrow hrow' hq hx hy;unfold wX;(repeat' split) <;> first|rfl|(simp_all;done)|(exfalso;simp_all;done))
 intro h43 a H
 try have p43:=dF h43
 refine iG ?_;refine K3 _ _ ?_;clear K3;refine bR (fun _ eU=>?_);replace hck:=(hck.mono DN).mono jU;replace hb:=jU _ _ (DN _ _ hb);refine dI hmx [[],[0],[],[2],ra 0 4,[],[],[6],[],[8],ra 0 10,ra 0 11,ra 0 12,ra 0 13] [11,12,13] (by kernel_rfl) [_,vi x.key,_,vi x.before,vi (uN x.key x.before),_,_,vi x.key,_,vi x.before,vi (yh st (li.map fD.id) x.key x.before)] H (aC (Z0 rfl (Rf yK rfl)) (Z1 0 51 rfl (Ro aG 0 rfl)) (Z0 rfl (Rf EM rfl)) (Z1 2 53 rfl (Ro aG 0 rfl)) (aC ?_ (Z0 rfl (Rm rfl)) (Z0 rfl (Rf yK rfl)) (Z1 6 57 rfl (Ro aG 0 rfl)) (aC (Z0 rfl (Rf EM rfl)) (Z1 8 59 rfl (Ro aG 0 rfl)) ?_ (bU rfl) (bP (bU rfl) (bP (bU rfl) dH))))) ?_
 ·refine dO 1 52 3 54 rfl rfl fun _ a w G1 hG HT H fin=>?_;refine s_call U3 H wn rfl (Uq _ _ H.ro x.key x.before) rfl ?_;clear H;rintro v55 Ja a w rfl MQ H;exact fin H MQ (rfl)
 ·refine zy 5 56 7 58 9 60 rfl rfl fun _ a w G1 hG HT H fin=>?_;refine s_call UQ H wn rfl (Uu _ _ H.ro st li rv b ms ml mr mb mu n x.key x.before (hck.mono hG) (hG _ _ hb)) rfl ?_;clear H;rintro v61 G61 a w ⟨rfl,-⟩ V4 H;exact fin H V4 (rfl)
 clear H;intro a w G tq H hv;have H:=H.aN (hv 4 55 rfl rfl) rfl;have H:=H.aN (hv 10 61 rfl rfl) rfl;clear hv;refine iV rQ iQ [_,_] [_,_] H wn rfl rfl rfl rfl rfl (by intro i q h;match i,h with|0,h=>exact h|1,h=>exact h|n+2,h=>simp at h) rfl rfl ?_;clear H;intro b62 a w apX H;obtain ⟨ZA,aqR,Wq,H⟩:=H.fO;refine s_call sU H wn rfl (sW _ _ H.ro _ _ (zZ Wq)) rfl ?_;clear H;rintro v63 _ a w ⟨rfl,rfl⟩ - H;refine kH H (Ra rfl ?_);clear H;intro a H;refine aB ⟨rfl,?_⟩;refine eU _ _ ?_;clear eU;refine lr H results132 rfl ?_
 exact H.rt (by rw [he];refine cO vi ?_;clear he hrow hrow' hq hx hy;unfold wX;(repeat' split) <;> first|rfl|(simp_all;done)|(exfalso;simp_all;done))
end
section
theorem KW:Ty prog 123 1 8 [.pointer none] false:=⟨by kernel_rfl,by kernel_rfl⟩
theorem alm:aQ 132:=aR func132 rfl
theorem Eo:Ty prog 27 4 64 [.int .i64 0,.int .i64 0,.slice none 0 0,.slice none 0 0] true:=⟨by kernel_rfl,by kernel_rfl⟩
theorem EL:dX prog 159 0 0:=⟨by kernel_rfl⟩
theorem acL:dX prog 159 1 1:=⟨by kernel_rfl⟩
theorem alk:aQ 131:=aR func131 rfl
variable {us:List Int}
theorem asC {G:GH} {st:List bY} {li:List fD} {rv:List bV} {b ms ml mr mb mu:Nat} {n:Int} (hck:xA us G st li rv ms ml mr mu) (hb:G b=some (gW b ms ml mr mb mu n).2)
  {x3 x4 Zc:Nat} {e:Int} {l:List bZ} {v:ah} (h3:aI G x3 0=some (aK b 0)) (h4:aI G x4 0=some (vi e)) (h11:aI G Zc 3=some v) (hv:ak G (.sl 4 (l.map bZ.dat)) v) :
  vC (.func (.func 131) #[] #[(aK x3 0),(aK x4 0),(aK Zc 0)]) G l.length (xW (bL us st li rv) e l):=by
 intro k hk G1 w0 hm hG;refine jv (caps:=[(aK x3 0),(aK x4 0),(aK Zc 0)]) alk ?_;replace h3:=aF hm h3;replace h4:=aF hm h4;replace h11:=aF hm h11;replace hv:=hv.mono hm;obtain ⟨vA,vn,vc,rfl⟩:=hv.form;refine eN [(0,_),(1,_),(2,_),(3,_)] func131 rfl ntmps131 rfl rfl hG ?_;intro a H;refine kP H (SR fun _ K1=>aj K1 rfl (SR fun _ K2=>Rg KW rfl (by assumption) ?_));clear H K1;intro a H;refine kH H (Rg aG rfl (by assumption) ?_);clear H;intro a H;refine kH H (Rf Av rfl (Rg Bu rfl (by assumption) ?_));clear H;intro a H;refine kH H (Rm rfl ?_);clear H;intro a H;refine s_call alm H wn rfl (asE _ _ H.ro st li rv b ms ml mr mb mu n (hck.mono hm) (hm _ _ hb) e l _ hv k hk) rfl ?_;clear H;rintro v11 uG a w rfl DU H;exact kH H (aj K2 rfl (LR results131 rfl fun H=>H.rt rfl))
def ze (C:bC) (l:List aL):Int:=dS (l.map fun p=>yh C.st C.nH p.key p.value)
def jW (C:bC) (m:zx):Int:=if m.ins≠0∧m.ins∉C.kM then 22 else if ¬ (0<=m.move∧m.move<=1073741824)∨(m.move≠0∧m.ins=0) then 21 else if 16 < (m.bJ.length:Int) then 9 else 0
def uQ (C:bC) (k:Nat) (x:gJ) (pr:Int):Int:=if x.rev∉C.kM then 22 else if 0 < k∧x.rev<=pr then 6 else if ¬ (0<=x.move∧x.move<=1073741824) then 21 else 0
def uh (C:bC) (l:List gJ) (k:Nat):Int:=match l[k]? with|some x=>uQ C k x ((l[k - 1]?.map gJ.rev).getD 0)|none=>0
def iM (C:bC) (e:Int) (h:dN):Int:=dS [qW e h.props,ze C h.props,jW C h.marks,iW (uh C h.marks.bJ) h.marks.bJ.length,dG (decide (64 < (h.marks.layers.length:Int))) 9,iW (xW C e h.marks.layers) h.marks.layers.length]
theorem aqu {C:bC} {e:Int} {h:dN} (h1:qW e h.props≠0):iM C e h=qW e h.props:=by simp [iM,dS,h1]
theorem aqv {C:bC} {e:Int} {h:dN} (h1:qW e h.props=0) (h2:ze C h.props≠0):iM C e h=ze C h.props:=by simp [iM,dS,h1,h2]
theorem DR {C:bC} {e:Int} {h:dN} (h1:qW e h.props=0) (h2:ze C h.props=0) (h3:jW C h.marks≠0):iM C e h=jW C h.marks:=by simp [iM,dS,h1,h2,h3]
theorem aqw {C:bC} {e:Int} {h:dN} (h1:qW e h.props=0) (h2:ze C h.props=0) (h3:jW C h.marks=0) (h4:iW (uh C h.marks.bJ) h.marks.bJ.length≠0):iM C e h=iW (uh C h.marks.bJ) h.marks.bJ.length:=by simp [iM,dS,h1,h2,h3,h4]
theorem aqx {C:bC} {e:Int} {h:dN} (h1:qW e h.props=0) (h2:ze C h.props=0) (h3:jW C h.marks=0) (h4:iW (uh C h.marks.bJ) h.marks.bJ.length=0) (h5:64 < (h.marks.layers.length:Int)):iM C e h=9:=by simp [iM,dS,h1,h2,h3,h4,dG,h5]
theorem aqy {C:bC} {e:Int} {h:dN} (h1:qW e h.props=0) (h2:ze C h.props=0) (h3:jW C h.marks=0) (h4:iW (uh C h.marks.bJ) h.marks.bJ.length=0) (h5:¬ 64 < (h.marks.layers.length:Int)):iM C e h=iW (xW C e h.marks.layers) h.marks.layers.length:=by simp [iM,dS,h1,h2,h3,h4,dG,h5];exact Eq.symm
theorem agl {C:bC} {l:List aL} {k:Nat} (h:k < l.length):dS ((l.map fun p=>yh C.st C.nH p.key p.value).drop k)=if yh C.st C.nH l[k].key l[k].value≠0 then yh C.st C.nH l[k].key l[k].value else dS ((l.map fun p=>yh C.st C.nH p.key p.value).drop (k+1)):=by
 rw [Qi (by simpa using h)];simp
theorem aaC {p:Prop} (h:p:=by
 exact fin H iJ (by show _=_;first|rfl|exact gK decide_not.symm)):p:=h
theorem aaD {p:Prop} (h:p:=by
 exact ⟨by omega,by rw [Gg hk2,av (by rw [hde];simpa using adH)] at heq;exact heq,hGk⟩):p:=h
theorem aqz (G:GH) (w0:World) (hG:Hold G w0) (st:List bY) (li:List fD) (rv:List bV) (b ms ml mr mb mu:Nat) (n:Int) (hck:xA us G st li rv ms ml mr mu) (hb:G b=some (gW b ms ml mr mb mu n).2)
  (e:Int) (h:dN) (p d l:ah) (hh:jq G h p d l) (hz:mW h<=4294967296) :
  Calls prog 70 #[(aK b 0),vi e,sj h p d l] w0 (bE w0 G fun u G'=>u=vi (iM (bL us st li rv) e h)):=by
 obtain ⟨pA,pc,rfl,-,-,-⟩:=hh.props.slice;obtain ⟨dA,dc,rfl,-,-,-⟩:=hh.bJ.slice;obtain ⟨lA,lc,rfl,-,-,-⟩:=hh.layers.slice;have hml:maxLen=9223372036854775807:=rfl;have hzz:=FR h;have hz1:=qL (h.props.map aL.dat);have hz2:=qL (h.marks.bJ.map gJ.dat);have hz3:=qL (h.marks.layers.map bZ.dat)
 simp only [bQ] at hh hz1 hz2 hz3 |-
 generalize mW h=zz at hz hzz
 refine eN [(0,_),(1,_),(2,_)] func70 rfl ntmps70 rfl rfl hG ?_;intro a H;refine dz (fun _ K1=>?_);refine eB (cs:=[_]) H wn rfl rfl rfl ?_;clear H;intro b3 a w hb3 H;refine eB (cs:=[_]) H wn rfl rfl rfl ?_;clear H;intro b4 a w hb4 H;refine eB (cs:=[_,_,_,_,_]) H wn rfl rfl rfl ?_;clear H;intro b5 a w hb5 H;refine kH H (aj K1 rfl (SQ fun _ K2=>SQ fun _ K3=>?_));clear H K1;intro a H;obtain ⟨Ga5,QE,Cq,H⟩:=H.fO;obtain ⟨Ga4,Kr,AV,H⟩:=H.fO;obtain ⟨Ga,Fg,wQ,H⟩:=H.fO;replace Cq:=Fg _ _ (Kr _ _ Cq);replace AV:=Fg _ _ AV;have hma:∀ b o,G b=some o->Ga b=some o:=fun b o h=>Fg _ _ (Kr _ _ (QE _ _ h));clear Fg Kr QE;replace hck:=hck.mono hma;replace hb:=hma _ _ hb;replace hh:=hh.mono hma
 have g3:aI Ga b3 0=some (aK b 0):=by unfold aI;rw [wQ];rfl
 have g4:aI Ga b4 0=some (vi e):=by unfold aI;rw [AV];rfl
 have g50:aI Ga b5 0=some (.slice pA h.props.length pc):=by unfold aI;rw [Cq];rfl
 have g51:∀ (j:Nat) (u:ah),[vi h.marks.ins,vi h.marks.move,.slice dA h.marks.bJ.length dc,.slice lA h.marks.layers.length lc][j]?=some u->aI Ga b5 (1+j)=some u:=by
  intro j u hj
  unfold aI;rw [Cq]
  match j,hj with
  | 0,hj=>exact hj
  | 1,hj=>exact hj
  | 2,hj=>exact hj
  | 3,hj=>exact hj
  | n+4,hj=>simp at hj
 have hc2:aI Ga b 2=some (.map (some mr)):=by unfold aI;rw [hb];rfl
 refine kP H (SC (Rg aG rfl (by assumption) ?_));clear H;intro a H;refine kH H (Rf yL rfl (Rg tK rfl (by assumption) ?_));clear H;intro a H;refine s_call abX H wn rfl (aan (afW _ _ H.ro e h.props _ hh.props)) rfl ?_;clear H;rintro v17 _ a w ⟨⟨_,rfl⟩,rfl⟩ - H;refine kH H (bG K3 rfl (SR fun _ K4=>Rm rfl (Rc rfl (Kz K4 (Cd rfl ?_ ?_))))) <;> clear H K3 K4
 ·intro h19 a H
  try have tJ:=dT h19
  refine bR (fun _ K5=>?_);have hE:=aqu (C:=bL us st li rv) (e:=e) (h:=h) tJ;exact kP H (SC (Rm rfl (bG K5 rfl (LR results70 rfl fun H=>H.rt (by rw [hE])))))
 intro h19 a H
 try have tJ:=dF h19
 have e1:qW e h.props=0:=by simpa using tJ
 refine kP H (Kc K2 (SQ fun _ K6=>SR fun _ K7=>Rf yL rfl (Rg tK rfl (by assumption) ?_)));clear H K2;intro a H;refine kH H (Rl gU rfl (Rm rfl (Kz K7 (SB ?_))));clear H K7;intro a H;skip;refine fF (ι:=Nat) (Tc:=[(3,_),(4,_),(5,_),(22,_),(23,_)]) (Lc:=[]) (fun gh=>[(24,vi gh)]) (fun gh=>[]) (fun gh=>Ga) (fun gh=>gh<=h.props.length∧dS ((h.props.map fun p=>yh st (li.map fD.id) p.key p.value).drop gh)=ze (bL us st li rv) h.props) (fun gh=>h.props.length - gh) (0) (by exact H.sub ⟨rfl,rfl,rfl,rfl,rfl,rfl,ay⟩) ?_ ?_
 ·exact Jp
 clear H;intro k a w hI H;obtain ⟨hk,heq⟩:=hI;dsimp only [lca,bM] at H;refine kP H (SR fun _ K8=>Rc rfl (Kz K8 (SQ fun _ K9=>Cd rfl ?_ ?_))) <;> clear H K8
 ·intro kS a H
  try have p25:=dT kS
  have hk2:k < h.props.length:=by omega
  obtain ⟨xb,xo,rfl,hrow⟩:=IJ hh.props hk2;refine kP H (Kc K9 (SQ fun _ aS=>SB (SR fun _ bH=>Ri gU iw rfl rfl ?_)));clear H K9;intro a H;refine aV iw (cs:=[_,_]) H wn rfl rfl (fun j v hj=>H.hp.aI (hrow j v hj)) rfl ?_;clear H;intro a H;refine dP iw H wn rfl ?_;clear H;intro b9 a w wR H;refine bK iw 0 (vs:=[_,_]) H wn rfl ?_;clear H;intro w H;refine bH _ _ ?_;clear bH;refine kP H (SR fun _ bT=>Rg KW rfl (by assumption) ?_);clear H;intro a H;refine kH H (bO xP aG 0 rfl rfl (bO Qb aG 0 rfl rfl ?_));clear H;intro a H;refine s_call UQ H wn rfl (Uu _ _ H.ro st li rv b ms ml mr mb mu n h.props[k].key h.props[k].value hck hb) rfl ?_;clear H;rintro v33 _ a w ⟨rfl,rfl⟩ - H;refine kH H (aj bT rfl (SR fun _ cK=>Rm rfl (Rc rfl (Kz cK (Cd rfl ?_ ?_))))) <;> clear H bT cK
  ·intro iC a H
   try have p35:=dT iC
   refine bR (fun _ dB=>?_)
   have hr:ze (bL us st li rv) h.props=yh st (li.map fD.id) h.props[k].key h.props[k].value:=by rw [<- heq];exact (agl (C:=bL us st li rv) hk2).trans (aD p35)
   have hE:=(aqv (C:=bL us st li rv) (e:=e) (h:=h) e1 (by rw [hr];exact p35)).trans hr;exact kP H (SC (Rm rfl (bG dB rfl (LR results70 rfl fun H=>H.rt (by rw [hE])))))
  intro iC a H
  try have p35:=dF iC
  refine kP H (Kc aS (SC (Rd rfl (Rm rfl ?_))));clear H aS;intro a H;refine aB ?_;refine dJ ((k+1)) (by exact (H.fG (Pl:=[_]) (eH:=[]) [] (by decide) rfl).sub ⟨rfl,rfl,rfl,rfl,rfl,rfl,ay⟩) ?_
  exact ⟨by omega,by rw [agl (C:=bL us st li rv) hk2,av (by simpa using p35)] at heq;exact heq⟩
 intro kS a H
 try have p25:=dF kS
 refine eu ?_;refine K6 _ _ ?_;clear K6;refine bR (fun _ eU=>?_)
 have e2:ze (bL us st li rv) h.props=0:=by rw [<- heq,tX (by rw [bQ];omega)];rfl
 refine kP H (SC (Rf qp rfl ?_));clear H;intro a H;refine aV Eo (cs:=[vi h.marks.ins,vi h.marks.move,.slice dA h.marks.bJ.length dc,.slice lA h.marks.layers.length lc]) H wn rfl rfl (fun j v hj=>H.hp.aI (g51 j v hj)) rfl ?_;clear H;intro a H;refine dP Eo H wn rfl ?_;clear H;intro b11 a w J9 H;refine bK Eo 0 (vs:=[_,_,_,_]) H wn rfl ?_;clear H;intro w H;obtain ⟨Gb,hmb,Cn,H⟩:=H.fO;replace hck:=hck.mono hmb;replace hb:=hmb _ _ hb;replace hh:=hh.mono hmb;replace g3:=aF hmb g3;replace g4:=aF hmb g4;replace hc2:=aF hmb hc2
 have q0:aI Gb b11 0=some (vi h.marks.ins):=by unfold aI;rw [Cn];rfl
 have q1:aI Gb b11 1=some (vi h.marks.move):=by unfold aI;rw [Cn];rfl
 have q2:aI Gb b11 2=some (.slice dA h.marks.bJ.length dc):=by unfold aI;rw [Cn];rfl
 have q3:aI Gb b11 3=some (.slice lA h.marks.layers.length lc):=by unfold aI;rw [Cn];rfl
 have hcb:=asC hck hb g3 g4 q3 hh.layers;refine aB ?_;refine eU _ _ ?_;clear eU;refine uf (ι:=GH) (Tc:=[(3,_),(4,_),(11,_)]) (Lc:=[]) (fun gh=>[]) (fun gh=>[]) (fun gh=>gh) (fun gh=>jW (bL us st li rv) h.marks=0∧(∀ b o,Gb b=some o->gh b=some o)) (by exact H.sub ⟨rfl,rfl,rfl,ay⟩) ?_ ?_
 ·skip;refine EJ ?_;refine bR (fun _ eX=>?_)
  by_cases c0:h.marks.ins≠0
  ·skip
   by_cases c1:h.marks.ins∉rv.map bV.id
   ·skip;refine dI hmx [[],[0],[0,1],[0,1,2],ra 0 4,ra 0 5,ra 0 6,ra 0 7,ra 0 4,[0,1,2,3,8],ra 0 10,ra 0 11,ra 0 12,ra 0 13] [13] (by kernel_rfl) [_,_,_,_,_,(aK b 0),_,_,_,_,.bool (decide (h.marks.ins∈rv.map bV.id)),.bool (decide (h.marks.ins∉rv.map bV.id)),_] H (aC (Z0 rfl (Rf sV rfl)) (X1 0 41 rfl fun hG=>Rg aG rfl (aF hG q0)) (Z1 1 42 rfl (Rc rfl)) (Z1 2 43 rfl (Rm rfl)) (aC (X1 3 44 rfl fun hG=>YR KW (aH c0) rfl (aF hG g3)) ?_ (Z2 5 46 3 44 rfl (YF MB (aH c0) rfl)) (X2 6 47 3 44 rfl fun hG=>YR vk (aH c0) rfl (aF hG hc2)) (aC (Z1 3 44 rfl (YF sV (aH c0) rfl)) (X2 8 49 3 44 rfl fun hG=>YR aG (aH c0) rfl (aF hG q0)) ?_ ?_ (bP (Z2 3 44 11 52 rfl (Pt (aH c0) rfl)) (bP (bU rfl) dH))))) ?_
    ·refine dO 4 45 3 44 rfl rfl fun _ a w G1 hG HT H fin=>?_;refine wo H (wg H rfl rfl (aH c0)) rfl rfl ?_;clear H;intro a H;exact dZ
    ·refine zy 7 48 9 50 3 44 rfl rfl fun _ a w G1 hG HT H fin=>?_;refine Br (zv:=.bool false) yC mJ (by kernel_rfl) H (wg H rfl rfl (aH c0)) rfl rfl (H.ro _ _ (hG _ _ hck.rev)) rfl ?_;clear H;intro a H;rw [Fx] at H;exact dZ
    ·refine dO 10 51 3 44 rfl rfl fun _ a w G1 hG HT H fin=>?_;refine kH H (YN (aH c0) rfl ?_);clear H;intro a H;exact aaC
    clear H;intro a w G oM H hv;have H:=H.aN (hv 12 53 rfl rfl) rfl;clear hv;refine kH H (Ra rfl ?_);clear H;intro a H;refine aB ⟨rfl,?_⟩;refine eX _ _ ?_;clear eX;refine Ce H rfl (aH c1) ?_;refine bR (fun _ eG=>?_);have e3:jW (bL us st li rv) h.marks=22:=aD ⟨c0,c1⟩;have hE:=(DR (C:=bL us st li rv) (e:=e) (h:=h) e1 e2 (by rw [e3];decide)).trans e3;exact kP H (SC (bG eG rfl (LR results70 rfl fun H=>H.rt (by rw [hE]))))
   skip;refine dI hmx [[],[0],[0,1],[0,1,2],ra 0 4,ra 0 5,ra 0 6,ra 0 7,ra 0 4,[0,1,2,3,8],ra 0 10,ra 0 11,ra 0 12,ra 0 13] [13] (by kernel_rfl) [_,_,_,_,_,(aK b 0),_,_,_,_,.bool (decide (h.marks.ins∈rv.map bV.id)),.bool (decide (h.marks.ins∉rv.map bV.id)),_] H (aC (Z0 rfl (Rf sV rfl)) (X1 0 41 rfl fun hG=>Rg aG rfl (aF hG q0)) (Z1 1 42 rfl (Rc rfl)) (Z1 2 43 rfl (Rm rfl)) (aC (X1 3 44 rfl fun hG=>YR KW (aH c0) rfl (aF hG g3)) ?_ (Z2 5 46 3 44 rfl (YF MB (aH c0) rfl)) (X2 6 47 3 44 rfl fun hG=>YR vk (aH c0) rfl (aF hG hc2)) (aC (Z1 3 44 rfl (YF sV (aH c0) rfl)) (X2 8 49 3 44 rfl fun hG=>YR aG (aH c0) rfl (aF hG q0)) ?_ ?_ (bP (Z2 3 44 11 52 rfl (Pt (aH c0) rfl)) (bP (bU rfl) dH))))) ?_
   ·refine dO 4 45 3 44 rfl rfl fun _ a w G1 hG HT H fin=>?_;refine wo H (wg H rfl rfl (aH c0)) rfl rfl ?_;clear H;intro a H;exact dZ
   ·refine zy 7 48 9 50 3 44 rfl rfl fun _ a w G1 hG HT H fin=>?_;refine Br (zv:=.bool false) yC mJ (by kernel_rfl) H (wg H rfl rfl (aH c0)) rfl rfl (H.ro _ _ (hG _ _ hck.rev)) rfl ?_;clear H;intro a H;rw [Fx] at H;exact dZ
   ·refine dO 10 51 3 44 rfl rfl fun _ a w G1 hG HT H fin=>?_;refine kH H (YN (aH c0) rfl ?_);clear H;intro a H;exact aaC
   clear H;intro a w G oM H hv;have H:=H.aN (hv 12 53 rfl rfl) rfl;clear hv;refine kH H (Ra rfl ?_);clear H;intro a H;refine aB ⟨rfl,?_⟩;refine eX _ _ ?_;clear eX;refine sS H rfl (aY c1) ?_;refine bR (fun _ fC=>?_)
   have hno:¬ (h.marks.ins≠0∧h.marks.ins∉(bL us st li rv).kM):=by first|exact fun h=>c1 h.2|exact fun h=>c0 h.1
   replace q0:=aF oM q0;replace q1:=aF oM q1;replace q2:=aF oM q2;refine kP H (SC (Rf Ch rfl (Rg aG rfl (by assumption) ?_)));clear H;intro a H;refine s_call yI H wn rfl (yV _ _ H.ro h.marks.move 0 1073741824) rfl ?_;clear H;rintro v57 _ a w ⟨rfl,rfl⟩ - H;refine kH H (Rn rfl (Rm rfl (Sp 59 rfl ?_ ?_))) <;> clear H
   ·intro jc a H
    try have p59:=dT jc
    refine kH H (aJ jc rfl (aJ jc rfl (Ku rfl (Ku rfl (Ku rfl (Ks jc rfl (Pt jc rfl (bG fC rfl (Ct rfl rfl (SQ fun _ gX=>?_))))))))));clear H fC;intro a H
    have e3:jW (bL us st li rv) h.marks=21:=by unfold jW;rw [av hno,aD (by first|(simp_all;done)|(simp_all;omega))]
    have hE:=(DR (C:=bL us st li rv) (e:=e) (h:=h) e1 e2 (by rw [e3];decide)).trans e3;exact kP H (SC (bG gX rfl (LR results70 rfl fun H=>H.rt (by rw [hE]))))
   intro jc a H
   try have p59:=dF jc
   refine kH H (YF Ch jc rfl (YR aG jc rfl (by assumption) ?_));clear H;intro a H;refine kH H (YC jc rfl (YM jc rfl (Sp 63 rfl ?_ ?_))) <;> clear H
   ·intro h63 a H
    try have p63:=dT h63
    refine kH H (YF sV h63 rfl (YR aG h63 rfl (by assumption) ?_));clear H;intro a H;refine kH H (YC h63 rfl (PT jc h63 rfl (Pf jc rfl (bG fC rfl (Cd rfl ?_ ?_))))) <;> clear H fC
    ·intro iL a H
     try have p54:=dT iL
     refine bR (fun _ fM=>?_)
     have e3:jW (bL us st li rv) h.marks=21:=by unfold jW;rw [av hno,aD (by first|(simp_all;done)|(simp_all;omega))]
     have hE:=(DR (C:=bL us st li rv) (e:=e) (h:=h) e1 e2 (by rw [e3];decide)).trans e3;exact kP H (SC (bG fM rfl (LR results70 rfl fun H=>H.rt (by rw [hE]))))
    intro iL a H
    try have p54:=dF iL
    refine bR (fun _ iI=>?_)
    have hn2:¬ (¬ (0<=h.marks.move∧h.marks.move<=1073741824)∨(h.marks.move≠0∧h.marks.ins=0)):=by first|(simp_all;done)|(simp_all;omega)
    refine kP H (SC (Rf uj rfl (Rg uD rfl (by assumption) ?_)));clear H;intro a H;refine kH H (Rl oJ rfl (Rc rfl (bG iI rfl (Cd rfl ?_ ?_)))) <;> clear H iI
    ·intro wO a H
     refine bR (fun _ jH=>?_)
     have e3:jW (bL us st li rv) h.marks=9:=by unfold jW;rw [av hno,av hn2,aD (by simpa using wO)]
     have hE:=(DR (C:=bL us st li rv) (e:=e) (h:=h) e1 e2 (by rw [e3];decide)).trans e3;exact kP H (SC (bG jH rfl (LR results70 rfl fun H=>H.rt (by rw [hE]))))
    intro wO a H
    have e3:jW (bL us st li rv) h.marks=0:=by unfold jW;rw [av hno,av hn2,av (by simpa using wO)]
    refine iG ?_;refine ⟨_,by exact H.sub ⟨rfl,rfl,rfl,ay⟩,?_⟩;exact ⟨e3,oM⟩
   intro h63 a H
   try have p63:=dF h63
   refine kH H (aM h63 rfl (PF jc h63 rfl (Pf jc rfl (bG fC rfl (Cf rfl rfl (SQ fun _ mK=>?_))))));clear H fC;intro a H
   have hn2:¬ (¬ (0<=h.marks.move∧h.marks.move<=1073741824)∨(h.marks.move≠0∧h.marks.ins=0)):=by first|(simp_all;done)|(simp_all;omega)
   refine kP H (SC (Rf uj rfl (Rg uD rfl (by assumption) ?_)));clear H;intro a H;refine kH H (Rl oJ rfl (Rc rfl (bG mK rfl (Cd rfl ?_ ?_)))) <;> clear H mK
   ·intro wO a H
    refine bR (fun _ mD=>?_)
    have e3:jW (bL us st li rv) h.marks=9:=by unfold jW;rw [av hno,av hn2,aD (by simpa using wO)]
    have hE:=(DR (C:=bL us st li rv) (e:=e) (h:=h) e1 e2 (by rw [e3];decide)).trans e3;exact kP H (SC (bG mD rfl (LR results70 rfl fun H=>H.rt (by rw [hE]))))
   intro wO a H
   have e3:jW (bL us st li rv) h.marks=0:=by unfold jW;rw [av hno,av hn2,av (by simpa using wO)]
   refine iG ?_;refine ⟨_,by exact H.sub ⟨rfl,rfl,rfl,ay⟩,?_⟩;exact ⟨e3,oM⟩
  skip;refine dI hmx [[],[0],[0,1],[0,1,2],ra 0 4,ra 0 5,ra 0 6,ra 0 7,ra 0 4,[0,1,2,3,8],ra 0 10,ra 0 11,ra 0 12,ra 0 13] [13] (by kernel_rfl) [_,_,_,_,undef,undef,undef,undef,undef,undef,undef,undef,_] H (aC (Z0 rfl (Rf sV rfl)) (X1 0 41 rfl fun hG=>Rg aG rfl (aF hG q0)) (Z1 1 42 rfl (Rc rfl)) (Z1 2 43 rfl (Rm rfl)) (aC (aZ 3 (aY c0) rfl rfl) (aZ 3 (aY c0) rfl rfl) (aZ 3 (aY c0) rfl rfl) (aZ 3 (aY c0) rfl rfl) (aC (aZ 3 (aY c0) rfl rfl) (aZ 3 (aY c0) rfl rfl) (aZ 3 (aY c0) rfl rfl) (aZ 3 (aY c0) rfl rfl) (bP (Z2 3 44 11 52 rfl (Pf (aY c0) rfl)) (bP (bU rfl) dH))))) ?_
  clear H;intro a w G oM H hv;have H:=H.aN (hv 12 53 rfl rfl) rfl;clear hv;refine kH H (Ra rfl ?_);clear H;intro a H;refine aB ⟨rfl,?_⟩;refine eX _ _ ?_;clear eX;refine sS H rfl rfl ?_;refine bR (fun _ kY=>?_)
  have hno:¬ (h.marks.ins≠0∧h.marks.ins∉(bL us st li rv).kM):=by first|exact fun h=>c1 h.2|exact fun h=>c0 h.1
  replace q0:=aF oM q0;replace q1:=aF oM q1;replace q2:=aF oM q2;refine kP H (SC (Rf Ch rfl (Rg aG rfl (by assumption) ?_)));clear H;intro a H;refine s_call yI H wn rfl (yV _ _ H.ro h.marks.move 0 1073741824) rfl ?_;clear H;rintro v57 _ a w ⟨rfl,rfl⟩ - H;refine kH H (Rn rfl (Rm rfl (Sp 59 rfl ?_ ?_))) <;> clear H
  ·intro jc a H
   try have p59:=dT jc
   refine kH H (aJ jc rfl (aJ jc rfl (Ku rfl (Ku rfl (Ku rfl (Ks jc rfl (Pt jc rfl (bG kY rfl (Ct rfl rfl (SQ fun _ om=>?_))))))))));clear H kY;intro a H
   have e3:jW (bL us st li rv) h.marks=21:=by unfold jW;rw [av hno,aD (by first|(simp_all;done)|(simp_all;omega))]
   have hE:=(DR (C:=bL us st li rv) (e:=e) (h:=h) e1 e2 (by rw [e3];decide)).trans e3;exact kP H (SC (bG om rfl (LR results70 rfl fun H=>H.rt (by rw [hE]))))
  intro jc a H
  try have p59:=dF jc
  refine kH H (YF Ch jc rfl (YR aG jc rfl (by assumption) ?_));clear H;intro a H;refine kH H (YC jc rfl (YM jc rfl (Sp 63 rfl ?_ ?_))) <;> clear H
  ·intro h63 a H
   try have p63:=dT h63
   refine kH H (YF sV h63 rfl (YR aG h63 rfl (by assumption) ?_));clear H;intro a H;refine kH H (YC h63 rfl (PT jc h63 rfl (Pf jc rfl (bG kY rfl (Cd rfl ?_ ?_))))) <;> clear H kY
   ·intro iL a H
    try have p54:=dT iL
    refine bR (fun _ oq=>?_)
    have e3:jW (bL us st li rv) h.marks=21:=by unfold jW;rw [av hno,aD (by first|(simp_all;done)|(simp_all;omega))]
    have hE:=(DR (C:=bL us st li rv) (e:=e) (h:=h) e1 e2 (by rw [e3];decide)).trans e3;exact kP H (SC (bG oq rfl (LR results70 rfl fun H=>H.rt (by rw [hE]))))
   intro iL a H
   try have p54:=dF iL
   refine bR (fun _ kZ=>?_)
   have hn2:¬ (¬ (0<=h.marks.move∧h.marks.move<=1073741824)∨(h.marks.move≠0∧h.marks.ins=0)):=by first|(simp_all;done)|(simp_all;omega)
   refine kP H (SC (Rf uj rfl (Rg uD rfl (by assumption) ?_)));clear H;intro a H;refine kH H (Rl oJ rfl (Rc rfl (bG kZ rfl (Cd rfl ?_ ?_)))) <;> clear H kZ
   ·intro wO a H
    refine bR (fun _ qm=>?_)
    have e3:jW (bL us st li rv) h.marks=9:=by unfold jW;rw [av hno,av hn2,aD (by simpa using wO)]
    have hE:=(DR (C:=bL us st li rv) (e:=e) (h:=h) e1 e2 (by rw [e3];decide)).trans e3;exact kP H (SC (bG qm rfl (LR results70 rfl fun H=>H.rt (by rw [hE]))))
   intro wO a H
   have e3:jW (bL us st li rv) h.marks=0:=by unfold jW;rw [av hno,av hn2,av (by simpa using wO)]
   refine iG ?_;refine ⟨_,by exact H.sub ⟨rfl,rfl,rfl,ay⟩,?_⟩;exact ⟨e3,oM⟩
  intro h63 a H
  try have p63:=dF h63
  refine kH H (aM h63 rfl (PF jc h63 rfl (Pf jc rfl (bG kY rfl (Cf rfl rfl (SQ fun _ qD=>?_))))));clear H kY;intro a H
  have hn2:¬ (¬ (0<=h.marks.move∧h.marks.move<=1073741824)∨(h.marks.move≠0∧h.marks.ins=0)):=by first|(simp_all;done)|(simp_all;omega)
  refine kP H (SC (Rf uj rfl (Rg uD rfl (by assumption) ?_)));clear H;intro a H;refine kH H (Rl oJ rfl (Rc rfl (bG qD rfl (Cd rfl ?_ ?_)))) <;> clear H qD
  ·intro wO a H
   refine bR (fun _ qP=>?_)
   have e3:jW (bL us st li rv) h.marks=9:=by unfold jW;rw [av hno,av hn2,aD (by simpa using wO)]
   have hE:=(DR (C:=bL us st li rv) (e:=e) (h:=h) e1 e2 (by rw [e3];decide)).trans e3;exact kP H (SC (bG qP rfl (LR results70 rfl fun H=>H.rt (by rw [hE]))))
  intro wO a H
  have e3:jW (bL us st li rv) h.marks=0:=by unfold jW;rw [av hno,av hn2,av (by simpa using wO)]
  refine iG ?_;refine ⟨_,by exact H.sub ⟨rfl,rfl,rfl,ay⟩,?_⟩;exact ⟨e3,oM⟩
 clear H;intro g a w hI H;obtain ⟨e3,yT⟩:=hI;replace hck:=hck.mono yT;replace hb:=yT _ _ hb;replace hh:=hh.mono yT;replace g3:=aF yT g3;replace q2:=aF yT q2;replace q3:=aF yT q3;replace hc2:=aF yT hc2;replace hcb:=hcb.mono yT;dsimp only [lca,bM] at H;refine kP H (SQ fun _ rR=>SR fun _ qQ=>Rf uj rfl (Rg uD rfl (by assumption) ?_));clear H;intro a H;refine kH H (Rl oJ rfl (Rm rfl (Kz qQ (SB ?_))));clear H qQ;intro a H;skip;refine fF (ι:=Nat × GH) (Tc:=[(3,_),(4,_),(11,_),(75,_),(76,_)]) (Lc:=[]) (fun gh=>[(77,vi gh.1)]) (fun gh=>[]) (fun gh=>gh.2) (fun gh=>gh.1<=h.marks.bJ.length∧dS (((List.range h.marks.bJ.length).map (uh (bL us st li rv) h.marks.bJ)).drop gh.1)=iW (uh (bL us st li rv) h.marks.bJ) h.marks.bJ.length∧(∀ b o,g b=some o->gh.2 b=some o)) (fun gh=>h.marks.bJ.length - gh.1) ((0,g)) (by exact H.sub ⟨rfl,rfl,rfl,rfl,rfl,rfl,ay⟩) ?_ ?_
 ·exact EF
 clear H;rintro ⟨k,g2⟩ a w hI H;dsimp only at hI H;obtain ⟨hk,heq,hgm⟩:=hI;dsimp only [lca,bM] at H;refine kP H (SR fun _ rT=>Rc rfl (Kz rT (SQ fun _ vD=>Cd rfl ?_ ?_))) <;> clear H rT
 ·intro VO a H
  try have p78:=dT VO
  have hk2:k < h.marks.bJ.length:=by omega
  have hd2:=hh.bJ.mono hgm;obtain ⟨xb,xo,rfl,hrow⟩:=PZ hd2 hk2
  have hk1:k - 1 < h.marks.bJ.length:=by omega
  obtain ⟨b',o',he',hrow'⟩:=PZ hd2 hk1
  injection he' with he'
  injection he' with e1 e2
  subst e1;subst e2
  have hde:uh (bL us st li rv) h.marks.bJ k=uQ (bL us st li rv) k h.marks.bJ[k] h.marks.bJ[k - 1].rev:=by unfold uh;rw [eD hk2,eD hk1];rfl
  have hX:∀ v,uQ (bL us st li rv) k h.marks.bJ[k] h.marks.bJ[k - 1].rev=v->v≠0->iM (bL us st li rv) e h=v:=fun v h1 h2=>by
   have h4:iW (uh (bL us st li rv) h.marks.bJ) h.marks.bJ.length=v:=by rw [<- heq,Gg hk2,hde,h1,aD h2]
   exact (aqw e1 e2 e3 (by rw [h4];exact h2)).trans h4
  have hp:=hrow' 0 _ rfl;have g3':=aF hgm g3;have hc2':=aF hgm hc2;have q2':=aF hgm q2;refine kP H (Kc vD (SQ fun _ sN=>SB (SR fun _ xB=>Rm rfl (Ri oJ oI rfl rfl ?_))));clear H vD;intro a H;refine aV oI (cs:=h.marks.bJ[k].cells) H wn rfl rfl (fun j v hj=>H.hp.aI (hrow j v hj)) rfl ?_;clear H;intro a H;refine dP oI H wn rfl ?_;clear H;intro b13 a w Qr H;refine kH H (Ra rfl ?_);clear H;intro a H;refine bK oI 0 (vs:=[_,_]) H wn rfl ?_;clear H;intro w H;refine xB _ _ ?_;clear xB;refine EJ ?_;refine bR (fun _ BH=>?_);refine dI hmx [[],[0],[0,1],[0,1,2],[],[4],ra 0 6,ra 0 7,ra 0 8] [8] (by kernel_rfl) [_,_,_,_,_,vi h.marks.bJ[k].rev,.bool (decide (h.marks.bJ[k].rev∈rv.map bV.id)),_] H (aC (X0 rfl fun hG=>Rg KW rfl (aF hG g3')) (Z1 0 83 rfl (Rk rfl)) (Z1 1 84 rfl (Rf MB rfl)) (X1 2 85 rfl fun hG=>Rg vk rfl (aF hG hc2')) (aC (Z0 rfl (Rf EL rfl)) (Z1 4 87 rfl (Ro aG 0 rfl)) ?_ (Z1 6 89 rfl (Rn rfl)) (bP (bU rfl) dH))) ?_
  ·refine dO 3 86 5 88 rfl rfl fun _ a w G1 hG HT H fin=>?_;refine Br (zv:=.bool false) yC mJ (by kernel_rfl) H wn rfl rfl (H.ro _ _ (hG _ _ (hgm _ _ hck.rev))) rfl ?_;clear H;intro a H;rw [Fx] at H;exact dZ
  clear H;intro a w G J3 H hv;have H:=H.aN (hv 7 90 rfl rfl) rfl;clear hv;refine kH H (Ra rfl ?_);clear H;intro a H;refine aB ⟨rfl,?_⟩;refine BH _ _ ?_;clear BH;refine jr H rfl ?_ ?_
  ·intro xR
   refine bR (fun _ BI=>?_);have hE:=hX 22 (by unfold uQ;rw [aD (by simpa using xR)]) (by decide);exact kP H (SC (bG BI rfl (LR results70 rfl fun H=>H.rt (by rw [hE]))))
  intro xR
  try have p82:=dF xR
  have M6:¬ (h.marks.bJ[k].rev∉(bL us st li rv).kM):=by simpa using xR
  refine bR (fun _ qE=>?_);replace hp:=aF J3 hp;replace q2':=aF J3 q2'
  by_cases c3:0 < (k:Int)
  ·skip
   by_cases c4:h.marks.bJ[k].rev<=h.marks.bJ[k - 1].rev
   ·skip;refine dI hmx [[],[0],[0,1],[0,1,2],ra 0 4,[0,1,2],[0,1,2,5],[0,1,2],[0,1,2,7],[0,1,2,5,6,7,8],[0,1,2,5,6,7,8,9],([0,1,2]++ra 5 6),ra 0 12,ra 0 13,ra 0 14] [14] (by kernel_rfl) [_,_,_,_,vi h.marks.bJ[k].rev,_,_,_,vi ((k - 1:Nat):Int),_,_,_,_,_] H (aC (Z0 rfl (Rm rfl)) (Z1 0 92 rfl (Rc rfl)) (Z1 1 93 rfl (Rm rfl)) (Z1 2 94 rfl (YF EL (aH c3) rfl)) (aC (Z2 3 95 2 94 rfl (YO aG 0 (aH c3) rfl)) (Z1 2 94 rfl (YF uj (aH c3) rfl)) (X2 5 97 2 94 rfl fun hG=>YR uD (aH c3) rfl (aF hG q2')) (Z1 2 94 rfl (YM (aH c3) rfl)) (aC ?_ (Z3 6 98 8 100 2 94 rfl (YI oJ oI (aH c3) rfl rfl)) (Z2 9 101 2 94 rfl (YF EL (aH c3) rfl)) (X2 10 102 2 94 rfl fun hG=>YR aG (aH c3) rfl (aF hG hp)) (bP (Z3 4 96 11 103 2 94 rfl (YC (aH c3) rfl)) (bP (Z2 2 94 12 104 rfl (Pt (aH c3) rfl)) (bP (bU rfl) dH)))))) ?_
    ·refine dO 7 99 2 94 rfl rfl fun _ a w G1 hG HT H fin=>?_;refine nL _ H (wg H rfl rfl (aH c3)) rfl rfl rfl (by omega) (by omega) rfl ?_;clear H;intro a H;exact qF
    clear H;intro a w G Qo H hv;have H:=H.aN (hv 13 105 rfl rfl) rfl;clear hv;refine kH H (Ra rfl ?_);clear H;intro a H;refine aB ⟨rfl,?_⟩;refine qE _ _ ?_;clear qE;refine Ce H rfl (aH c4) ?_;refine bR (fun _ Dg=>?_);have hz:0 < k∧h.marks.bJ[k].rev<=h.marks.bJ[k - 1].rev:=⟨by omega,c4⟩;have hE:=hX 6 (by unfold uQ;rw [av M6,aD hz]) (by decide);exact kP H (SC (bG Dg rfl (LR results70 rfl fun H=>H.rt (by rw [hE]))))
   skip;refine dI hmx [[],[0],[0,1],[0,1,2],ra 0 4,[0,1,2],[0,1,2,5],[0,1,2],[0,1,2,7],[0,1,2,5,6,7,8],[0,1,2,5,6,7,8,9],([0,1,2]++ra 5 6),ra 0 12,ra 0 13,ra 0 14] [14] (by kernel_rfl) [_,_,_,_,vi h.marks.bJ[k].rev,_,_,_,vi ((k - 1:Nat):Int),_,_,_,_,_] H (aC (Z0 rfl (Rm rfl)) (Z1 0 92 rfl (Rc rfl)) (Z1 1 93 rfl (Rm rfl)) (Z1 2 94 rfl (YF EL (aH c3) rfl)) (aC (Z2 3 95 2 94 rfl (YO aG 0 (aH c3) rfl)) (Z1 2 94 rfl (YF uj (aH c3) rfl)) (X2 5 97 2 94 rfl fun hG=>YR uD (aH c3) rfl (aF hG q2')) (Z1 2 94 rfl (YM (aH c3) rfl)) (aC ?_ (Z3 6 98 8 100 2 94 rfl (YI oJ oI (aH c3) rfl rfl)) (Z2 9 101 2 94 rfl (YF EL (aH c3) rfl)) (X2 10 102 2 94 rfl fun hG=>YR aG (aH c3) rfl (aF hG hp)) (bP (Z3 4 96 11 103 2 94 rfl (YC (aH c3) rfl)) (bP (Z2 2 94 12 104 rfl (Pt (aH c3) rfl)) (bP (bU rfl) dH)))))) ?_
   ·refine dO 7 99 2 94 rfl rfl fun _ a w G1 hG HT H fin=>?_;refine nL _ H (wg H rfl rfl (aH c3)) rfl rfl rfl (by omega) (by omega) rfl ?_;clear H;intro a H;exact qF
   clear H;intro a w G Qo H hv;have H:=H.aN (hv 13 105 rfl rfl) rfl;clear hv;refine kH H (Ra rfl ?_);clear H;intro a H;refine aB ⟨rfl,?_⟩;refine qE _ _ ?_;clear qE;refine sS H rfl (aY c4) ?_;refine bR (fun _ BJ=>?_)
   have hz:¬ (0 < k∧h.marks.bJ[k].rev<=h.marks.bJ[k - 1].rev):=by first|exact fun h=>c4 h.2|exact fun h=>c3 (by omega)
   refine kP H (SC (bO acL aG 0 rfl rfl ?_));clear H;intro a H;refine s_call yI H wn rfl (yV _ _ H.ro h.marks.bJ[k].move 0 1073741824) rfl ?_;clear H;rintro v109 _ a w ⟨rfl,rfl⟩ - H;refine kH H (Rn rfl (bG BJ rfl (Cd rfl ?_ ?_))) <;> clear H BJ
   ·intro Az a H
    try have X7:=dT Az
    refine bR (fun _ F3=>?_);have hE:=hX 21 (by unfold uQ;rw [av M6,av hz,aD (by have h0:=Az;simp at h0;omega)]) (by decide);exact kP H (SC (bG F3 rfl (LR results70 rfl fun H=>H.rt (by rw [hE]))))
   intro Az a H
   try have X7:=dF Az
   have adH:uQ (bL us st li rv) k h.marks.bJ[k] h.marks.bJ[k - 1].rev=0:=by unfold uQ;rw [av M6,av hz,av (by have h0:=Az;simp at h0;omega)]
   have hGk:=fun b o h=>Qo b o (J3 b o (hgm b o h));refine kP H (Kc sN (SC (Rd rfl (Rm rfl ?_))));clear H sN;intro a H;refine aB ?_;refine dJ ((k+1,G)) (by exact (H.fG (Pl:=[_]) (eH:=[]) [] (by decide) rfl).sub ⟨rfl,rfl,rfl,rfl,rfl,rfl,ay⟩) ?_
   (try dsimp only);exact aaD
  skip;refine dI hmx [[],[0],[0,1],[0,1,2],ra 0 4,[0,1,2],[0,1,2,5],[0,1,2],[0,1,2,7],[0,1,2,5,6,7,8],[0,1,2,5,6,7,8,9],([0,1,2]++ra 5 6),ra 0 12,ra 0 13,ra 0 14] [14] (by kernel_rfl) [_,_,_,undef,undef,undef,undef,undef,undef,undef,undef,undef,undef,_] H (aC (Z0 rfl (Rm rfl)) (Z1 0 92 rfl (Rc rfl)) (Z1 1 93 rfl (Rm rfl)) (aZ 2 (aY c3) rfl rfl) (aC (aZ 2 (aY c3) rfl rfl) (aZ 2 (aY c3) rfl rfl) (aZ 2 (aY c3) rfl rfl) (aZ 2 (aY c3) rfl rfl) (aC (aZ 2 (aY c3) rfl rfl) (aZ 2 (aY c3) rfl rfl) (aZ 2 (aY c3) rfl rfl) (aZ 2 (aY c3) rfl rfl) (bP (aZ 2 (aY c3) rfl rfl) (bP (Z2 2 94 12 104 rfl (Pf (aY c3) rfl)) (bP (bU rfl) dH)))))) ?_
  clear H;intro a w G Qo H hv;have H:=H.aN (hv 13 105 rfl rfl) rfl;clear hv;refine kH H (Ra rfl ?_);clear H;intro a H;refine aB ⟨rfl,?_⟩;refine qE _ _ ?_;clear qE;refine sS H rfl rfl ?_;refine bR (fun _ Ez=>?_)
  have hz:¬ (0 < k∧h.marks.bJ[k].rev<=h.marks.bJ[k - 1].rev):=by first|exact fun h=>c4 h.2|exact fun h=>c3 (by omega)
  refine kP H (SC (bO acL aG 0 rfl rfl ?_));clear H;intro a H;refine s_call yI H wn rfl (yV _ _ H.ro h.marks.bJ[k].move 0 1073741824) rfl ?_;clear H;rintro v109 _ a w ⟨rfl,rfl⟩ - H;refine kH H (Rn rfl (bG Ez rfl (Cd rfl ?_ ?_))) <;> clear H Ez
  ·intro Az a H
   try have X7:=dT Az
   refine bR (fun _ F4=>?_);have hE:=hX 21 (by unfold uQ;rw [av M6,av hz,aD (by have h0:=Az;simp at h0;omega)]) (by decide);exact kP H (SC (bG F4 rfl (LR results70 rfl fun H=>H.rt (by rw [hE]))))
  intro Az a H
  try have X7:=dF Az
  have adH:uQ (bL us st li rv) k h.marks.bJ[k] h.marks.bJ[k - 1].rev=0:=by unfold uQ;rw [av M6,av hz,av (by have h0:=Az;simp at h0;omega)]
  have hGk:=fun b o h=>Qo b o (J3 b o (hgm b o h));refine kP H (Kc sN (SC (Rd rfl (Rm rfl ?_))));clear H sN;intro a H;refine aB ?_;refine dJ ((k+1,G)) (by exact (H.fG (Pl:=[_]) (eH:=[]) [] (by decide) rfl).sub ⟨rfl,rfl,rfl,rfl,rfl,rfl,ay⟩) ?_
  (try dsimp only);exact aaD
 intro VO a H
 try have p78:=dF VO
 refine eu ?_;refine rR _ _ ?_;clear rR;refine bR (fun _ EA=>?_);refine bR (fun _ LC=>?_)
 have e4:iW (uh (bL us st li rv) h.marks.bJ) h.marks.bJ.length=0:=by rw [<- heq,tX (by simp;omega)];rfl
 replace q3:=aF hgm q3;refine kP H (SC (Rf Av rfl (Rg Bu rfl (by assumption) ?_)));clear H;intro a H;refine kH H (Rl kW rfl (Rc rfl (Kn LC (Cd rfl ?_ ?_)))) <;> clear H LC
 ·intro VE a H
  try have X8:=dT VE
  refine bR (fun _ OU=>?_);have hE:=aqx (C:=bL us st li rv) (e:=e) (h:=h) e1 e2 e3 e4 X8;exact kP H (SC (bG OU rfl (LR results70 rfl fun H=>H.rt (by rw [hE]))))
 intro VE a H
 try have X8:=dF VE
 refine iG ?_;refine EA _ _ ?_;clear EA;refine bR (fun _ OV=>?_);have hE:=aqy (C:=bL us st li rv) (e:=e) (h:=h) e1 e2 e3 e4 X8;refine kP H (SC (Rf Av rfl (Rg Bu rfl (by assumption) ?_)));clear H;intro a H;refine kH H (Rl kW rfl ?_);clear H;intro a H;refine qd H wn rfl rfl ?_;clear H;intro a H;refine s_call JI H wn rfl (LU _ _ H.ro h.marks.layers.length (xW (bL us st li rv) e h.marks.layers) _ (by omega) (hcb.mono hgm)) rfl ?_;clear H;rintro azy ayh a w rfl ayv H;exact kH H (bG OV rfl (LR results70 rfl fun H=>H.rt (by rw [hE])))
end
theorem GY:dX prog 68 1 1:=⟨by kernel_rfl⟩
def codeOk (x:au):Bool:=if x.kind=4 then decide (1<=x.code∧x.code<=3) else if x.kind=6 then decide (1<=x.code∧x.code<=2) else if x.kind=8 then decide (1<=x.code∧x.code<=4) else true
def zY (x:au):Bool:=decide (x.kind=8∧x.code=1)
def Aa (x:au):Bool:=decide (x.kind=1∨x.kind=5) || zY x
def xY (x:au):Bool:=decide (x.kind=6∨x.kind=7∨x.kind=8)
def xM (x:au):Bool:=decide (x.kind=4∨x.kind=6∨x.kind=8)
def rY (s:ByteArray):Bool:=s.toList == (⟨#[]⟩:ByteArray).toList
def vT (x:au):Bool:=!xM x && decide (x.code≠0) || !xY x && decide (x.id≠0) || !Aa x && !rY x.text || decide (x.kind≠6) && decide (0 < (x.flow.length:Int)) || decide (x.kind≠7) && decide (0 < (x.rows.length:Int))
def lF (x:au):Int :=
 if (!decide (1<=x.kind∧x.kind<=8) || !codeOk x)=true then 3 else if vT x=true then 15 else if sJ x.text=false then 12 else if (decide (x.kind=1∨x.kind=5) && rY x.text)=true then 11
 else if (decide (x.kind=5) && decide (1024 < (x.text.size:Int)))=true then 10 else if (zY x && !xO x.text)=true then 13 else 0
theorem wI {p:Prop} (h:p:=by
 first|(simp_all;done)):p:=h
theorem aoM (G:GH) (w0:World) (hG:Hold G w0) (x:au) (p d l:ah) (fA rA:Option Addr) (fc rc:Nat) (hs:x.text.size < 4611686018427387904) :
  Calls prog 196 #[.agg #[vi x.kind,vi x.code,vi x.id,.string x.text,p,vi x.head.marks.ins,vi x.head.marks.move,d,l,.slice fA x.flow.length fc,.slice rA x.rows.length rc]] w0 (bE w0 G fun u G'=>u=vi (lF x)∧G=G'):=by
 refine eN [(0,_)] func196 rfl ntmps196 rfl rfl hG ?_;intro a H;refine dz (fun _ K1=>?_);refine eB (cs:=[_,_,_,_,_,_,_,_,_,_,_]) H wn rfl rfl rfl ?_;clear H;intro b1 a w hb1 H;refine kH H (aj K1 rfl ?_);clear H K1;intro a H;refine uf (ι:=Bool) (Tc:=[(1,_)]) (Lc:=[(_,_)]) (fun gh=>[(3,.bool gh)]) (fun gh=>[]) (fun gh=>G) (fun gh=>gh=zY x) (by exact H.sub ⟨rfl,ay⟩) ?_ ?_
 ·skip;refine kP H (SC (bO lS aG 0 rfl rfl (Rc rfl (Rm rfl (Sp 11 rfl ?_ ?_))))) <;> clear H
  ·intro h11 a H
   try have sF:=dT h11
   refine kH H (YF GY h11 rfl (YO aG 0 h11 rfl (YC h11 rfl (Pt h11 rfl (Ra rfl ?_)))));clear H;intro a H;refine aB ?_;refine ⟨_,by exact H.sub ⟨rfl,rfl,ay⟩,?_⟩
   unfold zY;exact wI
  intro h11 a H
  try have sF:=dF h11
  refine kH H (aM h11 rfl (Pf h11 rfl (Ra rfl ?_)));clear H;intro a H;refine aB ?_;refine ⟨_,by exact H.sub ⟨rfl,rfl,ay⟩,?_⟩
  unfold zY;exact wI
 clear H;intro st a w hI H;have hst:=hI;dsimp only [lca,bM] at H;refine uf (ι:=Bool) (Tc:=[(1,_),(3,_)]) (Lc:=[(_,_)]) (fun gh=>[(4,.bool gh)]) (fun gh=>[]) (fun gh=>G) (fun gh=>gh=Aa x) (by exact H.sub ⟨rfl,rfl,ay⟩) ?_ ?_
 ·skip;refine kP H (SC (bO lS aG 0 rfl rfl (Rc rfl (Rm rfl (Sp 19 rfl ?_ ?_))))) <;> clear H
  ·intro h19 a H
   try have tJ:=dT h19
   refine kH H (aM h19 rfl (Pt h19 rfl (Rm rfl (Ks rfl rfl (Pt rfl rfl (Ra rfl ?_))))));clear H;intro a H;refine aB ?_;refine ⟨_,by exact H.sub ⟨rfl,rfl,rfl,ay⟩,?_⟩
   unfold Aa;exact wI
  intro h19 a H
  try have tJ:=dF h19
  refine kH H (YF lS h19 rfl (YO aG 0 h19 rfl (YC h19 rfl (Pf h19 rfl (Rm rfl (Sp 24 rfl ?_ ?_)))))) <;> clear H
  ·intro bS a H
   try have jP:=dT bS
   refine kH H (Ks bS rfl (Pt bS rfl (Ra rfl ?_)));clear H;intro a H;refine aB ?_;refine ⟨_,by exact H.sub ⟨rfl,rfl,rfl,ay⟩,?_⟩
   unfold Aa;exact wI
  intro bS a H
  try have jP:=dF bS
  refine kH H (YM bS rfl (Pf bS rfl (Ra rfl ?_)));clear H;intro a H;refine aB ?_;refine ⟨_,by exact H.sub ⟨rfl,rfl,rfl,ay⟩,?_⟩
  unfold Aa;exact wI
 clear H;intro wd a w hI H;have hwd:=hI;dsimp only [lca,bM] at H;refine uf (ι:=Bool) (Tc:=[(1,_),(3,_),(4,_)]) (Lc:=[(_,_)]) (fun gh=>[(5,.bool gh)]) (fun gh=>[]) (fun gh=>G) (fun gh=>gh=xY x) (by exact H.sub ⟨rfl,rfl,rfl,ay⟩) ?_ ?_
 ·skip;refine kP H (SC (bO lS aG 0 rfl rfl (Rc rfl (Rm rfl (Sp 30 rfl ?_ ?_))))) <;> clear H
  ·intro iX a H
   try have p30:=dT iX
   refine kH H (aM iX rfl (Pt iX rfl (Rm rfl (aM rfl rfl (Pt rfl rfl (Ra rfl ?_))))));clear H;intro a H;refine aB ?_;refine ⟨_,by exact H.sub ⟨rfl,rfl,rfl,rfl,ay⟩,?_⟩
   unfold xY;exact wI
  intro iX a H
  try have p30:=dF iX
  refine kH H (YF lS iX rfl (YO aG 0 iX rfl (YC iX rfl (Pf iX rfl (Rm rfl (Sp 35 rfl ?_ ?_)))))) <;> clear H
  ·intro iC a H
   try have p35:=dT iC
   refine kH H (aM iC rfl (Pt iC rfl (Ra rfl ?_)));clear H;intro a H;refine aB ?_;refine ⟨_,by exact H.sub ⟨rfl,rfl,rfl,rfl,ay⟩,?_⟩
   unfold xY;exact wI
  intro iC a H
  try have p35:=dF iC
  refine kH H (YF lS iC rfl (YO aG 0 iC rfl (YC iC rfl (Pf iC rfl (Ra rfl ?_)))));clear H;intro a H;refine aB ?_;refine ⟨_,by exact H.sub ⟨rfl,rfl,rfl,rfl,ay⟩,?_⟩
  unfold xY;exact wI
 clear H;intro nm a w hI H;have hnm:=hI;dsimp only [lca,bM] at H;refine kP H (SR fun _ K2=>aj K2 rfl ?_);clear H K2;intro a H;refine uf (ι:=Bool) (Tc:=[(1,_),(3,_),(4,_),(5,_)]) (Lc:=[(_,_)]) (fun gh=>[(6,.bool gh)]) (fun gh=>[]) (fun gh=>G) (fun gh=>gh=codeOk x) (by exact H.sub ⟨rfl,rfl,rfl,rfl,ay⟩) ?_ ?_
 ·skip;refine kP H (SR fun _ K3=>bO lS aG 0 rfl rfl (Kz K3 (SB (SR fun _ K4=>Rc rfl (aj K4 rfl (Cd rfl ?_ ?_)))))) <;> clear H K3 K4
  ·intro kI a H
   try have p42:=dT kI
   refine kP H (SC (bO GY aG 0 rfl rfl ?_));clear H;intro a H;refine s_call yI H wn rfl (yV _ _ H.ro x.code 1 3) rfl ?_;clear H;rintro v46 _ a w ⟨rfl,rfl⟩ - H;refine kH H (Ra rfl ?_);clear H;intro a H;refine aB ?_;refine ⟨_,by exact H.sub ⟨rfl,rfl,rfl,rfl,rfl,ay⟩,?_⟩
   unfold codeOk;exact wI
  intro kI a H
  try have p42:=dF kI
  refine kP H (SR fun _ K5=>Rc rfl (aj K5 rfl (Cd rfl ?_ ?_))) <;> clear H K5
  ·intro h47 a H
   try have p47:=dT h47
   refine kP H (SC (bO GY aG 0 rfl rfl ?_));clear H;intro a H;refine s_call yI H wn rfl (yV _ _ H.ro x.code 1 2) rfl ?_;clear H;rintro v51 _ a w ⟨rfl,rfl⟩ - H;refine kH H (Ra rfl ?_);clear H;intro a H;refine aB ?_;refine ⟨_,by exact H.sub ⟨rfl,rfl,rfl,rfl,rfl,ay⟩,?_⟩
   unfold codeOk;exact wI
  intro h47 a H
  try have p47:=dF h47
  refine kP H (SR fun _ K6=>Rc rfl (aj K6 rfl (Cd rfl ?_ ?_))) <;> clear H K6
  ·intro qw a H
   try have p52:=dT qw
   refine kP H (SC (bO GY aG 0 rfl rfl ?_));clear H;intro a H;refine s_call yI H wn rfl (yV _ _ H.ro x.code 1 4) rfl ?_;clear H;rintro v56 _ a w ⟨rfl,rfl⟩ - H;refine kH H (Ra rfl ?_);clear H;intro a H;refine aB ?_;refine ⟨_,by exact H.sub ⟨rfl,rfl,rfl,rfl,rfl,ay⟩,?_⟩
   unfold codeOk;exact wI
  intro qw a H
  try have p52:=dF qw
  refine iG ?_;refine ⟨_,by exact H.sub ⟨rfl,rfl,rfl,rfl,rfl,ay⟩,?_⟩
  unfold codeOk;exact wI
 clear H;intro ck a w hI H;have hck:=hI;dsimp only [lca,bM] at H;refine uf (ι:=Bool) (Tc:=[(1,_),(3,_),(4,_),(5,_),(6,_)]) (Lc:=[(_,_)]) (fun gh=>[(7,.bool gh)]) (fun gh=>[]) (fun gh=>G) (fun gh=>gh=xM x) (by exact H.sub ⟨rfl,rfl,rfl,rfl,rfl,ay⟩) ?_ ?_
 ·skip;refine kP H (SC (bO lS aG 0 rfl rfl (Rc rfl (Rm rfl (Sp 60 rfl ?_ ?_))))) <;> clear H
  ·intro jT a H
   try have p60:=dT jT
   refine kH H (aM jT rfl (Pt jT rfl (Rm rfl (aM rfl rfl (Pt rfl rfl (Ra rfl ?_))))));clear H;intro a H;refine aB ?_;refine ⟨_,by exact H.sub ⟨rfl,rfl,rfl,rfl,rfl,rfl,ay⟩,?_⟩
   unfold xM;exact wI
  intro jT a H
  try have p60:=dF jT
  refine kH H (YF lS jT rfl (YO aG 0 jT rfl (YC jT rfl (Pf jT rfl (Rm rfl (Sp 65 rfl ?_ ?_)))))) <;> clear H
  ·intro uV a H
   try have p65:=dT uV
   refine kH H (aM uV rfl (Pt uV rfl (Ra rfl ?_)));clear H;intro a H;refine aB ?_;refine ⟨_,by exact H.sub ⟨rfl,rfl,rfl,rfl,rfl,rfl,ay⟩,?_⟩
   unfold xM;exact wI
  intro uV a H
  try have p65:=dF uV
  refine kH H (YF lS uV rfl (YO aG 0 uV rfl (YC uV rfl (Pf uV rfl (Ra rfl ?_)))));clear H;intro a H;refine aB ?_;refine ⟨_,by exact H.sub ⟨rfl,rfl,rfl,rfl,rfl,rfl,ay⟩,?_⟩
  unfold xM;exact wI
 clear H;intro cd a w hI H;have hcd:=hI;dsimp only [lca,bM] at H;refine kP H (SQ fun _ K7=>SB (SR fun _ K8=>?_));clear H;intro a H;refine Ep (ι:=Bool) (Tc:=[(1,_),(3,_),(4,_),(5,_),(7,_)]) 8 (fun (q0:Bool)=>[(78,.bool q0)]) (fun (q0:Bool)=>q0=(!decide (1<=x.kind∧x.kind<=8) || !codeOk x)) (by exact H.sub ⟨rfl,rfl,rfl,rfl,rfl,ay⟩) ?_ ?_
 ·intro adp;refine kH H (bO lS aG 0 rfl rfl ?_);clear H;intro a H;refine s_call yI H wn rfl (yV _ _ H.ro x.kind 1 8) rfl ?_;clear H;rintro v73 _ a w ⟨rfl,rfl⟩ - H;refine kH H (Rn rfl (Rm rfl (Sp 75 rfl ?_ ?_))) <;> clear H
  ·intro zL a H
   try have p75:=dT zL
   refine kH H (aJ zL rfl (Pt zL rfl ?_));clear H;intro a H;refine adp (_) _ _ ?_ (by exact H.sub ⟨rfl,rfl,rfl,rfl,rfl,rfl,ay⟩);rw [<- hck];clear hst hwd hnm hck hcd;(try clear hq1);(try clear hq2);(try clear hq3);(try clear hq0);(try clear hq4);(try clear pJ);(try clear pK);(try clear pO);simp_all
  intro zL a H
  try have p75:=dF zL
  refine kH H (YM zL rfl (YN zL rfl (Pf zL rfl ?_)));clear H;intro a H;refine adp (_) _ _ ?_ (by exact H.sub ⟨rfl,rfl,rfl,rfl,rfl,rfl,ay⟩);rw [<- hck];clear hst hwd hnm hck hcd;(try clear hq1);(try clear hq2);(try clear hq3);(try clear hq0);(try clear hq4);(try clear pJ);(try clear pK);(try clear pO);simp_all
 clear H;intro q0 a w hI H;dsimp only [lca,bM] at H;simp only [xG,wH];have hq0:=hI;refine kH H (aj K8 rfl (Cd rfl ?_ ?_)) <;> clear H K8
 ·intro Qn a H
  refine bR (fun _ K9=>?_)
  have e:lF x=3:=by unfold lF;rw [aD (by rw [<- hq0];exact Qn)]
  exact kP H (SC (bG K9 rfl (LR results196 rfl fun H=>H.rt ⟨by rw [e],rfl⟩)))
 intro Qn a H
 try have p70:=dF Qn
 have f0:¬ (!decide (1<=x.kind∧x.kind<=8) || !codeOk x)=true:=by rw [<- hq0,Qn];decide
 refine dz (fun _ aS=>?_);refine Ep (ι:=Bool) (Tc:=[(1,_),(3,_),(4,_),(5,_)]) 7 (fun (q1:Bool)=>[(86,.bool q1)]) (fun (q1:Bool)=>q1=(!xM x && decide (x.code≠0))) (by exact H.sub ⟨rfl,rfl,rfl,rfl,ay⟩) ?_ ?_
 ·intro adq;refine kH H (Rm rfl (Rn rfl (Rm rfl (Sp 82 rfl ?_ ?_)))) <;> clear H
  ·intro xR a H
   try have p82:=dT xR
   refine kH H (YF GY xR rfl (YO aG 0 xR rfl (YC xR rfl (Pt xR rfl ?_))));clear H;intro a H;refine adq (_) _ _ ?_ (by exact H.sub ⟨rfl,rfl,rfl,rfl,rfl,ay⟩);rw [<- hcd];clear hst hwd hnm hck hcd;(try clear hq1);(try clear hq2);(try clear hq3);(try clear hq0);(try clear hq4);(try clear pJ);(try clear pK);(try clear pO);simp_all
  intro xR a H
  try have p82:=dF xR
  refine kH H (aM xR rfl (Pf xR rfl ?_));clear H;intro a H;refine adq (_) _ _ ?_ (by exact H.sub ⟨rfl,rfl,rfl,rfl,rfl,ay⟩);rw [<- hcd];clear hst hwd hnm hck hcd;(try clear hq1);(try clear hq2);(try clear hq3);(try clear hq0);(try clear hq4);(try clear pJ);(try clear pK);(try clear pO);simp_all
 clear H;intro q1 a w hI H;dsimp only [lca,bM] at H;simp only [xG,wH];have hq1:=hI;refine Ep (ι:=Bool) (Tc:=[(1,_),(3,_),(4,_)]) 9 (fun (q2:Bool)=>[(95,.bool q2)]) (fun (q2:Bool)=>q2=(q1 || !xY x && decide (x.id≠0))) (by exact H.sub ⟨rfl,rfl,rfl,ay⟩) ?_ ?_
 ·intro Wh;refine kH H (Rm rfl (Sp 87 rfl ?_ ?_)) <;> clear H
  ·intro h87 a H
   try have Yb:=dT h87
   refine kH H (aM h87 rfl (Ku rfl (Ku rfl (Ku rfl (Ks h87 rfl (Pt h87 rfl ?_))))));clear H;intro a H;refine Wh (_) _ _ ?_ (by exact H.sub ⟨rfl,rfl,rfl,rfl,ay⟩);rw [<- hnm];clear hst hwd hnm hck hcd;(try clear hq1);(try clear hq2);(try clear hq3);(try clear hq0);(try clear hq4);(try clear pJ);(try clear pK);(try clear pO);simp_all
  intro h87 a H
  try have Yb:=dF h87
  refine kH H (YM h87 rfl (YN h87 rfl (YM h87 rfl (Sp 90 rfl ?_ ?_)))) <;> clear H
  ·intro DJ a H
   try have p90:=dT DJ
   refine kH H (YF JV DJ rfl (YO aG 0 DJ rfl (YC DJ rfl (PT h87 DJ rfl (Pf h87 rfl ?_)))));clear H;intro a H;refine Wh (_) _ _ ?_ (by exact H.sub ⟨rfl,rfl,rfl,rfl,ay⟩);rw [<- hnm];clear hst hwd hnm hck hcd;(try clear hq1);(try clear hq2);(try clear hq3);(try clear hq0);(try clear hq4);(try clear pJ);(try clear pK);(try clear pO);simp_all
  intro DJ a H
  try have p90:=dF DJ
  refine kH H (aM DJ rfl (PF h87 DJ rfl (Pf h87 rfl ?_)));clear H;intro a H;refine Wh (_) _ _ ?_ (by exact H.sub ⟨rfl,rfl,rfl,rfl,ay⟩);rw [<- hnm];clear hst hwd hnm hck hcd;(try clear hq1);(try clear hq2);(try clear hq3);(try clear hq0);(try clear hq4);(try clear pJ);(try clear pK);(try clear pO);simp_all
 clear H;intro q2 a w hI H;dsimp only [lca,bM] at H;simp only [xG,wH];have hq2:=hI;refine Ep (ι:=Bool) (Tc:=[(1,_),(3,_)]) 9 (fun (q3:Bool)=>[(104,.bool q3)]) (fun (q3:Bool)=>q3=(q2 || !Aa x && !rY x.text)) (by exact H.sub ⟨rfl,rfl,ay⟩) ?_ ?_
 ·intro V8;refine kH H (Rm rfl (Sp 96 rfl ?_ ?_)) <;> clear H
  ·intro uW a H
   try have NK:=dT uW
   refine kH H (aM uW rfl (Ku rfl (Ku rfl (Ku rfl (Ks uW rfl (Pt uW rfl ?_))))));clear H;intro a H;refine V8 (_) _ _ ?_ (by exact H.sub ⟨rfl,rfl,rfl,ay⟩);rw [<- hwd];clear hst hwd hnm hck hcd;(try clear hq1);(try clear hq2);(try clear hq3);(try clear hq0);(try clear hq4);(try clear pJ);(try clear pK);(try clear pO);simp_all [rY]
  intro uW a H
  try have NK:=dF uW
  refine kH H (YM uW rfl (YN uW rfl (YM uW rfl (Sp 99 rfl ?_ ?_)))) <;> clear H
  ·intro DK a H
   try have p99:=dT DK
   refine kH H (YF vP DK rfl (YO iR 0 DK rfl ?_));clear H;intro a H;refine avO H (wg H rfl rfl DK) rfl rfl rfl ?_;clear H;intro a H;refine kH H (PT uW DK rfl (Pf uW rfl ?_));clear H;intro a H;refine V8 (_) _ _ ?_ (by exact H.sub ⟨rfl,rfl,rfl,ay⟩);rw [<- hwd];clear hst hwd hnm hck hcd;(try clear hq1);(try clear hq2);(try clear hq3);(try clear hq0);(try clear hq4);(try clear pJ);(try clear pK);(try clear pO);simp_all [rY]
  intro DK a H
  try have p99:=dF DK
  refine kH H (aM DK rfl (PF uW DK rfl (Pf uW rfl ?_)));clear H;intro a H;refine V8 (_) _ _ ?_ (by exact H.sub ⟨rfl,rfl,rfl,ay⟩);rw [<- hwd];clear hst hwd hnm hck hcd;(try clear hq1);(try clear hq2);(try clear hq3);(try clear hq0);(try clear hq4);(try clear pJ);(try clear pK);(try clear pO);simp_all [rY]
 clear H;intro q3 a w hI H;dsimp only [lca,bM] at H;simp only [xG,wH];have hq3:=hI;refine Ep (ι:=Bool) (Tc:=[(1,_),(3,_)]) 11 (fun (q4:Bool)=>[(115,.bool q4)]) (fun (q4:Bool)=>q4=(q3 || decide (x.kind≠6) && decide (0 < (x.flow.length:Int)))) (by exact H.sub ⟨rfl,rfl,ay⟩) ?_ ?_
 ·intro V9;refine kH H (Rm rfl (Sp 105 rfl ?_ ?_)) <;> clear H
  ·intro sZ a H
   try have KI:=dT sZ
   refine kH H (aJ sZ rfl (aJ sZ rfl (Ku rfl (Ku rfl (Ku rfl (Ku rfl (Ks sZ rfl (Pt sZ rfl ?_))))))));clear H;intro a H;refine V9 (_) _ _ ?_ (by exact H.sub ⟨rfl,rfl,rfl,ay⟩);clear hst hwd hnm hck hcd;(try clear hq1);(try clear hq2);(try clear hq3);(try clear hq0);(try clear hq4);(try clear pJ);(try clear pK);(try clear pO);simp_all
  intro sZ a H
  try have KI:=dF sZ
  refine kH H (YF lS sZ rfl (YO aG 0 sZ rfl (YC sZ rfl (YM sZ rfl (Sp 109 rfl ?_ ?_))))) <;> clear H
  ·intro AA a H
   try have atQ:=dT AA
   refine kH H (YF zK AA rfl (YO kV 0 AA rfl (YL jo AA rfl (YC AA rfl (PT sZ AA rfl (Pf sZ rfl ?_))))));clear H;intro a H;refine V9 (_) _ _ ?_ (by exact H.sub ⟨rfl,rfl,rfl,ay⟩);clear hst hwd hnm hck hcd;(try clear hq1);(try clear hq2);(try clear hq3);(try clear hq0);(try clear hq4);(try clear pJ);(try clear pK);(try clear pO);simp_all
  intro AA a H
  try have atQ:=dF AA
  refine kH H (aJ AA rfl (aJ AA rfl (PF sZ AA rfl (Pf sZ rfl ?_))));clear H;intro a H;refine V9 (_) _ _ ?_ (by exact H.sub ⟨rfl,rfl,rfl,ay⟩);clear hst hwd hnm hck hcd;(try clear hq1);(try clear hq2);(try clear hq3);(try clear hq0);(try clear hq4);(try clear pJ);(try clear pK);(try clear pO);simp_all
 clear H;intro q4 a w hI H;dsimp only [lca,bM] at H;simp only [xG,wH];have hq4:=hI;refine Ep (ι:=Bool) (Tc:=[(1,_),(3,_)]) 11 (fun (q5:Bool)=>[(126,.bool q5)]) (fun (q5:Bool)=>q5=vT x) (by exact H.sub ⟨rfl,rfl,ay⟩) ?_ ?_
 ·intro Wd;refine kH H (Rm rfl (Sp 116 rfl ?_ ?_)) <;> clear H
  ·intro h116 a H
   try have atU:=dT h116
   refine kH H (aJ h116 rfl (aJ h116 rfl (Ku rfl (Ku rfl (Ku rfl (Ku rfl (Ks h116 rfl (Pt h116 rfl ?_))))))));clear H;intro a H;refine Wd (_) _ _ ?_ (by exact H.sub ⟨rfl,rfl,rfl,ay⟩);rw [show vT x=(q4 || decide (x.kind≠7) && decide (0 < (x.rows.length:Int))) by rw [hq4,hq3,hq2,hq1];rfl];clear hq4;clear hst hwd hnm hck hcd;(try clear hq1);(try clear hq2);(try clear hq3);(try clear hq0);(try clear hq4);(try clear pJ);(try clear pK);(try clear pO);simp_all
  intro h116 a H
  try have atU:=dF h116
  refine kH H (YF lS h116 rfl (YO aG 0 h116 rfl (YC h116 rfl (YM h116 rfl (Sp 120 rfl ?_ ?_))))) <;> clear H
  ·intro AB a H
   try have atW:=dT AB
   refine kH H (YF um AB rfl (YO uE 0 AB rfl (YL nM AB rfl (YC AB rfl (PT h116 AB rfl (Pf h116 rfl ?_))))));clear H;intro a H;refine Wd (_) _ _ ?_ (by exact H.sub ⟨rfl,rfl,rfl,ay⟩);rw [show vT x=(q4 || decide (x.kind≠7) && decide (0 < (x.rows.length:Int))) by rw [hq4,hq3,hq2,hq1];rfl];clear hq4;clear hst hwd hnm hck hcd;(try clear hq1);(try clear hq2);(try clear hq3);(try clear hq0);(try clear hq4);(try clear pJ);(try clear pK);(try clear pO);simp_all
  intro AB a H
  try have atW:=dF AB
  refine kH H (aJ AB rfl (aJ AB rfl (PF h116 AB rfl (Pf h116 rfl ?_))));clear H;intro a H;refine Wd (_) _ _ ?_ (by exact H.sub ⟨rfl,rfl,rfl,ay⟩);rw [show vT x=(q4 || decide (x.kind≠7) && decide (0 < (x.rows.length:Int))) by rw [hq4,hq3,hq2,hq1];rfl];clear hq4;clear hst hwd hnm hck hcd;(try clear hq1);(try clear hq2);(try clear hq3);(try clear hq0);(try clear hq4);(try clear pJ);(try clear pK);(try clear pO);simp_all
 clear H;intro q5 a w hI H;dsimp only [lca,bM] at H;simp only [xG,wH];have pJ:=hI;refine kH H (aj aS rfl (Cd rfl ?_ ?_)) <;> clear H aS
 ·intro EU a H
  refine bR (fun _ bH=>?_)
  have e:lF x=15:=by unfold lF;rw [av f0,aD (by rw [<- pJ];exact EU)]
  exact kP H (SC (bG bH rfl (LR results196 rfl fun H=>H.rt ⟨by rw [e],rfl⟩)))
 intro EU a H
 try have Ya:=dF EU
 have f1:¬ vT x=true:=by rw [<- pJ,EU];decide
 refine kP H (SR fun _ bT=>bO vP iR 0 rfl rfl ?_);clear H;intro a H;refine s_call Mv H wn rfl (Ot _ _ H.ro x.text hs) rfl ?_;clear H;rintro v130 _ a w ⟨rfl,rfl⟩ - H;refine kH H (Rn rfl (aj bT rfl (Cd rfl ?_ ?_))) <;> clear H bT
 ·intro h127 a H
  refine bR (fun _ cK=>?_)
  have e:lF x=12:=by unfold lF;rw [av f0,av f1,aD (by simpa using h127)]
  exact kP H (SC (bG cK rfl (LR results196 rfl fun H=>H.rt ⟨by rw [e],rfl⟩)))
 intro h127 a H
 try have azs:=dF h127
 have f2:¬ sJ x.text=false:=by simpa using h127
 refine dz (fun _ dB=>?_);refine Ep (ι:=Bool) (Tc:=[(1,_),(3,_)]) 13 (fun (q6:Bool)=>[(145,.bool q6)]) (fun (q6:Bool)=>q6=(decide (x.kind=1∨x.kind=5) && rY x.text)) (by exact H.sub ⟨rfl,rfl,ay⟩) ?_ ?_
 ·intro Wi;refine kH H (bO lS aG 0 rfl rfl (Rc rfl (Rm rfl (Sp 136 rfl ?_ ?_)))) <;> clear H
  ·intro Dz a H
   try have atY:=dT Dz
   refine kH H (aM Dz rfl (Pt Dz rfl (Rm rfl ?_)));clear H;intro a H;refine KR vP H (wg H rfl rfl rfl) rfl rfl ?_;clear H;intro a H;refine rO iR H (wg H rfl rfl rfl) rfl (H.hp.tC 0 rfl rfl) rfl ?_;clear H;intro a H;refine CU H (wg H rfl rfl rfl) rfl rfl rfl ?_;clear H;intro a H;refine kH H (Pt rfl rfl ?_);clear H;intro a H;refine Wi (_) _ _ ?_ (by exact H.sub ⟨rfl,rfl,rfl,ay⟩);clear hst hwd hnm hck hcd;(try clear hq1);(try clear hq2);(try clear hq3);(try clear hq0);(try clear hq4);(try clear pJ);(try clear pK);(try clear pO);simp_all [rY]
  intro Dz a H
  try have atY:=dF Dz
  refine kH H (YF lS Dz rfl (YO aG 0 Dz rfl (YC Dz rfl (Pf Dz rfl (Rm rfl (Sp 141 rfl ?_ ?_)))))) <;> clear H
  ·intro DC a H
   try have aua:=dT DC
   refine kH H (YF vP DC rfl (YO iR 0 DC rfl ?_));clear H;intro a H;refine CU H (wg H rfl rfl DC) rfl rfl rfl ?_;clear H;intro a H;refine kH H (Pt DC rfl ?_);clear H;intro a H;refine Wi (_) _ _ ?_ (by exact H.sub ⟨rfl,rfl,rfl,ay⟩);clear hst hwd hnm hck hcd;(try clear hq1);(try clear hq2);(try clear hq3);(try clear hq0);(try clear hq4);(try clear pJ);(try clear pK);(try clear pO);simp_all [rY]
  intro DC a H
  try have aua:=dF DC
  refine kH H (aM DC rfl (Pf DC rfl ?_));clear H;intro a H;refine Wi (_) _ _ ?_ (by exact H.sub ⟨rfl,rfl,rfl,ay⟩);clear hst hwd hnm hck hcd;(try clear hq1);(try clear hq2);(try clear hq3);(try clear hq0);(try clear hq4);(try clear pJ);(try clear pK);(try clear pO);simp_all [rY]
 clear H;intro q6 a w hI H;dsimp only [lca,bM] at H;simp only [xG,wH];have pK:=hI;refine kH H (aj dB rfl (Cd rfl ?_ ?_)) <;> clear H dB
 ·intro ET a H
  refine bR (fun _ eU=>?_)
  have e:lF x=11:=by unfold lF;rw [av f0,av f1,av f2,aD (by rw [<- pK];exact ET)]
  exact kP H (SC (bG eU rfl (LR results196 rfl fun H=>H.rt ⟨by rw [e],rfl⟩)))
 intro ET a H
 try have afT:=dF ET
 have f3:¬ (decide (x.kind=1∨x.kind=5) && rY x.text)=true:=by rw [<- pK,ET];decide
 refine dz (fun _ eX=>?_);refine Ep (ι:=Bool) (Tc:=[(1,_),(3,_)]) 9 (fun (q7:Bool)=>[(155,.bool q7)]) (fun (q7:Bool)=>q7=(decide (x.kind=5) && decide (1024 < (x.text.size:Int)))) (by exact H.sub ⟨rfl,rfl,ay⟩) ?_ ?_
 ·intro adr;refine kH H (bO lS aG 0 rfl rfl (Rc rfl (Rm rfl (Sp 150 rfl ?_ ?_)))) <;> clear H
  ·intro AJ a H
   try have aub:=dT AJ
   refine kH H (YF vP AJ rfl (YO iR 0 AJ rfl ?_));clear H;intro a H;refine FJ iT H (wg H rfl rfl AJ) rfl rfl ?_;clear H;intro a H;refine kH H (YC AJ rfl (Pt AJ rfl ?_));clear H;intro a H;refine adr (_) _ _ ?_ (by exact H.sub ⟨rfl,rfl,rfl,ay⟩);clear hst hwd hnm hck hcd;(try clear hq1);(try clear hq2);(try clear hq3);(try clear hq0);(try clear hq4);(try clear pJ);(try clear pK);(try clear pO);simp_all
  intro AJ a H
  try have aub:=dF AJ
  refine kH H (aJ AJ rfl (aJ AJ rfl (Pf AJ rfl ?_)));clear H;intro a H;refine adr (_) _ _ ?_ (by exact H.sub ⟨rfl,rfl,rfl,ay⟩);clear hst hwd hnm hck hcd;(try clear hq1);(try clear hq2);(try clear hq3);(try clear hq0);(try clear hq4);(try clear pJ);(try clear pK);(try clear pO);simp_all
 clear H;intro q7 a w hI H;dsimp only [lca,bM] at H;simp only [xG,wH];have pO:=hI;refine kH H (aj eX rfl (Cd rfl ?_ ?_)) <;> clear H eX
 ·intro Ql a H
  refine bR (fun _ eG=>?_)
  have e:lF x=10:=by unfold lF;rw [av f0,av f1,av f2,av f3,aD (by rw [<- pO];exact Ql)]
  exact kP H (SC (bG eG rfl (LR results196 rfl fun H=>H.rt ⟨by rw [e],rfl⟩)))
 intro Ql a H
 try have azt:=dF Ql
 have f4:¬ (decide (x.kind=5) && decide (1024 < (x.text.size:Int)))=true:=by rw [<- pO,Ql];decide
 refine dz (fun _ fC=>?_);refine Ep (ι:=Bool) (Tc:=[]) 7 (fun (q8:Bool)=>[(163,.bool q8)]) (fun (q8:Bool)=>q8=(zY x && !xO x.text)) (by exact H.sub trivial) ?_ ?_
 ·intro ads;refine kH H (Rm rfl (Rm rfl (Sp 158 rfl ?_ ?_))) <;> clear H
  ·intro AL a H
   try have auc:=dT AL
   refine kH H (YF vP AL rfl (YO iR 0 AL rfl ?_));clear H;intro a H;refine s_call U2 H (wg H rfl rfl AL) rfl (UA _ _ H.ro x.text hs) rfl ?_;clear H;rintro azB _ a w ⟨rfl,rfl⟩ - H;refine kH H (YN AL rfl (Pt AL rfl ?_));clear H;intro a H;refine ads (_) _ _ ?_ (by exact H.sub ⟨rfl,ay⟩);rw [<- hst];clear hst hwd hnm hck hcd;(try clear hq1);(try clear hq2);(try clear hq3);(try clear hq0);(try clear hq4);(try clear pJ);(try clear pK);(try clear pO);simp_all
  intro AL a H
  try have auc:=dF AL
  refine kH H (aJ AL rfl (aJ AL rfl (Pf AL rfl ?_)));clear H;intro a H;refine ads (_) _ _ ?_ (by exact H.sub ⟨rfl,ay⟩);rw [<- hst];clear hst hwd hnm hck hcd;(try clear hq1);(try clear hq2);(try clear hq3);(try clear hq0);(try clear hq4);(try clear pJ);(try clear pK);(try clear pO);simp_all
 clear H;intro q8 a w hI H;dsimp only [lca,bM] at H;simp only [xG,wH];have hq8:=hI;refine kH H (aj fC rfl (Cd rfl ?_ ?_)) <;> clear H fC
 ·intro VI a H
  refine bR (fun _ gX=>?_)
  have e:lF x=13:=by unfold lF;rw [av f0,av f1,av f2,av f3,av f4,aD (by rw [<- hq8];exact VI)]
  exact kP H (SC (bG gX rfl (LR results196 rfl fun H=>H.rt ⟨by rw [e],rfl⟩)))
 intro VI a H
 refine iG ?_;refine K7 _ _ ?_;clear K7;refine bR (fun _ fM=>?_)
 have e:lF x=0:=by unfold lF;rw [av f0,av f1,av f2,av f3,av f4,av (by rw [<- hq8,VI];decide)]
 exact kP H (SC (bG fM rfl (LR results196 rfl fun H=>H.rt ⟨by rw [e],rfl⟩)))
structure CS where
 n:Int
 bN:List Int
abbrev CR:=Int × CS
def gZ (r:CR) (f:CS->CR):CR:=if r.1≠0 then r else f r.2
theorem Jl {r:CR} {f:CS->CR} (h:r.1=0):gZ r f=f r.2:=by rw [gZ,av (fun h'=>h' h)]
theorem O8 {r:CR} {f:CS->CR} (h:r.1≠0):gZ r f=r:=by rw [gZ,aD h]
def lU (C:bC) (s:CS) (x:Int):CR:=(rJ C.us s.bN x,⟨s.n,nW C.us s.bN x⟩)
def nX (C:bC) (body note:Bool) (t k i:Int) (s:CS):CR :=
 if k=3 then (dG (!body) 19,s) else if k=6 then gZ (dG note 19,s) fun s=>lU C s i else if k=7 then gZ (dG (decide (4<=t)) 17,s) fun s=>lU C s i else if k=8 then (dG (!decide (1<=i∧i<=1073741824)) 18,s) else (0,s)
def Ee (C:bC) (h:dN) (n:Nat):Int:=dS [iM C 9 h,dG (decide ((n:Int)=0)) 11,dG (decide (32 < (n:Int))) 9]
def nK (n:Nat) (f:CS->CR) (s:CS):CR:=if n=0 then (11,s) else if 256 < n then (9,s) else f s
mutual
def fU (C:bC) (body note:Bool) (t:Int):au->CS->CR
 | .mk k c i tx h f r,s =>
  gZ (lF (.mk k c i tx h f r),s) fun s=>gZ (nX C body note t k i ⟨s.n+(if k=1 then uO tx else 1:Nat),s.bN⟩) fun s=>gZ (iM C k h,s) fun s =>
   if k=6 then jO C false true t f s else if k=7 then nK r.length (fun s=>jf C note (t+1) r s) s else (0,s)
def zU (C:bC) (note:Bool) (t:Int):aU->CS->CR
 | .mk h cs,s=>gZ (Ee C h cs.length,s) fun s=>qV C note t cs s
def cellC (C:bC) (note:Bool) (t:Int):aX->CS->CR
 | .mk i h f,s=>gZ (lU C s i) fun s=>gZ (iM C 10 h,s) fun s=>jO C false note t f s
def jO (C:bC) (body note:Bool) (t:Int):List au->CS->CR
 | [],s=>(0,s)
 | x :: r,s=>gZ (fU C body note t x s) fun s=>jO C body note t r s
def jf (C:bC) (note:Bool) (t:Int):List aU->CS->CR
 | [],s=>(0,s)
 | x :: r,s=>gZ (zU C note t x s) fun s=>jf C note t r s
def qV (C:bC) (note:Bool) (t:Int):List aX->CS->CR
 | [],s=>(0,s)
 | x :: r,s=>gZ (cellC C note t x s) fun s=>qV C note t r s
end
theorem aeT (C:bC) (body note:Bool) (t:Int) (x:au) (s:CS):fU C body note t x s=gZ (lF x,s) fun s=>gZ (nX C body note t x.kind x.id ⟨s.n+(jL x:Nat),s.bN⟩) fun s=>gZ (iM C x.kind x.head,s) fun s =>
  if x.kind=6 then jO C false true t x.flow s else if x.kind=7 then nK x.rows.length (fun s=>jf C note (t+1) x.rows s) s else (0,s):=by cases x;rw [fU];rfl
theorem RY (C:bC) (note:Bool) (t:Int) (x:aU) (s:CS):zU C note t x s=gZ (Ee C x.head x.cells.length,s) fun s=>qV C note t x.cells s:=by cases x;rw [zU];rfl
theorem PD (C:bC) (note:Bool) (t:Int) (x:aX) (s:CS):cellC C note t x s=gZ (lU C s x.id) fun s=>gZ (iM C 10 x.head,s) fun s=>jO C false note t x.flow s:=by cases x;rw [cellC];rfl
def Up (s:CS) (z:Nat) (r:CR):Prop:=s.n<=r.2.n∧r.2.n<=s.n+z
theorem Up.and {s:CS} {z y q:Nat} {r:CR} {f:CS->CR} (h:Up s z r) (hq:z+y<=q) (hf:∀ s,Up s y (f s)):Up s q (gZ r f):=by
 obtain ⟨h1,h2⟩:=h
 unfold gZ
 split
 ·exact ⟨h1,by omega⟩
 obtain ⟨h3,h4⟩:=hf r.2;exact ⟨by omega,by omega⟩
theorem Up.zero (s:CS) (e:Int) (q:Nat):Up s q (e,s):=⟨Int.le_refl _,by dsimp only;omega⟩
theorem Up.le {s:CS} {z y:Nat} {r:CR} (h:Up s z r) (hq:z<=y):Up s y r:=⟨h.1,by have:=h.2;omega⟩
theorem ahA (C:bC) (s:CS) (x:Int) (q:Nat):Up s q (lU C s x):=⟨Int.le_refl _,by dsimp only [lU];omega⟩
theorem axw (C:bC) (body note:Bool) (t k i:Int) (s:CS) (q:Nat):Up s q (nX C body note t k i s):=by
 unfold nX
 (repeat' split) <;> first|exact Up.zero _ _ _|exact (Up.zero _ _ 0).and (y:=0) (by omega) fun s=>ahA _ _ _ _
mutual
theorem ahB (C:bC) (body note:Bool) (t:Int):∀ (x:au) (s:CS),Up s (cZ x.dat) (fU C body note t x s)
 | .mk k c i tx h f r,s=>by
  have hz:=Ac (.mk k c i tx h f r);have hf:=SF C false true t f;have hr:=ahC C note (t+1) r;rw [fU];obtain ⟨u,hu'⟩:∃ u,u=(if k=1 then uO tx else 1:Nat):=⟨_,rfl⟩
  have hu:u<=tx.size+1:=by
   have:=abo tx
   rw [hu'];split <;> omega
  rw [<- hu'];dsimp only [au.text,au.flow,au.rows,au.head] at hz;refine (Up.zero s _ 0).and (Nat.le_of_eq (iA _)) fun s=>?_
  have h2:Up s (u) (nX C body note t k i ⟨s.n+(u:Nat),s.bN⟩):=by
   obtain ⟨h3,h4⟩:=axw C body note t k i ⟨s.n+(u:Nat),s.bN⟩ 0;dsimp only at h3 h4;exact ⟨by omega,by omega⟩
  refine h2.and (y:=dx f+iO r) (by omega) fun s=>(Up.zero s _ 0).and (Nat.le_of_eq (iA _)) fun s=>?_
  by_cases h6:k=6
  ·rw [aD h6];exact (hf s).le (by omega)
  rw [av h6]
  by_cases h7:k=7
  ·rw [aD h7]
   unfold nK
   by_cases c1:r.length=0
   ·rw [aD c1];exact Up.zero _ _ _
   rw [av c1]
   by_cases c2:256 < r.length
   ·rw [aD c2];exact Up.zero _ _ _
   rw [av c2];exact (hr s).le (by omega)
  rw [av h7];exact Up.zero _ _ _
theorem axx (C:bC) (note:Bool) (t:Int):∀ (x:aU) (s:CS),Up s (cZ x.dat) (zU C note t x s)
 | .mk h cs,s=>by
  have hz:=Es (.mk h cs);have hc:=ahz C note t cs;rw [RY];dsimp only [aU.cells,aU.head] at hz |-;exact (Up.zero s _ 0).and (y:=jk cs) (by omega) fun s=>hc s
theorem axv (C:bC) (note:Bool) (t:Int):∀ (x:aX) (s:CS),Up s (cZ x.dat) (cellC C note t x s)
 | .mk i h f,s=>by
  have hz:=Er (.mk i h f);have hf:=SF C false note t f;rw [PD];dsimp only [aX.flow,aX.head,aX.id] at hz |-;exact (ahA C s _ 0).and (y:=dx f) (by omega) fun s=>(Up.zero s _ 0).and (Nat.le_of_eq (iA _)) fun s=>hf s
theorem SF (C:bC) (body note:Bool) (t:Int):∀ (l:List au) (s:CS),Up s (dx l) (jO C body note t l s)
 | [],s=>by rw [jO];exact Up.zero _ _ _
 | x :: r,s=>by
  rw [jO];exact (ahB C body note t x s).and (y:=dx r) (by simp only [dx,fH,fB];omega) fun s=>SF C body note t r s
theorem ahC (C:bC) (note:Bool) (t:Int):∀ (l:List aU) (s:CS),Up s (iO l) (jf C note t l s)
 | [],s=>by rw [jf];exact Up.zero _ _ _
 | x :: r,s=>by
  rw [jf];exact (axx C note t x s).and (y:=iO r) (by simp only [iO,fH,fB];omega) fun s=>ahC C note t r s
theorem ahz (C:bC) (note:Bool) (t:Int):∀ (l:List aX) (s:CS),Up s (jk l) (qV C note t l s)
 | [],s=>by rw [qV];exact Up.zero _ _ _
 | x :: r,s=>by
  rw [qV];exact (axv C note t x s).and (y:=jk r) (by simp only [jk,fH,fB];omega) fun s=>ahz C note t r s
end
def sH {α:Type} (f:α->CS->CR) (l:List α) (s:CS):Nat->CS
 | 0=>s
 | i+1=>match l[i]? with|some x=>(f x (sH f l s i)).2|none=>sH f l s i
def Dw {α:Type} (f:α->CS->CR) (l:List α) (s:CS) (i:Nat):Int:=match l[i]? with|some x=>(f x (sH f l s i)).1|none=>0
theorem YQ {α:Type} (f:α->CS->CR) (x:α) (l:List α) (s:CS):∀ i,sH f (x :: l) s (i+1)=sH f l (f x s).2 i
 | 0=>rfl
 | i+1=>by
  have ih:=YQ f x l s i
  simp only [sH,List.getElem?_cons_succ] at ih |-
  rw [ih]
theorem aof {α:Type} (f:α->CS->CR) (x:α) (l:List α) (s:CS) (i:Nat):Dw f (x :: l) s (i+1)=Dw f l (f x s).2 i:=by
 unfold Dw
 simp only [List.getElem?_cons_succ,YQ]
theorem aiK (E:Nat->Int) (n:Nat):iW E (n+1)=if E 0≠0 then E 0 else iW (fun i=>E (i+1)) n:=by
 unfold iW
 rw [List.range_succ_eq_map,fH,dS,List.map_map]
 rfl
theorem aeU (C:bC) (body note:Bool) (t:Int):∀ (l:List au) (s:CS),(jO C body note t l s).1=iW (Dw (fU C body note t) l s) l.length∧((jO C body note t l s).1=0->(jO C body note t l s).2=sH (fU C body note t) l s l.length)
 | [],s=>by rw [jO];exact ⟨rfl,fun _=>rfl⟩
 | x :: r,s=>by
  obtain ⟨h1,h2⟩:=aeU C body note t r (fU C body note t x s).2;have e0:Dw (fU C body note t) (x :: r) s 0=(fU C body note t x s).1:=rfl;rw [jO,lg,aiK,e0,YQ]
  simp only [aof]
  unfold gZ
  split
  ·next h=>exact ⟨rfl,fun h0=>absurd h0 h⟩
  exact ⟨h1,h2⟩
theorem ahD (C:bC) (body note:Bool) (t:Int) (l:List au) (s:CS):∀ i,i<=l.length->s.n<=(sH (fU C body note t) l s i).n∧(sH (fU C body note t) l s i).n+(dx (l.drop i):Nat)<=s.n+(dx l:Nat)
 | 0,_=>⟨Int.le_refl _,Int.le_refl _⟩
 | i+1,hi=>by
  have hi':i < l.length:=hi;obtain ⟨h1,h2⟩:=ahD C body note t l s i (by omega)
  have hs:sH (fU C body note t) l s (i+1)=(fU C body note t l[i] (sH (fU C body note t) l s i)).2:=by rw [sH,eD hi']
  have hd:dx (l.drop i)=1+cZ l[i].dat+dx (l.drop (i+1)):=by
   simp only [dx];rw [rU hi',fH,fB]
  obtain ⟨h3,h4⟩:=ahB C body note t l[i] (sH (fU C body note t) l s i);rw [hs];exact ⟨by omega,by omega⟩
mutual
/-- The ids in items, in document order. -/
def rH:au->List Int
 | .mk k _ i _ _ f r=>(if k=6∨k=7 then [i] else [])++((if k=6 then jA f else [])++(if k=7 then nV r else []))
def jA:List au->List Int
 | []=>[]
 | x :: r=>rH x++jA r
def vX:aU->List Int
 | .mk _ c=>oO c
def nV:List aU->List Int
 | []=>[]
 | x :: r=>vX x++nV r
def wU:aX->List Int
 | .mk i _ f=>i :: jA f
def oO:List aX->List Int
 | []=>[]
 | x :: r=>wU x++oO r
end
theorem nS {r:CR} {f:CS->CR} {s':CS} (h:gZ r f=(0,s')):r.1=0∧f r.2=(0,s'):=by
 unfold gZ at h
 split at h
 ·rename_i h1;rw [h] at h1;exact absurd rfl h1
 rename_i h1;exact ⟨oK.1 h1,h⟩
theorem UC {r:CR} (h:r.1=0):r=(0,r.2):=Prod.ext h rfl
structure nO (a b c:List Int):Prop where
 eq:c=a++b
 nd:a.Nodup->c.Nodup
 pos:∀ i∈b,1<=i∧i<=1073741824
theorem nO.nil (a:List Int):nO a [] a:=⟨by simp,fun h=>h,fun i h=>by cases h⟩
theorem nO.trans {a b c d e:List Int} (h:nO a b c) (g:nO c d e):nO a (b++d) e:=⟨by rw [g.eq,h.eq,ko],fun h1=>g.nd (h.nd h1),fun i hi=>(jS.1 hi).elim (h.pos i) (g.pos i)⟩
theorem nO.id {us a:List Int} {x:Int} (h:rJ us a x=0):nO a [x] (nW us a x):=by
 unfold nW
 rw [aD h]
 unfold rJ at h
 by_cases h0:¬ (1<=x∧x<=1073741824)∨x∈us
 ·rw [aD h0] at h;cases h
 rw [av h0] at h;have h1:1<=x∧x<=1073741824:=oK.1 fun h'=>h0 (.inl h')
 by_cases h2:x∈a
 ·rw [aD h2] at h;cases h
 exact ⟨rfl,fun h3=>List.nodup_append.2 ⟨h3,by simp,fun u hu v hv=>by rw [pU.1 hv];exact fun e=>h2 (e ▸ hu)⟩,fun i hi=>by rw [pU.1 hi];exact h1⟩
theorem nO.lU {C:bC} {s s':CS} {x:Int} (h:lU C s x=(0,s')):nO s.bN [x] s'.bN:=by
 unfold Go.Proofs.YtdiflmikikiedaaGreat.lU at h
 injection h with h1 h2
 rw [<- h2];exact nO.id h1
theorem auh {C:bC} {body note:Bool} {t k i:Int} {s s':CS} (h:nX C body note t k i s=(0,s')):nO s.bN (if k=6∨k=7 then [i] else []) s'.bN:=by
 unfold nX at h
 by_cases h3:k=3
 ·rw [aD h3] at h;injection h with _ h2;rw [dL,<- h2];exact nO.nil _
 rw [av h3] at h
 by_cases h6:k=6
 ·rw [aD h6] at h;rw [aD (.inl h6)];exact nO.lU (nS h).2
 rw [av h6] at h
 by_cases h7:k=7
 ·rw [aD h7] at h;rw [aD (.inr h7)];exact nO.lU (nS h).2
 rw [av h7] at h;rw [dL]
 by_cases h8:k=8
 ·rw [aD h8] at h;injection h with _ h2;rw [<- h2];exact nO.nil _
 rw [av h8] at h;injection h with _ h2;rw [<- h2];exact nO.nil _
theorem Yj {n:Nat} {f:CS->CR} {s s':CS} (h:nK n f s=(0,s')):n≠0∧f s=(0,s'):=by
 unfold nK at h
 split at h
 ·cases h
 rename_i h1
 split at h
 ·cases h
 exact ⟨h1,h⟩
mutual
theorem aoj (C:bC) (body note:Bool) (t:Int):∀ (x:au) (s s':CS),fU C body note t x s=(0,s')->nO s.bN (rH x) s'.bN
 | .mk k c i tx h f r,s,s',e=>by
  have hf:=P8 C false true t f;have hr:=acE C note (t+1) r;rw [fU] at e;obtain ⟨-,e⟩:=nS e;obtain ⟨e1,e⟩:=nS e;obtain ⟨-,e⟩:=nS e;have h1:=auh (UC e1);rw [rH];refine h1.trans ?_
  by_cases h6:k=6
  ·rw [aD h6] at e |-;rw [av (show ¬ k=7 by omega),iF];exact hf _ _ e
  rw [av h6] at e |-;rw [nQ]
  by_cases h7:k=7
  ·rw [aD h7] at e |-;exact hr _ _ (Yj e).2
  rw [av h7] at e |-
  injection e with _ e
  rw [<- e];exact nO.nil _
theorem aok (C:bC) (note:Bool) (t:Int):∀ (x:aU) (s s':CS),zU C note t x s=(0,s')->nO s.bN (vX x) s'.bN
 | .mk h cs,s,s',e=>by
  have hc:=acD C note t cs;rw [RY] at e;rw [vX];exact hc _ _ (nS e).2
theorem aoi (C:bC) (note:Bool) (t:Int):∀ (x:aX) (s s':CS),cellC C note t x s=(0,s')->nO s.bN (wU x) s'.bN
 | .mk i h f,s,s',e=>by
  have hf:=P8 C false note t f;rw [PD] at e;dsimp only [aX.id,aX.head,aX.flow] at e;obtain ⟨e1,e⟩:=nS e;have h1:=nO.lU (s':=(lU C s i).2) (Prod.ext e1 rfl);rw [wU];exact h1.trans (hf _ _ (nS e).2)
theorem P8 (C:bC) (body note:Bool) (t:Int):∀ (l:List au) (s s':CS),jO C body note t l s=(0,s')->nO s.bN (jA l) s'.bN
 | [],s,s',e=>by rw [jO] at e;injection e with _ e;rw [<- e];exact nO.nil _
 | x :: r,s,s',e=>by
  rw [jO] at e;obtain ⟨e1,e⟩:=nS e;rw [jA];exact (aoj C body note t x s _ (Prod.ext e1 rfl)).trans (P8 C body note t r _ _ e)
theorem acE (C:bC) (note:Bool) (t:Int):∀ (l:List aU) (s s':CS),jf C note t l s=(0,s')->nO s.bN (nV l) s'.bN
 | [],s,s',e=>by rw [jf] at e;injection e with _ e;rw [<- e];exact nO.nil _
 | x :: r,s,s',e=>by
  rw [jf] at e;obtain ⟨e1,e⟩:=nS e;rw [nV];exact (aok C note t x s _ (Prod.ext e1 rfl)).trans (acE C note t r _ _ e)
theorem acD (C:bC) (note:Bool) (t:Int):∀ (l:List aX) (s s':CS),qV C note t l s=(0,s')->nO s.bN (oO l) s'.bN
 | [],s,s',e=>by rw [qV] at e;injection e with _ e;rw [<- e];exact nO.nil _
 | x :: r,s,s',e=>by
  rw [qV] at e;obtain ⟨e1,e⟩:=nS e;rw [oO];exact (aoi C note t x s _ (Prod.ext e1 rfl)).trans (acD C note t r _ _ e)
end
def sP (l:List au):Prop:=∃ (C:bC) (body note:Bool) (t:Int) (s s':CS),jO C body note t l s=(0,s')
structure Jd (x:au):Prop where
 txt:sJ x.text=true
 kd:1<=x.kind∧x.kind<=8
 rw0:x.kind≠7->x.rows=[]
 fl0:x.kind≠6->x.flow=[]
 fl:sP x.flow
 rw:∀ r∈x.rows,∀ c∈r.cells,sP c.flow
theorem atG:sP []:=⟨⟨[],[],[],[]⟩,false,false,0,⟨0,[]⟩,⟨0,[]⟩,by rw [jO]⟩
theorem Hf {x:au} (h:lF x=0):sJ x.text=true∧(1<=x.kind∧x.kind<=8)∧(x.kind≠7->x.rows=[])∧(x.kind≠6->x.flow=[]):=by
 unfold lF at h
 split at h
 ·cases h
 rename_i h1
 split at h
 ·cases h
 rename_i h2
 split at h
 ·cases h
 rename_i h3
 have hk:decide (1<=x.kind∧x.kind<=8)=true:=by
  cases hd:decide (1<=x.kind∧x.kind<=8)
  ·rw [hd] at h1;exact absurd rfl h1
  rfl
 refine ⟨by simpa using h3,pI hk,fun h7=>?_,fun h6=>?_⟩
 ·rw [Bool.not_eq_true] at h2
  unfold vT at h2
  simp only [Bool.or_eq_false_iff] at h2
  have h4:=h2.2;rw [mM h7,LK,sQ] at h4;exact List.length_eq_zero_iff.1 (by omega)
 rw [Bool.not_eq_true] at h2
 unfold vT at h2
 simp only [Bool.or_eq_false_iff] at h2
 have h4:=h2.1.2;rw [mM h6,LK,sQ] at h4;exact List.length_eq_zero_iff.1 (by omega)
theorem cells_ok {C:bC} {note:Bool} {t:Int}:∀ {l:List aX} {s s':CS},qV C note t l s=(0,s')->∀ c∈l,sP c.flow
 | [],_,_,_,_,h=>by cases h
 | x :: r,s,s',e,c,h=>by
  rw [qV] at e;obtain ⟨e1,e⟩:=nS e
  rcases iy.1 h with rfl|h
  ·have e2:cellC C note t c s=(0,(cellC C note t c s).2):=Prod.ext e1 rfl
   generalize (cellC C note t c s).2=s2 at e2
   rw [PD] at e2;exact ⟨C,false,note,t,_,_,(nS (nS e2).2).2⟩
  exact cells_ok e c h
theorem agu {C:bC} {note:Bool} {t:Int}:∀ {l:List aU} {s s':CS},jf C note t l s=(0,s')->∀ r∈l,∀ c∈r.cells,sP c.flow
 | [],_,_,_,_,h=>by cases h
 | x :: r,s,s',e,q,h=>by
  rw [jf] at e;obtain ⟨e1,e⟩:=nS e
  rcases iy.1 h with rfl|h
  ·have e2:zU C note t q s=(0,(zU C note t q s).2):=Prod.ext e1 rfl
   generalize (zU C note t q s).2=s2 at e2
   rw [RY] at e2;exact cells_ok (nS e2).2
  exact agu e q h
theorem sP.head {x:au} {l:List au} (h:sP (x :: l)):Jd x∧sP l:=by
 obtain ⟨C,body,note,t,s,s',e⟩:=h;rw [jO] at e;obtain ⟨e1,e⟩:=nS e;have e2:fU C body note t x s=(0,(fU C body note t x s).2):=Prod.ext e1 rfl
 generalize (fU C body note t x s).2=s2 at e2
 refine ⟨?_,⟨C,body,note,t,_,_,e⟩⟩;rw [aeT] at e2;obtain ⟨f1,e2⟩:=nS e2;(iterate 2 obtain ⟨-,e2⟩:=nS e2);obtain ⟨h1,h2,h3,h4⟩:=Hf f1;refine ⟨h1,h2,h3,h4,?_,?_⟩
 ·by_cases h6:x.kind=6
  ·rw [aD h6] at e2;exact ⟨_,_,_,_,_,_,e2⟩
  rw [h4 h6];exact atG
 by_cases h7:x.kind=7
 ·rw [dL,aD h7] at e2;exact agu (Yj e2).2
 rw [h3 h7];exact fun _ h=>by cases h
theorem sP.tail {x:au} {l:List au} (h:sP (x :: l)):sP l:=h.head.2
theorem sP.mem:∀ {l:List au} {x:au},sP l->x∈l->Jd x
 | y :: l,x,h,hx=>by
  rcases iy.1 hx with rfl|hx
  ·exact h.head.1
  exact sP.mem h.head.2 hx
theorem Jd.e {x:au} (h:Jd x):Om x=0:=by unfold Om Le;rw [aD h.txt];split <;> rfl
theorem Jd.n1 {x:au} (h:Jd x):n1 x=jL x:=by unfold Go.Proofs.YtdiflmikikiedaaGreat.n1;rw [aD h.e]
theorem sP.div {l:List au} (h:sP l):P5 l=true:=by
 unfold P5
 rw [lq];exact fun x hx=>mM (h.mem hx).e
theorem sP.len {l:List au} (h:sP l):Fw l=IV l:=by unfold Fw;rw [aD h.div]
mutual
theorem axP (note:Bool) (t:Int):∀ x:au,((Ow note t x).map qO.id).Sublist (rH x)
 | .mk k c i tx h f r=>by
  have hf:=SL true t f;have hr:=ahN note t r;rw [Ow,rH]
  by_cases h6:k=6
  ·rw [aD h6,aD (.inl h6),aD h6,dL,iF];exact List.Sublist.cons_cons _ hf
  rw [av h6,av h6,nQ]
  by_cases h7:k=7
  ·rw [aD h7,aD h7,aD (.inr h7)];exact List.Sublist.cons _ hr
  rw [av h7];exact List.nil_sublist _
theorem SL (note:Bool) (t:Int):∀ l:List au,((C9 note t l).map qO.id).Sublist (jA l)
 | []=>by rw [C9];exact List.nil_sublist _
 | x :: l=>by
  rw [C9,jA,lW];exact (axP note t x).append (SL note t l)
theorem axQ (note:Bool) (t:Int):∀ x:aU,((Ox note t x).map qO.id).Sublist (vX x)
 | .mk h cs=>by rw [Ox,vX];exact ahM note t cs
theorem ahN (note:Bool) (t:Int):∀ l:List aU,((FQ note t l).map qO.id).Sublist (nV l)
 | []=>by rw [FQ];exact List.nil_sublist _
 | x :: l=>by
  rw [FQ,nV,lW];exact (axQ note t x).append (ahN note t l)
theorem axO (note:Bool) (t:Int):∀ x:aX,((Ou note t x).map qO.id).Sublist (wU x)
 | .mk i h f=>by rw [Ou,wU];exact List.Sublist.cons_cons _ (SL note (t+1) f)
theorem ahM (note:Bool) (t:Int):∀ l:List aX,((FP note t l).map qO.id).Sublist (oO l)
 | []=>by rw [FP];exact List.nil_sublist _
 | x :: l=>by
  rw [FP,oO,lW];exact (axO note t x).append (ahM note t l)
end
structure OZ (l:List au):Prop where
 ok:sP l
 nd:(jA l).Nodup
 pos:∀ i∈jA l,1<=i∧i<=1073741824
theorem OZ.of {C:bC} {body note:Bool} {t n:Int} {l:List au} {s':CS} (h:jO C body note t l ⟨n,[]⟩=(0,s')):OZ l:=by
 have he:=P8 C body note t l _ _ h;have hn:=he.nd List.nodup_nil;rw [he.eq] at hn;exact ⟨⟨C,body,note,t,_,_,h⟩,by simpa using hn,he.pos⟩
theorem OZ.ids {l:List au} (h:OZ l):((JY l).map qO.id).Nodup:=by
 have hs:=SL false 0 l;rw [JY,fH,List.nodup_cons];exact ⟨fun hm=>by have:=h.pos _ (hs.subset hm);dsimp only at this;omega,hs.nodup h.nd⟩
section
theorem JK:aQ 70:=aR func70 rfl
theorem U4:aQ 198:=aR func198 rfl
theorem Mw:aQ 72:=aR func72 rfl
variable {us:List Int}
theorem Kg (G:GH) (L:OL) (w0:World) (st:List bY) (li:List fD) (rv:List bV) (b ms ml mr mb mu:Nat) (n:Int) (hck:xA us G st li rv ms ml mr mu) (hO:gY G (gW b ms ml mr mb mu n :: L) w0)
  (e:Int) (h:dN) (p d l:ah) (hh:jq G h p d l) (hz:mW h<=4294967296) :
  Calls prog 70 #[(aK b 0),vi e,sj h p d l] w0 (gF w0 G (gW b ms ml mr mb mu n :: L) fun v G' L'=>G=G'∧L'=gW b ms ml mr mb mu n :: L∧v=vi (iM (bL us st li rv) e h)):=by
 have hm:=GH.Ji G (o:=(gW b ms ml mr mb mu n).2) (hO.sep _ fE);exact (aqz (G.add b (gW b ms ml mr mb mu n).2) w0 hO.add st li rv b ms ml mr mb mu n (hck.mono hm) (GH.Jj _ _ _) e h p d l (hh.mono hm) hz).mono fun _ _=>auP (b:=b) (o:=(gW b ms ml mr mb mu n).2) (R':=fun v=>v=vi (iM (bL us st li rv) e h)) hO fun _ _ h=>h
abbrev OI (b ms ml mr mb mu:Nat) (L:OL) (r:CR):ah->OL->Prop:=fun u L'=>∃ s:CS,u=vi r.1∧L'=gW b ms ml mr mb mu s.n :: (mb,fK (gG s.bN)) :: L∧(r.1=0->s=r.2)
def Jb (us:List Int) (m:Nat):Prop:=∀ (G:GH) (L:OL) (w0:World) (st:List bY) (li:List fD) (rv:List bV) (b ms ml mr mb mu:Nat) (s:CS) (l:List au) (v:ah) (body note:Bool) (t:Int),
 xA us G st li rv ms ml mr mu->gY G (gW b ms ml mr mb mu s.n :: (mb,fK (gG s.bN)) :: L) w0->ak G (.sl 11 (l.map au.dat)) v->dx l < m->0<=t->t<=4->0<=s.n->s.n+(dx l:Nat)<=1099511627776 ->
 Calls prog 72 #[(aK b 0),v,.agg #[.bool body,.bool note,vi t]] w0 (gF w0 G (gW b ms ml mr mb mu s.n :: (mb,fK (gG s.bN)) :: L) fun u G' L'=>G=G'∧OI b ms ml mr mb mu L (jO (bL us st li rv) body note t l s) u L')
theorem rows_ok {m:Nat} (ih:Jb us m) (hm:m<=4294967296) (Gt:GH) (L:OL) (w0:World) (st:List bY) (li:List fD) (rv:List bV) (b ms ml mr mb mu:Nat) (s:CS) (l:List aU) (v:ah) (note:Bool) (t:Int)
  (hck:xA us Gt st li rv ms ml mr mu) (hO:gY Gt (gW b ms ml mr mb mu s.n :: (mb,fK (gG s.bN)) :: L) w0) (hv:ak Gt (.sl 6 (l.map aU.dat)) v) (hz:iO l < m) (ht0:0<=t) (Bf:t<=4) (hs0:0<=s.n) (hs1:s.n+(iO l:Nat)<=1099511627776) :
  Calls prog 199 #[(aK b 0),v,.agg #[.bool false,.bool note,vi t]] w0 (gF w0 Gt (gW b ms ml mr mb mu s.n :: (mb,fK (gG s.bN)) :: L) fun u G' L'=>OI b ms ml mr mb mu L (nK l.length (fun s=>jf (bL us st li rv) note t l s) s) u L'):=by
 obtain ⟨A,c,rfl,hc1,hc2,hg⟩:=hv.slice;rw [bQ] at *;have hll:=OD l;refine jD (N:=77) (T:=[(0,_),(1,_),(2,_)]) func199 rfl ntmps199 rfl rfl hO ?_;intro a H;refine dz (fun _ K1=>?_);refine eB (cs:=[_,_,_]) H wn rfl rfl rfl ?_;clear H;intro b5 a w hb5 H;refine kH H (aj K1 rfl (SQ fun _ K2=>SR fun _ K3=>Rm rfl (Rl nM rfl (Rc rfl (Kz K3 (Cd rfl ?_ ?_)))))) <;> clear H K1 K3
 ·intro cu a H
  try have lN:=dT cu
  refine bR (fun _ K4=>?_);have hE:nK l.length (fun s=>jf (bL us st li rv) note t l s) s=(11,s):=nE;exact kP H (SC (bG K4 rfl (LR results199 rfl fun H=>H.hp.ng (L':=gW b ms ml mr mb mu s.n :: (mb,fK (gG s.bN)) :: L) (by repeat (first|exact lX _|apply List.Sublist.cons)) ⟨s,by rw [hE],rfl,fun h=>by rw [hE]⟩)))
 intro cu a H
 try have lN:=dF cu
 refine kP H (Kc K2 (SQ fun _ K5=>SR fun _ K6=>Rm rfl (Rl nM rfl (Rc rfl (Kz K6 (Cd rfl ?_ ?_)))))) <;> clear H K2 K6
 ·intro h20 a H
  try have II:=dT h20
  refine bR (fun _ K7=>?_)
  have hE:nK l.length (fun s=>jf (bL us st li rv) note t l s) s=(9,s):=by rw [nK,dL,nE]
  exact kP H (SC (bG K7 rfl (LR results199 rfl fun H=>H.hp.ng (L':=gW b ms ml mr mb mu s.n :: (mb,fK (gG s.bN)) :: L) (by repeat (first|exact lX _|apply List.Sublist.cons)) ⟨s,by rw [hE],rfl,fun h=>by rw [hE]⟩)))
 intro h20 a H
 try have II:=dF h20
 refine kP H (Kc K5 (SQ fun _ K8=>SQ fun _ K9=>?_));clear H K5;intro a H
 have hE:nK l.length (fun s=>jf (bL us st li rv) note t l s) s=jf (bL us st li rv) note t l s:=by rw [nK,dL,dL]
 refine kP H (SC (Rm rfl (Rl nM rfl (Rm rfl (Kn K9 (SB ?_))))));clear H K9;intro a H;skip;refine fF (ι:=Nat × CS × GH) (Tc:=[(0,_),(5,_),(21,_),(22,_)]) (Lc:=[(_,_)]) (fun gh=>[(23,vi gh.1)]) (fun gh=>[gW b ms ml mr mb mu gh.2.1.n,(mb,fK (gG gh.2.1.bN))]++L) (fun gh=>gh.2.2) (fun gh=>gh.1<=l.length∧(∀ b o,Gt b=some o->gh.2.2 b=some o)∧jf (bL us st li rv) note t l s=jf (bL us st li rv) note t (l.drop gh.1) gh.2.1∧0<=gh.2.1.n∧gh.2.1.n+(iO (l.drop gh.1):Nat)<=1099511627776) (fun gh=>l.length - gh.1) ((0,s,Gt)) (by exact H.sub ⟨rfl,rfl,rfl,rfl,rfl,ay⟩) ?_ ?_
 ·exact ⟨lu _,fun _ _ h=>h,rfl,hs0,hs1⟩
 clear H;rintro ⟨k,s1,g⟩ a w hI H;dsimp only at hI H;obtain ⟨hk,hgm,hR,hn0,hn1⟩:=hI;dsimp only [lca,bM] at H;refine kP H (SR fun _ aS=>Rc rfl (Kz aS (SQ fun _ bH=>Cd rfl ?_ ?_))) <;> clear H aS
 ·intro bS a H
  try have jP:=dT bS
  have hk2:k < l.length:=by omega
  have hsz:=SV hk2;have hcs:=OB l[k].cells
  have hdz:iO (l.drop k)=1+cZ l[k].dat+iO (l.drop (k+1)):=by simp only [iO];rw [rU hk2,fH,fB]
  have hrz:=Es l[k];obtain ⟨xb,xo,qA,qn,qc,eA,en,ec,zA,zn,zc,cA,cn,cc,rfl,hrow,Ii,hcl⟩:=RZ hk2 hg;replace hrow:=fun j u hj=>aF hgm (hrow j u hj);replace Ii:=Ii.mono hgm;replace hcl:=hcl.mono hgm;have hcn:=hcl.len;rw [bQ] at hcn;subst hcn;have aqk:=hck.mono hgm;rw [rU hk2,jf,RY] at hR;refine kP H (Kc bH (SQ fun _ bT=>SB (SR fun _ cK=>Ri nM jG rfl rfl ?_)));clear H bH;intro a H;refine aV jG (cs:=[_,_,_,_,_,_]) H wn rfl rfl (fun j v hj=>H.hp.aI (hrow j v hj)) rfl ?_;clear H;intro a H;refine dP jG H wn rfl ?_;clear H;intro b8 a w Cr H;refine bK jG 0 (vs:=[_,_,_,_,_,_]) H wn rfl ?_;clear H;intro w H;refine cK _ _ ?_;clear cK;refine bR (fun _ dB=>?_);refine bR (fun _ eU=>?_);refine dI hmx [[],[],[1],[0,1,2],[],[4],[4,5],[4,5,6],ra 0 8,[],[9],[9,10],[9,10,11],ra 0 13,ra 0 14,ra 0 15,ra 0 16] [14,15,16] (by kernel_rfl) [_,_,sj l[k].head (.slice qA qn qc) (.slice eA en ec) (.slice zA zn zc),vi (iM (bL us st li rv) 9 l[k].head),_,.slice cA l[k].cells.length cc,_,_,vi (dG (decide ((l[k].cells.length:Int)=0)) 11),_,.slice cA l[k].cells.length cc,_,_,vi (dG (decide (32 < (l[k].cells.length:Int))) 9)] H (aC (Z0 rfl (Rm rfl)) (Z0 rfl (Rf GZ rfl)) ?_ ?_ (aC (Z0 rfl (Rf yN rfl)) (Z1 4 31 rfl (Ro zm 0 rfl)) (Z1 5 32 rfl (Rl qj rfl)) (Z1 6 33 rfl (Rc rfl)) (aC ?_ (Z0 rfl (Rf yN rfl)) (Z1 9 36 rfl (Ro zm 0 rfl)) (Z1 10 37 rfl (Rl qj rfl)) (aC (Z1 11 38 rfl (Rc rfl)) ?_ (bU rfl) (bU rfl) (bP (bU rfl) dH))))) ?_
  ·refine eY 1 28 rfl rfl fun _ a w G1 hG HT H fin=>?_;refine aV dW (cs:=[_,_,_,_,_]) H wn rfl rfl (H.hp.cB 0 rfl rfl) rfl ?_;clear H;intro a H;exact dZ
  ·refine dO 0 27 2 29 rfl rfl fun _ a w G1 hG HT H fin=>?_;refine iE JK (Li:=[_,_]) (L:=gW b ms ml mr mb mu s1.n :: (mb,fK (gG s1.bN)) :: L) H wn rfl (Kg _ _ _ st li rv b ms ml mr mb mu _ (aqk.mono hG) (Hp.owns (Li:=[_,_]) H.hp) 9 l[k].head _ _ _ (Ii.mono hG) (by omega)) rfl ?_;clear H;rintro v30 _ _ a w ⟨rfl,rfl,rfl⟩ VX H;dsimp only [lca,bM] at H;exact fin H VX (rfl)
  ·refine eY 7 34 rfl rfl fun _ a w G1 hG HT H fin=>?_;refine s_call kr H wn rfl (kF _ _ H.ro _ 11) rfl ?_;clear H;rintro v35 Zu a w ⟨rfl,-⟩ VY H;exact fin H VY (rfl)
  ·refine eY 12 39 rfl rfl fun _ a w G1 hG HT H fin=>?_;refine s_call kr H wn rfl (kF _ _ H.ro _ 9) rfl ?_;clear H;rintro v40 Tm a w ⟨rfl,-⟩ apg H;exact fin H apg (rfl)
  clear H;intro a w G qy H hv;have H:=H.aN (hv 3 30 rfl rfl) rfl;have H:=H.aN (hv 8 35 rfl rfl) rfl;have H:=H.aN (hv 13 40 rfl rfl) rfl;clear hv;refine iV rQ iQ [_,_,_] [_,_,_] H wn rfl rfl rfl rfl rfl (by intro i q h;match i,h with|0,h=>exact h|1,h=>exact h|2,h=>exact h|n+3,h=>simp at h) rfl rfl ?_;clear H;intro b41 a w ayE H;obtain ⟨I9,wS,apV,H⟩:=H.fO;have adL:∀ b o,Gt b=some o->I9 b=some o:=fun b o h=>wS _ _ (qy _ _ (hgm _ _ h));refine s_call sU H wn rfl (sW _ _ H.ro _ _ (Ip [iM (bL us st li rv) 9 l[k].head,dG (decide ((l[k].cells.length:Int)=0)) 11,dG (decide (32 < (l[k].cells.length:Int))) 9] apV (show 3<=maxLen by decide))) rfl ?_;clear H;rintro v42 _ a w ⟨rfl,rfl⟩ - H;refine kH H (Ra rfl ?_);clear H;intro a H;refine aB ⟨rfl,?_⟩;refine eU _ _ ?_;clear eU;refine kP H (SR fun _ eX=>Rm rfl (Rc rfl (Kz eX (Cd rfl ?_ ?_)))) <;> clear H eX
  ·intro DF a H
   try have p44:=dT DF
   have e44:Ee (bL us st li rv) l[k].head l[k].cells.length≠0:=p44
   have hF1:(nK l.length (fun s=>jf (bL us st li rv) note t l s) s).1=Ee (bL us st li rv) l[k].head l[k].cells.length:=by rw [hE,hR,O8 (r:=(Ee (bL us st li rv) l[k].head l[k].cells.length,s1)) e44,O8 e44]
   have hF2:(nK l.length (fun s=>jf (bL us st li rv) note t l s) s).1=0->s1=(nK l.length (fun s=>jf (bL us st li rv) note t l s) s).2:=fun h=>absurd (hF1.symm.trans h) e44;exact kP H (SR fun _ eG=>Rm rfl (aj eG rfl (LR results199 rfl fun H=>H.hp.ng (L':=gW b ms ml mr mb mu s1.n :: (mb,fK (gG s1.bN)) :: L) (by repeat (first|exact lX _|apply List.Sublist.cons)) ⟨s1,cO vi hF1.symm,rfl,hF2⟩)))
  intro DF a H
  try have p44:=dF DF
  have e44:Ee (bL us st li rv) l[k].head l[k].cells.length=0:=oK.1 p44;rw [Jl (r:=(Ee (bL us st li rv) l[k].head l[k].cells.length,s1)) e44] at hR;dsimp only at hR;have aql:=hck.mono adL;replace hcl:=hcl.mono (fun b o h=>wS _ _ (qy b o h));refine kP H (Kc dB (SR fun _ fC=>bO yN zm 0 rfl rfl (Rl qj rfl (Rm rfl (Kz fC (SB ?_))))));clear H dB fC;intro a H;skip;refine fF (ι:=Nat × CS × GH) (Tc:=[(0,_),(5,_),(21,_),(22,_),(23,_),(47,_),(48,_)]) (Lc:=[(_,_),(_,_)]) (fun gh=>[(49,vi gh.1)]) (fun gh=>[gW b ms ml mr mb mu gh.2.1.n,(mb,fK (gG gh.2.1.bN))]++L) (fun gh=>gh.2.2) (fun gh=>gh.1<=l[k].cells.length∧(∀ b o,I9 b=some o->gh.2.2 b=some o)∧jf (bL us st li rv) note t l s=gZ (qV (bL us st li rv) note t (l[k].cells.drop gh.1) gh.2.1) (fun s=>jf (bL us st li rv) note t (l.drop (k+1)) s)∧0<=gh.2.1.n∧gh.2.1.n+(jk (l[k].cells.drop gh.1):Nat)+(iO (l.drop (k+1)):Nat)<=1099511627776) (fun gh=>l[k].cells.length - gh.1) ((0,s1,I9)) (by exact H.sub ⟨rfl,rfl,rfl,rfl,rfl,rfl,rfl,rfl,ay⟩) ?_ ?_
  ·exact ⟨lu _,fun _ _ h=>h,hR,hn0,by dsimp only;rw [wH];omega⟩
  clear H;rintro ⟨c,s2,g2⟩ a w hI H;dsimp only at hI H;obtain ⟨hc,Qy,hR2,hm0,hm1⟩:=hI;have lT:=fun b o h=>Qy b o (adL b o h);dsimp only [lca,bM] at H;refine kP H (SR fun _ gX=>Rc rfl (Kz gX (SQ fun _ fM=>Cd rfl ?_ ?_))) <;> clear H gX
  ·intro h50 a H
   try have p50:=dT h50
   have hk4:c < l[k].cells.length:=by omega
   have arH:=SS hk4
   have aqt:jk (l[k].cells.drop c)=1+cZ l[k].cells[c].dat+jk (l[k].cells.drop (c+1)):=by simp only [jk];rw [rU hk4,fH,fB]
   have hcz:=Er l[k].cells[c];obtain ⟨b3',o3,sA,sn,sc,tA,tn,tc,uA,un,uc,gA,gn,gc,rfl,hrow,hch,hcf⟩:=PE hk4 (hcl.mono Qy).at_;have Ww:=aql.mono Qy;rw [rU hk4,qV,PD] at hR2;obtain ⟨y,hy⟩:∃ y,y=l[k].cells[c]:=⟨_,rfl⟩;rw [<- hy] at hR2 hrow hch hcf hcz arH aqt;refine kP H (Kc fM (SQ fun _ iI=>SB (SR fun _ jH=>Ri qj kE rfl rfl ?_)));clear H fM;intro a H;refine aV kE (cs:=[_,_,_,_,_,_,_]) H wn rfl rfl (fun j v hj=>H.hp.aI (hrow j v hj)) rfl ?_;clear H;intro a H;refine dP kE H wn rfl ?_;clear H;intro b11 a w J9 H;refine bK kE 0 (vs:=[_,_,_,_,_,_,_]) H wn rfl ?_;clear H;intro w H;refine jH _ _ ?_;clear jH;refine kP H (SQ fun _ mK=>SR fun _ mD=>Rm rfl (bO JW aG 0 rfl rfl ?_));clear H;intro a H;refine iE U4 (Li:=[_,_,_]) (L:=gW b ms ml mr mb mu s2.n :: (mb,fK (gG s2.bN)) :: L) H wn rfl (Ut _ _ _ st li rv b ms ml mr mb mu _ s2.bN y.id Ww (Hp.owns (Li:=[_,_,_]) H.hp)) rfl ?_;clear H;rintro v56 _ _ a w ⟨rfl,rfl,rfl⟩ - H;dsimp only [lca,bM] at H;refine kH H (aj mD rfl (SR fun _ kY=>Rm rfl (Rc rfl (Kz kY (Cd rfl ?_ ?_))))) <;> clear H mD kY
   ·intro mg a H
    try have p58:=dT mg
    have hF1:(nK l.length (fun s=>jf (bL us st li rv) note t l s) s).1=rJ us s2.bN y.id:=by rw [hE,hR2];simp [gZ,lU,p58]
    have hF2:(nK l.length (fun s=>jf (bL us st li rv) note t l s) s).1=0->(⟨s2.n,nW us s2.bN y.id⟩:CS)=(nK l.length (fun s=>jf (bL us st li rv) note t l s) s).2:=fun h=>absurd (hF1.symm.trans h) p58;exact kP H (SR fun _ om=>Rm rfl (aj om rfl (LR results199 rfl fun H=>H.hp.ng (L':=gW b ms ml mr mb mu s2.n :: (mb,fK (gG (nW us s2.bN y.id))) :: L) (by repeat (first|exact lX _|apply List.Sublist.cons)) ⟨⟨s2.n,nW us s2.bN y.id⟩,cO vi hF1.symm,rfl,hF2⟩)))
   intro mg a H
   try have p58:=dF mg
   have e58:rJ us s2.bN y.id=0:=oK.1 p58;refine kP H (Kc mK (SQ fun _ oq=>SR fun _ kZ=>Rm rfl (Rf He rfl ?_)));clear H mK;intro a H;refine aV dW (cs:=[_,_,_,_,_]) H wn rfl rfl (H.hp.cB 0 rfl rfl) rfl ?_;clear H;intro a H;refine iE JK (Li:=[_,_,_]) (L:=gW b ms ml mr mb mu s2.n :: (mb,fK (gG (nW us s2.bN y.id))) :: L) H wn rfl (Kg _ _ _ st li rv b ms ml mr mb mu _ Ww (Hp.owns (Li:=[_,_,_]) H.hp) 10 y.head _ _ _ hch (by omega)) rfl ?_;clear H;rintro v63 _ _ a w ⟨rfl,rfl,rfl⟩ - H;dsimp only [lca,bM] at H;refine kH H (aj kZ rfl (SR fun _ qm=>Rm rfl (Rc rfl (Kz qm (Cd rfl ?_ ?_))))) <;> clear H kZ qm
   ·intro uV a H
    try have p65:=dT uV
    have hF1:(nK l.length (fun s=>jf (bL us st li rv) note t l s) s).1=iM (bL us st li rv) 10 y.head:=by rw [hE,hR2];simp [gZ,lU,e58,p65]
    have hF2:(nK l.length (fun s=>jf (bL us st li rv) note t l s) s).1=0->(⟨s2.n,nW us s2.bN y.id⟩:CS)=(nK l.length (fun s=>jf (bL us st li rv) note t l s) s).2:=fun h=>absurd (hF1.symm.trans h) p65;exact kP H (SR fun _ qD=>Rm rfl (aj qD rfl (LR results199 rfl fun H=>H.hp.ng (L':=gW b ms ml mr mb mu s2.n :: (mb,fK (gG (nW us s2.bN y.id))) :: L) (by repeat (first|exact lX _|apply List.Sublist.cons)) ⟨⟨s2.n,nW us s2.bN y.id⟩,cO vi hF1.symm,rfl,hF2⟩)))
   intro uV a H
   try have p65:=dF uV
   have e65:iM (bL us st li rv) 10 y.head=0:=oK.1 p65;refine kP H (Kc oq (SR fun _ qP=>Rm rfl (bO EO kV 0 rfl rfl ?_)));clear H oq;intro a H;refine aV aho (cs:=[_,_,_]) H wn rfl rfl (H.hp.cB 2 rfl rfl) rfl ?_;clear H;intro a H;refine iE Mw (Li:=[_,_,_]) (L:=gW b ms ml mr mb mu s2.n :: (mb,fK (gG (nW us s2.bN y.id))) :: L) H wn rfl (ih _ _ _ st li rv b ms ml mr mb mu ⟨s2.n,nW us s2.bN y.id⟩ y.flow _ false note t Ww (Hp.owns (Li:=[_,_,_]) H.hp) hcf (by omega) ht0 Bf hm0 (by dsimp only;omega)) rfl ?_;clear H;rintro v71 _ _ a w ⟨rfl,s3,rfl,rfl,h3⟩ - H;dsimp only [lca,bM] at H;refine kH H (aj qP rfl (SR fun _ rR=>Rm rfl (Rc rfl (Kz rR (Cd rfl ?_ ?_))))) <;> clear H qP rR
   ·intro VN a H
    try have p73:=dT VN
    have hF1:(nK l.length (fun s=>jf (bL us st li rv) note t l s) s).1=(jO (bL us st li rv) false note t y.flow ⟨s2.n,nW us s2.bN y.id⟩).1:=by rw [hE,hR2];simp [gZ,lU,e58,e65,p73]
    have hF2:(nK l.length (fun s=>jf (bL us st li rv) note t l s) s).1=0->s3=(nK l.length (fun s=>jf (bL us st li rv) note t l s) s).2:=fun h=>absurd (hF1.symm.trans h) p73;exact kP H (SR fun _ qQ=>Rm rfl (aj qQ rfl (LR results199 rfl fun H=>H.hp.ng (L':=gW b ms ml mr mb mu s3.n :: (mb,fK (gG s3.bN)) :: L) (by repeat (first|exact lX _|apply List.Sublist.cons)) ⟨s3,cO vi hF1.symm,rfl,hF2⟩)))
   intro VN a H
   try have p73:=dF VN
   have UM:(jO (bL us st li rv) false note t y.flow ⟨s2.n,nW us s2.bN y.id⟩).1=0:=oK.1 p73;obtain ⟨hu1,hu2⟩:=SF (bL us st li rv) false note t y.flow ⟨s2.n,nW us s2.bN y.id⟩;rw [<- h3 UM] at hu1 hu2;dsimp only at hu1 hu2
   have hS:gZ (gZ (gZ (lU (bL us st li rv) s2 y.id) fun s=>gZ (iM (bL us st li rv) 10 y.head,s) fun s=>jO (bL us st li rv) false note t y.flow s) fun s=>qV (bL us st li rv) note t (l[k].cells.drop (c+1)) s) (fun s=>jf (bL us st li rv) note t (l.drop (k+1)) s)=gZ (qV (bL us st li rv) note t (l[k].cells.drop (c+1)) s3) (fun s=>jf (bL us st li rv) note t (l.drop (k+1)) s):=by
    rw [h3 UM];simp [gZ,lU,e58,e65,UM]
   refine kP H (Kc iI (SC (Rd rfl (Rm rfl ?_))));clear H iI;intro a H;refine aB ?_;refine dJ ((c+1,s3,g2)) (by exact (H.fG (Pl:=[_,_,_,_,_]) (eH:=[_,_,_,_]) [1,2,3,4] (by decide) rfl).sub ⟨rfl,rfl,rfl,rfl,rfl,rfl,rfl,rfl,ay⟩) ?_
   (try dsimp only);exact ⟨by omega,Qy,hR2.trans hS,by omega,by omega⟩
  intro h50 a H
  try have p50:=dF h50
  refine eu ?_;refine bT _ _ ?_;clear bT;refine kP H (SC (Rd rfl (Rm rfl ?_)));clear H;intro a H;refine aB ?_;refine dJ ((k+1,s2,g2)) (by exact (H.fG (Pl:=[_,_,_,_]) (eH:=[_,_,_]) [1,2,3] (by decide) rfl).sub ⟨rfl,rfl,rfl,rfl,rfl,ay⟩) ?_
  (try dsimp only);exact ⟨by omega,lT,by rw [hR2,tX (by omega),qV,Jl rfl],hm0,by omega⟩
 intro bS a H
 try have jP:=dF bS
 refine eu ?_;refine K8 _ _ ?_;clear K8;refine bR (fun _ rT=>?_)
 have hF1:(nK l.length (fun s=>jf (bL us st li rv) note t l s) s).1=0:=by rw [hE,hR,tX (by omega),jf]
 have hF2:(nK l.length (fun s=>jf (bL us st li rv) note t l s) s).1=0->s1=(nK l.length (fun s=>jf (bL us st li rv) note t l s) s).2:=fun h=>by rw [hE,hR,tX (by omega),jf]
 exact kP H (SC (bG rT rfl (LR results199 rfl fun H=>H.hp.ng (L':=gW b ms ml mr mb mu s1.n :: (mb,fK (gG s1.bN)) :: L) (by repeat (first|exact lX _|apply List.Sublist.cons)) ⟨s1,cO vi hF1.symm,rfl,hF2⟩)))
end
section
theorem ame:aQ 199:=aR func199 rfl
theorem amc:aQ 196:=aR func196 rfl
theorem GV:dX prog 133 5 5:=⟨by kernel_rfl⟩
theorem aos:dX prog 129 0 0:=⟨by kernel_rfl⟩
variable {us:List Int}
theorem atK {G:GH} {b:Nat} {x:Int} (h:G b=some (.cells #[vi x] 49 (0,0))):ak G (.sl 1 ([x].map fun k=>[li k])) (.slice (some ⟨b,0,none⟩) 1 1):=Ip [x] h (show 1<=maxLen by decide)
theorem asq {m:Nat} (ih:Jb us m) (hm:m<=4294967296) (Gt:GH) (L:OL) (w0:World) (st:List bY) (li:List fD) (rv:List bV) (b ms ml mr mb mu:Nat) (s:CS) (x:au) (p d y f r:ah) (body note:Bool) (t:Int)
  (hck:xA us Gt st li rv ms ml mr mu) (hO:gY Gt (gW b ms ml mr mb mu s.n :: (mb,fK (gG s.bN)) :: L) w0) (hh:jq Gt x.head p d y) (hf:ak Gt (.sl 11 (x.flow.map au.dat)) f) (hr:ak Gt (.sl 6 (x.rows.map aU.dat)) r) (hz:cZ x.dat<=m) (ht0:0<=t) (Bf:t<=4) (hs0:0<=s.n) (hs1:s.n+(cZ x.dat:Nat)<=1099511627776) :
  Calls prog 134 #[(aK b 0),.agg #[vi x.kind,vi x.code,vi x.id,.string x.text,p,vi x.head.marks.ins,vi x.head.marks.move,d,y,f,r],.agg #[.bool body,.bool note,vi t]] w0 (gF w0 Gt (gW b ms ml mr mb mu s.n :: (mb,fK (gG s.bN)) :: L) fun u G' L'=>OI b ms ml mr mb mu L (fU (bL us st li rv) body note t x s) u L'):=by
 obtain ⟨pA,pn,pc,rfl⟩:=hh.props.form;obtain ⟨dA,dn,dc,rfl⟩:=hh.bJ.form;obtain ⟨lA,ln,lc,rfl⟩:=hh.layers.form;obtain ⟨fA,fc,rfl,-⟩:=hf.slice;obtain ⟨rA,rc,rfl,-⟩:=hr.slice;(iterate 2 rw [bQ] at *);have hxz:=Ac x;have hcl:=abo x.text
 have hus:jL x<=x.text.size+1:=by unfold jL;split <;> omega
 have hE:=aeT (bL us st li rv) body note t x s;refine jD (N:=117) (T:=[(0,_),(1,_),(2,_)]) func134 rfl ntmps134 rfl rfl hO ?_;intro a H;refine dz (fun _ K1=>?_);refine eB (cs:=[_,_,_,_,_,_,_,_,_,_,_]) H wn rfl rfl rfl ?_;clear H;intro b4 a w hb4 H;refine eB (cs:=[_,_,_]) H wn rfl rfl rfl ?_;clear H;intro b5 a w hb5 H;refine kH H (aj K1 rfl (SQ fun _ K2=>SR fun _ K3=>?_));clear H K1;intro a H;refine aV gN (cs:=[_,_,_,_,_,_,_,_,_,_,_]) H wn rfl rfl (H.hp.cB 1 rfl rfl) rfl ?_;clear H;intro a H;refine s_call amc H wn rfl (aoM _ _ H.ro x _ _ _ _ _ _ _ (by omega)) rfl ?_;clear H;rintro v15 _ a w ⟨rfl,rfl⟩ - H;refine kH H (aj K3 rfl (SR fun _ K4=>Rm rfl (Rc rfl (Kz K4 (Cd rfl ?_ ?_))))) <;> clear H K3 K4
 ·intro cu a H
  try have lN:=dT cu
  rw [O8 (r:=(lF x,s)) lN] at hE;exact kP H (SR fun _ K5=>Rm rfl (aj K5 rfl (LR results134 rfl fun H=>H.hp.ng (L':=gW b ms ml mr mb mu s.n :: (mb,fK (gG s.bN)) :: L) (by repeat (first|exact lX _|apply List.Sublist.cons)) ⟨s,by rw [hE],rfl,fun h=>by rw [hE]⟩)))
 intro cu a H
 try have lN:=dF cu
 rw [Jl (r:=(lF x,s)) (oK.1 lN)] at hE;dsimp only at hE;refine kP H (Kc K2 (SR fun _ K6=>Rm rfl (Rk rfl (bO GV aG 2 rfl rfl (Rd rfl (Rk rfl (Rf GV rfl ?_)))))));clear H K2;intro a H;refine bK aG 2 (vs:=[_]) H wn rfl ?_;clear H;intro w H;refine K6 _ _ ?_;clear K6;refine uf (ι:=CS × GH) (Tc:=[(0,_),(4,_),(5,_)]) (Lc:=[(_,_),(_,_)]) (fun gh=>[]) (fun gh=>[gW b ms ml mr mb mu gh.1.n,(mb,fK (gG gh.1.bN))]++L) (fun gh=>gh.2) (fun gh=>nX (bL us st li rv) body note t x.kind x.id ⟨s.n+(jL x:Nat),s.bN⟩=(0,gh.1)∧(∀ b o,Gt b=some o->gh.2 b=some o)∧gh.1.n=s.n+(jL x:Nat)∧(x.kind=7->t < 4)) (by exact H.sub ⟨rfl,rfl,rfl,ay⟩) ?_ ?_
 ·skip;refine kP H (SR fun _ K7=>bO lS aG 1 rfl rfl (Kz K7 (SB (SR fun _ K8=>Rc rfl (aj K8 rfl (Cd rfl ?_ ?_)))))) <;> clear H K7 K8
  ·intro gD a H
   try have p28:=dT gD
   have hu:((jL x:Nat):Int)=uO x.text:=by rw [jL,aD p28]
   refine kP H (SR fun _ K9=>bO vP iR 1 rfl rfl ?_);clear H;intro a H;refine s_call amd H wn rfl (akx _ _ H.ro x.text (by omega)) rfl ?_;clear H;rintro v33 _ a w ⟨rfl,rfl⟩ - H;refine kH H (Rm rfl ?_);clear H;intro a H;(iterate 2 refine mh H wn rfl rfl rfl ?_;clear H;intro a H);refine kH H (Ra rfl (aj K9 rfl (SC (Rm rfl (Rk rfl (bO GV aG 2 rfl rfl (Rm rfl (Rs rfl (Rd rfl ?_)))))))));clear H K9;intro a H;rw [show s.n+1+((uO x.text:Int) - 1)=s.n+(jL x:Nat) by omega] at H;refine kH H (Rk rfl (Rf GV rfl ?_));clear H;intro a H;refine bK aG 2 (vs:=[_]) H wn rfl ?_;clear H;intro w H;refine aB ?_;refine ⟨(⟨s.n+(jL x:Nat),s.bN⟩,Gt),by exact H.sub ⟨rfl,rfl,rfl,ay⟩,?_⟩;(try dsimp only)
   first
   | exact ⟨by simp_all [nX,dG,gZ,lU],fun _ _ h=>h,rfl,fun h7=>by first|omega|(exfalso;simp_all)⟩
   | exact ⟨by simp_all [nX,dG,gZ,lU],wT,rfl,fun h7=>by first|omega|(exfalso;simp_all)⟩
  intro gD a H
  try have p28:=dF gD
  have hu:((jL x:Nat):Int)=1:=by rw [jL,av p28];rfl
  rw [show s.n+1=s.n+((jL x:Nat):Int) by omega] at H;refine kP H (SR fun _ aS=>Rc rfl (aj aS rfl (Cd rfl ?_ ?_))) <;> clear H aS
  ·intro h45 a H
   try have p45:=dT h45
   refine kP H (SR fun _ bH=>bO aos C8 0 rfl rfl (Rn rfl (Kz bH (Cd rfl ?_ ?_)))) <;> clear H bH
   ·intro Qm a H
    try have p49:=dT Qm
    refine bR (fun _ bT=>?_)
    have hF1:(fU (bL us st li rv) body note t x s).1=19:=by rw [hE];simp [gZ,nX,p45,dG,Qm]
    have hF2:(fU (bL us st li rv) body note t x s).1=0->(⟨s.n+(jL x:Nat),s.bN⟩:CS)=(fU (bL us st li rv) body note t x s).2:=fun h=>absurd (hF1.symm.trans h) (by decide);exact kP H (SC (bG bT rfl (LR results134 rfl fun H=>H.hp.ng (L':=gW b ms ml mr mb mu (s.n+(jL x:Nat)) :: (mb,fK (gG (s.bN))) :: L) (by repeat (first|exact lX _|apply List.Sublist.cons)) ⟨⟨s.n+(jL x:Nat),s.bN⟩,cO vi hF1.symm,rfl,hF2⟩)))
   intro Qm a H
   try have p49:=dF Qm
   refine iG ?_;refine ⟨(⟨s.n+(jL x:Nat),s.bN⟩,Gt),by exact H.sub ⟨rfl,rfl,rfl,ay⟩,?_⟩;(try dsimp only)
   first
   | exact ⟨by simp_all [nX,dG,gZ,lU],fun _ _ h=>h,rfl,fun h7=>by first|omega|(exfalso;simp_all)⟩
   | exact ⟨by simp_all [nX,dG,gZ,lU],wT,rfl,fun h7=>by first|omega|(exfalso;simp_all)⟩
  intro h45 a H
  try have p45:=dF h45
  refine kP H (SR fun _ cK=>Rc rfl (aj cK rfl (Cd rfl ?_ ?_))) <;> clear H cK
  ·intro h50 a H
   try have p50:=dT h50
   refine kP H (SQ fun _ dB=>SR fun _ eU=>bO acI C8 0 rfl rfl ?_);clear H;intro a H;refine s_call kr H wn rfl (kF _ _ H.ro _ 19) rfl ?_;clear H;rintro v54 _ a w ⟨rfl,rfl⟩ - H;refine iV rQ iQ [_] [_] H wn rfl rfl rfl rfl rfl (by intro i q h;match i,h with|0,h=>exact h|n+1,h=>simp at h) rfl rfl ?_;clear H;intro b55 a w ayI H;obtain ⟨Ja,wT,apW,H⟩:=H.fO;refine s_call sU H wn rfl (sW _ _ H.ro _ _ (atK apW)) rfl ?_;clear H;rintro v56 _ a w ⟨rfl,rfl⟩ - H;refine kH H (aj eU rfl (SR fun _ eX=>Rm rfl (Rc rfl (Kz eX (Cd rfl ?_ ?_))))) <;> clear H eU eX
   ·intro mg a H
    try have p58:=dT mg
    have e58:dG note 19≠0:=fun h=>p58 (by rw [h];rfl)
    have arT:dS [dG note 19]=dG note 19:=by simp [dS,e58]
    rw [arT] at H
    have hF1:(fU (bL us st li rv) body note t x s).1=dG note 19:=by rw [hE];simp [gZ,nX,p50,e58]
    have hF2:(fU (bL us st li rv) body note t x s).1=0->(⟨s.n+(jL x:Nat),s.bN⟩:CS)=(fU (bL us st li rv) body note t x s).2:=fun h=>absurd (hF1.symm.trans h) (e58);exact kP H (SR fun _ eG=>Rm rfl (aj eG rfl (LR results134 rfl fun H=>H.hp.ng (L':=gW b ms ml mr mb mu (s.n+(jL x:Nat)) :: (mb,fK (gG (s.bN))) :: L) (by repeat (first|exact lX _|apply List.Sublist.cons)) ⟨⟨s.n+(jL x:Nat),s.bN⟩,cO vi hF1.symm,rfl,hF2⟩)))
   intro mg a H
   try have p58:=dF mg
   have e58:dG note 19=0:=Decidable.byContradiction fun h=>p58 (by simp [dS,h]);refine kP H (Kc dB (SR fun _ fC=>Rm rfl (bO JV aG 1 rfl rfl ?_)));clear H dB;intro a H;refine iE U4 (Li:=[_,_]) (L:=gW b ms ml mr mb mu _ :: (mb,fK (gG s.bN)) :: L) H wn rfl (Ut _ _ _ st li rv b ms ml mr mb mu _ s.bN x.id (hck.mono wT) (Hp.owns (Li:=[_,_]) H.hp)) rfl ?_;clear H;rintro v63 _ _ a w ⟨rfl,rfl,rfl⟩ - H;dsimp only [lca,bM] at H;refine kH H (aj fC rfl (SR fun _ gX=>Rm rfl (Rc rfl (Kz gX (Cd rfl ?_ ?_))))) <;> clear H fC gX
   ·intro uV a H
    try have p65:=dT uV
    have hF1:(fU (bL us st li rv) body note t x s).1=rJ us s.bN x.id:=by rw [hE];simp [gZ,nX,p50,e58,lU,p65]
    have hF2:(fU (bL us st li rv) body note t x s).1=0->(⟨s.n+(jL x:Nat),nW us s.bN x.id⟩:CS)=(fU (bL us st li rv) body note t x s).2:=fun h=>absurd (hF1.symm.trans h) (p65);exact kP H (SR fun _ fM=>Rm rfl (aj fM rfl (LR results134 rfl fun H=>H.hp.ng (L':=gW b ms ml mr mb mu (s.n+(jL x:Nat)) :: (mb,fK (gG (nW us s.bN x.id))) :: L) (by repeat (first|exact lX _|apply List.Sublist.cons)) ⟨⟨s.n+(jL x:Nat),nW us s.bN x.id⟩,cO vi hF1.symm,rfl,hF2⟩)))
   intro uV a H
   try have p65:=dF uV
   have e65:rJ us s.bN x.id=0:=oK.1 p65;refine iG ?_;refine ⟨(⟨s.n+(jL x:Nat),nW us s.bN x.id⟩,Ja),by exact H.sub ⟨rfl,rfl,rfl,ay⟩,?_⟩;(try dsimp only)
   first
   | exact ⟨by simp_all [nX,dG,gZ,lU],fun _ _ h=>h,rfl,fun h7=>by first|omega|(exfalso;simp_all)⟩
   | exact ⟨by simp_all [nX,dG,gZ,lU],wT,rfl,fun h7=>by first|omega|(exfalso;simp_all)⟩
  intro h50 a H
  try have p50:=dF h50
  refine kP H (SR fun _ iI=>Rc rfl (aj iI rfl (Cd rfl ?_ ?_))) <;> clear H iI
  ·intro VK a H
   try have p67:=dT VK
   refine kP H (SQ fun _ jH=>SR fun _ mK=>bO Vk aG 0 rfl rfl (Rc rfl (Kz mK (Cd rfl ?_ ?_)))) <;> clear H mK
   ·intro VL a H
    try have p71:=dT VL
    refine bR (fun _ mD=>?_)
    have hF1:(fU (bL us st li rv) body note t x s).1=17:=by rw [hE];simp [gZ,nX,p67,dG,p71]
    have hF2:(fU (bL us st li rv) body note t x s).1=0->(⟨s.n+(jL x:Nat),s.bN⟩:CS)=(fU (bL us st li rv) body note t x s).2:=fun h=>absurd (hF1.symm.trans h) (by decide);exact kP H (SC (bG mD rfl (LR results134 rfl fun H=>H.hp.ng (L':=gW b ms ml mr mb mu (s.n+(jL x:Nat)) :: (mb,fK (gG (s.bN))) :: L) (by repeat (first|exact lX _|apply List.Sublist.cons)) ⟨⟨s.n+(jL x:Nat),s.bN⟩,cO vi hF1.symm,rfl,hF2⟩)))
   intro VL a H
   try have p71:=dF VL
   have e71:¬ 4<=t:=by omega
   refine kP H (Kc jH (SR fun _ kY=>Rm rfl (bO JV aG 1 rfl rfl ?_)));clear H jH;intro a H;refine iE U4 (Li:=[_,_]) (L:=gW b ms ml mr mb mu _ :: (mb,fK (gG s.bN)) :: L) H wn rfl (Ut _ _ _ st li rv b ms ml mr mb mu _ s.bN x.id hck (Hp.owns (Li:=[_,_]) H.hp)) rfl ?_;clear H;rintro v75 _ _ a w ⟨rfl,rfl,rfl⟩ - H;dsimp only [lca,bM] at H;refine kH H (aj kY rfl (SR fun _ om=>Rm rfl (Rc rfl (Kz om (Cd rfl ?_ ?_))))) <;> clear H kY om
   ·intro Hq a H
    try have KJ:=dT Hq
    have hF1:(fU (bL us st li rv) body note t x s).1=rJ us s.bN x.id:=by rw [hE];simp [gZ,nX,p67,dG,e71,lU,KJ]
    have hF2:(fU (bL us st li rv) body note t x s).1=0->(⟨s.n+(jL x:Nat),nW us s.bN x.id⟩:CS)=(fU (bL us st li rv) body note t x s).2:=fun h=>absurd (hF1.symm.trans h) (KJ);exact kP H (SR fun _ oq=>Rm rfl (aj oq rfl (LR results134 rfl fun H=>H.hp.ng (L':=gW b ms ml mr mb mu (s.n+(jL x:Nat)) :: (mb,fK (gG (nW us s.bN x.id))) :: L) (by repeat (first|exact lX _|apply List.Sublist.cons)) ⟨⟨s.n+(jL x:Nat),nW us s.bN x.id⟩,cO vi hF1.symm,rfl,hF2⟩)))
   intro Hq a H
   try have KJ:=dF Hq
   have e77:rJ us s.bN x.id=0:=oK.1 KJ;refine iG ?_;refine ⟨(⟨s.n+(jL x:Nat),nW us s.bN x.id⟩,Gt),by exact H.sub ⟨rfl,rfl,rfl,ay⟩,?_⟩;(try dsimp only)
   first
   | exact ⟨by simp_all [nX,dG,gZ,lU],fun _ _ h=>h,rfl,fun h7=>by first|omega|(exfalso;simp_all)⟩
   | exact ⟨by simp_all [nX,dG,gZ,lU],wT,rfl,fun h7=>by first|omega|(exfalso;simp_all)⟩
  intro VK a H
  try have p67:=dF VK
  refine kP H (SR fun _ kZ=>Rc rfl (aj kZ rfl (Cd rfl ?_ ?_))) <;> clear H kZ
  ·intro EU a H
   try have Ya:=dT EU
   refine kP H (SR fun _ qm=>bO JV aG 1 rfl rfl ?_);clear H;intro a H;refine s_call yI H wn rfl (yV _ _ H.ro x.id 1 1073741824) rfl ?_;clear H;rintro v83 _ a w ⟨rfl,rfl⟩ - H;refine kH H (Rn rfl (Kz qm (Cd rfl ?_ ?_))) <;> clear H qm
   ·intro h84 a H
    try have p84:=dT h84
    refine bR (fun _ qD=>?_)
    have e84:¬ (1<=x.id∧x.id<=1073741824):=by have h0:=h84;simp at h0;omega
    have hF1:(fU (bL us st li rv) body note t x s).1=18:=by rw [hE];simp [gZ,nX,Ya,dG,e84]
    have hF2:(fU (bL us st li rv) body note t x s).1=0->(⟨s.n+(jL x:Nat),s.bN⟩:CS)=(fU (bL us st li rv) body note t x s).2:=fun h=>absurd (hF1.symm.trans h) (by decide);exact kP H (SC (bG qD rfl (LR results134 rfl fun H=>H.hp.ng (L':=gW b ms ml mr mb mu (s.n+(jL x:Nat)) :: (mb,fK (gG (s.bN))) :: L) (by repeat (first|exact lX _|apply List.Sublist.cons)) ⟨⟨s.n+(jL x:Nat),s.bN⟩,cO vi hF1.symm,rfl,hF2⟩)))
   intro h84 a H
   try have p84:=dF h84
   refine iG ?_;refine ⟨(⟨s.n+(jL x:Nat),s.bN⟩,Gt),by exact H.sub ⟨rfl,rfl,rfl,ay⟩,?_⟩;(try dsimp only)
   first
   | exact ⟨by simp_all [nX,dG,gZ,lU],fun _ _ h=>h,rfl,fun h7=>by first|omega|(exfalso;simp_all)⟩
   | exact ⟨by simp_all [nX,dG,gZ,lU],wT,rfl,fun h7=>by first|omega|(exfalso;simp_all)⟩
  intro EU a H
  try have Ya:=dF EU
  refine iG ?_;refine ⟨(⟨s.n+(jL x:Nat),s.bN⟩,Gt),by exact H.sub ⟨rfl,rfl,rfl,ay⟩,?_⟩;(try dsimp only)
  first
  | exact ⟨by simp_all [nX,dG,gZ,lU],fun _ _ h=>h,rfl,fun h7=>by first|omega|(exfalso;simp_all)⟩
  | exact ⟨by simp_all [nX,dG,gZ,lU],wT,rfl,fun h7=>by first|omega|(exfalso;simp_all)⟩
 clear H;rintro ⟨s1,g⟩ a w hI H;dsimp only at hI H;obtain ⟨hP,yT,azh,ht7⟩:=hI;rw [hP,Jl rfl] at hE;dsimp only at hE;replace hck:=hck.mono yT;replace hh:=hh.mono yT;replace hf:=hf.mono yT;replace hr:=hr.mono yT;dsimp only [lca,bM] at H;refine kP H (SQ fun _ qP=>SR fun _ rR=>Rm rfl (bO lS aG 1 rfl rfl (Rf wK rfl ?_)));clear H;intro a H;refine aV dW (cs:=[_,_,_,_,_]) H wn rfl rfl (H.hp.cB 1 rfl rfl) rfl ?_;clear H;intro a H;refine iE JK (Li:=[_,_]) (L:=gW b ms ml mr mb mu s1.n :: (mb,fK (gG s1.bN)) :: L) H wn rfl (Kg _ _ _ st li rv b ms ml mr mb mu _ hck (Hp.owns (Li:=[_,_]) H.hp) x.kind x.head _ _ _ hh (by omega)) rfl ?_;clear H;rintro v90 _ _ a w ⟨rfl,rfl,rfl⟩ - H;dsimp only [lca,bM] at H;refine kH H (aj rR rfl (SR fun _ qQ=>Rm rfl (Rc rfl (Kz qQ (Cd rfl ?_ ?_))))) <;> clear H rR qQ
 ·intro Hr a H
  try have KL:=dT Hr
  have hF1:(fU (bL us st li rv) body note t x s).1=iM (bL us st li rv) x.kind x.head:=by rw [hE,O8 (r:=(iM (bL us st li rv) x.kind x.head,s1)) KL]
  have hF2:(fU (bL us st li rv) body note t x s).1=0->s1=(fU (bL us st li rv) body note t x s).2:=fun h=>absurd (hF1.symm.trans h) KL;exact kP H (SR fun _ rT=>Rm rfl (aj rT rfl (LR results134 rfl fun H=>H.hp.ng (L':=gW b ms ml mr mb mu (s1.n) :: (mb,fK (gG (s1.bN))) :: L) (by repeat (first|exact lX _|apply List.Sublist.cons)) ⟨s1,cO vi hF1.symm,rfl,hF2⟩)))
 intro Hr a H
 try have KL:=dF Hr
 rw [Jl (r:=(iM (bL us st li rv) x.kind x.head,s1)) (oK.1 KL)] at hE;dsimp only at hE;refine kP H (Kc qP (SQ fun _ vD=>SR fun _ sN=>bO lS aG 1 rfl rfl (Kz sN (SB (SR fun _ xB=>Rc rfl (aj xB rfl (Cd rfl ?_ ?_))))))) <;> clear H qP sN xB
 ·intro uW a H
  try have NK:=dT uW
  rw [aD NK] at hE;refine kP H (SR fun _ BH=>Rm rfl (bO zK kV 1 rfl rfl (bO Vk aG 0 rfl rfl ?_)));clear H;intro a H;refine jF NZ [_,_,_] H wn rfl rfl rfl rfl ?_;clear H;intro a H;refine iE Mw (Li:=[_,_]) (L:=gW b ms ml mr mb mu s1.n :: (mb,fK (gG s1.bN)) :: L) H wn rfl (ih _ _ _ st li rv b ms ml mr mb mu s1 x.flow _ false true t hck (Hp.owns (Li:=[_,_]) H.hp) hf (by omega) ht0 Bf (by omega) (by omega)) rfl ?_;clear H;rintro axF _ _ a w ⟨rfl,s3,rfl,rfl,h3⟩ - H;dsimp only [lca,bM] at H
  have hF1:(fU (bL us st li rv) body note t x s).1=(jO (bL us st li rv) false true t x.flow s1).1:=by rw [hE]
  have hF2:(fU (bL us st li rv) body note t x s).1=0->s3=(fU (bL us st li rv) body note t x s).2:=by rw [hE];exact h3
  exact kH H (aj BH rfl (LR results134 rfl fun H=>H.hp.ng (L':=gW b ms ml mr mb mu (s3.n) :: (mb,fK (gG (s3.bN))) :: L) (by repeat (first|exact lX _|apply List.Sublist.cons)) ⟨s3,cO vi hF1.symm,rfl,hF2⟩))
 intro uW a H
 try have NK:=dF uW
 rw [av NK] at hE;refine kP H (SR fun _ BI=>Rc rfl (aj BI rfl (Cd rfl ?_ ?_))) <;> clear H BI
 ·intro sZ a H
  try have KI:=dT sZ
  rw [aD KI] at hE;refine kP H (SR fun _ qE=>Rm rfl (bO um uE 1 rfl rfl (bO acI C8 0 rfl rfl (bO Vk aG 0 rfl rfl (Rd rfl ?_)))));clear H;intro a H;refine jF NZ [_,_,_] H wn rfl rfl rfl rfl ?_;clear H;intro a H;refine iE ame (Li:=[_,_]) (L:=gW b ms ml mr mb mu s1.n :: (mb,fK (gG s1.bN)) :: L) H wn rfl (rows_ok ih hm _ _ _ st li rv b ms ml mr mb mu s1 x.rows _ note (t+1) hck (Hp.owns (Li:=[_,_]) H.hp) hr (by omega) (by omega) (by have:=ht7 KI;omega) (by omega) (by omega)) rfl ?_;clear H;rintro azx _ _ a w ⟨s3,rfl,rfl,h3⟩ - H;dsimp only [lca,bM] at H
  have hF1:(fU (bL us st li rv) body note t x s).1=(nK x.rows.length (fun s=>jf (bL us st li rv) note (t+1) x.rows s) s1).1:=by rw [hE]
  have hF2:(fU (bL us st li rv) body note t x s).1=0->s3=(fU (bL us st li rv) body note t x s).2:=by rw [hE];exact h3
  exact kH H (aj qE rfl (LR results134 rfl fun H=>H.hp.ng (L':=gW b ms ml mr mb mu (s3.n) :: (mb,fK (gG (s3.bN))) :: L) (by repeat (first|exact lX _|apply List.Sublist.cons)) ⟨s3,cO vi hF1.symm,rfl,hF2⟩))
 intro sZ a H
 try have KI:=dF sZ
 rw [av KI] at hE
 have hF1:(fU (bL us st li rv) body note t x s).1=0:=by rw [hE]
 have hF2:(fU (bL us st li rv) body note t x s).1=0->s1=(fU (bL us st li rv) body note t x s).2:=fun h=>by rw [hE]
 exact kP H (Kc vD (SR fun _ Dg=>aj Dg rfl (LR results134 rfl fun H=>H.hp.ng (L':=gW b ms ml mr mb mu (s1.n) :: (mb,fK (gG (s1.bN))) :: L) (by repeat (first|exact lX _|apply List.Sublist.cons)) ⟨s1,cO vi hF1.symm,rfl,hF2⟩)))
end
section
theorem alo:aQ 134:=aR func134 rfl
theorem aln:aQ 133:=aR func133 rfl
variable {us:List Int}
def ZE (fv:ah) (Gi:GH) (n:Nat) (E:Nat->Int) {σ:Type} (B:σ->OL) (S:Nat->σ):Prop:=∀ i,i < n->∀ (G1:GH) (w1:World),(∀ b o,Gi b=some o->G1 b=some o)->gY G1 (B (S i)) w1 ->
 sK prog fv [vi i] w1 (gF w1 G1 (B (S i)) fun u G' L'=>∃ s,u=vi (E i)∧L'=B s∧(E i=0->s=S (i+1)))
theorem aiL (G:GH) (w0:World) {σ:Type} (B:σ->OL) (S:Nat->σ) (n:Nat) (E:Nat->Int) (fv:ah) (hO:gY G (B (S 0)) w0) (hn:n<=4611686018427387904) (hf:ZE fv G n E B S) :
  Calls prog 123 #[vi n,fv] w0 (gF w0 G (B (S 0)) fun u G' L'=>∃ s,u=vi (iW E n)∧L'=B s∧(iW E n=0->s=S n)):=by
 refine jD (N:=18) (T:=[(0,_),(1,_)]) func123 rfl ntmps123 rfl rfl hO ?_;intro a H;refine kP H (SR fun _ K1=>aj K1 rfl (SQ fun _ K2=>SR fun _ K3=>Rm rfl (Rm rfl (Kz K3 (SB ?_)))));clear H K1 K3;intro a H;skip;refine fF (ι:=Nat × GH) (Tc:=[(1,_),(7,_)]) (Lc:=[]) (fun gh=>[(8,vi gh.1)]) (fun gh=>[]++B (S gh.1)) (fun gh=>gh.2) (fun gh=>gh.1<=n∧dS (((List.range n).map E).drop gh.1)=iW E n∧(∀ b o,G b=some o->gh.2 b=some o)) (fun gh=>n - gh.1) ((0,G)) (by exact H.sub ⟨rfl,rfl,rfl,ay⟩) ?_ ?_
 ·exact EF
 clear H;rintro ⟨k,g⟩ a w hI H;dsimp only at hI H;obtain ⟨hk,he,hgm⟩:=hI;dsimp only [lca,bM] at H;refine kP H (SR fun _ K4=>Rc rfl (Kz K4 (SQ fun _ K5=>Cd rfl ?_ ?_))) <;> clear H K4
 ·intro h9 a H
  try have p9:=dT h9
  have hk2:k < n:=by omega
  refine kP H (Kc K5 (SQ fun _ K6=>SB (SR fun _ K7=>Rm rfl (aj K7 rfl (SR fun _ K8=>Rm rfl (Rm rfl ?_))))));clear H K5 K7;intro a H;refine Eh (Li:=[]) (L:=B (S k)) H wn rfl rfl (hf k hk2 _ _ hgm (Hp.owns (Li:=[]) H.hp)) rfl ?_;clear H;rintro v13 I7 L13 a w ⟨s3,rfl,rfl,h3⟩ M0 H;refine kH H (aj K8 rfl (SR fun _ K9=>Rm rfl (Rc rfl (Kz K9 (Cd rfl ?_ ?_))))) <;> clear H K8 K9
  ·intro jN a H
   try have tF:=dT jN
   have hE:iW E n=E k:=by rw [Gg hk2,aD tF] at he;exact he.symm
   exact kP H (SR fun _ aS=>Rm rfl (aj aS rfl (LR results123 rfl fun H=>H.hp.gT ⟨s3,by rw [hE],rfl,fun h=>absurd (hE.symm.trans h) tF⟩)))
  intro jN a H
  try have tF:=dF jN
  have hS:=h3 (oK.1 tF);subst hS;refine kP H (Kc K6 (SC (Rd rfl (Rm rfl ?_))));clear H K6;intro a H;refine aB ?_;refine dJ ((k+1,I7)) (by exact H.sub ⟨rfl,rfl,rfl,ay⟩) ?_
  (try dsimp only);exact aaw
 intro h9 a H
 try have p9:=dF h9
 refine eu ?_;refine K2 _ _ ?_;clear K2;exact kP H (SR fun _ bH=>aj bH rfl (LR results123 rfl fun H=>H.hp.gT ⟨S n,cO vi (by rw [tX (by simp;omega)] at he;exact he),by rw [show k=n by omega],fun _=>rfl⟩))
abbrev PK (b ms ml mr mb mu:Nat) (L:OL) (s:CS):OL:=gW b ms ml mr mb mu s.n :: (mb,fK (gG s.bN)) :: L
theorem aso {m:Nat} (ih:Jb us m) (hm:m<=4294967296) {G:GH} {L:OL} {st:List bY} {li:List fD} {rv:List bV} {b ms ml mr mb mu:Nat} {s:CS} {l:List au} {v:ah} {body note:Bool} {t:Int} {x3 x4 x5:Nat}
  (hck:xA us G st li rv ms ml mr mu) (h3:aI G x3 0=some (aK b 0)) (h4:aI G x4 0=some v) (h5:∀ (j:Nat) (u:ah),[.bool body,.bool note,vi t][j]?=some u->aI G x5 (0+j)=some u)
  (hv:ak G (.sl 11 (l.map au.dat)) v) (hz:dx l<=m) (ht0:0<=t) (Bf:t<=4) (hs0:0<=s.n) (hs1:s.n+(dx l:Nat)<=1099511627776) :
  ZE (.func (.func 133) #[] #[(aK x3 0),(aK x4 0),(aK x5 0)]) G l.length (Dw (fU (bL us st li rv) body note t) l s) (PK b ms ml mr mb mu L) (sH (fU (bL us st li rv) body note t) l s):=by
 intro k hk G1 w0 M8 hO;refine jv (caps:=[(aK x3 0),(aK x4 0),(aK x5 0)]) aln ?_;replace h3:=aF M8 h3;replace h4:=aF M8 h4;replace h5:=fun j u hj=>aF M8 (h5 j u hj);replace hck:=hck.mono M8;replace hv:=hv.mono M8;obtain ⟨A,c,rfl,hc1,hc2,hg⟩:=hv.slice;rw [bQ] at *;obtain ⟨o,xo,pA,pn,pc,dA,dn,dc,yA,yn,yc,fA,fn,fc,rA,rn,rc,rfl,hrow,hhd,hfl,hrw⟩:=JX hk hg;obtain ⟨hn0,hn1⟩:=ahD (bL us st li rv) body note t l s k (by omega)
 have hdz:dx (l.drop k)=1+cZ l[k].dat+dx (l.drop (k+1)):=by
  simp only [dx];rw [rU hk,fH,fB]
 have hzm:=Ze (lC hk)
 have hE:Dw (fU (bL us st li rv) body note t) l s k=(fU (bL us st li rv) body note t l[k] (sH (fU (bL us st li rv) body note t) l s k)).1:=by unfold Dw;rw [eD hk]
 have hS:sH (fU (bL us st li rv) body note t) l s (k+1)=(fU (bL us st li rv) body note t l[k] (sH (fU (bL us st li rv) body note t) l s k)).2:=by rw [sH,eD hk]
 rw [hE,hS]
 generalize sH (fU (bL us st li rv) body note t) l s k=s1 at *
 refine jD (N:=13) (T:=[(0,_),(1,_),(2,_),(3,_)]) func133 rfl ntmps133 rfl rfl hO ?_;intro a H;refine kP H (SR fun _ K1=>aj K1 rfl (SQ fun _ K2=>?_));clear H K1;intro a H;refine dI hmx [[],[],[],[1,2],[1,2,3],[],ra 0 6,ra 0 7] [6,7] (by kernel_rfl) [_,_,_,_,.agg #[vi l[k].kind,vi l[k].code,vi l[k].id,.string l[k].text,.slice pA pn pc,vi l[k].head.marks.ins,vi l[k].head.marks.move,.slice dA dn dc,.slice yA yn yc,.slice fA fn fc,.slice rA rn rc],.agg #[.bool body,.bool note,vi t]] H (aC (X0 rfl fun hG=>Rg KW rfl (aF hG h3)) (X0 rfl fun hG=>Rg kV rfl (aF hG h4)) (Z0 rfl (Rm rfl)) (Z2 1 7 2 8 rfl (Ri jo gN rfl rfl)) (aC ?_ ?_ (bU rfl) (bU rfl) dH)) ?_
 ·refine eY 3 9 rfl rfl fun _ a w G1 hG HT H fin=>?_;refine aV gN (cs:=[_,_,_,_,_,_,_,_,_,_,_]) H wn rfl rfl (fun j v hj=>H.hp.aI (aF hG (hrow j v hj))) rfl ?_;clear H;intro a H;exact dZ
 ·refine Dh rfl fun _ a w G1 hG HT H fin=>?_;refine aV aho (cs:=[.bool body,.bool note,vi t]) H wn rfl rfl (fun j v hj=>H.hp.aI (aF hG (h5 j v hj))) rfl ?_;clear H;intro a H;exact dZ
 clear H;intro a w G jy H hv;have H:=H.aN (hv 0 6 rfl rfl) rfl;have H:=H.aN (hv 4 10 rfl rfl) rfl;have H:=H.aN (hv 5 11 rfl rfl) rfl;clear hv;refine iE alo (Li:=[]) (L:=PK b ms ml mr mb mu L s1) H wn rfl (asq ih hm _ _ _ st li rv b ms ml mr mb mu s1 l[k] _ _ _ _ _ body note t (hck.mono jy) (Hp.owns (Li:=[]) H.hp) (hhd.mono jy) (hfl.mono jy) (hrw.mono jy) (by omega) ht0 Bf (by omega) (by omega)) rfl ?_;clear H;rintro v12 _ _ a w ⟨s3,rfl,rfl,h12⟩ - H;dsimp only [List.nil_append] at H;refine kH H (Ra rfl ?_);clear H;intro a H;refine aB ⟨rfl,?_⟩;refine K2 _ _ ?_;clear K2;refine lr H results133 rfl ?_;exact H.hp.gT ⟨s3,rfl,rfl,h12⟩
theorem asr {m:Nat} (ih:Jb us m) (hm:m<=4294967296):Jb us (m+1):=by
 intro G L w0 st li rv b ms ml mr mb mu s l v body note t hck hO hv hz ht0 Bf hs0 hs1;obtain ⟨hA1,hA2⟩:=aeU (bL us st li rv) body note t l s;refine Calls.aiO (R:=fun u G' L'=>OI b ms ml mr mb mu L (jO (bL us st li rv) body note t l s) u L') ?_ fun _ _ _ h=>h;obtain ⟨A,c,rfl,hc1,hc2,-⟩:=hv.slice;rw [bQ] at *;have hll:=Ll l;refine jD (N:=11) (T:=[(0,_),(1,_),(2,_)]) func72 rfl ntmps72 rfl rfl hO ?_;intro a H;refine dz (fun _ K1=>?_);refine eB (cs:=[_]) H wn rfl rfl rfl ?_;clear H;intro b3 a w hb3 H;refine eB (cs:=[_]) H wn rfl rfl rfl ?_;clear H;intro b4 a w hb4 H;refine eB (cs:=[_,_,_]) H wn rfl rfl rfl ?_;clear H;intro b5 a w hb5 H;refine kH H (aj K1 rfl (SQ fun _ K2=>?_));clear H K1;intro a H;obtain ⟨Ga5,QE,Cq,H⟩:=H.fO;obtain ⟨Ga4,Kr,AV,H⟩:=H.fO;obtain ⟨Ga,Fg,wQ,H⟩:=H.fO;replace Cq:=Fg _ _ (Kr _ _ Cq);replace AV:=Fg _ _ AV;have hma:∀ b o,G b=some o->Ga b=some o:=fun b o h=>Fg _ _ (Kr _ _ (QE _ _ h))
 have g3:aI Ga b3 0=some (aK b 0):=by unfold aI;rw [wQ];rfl
 have g4:aI Ga b4 0=some (.slice A l.length c):=by unfold aI;rw [AV];rfl
 have g5:∀ (j:Nat) (u:ah),[.bool body,.bool note,vi t][j]?=some u->aI Ga b5 (0+j)=some u:=by
  intro j u hj;unfold aI;rw [Cq];simpa using hj
 have hcb:=aso (mb:=mb) (L:=L) (s:=s) ih hm (hck.mono hma) g3 g4 g5 (hv.mono hma) (by omega) ht0 Bf hs0 hs1;refine kP H (SC (Rg kV rfl (by assumption) ?_));clear H;intro a H;refine kH H (Rl jo rfl ?_);clear H;intro a H;refine qd H wn rfl rfl ?_;clear H;intro a H;refine iE JI (Li:=[]) (L:=PK b ms ml mr mb mu L s) H wn rfl (aiL _ _ (PK b ms ml mr mb mu L) (sH (fU (bL us st li rv) body note t) l s) l.length (Dw (fU (bL us st li rv) body note t) l s) _ (Hp.owns (Li:=[]) H.hp) (by omega) hcb) rfl ?_;clear H;rintro v10 _ _ a w ⟨s3,rfl,rfl,h10⟩ - H;dsimp only [List.nil_append] at H;exact kH H (bG K2 rfl (LR results72 rfl fun H=>H.hp.gT ⟨s3,by rw [hA1],rfl,fun h=>by rw [hA1] at h;exact (h10 h).trans (hA2 (hA1.trans h)).symm⟩))
theorem QY:∀ m:Nat,m<=4294967297->Jb us m
 | 0,_=>fun _ _ _ _ _ _ _ _ _ _ _ _ _ _ _ _ _ _ _ _ _ h=>absurd h (by omega)
 | m+1,hm=>asr (QY m (by omega)) (by omega)
end
theorem aon:dX prog 102 1 1:=⟨by kernel_rfl⟩
theorem aoo:dX prog 102 2 2:=⟨by kernel_rfl⟩
theorem alj:aQ 126:=aR func126 rfl
theorem ali:aQ 124:=aR func124 rfl
theorem avy {G:GH} {bl:Nat} {l:List bV} {A:Option Addr} {n c:Nat} (hb:aI G bl 0=some (.slice A n c)) (hv:ak G (.sl 3 (l.map bV.dat)) (.slice A n c)):vC (.func (.func 126) #[] #[(aK bl 0)]) G l.length fun k=>(l[k]?.map bV.id).getD 0:=by
 intro k hk G1 w0 hm hG;refine jv (caps:=[(aK bl 0)]) alj ?_;replace hb:=aF hm hb
 obtain rfl:n=l.length:=by have:=hv.len;simpa using this
 obtain ⟨b,o,rfl,hrow⟩:=Yt (hv.mono hm) hk;have hq:=hrow 0 _ rfl;refine eN [(0,_),(1,_)] func126 rfl ntmps126 rfl rfl hG ?_;intro a H;refine kP H (SR fun _ K1=>aj K1 rfl (SR fun _ K2=>Rg xu rfl (by assumption) ?_));clear H K1;intro a H;refine kH H (Rm rfl (Ri oh og rfl rfl (Rf Vj rfl (Rg aG rfl (by assumption) ?_))));clear H;intro a H;exact kH H (aj K2 rfl (LR results126 rfl fun H=>H.rt (by dsimp only;rw [eD hk];rfl)))
def RQ (l:List bV) (i:Nat) (x:bV):Int:=dS [wW (fun k=>(l[k]?.map bV.id).getD 0) i,dG (!xH x.author) 39,dG (!decide (0<=x.time∧x.time<=1099511627776)) 40]
def CJ (l:List bV) (i:Nat):Int:=match l[i]? with|some x=>RQ l i x|none=>0
theorem auQ {G:GH} {bl:Nat} {l:List bV} {A:Option Addr} {n c:Nat} (hb:aI G bl 0=some (.slice A n c)) (hv:ak G (.sl 3 (l.map bV.dat)) (.slice A n c)) (hl:l.length<=4294967296) (ht:∀ x∈l,x.author.size < 4611686018427387904):vC (.func (.func 124) #[] #[(aK bl 0)]) G l.length (CJ l):=by
 intro k hk G1 w0 hm hG;refine jv (caps:=[(aK bl 0)]) ali ?_;replace hb:=aF hm hb;replace hv:=hv.mono hm;have hcb:=avy hb hv
 obtain rfl:n=l.length:=by have:=hv.len;simpa using this
 obtain ⟨b,o,rfl,hrow⟩:=Yt hv hk;have hte:=ht _ (lC hk)
 have he:CJ l k=RQ l k l[k]:=by unfold CJ;rw [eD hk]
 obtain ⟨x,hx⟩:∃ x,x=l[k]:=⟨_,rfl⟩;rw [<- hx] at hrow hte he;refine eN [(0,_),(1,_)] func124 rfl ntmps124 rfl rfl hG ?_;intro a H;refine kP H (SR fun _ K1=>aj K1 rfl (SQ fun _ K2=>?_));clear H K1;intro a H;have H:=H.sub (T':=[(0,_),(1,_)]) ⟨rfl,rfl,ay⟩;refine dI hmx [[],[],[0,1],[],[],[3,4],[3,4,5],ra 3 4,ra 0 8,ra 0 9,ra 0 10,[],[],[11,12],[11,12,13],ra 11 4,ra 0 16,ra 0 17,ra 0 18,ra 0 19,ra 0 20,ra 0 21] [19,20,21] (by kernel_rfl) [_,.func (.func 126) #[] #[(aK bl 0)],vi (wW (fun k=>(l[k]?.map bV.id).getD 0) k),_,_,_,_,_,.bool (xH x.author),_,vi (dG (!xH x.author) 39),_,_,_,_,_,.bool (decide (0<=x.time∧x.time<=1099511627776)),_,vi (dG (!decide (0<=x.time∧x.time<=1099511627776)) 40)] H (aC (Z0 rfl (Rm rfl)) ?_ ?_ (X0 rfl fun hG=>Rg xu rfl (aF hG hb)) (aC (Z0 rfl (Rm rfl)) (Z2 3 7 4 8 rfl (Ri oh og rfl rfl)) (Z1 5 9 rfl (Rf aon rfl)) (X1 6 10 rfl fun hG=>Rg iR rfl (aF hG (hrow 1 _ rfl))) (aC ?_ (Z1 8 12 rfl (Rn rfl)) ?_ (X0 rfl fun hG=>Rg xu rfl (aF hG hb)) (aC (Z0 rfl (Rm rfl)) (Z2 11 15 12 16 rfl (Ri oh og rfl rfl)) (Z1 13 17 rfl (Rf aoo rfl)) (X1 14 18 rfl fun hG=>Rg aG rfl (aF hG (hrow 2 _ rfl))) (aC ?_ (Z1 16 20 rfl (Rn rfl)) ?_ (bU rfl) (bP (bU rfl) (bP (bU rfl) dH))))))) ?_
 ·refine Dh rfl fun _ a w G1 hG HT H fin=>?_;refine qd H wn rfl rfl ?_;clear H;intro a H;exact dZ
 ·refine dO 0 4 1 5 rfl rfl fun _ a w G1 hG HT H fin=>?_;refine s_call UN H wn rfl (Xq _ _ H.ro k _ _ (by omega) (fun i hi=>(hcb.mono hG) i (by omega))) rfl ?_;clear H;rintro v6 G6 a w rfl jU H;exact Js
 ·refine eY 7 11 rfl rfl fun _ a w G1 hG HT H fin=>?_;refine s_call abW H wn rfl (aal _ _ H.ro x.author hte) rfl ?_;clear H;rintro v12 BF a w ⟨rfl,-⟩ oM H;exact fin H oM (rfl)
 ·refine eY 9 13 rfl rfl fun _ a w G1 hG HT H fin=>?_;refine s_call kr H wn rfl (kF _ _ H.ro _ 39) rfl ?_;clear H;rintro v14 Dc a w ⟨rfl,-⟩ EX H;exact fin H EX (rfl)
 ·refine eY 15 19 rfl rfl fun _ a w G1 hG HT H fin=>?_;refine s_call yI H wn rfl (yV _ _ H.ro x.time 0 1099511627776) rfl ?_;clear H;rintro v20 FV a w ⟨rfl,-⟩ apa H;exact fin H apa (rfl)
 ·refine eY 17 21 rfl rfl fun _ a w G1 hG HT H fin=>?_;refine s_call kr H wn rfl (kF _ _ H.ro _ 40) rfl ?_;clear H;rintro v22 Ti a w ⟨rfl,-⟩ VU H;exact fin H VU (rfl)
 clear H;intro a w G jy H hv;have H:=H.aN (hv 2 6 rfl rfl) rfl;have H:=H.aN (hv 10 14 rfl rfl) rfl;have H:=H.aN (hv 18 22 rfl rfl) rfl;clear hv;refine iV rQ iQ [_,_,_] [_,_,_] H wn rfl rfl rfl rfl rfl (by intro i q h;match i,h with|0,h=>exact h|1,h=>exact h|2,h=>exact h|n+3,h=>simp at h) rfl rfl ?_;clear H;intro b23 a w ayA H;obtain ⟨Zr,E5,apR,H⟩:=H.fO;refine s_call sU H wn rfl (sW _ _ H.ro _ _ (Ip [wW (fun k=>(l[k]?.map bV.id).getD 0) k,dG (!xH x.author) 39,dG (!decide (0<=x.time∧x.time<=1099511627776)) 40] apR (show 3<=maxLen by decide))) rfl ?_;clear H;rintro v24 _ a w ⟨rfl,rfl⟩ - H;refine kH H (Ra rfl ?_);clear H;intro a H;refine aB ⟨rfl,?_⟩;refine K2 _ _ ?_;clear K2;refine lr H results124 rfl ?_;exact H.rt (by rw [he,RQ])
def Dt (l:List bV):Int:=dS [dG (decide (256 < (l.length:Int))) 9,iW (CJ l) (min l.length 256)]
theorem ajI (G:GH) (w0:World) (hG:Hold G w0) (l:List bV) (v:ah) (hv:ak G (.sl 3 (l.map bV.dat)) v) (hl:l.length<=4294967296) (ht:∀ x∈l,x.author.size < 4611686018427387904) :
  Calls prog 68 #[v] w0 (bE w0 G fun u G'=>u=vi (Dt l)):=by
 obtain ⟨A,c,rfl,hc1,hc2,-⟩:=hv.slice;rw [bQ] at *;refine eN [(0,_)] func68 rfl ntmps68 rfl rfl hG ?_;intro a H;refine dz (fun _ K1=>?_);refine eB (cs:=[_]) H wn rfl rfl rfl ?_;clear H;intro b1 a w hb1 H;refine kH H (aj K1 rfl (SQ fun _ K2=>?_));clear H K1;intro a H;have H:=H.sub (T':=[(1,_)]) ⟨rfl,ay⟩;obtain ⟨Ga,hma,hb1',H⟩:=H.fO
 have hbl:aI Ga b1 0=some (.slice A l.length c):=by unfold aI;rw [hb1'];rfl
 have hcb:=auQ hbl (hv.mono hma) hl ht;refine dI hmx [[],[0],[0,1],[0,1,2],[],[4],[4,5],[],ra 0 8,ra 0 9,ra 0 10,ra 0 11] [9,10,11] (by kernel_rfl) [_,_,_,vi (dG (decide (256 < (l.length:Int))) 9),_,_,vi ((min l.length 256:Nat):Int),.func (.func 124) #[] #[(aK b1 0)],vi (iW (CJ l) (min l.length 256))] H (aC (X0 rfl fun hG=>Rg xu rfl (aF hG hbl)) (Z1 0 3 rfl (Rl oh rfl)) (Z1 1 4 rfl (Rc rfl)) ?_ (aC (X0 rfl fun hG=>Rg xu rfl (aF hG hbl)) (Z1 4 7 rfl (Rl oh rfl)) ?_ ?_ (aC ?_ (bU rfl) (bU rfl) (bU rfl) dH))) ?_
 ·refine eY 2 5 rfl rfl fun _ a w G1 hG HT H fin=>?_;refine s_call kr H wn rfl (kF _ _ H.ro _ 9) rfl ?_;clear H;rintro v6 G6 a w ⟨rfl,-⟩ jU H;exact Js
 ·refine eY 5 8 rfl rfl fun _ a w G1 hG HT H fin=>?_;refine Si H wn rfl rfl rfl ?_;clear H;intro a H;exact Pm
 ·refine Dh rfl fun _ a w G1 hG HT H fin=>?_;refine qd H wn rfl rfl ?_;clear H;intro a H;exact dZ
 ·refine dO 6 9 7 10 rfl rfl fun _ a w G1 hG HT H fin=>?_;refine s_call JI H wn rfl (LU _ _ H.ro (min l.length 256) (CJ l) _ (by omega) ((hcb.mono hG).le (Nat.min_le_left _ _))) rfl ?_;clear H;rintro v11 uG a w rfl pX H;exact Gw
 clear H;intro a w G jy H hv;have H:=H.aN (hv 3 6 rfl rfl) rfl;have H:=H.aN (hv 8 11 rfl rfl) rfl;clear hv;refine iV rQ iQ [_,_] [_,_] H wn rfl rfl rfl rfl rfl (by intro i q h;match i,h with|0,h=>exact h|1,h=>exact h|n+2,h=>simp at h) rfl rfl ?_;clear H;intro b12 a w Ka H;obtain ⟨BF,yQ,Hz,H⟩:=H.fO;refine s_call sU H wn rfl (sW _ _ H.ro _ _ (zZ Hz)) rfl ?_;clear H;rintro v13 _ a w ⟨rfl,rfl⟩ - H;refine kH H (Ra rfl ?_);clear H;intro a H;refine aB ⟨rfl,?_⟩;refine K2 _ _ ?_;clear K2;refine lr H results68 rfl ?_;exact xK
theorem lD:∀ {l:List Int},dS l=0->∀ x∈l,x=0
 | [],_,_,h=>by cases h
 | e :: r,h,x,hx=>by
  unfold dS at h
  by_cases he:e=0
  ·rw [av (fun h'=>h' he)] at h
   rcases iy.1 hx with rfl|hx
   ·exact he
   exact lD h x hx
  rw [aD he] at h;exact absurd h he
theorem BU {E:Nat->Int} {n:Nat} (h:iW E n=0) (i:Nat) (hi:i < n):E i=0:=lD h _ (by simp;exact ⟨i,hi,rfl⟩)
theorem Nw {id:Nat->Int} {i:Nat} (h:wW id i=0):1<=id i∧id i<=1073741824∧(0 < i->id (i - 1) < id i):=by
 unfold wW at h
 by_cases h1:1<=id i∧id i<=1073741824
 ·rw [av (fun h'=>h' h1)] at h
  by_cases h2:0 < i∧id i=id (i - 1)
  ·rw [aD h2] at h;cases h
  rw [av h2] at h
  by_cases h3:0 < i∧id i < id (i - 1)
  ·rw [aD h3] at h;cases h
  exact ⟨h1.1,h1.2,fun h0=>by omega⟩
 rw [aD h1] at h;cases h
theorem aeQ {l:List Int} (h:∀ i (h:i+1 < l.length),l[i] < l[i+1]):Db l:=by
 have hlt:∀ (j i:Nat) (hj:j < l.length) (hi:i < j),l[i] < l[j]:=by
  intro j
  induction j with
  | zero=>intro i _ hi;omega
  | succ j ih =>
   intro i hj hi;have h1:=h j hj
   by_cases e:i=j
   ·subst e;exact h1
   have:=ih i (by omega) (by omega);omega
 intro k hk hm;obtain ⟨i,hi,he⟩:=List.getElem_of_mem hm;rw [List.length_take] at hi;have:=hlt k i hk (by omega);rw [List.getElem_take] at he
 omega
theorem auR {l:List bV} (h:Dt l=0):Db (l.map bV.id):=by
 have h1:=lD h _ (fE);have h2:=lD h _ (gV _ fE)
 have hl:l.length<=256:=by
  unfold dG at h1
  by_cases hd:256 < (l.length:Int)
  ·rw [aD (aH hd)] at h1;cases h1
  omega
 refine aeQ fun i hi=>?_;rw [bQ] at hi;have h3:=BU h2 (i+1) (by omega)
 unfold CJ at h3
 rw [eD hi] at h3;have h4:=(Nw (lD h3 _ fE)).2.2 (by omega);rw [Nat.add_sub_cancel,eD hi,eD (show i < l.length by omega)] at h4
 simpa using h4
theorem asL {l:List fD} (h:Mf l=0):Db (l.map fD.id):=by
 have h1:=lD h _ (fE);have h2:=lD h _ (gV _ fE)
 have hl:l.length<=64:=by
  unfold dG at h1
  by_cases hd:64 < (l.length:Int)
  ·rw [aD (aH hd)] at h1;cases h1
  omega
 refine aeQ fun i hi=>?_;rw [bQ] at hi;have h3:=BU h2 (i+1) (by omega)
 unfold Iu at h3
 have h4:=(Nw (lD h3 _ fE)).2.2 (by omega);rw [Nat.add_sub_cancel,eD hi,eD (show i < l.length by omega)] at h4
 simpa using h4
theorem axg {l:List bY} (h:Ao l=0):Db (l.map bY.id):=by
 unfold Ao at h
 by_cases h1:128 < l.length
 ·rw [aD h1] at h;cases h
 rw [av h1] at h
 by_cases h2:vM (Bo l) 0 l.length≠0
 ·rw [aD h2] at h;exact absurd h h2
 intro k hk;rw [bQ] at hk;have:=afS (oK.1 h2) k hk;rw [<- List.map_take,List.getElem_map];exact this
theorem ant:aQ 69:=aR func69 rfl
theorem vo:Ty prog 36 4 96 [.slice none 0 0,.slice none 0 0,.slice none 0 0,.slice none 0 0] true:=⟨by kernel_rfl,by kernel_rfl⟩
theorem anq:aQ 67:=aR func67 rfl
theorem anr:aQ 68:=aR func68 rfl
theorem Cj:dX prog 38 1 1:=⟨by kernel_rfl⟩
theorem Vp (e:Int):dS [e]=e:=by
 by_cases h:e=0 <;> simp [dS,h]
structure gu where
 flow:List au
 fin:dN
 revs:List bV
 iq:BP
structure kX (G:GH) (D:jh) (d:gu):Prop where
 fl:ak G (.sl 11 (d.flow.map au.dat)) (aW D.f)
 hd:jq G d.fin (aW D.p) (aW D.d) (aW D.y)
 ins:D.ins=d.fin.marks.ins
 mv:D.move=d.fin.marks.move
 rv:ak G (.sl 3 (d.revs.map bV.dat)) (aW D.r)
 st:Ai G d.iq (aW D.s1) (aW D.s2) (aW D.s3) (aW D.s4)
theorem Ai.mono {G G':GH} (hm:∀ b o,G b=some o->G' b=some o) {s:BP} {a b c d:ah} (h:Ai G s a b c d):Ai G' s a b c d:=⟨h.st.mono hm,h.li.mono hm,h.cm.mono hm,h.va.mono hm⟩
theorem kX.mono {G G':GH} (hm:∀ b o,G b=some o->G' b=some o) {D:jh} {d:gu} (h:kX G D d):kX G' D d:=⟨h.fl.mono hm,h.hd.mono hm,h.ins,h.mv,h.rv.mono hm,h.st.mono hm⟩
structure Af (d:gu):Prop where
 fl:dx d.flow<=1073741824
 hd:mW d.fin<=4294967296
 rn:d.revs.length<=4294967296
 rt:∀ x∈d.revs,x.author.size < 4611686018427387904
 sn:d.iq.styles.length<=4294967296
 st:TL d.iq
abbrev gu.kG (d:gu):bC:=bL [] d.iq.styles d.iq.lists d.revs
def uz (m:zx):Bool:=decide ((m.ins≠0∨m.move≠0)∨0 < (m.bJ.length:Int))
def iK (d:gu):Int:=dS [dS [Mg d.iq,Dt d.revs],dS [iM d.kG 3 d.fin,dG (uz d.fin.marks) 21],(jO d.kG true false 0 d.flow ⟨0,[]⟩).1,dG (decide (16384 < (jO d.kG true false 0 d.flow ⟨0,[]⟩).2.n)) 9]
theorem Ua {p:Prop} (h:p:=by
 exact fin H iJ (by show _=_;first|exact gK (aH c1).symm|exact gK (by simp [c0]))):p:=h
theorem Ub {p:Prop} (h:p:=by
 exact fin H iJ (by show _=_;first|exact gK (mM (Or.inl c1)).symm|exact gK (by simp [uz,c1]))):p:=h
theorem ajL (G:GH) (w0:World) (hG:Hold G w0) (D:jh) (d:gu) (hR:kX G D d) (hz:Af d) :
  Calls prog 21 #[D.val] w0 (bE w0 G fun u G'=>u=vi (iK d)):=by
 obtain ⟨df,dp,dd,dy,dr,d1,d2,d3,d4,ins,mv⟩:=D;obtain ⟨hfl,hhd,hin,hmv,qz,hst⟩:=hR;dsimp only at hfl hhd hin hmv qz hst;subst hin;subst hmv;obtain ⟨zf,zh,zr,zt,zs,zg⟩:=hz;have hdl:=hhd.bJ.len;rw [bQ] at hdl
 have hdn:d.fin.marks.bJ.length<=4294967296:=by
  have h1:=FR d.fin;have h2:=qL (d.fin.marks.bJ.map gJ.dat);rw [bQ] at h2;omega
 refine eN [(0,_)] func21 rfl ntmps21 rfl rfl hG ?_;intro a H;refine dz (fun _ K1=>?_);refine eB (cs:=[_,_,_,_,_,_,_,_,_,_,_]) H wn rfl rfl rfl ?_;clear H;intro b1 a w hb1 H;refine kH H (aj K1 rfl (SQ fun _ K2=>SQ fun _ K3=>?_));clear H K1;intro a H;refine dI hmx [[],[0],[0,1],[],[3],ra 0 5,ra 0 6,ra 0 7,ra 0 8] [6,7,8] (by kernel_rfl) [_,.agg #[aW d1,aW d2,aW d3,aW d4],vi (Mg d.iq),_,aW dr,vi (Dt d.revs)] H (aC (Z0 rfl (Rf GX rfl)) ?_ ?_ (Z0 rfl (Rf Ck rfl)) (aC (Z1 3 11 rfl (Ro xu 0 rfl)) ?_ (bU rfl) (bU rfl) (bP (bU rfl) dH))) ?_
 ·refine eY 0 8 rfl rfl fun _ a w G1 hG HT H fin=>?_;refine aV vo (cs:=[_,_,_,_]) H wn rfl rfl (H.hp.cB 0 rfl rfl) rfl ?_;clear H;intro a H;exact dZ
 ·refine eY 1 9 rfl rfl fun _ a w G1 hG HT H fin=>?_;refine s_call anq H wn rfl (ajJ _ _ H.ro d.iq _ _ _ _ (hst.mono hG) zg) rfl ?_;clear H;rintro v10 BD a w rfl tq H;exact fin H tq (rfl)
 ·refine eY 4 12 rfl rfl fun _ a w G1 hG HT H fin=>?_;refine s_call anr H wn rfl (ajI _ _ H.ro d.revs _ (qz.mono hG) zr zt) rfl ?_;clear H;rintro v13 I7 a w rfl MN H;exact fin H MN (rfl)
 clear H;intro a w G jy H hv;have H:=H.aN (hv 2 10 rfl rfl) rfl;have H:=H.aN (hv 5 13 rfl rfl) rfl;clear hv;refine iV rQ iQ [_,_] [_,_] H wn rfl rfl rfl rfl rfl (by intro i q h;match i,h with|0,h=>exact h|1,h=>exact h|n+2,h=>simp at h) rfl rfl ?_;clear H;intro b14 a w ady H;obtain ⟨Dc,DV,Wn,H⟩:=H.fO;have hg1:=fun b o h=>DV b o (jy b o h);replace hfl:=hfl.mono hg1;replace hhd:=hhd.mono hg1;replace qz:=qz.mono hg1;replace hst:=hst.mono hg1;refine s_call sU H wn rfl (sW _ _ H.ro _ _ (zZ Wn)) rfl ?_;clear H;rintro v15 _ a w ⟨rfl,rfl⟩ - H;refine kH H (Ra rfl ?_);clear H;intro a H;refine aB ⟨rfl,?_⟩;refine K3 _ _ ?_;clear K3;refine kP H (SR fun _ K4=>Rm rfl (Rc rfl (Kz K4 (Cd rfl ?_ ?_)))) <;> clear H K4
 ·intro cu a H
  try have lN:=dT cu
  have hE:iK d=dS [Mg d.iq,Dt d.revs]:=by rw [iK,dS,aD lN]
  exact kP H (SR fun _ K5=>Rm rfl (aj K5 rfl (LR results21 rfl fun H=>H.rt (by rw [hE]))))
 intro cu a H
 try have lN:=dF cu
 have e1:=oK.1 lN;have s1:=lD e1 _ fE;have s2:=lD e1 _ (gV _ fE);have t1:=lD s1 _ fE;have t2:=lD s1 _ (gV _ fE);refine iG ?_;refine K2 _ _ ?_;clear K2;refine dz (fun _ K6=>?_);refine aV gM (cs:=[_,_,_,_,_,_,_,_,_,_,_]) H wn rfl rfl (H.hp.cB 0 rfl rfl) rfl ?_;clear H;intro a H;refine iE ant (Li:=[_]) (L:=[]) H wn rfl (atu _ _ (Hp.owns (Li:=[_]) H.hp) ⟨df,dp,dd,dy,dr,d1,d2,d3,d4,d.fin.marks.ins,d.fin.marks.move⟩ d.iq.styles d.iq.lists d.revs hst.st hst.li qz (axg t1) (asL t2) (auR s2) zs zg.ln zr) rfl ?_;clear H;rintro v20 FV _ a w ⟨b,ms,ml,mr,mb,mu,rfl,rfl,hck⟩ oC H;dsimp only [lca,bM] at H;have H:=H.fG (Pl:=[_,_,_,_]) (eH:=[_,_,_,_]) [3,0,1,2] (by decide) rfl;obtain ⟨Gu,hmu,hu,H⟩:=H.fO;replace hck:=hck.with (us:=[]) hmu hu;replace hfl:=(hfl.mono oC).mono hmu;replace hhd:=(hhd.mono oC).mono hmu;refine kH H (aj K6 rfl (SR fun _ K7=>Rf Cj rfl (Rf qp rfl ?_)));clear H K6;intro a H;refine aV Eo (cs:=[_,_,_,_]) H wn rfl rfl (H.hp.cB 0 rfl rfl) rfl ?_;clear H;intro a H;refine dP Eo H wn rfl ?_;clear H;intro b5 a w hb5 H;refine bK Eo 0 (vs:=[_,_,_,_]) H wn rfl ?_;clear H;intro w H;refine K7 _ _ ?_;clear K7;refine bR (fun _ K8=>?_);refine bR (fun _ K9=>?_)
 by_cases c0:d.fin.marks.ins≠0
 ·skip;have c1:d.fin.marks.ins≠0∨d.fin.marks.move≠0:=Or.inl c0;refine dI hmx [[],[],[1],[0,1,2],[],[4],[4,5],ra 0 7,ra 0 8,ra 0 9,ra 0 10,ra 0 11,ra 0 12,ra 0 13,ra 0 14,ra 0 15,ra 0 16,ra 0 17,ra 0 18,ra 0 19,ra 0 20,ra 0 21] [19,20,21] (by kernel_rfl) [_,_,sj d.fin (aW dp) (aW dd) (aW dy),vi (iM d.kG 3 d.fin),_,vi d.fin.marks.ins,_,_,undef,undef,undef,.bool (decide (d.fin.marks.ins≠0∨d.fin.marks.move≠0)),_,undef,undef,undef,undef,.bool (uz d.fin.marks),vi (dG (uz d.fin.marks) 21)] H (aC (Z0 rfl (Rm rfl)) (Z0 rfl (Rf Cj rfl)) ?_ ?_ (aC (Z0 rfl (Rf sV rfl)) (Z1 4 28 rfl (Ro aG 0 rfl)) (Z1 5 29 rfl (Rc rfl)) (Z1 6 30 rfl (Rm rfl)) (aC (aZ 7 (aH c0) rfl rfl) (aZ 7 (aH c0) rfl rfl) (aZ 7 (aH c0) rfl rfl) ?_ (aC (Z1 11 35 rfl (Rm rfl)) (aZ 12 (aH c1) rfl rfl) (aZ 12 (aH c1) rfl rfl) (aZ 12 (aH c1) rfl rfl) (aC (aZ 12 (aH c1) rfl rfl) ?_ ?_ (bU rfl) (bP (bU rfl) (bP (bU rfl) dH))))))) ?_
  ·refine eY 1 25 rfl rfl fun _ a w G1 hG HT H fin=>?_;refine aV dW (cs:=[_,_,_,_,_]) H wn rfl rfl (H.hp.cB 1 rfl rfl) rfl ?_;clear H;intro a H;exact dZ
  ·refine dO 0 24 2 26 rfl rfl fun _ a w G1 hG HT H fin=>?_;refine iE JK (Li:=[_,_]) (L:=gW b ms ml mr mb mu 0 :: (mb,fK []) :: []) H wn rfl (Kg _ _ _ d.iq.styles d.iq.lists d.revs b ms ml mr mb mu _ (hck.mono hG) (Hp.owns (Li:=[_,_]) H.hp) 3 d.fin _ _ _ (hhd.mono hG) zh) rfl ?_;clear H;rintro v27 _ _ a w ⟨rfl,rfl,rfl⟩ MO H;dsimp only [lca,bM] at H;exact fin H MO (rfl)
  ·refine dO 7 31 10 34 rfl rfl fun _ a w G1 hG HT H fin=>?_;refine kH H (Pt (aH c0) rfl ?_);clear H;intro a H;exact Ua
  ·refine dO 12 36 16 40 rfl rfl fun _ a w G1 hG HT H fin=>?_;refine kH H (Pt (aH c1) rfl ?_);clear H;intro a H;exact Ub
  ·refine eY 17 41 rfl rfl fun _ a w G1 hG HT H fin=>?_;refine s_call kr H wn rfl (kF _ _ H.ro _ 21) rfl ?_;clear H;rintro v42 Tn a w ⟨rfl,-⟩ MP H;exact fin H MP (rfl)
  clear H;intro a w G jU H hv;have H:=H.aN (hv 3 27 rfl rfl) rfl;have H:=H.aN (hv 18 42 rfl rfl) rfl;clear hv;refine iV rQ iQ [_,_] [_,_] H wn rfl rfl rfl rfl rfl (by intro i q h;match i,h with|0,h=>exact h|1,h=>exact h|n+2,h=>simp at h) rfl rfl ?_;clear H;intro b43 a w adA H;obtain ⟨LB,DY,MU,H⟩:=H.fO;have EZ:=fun b o h=>DY b o (jU b o h);replace hfl:=hfl.mono EZ;replace hck:=hck.mono EZ;refine s_call sU H wn rfl (sW _ _ H.ro _ _ (zZ MU)) rfl ?_;clear H;rintro v44 _ a w ⟨rfl,rfl⟩ - H;refine kH H (Ra rfl ?_);clear H;intro a H;refine aB ⟨rfl,?_⟩;refine K9 _ _ ?_;clear K9;refine kP H (SR fun _ aS=>Rm rfl (Rc rfl (Kz aS (Cd rfl ?_ ?_)))) <;> clear H aS
  ·intro h46 a H
   try have p46:=dT h46
   have hE:iK d=dS [iM d.kG 3 d.fin,dG (uz d.fin.marks) 21]:=by rw [iK,dS,av (by simpa using e1),dS,aD p46]
   exact kP H (SR fun _ bH=>Rm rfl (aj bH rfl (LR results21 rfl fun H=>H.rt (by rw [hE]))))
  intro h46 a H
  try have p46:=dF h46
  have e2:=oK.1 p46;refine kP H (Kc K8 (SQ fun _ bT=>SR fun _ cK=>Rm rfl (bO vO kV 1 rfl rfl ?_)));clear H K8;intro a H;refine jF NZ [_,_,_] H wn rfl rfl rfl rfl ?_;clear H;intro a H;refine iE Mw (Li:=[_,_]) (L:=gW b ms ml mr mb mu 0 :: (mb,fK []) :: []) H wn rfl (QY 4294967297 (by omega) _ _ _ d.iq.styles d.iq.lists d.revs b ms ml mr mb mu ⟨0,[]⟩ d.flow _ true false 0 hck (Hp.owns (Li:=[_,_]) H.hp) hfl (by omega) (by omega) (by omega) (by decide) (by dsimp only;omega)) rfl ?_;clear H;rintro v52 _ _ a w ⟨rfl,s3,rfl,rfl,h3⟩ - H;dsimp only [lca,bM] at H;refine kH H (aj cK rfl (SR fun _ dB=>Rm rfl (Rc rfl (Kz dB (Cd rfl ?_ ?_))))) <;> clear H cK dB
  ·intro iL a H
   try have p54:=dT iL
   have hE:iK d=(jO d.kG true false 0 d.flow ⟨0,[]⟩).1:=by rw [iK,dS,av (by simpa using e1),dS,av (by simpa using e2),dS,aD p54]
   exact kP H (SR fun _ eU=>Rm rfl (aj eU rfl (LR results21 rfl fun H=>H.rt (by rw [hE]))))
  intro iL a H
  try have p54:=dF iL
  have e3:=oK.1 p54;have hs3:=h3 e3;subst hs3;refine kP H (Kc bT (SR fun _ eX=>Rm rfl (Rk rfl (bO GV aG 2 rfl rfl (Rc rfl ?_)))));clear H bT;intro a H;refine s_call kr H wn rfl (kF _ _ H.ro _ 9) rfl ?_;clear H;rintro v61 _ a w ⟨rfl,rfl⟩ - H
  have hE:iK d=dG (decide (16384 < (jO d.kG true false 0 d.flow ⟨0,[]⟩).2.n)) 9:=by rw [iK,dS,av (by simpa using e1),dS,av (by simpa using e2),dS,av (by simpa using e3)];exact Vp _
  exact kH H (aj eX rfl (LR results21 rfl fun H=>H.rt (by rw [hE])))
 skip
 by_cases c1:d.fin.marks.ins≠0∨d.fin.marks.move≠0
 ·skip;refine dI hmx [[],[],[1],[0,1,2],[],[4],[4,5],ra 0 7,ra 0 8,ra 0 9,ra 0 10,ra 0 11,ra 0 12,ra 0 13,ra 0 14,ra 0 15,ra 0 16,ra 0 17,ra 0 18,ra 0 19,ra 0 20,ra 0 21] [19,20,21] (by kernel_rfl) [_,_,sj d.fin (aW dp) (aW dd) (aW dy),vi (iM d.kG 3 d.fin),_,vi d.fin.marks.ins,_,_,_,vi d.fin.marks.move,_,.bool (decide (d.fin.marks.ins≠0∨d.fin.marks.move≠0)),_,undef,undef,undef,undef,.bool (uz d.fin.marks),vi (dG (uz d.fin.marks) 21)] H (aC (Z0 rfl (Rm rfl)) (Z0 rfl (Rf Cj rfl)) ?_ ?_ (aC (Z0 rfl (Rf sV rfl)) (Z1 4 28 rfl (Ro aG 0 rfl)) (Z1 5 29 rfl (Rc rfl)) (Z1 6 30 rfl (Rm rfl)) (aC (Z1 7 31 rfl (YF Ch (aY c0) rfl)) (Z2 8 32 7 31 rfl (YO aG 0 (aY c0) rfl)) (Z2 9 33 7 31 rfl (YC (aY c0) rfl)) ?_ (aC (Z1 11 35 rfl (Rm rfl)) (aZ 12 (aH c1) rfl rfl) (aZ 12 (aH c1) rfl rfl) (aZ 12 (aH c1) rfl rfl) (aC (aZ 12 (aH c1) rfl rfl) ?_ ?_ (bU rfl) (bP (bU rfl) (bP (bU rfl) dH))))))) ?_
  ·refine eY 1 25 rfl rfl fun _ a w G1 hG HT H fin=>?_;refine aV dW (cs:=[_,_,_,_,_]) H wn rfl rfl (H.hp.cB 1 rfl rfl) rfl ?_;clear H;intro a H;exact dZ
  ·refine dO 0 24 2 26 rfl rfl fun _ a w G1 hG HT H fin=>?_;refine iE JK (Li:=[_,_]) (L:=gW b ms ml mr mb mu 0 :: (mb,fK []) :: []) H wn rfl (Kg _ _ _ d.iq.styles d.iq.lists d.revs b ms ml mr mb mu _ (hck.mono hG) (Hp.owns (Li:=[_,_]) H.hp) 3 d.fin _ _ _ (hhd.mono hG) zh) rfl ?_;clear H;rintro v27 _ _ a w ⟨rfl,rfl,rfl⟩ MO H;dsimp only [lca,bM] at H;exact fin H MO (rfl)
  ·refine dO 7 31 10 34 rfl rfl fun _ a w G1 hG HT H fin=>?_;refine kH H (Pf (aY c0) rfl ?_);clear H;intro a H;exact Ua
  ·refine dO 12 36 16 40 rfl rfl fun _ a w G1 hG HT H fin=>?_;refine kH H (Pt (aH c1) rfl ?_);clear H;intro a H;exact Ub
  ·refine eY 17 41 rfl rfl fun _ a w G1 hG HT H fin=>?_;refine s_call kr H wn rfl (kF _ _ H.ro _ 21) rfl ?_;clear H;rintro v42 Tn a w ⟨rfl,-⟩ MP H;exact fin H MP (rfl)
  clear H;intro a w G jU H hv;have H:=H.aN (hv 3 27 rfl rfl) rfl;have H:=H.aN (hv 18 42 rfl rfl) rfl;clear hv;refine iV rQ iQ [_,_] [_,_] H wn rfl rfl rfl rfl rfl (by intro i q h;match i,h with|0,h=>exact h|1,h=>exact h|n+2,h=>simp at h) rfl rfl ?_;clear H;intro b43 a w adA H;obtain ⟨LB,DY,MU,H⟩:=H.fO;have EZ:=fun b o h=>DY b o (jU b o h);replace hfl:=hfl.mono EZ;replace hck:=hck.mono EZ;refine s_call sU H wn rfl (sW _ _ H.ro _ _ (zZ MU)) rfl ?_;clear H;rintro v44 _ a w ⟨rfl,rfl⟩ - H;refine kH H (Ra rfl ?_);clear H;intro a H;refine aB ⟨rfl,?_⟩;refine K9 _ _ ?_;clear K9;refine kP H (SR fun _ eG=>Rm rfl (Rc rfl (Kz eG (Cd rfl ?_ ?_)))) <;> clear H eG
  ·intro h46 a H
   try have p46:=dT h46
   have hE:iK d=dS [iM d.kG 3 d.fin,dG (uz d.fin.marks) 21]:=by rw [iK,dS,av (by simpa using e1),dS,aD p46]
   exact kP H (SR fun _ fC=>Rm rfl (aj fC rfl (LR results21 rfl fun H=>H.rt (by rw [hE]))))
  intro h46 a H
  try have p46:=dF h46
  have e2:=oK.1 p46;refine kP H (Kc K8 (SQ fun _ gX=>SR fun _ fM=>Rm rfl (bO vO kV 1 rfl rfl ?_)));clear H K8;intro a H;refine jF NZ [_,_,_] H wn rfl rfl rfl rfl ?_;clear H;intro a H;refine iE Mw (Li:=[_,_]) (L:=gW b ms ml mr mb mu 0 :: (mb,fK []) :: []) H wn rfl (QY 4294967297 (by omega) _ _ _ d.iq.styles d.iq.lists d.revs b ms ml mr mb mu ⟨0,[]⟩ d.flow _ true false 0 hck (Hp.owns (Li:=[_,_]) H.hp) hfl (by omega) (by omega) (by omega) (by decide) (by dsimp only;omega)) rfl ?_;clear H;rintro v52 _ _ a w ⟨rfl,s3,rfl,rfl,h3⟩ - H;dsimp only [lca,bM] at H;refine kH H (aj fM rfl (SR fun _ iI=>Rm rfl (Rc rfl (Kz iI (Cd rfl ?_ ?_))))) <;> clear H fM iI
  ·intro iL a H
   try have p54:=dT iL
   have hE:iK d=(jO d.kG true false 0 d.flow ⟨0,[]⟩).1:=by rw [iK,dS,av (by simpa using e1),dS,av (by simpa using e2),dS,aD p54]
   exact kP H (SR fun _ jH=>Rm rfl (aj jH rfl (LR results21 rfl fun H=>H.rt (by rw [hE]))))
  intro iL a H
  try have p54:=dF iL
  have e3:=oK.1 p54;have hs3:=h3 e3;subst hs3;refine kP H (Kc gX (SR fun _ mK=>Rm rfl (Rk rfl (bO GV aG 2 rfl rfl (Rc rfl ?_)))));clear H gX;intro a H;refine s_call kr H wn rfl (kF _ _ H.ro _ 9) rfl ?_;clear H;rintro v61 _ a w ⟨rfl,rfl⟩ - H
  have hE:iK d=dG (decide (16384 < (jO d.kG true false 0 d.flow ⟨0,[]⟩).2.n)) 9:=by rw [iK,dS,av (by simpa using e1),dS,av (by simpa using e2),dS,av (by simpa using e3)];exact Vp _
  exact kH H (aj mK rfl (LR results21 rfl fun H=>H.rt (by rw [hE])))
 skip;refine dI hmx [[],[],[1],[0,1,2],[],[4],[4,5],ra 0 7,ra 0 8,ra 0 9,ra 0 10,ra 0 11,ra 0 12,ra 0 13,ra 0 14,ra 0 15,ra 0 16,ra 0 17,ra 0 18,ra 0 19,ra 0 20,ra 0 21] [19,20,21] (by kernel_rfl) [_,_,sj d.fin (aW dp) (aW dd) (aW dy),vi (iM d.kG 3 d.fin),_,vi d.fin.marks.ins,_,_,_,vi d.fin.marks.move,_,.bool (decide (d.fin.marks.ins≠0∨d.fin.marks.move≠0)),_,_,aW dd,vi d.fin.marks.bJ.length,_,.bool (uz d.fin.marks),vi (dG (uz d.fin.marks) 21)] H (aC (Z0 rfl (Rm rfl)) (Z0 rfl (Rf Cj rfl)) ?_ ?_ (aC (Z0 rfl (Rf sV rfl)) (Z1 4 28 rfl (Ro aG 0 rfl)) (Z1 5 29 rfl (Rc rfl)) (Z1 6 30 rfl (Rm rfl)) (aC (Z1 7 31 rfl (YF Ch (aY c0) rfl)) (Z2 8 32 7 31 rfl (YO aG 0 (aY c0) rfl)) (Z2 9 33 7 31 rfl (YC (aY c0) rfl)) ?_ (aC (Z1 11 35 rfl (Rm rfl)) (Z1 12 36 rfl (YF uj (aY c1) rfl)) (Z2 13 37 12 36 rfl (YO uD 0 (aY c1) rfl)) ?_ (aC (Z2 15 39 12 36 rfl (YC (aY c1) rfl)) ?_ ?_ (bU rfl) (bP (bU rfl) (bP (bU rfl) dH))))))) ?_
 ·refine eY 1 25 rfl rfl fun _ a w G1 hG HT H fin=>?_;refine aV dW (cs:=[_,_,_,_,_]) H wn rfl rfl (H.hp.cB 1 rfl rfl) rfl ?_;clear H;intro a H;exact dZ
 ·refine dO 0 24 2 26 rfl rfl fun _ a w G1 hG HT H fin=>?_;refine iE JK (Li:=[_,_]) (L:=gW b ms ml mr mb mu 0 :: (mb,fK []) :: []) H wn rfl (Kg _ _ _ d.iq.styles d.iq.lists d.revs b ms ml mr mb mu _ (hck.mono hG) (Hp.owns (Li:=[_,_]) H.hp) 3 d.fin _ _ _ (hhd.mono hG) zh) rfl ?_;clear H;rintro v27 _ _ a w ⟨rfl,rfl,rfl⟩ MO H;dsimp only [lca,bM] at H;exact fin H MO (rfl)
 ·refine dO 7 31 10 34 rfl rfl fun _ a w G1 hG HT H fin=>?_;refine kH H (Pf (aY c0) rfl ?_);clear H;intro a H;exact Ua
 ·refine dO 14 38 12 36 rfl rfl fun _ a w G1 hG HT H fin=>?_;refine kH H (YL oJ (aY c1) rfl ?_);clear H;intro a H;exact fin H iJ (by show _=_;first|rfl|exact cO (fun n:Nat=>vi n) hdl)
 ·refine dO 12 36 16 40 rfl rfl fun _ a w G1 hG HT H fin=>?_;refine kH H (Pf (aY c1) rfl ?_);clear H;intro a H;exact Ub
 ·refine eY 17 41 rfl rfl fun _ a w G1 hG HT H fin=>?_;refine s_call kr H wn rfl (kF _ _ H.ro _ 21) rfl ?_;clear H;rintro v42 Tn a w ⟨rfl,-⟩ MP H;exact fin H MP (rfl)
 clear H;intro a w G jU H hv;have H:=H.aN (hv 3 27 rfl rfl) rfl;have H:=H.aN (hv 18 42 rfl rfl) rfl;clear hv;refine iV rQ iQ [_,_] [_,_] H wn rfl rfl rfl rfl rfl (by intro i q h;match i,h with|0,h=>exact h|1,h=>exact h|n+2,h=>simp at h) rfl rfl ?_;clear H;intro b43 a w adA H;obtain ⟨LB,DY,MU,H⟩:=H.fO;have EZ:=fun b o h=>DY b o (jU b o h);replace hfl:=hfl.mono EZ;replace hck:=hck.mono EZ;refine s_call sU H wn rfl (sW _ _ H.ro _ _ (zZ MU)) rfl ?_;clear H;rintro v44 _ a w ⟨rfl,rfl⟩ - H;refine kH H (Ra rfl ?_);clear H;intro a H;refine aB ⟨rfl,?_⟩;refine K9 _ _ ?_;clear K9;refine kP H (SR fun _ mD=>Rm rfl (Rc rfl (Kz mD (Cd rfl ?_ ?_)))) <;> clear H mD
 ·intro h46 a H
  try have p46:=dT h46
  have hE:iK d=dS [iM d.kG 3 d.fin,dG (uz d.fin.marks) 21]:=by rw [iK,dS,av (by simpa using e1),dS,aD p46]
  exact kP H (SR fun _ kY=>Rm rfl (aj kY rfl (LR results21 rfl fun H=>H.rt (by rw [hE]))))
 intro h46 a H
 try have p46:=dF h46
 have e2:=oK.1 p46;refine kP H (Kc K8 (SQ fun _ om=>SR fun _ oq=>Rm rfl (bO vO kV 1 rfl rfl ?_)));clear H K8;intro a H;refine jF NZ [_,_,_] H wn rfl rfl rfl rfl ?_;clear H;intro a H;refine iE Mw (Li:=[_,_]) (L:=gW b ms ml mr mb mu 0 :: (mb,fK []) :: []) H wn rfl (QY 4294967297 (by omega) _ _ _ d.iq.styles d.iq.lists d.revs b ms ml mr mb mu ⟨0,[]⟩ d.flow _ true false 0 hck (Hp.owns (Li:=[_,_]) H.hp) hfl (by omega) (by omega) (by omega) (by decide) (by dsimp only;omega)) rfl ?_;clear H;rintro v52 _ _ a w ⟨rfl,s3,rfl,rfl,h3⟩ - H;dsimp only [lca,bM] at H;refine kH H (aj oq rfl (SR fun _ kZ=>Rm rfl (Rc rfl (Kz kZ (Cd rfl ?_ ?_))))) <;> clear H oq kZ
 ·intro iL a H
  try have p54:=dT iL
  have hE:iK d=(jO d.kG true false 0 d.flow ⟨0,[]⟩).1:=by rw [iK,dS,av (by simpa using e1),dS,av (by simpa using e2),dS,aD p54]
  exact kP H (SR fun _ qm=>Rm rfl (aj qm rfl (LR results21 rfl fun H=>H.rt (by rw [hE]))))
 intro iL a H
 try have p54:=dF iL
 have e3:=oK.1 p54;have hs3:=h3 e3;subst hs3;refine kP H (Kc om (SR fun _ qD=>Rm rfl (Rk rfl (bO GV aG 2 rfl rfl (Rc rfl ?_)))));clear H om;intro a H;refine s_call kr H wn rfl (kF _ _ H.ro _ 9) rfl ?_;clear H;rintro v61 _ a w ⟨rfl,rfl⟩ - H
 have hE:iK d=dG (decide (16384 < (jO d.kG true false 0 d.flow ⟨0,[]⟩).2.n)) 9:=by rw [iK,dS,av (by simpa using e1),dS,av (by simpa using e2),dS,av (by simpa using e3)];exact Vp _
 exact kH H (aj qD rfl (LR results21 rfl fun H=>H.rt (by rw [hE])))
def RB (body note:Bool) (t k i:Int):Prop:=(k=3->body=true)∧(k=6->note=false)∧(k=7->t < 4)∧(k=8->1<=i∧i<=1073741824)
mutual
def lM (C:bC) (body note:Bool) (t:Int):au->Prop
 | .mk k c i tx h f r=>lF (.mk k c i tx h f r)=0∧RB body note t k i∧iM C k h=0∧(k=6->iN C false true t f)∧(k=7->(r.length≠0∧r.length<=256)∧jX C note (t+1) r)
def oV (C:bC) (note:Bool) (t:Int):aU->Prop
 | .mk h cs=>Ee C h cs.length=0∧kL C note t cs
def oU (C:bC) (note:Bool) (t:Int):aX->Prop
 | .mk _ h f=>iM C 10 h=0∧iN C false note t f
def iN (C:bC) (body note:Bool) (t:Int):List au->Prop
 | []=>True
 | x :: l=>lM C body note t x∧iN C body note t l
def jX (C:bC) (note:Bool) (t:Int):List aU->Prop
 | []=>True
 | x :: l=>oV C note t x∧jX C note t l
def kL (C:bC) (note:Bool) (t:Int):List aX->Prop
 | []=>True
 | x :: l=>oU C note t x∧kL C note t l
end
theorem Eb {C:bC} {body note:Bool} {t:Int}:∀ {l:List au},iN C body note t l↔∀ x∈l,lM C body note t x
 | []=>by simp [iN]
 | x :: l=>by rw [iN,Eb (l:=l)];simp
theorem Rz {C:bC} {note:Bool} {t:Int}:∀ {l:List aU},jX C note t l↔∀ x∈l,oV C note t x
 | []=>by simp [jX]
 | x :: l=>by rw [jX,Rz (l:=l)];simp
theorem Rx {C:bC} {note:Bool} {t:Int}:∀ {l:List aX},kL C note t l↔∀ x∈l,oU C note t x
 | []=>by simp [kL]
 | x :: l=>by rw [kL,Rx (l:=l)];simp
mutual
/-- The units that a check counts. -/
def uI:au->Nat
 | .mk k _ _ tx _ f r=>(if k=1 then uO tx else 1)+(if k=6 then jY f else if k=7 then pz r else 0)
def uR:aU->Nat
 | .mk _ cs=>qh cs
def uC:aX->Nat
 | .mk _ _ f=>jY f
def jY:List au->Nat
 | []=>0
 | x :: l=>uI x+jY l
def pz:List aU->Nat
 | []=>0
 | x :: l=>uR x+pz l
def qh:List aX->Nat
 | []=>0
 | x :: l=>uC x+qh l
end
def kN (us bN ids:List Int):Prop:=(∀ i∈ids,(1<=i∧i<=1073741824)∧i∉us∧i∉bN)∧ids.Nodup
theorem kN.nil (us bN:List Int):kN us bN []:=⟨fun _ h=>(by cases h),List.nodup_nil⟩
theorem kN.app {us bN a b:List Int}:kN us bN (a++b)↔kN us bN a∧kN us (bN++a) b:=by
 unfold kN
 rw [List.nodup_append]
 constructor
 ·rintro ⟨h,h1,h2,h3⟩;exact ⟨⟨fun i hi=>h i (List.mem_append_left _ hi),h1⟩,fun i hi=>⟨(h i (List.mem_append_right _ hi)).1,(h i (List.mem_append_right _ hi)).2.1,fun hm=>(jS.1 hm).elim (h i (List.mem_append_right _ hi)).2.2 fun ha=>h3 i ha i hi rfl⟩,h2⟩
 rintro ⟨⟨h,h1⟩,h2,h3⟩;exact ⟨fun i hi=>(jS.1 hi).elim (h i) fun hb=>⟨(h2 i hb).1,(h2 i hb).2.1,fun hm=>(h2 i hb).2.2 (List.mem_append_left _ hm)⟩,h1,h3,fun i hi j hj e=>(h2 j hj).2.2 (List.mem_append_right _ (e ▸ hi))⟩
theorem kN.sub {us bN a b:List Int} (h:kN us bN a) (hs:b.Sublist a):kN us bN b:=⟨fun i hi=>h.1 i (hs.subset hi),hs.nodup h.2⟩
theorem EC {r:CR} {f:CS->CR} {s':CS}:gZ r f=(0,s')↔∃ m,r=(0,m)∧f m=(0,s'):=by
 constructor
 ·intro h;obtain ⟨h1,h2⟩:=nS h;exact ⟨r.2,Prod.ext h1 rfl,h2⟩
 rintro ⟨m,rfl,h⟩;rw [Jl rfl];exact h
theorem yJ {e:Int} {s m:CS}:((e,s):CR)=(0,m)↔e=0∧m=s:=by rw [iU,@eq_comm _ s m]
theorem Xn {C:bC} {s m:CS} {x:Int}:lU C s x=(0,m)↔kN C.us s.bN [x]∧m=⟨s.n,s.bN++[x]⟩:=by
 unfold lU
 rw [yJ]
 have he:rJ C.us s.bN x=0↔kN C.us s.bN [x]:=by
  unfold rJ kN
  by_cases h0:¬ (1<=x∧x<=1073741824)∨x∈C.us
  ·rw [aD h0];refine ⟨fun h=>(by cases h),fun h=>?_⟩;have:=h.1 x (List.mem_singleton_self _);exact absurd h0 (by rintro (h1|h1);exact h1 this.1;exact this.2.1 h1)
  rw [av h0]
  by_cases h1:x∈s.bN
  ·rw [aD h1];exact ⟨fun h=>(by cases h),fun h=>absurd h1 (h.1 x (List.mem_singleton_self _)).2.2⟩
  rw [av h1];refine ⟨fun _=>⟨fun i hi=>?_,by simp⟩,fun _=>rfl⟩;rw [pU.1 hi];exact ⟨oK.1 fun h=>h0 (.inl h),fun h=>h0 (.inr h),h1⟩
 rw [he]
 constructor
 ·rintro ⟨h,rfl⟩;exact ⟨h,by rw [nW,aD (he.2 h)]⟩
 rintro ⟨h,rfl⟩;exact ⟨h,by rw [nW,aD (he.2 h)]⟩
theorem tO {b:Bool} {e:Int} (he:e≠0):dG b e=0↔b=false:=by cases b <;> simp [dG,he]
theorem aaE {p:Prop} (h:p:=by
 exact ⟨s,⟨h1 trivial,rfl⟩,by simpa using h2,by simpa using h4⟩):p:=h
theorem aui {C:bC} {body note:Bool} {t k i:Int} {s m:CS}:nX C body note t k i s=(0,m)↔RB body note t k i∧kN C.us s.bN (if k=6∨k=7 then [i] else [])∧m=⟨s.n,s.bN++(if k=6∨k=7 then [i] else [])⟩:=by
 unfold nX RB
 by_cases h3:k=3
 ·subst h3;rw [aD rfl,yJ,tO (by decide)];cases body <;> simp [kN.nil]
 rw [av h3]
 by_cases h6:k=6
 ·subst h6;rw [aD rfl,EC]
  simp only [yJ,tO (show (19:Int)≠0 by decide),Xn]
  constructor
  ·rintro ⟨_,⟨h1,rfl⟩,h2,h4⟩;exact ⟨⟨fun h=>absurd h (by decide),fun _=>h1,fun h=>absurd h (by decide),fun h=>absurd h (by decide)⟩,by simpa using h2,by simpa using h4⟩
  rintro ⟨⟨-,h1,-,-⟩,h2,h4⟩;exact aaE
 rw [av h6]
 by_cases h7:k=7
 ·subst h7;rw [aD rfl,EC]
  simp only [yJ,tO (show (17:Int)≠0 by decide),Xn,sQ,Int.not_le]
  constructor
  ·rintro ⟨_,⟨h1,rfl⟩,h2,h4⟩;exact ⟨⟨fun h=>absurd h (by decide),fun h=>absurd h (by decide),fun _=>h1,fun h=>absurd h (by decide)⟩,by simpa using h2,by simpa using h4⟩
  rintro ⟨⟨-,-,h1,-⟩,h2,h4⟩;exact aaE
 rw [av h7,av (show ¬ (k=6∨k=7) by omega),iF]
 by_cases h8:k=8
 ·rw [aD h8,yJ,tO (by decide)]
  simp [h3,h6,h7,h8,kN.nil]
 rw [av h8,yJ];simp [h3,h6,h7,h8,kN.nil]
theorem avd {n:Nat} {f:CS->CR} {s s':CS}:nK n f s=(0,s')↔(n≠0∧n<=256)∧f s=(0,s'):=by
 unfold nK
 split
 ·rename_i h;simp [h]
 rename_i h
 split
 ·rename_i h2;simp [show ¬ n<=256 by omega]
 rename_i h2;simp [h,show n<=256 by omega]
theorem Uc {p:Prop} (h:p:=by
 exact ⟨⟨q1,q3⟩,⟨q2,q4⟩,by rw [ko];congr 1;push_cast;omega⟩):p:=h
theorem Ud {p:Prop} (h:p:=by
 exact ⟨_,⟨q1,q2,rfl⟩,q3,q4,by rw [ko];congr 1;push_cast;omega⟩):p:=h
mutual
theorem ajQ (C:bC) (body note:Bool) (t:Int):∀ (x:au) (s s':CS),fU C body note t x s=(0,s')↔lM C body note t x∧kN C.us s.bN (rH x)∧s'=⟨s.n+(uI x:Nat),s.bN++rH x⟩
 | .mk k c i tx h f r,s,s'=>by
  have hf:=Mh C false true t f;have hr:=abg C note (t+1) r;rw [fU,lM,rH,uI]
  simp only [EC,yJ,aui]
  by_cases h6:k=6
  ·subst h6
   simp only [if_true,hf,kN.app,true_or,av (show ¬ (6:Int)=7 by decide),av (show ¬ (6:Int)=1 by decide),iF]
   constructor
   ·rintro ⟨_,⟨h1,rfl⟩,_,⟨h2,h3,rfl⟩,_,⟨h4,rfl⟩,h5,h7,rfl⟩;exact ⟨⟨h1,h2,h4,fun _=>h5,fun h=>absurd h (by decide)⟩,⟨h3,h7⟩,by rw [ko];congr 1;push_cast;omega⟩
   rintro ⟨⟨h1,h2,h4,h5,-⟩,⟨h3,h7⟩,rfl⟩;exact ⟨s,⟨h1,rfl⟩,_,⟨h2,h3,rfl⟩,_,⟨h4,rfl⟩,h5 trivial,h7,by rw [ko];congr 1;push_cast;omega⟩
  by_cases h7:k=7
  ·subst h7
   simp only [if_true,avd,hr,kN.app,or_true,av (show ¬ (7:Int)=6 by decide),av (show ¬ (7:Int)=1 by decide),nQ]
   constructor
   ·rintro ⟨_,⟨h1,rfl⟩,_,⟨h2,h3,rfl⟩,_,⟨h4,rfl⟩,h0,h5,h8,rfl⟩;exact ⟨⟨h1,h2,h4,fun h=>absurd h (by decide),fun _=>⟨h0,h5⟩⟩,⟨h3,h8⟩,by rw [ko];congr 1;push_cast;omega⟩
   rintro ⟨⟨h1,h2,h4,-,h5⟩,⟨h3,h8⟩,rfl⟩;exact ⟨s,⟨h1,rfl⟩,_,⟨h2,h3,rfl⟩,_,⟨h4,rfl⟩,(h5 trivial).1,(h5 trivial).2,h8,by rw [ko];congr 1;push_cast;omega⟩
  simp only [av h6,av h7,av (show ¬ (k=6∨k=7) by omega),iF,yJ]
  constructor
  ·rintro ⟨_,⟨h1,rfl⟩,_,⟨h2,h3,rfl⟩,_,⟨h4,rfl⟩,-,rfl⟩;exact ⟨⟨h1,h2,h4,fun h=>absurd h h6,fun h=>absurd h h7⟩,kN.nil _ _,by simp⟩
  rintro ⟨⟨h1,h2,h4,-,-⟩,h3,rfl⟩;exact ⟨s,⟨h1,rfl⟩,_,⟨h2,kN.nil _ _,rfl⟩,_,⟨h4,rfl⟩,ay,by simp⟩
theorem ajR (C:bC) (note:Bool) (t:Int):∀ (x:aU) (s s':CS),zU C note t x s=(0,s')↔oV C note t x∧kN C.us s.bN (vX x)∧s'=⟨s.n+(uR x:Nat),s.bN++vX x⟩
 | .mk h cs,s,s'=>by
  have hc:=abf C note t cs;rw [zU,oV,vX,uR]
  simp only [EC,yJ,hc]
  constructor
  ·rintro ⟨_,⟨h1,rfl⟩,h2,h3⟩;exact ⟨⟨h1,h2⟩,h3⟩
  rintro ⟨⟨h1,h2⟩,h3⟩;exact ⟨s,⟨h1,rfl⟩,h2,h3⟩
theorem ajP (C:bC) (note:Bool) (t:Int):∀ (x:aX) (s s':CS),cellC C note t x s=(0,s')↔oU C note t x∧kN C.us s.bN (wU x)∧s'=⟨s.n+(uC x:Nat),s.bN++wU x⟩
 | .mk i h f,s,s'=>by
  have hf:=Mh C false note t f;rw [cellC,oU,wU,uC,show i :: jA f=[i]++jA f from rfl]
  simp only [EC,yJ,hf,Xn,kN.app]
  constructor
  ·rintro ⟨_,⟨h1,rfl⟩,_,⟨h2,rfl⟩,h3,h4,rfl⟩;exact ⟨⟨h2,h3⟩,⟨h1,h4⟩,by rw [ko]⟩
  rintro ⟨⟨h2,h3⟩,⟨h1,h4⟩,rfl⟩;exact ⟨_,⟨h1,rfl⟩,_,⟨h2,rfl⟩,h3,h4,by rw [ko]⟩
theorem Mh (C:bC) (body note:Bool) (t:Int):∀ (l:List au) (s s':CS),jO C body note t l s=(0,s')↔iN C body note t l∧kN C.us s.bN (jA l)∧s'=⟨s.n+(jY l:Nat),s.bN++jA l⟩
 | [],s,s'=>by rw [jO,iN,jA,jY,yJ];simp [kN.nil]
 | x :: r,s,s'=>by
  have h1:=ajQ C body note t x;have h2:=Mh C body note t r;rw [jO,iN,jA,jY]
  simp only [EC,h1,h2,kN.app]
  constructor
  ·rintro ⟨_,⟨q1,q2,rfl⟩,q3,q4,rfl⟩;exact Uc
  rintro ⟨⟨q1,q3⟩,⟨q2,q4⟩,rfl⟩;exact Ud
theorem abg (C:bC) (note:Bool) (t:Int):∀ (l:List aU) (s s':CS),jf C note t l s=(0,s')↔jX C note t l∧kN C.us s.bN (nV l)∧s'=⟨s.n+(pz l:Nat),s.bN++nV l⟩
 | [],s,s'=>by rw [jf,jX,nV,pz,yJ];simp [kN.nil]
 | x :: r,s,s'=>by
  have h1:=ajR C note t x;have h2:=abg C note t r;rw [jf,jX,nV,pz]
  simp only [EC,h1,h2,kN.app]
  constructor
  ·rintro ⟨_,⟨q1,q2,rfl⟩,q3,q4,rfl⟩;exact Uc
  rintro ⟨⟨q1,q3⟩,⟨q2,q4⟩,rfl⟩;exact Ud
theorem abf (C:bC) (note:Bool) (t:Int):∀ (l:List aX) (s s':CS),qV C note t l s=(0,s')↔kL C note t l∧kN C.us s.bN (oO l)∧s'=⟨s.n+(qh l:Nat),s.bN++oO l⟩
 | [],s,s'=>by rw [qV,kL,oO,qh,yJ];simp [kN.nil]
 | x :: r,s,s'=>by
  have h1:=ajP C note t x;have h2:=abf C note t r;rw [qV,kL,oO,qh]
  simp only [EC,h1,h2,kN.app]
  constructor
  ·rintro ⟨_,⟨q1,q2,rfl⟩,q3,q4,rfl⟩;exact Uc
  rintro ⟨⟨q1,q3⟩,⟨q2,q4⟩,rfl⟩;exact Ud
end
theorem aoE {a b c d:Int}:dS [a,b,c,d]=0↔a=0∧b=0∧c=0∧d=0:=by
 constructor
 ·intro h;have z:=lD h;exact ⟨z _ (by simp),z _ (by simp),z _ (by simp),z _ (by simp)⟩
 rintro ⟨rfl,rfl,rfl,rfl⟩;rfl
theorem Qh {a b:Int}:dS [a,b]=0↔a=0∧b=0:=by
 constructor
 ·intro h;have z:=lD h;exact ⟨z _ (by simp),z _ (by simp)⟩
 rintro ⟨rfl,rfl⟩;rfl
theorem zI (d:gu):iK d=0↔(Mg d.iq=0∧Dt d.revs=0)∧(iM d.kG 3 d.fin=0∧uz d.fin.marks=false)∧iN d.kG true false 0 d.flow∧kN [] [] (jA d.flow)∧jY d.flow<=16384:=by
 unfold iK
 rw [aoE,Qh,Qh,tO (by decide),tO (by decide),sQ]
 constructor
 ·rintro ⟨h1,h2,h3,h4⟩;obtain ⟨q1,q2,q3⟩:=(Mh d.kG true false 0 d.flow ⟨0,[]⟩ _).1 (UC h3);rw [q3] at h4;dsimp only at h4;exact ⟨h1,h2,q1,q2,by omega⟩
 rintro ⟨h1,h2,q1,q2,q3⟩;have h:=(Mh d.kG true false 0 d.flow ⟨0,[]⟩ _).2 ⟨q1,q2,rfl⟩;rw [h];exact ⟨h1,h2,rfl,by dsimp only;omega⟩
def mR (z y:au):au:=.mk z.kind z.code z.id (z.text++y.text) z.head z.flow z.rows
def ru (y:au):Prop:=(y.kind=7∧y.rows.length=0)∨(y.kind=1∧y.text.size=0)
def qb (z y:au):Prop:=y.kind=1∧z.kind=1∧z.head=y.head
instance (y:au):Decidable (ru y):=inferInstanceAs (Decidable (_∨_))
instance (z y:au):Decidable (qb z y):=inferInstanceAs (Decidable (_∧_∧_))
def addN (out:List au) (y:au):List au :=
 if ru y then out else match out.getLast? with
  | none=>out++[y]
  | some z=>if qb z y then out.dropLast++[mR z y] else out++[y]
theorem Jh {out:List au} {y:au} (h:ru y):addN out y=out:=aD h
theorem Dl {out:List au} {y:au} (h:¬ ru y) (hj:∀ o z,out=o++[z]->¬ qb z y):addN out y=out++[y]:=by
 unfold addN
 rw [av h]
 split
 ·rfl
 rename_i z hz
 obtain ⟨o,rfl⟩:=List.getLast?_eq_some_iff.1 hz;rw [av (hj o z rfl)]
theorem BQ {o:List au} {z y:au} (h:¬ ru y) (hj:qb z y):addN (o++[z]) y=o++[mR z y]:=by
 unfold addN
 rw [av h,List.getLast?_concat];dsimp only;rw [aD hj,List.dropLast_concat]
theorem aah (out:List au) (y:au):addN out y=out∨addN out y=out++[y]∨∃ o z,out=o++[z]∧z.kind=1∧y.kind=1∧addN out y=o++[mR z y]:=by
 by_cases h:ru y
 ·exact .inl (Jh h)
 by_cases hj:∃ o z,out=o++[z]∧qb z y
 ·obtain ⟨o,z,rfl,hj⟩:=hj;exact .inr (.inr ⟨o,z,rfl,hj.2.1,hj.1,BQ h hj⟩)
 exact .inr (.inl (Dl h fun o z e hz=>hj ⟨o,z,e,hz⟩))
mutual
/-- What becomes of an item in a normal form, of rows, of cells. -/
def nI:au->au
 | .mk k c i t h f r=>.mk k c i t h ((mU f).foldl addN []) (lK r)
def mU:List au->List au
 | []=>[]
 | x :: l=>nI x :: mU l
def nR:aU->aU
 | .mk h c=>.mk h (lJ c)
def lK:List aU->List aU
 | []=>[]
 | x :: l=>nR x :: lK l
def nC:aX->aX
 | .mk i h f=>.mk i h ((mU f).foldl addN [])
def lJ:List aX->List aX
 | []=>[]
 | x :: l=>nC x :: lJ l
end
theorem KG:∀ l:List au,mU l=l.map nI
 | []=>by simp [mU]
 | x :: l=>by simp [mU,KG l]
theorem Fz:∀ l:List aU,lK l=l.map nR
 | []=>by simp [lK]
 | x :: l=>by simp [lK,Fz l]
theorem Iz:∀ l:List aX,lJ l=l.map nC
 | []=>by simp [lJ]
 | x :: l=>by simp [lJ,Iz l]
def uY (l:List au) (k:Nat):List au:=((l.take k).map nI).foldl addN []
def kK (l:List au):List au:=uY l l.length
theorem afu (x:au):nI x=.mk x.kind x.code x.id x.text x.head (kK x.flow) (x.rows.map nR):=by
 cases x;rw [nI,KG,Fz];simp [kK,uY,au.kind,au.code,au.id,au.text,au.head,au.flow,au.rows]
theorem afv (x:aU):nR x=.mk x.head (x.cells.map nC):=by cases x;rw [nR,Iz];rfl
theorem atc (x:aX):nC x=.mk x.id x.head (kK x.flow):=by cases x;rw [nC,KG];simp [kK,uY,aX.id,aX.head,aX.flow]
theorem afP {l:List au} {k:Nat} (h:k < l.length):uY l (k+1)=addN (uY l k) (nI l[k]):=by
 unfold uY;rw [kg h,lW,List.foldl_append];rfl
theorem axj (out:List au) (y:au):pq (addN out y)<=pq out+(y.text.size+1):=by
 rcases aah out y with e|e|⟨o,z,rfl,-,-,e⟩ <;> rw [e]
 ·omega
 ·rw [IW];simp [pq]
 rw [IW,IW];have:(mR z y).text.size=z.text.size+y.text.size:=ByteArray.size_append
 simp only [pq,this];omega
theorem X5 {l:List au}:∀ {k:Nat},k<=l.length->pq (uY l k)<=pq (l.take k)
 | 0,_=>by simp [uY,pq]
 | k+1,h=>by
  have ih:=X5 (l:=l) (k:=k) (by omega);have h1:=axj (uY l k) (nI l[k])
  have h2:(nI l[k]).text=l[k].text:=by rw [afu];rfl
  rw [h2] at h1;rw [afP (by omega),kg (by omega),IW]
  simp only [pq];omega
theorem atL {l:List au} {k:Nat} (h:k<=l.length):(uY l k).length<=pq l:=by
 have h1:=XE (uY l k);have h2:=X5 h;have h3:=ahn l k
 omega
mutual
/-- Tables whose rows all have cells. -/
def KH:au->Prop
 | .mk _ _ _ _ _ f r=>wZ f∧Ea r
def wZ:List au->Prop
 | []=>True
 | x :: l=>KH x∧wZ l
def FD:aU->Prop
 | .mk _ c=>c≠[]∧FC c
def Ea:List aU->Prop
 | []=>True
 | x :: l=>FD x∧Ea l
def FB:aX->Prop
 | .mk _ _ f=>wZ f
def FC:List aX->Prop
 | []=>True
 | x :: l=>FB x∧FC l
end
theorem afB:∀ {l:List au},wZ l->∀ x∈l,KH x
 | [],_,_,h=>by cases h
 | y :: l,h,x,hx=>by
  rw [wZ] at h
  rcases iy.1 hx with rfl|hx
  ·exact h.1
  exact afB h.2 x hx
theorem XU:∀ {l:List aU},Ea l->∀ x∈l,FD x
 | [],_,_,h=>by cases h
 | y :: l,h,x,hx=>by
  rw [Ea] at h
  rcases iy.1 hx with rfl|hx
  ·exact h.1
  exact XU h.2 x hx
theorem afA:∀ {l:List aX},FC l->∀ x∈l,FB x
 | [],_,_,h=>by cases h
 | y :: l,h,x,hx=>by
  rw [FC] at h
  rcases iy.1 hx with rfl|hx
  ·exact h.1
  exact afA h.2 x hx
theorem atm (x:au):KH x=(wZ x.flow∧Ea x.rows):=by cases x;rw [KH];rfl
theorem afC (x:aU):FD x=(x.cells≠[]∧FC x.cells):=by cases x;rw [FD];rfl
theorem atl (x:aX):FB x=wZ x.flow:=by cases x;rw [FB];rfl
theorem Uj {a b:ByteArray} {i:Nat} (h:i < a.size):ig (a++b) i=ig a i:=by
 rw [mY h,mY (by rw [ByteArray.size_append];omega),ByteArray.getElem_append_left h]
theorem Uk (a b:ByteArray) (j:Nat):ig (a++b) (a.size+j)=ig b j:=by
 by_cases h:j < b.size
 ·rw [mY h,mY (by rw [ByteArray.size_append];omega),ByteArray.getElem_append_right (by omega)]
  congr 2
  simp
 unfold ig
 rw [dif_neg (by rw [ByteArray.size_append];omega),dif_neg h]
theorem abB {a b:ByteArray} {t n:Nat}:∀ (f k:Nat) (low high p:Int),(qZ a t n f k low high p).2.2=true->qZ (a++b) t n f k low high p=qZ a t n f k low high p
 | 0,_,_,_,_,_=>rfl
 | f+1,k,low,high,p,h=>by
  unfold qZ at h |-
  by_cases h1:n<=k
  ·rw [aD h1,aD h1]
  rw [av h1] at h;rw [av h1,av h1]
  by_cases h2:a.size<=t+k∨ig a (t+k) < low∨high < ig a (t+k)
  ·rw [aD h2] at h;cases h
  rw [av h2] at h
  have h3:t+k < a.size:=by omega
  rw [Uj h3,av h2,av (by rw [ByteArray.size_append];omega)];exact abB f (k+1) _ _ _ h
theorem abC (a b:ByteArray) (j n:Nat):∀ (f k:Nat) (low high p:Int),qZ (a++b) (a.size+j) n f k low high p=qZ b j n f k low high p
 | 0,_,_,_,_=>rfl
 | f+1,k,low,high,p=>by
  unfold qZ
  have e:ig (a++b) (a.size+j+k)=ig b (j+k):=by rw [Nat.add_assoc];exact Uk a b (j+k)
  have e2:((a++b).size<=a.size+j+k)↔(b.size<=j+k):=by rw [ByteArray.size_append];omega
  rw [e,abC a b j n f]
  simp only [e2]
theorem abE {a b:ByteArray} {i:Nat} (hi:i < a.size) (h:(mF a i).2.2=true):mF (a++b) i=mF a i:=by
 unfold mF at h |-
 simp only [Uj hi] at h |-
 split
 ·rfl
 rename_i h1
 rw [av h1] at h
 split
 ·rfl
 rename_i h2
 rw [av h2] at h;exact abB _ _ _ _ _ h
theorem abF (a b:ByteArray) (j:Nat):mF (a++b) (a.size+j)=mF b j:=by
 unfold mF
 simp only [Uk,abC]
theorem aoG (a b:ByteArray):∀ (n j:Nat),b.size - j=n->uU b j < 0->uU (a++b) (a.size+j) < 0:=by
 intro n
 induction n using Nat.strongRecOn with
 | _ n ih =>
  intro j hn h;rw [uU]
  by_cases hj:j < b.size
  ·rw [uU,dif_pos hj] at h;rw [dif_pos (by rw [ByteArray.size_append];omega)]
   by_cases hd:(mF b j).2.2=true
   ·rw [dif_pos hd] at h;have hs:=(PY b j hj).2 hd;rw [dif_pos (by rw [abF];exact hd),abF,Nat.add_assoc];exact ih _ (by omega) (j+(mF b j).2.1) rfl h
   rw [dif_neg hd] at h;omega
  rw [dif_neg (by rw [ByteArray.size_append];omega)];decide
theorem aoF (a b:ByteArray) (hb:uU b 0 < 0):∀ (n i:Nat),a.size - i=n->i<=a.size->uU a i < 0->uU (a++b) i < 0:=by
 intro n
 induction n using Nat.strongRecOn with
 | _ n ih =>
  intro i hn hi h
  by_cases hj:i < a.size
  ·rw [uU,dif_pos hj] at h;rw [uU,dif_pos (by rw [ByteArray.size_append];omega)]
   by_cases hd:(mF a i).2.2=true
   ·rw [dif_pos hd] at h;have hs:=(PY a i hj).2 hd;rw [dif_pos (by rw [abE hj hd];exact hd),abE hj hd];exact ih _ (by omega) (i+(mF a i).2.1) rfl hs.2 h
   rw [dif_neg hd] at h;omega
  obtain rfl:i=a.size:=by omega
  exact aoG a b b.size 0 rfl hb
theorem ahI {a b:ByteArray} (ha:sJ a=true) (hb:sJ b=true):sJ (a++b)=true:=by
 unfold sJ at *
 exact mM (aoF a b (pI hb) a.size 0 rfl (lu _) (pI ha))
theorem abq (a b:ByteArray):∀ (n j:Nat),b.size - j=n->qX (a++b) (a.size+j)=qX b j
 | 0,j,h=>by
  rw [qX.eq_def (a++b),qX.eq_def b,av (show ¬ a.size+j < (a++b).size by rw [ByteArray.size_append];omega),av (show ¬ j < b.size by omega)]
 | n+1,j,h=>by
  have ih:=abq a b n (j+1) (by omega);rw [qX.eq_def (a++b),qX.eq_def b,aD (show a.size+j < (a++b).size by rw [ByteArray.size_append];omega),aD (show j < b.size by omega),Uk,Nat.add_assoc,ih]
theorem abp (a b:ByteArray):∀ (n i:Nat),a.size - i=n->i<=a.size->qX (a++b) i=qX a i+qX b 0
 | 0,i,h,hi=>by
  obtain rfl:i=a.size:=by omega
  rw [qX.eq_def a a.size,av (Nat.lt_irrefl _),iA];exact abq a b b.size 0 rfl
 | n+1,i,h,hi=>by
  have ih:=abp a b n (i+1) (by omega) (by omega);rw [qX.eq_def (a++b),qX.eq_def a i,aD (show i < (a++b).size by rw [ByteArray.size_append];omega),aD (show i < a.size by omega),Uj (show i < a.size by omega),ih,Nat.add_assoc]
theorem akr {a b:ByteArray} (ha:sJ a=true) (hb:sJ b=true):uO (a++b)=uO a+uO b:=by
 unfold uO
 rw [aD ha,aD hb,aD (ahI ha hb)];exact abp a b a.size 0 rfl (lu _)
def zB (s:CS) (z:Nat) (r:CR):Prop:=r.2.bN.length<=s.bN.length+z
theorem zB.and {s:CS} {z y q:Nat} {r:CR} {f:CS->CR} (h:zB s z r) (hq:z+y<=q) (hf:∀ s,zB s y (f s)):zB s q (gZ r f):=by
 unfold zB at *
 unfold gZ
 split
 ·omega
 have:=hf r.2
 omega
theorem zB.zero (s:CS) (e:Int) (q:Nat):zB s q (e,s):=by unfold zB;dsimp only;omega
theorem zB.le {s:CS} {z y:Nat} {r:CR} (h:zB s z r) (hq:z<=y):zB s y r:=by unfold zB at *;omega
structure OG where
 code:Int
 id:Int
 name:ByteArray
 flow:Int
 at_:Int
def OG.dat (x:OG):List Dat:=[li x.code,li x.id,.lf (.string x.name),li x.flow,li x.at_]
abbrev OG.cells (x:OG):List ah:=[vi x.code,vi x.id,.string x.name,vi x.flow,vi x.at_]
def Zl (P:Program) (fv:ah) (Gi:GH) (xs:List AP) (J:Nat->GH->OL->Prop):Prop :=
 ∀ k args G L w,zq xs k args G->(∀ b o,Gi b=some o->G b=some o)->J k G L->gY G L w->sK P fv args w (gF w G L fun _ G' L'=>J (k+1) G' L')
theorem CY:Ty prog 137 1 8 [.nilFunc] false:=⟨by kernel_rfl,by kernel_rfl⟩
theorem yB:Ty prog 41 1 24 [.slice none 0 0] false:=⟨by kernel_rfl,by kernel_rfl⟩
def Oj (A:List qO):Int:=A.foldl (fun n f=>n+Fw f.items) 0
theorem Vf:aQ 88:=aR func88 rfl
mutual
/-- The heads of items, rows and cells, in document order. -/
def AO:au->List dN
 | .mk k _ _ _ h f r=>h :: ((if k=6 then kC f else [])++(if k=7 then pY r else []))
def kC:List au->List dN
 | []=>[]
 | x :: r=>AO x++kC r
def EY:aU->List dN
 | .mk h c=>h :: qH c
def pY:List aU->List dN
 | []=>[]
 | x :: r=>EY x++pY r
def EW:aX->List dN
 | .mk _ h f=>h :: kC f
def qH:List aX->List dN
 | []=>[]
 | x :: r=>EW x++qH r
end
theorem apu (x:au):AO x=x.head :: ((if x.kind=6 then kC x.flow else [])++(if x.kind=7 then pY x.rows else [])):=by cases x;rw [AO];rfl
theorem apJ (x:aU):EY x=x.head :: qH x.cells:=by cases x;rw [EY];rfl
theorem aoW (x:aX):EW x=x.head :: kC x.flow:=by cases x;rw [EW];rfl
def HY (h:dN):AP:=fun args G=>∃ p d y:Option Addr × Nat × Nat,args=[.agg #[aW p,vi h.marks.ins,vi h.marks.move,aW d,aW y]]∧jq G h (aW p) (aW d) (aW y)
theorem Wy {G:GH} {h:dN} {pA dA yA:Option Addr} {pn pc dn dc yn yc:Nat} (hr:jq G h (.slice pA pn pc) (.slice dA dn dc) (.slice yA yn yc)):HY h [.agg #[.slice pA pn pc,vi h.marks.ins,vi h.marks.move,.slice dA dn dc,.slice yA yn yc]] G:=⟨(pA,pn,pc),(dA,dn,dc),(yA,yn,yc),rfl,hr⟩
def Tq (n:Nat):Prop:=∀ (fv:ah) (Gi:GH) (xs:List AP) (J:Nat->GH->OL->Prop) (G:GH) (L:OL) (w0:World) (j:Nat) (l:List au) (v:ah),
 (∀ b o,Gi b=some o->G b=some o)->Zl prog fv Gi xs J->FZ J->J j G L->gY G L w0->ak G (.sl 11 (l.map au.dat)) v->dx l < n->(∀ i a,(kC l)[i]?=some a->xs[j+i]?=some (HY a)) ->
 Calls prog 88 #[v,fv] w0 (gF w0 G L fun _ G' L'=>J (j+(kC l).length) G' L')
set_option maxHeartbeats 4000000 in
theorem aqs {n:Nat} (ih:Tq n) (hn:n<=4294967296):Tq (n+1):=by
 intro fv Gi xs J G L w0 j0 l v hGi hcb zM hJ0 hO hv hz hx0;obtain ⟨A,c,rfl,hc1,hc2,hg⟩:=hv.slice;rw [bQ] at *;have hll:=Ll l;refine jD (N:=59) (T:=[(0,_),(1,_)]) func88 rfl ntmps88 rfl rfl hO ?_;intro a H;refine kP H (SR fun _ K1=>Rm rfl (Rl jo rfl (Rm rfl (Kz K1 (SB ?_)))));clear H K1;intro a H;skip;refine fF (ι:=Nat × Nat × OL × GH) (Tc:=[(1,_),(10,_),(11,_)]) (Lc:=[]) (fun gh=>[(12,vi gh.1)]) (fun gh=>[]++gh.2.2.1) (fun gh=>gh.2.2.2) (fun gh=>gh.1<=l.length∧(∀ b o,G b=some o->gh.2.2.2 b=some o)∧Now xs HY J (j0+(kC l).length) gh.2.1 (kC (l.drop gh.1)) gh.2.2.2 gh.2.2.1) (fun gh=>l.length - gh.1) ((0,j0,L,G)) (by exact H.sub ⟨rfl,rfl,rfl,rfl,ay⟩) ?_ ?_
 ·exact ⟨by omega,fun _ _ h=>h,⟨hJ0,hx0,rfl⟩⟩
 clear H;rintro ⟨k,j,Lt,g1⟩ a w hI H;dsimp only at hI H;obtain ⟨hk,hgm,kT⟩:=hI;dsimp only [lca,bM] at H;refine kP H (SR fun _ K2=>Rc rfl (Kz K2 (SQ fun _ K3=>Cd rfl ?_ ?_))) <;> clear H K2
 ·intro gL a H
  try have sG:=dT gL
  have hk2:k < l.length:=by omega
  obtain ⟨b,o,pA,pn,pc,dA,dn,dc,yA,yn,yc,fA,fn,fc,rA,rn,rc,rfl,hrow,hhd,hfl,hrw⟩:=JX hk2 hg;replace hrow:=fun j u hj=>aF hgm (hrow j u hj);replace hhd:=hhd.mono hgm;replace hfl:=hfl.mono hgm;replace hrw:=hrw.mono hgm;have hrn:=hrw.len;rw [bQ] at hrn;subst hrn;have hsz1:=OC hk2;rw [rU hk2] at kT
  simp only [kC,apu,ko,pG] at kT
  obtain ⟨x,hx⟩:∃ x,x=l[k]:=⟨_,rfl⟩;rw [<- hx] at kT hrow hhd hfl hrw hsz1;have hrl:=OD x.rows;refine kP H (Kc K3 (SQ fun _ K4=>SB (SR fun _ K5=>Ri jo gN rfl rfl ?_)));clear H K3;intro a H;refine aV gN (cs:=[_,_,_,_,_,_,_,_,_,_,_]) H wn rfl rfl (fun j v hj=>H.hp.aI (hrow j v hj)) rfl ?_;clear H;intro a H;refine dP gN H wn rfl ?_;clear H;intro b5 a w hb5 H;refine bK gN 0 (vs:=[_,_,_,_,_,_,_,_,_,_,_]) H wn rfl ?_;clear H;intro w H;refine K5 _ _ ?_;clear K5;refine kP H (SR fun _ K6=>Rm rfl (Rf wK rfl ?_));clear H;intro a H;refine aV dW (cs:=[_,_,_,_,_]) H wn rfl rfl (H.hp.cB 0 rfl rfl) rfl ?_;clear H;intro a H;refine Eh (Li:=[_]) (L:=Lt) H wn rfl rfl (hcb _ _ _ _ _ ⟨_,kT.head,Wy hhd⟩ (fun b o h=>hgm b o (hGi b o h)) kT.now (Hp.owns (Li:=[_]) H.hp)) rfl ?_;clear H;intro v19 I8 TD a w apv tu H;have DZ:=kT.step apv;refine K6 _ _ ?_;clear K6;refine kP H (SR fun _ K7=>bO lS aG 0 rfl rfl (Kz K7 (SB (SR fun _ K8=>Rc rfl (aj K8 rfl (Cd rfl ?_ ?_)))))) <;> clear H K7 K8
  ·intro h22 a H
   try have oW:=dT h22
   rw [aD oW,dL,nQ] at DZ;refine kP H (SC (bO zK kV 0 rfl rfl (Rm rfl ?_)));clear H;intro a H;refine iE Vf (Li:=[_]) (L:=TD) H wn rfl (ih fv Gi xs J _ _ _ (j+1) x.flow _ (fun b o h=>tu b o (hgm b o (hGi b o h))) hcb zM DZ.now (Hp.owns (Li:=[_]) H.hp) (hfl.mono tu) (by omega) DZ.part) rfl ?_;clear H;intro v27 Zt aix a w apw adT H;refine kH H (Kn K4 (SC (Rd rfl (Rm rfl ?_))));clear H K4;intro a H;refine aB ?_;refine dJ ((k+1,j+1+(kC x.flow).length,aix,Zt)) (by exact (H.fG (Pl:=[_]) (eH:=[]) [] (by decide) rfl).sub ⟨rfl,rfl,rfl,rfl,ay⟩) ?_
   (try dsimp only);exact ⟨by omega,fun b o h=>adT b o (tu b o (hgm b o h)),DZ.jump apw⟩
  intro h22 a H
  try have oW:=dF h22
  rw [av oW,nQ] at DZ;refine kP H (SR fun _ K9=>Rc rfl (aj K9 rfl (Cd rfl ?_ ?_))) <;> clear H K9
  ·intro gD a H
   try have p28:=dT gD
   rw [aD p28] at DZ;refine kP H (SR fun _ aS=>bO um uE 0 rfl rfl (Rl nM rfl (Rm rfl (Kz aS (SB ?_)))));clear H aS;intro a H;skip;refine fF (ι:=Nat × Nat × OL × GH) (Tc:=[(1,_),(10,_),(11,_),(12,_),(31,_),(32,_)]) (Lc:=[(_,_)]) (fun gh=>[(33,vi gh.1)]) (fun gh=>[]++gh.2.2.1) (fun gh=>gh.2.2.2) (fun gh=>gh.1<=x.rows.length∧(∀ b o,I8 b=some o->gh.2.2.2 b=some o)∧Now xs HY J (j0+(kC l).length) gh.2.1 (pY (x.rows.drop gh.1)++kC (l.drop (k+1))) gh.2.2.2 gh.2.2.1) (fun gh=>x.rows.length - gh.1) ((0,j+1,TD,I8)) (by exact H.sub ⟨rfl,rfl,rfl,rfl,rfl,rfl,rfl,ay⟩) ?_ ?_
   ·exact ⟨by omega,fun _ _ h=>h,DZ⟩
   clear H;rintro ⟨rk,j3,Lt3,g3⟩ a w hI H;dsimp only at hI H;obtain ⟨hrk,hg3,Fh⟩:=hI;dsimp only [lca,bM] at H;refine kP H (SR fun _ bH=>Rc rfl (Kz bH (SQ fun _ bT=>Cd rfl ?_ ?_))) <;> clear H bH
   ·intro fu a H
    try have p34:=dT fu
    have hk3:rk < x.rows.length:=by omega
    obtain ⟨b2,o2,qA,qn,qc,eA,en,ec,zA,zn,zc,cA,cn,cc,rfl,hrow,Ii,hcl⟩:=RZ hk3 ((hrw.mono tu).mono hg3).at_;have hcn:=hcl.len;rw [bQ] at hcn;subst hcn;have hsz2:=SV hk3;have hcs:=OB x.rows[rk].cells;rw [rU hk3] at Fh
    simp only [pY,apJ,ko,pG] at Fh
    obtain ⟨y,hy⟩:∃ y,y=x.rows[rk]:=⟨_,rfl⟩;rw [<- hy] at Fh hrow Ii hcl hsz2 hcs;refine kP H (Kc bT (SQ fun _ cK=>SB (SR fun _ dB=>Ri nM jG rfl rfl ?_)));clear H bT;intro a H;refine aV jG (cs:=[_,_,_,_,_,_]) H wn rfl rfl (fun j v hj=>H.hp.aI (hrow j v hj)) rfl ?_;clear H;intro a H;refine dP jG H wn rfl ?_;clear H;intro b7 a w zN H;refine bK jG 0 (vs:=[_,_,_,_,_,_]) H wn rfl ?_;clear H;intro w H;refine dB _ _ ?_;clear dB;refine kP H (SR fun _ eU=>Rm rfl (Rf GZ rfl ?_));clear H;intro a H;refine aV dW (cs:=[_,_,_,_,_]) H wn rfl rfl (H.hp.cB 0 rfl rfl) rfl ?_;clear H;intro a H;refine Eh (Li:=[_,_]) (L:=Lt3) H wn rfl rfl (hcb _ _ _ _ _ ⟨_,Fh.head,Wy Ii⟩ (fun b o h=>hg3 b o (tu b o (hgm b o (hGi b o h)))) Fh.now (Hp.owns (Li:=[_,_]) H.hp)) rfl ?_;clear H;intro v40 Tm aiy a w apx H7 H;have aqX:=Fh.step apx;refine eU _ _ ?_;clear eU;refine kP H (SR fun _ eX=>bO yN zm 0 rfl rfl (Rl qj rfl (Rm rfl (Kz eX (SB ?_)))));clear H eX;intro a H;skip;refine fF (ι:=Nat × Nat × OL × GH) (Tc:=[(1,_),(10,_),(11,_),(12,_),(31,_),(32,_),(33,_),(42,_),(43,_)]) (Lc:=[(_,_),(_,_)]) (fun gh=>[(44,vi gh.1)]) (fun gh=>[]++gh.2.2.1) (fun gh=>gh.2.2.2) (fun gh=>gh.1<=y.cells.length∧(∀ b o,Tm b=some o->gh.2.2.2 b=some o)∧Now xs HY J (j0+(kC l).length) gh.2.1 (qH (y.cells.drop gh.1)++(pY (x.rows.drop (rk+1))++kC (l.drop (k+1)))) gh.2.2.2 gh.2.2.1) (fun gh=>y.cells.length - gh.1) ((0,j3+1,aiy,Tm)) (by exact H.sub ⟨rfl,rfl,rfl,rfl,rfl,rfl,rfl,rfl,rfl,rfl,ay⟩) ?_ ?_
    ·exact ⟨by omega,fun _ _ h=>h,aqX⟩
    clear H;rintro ⟨ck,j4,Lt4,g4⟩ a w hI H;dsimp only at hI H;obtain ⟨hck,hg4,Ib⟩:=hI;dsimp only [lca,bM] at H;refine kP H (SR fun _ eG=>Rc rfl (Kz eG (SQ fun _ fC=>Cd rfl ?_ ?_))) <;> clear H eG
    ·intro h45 a H
     try have p45:=dT h45
     have hk4:ck < y.cells.length:=by omega
     obtain ⟨b3,o3,sA,sn,sc,tA,tn,tc,uA,un,uc,gA,gn,gc,rfl,hrow,hch,hcf⟩:=PE hk4 ((hcl.mono H7).mono hg4).at_;have azj:=SS hk4;rw [rU hk4] at Ib
     simp only [qH,aoW,ko,pG] at Ib
     refine kP H (Kc fC (SQ fun _ gX=>SB (SR fun _ fM=>Ri qj kE rfl rfl ?_)));clear H fC;intro a H;refine aV kE (cs:=[_,_,_,_,_,_,_]) H wn rfl rfl (fun j v hj=>H.hp.aI (hrow j v hj)) rfl ?_;clear H;intro a H;refine dP kE H wn rfl ?_;clear H;intro b9 a w wR H;refine bK kE 0 (vs:=[_,_,_,_,_,_,_]) H wn rfl ?_;clear H;intro w H;refine fM _ _ ?_;clear fM;refine kP H (SR fun _ iI=>Rm rfl (Rf He rfl ?_));clear H;intro a H;refine aV dW (cs:=[_,_,_,_,_]) H wn rfl rfl (H.hp.cB 0 rfl rfl) rfl ?_;clear H;intro a H;refine Eh (Li:=[_,_,_]) (L:=Lt4) H wn rfl rfl (hcb _ _ _ _ _ ⟨_,Ib.head,Wy hch⟩ (fun b o h=>hg4 b o (H7 b o (hg3 b o (tu b o (hgm b o (hGi b o h)))))) Ib.now (Hp.owns (Li:=[_,_,_]) H.hp)) rfl ?_;clear H;intro v51 G51 aiz a w apy Ko H;have WQ:=Ib.step apy;refine iI _ _ ?_;clear iI;refine kP H (SC (bO EO kV 0 rfl rfl (Rm rfl ?_)));clear H;intro a H;refine iE Vf (Li:=[_,_,_]) (L:=aiz) H wn rfl (ih fv Gi xs J _ _ _ (j4+1) y.cells[ck].flow _ (fun b o h=>Ko b o (hg4 b o (H7 b o (hg3 b o (tu b o (hgm b o (hGi b o h))))))) hcb zM WQ.now (Hp.owns (Li:=[_,_,_]) H.hp) (hcf.mono Ko) (by omega) WQ.part) rfl ?_;clear H;intro v55 Ja aiA a w apz wT H;refine kH H (Kn gX (SC (Rd rfl (Rm rfl ?_))));clear H gX;intro a H;refine aB ?_;refine dJ ((ck+1,j4+1+(kC y.cells[ck].flow).length,aiA,Ja)) (by exact (H.fG (Pl:=[_,_,_]) (eH:=[_,_]) [1,2] (by decide) rfl).sub ⟨rfl,rfl,rfl,rfl,rfl,rfl,rfl,rfl,rfl,rfl,ay⟩) ?_
     (try dsimp only);exact ⟨by omega,fun b o h=>wT b o (Ko b o (hg4 b o h)),WQ.jump apz⟩
    intro h45 a H
    try have p45:=dF h45
    refine eu ?_;refine cK _ _ ?_;clear cK;refine kP H (SC (Rd rfl (Rm rfl ?_)));clear H;intro a H;refine aB ?_;refine dJ ((rk+1,j4,Lt4,g4)) (by exact (H.fG (Pl:=[_,_]) (eH:=[_]) [1] (by decide) rfl).sub ⟨rfl,rfl,rfl,rfl,rfl,rfl,rfl,ay⟩) ?_
    (try dsimp only);exact ⟨by omega,fun b o h=>hg4 b o (H7 b o (hg3 b o h)),by rw [tX (by omega),qH,nQ] at Ib;exact Ib⟩
   intro fu a H
   try have p34:=dF fu
   refine eu ?_;refine K4 _ _ ?_;clear K4;refine kP H (SC (Rd rfl (Rm rfl ?_)));clear H;intro a H;refine aB ?_;refine dJ ((k+1,j3,Lt3,g3)) (by exact (H.fG (Pl:=[_]) (eH:=[]) [] (by decide) rfl).sub ⟨rfl,rfl,rfl,rfl,ay⟩) ?_
   (try dsimp only);exact ⟨by omega,fun b o h=>hg3 b o (tu b o (hgm b o h)),by rw [tX (by omega),pY,nQ] at Fh;exact Fh⟩
  intro gD a H
  try have p28:=dF gD
  rw [av p28,nQ] at DZ;refine kP H (Kc K4 (SC (Rd rfl (Rm rfl ?_))));clear H K4;intro a H;refine aB ?_;refine dJ ((k+1,j+1,TD,I8)) (by exact (H.fG (Pl:=[_]) (eH:=[]) [] (by decide) rfl).sub ⟨rfl,rfl,rfl,rfl,ay⟩) ?_
  (try dsimp only);exact ⟨by omega,fun b o h=>tu b o (hgm b o h),DZ⟩
 intro gL a H
 try have sG:=dF gL
 refine eu ?_;refine (leave0 H results88 ?_).2
 exact H.hp.ng (L':=Lt) (by repeat (first|exact lX _|apply List.Sublist.cons)) (by
   rw [tX (by omega),kC] at kT;have:=kT.len
   simp only [List.length_nil,Aj] at this
   rw [<- this];exact kT.now)
theorem adJ:∀ n:Nat,n<=4294967297->Tq n
 | 0,_=>fun _ _ _ _ _ _ _ _ _ _ _ _ _ _ _ _ h=>absurd h (by omega)
 | n+1,hn=>aqs (adJ n (by omega)) (by omega)
theorem aag {Q:au->Prop} (hj:∀ z y,Q z->Q y->qb z y->Q (mR z y)) {out:List au} {y:au} (hy:Q y) (ho:∀ z∈out,Q z):∀ z∈addN out y,Q z:=by
 by_cases hd:ru y
 ·rw [Jh hd];exact ho
 by_cases h:∃ o z,out=o++[z]∧qb z y
 ·obtain ⟨o,z,rfl,hz⟩:=h;rw [BQ hd hz];intro x hx
  rcases jS.1 hx with h|h
  ·exact ho x (List.mem_append_left _ h)
  rw [pU.1 h];exact hj z y (ho z (by simp)) hy hz
 rw [Dl hd fun o z e hz=>h ⟨o,z,e,hz⟩];intro x hx
 rcases jS.1 hx with h|h
 ·exact ho x h
 rw [pU.1 h];exact hy
theorem Vt {Q:au->Prop} (hj:∀ z y,Q z->Q y->qb z y->Q (mR z y)):∀ (A out:List au),(∀ y∈A,Q y)->(∀ z∈out,Q z)->∀ z∈A.foldl addN out,Q z
 | [],_,_,ho=>ho
 | y :: A,out,hA,ho=>Vt hj A (addN out y) (fun x hx=>hA x (gV _ hx)) (aag hj (hA y fE) ho)
theorem fold_add {γ:Type} {F:List au->γ} {op:γ->γ->γ} {Q:au->Prop} (hF:∀ a b,F (a++b)=op (F a) (F b)) (hj:∀ z y,Q z->Q y->qb z y->Q (mR z y)) (hd:∀ y,Q y->¬ ru y)
  (hg:∀ o z y,Q z->Q y->qb z y->F (o++[mR z y])=op (F (o++[z])) (F [y])):∀ (A out:List au),(∀ y∈A,Q y)->(∀ z∈out,Q z)->F (A.foldl addN out)=F (out++A)
 | [],out,_,_=>by rw [iF];rfl
 | y :: A,out,hA,ho=>by
  have hy:=hA y fE;rw [List.foldl_cons,fold_add hF hj hd hg A (addN out y) (fun x hx=>hA x (gV _ hx)) (aag hj hy ho),show out++y :: A=(out++[y])++A by simp,hF,hF (out++[y])]
  congr 1
  by_cases h:∃ o z,out=o++[z]∧qb z y
  ·obtain ⟨o,z,rfl,hz⟩:=h;rw [BQ (hd y hy) hz,hg o z y (ho z (by simp)) hy hz,<- hF]
  rw [Dl (hd y hy) fun o z e hz=>h ⟨o,z,e,hz⟩]
theorem Vv {x:au} (h:lF x=0) (hk:x.kind=1):x.code=0∧x.id=0∧sJ x.text=true∧rY x.text=false∧x.flow=[]∧x.rows=[]:=by
 have h0:=Hf h
 unfold lF at h
 have hc:xM x=false:=by simp [xM,hk]
 have hn:xY x=false:=by simp [xY,hk]
 split at h
 ·cases h
 split at h
 ·cases h
 rename_i h2
 split at h
 ·cases h
 split at h
 ·cases h
 rename_i h4
 rw [hk] at h4
 simp only [vT,hc,hn,Bool.not_false,LK,Bool.or_eq_true,not_or,Bool.not_eq_true,sQ,oK] at h2
 refine ⟨h2.1.1.1.1,h2.1.1.1.2,h0.1,?_,h0.2.2.2 (by omega),h0.2.2.1 (by omega)⟩
 cases he:rY x.text
 ·rfl
 rw [he] at h4;simp at h4
theorem abT (s:ByteArray):rY s=decide (s.size=0):=by
 unfold rY
 rw [ByteArray.toList_eq,ByteArray.toList_eq,tY,pF,beq_iff_eq]
 constructor
 ·intro h;have:=cO List.length h
  simpa using this
 intro h;exact List.eq_nil_of_length_eq_zero (by rw [vE];exact h)
theorem aoK {z y:au} (hz:lF z=0) (hy:lF y=0) (kz:z.kind=1) (ky:y.kind=1):lF (mR z y)=0:=by
 obtain ⟨a1,a2,a3,a4,a5,a6⟩:=Vv hz kz;obtain ⟨b1,b2,b3,b4,b5,b6⟩:=Vv hy ky;have hv:=ahI a3 b3
 have he:rY (z.text++y.text)=false:=by
  rw [abT,sQ] at a4 |-;rw [ByteArray.size_append];omega
 unfold lF mR codeOk vT zY Aa xM xY
 simp only [au.kind,au.code,au.id,au.text,au.flow,au.rows] at *
 simp [kz,a1,a2,a5,a6,hv,he,zY,xM,xY,Aa,au.kind,au.code]
theorem aoL {k c i:Int} {tx:ByteArray} {h:dN} {f f':List au} {r r':List aU} (hx:lF (.mk k c i tx h f r)=0) (hf:k≠6->f=[]->f'=[]) (hr:r'.length=r.length):lF (.mk k c i tx h f' r')=0:=by
 have h0:=(Hf hx).2.2.2
 have e:vT (.mk k c i tx h f' r')=vT (.mk k c i tx h f r):=by
  have hfl:k≠6->f'.length=f.length:=fun h6=>by rw [hf h6 (h0 h6),show f=[] from h0 h6]
  rw [tY]
  simp only [vT,Bool.or_eq_true,ow,pF]
  have c1:xM (.mk k c i tx h f' r')=xM (.mk k c i tx h f r):=rfl;have c2:xY (.mk k c i tx h f' r')=xY (.mk k c i tx h f r):=rfl;have c3:Aa (.mk k c i tx h f' r')=Aa (.mk k c i tx h f r):=rfl;rw [c1,c2,c3]
  show (((((_∧c≠0)∨(_∧i≠0))∨(_∧(!rY tx)=true))∨(k≠6∧0 < (f'.length:Int)))∨(k≠7∧0 < (r'.length:Int)))↔(((((_∧c≠0)∨(_∧i≠0))∨(_∧(!rY tx)=true))∨(k≠6∧0 < (f.length:Int)))∨(k≠7∧0 < (r.length:Int)))
  rw [hr]
  by_cases h6:k=6
  ·simp [h6]
  rw [hfl h6]
 have e2:codeOk (.mk k c i tx h f' r')=codeOk (.mk k c i tx h f r):=rfl;have e3:zY (.mk k c i tx h f' r')=zY (.mk k c i tx h f r):=rfl
 unfold lF at hx |-
 rw [e,e2,e3];exact hx
theorem Ry {C:bC} {body note:Bool} {t:Int} (x:au):lM C body note t x↔lF x=0∧RB body note t x.kind x.id∧iM C x.kind x.head=0∧(x.kind=6->iN C false true t x.flow)∧(x.kind=7->(x.rows.length≠0∧x.rows.length<=256)∧jX C note (t+1) x.rows):=by
 cases x;rw [lM];rfl
theorem XY {C:bC} {body note:Bool} {t:Int} (z y:au) (hz:lM C body note t z) (hy:lM C body note t y) (hj:qb z y):lM C body note t (mR z y):=by
 rw [Ry] at *;refine ⟨aoK hz.1 hy.1 hj.2.1 hj.1,hz.2.1,hz.2.2.1,hz.2.2.2.1,hz.2.2.2.2⟩
theorem afI {C:bC} {body note:Bool} {t:Int} (y:au) (hy:lM C body note t y):¬ ru y:=by
 rw [Ry] at hy;rintro (⟨h1,h2⟩|⟨h1,h2⟩)
 ·exact (hy.2.2.2.2 h1).1.1 h2
 have:=(Vv hy.1 h1).2.2.2.1;rw [abT] at this
 simp [h2] at this
theorem X4 {C:bC} {body note:Bool} {t:Int} {A:List au} (h:iN C body note t A):iN C body note t (A.foldl addN []):=Eb.2 (Vt XY A [] (Eb.1 h) (fun _ h=>by cases h))
mutual
theorem atI (C:bC) (body note:Bool) (t:Int):∀ x:au,lM C body note t x->lM C body note t (nI x)
 | .mk k c i tx h f r,hx=>by
  have hf:=IE C false true t f;have hr:=afL C note (t+1) r;rw [lM] at hx;rw [nI,lM];exact ⟨aoL hx.1 (fun _ e=>by rw [e];rfl) (by rw [Fz,bQ]),hx.2.1,hx.2.2.1,fun e=>X4 (hf (hx.2.2.2.1 e)),fun e=>⟨by rw [Fz,bQ];exact (hx.2.2.2.2 e).1,hr (hx.2.2.2.2 e).2⟩⟩
theorem atJ (C:bC) (note:Bool) (t:Int):∀ x:aU,oV C note t x->oV C note t (nR x)
 | .mk h cs,hx=>by
  have hc:=afK C note t cs;rw [oV] at hx;rw [nR,oV];exact ⟨by rw [Iz,bQ];exact hx.1,hc hx.2⟩
theorem atH (C:bC) (note:Bool) (t:Int):∀ x:aX,oU C note t x->oU C note t (nC x)
 | .mk i h f,hx=>by
  have hf:=IE C false note t f;rw [oU] at hx;rw [nC,oU];exact ⟨hx.1,X4 (hf hx.2)⟩
theorem IE (C:bC) (body note:Bool) (t:Int):∀ l:List au,iN C body note t l->iN C body note t (mU l)
 | [],_=>by rw [mU,iN];trivial
 | x :: l,h=>by
  rw [iN] at h;rw [mU,iN];exact ⟨atI C body note t x h.1,IE C body note t l h.2⟩
theorem afL (C:bC) (note:Bool) (t:Int):∀ l:List aU,jX C note t l->jX C note t (lK l)
 | [],_=>by rw [lK,jX];trivial
 | x :: l,h=>by
  rw [jX] at h;rw [lK,jX];exact ⟨atJ C note t x h.1,afL C note t l h.2⟩
theorem afK (C:bC) (note:Bool) (t:Int):∀ l:List aX,kL C note t l->kL C note t (lJ l)
 | [],_=>by rw [lJ,kL];trivial
 | x :: l,h=>by
  rw [kL] at h;rw [lJ,kL];exact ⟨atH C note t x h.1,afK C note t l h.2⟩
end
theorem Bn (l:List au):kK l=(mU l).foldl addN []:=by simp [kK,uY,KG]
theorem afM {C:bC} {body note:Bool} {t:Int} {l:List au} (h:iN C body note t l):iN C body note t (kK l):=by rw [Bn];exact X4 (IE C body note t l h)
theorem Nv:∀ a b:List au,jA (a++b)=jA a++jA b
 | [],b=>by rw [jA];rfl
 | x :: a,b=>by rw [pG,jA,jA,Nv a b,ko]
theorem Oe:∀ a b:List au,jY (a++b)=jY a+jY b
 | [],b=>by rw [jY,iA];rfl
 | x :: a,b=>by rw [pG,jY,jY,Oe a b,Nat.add_assoc]
theorem Xm {x:au} (h:x.kind=1):rH x=[]:=by
 cases x;dsimp only [au.kind] at h;subst h;simp [rH]
theorem Y2 {x:au} (h:x.kind=1):uI x=uO x.text:=by
 cases x;dsimp only [au.kind] at h;subst h;simp [uI,au.text]
theorem Xo {C:bC} {body note:Bool} {t:Int} {A:List au} (h:iN C body note t A):jA (A.foldl addN [])=jA A :=
 (fold_add (F:=jA) Nv (XY (C:=C) (body:=body) (note:=note) (t:=t)) afI (fun o z y _ _ hj=>by
  rw [Nv,Nv];simp only [jA];rw [Xm hj.2.1,Xm hj.1,Xm (x:=mR z y) hj.2.1];simp) A [] (Eb.1 h) (fun _ h=>by cases h))
theorem Y3 {C:bC} {body note:Bool} {t:Int} {A:List au} (h:iN C body note t A):jY (A.foldl addN [])=jY A :=
 (fold_add (F:=jY) Oe (XY (C:=C) (body:=body) (note:=note) (t:=t)) afI (fun o z y hz hy hj=>by
  rw [Ry] at hz hy
  rw [Oe,Oe];simp only [jY];rw [Y2 hj.2.1,Y2 hj.1,Y2 (x:=mR z y) hj.2.1,show (mR z y).text=z.text++y.text from rfl,akr (Hf hz.1).1 (Hf hy.1).1];omega) A [] (Eb.1 h) (fun _ h=>by cases h))
theorem Gy {p:Prop} (h:p:=by
 exact ⟨rfl,rfl⟩):p:=h
mutual
theorem asv (C:bC) (body note:Bool) (t:Int):∀ x:au,lM C body note t x->rH (nI x)=rH x∧uI (nI x)=uI x
 | .mk k c i tx h f r,hx=>by
  have hf:=QZ C false true t f;have hr:=aeW C note (t+1) r;rw [lM] at hx;rw [nI,rH,rH,uI,uI]
  by_cases h6:k=6
  ·subst h6;have ho:=hx.2.2.2.1 rfl;have hn:=IE C false true t f ho
   simp only [if_true,av (show ¬ (6:Int)=7 by decide)]
   rw [Xo hn,Y3 hn,(hf ho).1,(hf ho).2];exact Gy
  by_cases h7:k=7
  ·subst h7;have ho:=(hx.2.2.2.2 rfl).2
   simp only [if_true,av (show ¬ (7:Int)=6 by decide)]
   rw [(hr ho).1,(hr ho).2];exact Gy
  simp only [av h6,av h7]
  exact ⟨ay,ay⟩
theorem asw (C:bC) (note:Bool) (t:Int):∀ x:aU,oV C note t x->vX (nR x)=vX x∧uR (nR x)=uR x
 | .mk h cs,hx=>by
  have hc:=aeV C note t cs;rw [oV] at hx;rw [nR,vX,vX,uR,uR];exact hc hx.2
theorem asu (C:bC) (note:Bool) (t:Int):∀ x:aX,oU C note t x->wU (nC x)=wU x∧uC (nC x)=uC x
 | .mk i h f,hx=>by
  have hf:=QZ C false note t f;rw [oU] at hx;have hn:=IE C false note t f hx.2;rw [nC,wU,wU,uC,uC,Xo hn,Y3 hn,(hf hx.2).1,(hf hx.2).2];exact Gy
theorem QZ (C:bC) (body note:Bool) (t:Int):∀ l:List au,iN C body note t l->jA (mU l)=jA l∧jY (mU l)=jY l
 | [],_=>by rw [mU];exact ⟨rfl,rfl⟩
 | x :: l,h=>by
  rw [iN] at h;have h1:=asv C body note t x h.1;have h2:=QZ C body note t l h.2;rw [mU,jA,jA,jY,jY,h1.1,h1.2,h2.1,h2.2];exact Gy
theorem aeW (C:bC) (note:Bool) (t:Int):∀ l:List aU,jX C note t l->nV (lK l)=nV l∧pz (lK l)=pz l
 | [],_=>by rw [lK];exact ⟨rfl,rfl⟩
 | x :: l,h=>by
  rw [jX] at h;have h1:=asw C note t x h.1;have h2:=aeW C note t l h.2;rw [lK,nV,nV,pz,pz,h1.1,h1.2,h2.1,h2.2];exact Gy
theorem aeV (C:bC) (note:Bool) (t:Int):∀ l:List aX,kL C note t l->oO (lJ l)=oO l∧qh (lJ l)=qh l
 | [],_=>by rw [lJ];exact ⟨rfl,rfl⟩
 | x :: l,h=>by
  rw [kL] at h;have h1:=asu C note t x h.1;have h2:=aeV C note t l h.2;rw [lJ,oO,oO,qh,qh,h1.1,h1.2,h2.1,h2.2];exact Gy
end
theorem arV {C:bC} {body note:Bool} {t:Int} {l:List au} (h:iN C body note t l):jA (kK l)=jA l∧jY (kK l)=jY l:=by
 have hn:=IE C body note t l h;rw [Bn,Xo hn,Y3 hn];exact QZ C body note t l h
theorem axh (z y:au):cZ (mR z y).dat<=cZ z.dat+cZ y.dat:=by
 rw [au.rX,au.rX,au.rX]
 simp only [mR,au.kind,au.code,au.id,au.text,au.head,au.flow,au.rows,cZ,ni,ByteArray.size_append]
 omega
theorem OE (a b:List au):dx (a++b)=dx a+dx b:=by rw [dx,lW,KV]
theorem Zh (y:au):dx [y]=1+cZ y.dat:=by simp [dx,fB]
theorem axX (out:List au) (y:au):dx (addN out y)<=dx out+dx [y]:=by
 rcases aah out y with e|e|⟨o,z,rfl,-,-,e⟩ <;> rw [e]
 ·omega
 ·rw [OE];exact eP _
 have:=axh z y;rw [OE,OE,Zh,Zh,Zh];omega
theorem SX:∀ (A out:List au),dx (A.foldl addN out)<=dx out+dx A
 | [],out=>Nat.le_add_right _ _
 | y :: A,out=>by
  have h1:=SX A (addN out y);have h2:=axX out y;have h3:=OE [y] A;rw [List.singleton_append] at h3;rw [List.foldl_cons,h3];omega
mutual
theorem axZ:∀ x:au,cZ (nI x).dat<=cZ x.dat
 | .mk k c i tx h f r=>by
  have hf:=SY f;have hr:=aib r;have hd:=SX (mU f) [];have h0:dx []=0:=rfl
  have N9:∀ (a b:List Dat),cZ (a++b)=cZ a+cZ b:=fun a b=>by
   induction a with
   | nil=>simp [cZ]
   | cons x a ih=>simp only [pG,cZ,ih];omega
  rw [nI,au.rX,au.rX]
  simp only [au.kind,au.code,au.id,au.text,au.head,au.flow,au.rows,cZ,ni,N9]
  unfold dx at *
  unfold iO at hr
  omega
theorem aya:∀ x:aU,cZ (nR x).dat<=cZ x.dat
 | .mk h cs=>by
  have hc:=aia cs
  have N9:∀ (a b:List Dat),cZ (a++b)=cZ a+cZ b:=fun a b=>by
   induction a with
   | nil=>simp [cZ]
   | cons x a ih=>simp only [pG,cZ,ih];omega
  rw [nR,aU.rX,aU.rX]
  simp only [aU.head,aU.cells,cZ,ni,N9]
  unfold jk at hc
  omega
theorem axY:∀ x:aX,cZ (nC x).dat<=cZ x.dat
 | .mk i h f=>by
  have hf:=SY f;have hd:=SX (mU f) [];have h0:dx []=0:=rfl
  have N9:∀ (a b:List Dat),cZ (a++b)=cZ a+cZ b:=fun a b=>by
   induction a with
   | nil=>simp [cZ]
   | cons x a ih=>simp only [pG,cZ,ih];omega
  rw [nC,aX.rX,aX.rX]
  simp only [aX.id,aX.head,aX.flow,cZ,ni,N9]
  unfold dx at *
  omega
theorem SY:∀ l:List au,dx (mU l)<=dx l
 | []=>by rw [mU];exact eP _
 | x :: l=>by
  have h1:=axZ x;have h2:=SY l;rw [mU]
  simp only [dx,fH,fB] at *
  omega
theorem aib:∀ l:List aU,iO (lK l)<=iO l
 | []=>by rw [lK];exact eP _
 | x :: l=>by
  have h1:=aya x;have h2:=aib l;rw [lK]
  simp only [iO,fH,fB] at *
  omega
theorem aia:∀ l:List aX,jk (lJ l)<=jk l
 | []=>by rw [lJ];exact eP _
 | x :: l=>by
  have h1:=axY x;have h2:=aia l;rw [lJ]
  simp only [jk,fH,fB] at *
  omega
end
theorem Zg (l:List au):dx (kK l)<=dx l:=by
 have h1:=SX (mU l) [];have h2:=SY l;have h0:dx []=0:=rfl;rw [Bn];omega
section
mutual
def mH (acc rej:Int->Bool):au->List au
 | .mk k c i tx h f r=>if lG acc rej h then [] else if k=6 then [.mk k c i tx (iH acc rej h) (dV acc rej f) r] else if k=7 then (if (gH acc rej r).length=0 then [] else [.mk k c i tx (iH acc rej h) f (gH acc rej r)]) else [.mk k c i tx (iH acc rej h) f r]
def nY (acc rej:Int->Bool):aU->List aU
 | .mk h cs=>if lG acc rej h then [] else if (gB acc rej cs).length=0 then [] else [.mk (iH acc rej h) (gB acc rej cs)]
def oH (acc rej:Int->Bool):aX->List aX
 | .mk i h f=>if lG acc rej h then [] else [.mk i (iH acc rej h) (dV acc rej f)]
def dV (acc rej:Int->Bool):List au->List au
 | []=>[]
 | x :: l=>mH acc rej x++dV acc rej l
def gH (acc rej:Int->Bool):List aU->List aU
 | []=>[]
 | x :: l=>nY acc rej x++gH acc rej l
def gB (acc rej:Int->Bool):List aX->List aX
 | []=>[]
 | x :: l=>oH acc rej x++gB acc rej l
end
variable {acc rej:Int->Bool}
theorem R4 (x:au):mH acc rej x=if lG acc rej x.head then [] else if x.kind=6 then [.mk x.kind x.code x.id x.text (iH acc rej x.head) (dV acc rej x.flow) x.rows] else if x.kind=7 then (if (gH acc rej x.rows).length=0 then [] else [.mk x.kind x.code x.id x.text (iH acc rej x.head) x.flow (gH acc rej x.rows)]) else [.mk x.kind x.code x.id x.text (iH acc rej x.head) x.flow x.rows]:=by cases x;rw [mH];rfl
theorem agy (x:aU):nY acc rej x=if lG acc rej x.head then [] else if (gB acc rej x.cells).length=0 then [] else [.mk (iH acc rej x.head) (gB acc rej x.cells)]:=by cases x;rw [nY];rfl
theorem agv (x:aX):oH acc rej x=if lG acc rej x.head then [] else [.mk x.id (iH acc rej x.head) (dV acc rej x.flow)]:=by cases x;rw [oH];rfl
theorem R5:∀ a b:List au,dV acc rej (a++b)=dV acc rej a++dV acc rej b
 | [],b=>by simp [dV]
 | x :: a,b=>by simp [dV,R5 a b]
theorem Ym:∀ a b:List aU,gH acc rej (a++b)=gH acc rej a++gH acc rej b
 | [],b=>by simp [gH]
 | x :: a,b=>by simp [gH,Ym a b]
theorem Yk:∀ a b:List aX,gB acc rej (a++b)=gB acc rej a++gB acc rej b
 | [],b=>by simp [gB]
 | x :: a,b=>by simp [gB,Yk a b]
theorem KP {l:List au} {k:Nat} (h:k < l.length):dV acc rej (l.take (k+1))=dV acc rej (l.take k)++mH acc rej l[k]:=by rw [kg h,R5];simp [dV]
theorem R6 {l:List aU} {k:Nat} (h:k < l.length):gH acc rej (l.take (k+1))=gH acc rej (l.take k)++nY acc rej l[k]:=by rw [kg h,Ym];simp [gH]
theorem R3 {l:List aX} {k:Nat} (h:k < l.length):gB acc rej (l.take (k+1))=gB acc rej (l.take k)++oH acc rej l[k]:=by rw [kg h,Yk];simp [gB]
theorem avj (x:au):(mH acc rej x).length<=1:=by rw [R4];(repeat' split) <;> simp
theorem avl (x:aU):(nY acc rej x).length<=1:=by rw [agy];(repeat' split) <;> simp
theorem avf (x:aX):(oH acc rej x).length<=1:=by rw [agv];split <;> simp
theorem agx:∀ l:List au,(dV acc rej l).length<=l.length
 | []=>by simp [dV]
 | x :: l=>by rw [dV,jM];have:=avj (acc:=acc) (rej:=rej) x;have:=agx l;simp only [lg];omega
theorem Yn:∀ l:List aU,(gH acc rej l).length<=l.length
 | []=>by simp [gH]
 | x :: l=>by rw [gH,jM];have:=avl (acc:=acc) (rej:=rej) x;have:=Yn l;simp only [lg];omega
theorem Yl:∀ l:List aX,(gB acc rej l).length<=l.length
 | []=>by simp [gB]
 | x :: l=>by rw [gB,jM];have:=avf (acc:=acc) (rej:=rej) x;have:=Yl l;simp only [lg];omega
theorem Yd:∀ l:List aL,fB (l.map aL.dat)=3*l.length
 | []=>by simp [fB]
 | p :: l=>by rw [fH,fB,Yd l];simp [aL.dat,cZ,ni];omega
theorem UK:∀ l:List gJ,fB (l.map gJ.dat)=3*l.length
 | []=>by simp [fB]
 | p :: l=>by rw [fH,fB,UK l];simp [gJ.dat,cZ,ni];omega
theorem XI:∀ l:List bZ,fB (l.map bZ.dat)=5*l.length
 | []=>by simp [fB]
 | p :: l=>by rw [fH,fB,XI l];simp [bZ.dat,cZ,ni];omega
theorem abz (props:List aL):∀ (L:List (Int × List bZ)) (s:List aL × List bZ),(ug acc rej props L s).1.length<=s.1.length+L.length∧(ug acc rej props L s).2.length<=s.2.length+(L.flatMap Prod.snd).length
 | [],s=>by simp [ug]
 | (k,l) :: r,s=>by
  rw [ug];obtain ⟨h1,h2⟩:=abz props r (vB s.1 k (lY acc rej props k l).2,s.2++(lY acc rej props k l).1);have h3:=ahO s.1 k (lY acc rej props k l).2;have h4:=Vz acc rej props k l;dsimp only at h1 h2;rw [jM] at h2
  simp only [lg,List.flatMap_cons,jM]
  omega
theorem aoS {f:Nat} {l:List bZ} (h:l.length<=f):(rC f l).length<=l.length:=by
 obtain ⟨h1,h2⟩:=Hl f l h
 have key:∀ (L:List (Int × List bZ)),(∀ q∈L,q.2≠[])->L.length<=(L.flatMap Prod.snd).length:=by
  intro L
  induction L with
  | nil=>intro _;exact lu _
  | cons q L ih =>
   intro hq;have:=ih fun x hx=>hq x (gV _ hx);have h3:=List.length_pos_iff.2 (hq q fE)
   simp only [lg,List.flatMap_cons,jM];omega
 have:=key _ h2
 rwa [h1] at this
theorem PX (h:dN):mW (iH acc rej h)<=2*mW h:=by
 rw [FR,FR,Yd,UK,XI,Yd,UK,XI];obtain ⟨h1,h2⟩:=abz (acc:=acc) (rej:=rej) h.props (rC h.marks.layers.length h.marks.layers) (h.props,[]);have h3:=aoS (eP h.marks.layers.length);rw [(Hl _ _ (eP _)).1] at h2;have h4:=List.length_filter_le (fun x:gJ=>!rej x.rev) h.marks.bJ
 simp only [iH,List.length_nil] at h1 h2 |-
 omega
mutual
theorem avp:∀ x:au,dx (mH acc rej x)<=2*(1+cZ x.dat)
 | .mk k c i tx h f r=>by
  have hf:=R8 f;have hr:=agA r;have hh:=PX (acc:=acc) (rej:=rej) h;have e:=Ac (.mk k c i tx h f r)
  simp only [au.text,au.head,au.flow,au.rows] at e
  have one:∀ y:au,dx [y]=1+cZ y.dat:=fun y=>by simp [dx,fB]
  rw [mH]
  split
  ·simp [dx,fB]
  split
  ·rw [one,Ac];simp only [au.text,au.head,au.flow,au.rows];omega
  split
  ·split
   ·simp [dx,fB]
   rw [one,Ac];simp only [au.text,au.head,au.flow,au.rows];omega
  rw [one,Ac];simp only [au.text,au.head,au.flow,au.rows];omega
theorem avq:∀ x:aU,iO (nY acc rej x)<=2*(1+cZ x.dat)
 | .mk h cs=>by
  have hc:=agz cs;have hh:=PX (acc:=acc) (rej:=rej) h;have e:=Es (.mk h cs)
  simp only [aU.head,aU.cells] at e
  rw [nY]
  split
  ·simp [iO,fB]
  split
  ·simp [iO,fB]
  simp only [iO,fH,rV,fB];rw [Es];simp only [aU.head,aU.cells];omega
theorem avo:∀ x:aX,jk (oH acc rej x)<=2*(1+cZ x.dat)
 | .mk i h f=>by
  have hf:=R8 f;have hh:=PX (acc:=acc) (rej:=rej) h;have e:=Er (.mk i h f)
  simp only [aX.head,aX.flow] at e
  rw [oH]
  split
  ·simp [jk,fB]
  simp only [jk,fH,rV,fB];rw [Er];simp only [aX.head,aX.flow];omega
theorem R8:∀ l:List au,dx (dV acc rej l)<=2*dx l
 | []=>by simp [dV,dx,fB]
 | x :: l=>by
  have h1:=avp x;have h2:=R8 l;rw [dV,OE,show dx (x :: l)=1+cZ x.dat+dx l by simp [dx,fB]];omega
theorem agA:∀ l:List aU,iO (gH acc rej l)<=2*iO l
 | []=>by simp [gH,iO,fB]
 | x :: l=>by
  have h1:=avq x;have h2:=agA l;rw [gH,show ∀ a b:List aU,iO (a++b)=iO a+iO b from fun a b=>by rw [iO,lW,KV],show iO (x :: l)=1+cZ x.dat+iO l by simp [iO,fB]];omega
theorem agz:∀ l:List aX,jk (gB acc rej l)<=2*jk l
 | []=>by simp [gB,jk,fB]
 | x :: l=>by
  have h1:=avo x;have h2:=agz l;rw [gB,show ∀ a b:List aX,jk (a++b)=jk a+jk b from fun a b=>by rw [jk,lW,KV],show jk (x :: l)=1+cZ x.dat+jk l by simp [jk,fB]];omega
end
end
theorem Io {G:GH} {α:Type} {f:α->Int} {A:List α} {B:Option Addr} {n c k:Nat} (hv:ak G (.sl 1 (A.map fun q=>[li (f q)])) (.slice B n c)) (hk:k < A.length):∃ b o,B=some ⟨b,o,none⟩∧aI G b (o+k)=some (vi (f A[k])):=by
 obtain ⟨b,o,cs,h1,h2,h3,h4⟩:=hv.at_ k [li (f A[k])] (by simp [hk])
 simp only [bD] at h4
 obtain ⟨_,_,rfl,⟨rfl,-⟩,rfl⟩:=h4;exact ⟨b,o,h1,by simpa using h3 0 _ rfl⟩
theorem ala:aQ 114:=aR func114 rfl
theorem alb:aQ 115:=aR func115 rfl
theorem Xh {p:Nat->Bool} (hp:∀ h,p h=true->p (h+1)=true):∀ (f i j:Nat),i<=j->j - i<=f->(∀ h,i<=h->h < mZ p f i j->p h=false)∧(mZ p f i j < j->p (mZ p f i j)=true)
 | 0,i,j,h1,h2=>⟨fun h a b=>by simp only [mZ] at b;omega,fun h=>by simp only [mZ] at h;omega⟩
 | f+1,i,j,h1,h2=>by
  have up:∀ a b,a<=b->p a=true->p b=true:=fun a b hab=>by
   induction hab with
   | refl=>exact fun h=>h
   | step _ ih=>exact fun h=>hp _ (ih h)
  rw [mZ]
  by_cases h:i < j
  ·rw [aD h]
   cases hm:p ((i+j) / 2)
   ·rw [av (by simp)];obtain ⟨r1,r2⟩:=Xh hp f ((i+j) / 2+1) j (by omega) (by omega);refine ⟨fun q a b=>?_,r2⟩
    by_cases hq:(i+j) / 2+1<=q
    ·exact r1 q hq b
    cases hpq:p q
    ·rfl
    rw [up q _ (by omega) hpq] at hm;cases hm
   rw [aD rfl];obtain ⟨r1,r2⟩:=Xh hp f i ((i+j) / 2) (by omega) (by omega);refine ⟨r1,fun _=>?_⟩
   by_cases hq:mZ p f i ((i+j) / 2) < (i+j) / 2
   ·exact r2 hq
   have:=QU (p:=p) f i ((i+j) / 2) (by omega);rw [show mZ p f i ((i+j) / 2)=(i+j) / 2 by omega];exact hm
  rw [av h];exact ⟨fun q a b=>by omega,fun q=>absurd q h⟩
theorem aaO {l:List Int} (hs:l.Pairwise (·<=·)) (t:Int):(∀ h (hh:h < l.length),h < gQ l t->l[h] < t)∧∀ hh:gQ l t < l.length,t<=l[gQ l t]:=by
 -- the test,as if the list went on with its last number
 let p:Nat->Bool:=fun h=>decide (¬ l.getD h 0 < t)
 let p':Nat->Bool:=fun h=>decide (l.length<=h∨¬ l.getD h 0 < t)
 have hpp:∀ (f i j:Nat),j<=l.length->i<=j->mZ p f i j=mZ p' f i j:=by
  intro f
  induction f with
  | zero=>intro i j _ _;rfl
  | succ f ih =>
   intro i j hj hij;rw [mZ,mZ]
   by_cases h:i < j
   ·rw [aD h,aD h]
    have e:p ((i+j) / 2)=p' ((i+j) / 2):=by
     show decide _=decide _
     exact decide_eq_decide.2 ⟨.inr,fun h=>h.resolve_left (by omega)⟩
    rw [e,ih _ _ (by omega) (by omega),ih _ _ hj (by omega)]
   rw [av h,av h]
 have hmono:∀ h,p' h=true->p' (h+1)=true:=fun h e=>by
  have e:=pI e;refine mM ?_
  by_cases h1:l.length<=h+1
  ·exact .inl h1
  refine .inr ?_;have e2:=e.resolve_left (by omega);have h3:=List.pairwise_iff_getElem.1 hs h (h+1) (by omega) (by omega) (Nat.lt_succ_self _);rw [List.getD_eq_getElem?_getD,eD (show h < l.length by omega)] at e2;rw [List.getD_eq_getElem?_getD,eD (show h+1 < l.length by omega)]
  simp only [Option.getD_some] at e2 |-
  omega
 obtain ⟨r1,r2⟩:=Xh hmono l.length 0 l.length (lu _) (by omega);have hn:gQ l t=mZ p' l.length 0 l.length:=hpp _ _ _ (eP _) (lu _);rw [<- hn] at r1 r2;refine ⟨fun h hh h1=>?_,fun hh=>?_⟩
 ·have h2:=of_decide_eq_false (r1 h (lu _) h1);rw [List.getD_eq_getElem?_getD,eD hh] at h2
  simp only [Option.getD_some] at h2
  omega
 have h2:=(pI (r2 hh)).resolve_left (by omega);rw [List.getD_eq_getElem?_getD,eD hh] at h2
 simp only [Option.getD_some] at h2
 omega
theorem J7 {l:List Int} (hs:l.Pairwise (·<=·)) (t:Int):nT l t=decide (t∈l):=by
 rw [tY,pF]
 constructor
 ·intro h;exact lV (pI h)
 intro h;obtain ⟨k,hk,rfl⟩:=List.getElem_of_mem h;obtain ⟨r1,r2⟩:=aaO hs l[k]
 have hkn:gQ l l[k]<=k:=by
  by_cases h:gQ l l[k]<=k
  ·exact h
  have:=r1 k hk (by omega);omega
 have h2:=r2 (by omega)
 have h3:l[gQ l l[k]]<=l[k]:=by
  rcases Nat.lt_or_eq_of_le hkn with h|h
  ·exact List.pairwise_iff_getElem.1 hs _ _ (by omega) hk h
  exact Int.le_of_eq (getElem_congr_idx h)
 exact mM (by rw [eD (by omega:gQ l l[k] < l.length)];exact cO some (by omega))
theorem asF (G:GH) (w0:World) (hG:Hold G w0) (x y:Int):Calls prog 114 #[vi x,vi y] w0 (bE w0 G fun u G'=>u=.bool (decide (x < y))∧G=G'):=by
 refine eN [(0,_),(1,_)] func114 rfl ntmps114 rfl rfl hG ?_;intro a H;refine kP H (SR fun _ K1=>aj K1 rfl (SR fun _ K2=>Rm rfl ?_));clear H K1;intro a H;refine s_call UZ H wn rfl (Xt _ _ H.ro x) rfl ?_;clear H;rintro v6 G6 a w ⟨rfl,rfl⟩ H8 H;refine kH H (Rm rfl (Sp 7 rfl ?_ ?_)) <;> clear H
 ·intro h7 a H
  cases h7
 intro h7 a H
 refine kH H (aM h7 rfl (Pf h7 rfl (Rm rfl ?_)));clear H;intro a H;(iterate 2 refine FK H (wg H rfl rfl rfl) rfl rfl ?_;clear H;intro a H);refine FI H (wg H rfl rfl rfl) rfl rfl rfl rfl ?_;clear H;intro a H;exact kH H (Pf rfl rfl (aj K2 rfl (LR results114 rfl fun H=>H.rt ⟨rfl,rfl⟩)))
theorem asn (G:GH) (w0:World) (hG:Hold G w0) (x:Int):Calls prog 115 #[vi x] w0 (bE w0 G fun u G'=>u=.bool false∧G=G'):=by
 refine eN [(0,_)] func115 rfl ntmps115 rfl rfl hG ?_;intro a H;exact kP H (SR fun _ K1=>aj K1 rfl (SR fun _ K2=>Rm rfl (Rm rfl (Rc rfl (aj K2 rfl (LR results115 rfl fun H=>H.rt ⟨by simp,rfl⟩))))))
theorem Ue {p:Prop} (h:p:=by
 first
  | exact H.rt ⟨by rw [adw heq.symm (by omega),<- heq];simp_all [abm],rfl⟩
  | exact H.rt ⟨by rw [adx heq.symm (by omega),<- heq],rfl⟩):p:=h
theorem aaN (G:GH) (w0:World) (hG:Hold G w0) (l:List Int) (t:Int) (v:ah) (hv:ak G (.sl 1 (l.map fun k=>[li k])) v) (hl:l.length<=4294967296) :
  Calls prog 62 #[v,vi t] w0 (bE w0 G fun u G'=>u=.tuple #[vi (gQ l t),.bool (nT l t)]∧G=G'):=by
 obtain ⟨A,c,rfl,hc1,hc2,-⟩:=hv.slice;rw [bQ] at *;obtain ⟨p,hp⟩:∃ p:Nat->Bool,p=fun h=>decide (¬ l.getD h 0 < t):=⟨_,rfl⟩
 have hbs:gQ l t=mZ p l.length 0 l.length:=by rw [hp,gQ]
 refine eN [(0,_),(1,_)] func62 rfl ntmps62 rfl rfl hG ?_;intro a H;refine kP H (SR fun _ K1=>Ra rfl (aj K1 rfl (SR fun _ K2=>Rm rfl (Rl mV rfl (aj K2 rfl (SR fun _ K3=>Rm rfl (Ra rfl (aj K3 rfl (SQ fun _ K4=>SB ?_)))))))));clear H K1 K2 K3;intro a H;skip;refine fF (ι:=Nat × Nat × Nat) (Tc:=[(0,_),(1,_),(6,_)]) (Lc:=[]) (fun gh=>[(7,vi gh.1),(8,vi gh.2.1)]) (fun gh=>[]) (fun gh=>G) (fun gh=>gh.1<=gh.2.1∧gh.2.1<=l.length∧gh.2.1 - gh.1<=gh.2.2∧mZ p gh.2.2 gh.1 gh.2.1=gQ l t) (fun gh=>gh.2.1 - gh.1) ((0,l.length,l.length)) (by exact H.sub ⟨rfl,rfl,rfl,rfl,rfl,ay⟩) ?_ ?_
 ·exact ⟨lu _,eP _,Nat.sub_le _ _,hbs.symm⟩
 clear H;rintro ⟨i,j,f⟩ a w hI H;dsimp only at hI H;obtain ⟨hij,hj,hf1,heq⟩:=hI;dsimp only [lca,bM] at H;refine kP H (SQ fun _ K5=>SR fun _ K6=>Rm rfl (Rm rfl (Rc rfl (Kz K6 (Cd rfl ?_ ?_))))) <;> clear H K6
 ·intro jN a H
  try have tF:=dT jN
  have hlt:i < j:=by omega
  rw [Xi hf1 hlt] at heq;obtain ⟨m,hm⟩:∃ m,m=(i+j) / 2:=⟨_,rfl⟩;rw [<- hm] at heq
  have hml:m < l.length:=by omega
  obtain ⟨b,o,rfl,hrow⟩:=Io (f:=fun q=>q) hv hml
  replace hrow:aI G b (o+m*1)=some (vi l[m]):=by rw [Nat.mul_one];exact hrow
  have hpm:p m=decide (¬ l[m] < t):=by rw [hp];simp [List.getD,hml]
  rw [hpm] at heq;refine kP H (Kc K5 (SB (SR fun _ K7=>Rm rfl (Rm rfl (Rd rfl ?_)))));clear H K5;intro a H;rw [show ((i:Int)+(j:Int))=((i+j:Nat):Int) by push_cast;rfl] at H;refine CP ((i+j:Nat):Int) KZ mJ H wn rfl (Xj (by omega) (by omega)) rfl ?_;clear H;intro a H;refine Sl _ H wn rfl rfl rfl (by decide) rfl ?_;clear H;intro a H;rw [Xg,<- hm] at H;refine CP (m:Int) mJ KZ H wn rfl (Im (by omega) (by omega)) rfl ?_;clear H;intro a H;refine kH H (aj K7 rfl (SR fun _ K8=>Rm rfl (Rm rfl (Ri mV aG rfl rfl (Rg aG rfl (by assumption) ?_)))));clear H K7;intro a H;refine kH H (Rm rfl ?_);clear H;intro a H;refine s_call ala H wn rfl (asF _ _ H.ro l[m] t) rfl ?_;clear H;rintro v27 Zt a w ⟨rfl,rfl⟩ adT H;refine K8 _ _ ?_;clear K8;refine jr H rfl ?_ ?_
  ·intro h27
   try have p27:=dT h27
   rw [av (by simpa using p27)] at heq;refine kP H (SC (Rm rfl (Rd rfl (Ra rfl ?_))));clear H;intro a H;refine aB ?_;refine dJ ((m+1,j,f - 1)) (by exact H.sub ⟨rfl,rfl,rfl,rfl,rfl,ay⟩) ?_
   (try dsimp only);exact ⟨by omega,hj,by omega,heq⟩
  intro h27
  try have p27:=dF h27
  rw [aD (by simpa using p27)] at heq;refine kP H (SC (Rm rfl (Ra rfl ?_)));clear H;intro a H;refine aB ?_;refine dJ ((i,m,f - 1)) (by exact H.sub ⟨rfl,rfl,rfl,rfl,rfl,ay⟩) ?_
  (try dsimp only);exact ⟨by omega,by omega,by omega,heq⟩
 intro jN a H
 try have tF:=dF jN
 refine eu ?_;refine K4 _ _ ?_;clear K4;refine bR (fun _ K9=>?_);rw [Xf (by omega)] at heq;refine kP H (SC (Rm rfl (Rm rfl (Rm rfl (Rc rfl (Rm rfl (Sp 35 rfl ?_ ?_))))))) <;> clear H
 ·intro iC a H
  try have p35:=dT iC
  have hil:i < l.length:=by omega
  obtain ⟨b,o,rfl,hrow⟩:=Io (f:=fun q=>q) hv hil
  replace hrow:aI G b (o+i*1)=some (vi l[i]):=by rw [Nat.mul_one];exact hrow
  refine kH H (YM iC rfl (YM iC rfl (YI mV aG iC rfl rfl (YR aG iC rfl (by assumption) ?_))));clear H;intro a H;refine kH H (YM iC rfl (YC iC rfl (YM iC rfl (Sp 42 rfl ?_ ?_)))) <;> clear H
  ·intro kI a H
   try have p42:=dT kI
   refine kH H (aM kI rfl (aM kI rfl (Ku rfl (Ku rfl (Ks kI rfl (PT iC kI rfl (Pt iC rfl (Ra rfl (bG K9 rfl ?_)))))))));clear H K9;intro a H;refine dw ?_;refine (fJ H results62 (.cons (bB H rfl) (.cons (bB H rfl) .nil)) ?_).1
   exact Ue
  intro kI a H
  try have p42:=dF kI
  refine kH H (YM kI rfl (YM kI rfl (YI mV aG kI rfl rfl (YR aG kI rfl (by assumption) ?_))));clear H;intro a H;refine s_call alb H (wg H rfl rfl kI) rfl (asn _ _ H.ro l[i]) rfl ?_;clear H;rintro v47 Zy a w ⟨rfl,rfl⟩ aza H;refine kH H (YM kI rfl (Sp 48 rfl ?_ ?_)) <;> clear H
  ·intro h48 a H
   cases h48
  intro h48 a H
  try have p48:=dF h48
  refine kH H (aJ h48 rfl (PF kI h48 rfl (PF iC kI rfl (Pt iC rfl (Ra rfl (bG K9 rfl ?_))))));clear H K9;intro a H;refine dw ?_;refine (fJ H results62 (.cons (bB H rfl) (.cons (bB H rfl) .nil)) ?_).1
  exact Ue
 intro iC a H
 try have p35:=dF iC
 refine kH H (aM iC rfl (aJ iC rfl (aJ iC rfl (Ku rfl (Ku rfl (Ku rfl (Ku rfl (Ku rfl (Ku rfl (Ku rfl (Ku rfl (Ku rfl (Ks iC rfl (Pf iC rfl (Ra rfl (bG K9 rfl ?_))))))))))))))));clear H K9;intro a H;refine dw ?_;refine (fJ H results62 (.cons (bB H rfl) (.cons (bB H rfl) .nil)) ?_).1
 exact Ue
theorem amg:aQ 211:=aR func211 rfl
theorem acv:aQ 62:=aR func62 rfl
theorem tL:Ty prog 242 2 16 [.int .i64 0,.bool false] true:=⟨by kernel_rfl,by kernel_rfl⟩
theorem agZ:qR prog 242 [(0,1),(1,1)] [.int .i64 0,.bool false]:=⟨by kernel_rfl,by kernel_rfl⟩
theorem amh:aQ 213:=aR func213 rfl
theorem acM:dX prog 242 0 0:=⟨by kernel_rfl⟩
theorem Vl:dX prog 242 1 1:=⟨by kernel_rfl⟩
theorem ami:aQ 214:=aR func214 rfl
theorem amj:aQ 215:=aR func215 rfl
theorem arZ (G:GH) (w0:World) (hG:Hold G w0) (l:List gJ) (p:gJ->Bool) (v fv:ah) (hv:ak G (.sl 2 (l.map gJ.dat)) v) (hf:∀ x∈l,uJ fv G x.dat (p x)) :
  Calls prog 211 #[v,fv] w0 (bE w0 G fun u G'=>u=vi (oG (l.findIdx? p))):=by
 obtain ⟨A,c,rfl,hc1,hc2,hg⟩:=hv.slice;have hml:maxLen=9223372036854775807:=rfl;rw [bQ] at *;refine eN [(0,_),(1,_)] func211 rfl ntmps211 rfl rfl hG ?_;intro a H;refine kP H (SR fun _ K1=>aj K1 rfl (SQ fun _ K2=>SR fun _ K3=>Rm rfl (Rl oJ rfl (Rm rfl (Kz K3 (SB ?_))))));clear H K1 K3;intro a H;skip;refine fF (ι:=Nat × GH) (Tc:=[(0,_),(1,_),(7,_)]) (Lc:=[]) (fun gh=>[(8,vi gh.1)]) (fun gh=>[]) (fun gh=>gh.2) (fun gh=>gh.1<=l.length∧(l.take gh.1).findIdx? p=none∧(∀ b o,G b=some o->gh.2 b=some o)) (fun gh=>l.length - gh.1) ((0,G)) (by exact H.sub ⟨rfl,rfl,rfl,rfl,ay⟩) ?_ ?_
 ·exact rW
 clear H;rintro ⟨k,g⟩ a w hI H;dsimp only at hI H;obtain ⟨hk,hno,hgm⟩:=hI;dsimp only [lca,bM] at H;refine kP H (SR fun _ K4=>Rc rfl (Kz K4 (SQ fun _ K5=>Cd rfl ?_ ?_))) <;> clear H K4
 ·intro h9 a H
  try have p9:=dT h9
  have hk2:k < l.length:=by omega
  obtain ⟨b,o,cs,rfl,hcl,hrow,hrep⟩:=hg k l[k].dat (by simp [hk2]);obtain rfl:=Ms hrep;replace hrow:=fun j u hj=>aF hgm (hrow j u hj);refine kP H (Kc K5 (SQ fun _ K6=>SB (SR fun _ K7=>Rm rfl (aj K7 rfl (SR fun _ K8=>Rm rfl (Rm rfl (Rm rfl (Ri oJ oI rfl rfl ?_))))))));clear H K5 K7;intro a H;refine aV oI (cs:=[_,_]) H wn rfl rfl (fun j v hj=>H.hp.aI (hrow j v hj)) rfl ?_;clear H;intro a H;refine jJ H wn rfl rfl (hf _ (lC hk2) _ _ _ hgm H.ro (hrep.mono hgm)) rfl ?_;clear H;rintro v16 ql a w rfl nA H;refine K8 _ _ ?_;clear K8;refine jr H rfl ?_ ?_
  ·intro h16
   try have p16:=dT h16
   refine kP H (SR fun _ K9=>Rm rfl (aj K9 rfl ?_));clear H K9;intro a H;refine lr H results211 rfl ?_
   exact xJ
  intro h16
  try have p16:=dF h16
  refine kP H (Kc K6 (SC (Rd rfl (Rm rfl ?_))));clear H K6;intro a H;refine aB ?_;refine dJ ((k+1,ql)) (by exact H.sub ⟨rfl,rfl,rfl,rfl,ay⟩) ?_
  (try dsimp only);exact ED
 intro h9 a H
 try have p9:=dF h9
 refine eu ?_;refine K2 _ _ ?_;clear K2;refine kP H (SR fun _ aS=>aj aS rfl ?_);clear H aS;intro a H;refine lr H results211 rfl ?_
 exact xJ
theorem abt (G:GH) (w0:World) (hG:Hold G w0) (l:List gJ) (p:gJ->Bool) (v fv:ah) (hv:ak G (.sl 2 (l.map gJ.dat)) v) (hf:∀ x∈l,uJ fv G x.dat (p x)) :
  Calls prog 157 #[v,fv] w0 (bE w0 G fun u G'=>u=.bool (l.findIdx? p).isSome):=by
 refine eN [(0,_),(1,_)] func157 rfl ntmps157 rfl rfl hG ?_;intro a H;refine kP H (SR fun _ K1=>aj K1 rfl (SR fun _ K2=>Rm rfl (Rm rfl ?_)));clear H K1;intro a H;refine s_call amg H wn rfl (arZ _ _ H.ro l p _ _ hv hf) rfl ?_;clear H;rintro v7 G7 a w rfl yR H;refine kH H (Rc rfl (aj K2 rfl ?_));clear H K2;intro a H;refine lr H results157 rfl ?_
 exact H.rt (by cases h:l.findIdx? p <;> simp [oG])
theorem XO (G:GH) (w0:World) (hG:Hold G w0) (l:List Int) (t:Int) (v:ah) (hv:ak G (.sl 1 (l.map fun k=>[li k])) v) (hl:l.length<=4294967296) :
  Calls prog 76 #[v,vi t] w0 (bE w0 G fun u G'=>u=.bool (nT l t)):=by
 refine eN [(0,_),(1,_)] func76 rfl ntmps76 rfl rfl hG ?_;intro a H;refine kP H (SR fun _ K1=>aj K1 rfl (SR fun _ K2=>Rm rfl (Rm rfl ?_)));clear H K1;intro a H;refine s_call acv H wn rfl (aaN _ _ H.ro l t _ hv hl) rfl ?_;clear H;rintro v10 BD a w ⟨rfl,rfl⟩ DT H;refine kH H (Rm rfl ?_);clear H;intro a H;(iterate 2 refine mh H wn rfl rfl rfl ?_;clear H;intro a H);exact kH H (Ra rfl (aj K2 rfl (SR fun _ K3=>Rm rfl (aj K3 rfl (LR results76 rfl fun H=>H.rt rfl)))))
abbrev IU (s:Int × Bool):ah:=.agg #[vi s.1,.bool s.2]
theorem aiP (G:GH) (w0:World) (hG:Hold G w0) (y:bZ):Calls prog 161 #[.agg y.cells.toArray] w0 (bE w0 G fun u G'=>u=IU (y.before,y.had)):=by
 refine eN [(0,_)] func161 rfl ntmps161 rfl rfl hG ?_;intro a H;refine dz (fun _ K1=>?_);refine eB (cs:=[_,_,_,_]) H wn rfl rfl rfl ?_;clear H;intro b1 a w hb1 H;refine dP tL H wn rfl ?_;clear H;intro b2 a w hb2 H;refine K1 _ _ ?_;clear K1;refine kP H (SR fun _ K2=>bO EM aG 1 rfl rfl (bO Qa C8 1 rfl rfl ?_));clear H;intro a H;refine jF agZ [_,_] H wn rfl rfl rfl rfl ?_;clear H;intro a H;refine bK tL 0 (vs:=[_,_]) H wn rfl ?_;clear H;intro w H;refine K2 _ _ ?_;clear K2;refine dw ?_;refine (leave1 H results161 (.cons (mI tL (cs:=[_,_]) H rfl rfl (H.hp.cB 0 rfl rfl)) .nil) ?_).1;exact xK
theorem auj (G:GH) (w0:World) (hG:Hold G w0) (h:dN) (p d l:ah) (hh:jq G h p d l) (k:Int) (hl:h.props.length<=4294967296):Calls prog 162 #[sj h p d l,vi k] w0 (bE w0 G fun u G'=>u=IU (jE h.props k)):=by
 obtain ⟨pA,pn,pc,rfl⟩:=hh.props.form;obtain ⟨dA,dn,dc,rfl⟩:=hh.bJ.form;obtain ⟨lA,ln,lc,rfl⟩:=hh.layers.form;refine eN [(0,_),(1,_)] func162 rfl ntmps162 rfl rfl hG ?_;intro a H;refine dz (fun _ K1=>?_);refine eB (cs:=[_,_,_,_,_]) H wn rfl rfl rfl ?_;clear H;intro b2 a w hb2 H;refine dP tL H wn rfl ?_;clear H;intro b4 a w hb4 H;refine K1 _ _ ?_;clear K1;refine kP H (SR fun _ K2=>bO yL tK 1 rfl rfl (Rm rfl ?_));clear H;intro a H;refine s_call amh H wn rfl (aoQ _ _ H.ro h.props k _ hh.props hl) rfl ?_;clear H;rintro v11 uG a w rfl DU H;refine kH H (Rm rfl ?_);clear H;intro a H;(iterate 2 refine mh H wn rfl rfl rfl ?_;clear H;intro a H);refine kH H (Ra rfl (aj K2 rfl (SR fun _ K3=>Rm rfl (Rm rfl ?_))));clear H K2;intro a H;refine jF agZ [_,_] H wn rfl rfl rfl rfl ?_;clear H;intro a H;refine bK tL 0 (vs:=[_,_]) H wn rfl ?_;clear H;intro w H;refine K3 _ _ ?_;clear K3;refine dw ?_;refine (leave1 H results162 (.cons (mI tL (cs:=[_,_]) H rfl rfl (H.hp.cB 0 rfl rfl)) .nil) ?_).1;exact xK
theorem GA {p:Prop} (h:p:=by
 exact GQ HT Hb hG hv (fun _ _ _ _ _ h=>h) H rfl):p:=h
theorem aoN (G:GH) (w0:World) (hG:Hold G w0) (y:bZ) (s:Int × Bool):Calls prog 163 #[.agg y.cells.toArray,IU s] w0 (bE w0 G fun u G'=>u=.agg (bZ.cells ⟨y.rev,y.key,s.1,s.2⟩).toArray):=by
 refine eN [(0,_),(1,_)] func163 rfl ntmps163 rfl rfl hG ?_;intro a H;refine dz (fun _ K1=>?_);refine eB (cs:=[_,_,_,_]) H wn rfl rfl rfl ?_;clear H;intro b2 a w hb2 H;refine eB (cs:=[_,_]) H wn rfl rfl rfl ?_;clear H;intro b3 a w hb3 H;refine dP jB H wn rfl ?_;clear H;intro b4 a w hb4 H;refine K1 _ _ ?_;clear K1;refine bR (fun _ K2=>?_);refine ajc (hmx) [[],[0],[],[2],[0,1],[0,1,4],ra 0 6,ra 0 7] [6,7] (by kernel_rfl) (by kernel_rfl) 5 (by decide) (fun (dh:Nat) (v:ah) (G:GH)=>match dh with|0=>v=(aK b3 0)|1=>v=vi s.1|2=>v=(aK b3 1)|3=>v=.bool s.2|4=>v=(aK b2 2)|_=>True) 2 ((b2,.cells #[vi y.rev,vi y.key,vi s.1,.bool y.had] 161 (0,0))) H ?_ ?_ ?_ ?_ (by kernel_rfl)
 ·clear H;refine aC ?_ ?_ ?_ ?_ (aC ?_ ?_ (bU rfl) (bU rfl) dH)
  ·intro aT a w G1 _ _ aP hc hG HT hv;have H:=HT;clear aP;have Hb:=H.full;have H:=Hb;clear hc;refine kH H (Rf acM rfl ?_);clear H;intro a H;refine aB ⟨rfl,?_⟩;exact GA
  ·intro aT a w G1 _ _ aP hc hG HT hv;have H:=HT;clear aP;have H:=H.aN (hv 0 5 (hc 0 (by decide)) rfl) rfl;have Hb:=H.full;have H:=Hb;clear hc;refine kH H (Ro aG 1 rfl ?_);clear H;intro a H;refine aB ⟨rfl,?_⟩;exact GA
  ·intro aT a w G1 _ _ aP hc hG HT hv;have H:=HT;clear aP;have Hb:=H.full;have H:=Hb;clear hc;refine kH H (Rf Vl rfl ?_);clear H;intro a H;refine aB ⟨rfl,?_⟩;exact GA
  ·intro aT a w G1 _ _ aP hc hG HT hv;have H:=HT;clear aP;have H:=H.aN (hv 2 7 (hc 2 (by decide)) rfl) rfl;have Hb:=H.full;have H:=Hb;clear hc;refine kH H (Ro C8 1 rfl ?_);clear H;intro a H;refine aB ⟨rfl,?_⟩;exact GA
  ·intro aT a w G1 _ _ aP hc hG HT hv;have H:=HT;clear aP;have Hb:=H.full;have H:=Hb;clear hc;refine kH H (Rf EM rfl ?_);clear H;intro a H;refine aB ⟨rfl,?_⟩;exact GA
  intro _ _ _ _ _ hB;exact fV
 ·clear H;intro o_ aT a w G1 oN _ hc hG HT hv;obtain rfl:_=o_:=Option.some.inj oN;clear oN;have H:=HT;have H:=H.aN (hv 4 9 (hc 4 (by decide)) rfl) rfl;have H:=H.aN (hv 1 6 (hc 1 (by decide)) rfl) rfl;have Hb:=H.full;have H:=Hb;clear hc;refine bK aG 2 (vs:=[_]) H wn rfl ?_;clear H;intro w H;refine aB ⟨rfl,?_⟩;exact abO rfl HT hG hv H
 ·clear H;refine aC (bU rfl) (bU rfl) ?_ ?_ (aC (bU rfl) ?_ (bU rfl) (bU rfl) dH)
  ·intro aT a w G1 _ _ aP hc hG HT hv;have H:=HT;dsimp only [List.set,List.append,lca,bM] at H;clear aP;have Hb:=H.full;have H:=Hb;clear hc;refine kH H (Rf Vl rfl ?_);clear H;intro a H;refine aB ⟨rfl,?_⟩;exact GA
  ·intro aT a w G1 _ _ aP hc hG HT hv;have H:=HT;dsimp only [List.set,List.append,lca,bM] at H;clear aP;have H:=H.aN (hv 2 7 (hc 2 (by decide)) rfl) rfl;have Hb:=H.full;have H:=Hb;clear hc;refine kH H (Ro C8 1 rfl ?_);clear H;intro a H;refine aB ⟨rfl,?_⟩;exact GA
  intro _ _ _ _ _ hB;exact fV
 clear H;intro a w G jy H hv;dsimp only [List.set,List.append,lca,bM] at H;have H:=H.aN (hv 3 8 rfl rfl) rfl;clear hv;refine kH H (Rf Qa rfl ?_);clear H;intro a H;refine bK C8 2 (vs:=[_]) H wn rfl ?_;clear H;intro w H;refine aB ⟨rfl,?_⟩;refine K2 _ _ ?_;clear K2;refine dz (fun _ K3=>?_);refine aV jB (cs:=[_,_,_,_]) H wn rfl rfl (H.hp.cB 2 rfl rfl) rfl ?_;clear H;intro a H;refine bK jB 0 (vs:=[_,_,_,_]) H wn rfl ?_;clear H;intro w H;refine K3 _ _ ?_;clear K3;refine dw ?_;refine (leave1 H results163 (.cons (mI jB (cs:=[_,_,_,_]) H rfl rfl (H.hp.cB 0 rfl rfl)) .nil) ?_).1;exact xK
theorem axR (G:GH) (w0:World) (hG:Hold G w0) (ps:List aL) (io mo:Int) (p:ah) (dA lA:Option Addr) (dn dc ln lc:Nat) (hp:ak G (.sl 2 (ps.map aL.dat)) p) (k:Int) (s:Int × Bool) (hl:ps.length<=4294967295) :
  Calls prog 164 #[.agg #[p,vi io,vi mo,.slice dA dn dc,.slice lA ln lc],vi k,IU s] w0 (bE w0 G fun u G'=>∃ p',u=.agg #[p',vi io,vi mo,.slice dA dn dc,.slice lA ln lc]∧ak G' (.sl 2 ((vB ps k s).map aL.dat)) p'):=by
 obtain ⟨pA,pn,pc,rfl⟩:=hp.form;refine eN [(0,_),(1,_),(2,_)] func164 rfl ntmps164 rfl rfl hG ?_;intro a H;refine dz (fun _ K1=>?_);refine eB (cs:=[_,_,_,_,_]) H wn rfl rfl rfl ?_;clear H;intro b3 a w hb3 H;refine eB (cs:=[_,_]) H wn rfl rfl rfl ?_;clear H;intro b5 a w hb5 H;refine dP dW H wn rfl ?_;clear H;intro b6 a w hb6 H;refine K1 _ _ ?_;clear K1;refine kP H (SQ fun _ K2=>SR fun _ K3=>bO Vl C8 1 rfl rfl (Kz K3 (Cd rfl ?_ ?_))) <;> clear H K3
 ·intro h8 a H
  try have p8:=dT h8
  refine kP H (SC (bO yL tK 2 rfl rfl (Rm rfl (bO acM aG 1 rfl rfl ?_))));clear H;intro a H;refine s_call ami H wn rfl (awr _ _ H.ro ps k s.1 _ hp hl) rfl ?_;clear H;rintro v14 Dc a w uw DV H;obtain ⟨S9,n14,c14,rfl⟩:=uw.form;refine kH H (Rf yL rfl ?_);clear H;intro a H;refine bK tK 2 (vs:=[_]) H wn rfl ?_;clear H;intro w H;refine aB ?_;refine K2 _ _ ?_;clear K2;refine dz (fun _ K4=>?_);refine aV dW (cs:=[_,_,_,_,_]) H wn rfl rfl (H.hp.cB 2 rfl rfl) rfl ?_;clear H;intro a H;refine bK dW 0 (vs:=[_,_,_,_,_]) H wn rfl ?_;clear H;intro w H;refine K4 _ _ ?_;clear K4;refine dw ?_;refine (leave1 H results164 (.cons (mI dW (cs:=[_,_,_,_,_]) H rfl rfl (H.hp.cB 0 rfl rfl)) .nil) ?_).1;exact H.rt ⟨_,rfl,by rw [vB,aD (by assumption)];exact uw⟩
 intro h8 a H
 try have p8:=dF h8
 refine kP H (SC (bO yL tK 2 rfl rfl (Rm rfl ?_)));clear H;intro a H;refine s_call amj H wn rfl (ajS _ _ H.ro ps k _ hp hl) rfl ?_;clear H;rintro v19 I8 a w Ng tu H;obtain ⟨I4,n19,c19,rfl⟩:=Ng.form;refine kH H (Rf yL rfl ?_);clear H;intro a H;refine bK tK 2 (vs:=[_]) H wn rfl ?_;clear H;intro w H;refine aB ?_;refine K2 _ _ ?_;clear K2;refine dz (fun _ K5=>?_);refine aV dW (cs:=[_,_,_,_,_]) H wn rfl rfl (H.hp.cB 2 rfl rfl) rfl ?_;clear H;intro a H;refine bK dW 0 (vs:=[_,_,_,_,_]) H wn rfl ?_;clear H;intro w H;refine K5 _ _ ?_;clear K5;refine dw ?_;refine (leave1 H results164 (.cons (mI dW (cs:=[_,_,_,_,_]) H rfl rfl (H.hp.cB 0 rfl rfl)) .nil) ?_).1;exact H.rt ⟨_,rfl,by rw [vB,av (by simp_all)];exact Ng⟩
end Go.Proofs.YtdiflmikikiedaaGreat
